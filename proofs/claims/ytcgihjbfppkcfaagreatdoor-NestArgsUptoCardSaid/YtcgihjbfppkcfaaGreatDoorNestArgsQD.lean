/- Own texts for NestArgsQ, cut and joined by a program. -/
import Derived.Test.YtcgihjbfppkcfaaGreatDoorNestArgsQC
set_option linter.all false
namespace Go.Proofs.YtcgihjbfppkcfaaGreatDoor
noncomputable section
variable {o : Oper}
open Go.Lib
abbrev afW{R:Type}(fr:Fr)(KP:AV->aC->Option R)(T:aB)(v:AV)(st:aC):Option R:=aD (EU T fr st) (KP v (BK T st)) none
def FH{R:Type}(X:Cx)(tb:List aA)(tp:List bY)(KP:Bool->AV->aC->Option R)(ops:zj)(fr:Fr):zj->aB->aC->cL R->Option R
 |[],T,st,K=>aD (EU T fr st) (K (BK T st)) none
 |o::l,T,st,K=>match agE tp T fr st o (λb=>afW fr (KP b) T) (λst=>FH X tb tp KP ops fr l T st K) with
  |some q=>q
  |none=>stepG ops T fr st o λT g=>opD X tb T fr st g o λst=>FH X tb tp KP ops fr l T st K
section
variable {R : Type} {X : Cx} {tb : List aA} {tp : List bY} {KP : Bool -> AV -> aC -> Option R} {b : Bool} {σ : ze} {Q : bh} {D : x3} {ops : zj} {r : R} {fr : Fr} {Φ : Ctx} {K : cL R}
theorem aeB{T:aB}{v:AV}{st:aC}{ρ:ay}{w:World}(d:FT T fr)(h:afW fr (KP b) T v st=some r)(i:Sat (ab ρ T st.G++(ab ρ T (JC b fr.H)++Φ)) w):
  ∃st',KP b v st'=some r/\st'.c=st.c/\lM (az ρ [] st'.E fr.F) (az ρ T st.E fr.F)/\Sat (ab ρ [] st'.G++(ab ρ [] (JC b fr.H)++Φ)) w:=by
 unfold afW at h;obtain ⟨e,k⟩:=aI h;have j:EU T ⟨fr.F,JC b fr.H,fr.n⟩ st=true:=by unfold EU at e ⊢;exact e
 obtain ⟨k1,g,f⟩:=KM (fr:=⟨fr.F,JC b fr.H,fr.n⟩) j ⟨d.1,λr a=>d.2 r (by
  cases b
  .exact a
  .exact (uK a).1)⟩ i
 exact ⟨_,k,k1,g,f⟩
theorem KC{rest:zj}(g:∀it∈X.Γ,it∈Φ)(m:∀e∈tb,e.Ok X.P X.Γ)(k:∀e∈tp,e.Ok X.P X.Γ):∀{l:zj} {T:aB} {st:aC} {ρ:ay} {w:World},gq T st.E fr.F->sI ops fr.n T->FT T fr->Sat (ab ρ T st.G++(ab ρ T fr.H++Φ)) w->
  FH X tb tp KP ops fr l T st K=some r->
  (∀st' ρ' w',aS st.c ρ ρ'->st.c<=st'.c->K st'=some r->Sat (ab ρ' [] st'.G++(ab ρ' [] fr.H++Φ)) w'->WL X.P σ ops.toArray Q fr.n D rest (az ρ' [] st'.E fr.F) w')->
  (∀b v st' ρ' w',aS st.c ρ ρ'->st.c<=st'.c->KP b v st'=some r->Sat (ab ρ' [] st'.G++(ab ρ' [] (JC b fr.H)++Φ)) w'->At Q (.panic (kh (v.val ρ'))) fr.n D (az ρ' [] st'.E fr.F) w')->
  WL X.P σ ops.toArray Q fr.n D (l++rest) (az ρ T st.E fr.F) w
 |[],T,st,ρ,w,h1,h2,p,hs,h,next,pnext=>by
  unfold FH at h;obtain ⟨S,R⟩:=aI h;obtain ⟨k1,L,B⟩:=KM S p hs;exact λa p hd=>next _ ρ w .refl (by rw [k1];exact cK _) R B a (p.rz L) hd
 |o::l,T,st,ρ,w,h1,h2,p,hs,h,next,pnext=>by
  unfold FH at h;split at h
  .rename_i q O;subst h;refine aok h1 hs g k O (λst' ρ' w' A y i I W C=>?_) (λz v st' ρ' w' A M J V U y=>?_)
   .exact KC g m k A h2 p C I (λd f j x u t s=>next d f j (y.trans x i) (dx i u) t s) (λz v d f j x u t s=>pnext z v d f j (y.trans x i) (dx i u) t s)
   .obtain ⟨d,k1,L,N,B⟩:=aeB p J y;exact (pnext z v d ρ' w' A (by omega) k1 B).rz _ N
  .exact aaF (K:=λT st=>FH X tb tp KP ops fr l T st K) h1 h2 rfl (λ_ h=>h) p hs g m h (λT' st' ρ' w' A M J y i I W C=>
    KC g m k A M J C I (λd f j x u t s=>next d f j (y.trans x i) (dx i u) t s) (λz v d f j x u t s=>pnext z v d f j (y.trans x i) (dx i u) t s))
theorem adR(d:∀it∈X.Γ,it∈Φ)(g:∀e∈tb,e.Ok X.P X.Γ)(f:∀e∈tp,e.Ok X.P X.Γ){l:zj}{T:aB}{st:aC}{ρ:ay}{w:World}(m:gq T st.E fr.F)(k:sI ops fr.n T)(j:FT T fr)(i:Sat (ab ρ T st.G++(ab ρ T fr.H++Φ)) w)
  (h:FH X tb tp KP ops fr l T st K=some r)
  (next:∀st' ρ' w',aS st.c ρ ρ'->st.c<=st'.c->K st'=some r->Sat (ab ρ' [] st'.G++(ab ρ' [] fr.H++Φ)) w'->At Q .normal fr.n D (az ρ' [] st'.E fr.F) w')
  (a:∀b v st' ρ' w',aS st.c ρ ρ'->st.c<=st'.c->KP b v st'=some r->Sat (ab ρ' [] st'.G++(ab ρ' [] (JC b fr.H)++Φ)) w'->At Q (.panic (kh (v.val ρ'))) fr.n D (az ρ' [] st'.E fr.F) w'):
  WL X.P σ ops.toArray Q fr.n D l (az ρ T st.E fr.F) w:=by
 have:=KC (σ:=σ) (Q:=Q) (D:=D) (rest:=[]) d g f m k j i h (λst' ρ' w' s q p o=>cg (next st' ρ' w' s q p o)) a;rwa [ko] at this
end
def o7(c:Nat):List AV->List AV×List Row×Nat
 |[]=>([],[],c)
 |v::vs=>match v with
  | .nv u=>match o7 c vs with
   |(cs,R,c)=>(.nv u::cs,R,c)
  |v=>match o7 (c+1) vs with
   |(cs,R,c')=>(.nv c::cs,.eq c v::R,c')
structure aoo(c:Nat)(vs:List AV)(ρ ρ':ay)(x:List AV×List Row×Nat):Prop where
 ag:aS c ρ ρ'
 le:c<=x.2.2
 eq:AV.al ρ' x.1=AV.al ρ vs
 lw:AV.cq x.2.2 x.1=true
 rl:bD x.2.2 x.2.1=true
 rp:∀r∈x.2.1,(r.item ρ' []).cO=true/\∀M w,(r.item ρ' []).P M w
 rg:∀r∈x.2.1,r.gd=none
theorem Ci{c d:Nat}(a:c<=d):{G:List Row}->bD c G=true->bD d G=true
 |[],_=>rfl
 |r::G,h=>by simp only [bD,au] at h ⊢;exact ⟨Row.gZ a h.1,Ci a h.2⟩
theorem wm{c:Nat}:{G H:List Row}->bD c G=true->bD c H=true->bD c (G++H)=true
 |[],_,_,h=>h
 |r::G,H,h,k=>by simp only [qb,bD,au] at h ⊢;exact ⟨h.1,wm h.2 k⟩
theorem K7:{vs:List AV}->{c:Nat}->{ρ:ay}->AV.cq c vs=true->∃ρ',aoo c vs ρ ρ' (o7 c vs)
 |[],c,ρ,h=>⟨ρ,.refl,cK _,rfl,rfl,rfl,(λ_ h=>by cases h),λ_ h=>by cases h⟩
 |v::vs,c,ρ,h=>by
  simp only [AV.cq,au] at h;have a:(∀u,v≠ .nv u)->o7 c (v::vs)=(match o7 (c+1) vs with|(cs,R,f)=>(.nv c::cs,.eq c v::R,f))->∃ρ',aoo c (v::vs) ρ ρ' (o7 c (v::vs)):=λ_ e=>by
   have g:aS c ρ (ρ.set c { dA with x:=v.val ρ }):=ay.aX;obtain ⟨ρ',l⟩:=K7 (c:=c+1) (ρ:=ρ.set c { dA with x:=v.val ρ }) (AV.mL (j6 c) _ h.2);rw [e];generalize o7 (c+1) vs=L at l;obtain ⟨cs,R,f⟩:=L;have d:aS c ρ ρ':=g.trans l.ag (j6 _);have hx:(ρ' c).x=v.val ρ:=by rw [l.ag _ (l7 _),ay.bJ]
   have i:c+1<=f:=l.le;refine ⟨ρ',d,dx (j6 _) l.le,?_,?_,?_,?_,?_⟩
   .simp only [AV.al,AV.val,hx];rw [l.eq,AV.cd g _ h.2]
   .simp only [AV.cq,AV.low,au,j5];exact ⟨by omega,l.lw⟩
   .simp only [bD,Row.low,au,j5];exact ⟨⟨by omega,AV.gZ (by omega) _ h.1⟩,l.rl⟩
   .intro r b;rcases List.mem_cons.1 b with rfl|b
    .exact ⟨rfl,λM w=>by show (ρ' c).x=v.val ρ';rw [hx,AV.oB d _ h.1]⟩
    .exact l.rp r b
   .intro r b;rcases List.mem_cons.1 b with rfl|b
    .rfl
    .exact l.rg r b
  cases v with
  |nv u=>
   obtain ⟨ρ',l⟩:=K7 (c:=c) (ρ:=ρ) h.2;unfold o7;dsimp only;generalize o7 c vs=L at l;obtain ⟨cs,R,f⟩:=L;refine ⟨ρ',l.ag,l.le,?_,?_,l.rl,l.rp,l.rg⟩
   .simp only [AV.al];rw [l.eq,AV.oB l.ag _ h.1]
   .simp only [AV.cq,au];exact ⟨AV.gZ l.le _ h.1,l.lw⟩
  |_=>exact a (λu h=>by cases h) rfl
def akb{R:Type}(X:Cx)(T:aB)(fr:Fr)(st:aC)(g:GK)(op:Op)(dst:zf)(K:cL R):Option R:=match op,dst with
 | .indexAddr t x y,some d=>(match jK X.P t with
  |some _=>agi X T fr st g d t x y K
  |none=>(match bw T st.E fr.F g x with
   |some (.gp _)=>Zf X T fr st g d t x y K
   |_=>gone g (ahO X T fr st d t x y K)))
 | .slice t x lo hi mx,some d=>acS X T fr st g d t x lo hi mx K
 | .call ⟨.builtin .unsafeSliceData,⟨[x]⟩,_⟩,some d=>gone g (Zp T fr st d x K)
 | .call ⟨.builtin .len,⟨[x]⟩,⟨[t]⟩⟩,some d=>ahQ X T fr st g d t x K
 |_,_=>none
def aaW{R:Type}(X:Cx)(T:aB)(fr:Fr)(st:aC)(g:GK)(o:Oper)(K:cL R):Option R:=
 match ahD X T st.E fr.F g o.op with
 |some cv=>JX cv.1 (g.map λ_=>T.get g) (K { st with E:=cM o.dst g cv.2 st.E })
 |none=>match agm X T st.E fr.F [] fr.H g o.op with
  |some cv=>JX cv.1 (g.map λ_=>T.get g) (K { st with E:=cM o.dst g cv.2 st.E })
  |none=>aD (st.low fr) (akb X T fr st g o.op o.dst K) none
def bn(p:Row->Bool):List Row->List Row
 |[]=>[]
 |r::G=>aD (p r) (r::bn p G) (bn p G)
def cX(r:Row):Bool:= !r.cO
theorem Sat.Bx{w:World}{B:Ctx}:∀{A:Ctx},Sat (A++B) w->Sat B w
 |[],h=>h
 |_x::A,h=>Sat.Bx (A:=A) (Sat.DL (A:=[]) h)
section
variable {ρ : ay} {T : aB} {w : World}
theorem ud{p:Row->Bool}{H:List Row}{Φ:Ctx}:∀{G:List Row} {A:Ctx},Sat (A++(ab ρ T G++(ab ρ T H++Φ))) w->Sat (A++(ab ρ T (bn p G)++(ab ρ T (bn (λr=> !(p r)) G++H)++Φ))) w
 |[],_,h=>h
 |r::G,A,h=>by
  unfold bn;cases hp:p r
  .have b:Sat ((A++[r.item ρ T])++(ab ρ T G++(ab ρ T H++Φ))) w:=by simpa [ab] using h
   have a:=ud (p:=p) (G:=G) b;have c:Sat (A++r.item ρ T::(ab ρ T (bn p G)++(ab ρ T (bn (λr=> !(p r)) G++H)++Φ))) w:=by simpa using a
   exact c.move
  .have b:Sat ((A++[r.item ρ T])++(ab ρ T G++(ab ρ T H++Φ))) w:=by simpa [ab] using h
   have a:=ud (p:=p) (G:=G) b;simpa [ab] using a
end
abbrev sR(fr:Fr)(A:List Row)(st:aC):Fr:=⟨fr.F,bn (λr=> !(cX r)) st.G++(A++fr.H),fr.n⟩
abbrev stM(st:aC):aC:={ st with G:=bn cX st.G }
abbrev yT:=Nat×Nat×Nat×zm
def OH:List AV->Option zm
 |[]=>some []
 |v::l=>(match v with
  | .nv u=>(match OH l with
   |some us=>some (u::us)
   |none=>none)
  |_=>none)
def aaQ:List AV->zm->Bool
 |_,[]=>true
 |l,n::ns=>(match l with
  | .nv u::l=>Nat.beq u n&&aaQ l ns
  |_=>false)
def Nt(G:List Row):List yT->Bool
 |[]=>true
 |x::Pd=>(match tE (Bv x.2.1) G with
  |some (_,.box _ _ cs)=> !(Nat.beq x.2.2.1 1000000000)&&aaQ (cs.drop x.2.2.1) x.2.2.2
  |_=>false)&&Nt G Pd
def pdF(G:List Row):List yT->Bool
 |[]=>true
 |x::Pd=>(Nat.beq x.2.2.1 1000000000||(match tE (Bv x.2.1) G with
  |some (_,.box _ _ cs)=> !(Nat.beq x.2.2.1 1000000000)&&aaQ (cs.drop x.2.2.1) x.2.2.2
  |_=>false))&&pdF G Pd
def gA(ops:zj)(k:Nat):List yT->List yT
 |[]=>[]
 |x::Pd=>aD (waits .any ops.toArray k x.1) (gA ops k Pd) (x::gA ops k Pd)
def szA(P:Program)(t:TypeId):ze:=match P.underlying t with
 |some d=>aD (nD d) (match pL P t with
  |some z=>some z.1
  |none=>none) (some 1)
 |none=>none
def ahi{R:Type}(X:Cx)(T:aB)(fr:Fr)(st:aC)(g:GK)(k:Nat)(o:Oper)(K:List Row->yT->aC->Option R):Option (Option R):=match o.op,o.dst with
 | .load t x,some d=>(match bw T st.E fr.F g x with
  |some (.ptr id off)=>(match tE (Bv id) st.G with
   |some (j,.box _ bt cs)=>some (match szA X.P t with
    |some n=>(match od X.P t ((cs.drop off).map (y6 st.G fr.H)) with
     |some v=>(match OH (o7 st.c ((cs.drop off).take n)).1 with
      |some us=>aD (st.low fr&&v.low st.c&&Nat.ble (off+n) cs.length&& !(Nat.beq off 1000000000)) (
        K (o7 st.c ((cs.drop off).take n)).2.1 (k,id,off,us) { st with c:=(o7 st.c ((cs.drop off).take n)).2.2,E:=cM (some d) g v st.E,G:=st.G.set j (.box id bt (xH cs off (o7 st.c ((cs.drop off).take n)).1)) } ) none
      |none=>none)
     |none=>none)
    |none=>none)
   |_=>none)
  |_=>none)
 |_,_=>none
def aos(T:aB)(fr:Fr)(st:aC)(g:GK)(o:Oper):Option (Tmp×TypeId×Nat×Nat):=match o.op,o.dst with
 | .load t x,some d=>(match bw T st.E fr.F g x with
  |some (.adr q off)=>(match B9 T [] fr.H g (.adr q off) with
   |some _=>none
   |none=>(match eM st.G fr.H (Rm q) with
    |some _=>some (d,t,q,off)
    |none=>none))
  |_=>none)
 |_,_=>none
def O6{R:Type}(X:Cx)(tb:List aA)(tp:List bY)(KP:AV->aC->Option R)(ops:zj)(fr:Fr)(A:List Row)(T:aB)(st:aC)(o:Oper)(K:aB->cL R):Option R:=
 match agE tp T (sR fr A st) (stM st) o (λb v st'=>aD b none (afW fr KP T v { st' with G:=st'.G++(bn (λr=> !(cX r)) st.G++A) })) (K T) with
 |some q=>q
 |none=>stepG ops T (sR fr A st) (stM st) o λT g=>opD X tb T (sR fr A st) (stM st) g o (K T)
def arn(X:Cx)(T:aB)(fr:Fr)(st:aC)(ops:zj)(k:Nat)(fl:zm)(rest:OT)(f:Nat):Bool:=(match ops[f]? with
 |some o=>(match K8 X T fr st o,o.dst with
  |some _,some d=>kg o&&Nat.blt d fr.n&&(match ez st.E fr.F d with|some _=>false|none=>true)&&(o.looksAt ops.toArray).all (λt=> !(Nat.beq t d))
  |_,_=>false)
 |none=>false)&&(k::rest.ops).all (λj=>tF ops.toArray j f)&&(fl++rest.SY).all (λj=>Nat.beq j f||tF ops.toArray j f)
def agM{R:Type}(X:Cx)(ops:zj)(fr:Fr)(T:aB):zm->aC->cL R->Option R
 |[],st,K=>K st
 |f::fs,st,K=>(match ops[f]? with
  |some o=>aD (sa o.dst T&& !(ey f fs)) (am1 X T fr st o λst=>agM X ops fr T fs st K) none
  |none=>none)
abbrev frA(fr:Fr)(A:List Row):Fr:=⟨fr.F,A++fr.H,fr.n⟩
def tq{R:Type}(X:Cx)(tb:List aA)(tp:List bY)(KP:AV->aC->Option R)(ops:zj)(fr:Fr):OT->List Row->List yT->aB->aC->cL R->Option R
 | .nil,A,_,T,st,K=>aD (EU T fr { st with G:=st.G++A }) (K (BK T { st with G:=st.G++A })) none
 | .q k _ rest,A,Pd,T,st,K=>(match ops[k]? with
  |some o=>stepG ops T (sR fr A st) (stM st) o λT g=>match ahi X T (sR fr A st) (stM st) g k o (λR p st'=>tq X tb tp KP ops fr rest (R++(bn (λr=> !(cX r)) st.G++A)) (p::Pd) T st' K) with
   |some q=>q
   |none=>(match aos T (sR fr A st) (stM st) g o with
    |some p=>aD ((stM st).low (sR fr A st)) (S2 X T (sR fr A st) (stM st) g p.1 p.2.1 p.2.2.1 p.2.2.2 λst'=>tq X tb tp KP ops fr rest (bn (λr=> !(cX r)) st.G++A) ((k,p.2.2.1,1000000000,[])::Pd) T st' K) none
    |none=>aaW X T (sR fr A st) (stM st) g o λst'=>tq X tb tp KP ops fr rest (bn (λr=> !(cX r)) st.G++A) Pd T st' K)
  |none=>none)
 | .l k _ rest,A,Pd,T,st,K=>(match ops[k]? with
  |some o=>O6 X tb tp KP ops fr A T st o λT st'=>aD (Nt st'.G (gA ops k Pd)) (tq X tb tp KP ops fr rest (bn (λr=> !(cX r)) st.G++A) (gA ops k Pd) T st' K) none
  |none=>none)
 | .l2 _ k₁ r₁ k₂ r₂,A,Pd,T,st,K=>both
  (match ops[k₁]? with
  |some o=>O6 X tb tp KP ops fr A T st o λT st'=>aD (Nt st'.G (gA ops k₁ Pd)) (tq X tb tp KP ops fr r₁ (bn (λr=> !(cX r)) st.G++A) (gA ops k₁ Pd) T st' K) none
  |none=>none)
  (match ops[k₂]? with
  |some o=>O6 X tb tp KP ops fr A T st o λT st'=>aD (Nt st'.G (gA ops k₂ Pd)) (tq X tb tp KP ops fr r₂ (bn (λr=> !(cX r)) st.G++A) (gA ops k₂ Pd) T st' K) none
  |none=>none)
 | .f k _ fl fs rest,A,Pd,T,st,K=>aD (fl.all (arn X T (frA fr A) st ops k fl rest)&&pdF st.G Pd) (agM X ops (frA fr A) T fs st λst=>(match ops[k]? with
  |some o=>O6 X tb tp KP ops fr A T st o λT st'=>aD (Nt st'.G (gA ops k Pd)) (tq X tb tp KP ops fr rest (bn (λr=> !(cX r)) st.G++A) (gA ops k Pd) T st' K) none
  |none=>none)) none
section
variable {R : Type} {X : Cx} {tb : List aA} {tp : List bY} {KP : AV -> aC -> Option R} {σ : ze} {Q : bh} {D : x3} {ops : zj} {r : R} {fr : Fr} {Φ : Ctx} {K : cL R}
theorem ajr{T:aB}{st:aC}{g:GK}{ρ:ay}{w:World}(j:∀it∈X.Γ,it∈Φ)(m:gq T st.E fr.F)(e:Sat (ab ρ T st.G++(ab ρ T fr.H++Φ)) w)(h:aaW X T fr st g o K=some r):
  ∃(v:Value) (J:World->Prop),(∀w',(∃b,Sat (ab ρ T fr.H++b) w')->J w')/\(∀w',J w'->bc X.P (az ρ T st.E fr.F) (T.get g) o w' v)/\aU r K T fr st g o.dst ρ Φ v w:=by
 obtain ⟨dst,op,ty,pos,af,gd⟩:=o;unfold aaW at h;simp only at h;have c:∀{O:Value->World->Prop},Qa X.P T g (az ρ T st.E fr.F) ⟨dst,op,ty,pos,af,gd⟩ w O->∃(v:Value) (J:World->Prop),(∀w',(∃b,Sat (ab ρ T fr.H++b) w')->J w')/\(∀w',J w'->bc X.P (az ρ T st.E fr.F) (T.get g) ⟨dst,op,ty,pos,af,gd⟩ w' v)/\O v w:=λh=>by obtain ⟨v,d,a⟩:=h;exact ⟨v,λ_=>True,λ_ _=>trivial,λw' _=>d w',a⟩
 split at h
 next cv f=>obtain ⟨d,a⟩:=tR h;exact c ⟨_,λw'=>acw m f d,aU.lC a (cK _) rfl rfl e⟩
 .split at h
  next cv f=>obtain ⟨d,a⟩:=tR h;refine ⟨_,λw'=>∃b,Sat (ab ρ T fr.H++b) w',λ_ h=>h,λw' l=>?_,aU.lC a (cK _) rfl rfl e⟩;obtain ⟨b,i⟩:=l;exact acA (G:=[]) (Φ:=b) i f d
  .obtain ⟨d,a⟩:=aI h;unfold akb at a;split at a
   .split at a
    .exact c (adY d e a)
    .split at a
     .exact c (acz d j e a)
     .obtain ⟨rfl,k⟩:=dJ a;exact c (aeW e k)
   .exact c (Wy d e a)
   .obtain ⟨rfl,k⟩:=dJ a;exact c (abG d e k)
   .exact c (ank e a)
   .cases a
def BF(ρ:ay)(x:yT)(w:World):Prop:=Nat.beq x.2.2.1 1000000000=false/\∃cs t,gI w (ρ x.2.1).b t cs/\(cs.drop x.2.2.1).take x.2.2.2.length=x.2.2.2.map λu=>(ρ u).x
def afE(c:Nat)(Pd:List yT):Prop:= ∀x,x∈Pd->x.2.1<c/\∀u,u∈x.2.2.2->u<c
theorem FM{ρ ρ':ay}{c:Nat}(ha:aS c ρ ρ'){x:yT}(hx:x.2.1<c/\∀u,u∈x.2.2.2->u<c){w:World}:BF ρ' x w↔BF ρ x w:=by
 unfold BF;rw [ha _ hx.1];have:(x.2.2.2.map λu=>(ρ' u).x)=x.2.2.2.map λu=>(ρ u).x:=qQ λu a=>by rw [ha _ (hx.2 u a)]
 rw [this]
theorem Xd{ρ:ay}:∀{l:List AV} {us:zm},aaQ l us=true->(AV.al ρ l).take us.length=us.map λu=>(ρ u).x
 |l,[],_=>by simp
 |l,n::ns,h=>by
  unfold aaQ at h;split at h
  next u l'=>simp only [au] at h;have e:=b0 h.1;subst e;simp only [AV.al,AV.val,eb,q5,e9];rw [Xd h.2]
  .cases h
theorem Vq{ρ:ay}:∀{l:List AV} {us:zm},OH l=some us->AV.al ρ l=us.map (λu=>(ρ u).x)/\us.length=l.length
 |[],us,h=>by cases h;simp [AV.al]
 |v::l,us,h=>by
  unfold OH at h;split at h
  .rename_i u;split at h
   next b a=>cases h;obtain ⟨d,c⟩:=Vq (ρ:=ρ) a;simp [AV.al,AV.val,d,c]
   .cases h
  .cases h
theorem Xk{c:Nat}:∀{l:List AV} {us:zm},OH l=some us->AV.cq c l=true->∀u,u∈us->u<c
 |[],us,h,_,u,a=>by cases h;cases a
 |v::l,us,h,hl,u,a=>by
  unfold OH at h;split at h
  .rename_i u';split at h
   .rename_i d b;cases h;simp only [AV.cq,AV.low,au,j5] at hl;rcases List.mem_cons.1 a with rfl|a
    .exact hl.1
    .exact Xk b hl.2 u a
   .cases h
  .cases h
theorem acH{ρ:ay}{T:aB}{G:List Row}{B:Ctx}{w:World}(c:Sat (ab ρ T G++B) w):∀{Pd:List yT},Nt G Pd=true->∀x,x∈Pd->BF ρ x w
 |[],_,x,hx=>by cases hx
 |y::Pd,h,x,hx=>by
  simp only [Nt,au] at h;rcases List.mem_cons.1 hx with rfl|hx
  .have a:=h.1;split at a
   next j id t cs d=>obtain ⟨f,e⟩:=pI d;have:id=x.2.1:=b0 e;subst this;have hb:gI w (ρ x.2.1).b t (AV.al ρ cs):=c.at_ (iR f);simp only [au] at a;refine ⟨by simpa using a.1,_,t,hb,?_⟩;rw [<-AV.jV];exact Xd a.2
   .cases a
  .exact acH c h.2 x hx
theorem akf{ρ:ay}{T:aB}{G:List Row}{B:Ctx}{w:World}(b:Sat (ab ρ T G++B) w):∀{Pd:List yT},pdF G Pd=true->∀x,x∈Pd->BF ρ x w\/Nat.beq x.2.2.1 1000000000=true
 |[],_,x,hx=>by cases hx
 |y::Pd,h,x,hx=>by
  simp only [pdF,au,eZ] at h;rcases List.mem_cons.1 hx with rfl|hx
  .rcases h.1 with a|a
   .exact .inr a
   .exact .inl (acH b (Pd:=[x]) (by simp only [Nt,au];exact ⟨a,trivial⟩) x (c8 ..))
  .exact akf b h.2 x hx
theorem Ab{k:Nat}:∀{Pd:List yT} {x:yT},x∈gA ops k Pd↔x∈Pd/\waits .any ops.toArray k x.1=false
 |[],x=>by simp [gA]
 |y::Pd,x=>by
  unfold gA;cases c:waits .any ops.toArray k y.1
  .show x∈y::gA ops k Pd↔_;rw [qe,qe,Ab];constructor
   .rintro (rfl|⟨b,a⟩)
    .exact ⟨.inl rfl,c⟩
    .exact ⟨.inr b,a⟩
   .rintro ⟨rfl|b,a⟩
    .exact .inl rfl
    .exact .inr ⟨b,a⟩
  .show x∈gA ops k Pd↔_;rw [qe,Ab];constructor
   .rintro ⟨b,a⟩;exact ⟨.inr b,a⟩
   .rintro ⟨rfl|b,a⟩
    .rw [c] at a;cases a
    .exact ⟨b,a⟩
theorem aeK{pend:fO}{w:World}(h:∀p,p∈pend->p.2 w):jl pend w:=by
 induction pend with
 |nil=>trivial
 |cons p l ih=>exact ⟨h p (c8 ..),ih λq a=>h q (cp _ a)⟩
theorem apZ{P:Program}{ρ:ay}{Ev:Env}{g:Bool}{t:TypeId}{x:Operand}{n:Nat}{l:List AV}{v:AV}{q:Addr}{w:World}{dst:zf}{ty:TypeId}{pos:String}{af:zh}{gd:Option (Nat×Bool)}
  (hx:ar Ev g x (.pointer (some q))) (hn:szA P t=some n) (j:od P t l=some v) (hl:n<=l.length) (k:bN w q ((AV.al ρ l).take n)):bc P Ev g ⟨dst,.load t x,ty,pos,af,gd⟩ w (v.val ρ):=by
 have s:od P t (l.drop 0)=some v:=by simpa using j
 obtain ⟨d,n',bytes,z,c1,u,b⟩:=sE (X:=⟨P,[],[],[],(λ_ h=>nomatch h),0,[],[],(λ_ h=>nomatch h),[]⟩) (ρ:=ρ) s;have c1:P.underlying t=some d:=c1;unfold szA at hn;rw [c1] at hn;rcases eo hn with ⟨hd,i⟩|⟨hd,i⟩
 .split at i
  .rename_i o c;obtain ⟨m,y,o⟩:=o;cases i;unfold od at j;rw [c1] at j;rcases eo j with ⟨_,f⟩|⟨f,_⟩
   .rw [c] at f;obtain ⟨_,r⟩:=aI f;cases r;simp only [AV.val,AV.mK];exact MO c1 hd (cT c) hx (λ_=>k) (by rw [dq,AV.bF];exact iQ hl)
   .rw [hd] at f;cases f
  .cases i
 .cases i;rw [hd] at b;simp only [eT,qn] at b;refine Of c1 hd hx (λ_=>?_);have e:(AV.al ρ l).take 1=[v.val ρ]:=by
   cases p:AV.al ρ l with
   |nil=>rw [p] at b;cases b
   |cons a l=>rw [p] at b;cases b;rfl
  rw [e] at k;exact k
theorem adm{l:zc}{a n:Nat}(h:a+n<=l.length):sJ l a ((l.drop a).take n)=l:=by
 unfold sJ;have c:((l.drop a).take n).length=n:=by rw [dq,j0];omega
 rw [c];have b:(l.drop a).take n++l.drop (a+n)=l.drop a:=by rw [<-qz,qv]
 rw [cx,b,qv]
theorem ano{T:aB}{st:aC}{g:GK}{k:Nat}{ρ:ay}{w:World}{KQ:List Row->yT->aC->Option R}(hs:Sat (ab ρ T st.G++(ab ρ T fr.H++Φ)) w)(h:ahi X T fr st g k o KQ=some (some r)):
  ∃(v:Value) (ρ':ay) (st':aC) (av:AV) (D:List Row) (p:yT),KQ D p st'=some r/\aS st.c ρ ρ'/\st.c<=st'.c/\st'.E=cM o.dst g av st.E/\av.val ρ'=v/\az ρ' T st.E fr.F=az ρ T st.E fr.F/\ab ρ' T fr.H=ab ρ T fr.H/\
   Sat (ab ρ' T st'.G++(ab ρ' T (D++fr.H)++Φ)) w/\p.1=k/\BF ρ' p w/\(p.2.1<st'.c/\∀u,u∈p.2.2.2->u<st'.c)/\(∀w',BF ρ' p w'->bc X.P (az ρ T st.E fr.F) (T.get g) o w' v):=by
 obtain ⟨dst,op,ty,pos,af,gd⟩:=o;unfold ahi at h;simp only at h;split at h
 .rename_i t x d;split at h
  .rename_i id f hx;split at h
   .rename_i j y bt cs hf;simp only [ej] at h;split at h
    .rename_i n hn;split at h
     .rename_i v hv;split at h
      .rename_i us K;obtain ⟨Z,h2⟩:=aI h;simp only [au,Nat.ble_eq] at Z;obtain ⟨⟨⟨hl,hvl⟩,hle⟩,hmk⟩:=Z;obtain ⟨l1,l2,l3,l4⟩:=aC.cJ.1 hl;obtain ⟨f1,f2⟩:=pI hf;have:y=id:=b0 f2;subst this;have C:j<st.G.length:=(List.getElem?_eq_some_iff.1 f1).1;have i:=vj l3 f1;simp only [Row.low,au,j5] at i;have S:∀{l:List AV} {c m q:Nat},AV.cq c l=true->AV.cq c ((l.drop m).take q)=true:=λ{l c m q} h=>by
        have dr:∀(l:List AV) (m:Nat),AV.cq c l=true->AV.cq c (l.drop m)=true:=λl=>by
         induction l with
         |nil=>intro m h;simp [AV.cq]
         |cons a l ih=>
          intro m h;cases m with
          |zero=>exact h
          |succ m=>simp only [AV.cq,au] at h;exact ih m h.2
        have tk:∀(l:List AV) (m:Nat),AV.cq c l=true->AV.cq c (l.take m)=true:=λl=>by
         induction l with
         |nil=>intro m h;simp [AV.cq]
         |cons a l ih=>
          intro m h;cases m with
          |zero=>rfl
          |succ m=>simp only [AV.cq,au,q5] at h ⊢; exact ⟨h.1,ih m h.2⟩
        exact tk _ _ (dr _ _ h)
       obtain ⟨ρ',J⟩:=K7 (ρ:=ρ) (S (m:=f) (q:=n) i.2);obtain ⟨i1,i2⟩:=Vq (ρ:=ρ') K;have V:=Xk K J.lw;generalize o7 st.c ((cs.drop f).take n)=L at h2 J K i1 i2 V;obtain ⟨ls,D,c'⟩:=L;have Y:st.c<=c':=J.le;have s:aS st.c ρ ρ':=J.ag;have N:AV.al ρ' ls=AV.al ρ ((cs.drop f).take n):=J.eq;have hb:gI w (ρ y).b bt (AV.al ρ cs):=hs.at_ (iR f1);have W:AV.al ρ' cs=AV.al ρ cs:=AV.cd s _ i.2;have Q:v.val ρ'=v.val ρ:=AV.oB s _ hvl;have I:us.length=n:=by
        have e1:(AV.al ρ' ls).length=n:=by rw [N,AV.bF,dq,j0];omega
        rw [i2,<-AV.bF (ρ:=ρ') (l:=ls)];exact e1
       have eG:=ba (T:=T) s l3;have eH:=ba (T:=T) s l4;have e3:(us.map λu=>(ρ' u).x)=((AV.al ρ cs).drop f).take n:=by rw [<-i1,N,AV.mK,AV.jV]
       refine ⟨v.val ρ,ρ',_,v,D,(k,y,f,us),h2,s,Y,rfl,Q,sd hl s,eH,?_,rfl,⟨by simpa using hmk,AV.al ρ cs,bt,?_,?_⟩,⟨gr i.1 Y,V⟩,λw' hw=>?_⟩
       .show Sat (ab ρ' T (st.G.set j _)++(ab ρ' T (D++fr.H)++Φ)) w;rw [gG C,eG];have e4:(Row.box y bt (xH cs f ls)).item ρ' T=(Row.box y bt cs).item ρ T:=by simp only [Row.item];rw [s _ i.1,<-Bw,W,N,AV.mK,AV.jV,adm (by rw [AV.bF];exact hle)]
        have hi:=iR (ρ:=ρ) (T:=T) (Φ:=ab ρ' T (D++fr.H)++Φ) f1;have e5:(ab ρ T st.G++(ab ρ' T (D++fr.H)++Φ)).set j ((Row.box y bt (xH cs f ls)).item ρ' T)=ab ρ T st.G++(ab ρ' T (D++fr.H)++Φ):=by
         rw [e4];apply mm;intro q;by_cases hq:q=j
         .subst hq;rw [sj (List.getElem?_eq_some_iff.1 hi).1,hi]
         .rw [qN (λh=>hq h.symm)]
        rw [e5,bg,eH,cx];have ins:∀(L:List Item) (A B:Ctx),Sat (A++B) w->(∀it∈L,it.own=[]/\∀M w,it.P M w)->Sat (A++(L++B)) w:=λL=>by
         induction L with
         |nil=>intro A B h _;exact h
         |cons x L ih=>
          intro A B h hL;have Z:=ih A B h (λit bI=>hL it (cp _ bI));have hx:=hL x (c8 ..);refine Z.CZ (λj k=>(j<A.length/\k=j)\/(A.length<j/\k+1=j)) (λj jt C=>?_) (λj k q hjk Z h2=>by omega);by_cases e:j<A.length
          .rw [ec e] at C;exact .inr ⟨j,jt,.inl ⟨e,rfl⟩,by rw [ec e];exact C,bX.refl⟩
          .rw [de (by omega)] at C;by_cases e2:j=A.length
           .subst e2;simp at C;subst C;exact .inl hx
           .refine .inr ⟨j-1,jt,.inr ⟨by omega,by omega⟩,?_,bX.refl⟩;rw [de (by omega)];have:j-A.length=(j-1-A.length)+1:=by omega
            rw [this,qb,hU] at C;exact C
        refine ins (ab ρ' T D) (ab ρ T st.G) (ab ρ T fr.H++Φ) hs (λit bI=>?_);obtain ⟨z,U,rfl⟩:=List.mem_map.1 bI;have h9:=J.rp z U;have h10:z.item ρ' T=z.item ρ' []:=by have hgd:z.gd=none:=J.rg z U;exact Row.FL (by rw [hgd,aB.get_none,aB.get_none])
        rw [h10];exact ⟨(z.item ρ' []).hp h9.1,h9.2⟩
       .show gI w (ρ' y).b bt _;rw [s _ i.1];exact hb
       .show ((AV.al ρ cs).drop f).take us.length=us.map λu=>(ρ' u).x;rw [I,e3]
       .obtain ⟨_,csv,t2,b1,b2⟩:=hw;have b1:gI w' (ρ' y).b t2 csv:=b1;have b2:(csv.drop f).take us.length=us.map λu=>(ρ' u).x:=b2;rw [s _ i.1] at b1;rw [I,e3] at b2;have O:=aP (ρ:=ρ) hx;simp only [AV.val] at O;have e6:AV.al ρ ((cs.drop f).map (y6 st.G fr.H))=(AV.al ρ cs).drop f:=by rw [NX hs,AV.jV]
        refine apZ O hn hv (by rw [nI,j0];omega) ?_;rw [e6];refine b1.part f ?_;have:(((AV.al ρ cs).drop f).take n).length=n:=by rw [dq,j0,AV.bF];omega
        rw [this];exact b2
      .cases h
     .cases h
    .cases h
   .cases h
  .cases h
 .cases h
theorem Nb{e:OT}{k mk_:Nat}{pend:fO}{EV:List vA}{T T':aB}{g:GK}{fr1:Fr}{st1:aC}{ρ:ay}{w:World}{v:Value}{J:World->Prop}(hn:fr1.n=fr.n)(p:ajI ops fr fr1 st1 ρ o T T' g)(A:ops[k]? =some o)(t:∀x∈EV,tF ops.toArray k x.1=true)(i:J w)
  (r:∀w',J w'->bc X.P (az ρ T' st1.E fr1.F) (T'.get g) o w' v) (c:Hm X.P σ ops.toArray Q fr.n D e EV ((k,J)::pend) (uP o.dst (T'.get g) v (az ρ T' st1.E fr1.F)) w):
  Hm X.P σ ops.toArray Q fr.n D (.q k mk_ e) EV pend (az ρ T' st1.E fr1.F) w:=by
 have m:ops.toArray[k]? =some o:=by simpa using A
 have f:=p.ds;rw [hn] at f;intro a d u hC;have j:∀v,∀x∈EV,Ac X.P ops.toArray (a.put o.dst v) x:=λv x hx=>(hC x hx).put m (t x hx);simp only [lV,m];cases s:g with
 |none=>
  subst s;rw [aB.get_none] at r c;refine ⟨v,J,i,.inl ⟨by simp [Region.wanted,p.gg],λw' h=>r w' h _ a d rfl⟩,?_⟩;exact c _ (d.uP f) (by rw [kH];exact u) (j _)
 |some gk=>
  obtain ⟨rj,par,b,G,C,z,B⟩:=p.gk gk s;rw [hn] at z;subst s;have l:=G0 (ops:=ops.toArray) p.gg (by simpa using G) C d z;rw [B] at l;cases y:T'.get (some gk)
  .rw [y] at l c;refine ⟨undef,J,i,.inr ⟨l,rfl⟩,?_⟩;exact c _ (d.uP (g:=false) (v:=v) f) (by rw [kH];exact u) (j _)
  .rw [y] at l r c;refine ⟨v,J,i,.inl ⟨l,λw' h=>r w' h _ a d rfl⟩,?_⟩;exact c _ (d.uP f) (by rw [kH];exact u) (j _)
theorem ar2{G H:List Row}{s:Src}{a:Row}{q c:Nat}(h:s.at_ G H a)(hk:Rm q a=true)(f:bD c G=true)(d:bD c H=true):q<c:=by
 have key:∀{L:List Row},bD c L=true->a∈L->q<c:=λ{L} hl hm=>by
  have b:a.low c=true:=by
   induction L with
   |nil=>cases hm
   |cons x L ih=>
    simp only [bD,au] at hl;rcases List.mem_cons.1 hm with rfl|hm
    .exact hl.1
    .exact ih hl.2 hm
  unfold Rm at hk;split at hk
  .have e:=b0 hk;subst e;simp only [Row.low,au,j5] at b;exact b.1.1
  .cases hk
 cases s with
 |top i=>exact key f (fm h)
 |cB i=>exact key d (fm h)
 |nilI t=>exact h.elim
 |nilO t e=>exact h.elim
 |nilM k v=>exact h.elim
def HP(ρ:ay)(T:aB)(fr:Fr)(A:List Row)(Pd:List yT)(pend:fO)(w:World):Prop:= ∀p,p∈pend->∀w',(∃Φ',Sat (ab ρ T (A++fr.H)++Φ') w')->(∀x,x∈Pd->x.1=p.1->BF ρ x w'\/(Nat.beq x.2.2.1 1000000000=true/\Ext w w'))->p.2 w'
def gh(EV:List vA):Ctx:=EV.map λx=>box x.2.1 x.2.2.1 x.2.2.2
def VW(ops:zj)(order:OT)(EV:List vA):Prop:= ∀x∈EV,(∀j∈order.ops,tF ops.toArray j x.1=true)/\∀j∈order.SY,j=x.1\/tF ops.toArray j x.1=true
theorem Lo{B:Ctx}{w:World}{p:vA->Bool}:∀{EV:List vA} {A:Ctx},Sat (A++(gh EV++B)) w->Sat (A++(gh (EV.filter p)++B)) w
 |[],_,h=>h
 |x::EV,A,h=>by
  rw [tj];split
  .have a:Sat ((A++[box x.2.1 x.2.2.1 x.2.2.2])++(gh EV++B)) w:=by simpa [gh] using h
   have:=Lo (p:=p) a;simpa [gh] using this
  .exact Lo (p:=p) (Sat.DL (A:=A) (B:=gh EV++B) h)
theorem Ra{B:Ctx}{w:World}:∀{EV:List vA} {A:Ctx},Sat (A++(gh EV++B)) w->Sat (A++B) w
 |[],_,h=>h
 |_::EV,A,h=>Ra (EV:=EV) (Sat.DL (A:=A) (B:=gh EV++B) h)
theorem Fits.lC{n:Nat}{E:Env}{a:Act}{d:Tmp}{v:Value}(h:Fits n E a)(e:a.tmps.getD d undef=v):Fits n ((d,true,v)::E) a:=by
 refine ⟨h.size,λt g b ht=>?_⟩;simp only [look] at ht;cases hb:Nat.beq d t
 .rw [hb,b7] at ht;exact h.at_ t g b ht
 .rw [hb,ca] at ht;have:=b0 hb;subst this;cases ht;exact e
theorem Fits.asF{n:Nat}{E:Env}{a:Act}{d:Tmp}(h:Fits n E a)(hd:look E d=none)(v:Value):Fits n E (a.put (some d) v):=by
 refine ⟨by simp [Act.put,h.size],λt g c ht=>?_⟩;have b:d≠t:=λe=>by subst e;rw [hd] at ht;cases ht
 have:=Act.eval_put (a:=a) (dst:=some d) (v:=v) (x:= .tmp t) (λe f i=>b (by cases f;cases i;rfl));exact Eq.trans this (h.at_ t g c ht)
theorem aqc{X:Cx}{T:aB}{fr:Fr}{st:aC}{p:TypeId×List AV×List AV}(h:K8 X T fr st o=some p):o.guard=none/\∀cs b,o.op≠ .select cs b:=by
 unfold K8 at h;split at h
 next d c=>exact ⟨c,λcs b a=>by rw [d] at a;cases a⟩
 next d c=>exact ⟨c,λcs b a=>by rw [d] at a;cases a⟩
 .cases h
theorem Ac.same{P:Program}{ops:zg}{a:Act}{x:vA}{X:Cx}{T:aB}{fr:Fr}{st:aC}{ρ:ay}(k:X.P=P)(h:Ac P ops a x)(i:ops[x.1]? =some o)(j:Fits fr.n (az ρ T st.E fr.F) a):
  ∀e vs cs,K8 X T fr st o=some (e,vs,cs)->x.2.2.1=e/\x.2.2.2=AV.al ρ cs:=λe vs cs l=>by
 subst k;obtain ⟨q,d,b,g,u,t,s,r,p⟩:=h;rw [i] at g;cases g;have f:=Z2 (ρ:=ρ) l b _ a j;rw [p] at f;have m:b.alloc (.cells x.2.2.2.toArray x.2.2.1)=b.alloc (.cells (AV.al ρ cs).toArray e):=by injection f
 have c:(some (Obj.cells x.2.2.2.toArray x.2.2.1):Option Obj)=some (.cells (AV.al ρ cs).toArray e):=by rw [<-heap_alloc_new b (.cells x.2.2.2.toArray x.2.2.1),<-heap_alloc_new b (.cells (AV.al ρ cs).toArray e),m]
 simp only [ej,Obj.cells.injEq] at c;exact ⟨c.2.1,by simpa using c.1⟩
theorem afa{frx:Fr}{T:aB}{w:World}{a:Act}{M:cL R}:∀{k:zm} {EV:List vA} {st:aC} {ρ:ay},gq T st.E frx.F->Sat (ab ρ T st.G++(ab ρ T frx.H++(gh EV++Φ))) w->Fits frx.n (az ρ T st.E frx.F) a->
  (∀x∈EV,Ac X.P ops.toArray a x)->(∀f∈k,f∈EV.map (·.1))->agM X ops frx T k st M=some r->
  ∃st' ρ',M st'=some r/\aS st.c ρ ρ'/\st.c<=st'.c/\gq T st'.E frx.F/\Fits frx.n (az ρ' T st'.E frx.F) a/\ab ρ' T frx.H=ab ρ T frx.H/\
   Sat (ab ρ' T st'.G++(ab ρ' T frx.H++(gh (EV.filter λx=> !(ey x.1 k))++Φ))) w
 |[],EV,st,ρ,ht,hs,hf,hC,_,h=>by
  refine ⟨st,ρ,h,.refl,cK _,ht,hf,rfl,?_⟩;have e:(EV.filter λx=> !(ey x.1 []))=EV:=by rw [List.filter_eq_self];intro x _;rfl
  rw [e];exact hs
 |f::k,EV,st,ρ,ht,hs,hf,hC,hin,h=>by
  unfold agM at h;split at h
  .rename_i o ho;obtain ⟨m,h2⟩:=aI h;simp only [au,l9] at m;obtain ⟨x,hx,v⟩:=List.mem_map.1 (hin f (c8 ..));subst v;obtain ⟨i,g,L⟩:=List.append_of_mem hx;have l:ops.toArray[x.1]? =some o:=by simpa using ho
   have D:Sat (((ab ρ T st.G++ab ρ T frx.H)++gh i)++box x.2.1 x.2.2.1 x.2.2.2::(gh g++Φ)) w:=by
    have e:ab ρ T st.G++(ab ρ T frx.H++(gh EV++Φ))=((ab ρ T st.G++ab ρ T frx.H)++gh i)++box x.2.1 x.2.2.1 x.2.2.2::(gh g++Φ):=by rw [L];simp [gh]
    rw [<-e];exact hs
   have C:Sat ([]++box x.2.1 x.2.2.1 x.2.2.2::((ab ρ T st.G++ab ρ T frx.H)++(gh i++(gh g++Φ)))) w:=by have:=D.alP;simpa using this
   have B:Sat (ab ρ T st.G++(ab ρ T frx.H++(box x.2.1 x.2.2.1 x.2.2.2::(gh i++(gh g++Φ))))) w:=by have:=C.move;simpa using this
   have K:=hC x hx;obtain ⟨o2,d,w0,r1,r2,r3,r4,N,r6⟩:=id K;rw [l] at r1;cases r1;obtain ⟨b,st1,av,k1,k2,J,I,k5,k6,k7,Z⟩:=aoL B (Ac.same rfl K l hf) h2;have e1:az b T st1.E frx.F=(d,true,HW o x.2.1)::az ρ T st.E frx.F:=by rw [I,xr,k5,k6,r2,aB.get_none];rfl
   have A:Sat (ab b T st1.G++(ab b T frx.H++(gh (EV.filter λy=> !(Nat.beq x.1 y.1))++Φ))) w:=by
    have e2:(EV.filter λy=> !(Nat.beq x.1 y.1))=(i++g).filter λy=> !(Nat.beq x.1 y.1):=by rw [L];simp
    rw [e2];have:Sat ((ab b T st1.G++ab b T frx.H)++(gh (i++g)++Φ)) w:=by
     have e3:gh (i++g)=gh i++gh g:=by simp [gh]
     rw [e3];simpa using Z
    have:=Lo (p:=λy=> !(Nat.beq x.1 y.1)) this;simpa using this
   have z:gq T st1.E frx.F:=by rw [I];exact ht.out m.1 none av
   obtain ⟨s,q,Y,W,V,U,S,Q,O⟩:=afa z A (by rw [e1];exact hf.lC N) (λy u=>hC y (List.mem_filter.1 u).1) (λf' j=>by obtain ⟨y,u,t⟩:=List.mem_map.1 (hin f' (cp _ j));subst t;refine List.mem_map.2 ⟨y,List.mem_filter.2 ⟨u,?_⟩,rfl⟩;rw [l9,qj];intro hb;have:=b0 hb;rw [<-this] at j;rw [dE.2 j] at m;cases m.2) k1
   refine ⟨s,q,Y,k2.trans W J,dx J V,U,S,Q.trans k7,?_⟩;have e4:((EV.filter λy=> !(Nat.beq x.1 y.1)).filter λy=> !(ey y.1 k))=EV.filter λy=> !(ey y.1 (x.1::k)):=by
    rw [List.filter_filter];congr 1
    funext y
    simp only [ey,Bool.not_or];exact Bool.and_comm ..
   rw [<-e4];exact O
  .cases h
theorem ap5(hΓ:∀it∈X.Γ,it∈Φ)(htb:∀e∈tb,e.Ok X.P X.Γ)(htp:∀e∈tp,e.Ok X.P X.Γ):∀{S:OT} {EV:List vA} {A:List Row} {Pd:List yT} {T:aB} {st:aC} {ρ:ay} {w:World} {pend:fO},gq T st.E fr.F->sI ops fr.n T->FT T fr->VW ops S EV->afE st.c Pd->Sat (ab ρ T st.G++(ab ρ T (A++fr.H)++(gh EV++Φ))) w->
  HP ρ T fr A Pd pend w->tq X tb tp KP ops fr S A Pd T st K=some r->
  (∀st' ρ' w',aS st.c ρ ρ'->st.c<=st'.c->K st'=some r->Sat (ab ρ' [] st'.G++(ab ρ' [] fr.H++Φ)) w'->At Q .normal fr.n D (az ρ' [] st'.E fr.F) w')->
  (∀v st' ρ' w',aS st.c ρ ρ'->st.c<=st'.c->KP v st'=some r->Sat (ab ρ' [] st'.G++(ab ρ' [] fr.H++Φ)) w'->EH Q (kh (v.val ρ')) D w')->
  Hm X.P σ ops.toArray Q fr.n D S EV pend (az ρ T st.E fr.F) w:=by
 intro S
 -- a loud operation, the rest by induction
 have loud:∀(rest:OT) (k mk:Nat),(∀{EV:List vA} {A:List Row} {Pd:List yT} {T:aB} {st:aC} {ρ:ay} {w:World} {pend:fO},gq T st.E fr.F->sI ops fr.n T->FT T fr->VW ops rest EV->afE st.c Pd->Sat (ab ρ T st.G++(ab ρ T (A++fr.H)++(gh EV++Φ))) w->
   HP ρ T fr A Pd pend w->tq X tb tp KP ops fr rest A Pd T st K=some r->
   (∀st' ρ' w',aS st.c ρ ρ'->st.c<=st'.c->K st'=some r->Sat (ab ρ' [] st'.G++(ab ρ' [] fr.H++Φ)) w'->At Q .normal fr.n D (az ρ' [] st'.E fr.F) w')->
   (∀v st' ρ' w',aS st.c ρ ρ'->st.c<=st'.c->KP v st'=some r->Sat (ab ρ' [] st'.G++(ab ρ' [] fr.H++Φ)) w'->EH Q (kh (v.val ρ')) D w')->
   Hm X.P σ ops.toArray Q fr.n D rest EV pend (az ρ T st.E fr.F) w)->
   ∀{EV:List vA} {A:List Row} {Pd:List yT} {T:aB} {st:aC} {ρ:ay} {w:World} {pend:fO},gq T st.E fr.F->sI ops fr.n T->FT T fr->(∀x∈EV,tF ops.toArray k x.1=true)->VW ops rest EV->afE st.c Pd->Sat (ab ρ T st.G++(ab ρ T (A++fr.H)++(gh EV++Φ))) w->
   HP ρ T fr A Pd pend w->
   (match ops[k]? with
    |some o=>O6 X tb tp KP ops fr A T st o λT st'=>aD (Nt st'.G (gA ops k Pd)) (tq X tb tp KP ops fr rest (bn (λr=> !(cX r)) st.G++A) (gA ops k Pd) T st' K) none
    |none=>none)=some r->
   (∀st' ρ' w',aS st.c ρ ρ'->st.c<=st'.c->K st'=some r->Sat (ab ρ' [] st'.G++(ab ρ' [] fr.H++Φ)) w'->At Q .normal fr.n D (az ρ' [] st'.E fr.F) w')->
   (∀v st' ρ' w',aS st.c ρ ρ'->st.c<=st'.c->KP v st'=some r->Sat (ab ρ' [] st'.G++(ab ρ' [] fr.H++Φ)) w'->EH Q (kh (v.val ρ')) D w')->
   Hm X.P σ ops.toArray Q fr.n D (.l k mk rest) EV pend (az ρ T st.E fr.F) w:=by
  intro rest k mk ih EV A Pd T st ρ w pend h1 h2 hf hfk i C hs hp h next s;have V:∀it∈X.Γ,it∈gh EV++Φ:=λit bI=>gy _ (hΓ it bI);split at h
  .rename_i o ho;have hs1:=ud (A:=[]) (p:=cX) hs;refine amY (k:=k) (mk:=mk) (o:=o) (by simpa using ho) hfk rfl ?_;have fin:∀T' st' ρ' w',gq T' st'.E (sR fr A st).F->sI ops (sR fr A st).n T'->FT T' fr->aS (stM st).c ρ ρ'->(stM st).c<=st'.c->(aD (Nt st'.G (gA ops k Pd)) (tq X tb tp KP ops fr rest (bn (λr=> !(cX r)) st.G++A) (gA ops k Pd) T' st' K) none)=some r->ab ρ' T' (sR fr A st).H=ab ρ T (sR fr A st).H->Sat (ab ρ' T' st'.G++(ab ρ' T' (sR fr A st).H++(gh EV++Φ))) w'->
     WL X.P σ ops.toArray (QKE X.P σ ops.toArray Q rest EV (still .any ops.toArray k pend)) fr.n D [] (az ρ' T' st'.E (sR fr A st).F) w':=by
    intro T' st' ρ' w' a1 a2 a3 a4 a5 a6 a7 a8;obtain ⟨a9,a10⟩:=aI a6;have e1:bn (λr=> !(cX r)) st.G++(A++fr.H)=(bn (λr=> !(cX r)) st.G++A)++fr.H:=by rw [cx]
    have hs8:Sat (ab ρ' T' st'.G++(ab ρ' T' ((bn (λr=> !(cX r)) st.G++A)++fr.H)++(gh EV++Φ))) w':=by rw [<-e1];exact a8
    have conv:∀z,(∃y,Sat (ab ρ' T' ((bn (λr=> !(cX r)) st.G++A)++fr.H)++y) z)->∃y,Sat (ab ρ T (A++fr.H)++y) z:=λz hw=>by
     obtain ⟨y,O⟩:=hw;refine ⟨y,?_⟩;rw [<-e1] at O;have U:Sat (ab ρ T (bn (λr=> !(cX r)) st.G++(A++fr.H))++y) z:=by rw [<-a7];exact O
     rw [bg,cx] at U;exact U.Bx
    have mem:∀p,p∈still .any ops.toArray k pend->p∈pend/\∀x,x∈Pd->x.1=p.1->x∈gA ops k Pd:=λp R=>by unfold still at R;rw [List.mem_filter] at R;exact ⟨R.1,λx hx he=>Ab.2 ⟨hx,by rw [he];simpa using R.2⟩⟩
    have hBF:=acH (B:=ab ρ' T' ((bn (λr=> !(cX r)) st.G++A)++fr.H)++(gh EV++Φ)) hs8 a9;have HP':HP ρ' T' fr (bn (λr=> !(cX r)) st.G++A) (gA ops k Pd) (still .any ops.toArray k pend) w':=λp R z hw hB=>by obtain ⟨m1,m2⟩:=mem p R;exact hp p m1 z (conv z hw) (λx hx he=>(hB x (m2 x hx he) he).elim (λh=> .inl ((FM a4 (C x hx)).1 h)) (λh=>by have:=(hBF x (m2 x hx he)).1;rw [h.1] at this;cases this))
    refine cg (aq9 (aeK λp R=>HP' p R w' ⟨gh EV++Φ,hs8.Bx⟩ (λx hx _=> .inl (hBF x hx))) ?_);exact ih a1 a2 a3 i (λx hx=>⟨gr (C x (Ab.1 hx).1).1 a5,λu hu=>gr ((C x (Ab.1 hx).1).2 u hu) a5⟩) hs8 HP' a10 (λI M z b1 b2 b3 b4=>next I M z (a4.trans b1 a5) (dx a5 b2) b3 b4) (λv I M z b1 b2 b3 b4=>s v I M z (a4.trans b1 a5) (dx a5 b2) b3 b4)
   unfold O6 at h;split at h
   .rename_i q hq;subst h;refine aok (fr:=sR fr A st) (st:=stM st) h1 hs1 V htp hq (λst' ρ' w' a1 a4 a5 a6 a7 a8=>fin T st' ρ' w' a1 h2 hf a4 a5 a6 a7 a8) (λlb v st' ρ' w' a1 a2 a3 ae1 ae2 a4=>?_);cases lb with
    |true=>cases a3
    |false=>
    have a4':Sat (ab ρ' T ({ st' with G:=st'.G++(bn (λr=> !(cX r)) st.G++A) }:aC).G++(ab ρ' T fr.H++(gh EV++Φ))) w':=by
     have e2:(sR fr A st).H=(bn (λr=> !(cX r)) st.G++A)++fr.H:=by rw [cx]
     rw [e2,bg,cx] at a4;show Sat (ab ρ' T (st'.G++(bn (λr=> !(cX r)) st.G++A))++_) w';rw [bg,cx];exact a4
    obtain ⟨I,k1,Y,_,L⟩:=aeB (fr:=fr) (KP:=λ_=>KP) (b:=false) hf a3 a4';rw [<-cx] at L;replace L:=Ra L;rw [cx] at L;have k2':I.c=st'.c:=Y;have:=s v I ρ' w' a1 (by rw [k2'];exact a2) k1 L;exact abk this
   .exact aaF (fr:=sR fr A st) (st:=stM st) (fr0:=fr) (K:=λT st'=>aD (Nt st'.G (gA ops k Pd)) (tq X tb tp KP ops fr rest (bn (λr=> !(cX r)) st.G++A) (gA ops k Pd) T st' K) none) h1 h2 rfl (λr hr=>gy _ (gy _ hr)) hf hs1 V htb h fin
  .cases h
 induction S with
 |nil=>
  intro EV A Pd T st ρ w pend h1 h2 hf i C hs hp h next s;have V:∀it∈X.Γ,it∈gh EV++Φ:=λit bI=>gy _ (hΓ it bI);unfold tq at h;obtain ⟨h3,h4⟩:=aI h;have hs':Sat (ab ρ T ({ st with G:=st.G++A }:aC).G++(ab ρ T fr.H++(gh EV++Φ))) w:=by show Sat (ab ρ T (st.G++A)++_) w;rw [bg,cx];rw [bg,cx] at hs;exact hs
  obtain ⟨k1,Y,L⟩:=KM h3 hf hs';rw [<-cx] at L;replace L:=Ra L;rw [cx] at L;exact aoX ((next _ ρ w .refl (by rw [k1];exact cK _) h4 L).rz _ Y)
 |q k m rest ih=>
  intro EV A Pd T st ρ w pend h1 h2 hf i C hs hp h next s;have hevr:VW ops rest EV:=λx hx=>⟨λj hj=>(i x hx).1 j (cp _ hj),(i x hx).2⟩;have V:∀it∈X.Γ,it∈gh EV++Φ:=λit bI=>gy _ (hΓ it bI);unfold tq at h;split at h
  .rename_i o ho;have hs1:=ud (A:=[]) (p:=cX) hs;obtain ⟨T',g,hk,Z⟩:=Z3 (ρ:=ρ) (fr0:=fr) (fr:=sR fr A st) (st:=stM st) h1 h2 rfl (λr hr=>gy _ (gy _ hr)) hf h;have hs':Sat (ab ρ T' (stM st).G++(ab ρ T' (sR fr A st).H++(gh EV++Φ))) w:=by rw [Z.eg,Z.eh];exact hs1
   have he:az ρ T st.E fr.F=az ρ T' st.E fr.F:=by have e1:=Z.ee;have e2:=Z.ef;rw [az,az,e1,e2]
   rw [he];have e1:bn (λr=> !(cX r)) st.G++(A++fr.H)=(bn (λr=> !(cX r)) st.G++A)++fr.H:=by rw [cx]
   -- from what stands then to what stands now
   have conv0:∀z y,Sat (ab ρ T' (bn (λr=> !(cX r)) st.G++(A++fr.H))++y) z->∃y,Sat (ab ρ T (A++fr.H)++y) z:=λz y O=>by
    refine ⟨y,?_⟩;have U:Sat (ab ρ T (bn (λr=> !(cX r)) st.G++(A++fr.H))++y) z:=by rw [<-Z.eh];exact O
    rw [bg,cx] at U;exact U.Bx
   split at hk
   .rename_i q hq;subst hk;obtain ⟨v,ρ',st',av,Rq,p,k1,Y,L,k4,k5,k6,k7,k8,k9,k10,k11,k12⟩:=ano (fr:=sR fr A st) (st:=stM st) hs' hq;have e2:Rq++(bn (λr=> !(cX r)) st.G++(A++fr.H))=(Rq++(bn (λr=> !(cX r)) st.G++A))++fr.H:=by simp
    refine Nb (fr1:=sR fr A st) (st1:=stM st) (J:=BF ρ' p) rfl Z ho (λx hx=>(i x hx).1 k (c8 ..)) k10 k12 ?_;have:=ih (A:=Rq++(bn (λr=> !(cX r)) st.G++A)) (Pd:=p::Pd) (T:=T') (st:=st') (ρ:=ρ') (w:=w) (pend:=(k,BF ρ' p)::pend) (by rw [k4];exact Z.t1.out Z.ak g av) Z.t2 Z.ft hevr (λx hx=>?_) (by rw [<-e2];exact k8) (λq W z hw hB=>?_) k1 (λI M z b1 b2 b3 b4=>next I M z (Y.trans b1 L) (dx L b2) b3 b4) (λv I M z b1 b2 b3 b4=>s v I M z (Y.trans b1 L) (dx L b2) b3 b4)
    .rw [k4,xr,k5,k6] at this;exact this
    .rcases List.mem_cons.1 hx with rfl|hx
     .exact k11
     .exact ⟨gr (C x hx).1 L,λu hu=>gr ((C x hx).2 u hu) L⟩
    .rcases List.mem_cons.1 W with rfl|W
     .exact (hB p (c8 ..) k9).elim id (λh=>by have:=k10.1;rw [h.1] at this;cases this)
     .obtain ⟨y,O⟩:=hw;rw [<-e2,bg,cx] at O;have hΦ1:=O.Bx;have U:Sat (ab ρ T' (bn (λr=> !(cX r)) st.G++(A++fr.H))++y) z:=by rw [<-k7];exact hΦ1
      exact hp q W z (conv0 z y U) (λx hx he=>(hB x (cp _ hx) he).imp (FM Y (C x hx)).1 id)
   .split at hk
    .rename_i p hpo;obtain ⟨lw,hk⟩:=aI hk;obtain ⟨dst,op,ty,pos,af,gd⟩:=o;unfold aos at hpo;split at hpo
     .rename_i t x d hop hdst;simp only at hop hdst;subst hop hdst;split at hpo
      .rename_i q off hx;split at hpo
       .cases hpo
       split at hpo
       .rename_i sr hkn;cases hpo;obtain ⟨v,hr,hO⟩:=Xl (ty:=ty) (pos:=pos) (af:=af) (gd:=gd) lw hs' hx hk;obtain ⟨ρ',st',av,k1,Y,L,k4,k5,k6,k7,k8⟩:=hO;have hq:q<st.c:=by obtain ⟨_,_,l3,l4⟩:=aC.cJ.1 lw;obtain ⟨f1,f2⟩:=bZ hkn;exact ar2 f1 f2 l3 l4
        refine Nb (fr1:=sR fr A st) (st1:=stM st) (J:=λw'=>Ext w w') (v:=v) rfl Z ho (λx hx=>(i x hx).1 k (c8 ..)) (Ext.refl w) (λw' hw'=>hr w' hw') ?_;have:=ih (A:=bn (λr=> !(cX r)) st.G++A) (Pd:=(k,q,1000000000,[])::Pd) (T:=T') (st:=st') (ρ:=ρ') (w:=w) (pend:=(k,λw'=>Ext w w')::pend) (by rw [k4];exact Z.t1.out Z.ak g av) Z.t2 Z.ft hevr (λx hx=>?_) (by rw [<-e1];exact k8) (λq' W z hw hB=>?_) k1 (λI M z b1 b2 b3 b4=>next I M z (Y.trans b1 L) (dx L b2) b3 b4) (λv I M z b1 b2 b3 b4=>s v I M z (Y.trans b1 L) (dx L b2) b3 b4)
        .rw [k4,xr,k5,k6] at this;exact this
        .rcases List.mem_cons.1 hx with rfl|hx
         .exact ⟨gr hq L,λu hu=>by cases hu⟩
         .exact ⟨gr (C x hx).1 L,λu hu=>gr ((C x hx).2 u hu) L⟩
        .obtain ⟨y,O⟩:=hw;rw [<-e1] at O;have hΦ1:Sat (ab ρ T' (bn (λr=> !(cX r)) st.G++(A++fr.H))++y) z:=by rw [<-k7];exact O
         rcases List.mem_cons.1 W with rfl|W
         .exact (hB (k,q,1000000000,[]) (c8 ..) rfl).elim (λh=>by have:=h.1;simp at this) (λh=>h.2)
         .exact hp q' W z (conv0 z y hΦ1) (λx hx he=>(hB x (cp _ hx) he).imp (FM Y (C x hx)).1 id)
       .cases hpo
      .cases hpo
     .cases hpo
    .obtain ⟨v,J,hJ,hr,hO⟩:=ajr (fr:=sR fr A st) (st:=stM st) V Z.t1 hs' hk;obtain ⟨ρ',st',av,k1,Y,L,k4,k5,k6,k7,k8⟩:=hO;refine Nb (fr1:=sR fr A st) (st1:=stM st) rfl Z ho (λx hx=>(i x hx).1 k (c8 ..)) (hJ w ⟨gh EV++Φ,hs'.Bx⟩) hr ?_;have:=ih (A:=bn (λr=> !(cX r)) st.G++A) (Pd:=Pd) (T:=T') (st:=st') (ρ:=ρ') (w:=w) (pend:=(k,J)::pend) (by rw [k4];exact Z.t1.out Z.ak g av) Z.t2 Z.ft hevr (λx hx=>⟨gr (C x hx).1 L,λu hu=>gr ((C x hx).2 u hu) L⟩) (by rw [<-e1];exact k8) (λq W z hw hB=>?_) k1 (λI M z b1 b2 b3 b4=>next I M z (Y.trans b1 L) (dx L b2) b3 b4) (λv I M z b1 b2 b3 b4=>s v I M z (Y.trans b1 L) (dx L b2) b3 b4)
     .rw [k4,xr,k5,k6] at this;exact this
     .obtain ⟨y,O⟩:=hw;rw [<-e1] at O;have hΦ1:Sat (ab ρ T' (bn (λr=> !(cX r)) st.G++(A++fr.H))++y) z:=by rw [<-k7];exact O
      rcases List.mem_cons.1 W with rfl|W
      .exact hJ z ⟨y,hΦ1⟩
      .exact hp q W z (conv0 z y hΦ1) (λx hx he=>(hB x hx he).imp (FM Y (C x hx)).1 id)
  .cases h
 |l k m rest ih=>
  intro EV A Pd T st ρ w pend h1 h2 hf i C hs hp h next s;have V:∀it∈X.Γ,it∈gh EV++Φ:=λit bI=>gy _ (hΓ it bI);unfold tq at h;exact loud rest k m (λ{EV A Pd T st ρ w pend}=>ih) h1 h2 hf (λx hx=>(i x hx).1 k (c8 ..)) (λx hx=>⟨λj hj=>(i x hx).1 j (cp _ hj),(i x hx).2⟩) C hs hp h next s
 |l2 m k1 r1 Y r2 ih1 ih2=>
  intro EV A Pd T st ρ w pend h1 h2 hf i C hs hp h next s;have V:∀it∈X.Γ,it∈gh EV++Φ:=λit bI=>gy _ (hΓ it bI);unfold tq at h;obtain ⟨h3,h4⟩:=XF h;exact arN (loud r1 k1 m (λ{EV A Pd T st ρ w pend}=>ih1) h1 h2 hf (λx hx=>(i x hx).1 k1 (c8 ..)) (λx hx=>⟨λj hj=>(i x hx).1 j (cp _ (cp _ (qA _ hj))),λj hj=>(i x hx).2 j (qA _ hj)⟩) C hs hp h3 next s)
   (loud r2 Y m (λ{EV A Pd T st ρ w pend}=>ih2) h1 h2 hf (λx hx=>(i x hx).1 Y (cp _ (c8 ..))) (λx hx=>⟨λj hj=>(i x hx).1 j (cp _ (cp _ (gy _ hj))),λj hj=>(i x hx).2 j (gy _ hj)⟩) C hs hp h4 next s)
 |f k m fl fs rest ih=>
  intro EV A Pd T st ρ w₀ pend h1 h2 hf i C hs hp h next s;unfold tq at h;obtain ⟨hc,h⟩:=aI h;simp only [au,qo] at hc;obtain ⟨hfl,hpd0⟩:=hc;have hrun:∀f∈fl,∃o p d,ops[f]? =some o/\K8 X T (frA fr A) st o=some p/\o.dst=some d/\kg o=true/\Nat.blt d fr.n=true/\ez st.E fr.F d=none/\(∀t∈o.looksAt ops.toArray,t≠d)/\
    (∀j∈k::rest.ops,tF ops.toArray j f=true)/\∀j∈fl++rest.SY,j=f\/tF ops.toArray j f=true:=λf hf=>by
   have:=hfl f hf;unfold arn at this;simp only [au,qo,eZ] at this;obtain ⟨⟨g1,g2⟩,g3⟩:=this;split at g1
   .rename_i o ho;split at g1
    .rename_i p d hp hd;simp only [au,qo] at g1;obtain ⟨⟨⟨g4,g5⟩,g6⟩,g7⟩:=g1;refine ⟨o,p,d,ho,hp,hd,g4,g5,?_,λt ht hc=>?_,g2,λj hj=>(g3 j hj).imp b0 id⟩
     .split at g6
      .cases g6
      .assumption
     .have:=g7 t ht;rw [hc] at this;simp at this
    .cases g1
   .cases g1
  have nxp:∀(EV:List vA) (a:Act) (w:World),Ext w₀ w->VW ops (.f k m fl fs rest) EV->Sat (ab ρ T st.G++(ab ρ T (A++fr.H)++(gh EV++Φ))) w->Fits fr.n (az ρ T st.E fr.F) a->a.defers=D->(∀x∈EV,Ac X.P ops.toArray a x)->
    (∀f∈fs,f∈EV.map (·.1))->wpOpIn (FW σ) 0 X.P ops.toArray (QN Q) k (λa' w'=>jl (still .any ops.toArray k pend) w'/\lV X.P σ ops.toArray (QN Q) rest ((EV.map (·.1)).filter λf=> !(ey f fs)) (still .any ops.toArray k pend) a' w') a w:=by
   intro EV a w hx0 i hs N hD hC hall;obtain ⟨st1,ρ1,k1,Y,L,k4,k5,k6,k7⟩:=afa (frx:=frA fr A) h1 hs N hC hall h;have hev':∀x∈EV.filter (λx=> !(ey x.1 fs)),(∀j∈k::rest.ops,tF ops.toArray j x.1=true)/\∀j∈rest.SY,j=x.1\/tF ops.toArray j x.1=true:=λx hx=>
    ⟨(i x (List.mem_filter.1 hx).1).1,λj hj=>(i x (List.mem_filter.1 hx).1).2 j (gy _ hj)⟩
   have HP':HP ρ1 T fr A Pd pend w:=λp R z hw hB=>by have k6:ab ρ1 T (A++fr.H)=ab ρ T (A++fr.H):=k6;rw [k6] at hw;exact hp p R z hw (λx hx he=>(hB x hx he).imp (FM Y (C x hx)).1 (λh=>⟨h.1,hx0.trans h.2⟩))
   have hl:=loud rest k 0 (λ{EV A Pd T st ρ w pend}=>ih) (EV:=EV.filter λx=> !(ey x.1 fs)) (pend:=pend) k4 h2 hf (λx hx=>(hev' x hx).1 k (c8 ..)) (λx hx=>⟨λj hj=>(hev' x hx).1 j (cp _ hj),(hev' x hx).2⟩)
    (λx hx=>⟨gr (C x hx).1 L,λu hu=>gr ((C x hx).2 u hu) L⟩) k7 HP' k1 (λI M z b1 b2 b3 b4=>next I M z (Y.trans b1 L) (dx L b2) b3 b4) (λv I M z b1 b2 b3 b4=>s v I M z (Y.trans b1 L) (dx L b2) b3 b4)
   have:=hl a k5 hD (λx hx=>hC x (List.mem_filter.1 hx).1);simp only [lV] at this;have e:(EV.map (·.1)).filter (λf=> !(ey f fs))=(EV.filter λx=> !(ey x.1 fs)).map (·.1):=by rw [List.filter_map];rfl
   rw [e];split at this
   .exact this.elim
   .exact this
  have main:∀(nf:Nat) (EV:List vA) (a:Act) (w:World),Ext w₀ w->VW ops (.f k m fl fs rest) EV->Sat (ab ρ T st.G++(ab ρ T (A++fr.H)++(gh EV++Φ))) w->Fits fr.n (az ρ T st.E fr.F) a->a.defers=D->(∀x∈EV,Ac X.P ops.toArray a x)->
    wpE X.P σ ops.toArray (QN Q) fl pend (λea a w=>(∀f∈fs,f∈ea)->wpOpIn (FW σ) 0 X.P ops.toArray (QN Q) k (λa' w'=>jl (still .any ops.toArray k pend) w'/\lV X.P σ ops.toArray (QN Q) rest (ea.filter λf=> !(ey f fs)) (still .any ops.toArray k pend) a' w') a w) nf (EV.map (·.1)) a w:=by
   intro nf
   induction nf with
   |zero=>exact λEV a w hx0 i hs N hD hC=>nxp EV a w hx0 i hs N hD hC
   |succ nf ihf=>
    intro EV a w hx0 i hs N hD hC;refine ⟨nxp EV a w hx0 i hs N hD hC,λf hf' hm=>?_⟩;obtain ⟨o,p,d,r1,r2,r3,r4,r5,r6,r7,r8,r9⟩:=hrun f hf';obtain ⟨e,vs,cs⟩:=p;obtain ⟨gn,ns⟩:=aqc r2;have ho':ops.toArray[f]? =some o:=by simpa using r1
    have hR:=Z2 (ρ:=ρ) r2 w _ a N;have hw:Region.wanted o (yielded ops.toArray a.tmps)=true:=by simp [Region.wanted,gn]
    have hdn:look (az ρ T st.E fr.F) d=none:=by rw [iW,r6];rfl
    have hne:∀x∈EV,f≠x.1:=λx hx hc=>by have:ey f (EV.map (·.1))=true:=dE.2 (List.mem_map.2 ⟨x,hx,hc.symm⟩);rw [hm] at this;cases this
    have hs1:Sat (box w.heap.size e (AV.al ρ cs)::(ab ρ T st.G++(ab ρ T (A++fr.H)++(gh EV++Φ)))) (w.alloc (.cells (AV.al ρ cs).toArray e)):=hs.push (gw _ _) (λb hb=>by
     have:b=w.heap.size:=by simpa [box] using hb
     subst this;simp) (λ_ _=>heap_alloc_new w _)
    have hs2:Sat (ab ρ T st.G++(ab ρ T (A++fr.H)++(gh ((f,w.heap.size,e,AV.al ρ cs)::EV)++Φ))) (w.alloc (.cells (AV.al ρ cs).toArray e)):=by
     have h0:Sat ([]++box w.heap.size e (AV.al ρ cs)::((ab ρ T st.G++ab ρ T (A++fr.H))++(gh EV++Φ))) (w.alloc (.cells (AV.al ρ cs).toArray e)):=by rw [cx];exact hs1
     have:=h0.move;rw [p5,cx] at this;exact this
    have hfit':=N.asF hdn (HW o w.heap.size);have hflo:∀x∈(f,w.heap.size,e,AV.al ρ cs)::EV,Ac X.P ops.toArray (a.put o.dst (HW o w.heap.size)) x:=λx hx=>by
     rcases List.mem_cons.1 hx with rfl|hx
     .refine ⟨o,d,w,ho',r3,ns,rfl,?_,?_⟩
      .rw [r3];have hlt:d<a.tmps.size:=by rw [N.size];simpa using r5
       show (a.tmps.setIfInBounds d _).getD d undef=_;simp [Array.getD,hlt]
      .rw [execOp_put (ops:=ops.toArray) o ns a o.dst _ (λt ht hc=>r7 t hc (by rw [r3] at ht;exact (gj ht).symm))];exact hR
     .refine (hC x hx).put ho' ?_;rcases (i x hx).2 f (qA _ hf') with h9|h9
      .exact absurd h9 (hne x hx)
      .exact h9
    unfold wpOpIn;simp only [ho',hw,qU];refine oy r4 ?_;rw [hR,Oper.uponIn_value];refine ⟨aeK λp R=>hp p R _ ⟨gh ((f,w.heap.size,e,AV.al ρ cs)::EV)++Φ,hs2.Bx⟩ (λx hx _=>(akf hs2 hpd0 x hx).imp id (λh=>⟨h,hx0.trans (gw _ _)⟩)),?_⟩;have:=ihf ((f,w.heap.size,e,AV.al ρ cs)::EV) (a.put o.dst (HW o w.heap.size)) _ (hx0.trans (gw _ _)) (λx hx=>?_) hs2 (by rw [r3];exact hfit') (by rw [kH];exact hD) hflo
    .exact this
    .rcases List.mem_cons.1 hx with rfl|hx
     .exact ⟨r8,r9⟩
     .exact i x hx
  intro a N hD hC;simp only [lV];exact main fl.length EV a w₀ (Ext.refl _) i hs N hD hC
end
def cQ:Code->Nat
 | .region _ ops _=>ops.toList.foldl (λm o=>match o.dst with|some d=>Nat.lor m (Nat.shiftLeft 1 d)|none=>m) 0
 | .seq a b=>Nat.lor (cQ a) (cQ b)
 | .cond _ a b=>Nat.lor (cQ a) (cQ b)
 | .block _ c=>cQ c
 | .loop c=>cQ c
 | .scope c=>cQ c
 | .rangeFunc _ ps a b=>Nat.lor (ps.toList.foldl (λm d=>Nat.lor m (Nat.shiftLeft 1 d)) 0) (Nat.lor (cQ a) (cQ b))
 |_=>0
def QZ(t:Nat):List (Bool×Nat×Pt)->Bool
 |[]=>false
 |x::l=>(!x.1&&Nat.beq x.2.1 t)||QZ t l
def DN(m:Nat)(vs:List (Bool×Nat×Pt))(t:Nat):Bool:= !(Nat.testBit m t)&& !(QZ t vs)
def rX(m:Nat)(vs:List (Bool×Nat×Pt)):aF->aF
 |[]=>[]
 |x::E=>aD ( DN m vs x.1 ) ( x::rX m vs E ) ( rX m vs E )
def tK(m:Nat)(vs:List (Bool×Nat×Pt)):aF->aF
 |[]=>[]
 |x::E=>aD ( DN m vs x.1 ) ( tK m vs E ) ( x::tK m vs E )
theorem Xo{m:Nat}{vs:List (Bool×Nat×Pt)}{t:Nat}:{E:aF}->bC E t=aD (DN m vs t) (bC (rX m vs E) t) (bC (tK m vs E) t)/\bC (aD (DN m vs t) (tK m vs E) (rX m vs E)) t=none
 |[]=>by cases DN m vs t <;> exact ⟨rfl,rfl⟩
 |(t',g,v)::E=>by obtain ⟨b,a⟩:=Xo (m:=m) (vs:=vs) (t:=t) (E:=E);grind [Nat.beq,jx,rX,tK,DN,Nat.eq_of_beq_eq_true,oR]
theorem afw{m:Nat}{vs:List (Bool×Nat×Pt)}{t:Nat}{E F:aF}:ez (tK m vs E) (rX m vs E++F) t=ez E F t:=by
 have app:∀A B:aF,bC (A++B) t=match bC A t with|some x=>some x|none=>bC B t:=λA B=>by
  induction A with
  |nil=>rfl
  |cons x A ih=>
   obtain ⟨t',g,v⟩:=x;cases hb:Nat.beq t' t
   .grind [jx]
   grind [oR]
 obtain ⟨b,a⟩:=Xo (m:=m) (vs:=vs) (t:=t) (E:=E);grind [ez,DN,bC,rX,tK]
theorem aj6{ρ:ay}{E E' F a:aF}(h:∀t,ez E' a t=ez E F t):lM (az ρ [] E' a) (az ρ [] E F):=λt p hp=>by grind [iW]
mutual
def AV.ids:AV->zm
 | .ptr id _|.sl id|.adr id _|.mp id|.nv id|.sfp id _=>[id]
 | .agg l|.tuple l=>AV.abP l
 | .fn _ a b=>AV.abP a++AV.abP b
 | .ifc _ v=>v.ids
 |_=>[]
def AV.abP:List AV->zm
 |[]=>[]
 |v::l=>v.ids++AV.abP l
end
def anF(res:AV->AV)(ids:zm):List Row->zm
 |[]=>[]
 |r::G=>(match r with
  | .box j _ vs=>aD (wQ j ids) (AV.abP (vs.map res)) []
  |_=>[])++anF res ids G
def reach(st:aC)(fr:Fr)(ts:zm):zm:=
 let a:=(ts.map λt=>match ez st.E fr.F t with
  |some (_,v)=>v.ids
  |none=>[]).flatten
 let b:=a++anF (y6 st.G fr.H) a st.G
 b++anF (y6 st.G fr.H) b st.G
def ij(ids:zm)(r:Row):Bool:=wQ r.id ids
def pc(ids:zm)(c:Nat):List Row->List Row×List Row×Nat
 |[]=>([],[],c)
 |r::G=>match r with
  | .box j t vs=>aD ( wQ j ids ) ( match o7 c vs with
   |(cs,R,c)=>match pc ids c G with
    |(G,R',c)=>(.box j t cs::G,R++R',c) )<|match pc ids c G with
   |(G,R',c)=>(.box j t vs::G,R',c)
  |r=>match pc ids c G with
   |(G,R',c)=>(r::G,R',c)
def kq:List Row->List (List AV)
 |[]=>[]
 |r::G=>(match r with
  | .box _ _ cs=>cs::kq G
  |_=>kq G)
structure aor(c:Nat)(G:List Row)(ρ ρ':ay)(x:List Row×List Row×Nat):Prop where
 ag:aS c ρ ρ'
 le:c<=x.2.2
 eq:ab ρ' [] x.1=ab ρ [] G
 lw:bD x.2.2 x.1=true
 rl:bD x.2.2 x.2.1=true
 rp:∀r∈x.2.1,(r.item ρ' []).cO=true/\∀M w,(r.item ρ' []).P M w
 bx:(kq x.1).map (AV.al ρ')=(kq G).map (AV.al ρ)
theorem N7{ρ ρ':ay}{c:Nat}(ha:aS c ρ ρ'):{G:List Row}->bD c G=true->(kq G).map (AV.al ρ')=(kq G).map (AV.al ρ)
 |[],_=>rfl
 |r::G,h=>by
  simp [bD,au] at h;have ih:=N7 ha h.2;cases r with
  |box j t cs=>
   have a:=h.1;simp [Row.low] at a;grind [AV.al,kq,AV.cd]
  |_=>exact ih
theorem Ls{ids:zm}:{G:List Row}->{c:Nat}->{ρ:ay}->bD c G=true->∃ρ',aor c G ρ ρ' (pc ids c G)
 |[],c,ρ,h=>⟨ρ,.refl,cK _,rfl,rfl,rfl,(λ_ h=>by cases h),rfl⟩
 |r::G,c,ρ,h=>by
  simp [bD,au] at h;have g:(∀t cs j,r= .box j t cs->wQ j ids=false)->pc ids c (r::G)=(match pc ids c G with|(G,o,c)=>(r::G,o,c))->∃ρ',aor c (r::G) ρ ρ' (pc ids c (r::G)):=λ_ e=>by
   obtain ⟨ρ',l⟩:=Ls h.2;rw [e];generalize pc ids c G=L at l;obtain ⟨s,R,y⟩:=L;refine ⟨ρ',l.ag,l.le,?_,?_,l.rl,l.rp,?_⟩
   .have:=l.eq;simp only [ab,e9] at this ⊢;rw [this,Row.Dr l.ag h.1]
   .simp [bD,au];exact ⟨Row.gZ l.le h.1,l.lw⟩
   .have hb  :=l.bx;cases r with
    |box j t cs=>
     have u:=h.1;simp [Row.low,au] at u;show AV.al ρ' cs::(kq s).map (AV.al ρ')=AV.al ρ cs::(kq G).map (AV.al ρ);rw [hb,AV.cd l.ag _ u.2]
    |_=>exact hb
  cases r with
  |box j t vs=>
   cases hm:wQ j ids
   .grind [pc]
   .have b:=h.1;simp [Row.low,au,j5] at b;obtain ⟨p,l1⟩:=K7 (ρ:=ρ) b.2;have e:pc ids c (.box j t vs::G)=(match o7 c vs with
     |(cs,R,c)=>match pc ids c G with
      |(G,o,c)=>(.box j t cs::G,R++o,c)):=by simp [pc,hm]
    rw [e];generalize o7 c vs=L at l1;obtain ⟨cs,R,c1⟩:=L;obtain ⟨f,a⟩:=Ls (ρ:=p) (Ci l1.le h.2);dsimp only;generalize pc ids c1 G=L at a;obtain ⟨s,o,w⟩:=L;have m:c<=c1:=l1.le;have d:c1<=w:=a.le;have n  :=l1.ag.trans a.ag l1.le;refine ⟨f,n,dx m d,?_,?_,wm (Ci d l1.rl) a.rl,?_,?_⟩
    .have v:=a.eq;simp [ab,e9,Row.item] at v ⊢;have i  :=l1.lw;have k  :=l1.eq;rw [v,n _ b.1,AV.cd a.ag _ i,k];have:=ba (T:=[]) l1.ag h.2;grind
    .simp [bD,Row.low,au,j5];exact ⟨⟨by omega,AV.mL d _ l1.lw⟩,a.lw⟩
    .intro r b;rcases List.mem_append.1 b with b|b
     .have q  :=by
       have key:∀{R:List Row},bD c1 R=true->∀r∈R,r.low c1=true:=λ{R}=>by
        induction R with
        |nil=>intro _ r h;cases h
        |cons x R ih=>
         intro h r b;simp [bD] at h;grind
       exact key l1.rl r b
      rw [Row.Dr a.ag q];exact l1.rp r b
     .exact a.rp r b
    .have hb  :=a.bx;show AV.al f cs::(kq s).map (AV.al f)=AV.al ρ vs::(kq G).map (AV.al ρ);have i  :=l1.lw;have k  :=l1.eq;rw [hb,AV.cd a.ag _ i,k,N7 l1.ag h.2]
  |_=>exact g (λt cs j h=>by cases h) rfl
variable {G : List Row}
def BV(E F:aF)(t:Nat):Option AV:=match ez E F t with
 |some (none,v)=>some v
 |_=>none
theorem Ig{ρ:ay}{E F:aF}{t:Nat}{v:AV}(h:BV E F t=some v):look (az ρ [] E F) t=some (true,v.val ρ):=by
 unfold BV at h;split at h
 next b a=>cases h;rw [iW,a];simp
 .cases h
def Vo(st:aC)(fr:Fr):List (Bool×Nat×Pt)->zm
 |[]=>[]
 |x::l=>(aD x.1 (match ez st.E fr.F x.2.1 with
  |some (_,v)=>v.ids
  |none=>[]) [])++Vo st fr l
mutual
def akX(G H:List Row):Pt->AV->zm
 | .own _ _ _,v=>v.ids
 | .mp _ _ _,v=>v.ids
 | .it,v=>v.ids
 | .bx _ _ _ vs,v=>(match v with
  | .ptr j _=>j::O0 G H vs (cellsOf G H j)
  |_=>[])
 | .agg l,v=>(match v with
  | .agg vs=>O0 G H l vs
  |_=>[])
 | .cU l,v=>(match v with
  | .tuple vs=>O0 G H l vs
  |_=>[])
 | .fn _ a b,v=>(match v with
  | .fn _ a' b'=>O0 G H a a'++O0 G H b b'
  |_=>[])
 | .ifc _ p,v=>(match v with
  | .ifc _ u=>akX G H p u
  |_=>[])
 | .dat _ o,v=>aD (o.all (λx=>x.isNone)) [] v.ids
 |_,_=>[]
def O0(G H:List Row):List Pt->List AV->zm
 |[],_=>[]
 |p::l,vs=>(match vs with
  |v::vs=>akX G H p (y6 G H v)++O0 G H l vs
  |[]=>[])
end
def amE(st:aC)(fr:Fr):List (Bool×Nat×Pt)->zm
 |[]=>[]
 |x::l=>(match ez st.E fr.F x.2.1 with
  |some (_,v)=>akX st.G fr.H x.2.2 (y6 st.G fr.H v)
  |none=>[])++amE st fr l
structure En where
 fr:Fr
 E:aF
 G:List Row
 Et:aF
 Gt:List Row
 c:Nat
 fix:Nat->jB
def ale(E F:aF)(G:List Row)(t:Nat):jB:=match ez E F t with
 |some (_,v)=>some (v,match v with
  | .ptr j _=>cellsOf G [] j
  |_=>[])
 |none=>none
def enter(fr:Fr)(tm:Tm)(m:Nat)(st:aC):En:=
 let ids:=amE st fr tm.vs++reach st fr tm.th
 match pc (Vo st fr tm.vs) st.c (bn (ij ids) st.G) with
 |(Gt,R,c)=>⟨⟨rX m tm.vs st.E++fr.F,(R++bn (λr=> !(ij ids r)) st.G)++fr.H,fr.n⟩,rX m tm.vs st.E,R++bn (λr=> !(ij ids r)) st.G,tK m tm.vs st.E,Gt,c,ale st.E fr.F Gt⟩
structure aty(fr:Fr)(st:aC)(Φ:Ctx)(w:World)(ρ ρ':ay)(en:En):Prop where
 ag:aS st.c ρ ρ'
 le:st.c<=en.c
 ff:en.fr.F=en.E++fr.F
 fh:en.fr.H=en.G++fr.H
 fn:en.fr.n=fr.n
 lF:aF.low en.c en.fr.F=true
 lH:bD en.c en.fr.H=true
 sub:lM (az ρ' [] en.Et en.fr.F) (az ρ [] st.E fr.F)
 sat:Sat (ab ρ' [] en.Gt++(ab ρ' [] en.fr.H++Φ)) w
 fx:∀t q,en.fix t=some q->q.1.low en.c=true/\AV.cq en.c q.2=true
theorem aF.gZ{c d:Nat}(a:c<=d):{E:aF}->E.low c=true->E.low d=true
 |[],_=>rfl
 |x::E,h=>by simp only [aF.low,au] at h ⊢;exact ⟨AV.gZ a _ h.1,aF.gZ a h.2⟩
theorem aF.Kl{c:Nat}:{E F:aF}->E.low c=true->F.low c=true->aF.low c (E++F)=true
 |[],_,_,h=>h
 |x::E,F,h,k=>by simp only [qb,aF.low,au] at h ⊢;exact ⟨h.1,aF.Kl h.2 k⟩
theorem KR{c:Nat}:{E:aF}->E.low c=true->{t:Nat}->{x:GK×AV}->bC E t=some x->x.2.low c=true
 |[],_,_,_,h=>by cases h
 |(t',g,v)::E,h,t,x,hx=>by
  simp only [aF.low,au] at h;cases hb:Nat.beq t' t
  .rw [jx hb] at hx;exact KR h.2 hx
  .rw [oR hb] at hx;cases hx;exact h.1
theorem M3{c m:Nat}{vs:List (Bool×Nat×Pt)}:{E:aF}->E.low c=true->(rX m vs E).low c=true
 |[],_=>rfl
 |x::E,h=>by
  simp only [aF.low,au] at h;unfold rX;cases DN m vs x.1
  .exact M3 h.2
  .show aF.low c (x::rX m vs E)=true;simp only [aF.low,au];exact ⟨h.1,M3 h.2⟩
theorem Mx{c m:Nat}{vs:List (Bool×Nat×Pt)}:{E:aF}->E.low c=true->(tK m vs E).low c=true
 |[],_=>rfl
 |x::E,h=>by
  simp only [aF.low,au] at h;unfold tK;cases DN m vs x.1
  .show aF.low c (x::tK m vs E)=true;simp only [aF.low,au];exact ⟨h.1,Mx h.2⟩
  .exact Mx h.2
theorem G9{c:Nat}{p:Row->Bool}:{G:List Row}->bD c G=true->bD c (bn p G)=true
 |[],_=>rfl
 |r::G,h=>by
  simp only [bD,au] at h;unfold bn;cases p r
  .exact G9 h.2
  .show bD c (r::bn p G)=true;simp only [bD,au];exact ⟨h.1,G9 h.2⟩
theorem adu{c:Nat}{j:Nat}(h:bD c G=true):AV.cq c (cellsOf G [] j)=true:=by
 unfold cellsOf;split
 .rename_i s d t cs b;obtain ⟨a,_⟩:=bZ b;cases s with
  |top i=>
   have:=vj h (show G[i]? =some _ from a);simp only [Row.low,au] at this;exact this.2
  |cB i=>have a:([]:List Row)[i]? =some _:=a;simp at a
  |nilI=>exact a.elim
  |nilO=>exact a.elim
  |nilM=>exact a.elim
 .rfl
theorem ani{c:Nat}{E F:aF}(e:E.low c=true)(d:F.low c=true)(b:bD c G=true){t:Nat}{q:AV×List AV}(h:ale E F G t=some q):q.1.low c=true/\AV.cq c q.2=true:=by
 unfold ale at h;split at h
 .rename_i v a;cases h;refine ⟨?_,?_⟩
  .unfold ez at a;split at a
   next x hx=>cases a;exact KR e hx
   .exact KR d a
  .split
   .exact adu b
   .rfl
 .cases h
theorem Bp{fr:Fr}{tm:Tm}{m:Nat}{st:aC}{ρ:ay}{Φ:Ctx}{w:World}(hl:st.low fr=true)(C:Sat (ab ρ [] st.G++(ab ρ [] fr.H++Φ)) w):∃ρ',aty fr st Φ w ρ ρ' (enter fr tm m st):=by
 obtain ⟨l1,e,s,o⟩:=aC.cJ.1 hl;unfold enter;dsimp only;generalize amE st fr tm.vs++reach st fr tm.th=ids;have i:=ud (A:=[]) (p:=ij ids) C;obtain ⟨ρ',l⟩:=Ls (ids:=Vo st fr tm.vs) (c:=st.c) (ρ:=ρ) (G9 (p:=ij ids) s);generalize pc (Vo st fr tm.vs) st.c (bn (ij ids) st.G)=L at l;obtain ⟨Gt,R,c⟩:=L;have a:st.c<=c:=l.le;have v:=M3 (m:=m) (vs:=tm.vs) l1;have hp:=G9 (p:=λr=> !(ij ids r)) s;refine ⟨ρ',l.ag,a,rfl,rfl,rfl,?_,?_,?_,?_,λt q I=>?_⟩
 .exact aF.Kl (aF.gZ a v) (aF.gZ a e)
 .exact wm (wm l.rl (Ci a hp)) (Ci a o)
 .have n:az ρ' [] (tK m tm.vs st.E) (rX m tm.vs st.E++fr.F)=az ρ [] (tK m tm.vs st.E) (rX m tm.vs st.E++fr.F):=by rw [az,az,uk l.ag (Mx l1),uk l.ag (aF.Kl v e)]
  show lM (az ρ' [] (tK m tm.vs st.E) (rX m tm.vs st.E++fr.F)) _;rw [n];exact aj6 λt=>afw
 .show Sat (ab ρ' [] Gt++(ab ρ' [] ((R++bn (λr=> !(ij ids r)) st.G)++fr.H)++Φ)) w;have n:ab ρ' [] Gt=ab ρ [] (bn (ij ids) st.G):=l.eq;have T:ab ρ' [] (bn (λr=> !(ij ids r)) st.G++fr.H)=ab ρ [] (bn (λr=> !(ij ids r)) st.G++fr.H):=ba l.ag (wm hp o);rw [cx,bg,n,T];have g:Sat (ab ρ [] (bn (ij ids) st.G)++(ab ρ [] (bn (λr=> !(ij ids r)) st.G++fr.H)++Φ)) w:=by simpa using i
  have d:∀(L:List Item) (A B:Ctx),(∀it∈L,it.cO=true/\∀M w,it.P M w)->Sat (A++B) w->Sat (A++(L++B)) w:=λL A B u h=>by
   have z:=Fe h L (λit bI=>⟨(u it bI).1,(u it bI).2 _ _⟩);have mv:∀(L:List Item) (A B:Ctx),Sat (L++(A++B)) w->Sat (A++(L++B)) w:=λL=>by
    induction L with
    |nil=>intro A B h;exact h
    |cons x L ih=>
     intro A B h;have y:Sat ([]++x::((L++A)++B)) w:=by simpa using h
     have Q:Sat ([]++((L++A)++x::B)) w:=y.move;have O:Sat (L++(A++x::B)) w:=by simpa using Q
     have N:Sat (A++(L++x::B)) w:=ih _ _ O;have K:Sat (A++(L++[x]++B)) w:=by simpa using N
     -- x goes ahead of L
     refine K.CZ (λj k=>(j<A.length/\k=j)\/(j=A.length/\k=A.length+L.length)\/(A.length<j/\j<=A.length+L.length/\k+1=j)\/(A.length+L.length<j/\k=j)) (λj f b=>?_) (λj k q J z y=>by omega);by_cases c1:j<A.length
     .rw [ec c1] at b;exact .inr ⟨j,f,.inl ⟨c1,rfl⟩,by rw [ec c1];exact b,bX.refl⟩
     .rw [de (by omega)] at b;by_cases V:j=A.length
      .subst V;simp at b;subst b;refine .inr ⟨A.length+L.length,x,.inr (.inl ⟨rfl,rfl⟩),?_,bX.refl⟩;rw [de (by omega)];have:A.length+L.length-A.length=L.length:=by omega
       rw [this];simp
      .have S:j-A.length=(j-A.length-1)+1:=by omega
       rw [S,qb,hU] at b;by_cases U:j<=A.length+L.length
       .rw [ec (by omega)] at b;refine .inr ⟨j-1,f,.inr (.inr (.inl ⟨by omega,U,by omega⟩)),?_,bX.refl⟩;rw [de (by omega),cx,ec (by omega)];rw [show j-1-A.length=j-A.length-1 by omega];exact b
       .rw [de (by omega)] at b;refine .inr ⟨j,f,.inr (.inr (.inr ⟨by omega,rfl⟩)),?_,bX.refl⟩;rw [de (by omega),de (by simp;omega)];have:j-A.length-(L++[x]).length=j-A.length-1-L.length:=by simp;omega
        rw [this];exact b
   exact mv L A B z
  have:=d (ab ρ' [] R) (ab ρ [] (bn (ij ids) st.G)) (ab ρ [] (bn (λr=> !(ij ids r)) st.G++fr.H)++Φ) (λit bI=>by obtain ⟨r,D,rfl⟩:=List.mem_map.1 bI;exact l.rp r D) g
  simpa using this
 .exact ani (aF.gZ a l1) (aF.gZ a e) l.lw I
def S9(G H:List Row)(look:Nat->Option AV)(fix:Nat->jB):List (Bool×Nat×Pt)->zm
 |[]=>[]
 |x::l=>(match (aD x.1 ((fix x.2.1).map (·.1)) (look x.2.1)) with
  |some v=>yf G H x.2.2 v
  |none=>[])++S9 G H look fix l
def Vp(F:aF)(vs:List (Bool×Nat×Pt)):aF->Bool
 |[]=>true
 |x::E=>(QZ x.1 vs||uU (bC F x.1))&&Vp F vs E
def Pe(en:En)(tm:Tm)(E:aF)(G:List Row):List Row:=cB (S9 G en.fr.H (BV E en.fr.F) en.fix tm.vs) G
def nP(en:En)(tm:Tm)(E:aF)(G:List Row):Option (fS (jo tm.vs)):=
 match mtV (Pe en tm E G) en.fr.H (BV E en.fr.F) en.fix tm.vs [] with
 |some mr=>aD (Iw (mr.S.map λx=>dG (Pe en tm E G) en.fr.H x.2)&&Qz (Pe en tm E G).length (mr.S.map λx=>dG (Pe en tm E G) en.fr.H x.2)&&Vp en.fr.F tm.vs E) (cU _ mr.D) none
 |none=>none
def rowsOf(R:List (Bool×Row)):List Row:=R.map (·.2)
def cR(en:En)(tm:Tm)(s:fS (jo tm.vs))(h:HT):aC:=match gJ (λn=>en.c+n) en.fix tm.vs 0 (jb _ s) with
 |⟨E,R,k,_⟩=>⟨en.c+k,E,rowsOf R,h⟩
def jk(en:En)(tm:Tm)(s:fS (jo tm.vs))(h:HT):aC:=match gJ (λn=>en.c+n) en.fix tm.vs 0 (jb _ s) with
 |⟨E,R,k,_⟩=>⟨en.c+k,E++en.E,rowsOf R++en.G,h⟩
def A8(e:XE)(en:En)(st:aC):aC:=match e with
 | .panL _=>{ st with E:=st.E++en.E,G:=st.G++dB en.G }
 |_=>{ st with E:=st.E++en.E,G:=st.G++en.G }
theorem Sat.Um{w:World}{A C:Ctx}:∀{B:Ctx},Sat (A++(B++C)) w->Sat (A++C) w
 |[],h=>h
 |_x::B,h=>Sat.Um (B:=B) (Sat.DL h)
theorem Xw{nm:Nat->Nat}{fix:Nat->jB}{t:Nat}:{l:List (Bool×Nat×Pt)}->{n:Nat}->{D:List cr}->QZ t l=true->bC (gJ nm fix l n D).E t≠none
 |[],n,D,h=>by cases h
 |(b,t',p)::l,n,D,h=>by
  unfold gJ;dsimp only;generalize fill nm p (aD b (fix t') none) none n D=L;obtain ⟨v,R,k,c,j⟩:=L;dsimp only;generalize d:gJ nm fix l k c=f;obtain ⟨a,m,i,g⟩:=f;dsimp only;have ih:QZ t l=true->bC a t≠none:=λe=>by have:=Xw (nm:=nm) (fix:=fix) (n:=k) (D:=c) e;rw [d] at this;exact this
  simp only [QZ,eZ,au] at h;cases b
  .show bC ((t',none,v)::a) t≠none;cases hb:Nat.beq t' t
   .rw [jx hb];rcases h with ⟨_,h⟩|h
    .rw [hb] at h;cases h
    .exact ih h
   .rw [oR hb];simp
  .show bC a t≠none;rcases h with ⟨h,_⟩|h
   .cases h
   .exact ih h
theorem aaz{F:aF}{vs:List (Bool×Nat×Pt)}{t:Nat}:{E:aF}->{x:GK×AV}->Vp F vs E=true->bC E t=some x->QZ t vs=true\/bC F t=none
 |[],x,_,h=>by cases h
 |(t',g,v)::E,x,hb,h=>by
  simp only [Vp,au,eZ] at hb;cases b:Nat.beq t' t
  .rw [jx b] at h;exact aaz hb.2 h
  .have e:=b0 b;subst e;rcases hb.1 with a|a
   .exact .inl a
   .cases c:bC F t' with
    |none=>exact .inr rfl
    |some y=>rw [c] at a;cases a
section
variable {en : En} {tm : Tm} {Φ : Ctx} {w : World} {ρ : ay}
theorem sW{E:aF}{s:fS (jo tm.vs)}(lF:aF.low en.c en.fr.F=true)(lH:bD en.c en.fr.H=true)(fx:∀t q,en.fix t=some q->q.1.low en.c=true/\AV.cq en.c q.2=true)
  (Z:Sat (ab ρ [] G++(ab ρ [] en.fr.H++Φ)) w) (h:nP en tm E G=some s):
  ∃ρ' E' R k D,gJ (λn=>en.c+n) en.fix tm.vs 0 (jb _ s)=⟨E',R,k,D⟩/\aS en.c ρ ρ'/\lM (az ρ' [] E' en.fr.F) (az ρ [] E en.fr.F)/\Sat (ab ρ' [] (rowsOf R)++(ab ρ' [] en.fr.H++Φ)) w:=by
 unfold nP at h;have d:=lQ (ids:=S9 G en.fr.H (BV E en.fr.F) en.fix tm.vs) Z;change Sat (ab ρ [] (Pe en tm E G)++_) w at d;generalize Pe en tm E G=G' at h d;split at h
 .rename_i P hm;obtain ⟨Q,h2⟩:=aI h;simp only [au] at Q;obtain ⟨⟨h3,h4⟩,h5⟩:=Q;obtain ⟨N,I,o,n1,a1⟩:=Vg d tm.vs [] P [] hm .nil;rw [<-DQ _ h2] at o;obtain ⟨p1,_⟩:=OU d a1;obtain ⟨O,_⟩:=Bm d p1 (Bi h3);rw [Fz h4] at O;have W:=O.Um
  -- names
  have b:aS en.c ρ (λi=>aD (Nat.blt i en.c) (ρ i) ((N[i-en.c]?).getD dA)):=λj hj=>by
   have:Nat.blt j en.c=true:=by simpa using hj
   simp only [this]
  have l:yn (λi=>aD (Nat.blt i en.c) (ρ i) ((N[i-en.c]?).getD dA)) (λn=>en.c+n) 0 N:=λi a ha=>by
   have:Nat.blt (en.c+i) en.c=false:=by
    cases hb:Nat.blt (en.c+i) en.c
    .rfl
    .simp only [j5] at hb;omega
   simp only [this,show en.c+i-en.c=i by omega,ha,qG];exact ⟨trivial,trivial,trivial,λ_=>trivial⟩
  generalize (λi=>aD (Nat.blt i en.c) (ρ i) ((N[i-en.c]?).getD dA))=ρ' at b l;have e1:(λi=>iK ρ (en.fix i))=λi=>iK ρ' (en.fix i):=by
   funext i
   cases hq:en.fix i with
   |none=>rfl
   |some q=>
    obtain ⟨k1,Y⟩:=fx i q hq;show some (q.1.val ρ,AV.al ρ q.2)=some (q.1.val ρ',AV.al ρ' q.2);rw [AV.oB b _ k1,AV.cd b _ Y]
  rw [e1] at o;obtain ⟨M,U,S,K⟩:=QM (T:=[]) (nm:=λn=>en.c+n) tm.vs [] (jb _ s) I (fw ρ P.X) N o (ace hm) l (pF _) [];simp only [ko,qf] at M U S K;generalize hF:gJ (λn=>en.c+n) en.fix tm.vs 0 (jb _ s)=L at M U S K;obtain ⟨E',R,k,D⟩:=L;refine ⟨ρ',E',R,k,D,rfl,b,λt p hp=>?_,?_⟩
  .rw [iW] at hp;cases hk:bC E' t with
   |some x=>
    have r:look (aF.env ρ' [] E') t=some (aB.get [] x.1,x.2.val ρ'):=by rw [A5,hk];rfl
    obtain ⟨c1,g⟩:=M t _ r;have J:ez E' en.fr.F t=some x:=by unfold ez;rw [hk]
    rw [J] at hp;simp only [mj,ej] at hp;subst hp;simp only at c1 g;cases f:BV E en.fr.F t with
    |none=>rw [f] at g;cases g
    |some v=>
     rw [f] at g;simp only [mj,ej] at g;rw [Ig f,c1,g]
   |none=>
    have J:ez E' en.fr.F t=bC en.fr.F t:=by unfold ez;rw [hk]
    rw [J] at hp;cases e:bC en.fr.F t with
    |none=>rw [e] at hp;cases hp
    |some y=>
     rw [e] at hp;simp only [mj,ej] at hp;have u:bC E t=none:=by
      cases u:bC E t with
      |none=>rfl
      |some z=>
       rcases aaz h5 u with m|m
       .have:=Xw (nm:=λn=>en.c+n) (fix:=en.fix) (n:=0) (D:=jb _ s) m;rw [hF] at this;exact (this hk).elim
       .rw [e] at m;cases m
     rw [iW];unfold ez;rw [u,e,<-hp];simp only [mj];rw [AV.oB b _ (KR lF e)]
  .have V:=Sat.leL (A:=[]) (B:=dH I) (C:=ab ρ [] en.fr.H++Φ) W K.rw;rw [ba b lH];exact V
 .cases h
end
variable {fr : Fr}
def aoj(P:Program)(o:Oper):Bool:=match o.op with
 | .store ..|.alloc _|.box ..|.buildSlice ..|.makeSlice ..|.makeMap ..|.mapUpdate ..|.insert ..|.range ..|.next ..|.defer _|.panic _=>true
 | .convert s d _=>isStr P s&& !(isStr P d)
 | .call ⟨.builtin b,_,_⟩=>(match b with
  | .len|.cap|.min|.max|.unsafeSliceData=>false
  |_=>true)
 | .call _=>true
 |_=>false
def aga(q:Bool)(m:Nat):Nat->List (Nat×Bool)->ze
 |_,[]=>none
 |k,x::l=>aD ( Xb x.2 (!q)&& !(Nat.testBit m k)&&KA x.1 m ) ( some k )<|aga q m (k+1) l
def aar(l:List (Nat×Bool)):Nat->Nat->OT
 |0,_=> .nil
 |n+1,m=>match aga true m 0 l with
  |some k=> .q k m (aar l n (bit m k))
  |none=>match aga false m 0 l with
   |none=> .nil
   |some k=>match aga false m (k+1) (l.drop (k+1)) with
    |none=> .l k m (aar l n (bit m k))
    |some j=> .l2 m k (aar l n (bit m k)) j (aar l n (bit m j))
def atE(o:Oper):Bool:=match o.op,o.guard with
 | .alloc _,none=>true
 | .buildSlice .., none=>true
 |_,_=>false
def amW(kd m:Nat):Nat->List (Nat×Nat)->Option (Nat×Nat)
 |_,[]=>none
 |k,x::l=>aD ( Nat.beq x.2 kd&& !(Nat.testBit m k)&&KA x.1 m ) ( some (k,x.1) )<|amW kd m (k+1) l
def Wc(m:Nat):Nat->List (Nat×Nat)->zm
 |_,[]=>[]
 |k,x::l=>aD ( Nat.beq x.2 2&& !(Nat.testBit m k)&&KA x.1 m ) ( k::Wc m (k+1) l )<|Wc m (k+1) l
def am6(l:List (Nat×Nat)):Nat->Nat->OT
 |0,_=> .nil
 |n+1,m=>match amW 0 m 0 l with
  |some p=> .q p.1 m (am6 l n (bit m p.1))
  |none=>match amW 1 (lG m (Wc m 0 l)) 0 l with
   |none=> .nil
   |some p=> .f p.1 m (Wc m 0 l) ((Wc m 0 l).filter λf=>Nat.testBit p.2 f) (am6 l n (bit (lG m ((Wc m 0 l).filter λf=>Nat.testBit p.2 f)) p.1))
def aoi{R:Type}(X:Cx)(tb:List aA)(tp:List bY)(KP:AV->aC->Option R)(ops:zg)(fr:Fr)(th:zm)(t:OT)(st:aC)(K:cL R):Option R:=
 aD ( X.P.follows .mixedOrders&&aci ops (ops.toList.map λo=>lu o.after.toList) t ) (
  tq X tb tp KP ops.toList fr t (bn (λr=> !(ij (reach st fr th) r)) st.G) [] [] { st with G:=bn (ij (reach st fr th)) st.G } K ) none
def am3(fr:Fr)(st:aC):zm->zm
 |[]=>[]
 |t::th=>aD (Nat.ble 20000 t) ((match ez st.E fr.F (t-20000) with
  |some (_,v)=>AV.fJ v++(match v with
   | .ptr id _=>(match tE (Bv id) st.G with
    |some (_,.box _ _ cs)=>((cs.map (y6 st.G fr.H)).map AV.fJ).flatten
    |_=>[])
   |_=>[])
  |none=>[])++am3 fr st th) (am3 fr st th)
def Rh(fr:Fr)(st:aC)(th:zm):aC:=match am3 fr st th with
 |[]=>st
 |ids=>{ st with G:=cB ids st.G }
theorem afj{st:aC}{th:zm}{ρ:ay}{T:aB}{B:Ctx}{w:World}(h:Sat (ab ρ T st.G++B) w):
  (Rh fr st th).c=st.c/\(Rh fr st th).E=st.E/\Sat (ab ρ T (Rh fr st th).G++B) w:=by
 unfold Rh;split
 .exact ⟨rfl,rfl,h⟩
 .exact ⟨rfl,rfl,lQ h⟩
def Lt{R:Type}(X:Cx)(tb:List aA)(tp:List bY)(KP:AV->aC->Option R)(ops:zg)(fr:Fr)(th:zm)(st:aC)(K:cL R):Option R:=
 aoi X tb tp KP ops fr th (cond (ey 40000 th) (am6 (ops.toList.map λo=>(lu o.after.toList,cond (atE o) 2 (cond (aoj X.P o) 1 0))) ops.toList.length 0) (aar (ops.toList.map λo=>(lu o.after.toList,aoj X.P o)) ops.toList.length 0)) (Rh fr st th) K
abbrev brk{R:Type}(i:Nat)(K:XE->aC->Option R):XE->aC->Option R
 | .ext j,st=>aD ( Nat.beq j i ) ( K .nrm st ) ( K (.ext j) st )
 |e,st=>K e st
abbrev yh{R:Type}(K1:aC->Option R)(K:XE->aC->Option R):XE->aC->Option R
 | .nrm,st=>K1 st
 |e,st=>K e st
abbrev cnd{R:Type}(b:Bool)(d1 d2:HT->Option R)(h:HT):Option R:=match h with
 | .c p q=>cond b (d1 p) (d2 q)
 |h=>cond b (d1 h) (d2 h)
def aaD(fr:Fr)(st:aC):aC:=match st.h with
 | .r (30000::th) h=>Rh fr { st with h:=h } th
 |_=>st
theorem aoT{st:aC}{ρ:ay}{T:aB}{B:Ctx}{w:World}(h:Sat (ab ρ T st.G++B) w):
  (aaD fr st).c=st.c/\(aaD fr st).E=st.E/\Sat (ab ρ T (aaD fr st).G++B) w:=by
 unfold aaD;split
 next th a _=>exact afj (st:={ st with h:=a }) h
 .exact ⟨rfl,rfl,h⟩
def alz(v:AV)(i:Nat):Option (Int×(Int->AV)):=match v with
 | .int k x=>(match i with
  |0=>some (x,.int k)
  |_=>none)
 | .agg l=>(match i with
  |0=>none
  |j+1=>(match l[j]? with
   |some (.int k x)=>some (x,λy=> .agg (l.set j (.int k y)))
   |_=>none))
 |_=>none
theorem apV{v:AV}{i:Nat}{p:Int×(Int->AV)}(h:alz v i=some p):p.2 p.1=v:=by
 unfold alz at h;split at h
 .split at h
  .cases h;rfl
  .cases h
 .split at h
  .cases h
  .rename_i l j;split at h
   next k x hx=>cases h;simp only;congr 1;obtain ⟨b,a⟩:=List.getElem?_eq_some_iff.1 hx;rw [<-a];exact List.set_getElem_self b
   .cases h
 .cases h
def abY{R:Type}(F:aF)(t i:Nat)(k:aC->Option R):zm->HT->aC->Option R
 |v::vs,h,st=>(match h with
  | .c h hs=>(match ez st.E F t with
   |some (none,av)=>(match alz av i with
    |some p=>cond (p.1==(v:Int)) (k { st with h:=h,E:=(t,none,p.2 (v:Int))::st.E }) (abY F t i k vs hs st)
    |none=>none)
   |_=>none)
  |_=>none)
 |[],h,st=>(match h with
  | .n 77777 _=>none
  |h=>k { st with h:=h })
theorem adP{R:Type}{r:R}{F:aF}{t i:Nat}{k:aC->Option R}{st:aC}:∀{vs:zm} {h:HT},abY F t i k vs h st=some r->
  ∃st',k st'=some r/\st'.c=st.c/\st'.G=st.G/\∀ρ T,lM (az ρ T st'.E F) (az ρ T st.E F)
 |[],h,hh=>by
  unfold abY at hh;split at hh
  .cases hh
  .exact ⟨_,hh,rfl,rfl,λ_ _=> .refl⟩
 |v::vs,h,hh=>by
  unfold abY at hh;split at hh
  .rename_i j f;split at hh
   .rename_i av b;split at hh
    .rename_i p hp;rcases wK hh with ⟨e,d⟩|⟨_,d⟩
     .refine ⟨_,d,rfl,rfl,λρ T u x hx=>?_⟩;have g:p.2 (v:Int)=av:=by rw [<-apV hp,eq_of_beq e]
      have hl:look (az ρ T st.E F) t=some (true,av.val ρ):=by rw [iW,b];simp
      show look (az ρ T st.E F) u=some x;rw [g] at hx;have a:look ((t,true,av.val ρ)::az ρ T st.E F) u=some x:=by simpa [az,aF.env] using hx
      unfold look at a;cases hb:Nat.beq t u
      .rw [hb] at a;exact a
      .rw [hb] at a;have:=b0 hb;subst this;rw [hl];exact a
     .exact adP d
    .cases hh
   .cases hh
  .cases hh
abbrev frL(fr:Fr):Fr:=⟨fr.F,dB fr.H,fr.n⟩
abbrev stL(fr:Fr)(st:aC)(h:HT):aC:={ st with G:=st.G++bn cX fr.H,h:=h }
abbrev toL{R:Type}(K:XE->aC->Option R):XE->aC->Option R
 | .panE v,st=>K (.panL v) st
 |_,_=>none
abbrev asl{R:Type}(X:Cx)(tb:List aA)(tp:List bY)(ops:zg)(fr:Fr)(K:XE->aC->Option R)(st:aC):Option R:=
 FH X tb tp (λb v st=>K (aD b (.panL v) (.panE v)) st) ops.toList fr ops.toList [] st (K .nrm)
def den{R:Type}(X:Cx)(tb:List aA)(tp:List bY):Code->Fr->(XE->aC->Option R)->aC->Option R
 | .skip,_,K,st=>K .nrm st
 | .label _,_,K,st=>K .nrm st
 | .exit i,_,K,st=>K (.ext i) st
 | .goto l,_,K,st=>K (.gto l) st
 | .ret,_,K,st=>K .ret st
 | .block i c,fr,K,st=>den X tb tp c fr (brk i K) (aaD fr st)
 | .cond c x y,fr,K,st=>match bw [] st.E fr.F none c with
  |some (.bool b)=>cnd b (λh=>den X tb tp x fr K { st with h:=h }) (λh=>den X tb tp y fr K { st with h:=h }) st.h
  |_=>none
 | .seq x y,fr,K,st=>match st.h with
  | .j tm p q=>aD (st.low fr) (
   ai (λs:fS (jo tm.vs)=>den X tb tp y fr K (jk (enter fr tm (cQ x) st) tm s q)) λk=>
   den X tb tp x (enter fr tm (cQ x) st).fr (yh (λst'=>match nP (enter fr tm (cQ x) st) tm st'.E st'.G with
     |some s=>k s
     |none=>none) (λe st'=>K e (A8 e (enter fr tm (cQ x) st) st'))) ⟨(enter fr tm (cQ x) st).c,(enter fr tm (cQ x) st).Et,(enter fr tm (cQ x) st).Gt,p⟩ ) none
  | .s h=>den X tb tp x fr (yh (den X tb tp y fr K) K) { st with h:=h }
  | .r (60000::t::i::vs) h=>abY fr.F t i (λst=>den X tb tp x fr (yh (den X tb tp y fr K) K) st) vs h st
  |_=>den X tb tp x fr (yh (den X tb tp y fr K) K) st
 | .loop c,fr,K,st=>match st.h with
  | .l tm p=>aD (st.low fr) (
   match nP (enter fr tm (cQ c) st) tm (enter fr tm (cQ c) st).Et (enter fr tm (cQ c) st).Gt with
   |some s=>aj (λagain s=>den X tb tp c (enter fr tm (cQ c) st).fr (yh (λst'=>match nP (enter fr tm (cQ c) st) tm st'.E st'.G with
      |some s=>again s
      |none=>none) (λe st'=>K e (A8 e (enter fr tm (cQ c) st) st'))) (cR (enter fr tm (cQ c) st) tm s p)) X.fl s
   |none=>none ) none
  | .n k h=>aj (λagain st=>den X tb tp c fr (yh again K) st) k { st with h:=h }
  |_=>none
 | .region _ ops false,fr,K,st=>match st.h with
  | .r (80000::_) h=>asl X tb tp ops (frL fr) (toL K) (stL fr st h)
  |_=>asl X tb tp ops fr K st
 | .region _ ops true,fr,K,st=>match st.h with
  | .r th h=>Lt X tb tp (λv st=>K (.kh v) st) ops fr th { st with h:=h } (K .nrm)
  |_=>Lt X tb tp (λv st=>K (.kh v) st) ops fr [] st (K .nrm)
 |_,_,_,_=>none
def XE.ex:XE->Exit
 | .nrm=> .normal
 | .ret=> .ret
 | .ext i=> .exit i
 | .gto l=> .goto l
 | .kh _=> .goto 0
 | .panE _=> .goto 0
 | .panL _=> .goto 0
def Ox(Q:bh)(e:XE)(ρ:ay)(n:Nat)(D:x3)(E:Env)(w:World):Prop:=match e with
 | .kh v=>EH Q (kh (v.val ρ)) D w
 | .panE v=>At Q (.panic (kh (v.val ρ))) n D E w
 | .panL v=>At Q (.panic (kh (v.val ρ))) n D E w
 |e=>At Q e.ex n D E w
abbrev hx(e:XE)(fr:Fr):List Row:=match e with
 | .panL _=>dB fr.H
 |_=>fr.H
def lL{R:Type}(Q:bh)(D:x3)(fr:Fr)(Φ:Ctx)(c0:Nat)(ρ0:ay)(r:R)(K:XE->aC->Option R):Prop:=
 ∀e st ρ w,aS c0 ρ0 ρ->c0<=st.c->K e st=some r->Sat (ab ρ [] st.G++(ab ρ [] (hx e fr)++Φ)) w->Ox Q e ρ fr.n D (az ρ [] st.E fr.F) w
theorem lL.less{R:Type}{Q:bh}{D:x3}{Φ:Ctx}{c0 c1:Nat}{ρ0 a:ay}{r:R}{K:XE->aC->Option R}(h:lL Q D fr Φ c0 ρ0 r K)(ha:aS c0 ρ0 a)(b:c0<=c1):lL Q D fr Φ c1 a r K:=
 λe st ρ w g f d c=>h e st ρ w (ha.trans g b) (dx b f) d c
section
variable {P : Program} {ρ : ze} {Q : bh} {n : Nat} {D : x3} {E : Env} {w : World}
theorem QC{σ γ τ:Type}{F:(σ->Option τ)->σ->Option τ}{r:τ}(J:σ->γ->World->Prop)(c:σ->γ->Env){body:Code}
  {N:Nat} {b:σ} (hm:aj F N b=some r) (f:γ) (t:J b f w) (p:lM (c b f) E)
  (round:∀again s g w,F again s=some r->J s g w->WC P ρ body (Exit.then (OS again r J c n D) Q) n D (c s g) w):
  WC P ρ (.loop body) Q n D E w:=λa k hd=>
 IG (λm=>OS (aj F m) r J c n D) N ⟨b,f,hm,t,k.rz p,hd⟩ λm a w ⟨s,g,j,l,o,q⟩=>by
  obtain ⟨i,rfl,d⟩:=NO j;exact wpIn_mono (round (aj F i) s g w d l a o q) λe a w h=>by cases e <;> first|exact h|exact ⟨i,l7 _,h⟩
theorem OE{σ γ τ:Type}{a:σ->Option τ}{r:τ}{J:σ->γ->World->Prop}{b:σ->γ->Env}
  (s:σ) (g:γ) (hm:a s=some r) (e:J s g w) (c:lM (b s g) E):At (Exit.then (OS a r J b n D) Q) .normal n D E w:=
 λf d hd=>⟨s,g,hm,e,d.rz c,hd⟩
theorem alj{γ:Type}{J:γ->World->Prop}{a:γ->Env}(g:γ)(d:J g w)(b:lM (a g) E):At (Exit.then (Sq J a n D) Q) .normal n D E w:=
 λe c hd=>⟨g,d,c.rz b,hd⟩
theorem jL{K:Act->World->Prop}{e:XE}{ρ:ay}(a:e≠ .nrm)(h:Ox Q e ρ n D E w):Ox (Exit.then K Q) e ρ n D E w:=by cases e <;> first|exact (a rfl).elim|exact h
end
section
variable {X : Cx} {tb : List aA} {tp : List bY} {σ : ze} {D : x3} {R : Type} {r : R} {Φ : Ctx}
theorem Rn{Q:bh}{c0 i:Nat}{ρ0:ay}{K:XE->aC->Option R}(h:lL Q D fr Φ c0 ρ0 r K):lL (Exit.inBlock i Q) D fr Φ c0 ρ0 r (brk i K):=λe st ρ w d c b a=>by
 cases e with
 |nrm=>exact YF (h .nrm st ρ w d c b a)
 |ret=>exact afQ (h .ret st ρ w d c b a)
 |gto l=>exact adq (h (.gto l) st ρ w d c b a)
 |kh v=>exact apd (h (.kh v) st ρ w d c b a)
 |panE v=>exact MU (h (.panE v) st ρ w d c b a)
 |panL v=>exact MU (h (.panL v) st ρ w d c b a)
 |ext j=>
  unfold brk at b;rcases eo b with ⟨g,f⟩|⟨g,f⟩
  .have:=b0 g;subst this;exact acV (h .nrm st ρ w d c f a)
  .exact aaE g (h (.ext j) st ρ w d c f a)
theorem ry{b:aC->Option R}{K:XE->aC->Option R}{e:XE}{st:aC}(a:e≠ .nrm):yh b K e st=K e st:=by cases e <;> first|exact (a rfl).elim|rfl
theorem xm{Q:bh}{c0:Nat}{ρ0 a:ay}{en:En}{K:XE->aC->Option R}(h:lL Q D fr Φ c0 ρ0 r K)(ag:aS c0 ρ0 a)(le:c0<=en.c)(ff:en.fr.F=en.E++fr.F)(fh:en.fr.H=en.G++fr.H)(fn:en.fr.n=fr.n):
  ∀e st ρ w,aS en.c a ρ->en.c<=st.c->K e (A8 e en st)=some r->Sat (ab ρ [] st.G++(ab ρ [] (hx e en.fr)++Φ)) w->Ox Q e ρ en.fr.n D (az ρ [] st.E en.fr.F) w:=λe st ρ w l k j f=>by
 have g:(A8 e en st).c=st.c:=by cases e <;> rfl
 have i:(A8 e en st).E=st.E++en.E:=by cases e <;> rfl
 have:=h e (A8 e en st) ρ w (ag.trans l le) (dx le (by rw [g];exact k)) j (by
  have d:∀(A B:List Row),Sat (ab ρ [] st.G++(ab ρ [] (A++B)++Φ)) w->Sat (ab ρ [] (st.G++A)++(ab ρ [] B++Φ)) w:=λA B h=>by rw [bg,cx];rw [bg,cx] at h;exact h
  cases e with
  |panL v=>
   have b:Sat (ab ρ [] st.G++(ab ρ [] (dB en.fr.H)++Φ)) w:=f;rw [fh,N4] at b;exact d _ _ b
  |_=>
   have b:Sat (ab ρ [] st.G++(ab ρ [] en.fr.H++Φ)) w:=f;rw [fh] at b;exact d _ _ b)
 rw [fn,ff];have m:az ρ [] st.E (en.E++fr.F)=az ρ [] (A8 e en st).E fr.F:=by rw [i];show aF.env ρ [] st.E++aF.env ρ [] (en.E++fr.F)=aF.env ρ [] (st.E++en.E)++aF.env ρ [] fr.F;rw [su,su,cx]
 rw [m];exact this
theorem akY{Q:bh}{c0:Nat}{ρ0:ay}{K:XE->aC->Option R}(h:lL Q D fr Φ c0 ρ0 r K):lL Q D (frL fr) Φ c0 ρ0 r (toL K):=λe st ρ w d c a b=>by
 cases e with
 |panE v=>exact h (.panL v) st ρ w d c a b
 |_=>cases a
theorem apU{st:aC}{ρ:ay}{w:World}{d:HT}(b:Sat (ab ρ [] st.G++(ab ρ [] fr.H++Φ)) w):Sat (ab ρ [] (stL fr st d).G++(ab ρ [] (frL fr).H++Φ)) w:=by
 have a:=ud (p:=cX) (G:=fr.H) (H:=[]) (A:=ab ρ [] st.G) (Φ:=Φ) b;have c:∀H:List Row,bn (λr=> !(cX r)) H=dB H:=λH=>by
  induction H with
  |nil=>rfl
  |cons r H ih=>
   show aD (!(!r.cO)) (r::bn _ H) (bn _ H)=aD r.cO (r::dB H) (dB H);rw [ih,Bool.not_not]
 rw [ko,c] at a;show Sat (ab ρ [] (st.G++bn cX fr.H)++(ab ρ [] (dB fr.H)++Φ)) w;rw [bg,cx];exact a
theorem aeJ{Q:bh}{st:aC}{ρ:ay}{w:World}{K:XE->aC->Option R}(i:∀it∈X.Γ,it∈Φ)(k:∀e∈tb,e.Ok X.P X.Γ)(j:∀e∈tp,e.Ok X.P X.Γ){id:Nat}{ops:zg}(p:Sat (ab ρ [] st.G++(ab ρ [] fr.H++Φ)) w)
  (h:FH X tb tp (λb v st=>K (aD b (.panL v) (.panE v)) st) ops.toList fr ops.toList [] st (K .nrm)=some r) (m:lL Q D fr Φ st.c ρ r K):WC X.P σ (.region id ops false) Q fr.n D (az ρ [] st.E fr.F) w:=by
 obtain ⟨l⟩:=ops;exact bp (adR i k j (λx h=>by cases h) (λx h=>by cases h) ⟨λx _=>rfl,λx _=>rfl⟩ p h (λst' ρ' w' g f d a=>m .nrm st' ρ' w' g f d a) (λo v st' ρ' w' g f d a=>by
  cases o
  .exact m (.panE v) st' ρ' w' g f d a
  .exact m (.panL v) st' ρ' w' g f d a))
theorem Re{Q:bh}{st:aC}{ρ:ay}{w:World}{K:XE->aC->Option R}(d:∀it∈X.Γ,it∈Φ)(g:∀e∈tb,e.Ok X.P X.Γ)(f:∀e∈tp,e.Ok X.P X.Γ){id:Nat}{ops:zg}{th:zm}(a:Sat (ab ρ [] st.G++(ab ρ [] fr.H++Φ)) w)
  (h:Lt X tb tp (λv st=>K (.kh v) st) ops fr th st (K .nrm)=some r) (b:lL Q D fr Φ st.c ρ r K):WC X.P σ (.region id ops true) Q fr.n D (az ρ [] st.E fr.F) w:=by
 obtain ⟨l⟩:=ops;unfold Lt at h;generalize cond (ey 40000 th) _ _=t at h;obtain ⟨u,s,a⟩:=afj (fr:=fr) (th:=th) a;rw [<-u] at b;rw [<-s];generalize Rh fr st th=st at h a b;unfold aoi at h;obtain ⟨j,z⟩:=aI h;simp only [au] at j;refine yv _ t j.1 j.2 (λw1 y=>?_);have i:=ud (A:=[]) (p:=ij (reach st fr th)) (a.ext y);exact Hm.wd (ap5 (EV:=[]) (st:={ st with G:=bn (ij (reach st fr th)) st.G }) d g f (λx h=>by cases h) (λx h=>by cases h) ⟨λx _=>rfl,λx _=>rfl⟩ (λx h=>by cases h) (λx h=>by cases h) i (λp h=>by cases h) z (λst' ρ' w' q o m k=>b .nrm st' ρ' w' q o m k) (λv st' ρ' w' q o m k=>b (.kh v) st' ρ' w' q o m k))
theorem RV{b:Bool}{d1 d2:HT->Option R}{h:HT}(d:cnd b d1 d2 h=some r):∃p q,(b=true->d1 p=some r)/\(b=false->d2 q=some r):=by
 unfold cnd at d;split at d
 .rename_i p q;rcases wK d with ⟨c,a⟩|⟨c,a⟩
  .exact ⟨p,q,λ_=>a,λe=>by rw [c] at e;cases e⟩
  .exact ⟨p,q,(λe=>by rw [c] at e;cases e),λ_=>a⟩
 .rcases wK d with ⟨c,a⟩|⟨c,a⟩
  .exact ⟨_,h,λ_=>a,λe=>by rw [c] at e;cases e⟩
  .exact ⟨h,_,(λe=>by rw [c] at e;cases e),λ_=>a⟩
theorem gS(j:∀it∈X.Γ,it∈Φ)(t:∀e∈tb,e.Ok X.P X.Γ)(o:∀e∈tp,e.Ok X.P X.Γ):∀(c:Code) {Q:bh} {fr:Fr} {K:XE->aC->Option R} {st:aC} {ρ:ay} {w:World},Sat (ab ρ [] st.G++(ab ρ [] fr.H++Φ)) w->
  den X tb tp c fr K st=some r->lL Q D fr Φ st.c ρ r K->WC X.P σ c Q fr.n D (az ρ [] st.E fr.F) w
 | .skip,Q,fr,K,st,ρ,w,hs,h,hK=>u5 (hK .nrm st ρ w .refl (cK _) (by unfold den at h;exact h) hs)
 | .label _,Q,fr,K,st,ρ,w,hs,h,hK=>aak (hK .nrm st ρ w .refl (cK _) (by unfold den at h;exact h) hs)
 | .exit i,Q,fr,K,st,ρ,w,hs,h,hK=>Ws (hK (.ext i) st ρ w .refl (cK _) (by unfold den at h;exact h) hs)
 | .goto l,Q,fr,K,st,ρ,w,hs,h,hK=>aeq (hK (.gto l) st ρ w .refl (cK _) (by unfold den at h;exact h) hs)
 | .ret,Q,fr,K,st,ρ,w,hs,h,hK=>BY (hK .ret st ρ w .refl (cK _) (by unfold den at h;exact h) hs)
 | .block i c,Q,fr,K,st,ρ,w,hs,h,hK=>by
  obtain ⟨z1,z2,z3⟩:=aoT (fr:=fr) hs;unfold den at h;rw [<-z2];rw [<-z1] at hK;exact RD (gS j t o c z3 h (Rn hK))
 | .cond c x y,Q,fr,K,st,ρ,w,hs,h,hK=>by
  unfold den at h;split at h
  next b hb=>have W:=bK (ρ:=ρ) hb;simp only [AV.val] at W;obtain ⟨p,q,h1,S⟩:=RV h;exact lj W (λhb=>gS j t o x (st:={ st with h:=p }) hs (h1 hb) hK) (λhb=>gS j t o y (st:={ st with h:=q }) hs (S hb) hK)
  .cases h
 | .seq x y,Q,fr,K,st,ρ,w,hs,h,hK=>by
  have N:∀T,den X tb tp x fr (yh (den X tb tp y fr K) K) { st with h:=T }=some r->WC X.P σ (.seq x y) Q fr.n D (az ρ [] st.E fr.F) w:=λT hd=>by
   refine bq (gS j t o x (st:={ st with h:=T }) hs hd (λe st' ρ' w' I M z C=>?_));by_cases v:e= .nrm
   .subst v;exact aZ (gS j t o y C z (hK.less I M))
   .rw [ry v] at z;exact jL v (hK e st' ρ' w' I M z C)
  unfold den at h;split at h
  .rename_i tm p q Z;obtain ⟨hl,S⟩:=aI h;obtain ⟨J,en⟩:=Bp (tm:=tm) (m:=cQ x) hl hs;generalize enter fr tm (cQ x) st=f at S en;unfold ai at S;refine ag0 (γ:=fS (jo tm.vs)×ay) (λg w'=>den X tb tp y fr K (jk f tm g.1 q)=some r/\aS f.c J g.2/\Sat (ab g.2 [] (jk f tm g.1 q).G++(ab g.2 [] fr.H++Φ)) w') (λg=>az g.2 [] (jk f tm g.1 q).E fr.F) (λg w' hg=>?_) ?_
   .obtain ⟨g1,g2,g3⟩:=hg;refine gS j t o y g3 g1 (hK.less (en.ag.trans g2 en.le) ?_);have:f.c<=(jk f tm g.1 q).c:=by unfold jk;generalize gJ (λn=>f.c+n) f.fix tm.vs 0 (jb _ g.1)=L;obtain ⟨a,b,c,d⟩:=L;exact qS _ _
    exact dx en.le this
   .have hx:=gS j t o x (fr:=f.fr) (st:=⟨f.c,f.Et,f.Gt,p⟩) (ρ:=J) (Q:=Exit.then (Sq (λ(g:fS (jo tm.vs)×ay) w'=>den X tb tp y fr K (jk f tm g.1 q)=some r/\aS f.c J g.2/\Sat (ab g.2 [] (jk f tm g.1 q).G++(ab g.2 [] fr.H++Φ)) w') (λg=>az g.2 [] (jk f tm g.1 q).E fr.F) fr.n D) Q) en.sat S (λe st' ρ' w' I M z C=>?_)
    .rw [en.fn] at hx;exact hx.rz _ en.sub
    .by_cases v:e= .nrm
     .subst v;have B:(match nP f tm st'.E st'.G with|some s=>den X tb tp y fr K (jk f tm s q)|none=>none)=some r:=z;split at B
      .rename_i s hb;obtain ⟨u,E',V,k,DD,b1,b2,b3,b4⟩:=sW en.lF en.lH en.fx C hb;have eJ:jk f tm s q=⟨f.c+k,E'++f.E,rowsOf V++f.G,q⟩:=by unfold jk;rw [b1]
       rw [en.fn];refine alj (s,u) ⟨B,I.trans b2 (cK _),?_⟩ ?_
       .rw [eJ];show Sat (ab u [] (rowsOf V++f.G)++_) w';rw [bg,cx];rw [en.fh,bg,cx] at b4;exact b4
       .rw [eJ];show lM (aF.env u [] (E'++f.E)++_) _;rw [en.ff] at b3;have e2:az u [] E' (f.E++fr.F)=aF.env u [] (E'++f.E)++aF.env u [] fr.F:=by show aF.env u [] E'++aF.env u [] (f.E++fr.F)=_;rw [su,su,cx]
        rw [<-e2,en.ff];exact b3
      .cases B
     .rw [ry v] at z;have:=xm hK en.ag en.le en.ff en.fh en.fn e st' ρ' w' I M z C;exact jL v this
  next T Z=>exact N T h
  .obtain ⟨st',k1,k2,k3,k4⟩:=adP h;have hs':Sat (ab ρ [] st'.G++(ab ρ [] fr.H++Φ)) w:=by rw [k3];exact hs
   have Y:lL Q D fr Φ st'.c ρ r K:=by rw [k2];exact hK
   refine WC.rz _ (k4 ρ []) (bq (gS j t o x (st:=st') hs' k1 (λe st2 ρ' w' I M z C=>?_)));by_cases v:e= .nrm
   .subst v;exact aZ (gS j t o y C z (Y.less I M))
   .rw [ry v] at z;exact jL v (Y e st2 ρ' w' I M z C)
  .exact N st.h h
 | .loop c,Q,fr,K,st,ρ,w,hs,h,hK=>by
  unfold den at h;split at h
  .rename_i tm p Z;obtain ⟨hl,S⟩:=aI h;obtain ⟨J,en⟩:=Bp (tm:=tm) (m:=cQ c) hl hs;generalize enter fr tm (cQ c) st=f at S en;split at S
   .rename_i s0 hb0;obtain ⟨u,E',V,k,DD,b1,b2,b3,b4⟩:=sW en.lF en.lH en.fx en.sat hb0;have eL:∀s E' V k DD,gJ (λn=>f.c+n) f.fix tm.vs 0 (jb _ s)=⟨E',V,k,DD⟩->cR f tm s p=⟨f.c+k,E',rowsOf V,p⟩:=λs E' V k DD hb=>by unfold cR;rw [hb]
    refine QC (γ:=ay) (λs g w'=>aS f.c J g/\Sat (ab g [] (cR f tm s p).G++(ab g [] f.fr.H++Φ)) w') (λs g=>az g [] (cR f tm s p).E f.fr.F) S u ⟨b2,?_⟩ ?_ (λA s g w' U O=>?_)
    .rw [eL _ _ _ _ _ b1];exact b4
    .rw [eL _ _ _ _ _ b1];exact b3.trans en.sub
    .have hx:=gS j t o c (fr:=f.fr) (st:=cR f tm s p) (ρ:=g) (Q:=Exit.then (OS A r (λs g w'=>aS f.c J g/\Sat (ab g [] (cR f tm s p).G++(ab g [] f.fr.H++Φ)) w') (λs g=>az g [] (cR f tm s p).E f.fr.F) fr.n D) Q) O.2 U (λe st' ρ' w2 I M z C=>?_)
     .rw [en.fn] at hx;exact hx
     .have W:f.c<=(cR f tm s p).c:=by unfold cR;generalize gJ (λn=>f.c+n) f.fix tm.vs 0 (jb _ s)=L;obtain ⟨a,b,c,d⟩:=L;exact qS _ _
      by_cases v:e= .nrm
      .subst v;have B:(match nP f tm st'.E st'.G with|some s=>A s|none=>none)=some r:=z;split at B
       .rename_i s' hb;obtain ⟨ρ3,E2,R2,k2,DD2,d1,d2,d3,d4⟩:=sW en.lF en.lH en.fx C hb;rw [en.fn];refine OE s' ρ3 B ⟨(O.1.trans (I.less W) (cK _)).trans d2 (cK _),?_⟩ ?_
        .rw [eL _ _ _ _ _ d1];exact d4
        .rw [eL _ _ _ _ _ d1];exact d3
       .cases B
      .rw [ry v] at z;have:=xm hK en.ag en.le en.ff en.fh en.fn e st' ρ' w2 (O.1.trans (I.less W) (cK _)) (dx W M) z C;exact jL v this
   .cases S
  .rename_i k T Z;refine QC (γ:=ay) (λs g w'=>aS st.c ρ g/\st.c<=s.c/\Sat (ab g [] s.G++(ab g [] fr.H++Φ)) w') (λs g=>az g [] s.E fr.F) h ρ ⟨.refl,cK _,hs⟩ .refl (λA s g w' U O=>?_);refine gS j t o c (st:=s) O.2.2 U (λe st' ρ' w2 I M z C=>?_);by_cases v:e= .nrm
   .subst v;exact OE st' ρ' z ⟨O.1.trans I O.2.1,dx O.2.1 M,C⟩ .refl
   .rw [ry v] at z;exact jL v (hK e st' ρ' w2 (O.1.trans I O.2.1) (dx O.2.1 M) z C)
  .cases h
 | .region id ops false,Q,fr,K,st,ρ,w,hs,h,hK=>by
  unfold den at h;split at h
  .exact aeJ (fr:=frL fr) (st:=stL fr st _) j t o (apU hs) h (akY hK)
  .exact aeJ j t o hs h hK
 | .region id ops true,Q,fr,K,st,ρ,w,hs,h,hK=>by
  unfold den at h;split at h
  next th T Z=>exact Re (st:={ st with h:=T }) j t o hs h hK
  .exact Re j t o hs h hK
 | .scope _,Q,fr,K,st,ρ,w,hs,h,hK=>by unfold den at h;cases h
 | .rangeFunc _ _ _ _,Q,fr,K,st,ρ,w,hs,h,hK=>by unfold den at h;cases h
end
def sw(l:Nat):Code->Bool
 | .label j=>j==l
 | .seq x y=>sw l x||sw l y
 |_=>false
theorem apI{l:Nat}:(c:Code)->sw l c=false->findLabel c l=none:=λc=>by
 induction c with
 |label j=>
  intro h;unfold sw at h;unfold findLabel;rw [h];rfl
 |seq x y b a=>
  intro h;simp only [sw,l5] at h;simp only [findLabel,b h.1,a h.2]
 |_=>intro _;rfl
theorem abE{l:Nat}:(c:Code)->sw l c=true->∃r,findLabel c l=some r:=λc=>by
 induction c with
 |label j=>
  intro h;unfold sw at h;unfold findLabel;rw [h];exact ⟨_,rfl⟩
 |seq x y b a=>
  intro h;simp only [sw,eZ] at h;unfold findLabel;cases hx:findLabel x l with
  |some r=>exact ⟨_,rfl⟩
  |none=>
   rcases h with h|h
   .obtain ⟨r,d⟩:=b h;rw [hx] at d;cases d
   .exact a h
 |_=>intro h;cases h
def IY(P:Program)(ρ:ze)(l:Nat):Code->bh->bh
 | .seq x y,Q=>aD (sw l x) (IY P ρ l x (Exit.then (y.wpIn (FW ρ) 0 P Q) Q)) (IY P ρ l y Q)
 |_,Q=>Q
theorem anS{P:Program}{ρ:ze}{l:Nat}:(c:Code)->{r:Code}->{Q:bh}->{a:Act}->{w:World}->findLabel c l=some r->IY P ρ l c Q .normal a w->r.wpIn (FW ρ) 0 P Q a w:=λc=>by
 induction c with
 |label j=>
  intro r Q a w b h;unfold findLabel at b;split at b
  .cases b;exact wpIn_skip h
  .cases b
 |seq x y f e=>
  intro r Q a w b h;unfold IY at h;unfold findLabel at b;cases hx:sw l x
  .rw [hx] at h;rw [apI x hx] at b;exact e b h
  .rw [hx] at h;obtain ⟨g,d⟩:=abE x hx;rw [d] at b;cases b;exact wpIn_seq (f d h)
 |_=>intro r Q a w b h;cases b
def E3(l:Nat):Code->Nat
 | .seq x y=>aD (sw l x) (Nat.lor (E3 l x) (cQ y)) (E3 l y)
 |_=>0
def Cv(st:aC):aC:=match st.h with
 | .s h=>{ st with h:=h }
 |_=>st
abbrev gtk{R:Type}(l:Nat)(A:aC->Option R)(K:XE->aC->Option R):XE->aC->Option R
 | .gto j,st=>aD (Nat.beq j l) (A st) none
 |e,st=>K e st
def OZ{R:Type}(X:Cx)(tb:List aA)(tp:List bY)(l:Nat)(fr:Fr):Code->(XE->aC->Option R)->aC->Option R
 | .seq x y,K,st=>aD (sw l x) (OZ X tb tp l fr x (yh (den X tb tp y fr K) K) st) (OZ X tb tp l fr y K st)
 | .label _,K,st=>K .nrm st
 |_,_,_=>none
def Oz{R:Type}(X:Cx)(tb:List aA)(tp:List bY)(l:Nat)(fr:Fr)(K:XE->aC->Option R)(KL:aC->Option R):Code->aC->Option R
 | .seq x y,st=>aD (sw l x) (Oz X tb tp l fr K KL x (Cv st)) (den X tb tp x fr (yh (λst=>Oz X tb tp l fr K KL y st) K) (Cv st))
 | .label _,st=>KL st
 |_,_=>none
def amw{R:Type}(X:Cx)(tb:List aA)(tp:List bY)(c:Code)(fr:Fr)(K:XE->aC->Option R)(st:aC):Option R:=match st.h with
 | .n l (.j tm p q)=>aD (sw l c) (
   Oz X tb tp l fr (gtk l (λ_=>none) K) (λst1=>aD (st1.low fr) (
     match nP (enter fr tm (E3 l c) st1) tm (enter fr tm (E3 l c) st1).Et (enter fr tm (E3 l c) st1).Gt with
     |some s=>aj (λagain s=>OZ X tb tp l (enter fr tm (E3 l c) st1).fr c (gtk l (λst'=>match nP (enter fr tm (E3 l c) st1) tm st'.E st'.G with
       |some s=>again s
       |none=>none) (λe st'=>K e (A8 e (enter fr tm (E3 l c) st1) st'))) (cR (enter fr tm (E3 l c) st1) tm s q)) X.fl s
     |none=>none) none) c { st with h:=p }) none
 |_=>none
section
variable {X : Cx} {tb : List aA} {tp : List bY} {σ : ze} {D : x3} {R : Type} {r : R} {Φ : Ctx}
theorem aev{Q:bh}{l n:Nat}{E:Env}{w:World}{e:XE}{ρ:ay}{J:Act->World->Prop}(a:∀j,e≠ .gto j)(h:Ox Q e ρ n D E w):Ox (Exit.jump l J Q) e ρ n D E w:=by cases e <;> first|exact ((a _) rfl).elim|exact h
theorem akW{l:Nat}(k:∀it∈X.Γ,it∈Φ)(o:∀e∈tb,e.Ok X.P X.Γ)(m:∀e∈tp,e.Ok X.P X.Γ):∀(c:Code) {Q:bh} {fr:Fr} {K:XE->aC->Option R} {st:aC} {ρ:ay} {w:World},Sat (ab ρ [] st.G++(ab ρ [] fr.H++Φ)) w->
  OZ X tb tp l fr c K st=some r->lL Q D fr Φ st.c ρ r K->∀a,Fits fr.n (az ρ [] st.E fr.F) a->a.defers=D->IY X.P σ l c Q .normal a w:=λc=>by
 induction c with
 |label j=>intro Q fr K st ρ w b h d a f hd;exact d .nrm st ρ w .refl (cK _) h b a f hd
 |seq x y i g=>
  intro Q fr K st ρ w b h d a f hd;unfold OZ at h;unfold IY;cases hx:sw l x
  .rw [hx] at h;exact g b h d a f hd
  .rw [hx] at h;refine i (Q:=Exit.then (y.wpIn (FW σ) 0 X.P Q) Q) b h (λe st' ρ' w' u t q s=>?_) a f hd;by_cases p:e= .nrm
   .subst p;exact aZ (gS k o m y s q (d.less u t))
   .rw [ry p] at q;exact jL p (d e st' ρ' w' u t q s)
 |_=>intro Q fr K st ρ w b h;cases h
theorem afu{st:aC}:(Cv st).c=st.c/\(Cv st).E=st.E/\(Cv st).G=st.G:=by unfold Cv;split <;> exact ⟨rfl,rfl,rfl⟩
theorem aiO{l:Nat}(s:∀it∈X.Γ,it∈Φ)(u:∀e∈tb,e.Ok X.P X.Γ)(t:∀e∈tp,e.Ok X.P X.Γ){N:bh}{fr:Fr}{K:XE->aC->Option R}{O:aC->Option R}{c0:Nat}{ρ0:ay}(S:lL N D fr Φ c0 ρ0 r K):∀(c:Code) {Q:bh} {st:aC} {ρ:ay} {w:World},
  (∀e (E:Env) (ρ:ay) w,e≠ .nrm->Ox N e ρ fr.n D E w->Ox Q e ρ fr.n D E w)->
  (∀st1 b w1,aS c0 ρ0 b->c0<=st1.c->O st1=some r->Sat (ab b [] st1.G++(ab b [] fr.H++Φ)) w1->∀a,Fits fr.n (az b [] st1.E fr.F) a->a.defers=D->IY X.P σ l c Q .normal a w1)->
  sw l c=true->aS c0 ρ0 ρ->c0<=st.c->Sat (ab ρ [] st.G++(ab ρ [] fr.H++Φ)) w->
  Oz X tb tp l fr K O c st=some r->WC X.P σ c Q fr.n D (az ρ [] st.E fr.F) w:=λc=>by
 induction c with
 |label j=>intro Q st ρ w hQ k _ ha d m h;exact aak (λa i hd=>k st ρ w ha d h m a i hd)
 |seq x y q p=>
  intro Q st ρ w hQ k o ha d m h;obtain ⟨p1,p2,L⟩:=afu (st:=st);unfold Oz at h;cases hx:sw l x
  .rw [hx] at h;simp only [sw,hx,mE] at o;refine bq ?_;have:=gS (σ:=σ) (D:=D) s u t x (fr:=fr) (st:=Cv st) (ρ:=ρ) (w:=w) (Q:=Exit.then (y.wpIn (FW σ) 0 X.P Q) Q) (by rw [L];exact m) h (λe st' ρ' w' J I C M=>?_)
   .rw [p2] at this;exact this
   .rw [p1] at J I;by_cases f:e= .nrm
    .subst f;refine aZ (p hQ (λst1 b w1 B A z v a i hd=>?_) o (ha.trans J d) (dx d I) M C);have:=k st1 b w1 B A z v a i hd;unfold IY at this;rw [hx] at this;exact this
    .rw [ry f] at C;exact jL f (hQ _ _ _ _ f (S e st' ρ' w' (ha.trans J d) (dx d I) C M))
  .rw [hx] at h;refine bq ?_;have:=q (Q:=Exit.then (y.wpIn (FW σ) 0 X.P Q) Q) (st:=Cv st) (ρ:=ρ) (w:=w) (λe E ρ w g f=>jL g (hQ e E ρ w g f)) (λst1 b w1 B A z v a i hd=>?_) hx ha (by rw [p1];exact d) (by rw [L];exact m) h
   .rw [p2] at this;exact this
   .have:=k st1 b w1 B A z v a i hd;unfold IY at this;rw [hx] at this;exact this
 |_=>intro Q st ρ w hQ k o;cases o
theorem aqj{c:Code}{Q:bh}{K:XE->aC->Option R}{st:aC}{ρ:ay}{w:World}(Y:∀it∈X.Γ,it∈Φ)(htb:∀e∈tb,e.Ok X.P X.Γ)(Z:∀e∈tp,e.Ok X.P X.Γ)(hs:Sat (ab ρ [] st.G++(ab ρ [] fr.H++Φ)) w)
  (h:amw X tb tp c fr K st=some r) (hK:lL Q D fr Φ st.c ρ r K):WC X.P σ (.scope c) Q fr.n D (az ρ [] st.E fr.F) w:=by
 unfold amw at h;split at h
 .rename_i l tm p q hh;obtain ⟨B,h0⟩:=aI h;obtain ⟨rest,v⟩:=abE c B
  -- what holds at the label
  let F:En->(fS (jo tm.vs)->Option R)->fS (jo tm.vs)->Option R:=λf J s=>OZ X tb tp l f.fr c (gtk l (λst'=>match nP f tm st'.E st'.G with
     |some s=>J s
     |none=>none) (λe st'=>K e (A8 e f st'))) (cR f tm s q)
  let I:Nat->Act->World->Prop:=λm a w=>∃(f:En) (o:ay),(f.fr.F=f.E++fr.F/\f.fr.H=f.G++fr.H/\f.fr.n=fr.n/\aF.low f.c f.fr.F=true/\bD f.c f.fr.H=true/\(∀t q,f.fix t=some q->q.1.low f.c=true/\AV.cq f.c q.2=true))/\aS st.c ρ o/\st.c<=f.c/\
   OS (aj (F f) m) r (λs (g:ay) w'=>aS f.c o g/\Sat (ab g [] (cR f tm s q).G++(ab g [] f.fr.H++Φ)) w') (λs g=>az g [] (cR f tm s q).E f.fr.F) fr.n D a w
  have i:∀m a w,I m a w->IY X.P σ l c (Exit.jump l (λC w'=>∃N<m,I N C w') Q) .normal a w:=by
   rintro m a w ⟨f,o,⟨ff,fh,fn,lF,lH,fx⟩,hag,hle,s,g,hm,hJ,hF,hD⟩;obtain ⟨N,rfl,hm'⟩:=NO hm;have eL:∀s E' R' k DD,gJ (λn=>f.c+n) f.fix tm.vs 0 (jb _ s)=⟨E',R',k,DD⟩->cR f tm s q=⟨f.c+k,E',rowsOf R',q⟩:=λs E' R' k DD hb=>by unfold cR;rw [hb]
   have hc:f.c<=(cR f tm s q).c:=by unfold cR;generalize gJ (λn=>f.c+n) f.fix tm.vs 0 (jb _ s)=L;obtain ⟨a,b,c,d⟩:=L;exact qS _ _
   refine akW (σ:=σ) (D:=D) Y htb Z c (fr:=f.fr) (st:=cR f tm s q) (ρ:=g) (Q:=Exit.jump l (λC w'=>∃m''<N+1,I m'' C w') Q) hJ.2 hm' (λe st' ρ' w2 U T A S=>?_) a (by rw [fn];exact hF) hD;by_cases u:∃j,e= .gto j
   .obtain ⟨j,rfl⟩:=u;unfold gtk at A;obtain ⟨hj,O⟩:=aI A;have:=b0 hj;subst this;dsimp only at O;split at O
    .rename_i s' hb;obtain ⟨V,E2,R2,k2,DD2,d1,d2,d3,d4⟩:=sW lF lH fx S hb;refine λa2' hf2 hd2=>⟨rfl,N,l7 _,f,o,⟨ff,fh,fn,lF,lH,fx⟩,hag,hle,s',V,O,⟨(hJ.1.trans (U.less hc) (cK _)).trans d2 (cK _),?_⟩,?_,hd2⟩
     .rw [eL _ _ _ _ _ d1];exact d4
     .rw [fn] at hf2;show Fits fr.n (az V [] (cR f tm s' q).E f.fr.F) a2';rw [eL _ _ _ _ _ d1];exact hf2.rz d3
    .cases O
   .have z:∀j,e≠ .gto j:=λj hj=>u ⟨j,hj⟩;have M:K e (A8 e f st')=some r:=by cases e <;> first|exact ((z _) rfl).elim|exact A
    exact aev z (xm hK hag hle ff fh fn e st' ρ' w2 (hJ.1.trans (U.less hc) (cK _)) (dx hc T) M S)
  refine λa hf hd=>Ua l I v ?_ (λm a w hI=>anS c v (i m a w hI))
  -- the way to the label
  have hK':lL (Exit.jump l (λa w=>∃m,I m a w) Q) D fr Φ st.c ρ r (gtk l (λ_=>none) K):=λe st1 ρ' w' U T A S=>by
   by_cases u:∃j,e= .gto j
   .obtain ⟨j,rfl⟩:=u;unfold gtk at A;obtain ⟨_,O⟩:=aI A;cases O
   .have z:∀j,e≠ .gto j:=λj hj=>u ⟨j,hj⟩;have M:K e st1=some r:=by cases e <;> first|exact ((z _) rfl).elim|exact A
    exact aev z (hK e st1 ρ' w' U T M S)
  refine aiO (σ:=σ) Y htb Z hK' c (Q:=Exit.jump l (λa w=>∃m,I m a w) Q) (st:={ st with h:=p }) (ρ:=ρ) (λ_ _ _ _ _ h=>h) (λst1 ρ' w' U T A S C hf' hd'=>?_) B .refl (cK _) hs h0 a hf hd;obtain ⟨hl,h2⟩:=aI A;obtain ⟨o,en⟩:=Bp (tm:=tm) (m:=E3 l c) hl S;generalize enter fr tm (E3 l c) st1=f at h2 en;split at h2
  .rename_i s0 hb0;obtain ⟨W,E',R',k,DD,b1,b2,b3,b4⟩:=sW en.lF en.lH en.fx en.sat hb0;have eL:cR f tm s0 q=⟨f.c+k,E',rowsOf R',q⟩:=by unfold cR;rw [b1]
   have key:I X.fl C w':=by
    refine ⟨f,o,⟨en.ff,en.fh,en.fn,en.lF,en.lH,en.fx⟩,U.trans en.ag T,dx T en.le,s0,W,h2,⟨b2,?_⟩,?_,hd'⟩
    .rw [eL];exact b4
    .show Fits fr.n (az W [] (cR f tm s0 q).E f.fr.F) C;rw [eL];exact hf'.rz (b3.trans en.sub)
   have mono:∀(c:Code) (Q1 Q2:bh),(∀e a w,Q1 e a w->Q2 e a w)->∀a w,IY X.P σ l c Q1 .normal a w->IY X.P σ l c Q2 .normal a w:=λc=>by
    induction c with
    |seq x y ihx ihy=>
     intro Q1 Q2 hq a w h;unfold IY at h ⊢;cases hx:sw l x
     .rw [hx] at h;exact ihy Q1 Q2 hq a w h
     .rw [hx] at h;refine ihx _ _ (λe a w u=>?_) a w h;cases e with
      |normal=>exact wpIn_mono u hq
      |_=>exact hq _ _ _ u
    |_=>intro Q1 Q2 hq a w h;exact hq _ _ _ h
   exact mono c _ _ (λe a w u=>by
    cases e <;> first|exact u|exact ⟨u.1,let ⟨N,_,hI⟩:=u.2;⟨N,hI⟩⟩) C w' (i X.fl C w' key)
  .cases h2
 .cases h
end
variable {w : World} {ρ : ay}
def ra:Nat->List AV->aF
 |_,[]=>[]
 |k,v::vs=>(k,none,v)::ra (k+1) vs
theorem Fw{ρ:ay}:{vs:List AV}->{k:Nat}->aF.env ρ [] (ra k vs)=iota k (AV.al ρ vs)
 |[],_=>rfl
 |v::vs,k=>by simp only [ra,aF.env,AV.al,iota,aB.get_none,Fw]
structure pO where
 f:FuncId
 fn:Func
def pO.Ok(P:Program)(c:pO):Prop:=Enters P c.f/\P.funcs[c.f]? =some c.fn
def SC:List pO->Nat->Option pO
 |[],_=>none
 |c::l,f=>aD (Nat.beq c.f f) (some c) (SC l f)
theorem RT{P:Program}{f:Nat}{c:pO}:{l:List pO}->(∀c∈l,c.Ok P)->SC l f=some c->c.Ok P/\c.f=f
 |[],_,h=>by cases h
 |c'::l,hl,h=>by
  unfold SC at h;rcases eo h with ⟨d,a⟩|⟨_,a⟩
  .cases a;exact ⟨hl _ (c8 ..),b0 d⟩
  .exact RT (λc b=>hl c (cp _ b)) a
structure YC(R:Type) where
 id:Nat
 rnd:List AV->aC->(Bool->Nat->aC->Option R)->Option R
def YOk{R:Type}(X:Cx)(y:YC R)(r:R)(ly:Nat)(ρ0:ay)(H0:List Row)(Φ:Nat->Ctx):Prop:=
 ∀(vs:List AV) (st:aC) (ρ:ay) (w:World) (H1:List Row) (KY:Bool->Nat->aC->Option R),y.id<st.c->aS (y.id+1) ρ0 ρ->AV.cq st.c vs=true->bD st.c st.G=true->bD st.c (H1++H0)=true->
  Sat (ab ρ [] st.G++(ab ρ [] (H1++H0)++Φ 0)) w->y.rnd vs st KY=some r->
  Yld X.P ly (AV.al ρ vs) w (λv w'=>∃b p' st' ρ',v= .bool b/\aS st.c ρ ρ'/\st.c<=st'.c/\KY b p' st'=some r/\Sat (ab ρ' [] st'.G++(ab ρ' [] (H1++H0)++Φ p')) w')
def noG:List Row->Bool
 |[]=>true
 |r::G=>uU r.gd&&noG G
theorem ajB:{G:List Row}->noG G=true->∀r,r∈G->r.gd=none
 |[],_,_,h=>by cases h
 |x::G,h,r,a=>by
  simp only [noG,au] at h;rcases List.mem_cons.1 a with rfl|a
  .cases b:r.gd with
   |none=>rfl
   |some k=>rw [b] at h;cases h.1
  .exact ajB h.2 r a
theorem SJ{T T':aB}(h:∀r,r∈G->r.gd=none):ab ρ T G=ab ρ T' G:=
 qQ λr a=>Row.FL (by rw [h r a];simp)
theorem aa0{T:aB}{fr:Fr}(b:FT T fr):ab ρ T fr.H=ab ρ [] fr.H:=
 qQ λr a=>Row.FL (b.2 r a)
def afB{R:Type}(y:YC R)(T:aB)(fr:Fr)(st:aC)(o:Oper)(p:Nat)(K:Nat->cL R):Option (Option R):=match o.guard,o.op,o.dst with
 |none,.call c,some d=>(match c.callee with
  | .value fo=>(match bw T st.E fr.F none fo with
   |some (.nv i)=>some (aD (Nat.beq i y.id&&Nat.beq p 0&&Nat.blt d fr.n&&sa (some d) T&&st.low fr&&noG st.G) (match vG T st.E fr.F none c.args.toList with
     |some vs=>aD (AV.cq st.c vs) (y.rnd vs st (λb p' st'=>K p' { st' with E:=cM (some d) none (.bool b) st.E,G:=oL st'.G,h:=st.h })) none
     |none=>none) none)
   |_=>none)
  |_=>none)
 |_,_,_=>none
inductive UG where
 |da|skip|run|no
def unK(ops:zj)(fr:Fr)(kn:zm)(E:aF)(o:Oper):UG:=match o.guard with
 |none=> .da
 |some k=>aD (wQ k.1 kn) (match (ops[k.1]?).bind (·.dst) with
  |some rj=>aD (Nat.blt rj fr.n) (match ez E fr.F rj with
   |some (none,.bool b)=>(match AS k.2 b with
    |true=> .run
    |false=> .skip)
   |_=> .no) .no
  |none=> .no) .da
def knT(ops:zj)(t:Tmp):zm->Bool
 |[]=>false
 |j::kn=>(match (ops[j]?).bind (·.dst) with
  |some d=>Nat.beq d t
  |none=>false)||knT ops t kn
def W7(ops:zj)(fr:Fr)(kn:zm)(E:aF)(o:Oper):Oper:=match o.guard,o.op with
 |none,.pick (.tmp t) x y=>aD (knT ops t kn) (match ez E fr.F t with
  |some (none,.bool v)=>(match v with
   |true=>{ o with op:= .move x }
   |false=>{ o with op:= .move y })
  |_=>o) o
 |_,_=>o
def unO(ops:zj)(fr:Fr)(kn:zm)(E:aF)(o:Oper):UG->Oper
 | .run=>{ o with guard:=none }
 |_=>W7 ops fr kn E o
def po{R:Type}(X:Cx)(tb:List aA)(y:YC R)(ops:zj)(fr:Fr):zj->zm->aB->aC->Nat->(Nat->cL R)->Option R
 |[],_,T,st,p,K=>aD (EU T fr st) (K p (BK T st)) none
 |o::l,kn,T,st,p,K=>match unK ops fr kn st.E o with
  | .no=>none
  | .skip=>(match o.guard with
   |some k=>aD (Nj fr.n o.dst&&sa o.dst T&& !(QO k T)) (po X tb y ops fr l kn T { st with E:=cM o.dst (some k) (.raw undef) st.E } p K) none
   |none=>none)
  |u=>match afB y T fr st (unO ops fr kn st.E o u) p (λp' st'=>po X tb y ops fr l kn T st' p' K) with
   |some q=>q
   |none=>stepG ops T fr st (unO ops fr kn st.E o u) λT g=>opD X tb T fr st g (unO ops fr kn st.E o u) λst'=>match st'.h,o.dst with
    | .n j (.c ha hb),some d=>aD (Nat.beq j (ops.length-l.length-1)&&sa (some d) T) (match bC st'.E d with
      |some (none,.bool b)=>cond b (po X tb y ops fr l (j::kn) T { st' with E:=(d,none,.bool true)::st'.E,h:=ha } p K) (po X tb y ops fr l (j::kn) T { st' with E:=(d,none,.bool false)::st'.E,h:=hb } p K)
      |_=>none) (po X tb y ops fr l kn T st' p K)
    |_,_=>po X tb y ops fr l kn T st' p K
section
variable {R : Type} {r : R} {X : Cx} {tb : List aA} {y : YC R} {σ : ze} {Q : bh} {D : x3} {ops : zj} {fr : Fr} {Φ : Nat -> Ctx} {ly : Nat} {H0 H1 : List Row} {ρ0 : ay}
theorem asw{P:Program}{n:Nat}{E:Env}{w:World}{ops:zg}{rest:zj}{o:Oper}{j:Nat}{b:Bool}{rj:Tmp}{i:Bool}(d:o.guard=some (j,b))(k:(ops[j]?).bind (·.dst)=some rj)(hl:look E rj=some (true,.bool i))(hn:Nat.blt rj n=true)(hb:AS b i=true)
  (h:WL P σ ops Q n D ({ o with guard:=none }::rest) E w):WL P σ ops Q n D (o::rest) E w:=λa g l=>by
 have c:=h a g l;have f:=G0 (ops:=ops) d k hl g hn;rw [<-Pm,hb] at f;unfold wpListIn at c ⊢;rw [f];have e:Region.wanted { o with guard:=none } (yielded ops a.tmps)=true:=by simp [Region.wanted]
 rw [e] at c;simp only [fj,qU] at c ⊢;exact c
theorem asa{P:Program}{n:Nat}{E:Env}{w:World}{ops:zg}{rest:zj}{o:Oper}{j:Nat}{b:Bool}{rj:Tmp}{e:Bool}(c:o.guard=some (j,b))(f:(ops[j]?).bind (·.dst)=some rj)(hl:look E rj=some (true,.bool e))(hn:Nat.blt rj n=true)(hb:AS b e=false)(hd:Nj n o.dst=true)
  (h:WL P σ ops Q n D rest (uP o.dst false undef E) w):WL P σ ops Q n D (o::rest) E w:=λa d k=>
 wpListIn_step λK i=>by rw [G0 c f hl d hn,<-Pm,hb];simp only [fj,eT,qn];have:=d.uP (g:=false) (v:=undef) hd;exact ⟨λ_ _=>trivial,i _ _ (h _ this (by rw [kH];exact k))⟩
def IsY(y:YC R)(ρ0:ay)(ρ:ay)(c:Nat):Prop:=y.id<c/\aS (y.id+1) ρ0 ρ
theorem IsY.less{ρ0 ρ':ay}{c a:Nat}(h:IsY y ρ0 ρ c)(ha:aS c ρ ρ')(b:c<=a):IsY y ρ0 ρ' a:=⟨gr h.1 b,h.2.trans ha h.1⟩
theorem asW{T:aB}{st:aC}{o:Oper}{p:Nat}{K:Nat->cL R}{l:zj}{ρ:ay}{w:World}{q:Option R}(g:(ρ0 y.id).x= .func (.yield ly) #[] #[])(Z:YOk X y r ly ρ0 H0 Φ)(s:fr.H=H1++H0)(hI:IsY y ρ0 ρ st.c)(h1:gq T st.E fr.F)(B:FT T fr)
  (W:Sat (ab ρ T st.G++(ab ρ T fr.H++Φ p)) w) (h:afB y T fr st o p K=some q) (Y:q=some r)
  (next:∀p' st' ρ' w',gq T st'.E fr.F->aS st.c ρ ρ'->st.c<=st'.c->K p' st'=some r->Sat (ab ρ' T st'.G++(ab ρ' T fr.H++Φ p')) w'->WL X.P σ ops.toArray Q fr.n D l (az ρ' T st'.E fr.F) w'):
  WL X.P σ ops.toArray Q fr.n D (o::l) (az ρ T st.E fr.F) w:=by
 obtain ⟨dst,op,ty,pos,af,gd⟩:=o;unfold afB at h;split at h
 .rename_i c d z u hd;simp only at z u hd;subst z u hd;split at h
  .rename_i fo C;split at h
   .rename_i i m;injection h with h
    rw [Y] at h;obtain ⟨J,t⟩:=aI h;clear h;simp only [au] at J;obtain ⟨⟨⟨⟨⟨c1,c2⟩,c3⟩,c4⟩,I⟩,c6⟩:=J;have e1:=b0 c1;have e2:=b0 c2;subst e1 e2;split at t
    .rename_i vs f;obtain ⟨b2,h⟩:=aI t;obtain ⟨cc,xs,tys⟩:=c;simp only at C f;subst C;have a:=bK (ρ:=ρ) m;simp only [AV.val] at a;rw [hI.2 _ (l7 _),g] at a;have e:=jX (ρ:=ρ) f;rw [aB.get_none] at e;obtain ⟨_,_,U,S⟩:=aC.cJ.1 I;have hG:=ajB c6;have k:Sat (ab ρ [] st.G++(ab ρ [] (H1++H0)++Φ 0)) w:=by rw [<-s,<-aa0 B,SJ (T':=T) hG];exact W
     have j:=Z vs st ρ w H1 _ hI.1 hI.2 b2 U (by rw [<-s];exact S) k h;refine akP (xs:=xs.toList) (vs:=AV.al ρ vs) a e c3 j (λv w' V=>?_);obtain ⟨b,p',st',ρ',rfl,M,a2,a3,L⟩:=V;rw [<-s] at L;have hE:az ρ' T st.E fr.F=az ρ T st.E fr.F:=sd I M;have:=next p' { st' with E:=cM (some d) none (.bool b) st.E,G:=oL st'.G,h:=st.h } ρ' w' (h1.out (d:=some d) c4 none (.bool b)) M a2 a3 (by
      have O:=Dw (A:=[]) L;have e3:ab ρ' T (oL st'.G)=ab ρ' [] (oL st'.G):=SJ BH;have N:Sat (ab ρ' T (oL st'.G)++(ab ρ' T fr.H++Φ p')) w':=by rw [e3,aa0 B];exact O
      exact N)
     rw [xr,hE] at this;simpa [uP,AV.val] using this
    .cases t
   .cases h
  .cases h
 .cases h
theorem ape{P:Program}{n:Nat}{E:Env}{ops:zg}{rest:zj}{c x y:Operand}{v:Bool}{dst:zf}{ty:TypeId}{pos:String}{af:zh}(g:ar E true c (.bool v))
  (h:WL P σ ops Q n D (⟨dst,.move (cond v x y),ty,pos,af,none⟩::rest) E w):WL P σ ops Q n D (⟨dst,.pick c x y,ty,pos,af,none⟩::rest) E w:=λa d j=>
 wpListIn_plain rfl λK i=>oy rfl (by
  have b:=h a d j;unfold wpListIn at b;have l:Region.wanted ⟨dst,.move (cond v x y),ty,pos,af,none⟩ (yielded ops a.tmps)=true:=rfl;rw [du l] at b;have k:=Oper.wpIn_mono i b;obtain ⟨_,f⟩:=k;rw [show (FW σ).round=σ from rfl,Lc rfl] at f;have e:(execOp a.eval ⟨dst,.pick c x y,ty,pos,af,none⟩).run P w=(execOp a.eval ⟨dst,.move (cond v x y),ty,pos,af,none⟩).run P w:=by cases v <;> simp [execOp,g n a d rfl,asBool]
  rw [e];exact f)
theorem ans{a:zm}{E:aF}:(W7 ops fr a E o).dst=o.dst:=by
 unfold W7;split
 .cases knT ops _ a
  .rfl
  .split
   .split <;> rfl
   .rfl
 .rfl
theorem asU{a:zm}{E:aF}{o:Oper}{ρ:ay}{T:aB}{w:World}{l:zj}(h:WL X.P σ ops.toArray Q fr.n D (W7 ops fr a E o::l) (az ρ T E fr.F) w):WL X.P σ ops.toArray Q fr.n D (o::l) (az ρ T E fr.F) w:=by
 obtain ⟨dst,op,ty,pos,af,gd⟩:=o;unfold W7 at h;split at h
 .rename_i t x y c b;simp only at c b;subst c b;cases hk:knT ops t a
  .rw [hk] at h;exact h
  .rw [hk] at h;split at h
   next v hl=>refine ape (v:=v) ?_ (by cases v <;> exact h);exact ar.t (by rw [iW,hl];simp [AV.val])
   .exact h
 .exact h
theorem acp{k:Nat×Bool}:{T:aB}->QO k T=false->T.get (some k)=false
 |[],_=>rfl
 |(k',par,rj,b)::T,h=>by
  simp only [QO,l5] at h;have a:GK.eq (some k') (some k)=false:=by
   cases hb:GK.eq (some k') (some k)
   .rfl
   .have e:=GK.eq_eq hb;cases e;rw [GK.adO] at h;cases h.1
  unfold aB.get;rw [a];exact acp h.2
theorem aeb(S:∀p,∀it∈X.Γ,it∈Φ p)(V:∀e∈tb,e.Ok X.P X.Γ)(U:(ρ0 y.id).x= .func (.yield ly) #[] #[])(hY:YOk X y r ly ρ0 H0 Φ)(hH:fr.H=H1++H0){K:Nat->cL R}:∀{l:zj} {f:zm} {T:aB} {st:aC} {p:Nat} {ρ:ay} {w:World},IsY y ρ0 ρ st.c->gq T st.E fr.F->sI ops fr.n T->FT T fr->Sat (ab ρ T st.G++(ab ρ T fr.H++Φ p)) w->
  po X tb y ops fr l f T st p K=some r->
  (∀p' st' ρ' w',aS st.c ρ ρ'->st.c<=st'.c->K p' st'=some r->Sat (ab ρ' [] st'.G++(ab ρ' [] fr.H++Φ p')) w'->At Q .normal fr.n D (az ρ' [] st'.E fr.F) w')->
  WL X.P σ ops.toArray Q fr.n D l (az ρ T st.E fr.F) w
 |[],f,T,st,p,ρ,w,hI,h1,h2,hf,hs,h,next=>by
  unfold po at h;obtain ⟨h3,h4⟩:=aI h;obtain ⟨k1,k2,k3⟩:=KM h3 hf hs;exact cg λa C hd=>next p _ ρ w .refl (by rw [k1];exact cK _) h4 k3 a (C.rz k2) hd
 |o::l,f,T,st,p,ρ,w,hI,h1,h2,hf,hs,h,next=>by
  have O:∀{f:zm} {T':aB} {st':aC} {p':Nat} {ρ':ay} {w':World},aS st.c ρ ρ'->st.c<=st'.c->gq T' st'.E fr.F->sI ops fr.n T'->FT T' fr->Sat (ab ρ' T' st'.G++(ab ρ' T' fr.H++Φ p')) w'->po X tb y ops fr l f T' st' p' K=some r->
    WL X.P σ ops.toArray Q fr.n D l (az ρ' T' st'.E fr.F) w':=λ{f T' st' p' ρ' w'} B z L J I Y a7=>
   aeb S V U hY hH (hI.less B z) L J I Y a7 (λp2 st2 ρ2 w2 u s b3 b4=>next p2 st2 ρ2 w2 (B.trans u z) (dx z s) b3 b4)
  -- the operation itself, guarded or not
  have A:∀M:Oper,M.dst=o.dst->(match afB y T fr st M p (λp' st'=>po X tb y ops fr l f T st' p' K) with
   |some q=>q
   |none=>stepG ops T fr st M λT g=>opD X tb T fr st g M λst'=>match st'.h,o.dst with
    | .n j (.c ha hb),some d=>aD (Nat.beq j (ops.length-l.length-1)&&sa (some d) T) (match bC st'.E d with
      |some (none,.bool b)=>cond b (po X tb y ops fr l (j::f) T { st' with E:=(d,none,.bool true)::st'.E,h:=ha } p K) (po X tb y ops fr l (j::f) T { st' with E:=(d,none,.bool false)::st'.E,h:=hb } p K)
      |_=>none) (po X tb y ops fr l f T st' p K)
    |_,_=>po X tb y ops fr l f T st' p K)=some r->WL X.P σ ops.toArray Q fr.n D (M::l) (az ρ T st.E fr.F) w:=λM ho' h=>by
   split at h
   next q W=>exact asW U hY hH hI h1 hf hs W h (λp' st' ρ' w' B z L J I=>O z L B h2 hf I J)
   .refine aaF (K:=λT st'=>match st'.h,o.dst with
     | .n j (.c ha hb),some d=>aD (Nat.beq j (ops.length-l.length-1)&&sa (some d) T) (match bC st'.E d with
       |some (none,.bool b)=>cond b (po X tb y ops fr l (j::f) T { st' with E:=(d,none,.bool true)::st'.E,h:=ha } p K) (po X tb y ops fr l (j::f) T { st' with E:=(d,none,.bool false)::st'.E,h:=hb } p K)
       |_=>none) (po X tb y ops fr l f T st' p K)
     |_,_=>po X tb y ops fr l f T st' p K) h1 h2 rfl (λ_ h=>h) hf hs (S p) V h (λT' st' ρ' w' B z L J I Y a7 a8=>?_)
    split at Y
    .rename_i j ha hb d hh hd;rcases eo Y with ⟨u,s⟩|⟨_,s⟩
     .simp only [au] at u;split at s
      .rename_i b hl;have one:∀(v:Bool) (h':HT),b=v->po X tb y ops fr l (j::f) T' { st' with E:=(d,none,.bool v)::st'.E,h:=h' } p K=some r->WL X.P σ ops.toArray Q fr.n D l (az ρ' T' st'.E fr.F) w':=λv h' hb m=>by
        have:=O (st':={ st' with E:=(d,none,.bool v)::st'.E,h:=h' }) J I (B.out (d:=some d) u.2 none (.bool v)) z L a8 m;refine λa C hd'=>this a (C.rz ?_) hd';intro t pp hp;rw [iW] at hp ⊢;unfold ez at hp ⊢;cases W:Nat.beq d t
        .rw [jx W] at hp;exact hp
        .have:=b0 W;subst this;rw [oR W] at hp;rw [hl,hb];exact hp
       rcases wK s with ⟨c1,c2⟩|⟨c1,c2⟩
       .exact one true ha c1 c2
       .exact one false hb c1 c2
      .cases s
     .exact O J I B z L a8 s
    .exact O J I B z L a8 Y
  unfold po at h
  -- what is known of its guard
  have kk:∀{v:Bool},(unK ops fr f st.E o= .run/\v=true\/unK ops fr f st.E o= .skip/\v=false)->∃j i rj bj,o.guard=some (j,i)/\(ops[j]?).bind (·.dst)=some rj/\look (az ρ T st.E fr.F) rj=some (true,.bool bj)/\Nat.blt rj fr.n=true/\AS i bj=v:=λ{v} m=>by
   unfold unK at m;split at m
   .rcases m with ⟨h,_⟩|⟨h,_⟩ <;> cases h
   .rename_i k hg;obtain ⟨j,i⟩:=k;cases hm:wQ j f
    .simp only [hm] at m;rcases m with ⟨h,_⟩|⟨h,_⟩ <;> cases h
    .simp only [hm] at m;split at m
     .rename_i rj hr;cases hb:Nat.blt rj fr.n
      .simp only [hb] at m;rcases m with ⟨h,_⟩|⟨h,_⟩ <;> cases h
      .simp only [hb] at m;split at m
       .rename_i b hl;refine ⟨j,i,rj,b,hg,hr,by rw [iW,hl];simp [AV.val],hb,?_⟩;cases hp:AS i b
        .simp only [hp] at m;rcases m with ⟨h,_⟩|⟨_,h⟩
         .cases h
         .exact h.symm
        .simp only [hp] at m;rcases m with ⟨_,h⟩|⟨h,_⟩
         .exact h.symm
         .cases h
       .rcases m with ⟨h,_⟩|⟨h,_⟩ <;> cases h
     .rcases m with ⟨h,_⟩|⟨h,_⟩ <;> cases h
  cases N:unK ops fr f st.E o with
  |no=>rw [N] at h;cases h
  |da=>rw [N] at h;exact asU (by exact A (W7 ops fr f st.E o) ans h)
  |run=>
   rw [N] at h;obtain ⟨j,i,rj,bj,Z,g2,g3,g4,g5⟩:=kk (v:=true) (.inl ⟨N,rfl⟩);exact asw Z (by simpa using g2) g3 g4 g5 (A { o with guard:=none } rfl h)
  |skip=>
   rw [N] at h;obtain ⟨j,i,rj,bj,Z,g2,g3,g4,g5⟩:=kk (v:=false) (.inr ⟨N,rfl⟩);dsimp only at h;rw [Z] at h;obtain ⟨u,s⟩:=aI h;simp only [au] at u;refine asa Z (by simpa using g2) g3 g4 g5 u.1.1 ?_;have:=O (st':={ st with E:=cM o.dst (some (j,i)) (.raw undef) st.E }) .refl (cK _) (h1.out u.1.2 _ _) h2 hf hs s;rw [xr] at this;have hg:T.get (some (j,i))=false:=acp (by simpa using u.2);rw [hg] at this;exact this
end
def nF{R:Type}(X:Cx)(tb:List aA)(y:YC R):Code->Fr->(Nat->XE->aC->Option R)->Nat->aC->Option R
 | .skip,_,K,p,st=>K p .nrm st
 | .exit i,_,K,p,st=>K p (.ext i) st
 | .ret,_,K,p,st=>K p .ret st
 | .block i c,fr,K,p,st=>nF X tb y c fr (λp=>brk i (K p)) p st
 | .cond c a b,fr,K,p,st=>match bw [] st.E fr.F none c with
  |some (.bool v)=>cnd v (λh=>nF X tb y a fr K p { st with h:=h }) (λh=>nF X tb y b fr K p { st with h:=h }) st.h
  |_=>none
 | .seq a b,fr,K,p,st=>nF X tb y a fr (λp=>yh (nF X tb y b fr K p) (K p)) p (match st.h with
  | .s h=>{ st with h:=h }
  |_=>st)
 | .loop c,fr,K,p,st=>match st.h with
  | .l tm q=>aD (st.low fr) (
   match nP (enter fr tm (cQ c) st) tm (enter fr tm (cQ c) st).Et (enter fr tm (cQ c) st).Gt with
   |some s=>aj (λagain s=>nF X tb y c (enter fr tm (cQ c) st).fr (λp'=>yh (λst'=>match nP (enter fr tm (cQ c) st) tm st'.E st'.G with
      |some s=>aD (Nat.beq p' p) (again s) none
      |none=>none) (λe st'=>K p' e (A8 e (enter fr tm (cQ c) st) st'))) p (cR (enter fr tm (cQ c) st) tm s q)) X.fl s
   |none=>none ) none
  |_=>none
 | .region _ ops false,fr,K,p,st=>po X tb y ops.toList fr ops.toList [] [] st p (λp=>K p .nrm)
 | .region _ ops true,fr,K,p,st=>match st.h with
  | .r th h=>Lt X tb [] (λ_ _=>none) ops fr th { st with h:=h } (K p .nrm)
  |_=>Lt X tb [] (λ_ _=>none) ops fr [] st (K p .nrm)
 |_,_,_,_,_=>none
section
variable {R : Type} {r : R} {X : Cx} {tb : List aA} {y : YC R} {D : x3} {Φ : Nat -> Ctx} {ly : Nat} {H0 : List Row} {ρ0 : ay}
def Zh(Q:bh)(D:x3)(fr:Fr)(Φ:Nat->Ctx)(c0:Nat)(ρ0:ay)(r:R)(K:Nat->XE->aC->Option R):Prop:= ∀p,lL Q D fr (Φ p) c0 ρ0 r (K p)
theorem Zh.less{Q:bh}{fr:Fr}{c0 c1:Nat}{ρ0 a:ay}{K:Nat->XE->aC->Option R}(h:Zh Q D fr Φ c0 ρ0 r K)(ha:aS c0 ρ0 a)(b:c0<=c1):Zh Q D fr Φ c1 a r K:=λp=>(h p).less ha b
theorem Ba(j:∀p,∀it∈X.Γ,it∈Φ p)(o:∀e∈tb,e.Ok X.P X.Γ)(t:(ρ0 y.id).x= .func (.yield ly) #[] #[])(O:YOk X y r ly ρ0 H0 Φ):∀(c:Code) {Q:bh} {fr:Fr} {H1:List Row} {K:Nat->XE->aC->Option R} {p:Nat} {st:aC} {ρ:ay} {w:World},fr.H=H1++H0->IsY y ρ0 ρ st.c->Sat (ab ρ [] st.G++(ab ρ [] fr.H++Φ p)) w->
  nF X tb y c fr K p st=some r->Zh Q D fr Φ st.c ρ r K->WC X.P none c Q fr.n D (az ρ [] st.E fr.F) w
 | .skip,Q,fr,H1,K,p,st,ρ,w,hH,hI,hs,h,hK=>u5 (hK p .nrm st ρ w .refl (cK _) (by unfold nF at h;exact h) hs)
 | .exit i,Q,fr,H1,K,p,st,ρ,w,hH,hI,hs,h,hK=>Ws (hK p (.ext i) st ρ w .refl (cK _) (by unfold nF at h;exact h) hs)
 | .ret,Q,fr,H1,K,p,st,ρ,w,hH,hI,hs,h,hK=>BY (hK p .ret st ρ w .refl (cK _) (by unfold nF at h;exact h) hs)
 | .block i c,Q,fr,H1,K,p,st,ρ,w,hH,hI,hs,h,hK=>RD (Ba j o t O c hH hI hs (by unfold nF at h;exact h) (λp=>Rn (hK p)))
 | .cond c a b,Q,fr,H1,K,p,st,ρ,w,hH,hI,hs,h,hK=>by
  unfold nF at h;split at h
  next v hb=>have N:=bK (ρ:=ρ) hb;simp only [AV.val] at N;obtain ⟨h1,T,q1,q2⟩:=RV h;exact lj N (λhv=>Ba j o t O a (st:={ st with h:=h1 }) hH hI hs (q1 hv) hK) (λhv=>Ba j o t O b (st:={ st with h:=T }) hH hI hs (q2 hv) hK)
  .cases h
 | .seq a b,Q,fr,H1,K,p,st,ρ,w,hH,hI,hs,h,hK=>by
  unfold nF at h;have z:∀C,nF X tb y a fr (λp=>yh (nF X tb y b fr K p) (K p)) p { st with h:=C }=some r->WC X.P none (.seq a b) Q fr.n D (az ρ [] st.E fr.F) w:=λC hd=>by
   refine bq (Ba j o t O a (st:={ st with h:=C }) hH hI hs hd (λp' e st' ρ' w' B J u I=>?_));by_cases M:e= .nrm
   .subst M;exact aZ (Ba j o t O b hH (hI.less B J) I u (hK.less B J))
   .rw [ry M] at u;exact jL M (hK p' e st' ρ' w' B J u I)
  split at h
  next C hh=>exact z C h
  .exact z st.h h
 | .loop c,Q,fr,H1,K,p,st,ρ,w,hH,hI,hs,h,hK=>by
  unfold nF at h;split at h
  .rename_i tm q hh;obtain ⟨hl,T⟩:=aI h;obtain ⟨U,en⟩:=Bp (tm:=tm) (m:=cQ c) hl hs;generalize enter fr tm (cQ c) st=f at T en;split at T
   .rename_i s0 hb0;obtain ⟨ρ2,E',Y,k,DD,b1,b2,b3,b4⟩:=sW en.lF en.lH en.fx en.sat hb0;have W:∀s E' Y k DD,gJ (λn=>f.c+n) f.fix tm.vs 0 (jb _ s)=⟨E',Y,k,DD⟩->cR f tm s q=⟨f.c+k,E',rowsOf Y,q⟩:=λs E' Y k DD hb=>by unfold cR;rw [hb]
    refine QC (γ:=ay) (λs g w'=>aS f.c U g/\Sat (ab g [] (cR f tm s q).G++(ab g [] f.fr.H++Φ p)) w') (λs g=>az g [] (cR f tm s q).E f.fr.F) T ρ2 ⟨b2,?_⟩ ?_ (λA s g w' hag V=>?_)
    .rw [W _ _ _ _ _ b1];exact b4
    .rw [W _ _ _ _ _ b1];exact b3.trans en.sub
    .have N:f.c<=(cR f tm s q).c:=by unfold cR;generalize gJ (λn=>f.c+n) f.fix tm.vs 0 (jb _ s)=L;obtain ⟨a,b,c,d⟩:=L;exact qS _ _
     have hx:=Ba j o t O c (fr:=f.fr) (H1:=f.G++H1) (st:=cR f tm s q) (ρ:=g) (Q:=Exit.then (OS A r (λs g w'=>aS f.c U g/\Sat (ab g [] (cR f tm s q).G++(ab g [] f.fr.H++Φ p)) w') (λs g=>az g [] (cR f tm s q).E f.fr.F) fr.n D) Q)
      (by rw [en.fh,hH,cx]) ((hI.less en.ag en.le).less V.1 N) V.2 hag (λp' e st' ρ' w2 B J u I=>?_)
     .rw [en.fn] at hx;exact hx
     .by_cases M:e= .nrm
      .subst M;have S:(match nP f tm st'.E st'.G with|some s=>aD (Nat.beq p' p) (A s) none|none=>none)=some r:=u;split at S
       .rename_i s' hb;obtain ⟨hp,a5⟩:=aI S;have:=b0 hp;subst this;obtain ⟨Z,E2,R2,k2,DD2,d1,d2,d3,d4⟩:=sW en.lF en.lH en.fx I hb;rw [en.fn];refine OE s' Z a5 ⟨(V.1.trans (B.less N) (cK _)).trans d2 (cK _),?_⟩ ?_
        .rw [W _ _ _ _ _ d1];exact d4
        .rw [W _ _ _ _ _ d1];exact d3
       .cases S
      .rw [ry M] at u;have:=xm (hK p') en.ag en.le en.ff en.fh en.fn e st' ρ' w2 (V.1.trans (B.less N) (cK _)) (dx N J) u I;exact jL M this
   .cases T
  .cases h
 | .region id ops false,Q,fr,H1,K,p,st,ρ,w,hH,hI,hs,h,hK=>by
  unfold nF at h;obtain ⟨l⟩:=ops;exact bp (aeb (σ:=none) j o t O hH hI (λx h=>by cases h) (λx h=>by cases h) ⟨λx _=>rfl,λx _=>rfl⟩ hs h (λp' st' ρ' w' B J u I=>hK p' .nrm st' ρ' w' B J u I))
 | .region id ops true,Q,fr,H1,K,p,st,ρ,w,hH,hI,hs,h,hK=>by
  unfold nF at h;have key:∀th C,Lt X tb [] (λ_ _=>none) ops fr th { st with h:=C } (K p .nrm)=some r->WC X.P none (.region id ops true) Q fr.n D (az ρ [] st.E fr.F) w:=λth C hd=>
   Re (K:=λe st=>match e with
    | .nrm=>K p .nrm st
    |_=>none) (st:={ st with h:=C }) (j p) o (λ_ h=>by cases h) hs hd (λe st' ρ' w' B J u I=>by
     cases e with
     |nrm=>exact hK p .nrm st' ρ' w' B J u I
     |_=>cases u)
  split at h
  .exact key _ _ h
  .exact key [] st.h h
 | .label _,Q,fr,H1,K,p,st,ρ,w,hH,hI,hs,h,hK=>by unfold nF at h;cases h
 | .goto _,Q,fr,H1,K,p,st,ρ,w,hH,hI,hs,h,hK=>by unfold nF at h;cases h
 | .scope _,Q,fr,H1,K,p,st,ρ,w,hH,hI,hs,h,hK=>by unfold nF at h;cases h
 | .rangeFunc _ _ _ _,Q,fr,H1,K,p,st,ρ,w,hH,hI,hs,h,hK=>by unfold nF at h;cases h
end
variable {γ : Type} {Ds : γ -> x3}
theorem Sat.swap{w:World}{C D:Ctx}:∀{B A:Ctx},Sat (A++(B++(C++D))) w->Sat (A++(C++(B++D))) w
 |[],A,h=>h
 |x::B,A,h=>by
  have b:Sat ((A++[x])++(B++(C++D))) w:=by simpa using h
  have a:Sat (A++x::(C++(B++D))) w:=by simpa using b.swap
  simpa using Sat.move a
theorem Sat.front{w:World}{A B:Ctx}{x:Item}(h:Sat (A++x::B) w):Sat (x::(A++B)) w:=by have:=Sat.swap (A:=[]) (B:=A) (C:=[x]) (D:=B) (by simpa using h);simpa using this
theorem Sat.behind{w:World}{A B:Ctx}{x:Item}(h:Sat (x::(A++B)) w):Sat (A++x::B) w:=Sat.move (A:=[]) h
theorem MA{α:Type}{A B:List α}{x:α}:(A++x::B)[A.length]? =some x:=by simp
theorem afd{α:Type}{A B:List α}{x y:α}:(A++x::B).set A.length y=A++y::B:=by
 induction A with
 |nil=>rfl
 |cons a A ih=>simp [ih]
def FE:Nat->Option Code
 |0=>none
 |1=>some .ret
 |n+2=>aD (Nat.beq (n%2) 0) (some (.exit (n/2))) (some (.goto (n/2)))
def Ov:Nat->XE
 |0=> .nrm
 |1=> .ret
 |n+2=>aD (Nat.beq (n%2) 0) (.ext (n/2)) (.gto (n/2))
theorem akh{fr:Fr}:(p:Nat)->hx (Ov p) fr=fr.H
 |0=>rfl
 |1=>rfl
 |n+2=>by show hx (aD (Nat.beq (n%2) 0) (.ext (n/2)) (.gto (n/2))) fr=fr.H;cases Nat.beq (n%2) 0 <;> rfl
def Nu:Nat->LoopState
 |0=> .ready
 |_+1=> .done
theorem am0(i:Nat):FE (2*i+2)=some (.exit i):=by have b:2*i%2=0:=Nat.mul_mod_right 2 i;have a:2*i/2=i:=Nat.mul_div_cancel_left i (by decide);show aD (Nat.beq (2*i%2) 0) (some (Code.exit (2*i/2))) _=_;rw [b,a]
theorem ams(i:Nat):FE (2*i+3)=some (.goto i):=by
 have b:(2*i+1)%2=1:=by omega
 have a:(2*i+1)/2=i:=by omega
 show aD (Nat.beq ((2*i+1)%2) 0) _ (some (Code.goto ((2*i+1)/2)))=_;rw [b,a]
def ak2:List Tmp->List AV->aF->Option aF
 |[],[],E=>some E
 |p::ps,v::vs,E=>ak2 ps vs ((p,none,v)::E)
 |_,_,_=>none
theorem ad4{ρ:ay}{F:Env}:{ps:List Tmp}->{vs:List AV}->{E E':aF}->ak2 ps vs E=some E'->aF.env ρ [] E'++F=Z6 ps (AV.al ρ vs) (aF.env ρ [] E++F)/\Nat.beq (AV.al ρ vs).length ps.length=true
 |[],[],E,E',h=>by cases h;exact ⟨rfl,rfl⟩
 |p::ps,v::vs,E,E',h=>by
  obtain ⟨b,a⟩:=ad4 (ρ:=ρ) (F:=F) (ps:=ps) (vs:=vs) (E:=(p,none,v)::E) h;refine ⟨?_,?_⟩
  .rw [b];simp [aF.env,AV.al,Z6]
  .simpa [AV.al] using a
 |[],_::_,_,_,h=>by cases h
 |_::_,[],_,_,h=>by cases h
def ZP{R:Type}(X:Cx)(tb:List aA)(tp:List bY)(ps:List Tmp)(assign body:Code)(fr:Fr)(E:aF)(hb:HT)(vs:List AV)(st:aC)(KY:Bool->Nat->aC->Option R):Option R:=match ak2 ps vs E with
 |some E'=>den X tb tp assign fr (λe st1=>match e with
  | .nrm=>den X tb tp body fr (λe st2=>match e with
   | .nrm=>KY true 0 st2
   | .ret=>KY false 1 st2
   | .ext i=>KY false (2*i+2) st2
   | .gto l=>KY false (2*l+3) st2
   |_=>none) { st1 with h:=hb }
  |_=>none) ⟨st.c,E',st.G,.o⟩
 |none=>none
section
variable {R : Type} {r : R} {X : Cx} {tb : List aA} {tp : List bY} {fr : Fr}
theorem amL{Φ1:Ctx}(O:∀it∈X.Γ,it∈Φ1)(C:∀e∈tb,e.Ok X.P X.Γ)(B:∀e∈tp,e.Ok X.P X.Γ){ps:List Tmp}{assign body:Code}{E:aF}{hb:HT}{c0 l b:Nat}{ρ0:ay}{r0:LoopState->Option Code->Loop}
  (t:Rec fr.n (az ρ0 [] E fr.F) ps.toArray assign body b r0) (hE:E.low c0=true) (hF:aF.low c0 fr.F=true) (hp:ps.all (λp=>Nat.blt p fr.n)=true):
  YOk X ⟨c0,ZP X tb tp ps assign body fr E hb⟩ r l ρ0 fr.H (λp=>dZ l r0 (Nu p) (FE p)::Φ1):=by
 intro vs st ρ w H1 Y hid T hvs hG U S h;have J:ZP X tb tp ps assign body fr E hb vs st Y=some r:=h;unfold ZP at J;split at J
 .rename_i E' Z;have k:aS c0 ρ0 ρ:=T.less (j6 _);obtain ⟨z1,z2⟩:=ad4 (ρ:=ρ) (F:=aF.env ρ [] fr.F) Z;have eE:az ρ0 [] E fr.F=az ρ [] E fr.F:=by rw [az,az,uk k hE,uk k hF]
  rw [eE] at t;have N:bD st.c H1=true:=by
   clear h J S Z
   induction H1 with
   |nil=>rfl
   |cons x H1 ih=>
    simp only [qb,bD,au] at U ⊢;exact ⟨U.1,ih U.2⟩
  -- the row, parted in another way
  have M:∀{G:List Row} {ρ':ay} {x:Item} {w':World},Sat (ab ρ' [] G++(ab ρ' [] (H1++fr.H)++x::Φ1)) w'->Sat (ab ρ' [] G++(ab ρ' [] fr.H++(ab ρ' [] H1++x::Φ1))) w':=λ{G ρ' x w'} a=>by rw [bg,cx] at a;exact a.swap
  have V:∀{G:List Row} {ρ':ay} {x:Item} {w':World},Sat (ab ρ' [] G++(ab ρ' [] fr.H++(ab ρ' [] H1++x::Φ1))) w'->Sat (ab ρ' [] G++(ab ρ' [] (H1++fr.H)++x::Φ1)) w':=λ{G ρ' x w'} a=>by rw [bg,cx];exact a.swap
  -- the loop's row, exchanged
  have lr:∀{G:List Row} {ρ':ay} {x:Item},∃A:Ctx,ab ρ' [] G++(ab ρ' [] fr.H++(ab ρ [] H1++x::Φ1))=A++x::Φ1/\∀z,A++z::Φ1=ab ρ' [] G++(ab ρ' [] fr.H++(ab ρ [] H1++z::Φ1)):=λ{G ρ' x}=>
   ⟨ab ρ' [] G++(ab ρ' [] fr.H++ab ρ [] H1),by simp,λz=>by simp⟩
  have Q:=M S;have g:∀x:Item,∀it∈X.Γ,it∈ab ρ [] H1++x::Φ1:=λx it hi=>gy _ (cp _ (O it hi));have R:Sat (dZ l r0 .ready none::(ab ρ [] st.G++(ab ρ [] (H1++fr.H)++Φ1))) w:=by
   have:Sat ((ab ρ [] st.G++ab ρ [] (H1++fr.H))++dZ l r0 .ready none::Φ1) w:=by rw [cx];exact S
   have:=this.front;rw [cx] at this;exact this
  refine asv t R z2 hp ?_;rw [<-z1];refine gS (σ:=some l) (D:=[]) (Φ:=ab ρ [] H1++dZ l r0 .ready none::Φ1) (g _) C B assign (fr:=fr) (st:=⟨st.c,E',st.G,.o⟩) (ρ:=ρ) Q J (λe st1 y w1 a1 a2 a3 a4=>?_);cases e with
  |nrm=>
   obtain ⟨A,e1,e2⟩:=lr (G:=st1.G) (ρ':=y) (x:=dZ l r0 .ready none);have W:Sat (A++dZ l r0 .ready none::Φ1) w1:=by rw [<-e1];exact a4
   refine amv (i:=A.length) t W MA (λw2 I=>?_);rw [afd,e2] at I;refine gS (σ:=some l) (D:=[]) (Φ:=ab ρ [] H1++dZ l r0 .busy none::Φ1) (g _) C B body (fr:=fr) (st:={ st1 with h:=hb }) (ρ:=y) I a3 (λe d q w3 b1 b2 m b4=>?_);obtain ⟨u,e3,e4⟩:=lr (G:=d.G) (ρ':=q) (x:=dZ l r0 .busy none);have f:Sat (u++dZ l r0 .busy none::Φ1) w3:=by rw [<-e3];cases e <;> first|exact b4|cases m
   have K:aS st.c ρ q:=a1.trans b1 a2;have Hl:st.c<=d.c:=dx a2 b2;have fin:∀{L:Bool} {p':Nat} {s:World},Y L p' d=some r->Sat ((u++dZ l r0 .busy none::Φ1).set u.length (dZ l r0 (Nu p') (FE p'))) s->
     ∃b p' st' ρ',Value.bool L= .bool b/\aS st.c ρ ρ'/\st.c<=st'.c/\Y b p' st'=some r/\Sat (ab ρ' [] st'.G++(ab ρ' [] (H1++fr.H)++dZ l r0 (Nu p') (FE p')::Φ1)) s:=λ{L p' s} hk a=>by
    rw [afd,e4,<-ba K N] at a;exact ⟨L,p',d,q,rfl,K,Hl,hk,V a⟩
   cases e with
   |nrm=>exact anx (i:=u.length) t f MA (λs a=>fin (p':=0) m a)
   |ret=>exact abJ (i:=u.length) t f MA (λs a=>fin (p':=1) m a)
   |ext i=>exact YX (i:=u.length) t f MA (λs a=>fin (p':=2*i+2) m (by rw [am0];exact a))
   |gto j=>exact YG (i:=u.length) t f MA (λs a=>fin (p':=2*j+3) m (by rw [ams];exact a))
   |kh v=>cases m
   |panE v=>cases m
   |panL v=>cases m
  |_=>cases a3
 .cases J
end
def Oy:aF->aF
 |[]=>[]
 |(t,_,v)::E=>(t+10000,some (1000000000,false),v)::Oy E
theorem ad2{ρ:ay}:{E:aF}->{t:Nat}->{p:Bool×Value}->look (aF.env ρ [] (Oy E)) t=some p->10000<=t/\p.1=false
 |[],_,_,h=>by cases h
 |(t',g,v)::E,t,p,h=>by
  simp only [Oy,aF.env,look] at h;cases hb:Nat.beq (t'+10000) t
  .rw [hb,b7] at h;exact ad2 h
  .rw [hb,ca] at h;have:=b0 hb;cases h;exact ⟨by omega,rfl⟩
theorem Fits.far{n:Nat}{E:Env}{a:Act}{ρ:ay}{F:aF}(h:Fits n E a)(hn:n<=10000):Fits n (E++aF.env ρ [] (Oy F)) a:=by
 refine ⟨h.size,λt g v ht=>?_⟩;rw [HL] at ht;split at ht
 next p hp=>cases ht;exact h.at_ t g v hp
 .obtain ⟨d,b⟩:=ad2 ht;simp only at b;subst b;have c:=h.size;have:¬t<a.tmps.size:=by omega
  simp [Array.getD,this,CC]
def itE{R:Type}(Kend:Nat->aC->Option R)(p:Nat):XE->aC->Option R
 | .nrm,st=>Kend p st
 | .ret,st=>Kend p st
 |_,_=>none
def rfD{R:Type}(X:Cx)(tb:List aA)(tp:List bY)(tc:List pO)(ps:List Tmp)(assign body:Code)(gv:AV)(fr:Fr)(st:aC)(hi hb:HT)(Kend:Nat->aC->Option R):Option R:=match gv with
 | .fn f a b=>(match SC tc f with
  |some cl=>(match cl.fn.body with
   |some ib=>aD (cl.fn.results.isEmpty&&Nat.ble (a.length+(b.length+1)) cl.fn.ntmps&&Nat.ble cl.fn.ntmps 10000&&st.low fr&&ps.all (λp=>Nat.blt p fr.n)&&AV.cq st.c a&&AV.cq st.c b) (
     nF X tb ⟨st.c,ZP X tb tp ps assign body fr st.E hb⟩ ib ⟨Oy (st.E++fr.F),fr.H,cl.fn.ntmps⟩ (itE Kend) 0 ⟨st.c+1,ra 0 (a++ .nv st.c::b),st.G,hi⟩) none
   |none=>none)
  |none=>none)
 |_=>none
section
variable {P : Program} {n : Nat} {D0 : x3} {E : Env} {w : World} {Γ : Ctx} {Q : bh}
theorem YV{g:Operand}{ps:Array Tmp}{assign body:Code}{f:FuncId}{first cap:zc}(ds:zm)
  (o:Enters P f) (B:ar E true g (.func (.func f) first.toArray cap.toArray)) (A:Sat (eR ds::Γ) w)
  (h:∀(l b:Nat) (r:LoopState->Option Code->Loop) w1,Rec n E ps assign body b r->Sat (dZ l r .ready none::eR (b::ds)::Γ) w1->
   jJ P f (first++[Value.func (.yield l) #[] #[]]++cap) w1 (oh P none l n (mk (b::ds)++D0) Q E)):
  WC P none (.rangeFunc g ps assign body) Q n (mk ds++D0) E w:=λa m hd=>by
 refine wpIn_rangeFunc λfn C=>?_;obtain ⟨r,x⟩:∃r:LoopState->Option Code->Loop,r=λst z=>{ state:=st,pending:=z,fn,tmps:=a.tmps,params:=ps,assign,body,defers:=w.heap.size }:=⟨_,rfl⟩;obtain ⟨d,p⟩:∃d,(w.alloc (.deferred (some []))).alloc (.loop (r .ready none))=d:=⟨_,rfl⟩;have t:Sat (w9 w.heap.size (.deferred (some []))::eR ds::Γ) (w.alloc (.deferred (some []))):=A.push (gw _ _) (λb hb=>by
  have:b=w.heap.size:=by simpa [w9] using hb
  subst this;simp) (λ_ _=>World.alloc_heap_new w _)
 have s:Sat (dZ (w.heap.size+1) r .ready none::eR (w.heap.size::ds)::Γ) d:=by
  rw [<-p];have:=t.Ql.push (new:=dZ (w.alloc (.deferred (some []))).heap.size r .ready none) (gw _ _) (λb hb=>by
   have:b=(w.alloc (.deferred (some []))).heap.size:=by simpa [w9] using hb
   subst this;simp) (λ_ _=>World.alloc_heap_new (w.alloc (.deferred (some []))) (.loop (r .ready none)))
  rwa [World.size_alloc] at this
 have i:Rec n E ps assign body w.heap.size r:=⟨fn,a.tmps,⟨m.size,m.at_⟩,x⟩;have u:a.eval g=Value.func (.func f) first.toArray cap.toArray:=B n a m rfl;refine ⟨w.heap.size+1,[{ target:= .collected w.heap.size,args:= #[] }],d,{ target:= .fn (.func f) cap.toArray,args:=first.toArray++ #[Value.func (.yield (w.heap.size+1)) #[] #[]] },d,f,
  (first++[Value.func (.yield (w.heap.size+1)) #[] #[]]++cap).toArray,d,?_,?_,λ_ _=>trivial,?_,J3,?_⟩
 .rw [<-p,x];exact run_enterLoop_outer _ _ _ _ _
 .simp only [resolve,u,Deferred.ofValue];simp [Act.eval]
 .have:=o (first++[Value.func (.yield (w.heap.size+1)) #[] #[]]++cap).toArray d;simp only [invoke];simpa using this
 .refine S7 (Calls.mono (h (w.heap.size+1) w.heap.size r d i s) λe w' o=>?_);cases e with
  |returned v=>
   obtain ⟨j,q,D,y⟩:=o;refine ⟨j,q,D,?_⟩;have k:Fits n E { a with defers:=[{ target:= .collected w.heap.size,args:= #[] }]++a.defers }:=⟨m.size,m.at_⟩;cases j with
   |none=>exact y _ k (by simp [hd,mk])
   |some c=>exact y _ k (by simp [hd,mk])
  |panicked c=>exact o.elim
  |outgrown=>exact o.elim
end
section
variable {R : Type} {r : R} {X : Cx} {tb : List aA} {tp : List bY} {tc : List pO} {fr : Fr} {Φ : Ctx} {D : x3} {Q : bh}
theorem ajq(I:∀it∈X.Γ,it∈Φ)(L:∀e∈tb,e.Ok X.P X.Γ)(Y:∀e∈tp,e.Ok X.P X.Γ)(Z:∀c∈tc,c.Ok X.P){g:Operand}{ps:Array Tmp}{assign body:Code}{gv:AV}{st:aC}{hi hb:HT}{m:Nat->aC->Option R}{ρ:ay}{w:World}{ds:zm}
  (hg:bw [] st.E fr.F none g=some gv) (hs:Sat (ab ρ [] st.G++(ab ρ [] fr.H++eR ds::Φ)) w) (h:rfD X tb tp tc ps.toList assign body gv fr st hi hb m=some r)
  (O:∀p st1 d w1 ds',aS st.c ρ d->st.c<=st1.c->m p st1=some r->Sat (ab d [] st1.G++(ab d [] fr.H++eR ds'::Φ)) w1->Ox Q (Ov p) d fr.n (mk ds'++D) (az d [] st.E fr.F) w1):
  WC X.P none (.rangeFunc g ps assign body) Q fr.n (mk ds++D) (az ρ [] st.E fr.F) w:=by
 unfold rfD at h;split at h
 .rename_i f a b;split at h
  .rename_i A hcl;obtain ⟨c1,c2⟩:=RT Z hcl;subst c2;split at h
   .rename_i ib hib;obtain ⟨k1,h1⟩:=aI h;simp only [au] at k1;obtain ⟨⟨⟨⟨⟨⟨d1,d2⟩,d3⟩,d4⟩,d5⟩,d6⟩,d7⟩:=k1;have k:A.fn.results= #[]:=by simpa using d1
    have hn1:A.fn.ntmps<=10000:=ei d3;obtain ⟨l1,l2,l3,l4⟩:=aC.cJ.1 d4;have N:=bK (ρ:=ρ) hg;simp only [AV.val] at N;have T:AV.cq st.c a=true/\AV.cq st.c b=true:=⟨d6,d7⟩
    -- the marks in front
    have hs0:Sat (eR ds::(ab ρ [] st.G++(ab ρ [] fr.H++Φ))) w:=by
     have:Sat ((ab ρ [] st.G++ab ρ [] fr.H)++eR ds::Φ) w:=by rw [cx];exact hs
     have:=this.front;rwa [cx] at this
    refine YV ds c1.1 N hs0 (λl j r0 w1 M hs1=>?_);have hr':Rec fr.n (az ρ [] st.E fr.F) ps.toList.toArray assign body j r0:=by simpa using M
    -- yield's name
    generalize B:ρ.set st.c { dA with x:= .func (.yield l) #[] #[] }=d;have o:aS st.c ρ d:=by rw [<-B];exact ay.aX
    have J:(d st.c).x= .func (.yield l) #[] #[]:=by rw [<-B,ay.bJ]
    have z:AV.al d (a++ .nv st.c::b)=AV.al ρ a++[Value.func (.yield l) #[] #[]]++AV.al ρ b:=by rw [dw];simp only [AV.al,AV.val,J];rw [AV.cd o _ T.1,AV.cd o _ T.2];simp
    rw [<-z]
    -- the rows
    have hs2:Sat (ab d [] st.G++(ab d [] fr.H++(dZ l r0 (Nu 0) (FE 0)::eR (j::ds)::Φ))) w1:=by
     rw [ba o l3,ba o l4];have e1:Sat ([]++([dZ l r0 .ready none,eR (j::ds)]++((ab ρ [] st.G++ab ρ [] fr.H)++Φ))) w1:=by simpa using hs1
     have:=e1.swap;simp only [p5,cx,qb] at this;exact this
    have C:∀p,∀it∈X.Γ,it∈(dZ l r0 (Nu p) (FE p)::eR (j::ds)::Φ):=λp it hi=>cp _ (cp _ (I it hi));have hrr:Rec fr.n (az d [] st.E fr.F) ps.toList.toArray assign body j r0:=by rw [sd d4 o];exact hr'
    have hY:=amL (r:=r) (tp:=tp) (hb:=hb) (Φ1:=eR (j::ds)::Φ) (λit hi=>cp _ (I it hi)) L Y (l:=l) hrr l1 l2 d5;refine Calls.mono (nB (S:=oh X.P none l fr.n (mk (j::ds)++D) Q (az ρ [] st.E fr.F)) (Sp:=λ_ _=>False) c1.2 hib rfl (by rw [AV.bF];simpa [Nat.add_comm,Nat.add_left_comm,q8] using d2) ?_) (λe w' he=>he);have hE:az d [] (ra 0 (a++ .nv st.c::b)) (Oy (st.E++fr.F))=iota 0 (AV.al d (a++ .nv st.c::b))++aF.env d [] (Oy (st.E++fr.F)):=by show aF.env d [] (ra 0 _)++aF.env d [] _=_;rw [Fw]
    have hx:=Ba (r:=r) (D:=[]) (Φ:=λp=>dZ l r0 (Nu p) (FE p)::eR (j::ds)::Φ) C L (y:=⟨st.c,ZP X tb tp ps.toList assign body fr st.E hb⟩) J hY ib (Q:=BP X.P A.fn (oh X.P none l fr.n (mk (j::ds)++D) Q (az ρ [] st.E fr.F)) (λ_ _=>False)) (fr:=⟨Oy (st.E++fr.F),fr.H,A.fn.ntmps⟩) (H1:=[]) (K:=itE m) (st:=⟨st.c+1,ra 0 (a++ .nv st.c::b),st.G,hi⟩) (ρ:=d) (w:=w1) rfl ⟨l7 _,.refl⟩ hs2 h1 (λp e st1 i V a1 a2 W a4=>?_)
    .rw [hE] at hx;exact λaa hf hd=>hx aa (hf.far hn1) hd
    . -- the iterator's end
     have U:aS st.c ρ i:=o.trans (a1.less (j6 _)) (cK _);have Hl:st.c<=st1.c:=Nat.le_of_succ_le a2;have eE:az i [] st.E fr.F=az ρ [] st.E fr.F:=sd d4 U;have fin:m p st1=some r->oh X.P none l fr.n (mk (j::ds)++D) Q (az ρ [] st.E fr.F) (.tuple #[]) V:=λhk=>by
      have t:Sat (dZ l r0 (Nu p) (FE p)::(ab i [] st1.G++(ab i [] fr.H++eR (j::ds)::Φ))) V:=by
       have:Sat ((ab i [] st1.G++ab i [] fr.H)++dZ l r0 (Nu p) (FE p)::eR (j::ds)::Φ) V:=by rw [cx];cases e <;> first|exact a4|cases W
       have:=this.front;rwa [cx] at this
      have at_:∀s,Sat (ab i [] st1.G++(ab i [] fr.H++eR (j::ds)::Φ)) s->Ox Q (Ov p) i fr.n (mk (j::ds)++D) (az ρ [] st.E fr.F) s:=λs u=>by have:=O p st1 i s (j::ds) U Hl hk u;rwa [eE] at this
      match p,t,at_ with
      |0,t,at_=>exact oh.go M t (λs u=>at_ s u)
      |1,t,at_=>exact oh.jump M t (λs u=>BY (at_ s u))
      |q+2,t,at_=>
       simp only [FE,Ov] at t at_;cases hq:Nat.beq (q%2) 0
       .simp only [hq] at t at_;exact oh.jump M t (λs u=>aeq (at_ s u))
       .simp only [hq] at t at_;exact oh.jump M t (λs u=>Ws (at_ s u))
     cases e with
     |nrm=>exact (afU (vs:=[]) (by simp [k]) (λaa hf=>by rw [k];simp) (v:= .tuple #[]) rfl (fin W):At (BP X.P A.fn _ _) .ret A.fn.ntmps [] _ V)
     |ret=>exact afU (vs:=[]) (by simp [k]) (λaa hf=>by rw [k];simp) (v:= .tuple #[]) rfl (fin W)
     |_=>cases W
   .cases h
  .cases h
 .cases h
end
def tC:Code->Bool
 | .rangeFunc .. =>true
 | .seq a b=>tC a||tC b
 | .cond _ a b=>tC a||tC b
 | .block _ c=>tC c
 | .loop c=>tC c
 | .scope c=>tC c
 |_=>false
def mG{R:Type}(X:Cx)(tb:List aA)(tp:List bY)(tc:List pO):Code->Fr->(XE->aC->Option R)->aC->Option R
 | .block i c,fr,K,st=>mG X tb tp tc c fr (brk i K) st
 | .cond c x y,fr,K,st=>aD (tC x||tC y) (match bw [] st.E fr.F none c with
  |some (.bool b)=>cnd b (λh=>mG X tb tp tc x fr K { st with h:=h }) (λh=>mG X tb tp tc y fr K { st with h:=h }) st.h
  |_=>none) (den X tb tp (.cond c x y) fr K st)
 | .seq x y,fr,K,st=>aD (tC x||tC y) (match st.h with
  | .j tm p q=>aD (st.low fr) (
   ai (λs:fS (jo tm.vs)=>mG X tb tp tc y fr K (jk (enter fr tm (cQ x) st) tm s q)) λk=>
   mG X tb tp tc x (enter fr tm (cQ x) st).fr (yh (λst'=>match nP (enter fr tm (cQ x) st) tm st'.E st'.G with
     |some s=>k s
     |none=>none) (λe st'=>K e (A8 e (enter fr tm (cQ x) st) st'))) ⟨(enter fr tm (cQ x) st).c,(enter fr tm (cQ x) st).Et,(enter fr tm (cQ x) st).Gt,p⟩ ) none
  | .s h=>mG X tb tp tc x fr (yh (mG X tb tp tc y fr K) K) { st with h:=h }
  |_=>mG X tb tp tc x fr (yh (mG X tb tp tc y fr K) K) st) (den X tb tp (.seq x y) fr K st)
 | .loop c,fr,K,st=>aD (tC c) (match st.h with
  | .l tm p=>aD (st.low fr) (
   match nP (enter fr tm (cQ c) st) tm (enter fr tm (cQ c) st).Et (enter fr tm (cQ c) st).Gt with
   |some s=>aj (λagain s=>mG X tb tp tc c (enter fr tm (cQ c) st).fr (yh (λst'=>match nP (enter fr tm (cQ c) st) tm st'.E st'.G with
      |some s=>again s
      |none=>none) (λe st'=>K e (A8 e (enter fr tm (cQ c) st) st'))) (cR (enter fr tm (cQ c) st) tm s p)) X.fl s
   |none=>none ) none
  |_=>none) (den X tb tp (.loop c) fr K st)
 | .rangeFunc g ps assign body,fr,K,st=>match st.h with
  | .c (.c hi hb) (.r (70000::th) hr)=>(match bw [] st.E fr.F none g with
   |some gv=>rfD X tb tp tc ps.toList assign body gv ⟨fr.F,bn (λr=> !(ij (reach st fr th) r)) st.G++fr.H,fr.n⟩ { st with G:=bn (ij (reach st fr th)) st.G } hi hb (λp st1=>K (Ov p) { st1 with E:=st.E,h:=hr,G:=st1.G++bn (λr=> !(ij (reach st fr th) r)) st.G })
   |none=>none)
  | .c (.c hi hb) hr=>(match bw [] st.E fr.F none g with
   |some gv=>rfD X tb tp tc ps.toList assign body gv fr st hi hb (λp st1=>K (Ov p) { st1 with E:=st.E,h:=hr })
   |none=>none)
  |_=>none
 |c,fr,K,st=>den X tb tp c fr K st
section
variable {P : Program} {ρ : ze} {Q : bh} {n : Nat} {E : Env} {w : World}
def ahe{γ:Type}(J:γ->World->Prop)(Es:γ->Env)(n:Nat)(Ds:γ->x3)(a:Act)(w:World):Prop:=
 ∃g,J g w/\Fits n (Es g) a/\a.defers=Ds g
theorem acY(J:γ->World->Prop)(b:γ->Env)(Ds:γ->x3){D:x3}{x y:Code}
  (c:∀g w',J g w'->WC P ρ y Q n (Ds g) (b g) w') (hx:WC P ρ x (Exit.then (ahe J b n Ds) Q) n D E w):WC P ρ (.seq x y) Q n D E w:=
 λa d hd=>wpIn_seq (wpIn_mono (hx a d hd) (λe k w' h=>by cases e <;> first|exact h|(obtain ⟨g,f,i,j⟩:=h;exact c g w' f k i j)))
theorem alS{J:γ->World->Prop}{a:γ->Env}{D:x3}(g:γ)(d:J g w)(b:lM (a g) E)(e:D=Ds g):At (Exit.then (ahe J a n Ds) Q) .normal n D E w:=
 λf c hd=>⟨g,d,c.rz b,hd.trans e⟩
def SB{σ γ τ:Type}(again:σ->Option τ)(r:τ)(J:σ->γ->World->Prop)(Es:σ->γ->Env)(n:Nat)(Ds:γ->x3)(a:Act)(w:World):Prop:=
 ∃s g,again s=some r/\J s g w/\Fits n (Es s g) a/\a.defers=Ds g
theorem anW{σ τ:Type}{F:(σ->Option τ)->σ->Option τ}{r:τ}(J:σ->γ->World->Prop)(d:σ->γ->Env)(Ds:γ->x3){body:Code}{D:x3}
  {N:Nat} {b:σ} (hm:aj F N b=some r) (c:γ) (t:J b c w) (q:lM (d b c) E) (i:D=Ds c)
  (round:∀again s g w,F again s=some r->J s g w->WC P ρ body (Exit.then (SB again r J d n Ds) Q) n (Ds g) (d s g) w):
  WC P ρ (.loop body) Q n D E w:=λa l hd=>
 IG (λm=>SB (aj F m) r J d n Ds) N ⟨b,c,hm,t,l.rz q,hd.trans i⟩ λm a w ⟨s,g,k,o,p,i⟩=>by
  obtain ⟨j,rfl,f⟩:=NO k;exact wpIn_mono (round (aj F j) s g w f o a p i) λe a w h=>by cases e <;> first|exact h|exact ⟨j,l7 _,h⟩
theorem ais{σ τ:Type}{a:σ->Option τ}{r:τ}{J:σ->γ->World->Prop}{b:σ->γ->Env}{D:x3}
  (s:σ) (g:γ) (hm:a s=some r) (e:J s g w) (c:lM (b s g) E) (f:D=Ds g):At (Exit.then (SB a r J b n Ds) Q) .normal n D E w:=
 λh d hd=>⟨s,g,hm,e,d.rz c,hd.trans f⟩
end
section
variable {R : Type} {r : R} {X : Cx} {tb : List aA} {tp : List bY} {tc : List pO} {Φ : Ctx} {D : x3}
def Ut(Q:bh)(D:x3)(fr:Fr)(Φ:Ctx)(c0:Nat)(ρ0:ay)(r:R)(K:XE->aC->Option R):Prop:= ∀ds,lL Q (mk ds++D) fr (eR ds::Φ) c0 ρ0 r K
theorem Ut.less{Q:bh}{fr:Fr}{c0 c1:Nat}{ρ0 a:ay}{K:XE->aC->Option R}(h:Ut Q D fr Φ c0 ρ0 r K)(ha:aS c0 ρ0 a)(b:c0<=c1):Ut Q D fr Φ c1 a r K:=λds=>(h ds).less ha b
theorem apL(U:∀it∈X.Γ,it∈Φ)(W:∀e∈tb,e.Ok X.P X.Γ)(V:∀e∈tp,e.Ok X.P X.Γ)(htc:∀c∈tc,c.Ok X.P):∀(c:Code) {Q:bh} {fr:Fr} {K:XE->aC->Option R} {st:aC} {ρ:ay} {w:World} {ds:zm},Sat (ab ρ [] st.G++(ab ρ [] fr.H++eR ds::Φ)) w->
  mG X tb tp tc c fr K st=some r->Ut Q D fr Φ st.c ρ r K->WC X.P none c Q fr.n (mk ds++D) (az ρ [] st.E fr.F) w:=λc=>by
 have hΓ':∀ds:zm,∀it∈X.Γ,it∈eR ds::Φ:=λds it hi=>cp _ (U it hi);have uM:∀(c:Code) {Q:bh} {fr:Fr} {K:XE->aC->Option R} {st:aC} {ρ:ay} {w:World} {ds:zm},Sat (ab ρ [] st.G++(ab ρ [] fr.H++eR ds::Φ)) w->
   den X tb tp c fr K st=some r->Ut Q D fr Φ st.c ρ r K->WC X.P none c Q fr.n (mk ds++D) (az ρ [] st.E fr.F) w:=λc {Q fr K st ρ w ds} u h t=>
  gS (hΓ' ds) W V c u h (t ds)
 induction c with
 |block i c ih=>
  intro Q fr K st ρ w ds u h t;exact RD (ih u (by unfold mG at h;exact h) (λds=>Rn (t ds)))
 |cond c x y T S=>
  intro Q fr K st ρ w ds u h t;unfold mG at h;rcases eo h with ⟨_,h⟩|⟨_,h⟩
  .split at h
   next b hb=>have Z:=bK (ρ:=ρ) hb;simp only [AV.val] at Z;obtain ⟨p,q,h1,N⟩:=RV h;exact lj Z (λhb=>T (st:={ st with h:=p }) u (h1 hb) t) (λhb=>S (st:={ st with h:=q }) u (N hb) t)
   .cases h
  .exact uM _ u h t
 |seq x y T S=>
  intro Q fr K st ρ w ds u h t;unfold mG at h;rcases eo h with ⟨_,h⟩|⟨_,h⟩
  .have I:∀h',mG X tb tp tc x fr (yh (mG X tb tp tc y fr K) K) { st with h:=h' }=some r->WC X.P none (.seq x y) Q fr.n (mk ds++D) (az ρ [] st.E fr.F) w:=λh' hd=>by
    refine bq (T (st:={ st with h:=h' }) u hd (λj e st' ρ' w' C O z B=>?_));by_cases J:e= .nrm
    .subst J;exact aZ (S B z (t.less C O))
    .rw [ry J] at z;exact jL J (t j e st' ρ' w' C O z B)
   split at h
   .rename_i tm p q hh;obtain ⟨hl,N⟩:=aI h;obtain ⟨o,en⟩:=Bp (tm:=tm) (m:=cQ x) hl u;generalize enter fr tm (cQ x) st=f at N en;unfold ai at N;refine acY (γ:=(fS (jo tm.vs)×ay)×zm) (λg w'=>mG X tb tp tc y fr K (jk f tm g.1.1 q)=some r/\aS f.c o g.1.2/\Sat (ab g.1.2 [] (jk f tm g.1.1 q).G++(ab g.1.2 [] fr.H++eR g.2::Φ)) w') (λg=>az g.1.2 [] (jk f tm g.1.1 q).E fr.F) (λg=>mk g.2++D) (λg w' hg=>?_) ?_
    .obtain ⟨g1,g2,g3⟩:=hg;refine S g3 g1 (t.less (en.ag.trans g2 en.le) ?_);have:f.c<=(jk f tm g.1.1 q).c:=by unfold jk;generalize gJ (λn=>f.c+n) f.fix tm.vs 0 (jb _ g.1.1)=L;obtain ⟨a,b,c,d⟩:=L;exact qS _ _
     exact dx en.le this
    .have hx:=T (fr:=f.fr) (st:=⟨f.c,f.Et,f.Gt,p⟩) (ρ:=o) (Q:=Exit.then (ahe (λ(g:(fS (jo tm.vs)×ay)×zm) w'=>mG X tb tp tc y fr K (jk f tm g.1.1 q)=some r/\aS f.c o g.1.2/\Sat (ab g.1.2 [] (jk f tm g.1.1 q).G++(ab g.1.2 [] fr.H++eR g.2::Φ)) w') (λg=>az g.1.2 [] (jk f tm g.1.1 q).E fr.F) fr.n (λg=>mk g.2++D)) Q) en.sat N (λj e st' ρ' w' C O z B=>?_)
     .rw [en.fn] at hx;exact hx.rz _ en.sub
     .by_cases J:e= .nrm
      .subst J;have v:(match nP f tm st'.E st'.G with|some s=>mG X tb tp tc y fr K (jk f tm s q)|none=>none)=some r:=z;split at v
       .rename_i s hb;obtain ⟨l,E',Y,k,DD,b1,b2,b3,b4⟩:=sW en.lF en.lH en.fx B hb;have eJ:jk f tm s q=⟨f.c+k,E'++f.E,rowsOf Y++f.G,q⟩:=by unfold jk;rw [b1]
        rw [en.fn];refine alS ((s,l),j) ⟨v,C.trans b2 (cK _),?_⟩ ?_ rfl
        .rw [eJ];show Sat (ab l [] (rowsOf Y++f.G)++_) w';rw [bg,cx];rw [en.fh,bg,cx] at b4;exact b4
        .rw [eJ];show lM (aF.env l [] (E'++f.E)++_) _;rw [en.ff] at b3;have e2:az l [] E' (f.E++fr.F)=aF.env l [] (E'++f.E)++aF.env l [] fr.F:=by show aF.env l [] E'++aF.env l [] (f.E++fr.F)=_;rw [su,su,cx]
         rw [<-e2,en.ff];exact b3
       .cases v
      .rw [ry J] at z;have:=xm (t j) en.ag en.le en.ff en.fh en.fn e st' ρ' w' C O z B;exact jL J this
   next h' hh=>exact I h' h
   .exact I st.h h
  .exact uM _ u h t
 |loop c ih=>
  intro Q fr K st ρ w ds u h t;unfold mG at h;rcases eo h with ⟨_,h⟩|⟨_,h⟩
  .split at h
   .rename_i tm p hh;obtain ⟨hl,N⟩:=aI h;obtain ⟨o,en⟩:=Bp (tm:=tm) (m:=cQ c) hl u;generalize enter fr tm (cQ c) st=f at N en;split at N
    .rename_i s0 hb0;obtain ⟨l,E',Y,k,DD,b1,b2,b3,b4⟩:=sW en.lF en.lH en.fx en.sat hb0;have eL:∀s E' Y k DD,gJ (λn=>f.c+n) f.fix tm.vs 0 (jb _ s)=⟨E',Y,k,DD⟩->cR f tm s p=⟨f.c+k,E',rowsOf Y,p⟩:=λs E' Y k DD hb=>by unfold cR;rw [hb]
     refine anW (γ:=ay×zm) (λs g w'=>aS f.c o g.1/\Sat (ab g.1 [] (cR f tm s p).G++(ab g.1 [] f.fr.H++eR g.2::Φ)) w') (λs g=>az g.1 [] (cR f tm s p).E f.fr.F) (λg=>mk g.2++D) N (l,ds) ⟨b2,?_⟩ ?_ rfl (λM s g w' hag hJ=>?_)
     .rw [eL _ _ _ _ _ b1];exact b4
     .rw [eL _ _ _ _ _ b1];exact b3.trans en.sub
     .have Z:f.c<=(cR f tm s p).c:=by unfold cR;generalize gJ (λn=>f.c+n) f.fix tm.vs 0 (jb _ s)=L;obtain ⟨a,b,c,d⟩:=L;exact qS _ _
      have hx:=ih (fr:=f.fr) (st:=cR f tm s p) (ρ:=g.1) (ds:=g.2) (Q:=Exit.then (SB M r (λs (g:ay×zm) w'=>aS f.c o g.1/\Sat (ab g.1 [] (cR f tm s p).G++(ab g.1 [] f.fr.H++eR g.2::Φ)) w') (λs g=>az g.1 [] (cR f tm s p).E f.fr.F) fr.n (λg=>mk g.2++D)) Q) hJ.2 hag (λj e st' ρ' w2 C O z B=>?_)
      .rw [en.fn] at hx;exact hx
      .by_cases J:e= .nrm
       .subst J;have v:(match nP f tm st'.E st'.G with|some s=>M s|none=>none)=some r:=z;split at v
        .rename_i s' hb;obtain ⟨ρ3,E2,R2,k2,DD2,d1,d2,d3,d4⟩:=sW en.lF en.lH en.fx B hb;rw [en.fn];refine ais s' (ρ3,j) v ⟨(hJ.1.trans (C.less Z) (cK _)).trans d2 (cK _),?_⟩ ?_ rfl
         .rw [eL _ _ _ _ _ d1];exact d4
         .rw [eL _ _ _ _ _ d1];exact d3
        .cases v
       .rw [ry J] at z;have:=xm (t j) en.ag en.le en.ff en.fh en.fn e st' ρ' w2 (hJ.1.trans (C.less Z) (cK _)) (dx Z O) z B;exact jL J this
    .cases N
   .cases h
  .exact uM _ u h t
 |rangeFunc g ps assign body=>
  intro Q fr K st ρ w ds u h t;unfold mG at h;split at h
  .rename_i hi hb th hr hh;split at h
   next gv hg=>have hs2:=ud (A:=[]) (p:=ij (reach st fr th)) u;refine ajq (fr:=⟨fr.F,bn (λr=> !(ij (reach st fr th) r)) st.G++fr.H,fr.n⟩) (st:={ st with G:=bn (ij (reach st fr th)) st.G }) U W V htc hg (by simpa [ab] using hs2) h (λp st1 o w1 j C O z B=>t j (Ov p) { st1 with E:=st.E,h:=hr,G:=st1.G++bn (λr=> !(ij (reach st fr th) r)) st.G } o w1 C O z ?_);rw [bg,cx];rw [akh] at*;simpa [ab] using B
   .cases h
  .rename_i hi hb hr _ hh;split at h
   next gv hg=>exact ajq U W V htc hg u h (λp st1 o w1 j C O z B=>t j (Ov p) { st1 with E:=st.E,h:=hr } o w1 C O z (by rw [akh];exact B))
   .cases h
  .cases h
 |_=>intro Q fr K st ρ w ds u h t;exact uM _ u (by unfold mG at h;exact h) t
def aob(K:XE->aC->Option R):XE->aC->Option R
 | .nrm,st=>K .nrm st
 | .ret,st=>K .ret st
 |_,_=>none
theorem anw(d:∀it∈X.Γ,it∈Φ)(j:∀e∈tb,e.Ok X.P X.Γ)(g:∀e∈tp,e.Ok X.P X.Γ)(i:∀c∈tc,c.Ok X.P){fn:Func}{S:Value->World->Prop}{Sp:xa->World->Prop}(c:Code){fr:Fr}{K:XE->aC->Option R}{st:aC}{ρ:ay}{w:World}
  (s:Sat (ab ρ [] st.G++(ab ρ [] fr.H++Φ)) w) (h:mG X tb tp tc c fr (aob K) st=some r) (m:lL (BP X.P fn S Sp) [] fr Φ st.c ρ r K):WC X.P none c (BP X.P fn S Sp) fr.n [] (az ρ [] st.E fr.F) w:=by
 have k:Sat (ab ρ [] st.G++(ab ρ [] fr.H++eR []::Φ)) w:=by
  have l:Sat (eR []::((ab ρ [] st.G++ab ρ [] fr.H)++Φ)) w:=by rw [cx];exact s.aql
  have:=l.behind;rwa [cx] at this
 refine apL (D:=[]) (ds:=[]) d j g i c k h (λds e st' ρ' w' q p a t=>?_);have o:Sat (eR ds::(ab ρ' [] st'.G++(ab ρ' [] fr.H++Φ))) w':=by
  have l:Sat ((ab ρ' [] st'.G++ab ρ' [] fr.H)++eR ds::Φ) w':=by rw [cx];cases e <;> first|exact t|cases a
  have:=l.front;rwa [cx] at this
 rw [ko];cases e with
 |nrm=>exact abT ds o (λb f=>m .nrm st' ρ' b q p a f)
 |ret=>exact RZ ds o (λb f=>m .ret st' ρ' b q p a f)
 |_=>cases a
end
abbrev atB{R:Type}(E0:aF)(K:aC->Option R):XE->aC->Option R
 | .nrm,st=>K { st with E:=E0 }
 | .ret,st=>K { st with E:=E0 }
 |_,_=>none
def VK{R:Type}(X:Cx)(tb:List aA)(tp:List bY)(cl:pO)(cap:List AV)(v:AV)(fr:Fr)(st:aC)(K:aC->Option R):Option R:=match cl.fn.body with
 |some (.seq (.region _ ops false) y)=>(match ops.toList with
  |⟨some d,.call ⟨.builtin .recover,xs,_⟩,_,_,_,none⟩::l=>aD (xs.isEmpty&&l.all Y7&&cl.fn.results.isEmpty&&Nat.ble cap.length cl.fn.ntmps&&Nat.blt d cl.fn.ntmps) (
    FH X tb tp (λ_ _ _=>none) ops.toList ⟨[],fr.H,cl.fn.ntmps⟩ l [] { st with E:=(d,none,v)::ra 0 cap,h:= .c (.r (List.range cap.length) .o) (.c (.r (List.range cap.length) .o) .o) } (λst1=>den X tb tp y ⟨[],fr.H,cl.fn.ntmps⟩ (atB st.E K) st1)) none
  |_=>none)
 |_=>none
section
variable {X : Cx} {tb : List aA} {tp : List bY} {D : x3} {R : Type} {r : R} {Φ : Ctx}
theorem O4{b:pO}{cap:List AV}{v:AV}{st:aC}{K:aC->Option R}{u u':FrameMode}{T:World->Prop}(C:b.Ok X.P)(m:∀it∈X.Γ,it∈Φ)(q:∀e∈tb,e.Ok X.P X.Γ)(p:∀e∈tp,e.Ok X.P X.Γ)
  (Z:Sat (ab ρ [] st.G++(ab ρ [] fr.H++Φ)) w) (Y:(u= .returning/\u'= .returning/\v.val ρ= .nilIface)\/(u= .panicking (kh (v.val ρ))/\u'= .panicking [{ v:=v.val ρ,recovered:=true }]))
  (h:VK X tb tp b cap v fr st K=some r) (hK:∀(st':aC) (ρ':ay) (w':World),aS st.c ρ ρ'->st.c<=st'.c->K { st' with E:=st.E }=some r->Sat (ab ρ' [] st'.G++(ab ρ' [] fr.H++Φ)) w'->T w'):
  OC X.P b.f (AV.al ρ cap) u w λW w'=>W=u'/\T w':=by
 unfold VK at h;split at h
 .rename_i id ops y hb;split at h
  .rename_i d xs tys ty pos af l a;obtain ⟨N,M⟩:=aI h;simp only [au] at N;obtain ⟨⟨⟨⟨h3,h4⟩,h5⟩,h6⟩,h7⟩:=N;have B:xs= #[]:=by simpa using h3
   subst B;have s:b.fn.results= #[]:=by simpa using h5
   refine V0 (n:=b.fn.ntmps) C.2 hb a h4 s rfl (by rw [AV.bF];exact h6) h7 Y ?_;obtain ⟨A⟩:=ops;simp only at a M;have:=adR (σ:=none) (D:=[]) (Q:=Exit.then (y.wpIn (FW none) 0 X.P (QB T)) (QB T)) (ρ:=ρ) (w:=w) (r:=r) (ops:=A) (fr:=⟨[],fr.H,b.fn.ntmps⟩) (st:={ st with E:=(d,none,v)::ra 0 cap,h:= .c (.r (List.range cap.length) .o) (.c (.r (List.range cap.length) .o) .o) }) m q p (λx h=>by cases h) (λx h=>by cases h) ⟨λx _=>rfl,λx _=>rfl⟩ Z M (λst1 z w1 J t I V=>?_) (λlb v st1 z w1 J t I V=>by cases I)
   .have e1:az ρ [] ((d,none,v)::ra 0 cap) []=(d,true,v.val ρ)::iota 0 (AV.al ρ cap):=by show aF.env ρ [] ((d,none,v)::ra 0 cap)++[]=_;simp only [aF.env,aB.get_none,Fw,ko]
    have e2:az ρ [] ({ st with E:=(d,none,v)::ra 0 cap,h:= .c (.r (List.range cap.length) .o) (.c (.r (List.range cap.length) .o) .o) }:aC).E (⟨[],fr.H,b.fn.ntmps⟩:Fr).F=(d,true,v.val ρ)::iota 0 (AV.al ρ cap):=e1;rw [e2] at this;exact this
   .refine aZ (gS (σ:=none) (D:=[]) m q p y (fr:=⟨[],fr.H,b.fn.ntmps⟩) V I (λe k j L U S g O=>?_));cases e with
    |nrm=>exact asP (hK k j L (J.trans U t) (dx t S) g O)
    |ret=>exact arR (hK k j L (J.trans U t) (dx t S) g O)
    |ext i=>cases g
    |gto l=>cases g
    |kh v=>cases g
    |panE v=>cases g
    |panL v=>cases g
  .cases h
 .cases h
end
def afy:zj->Option (zj×Operand)
 |[]=>none
 |o::l=>(match l with
  |[]=>(match o with
   |⟨none,.defer ⟨.value fo,xs,_⟩,_,_,_,none⟩=>aD xs.isEmpty (some ([],fo)) none
   |_=>none)
  |_::_=>(match afy l with
   |some p=>some (o::p.1,p.2)
   |none=>none))
theorem aes:{l l':zj}->{fo:Operand}->afy l=some (l',fo)->∃tys ty pos af,l=l'++[⟨none,.defer ⟨.value fo,#[],tys⟩,ty,pos,af,none⟩]
 |[],_,_,h=>by cases h
 |o::l,l',fo,h=>by
  unfold afy at h;split at h
  .split at h
   .obtain ⟨b,a⟩:=aI h;rename_i xs _ _ _ _;have:xs= #[]:=by simpa using b
    subst this;cases a;exact ⟨_,_,_,_,rfl⟩
   .cases h
  .split at h
   next p hp=>cases h;obtain ⟨tys,ty,pos,af,a⟩:=aes (fo:=p.2) (l':=p.1) (by rw [hp]);exact ⟨tys,ty,pos,af,by rw [a];rfl⟩
   .cases h
def ahs:Code->Option (zj×zj×Operand)
 | .region _ ops false=>(match afy ops.toList with
  |some p=>some (ops.toList,p.1,p.2)
  |none=>none)
 |_=>none
def aoz:Code->Bool
 | .scope _=>true
 | .seq x y=>(ahs x).isSome||aoz y
 |_=>false
def QG:List Row->Bool
 |[]=>true
 |r::H=>r.cO&&QG H
theorem Vw:{H:List Row}->QG H=true->dB H=H
 |[],_=>rfl
 |r::H,h=>by simp only [QG,au] at h;show aD r.cO (r::dB H) (dB H)=r::H;rw [h.1,Vw h.2]
def atz{R:Type}(X:Cx)(tb:List aA)(tp:List bY)(cl:pO)(cap:List AV)(fr:Fr)(K:XE->aC->Option R):XE->aC->Option R
 | .nrm,st=>aD (st.low fr) (VK X tb tp cl cap (.raw .nilIface) fr st (K .ret)) none
 | .ret,st=>aD (st.low fr) (VK X tb tp cl cap (.raw .nilIface) fr st (K .ret)) none
 | .panE v,st=>aD (st.low fr) (VK X tb tp cl cap v fr st (K .ret)) none
 | .panL v,st=>aD (QG fr.H) (aD (st.low fr) (VK X tb tp cl cap v fr st (K .ret)) none) none
 |_,_=>none
def afG{R:Type}(X:Cx)(tb:List aA)(tp:List bY)(tc:List pO):Code->Fr->(XE->aC->Option R)->aC->Option R
 | .scope c,fr,K,st=>amw X tb tp c fr K st
 | .seq x y,fr,K,st=>(match ahs x with
  |some p=>FH X tb tp (λb v st=>K (aD b (.panL v) (.panE v)) st) p.1 fr p.2.1 [] (Cv st) (λst1=>match bw [] st1.E fr.F none p.2.2 with
   |some (.fn f [] cap)=>(match SC tc f with
    |some cl=>aD (AV.cq st1.c cap) (den X tb tp y fr (atz X tb tp cl cap fr K) st1) none
    |none=>none)
   |_=>none)
  |none=>aD (aoz y) (den X tb tp x fr (yh (afG X tb tp tc y fr K) K) (Cv st)) (aD (tC x||tC y) (mG X tb tp tc (.seq x y) fr (aob K) st) (den X tb tp (.seq x y) fr K st)))
 |c,fr,K,st=>den X tb tp c fr K st
section
variable {X : Cx} {tb : List aA} {tp : List bY} {tc : List pO} {R : Type} {r : R} {Φ : Ctx} {fn : Func} {S : Value -> World -> Prop} {Sp : xa -> World -> Prop}
theorem apC{c:Code}{p:zj×zj×Operand}(h:ahs c=some p):∃id ops,c= .region id ops false/\ops.toList=p.1/\∃tys ty pos af,p.1=p.2.1++[⟨none,.defer ⟨.value p.2.2,#[],tys⟩,ty,pos,af,none⟩]:=by
 unfold ahs at h;split at h
 .rename_i id ops;split at h
  next q a=>cases h;exact ⟨id,ops,rfl,rfl,aes a⟩
  .cases h
 .cases h
theorem apW(d:∀it∈X.Γ,it∈Φ)(j:∀e∈tb,e.Ok X.P X.Γ)(g:∀e∈tp,e.Ok X.P X.Γ)(L:∀c∈tc,c.Ok X.P):∀(c:Code) {fr:Fr} {K:XE->aC->Option R} {st:aC} {ρ:ay} {w:World},Sat (ab ρ [] st.G++(ab ρ [] fr.H++Φ)) w->
  afG X tb tp tc c fr K st=some r->lL (BP X.P fn S Sp) [] fr Φ st.c ρ r K->WC X.P none c (BP X.P fn S Sp) fr.n [] (az ρ [] st.E fr.F) w:=λc=>by
 induction c with
 |scope c=>intro fr K st ρ w B h s;exact aqj d j g B h s
 |seq x y ihx V=>
  intro fr K st ρ w B h s;obtain ⟨p1,p2,p3⟩:=afu (st:=st);unfold afG at h;split at h
  .rename_i p hp;obtain ⟨id,ops,rfl,e1,tys,ty,pos,af,e2⟩:=apC hp;refine bq (bp ?_);obtain ⟨opl⟩:=ops;simp only at e1;subst e1;have hw:=KC (σ:=none) (D:=[]) (Q:=Exit.then (y.wpIn (FW none) 0 X.P (BP X.P fn S Sp)) (BP X.P fn S Sp)) (ρ:=ρ) (w:=w) (st:=Cv st) (rest:=[⟨none,.defer ⟨.value p.2.2,#[],tys⟩,ty,pos,af,none⟩]) d j g (λx h=>by cases h) (λx h=>by cases h) ⟨λx _=>rfl,λx _=>rfl⟩ (by rw [p3];exact B) h (λst1 k w1 z t m J=>?_) (λlb v st1 k w1 z t m J=>?_)
   .rw [p2,<-e2] at hw;exact hw
   .split at m
    .rename_i f cap W;split at m
     .rename_i cl Z;obtain ⟨b1,b2⟩:=aI m;obtain ⟨c1,c2⟩:=RT L Z;have C:=bK (ρ:=k) W;simp only [AV.val,AV.al] at C;subst c2;refine alk C (cg (aZ ?_));rw [p1] at z t;refine gS (σ:=none) (D:=[Ql cl.f (AV.al k cap)]) d j g y J b2 (λe b a w2 d1 d2 A U=>?_);have M:AV.al a cap=AV.al k cap:=AV.cd d1 _ b1;have O:b.low fr=true->∀(q:aC) (o:ay) (N:World),aS b.c a o->b.c<=q.c->K .ret { q with E:=b.E }=some r->Sat (ab o [] q.G++(ab o [] fr.H++Φ)) N->At (BP X.P fn S Sp) .ret fr.n [] (az a [] b.E fr.F) N:=λhl q o N f1 f2 f3 f4=>by have:=s .ret { q with E:=b.E } o N (z.trans (d1.trans f1 d2) t) (dx t (dx d2 f2)) f3 f4;rw [<-sd hl f1];exact this
      rw [<-M];cases e with
      |nrm=>
       obtain ⟨l1,I⟩:=aI A;exact ajX c1.1 (O4 (u:= .returning) (T:=λw'=>At (BP X.P fn S Sp) .ret fr.n [] (az a [] b.E fr.F) w') c1 d j g U (.inl ⟨rfl,rfl,rfl⟩) I (O l1)) (λ_ h=>h)
      |ret=>
       obtain ⟨l1,I⟩:=aI A;exact ajX c1.1 (O4 (u:= .returning) (T:=λw'=>At (BP X.P fn S Sp) .ret fr.n [] (az a [] b.E fr.F) w') c1 d j g U (.inl ⟨rfl,rfl,rfl⟩) I (O l1)) (λ_ h=>h)
      |ext i=>cases A
      |gto l=>cases A
      |kh v=>cases A
      |panE v=>
       obtain ⟨l1,I⟩:=aI A;have hp:=O4 (u:= .panicking (kh (v.val a))) (T:=λw'=>At (BP X.P fn S Sp) .ret fr.n [] (az a [] b.E fr.F) w') c1 d j g U (.inr ⟨rfl,rfl⟩) I (O l1);exact adQ c1.1 hp (λ_ h=>h)
      |panL v=>
       obtain ⟨l0,A⟩:=aI A;obtain ⟨l1,I⟩:=aI A;have d5:Sat (ab a [] b.G++(ab a [] (dB fr.H)++Φ)) w2:=U;rw [Vw l0] at d5;have hp:=O4 (u:= .panicking (kh (v.val a))) (T:=λw'=>At (BP X.P fn S Sp) .ret fr.n [] (az a [] b.E fr.F) w') c1 d j g d5 (.inr ⟨rfl,rfl⟩) I (O l1);exact adQ c1.1 hp (λ_ h=>h)
     .cases m
    .cases m
   .rw [p1] at z t;cases lb
    .exact LL (s (.panE v) st1 k w1 z t m J)
    .exact LL (s (.panL v) st1 k w1 z t m J)
  .rename_i hp;rcases eo h with ⟨h1,h2⟩|⟨_,h2⟩
   .refine bq ?_;have:=gS (σ:=none) (D:=[]) d j g x (fr:=fr) (st:=Cv st) (ρ:=ρ) (w:=w) (Q:=Exit.then (y.wpIn (FW none) 0 X.P (BP X.P fn S Sp)) (BP X.P fn S Sp)) (by rw [p3];exact B) h2 (λe st' ρ' w' z t m J=>?_)
    .rw [p2] at this;exact this
    .rw [p1] at z t;by_cases Y:e= .nrm
     .subst Y;exact aZ (V J m (s.less z t))
     .rw [ry Y] at m;exact jL Y (s e st' ρ' w' z t m J)
   .rcases eo h2 with ⟨_,h3⟩|⟨_,h3⟩
    .exact anw d j g L (.seq x y) B h3 s
    .exact gS d j g (.seq x y) B h3 s
 |_=>intro fr K st ρ w B h s;exact gS d j g _ B h s
end
end
end Go.Proofs.YtcgihjbfppkcfaaGreatDoor
