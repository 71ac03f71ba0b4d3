/- Own texts for NestAlwaysQ, cut and joined by a program. -/
import Derived.Test.YtcgihjbfppkcfaaGreatDoorNestAlwaysQC
set_option linter.all false
namespace Go.Proofs.YtcgihjbfppkcfaaGreatDoor
noncomputable section
variable {o : Oper}
open Go.Lib
abbrev adG{R:Type}(fr:Fr)(KP:AV->aB->Option R)(T:aA)(v:AV)(st:aB):Option R:=aD (DG T fr st) (KP v (yZ T st)) none
def Dp{R:Type}(X:Cx)(tb:List aC)(tp:List bX)(KP:Bool->AV->aB->Option R)(ops:zl)(fr:Fr):zl->aA->aB->cF R->Option R
 |[],T,st,K=>aD (DG T fr st) (K (yZ T st)) none
 |o::l,T,st,K=>match aef tp T fr st o (λb=>adG fr (KP b) T) (λst=>Dp X tb tp KP ops fr l T st K) with
  |some q=>q
  |none=>stepG ops T fr st o λT g=>ZJ X tb T fr st g o λst=>Dp X tb tp KP ops fr l T st K
section
variable {R : Type} {X : Cx} {tb : List aC} {tp : List bX} {KP : Bool -> AV -> aB -> Option R} {b : Bool} {σ : zg} {Q : bm} {D : za} {ops : zl} {r : R} {fr : Fr} {Φ : Ctx} {K : cF R}
theorem acE{T:aA}{v:AV}{st:aB}{ρ:aw}{w:World}(d:FT T fr)(h:adG fr (KP b) T v st=some r)(i:Sat (ab ρ T st.G++(ab ρ T (G5 b fr.H)++Φ)) w):
  ∃st',KP b v st'=some r/\st'.c=st.c/\kT (ay ρ [] st'.E fr.F) (ay ρ T st.E fr.F)/\Sat (ab ρ [] st'.G++(ab ρ [] (G5 b fr.H)++Φ)) w:=by
 unfold adG at h;obtain ⟨e,k⟩:=aI h;have j:DG T ⟨fr.F,G5 b fr.H,fr.n⟩ st=true:=by unfold DG at e ⊢;exact e
 obtain ⟨k1,g,f⟩:=II (fr:=⟨fr.F,G5 b fr.H,fr.n⟩) j ⟨d.1,λr a=>d.2 r (by
  cases b
  .exact a
  .exact (sw a).1)⟩ i
 exact ⟨_,k,k1,g,f⟩
theorem It{rest:zl}(g:∀it∈X.Γ,it∈Φ)(m:∀e∈tb,e.Ok X.P X.Γ)(k:∀e∈tp,e.Ok X.P X.Γ):∀{l:zl} {T:aA} {st:aB} {ρ:aw} {w:World},fL T st.E fr.F->pZ ops fr.n T->FT T fr->Sat (ab ρ T st.G++(ab ρ T fr.H++Φ)) w->
  Dp X tb tp KP ops fr l T st K=some r->
  (∀st' ρ' w',aQ st.c ρ ρ'->st.c<=st'.c->K st'=some r->Sat (ab ρ' [] st'.G++(ab ρ' [] fr.H++Φ)) w'->WL X.P σ ops.toArray Q fr.n D rest (ay ρ' [] st'.E fr.F) w')->
  (∀b v st' ρ' w',aQ st.c ρ ρ'->st.c<=st'.c->KP b v st'=some r->Sat (ab ρ' [] st'.G++(ab ρ' [] (G5 b fr.H)++Φ)) w'->At Q (.panic (jI (v.val ρ'))) fr.n D (ay ρ' [] st'.E fr.F) w')->
  WL X.P σ ops.toArray Q fr.n D (l++rest) (ay ρ T st.E fr.F) w
 |[],T,st,ρ,w,h1,h2,p,hs,h,next,pnext=>by
  unfold Dp at h;obtain ⟨S,R⟩:=aI h;obtain ⟨k1,L,B⟩:=II S p hs;exact λa p hd=>next _ ρ w .refl (by rw [k1];exact c8 _) R B a (p.oJ L) hd
 |o::l,T,st,ρ,w,h1,h2,p,hs,h,next,pnext=>by
  unfold Dp at h;split at h
  .rename_i q O;subst h;refine alL h1 hs g k O (λst' ρ' w' A y i I W C=>?_) (λz v st' ρ' w' A M J V U y=>?_)
   .exact It g m k A h2 p C I (λd f j x u t s=>next d f j (y.trans x i) (ec i u) t s) (λz v d f j x u t s=>pnext z v d f j (y.trans x i) (ec i u) t s)
   .obtain ⟨d,k1,L,N,B⟩:=acE p J y;exact (pnext z v d ρ' w' A (by omega) k1 B).oJ _ N
  .exact Y0 (K:=λT st=>Dp X tb tp KP ops fr l T st K) h1 h2 rfl (λ_ h=>h) p hs g m h (λT' st' ρ' w' A M J y i I W C=>
    It g m k A M J C I (λd f j x u t s=>next d f j (y.trans x i) (ec i u) t s) (λz v d f j x u t s=>pnext z v d f j (y.trans x i) (ec i u) t s))
theorem abN(d:∀it∈X.Γ,it∈Φ)(g:∀e∈tb,e.Ok X.P X.Γ)(f:∀e∈tp,e.Ok X.P X.Γ){l:zl}{T:aA}{st:aB}{ρ:aw}{w:World}(m:fL T st.E fr.F)(k:pZ ops fr.n T)(j:FT T fr)(i:Sat (ab ρ T st.G++(ab ρ T fr.H++Φ)) w)
  (h:Dp X tb tp KP ops fr l T st K=some r)
  (next:∀st' ρ' w',aQ st.c ρ ρ'->st.c<=st'.c->K st'=some r->Sat (ab ρ' [] st'.G++(ab ρ' [] fr.H++Φ)) w'->At Q .normal fr.n D (ay ρ' [] st'.E fr.F) w')
  (a:∀b v st' ρ' w',aQ st.c ρ ρ'->st.c<=st'.c->KP b v st'=some r->Sat (ab ρ' [] st'.G++(ab ρ' [] (G5 b fr.H)++Φ)) w'->At Q (.panic (jI (v.val ρ'))) fr.n D (ay ρ' [] st'.E fr.F) w'):
  WL X.P σ ops.toArray Q fr.n D l (ay ρ T st.E fr.F) w:=by
 have:=It (σ:=σ) (Q:=Q) (D:=D) (rest:=[]) d g f m k j i h (λst' ρ' w' s q p o=>cd (next st' ρ' w' s q p o)) a;rwa [ma] at this
end
def nV(c:Nat):List AV->List AV×List Row×Nat
 |[]=>([],[],c)
 |v::vs=>match v with
  | .nv u=>match nV c vs with
   |(cs,R,c)=>(.nv u::cs,R,c)
  |v=>match nV (c+1) vs with
   |(cs,R,c')=>(.nv c::cs,.eq c v::R,c')
structure alZ(c:Nat)(vs:List AV)(ρ ρ':aw)(x:List AV×List Row×Nat):Prop where
 ag:aQ c ρ ρ'
 le:c<=x.2.2
 eq:AV.aj ρ' x.1=AV.aj ρ vs
 lw:AV.cj x.2.2 x.1=true
 rl:bB x.2.2 x.2.1=true
 rp:∀r∈x.2.1,(r.item ρ' []).cL=true/\∀M w,(r.item ρ' []).P M w
 rg:∀r∈x.2.1,r.gd=none
theorem AI{c d:Nat}(a:c<=d):{G:List Row}->bB c G=true->bB d G=true
 |[],_=>rfl
 |r::G,h=>by simp only [bB,an] at h ⊢;exact ⟨Row.gC a h.1,AI a h.2⟩
theorem uQ{c:Nat}:{G H:List Row}->bB c G=true->bB c H=true->bB c (G++H)=true
 |[],_,_,h=>h
 |r::G,H,h,k=>by simp only [qd,bB,an] at h ⊢;exact ⟨h.1,uQ h.2 k⟩
theorem Ja:{vs:List AV}->{c:Nat}->{ρ:aw}->AV.cj c vs=true->∃ρ',alZ c vs ρ ρ' (nV c vs)
 |[],c,ρ,h=>⟨ρ,.refl,c8 _,rfl,rfl,rfl,(λ_ h=>by cases h),λ_ h=>by cases h⟩
 |v::vs,c,ρ,h=>by
  simp only [AV.cj,an] at h;have a:(∀u,v≠ .nv u)->nV c (v::vs)=(match nV (c+1) vs with|(cs,R,f)=>(.nv c::cs,.eq c v::R,f))->∃ρ',alZ c (v::vs) ρ ρ' (nV c (v::vs)):=λ_ e=>by
   have g:aQ c ρ (ρ.set c { dm with x:=v.val ρ }):=aw.aX;obtain ⟨ρ',l⟩:=Ja (c:=c+1) (ρ:=ρ.set c { dm with x:=v.val ρ }) (AV.lI (l5 c) _ h.2);rw [e];generalize nV (c+1) vs=L at l;obtain ⟨cs,R,f⟩:=L;have d:aQ c ρ ρ':=g.trans l.ag (l5 _);have hx:(ρ' c).x=v.val ρ:=by rw [l.ag _ (mE _),aw.bG]
   have i:c+1<=f:=l.le;refine ⟨ρ',d,ec (l5 _) l.le,?_,?_,?_,?_,?_⟩
   .simp only [AV.aj,AV.val,hx];rw [l.eq,AV.bZ g _ h.2]
   .simp only [AV.cj,AV.low,an,j6];exact ⟨by omega,l.lw⟩
   .simp only [bB,Row.low,an,j6];exact ⟨⟨by omega,AV.gC (by omega) _ h.1⟩,l.rl⟩
   .intro r b;rcases List.mem_cons.1 b with rfl|b
    .exact ⟨rfl,λM w=>by show (ρ' c).x=v.val ρ';rw [hx,AV.nW d _ h.1]⟩
    .exact l.rp r b
   .intro r b;rcases List.mem_cons.1 b with rfl|b
    .rfl
    .exact l.rg r b
  cases v with
  |nv u=>
   obtain ⟨ρ',l⟩:=Ja (c:=c) (ρ:=ρ) h.2;unfold nV;dsimp only;generalize nV c vs=L at l;obtain ⟨cs,R,f⟩:=L;refine ⟨ρ',l.ag,l.le,?_,?_,l.rl,l.rp,l.rg⟩
   .simp only [AV.aj];rw [l.eq,AV.nW l.ag _ h.1]
   .simp only [AV.cj,an];exact ⟨AV.gC l.le _ h.1,l.lw⟩
  |_=>exact a (λu h=>by cases h) rfl
def agC{R:Type}(X:Cx)(T:aA)(fr:Fr)(st:aB)(g:GK)(op:Op)(dst:zh)(K:cF R):Option R:=match op,dst with
 | .indexAddr t x y,some d=>(match iR X.P t with
  |some _=>aeJ X T fr st g d t x y K
  |none=>(match bu T st.E fr.F g x with
   |some (.gp _)=>Wr X T fr st g d t x y K
   |_=>gone g (aes X T fr st d t x y K)))
 | .slice t x lo hi mx,some d=>Zi X T fr st g d t x lo hi mx K
 | .call ⟨.builtin .unsafeSliceData,⟨[x]⟩,_⟩,some d=>gone g (Wp T fr st d x K)
 | .call ⟨.builtin .len,⟨[x]⟩,⟨[t]⟩⟩,some d=>adW X T fr st g d t x K
 |_,_=>none
def Zs{R:Type}(X:Cx)(T:aA)(fr:Fr)(st:aB)(g:GK)(o:Oper)(K:cF R):Option R:=
 match afu X T st.E fr.F g o.op with
 |some cv=>HA cv.1 (g.map λ_=>T.get g) (K { st with E:=cJ o.dst g cv.2 st.E })
 |none=>match adx X T st.E fr.F [] fr.H g o.op with
  |some cv=>HA cv.1 (g.map λ_=>T.get g) (K { st with E:=cJ o.dst g cv.2 st.E })
  |none=>aD (st.low fr) (agC X T fr st g o.op o.dst K) none
def bk(p:Row->Bool):List Row->List Row
 |[]=>[]
 |r::G=>aD (p r) (r::bk p G) (bk p G)
def cT(r:Row):Bool:= !r.cL
theorem Sat.Ac{w:World}{B:Ctx}:∀{A:Ctx},Sat (A++B) w->Sat B w
 |[],h=>h
 |_x::A,h=>Sat.Ac (A:=A) (Sat.BC (A:=[]) h)
section
variable {ρ : aw} {T : aA} {w : World}
theorem su{p:Row->Bool}{H:List Row}{Φ:Ctx}:∀{G:List Row} {A:Ctx},Sat (A++(ab ρ T G++(ab ρ T H++Φ))) w->Sat (A++(ab ρ T (bk p G)++(ab ρ T (bk (λr=> !(p r)) G++H)++Φ))) w
 |[],_,h=>h
 |r::G,A,h=>by
  unfold bk;cases hp:p r
  .have b:Sat ((A++[r.item ρ T])++(ab ρ T G++(ab ρ T H++Φ))) w:=by simpa [ab] using h
   have a:=su (p:=p) (G:=G) b;have c:Sat (A++r.item ρ T::(ab ρ T (bk p G)++(ab ρ T (bk (λr=> !(p r)) G++H)++Φ))) w:=by simpa using a
   exact c.move
  .have b:Sat ((A++[r.item ρ T])++(ab ρ T G++(ab ρ T H++Φ))) w:=by simpa [ab] using h
   have a:=su (p:=p) (G:=G) b;simpa [ab] using a
end
abbrev rb(fr:Fr)(A:List Row)(st:aB):Fr:=⟨fr.F,bk (λr=> !(cT r)) st.G++(A++fr.H),fr.n⟩
abbrev stM(st:aB):aB:={ st with G:=bk cT st.G }
abbrev xN:=Nat×Nat×Nat×zo
def Mf:List AV->Option zo
 |[]=>some []
 |v::l=>(match v with
  | .nv u=>(match Mf l with
   |some us=>some (u::us)
   |none=>none)
  |_=>none)
def X7:List AV->zo->Bool
 |_,[]=>true
 |l,n::ns=>(match l with
  | .nv u::l=>Nat.beq u n&&X7 l ns
  |_=>false)
def Lf(G:List Row):List xN->Bool
 |[]=>true
 |x::Pd=>(match rS (yW x.2.1) G with
  |some (_,.box _ _ cs)=> !(Nat.beq x.2.2.1 1000000000)&&X7 (cs.drop x.2.2.1) x.2.2.2
  |_=>false)&&Lf G Pd
def pdF(G:List Row):List xN->Bool
 |[]=>true
 |x::Pd=>(Nat.beq x.2.2.1 1000000000||(match rS (yW x.2.1) G with
  |some (_,.box _ _ cs)=> !(Nat.beq x.2.2.1 1000000000)&&X7 (cs.drop x.2.2.1) x.2.2.2
  |_=>false))&&pdF G Pd
def fQ(ops:zl)(k:Nat):List xN->List xN
 |[]=>[]
 |x::Pd=>aD (waits .any ops.toArray k x.1) (fQ ops k Pd) (x::fQ ops k Pd)
def szA(P:Program)(t:TypeId):zg:=match P.underlying t with
 |some d=>aD (mB d) (match oz P t with
  |some z=>some z.1
  |none=>none) (some 1)
 |none=>none
def aeB{R:Type}(X:Cx)(T:aA)(fr:Fr)(st:aB)(g:GK)(k:Nat)(o:Oper)(K:List Row->xN->aB->Option R):Option (Option R):=match o.op,o.dst with
 | .load t x,some d=>(match bu T st.E fr.F g x with
  |some (.ptr id off)=>(match rS (yW id) st.G with
   |some (j,.box _ bt cs)=>some (match szA X.P t with
    |some n=>(match mX X.P t ((cs.drop off).map (wP st.G fr.H)) with
     |some v=>(match Mf (nV st.c ((cs.drop off).take n)).1 with
      |some us=>aD (st.low fr&&v.low st.c&&Nat.ble (off+n) cs.length&& !(Nat.beq off 1000000000)) (
        K (nV st.c ((cs.drop off).take n)).2.1 (k,id,off,us) { st with c:=(nV st.c ((cs.drop off).take n)).2.2,E:=cJ (some d) g v st.E,G:=st.G.set j (.box id bt (vH cs off (nV st.c ((cs.drop off).take n)).1)) } ) none
      |none=>none)
     |none=>none)
    |none=>none)
   |_=>none)
  |_=>none)
 |_,_=>none
def aly(T:aA)(fr:Fr)(st:aB)(g:GK)(o:Oper):Option (Tmp×TypeId×Nat×Nat):=match o.op,o.dst with
 | .load t x,some d=>(match bu T st.E fr.F g x with
  |some (.adr q off)=>(match An T [] fr.H g (.adr q off) with
   |some _=>none
   |none=>(match eo st.G fr.H (Pm q) with
    |some _=>some (d,t,q,off)
    |none=>none))
  |_=>none)
 |_,_=>none
def Mp{R:Type}(X:Cx)(tb:List aC)(tp:List bX)(KP:AV->aB->Option R)(ops:zl)(fr:Fr)(A:List Row)(T:aA)(st:aB)(o:Oper)(K:aA->cF R):Option R:=
 match aef tp T (rb fr A st) (stM st) o (λb v st'=>aD b none (adG fr KP T v { st' with G:=st'.G++(bk (λr=> !(cT r)) st.G++A) })) (K T) with
 |some q=>q
 |none=>stepG ops T (rb fr A st) (stM st) o λT g=>ZJ X tb T (rb fr A st) (stM st) g o (K T)
def aor(X:Cx)(T:aA)(fr:Fr)(st:aB)(ops:zl)(k:Nat)(fl:zo)(rest:OT)(f:Nat):Bool:=(match ops[f]? with
 |some o=>(match IX X T fr st o,o.dst with
  |some _,some d=>jH o&&Nat.blt d fr.n&&(match dW st.E fr.F d with|some _=>false|none=>true)&&(o.looksAt ops.toArray).all (λt=> !(Nat.beq t d))
  |_,_=>false)
 |none=>false)&&(k::rest.ops).all (λj=>rI ops.toArray j f)&&(fl++rest.Rg).all (λj=>Nat.beq j f||rI ops.toArray j f)
def afr{R:Type}(X:Cx)(ops:zl)(fr:Fr)(T:aA):zo->aB->cF R->Option R
 |[],st,K=>K st
 |f::fs,st,K=>(match ops[f]? with
  |some o=>aD (pN o.dst T&& !(dT f fs)) (ajs X T fr st o λst=>afr X ops fr T fs st K) none
  |none=>none)
abbrev frA(fr:Fr)(A:List Row):Fr:=⟨fr.F,A++fr.H,fr.n⟩
def rF{R:Type}(X:Cx)(tb:List aC)(tp:List bX)(KP:AV->aB->Option R)(ops:zl)(fr:Fr):OT->List Row->List xN->aA->aB->cF R->Option R
 | .nil,A,_,T,st,K=>aD (DG T fr { st with G:=st.G++A }) (K (yZ T { st with G:=st.G++A })) none
 | .q k _ rest,A,Pd,T,st,K=>(match ops[k]? with
  |some o=>stepG ops T (rb fr A st) (stM st) o λT g=>match aeB X T (rb fr A st) (stM st) g k o (λR p st'=>rF X tb tp KP ops fr rest (R++(bk (λr=> !(cT r)) st.G++A)) (p::Pd) T st' K) with
   |some q=>q
   |none=>(match aly T (rb fr A st) (stM st) g o with
    |some p=>aD ((stM st).low (rb fr A st)) (PX X T (rb fr A st) (stM st) g p.1 p.2.1 p.2.2.1 p.2.2.2 λst'=>rF X tb tp KP ops fr rest (bk (λr=> !(cT r)) st.G++A) ((k,p.2.2.1,1000000000,[])::Pd) T st' K) none
    |none=>Zs X T (rb fr A st) (stM st) g o λst'=>rF X tb tp KP ops fr rest (bk (λr=> !(cT r)) st.G++A) Pd T st' K)
  |none=>none)
 | .l k _ rest,A,Pd,T,st,K=>(match ops[k]? with
  |some o=>Mp X tb tp KP ops fr A T st o λT st'=>aD (Lf st'.G (fQ ops k Pd)) (rF X tb tp KP ops fr rest (bk (λr=> !(cT r)) st.G++A) (fQ ops k Pd) T st' K) none
  |none=>none)
 | .l2 _ k₁ r₁ k₂ r₂,A,Pd,T,st,K=>both
  (match ops[k₁]? with
  |some o=>Mp X tb tp KP ops fr A T st o λT st'=>aD (Lf st'.G (fQ ops k₁ Pd)) (rF X tb tp KP ops fr r₁ (bk (λr=> !(cT r)) st.G++A) (fQ ops k₁ Pd) T st' K) none
  |none=>none)
  (match ops[k₂]? with
  |some o=>Mp X tb tp KP ops fr A T st o λT st'=>aD (Lf st'.G (fQ ops k₂ Pd)) (rF X tb tp KP ops fr r₂ (bk (λr=> !(cT r)) st.G++A) (fQ ops k₂ Pd) T st' K) none
  |none=>none)
 | .f k _ fl fs rest,A,Pd,T,st,K=>aD (fl.all (aor X T (frA fr A) st ops k fl rest)&&pdF st.G Pd) (afr X ops (frA fr A) T fs st λst=>(match ops[k]? with
  |some o=>Mp X tb tp KP ops fr A T st o λT st'=>aD (Lf st'.G (fQ ops k Pd)) (rF X tb tp KP ops fr rest (bk (λr=> !(cT r)) st.G++A) (fQ ops k Pd) T st' K) none
  |none=>none)) none
section
variable {R : Type} {X : Cx} {tb : List aC} {tp : List bX} {KP : AV -> aB -> Option R} {σ : zg} {Q : bm} {D : za} {ops : zl} {r : R} {fr : Fr} {Φ : Ctx} {K : cF R}
theorem agU{T:aA}{st:aB}{g:GK}{ρ:aw}{w:World}(j:∀it∈X.Γ,it∈Φ)(m:fL T st.E fr.F)(e:Sat (ab ρ T st.G++(ab ρ T fr.H++Φ)) w)(h:Zs X T fr st g o K=some r):
  ∃(v:Value) (J:World->Prop),(∀w',(∃b,Sat (ab ρ T fr.H++b) w')->J w')/\(∀w',J w'->bc X.P (ay ρ T st.E fr.F) (T.get g) o w' v)/\aU r K T fr st g o.dst ρ Φ v w:=by
 obtain ⟨dst,op,ty,pos,af,gd⟩:=o;unfold Zs at h;simp only at h;have c:∀{O:Value->World->Prop},NT X.P T g (ay ρ T st.E fr.F) ⟨dst,op,ty,pos,af,gd⟩ w O->∃(v:Value) (J:World->Prop),(∀w',(∃b,Sat (ab ρ T fr.H++b) w')->J w')/\(∀w',J w'->bc X.P (ay ρ T st.E fr.F) (T.get g) ⟨dst,op,ty,pos,af,gd⟩ w' v)/\O v w:=λh=>by obtain ⟨v,d,a⟩:=h;exact ⟨v,λ_=>True,λ_ _=>trivial,λw' _=>d w',a⟩
 split at h
 next cv f=>obtain ⟨d,a⟩:=sX h;exact c ⟨_,λw'=>YP m f d,aU.kQ a (c8 _) rfl rfl e⟩
 .split at h
  next cv f=>obtain ⟨d,a⟩:=sX h;refine ⟨_,λw'=>∃b,Sat (ab ρ T fr.H++b) w',λ_ h=>h,λw' l=>?_,aU.kQ a (c8 _) rfl rfl e⟩;obtain ⟨b,i⟩:=l;exact XI (G:=[]) (Φ:=b) i f d
  .obtain ⟨d,a⟩:=aI h;unfold agC at a;split at a
   .split at a
    .exact c (acr d e a)
    .split at a
     .exact c (Ys d j e a)
     .obtain ⟨rfl,k⟩:=dC a;exact c (acu e k)
   .exact c (RH d e a)
   .obtain ⟨rfl,k⟩:=dC a;exact c (Z1 d e k)
   .exact c (ak8 e a)
   .cases a
def BF(ρ:aw)(x:xN)(w:World):Prop:=Nat.beq x.2.2.1 1000000000=false/\∃cs t,gf w (ρ x.2.1).b t cs/\(cs.drop x.2.2.1).take x.2.2.2.length=x.2.2.2.map λu=>(ρ u).x
def aeh(c:Nat)(Pd:List xN):Prop:= ∀x,x∈Pd->x.2.1<c/\∀u,u∈x.2.2.2->u<c
theorem C7{ρ ρ':aw}{c:Nat}(ha:aQ c ρ ρ'){x:xN}(hx:x.2.1<c/\∀u,u∈x.2.2.2->u<c){w:World}:BF ρ' x w↔BF ρ x w:=by
 unfold BF;rw [ha _ hx.1];have:(x.2.2.2.map λu=>(ρ' u).x)=x.2.2.2.map λu=>(ρ u).x:=qO λu a=>by rw [ha _ (hx.2 u a)]
 rw [this]
theorem UH{ρ:aw}:∀{l:List AV} {us:zo},X7 l us=true->(AV.aj ρ l).take us.length=us.map λu=>(ρ u).x
 |l,[],_=>by simp
 |l,n::ns,h=>by
  unfold X7 at h;split at h
  next u l'=>simp only [an] at h;have e:=b0 h.1;subst e;simp only [AV.aj,AV.val,ei,q5,eT];rw [UH h.2]
  .cases h
theorem Pv{ρ:aw}:∀{l:List AV} {us:zo},Mf l=some us->AV.aj ρ l=us.map (λu=>(ρ u).x)/\us.length=l.length
 |[],us,h=>by cases h;simp [AV.aj]
 |v::l,us,h=>by
  unfold Mf at h;split at h
  .rename_i u;split at h
   next b a=>cases h;obtain ⟨d,c⟩:=Pv (ρ:=ρ) a;simp [AV.aj,AV.val,d,c]
   .cases h
  .cases h
theorem Va{c:Nat}:∀{l:List AV} {us:zo},Mf l=some us->AV.cj c l=true->∀u,u∈us->u<c
 |[],us,h,_,u,a=>by cases h;cases a
 |v::l,us,h,hl,u,a=>by
  unfold Mf at h;split at h
  .rename_i u';split at h
   .rename_i d b;cases h;simp only [AV.cj,AV.low,an,j6] at hl;rcases List.mem_cons.1 a with rfl|a
    .exact hl.1
    .exact Va b hl.2 u a
   .cases h
  .cases h
theorem W7{ρ:aw}{T:aA}{G:List Row}{B:Ctx}{w:World}(c:Sat (ab ρ T G++B) w):∀{Pd:List xN},Lf G Pd=true->∀x,x∈Pd->BF ρ x w
 |[],_,x,hx=>by cases hx
 |y::Pd,h,x,hx=>by
  simp only [Lf,an] at h;rcases List.mem_cons.1 hx with rfl|hx
  .have a:=h.1;split at a
   next j id t cs d=>obtain ⟨f,e⟩:=n7 d;have:id=x.2.1:=b0 e;subst this;have hb:gf w (ρ x.2.1).b t (AV.aj ρ cs):=c.at_ (ik f);simp only [an] at a;refine ⟨by simpa using a.1,_,t,hb,?_⟩;rw [<-AV.js];exact UH a.2
   .cases a
  .exact W7 c h.2 x hx
theorem afE{ρ:aw}{T:aA}{G:List Row}{B:Ctx}{w:World}(b:Sat (ab ρ T G++B) w):∀{Pd:List xN},pdF G Pd=true->∀x,x∈Pd->BF ρ x w\/Nat.beq x.2.2.1 1000000000=true
 |[],_,x,hx=>by cases hx
 |y::Pd,h,x,hx=>by
  simp only [pdF,an,fi] at h;rcases List.mem_cons.1 hx with rfl|hx
  .rcases h.1 with a|a
   .exact .inr a
   .exact .inl (W7 b (Pd:=[x]) (by simp only [Lf,an];exact ⟨a,trivial⟩) x (cx ..))
  .exact afE b h.2 x hx
theorem xD{k:Nat}:∀{Pd:List xN} {x:xN},x∈fQ ops k Pd↔x∈Pd/\waits .any ops.toArray k x.1=false
 |[],x=>by simp [fQ]
 |y::Pd,x=>by
  unfold fQ;cases c:waits .any ops.toArray k y.1
  .show x∈y::fQ ops k Pd↔_;rw [oi,oi,xD];constructor
   .rintro (rfl|⟨b,a⟩)
    .exact ⟨.inl rfl,c⟩
    .exact ⟨.inr b,a⟩
   .rintro ⟨rfl|b,a⟩
    .exact .inl rfl
    .exact .inr ⟨b,a⟩
  .show x∈fQ ops k Pd↔_;rw [oi,xD];constructor
   .rintro ⟨b,a⟩;exact ⟨.inr b,a⟩
   .rintro ⟨rfl|b,a⟩
    .rw [c] at a;cases a
    .exact ⟨b,a⟩
theorem abk{pend:fm}{w:World}(h:∀p,p∈pend->p.2 w):iM pend w:=by
 induction pend with
 |nil=>trivial
 |cons p l ih=>exact ⟨h p (cx ..),ih λq a=>h q (b7 _ a)⟩
theorem anv{P:Program}{ρ:aw}{Ev:Env}{g:Bool}{t:TypeId}{x:Operand}{n:Nat}{l:List AV}{v:AV}{q:Addr}{w:World}{dst:zh}{ty:TypeId}{pos:String}{af:zj}{gd:Option (Nat×Bool)}
  (hx:al Ev g x (.pointer (some q))) (hn:szA P t=some n) (j:mX P t l=some v) (hl:n<=l.length) (k:bL w q ((AV.aj ρ l).take n)):bc P Ev g ⟨dst,.load t x,ty,pos,af,gd⟩ w (v.val ρ):=by
 have s:mX P t (l.drop 0)=some v:=by simpa using j
 obtain ⟨d,n',bytes,z,c1,u,b⟩:=pI (X:=⟨P,[],[],[],(λ_ h=>nomatch h),0,[],[],(λ_ h=>nomatch h),[]⟩) (ρ:=ρ) s;have c1:P.underlying t=some d:=c1;unfold szA at hn;rw [c1] at hn;rcases dR hn with ⟨hd,i⟩|⟨hd,i⟩
 .split at i
  .rename_i o c;obtain ⟨m,y,o⟩:=o;cases i;unfold mX at j;rw [c1] at j;rcases dR j with ⟨_,f⟩|⟨f,_⟩
   .rw [c] at f;obtain ⟨_,r⟩:=aI f;cases r;simp only [AV.val,AV.lG];exact KV c1 hd (cP c) hx (λ_=>k) (by rw [dk,AV.bD];exact j0 hl)
   .rw [hd] at f;cases f
  .cases i
 .cases i;rw [hd] at b;simp only [e9,qw] at b;refine Kp c1 hd hx (λ_=>?_);have e:(AV.aj ρ l).take 1=[v.val ρ]:=by
   cases p:AV.aj ρ l with
   |nil=>rw [p] at b;cases b
   |cons a l=>rw [p] at b;cases b;rfl
  rw [e] at k;exact k
theorem aam{l:ze}{a n:Nat}(h:a+n<=l.length):p8 l a ((l.drop a).take n)=l:=by
 unfold p8;have c:((l.drop a).take n).length=n:=by rw [dk,j5];omega
 rw [c];have b:(l.drop a).take n++l.drop (a+n)=l.drop a:=by rw [<-qA,qv]
 rw [cb,b,qv]
theorem ak1{T:aA}{st:aB}{g:GK}{k:Nat}{ρ:aw}{w:World}{KQ:List Row->xN->aB->Option R}(hs:Sat (ab ρ T st.G++(ab ρ T fr.H++Φ)) w)(h:aeB X T fr st g k o KQ=some (some r)):
  ∃(v:Value) (ρ':aw) (st':aB) (av:AV) (D:List Row) (p:xN),KQ D p st'=some r/\aQ st.c ρ ρ'/\st.c<=st'.c/\st'.E=cJ o.dst g av st.E/\av.val ρ'=v/\ay ρ' T st.E fr.F=ay ρ T st.E fr.F/\ab ρ' T fr.H=ab ρ T fr.H/\
   Sat (ab ρ' T st'.G++(ab ρ' T (D++fr.H)++Φ)) w/\p.1=k/\BF ρ' p w/\(p.2.1<st'.c/\∀u,u∈p.2.2.2->u<st'.c)/\(∀w',BF ρ' p w'->bc X.P (ay ρ T st.E fr.F) (T.get g) o w' v):=by
 obtain ⟨dst,op,ty,pos,af,gd⟩:=o;unfold aeB at h;simp only at h;split at h
 .rename_i t x d;split at h
  .rename_i id f hx;split at h
   .rename_i j y bt cs hf;simp only [et] at h;split at h
    .rename_i n hn;split at h
     .rename_i v hv;split at h
      .rename_i us K;obtain ⟨Z,h2⟩:=aI h;simp only [an,Nat.ble_eq] at Z;obtain ⟨⟨⟨hl,hvl⟩,hle⟩,hmk⟩:=Z;obtain ⟨l1,l2,l3,l4⟩:=aB.cE.1 hl;obtain ⟨f1,f2⟩:=n7 hf;have:y=id:=b0 f2;subst this;have C:j<st.G.length:=(List.getElem?_eq_some_iff.1 f1).1;have i:=tN l3 f1;simp only [Row.low,an,j6] at i;have S:∀{l:List AV} {c m q:Nat},AV.cj c l=true->AV.cj c ((l.drop m).take q)=true:=λ{l c m q} h=>by
        have dr:∀(l:List AV) (m:Nat),AV.cj c l=true->AV.cj c (l.drop m)=true:=λl=>by
         induction l with
         |nil=>intro m h;simp [AV.cj]
         |cons a l ih=>
          intro m h;cases m with
          |zero=>exact h
          |succ m=>simp only [AV.cj,an] at h;exact ih m h.2
        have tk:∀(l:List AV) (m:Nat),AV.cj c l=true->AV.cj c (l.take m)=true:=λl=>by
         induction l with
         |nil=>intro m h;simp [AV.cj]
         |cons a l ih=>
          intro m h;cases m with
          |zero=>rfl
          |succ m=>simp only [AV.cj,an,q5] at h ⊢; exact ⟨h.1,ih m h.2⟩
        exact tk _ _ (dr _ _ h)
       obtain ⟨ρ',J⟩:=Ja (ρ:=ρ) (S (m:=f) (q:=n) i.2);obtain ⟨i1,i2⟩:=Pv (ρ:=ρ') K;have V:=Va K J.lw;generalize nV st.c ((cs.drop f).take n)=L at h2 J K i1 i2 V;obtain ⟨ls,D,c'⟩:=L;have Y:st.c<=c':=J.le;have s:aQ st.c ρ ρ':=J.ag;have N:AV.aj ρ' ls=AV.aj ρ ((cs.drop f).take n):=J.eq;have hb:gf w (ρ y).b bt (AV.aj ρ cs):=hs.at_ (ik f1);have W:AV.aj ρ' cs=AV.aj ρ cs:=AV.bZ s _ i.2;have Q:v.val ρ'=v.val ρ:=AV.nW s _ hvl;have I:us.length=n:=by
        have e1:(AV.aj ρ' ls).length=n:=by rw [N,AV.bD,dk,j5];omega
        rw [i2,<-AV.bD (ρ:=ρ') (l:=ls)];exact e1
       have eG:=aZ (T:=T) s l3;have eH:=aZ (T:=T) s l4;have e3:(us.map λu=>(ρ' u).x)=((AV.aj ρ cs).drop f).take n:=by rw [<-i1,N,AV.lG,AV.js]
       refine ⟨v.val ρ,ρ',_,v,D,(k,y,f,us),h2,s,Y,rfl,Q,pC hl s,eH,?_,rfl,⟨by simpa using hmk,AV.aj ρ cs,bt,?_,?_⟩,⟨hU i.1 Y,V⟩,λw' hw=>?_⟩
       .show Sat (ab ρ' T (st.G.set j _)++(ab ρ' T (D++fr.H)++Φ)) w;rw [fV C,eG];have e4:(Row.box y bt (vH cs f ls)).item ρ' T=(Row.box y bt cs).item ρ T:=by simp only [Row.item];rw [s _ i.1,<-Ae,W,N,AV.lG,AV.js,aam (by rw [AV.bD];exact hle)]
        have hi:=ik (ρ:=ρ) (T:=T) (Φ:=ab ρ' T (D++fr.H)++Φ) f1;have e5:(ab ρ T st.G++(ab ρ' T (D++fr.H)++Φ)).set j ((Row.box y bt (vH cs f ls)).item ρ' T)=ab ρ T st.G++(ab ρ' T (D++fr.H)++Φ):=by
         rw [e4];apply mN;intro q;by_cases hq:q=j
         .subst hq;rw [so (List.getElem?_eq_some_iff.1 hi).1,hi]
         .rw [qK (λh=>hq h.symm)]
        rw [e5,bg,eH,cb];have ins:∀(L:List Item) (A B:Ctx),Sat (A++B) w->(∀it∈L,it.own=[]/\∀M w,it.P M w)->Sat (A++(L++B)) w:=λL=>by
         induction L with
         |nil=>intro A B h _;exact h
         |cons x L ih=>
          intro A B h hL;have Z:=ih A B h (λit bH=>hL it (b7 _ bH));have hx:=hL x (cx ..);refine Z.BA (λj k=>(j<A.length/\k=j)\/(A.length<j/\k+1=j)) (λj jt C=>?_) (λj k q hjk Z h2=>by omega);by_cases e:j<A.length
          .rw [eb e] at C;exact .inr ⟨j,jt,.inl ⟨e,rfl⟩,by rw [eb e];exact C,bV.refl⟩
          .rw [de (by omega)] at C;by_cases e2:j=A.length
           .subst e2;simp at C;subst C;exact .inl hx
           .refine .inr ⟨j-1,jt,.inr ⟨by omega,by omega⟩,?_,bV.refl⟩;rw [de (by omega)];have:j-A.length=(j-1-A.length)+1:=by omega
            rw [this,qd,iQ] at C;exact C
        refine ins (ab ρ' T D) (ab ρ T st.G) (ab ρ T fr.H++Φ) hs (λit bH=>?_);obtain ⟨z,U,rfl⟩:=List.mem_map.1 bH;have h9:=J.rp z U;have h10:z.item ρ' T=z.item ρ' []:=by have hgd:z.gd=none:=J.rg z U;exact Row.CD (by rw [hgd,aA.get_none,aA.get_none])
        rw [h10];exact ⟨(z.item ρ' []).hp h9.1,h9.2⟩
       .show gf w (ρ' y).b bt _;rw [s _ i.1];exact hb
       .show ((AV.aj ρ cs).drop f).take us.length=us.map λu=>(ρ' u).x;rw [I,e3]
       .obtain ⟨_,csv,t2,b1,b2⟩:=hw;have b1:gf w' (ρ' y).b t2 csv:=b1;have b2:(csv.drop f).take us.length=us.map λu=>(ρ' u).x:=b2;rw [s _ i.1] at b1;rw [I,e3] at b2;have O:=aO (ρ:=ρ) hx;simp only [AV.val] at O;have e6:AV.aj ρ ((cs.drop f).map (wP st.G fr.H))=(AV.aj ρ cs).drop f:=by rw [J4 hs,AV.js]
        refine anv O hn hv (by rw [qb,j5];omega) ?_;rw [e6];refine b1.part f ?_;have:(((AV.aj ρ cs).drop f).take n).length=n:=by rw [dk,j5,AV.bD];omega
        rw [this];exact b2
      .cases h
     .cases h
    .cases h
   .cases h
  .cases h
 .cases h
theorem Ka{e:OT}{k mk_:Nat}{pend:fm}{EV:List tV}{T T':aA}{g:GK}{fr1:Fr}{st1:aB}{ρ:aw}{w:World}{v:Value}{J:World->Prop}(hn:fr1.n=fr.n)(p:afY ops fr fr1 st1 ρ o T T' g)(A:ops[k]? =some o)(t:∀x∈EV,rI ops.toArray k x.1=true)(i:J w)
  (r:∀w',J w'->bc X.P (ay ρ T' st1.E fr1.F) (T'.get g) o w' v) (c:E8 X.P σ ops.toArray Q fr.n D e EV ((k,J)::pend) (sF o.dst (T'.get g) v (ay ρ T' st1.E fr1.F)) w):
  E8 X.P σ ops.toArray Q fr.n D (.q k mk_ e) EV pend (ay ρ T' st1.E fr1.F) w:=by
 have m:ops.toArray[k]? =some o:=by simpa using A
 have f:=p.ds;rw [hn] at f;intro a d u hC;have j:∀v,∀x∈EV,wG X.P ops.toArray (a.put o.dst v) x:=λv x hx=>(hC x hx).put m (t x hx);simp only [la,m];cases s:g with
 |none=>
  subst s;rw [aA.get_none] at r c;refine ⟨v,J,i,.inl ⟨by simp [Region.wanted,p.gg],λw' h=>r w' h _ a d rfl⟩,?_⟩;exact c _ (d.sF f) (by rw [kh];exact u) (j _)
 |some gk=>
  obtain ⟨rj,par,b,G,C,z,B⟩:=p.gk gk s;rw [hn] at z;subst s;have l:=E5 (ops:=ops.toArray) p.gg (by simpa using G) C d z;rw [B] at l;cases y:T'.get (some gk)
  .rw [y] at l c;refine ⟨undef,J,i,.inr ⟨l,rfl⟩,?_⟩;exact c _ (d.sF (g:=false) (v:=v) f) (by rw [kh];exact u) (j _)
  .rw [y] at l r c;refine ⟨v,J,i,.inl ⟨l,λw' h=>r w' h _ a d rfl⟩,?_⟩;exact c _ (d.sF f) (by rw [kh];exact u) (j _)
theorem aoj{G H:List Row}{s:Src}{a:Row}{q c:Nat}(h:s.at_ G H a)(hk:Pm q a=true)(f:bB c G=true)(d:bB c H=true):q<c:=by
 have key:∀{L:List Row},bB c L=true->a∈L->q<c:=λ{L} hl hm=>by
  have b:a.low c=true:=by
   induction L with
   |nil=>cases hm
   |cons x L ih=>
    simp only [bB,an] at hl;rcases List.mem_cons.1 hm with rfl|hm
    .exact hl.1
    .exact ih hl.2 hm
  unfold Pm at hk;split at hk
  .have e:=b0 hk;subst e;simp only [Row.low,an,j6] at b;exact b.1.1
  .cases hk
 cases s with
 |top i=>exact key f (gr h)
 |cu i=>exact key d (gr h)
 |nilI t=>exact h.elim
 |nilO t e=>exact h.elim
 |nilM k v=>exact h.elim
def HP(ρ:aw)(T:aA)(fr:Fr)(A:List Row)(Pd:List xN)(pend:fm)(w:World):Prop:= ∀p,p∈pend->∀w',(∃Φ',Sat (ab ρ T (A++fr.H)++Φ') w')->(∀x,x∈Pd->x.1=p.1->BF ρ x w'\/(Nat.beq x.2.2.1 1000000000=true/\Ext w w'))->p.2 w'
def fH(EV:List tV):Ctx:=EV.map λx=>box x.2.1 x.2.2.1 x.2.2.2
def Sl(ops:zl)(order:OT)(EV:List tV):Prop:= ∀x∈EV,(∀j∈order.ops,rI ops.toArray j x.1=true)/\∀j∈order.Rg,j=x.1\/rI ops.toArray j x.1=true
theorem IF{B:Ctx}{w:World}{p:tV->Bool}:∀{EV:List tV} {A:Ctx},Sat (A++(fH EV++B)) w->Sat (A++(fH (EV.filter p)++B)) w
 |[],_,h=>h
 |x::EV,A,h=>by
  rw [tw];split
  .have a:Sat ((A++[box x.2.1 x.2.2.1 x.2.2.2])++(fH EV++B)) w:=by simpa [fH] using h
   have:=IF (p:=p) a;simpa [fH] using this
  .exact IF (p:=p) (Sat.BC (A:=A) (B:=fH EV++B) h)
theorem OG{B:Ctx}{w:World}:∀{EV:List tV} {A:Ctx},Sat (A++(fH EV++B)) w->Sat (A++B) w
 |[],_,h=>h
 |_::EV,A,h=>OG (EV:=EV) (Sat.BC (A:=A) (B:=fH EV++B) h)
theorem Fits.kQ{n:Nat}{E:Env}{a:Act}{d:Tmp}{v:Value}(h:Fits n E a)(e:a.tmps.getD d undef=v):Fits n ((d,true,v)::E) a:=by
 refine ⟨h.size,λt g b ht=>?_⟩;simp only [look] at ht;cases hb:Nat.beq d t
 .rw [hb,ca] at ht;exact h.at_ t g b ht
 .rw [hb,cp] at ht;have:=b0 hb;subst this;cases ht;exact e
theorem Fits.apZ{n:Nat}{E:Env}{a:Act}{d:Tmp}(h:Fits n E a)(hd:look E d=none)(v:Value):Fits n E (a.put (some d) v):=by
 refine ⟨by simp [Act.put,h.size],λt g c ht=>?_⟩;have b:d≠t:=λe=>by subst e;rw [hd] at ht;cases ht
 have:=Act.eval_put (a:=a) (dst:=some d) (v:=v) (x:= .tmp t) (λe f i=>b (by cases f;cases i;rfl));exact Eq.trans this (h.at_ t g c ht)
theorem ang{X:Cx}{T:aA}{fr:Fr}{st:aB}{p:TypeId×List AV×List AV}(h:IX X T fr st o=some p):o.guard=none/\∀cs b,o.op≠ .select cs b:=by
 unfold IX at h;split at h
 next d c=>exact ⟨c,λcs b a=>by rw [d] at a;cases a⟩
 next d c=>exact ⟨c,λcs b a=>by rw [d] at a;cases a⟩
 .cases h
theorem wG.same{P:Program}{ops:zi}{a:Act}{x:tV}{X:Cx}{T:aA}{fr:Fr}{st:aB}{ρ:aw}(k:X.P=P)(h:wG P ops a x)(i:ops[x.1]? =some o)(j:Fits fr.n (ay ρ T st.E fr.F) a):
  ∀e vs cs,IX X T fr st o=some (e,vs,cs)->x.2.2.1=e/\x.2.2.2=AV.aj ρ cs:=λe vs cs l=>by
 subst k;obtain ⟨q,d,b,g,u,t,s,r,p⟩:=h;rw [i] at g;cases g;have f:=Y4 (ρ:=ρ) l b _ a j;rw [p] at f;have m:b.alloc (.cells x.2.2.2.toArray x.2.2.1)=b.alloc (.cells (AV.aj ρ cs).toArray e):=by injection f
 have c:(some (Obj.cells x.2.2.2.toArray x.2.2.1):Option Obj)=some (.cells (AV.aj ρ cs).toArray e):=by rw [<-heap_alloc_new b (.cells x.2.2.2.toArray x.2.2.1),<-heap_alloc_new b (.cells (AV.aj ρ cs).toArray e),m]
 simp only [et,Obj.cells.injEq] at c;exact ⟨c.2.1,by simpa using c.1⟩
theorem acK{frx:Fr}{T:aA}{w:World}{a:Act}{M:cF R}:∀{k:zo} {EV:List tV} {st:aB} {ρ:aw},fL T st.E frx.F->Sat (ab ρ T st.G++(ab ρ T frx.H++(fH EV++Φ))) w->Fits frx.n (ay ρ T st.E frx.F) a->
  (∀x∈EV,wG X.P ops.toArray a x)->(∀f∈k,f∈EV.map (·.1))->afr X ops frx T k st M=some r->
  ∃st' ρ',M st'=some r/\aQ st.c ρ ρ'/\st.c<=st'.c/\fL T st'.E frx.F/\Fits frx.n (ay ρ' T st'.E frx.F) a/\ab ρ' T frx.H=ab ρ T frx.H/\
   Sat (ab ρ' T st'.G++(ab ρ' T frx.H++(fH (EV.filter λx=> !(dT x.1 k))++Φ))) w
 |[],EV,st,ρ,ht,hs,hf,hC,_,h=>by
  refine ⟨st,ρ,h,.refl,c8 _,ht,hf,rfl,?_⟩;have e:(EV.filter λx=> !(dT x.1 []))=EV:=by rw [List.filter_eq_self];intro x _;rfl
  rw [e];exact hs
 |f::k,EV,st,ρ,ht,hs,hf,hC,hin,h=>by
  unfold afr at h;split at h
  .rename_i o ho;obtain ⟨m,h2⟩:=aI h;simp only [an,nA] at m;obtain ⟨x,hx,v⟩:=List.mem_map.1 (hin f (cx ..));subst v;obtain ⟨i,g,L⟩:=List.append_of_mem hx;have l:ops.toArray[x.1]? =some o:=by simpa using ho
   have D:Sat (((ab ρ T st.G++ab ρ T frx.H)++fH i)++box x.2.1 x.2.2.1 x.2.2.2::(fH g++Φ)) w:=by
    have e:ab ρ T st.G++(ab ρ T frx.H++(fH EV++Φ))=((ab ρ T st.G++ab ρ T frx.H)++fH i)++box x.2.1 x.2.2.1 x.2.2.2::(fH g++Φ):=by rw [L];simp [fH]
    rw [<-e];exact hs
   have C:Sat ([]++box x.2.1 x.2.2.1 x.2.2.2::((ab ρ T st.G++ab ρ T frx.H)++(fH i++(fH g++Φ)))) w:=by have:=D.aic;simpa using this
   have B:Sat (ab ρ T st.G++(ab ρ T frx.H++(box x.2.1 x.2.2.1 x.2.2.2::(fH i++(fH g++Φ))))) w:=by have:=C.move;simpa using this
   have K:=hC x hx;obtain ⟨o2,d,w0,r1,r2,r3,r4,N,r6⟩:=id K;rw [l] at r1;cases r1;obtain ⟨b,st1,av,k1,k2,J,I,k5,k6,k7,Z⟩:=amg B (wG.same rfl K l hf) h2;have e1:ay b T st1.E frx.F=(d,true,FM o x.2.1)::ay ρ T st.E frx.F:=by rw [I,vW,k5,k6,r2,aA.get_none];rfl
   have A:Sat (ab b T st1.G++(ab b T frx.H++(fH (EV.filter λy=> !(Nat.beq x.1 y.1))++Φ))) w:=by
    have e2:(EV.filter λy=> !(Nat.beq x.1 y.1))=(i++g).filter λy=> !(Nat.beq x.1 y.1):=by rw [L];simp
    rw [e2];have:Sat ((ab b T st1.G++ab b T frx.H)++(fH (i++g)++Φ)) w:=by
     have e3:fH (i++g)=fH i++fH g:=by simp [fH]
     rw [e3];simpa using Z
    have:=IF (p:=λy=> !(Nat.beq x.1 y.1)) this;simpa using this
   have z:fL T st1.E frx.F:=by rw [I];exact ht.out m.1 none av
   obtain ⟨s,q,Y,W,V,U,S,Q,O⟩:=acK z A (by rw [e1];exact hf.kQ N) (λy u=>hC y (List.mem_filter.1 u).1) (λf' j=>by obtain ⟨y,u,t⟩:=List.mem_map.1 (hin f' (b7 _ j));subst t;refine List.mem_map.2 ⟨y,List.mem_filter.2 ⟨u,?_⟩,rfl⟩;rw [nA,qk];intro hb;have:=b0 hb;rw [<-this] at j;rw [dy.2 j] at m;cases m.2) k1
   refine ⟨s,q,Y,k2.trans W J,ec J V,U,S,Q.trans k7,?_⟩;have e4:((EV.filter λy=> !(Nat.beq x.1 y.1)).filter λy=> !(dT y.1 k))=EV.filter λy=> !(dT y.1 (x.1::k)):=by
    rw [List.filter_filter];congr 1
    funext y
    simp only [dT,Bool.not_or];exact Bool.and_comm ..
   rw [<-e4];exact O
  .cases h
theorem amT(hΓ:∀it∈X.Γ,it∈Φ)(htb:∀e∈tb,e.Ok X.P X.Γ)(htp:∀e∈tp,e.Ok X.P X.Γ):∀{S:OT} {EV:List tV} {A:List Row} {Pd:List xN} {T:aA} {st:aB} {ρ:aw} {w:World} {pend:fm},fL T st.E fr.F->pZ ops fr.n T->FT T fr->Sl ops S EV->aeh st.c Pd->Sat (ab ρ T st.G++(ab ρ T (A++fr.H)++(fH EV++Φ))) w->
  HP ρ T fr A Pd pend w->rF X tb tp KP ops fr S A Pd T st K=some r->
  (∀st' ρ' w',aQ st.c ρ ρ'->st.c<=st'.c->K st'=some r->Sat (ab ρ' [] st'.G++(ab ρ' [] fr.H++Φ)) w'->At Q .normal fr.n D (ay ρ' [] st'.E fr.F) w')->
  (∀v st' ρ' w',aQ st.c ρ ρ'->st.c<=st'.c->KP v st'=some r->Sat (ab ρ' [] st'.G++(ab ρ' [] fr.H++Φ)) w'->Dk Q (jI (v.val ρ')) D w')->
  E8 X.P σ ops.toArray Q fr.n D S EV pend (ay ρ T st.E fr.F) w:=by
 intro S
 -- a loud operation, the rest by induction
 have loud:∀(rest:OT) (k mk:Nat),(∀{EV:List tV} {A:List Row} {Pd:List xN} {T:aA} {st:aB} {ρ:aw} {w:World} {pend:fm},fL T st.E fr.F->pZ ops fr.n T->FT T fr->Sl ops rest EV->aeh st.c Pd->Sat (ab ρ T st.G++(ab ρ T (A++fr.H)++(fH EV++Φ))) w->
   HP ρ T fr A Pd pend w->rF X tb tp KP ops fr rest A Pd T st K=some r->
   (∀st' ρ' w',aQ st.c ρ ρ'->st.c<=st'.c->K st'=some r->Sat (ab ρ' [] st'.G++(ab ρ' [] fr.H++Φ)) w'->At Q .normal fr.n D (ay ρ' [] st'.E fr.F) w')->
   (∀v st' ρ' w',aQ st.c ρ ρ'->st.c<=st'.c->KP v st'=some r->Sat (ab ρ' [] st'.G++(ab ρ' [] fr.H++Φ)) w'->Dk Q (jI (v.val ρ')) D w')->
   E8 X.P σ ops.toArray Q fr.n D rest EV pend (ay ρ T st.E fr.F) w)->
   ∀{EV:List tV} {A:List Row} {Pd:List xN} {T:aA} {st:aB} {ρ:aw} {w:World} {pend:fm},fL T st.E fr.F->pZ ops fr.n T->FT T fr->(∀x∈EV,rI ops.toArray k x.1=true)->Sl ops rest EV->aeh st.c Pd->Sat (ab ρ T st.G++(ab ρ T (A++fr.H)++(fH EV++Φ))) w->
   HP ρ T fr A Pd pend w->
   (match ops[k]? with
    |some o=>Mp X tb tp KP ops fr A T st o λT st'=>aD (Lf st'.G (fQ ops k Pd)) (rF X tb tp KP ops fr rest (bk (λr=> !(cT r)) st.G++A) (fQ ops k Pd) T st' K) none
    |none=>none)=some r->
   (∀st' ρ' w',aQ st.c ρ ρ'->st.c<=st'.c->K st'=some r->Sat (ab ρ' [] st'.G++(ab ρ' [] fr.H++Φ)) w'->At Q .normal fr.n D (ay ρ' [] st'.E fr.F) w')->
   (∀v st' ρ' w',aQ st.c ρ ρ'->st.c<=st'.c->KP v st'=some r->Sat (ab ρ' [] st'.G++(ab ρ' [] fr.H++Φ)) w'->Dk Q (jI (v.val ρ')) D w')->
   E8 X.P σ ops.toArray Q fr.n D (.l k mk rest) EV pend (ay ρ T st.E fr.F) w:=by
  intro rest k mk ih EV A Pd T st ρ w pend h1 h2 hf hfk i C hs hp h next s;have V:∀it∈X.Γ,it∈fH EV++Φ:=λit bH=>hV _ (hΓ it bH);split at h
  .rename_i o ho;have hs1:=su (A:=[]) (p:=cT) hs;refine ah8 (k:=k) (mk:=mk) (o:=o) (by simpa using ho) hfk rfl ?_;have fin:∀T' st' ρ' w',fL T' st'.E (rb fr A st).F->pZ ops (rb fr A st).n T'->FT T' fr->aQ (stM st).c ρ ρ'->(stM st).c<=st'.c->(aD (Lf st'.G (fQ ops k Pd)) (rF X tb tp KP ops fr rest (bk (λr=> !(cT r)) st.G++A) (fQ ops k Pd) T' st' K) none)=some r->ab ρ' T' (rb fr A st).H=ab ρ T (rb fr A st).H->Sat (ab ρ' T' st'.G++(ab ρ' T' (rb fr A st).H++(fH EV++Φ))) w'->
     WL X.P σ ops.toArray (QKE X.P σ ops.toArray Q rest EV (still .any ops.toArray k pend)) fr.n D [] (ay ρ' T' st'.E (rb fr A st).F) w':=by
    intro T' st' ρ' w' a1 a2 a3 a4 a5 a6 a7 a8;obtain ⟨a9,a10⟩:=aI a6;have e1:bk (λr=> !(cT r)) st.G++(A++fr.H)=(bk (λr=> !(cT r)) st.G++A)++fr.H:=by rw [cb]
    have hs8:Sat (ab ρ' T' st'.G++(ab ρ' T' ((bk (λr=> !(cT r)) st.G++A)++fr.H)++(fH EV++Φ))) w':=by rw [<-e1];exact a8
    have conv:∀z,(∃y,Sat (ab ρ' T' ((bk (λr=> !(cT r)) st.G++A)++fr.H)++y) z)->∃y,Sat (ab ρ T (A++fr.H)++y) z:=λz hw=>by
     obtain ⟨y,O⟩:=hw;refine ⟨y,?_⟩;rw [<-e1] at O;have U:Sat (ab ρ T (bk (λr=> !(cT r)) st.G++(A++fr.H))++y) z:=by rw [<-a7];exact O
     rw [bg,cb] at U;exact U.Ac
    have mem:∀p,p∈still .any ops.toArray k pend->p∈pend/\∀x,x∈Pd->x.1=p.1->x∈fQ ops k Pd:=λp R=>by unfold still at R;rw [List.mem_filter] at R;exact ⟨R.1,λx hx he=>xD.2 ⟨hx,by rw [he];simpa using R.2⟩⟩
    have hBF:=W7 (B:=ab ρ' T' ((bk (λr=> !(cT r)) st.G++A)++fr.H)++(fH EV++Φ)) hs8 a9;have HP':HP ρ' T' fr (bk (λr=> !(cT r)) st.G++A) (fQ ops k Pd) (still .any ops.toArray k pend) w':=λp R z hw hB=>by obtain ⟨m1,m2⟩:=mem p R;exact hp p m1 z (conv z hw) (λx hx he=>(hB x (m2 x hx he) he).elim (λh=> .inl ((C7 a4 (C x hx)).1 h)) (λh=>by have:=(hBF x (m2 x hx he)).1;rw [h.1] at this;cases this))
    refine cd (aoz (abk λp R=>HP' p R w' ⟨fH EV++Φ,hs8.Ac⟩ (λx hx _=> .inl (hBF x hx))) ?_);exact ih a1 a2 a3 i (λx hx=>⟨hU (C x (xD.1 hx).1).1 a5,λu hu=>hU ((C x (xD.1 hx).1).2 u hu) a5⟩) hs8 HP' a10 (λI M z b1 b2 b3 b4=>next I M z (a4.trans b1 a5) (ec a5 b2) b3 b4) (λv I M z b1 b2 b3 b4=>s v I M z (a4.trans b1 a5) (ec a5 b2) b3 b4)
   unfold Mp at h;split at h
   .rename_i q hq;subst h;refine alL (fr:=rb fr A st) (st:=stM st) h1 hs1 V htp hq (λst' ρ' w' a1 a4 a5 a6 a7 a8=>fin T st' ρ' w' a1 h2 hf a4 a5 a6 a7 a8) (λlb v st' ρ' w' a1 a2 a3 ae1 ae2 a4=>?_);cases lb with
    |true=>cases a3
    |false=>
    have a4':Sat (ab ρ' T ({ st' with G:=st'.G++(bk (λr=> !(cT r)) st.G++A) }:aB).G++(ab ρ' T fr.H++(fH EV++Φ))) w':=by
     have e2:(rb fr A st).H=(bk (λr=> !(cT r)) st.G++A)++fr.H:=by rw [cb]
     rw [e2,bg,cb] at a4;show Sat (ab ρ' T (st'.G++(bk (λr=> !(cT r)) st.G++A))++_) w';rw [bg,cb];exact a4
    obtain ⟨I,k1,Y,_,L⟩:=acE (fr:=fr) (KP:=λ_=>KP) (b:=false) hf a3 a4';rw [<-cb] at L;replace L:=OG L;rw [cb] at L;have k2':I.c=st'.c:=Y;have:=s v I ρ' w' a1 (by rw [k2'];exact a2) k1 L;exact Yz this
   .exact Y0 (fr:=rb fr A st) (st:=stM st) (fr0:=fr) (K:=λT st'=>aD (Lf st'.G (fQ ops k Pd)) (rF X tb tp KP ops fr rest (bk (λr=> !(cT r)) st.G++A) (fQ ops k Pd) T st' K) none) h1 h2 rfl (λr hr=>hV _ (hV _ hr)) hf hs1 V htb h fin
  .cases h
 induction S with
 |nil=>
  intro EV A Pd T st ρ w pend h1 h2 hf i C hs hp h next s;have V:∀it∈X.Γ,it∈fH EV++Φ:=λit bH=>hV _ (hΓ it bH);unfold rF at h;obtain ⟨h3,h4⟩:=aI h;have hs':Sat (ab ρ T ({ st with G:=st.G++A }:aB).G++(ab ρ T fr.H++(fH EV++Φ))) w:=by show Sat (ab ρ T (st.G++A)++_) w;rw [bg,cb];rw [bg,cb] at hs;exact hs
  obtain ⟨k1,Y,L⟩:=II h3 hf hs';rw [<-cb] at L;replace L:=OG L;rw [cb] at L;exact amm ((next _ ρ w .refl (by rw [k1];exact c8 _) h4 L).oJ _ Y)
 |q k m rest ih=>
  intro EV A Pd T st ρ w pend h1 h2 hf i C hs hp h next s;have hevr:Sl ops rest EV:=λx hx=>⟨λj hj=>(i x hx).1 j (b7 _ hj),(i x hx).2⟩;have V:∀it∈X.Γ,it∈fH EV++Φ:=λit bH=>hV _ (hΓ it bH);unfold rF at h;split at h
  .rename_i o ho;have hs1:=su (A:=[]) (p:=cT) hs;obtain ⟨T',g,hk,Z⟩:=aah (ρ:=ρ) (fr0:=fr) (fr:=rb fr A st) (st:=stM st) h1 h2 rfl (λr hr=>hV _ (hV _ hr)) hf h;have hs':Sat (ab ρ T' (stM st).G++(ab ρ T' (rb fr A st).H++(fH EV++Φ))) w:=by rw [Z.eg,Z.eh];exact hs1
   have he:ay ρ T st.E fr.F=ay ρ T' st.E fr.F:=by have e1:=Z.ee;have e2:=Z.ef;rw [ay,ay,e1,e2]
   rw [he];have e1:bk (λr=> !(cT r)) st.G++(A++fr.H)=(bk (λr=> !(cT r)) st.G++A)++fr.H:=by rw [cb]
   -- from what stands then to what stands now
   have conv0:∀z y,Sat (ab ρ T' (bk (λr=> !(cT r)) st.G++(A++fr.H))++y) z->∃y,Sat (ab ρ T (A++fr.H)++y) z:=λz y O=>by
    refine ⟨y,?_⟩;have U:Sat (ab ρ T (bk (λr=> !(cT r)) st.G++(A++fr.H))++y) z:=by rw [<-Z.eh];exact O
    rw [bg,cb] at U;exact U.Ac
   split at hk
   .rename_i q hq;subst hk;obtain ⟨v,ρ',st',av,Rq,p,k1,Y,L,k4,k5,k6,k7,k8,k9,k10,k11,k12⟩:=ak1 (fr:=rb fr A st) (st:=stM st) hs' hq;have e2:Rq++(bk (λr=> !(cT r)) st.G++(A++fr.H))=(Rq++(bk (λr=> !(cT r)) st.G++A))++fr.H:=by simp
    refine Ka (fr1:=rb fr A st) (st1:=stM st) (J:=BF ρ' p) rfl Z ho (λx hx=>(i x hx).1 k (cx ..)) k10 k12 ?_;have:=ih (A:=Rq++(bk (λr=> !(cT r)) st.G++A)) (Pd:=p::Pd) (T:=T') (st:=st') (ρ:=ρ') (w:=w) (pend:=(k,BF ρ' p)::pend) (by rw [k4];exact Z.t1.out Z.ak g av) Z.t2 Z.ft hevr (λx hx=>?_) (by rw [<-e2];exact k8) (λq W z hw hB=>?_) k1 (λI M z b1 b2 b3 b4=>next I M z (Y.trans b1 L) (ec L b2) b3 b4) (λv I M z b1 b2 b3 b4=>s v I M z (Y.trans b1 L) (ec L b2) b3 b4)
    .rw [k4,vW,k5,k6] at this;exact this
    .rcases List.mem_cons.1 hx with rfl|hx
     .exact k11
     .exact ⟨hU (C x hx).1 L,λu hu=>hU ((C x hx).2 u hu) L⟩
    .rcases List.mem_cons.1 W with rfl|W
     .exact (hB p (cx ..) k9).elim id (λh=>by have:=k10.1;rw [h.1] at this;cases this)
     .obtain ⟨y,O⟩:=hw;rw [<-e2,bg,cb] at O;have hΦ1:=O.Ac;have U:Sat (ab ρ T' (bk (λr=> !(cT r)) st.G++(A++fr.H))++y) z:=by rw [<-k7];exact hΦ1
      exact hp q W z (conv0 z y U) (λx hx he=>(hB x (b7 _ hx) he).imp (C7 Y (C x hx)).1 id)
   .split at hk
    .rename_i p hpo;obtain ⟨lw,hk⟩:=aI hk;obtain ⟨dst,op,ty,pos,af,gd⟩:=o;unfold aly at hpo;split at hpo
     .rename_i t x d hop hdst;simp only at hop hdst;subst hop hdst;split at hpo
      .rename_i q off hx;split at hpo
       .cases hpo
       split at hpo
       .rename_i sr hkn;cases hpo;obtain ⟨v,hr,hO⟩:=UB (ty:=ty) (pos:=pos) (af:=af) (gd:=gd) lw hs' hx hk;obtain ⟨ρ',st',av,k1,Y,L,k4,k5,k6,k7,k8⟩:=hO;have hq:q<st.c:=by obtain ⟨_,_,l3,l4⟩:=aB.cE.1 lw;obtain ⟨f1,f2⟩:=bW hkn;exact aoj f1 f2 l3 l4
        refine Ka (fr1:=rb fr A st) (st1:=stM st) (J:=λw'=>Ext w w') (v:=v) rfl Z ho (λx hx=>(i x hx).1 k (cx ..)) (Ext.refl w) (λw' hw'=>hr w' hw') ?_;have:=ih (A:=bk (λr=> !(cT r)) st.G++A) (Pd:=(k,q,1000000000,[])::Pd) (T:=T') (st:=st') (ρ:=ρ') (w:=w) (pend:=(k,λw'=>Ext w w')::pend) (by rw [k4];exact Z.t1.out Z.ak g av) Z.t2 Z.ft hevr (λx hx=>?_) (by rw [<-e1];exact k8) (λq' W z hw hB=>?_) k1 (λI M z b1 b2 b3 b4=>next I M z (Y.trans b1 L) (ec L b2) b3 b4) (λv I M z b1 b2 b3 b4=>s v I M z (Y.trans b1 L) (ec L b2) b3 b4)
        .rw [k4,vW,k5,k6] at this;exact this
        .rcases List.mem_cons.1 hx with rfl|hx
         .exact ⟨hU hq L,λu hu=>by cases hu⟩
         .exact ⟨hU (C x hx).1 L,λu hu=>hU ((C x hx).2 u hu) L⟩
        .obtain ⟨y,O⟩:=hw;rw [<-e1] at O;have hΦ1:Sat (ab ρ T' (bk (λr=> !(cT r)) st.G++(A++fr.H))++y) z:=by rw [<-k7];exact O
         rcases List.mem_cons.1 W with rfl|W
         .exact (hB (k,q,1000000000,[]) (cx ..) rfl).elim (λh=>by have:=h.1;simp at this) (λh=>h.2)
         .exact hp q' W z (conv0 z y hΦ1) (λx hx he=>(hB x (b7 _ hx) he).imp (C7 Y (C x hx)).1 id)
       .cases hpo
      .cases hpo
     .cases hpo
    .obtain ⟨v,J,hJ,hr,hO⟩:=agU (fr:=rb fr A st) (st:=stM st) V Z.t1 hs' hk;obtain ⟨ρ',st',av,k1,Y,L,k4,k5,k6,k7,k8⟩:=hO;refine Ka (fr1:=rb fr A st) (st1:=stM st) rfl Z ho (λx hx=>(i x hx).1 k (cx ..)) (hJ w ⟨fH EV++Φ,hs'.Ac⟩) hr ?_;have:=ih (A:=bk (λr=> !(cT r)) st.G++A) (Pd:=Pd) (T:=T') (st:=st') (ρ:=ρ') (w:=w) (pend:=(k,J)::pend) (by rw [k4];exact Z.t1.out Z.ak g av) Z.t2 Z.ft hevr (λx hx=>⟨hU (C x hx).1 L,λu hu=>hU ((C x hx).2 u hu) L⟩) (by rw [<-e1];exact k8) (λq W z hw hB=>?_) k1 (λI M z b1 b2 b3 b4=>next I M z (Y.trans b1 L) (ec L b2) b3 b4) (λv I M z b1 b2 b3 b4=>s v I M z (Y.trans b1 L) (ec L b2) b3 b4)
     .rw [k4,vW,k5,k6] at this;exact this
     .obtain ⟨y,O⟩:=hw;rw [<-e1] at O;have hΦ1:Sat (ab ρ T' (bk (λr=> !(cT r)) st.G++(A++fr.H))++y) z:=by rw [<-k7];exact O
      rcases List.mem_cons.1 W with rfl|W
      .exact hJ z ⟨y,hΦ1⟩
      .exact hp q W z (conv0 z y hΦ1) (λx hx he=>(hB x hx he).imp (C7 Y (C x hx)).1 id)
  .cases h
 |l k m rest ih=>
  intro EV A Pd T st ρ w pend h1 h2 hf i C hs hp h next s;have V:∀it∈X.Γ,it∈fH EV++Φ:=λit bH=>hV _ (hΓ it bH);unfold rF at h;exact loud rest k m (λ{EV A Pd T st ρ w pend}=>ih) h1 h2 hf (λx hx=>(i x hx).1 k (cx ..)) (λx hx=>⟨λj hj=>(i x hx).1 j (b7 _ hj),(i x hx).2⟩) C hs hp h next s
 |l2 m k1 r1 Y r2 ih1 ih2=>
  intro EV A Pd T st ρ w pend h1 h2 hf i C hs hp h next s;have V:∀it∈X.Γ,it∈fH EV++Φ:=λit bH=>hV _ (hΓ it bH);unfold rF at h;obtain ⟨h3,h4⟩:=Uu h;exact an2 (loud r1 k1 m (λ{EV A Pd T st ρ w pend}=>ih1) h1 h2 hf (λx hx=>(i x hx).1 k1 (cx ..)) (λx hx=>⟨λj hj=>(i x hx).1 j (b7 _ (b7 _ (qh _ hj))),λj hj=>(i x hx).2 j (qh _ hj)⟩) C hs hp h3 next s)
   (loud r2 Y m (λ{EV A Pd T st ρ w pend}=>ih2) h1 h2 hf (λx hx=>(i x hx).1 Y (b7 _ (cx ..))) (λx hx=>⟨λj hj=>(i x hx).1 j (b7 _ (b7 _ (hV _ hj))),λj hj=>(i x hx).2 j (hV _ hj)⟩) C hs hp h4 next s)
 |f k m fl fs rest ih=>
  intro EV A Pd T st ρ w₀ pend h1 h2 hf i C hs hp h next s;unfold rF at h;obtain ⟨hc,h⟩:=aI h;simp only [an,qo] at hc;obtain ⟨hfl,hpd0⟩:=hc;have hrun:∀f∈fl,∃o p d,ops[f]? =some o/\IX X T (frA fr A) st o=some p/\o.dst=some d/\jH o=true/\Nat.blt d fr.n=true/\dW st.E fr.F d=none/\(∀t∈o.looksAt ops.toArray,t≠d)/\
    (∀j∈k::rest.ops,rI ops.toArray j f=true)/\∀j∈fl++rest.Rg,j=f\/rI ops.toArray j f=true:=λf hf=>by
   have:=hfl f hf;unfold aor at this;simp only [an,qo,fi] at this;obtain ⟨⟨g1,g2⟩,g3⟩:=this;split at g1
   .rename_i o ho;split at g1
    .rename_i p d hp hd;simp only [an,qo] at g1;obtain ⟨⟨⟨g4,g5⟩,g6⟩,g7⟩:=g1;refine ⟨o,p,d,ho,hp,hd,g4,g5,?_,λt ht hc=>?_,g2,λj hj=>(g3 j hj).imp b0 id⟩
     .split at g6
      .cases g6
      .assumption
     .have:=g7 t ht;rw [hc] at this;simp at this
    .cases g1
   .cases g1
  have nxp:∀(EV:List tV) (a:Act) (w:World),Ext w₀ w->Sl ops (.f k m fl fs rest) EV->Sat (ab ρ T st.G++(ab ρ T (A++fr.H)++(fH EV++Φ))) w->Fits fr.n (ay ρ T st.E fr.F) a->a.defers=D->(∀x∈EV,wG X.P ops.toArray a x)->
    (∀f∈fs,f∈EV.map (·.1))->wpOpIn (FW σ) 0 X.P ops.toArray (QN Q) k (λa' w'=>iM (still .any ops.toArray k pend) w'/\la X.P σ ops.toArray (QN Q) rest ((EV.map (·.1)).filter λf=> !(dT f fs)) (still .any ops.toArray k pend) a' w') a w:=by
   intro EV a w hx0 i hs N hD hC hall;obtain ⟨st1,ρ1,k1,Y,L,k4,k5,k6,k7⟩:=acK (frx:=frA fr A) h1 hs N hC hall h;have hev':∀x∈EV.filter (λx=> !(dT x.1 fs)),(∀j∈k::rest.ops,rI ops.toArray j x.1=true)/\∀j∈rest.Rg,j=x.1\/rI ops.toArray j x.1=true:=λx hx=>
    ⟨(i x (List.mem_filter.1 hx).1).1,λj hj=>(i x (List.mem_filter.1 hx).1).2 j (hV _ hj)⟩
   have HP':HP ρ1 T fr A Pd pend w:=λp R z hw hB=>by have k6:ab ρ1 T (A++fr.H)=ab ρ T (A++fr.H):=k6;rw [k6] at hw;exact hp p R z hw (λx hx he=>(hB x hx he).imp (C7 Y (C x hx)).1 (λh=>⟨h.1,hx0.trans h.2⟩))
   have hl:=loud rest k 0 (λ{EV A Pd T st ρ w pend}=>ih) (EV:=EV.filter λx=> !(dT x.1 fs)) (pend:=pend) k4 h2 hf (λx hx=>(hev' x hx).1 k (cx ..)) (λx hx=>⟨λj hj=>(hev' x hx).1 j (b7 _ hj),(hev' x hx).2⟩)
    (λx hx=>⟨hU (C x hx).1 L,λu hu=>hU ((C x hx).2 u hu) L⟩) k7 HP' k1 (λI M z b1 b2 b3 b4=>next I M z (Y.trans b1 L) (ec L b2) b3 b4) (λv I M z b1 b2 b3 b4=>s v I M z (Y.trans b1 L) (ec L b2) b3 b4)
   have:=hl a k5 hD (λx hx=>hC x (List.mem_filter.1 hx).1);simp only [la] at this;have e:(EV.map (·.1)).filter (λf=> !(dT f fs))=(EV.filter λx=> !(dT x.1 fs)).map (·.1):=by rw [List.filter_map];rfl
   rw [e];split at this
   .exact this.elim
   .exact this
  have main:∀(nf:Nat) (EV:List tV) (a:Act) (w:World),Ext w₀ w->Sl ops (.f k m fl fs rest) EV->Sat (ab ρ T st.G++(ab ρ T (A++fr.H)++(fH EV++Φ))) w->Fits fr.n (ay ρ T st.E fr.F) a->a.defers=D->(∀x∈EV,wG X.P ops.toArray a x)->
    wpE X.P σ ops.toArray (QN Q) fl pend (λea a w=>(∀f∈fs,f∈ea)->wpOpIn (FW σ) 0 X.P ops.toArray (QN Q) k (λa' w'=>iM (still .any ops.toArray k pend) w'/\la X.P σ ops.toArray (QN Q) rest (ea.filter λf=> !(dT f fs)) (still .any ops.toArray k pend) a' w') a w) nf (EV.map (·.1)) a w:=by
   intro nf
   induction nf with
   |zero=>exact λEV a w hx0 i hs N hD hC=>nxp EV a w hx0 i hs N hD hC
   |succ nf ihf=>
    intro EV a w hx0 i hs N hD hC;refine ⟨nxp EV a w hx0 i hs N hD hC,λf hf' hm=>?_⟩;obtain ⟨o,p,d,r1,r2,r3,r4,r5,r6,r7,r8,r9⟩:=hrun f hf';obtain ⟨e,vs,cs⟩:=p;obtain ⟨gn,ns⟩:=ang r2;have ho':ops.toArray[f]? =some o:=by simpa using r1
    have hR:=Y4 (ρ:=ρ) r2 w _ a N;have hw:Region.wanted o (yielded ops.toArray a.tmps)=true:=by simp [Region.wanted,gn]
    have hdn:look (ay ρ T st.E fr.F) d=none:=by rw [iC,r6];rfl
    have hne:∀x∈EV,f≠x.1:=λx hx hc=>by have:dT f (EV.map (·.1))=true:=dy.2 (List.mem_map.2 ⟨x,hx,hc.symm⟩);rw [hm] at this;cases this
    have hs1:Sat (box w.heap.size e (AV.aj ρ cs)::(ab ρ T st.G++(ab ρ T (A++fr.H)++(fH EV++Φ)))) (w.alloc (.cells (AV.aj ρ cs).toArray e)):=hs.push (fO _ _) (λb hb=>by
     have:b=w.heap.size:=by simpa [box] using hb
     subst this;simp) (λ_ _=>heap_alloc_new w _)
    have hs2:Sat (ab ρ T st.G++(ab ρ T (A++fr.H)++(fH ((f,w.heap.size,e,AV.aj ρ cs)::EV)++Φ))) (w.alloc (.cells (AV.aj ρ cs).toArray e)):=by
     have h0:Sat ([]++box w.heap.size e (AV.aj ρ cs)::((ab ρ T st.G++ab ρ T (A++fr.H))++(fH EV++Φ))) (w.alloc (.cells (AV.aj ρ cs).toArray e)):=by rw [cb];exact hs1
     have:=h0.move;rw [l9,cb] at this;exact this
    have hfit':=N.apZ hdn (FM o w.heap.size);have hflo:∀x∈(f,w.heap.size,e,AV.aj ρ cs)::EV,wG X.P ops.toArray (a.put o.dst (FM o w.heap.size)) x:=λx hx=>by
     rcases List.mem_cons.1 hx with rfl|hx
     .refine ⟨o,d,w,ho',r3,ns,rfl,?_,?_⟩
      .rw [r3];have hlt:d<a.tmps.size:=by rw [N.size];simpa using r5
       show (a.tmps.setIfInBounds d _).getD d undef=_;simp [Array.getD,hlt]
      .rw [execOp_put (ops:=ops.toArray) o ns a o.dst _ (λt ht hc=>r7 t hc (by rw [r3] at ht;exact (iN ht).symm))];exact hR
     .refine (hC x hx).put ho' ?_;rcases (i x hx).2 f (qh _ hf') with h9|h9
      .exact absurd h9 (hne x hx)
      .exact h9
    unfold wpOpIn;simp only [ho',hw,q9];refine ni r4 ?_;rw [hR,Oper.uponIn_value];refine ⟨abk λp R=>hp p R _ ⟨fH ((f,w.heap.size,e,AV.aj ρ cs)::EV)++Φ,hs2.Ac⟩ (λx hx _=>(afE hs2 hpd0 x hx).imp id (λh=>⟨h,hx0.trans (fO _ _)⟩)),?_⟩;have:=ihf ((f,w.heap.size,e,AV.aj ρ cs)::EV) (a.put o.dst (FM o w.heap.size)) _ (hx0.trans (fO _ _)) (λx hx=>?_) hs2 (by rw [r3];exact hfit') (by rw [kh];exact hD) hflo
    .exact this
    .rcases List.mem_cons.1 hx with rfl|hx
     .exact ⟨r8,r9⟩
     .exact i x hx
  intro a N hD hC;simp only [la];exact main fl.length EV a w₀ (Ext.refl _) i hs N hD hC
end
def cH:Code->Nat
 | .region _ ops _=>ops.toList.foldl (λm o=>match o.dst with|some d=>Nat.lor m (Nat.shiftLeft 1 d)|none=>m) 0
 | .seq a b=>Nat.lor (cH a) (cH b)
 | .cond _ a b=>Nat.lor (cH a) (cH b)
 | .block _ c=>cH c
 | .loop c=>cH c
 | .scope c=>cH c
 | .rangeFunc _ ps a b=>Nat.lor (ps.toList.foldl (λm d=>Nat.lor m (Nat.shiftLeft 1 d)) 0) (Nat.lor (cH a) (cH b))
 |_=>0
def Oq(t:Nat):List (Bool×Nat×Pt)->Bool
 |[]=>false
 |x::l=>(!x.1&&Nat.beq x.2.1 t)||Oq t l
def B7(m:Nat)(vs:List (Bool×Nat×Pt))(t:Nat):Bool:= !(Nat.testBit m t)&& !(Oq t vs)
def pH(m:Nat)(vs:List (Bool×Nat×Pt)):aF->aF
 |[]=>[]
 |x::E=>aD ( B7 m vs x.1 ) ( x::pH m vs E ) ( pH m vs E )
def rU(m:Nat)(vs:List (Bool×Nat×Pt)):aF->aF
 |[]=>[]
 |x::E=>aD ( B7 m vs x.1 ) ( rU m vs E ) ( x::rU m vs E )
theorem Vi{m:Nat}{vs:List (Bool×Nat×Pt)}{t:Nat}:{E:aF}->bA E t=aD (B7 m vs t) (bA (pH m vs E) t) (bA (rU m vs E) t)/\bA (aD (B7 m vs t) (rU m vs E) (pH m vs E)) t=none
 |[]=>by cases B7 m vs t <;> exact ⟨rfl,rfl⟩
 |(t',g,v)::E=>by obtain ⟨b,a⟩:=Vi (m:=m) (vs:=vs) (t:=t) (E:=E);grind [Nat.beq,iV,pH,rU,B7,Nat.eq_of_beq_eq_true,nU]
theorem aeC{m:Nat}{vs:List (Bool×Nat×Pt)}{t:Nat}{E F:aF}:dW (rU m vs E) (pH m vs E++F) t=dW E F t:=by
 have app:∀A B:aF,bA (A++B) t=match bA A t with|some x=>some x|none=>bA B t:=λA B=>by
  induction A with
  |nil=>rfl
  |cons x A ih=>
   obtain ⟨t',g,v⟩:=x;cases hb:Nat.beq t' t
   .grind [iV]
   grind [nU]
 obtain ⟨b,a⟩:=Vi (m:=m) (vs:=vs) (t:=t) (E:=E);grind [dW,B7,bA,pH,rU]
theorem agd{ρ:aw}{E E' F a:aF}(h:∀t,dW E' a t=dW E F t):kT (ay ρ [] E' a) (ay ρ [] E F):=λt p hp=>by grind [iC]
mutual
def AV.ids:AV->zo
 | .ptr id _|.sl id|.adr id _|.mp id|.nv id|.sfp id _=>[id]
 | .agg l|.tuple l=>AV.WQ l
 | .fn _ a b=>AV.WQ a++AV.WQ b
 | .ifc _ v=>v.ids
 |_=>[]
def AV.WQ:List AV->zo
 |[]=>[]
 |v::l=>v.ids++AV.WQ l
end
def aix(res:AV->AV)(ids:zo):List Row->zo
 |[]=>[]
 |r::G=>(match r with
  | .box j _ vs=>aD (vn j ids) (AV.WQ (vs.map res)) []
  |_=>[])++aix res ids G
def reach(st:aB)(fr:Fr)(ts:zo):zo:=
 let a:=(ts.map λt=>match dW st.E fr.F t with
  |some (_,v)=>v.ids
  |none=>[]).flatten
 let b:=a++aix (wP st.G fr.H) a st.G
 b++aix (wP st.G fr.H) b st.G
def gM(ids:zo)(r:Row):Bool:=vn r.id ids
def nt(ids:zo)(c:Nat):List Row->List Row×List Row×Nat
 |[]=>([],[],c)
 |r::G=>match r with
  | .box j t vs=>aD ( vn j ids ) ( match nV c vs with
   |(cs,R,c)=>match nt ids c G with
    |(G,R',c)=>(.box j t cs::G,R++R',c) )<|match nt ids c G with
   |(G,R',c)=>(.box j t vs::G,R',c)
  |r=>match nt ids c G with
   |(G,R',c)=>(r::G,R',c)
def jG:List Row->List (List AV)
 |[]=>[]
 |r::G=>(match r with
  | .box _ _ cs=>cs::jG G
  |_=>jG G)
structure alK(c:Nat)(G:List Row)(ρ ρ':aw)(x:List Row×List Row×Nat):Prop where
 ag:aQ c ρ ρ'
 le:c<=x.2.2
 eq:ab ρ' [] x.1=ab ρ [] G
 lw:bB x.2.2 x.1=true
 rl:bB x.2.2 x.2.1=true
 rp:∀r∈x.2.1,(r.item ρ' []).cL=true/\∀M w,(r.item ρ' []).P M w
 bx:(jG x.1).map (AV.aj ρ')=(jG G).map (AV.aj ρ)
theorem J6{ρ ρ':aw}{c:Nat}(ha:aQ c ρ ρ'):{G:List Row}->bB c G=true->(jG G).map (AV.aj ρ')=(jG G).map (AV.aj ρ)
 |[],_=>rfl
 |r::G,h=>by
  simp [bB,an] at h;have ih:=J6 ha h.2;cases r with
  |box j t cs=>
   have a:=h.1;simp [Row.low] at a;grind [AV.aj,jG,AV.bZ]
  |_=>exact ih
theorem HO{ids:zo}:{G:List Row}->{c:Nat}->{ρ:aw}->bB c G=true->∃ρ',alK c G ρ ρ' (nt ids c G)
 |[],c,ρ,h=>⟨ρ,.refl,c8 _,rfl,rfl,rfl,(λ_ h=>by cases h),rfl⟩
 |r::G,c,ρ,h=>by
  simp [bB,an] at h;have i:(∀t cs j,r= .box j t cs->vn j ids=false)->nt ids c (r::G)=(match nt ids c G with|(G,p,c)=>(r::G,p,c))->∃ρ',alK c (r::G) ρ ρ' (nt ids c (r::G)):=λ_ e=>by
   obtain ⟨ρ',l⟩:=HO h.2;rw [e];generalize nt ids c G=L at l;obtain ⟨G',R,y⟩:=L;refine ⟨ρ',l.ag,l.le,?_,?_,l.rl,l.rp,?_⟩
   .have:=l.eq;simp only [ab,eT] at this ⊢;rw [this,Row.Bq l.ag h.1]
   .simp [bB,an];exact ⟨Row.gC l.le h.1,l.lw⟩
   .have hb  :=l.bx;cases r with
    |box j t cs=>
     have u:=h.1;simp [Row.low,an] at u;show AV.aj ρ' cs::(jG G').map (AV.aj ρ')=AV.aj ρ cs::(jG G).map (AV.aj ρ);rw [hb,AV.bZ l.ag _ u.2]
    |_=>exact hb
  cases r with
  |box j t vs=>
   cases hm:vn j ids
   .grind [nt]
   .have d:=h.1;simp [Row.low,an,j6] at d;obtain ⟨q,a⟩:=Ja (ρ:=ρ) d.2;have e:nt ids c (.box j t vs::G)=(match nV c vs with
     |(cs,R,c)=>match nt ids c G with
      |(G,p,c)=>(.box j t cs::G,R++p,c)):=by simp [nt,hm]
    rw [e];generalize nV c vs=L at a;obtain ⟨cs,R,c1⟩:=L;obtain ⟨g,b⟩:=HO (ρ:=q) (AI a.le h.2);dsimp only;generalize nt ids c1 G=L at b;obtain ⟨G',p,w⟩:=L;have n:c<=c1:=a.le;have f:c1<=w:=b.le;have o  :=a.ag.trans b.ag a.le;refine ⟨g,o,ec n f,?_,?_,uQ (AI f a.rl) b.rl,?_,?_⟩
    .have v:=b.eq;simp [ab,eT,Row.item] at v ⊢;have k  :=a.lw;have m  :=a.eq;rw [v,o _ d.1,AV.bZ b.ag _ k,m];have:=aZ (T:=[]) a.ag h.2;grind
    .simp [bB,Row.low,an,j6];exact ⟨⟨by omega,AV.lI f _ a.lw⟩,b.lw⟩
    .intro r d;rcases List.mem_append.1 d with d|d
     .have s  :=by
       have key:∀{R:List Row},bB c1 R=true->∀r∈R,r.low c1=true:=λ{R}=>by
        induction R with
        |nil=>intro _ r h;cases h
        |cons x R ih=>
         intro h r d;simp [bB] at h;grind
       exact key a.rl r d
      rw [Row.Bq b.ag s];exact a.rp r d
     .exact b.rp r d
    .have hb  :=b.bx;show AV.aj g cs::(jG G').map (AV.aj g)=AV.aj ρ vs::(jG G).map (AV.aj ρ);have k  :=a.lw;have m  :=a.eq;rw [hb,AV.bZ b.ag _ k,m,J6 a.ag h.2]
  |_=>exact i (λt cs j h=>by cases h) rfl
variable {G : List Row}
def Ak(E F:aF)(t:Nat):Option AV:=match dW E F t with
 |some (none,v)=>some v
 |_=>none
theorem E9{ρ:aw}{E F:aF}{t:Nat}{v:AV}(h:Ak E F t=some v):look (ay ρ [] E F) t=some (true,v.val ρ):=by
 unfold Ak at h;split at h
 next b a=>cases h;rw [iC,a];simp
 .cases h
def PY(st:aB)(fr:Fr):List (Bool×Nat×Pt)->zo
 |[]=>[]
 |x::l=>(aD x.1 (match dW st.E fr.F x.2.1 with
  |some (_,v)=>v.ids
  |none=>[]) [])++PY st fr l
mutual
def ajB(G H:List Row):Pt->AV->zo
 | .own _ _ _,v=>v.ids
 | .mp _ _ _,v=>v.ids
 | .it,v=>v.ids
 | .bx _ _ _ vs,v=>(match v with
  | .ptr j _=>j::LZ G H vs (cellsOf G H j)
  |_=>[])
 | .agg l,v=>(match v with
  | .agg vs=>LZ G H l vs
  |_=>[])
 | .cQ l,v=>(match v with
  | .tuple vs=>LZ G H l vs
  |_=>[])
 | .fn _ a b,v=>(match v with
  | .fn _ a' b'=>LZ G H a a'++LZ G H b b'
  |_=>[])
 | .ifc _ p,v=>(match v with
  | .ifc _ u=>ajB G H p u
  |_=>[])
 | .dat _ o,v=>aD (o.all (λx=>x.isNone)) [] v.ids
 |_,_=>[]
def LZ(G H:List Row):List Pt->List AV->zo
 |[],_=>[]
 |p::l,vs=>(match vs with
  |v::vs=>ajB G H p (wP G H v)++LZ G H l vs
  |[]=>[])
end
def aiv(st:aB)(fr:Fr):List (Bool×Nat×Pt)->zo
 |[]=>[]
 |x::l=>(match dW st.E fr.F x.2.1 with
  |some (_,v)=>ajB st.G fr.H x.2.2 (wP st.G fr.H v)
  |none=>[])++aiv st fr l
structure En where
 fr:Fr
 E:aF
 G:List Row
 Et:aF
 Gt:List Row
 c:Nat
 fix:Nat->ja
def akg(E F:aF)(G:List Row)(t:Nat):ja:=match dW E F t with
 |some (_,v)=>some (v,match v with
  | .ptr j _=>cellsOf G [] j
  |_=>[])
 |none=>none
def enter(fr:Fr)(tm:Tm)(m:Nat)(st:aB):En:=
 let ids:=aiv st fr tm.vs++reach st fr tm.th
 match nt (PY st fr tm.vs) st.c (bk (gM ids) st.G) with
 |(Gt,R,c)=>⟨⟨pH m tm.vs st.E++fr.F,(R++bk (λr=> !(gM ids r)) st.G)++fr.H,fr.n⟩,pH m tm.vs st.E,R++bk (λr=> !(gM ids r)) st.G,rU m tm.vs st.E,Gt,c,akg st.E fr.F Gt⟩
structure aqC(fr:Fr)(st:aB)(Φ:Ctx)(w:World)(ρ ρ':aw)(en:En):Prop where
 ag:aQ st.c ρ ρ'
 le:st.c<=en.c
 ff:en.fr.F=en.E++fr.F
 fh:en.fr.H=en.G++fr.H
 fn:en.fr.n=fr.n
 lF:aF.low en.c en.fr.F=true
 lH:bB en.c en.fr.H=true
 sub:kT (ay ρ' [] en.Et en.fr.F) (ay ρ [] st.E fr.F)
 sat:Sat (ab ρ' [] en.Gt++(ab ρ' [] en.fr.H++Φ)) w
 fx:∀t q,en.fix t=some q->q.1.low en.c=true/\AV.cj en.c q.2=true
theorem aF.gC{c d:Nat}(a:c<=d):{E:aF}->E.low c=true->E.low d=true
 |[],_=>rfl
 |x::E,h=>by simp only [aF.low,an] at h ⊢;exact ⟨AV.gC a _ h.1,aF.gC a h.2⟩
theorem aF.Ir{c:Nat}:{E F:aF}->E.low c=true->F.low c=true->aF.low c (E++F)=true
 |[],_,_,h=>h
 |x::E,F,h,k=>by simp only [qd,aF.low,an] at h ⊢;exact ⟨h.1,aF.Ir h.2 k⟩
theorem Hr{c:Nat}:{E:aF}->E.low c=true->{t:Nat}->{x:GK×AV}->bA E t=some x->x.2.low c=true
 |[],_,_,_,h=>by cases h
 |(t',g,v)::E,h,t,x,hx=>by
  simp only [aF.low,an] at h;cases hb:Nat.beq t' t
  .rw [iV hb] at hx;exact Hr h.2 hx
  .rw [nU hb] at hx;cases hx;exact h.1
theorem Kq{c m:Nat}{vs:List (Bool×Nat×Pt)}:{E:aF}->E.low c=true->(pH m vs E).low c=true
 |[],_=>rfl
 |x::E,h=>by
  simp only [aF.low,an] at h;unfold pH;cases B7 m vs x.1
  .exact Kq h.2
  .show aF.low c (x::pH m vs E)=true;simp only [aF.low,an];exact ⟨h.1,Kq h.2⟩
theorem JS{c m:Nat}{vs:List (Bool×Nat×Pt)}:{E:aF}->E.low c=true->(rU m vs E).low c=true
 |[],_=>rfl
 |x::E,h=>by
  simp only [aF.low,an] at h;unfold rU;cases B7 m vs x.1
  .show aF.low c (x::rU m vs E)=true;simp only [aF.low,an];exact ⟨h.1,JS h.2⟩
  .exact JS h.2
theorem Ep{c:Nat}{p:Row->Bool}:{G:List Row}->bB c G=true->bB c (bk p G)=true
 |[],_=>rfl
 |r::G,h=>by
  simp only [bB,an] at h;unfold bk;cases p r
  .exact Ep h.2
  .show bB c (r::bk p G)=true;simp only [bB,an];exact ⟨h.1,Ep h.2⟩
theorem aaG{c:Nat}{j:Nat}(h:bB c G=true):AV.cj c (cellsOf G [] j)=true:=by
 unfold cellsOf;split
 .rename_i s d t cs b;obtain ⟨a,_⟩:=bW b;cases s with
  |top i=>
   have:=tN h (show G[i]? =some _ from a);simp only [Row.low,an] at this;exact this.2
  |cu i=>have a:([]:List Row)[i]? =some _:=a;simp at a
  |nilI=>exact a.elim
  |nilO=>exact a.elim
  |nilM=>exact a.elim
 .rfl
theorem aiu{c:Nat}{E F:aF}(e:E.low c=true)(d:F.low c=true)(b:bB c G=true){t:Nat}{q:AV×List AV}(h:akg E F G t=some q):q.1.low c=true/\AV.cj c q.2=true:=by
 unfold akg at h;split at h
 .rename_i v a;cases h;refine ⟨?_,?_⟩
  .unfold dW at a;split at a
   next x hx=>cases a;exact Hr e hx
   .exact Hr d a
  .split
   .exact aaG b
   .rfl
 .cases h
theorem yB{fr:Fr}{tm:Tm}{m:Nat}{st:aB}{ρ:aw}{Φ:Ctx}{w:World}(hl:st.low fr=true)(D:Sat (ab ρ [] st.G++(ab ρ [] fr.H++Φ)) w):∃ρ',aqC fr st Φ w ρ ρ' (enter fr tm m st):=by
 obtain ⟨f,e,u,s⟩:=aB.cE.1 hl;unfold enter;dsimp only;generalize aiv st fr tm.vs++reach st fr tm.th=ids;have n:=su (A:=[]) (p:=gM ids) D;obtain ⟨ρ',l⟩:=HO (ids:=PY st fr tm.vs) (c:=st.c) (ρ:=ρ) (Ep (p:=gM ids) u);generalize nt (PY st fr tm.vs) st.c (bk (gM ids) st.G)=L at l;obtain ⟨Gt,R,c⟩:=L;have a:st.c<=c:=l.le;have y:=Kq (m:=m) (vs:=tm.vs) f;have hp:=Ep (p:=λr=> !(gM ids r)) u;refine ⟨ρ',l.ag,a,rfl,rfl,rfl,?_,?_,?_,?_,λt q J=>?_⟩
 .exact aF.Ir (aF.gC a y) (aF.gC a e)
 .exact uQ (uQ l.rl (AI a hp)) (AI a s)
 .have o:ay ρ' [] (rU m tm.vs st.E) (pH m tm.vs st.E++fr.F)=ay ρ [] (rU m tm.vs st.E) (pH m tm.vs st.E++fr.F):=by rw [ay,ay,sD l.ag (JS f),sD l.ag (aF.Ir y e)]
  show kT (ay ρ' [] (rU m tm.vs st.E) (pH m tm.vs st.E++fr.F)) _;rw [o];exact agd λt=>aeC
 .show Sat (ab ρ' [] Gt++(ab ρ' [] ((R++bk (λr=> !(gM ids r)) st.G)++fr.H)++Φ)) w;have o:ab ρ' [] Gt=ab ρ [] (bk (gM ids) st.G):=l.eq;have U:ab ρ' [] (bk (λr=> !(gM ids r)) st.G++fr.H)=ab ρ [] (bk (λr=> !(gM ids r)) st.G++fr.H):=aZ l.ag (uQ hp s);rw [cb,bg,o,U];have i:Sat (ab ρ [] (bk (gM ids) st.G)++(ab ρ [] (bk (λr=> !(gM ids r)) st.G++fr.H)++Φ)) w:=by simpa using n
  have d:∀(L:List Item) (A B:Ctx),(∀it∈L,it.cL=true/\∀M w,it.P M w)->Sat (A++B) w->Sat (A++(L++B)) w:=λL A B v h=>by
   have C:=Ck h L (λit bH=>⟨(v it bH).1,(v it bH).2 _ _⟩);have mv:∀(L:List Item) (A B:Ctx),Sat (L++(A++B)) w->Sat (A++(L++B)) w:=λL=>by
    induction L with
    |nil=>intro A B h;exact h
    |cons x L ih=>
     intro A B h;have z:Sat ([]++x::((L++A)++B)) w:=by simpa using h
     have S:Sat ([]++((L++A)++x::B)) w:=z.move;have Q:Sat (L++(A++x::B)) w:=by simpa using S
     have O:Sat (A++(L++x::B)) w:=ih _ _ Q;have N:Sat (A++(L++[x]++B)) w:=by simpa using O
     -- x goes ahead of L
     refine N.BA (λj k=>(j<A.length/\k=j)\/(j=A.length/\k=A.length+L.length)\/(A.length<j/\j<=A.length+L.length/\k+1=j)\/(A.length+L.length<j/\k=j)) (λj g b=>?_) (λj k q K C z=>by omega);by_cases c1:j<A.length
     .rw [eb c1] at b;exact .inr ⟨j,g,.inl ⟨c1,rfl⟩,by rw [eb c1];exact b,bV.refl⟩
     .rw [de (by omega)] at b;by_cases W:j=A.length
      .subst W;simp at b;subst b;refine .inr ⟨A.length+L.length,x,.inr (.inl ⟨rfl,rfl⟩),?_,bV.refl⟩;rw [de (by omega)];have:A.length+L.length-A.length=L.length:=by omega
       rw [this];simp
      .have T:j-A.length=(j-A.length-1)+1:=by omega
       rw [T,qd,iQ] at b;by_cases V:j<=A.length+L.length
       .rw [eb (by omega)] at b;refine .inr ⟨j-1,g,.inr (.inr (.inl ⟨by omega,V,by omega⟩)),?_,bV.refl⟩;rw [de (by omega),cb,eb (by omega)];rw [show j-1-A.length=j-A.length-1 by omega];exact b
       .rw [de (by omega)] at b;refine .inr ⟨j,g,.inr (.inr (.inr ⟨by omega,rfl⟩)),?_,bV.refl⟩;rw [de (by omega),de (by simp;omega)];have:j-A.length-(L++[x]).length=j-A.length-1-L.length:=by simp;omega
        rw [this];exact b
   exact mv L A B C
  have:=d (ab ρ' [] R) (ab ρ [] (bk (gM ids) st.G)) (ab ρ [] (bk (λr=> !(gM ids r)) st.G++fr.H)++Φ) (λit bH=>by obtain ⟨r,I,rfl⟩:=List.mem_map.1 bH;exact l.rp r I) i
  simpa using this
 .exact aiu (aF.gC a f) (aF.gC a e) l.lw J
def Px(G H:List Row)(look:Nat->Option AV)(fix:Nat->ja):List (Bool×Nat×Pt)->zo
 |[]=>[]
 |x::l=>(match (aD x.1 ((fix x.2.1).map (·.1)) (look x.2.1)) with
  |some v=>xi G H x.2.2 v
  |none=>[])++Px G H look fix l
def PN(F:aF)(vs:List (Bool×Nat×Pt)):aF->Bool
 |[]=>true
 |x::E=>(Oq x.1 vs||tB (bA F x.1))&&PN F vs E
def L8(en:En)(tm:Tm)(E:aF)(G:List Row):List Row:=cu (Px G en.fr.H (Ak E en.fr.F) en.fix tm.vs) G
def mL(en:En)(tm:Tm)(E:aF)(G:List Row):Option (fy (iW tm.vs)):=
 match WE (L8 en tm E G) en.fr.H (Ak E en.fr.F) en.fix tm.vs [] with
 |some mr=>aD (Fk (mr.S.map λx=>dB (L8 en tm E G) en.fr.H x.2)&&NQ (L8 en tm E G).length (mr.S.map λx=>dB (L8 en tm E G) en.fr.H x.2)&&PN en.fr.F tm.vs E) (cQ _ mr.D) none
 |none=>none
def rowsOf(R:List (Bool×Row)):List Row:=R.map (·.2)
def cM(en:En)(tm:Tm)(s:fy (iW tm.vs))(h:HT):aB:=match fW (λn=>en.c+n) en.fix tm.vs 0 (iD _ s) with
 |⟨E,R,k,_⟩=>⟨en.c+k,E,rowsOf R,h⟩
def iF(en:En)(tm:Tm)(s:fy (iW tm.vs))(h:HT):aB:=match fW (λn=>en.c+n) en.fix tm.vs 0 (iD _ s) with
 |⟨E,R,k,_⟩=>⟨en.c+k,E++en.E,rowsOf R++en.G,h⟩
def yd(e:XE)(en:En)(st:aB):aB:=match e with
 | .panL _=>{ st with E:=st.E++en.E,G:=st.G++dp en.G }
 |_=>{ st with E:=st.E++en.E,G:=st.G++en.G }
theorem Sat.Qh{w:World}{A C:Ctx}:∀{B:Ctx},Sat (A++(B++C)) w->Sat (A++C) w
 |[],h=>h
 |_x::B,h=>Sat.Qh (B:=B) (Sat.BC h)
theorem UU{nm:Nat->Nat}{fix:Nat->ja}{t:Nat}:{l:List (Bool×Nat×Pt)}->{n:Nat}->{D:List ck}->Oq t l=true->bA (fW nm fix l n D).E t≠none
 |[],n,D,h=>by cases h
 |(b,t',p)::l,n,D,h=>by
  unfold fW;dsimp only;generalize fill nm p (aD b (fix t') none) none n D=L;obtain ⟨v,R,k,c,j⟩:=L;dsimp only;generalize d:fW nm fix l k c=f;obtain ⟨a,m,i,g⟩:=f;dsimp only;have ih:Oq t l=true->bA a t≠none:=λe=>by have:=UU (nm:=nm) (fix:=fix) (n:=k) (D:=c) e;rw [d] at this;exact this
  simp only [Oq,fi,an] at h;cases b
  .show bA ((t',none,v)::a) t≠none;cases hb:Nat.beq t' t
   .rw [iV hb];rcases h with ⟨_,h⟩|h
    .rw [hb] at h;cases h
    .exact ih h
   .rw [nU hb];simp
  .show bA a t≠none;rcases h with ⟨h,_⟩|h
   .cases h
   .exact ih h
theorem YO{F:aF}{vs:List (Bool×Nat×Pt)}{t:Nat}:{E:aF}->{x:GK×AV}->PN F vs E=true->bA E t=some x->Oq t vs=true\/bA F t=none
 |[],x,_,h=>by cases h
 |(t',g,v)::E,x,hb,h=>by
  simp only [PN,an,fi] at hb;cases b:Nat.beq t' t
  .rw [iV b] at h;exact YO hb.2 h
  .have e:=b0 b;subst e;rcases hb.1 with a|a
   .exact .inl a
   .cases c:bA F t' with
    |none=>exact .inr rfl
    |some y=>rw [c] at a;cases a
section
variable {en : En} {tm : Tm} {Φ : Ctx} {w : World} {ρ : aw}
theorem rq{E:aF}{s:fy (iW tm.vs)}(lF:aF.low en.c en.fr.F=true)(lH:bB en.c en.fr.H=true)(fx:∀t q,en.fix t=some q->q.1.low en.c=true/\AV.cj en.c q.2=true)
  (Z:Sat (ab ρ [] G++(ab ρ [] en.fr.H++Φ)) w) (h:mL en tm E G=some s):
  ∃ρ' E' R k D,fW (λn=>en.c+n) en.fix tm.vs 0 (iD _ s)=⟨E',R,k,D⟩/\aQ en.c ρ ρ'/\kT (ay ρ' [] E' en.fr.F) (ay ρ [] E en.fr.F)/\Sat (ab ρ' [] (rowsOf R)++(ab ρ' [] en.fr.H++Φ)) w:=by
 unfold mL at h;have d:=kY (ids:=Px G en.fr.H (Ak E en.fr.F) en.fix tm.vs) Z;change Sat (ab ρ [] (L8 en tm E G)++_) w at d;generalize L8 en tm E G=G' at h d;split at h
 .rename_i P hm;obtain ⟨Q,h2⟩:=aI h;simp only [an] at Q;obtain ⟨⟨h3,h4⟩,h5⟩:=Q;obtain ⟨N,I,o,n1,a1⟩:=P9 d tm.vs [] P [] hm .nil;rw [<-Cd _ h2] at o;obtain ⟨p1,_⟩:=Mr d a1;obtain ⟨O,_⟩:=yA d p1 (yC h3);rw [C0 h4] at O;have W:=O.Qh
  -- names
  have b:aQ en.c ρ (λi=>aD (Nat.blt i en.c) (ρ i) ((N[i-en.c]?).getD dm)):=λj hj=>by
   have:Nat.blt j en.c=true:=by simpa using hj
   simp only [this]
  have l:xF (λi=>aD (Nat.blt i en.c) (ρ i) ((N[i-en.c]?).getD dm)) (λn=>en.c+n) 0 N:=λi a ha=>by
   have:Nat.blt (en.c+i) en.c=false:=by
    cases hb:Nat.blt (en.c+i) en.c
    .rfl
    .simp only [j6] at hb;omega
   simp only [this,show en.c+i-en.c=i by omega,ha,qF];exact ⟨trivial,trivial,trivial,λ_=>trivial⟩
  generalize (λi=>aD (Nat.blt i en.c) (ρ i) ((N[i-en.c]?).getD dm))=ρ' at b l;have e1:(λi=>ic ρ (en.fix i))=λi=>ic ρ' (en.fix i):=by
   funext i
   cases hq:en.fix i with
   |none=>rfl
   |some q=>
    obtain ⟨k1,Y⟩:=fx i q hq;show some (q.1.val ρ,AV.aj ρ q.2)=some (q.1.val ρ',AV.aj ρ' q.2);rw [AV.nW b _ k1,AV.bZ b _ Y]
  rw [e1] at o;obtain ⟨M,U,S,K⟩:=NU (T:=[]) (nm:=λn=>en.c+n) tm.vs [] (iD _ s) I (eV ρ P.X) N o (XZ hm) l (pF _) [];simp only [ma,qg] at M U S K;generalize hF:fW (λn=>en.c+n) en.fix tm.vs 0 (iD _ s)=L at M U S K;obtain ⟨E',R,k,D⟩:=L;refine ⟨ρ',E',R,k,D,rfl,b,λt p hp=>?_,?_⟩
  .rw [iC] at hp;cases hk:bA E' t with
   |some x=>
    have r:look (aF.env ρ' [] E') t=some (aA.get [] x.1,x.2.val ρ'):=by rw [yE,hk];rfl
    obtain ⟨c1,g⟩:=M t _ r;have J:dW E' en.fr.F t=some x:=by unfold dW;rw [hk]
    rw [J] at hp;simp only [og,et] at hp;subst hp;simp only at c1 g;cases f:Ak E en.fr.F t with
    |none=>rw [f] at g;cases g
    |some v=>
     rw [f] at g;simp only [og,et] at g;rw [E9 f,c1,g]
   |none=>
    have J:dW E' en.fr.F t=bA en.fr.F t:=by unfold dW;rw [hk]
    rw [J] at hp;cases e:bA en.fr.F t with
    |none=>rw [e] at hp;cases hp
    |some y=>
     rw [e] at hp;simp only [og,et] at hp;have u:bA E t=none:=by
      cases u:bA E t with
      |none=>rfl
      |some z=>
       rcases YO h5 u with m|m
       .have:=UU (nm:=λn=>en.c+n) (fix:=en.fix) (n:=0) (D:=iD _ s) m;rw [hF] at this;exact (this hk).elim
       .rw [e] at m;cases m
     rw [iC];unfold dW;rw [u,e,<-hp];simp only [og];rw [AV.nW b _ (Hr lF e)]
  .have V:=Sat.ZN (A:=[]) (B:=dA I) (C:=ab ρ [] en.fr.H++Φ) W K.rw;rw [aZ b lH];exact V
 .cases h
end
variable {fr : Fr}
def alX(P:Program)(o:Oper):Bool:=match o.op with
 | .store ..|.alloc _|.box ..|.buildSlice ..|.makeSlice ..|.makeMap ..|.mapUpdate ..|.insert ..|.range ..|.next ..|.defer _|.panic _=>true
 | .convert s d _=>isStr P s&& !(isStr P d)
 | .call ⟨.builtin b,_,_⟩=>(match b with
  | .len|.cap|.min|.max|.unsafeSliceData=>false
  |_=>true)
 | .call _=>true
 |_=>false
def adT(q:Bool)(m:Nat):Nat->List (Nat×Bool)->zg
 |_,[]=>none
 |k,x::l=>aD ( Ub x.2 (!q)&& !(Nat.testBit m k)&&IV x.1 m ) ( some k )<|adT q m (k+1) l
def Yp(l:List (Nat×Bool)):Nat->Nat->OT
 |0,_=> .nil
 |n+1,m=>match adT true m 0 l with
  |some k=> .q k m (Yp l n (bit m k))
  |none=>match adT false m 0 l with
   |none=> .nil
   |some k=>match adT false m (k+1) (l.drop (k+1)) with
    |none=> .l k m (Yp l n (bit m k))
    |some j=> .l2 m k (Yp l n (bit m k)) j (Yp l n (bit m j))
def aqK(o:Oper):Bool:=match o.op,o.guard with
 | .alloc _,none=>true
 | .buildSlice .., none=>true
 |_,_=>false
def aiE(kd m:Nat):Nat->List (Nat×Nat)->Option (Nat×Nat)
 |_,[]=>none
 |k,x::l=>aD ( Nat.beq x.2 kd&& !(Nat.testBit m k)&&IV x.1 m ) ( some (k,x.1) )<|aiE kd m (k+1) l
def RY(m:Nat):Nat->List (Nat×Nat)->zo
 |_,[]=>[]
 |k,x::l=>aD ( Nat.beq x.2 2&& !(Nat.testBit m k)&&IV x.1 m ) ( k::RY m (k+1) l )<|RY m (k+1) l
def ajf(l:List (Nat×Nat)):Nat->Nat->OT
 |0,_=> .nil
 |n+1,m=>match aiE 0 m 0 l with
  |some p=> .q p.1 m (ajf l n (bit m p.1))
  |none=>match aiE 1 (kE m (RY m 0 l)) 0 l with
   |none=> .nil
   |some p=> .f p.1 m (RY m 0 l) ((RY m 0 l).filter λf=>Nat.testBit p.2 f) (ajf l n (bit (kE m ((RY m 0 l).filter λf=>Nat.testBit p.2 f)) p.1))
def al4{R:Type}(X:Cx)(tb:List aC)(tp:List bX)(KP:AV->aB->Option R)(ops:zi)(fr:Fr)(th:zo)(t:OT)(st:aB)(K:cF R):Option R:=
 aD ( X.P.follows .mixedOrders&&XK ops (ops.toList.map λo=>kM o.after.toList) t ) (
  rF X tb tp KP ops.toList fr t (bk (λr=> !(gM (reach st fr th) r)) st.G) [] [] { st with G:=bk (gM (reach st fr th)) st.G } K ) none
def aky(fr:Fr)(st:aB):zo->zo
 |[]=>[]
 |t::th=>aD (Nat.ble 20000 t) ((match dW st.E fr.F (t-20000) with
  |some (_,v)=>AV.fg v++(match v with
   | .ptr id _=>(match rS (yW id) st.G with
    |some (_,.box _ _ cs)=>((cs.map (wP st.G fr.H)).map AV.fg).flatten
    |_=>[])
   |_=>[])
  |none=>[])++aky fr st th) (aky fr st th)
def Oy(fr:Fr)(st:aB)(th:zo):aB:=match aky fr st th with
 |[]=>st
 |ids=>{ st with G:=cu ids st.G }
theorem abu{st:aB}{th:zo}{ρ:aw}{T:aA}{B:Ctx}{w:World}(h:Sat (ab ρ T st.G++B) w):
  (Oy fr st th).c=st.c/\(Oy fr st th).E=st.E/\Sat (ab ρ T (Oy fr st th).G++B) w:=by
 unfold Oy;split
 .exact ⟨rfl,rfl,h⟩
 .exact ⟨rfl,rfl,kY h⟩
def HY{R:Type}(X:Cx)(tb:List aC)(tp:List bX)(KP:AV->aB->Option R)(ops:zi)(fr:Fr)(th:zo)(st:aB)(K:cF R):Option R:=
 al4 X tb tp KP ops fr th (cond (dT 40000 th) (ajf (ops.toList.map λo=>(kM o.after.toList,cond (aqK o) 2 (cond (alX X.P o) 1 0))) ops.toList.length 0) (Yp (ops.toList.map λo=>(kM o.after.toList,alX X.P o)) ops.toList.length 0)) (Oy fr st th) K
abbrev brk{R:Type}(i:Nat)(K:XE->aB->Option R):XE->aB->Option R
 | .ext j,st=>aD ( Nat.beq j i ) ( K .nrm st ) ( K (.ext j) st )
 |e,st=>K e st
abbrev xt{R:Type}(K1:aB->Option R)(K:XE->aB->Option R):XE->aB->Option R
 | .nrm,st=>K1 st
 |e,st=>K e st
abbrev cnd{R:Type}(b:Bool)(d1 d2:HT->Option R)(h:HT):Option R:=match h with
 | .c p q=>cond b (d1 p) (d2 q)
 |h=>cond b (d1 h) (d2 h)
def ZD(fr:Fr)(st:aB):aB:=match st.h with
 | .r (30000::th) h=>Oy fr { st with h:=h } th
 |_=>st
theorem anz{st:aB}{ρ:aw}{T:aA}{B:Ctx}{w:World}(h:Sat (ab ρ T st.G++B) w):
  (ZD fr st).c=st.c/\(ZD fr st).E=st.E/\Sat (ab ρ T (ZD fr st).G++B) w:=by
 unfold ZD;split
 next th a _=>exact abu (st:={ st with h:=a }) h
 .exact ⟨rfl,rfl,h⟩
def aj2(v:AV)(i:Nat):Option (Int×(Int->AV)):=match v with
 | .int k x=>(match i with
  |0=>some (x,.int k)
  |_=>none)
 | .agg l=>(match i with
  |0=>none
  |j+1=>(match l[j]? with
   |some (.int k x)=>some (x,λy=> .agg (l.set j (.int k y)))
   |_=>none))
 |_=>none
theorem amG{v:AV}{i:Nat}{p:Int×(Int->AV)}(h:aj2 v i=some p):p.2 p.1=v:=by
 unfold aj2 at h;split at h
 .split at h
  .cases h;rfl
  .cases h
 .split at h
  .cases h
  .rename_i l j;split at h
   next k x hx=>cases h;simp only;congr 1;obtain ⟨b,a⟩:=List.getElem?_eq_some_iff.1 hx;rw [<-a];exact List.set_getElem_self b
   .cases h
 .cases h
def ZP{R:Type}(F:aF)(t i:Nat)(k:aB->Option R):zo->HT->aB->Option R
 |v::vs,h,st=>(match h with
  | .c h hs=>(match dW st.E F t with
   |some (none,av)=>(match aj2 av i with
    |some p=>cond (p.1==(v:Int)) (k { st with h:=h,E:=(t,none,p.2 (v:Int))::st.E }) (ZP F t i k vs hs st)
    |none=>none)
   |_=>none)
  |_=>none)
 |[],h,st=>(match h with
  | .n 77777 _=>none
  |h=>k { st with h:=h })
theorem abW{R:Type}{r:R}{F:aF}{t i:Nat}{k:aB->Option R}{st:aB}:∀{vs:zo} {h:HT},ZP F t i k vs h st=some r->
  ∃st',k st'=some r/\st'.c=st.c/\st'.G=st.G/\∀ρ T,kT (ay ρ T st'.E F) (ay ρ T st.E F)
 |[],h,hh=>by
  unfold ZP at hh;split at hh
  .cases hh
  .exact ⟨_,hh,rfl,rfl,λ_ _=> .refl⟩
 |v::vs,h,hh=>by
  unfold ZP at hh;split at hh
  .rename_i j f;split at hh
   .rename_i av b;split at hh
    .rename_i p hp;rcases vq hh with ⟨e,d⟩|⟨_,d⟩
     .refine ⟨_,d,rfl,rfl,λρ T u x hx=>?_⟩;have g:p.2 (v:Int)=av:=by rw [<-amG hp,eq_of_beq e]
      have hl:look (ay ρ T st.E F) t=some (true,av.val ρ):=by rw [iC,b];simp
      show look (ay ρ T st.E F) u=some x;rw [g] at hx;have a:look ((t,true,av.val ρ)::ay ρ T st.E F) u=some x:=by simpa [ay,aF.env] using hx
      unfold look at a;cases hb:Nat.beq t u
      .rw [hb] at a;exact a
      .rw [hb] at a;have:=b0 hb;subst this;rw [hl];exact a
     .exact abW d
    .cases hh
   .cases hh
  .cases hh
abbrev frL(fr:Fr):Fr:=⟨fr.F,dp fr.H,fr.n⟩
abbrev stL(fr:Fr)(st:aB)(h:HT):aB:={ st with G:=st.G++bk cT fr.H,h:=h }
abbrev toL{R:Type}(K:XE->aB->Option R):XE->aB->Option R
 | .panE v,st=>K (.panL v) st
 |_,_=>none
abbrev aoO{R:Type}(X:Cx)(tb:List aC)(tp:List bX)(ops:zi)(fr:Fr)(K:XE->aB->Option R)(st:aB):Option R:=
 Dp X tb tp (λb v st=>K (aD b (.panL v) (.panE v)) st) ops.toList fr ops.toList [] st (K .nrm)
def den{R:Type}(X:Cx)(tb:List aC)(tp:List bX):Code->Fr->(XE->aB->Option R)->aB->Option R
 | .skip,_,K,st=>K .nrm st
 | .label _,_,K,st=>K .nrm st
 | .exit i,_,K,st=>K (.ext i) st
 | .goto l,_,K,st=>K (.gto l) st
 | .ret,_,K,st=>K .ret st
 | .block i c,fr,K,st=>den X tb tp c fr (brk i K) (ZD fr st)
 | .cond c x y,fr,K,st=>match bu [] st.E fr.F none c with
  |some (.bool b)=>cnd b (λh=>den X tb tp x fr K { st with h:=h }) (λh=>den X tb tp y fr K { st with h:=h }) st.h
  |_=>none
 | .seq x y,fr,K,st=>match st.h with
  | .j tm p q=>aD (st.low fr) (
   ai (λs:fy (iW tm.vs)=>den X tb tp y fr K (iF (enter fr tm (cH x) st) tm s q)) λk=>
   den X tb tp x (enter fr tm (cH x) st).fr (xt (λst'=>match mL (enter fr tm (cH x) st) tm st'.E st'.G with
     |some s=>k s
     |none=>none) (λe st'=>K e (yd e (enter fr tm (cH x) st) st'))) ⟨(enter fr tm (cH x) st).c,(enter fr tm (cH x) st).Et,(enter fr tm (cH x) st).Gt,p⟩ ) none
  | .s h=>den X tb tp x fr (xt (den X tb tp y fr K) K) { st with h:=h }
  | .r (60000::t::i::vs) h=>ZP fr.F t i (λst=>den X tb tp x fr (xt (den X tb tp y fr K) K) st) vs h st
  |_=>den X tb tp x fr (xt (den X tb tp y fr K) K) st
 | .loop c,fr,K,st=>match st.h with
  | .l tm p=>aD (st.low fr) (
   match mL (enter fr tm (cH c) st) tm (enter fr tm (cH c) st).Et (enter fr tm (cH c) st).Gt with
   |some s=>ao (λagain s=>den X tb tp c (enter fr tm (cH c) st).fr (xt (λst'=>match mL (enter fr tm (cH c) st) tm st'.E st'.G with
      |some s=>again s
      |none=>none) (λe st'=>K e (yd e (enter fr tm (cH c) st) st'))) (cM (enter fr tm (cH c) st) tm s p)) X.fl s
   |none=>none ) none
  | .n k h=>ao (λagain st=>den X tb tp c fr (xt again K) st) k { st with h:=h }
  |_=>none
 | .region _ ops false,fr,K,st=>match st.h with
  | .r (80000::_) h=>aoO X tb tp ops (frL fr) (toL K) (stL fr st h)
  |_=>aoO X tb tp ops fr K st
 | .region _ ops true,fr,K,st=>match st.h with
  | .r th h=>HY X tb tp (λv st=>K (.jI v) st) ops fr th { st with h:=h } (K .nrm)
  |_=>HY X tb tp (λv st=>K (.jI v) st) ops fr [] st (K .nrm)
 |_,_,_,_=>none
def XE.ex:XE->Exit
 | .nrm=> .normal
 | .ret=> .ret
 | .ext i=> .exit i
 | .gto l=> .goto l
 | .jI _=> .goto 0
 | .panE _=> .goto 0
 | .panL _=> .goto 0
def Ly(Q:bm)(e:XE)(ρ:aw)(n:Nat)(D:za)(E:Env)(w:World):Prop:=match e with
 | .jI v=>Dk Q (jI (v.val ρ)) D w
 | .panE v=>At Q (.panic (jI (v.val ρ))) n D E w
 | .panL v=>At Q (.panic (jI (v.val ρ))) n D E w
 |e=>At Q e.ex n D E w
abbrev hx(e:XE)(fr:Fr):List Row:=match e with
 | .panL _=>dp fr.H
 |_=>fr.H
def kO{R:Type}(Q:bm)(D:za)(fr:Fr)(Φ:Ctx)(c0:Nat)(ρ0:aw)(r:R)(K:XE->aB->Option R):Prop:=
 ∀e st ρ w,aQ c0 ρ0 ρ->c0<=st.c->K e st=some r->Sat (ab ρ [] st.G++(ab ρ [] (hx e fr)++Φ)) w->Ly Q e ρ fr.n D (ay ρ [] st.E fr.F) w
theorem kO.less{R:Type}{Q:bm}{D:za}{Φ:Ctx}{b c1:Nat}{ρ0 a:aw}{r:R}{K:XE->aB->Option R}(h:kO Q D fr Φ b ρ0 r K)(ha:aQ b ρ0 a)(c:b<=c1):kO Q D fr Φ c1 a r K:=
 λe st ρ w i g f d=>h e st ρ w (ha.trans i c) (ec c g) f d
section
variable {P : Program} {ρ : zg} {Q : bm} {n : Nat} {D : za} {E : Env} {w : World}
theorem N4{σ γ τ:Type}{F:(σ->Option τ)->σ->Option τ}{r:τ}(J:σ->γ->World->Prop)(c:σ->γ->Env){body:Code}
  {N:Nat} {b:σ} (hm:ao F N b=some r) (g0:γ) (q:J b g0 w) (o:kT (c b g0) E)
  (round:∀again s g w,F again s=some r->J s g w->WC P ρ body (Exit.then (L0 again r J c n D) Q) n D (c s g) w):
  WC P ρ (.loop body) Q n D E w:=λa j hd=>
 GJ (λm=>L0 (ao F m) r J c n D) N ⟨b,g0,hm,q,j.oJ o,hd⟩ λm a w ⟨s,g,i,k,l,p⟩=>by
  obtain ⟨f,rfl,d⟩:=LO i;exact wpIn_mono (round (ao F f) s g w d k a l p) λe a w h=>by cases e <;> first|exact h|exact ⟨f,mE _,h⟩
theorem KA{σ γ τ:Type}{a:σ->Option τ}{r:τ}{J:σ->γ->World->Prop}{b:σ->γ->Env}
  (s:σ) (g:γ) (hm:a s=some r) (e:J s g w) (c:kT (b s g) E):At (Exit.then (L0 a r J b n D) Q) .normal n D E w:=
 λf d hd=>⟨s,g,hm,e,d.oJ c,hd⟩
theorem ajM{γ:Type}{J:γ->World->Prop}{a:γ->Env}(g:γ)(d:J g w)(b:kT (a g) E):At (Exit.then (OH J a n D) Q) .normal n D E w:=
 λe c hd=>⟨g,d,c.oJ b,hd⟩
theorem iP{K:Act->World->Prop}{e:XE}{ρ:aw}(a:e≠ .nrm)(h:Ly Q e ρ n D E w):Ly (Exit.then K Q) e ρ n D E w:=by cases e <;> first|exact (a rfl).elim|exact h
end
section
variable {X : Cx} {tb : List aC} {tp : List bX} {σ : zg} {D : za} {R : Type} {r : R} {Φ : Ctx}
theorem OQ{Q:bm}{k i:Nat}{ρ0:aw}{K:XE->aB->Option R}(h:kO Q D fr Φ k ρ0 r K):kO (Exit.inBlock i Q) D fr Φ k ρ0 r (brk i K):=λe st ρ w d c b a=>by
 cases e with
 |nrm=>exact VN (h .nrm st ρ w d c b a)
 |ret=>exact ae0 (h .ret st ρ w d c b a)
 |gto l=>exact aa9 (h (.gto l) st ρ w d c b a)
 |jI v=>exact ane (h (.jI v) st ρ w d c b a)
 |panE v=>exact Ld (h (.panE v) st ρ w d c b a)
 |panL v=>exact Ld (h (.panL v) st ρ w d c b a)
 |ext j=>
  unfold brk at b;rcases dR b with ⟨g,f⟩|⟨g,f⟩
  .have:=b0 g;subst this;exact aax (h .nrm st ρ w d c f a)
  .exact XU g (h (.ext j) st ρ w d c f a)
theorem pb{b:aB->Option R}{K:XE->aB->Option R}{e:XE}{st:aB}(a:e≠ .nrm):xt b K e st=K e st:=by cases e <;> first|exact (a rfl).elim|rfl
theorem vF{Q:bm}{d:Nat}{ρ0 a:aw}{en:En}{K:XE->aB->Option R}(h:kO Q D fr Φ d ρ0 r K)(ag:aQ d ρ0 a)(le:d<=en.c)(ff:en.fr.F=en.E++fr.F)(fh:en.fr.H=en.G++fr.H)(fn:en.fr.n=fr.n):
  ∀e st ρ w,aQ en.c a ρ->en.c<=st.c->K e (yd e en st)=some r->Sat (ab ρ [] st.G++(ab ρ [] (hx e en.fr)++Φ)) w->Ly Q e ρ en.fr.n D (ay ρ [] st.E en.fr.F) w:=λe st ρ w m l k g=>by
 have i:(yd e en st).c=st.c:=by cases e <;> rfl
 have j:(yd e en st).E=st.E++en.E:=by cases e <;> rfl
 have:=h e (yd e en st) ρ w (ag.trans m le) (ec le (by rw [i];exact l)) k (by
  have f:∀(A B:List Row),Sat (ab ρ [] st.G++(ab ρ [] (A++B)++Φ)) w->Sat (ab ρ [] (st.G++A)++(ab ρ [] B++Φ)) w:=λA B h=>by rw [bg,cb];rw [bg,cb] at h;exact h
  cases e with
  |panL v=>
   have b:Sat (ab ρ [] st.G++(ab ρ [] (dp en.fr.H)++Φ)) w:=g;rw [fh,Kv] at b;exact f _ _ b
  |_=>
   have b:Sat (ab ρ [] st.G++(ab ρ [] en.fr.H++Φ)) w:=g;rw [fh] at b;exact f _ _ b)
 rw [fn,ff];have o:ay ρ [] st.E (en.E++fr.F)=ay ρ [] (yd e en st).E fr.F:=by rw [j];show aF.env ρ [] st.E++aF.env ρ [] (en.E++fr.F)=aF.env ρ [] (st.E++en.E)++aF.env ρ [] fr.F;rw [pK,pK,cb]
 rw [o];exact this
theorem aid{Q:bm}{b:Nat}{ρ0:aw}{K:XE->aB->Option R}(h:kO Q D fr Φ b ρ0 r K):kO Q D (frL fr) Φ b ρ0 r (toL K):=λe st ρ w f d a c=>by
 cases e with
 |panE v=>exact h (.panL v) st ρ w f d a c
 |_=>cases a
theorem ank{st:aB}{ρ:aw}{w:World}{d:HT}(b:Sat (ab ρ [] st.G++(ab ρ [] fr.H++Φ)) w):Sat (ab ρ [] (stL fr st d).G++(ab ρ [] (frL fr).H++Φ)) w:=by
 have a:=su (p:=cT) (G:=fr.H) (H:=[]) (A:=ab ρ [] st.G) (Φ:=Φ) b;have c:∀H:List Row,bk (λr=> !(cT r)) H=dp H:=λH=>by
  induction H with
  |nil=>rfl
  |cons r H ih=>
   show aD (!(!r.cL)) (r::bk _ H) (bk _ H)=aD r.cL (r::dp H) (dp H);rw [ih,Bool.not_not]
 rw [ma,c] at a;show Sat (ab ρ [] (st.G++bk cT fr.H)++(ab ρ [] (dp fr.H)++Φ)) w;rw [bg,cb];exact a
theorem abP{Q:bm}{st:aB}{ρ:aw}{w:World}{K:XE->aB->Option R}(i:∀it∈X.Γ,it∈Φ)(k:∀e∈tb,e.Ok X.P X.Γ)(j:∀e∈tp,e.Ok X.P X.Γ){id:Nat}{ops:zi}(p:Sat (ab ρ [] st.G++(ab ρ [] fr.H++Φ)) w)
  (h:Dp X tb tp (λb v st=>K (aD b (.panL v) (.panE v)) st) ops.toList fr ops.toList [] st (K .nrm)=some r) (m:kO Q D fr Φ st.c ρ r K):WC X.P σ (.region id ops false) Q fr.n D (ay ρ [] st.E fr.F) w:=by
 obtain ⟨l⟩:=ops;exact bh (abN i k j (λx h=>by cases h) (λx h=>by cases h) ⟨λx _=>rfl,λx _=>rfl⟩ p h (λst' ρ' w' g f d a=>m .nrm st' ρ' w' g f d a) (λo v st' ρ' w' g f d a=>by
  cases o
  .exact m (.panE v) st' ρ' w' g f d a
  .exact m (.panL v) st' ρ' w' g f d a))
theorem Pr{Q:bm}{st:aB}{ρ:aw}{w:World}{K:XE->aB->Option R}(d:∀it∈X.Γ,it∈Φ)(g:∀e∈tb,e.Ok X.P X.Γ)(f:∀e∈tp,e.Ok X.P X.Γ){id:Nat}{ops:zi}{th:zo}(a:Sat (ab ρ [] st.G++(ab ρ [] fr.H++Φ)) w)
  (h:HY X tb tp (λv st=>K (.jI v) st) ops fr th st (K .nrm)=some r) (b:kO Q D fr Φ st.c ρ r K):WC X.P σ (.region id ops true) Q fr.n D (ay ρ [] st.E fr.F) w:=by
 obtain ⟨l⟩:=ops;unfold HY at h;generalize cond (dT 40000 th) _ _=t at h;obtain ⟨u,s,a⟩:=abu (fr:=fr) (th:=th) a;rw [<-u] at b;rw [<-s];generalize Oy fr st th=st at h a b;unfold al4 at h;obtain ⟨j,z⟩:=aI h;simp only [an] at j;refine wU _ t j.1 j.2 (λw1 y=>?_);have i:=su (A:=[]) (p:=gM (reach st fr th)) (a.ext y);exact E8.wd (amT (EV:=[]) (st:={ st with G:=bk (gM (reach st fr th)) st.G }) d g f (λx h=>by cases h) (λx h=>by cases h) ⟨λx _=>rfl,λx _=>rfl⟩ (λx h=>by cases h) (λx h=>by cases h) i (λp h=>by cases h) z (λst' ρ' w' q o m k=>b .nrm st' ρ' w' q o m k) (λv st' ρ' w' q o m k=>b (.jI v) st' ρ' w' q o m k))
theorem OY{b:Bool}{d1 d2:HT->Option R}{h:HT}(d:cnd b d1 d2 h=some r):∃p q,(b=true->d1 p=some r)/\(b=false->d2 q=some r):=by
 unfold cnd at d;split at d
 .rename_i p q;rcases vq d with ⟨c,a⟩|⟨c,a⟩
  .exact ⟨p,q,λ_=>a,λe=>by rw [c] at e;cases e⟩
  .exact ⟨p,q,(λe=>by rw [c] at e;cases e),λ_=>a⟩
 .rcases vq d with ⟨c,a⟩|⟨c,a⟩
  .exact ⟨_,h,λ_=>a,λe=>by rw [c] at e;cases e⟩
  .exact ⟨h,_,(λe=>by rw [c] at e;cases e),λ_=>a⟩
theorem gw(j:∀it∈X.Γ,it∈Φ)(t:∀e∈tb,e.Ok X.P X.Γ)(o:∀e∈tp,e.Ok X.P X.Γ):∀(c:Code) {Q:bm} {fr:Fr} {K:XE->aB->Option R} {st:aB} {ρ:aw} {w:World},Sat (ab ρ [] st.G++(ab ρ [] fr.H++Φ)) w->
  den X tb tp c fr K st=some r->kO Q D fr Φ st.c ρ r K->WC X.P σ c Q fr.n D (ay ρ [] st.E fr.F) w
 | .skip,Q,fr,K,st,ρ,w,hs,h,hK=>tz (hK .nrm st ρ w .refl (c8 _) (by unfold den at h;exact h) hs)
 | .label _,Q,fr,K,st,ρ,w,hs,h,hK=>XD (hK .nrm st ρ w .refl (c8 _) (by unfold den at h;exact h) hs)
 | .exit i,Q,fr,K,st,ρ,w,hs,h,hK=>Sm (hK (.ext i) st ρ w .refl (c8 _) (by unfold den at h;exact h) hs)
 | .goto l,Q,fr,K,st,ρ,w,hs,h,hK=>acs (hK (.gto l) st ρ w .refl (c8 _) (by unfold den at h;exact h) hs)
 | .ret,Q,fr,K,st,ρ,w,hs,h,hK=>Ao (hK .ret st ρ w .refl (c8 _) (by unfold den at h;exact h) hs)
 | .block i c,Q,fr,K,st,ρ,w,hs,h,hK=>by
  obtain ⟨z1,z2,z3⟩:=anz (fr:=fr) hs;unfold den at h;rw [<-z2];rw [<-z1] at hK;exact OW (gw j t o c z3 h (OQ hK))
 | .cond c x y,Q,fr,K,st,ρ,w,hs,h,hK=>by
  unfold den at h;split at h
  next b hb=>have W:=bK (ρ:=ρ) hb;simp only [AV.val] at W;obtain ⟨p,q,h1,S⟩:=OY h;exact kB W (λhb=>gw j t o x (st:={ st with h:=p }) hs (h1 hb) hK) (λhb=>gw j t o y (st:={ st with h:=q }) hs (S hb) hK)
  .cases h
 | .seq x y,Q,fr,K,st,ρ,w,hs,h,hK=>by
  have N:∀T,den X tb tp x fr (xt (den X tb tp y fr K) K) { st with h:=T }=some r->WC X.P σ (.seq x y) Q fr.n D (ay ρ [] st.E fr.F) w:=λT hd=>by
   refine bp (gw j t o x (st:={ st with h:=T }) hs hd (λe st' ρ' w' I M z C=>?_));by_cases v:e= .nrm
   .subst v;exact ba (gw j t o y C z (hK.less I M))
   .rw [pb v] at z;exact iP v (hK e st' ρ' w' I M z C)
  unfold den at h;split at h
  .rename_i tm p q Z;obtain ⟨hl,S⟩:=aI h;obtain ⟨J,en⟩:=yB (tm:=tm) (m:=cH x) hl hs;generalize enter fr tm (cH x) st=f at S en;unfold ai at S;refine adR (γ:=fy (iW tm.vs)×aw) (λg w'=>den X tb tp y fr K (iF f tm g.1 q)=some r/\aQ f.c J g.2/\Sat (ab g.2 [] (iF f tm g.1 q).G++(ab g.2 [] fr.H++Φ)) w') (λg=>ay g.2 [] (iF f tm g.1 q).E fr.F) (λg w' hg=>?_) ?_
   .obtain ⟨g1,g2,g3⟩:=hg;refine gw j t o y g3 g1 (hK.less (en.ag.trans g2 en.le) ?_);have:f.c<=(iF f tm g.1 q).c:=by unfold iF;generalize fW (λn=>f.c+n) f.fix tm.vs 0 (iD _ g.1)=L;obtain ⟨a,b,c,d⟩:=L;exact qP _ _
    exact ec en.le this
   .have hx:=gw j t o x (fr:=f.fr) (st:=⟨f.c,f.Et,f.Gt,p⟩) (ρ:=J) (Q:=Exit.then (OH (λ(g:fy (iW tm.vs)×aw) w'=>den X tb tp y fr K (iF f tm g.1 q)=some r/\aQ f.c J g.2/\Sat (ab g.2 [] (iF f tm g.1 q).G++(ab g.2 [] fr.H++Φ)) w') (λg=>ay g.2 [] (iF f tm g.1 q).E fr.F) fr.n D) Q) en.sat S (λe st' ρ' w' I M z C=>?_)
    .rw [en.fn] at hx;exact hx.oJ _ en.sub
    .by_cases v:e= .nrm
     .subst v;have B:(match mL f tm st'.E st'.G with|some s=>den X tb tp y fr K (iF f tm s q)|none=>none)=some r:=z;split at B
      .rename_i s hb;obtain ⟨u,E',V,k,DD,b1,b2,b3,b4⟩:=rq en.lF en.lH en.fx C hb;have eJ:iF f tm s q=⟨f.c+k,E'++f.E,rowsOf V++f.G,q⟩:=by unfold iF;rw [b1]
       rw [en.fn];refine ajM (s,u) ⟨B,I.trans b2 (c8 _),?_⟩ ?_
       .rw [eJ];show Sat (ab u [] (rowsOf V++f.G)++_) w';rw [bg,cb];rw [en.fh,bg,cb] at b4;exact b4
       .rw [eJ];show kT (aF.env u [] (E'++f.E)++_) _;rw [en.ff] at b3;have e2:ay u [] E' (f.E++fr.F)=aF.env u [] (E'++f.E)++aF.env u [] fr.F:=by show aF.env u [] E'++aF.env u [] (f.E++fr.F)=_;rw [pK,pK,cb]
        rw [<-e2,en.ff];exact b3
      .cases B
     .rw [pb v] at z;have:=vF hK en.ag en.le en.ff en.fh en.fn e st' ρ' w' I M z C;exact iP v this
  next T Z=>exact N T h
  .obtain ⟨st',k1,k2,k3,k4⟩:=abW h;have hs':Sat (ab ρ [] st'.G++(ab ρ [] fr.H++Φ)) w:=by rw [k3];exact hs
   have Y:kO Q D fr Φ st'.c ρ r K:=by rw [k2];exact hK
   refine WC.oJ _ (k4 ρ []) (bp (gw j t o x (st:=st') hs' k1 (λe st2 ρ' w' I M z C=>?_)));by_cases v:e= .nrm
   .subst v;exact ba (gw j t o y C z (Y.less I M))
   .rw [pb v] at z;exact iP v (Y e st2 ρ' w' I M z C)
  .exact N st.h h
 | .loop c,Q,fr,K,st,ρ,w,hs,h,hK=>by
  unfold den at h;split at h
  .rename_i tm p Z;obtain ⟨hl,S⟩:=aI h;obtain ⟨J,en⟩:=yB (tm:=tm) (m:=cH c) hl hs;generalize enter fr tm (cH c) st=f at S en;split at S
   .rename_i s0 hb0;obtain ⟨u,E',V,k,DD,b1,b2,b3,b4⟩:=rq en.lF en.lH en.fx en.sat hb0;have eL:∀s E' V k DD,fW (λn=>f.c+n) f.fix tm.vs 0 (iD _ s)=⟨E',V,k,DD⟩->cM f tm s p=⟨f.c+k,E',rowsOf V,p⟩:=λs E' V k DD hb=>by unfold cM;rw [hb]
    refine N4 (γ:=aw) (λs g w'=>aQ f.c J g/\Sat (ab g [] (cM f tm s p).G++(ab g [] f.fr.H++Φ)) w') (λs g=>ay g [] (cM f tm s p).E f.fr.F) S u ⟨b2,?_⟩ ?_ (λA s g w' U O=>?_)
    .rw [eL _ _ _ _ _ b1];exact b4
    .rw [eL _ _ _ _ _ b1];exact b3.trans en.sub
    .have hx:=gw j t o c (fr:=f.fr) (st:=cM f tm s p) (ρ:=g) (Q:=Exit.then (L0 A r (λs g w'=>aQ f.c J g/\Sat (ab g [] (cM f tm s p).G++(ab g [] f.fr.H++Φ)) w') (λs g=>ay g [] (cM f tm s p).E f.fr.F) fr.n D) Q) O.2 U (λe st' ρ' w2 I M z C=>?_)
     .rw [en.fn] at hx;exact hx
     .have W:f.c<=(cM f tm s p).c:=by unfold cM;generalize fW (λn=>f.c+n) f.fix tm.vs 0 (iD _ s)=L;obtain ⟨a,b,c,d⟩:=L;exact qP _ _
      by_cases v:e= .nrm
      .subst v;have B:(match mL f tm st'.E st'.G with|some s=>A s|none=>none)=some r:=z;split at B
       .rename_i s' hb;obtain ⟨ρ3,E2,R2,k2,DD2,d1,d2,d3,d4⟩:=rq en.lF en.lH en.fx C hb;rw [en.fn];refine KA s' ρ3 B ⟨(O.1.trans (I.less W) (c8 _)).trans d2 (c8 _),?_⟩ ?_
        .rw [eL _ _ _ _ _ d1];exact d4
        .rw [eL _ _ _ _ _ d1];exact d3
       .cases B
      .rw [pb v] at z;have:=vF hK en.ag en.le en.ff en.fh en.fn e st' ρ' w2 (O.1.trans (I.less W) (c8 _)) (ec W M) z C;exact iP v this
   .cases S
  .rename_i k T Z;refine N4 (γ:=aw) (λs g w'=>aQ st.c ρ g/\st.c<=s.c/\Sat (ab g [] s.G++(ab g [] fr.H++Φ)) w') (λs g=>ay g [] s.E fr.F) h ρ ⟨.refl,c8 _,hs⟩ .refl (λA s g w' U O=>?_);refine gw j t o c (st:=s) O.2.2 U (λe st' ρ' w2 I M z C=>?_);by_cases v:e= .nrm
   .subst v;exact KA st' ρ' z ⟨O.1.trans I O.2.1,ec O.2.1 M,C⟩ .refl
   .rw [pb v] at z;exact iP v (hK e st' ρ' w2 (O.1.trans I O.2.1) (ec O.2.1 M) z C)
  .cases h
 | .region id ops false,Q,fr,K,st,ρ,w,hs,h,hK=>by
  unfold den at h;split at h
  .exact abP (fr:=frL fr) (st:=stL fr st _) j t o (ank hs) h (aid hK)
  .exact abP j t o hs h hK
 | .region id ops true,Q,fr,K,st,ρ,w,hs,h,hK=>by
  unfold den at h;split at h
  next th T Z=>exact Pr (st:={ st with h:=T }) j t o hs h hK
  .exact Pr j t o hs h hK
 | .scope _,Q,fr,K,st,ρ,w,hs,h,hK=>by unfold den at h;cases h
 | .rangeFunc _ _ _ _,Q,fr,K,st,ρ,w,hs,h,hK=>by unfold den at h;cases h
end
def pU(l:Nat):Code->Bool
 | .label j=>j==l
 | .seq x y=>pU l x||pU l y
 |_=>false
theorem amn{l:Nat}:(c:Code)->pU l c=false->findLabel c l=none:=λc=>by
 induction c with
 |label j=>
  intro h;unfold pU at h;unfold findLabel;rw [h];rfl
 |seq x y b a=>
  intro h;simp only [pU,n9] at h;simp only [findLabel,b h.1,a h.2]
 |_=>intro _;rfl
theorem Xw{l:Nat}:(c:Code)->pU l c=true->∃r,findLabel c l=some r:=λc=>by
 induction c with
 |label j=>
  intro h;unfold pU at h;unfold findLabel;rw [h];exact ⟨_,rfl⟩
 |seq x y b a=>
  intro h;simp only [pU,fi] at h;unfold findLabel;cases hx:findLabel x l with
  |some r=>exact ⟨_,rfl⟩
  |none=>
   rcases h with h|h
   .obtain ⟨r,d⟩:=b h;rw [hx] at d;cases d
   .exact a h
 |_=>intro h;cases h
def G6(P:Program)(ρ:zg)(l:Nat):Code->bm->bm
 | .seq x y,Q=>aD (pU l x) (G6 P ρ l x (Exit.then (y.wpIn (FW ρ) 0 P Q) Q)) (G6 P ρ l y Q)
 |_,Q=>Q
theorem ajU{P:Program}{ρ:zg}{l:Nat}:(c:Code)->{r:Code}->{Q:bm}->{a:Act}->{w:World}->findLabel c l=some r->G6 P ρ l c Q .normal a w->r.wpIn (FW ρ) 0 P Q a w:=λc=>by
 induction c with
 |label j=>
  intro r Q a w b h;unfold findLabel at b;split at b
  .cases b;exact wpIn_skip h
  .cases b
 |seq x y f e=>
  intro r Q a w b h;unfold G6 at h;unfold findLabel at b;cases hx:pU l x
  .rw [hx] at h;rw [amn x hx] at b;exact e b h
  .rw [hx] at h;obtain ⟨g,d⟩:=Xw x hx;rw [d] at b;cases b;exact wpIn_seq (f d h)
 |_=>intro r Q a w b h;cases b
def CH(l:Nat):Code->Nat
 | .seq x y=>aD (pU l x) (Nat.lor (CH l x) (cH y)) (CH l y)
 |_=>0
def A8(st:aB):aB:=match st.h with
 | .s h=>{ st with h:=h }
 |_=>st
abbrev gtk{R:Type}(l:Nat)(A:aB->Option R)(K:XE->aB->Option R):XE->aB->Option R
 | .gto j,st=>aD (Nat.beq j l) (A st) none
 |e,st=>K e st
def Mz{R:Type}(X:Cx)(tb:List aC)(tp:List bX)(l:Nat)(fr:Fr):Code->(XE->aB->Option R)->aB->Option R
 | .seq x y,K,st=>aD (pU l x) (Mz X tb tp l fr x (xt (den X tb tp y fr K) K) st) (Mz X tb tp l fr y K st)
 | .label _,K,st=>K .nrm st
 |_,_,_=>none
def Lj{R:Type}(X:Cx)(tb:List aC)(tp:List bX)(l:Nat)(fr:Fr)(K:XE->aB->Option R)(KL:aB->Option R):Code->aB->Option R
 | .seq x y,st=>aD (pU l x) (Lj X tb tp l fr K KL x (A8 st)) (den X tb tp x fr (xt (λst=>Lj X tb tp l fr K KL y st) K) (A8 st))
 | .label _,st=>KL st
 |_,_=>none
def ajj{R:Type}(X:Cx)(tb:List aC)(tp:List bX)(c:Code)(fr:Fr)(K:XE->aB->Option R)(st:aB):Option R:=match st.h with
 | .n l (.j tm p q)=>aD (pU l c) (
   Lj X tb tp l fr (gtk l (λ_=>none) K) (λst1=>aD (st1.low fr) (
     match mL (enter fr tm (CH l c) st1) tm (enter fr tm (CH l c) st1).Et (enter fr tm (CH l c) st1).Gt with
     |some s=>ao (λagain s=>Mz X tb tp l (enter fr tm (CH l c) st1).fr c (gtk l (λst'=>match mL (enter fr tm (CH l c) st1) tm st'.E st'.G with
       |some s=>again s
       |none=>none) (λe st'=>K e (yd e (enter fr tm (CH l c) st1) st'))) (cM (enter fr tm (CH l c) st1) tm s q)) X.fl s
     |none=>none) none) c { st with h:=p }) none
 |_=>none
section
variable {X : Cx} {tb : List aC} {tp : List bX} {σ : zg} {D : za} {R : Type} {r : R} {Φ : Ctx}
theorem acB{Q:bm}{l n:Nat}{E:Env}{w:World}{e:XE}{ρ:aw}{J:Act->World->Prop}(a:∀j,e≠ .gto j)(h:Ly Q e ρ n D E w):Ly (Exit.jump l J Q) e ρ n D E w:=by cases e <;> first|exact ((a _) rfl).elim|exact h
theorem ajY{l:Nat}(k:∀it∈X.Γ,it∈Φ)(o:∀e∈tb,e.Ok X.P X.Γ)(m:∀e∈tp,e.Ok X.P X.Γ):∀(c:Code) {Q:bm} {fr:Fr} {K:XE->aB->Option R} {st:aB} {ρ:aw} {w:World},Sat (ab ρ [] st.G++(ab ρ [] fr.H++Φ)) w->
  Mz X tb tp l fr c K st=some r->kO Q D fr Φ st.c ρ r K->∀a,Fits fr.n (ay ρ [] st.E fr.F) a->a.defers=D->G6 X.P σ l c Q .normal a w:=λc=>by
 induction c with
 |label j=>intro Q fr K st ρ w b h d a f hd;exact d .nrm st ρ w .refl (c8 _) h b a f hd
 |seq x y i g=>
  intro Q fr K st ρ w b h d a f hd;unfold Mz at h;unfold G6;cases hx:pU l x
  .rw [hx] at h;exact g b h d a f hd
  .rw [hx] at h;refine i (Q:=Exit.then (y.wpIn (FW σ) 0 X.P Q) Q) b h (λe st' ρ' w' u t q s=>?_) a f hd;by_cases p:e= .nrm
   .subst p;exact ba (gw k o m y s q (d.less u t))
   .rw [pb p] at q;exact iP p (d e st' ρ' w' u t q s)
 |_=>intro Q fr K st ρ w b h;cases h
theorem acI{st:aB}:(A8 st).c=st.c/\(A8 st).E=st.E/\(A8 st).G=st.G:=by unfold A8;split <;> exact ⟨rfl,rfl,rfl⟩
theorem ag4{l:Nat}(t:∀it∈X.Γ,it∈Φ)(v:∀e∈tb,e.Ok X.P X.Γ)(u:∀e∈tp,e.Ok X.P X.Γ){O:bm}{fr:Fr}{K:XE->aB->Option R}{S:aB->Option R}{m:Nat}{ρ0:aw}(T:kO O D fr Φ m ρ0 r K):∀(c:Code) {Q:bm} {st:aB} {ρ:aw} {w:World},
  (∀e (E:Env) (ρ:aw) w,e≠ .nrm->Ly O e ρ fr.n D E w->Ly Q e ρ fr.n D E w)->
  (∀st1 b w1,aQ m ρ0 b->m<=st1.c->S st1=some r->Sat (ab b [] st1.G++(ab b [] fr.H++Φ)) w1->∀a,Fits fr.n (ay b [] st1.E fr.F) a->a.defers=D->G6 X.P σ l c Q .normal a w1)->
  pU l c=true->aQ m ρ0 ρ->m<=st.c->Sat (ab ρ [] st.G++(ab ρ [] fr.H++Φ)) w->
  Lj X tb tp l fr K S c st=some r->WC X.P σ c Q fr.n D (ay ρ [] st.E fr.F) w:=λc=>by
 induction c with
 |label j=>intro Q st ρ w hQ k _ ha d o h;exact XD (λa i hd=>k st ρ w ha d h o a i hd)
 |seq x y s q=>
  intro Q st ρ w hQ k p ha d o h;obtain ⟨p1,p2,M⟩:=acI (st:=st);unfold Lj at h;cases hx:pU l x
  .rw [hx] at h;simp only [pU,hx,mm] at p;refine bp ?_;have:=gw (σ:=σ) (D:=D) t v u x (fr:=fr) (st:=A8 st) (ρ:=ρ) (w:=w) (Q:=Exit.then (y.wpIn (FW σ) 0 X.P Q) Q) (by rw [M];exact o) h (λe st' ρ' w' L J I N=>?_)
   .rw [p2] at this;exact this
   .rw [p1] at L J;by_cases f:e= .nrm
    .subst f;refine ba (q hQ (λst1 b w1 C B A z a i hd=>?_) p (ha.trans L d) (ec d J) N I);have:=k st1 b w1 C B A z a i hd;unfold G6 at this;rw [hx] at this;exact this
    .rw [pb f] at I;exact iP f (hQ _ _ _ _ f (T e st' ρ' w' (ha.trans L d) (ec d J) I N))
  .rw [hx] at h;refine bp ?_;have:=s (Q:=Exit.then (y.wpIn (FW σ) 0 X.P Q) Q) (st:=A8 st) (ρ:=ρ) (w:=w) (λe E ρ w g f=>iP g (hQ e E ρ w g f)) (λst1 b w1 C B A z a i hd=>?_) hx ha (by rw [p1];exact d) (by rw [M];exact o) h
   .rw [p2] at this;exact this
   .have:=k st1 b w1 C B A z a i hd;unfold G6 at this;rw [hx] at this;exact this
 |_=>intro Q st ρ w hQ k p;cases p
theorem amN{c:Code}{Q:bm}{K:XE->aB->Option R}{st:aB}{ρ:aw}{w:World}(Y:∀it∈X.Γ,it∈Φ)(htb:∀e∈tb,e.Ok X.P X.Γ)(Z:∀e∈tp,e.Ok X.P X.Γ)(hs:Sat (ab ρ [] st.G++(ab ρ [] fr.H++Φ)) w)
  (h:ajj X tb tp c fr K st=some r) (hK:kO Q D fr Φ st.c ρ r K):WC X.P σ (.scope c) Q fr.n D (ay ρ [] st.E fr.F) w:=by
 unfold ajj at h;split at h
 .rename_i l tm p q hh;obtain ⟨B,h0⟩:=aI h;obtain ⟨rest,v⟩:=Xw c B
  -- what holds at the label
  let F:En->(fy (iW tm.vs)->Option R)->fy (iW tm.vs)->Option R:=λf J s=>Mz X tb tp l f.fr c (gtk l (λst'=>match mL f tm st'.E st'.G with
     |some s=>J s
     |none=>none) (λe st'=>K e (yd e f st'))) (cM f tm s q)
  let I:Nat->Act->World->Prop:=λm a w=>∃(f:En) (o:aw),(f.fr.F=f.E++fr.F/\f.fr.H=f.G++fr.H/\f.fr.n=fr.n/\aF.low f.c f.fr.F=true/\bB f.c f.fr.H=true/\(∀t q,f.fix t=some q->q.1.low f.c=true/\AV.cj f.c q.2=true))/\aQ st.c ρ o/\st.c<=f.c/\
   L0 (ao (F f) m) r (λs (g:aw) w'=>aQ f.c o g/\Sat (ab g [] (cM f tm s q).G++(ab g [] f.fr.H++Φ)) w') (λs g=>ay g [] (cM f tm s q).E f.fr.F) fr.n D a w
  have i:∀m a w,I m a w->G6 X.P σ l c (Exit.jump l (λC w'=>∃N<m,I N C w') Q) .normal a w:=by
   rintro m a w ⟨f,o,⟨ff,fh,fn,lF,lH,fx⟩,hag,hle,s,g,hm,hJ,hF,hD⟩;obtain ⟨N,rfl,hm'⟩:=LO hm;have eL:∀s E' R' k DD,fW (λn=>f.c+n) f.fix tm.vs 0 (iD _ s)=⟨E',R',k,DD⟩->cM f tm s q=⟨f.c+k,E',rowsOf R',q⟩:=λs E' R' k DD hb=>by unfold cM;rw [hb]
   have hc:f.c<=(cM f tm s q).c:=by unfold cM;generalize fW (λn=>f.c+n) f.fix tm.vs 0 (iD _ s)=L;obtain ⟨a,b,c,d⟩:=L;exact qP _ _
   refine ajY (σ:=σ) (D:=D) Y htb Z c (fr:=f.fr) (st:=cM f tm s q) (ρ:=g) (Q:=Exit.jump l (λC w'=>∃m''<N+1,I m'' C w') Q) hJ.2 hm' (λe st' ρ' w2 U T A S=>?_) a (by rw [fn];exact hF) hD;by_cases u:∃j,e= .gto j
   .obtain ⟨j,rfl⟩:=u;unfold gtk at A;obtain ⟨hj,O⟩:=aI A;have:=b0 hj;subst this;dsimp only at O;split at O
    .rename_i s' hb;obtain ⟨V,E2,R2,k2,DD2,d1,d2,d3,d4⟩:=rq lF lH fx S hb;refine λa2' hf2 hd2=>⟨rfl,N,mE _,f,o,⟨ff,fh,fn,lF,lH,fx⟩,hag,hle,s',V,O,⟨(hJ.1.trans (U.less hc) (c8 _)).trans d2 (c8 _),?_⟩,?_,hd2⟩
     .rw [eL _ _ _ _ _ d1];exact d4
     .rw [fn] at hf2;show Fits fr.n (ay V [] (cM f tm s' q).E f.fr.F) a2';rw [eL _ _ _ _ _ d1];exact hf2.oJ d3
    .cases O
   .have z:∀j,e≠ .gto j:=λj hj=>u ⟨j,hj⟩;have M:K e (yd e f st')=some r:=by cases e <;> first|exact ((z _) rfl).elim|exact A
    exact acB z (vF hK hag hle ff fh fn e st' ρ' w2 (hJ.1.trans (U.less hc) (c8 _)) (ec hc T) M S)
  refine λa hf hd=>QP l I v ?_ (λm a w hI=>ajU c v (i m a w hI))
  -- the way to the label
  have hK':kO (Exit.jump l (λa w=>∃m,I m a w) Q) D fr Φ st.c ρ r (gtk l (λ_=>none) K):=λe st1 ρ' w' U T A S=>by
   by_cases u:∃j,e= .gto j
   .obtain ⟨j,rfl⟩:=u;unfold gtk at A;obtain ⟨_,O⟩:=aI A;cases O
   .have z:∀j,e≠ .gto j:=λj hj=>u ⟨j,hj⟩;have M:K e st1=some r:=by cases e <;> first|exact ((z _) rfl).elim|exact A
    exact acB z (hK e st1 ρ' w' U T M S)
  refine ag4 (σ:=σ) Y htb Z hK' c (Q:=Exit.jump l (λa w=>∃m,I m a w) Q) (st:={ st with h:=p }) (ρ:=ρ) (λ_ _ _ _ _ h=>h) (λst1 ρ' w' U T A S C hf' hd'=>?_) B .refl (c8 _) hs h0 a hf hd;obtain ⟨hl,h2⟩:=aI A;obtain ⟨o,en⟩:=yB (tm:=tm) (m:=CH l c) hl S;generalize enter fr tm (CH l c) st1=f at h2 en;split at h2
  .rename_i s0 hb0;obtain ⟨W,E',R',k,DD,b1,b2,b3,b4⟩:=rq en.lF en.lH en.fx en.sat hb0;have eL:cM f tm s0 q=⟨f.c+k,E',rowsOf R',q⟩:=by unfold cM;rw [b1]
   have key:I X.fl C w':=by
    refine ⟨f,o,⟨en.ff,en.fh,en.fn,en.lF,en.lH,en.fx⟩,U.trans en.ag T,ec T en.le,s0,W,h2,⟨b2,?_⟩,?_,hd'⟩
    .rw [eL];exact b4
    .show Fits fr.n (ay W [] (cM f tm s0 q).E f.fr.F) C;rw [eL];exact hf'.oJ (b3.trans en.sub)
   have mono:∀(c:Code) (Q1 Q2:bm),(∀e a w,Q1 e a w->Q2 e a w)->∀a w,G6 X.P σ l c Q1 .normal a w->G6 X.P σ l c Q2 .normal a w:=λc=>by
    induction c with
    |seq x y ihx ihy=>
     intro Q1 Q2 hq a w h;unfold G6 at h ⊢;cases hx:pU l x
     .rw [hx] at h;exact ihy Q1 Q2 hq a w h
     .rw [hx] at h;refine ihx _ _ (λe a w u=>?_) a w h;cases e with
      |normal=>exact wpIn_mono u hq
      |_=>exact hq _ _ _ u
    |_=>intro Q1 Q2 hq a w h;exact hq _ _ _ h
   exact mono c _ _ (λe a w u=>by
    cases e <;> first|exact u|exact ⟨u.1,let ⟨N,_,hI⟩:=u.2;⟨N,hI⟩⟩) C w' (i X.fl C w' key)
  .cases h2
 .cases h
end
variable {w : World} {ρ : aw}
def oS:Nat->List AV->aF
 |_,[]=>[]
 |k,v::vs=>(k,none,v)::oS (k+1) vs
theorem C4{ρ:aw}:{vs:List AV}->{k:Nat}->aF.env ρ [] (oS k vs)=iota k (AV.aj ρ vs)
 |[],_=>rfl
 |v::vs,k=>by simp only [oS,aF.env,AV.aj,iota,aA.get_none,C4]
structure ov where
 f:FuncId
 fn:Func
def ov.Ok(P:Program)(c:ov):Prop:=Enters P c.f/\P.funcs[c.f]? =some c.fn
def Qs:List ov->Nat->Option ov
 |[],_=>none
 |c::l,f=>aD (Nat.beq c.f f) (some c) (Qs l f)
theorem O4{P:Program}{f:Nat}{c:ov}:{l:List ov}->(∀c∈l,c.Ok P)->Qs l f=some c->c.Ok P/\c.f=f
 |[],_,h=>by cases h
 |c'::l,hl,h=>by
  unfold Qs at h;rcases dR h with ⟨d,a⟩|⟨_,a⟩
  .cases a;exact ⟨hl _ (cx ..),b0 d⟩
  .exact O4 (λc b=>hl c (b7 _ b)) a
structure YC(R:Type) where
 id:Nat
 rnd:List AV->aB->(Bool->Nat->aB->Option R)->Option R
def YOk{R:Type}(X:Cx)(y:YC R)(r:R)(ly:Nat)(ρ0:aw)(H0:List Row)(Φ:Nat->Ctx):Prop:=
 ∀(vs:List AV) (st:aB) (ρ:aw) (w:World) (H1:List Row) (KY:Bool->Nat->aB->Option R),y.id<st.c->aQ (y.id+1) ρ0 ρ->AV.cj st.c vs=true->bB st.c st.G=true->bB st.c (H1++H0)=true->
  Sat (ab ρ [] st.G++(ab ρ [] (H1++H0)++Φ 0)) w->y.rnd vs st KY=some r->
  Yld X.P ly (AV.aj ρ vs) w (λv w'=>∃b p' st' ρ',v= .bool b/\aQ st.c ρ ρ'/\st.c<=st'.c/\KY b p' st'=some r/\Sat (ab ρ' [] st'.G++(ab ρ' [] (H1++H0)++Φ p')) w')
def noG:List Row->Bool
 |[]=>true
 |r::G=>tB r.gd&&noG G
theorem ah5:{G:List Row}->noG G=true->∀r,r∈G->r.gd=none
 |[],_,_,h=>by cases h
 |x::G,h,r,a=>by
  simp only [noG,an] at h;rcases List.mem_cons.1 a with rfl|a
  .cases b:r.gd with
   |none=>rfl
   |some k=>rw [b] at h;cases h.1
  .exact ah5 h.2 r a
theorem Qq{T T':aA}(h:∀r,r∈G->r.gd=none):ab ρ T G=ab ρ T' G:=
 qO λr a=>Row.CD (by rw [h r a];simp)
theorem Zf{T:aA}{fr:Fr}(b:FT T fr):ab ρ T fr.H=ab ρ [] fr.H:=
 qO λr a=>Row.CD (b.2 r a)
def aey{R:Type}(y:YC R)(T:aA)(fr:Fr)(st:aB)(o:Oper)(p:Nat)(K:Nat->cF R):Option (Option R):=match o.guard,o.op,o.dst with
 |none,.call c,some d=>(match c.callee with
  | .value fo=>(match bu T st.E fr.F none fo with
   |some (.nv i)=>some (aD (Nat.beq i y.id&&Nat.beq p 0&&Nat.blt d fr.n&&pN (some d) T&&st.low fr&&noG st.G) (match uk T st.E fr.F none c.args.toList with
     |some vs=>aD (AV.cj st.c vs) (y.rnd vs st (λb p' st'=>K p' { st' with E:=cJ (some d) none (.bool b) st.E,G:=nO st'.G,h:=st.h })) none
     |none=>none) none)
   |_=>none)
  |_=>none)
 |_,_,_=>none
inductive UG where
 |cX|skip|run|no
def unK(ops:zl)(fr:Fr)(kn:zo)(E:aF)(o:Oper):UG:=match o.guard with
 |none=> .cX
 |some k=>aD (vn k.1 kn) (match (ops[k.1]?).bind (·.dst) with
  |some rj=>aD (Nat.blt rj fr.n) (match dW E fr.F rj with
   |some (none,.bool b)=>(match yo k.2 b with
    |true=> .run
    |false=> .skip)
   |_=> .no) .no
  |none=> .no) .cX
def knT(ops:zl)(t:Tmp):zo->Bool
 |[]=>false
 |j::kn=>(match (ops[j]?).bind (·.dst) with
  |some d=>Nat.beq d t
  |none=>false)||knT ops t kn
def Ud(ops:zl)(fr:Fr)(kn:zo)(E:aF)(o:Oper):Oper:=match o.guard,o.op with
 |none,.pick (.tmp t) x y=>aD (knT ops t kn) (match dW E fr.F t with
  |some (none,.bool v)=>(match v with
   |true=>{ o with op:= .move x }
   |false=>{ o with op:= .move y })
  |_=>o) o
 |_,_=>o
def unO(ops:zl)(fr:Fr)(kn:zo)(E:aF)(o:Oper):UG->Oper
 | .run=>{ o with guard:=none }
 |_=>Ud ops fr kn E o
def ot{R:Type}(X:Cx)(tb:List aC)(y:YC R)(ops:zl)(fr:Fr):zl->zo->aA->aB->Nat->(Nat->cF R)->Option R
 |[],_,T,st,p,K=>aD (DG T fr st) (K p (yZ T st)) none
 |o::l,kn,T,st,p,K=>match unK ops fr kn st.E o with
  | .no=>none
  | .skip=>(match o.guard with
   |some k=>aD (K0 fr.n o.dst&&pN o.dst T&& !(Ot k T)) (ot X tb y ops fr l kn T { st with E:=cJ o.dst (some k) (.raw undef) st.E } p K) none
   |none=>none)
  |u=>match aey y T fr st (unO ops fr kn st.E o u) p (λp' st'=>ot X tb y ops fr l kn T st' p' K) with
   |some q=>q
   |none=>stepG ops T fr st (unO ops fr kn st.E o u) λT g=>ZJ X tb T fr st g (unO ops fr kn st.E o u) λst'=>match st'.h,o.dst with
    | .n j (.c ha hb),some d=>aD (Nat.beq j (ops.length-l.length-1)&&pN (some d) T) (match bA st'.E d with
      |some (none,.bool b)=>cond b (ot X tb y ops fr l (j::kn) T { st' with E:=(d,none,.bool true)::st'.E,h:=ha } p K) (ot X tb y ops fr l (j::kn) T { st' with E:=(d,none,.bool false)::st'.E,h:=hb } p K)
      |_=>none) (ot X tb y ops fr l kn T st' p K)
    |_,_=>ot X tb y ops fr l kn T st' p K
section
variable {R : Type} {r : R} {X : Cx} {tb : List aC} {y : YC R} {σ : zg} {Q : bm} {D : za} {ops : zl} {fr : Fr} {Φ : Nat -> Ctx} {ly : Nat} {H0 H1 : List Row} {ρ0 : aw}
theorem an6{P:Program}{n:Nat}{E:Env}{w:World}{ops:zi}{rest:zl}{o:Oper}{j:Nat}{b:Bool}{rj:Tmp}{i:Bool}(d:o.guard=some (j,b))(k:(ops[j]?).bind (·.dst)=some rj)(hl:look E rj=some (true,.bool i))(hn:Nat.blt rj n=true)(hb:yo b i=true)
  (h:WL P σ ops Q n D ({ o with guard:=none }::rest) E w):WL P σ ops Q n D (o::rest) E w:=λa g l=>by
 have c:=h a g l;have f:=E5 (ops:=ops) d k hl g hn;rw [<-L5,hb] at f;unfold wpListIn at c ⊢;rw [f];have e:Region.wanted { o with guard:=none } (yielded ops a.tmps)=true:=by simp [Region.wanted]
 rw [e] at c;simp only [mi,q9] at c ⊢;exact c
theorem aoB{P:Program}{n:Nat}{E:Env}{w:World}{ops:zi}{rest:zl}{o:Oper}{j:Nat}{b:Bool}{rj:Tmp}{e:Bool}(c:o.guard=some (j,b))(f:(ops[j]?).bind (·.dst)=some rj)(hl:look E rj=some (true,.bool e))(hn:Nat.blt rj n=true)(hb:yo b e=false)(hd:K0 n o.dst=true)
  (h:WL P σ ops Q n D rest (sF o.dst false undef E) w):WL P σ ops Q n D (o::rest) E w:=λa d k=>
 wpListIn_step λK i=>by rw [E5 c f hl d hn,<-L5,hb];simp only [mi,e9,qw];have:=d.sF (g:=false) (v:=undef) hd;exact ⟨λ_ _=>trivial,i _ _ (h _ this (by rw [kh];exact k))⟩
def IsY(y:YC R)(ρ0:aw)(ρ:aw)(c:Nat):Prop:=y.id<c/\aQ (y.id+1) ρ0 ρ
theorem IsY.less{ρ0 ρ':aw}{c a:Nat}(h:IsY y ρ0 ρ c)(ha:aQ c ρ ρ')(b:c<=a):IsY y ρ0 ρ' a:=⟨hU h.1 b,h.2.trans ha h.1⟩
theorem ap2{T:aA}{st:aB}{o:Oper}{p:Nat}{K:Nat->cF R}{l:zl}{ρ:aw}{w:World}{q:Option R}(g:(ρ0 y.id).x= .func (.yield ly) #[] #[])(Z:YOk X y r ly ρ0 H0 Φ)(s:fr.H=H1++H0)(hI:IsY y ρ0 ρ st.c)(h1:fL T st.E fr.F)(B:FT T fr)
  (W:Sat (ab ρ T st.G++(ab ρ T fr.H++Φ p)) w) (h:aey y T fr st o p K=some q) (Y:q=some r)
  (next:∀p' st' ρ' w',fL T st'.E fr.F->aQ st.c ρ ρ'->st.c<=st'.c->K p' st'=some r->Sat (ab ρ' T st'.G++(ab ρ' T fr.H++Φ p')) w'->WL X.P σ ops.toArray Q fr.n D l (ay ρ' T st'.E fr.F) w'):
  WL X.P σ ops.toArray Q fr.n D (o::l) (ay ρ T st.E fr.F) w:=by
 obtain ⟨dst,op,ty,pos,af,gd⟩:=o;unfold aey at h;split at h
 .rename_i c d z u hd;simp only at z u hd;subst z u hd;split at h
  .rename_i fo C;split at h
   .rename_i i m;injection h with h
    rw [Y] at h;obtain ⟨J,t⟩:=aI h;clear h;simp only [an] at J;obtain ⟨⟨⟨⟨⟨c1,c2⟩,c3⟩,c4⟩,I⟩,c6⟩:=J;have e1:=b0 c1;have e2:=b0 c2;subst e1 e2;split at t
    .rename_i vs f;obtain ⟨b2,h⟩:=aI t;obtain ⟨cc,xs,tys⟩:=c;simp only at C f;subst C;have a:=bK (ρ:=ρ) m;simp only [AV.val] at a;rw [hI.2 _ (mE _),g] at a;have e:=jo (ρ:=ρ) f;rw [aA.get_none] at e;obtain ⟨_,_,U,S⟩:=aB.cE.1 I;have hG:=ah5 c6;have k:Sat (ab ρ [] st.G++(ab ρ [] (H1++H0)++Φ 0)) w:=by rw [<-s,<-Zf B,Qq (T':=T) hG];exact W
     have j:=Z vs st ρ w H1 _ hI.1 hI.2 b2 U (by rw [<-s];exact S) k h;refine ajQ (xs:=xs.toList) (vs:=AV.aj ρ vs) a e c3 j (λv w' V=>?_);obtain ⟨b,p',st',ρ',rfl,M,a2,a3,L⟩:=V;rw [<-s] at L;have hE:ay ρ' T st.E fr.F=ay ρ T st.E fr.F:=pC I M;have:=next p' { st' with E:=cJ (some d) none (.bool b) st.E,G:=nO st'.G,h:=st.h } ρ' w' (h1.out (d:=some d) c4 none (.bool b)) M a2 a3 (by
      have O:=BR (A:=[]) L;have e3:ab ρ' T (nO st'.G)=ab ρ' [] (nO st'.G):=Qq Ab;have N:Sat (ab ρ' T (nO st'.G)++(ab ρ' T fr.H++Φ p')) w':=by rw [e3,Zf B];exact O
      exact N)
     rw [vW,hE] at this;simpa [sF,AV.val] using this
    .cases t
   .cases h
  .cases h
 .cases h
theorem anL{P:Program}{n:Nat}{E:Env}{ops:zi}{rest:zl}{c x y:Operand}{v:Bool}{dst:zh}{ty:TypeId}{pos:String}{af:zj}(g:al E true c (.bool v))
  (h:WL P σ ops Q n D (⟨dst,.move (cond v x y),ty,pos,af,none⟩::rest) E w):WL P σ ops Q n D (⟨dst,.pick c x y,ty,pos,af,none⟩::rest) E w:=λa d j=>
 wpListIn_plain rfl λK i=>ni rfl (by
  have b:=h a d j;unfold wpListIn at b;have l:Region.wanted ⟨dst,.move (cond v x y),ty,pos,af,none⟩ (yielded ops a.tmps)=true:=rfl;rw [du l] at b;have k:=Oper.wpIn_mono i b;obtain ⟨_,f⟩:=k;rw [show (FW σ).round=σ from rfl,IQ rfl] at f;have e:(execOp a.eval ⟨dst,.pick c x y,ty,pos,af,none⟩).run P w=(execOp a.eval ⟨dst,.move (cond v x y),ty,pos,af,none⟩).run P w:=by cases v <;> simp [execOp,g n a d rfl,asBool]
  rw [e];exact f)
theorem ajX{a:zo}{E:aF}:(Ud ops fr a E o).dst=o.dst:=by
 unfold Ud;split
 .cases knT ops _ a
  .rfl
  .split
   .split <;> rfl
   .rfl
 .rfl
theorem apQ{a:zo}{E:aF}{o:Oper}{ρ:aw}{T:aA}{w:World}{l:zl}(h:WL X.P σ ops.toArray Q fr.n D (Ud ops fr a E o::l) (ay ρ T E fr.F) w):WL X.P σ ops.toArray Q fr.n D (o::l) (ay ρ T E fr.F) w:=by
 obtain ⟨dst,op,ty,pos,af,gd⟩:=o;unfold Ud at h;split at h
 .rename_i t x y c b;simp only at c b;subst c b;cases hk:knT ops t a
  .rw [hk] at h;exact h
  .rw [hk] at h;split at h
   next v hl=>refine anL (v:=v) ?_ (by cases v <;> exact h);exact al.t (by rw [iC,hl];simp [AV.val])
   .exact h
 .exact h
theorem Zy{k:Nat×Bool}:{T:aA}->Ot k T=false->T.get (some k)=false
 |[],_=>rfl
 |(k',par,rj,b)::T,h=>by
  simp only [Ot,n9] at h;have a:GK.eq (some k') (some k)=false:=by
   cases hb:GK.eq (some k') (some k)
   .rfl
   .have e:=GK.eq_eq hb;cases e;rw [GK.abr] at h;cases h.1
  unfold aA.get;rw [a];exact Zy h.2
theorem abl(S:∀p,∀it∈X.Γ,it∈Φ p)(V:∀e∈tb,e.Ok X.P X.Γ)(U:(ρ0 y.id).x= .func (.yield ly) #[] #[])(hY:YOk X y r ly ρ0 H0 Φ)(hH:fr.H=H1++H0){K:Nat->cF R}:∀{l:zl} {f:zo} {T:aA} {st:aB} {p:Nat} {ρ:aw} {w:World},IsY y ρ0 ρ st.c->fL T st.E fr.F->pZ ops fr.n T->FT T fr->Sat (ab ρ T st.G++(ab ρ T fr.H++Φ p)) w->
  ot X tb y ops fr l f T st p K=some r->
  (∀p' st' ρ' w',aQ st.c ρ ρ'->st.c<=st'.c->K p' st'=some r->Sat (ab ρ' [] st'.G++(ab ρ' [] fr.H++Φ p')) w'->At Q .normal fr.n D (ay ρ' [] st'.E fr.F) w')->
  WL X.P σ ops.toArray Q fr.n D l (ay ρ T st.E fr.F) w
 |[],f,T,st,p,ρ,w,hI,h1,h2,hf,hs,h,next=>by
  unfold ot at h;obtain ⟨h3,h4⟩:=aI h;obtain ⟨k1,k2,k3⟩:=II h3 hf hs;exact cd λa C hd=>next p _ ρ w .refl (by rw [k1];exact c8 _) h4 k3 a (C.oJ k2) hd
 |o::l,f,T,st,p,ρ,w,hI,h1,h2,hf,hs,h,next=>by
  have O:∀{f:zo} {T':aA} {st':aB} {p':Nat} {ρ':aw} {w':World},aQ st.c ρ ρ'->st.c<=st'.c->fL T' st'.E fr.F->pZ ops fr.n T'->FT T' fr->Sat (ab ρ' T' st'.G++(ab ρ' T' fr.H++Φ p')) w'->ot X tb y ops fr l f T' st' p' K=some r->
    WL X.P σ ops.toArray Q fr.n D l (ay ρ' T' st'.E fr.F) w':=λ{f T' st' p' ρ' w'} B z L J I Y a7=>
   abl S V U hY hH (hI.less B z) L J I Y a7 (λp2 st2 ρ2 w2 u s b3 b4=>next p2 st2 ρ2 w2 (B.trans u z) (ec z s) b3 b4)
  -- the operation itself, guarded or not
  have A:∀M:Oper,M.dst=o.dst->(match aey y T fr st M p (λp' st'=>ot X tb y ops fr l f T st' p' K) with
   |some q=>q
   |none=>stepG ops T fr st M λT g=>ZJ X tb T fr st g M λst'=>match st'.h,o.dst with
    | .n j (.c ha hb),some d=>aD (Nat.beq j (ops.length-l.length-1)&&pN (some d) T) (match bA st'.E d with
      |some (none,.bool b)=>cond b (ot X tb y ops fr l (j::f) T { st' with E:=(d,none,.bool true)::st'.E,h:=ha } p K) (ot X tb y ops fr l (j::f) T { st' with E:=(d,none,.bool false)::st'.E,h:=hb } p K)
      |_=>none) (ot X tb y ops fr l f T st' p K)
    |_,_=>ot X tb y ops fr l f T st' p K)=some r->WL X.P σ ops.toArray Q fr.n D (M::l) (ay ρ T st.E fr.F) w:=λM ho' h=>by
   split at h
   next q W=>exact ap2 U hY hH hI h1 hf hs W h (λp' st' ρ' w' B z L J I=>O z L B h2 hf I J)
   .refine Y0 (K:=λT st'=>match st'.h,o.dst with
     | .n j (.c ha hb),some d=>aD (Nat.beq j (ops.length-l.length-1)&&pN (some d) T) (match bA st'.E d with
       |some (none,.bool b)=>cond b (ot X tb y ops fr l (j::f) T { st' with E:=(d,none,.bool true)::st'.E,h:=ha } p K) (ot X tb y ops fr l (j::f) T { st' with E:=(d,none,.bool false)::st'.E,h:=hb } p K)
       |_=>none) (ot X tb y ops fr l f T st' p K)
     |_,_=>ot X tb y ops fr l f T st' p K) h1 h2 rfl (λ_ h=>h) hf hs (S p) V h (λT' st' ρ' w' B z L J I Y a7 a8=>?_)
    split at Y
    .rename_i j ha hb d hh hd;rcases dR Y with ⟨u,s⟩|⟨_,s⟩
     .simp only [an] at u;split at s
      .rename_i b hl;have one:∀(v:Bool) (h':HT),b=v->ot X tb y ops fr l (j::f) T' { st' with E:=(d,none,.bool v)::st'.E,h:=h' } p K=some r->WL X.P σ ops.toArray Q fr.n D l (ay ρ' T' st'.E fr.F) w':=λv h' hb m=>by
        have:=O (st':={ st' with E:=(d,none,.bool v)::st'.E,h:=h' }) J I (B.out (d:=some d) u.2 none (.bool v)) z L a8 m;refine λa C hd'=>this a (C.oJ ?_) hd';intro t pp hp;rw [iC] at hp ⊢;unfold dW at hp ⊢;cases W:Nat.beq d t
        .rw [iV W] at hp;exact hp
        .have:=b0 W;subst this;rw [nU W] at hp;rw [hl,hb];exact hp
       rcases vq s with ⟨c1,c2⟩|⟨c1,c2⟩
       .exact one true ha c1 c2
       .exact one false hb c1 c2
      .cases s
     .exact O J I B z L a8 s
    .exact O J I B z L a8 Y
  unfold ot at h
  -- what is known of its guard
  have kk:∀{v:Bool},(unK ops fr f st.E o= .run/\v=true\/unK ops fr f st.E o= .skip/\v=false)->∃j i rj bj,o.guard=some (j,i)/\(ops[j]?).bind (·.dst)=some rj/\look (ay ρ T st.E fr.F) rj=some (true,.bool bj)/\Nat.blt rj fr.n=true/\yo i bj=v:=λ{v} m=>by
   unfold unK at m;split at m
   .rcases m with ⟨h,_⟩|⟨h,_⟩ <;> cases h
   .rename_i k hg;obtain ⟨j,i⟩:=k;cases hm:vn j f
    .simp only [hm] at m;rcases m with ⟨h,_⟩|⟨h,_⟩ <;> cases h
    .simp only [hm] at m;split at m
     .rename_i rj hr;cases hb:Nat.blt rj fr.n
      .simp only [hb] at m;rcases m with ⟨h,_⟩|⟨h,_⟩ <;> cases h
      .simp only [hb] at m;split at m
       .rename_i b hl;refine ⟨j,i,rj,b,hg,hr,by rw [iC,hl];simp [AV.val],hb,?_⟩;cases hp:yo i b
        .simp only [hp] at m;rcases m with ⟨h,_⟩|⟨_,h⟩
         .cases h
         .exact h.symm
        .simp only [hp] at m;rcases m with ⟨_,h⟩|⟨h,_⟩
         .exact h.symm
         .cases h
       .rcases m with ⟨h,_⟩|⟨h,_⟩ <;> cases h
     .rcases m with ⟨h,_⟩|⟨h,_⟩ <;> cases h
  cases N:unK ops fr f st.E o with
  |no=>rw [N] at h;cases h
  |cX=>rw [N] at h;exact apQ (by exact A (Ud ops fr f st.E o) ajX h)
  |run=>
   rw [N] at h;obtain ⟨j,i,rj,bj,Z,g2,g3,g4,g5⟩:=kk (v:=true) (.inl ⟨N,rfl⟩);exact an6 Z (by simpa using g2) g3 g4 g5 (A { o with guard:=none } rfl h)
  |skip=>
   rw [N] at h;obtain ⟨j,i,rj,bj,Z,g2,g3,g4,g5⟩:=kk (v:=false) (.inr ⟨N,rfl⟩);dsimp only at h;rw [Z] at h;obtain ⟨u,s⟩:=aI h;simp only [an] at u;refine aoB Z (by simpa using g2) g3 g4 g5 u.1.1 ?_;have:=O (st':={ st with E:=cJ o.dst (some (j,i)) (.raw undef) st.E }) .refl (c8 _) (h1.out u.1.2 _ _) h2 hf hs s;rw [vW] at this;have hg:T.get (some (j,i))=false:=Zy (by simpa using u.2);rw [hg] at this;exact this
end
def mC{R:Type}(X:Cx)(tb:List aC)(y:YC R):Code->Fr->(Nat->XE->aB->Option R)->Nat->aB->Option R
 | .skip,_,K,p,st=>K p .nrm st
 | .exit i,_,K,p,st=>K p (.ext i) st
 | .ret,_,K,p,st=>K p .ret st
 | .block i c,fr,K,p,st=>mC X tb y c fr (λp=>brk i (K p)) p st
 | .cond c a b,fr,K,p,st=>match bu [] st.E fr.F none c with
  |some (.bool v)=>cnd v (λh=>mC X tb y a fr K p { st with h:=h }) (λh=>mC X tb y b fr K p { st with h:=h }) st.h
  |_=>none
 | .seq a b,fr,K,p,st=>mC X tb y a fr (λp=>xt (mC X tb y b fr K p) (K p)) p (match st.h with
  | .s h=>{ st with h:=h }
  |_=>st)
 | .loop c,fr,K,p,st=>match st.h with
  | .l tm q=>aD (st.low fr) (
   match mL (enter fr tm (cH c) st) tm (enter fr tm (cH c) st).Et (enter fr tm (cH c) st).Gt with
   |some s=>ao (λagain s=>mC X tb y c (enter fr tm (cH c) st).fr (λp'=>xt (λst'=>match mL (enter fr tm (cH c) st) tm st'.E st'.G with
      |some s=>aD (Nat.beq p' p) (again s) none
      |none=>none) (λe st'=>K p' e (yd e (enter fr tm (cH c) st) st'))) p (cM (enter fr tm (cH c) st) tm s q)) X.fl s
   |none=>none ) none
  |_=>none
 | .region _ ops false,fr,K,p,st=>ot X tb y ops.toList fr ops.toList [] [] st p (λp=>K p .nrm)
 | .region _ ops true,fr,K,p,st=>match st.h with
  | .r th h=>HY X tb [] (λ_ _=>none) ops fr th { st with h:=h } (K p .nrm)
  |_=>HY X tb [] (λ_ _=>none) ops fr [] st (K p .nrm)
 |_,_,_,_,_=>none
section
variable {R : Type} {r : R} {X : Cx} {tb : List aC} {y : YC R} {D : za} {Φ : Nat -> Ctx} {ly : Nat} {H0 : List Row} {ρ0 : aw}
def Wn(Q:bm)(D:za)(fr:Fr)(Φ:Nat->Ctx)(c0:Nat)(ρ0:aw)(r:R)(K:Nat->XE->aB->Option R):Prop:= ∀p,kO Q D fr (Φ p) c0 ρ0 r (K p)
theorem Wn.less{Q:bm}{fr:Fr}{b c1:Nat}{ρ0 a:aw}{K:Nat->XE->aB->Option R}(h:Wn Q D fr Φ b ρ0 r K)(ha:aQ b ρ0 a)(c:b<=c1):Wn Q D fr Φ c1 a r K:=λp=>(h p).less ha c
theorem yg(j:∀p,∀it∈X.Γ,it∈Φ p)(o:∀e∈tb,e.Ok X.P X.Γ)(t:(ρ0 y.id).x= .func (.yield ly) #[] #[])(O:YOk X y r ly ρ0 H0 Φ):∀(c:Code) {Q:bm} {fr:Fr} {H1:List Row} {K:Nat->XE->aB->Option R} {p:Nat} {st:aB} {ρ:aw} {w:World},fr.H=H1++H0->IsY y ρ0 ρ st.c->Sat (ab ρ [] st.G++(ab ρ [] fr.H++Φ p)) w->
  mC X tb y c fr K p st=some r->Wn Q D fr Φ st.c ρ r K->WC X.P none c Q fr.n D (ay ρ [] st.E fr.F) w
 | .skip,Q,fr,H1,K,p,st,ρ,w,hH,hI,hs,h,hK=>tz (hK p .nrm st ρ w .refl (c8 _) (by unfold mC at h;exact h) hs)
 | .exit i,Q,fr,H1,K,p,st,ρ,w,hH,hI,hs,h,hK=>Sm (hK p (.ext i) st ρ w .refl (c8 _) (by unfold mC at h;exact h) hs)
 | .ret,Q,fr,H1,K,p,st,ρ,w,hH,hI,hs,h,hK=>Ao (hK p .ret st ρ w .refl (c8 _) (by unfold mC at h;exact h) hs)
 | .block i c,Q,fr,H1,K,p,st,ρ,w,hH,hI,hs,h,hK=>OW (yg j o t O c hH hI hs (by unfold mC at h;exact h) (λp=>OQ (hK p)))
 | .cond c a b,Q,fr,H1,K,p,st,ρ,w,hH,hI,hs,h,hK=>by
  unfold mC at h;split at h
  next v hb=>have N:=bK (ρ:=ρ) hb;simp only [AV.val] at N;obtain ⟨h1,T,q1,q2⟩:=OY h;exact kB N (λhv=>yg j o t O a (st:={ st with h:=h1 }) hH hI hs (q1 hv) hK) (λhv=>yg j o t O b (st:={ st with h:=T }) hH hI hs (q2 hv) hK)
  .cases h
 | .seq a b,Q,fr,H1,K,p,st,ρ,w,hH,hI,hs,h,hK=>by
  unfold mC at h;have z:∀C,mC X tb y a fr (λp=>xt (mC X tb y b fr K p) (K p)) p { st with h:=C }=some r->WC X.P none (.seq a b) Q fr.n D (ay ρ [] st.E fr.F) w:=λC hd=>by
   refine bp (yg j o t O a (st:={ st with h:=C }) hH hI hs hd (λp' e st' ρ' w' B J u I=>?_));by_cases M:e= .nrm
   .subst M;exact ba (yg j o t O b hH (hI.less B J) I u (hK.less B J))
   .rw [pb M] at u;exact iP M (hK p' e st' ρ' w' B J u I)
  split at h
  next C hh=>exact z C h
  .exact z st.h h
 | .loop c,Q,fr,H1,K,p,st,ρ,w,hH,hI,hs,h,hK=>by
  unfold mC at h;split at h
  .rename_i tm q hh;obtain ⟨hl,T⟩:=aI h;obtain ⟨U,en⟩:=yB (tm:=tm) (m:=cH c) hl hs;generalize enter fr tm (cH c) st=f at T en;split at T
   .rename_i s0 hb0;obtain ⟨ρ2,E',Y,k,DD,b1,b2,b3,b4⟩:=rq en.lF en.lH en.fx en.sat hb0;have W:∀s E' Y k DD,fW (λn=>f.c+n) f.fix tm.vs 0 (iD _ s)=⟨E',Y,k,DD⟩->cM f tm s q=⟨f.c+k,E',rowsOf Y,q⟩:=λs E' Y k DD hb=>by unfold cM;rw [hb]
    refine N4 (γ:=aw) (λs g w'=>aQ f.c U g/\Sat (ab g [] (cM f tm s q).G++(ab g [] f.fr.H++Φ p)) w') (λs g=>ay g [] (cM f tm s q).E f.fr.F) T ρ2 ⟨b2,?_⟩ ?_ (λA s g w' hag V=>?_)
    .rw [W _ _ _ _ _ b1];exact b4
    .rw [W _ _ _ _ _ b1];exact b3.trans en.sub
    .have N:f.c<=(cM f tm s q).c:=by unfold cM;generalize fW (λn=>f.c+n) f.fix tm.vs 0 (iD _ s)=L;obtain ⟨a,b,c,d⟩:=L;exact qP _ _
     have hx:=yg j o t O c (fr:=f.fr) (H1:=f.G++H1) (st:=cM f tm s q) (ρ:=g) (Q:=Exit.then (L0 A r (λs g w'=>aQ f.c U g/\Sat (ab g [] (cM f tm s q).G++(ab g [] f.fr.H++Φ p)) w') (λs g=>ay g [] (cM f tm s q).E f.fr.F) fr.n D) Q)
      (by rw [en.fh,hH,cb]) ((hI.less en.ag en.le).less V.1 N) V.2 hag (λp' e st' ρ' w2 B J u I=>?_)
     .rw [en.fn] at hx;exact hx
     .by_cases M:e= .nrm
      .subst M;have S:(match mL f tm st'.E st'.G with|some s=>aD (Nat.beq p' p) (A s) none|none=>none)=some r:=u;split at S
       .rename_i s' hb;obtain ⟨hp,a5⟩:=aI S;have:=b0 hp;subst this;obtain ⟨Z,E2,R2,k2,DD2,d1,d2,d3,d4⟩:=rq en.lF en.lH en.fx I hb;rw [en.fn];refine KA s' Z a5 ⟨(V.1.trans (B.less N) (c8 _)).trans d2 (c8 _),?_⟩ ?_
        .rw [W _ _ _ _ _ d1];exact d4
        .rw [W _ _ _ _ _ d1];exact d3
       .cases S
      .rw [pb M] at u;have:=vF (hK p') en.ag en.le en.ff en.fh en.fn e st' ρ' w2 (V.1.trans (B.less N) (c8 _)) (ec N J) u I;exact iP M this
   .cases T
  .cases h
 | .region id ops false,Q,fr,H1,K,p,st,ρ,w,hH,hI,hs,h,hK=>by
  unfold mC at h;obtain ⟨l⟩:=ops;exact bh (abl (σ:=none) j o t O hH hI (λx h=>by cases h) (λx h=>by cases h) ⟨λx _=>rfl,λx _=>rfl⟩ hs h (λp' st' ρ' w' B J u I=>hK p' .nrm st' ρ' w' B J u I))
 | .region id ops true,Q,fr,H1,K,p,st,ρ,w,hH,hI,hs,h,hK=>by
  unfold mC at h;have key:∀th C,HY X tb [] (λ_ _=>none) ops fr th { st with h:=C } (K p .nrm)=some r->WC X.P none (.region id ops true) Q fr.n D (ay ρ [] st.E fr.F) w:=λth C hd=>
   Pr (K:=λe st=>match e with
    | .nrm=>K p .nrm st
    |_=>none) (st:={ st with h:=C }) (j p) o (λ_ h=>by cases h) hs hd (λe st' ρ' w' B J u I=>by
     cases e with
     |nrm=>exact hK p .nrm st' ρ' w' B J u I
     |_=>cases u)
  split at h
  .exact key _ _ h
  .exact key [] st.h h
 | .label _,Q,fr,H1,K,p,st,ρ,w,hH,hI,hs,h,hK=>by unfold mC at h;cases h
 | .goto _,Q,fr,H1,K,p,st,ρ,w,hH,hI,hs,h,hK=>by unfold mC at h;cases h
 | .scope _,Q,fr,H1,K,p,st,ρ,w,hH,hI,hs,h,hK=>by unfold mC at h;cases h
 | .rangeFunc _ _ _ _,Q,fr,H1,K,p,st,ρ,w,hH,hI,hs,h,hK=>by unfold mC at h;cases h
end
variable {γ : Type} {Ds : γ -> za}
theorem Sat.swap{w:World}{C D:Ctx}:∀{B A:Ctx},Sat (A++(B++(C++D))) w->Sat (A++(C++(B++D))) w
 |[],A,h=>h
 |x::B,A,h=>by
  have b:Sat ((A++[x])++(B++(C++D))) w:=by simpa using h
  have a:Sat (A++x::(C++(B++D))) w:=by simpa using b.swap
  simpa using Sat.move a
theorem Sat.front{w:World}{A B:Ctx}{x:Item}(h:Sat (A++x::B) w):Sat (x::(A++B)) w:=by have:=Sat.swap (A:=[]) (B:=A) (C:=[x]) (D:=B) (by simpa using h);simpa using this
theorem Sat.behind{w:World}{A B:Ctx}{x:Item}(h:Sat (x::(A++B)) w):Sat (A++x::B) w:=Sat.move (A:=[]) h
theorem Kh{α:Type}{A B:List α}{x:α}:(A++x::B)[A.length]? =some x:=by simp
theorem acf{α:Type}{A B:List α}{x y:α}:(A++x::B).set A.length y=A++y::B:=by
 induction A with
 |nil=>rfl
 |cons a A ih=>simp [ih]
def DA:Nat->Option Code
 |0=>none
 |1=>some .ret
 |n+2=>aD (Nat.beq (n%2) 0) (some (.exit (n/2))) (some (.goto (n/2)))
def LA:Nat->XE
 |0=> .nrm
 |1=> .ret
 |n+2=>aD (Nat.beq (n%2) 0) (.ext (n/2)) (.gto (n/2))
theorem ah1{fr:Fr}:(p:Nat)->hx (LA p) fr=fr.H
 |0=>rfl
 |1=>rfl
 |n+2=>by show hx (aD (Nat.beq (n%2) 0) (.ext (n/2)) (.gto (n/2))) fr=fr.H;cases Nat.beq (n%2) 0 <;> rfl
def La:Nat->LoopState
 |0=> .ready
 |_+1=> .done
theorem akj(i:Nat):DA (2*i+2)=some (.exit i):=by have b:2*i%2=0:=Nat.mul_mod_right 2 i;have a:2*i/2=i:=Nat.mul_div_cancel_left i (by decide);show aD (Nat.beq (2*i%2) 0) (some (Code.exit (2*i/2))) _=_;rw [b,a]
theorem aie(i:Nat):DA (2*i+3)=some (.goto i):=by
 have b:(2*i+1)%2=1:=by omega
 have a:(2*i+1)/2=i:=by omega
 show aD (Nat.beq ((2*i+1)%2) 0) _ (some (Code.goto ((2*i+1)/2)))=_;rw [b,a]
def akz:List Tmp->List AV->aF->Option aF
 |[],[],E=>some E
 |p::ps,v::vs,E=>akz ps vs ((p,none,v)::E)
 |_,_,_=>none
theorem acx{ρ:aw}{F:Env}:{ps:List Tmp}->{vs:List AV}->{E E':aF}->akz ps vs E=some E'->aF.env ρ [] E'++F=ZM ps (AV.aj ρ vs) (aF.env ρ [] E++F)/\Nat.beq (AV.aj ρ vs).length ps.length=true
 |[],[],E,E',h=>by cases h;exact ⟨rfl,rfl⟩
 |p::ps,v::vs,E,E',h=>by
  obtain ⟨b,a⟩:=acx (ρ:=ρ) (F:=F) (ps:=ps) (vs:=vs) (E:=(p,none,v)::E) h;refine ⟨?_,?_⟩
  .rw [b];simp [aF.env,AV.aj,ZM]
  .simpa [AV.aj] using a
 |[],_::_,_,_,h=>by cases h
 |_::_,[],_,_,h=>by cases h
def XH{R:Type}(X:Cx)(tb:List aC)(tp:List bX)(ps:List Tmp)(assign body:Code)(fr:Fr)(E:aF)(hb:HT)(vs:List AV)(st:aB)(KY:Bool->Nat->aB->Option R):Option R:=match akz ps vs E with
 |some E'=>den X tb tp assign fr (λe st1=>match e with
  | .nrm=>den X tb tp body fr (λe st2=>match e with
   | .nrm=>KY true 0 st2
   | .ret=>KY false 1 st2
   | .ext i=>KY false (2*i+2) st2
   | .gto l=>KY false (2*l+3) st2
   |_=>none) { st1 with h:=hb }
  |_=>none) ⟨st.c,E',st.G,.o⟩
 |none=>none
section
variable {R : Type} {r : R} {X : Cx} {tb : List aC} {tp : List bX} {fr : Fr}
theorem akE{Φ1:Ctx}(Q:∀it∈X.Γ,it∈Φ1)(C:∀e∈tb,e.Ok X.P X.Γ)(B:∀e∈tp,e.Ok X.P X.Γ){ps:List Tmp}{assign body:Code}{E:aF}{hb:HT}{L l b:Nat}{ρ0:aw}{r0:LoopState->Option Code->Loop}
  (t:Rec fr.n (ay ρ0 [] E fr.F) ps.toArray assign body b r0) (hE:E.low L=true) (hF:aF.low L fr.F=true) (hp:ps.all (λp=>Nat.blt p fr.n)=true):
  YOk X ⟨L,XH X tb tp ps assign body fr E hb⟩ r l ρ0 fr.H (λp=>dQ l r0 (La p) (DA p)::Φ1):=by
 intro vs st ρ w H1 Z hid U hvs hG V T h;have J:XH X tb tp ps assign body fr E hb vs st Z=some r:=h;unfold XH at J;split at J
 .rename_i E' hz;have k:aQ L ρ0 ρ:=U.less (l5 _);obtain ⟨z1,z2⟩:=acx (ρ:=ρ) (F:=aF.env ρ [] fr.F) hz;have eE:ay ρ0 [] E fr.F=ay ρ [] E fr.F:=by rw [ay,ay,sD k hE,sD k hF]
  rw [eE] at t;have O:bB st.c H1=true:=by
   clear h J T hz
   induction H1 with
   |nil=>rfl
   |cons x H1 ih=>
    simp only [qd,bB,an] at V ⊢;exact ⟨V.1,ih V.2⟩
  -- the row, parted in another way
  have N:∀{G:List Row} {ρ':aw} {x:Item} {w':World},Sat (ab ρ' [] G++(ab ρ' [] (H1++fr.H)++x::Φ1)) w'->Sat (ab ρ' [] G++(ab ρ' [] fr.H++(ab ρ' [] H1++x::Φ1))) w':=λ{G ρ' x w'} a=>by rw [bg,cb] at a;exact a.swap
  have W:∀{G:List Row} {ρ':aw} {x:Item} {w':World},Sat (ab ρ' [] G++(ab ρ' [] fr.H++(ab ρ' [] H1++x::Φ1))) w'->Sat (ab ρ' [] G++(ab ρ' [] (H1++fr.H)++x::Φ1)) w':=λ{G ρ' x w'} a=>by rw [bg,cb];exact a.swap
  -- the loop's row, exchanged
  have jv:∀{G:List Row} {ρ':aw} {x:Item},∃A:Ctx,ab ρ' [] G++(ab ρ' [] fr.H++(ab ρ [] H1++x::Φ1))=A++x::Φ1/\∀z,A++z::Φ1=ab ρ' [] G++(ab ρ' [] fr.H++(ab ρ [] H1++z::Φ1)):=λ{G ρ' x}=>
   ⟨ab ρ' [] G++(ab ρ' [] fr.H++ab ρ [] H1),by simp,λz=>by simp⟩
  have R:=N T;have g:∀x:Item,∀it∈X.Γ,it∈ab ρ [] H1++x::Φ1:=λx it hi=>hV _ (b7 _ (Q it hi));have S:Sat (dQ l r0 .ready none::(ab ρ [] st.G++(ab ρ [] (H1++fr.H)++Φ1))) w:=by
   have:Sat ((ab ρ [] st.G++ab ρ [] (H1++fr.H))++dQ l r0 .ready none::Φ1) w:=by rw [cb];exact T
   have:=this.front;rw [cb] at this;exact this
  refine apx t S z2 hp ?_;rw [<-z1];refine gw (σ:=some l) (D:=[]) (Φ:=ab ρ [] H1++dQ l r0 .ready none::Φ1) (g _) C B assign (fr:=fr) (st:=⟨st.c,E',st.G,.o⟩) (ρ:=ρ) R J (λe st1 y w1 a1 a2 a3 a4=>?_);cases e with
  |nrm=>
   obtain ⟨A,e1,e2⟩:=jv (G:=st1.G) (ρ':=y) (x:=dQ l r0 .ready none);have Y:Sat (A++dQ l r0 .ready none::Φ1) w1:=by rw [<-e1];exact a4
   refine ajS (i:=A.length) t Y Kh (λw2 I=>?_);rw [acf,e2] at I;refine gw (σ:=some l) (D:=[]) (Φ:=ab ρ [] H1++dQ l r0 .busy none::Φ1) (g _) C B body (fr:=fr) (st:={ st1 with h:=hb }) (ρ:=y) I a3 (λe d q w3 b1 b2 m b4=>?_);obtain ⟨u,e3,e4⟩:=jv (G:=d.G) (ρ':=q) (x:=dQ l r0 .busy none);have f:Sat (u++dQ l r0 .busy none::Φ1) w3:=by rw [<-e3];cases e <;> first|exact b4|cases m
   have K:aQ st.c ρ q:=a1.trans b1 a2;have El:st.c<=d.c:=ec a2 b2;have fin:∀{M:Bool} {p':Nat} {s:World},Z M p' d=some r->Sat ((u++dQ l r0 .busy none::Φ1).set u.length (dQ l r0 (La p') (DA p'))) s->
     ∃b p' st' ρ',Value.bool M= .bool b/\aQ st.c ρ ρ'/\st.c<=st'.c/\Z b p' st'=some r/\Sat (ab ρ' [] st'.G++(ab ρ' [] (H1++fr.H)++dQ l r0 (La p') (DA p')::Φ1)) s:=λ{M p' s} hk a=>by
    rw [acf,e4,<-aZ K O] at a;exact ⟨M,p',d,q,rfl,K,El,hk,W a⟩
   cases e with
   |nrm=>exact ali (i:=u.length) t f Kh (λs a=>fin (p':=0) m a)
   |ret=>exact Zx (i:=u.length) t f Kh (λs a=>fin (p':=1) m a)
   |ext i=>exact V1 (i:=u.length) t f Kh (λs a=>fin (p':=2*i+2) m (by rw [akj];exact a))
   |gto j=>exact VE (i:=u.length) t f Kh (λs a=>fin (p':=2*j+3) m (by rw [aie];exact a))
   |jI v=>cases m
   |panE v=>cases m
   |panL v=>cases m
  |_=>cases a3
 .cases J
end
def KH:aF->aF
 |[]=>[]
 |(t,_,v)::E=>(t+10000,some (1000000000,false),v)::KH E
theorem abp{ρ:aw}:{E:aF}->{t:Nat}->{p:Bool×Value}->look (aF.env ρ [] (KH E)) t=some p->10000<=t/\p.1=false
 |[],_,_,h=>by cases h
 |(t',g,v)::E,t,p,h=>by
  simp only [KH,aF.env,look] at h;cases hb:Nat.beq (t'+10000) t
  .rw [hb,ca] at h;exact abp h
  .rw [hb,cp] at h;have:=b0 hb;cases h;exact ⟨by omega,rfl⟩
theorem Fits.far{n:Nat}{E:Env}{a:Act}{ρ:aw}{F:aF}(h:Fits n E a)(hn:n<=10000):Fits n (E++aF.env ρ [] (KH F)) a:=by
 refine ⟨h.size,λt g v ht=>?_⟩;rw [Fh] at ht;split at ht
 next p hp=>cases ht;exact h.at_ t g v hp
 .obtain ⟨d,b⟩:=abp ht;simp only at b;subst b;have c:=h.size;have:¬t<a.tmps.size:=by omega
  simp [Array.getD,this,Bb]
def itE{R:Type}(Kend:Nat->aB->Option R)(p:Nat):XE->aB->Option R
 | .nrm,st=>Kend p st
 | .ret,st=>Kend p st
 |_,_=>none
def rfD{R:Type}(X:Cx)(tb:List aC)(tp:List bX)(tc:List ov)(ps:List Tmp)(assign body:Code)(gv:AV)(fr:Fr)(st:aB)(hi hb:HT)(Kend:Nat->aB->Option R):Option R:=match gv with
 | .fn f a b=>(match Qs tc f with
  |some cl=>(match cl.fn.body with
   |some ib=>aD (cl.fn.results.isEmpty&&Nat.ble (a.length+(b.length+1)) cl.fn.ntmps&&Nat.ble cl.fn.ntmps 10000&&st.low fr&&ps.all (λp=>Nat.blt p fr.n)&&AV.cj st.c a&&AV.cj st.c b) (
     mC X tb ⟨st.c,XH X tb tp ps assign body fr st.E hb⟩ ib ⟨KH (st.E++fr.F),fr.H,cl.fn.ntmps⟩ (itE Kend) 0 ⟨st.c+1,oS 0 (a++ .nv st.c::b),st.G,hi⟩) none
   |none=>none)
  |none=>none)
 |_=>none
section
variable {P : Program} {n : Nat} {D0 : za} {E : Env} {w : World} {Γ : Ctx} {Q : bm}
theorem V5{g:Operand}{ps:Array Tmp}{assign body:Code}{f:FuncId}{first cap:ze}(ds:zo)
  (o:Enters P f) (B:al E true g (.func (.func f) first.toArray cap.toArray)) (A:Sat (ey ds::Γ) w)
  (h:∀(l b:Nat) (r:LoopState->Option Code->Loop) w1,Rec n E ps assign body b r->Sat (dQ l r .ready none::ey (b::ds)::Γ) w1->
   jg P f (first++[Value.func (.yield l) #[] #[]]++cap) w1 (nj P none l n (mk (b::ds)++D0) Q E)):
  WC P none (.rangeFunc g ps assign body) Q n (mk ds++D0) E w:=λa m hd=>by
 refine wpIn_rangeFunc λfn C=>?_;obtain ⟨r,x⟩:∃r:LoopState->Option Code->Loop,r=λst z=>{ state:=st,pending:=z,fn,tmps:=a.tmps,params:=ps,assign,body,defers:=w.heap.size }:=⟨_,rfl⟩;obtain ⟨d,p⟩:∃d,(w.alloc (.deferred (some []))).alloc (.loop (r .ready none))=d:=⟨_,rfl⟩;have t:Sat (vm w.heap.size (.deferred (some []))::ey ds::Γ) (w.alloc (.deferred (some []))):=A.push (fO _ _) (λb hb=>by
  have:b=w.heap.size:=by simpa [vm] using hb
  subst this;simp) (λ_ _=>World.alloc_heap_new w _)
 have s:Sat (dQ (w.heap.size+1) r .ready none::ey (w.heap.size::ds)::Γ) d:=by
  rw [<-p];have:=t.Nq.push (new:=dQ (w.alloc (.deferred (some []))).heap.size r .ready none) (fO _ _) (λb hb=>by
   have:b=(w.alloc (.deferred (some []))).heap.size:=by simpa [vm] using hb
   subst this;simp) (λ_ _=>World.alloc_heap_new (w.alloc (.deferred (some []))) (.loop (r .ready none)))
  rwa [World.size_alloc] at this
 have i:Rec n E ps assign body w.heap.size r:=⟨fn,a.tmps,⟨m.size,m.at_⟩,x⟩;have u:a.eval g=Value.func (.func f) first.toArray cap.toArray:=B n a m rfl;refine ⟨w.heap.size+1,[{ target:= .collected w.heap.size,args:= #[] }],d,{ target:= .fn (.func f) cap.toArray,args:=first.toArray++ #[Value.func (.yield (w.heap.size+1)) #[] #[]] },d,f,
  (first++[Value.func (.yield (w.heap.size+1)) #[] #[]]++cap).toArray,d,?_,?_,λ_ _=>trivial,?_,ID,?_⟩
 .rw [<-p,x];exact run_enterLoop_outer _ _ _ _ _
 .simp only [resolve,u,Deferred.ofValue];simp [Act.eval]
 .have:=o (first++[Value.func (.yield (w.heap.size+1)) #[] #[]]++cap).toArray d;simp only [invoke];simpa using this
 .refine QU (Calls.mono (h (w.heap.size+1) w.heap.size r d i s) λe w' o=>?_);cases e with
  |returned v=>
   obtain ⟨j,q,D,y⟩:=o;refine ⟨j,q,D,?_⟩;have k:Fits n E { a with defers:=[{ target:= .collected w.heap.size,args:= #[] }]++a.defers }:=⟨m.size,m.at_⟩;cases j with
   |none=>exact y _ k (by simp [hd,mk])
   |some c=>exact y _ k (by simp [hd,mk])
  |panicked c=>exact o.elim
  |outgrown=>exact o.elim
end
section
variable {R : Type} {r : R} {X : Cx} {tb : List aC} {tp : List bX} {tc : List ov} {fr : Fr} {Φ : Ctx} {D : za} {Q : bm}
theorem af3(I:∀it∈X.Γ,it∈Φ)(L:∀e∈tb,e.Ok X.P X.Γ)(Y:∀e∈tp,e.Ok X.P X.Γ)(Z:∀c∈tc,c.Ok X.P){g:Operand}{ps:Array Tmp}{assign body:Code}{gv:AV}{st:aB}{hi hb:HT}{m:Nat->aB->Option R}{ρ:aw}{w:World}{ds:zo}
  (hg:bu [] st.E fr.F none g=some gv) (hs:Sat (ab ρ [] st.G++(ab ρ [] fr.H++ey ds::Φ)) w) (h:rfD X tb tp tc ps.toList assign body gv fr st hi hb m=some r)
  (O:∀p st1 d w1 ds',aQ st.c ρ d->st.c<=st1.c->m p st1=some r->Sat (ab d [] st1.G++(ab d [] fr.H++ey ds'::Φ)) w1->Ly Q (LA p) d fr.n (mk ds'++D) (ay d [] st.E fr.F) w1):
  WC X.P none (.rangeFunc g ps assign body) Q fr.n (mk ds++D) (ay ρ [] st.E fr.F) w:=by
 unfold rfD at h;split at h
 .rename_i f a b;split at h
  .rename_i A hcl;obtain ⟨c1,c2⟩:=O4 Z hcl;subst c2;split at h
   .rename_i ib hib;obtain ⟨k1,h1⟩:=aI h;simp only [an] at k1;obtain ⟨⟨⟨⟨⟨⟨d1,d2⟩,d3⟩,d4⟩,d5⟩,d6⟩,d7⟩:=k1;have k:A.fn.results= #[]:=by simpa using d1
    have hn1:A.fn.ntmps<=10000:=er d3;obtain ⟨l1,l2,l3,l4⟩:=aB.cE.1 d4;have N:=bK (ρ:=ρ) hg;simp only [AV.val] at N;have T:AV.cj st.c a=true/\AV.cj st.c b=true:=⟨d6,d7⟩
    -- the marks in front
    have hs0:Sat (ey ds::(ab ρ [] st.G++(ab ρ [] fr.H++Φ))) w:=by
     have:Sat ((ab ρ [] st.G++ab ρ [] fr.H)++ey ds::Φ) w:=by rw [cb];exact hs
     have:=this.front;rwa [cb] at this
    refine V5 ds c1.1 N hs0 (λl j r0 w1 M hs1=>?_);have hr':Rec fr.n (ay ρ [] st.E fr.F) ps.toList.toArray assign body j r0:=by simpa using M
    -- yield's name
    generalize B:ρ.set st.c { dm with x:= .func (.yield l) #[] #[] }=d;have o:aQ st.c ρ d:=by rw [<-B];exact aw.aX
    have J:(d st.c).x= .func (.yield l) #[] #[]:=by rw [<-B,aw.bG]
    have z:AV.aj d (a++ .nv st.c::b)=AV.aj ρ a++[Value.func (.yield l) #[] #[]]++AV.aj ρ b:=by rw [dh];simp only [AV.aj,AV.val,J];rw [AV.bZ o _ T.1,AV.bZ o _ T.2];simp
    rw [<-z]
    -- the rows
    have hs2:Sat (ab d [] st.G++(ab d [] fr.H++(dQ l r0 (La 0) (DA 0)::ey (j::ds)::Φ))) w1:=by
     rw [aZ o l3,aZ o l4];have e1:Sat ([]++([dQ l r0 .ready none,ey (j::ds)]++((ab ρ [] st.G++ab ρ [] fr.H)++Φ))) w1:=by simpa using hs1
     have:=e1.swap;simp only [l9,cb,qd] at this;exact this
    have C:∀p,∀it∈X.Γ,it∈(dQ l r0 (La p) (DA p)::ey (j::ds)::Φ):=λp it hi=>b7 _ (b7 _ (I it hi));have hrr:Rec fr.n (ay d [] st.E fr.F) ps.toList.toArray assign body j r0:=by rw [pC d4 o];exact hr'
    have hY:=akE (r:=r) (tp:=tp) (hb:=hb) (Φ1:=ey (j::ds)::Φ) (λit hi=>b7 _ (I it hi)) L Y (l:=l) hrr l1 l2 d5;refine Calls.mono (mn (S:=nj X.P none l fr.n (mk (j::ds)++D) Q (ay ρ [] st.E fr.F)) (Sp:=λ_ _=>False) c1.2 hib rfl (by rw [AV.bD];simpa [Nat.add_comm,Nat.add_left_comm,rJ] using d2) ?_) (λe w' he=>he);have hE:ay d [] (oS 0 (a++ .nv st.c::b)) (KH (st.E++fr.F))=iota 0 (AV.aj d (a++ .nv st.c::b))++aF.env d [] (KH (st.E++fr.F)):=by show aF.env d [] (oS 0 _)++aF.env d [] _=_;rw [C4]
    have hx:=yg (r:=r) (D:=[]) (Φ:=λp=>dQ l r0 (La p) (DA p)::ey (j::ds)::Φ) C L (y:=⟨st.c,XH X tb tp ps.toList assign body fr st.E hb⟩) J hY ib (Q:=BP X.P A.fn (nj X.P none l fr.n (mk (j::ds)++D) Q (ay ρ [] st.E fr.F)) (λ_ _=>False)) (fr:=⟨KH (st.E++fr.F),fr.H,A.fn.ntmps⟩) (H1:=[]) (K:=itE m) (st:=⟨st.c+1,oS 0 (a++ .nv st.c::b),st.G,hi⟩) (ρ:=d) (w:=w1) rfl ⟨mE _,.refl⟩ hs2 h1 (λp e st1 i V a1 a2 W a4=>?_)
    .rw [hE] at hx;exact λaa hf hd=>hx aa (hf.far hn1) hd
    . -- the iterator's end
     have U:aQ st.c ρ i:=o.trans (a1.less (l5 _)) (c8 _);have El:st.c<=st1.c:=Nat.le_of_succ_le a2;have eE:ay i [] st.E fr.F=ay ρ [] st.E fr.F:=pC d4 U;have fin:m p st1=some r->nj X.P none l fr.n (mk (j::ds)++D) Q (ay ρ [] st.E fr.F) (.tuple #[]) V:=λhk=>by
      have t:Sat (dQ l r0 (La p) (DA p)::(ab i [] st1.G++(ab i [] fr.H++ey (j::ds)::Φ))) V:=by
       have:Sat ((ab i [] st1.G++ab i [] fr.H)++dQ l r0 (La p) (DA p)::ey (j::ds)::Φ) V:=by rw [cb];cases e <;> first|exact a4|cases W
       have:=this.front;rwa [cb] at this
      have at_:∀s,Sat (ab i [] st1.G++(ab i [] fr.H++ey (j::ds)::Φ)) s->Ly Q (LA p) i fr.n (mk (j::ds)++D) (ay ρ [] st.E fr.F) s:=λs u=>by have:=O p st1 i s (j::ds) U El hk u;rwa [eE] at this
      match p,t,at_ with
      |0,t,at_=>exact nj.go M t (λs u=>at_ s u)
      |1,t,at_=>exact nj.jump M t (λs u=>Ao (at_ s u))
      |q+2,t,at_=>
       simp only [DA,LA] at t at_;cases hq:Nat.beq (q%2) 0
       .simp only [hq] at t at_;exact nj.jump M t (λs u=>acs (at_ s u))
       .simp only [hq] at t at_;exact nj.jump M t (λs u=>Sm (at_ s u))
     cases e with
     |nrm=>exact (ae8 (vs:=[]) (by simp [k]) (λaa hf=>by rw [k];simp) (v:= .tuple #[]) rfl (fin W):At (BP X.P A.fn _ _) .ret A.fn.ntmps [] _ V)
     |ret=>exact ae8 (vs:=[]) (by simp [k]) (λaa hf=>by rw [k];simp) (v:= .tuple #[]) rfl (fin W)
     |_=>cases W
   .cases h
  .cases h
 .cases h
end
def rT:Code->Bool
 | .rangeFunc .. =>true
 | .seq a b=>rT a||rT b
 | .cond _ a b=>rT a||rT b
 | .block _ c=>rT c
 | .loop c=>rT c
 | .scope c=>rT c
 |_=>false
def ll{R:Type}(X:Cx)(tb:List aC)(tp:List bX)(tc:List ov):Code->Fr->(XE->aB->Option R)->aB->Option R
 | .block i c,fr,K,st=>ll X tb tp tc c fr (brk i K) st
 | .cond c x y,fr,K,st=>aD (rT x||rT y) (match bu [] st.E fr.F none c with
  |some (.bool b)=>cnd b (λh=>ll X tb tp tc x fr K { st with h:=h }) (λh=>ll X tb tp tc y fr K { st with h:=h }) st.h
  |_=>none) (den X tb tp (.cond c x y) fr K st)
 | .seq x y,fr,K,st=>aD (rT x||rT y) (match st.h with
  | .j tm p q=>aD (st.low fr) (
   ai (λs:fy (iW tm.vs)=>ll X tb tp tc y fr K (iF (enter fr tm (cH x) st) tm s q)) λk=>
   ll X tb tp tc x (enter fr tm (cH x) st).fr (xt (λst'=>match mL (enter fr tm (cH x) st) tm st'.E st'.G with
     |some s=>k s
     |none=>none) (λe st'=>K e (yd e (enter fr tm (cH x) st) st'))) ⟨(enter fr tm (cH x) st).c,(enter fr tm (cH x) st).Et,(enter fr tm (cH x) st).Gt,p⟩ ) none
  | .s h=>ll X tb tp tc x fr (xt (ll X tb tp tc y fr K) K) { st with h:=h }
  |_=>ll X tb tp tc x fr (xt (ll X tb tp tc y fr K) K) st) (den X tb tp (.seq x y) fr K st)
 | .loop c,fr,K,st=>aD (rT c) (match st.h with
  | .l tm p=>aD (st.low fr) (
   match mL (enter fr tm (cH c) st) tm (enter fr tm (cH c) st).Et (enter fr tm (cH c) st).Gt with
   |some s=>ao (λagain s=>ll X tb tp tc c (enter fr tm (cH c) st).fr (xt (λst'=>match mL (enter fr tm (cH c) st) tm st'.E st'.G with
      |some s=>again s
      |none=>none) (λe st'=>K e (yd e (enter fr tm (cH c) st) st'))) (cM (enter fr tm (cH c) st) tm s p)) X.fl s
   |none=>none ) none
  |_=>none) (den X tb tp (.loop c) fr K st)
 | .rangeFunc g ps assign body,fr,K,st=>match st.h with
  | .c (.c hi hb) (.r (70000::th) hr)=>(match bu [] st.E fr.F none g with
   |some gv=>rfD X tb tp tc ps.toList assign body gv ⟨fr.F,bk (λr=> !(gM (reach st fr th) r)) st.G++fr.H,fr.n⟩ { st with G:=bk (gM (reach st fr th)) st.G } hi hb (λp st1=>K (LA p) { st1 with E:=st.E,h:=hr,G:=st1.G++bk (λr=> !(gM (reach st fr th) r)) st.G })
   |none=>none)
  | .c (.c hi hb) hr=>(match bu [] st.E fr.F none g with
   |some gv=>rfD X tb tp tc ps.toList assign body gv fr st hi hb (λp st1=>K (LA p) { st1 with E:=st.E,h:=hr })
   |none=>none)
  |_=>none
 |c,fr,K,st=>den X tb tp c fr K st
section
variable {P : Program} {ρ : zg} {Q : bm} {n : Nat} {E : Env} {w : World}
def adz{γ:Type}(J:γ->World->Prop)(Es:γ->Env)(n:Nat)(Ds:γ->za)(a:Act)(w:World):Prop:=
 ∃g,J g w/\Fits n (Es g) a/\a.defers=Ds g
theorem aak(J:γ->World->Prop)(b:γ->Env)(Ds:γ->za){D:za}{x y:Code}
  (c:∀g w',J g w'->WC P ρ y Q n (Ds g) (b g) w') (hx:WC P ρ x (Exit.then (adz J b n Ds) Q) n D E w):WC P ρ (.seq x y) Q n D E w:=
 λa d hd=>wpIn_seq (wpIn_mono (hx a d hd) (λe k w' h=>by cases e <;> first|exact h|(obtain ⟨g,f,i,j⟩:=h;exact c g w' f k i j)))
theorem ajO{J:γ->World->Prop}{a:γ->Env}{D:za}(g:γ)(d:J g w)(b:kT (a g) E)(e:D=Ds g):At (Exit.then (adz J a n Ds) Q) .normal n D E w:=
 λf c hd=>⟨g,d,c.oJ b,hd.trans e⟩
def PB{σ γ τ:Type}(again:σ->Option τ)(r:τ)(J:σ->γ->World->Prop)(Es:σ->γ->Env)(n:Nat)(Ds:γ->za)(a:Act)(w:World):Prop:=
 ∃s g,again s=some r/\J s g w/\Fits n (Es s g) a/\a.defers=Ds g
theorem ajR{σ τ:Type}{F:(σ->Option τ)->σ->Option τ}{r:τ}(J:σ->γ->World->Prop)(c:σ->γ->Env)(Ds:γ->za){body:Code}{D:za}
  {N:Nat} {b:σ} (hm:ao F N b=some r) (g0:γ) (q:J b g0 w) (p:kT (c b g0) E) (f:D=Ds g0)
  (round:∀again s g w,F again s=some r->J s g w->WC P ρ body (Exit.then (PB again r J c n Ds) Q) n (Ds g) (c s g) w):
  WC P ρ (.loop body) Q n D E w:=λa k hd=>
 GJ (λm=>PB (ao F m) r J c n Ds) N ⟨b,g0,hm,q,k.oJ p,hd.trans f⟩ λm a w ⟨s,g,j,l,o,f⟩=>by
  obtain ⟨i,rfl,d⟩:=LO j;exact wpIn_mono (round (ao F i) s g w d l a o f) λe a w h=>by cases e <;> first|exact h|exact ⟨i,mE _,h⟩
theorem ah3{σ τ:Type}{a:σ->Option τ}{r:τ}{J:σ->γ->World->Prop}{b:σ->γ->Env}{D:za}
  (s:σ) (g:γ) (hm:a s=some r) (e:J s g w) (c:kT (b s g) E) (f:D=Ds g):At (Exit.then (PB a r J b n Ds) Q) .normal n D E w:=
 λh d hd=>⟨s,g,hm,e,d.oJ c,hd.trans f⟩
end
section
variable {R : Type} {r : R} {X : Cx} {tb : List aC} {tp : List bX} {tc : List ov} {Φ : Ctx} {D : za}
def Qo(Q:bm)(D:za)(fr:Fr)(Φ:Ctx)(c0:Nat)(ρ0:aw)(r:R)(K:XE->aB->Option R):Prop:= ∀ds,kO Q (mk ds++D) fr (ey ds::Φ) c0 ρ0 r K
theorem Qo.less{Q:bm}{fr:Fr}{b c1:Nat}{ρ0 a:aw}{K:XE->aB->Option R}(h:Qo Q D fr Φ b ρ0 r K)(ha:aQ b ρ0 a)(c:b<=c1):Qo Q D fr Φ c1 a r K:=λds=>(h ds).less ha c
theorem amj(U:∀it∈X.Γ,it∈Φ)(W:∀e∈tb,e.Ok X.P X.Γ)(V:∀e∈tp,e.Ok X.P X.Γ)(htc:∀c∈tc,c.Ok X.P):∀(c:Code) {Q:bm} {fr:Fr} {K:XE->aB->Option R} {st:aB} {ρ:aw} {w:World} {ds:zo},Sat (ab ρ [] st.G++(ab ρ [] fr.H++ey ds::Φ)) w->
  ll X tb tp tc c fr K st=some r->Qo Q D fr Φ st.c ρ r K->WC X.P none c Q fr.n (mk ds++D) (ay ρ [] st.E fr.F) w:=λc=>by
 have hΓ':∀ds:zo,∀it∈X.Γ,it∈ey ds::Φ:=λds it hi=>b7 _ (U it hi);have tl:∀(c:Code) {Q:bm} {fr:Fr} {K:XE->aB->Option R} {st:aB} {ρ:aw} {w:World} {ds:zo},Sat (ab ρ [] st.G++(ab ρ [] fr.H++ey ds::Φ)) w->
   den X tb tp c fr K st=some r->Qo Q D fr Φ st.c ρ r K->WC X.P none c Q fr.n (mk ds++D) (ay ρ [] st.E fr.F) w:=λc {Q fr K st ρ w ds} u h t=>
  gw (hΓ' ds) W V c u h (t ds)
 induction c with
 |block i c ih=>
  intro Q fr K st ρ w ds u h t;exact OW (ih u (by unfold ll at h;exact h) (λds=>OQ (t ds)))
 |cond c x y T S=>
  intro Q fr K st ρ w ds u h t;unfold ll at h;rcases dR h with ⟨_,h⟩|⟨_,h⟩
  .split at h
   next b hb=>have Z:=bK (ρ:=ρ) hb;simp only [AV.val] at Z;obtain ⟨p,q,h1,N⟩:=OY h;exact kB Z (λhb=>T (st:={ st with h:=p }) u (h1 hb) t) (λhb=>S (st:={ st with h:=q }) u (N hb) t)
   .cases h
  .exact tl _ u h t
 |seq x y T S=>
  intro Q fr K st ρ w ds u h t;unfold ll at h;rcases dR h with ⟨_,h⟩|⟨_,h⟩
  .have I:∀h',ll X tb tp tc x fr (xt (ll X tb tp tc y fr K) K) { st with h:=h' }=some r->WC X.P none (.seq x y) Q fr.n (mk ds++D) (ay ρ [] st.E fr.F) w:=λh' hd=>by
    refine bp (T (st:={ st with h:=h' }) u hd (λj e st' ρ' w' C O z B=>?_));by_cases J:e= .nrm
    .subst J;exact ba (S B z (t.less C O))
    .rw [pb J] at z;exact iP J (t j e st' ρ' w' C O z B)
   split at h
   .rename_i tm p q hh;obtain ⟨hl,N⟩:=aI h;obtain ⟨o,en⟩:=yB (tm:=tm) (m:=cH x) hl u;generalize enter fr tm (cH x) st=f at N en;unfold ai at N;refine aak (γ:=(fy (iW tm.vs)×aw)×zo) (λg w'=>ll X tb tp tc y fr K (iF f tm g.1.1 q)=some r/\aQ f.c o g.1.2/\Sat (ab g.1.2 [] (iF f tm g.1.1 q).G++(ab g.1.2 [] fr.H++ey g.2::Φ)) w') (λg=>ay g.1.2 [] (iF f tm g.1.1 q).E fr.F) (λg=>mk g.2++D) (λg w' hg=>?_) ?_
    .obtain ⟨g1,g2,g3⟩:=hg;refine S g3 g1 (t.less (en.ag.trans g2 en.le) ?_);have:f.c<=(iF f tm g.1.1 q).c:=by unfold iF;generalize fW (λn=>f.c+n) f.fix tm.vs 0 (iD _ g.1.1)=L;obtain ⟨a,b,c,d⟩:=L;exact qP _ _
     exact ec en.le this
    .have hx:=T (fr:=f.fr) (st:=⟨f.c,f.Et,f.Gt,p⟩) (ρ:=o) (Q:=Exit.then (adz (λ(g:(fy (iW tm.vs)×aw)×zo) w'=>ll X tb tp tc y fr K (iF f tm g.1.1 q)=some r/\aQ f.c o g.1.2/\Sat (ab g.1.2 [] (iF f tm g.1.1 q).G++(ab g.1.2 [] fr.H++ey g.2::Φ)) w') (λg=>ay g.1.2 [] (iF f tm g.1.1 q).E fr.F) fr.n (λg=>mk g.2++D)) Q) en.sat N (λj e st' ρ' w' C O z B=>?_)
     .rw [en.fn] at hx;exact hx.oJ _ en.sub
     .by_cases J:e= .nrm
      .subst J;have v:(match mL f tm st'.E st'.G with|some s=>ll X tb tp tc y fr K (iF f tm s q)|none=>none)=some r:=z;split at v
       .rename_i s hb;obtain ⟨l,E',Y,k,DD,b1,b2,b3,b4⟩:=rq en.lF en.lH en.fx B hb;have eJ:iF f tm s q=⟨f.c+k,E'++f.E,rowsOf Y++f.G,q⟩:=by unfold iF;rw [b1]
        rw [en.fn];refine ajO ((s,l),j) ⟨v,C.trans b2 (c8 _),?_⟩ ?_ rfl
        .rw [eJ];show Sat (ab l [] (rowsOf Y++f.G)++_) w';rw [bg,cb];rw [en.fh,bg,cb] at b4;exact b4
        .rw [eJ];show kT (aF.env l [] (E'++f.E)++_) _;rw [en.ff] at b3;have e2:ay l [] E' (f.E++fr.F)=aF.env l [] (E'++f.E)++aF.env l [] fr.F:=by show aF.env l [] E'++aF.env l [] (f.E++fr.F)=_;rw [pK,pK,cb]
         rw [<-e2,en.ff];exact b3
       .cases v
      .rw [pb J] at z;have:=vF (t j) en.ag en.le en.ff en.fh en.fn e st' ρ' w' C O z B;exact iP J this
   next h' hh=>exact I h' h
   .exact I st.h h
  .exact tl _ u h t
 |loop c ih=>
  intro Q fr K st ρ w ds u h t;unfold ll at h;rcases dR h with ⟨_,h⟩|⟨_,h⟩
  .split at h
   .rename_i tm p hh;obtain ⟨hl,N⟩:=aI h;obtain ⟨o,en⟩:=yB (tm:=tm) (m:=cH c) hl u;generalize enter fr tm (cH c) st=f at N en;split at N
    .rename_i s0 hb0;obtain ⟨l,E',Y,k,DD,b1,b2,b3,b4⟩:=rq en.lF en.lH en.fx en.sat hb0;have eL:∀s E' Y k DD,fW (λn=>f.c+n) f.fix tm.vs 0 (iD _ s)=⟨E',Y,k,DD⟩->cM f tm s p=⟨f.c+k,E',rowsOf Y,p⟩:=λs E' Y k DD hb=>by unfold cM;rw [hb]
     refine ajR (γ:=aw×zo) (λs g w'=>aQ f.c o g.1/\Sat (ab g.1 [] (cM f tm s p).G++(ab g.1 [] f.fr.H++ey g.2::Φ)) w') (λs g=>ay g.1 [] (cM f tm s p).E f.fr.F) (λg=>mk g.2++D) N (l,ds) ⟨b2,?_⟩ ?_ rfl (λM s g w' hag hJ=>?_)
     .rw [eL _ _ _ _ _ b1];exact b4
     .rw [eL _ _ _ _ _ b1];exact b3.trans en.sub
     .have Z:f.c<=(cM f tm s p).c:=by unfold cM;generalize fW (λn=>f.c+n) f.fix tm.vs 0 (iD _ s)=L;obtain ⟨a,b,c,d⟩:=L;exact qP _ _
      have hx:=ih (fr:=f.fr) (st:=cM f tm s p) (ρ:=g.1) (ds:=g.2) (Q:=Exit.then (PB M r (λs (g:aw×zo) w'=>aQ f.c o g.1/\Sat (ab g.1 [] (cM f tm s p).G++(ab g.1 [] f.fr.H++ey g.2::Φ)) w') (λs g=>ay g.1 [] (cM f tm s p).E f.fr.F) fr.n (λg=>mk g.2++D)) Q) hJ.2 hag (λj e st' ρ' w2 C O z B=>?_)
      .rw [en.fn] at hx;exact hx
      .by_cases J:e= .nrm
       .subst J;have v:(match mL f tm st'.E st'.G with|some s=>M s|none=>none)=some r:=z;split at v
        .rename_i s' hb;obtain ⟨ρ3,E2,R2,k2,DD2,d1,d2,d3,d4⟩:=rq en.lF en.lH en.fx B hb;rw [en.fn];refine ah3 s' (ρ3,j) v ⟨(hJ.1.trans (C.less Z) (c8 _)).trans d2 (c8 _),?_⟩ ?_ rfl
         .rw [eL _ _ _ _ _ d1];exact d4
         .rw [eL _ _ _ _ _ d1];exact d3
        .cases v
       .rw [pb J] at z;have:=vF (t j) en.ag en.le en.ff en.fh en.fn e st' ρ' w2 (hJ.1.trans (C.less Z) (c8 _)) (ec Z O) z B;exact iP J this
    .cases N
   .cases h
  .exact tl _ u h t
 |rangeFunc g ps assign body=>
  intro Q fr K st ρ w ds u h t;unfold ll at h;split at h
  .rename_i hi hb th hr hh;split at h
   next gv hg=>have hs2:=su (A:=[]) (p:=gM (reach st fr th)) u;refine af3 (fr:=⟨fr.F,bk (λr=> !(gM (reach st fr th) r)) st.G++fr.H,fr.n⟩) (st:={ st with G:=bk (gM (reach st fr th)) st.G }) U W V htc hg (by simpa [ab] using hs2) h (λp st1 o w1 j C O z B=>t j (LA p) { st1 with E:=st.E,h:=hr,G:=st1.G++bk (λr=> !(gM (reach st fr th) r)) st.G } o w1 C O z ?_);rw [bg,cb];rw [ah1] at*;simpa [ab] using B
   .cases h
  .rename_i hi hb hr _ hh;split at h
   next gv hg=>exact af3 U W V htc hg u h (λp st1 o w1 j C O z B=>t j (LA p) { st1 with E:=st.E,h:=hr } o w1 C O z (by rw [ah1];exact B))
   .cases h
  .cases h
 |_=>intro Q fr K st ρ w ds u h t;exact tl _ u (by unfold ll at h;exact h) t
def alk(K:XE->aB->Option R):XE->aB->Option R
 | .nrm,st=>K .nrm st
 | .ret,st=>K .ret st
 |_,_=>none
theorem ajb(d:∀it∈X.Γ,it∈Φ)(j:∀e∈tb,e.Ok X.P X.Γ)(g:∀e∈tp,e.Ok X.P X.Γ)(i:∀c∈tc,c.Ok X.P){fn:Func}{S:Value->World->Prop}{Sp:x7->World->Prop}(c:Code){fr:Fr}{K:XE->aB->Option R}{st:aB}{ρ:aw}{w:World}
  (s:Sat (ab ρ [] st.G++(ab ρ [] fr.H++Φ)) w) (h:ll X tb tp tc c fr (alk K) st=some r) (m:kO (BP X.P fn S Sp) [] fr Φ st.c ρ r K):WC X.P none c (BP X.P fn S Sp) fr.n [] (ay ρ [] st.E fr.F) w:=by
 have k:Sat (ab ρ [] st.G++(ab ρ [] fr.H++ey []::Φ)) w:=by
  have l:Sat (ey []::((ab ρ [] st.G++ab ρ [] fr.H)++Φ)) w:=by rw [cb];exact s.anI
  have:=l.behind;rwa [cb] at this
 refine amj (D:=[]) (ds:=[]) d j g i c k h (λds e st' ρ' w' q p a t=>?_);have o:Sat (ey ds::(ab ρ' [] st'.G++(ab ρ' [] fr.H++Φ))) w':=by
  have l:Sat ((ab ρ' [] st'.G++ab ρ' [] fr.H)++ey ds::Φ) w':=by rw [cb];cases e <;> first|exact t|cases a
  have:=l.front;rwa [cb] at this
 rw [ma];cases e with
 |nrm=>exact Ye ds o (λb f=>m .nrm st' ρ' b q p a f)
 |ret=>exact Po ds o (λb f=>m .ret st' ρ' b q p a f)
 |_=>cases a
end
abbrev aqB{R:Type}(E0:aF)(K:aB->Option R):XE->aB->Option R
 | .nrm,st=>K { st with E:=E0 }
 | .ret,st=>K { st with E:=E0 }
 |_,_=>none
def Uh{R:Type}(X:Cx)(tb:List aC)(tp:List bX)(cl:ov)(cap:List AV)(v:AV)(fr:Fr)(st:aB)(K:aB->Option R):Option R:=match cl.fn.body with
 |some (.seq (.region _ ops false) y)=>(match ops.toList with
  |⟨some d,.call ⟨.builtin .recover,xs,_⟩,_,_,_,none⟩::l=>aD (xs.isEmpty&&l.all Wy&&cl.fn.results.isEmpty&&Nat.ble cap.length cl.fn.ntmps&&Nat.blt d cl.fn.ntmps) (
    Dp X tb tp (λ_ _ _=>none) ops.toList ⟨[],fr.H,cl.fn.ntmps⟩ l [] { st with E:=(d,none,v)::oS 0 cap,h:= .c (.r (List.range cap.length) .o) (.c (.r (List.range cap.length) .o) .o) } (λst1=>den X tb tp y ⟨[],fr.H,cl.fn.ntmps⟩ (aqB st.E K) st1)) none
  |_=>none)
 |_=>none
section
variable {X : Cx} {tb : List aC} {tp : List bX} {D : za} {R : Type} {r : R} {Φ : Ctx}
theorem Mq{b:ov}{cap:List AV}{v:AV}{st:aB}{K:aB->Option R}{u u':FrameMode}{T:World->Prop}(C:b.Ok X.P)(m:∀it∈X.Γ,it∈Φ)(q:∀e∈tb,e.Ok X.P X.Γ)(p:∀e∈tp,e.Ok X.P X.Γ)
  (Z:Sat (ab ρ [] st.G++(ab ρ [] fr.H++Φ)) w) (Y:(u= .returning/\u'= .returning/\v.val ρ= .nilIface)\/(u= .panicking (jI (v.val ρ))/\u'= .panicking [{ v:=v.val ρ,recovered:=true }]))
  (h:Uh X tb tp b cap v fr st K=some r) (hK:∀(st':aB) (ρ':aw) (w':World),aQ st.c ρ ρ'->st.c<=st'.c->K { st' with E:=st.E }=some r->Sat (ab ρ' [] st'.G++(ab ρ' [] fr.H++Φ)) w'->T w'):
  JV X.P b.f (AV.aj ρ cap) u w λW w'=>W=u'/\T w':=by
 unfold Uh at h;split at h
 .rename_i id ops y hb;split at h
  .rename_i d xs tys ty pos af l a;obtain ⟨N,M⟩:=aI h;simp only [an] at N;obtain ⟨⟨⟨⟨h3,h4⟩,h5⟩,h6⟩,h7⟩:=N;have B:xs= #[]:=by simpa using h3
   subst B;have s:b.fn.results= #[]:=by simpa using h5
   refine Si (n:=b.fn.ntmps) C.2 hb a h4 s rfl (by rw [AV.bD];exact h6) h7 Y ?_;obtain ⟨A⟩:=ops;simp only at a M;have:=abN (σ:=none) (D:=[]) (Q:=Exit.then (y.wpIn (FW none) 0 X.P (QB T)) (QB T)) (ρ:=ρ) (w:=w) (r:=r) (ops:=A) (fr:=⟨[],fr.H,b.fn.ntmps⟩) (st:={ st with E:=(d,none,v)::oS 0 cap,h:= .c (.r (List.range cap.length) .o) (.c (.r (List.range cap.length) .o) .o) }) m q p (λx h=>by cases h) (λx h=>by cases h) ⟨λx _=>rfl,λx _=>rfl⟩ Z M (λst1 z w1 J t I V=>?_) (λlb v st1 z w1 J t I V=>by cases I)
   .have e1:ay ρ [] ((d,none,v)::oS 0 cap) []=(d,true,v.val ρ)::iota 0 (AV.aj ρ cap):=by show aF.env ρ [] ((d,none,v)::oS 0 cap)++[]=_;simp only [aF.env,aA.get_none,C4,ma]
    have e2:ay ρ [] ({ st with E:=(d,none,v)::oS 0 cap,h:= .c (.r (List.range cap.length) .o) (.c (.r (List.range cap.length) .o) .o) }:aB).E (⟨[],fr.H,b.fn.ntmps⟩:Fr).F=(d,true,v.val ρ)::iota 0 (AV.aj ρ cap):=e1;rw [e2] at this;exact this
   .refine ba (gw (σ:=none) (D:=[]) m q p y (fr:=⟨[],fr.H,b.fn.ntmps⟩) V I (λe k j L U S g O=>?_));cases e with
    |nrm=>exact aqj (hK k j L (J.trans U t) (ec t S) g O)
    |ret=>exact aoC (hK k j L (J.trans U t) (ec t S) g O)
    |ext i=>cases g
    |gto l=>cases g
    |jI v=>cases g
    |panE v=>cases g
    |panL v=>cases g
  .cases h
 .cases h
end
def adk:zl->Option (zl×Operand)
 |[]=>none
 |o::l=>(match l with
  |[]=>(match o with
   |⟨none,.defer ⟨.value fo,xs,_⟩,_,_,_,none⟩=>aD xs.isEmpty (some ([],fo)) none
   |_=>none)
  |_::_=>(match adk l with
   |some p=>some (o::p.1,p.2)
   |none=>none))
theorem abn:{l l':zl}->{fo:Operand}->adk l=some (l',fo)->∃tys ty pos af,l=l'++[⟨none,.defer ⟨.value fo,#[],tys⟩,ty,pos,af,none⟩]
 |[],_,_,h=>by cases h
 |o::l,l',fo,h=>by
  unfold adk at h;split at h
  .split at h
   .obtain ⟨b,a⟩:=aI h;rename_i xs _ _ _ _;have:xs= #[]:=by simpa using b
    subst this;cases a;exact ⟨_,_,_,_,rfl⟩
   .cases h
  .split at h
   next p hp=>cases h;obtain ⟨tys,ty,pos,af,a⟩:=abn (fo:=p.2) (l':=p.1) (by rw [hp]);exact ⟨tys,ty,pos,af,by rw [a];rfl⟩
   .cases h
def adN:Code->Option (zl×zl×Operand)
 | .region _ ops false=>(match adk ops.toList with
  |some p=>some (ops.toList,p.1,p.2)
  |none=>none)
 |_=>none
def alm:Code->Bool
 | .scope _=>true
 | .seq x y=>(adN x).isSome||alm y
 |_=>false
def OB:List Row->Bool
 |[]=>true
 |r::H=>r.cL&&OB H
theorem Sd:{H:List Row}->OB H=true->dp H=H
 |[],_=>rfl
 |r::H,h=>by simp only [OB,an] at h;show aD r.cL (r::dp H) (dp H)=r::H;rw [h.1,Sd h.2]
def aqS{R:Type}(X:Cx)(tb:List aC)(tp:List bX)(cl:ov)(cap:List AV)(fr:Fr)(K:XE->aB->Option R):XE->aB->Option R
 | .nrm,st=>aD (st.low fr) (Uh X tb tp cl cap (.raw .nilIface) fr st (K .ret)) none
 | .ret,st=>aD (st.low fr) (Uh X tb tp cl cap (.raw .nilIface) fr st (K .ret)) none
 | .panE v,st=>aD (st.low fr) (Uh X tb tp cl cap v fr st (K .ret)) none
 | .panL v,st=>aD (OB fr.H) (aD (st.low fr) (Uh X tb tp cl cap v fr st (K .ret)) none) none
 |_,_=>none
def aeK{R:Type}(X:Cx)(tb:List aC)(tp:List bX)(tc:List ov):Code->Fr->(XE->aB->Option R)->aB->Option R
 | .scope c,fr,K,st=>ajj X tb tp c fr K st
 | .seq x y,fr,K,st=>(match adN x with
  |some p=>Dp X tb tp (λb v st=>K (aD b (.panL v) (.panE v)) st) p.1 fr p.2.1 [] (A8 st) (λst1=>match bu [] st1.E fr.F none p.2.2 with
   |some (.fn f [] cap)=>(match Qs tc f with
    |some cl=>aD (AV.cj st1.c cap) (den X tb tp y fr (aqS X tb tp cl cap fr K) st1) none
    |none=>none)
   |_=>none)
  |none=>aD (alm y) (den X tb tp x fr (xt (aeK X tb tp tc y fr K) K) (A8 st)) (aD (rT x||rT y) (ll X tb tp tc (.seq x y) fr (alk K) st) (den X tb tp (.seq x y) fr K st)))
 |c,fr,K,st=>den X tb tp c fr K st
section
variable {X : Cx} {tb : List aC} {tp : List bX} {tc : List ov} {R : Type} {r : R} {Φ : Ctx} {fn : Func} {S : Value -> World -> Prop} {Sp : x7 -> World -> Prop}
theorem ams{c:Code}{p:zl×zl×Operand}(h:adN c=some p):∃id ops,c= .region id ops false/\ops.toList=p.1/\∃tys ty pos af,p.1=p.2.1++[⟨none,.defer ⟨.value p.2.2,#[],tys⟩,ty,pos,af,none⟩]:=by
 unfold adN at h;split at h
 .rename_i id ops;split at h
  next q a=>cases h;exact ⟨id,ops,rfl,rfl,abn a⟩
  .cases h
 .cases h
theorem am3(d:∀it∈X.Γ,it∈Φ)(j:∀e∈tb,e.Ok X.P X.Γ)(g:∀e∈tp,e.Ok X.P X.Γ)(M:∀c∈tc,c.Ok X.P):∀(c:Code) {fr:Fr} {K:XE->aB->Option R} {st:aB} {ρ:aw} {w:World},Sat (ab ρ [] st.G++(ab ρ [] fr.H++Φ)) w->
  aeK X tb tp tc c fr K st=some r->kO (BP X.P fn S Sp) [] fr Φ st.c ρ r K->WC X.P none c (BP X.P fn S Sp) fr.n [] (ay ρ [] st.E fr.F) w:=λc=>by
 induction c with
 |scope c=>intro fr K st ρ w B h s;exact amN d j g B h s
 |seq x y ihx W=>
  intro fr K st ρ w B h s;obtain ⟨p1,p2,p3⟩:=acI (st:=st);unfold aeK at h;split at h
  .rename_i p hp;obtain ⟨id,ops,rfl,e1,tys,ty,pos,af,e2⟩:=ams hp;refine bp (bh ?_);obtain ⟨opl⟩:=ops;simp only at e1;subst e1;have hw:=It (σ:=none) (D:=[]) (Q:=Exit.then (y.wpIn (FW none) 0 X.P (BP X.P fn S Sp)) (BP X.P fn S Sp)) (ρ:=ρ) (w:=w) (st:=A8 st) (rest:=[⟨none,.defer ⟨.value p.2.2,#[],tys⟩,ty,pos,af,none⟩]) d j g (λx h=>by cases h) (λx h=>by cases h) ⟨λx _=>rfl,λx _=>rfl⟩ (by rw [p3];exact B) h (λst1 k w1 z t m L=>?_) (λlb v st1 k w1 z t m L=>?_)
   .rw [p2,<-e2] at hw;exact hw
   .split at m
    .rename_i f cap Y;split at m
     .rename_i cl hcl;obtain ⟨b1,b2⟩:=aI m;obtain ⟨c1,c2⟩:=O4 M hcl;have C:=bK (ρ:=k) Y;simp only [AV.val,AV.aj] at C;subst c2;refine ajl C (cd (ba ?_));rw [p1] at z t;refine gw (σ:=none) (D:=[Nq cl.f (AV.aj k cap)]) d j g y L b2 (λe b a w2 d1 d2 A V=>?_);have N:AV.aj a cap=AV.aj k cap:=AV.bZ d1 _ b1;have U:b.low fr=true->∀(q:aB) (o:aw) (O:World),aQ b.c a o->b.c<=q.c->K .ret { q with E:=b.E }=some r->Sat (ab o [] q.G++(ab o [] fr.H++Φ)) O->At (BP X.P fn S Sp) .ret fr.n [] (ay a [] b.E fr.F) O:=λhl q o O f1 f2 f3 f4=>by have:=s .ret { q with E:=b.E } o O (z.trans (d1.trans f1 d2) t) (ec t (ec d2 f2)) f3 f4;rw [<-pC hl f1];exact this
      rw [<-N];cases e with
      |nrm=>
       obtain ⟨J,I⟩:=aI A;exact ahT c1.1 (Mq (u:= .returning) (T:=λw'=>At (BP X.P fn S Sp) .ret fr.n [] (ay a [] b.E fr.F) w') c1 d j g V (.inl ⟨rfl,rfl,rfl⟩) I (U J)) (λ_ h=>h)
      |ret=>
       obtain ⟨J,I⟩:=aI A;exact ahT c1.1 (Mq (u:= .returning) (T:=λw'=>At (BP X.P fn S Sp) .ret fr.n [] (ay a [] b.E fr.F) w') c1 d j g V (.inl ⟨rfl,rfl,rfl⟩) I (U J)) (λ_ h=>h)
      |ext i=>cases A
      |gto l=>cases A
      |jI v=>cases A
      |panE v=>
       obtain ⟨J,I⟩:=aI A;have hp:=Mq (u:= .panicking (jI (v.val a))) (T:=λw'=>At (BP X.P fn S Sp) .ret fr.n [] (ay a [] b.E fr.F) w') c1 d j g V (.inr ⟨rfl,rfl⟩) I (U J);exact abw c1.1 hp (λ_ h=>h)
      |panL v=>
       obtain ⟨l0,A⟩:=aI A;obtain ⟨J,I⟩:=aI A;have d5:Sat (ab a [] b.G++(ab a [] (dp fr.H)++Φ)) w2:=V;rw [Sd l0] at d5;have hp:=Mq (u:= .panicking (jI (v.val a))) (T:=λw'=>At (BP X.P fn S Sp) .ret fr.n [] (ay a [] b.E fr.F) w') c1 d j g d5 (.inr ⟨rfl,rfl⟩) I (U J);exact abw c1.1 hp (λ_ h=>h)
     .cases m
    .cases m
   .rw [p1] at z t;cases lb
    .exact Jo (s (.panE v) st1 k w1 z t m L)
    .exact Jo (s (.panL v) st1 k w1 z t m L)
  .rename_i hp;rcases dR h with ⟨h1,h2⟩|⟨_,h2⟩
   .refine bp ?_;have:=gw (σ:=none) (D:=[]) d j g x (fr:=fr) (st:=A8 st) (ρ:=ρ) (w:=w) (Q:=Exit.then (y.wpIn (FW none) 0 X.P (BP X.P fn S Sp)) (BP X.P fn S Sp)) (by rw [p3];exact B) h2 (λe st' ρ' w' z t m L=>?_)
    .rw [p2] at this;exact this
    .rw [p1] at z t;by_cases Z:e= .nrm
     .subst Z;exact ba (W L m (s.less z t))
     .rw [pb Z] at m;exact iP Z (s e st' ρ' w' z t m L)
   .rcases dR h2 with ⟨_,h3⟩|⟨_,h3⟩
    .exact ajb d j g M (.seq x y) B h3 s
    .exact gw d j g (.seq x y) B h3 s
 |_=>intro fr K st ρ w B h s;exact gw d j g _ B h s
end
end
end Go.Proofs.YtcgihjbfppkcfaaGreatDoor
