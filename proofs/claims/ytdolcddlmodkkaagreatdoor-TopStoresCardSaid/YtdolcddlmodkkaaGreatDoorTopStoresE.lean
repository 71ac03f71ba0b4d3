/- Own texts for TopStores, cut and joined by a program. -/
import Derived.Test.YtdolcddlmodkkaaGreatDoorTopStoresD
import Derived.Lib.ItoaNum
import Derived.Shelf.Strings.Cut
import Derived.Shelf.LaysM
import Derived.Shelf.Strings.FieldsFuncAny
import Derived.Lib.TrimUEq
import Derived.Lib.SpaceUEq
set_option linter.all false
namespace Go.Proofs.YtdolcddlmodkkaaGreatDoor
noncomputable section
variable {P : Program} {o : Oper} {w : World} {ρ : aB}
open Go.Lib
def kf:Nat->List AV->aG
 |_,[]=>[]
 |k,v::vs=>(k,none,v)::kf (k+1) vs
theorem yW{ρ:aB}:{vs:List AV}->{k:Nat}->aG.env ρ [] (kf k vs)=iota k (AV.ar ρ vs)
 |[],_=>rfl
 |v::vs,k=>by simp only [kf,aG.env,AV.ar,iota,aD.get_none,yW]
structure lJ where
 f:FuncId
 fn:Func
def lJ.Ok(P:Program)(c:lJ):Prop:=Enters P c.f/\P.funcs[c.f]? =some c.fn
def Xt:List lJ->Nat->Option lJ
 |[],_=>none
 |c::l,f=>aC (Nat.beq c.f f) (some c) (Xt l f)
theorem Vm{P:Program}{f:Nat}{c:lJ}:{l:List lJ}->(∀c∈l,c.Ok P)->Xt l f=some c->c.Ok P/\c.f=f
 |[],_,h=>by cases h
 |c'::l,hl,h=>by
  unfold Xt at h;rcases dT h with ⟨d,a⟩|⟨_,a⟩
  .cases a;exact ⟨hl _ (ct ..),ai d⟩
  .exact Vm (λc b=>hl c (cb _ b)) a
structure YC(R:Type) where
 id:Nat
 rnd:List AV->aE->(Bool->Nat->aE->Option R)->Option R
def YOk{R:Type}(X:Cx)(y:YC R)(r:R)(ly:Nat)(ρ0:aB)(H0:List Row)(Φ:Nat->Ctx):Prop:=
 ∀(vs:List AV) (st:aE) (ρ:aB) (w:World) (H1:List Row) (KY:Bool->Nat->aE->Option R),y.id<st.c->aW (y.id+1) ρ0 ρ->AV.cm st.c vs=true->bI st.c st.G=true->bI st.c (H1++H0)=true->
  Sat (ab ρ [] st.G++(ab ρ [] (H1++H0)++Φ 0)) w->y.rnd vs st KY=some r->
  Yld X.P ly (AV.ar ρ vs) w (λv w'=>∃b p' st' ρ',v= .bool b/\aW st.c ρ ρ'/\st.c<=st'.c/\KY b p' st'=some r/\Sat (ab ρ' [] st'.G++(ab ρ' [] (H1++H0)++Φ p')) w')
def noG:List Row->Bool
 |[]=>true
 |r::G=>tu r.gd&&noG G
theorem aoq:{G:List Row}->noG G=true->∀r,r∈G->r.gd=none
 |[],_,_,h=>by cases h
 |x::G,h,r,a=>by
  simp only [noG,ah] at h;rcases List.mem_cons.1 a with rfl|a
  .cases b:r.gd with
   |none=>rfl
   |some k=>rw [b] at h;cases h.1
  .exact aoq h.2 r a
theorem Wi{T T':aD}{G:List Row}(h:∀r,r∈G->r.gd=none):ab ρ T G=ab ρ T' G:=
 qB λr a=>Row.DV (by rw [h r a];simp)
theorem agy{T:aD}{fr:Fr}(b:FT T fr):ab ρ T fr.H=ab ρ [] fr.H:=
 qB λr a=>Row.DV (b.2 r a)
def amj{R:Type}(y:YC R)(T:aD)(fr:Fr)(st:aE)(o:Oper)(p:Nat)(K:Nat->cT R):Option (Option R):=match o.guard,o.op,o.dst with
 |none,.call c,some d=>(match c.callee with
  | .value fo=>(match bC T st.E fr.F none fo with
   |some (.nv i)=>some (aC (Nat.beq i y.id&&Nat.beq p 0&&Nat.blt d fr.n&&pn (some d) T&&st.low fr&&noG st.G) (match sy T st.E fr.F none c.args.toList with
     |some vs=>aC (AV.cm st.c vs) (y.rnd vs st (λb p' st'=>K p' { st' with E:=cL (some d) none (.bool b) st.E,G:=l8 st'.G,h:=st.h })) none
     |none=>none) none)
   |_=>none)
  |_=>none)
 |_,_,_=>none
inductive UG where
 |cE|skip|run|no
def unK(ops:zz)(fr:Fr)(kn:zC)(E:aG)(o:Oper):UG:=match o.guard with
 |none=> .cE
 |some k=>aC (vf k.1 kn) (match (ops[k.1]?).bind (·.dst) with
  |some rj=>aC (Nat.blt rj fr.n) (match ek E fr.F rj with
   |some (none,.bool b)=>(match yZ k.2 b with
    |true=> .run
    |false=> .skip)
   |_=> .no) .no
  |none=> .no) .cE
def knT(ops:zz)(t:Tmp):zC->Bool
 |[]=>false
 |j::kn=>(match (ops[j]?).bind (·.dst) with
  |some d=>Nat.beq d t
  |none=>false)||knT ops t kn
def ZJ(ops:zz)(fr:Fr)(kn:zC)(E:aG)(o:Oper):Oper:=match o.guard,o.op with
 |none,.pick (.tmp t) x y=>aC (knT ops t kn) (match ek E fr.F t with
  |some (none,.bool v)=>(match v with
   |true=>{ o with op:= .move x }
   |false=>{ o with op:= .move y })
  |_=>o) o
 |_,_=>o
def unO(ops:zz)(fr:Fr)(kn:zC)(E:aG)(o:Oper):UG->Oper
 | .run=>{ o with guard:=none }
 |_=>ZJ ops fr kn E o
def mW{R:Type}(X:Cx)(tb:List au)(y:YC R)(ops:zz)(fr:Fr):zz->zC->aD->aE->Nat->(Nat->cT R)->Option R
 |[],_,T,st,p,K=>aC (EU T fr st) (K p (AP T st)) none
 |o::l,kn,T,st,p,K=>match unK ops fr kn st.E o with
  | .no=>none
  | .skip=>(match o.guard with
   |some k=>aC (Pv fr.n o.dst&&pn o.dst T&& !(VL k T)) (mW X tb y ops fr l kn T { st with E:=cL o.dst (some k) (.raw undef) st.E } p K) none
   |none=>none)
  |u=>match amj y T fr st (unO ops fr kn st.E o u) p (λp' st'=>mW X tb y ops fr l kn T st' p' K) with
   |some q=>q
   |none=>stepG ops T fr st (unO ops fr kn st.E o u) λT g=>opD X tb T fr st g (unO ops fr kn st.E o u) λst'=>match st'.h,o.dst with
    | .n j (.c ha hb),some d=>aC (Nat.beq j (ops.length-l.length-1)&&pn (some d) T) (match bE st'.E d with
      |some (none,.bool b)=>cond b (mW X tb y ops fr l (j::kn) T { st' with E:=(d,none,.bool true)::st'.E,h:=ha } p K) (mW X tb y ops fr l (j::kn) T { st' with E:=(d,none,.bool false)::st'.E,h:=hb } p K)
      |_=>none) (mW X tb y ops fr l kn T st' p K)
    |_,_=>mW X tb y ops fr l kn T st' p K
section
variable {R : Type} {r : R} {X : Cx} {tb : List au} {y : YC R} {σ : zt} {Q : bD} {D : zm} {ops : zz} {fr : Fr} {Φ : Nat -> Ctx} {ly : Nat} {H0 H1 : List Row} {ρ0 : aB}
theorem auG{P:Program}{n:Nat}{E:Env}{w:World}{ops:zv}{rest:zz}{o:Oper}{j:Nat}{b:Bool}{rj:Tmp}{i:Bool}(d:o.guard=some (j,b))(m:(ops[j]?).bind (·.dst)=some rj)(l:look E rj=some (true,.bool i))(k:Nat.blt rj n=true)(hb:yZ b i=true)
  (h:WL P σ ops Q n D ({ o with guard:=none }::rest) E w):WL P σ ops Q n D (o::rest) E w:=λa g p=>by
 have c:=h a g p;have f:=GC (ops:=ops) d m l g k;rw [<-Qb,hb] at f;unfold wpListIn at c ⊢;rw [f];have e:Region.wanted { o with guard:=none } (yielded ops a.tmps)=true:=by simp [Region.wanted]
 rw [e] at c;simp only [qm,qQ] at c ⊢;exact c
theorem auu{P:Program}{n:Nat}{E:Env}{w:World}{ops:zv}{rest:zz}{o:Oper}{j:Nat}{b:Bool}{rj:Tmp}{e:Bool}(c:o.guard=some (j,b))(k:(ops[j]?).bind (·.dst)=some rj)(i:look E rj=some (true,.bool e))(f:Nat.blt rj n=true)(hb:yZ b e=false)(l:Pv n o.dst=true)
  (h:WL P σ ops Q n D rest (se o.dst false undef E) w):WL P σ ops Q n D (o::rest) E w:=λa d p=>
 wpListIn_step λK m=>by rw [GC c k i d f,<-Qb,hb];simp only [qm,pA,qT];have:=d.se (g:=false) (v:=undef) l;exact ⟨λ_ _=>trivial,m _ _ (h _ this (by rw [jx];exact p))⟩
def IsY(y:YC R)(ρ0:aB)(ρ:aB)(c:Nat):Prop:=y.id<c/\aW (y.id+1) ρ0 ρ
theorem IsY.less{ρ0 ρ':aB}{c a:Nat}(h:IsY y ρ0 ρ c)(d:aW c ρ ρ')(b:c<=a):IsY y ρ0 ρ' a:=⟨gr h.1 b,h.2.trans d h.1⟩
theorem avr{T:aD}{st:aE}{o:Oper}{p:Nat}{K:Nat->cT R}{l:zz}{ρ:aB}{w:World}{q:Option R}(g:(ρ0 y.id).x= .func (.yield ly) #[] #[])(hY:YOk X y r ly ρ0 H0 Φ)(t:fr.H=H1++H0)(s:IsY y ρ0 ρ st.c)(h1:fM T st.E fr.F)(C:FT T fr)
  (Z:Sat (ab ρ T st.G++(ab ρ T fr.H++Φ p)) w) (h:amj y T fr st o p K=some q) (hq:q=some r)
  (next:∀p' st' ρ' w',fM T st'.E fr.F->aW st.c ρ ρ'->st.c<=st'.c->K p' st'=some r->Sat (ab ρ' T st'.G++(ab ρ' T fr.H++Φ p')) w'->WL X.P σ ops.toArray Q fr.n D l (az ρ' T st'.E fr.F) w'):
  WL X.P σ ops.toArray Q fr.n D (o::l) (az ρ T st.E fr.F) w:=by
 obtain ⟨dst,op,ty,pos,af,gd⟩:=o;unfold amj at h;split at h
 .rename_i c d B z I;simp only at B z I;subst B z I;split at h
  .rename_i fo J;split at h
   .rename_i i m;injection h with h
    rw [hq] at h;obtain ⟨M,u⟩:=aI h;clear h;simp only [ah] at M;obtain ⟨⟨⟨⟨⟨c1,c2⟩,c3⟩,c4⟩,L⟩,c6⟩:=M;have e1:=ai c1;have e2:=ai c2;subst e1 e2;split at u
    .rename_i vs f;obtain ⟨b2,h⟩:=aI u;obtain ⟨cc,xs,tys⟩:=c;simp only at J f;subst J;have a:=bL (ρ:=ρ) m;simp only [AV.val] at a;rw [s.2 _ (qx _),g] at a;have e:=ie (ρ:=ρ) f;rw [aD.get_none] at e;obtain ⟨_,_,W,V⟩:=aE.cS.1 L;have hG:=aoq c6;have k:Sat (ab ρ [] st.G++(ab ρ [] (H1++H0)++Φ 0)) w:=by rw [<-t,<-agy C,Wi (T':=T) hG];exact Z
     have j:=hY vs st ρ w H1 _ s.1 s.2 b2 W (by rw [<-t];exact V) k h;refine apY (xs:=xs.toList) (vs:=AV.ar ρ vs) a e c3 j (λv w' Y=>?_);obtain ⟨b,p',st',ρ',rfl,O,a2,a3,N⟩:=Y;rw [<-t] at N;have hE:az ρ' T st.E fr.F=az ρ T st.E fr.F:=oY L O;have:=next p' { st' with E:=cL (some d) none (.bool b) st.E,G:=l8 st'.G,h:=st.h } ρ' w' (h1.out (d:=some d) c4 none (.bool b)) O a2 a3 (by
      have U:=C9 (A:=[]) N;have e3:ab ρ' T (l8 st'.G)=ab ρ' [] (l8 st'.G):=Wi AZ;have S:Sat (ab ρ' T (l8 st'.G)++(ab ρ' T fr.H++Φ p')) w':=by rw [e3,agy C];exact U
      exact S)
     rw [vT,hE] at this;simpa [se,AV.val] using this
    .cases u
   .cases h
  .cases h
 .cases h
theorem atq{n:Nat}{E:Env}{ops:zv}{rest:zz}{c x y:Operand}{v:Bool}{dst:zu}{ty:TypeId}{pos:String}{af:zw}(g:aw E true c (.bool v))
  (h:WL P σ ops Q n D (⟨dst,.move (cond v x y),ty,pos,af,none⟩::rest) E w):WL P σ ops Q n D (⟨dst,.pick c x y,ty,pos,af,none⟩::rest) E w:=λa d j=>
 wpListIn_plain rfl λK i=>lY rfl (by
  have b:=h a d j;unfold wpListIn at b;have l:Region.wanted ⟨dst,.move (cond v x y),ty,pos,af,none⟩ (yielded ops a.tmps)=true:=rfl;rw [cN l] at b;have k:=Oper.wpIn_mono i b;obtain ⟨_,f⟩:=k;rw [show (FW σ).round=σ from rfl,Lp rfl] at f;have e:(execOp a.eval ⟨dst,.pick c x y,ty,pos,af,none⟩).run P w=(execOp a.eval ⟨dst,.move (cond v x y),ty,pos,af,none⟩).run P w:=by cases v <;> simp [execOp,g n a d rfl,asBool]
  rw [e];exact f)
theorem aqQ{a:zC}{E:aG}:(ZJ ops fr a E o).dst=o.dst:=by
 unfold ZJ;split
 .cases knT ops _ a
  .rfl
  .split
   .split <;> rfl
   .rfl
 .rfl
theorem avj{a:zC}{E:aG}{o:Oper}{ρ:aB}{T:aD}{w:World}{l:zz}(h:WL X.P σ ops.toArray Q fr.n D (ZJ ops fr a E o::l) (az ρ T E fr.F) w):WL X.P σ ops.toArray Q fr.n D (o::l) (az ρ T E fr.F) w:=by
 obtain ⟨dst,op,ty,pos,af,gd⟩:=o;unfold ZJ at h;split at h
 .rename_i t x y d b;simp only at d b;subst d b;cases c:knT ops t a
  .rw [c] at h;exact h
  .rw [c] at h;split at h
   next v e=>refine atq (v:=v) ?_ (by cases v <;> exact h);exact aw.t (by rw [hZ,e];simp [AV.val])
   .exact h
 .exact h
theorem aeJ{k:Nat×Bool}:{T:aD}->VL k T=false->T.get (some k)=false
 |[],_=>rfl
 |(k',par,rj,b)::T,h=>by
  simp only [VL,qy] at h;have a:GK.eq (some k') (some k)=false:=by
   cases hb:GK.eq (some k') (some k)
   .rfl
   .have e:=GK.eq_eq hb;cases e;rw [GK.ai8] at h;cases h.1
  unfold aD.get;rw [a];exact aeJ h.2
theorem ai5(S:∀p,∀it∈X.Γ,it∈Φ p)(V:∀e∈tb,e.Ok X.P X.Γ)(U:(ρ0 y.id).x= .func (.yield ly) #[] #[])(hY:YOk X y r ly ρ0 H0 Φ)(hH:fr.H=H1++H0){K:Nat->cT R}:∀{l:zz} {f:zC} {T:aD} {st:aE} {p:Nat} {ρ:aB} {w:World},IsY y ρ0 ρ st.c->fM T st.E fr.F->pM ops fr.n T->FT T fr->Sat (ab ρ T st.G++(ab ρ T fr.H++Φ p)) w->
  mW X tb y ops fr l f T st p K=some r->
  (∀p' st' ρ' w',aW st.c ρ ρ'->st.c<=st'.c->K p' st'=some r->Sat (ab ρ' [] st'.G++(ab ρ' [] fr.H++Φ p')) w'->At Q .normal fr.n D (az ρ' [] st'.E fr.F) w')->
  WL X.P σ ops.toArray Q fr.n D l (az ρ T st.E fr.F) w
 |[],f,T,st,p,ρ,w,hI,h1,h2,hf,hs,h,next=>by
  unfold mW at h;obtain ⟨h3,h4⟩:=aI h;obtain ⟨k1,k2,k3⟩:=Ke h3 hf hs;exact cg λa C hd=>next p _ ρ w .refl (by rw [k1];exact b7 _) h4 k3 a (C.nS k2) hd
 |o::l,f,T,st,p,ρ,w,hI,h1,h2,hf,hs,h,next=>by
  have O:∀{f:zC} {T':aD} {st':aE} {p':Nat} {ρ':aB} {w':World},aW st.c ρ ρ'->st.c<=st'.c->fM T' st'.E fr.F->pM ops fr.n T'->FT T' fr->Sat (ab ρ' T' st'.G++(ab ρ' T' fr.H++Φ p')) w'->mW X tb y ops fr l f T' st' p' K=some r->
    WL X.P σ ops.toArray Q fr.n D l (az ρ' T' st'.E fr.F) w':=λ{f T' st' p' ρ' w'} B z L J I Z a7=>
   ai5 S V U hY hH (hI.less B z) L J I Z a7 (λp2 st2 ρ2 w2 u s b3 b4=>next p2 st2 ρ2 w2 (B.trans u z) (c9 z s) b3 b4)
  -- the operation itself, guarded or not
  have A:∀M:Oper,M.dst=o.dst->(match amj y T fr st M p (λp' st'=>mW X tb y ops fr l f T st' p' K) with
   |some q=>q
   |none=>stepG ops T fr st M λT g=>opD X tb T fr st g M λst'=>match st'.h,o.dst with
    | .n j (.c Y hb),some d=>aC (Nat.beq j (ops.length-l.length-1)&&pn (some d) T) (match bE st'.E d with
      |some (none,.bool b)=>cond b (mW X tb y ops fr l (j::f) T { st' with E:=(d,none,.bool true)::st'.E,h:=Y } p K) (mW X tb y ops fr l (j::f) T { st' with E:=(d,none,.bool false)::st'.E,h:=hb } p K)
      |_=>none) (mW X tb y ops fr l f T st' p K)
    |_,_=>mW X tb y ops fr l f T st' p K)=some r->WL X.P σ ops.toArray Q fr.n D (M::l) (az ρ T st.E fr.F) w:=λM ho' h=>by
   split at h
   next q W=>exact avr U hY hH hI h1 hf hs W h (λp' st' ρ' w' B z L J I=>O z L B h2 hf I J)
   .refine agR (K:=λT st'=>match st'.h,o.dst with
     | .n j (.c Y hb),some d=>aC (Nat.beq j (ops.length-l.length-1)&&pn (some d) T) (match bE st'.E d with
       |some (none,.bool b)=>cond b (mW X tb y ops fr l (j::f) T { st' with E:=(d,none,.bool true)::st'.E,h:=Y } p K) (mW X tb y ops fr l (j::f) T { st' with E:=(d,none,.bool false)::st'.E,h:=hb } p K)
       |_=>none) (mW X tb y ops fr l f T st' p K)
     |_,_=>mW X tb y ops fr l f T st' p K) h1 h2 rfl (λ_ h=>h) hf hs (S p) V h (λT' st' ρ' w' B z L J I Z a7 a8=>?_)
    split at Z
    .rename_i j Y hb d hh hd;rcases dT Z with ⟨u,s⟩|⟨_,s⟩
     .simp only [ah] at u;split at s
      .rename_i b hl;have one:∀(v:Bool) (h':HT),b=v->mW X tb y ops fr l (j::f) T' { st' with E:=(d,none,.bool v)::st'.E,h:=h' } p K=some r->WL X.P σ ops.toArray Q fr.n D l (az ρ' T' st'.E fr.F) w':=λv h' hb m=>by
        have:=O (st':={ st' with E:=(d,none,.bool v)::st'.E,h:=h' }) J I (B.out (d:=some d) u.2 none (.bool v)) z L a8 m;refine λa C hd'=>this a (C.nS ?_) hd';intro t pp hp;rw [hZ] at hp ⊢;unfold ek at hp ⊢;cases W:Nat.beq d t
        .rw [fC W] at hp;exact hp
        .have:=ai W;subst this;rw [iN W] at hp;rw [hl,hb];exact hp
       rcases vL s with ⟨c1,c2⟩|⟨c1,c2⟩
       .exact one true Y c1 c2
       .exact one false hb c1 c2
      .cases s
     .exact O J I B z L a8 s
    .exact O J I B z L a8 Z
  unfold mW at h
  -- what is known of its guard
  have kk:∀{v:Bool},(unK ops fr f st.E o= .run/\v=true\/unK ops fr f st.E o= .skip/\v=false)->∃j i rj bj,o.guard=some (j,i)/\(ops[j]?).bind (·.dst)=some rj/\look (az ρ T st.E fr.F) rj=some (true,.bool bj)/\Nat.blt rj fr.n=true/\yZ i bj=v:=λ{v} m=>by
   unfold unK at m;split at m
   .rcases m with ⟨h,_⟩|⟨h,_⟩ <;> cases h
   .rename_i k hg;obtain ⟨j,i⟩:=k;cases hm:vf j f
    .simp only [hm] at m;rcases m with ⟨h,_⟩|⟨h,_⟩ <;> cases h
    .simp only [hm] at m;split at m
     .rename_i rj hr;cases hb:Nat.blt rj fr.n
      .simp only [hb] at m;rcases m with ⟨h,_⟩|⟨h,_⟩ <;> cases h
      .simp only [hb] at m;split at m
       .rename_i b hl;refine ⟨j,i,rj,b,hg,hr,by rw [hZ,hl];simp [AV.val],hb,?_⟩;cases hp:yZ i b
        .simp only [hp] at m;rcases m with ⟨h,_⟩|⟨_,h⟩
         .cases h
         .exact h.symm
        .simp only [hp] at m;rcases m with ⟨_,h⟩|⟨h,_⟩
         .exact h.symm
         .cases h
       .rcases m with ⟨h,_⟩|⟨h,_⟩ <;> cases h
     .rcases m with ⟨h,_⟩|⟨h,_⟩ <;> cases h
  cases N:unK ops fr f st.E o with
  |no=>rw [N] at h;cases h
  |cE=>rw [N] at h;exact avj (by exact A (ZJ ops fr f st.E o) aqQ h)
  |run=>
   rw [N] at h;obtain ⟨j,i,rj,bj,g1,g2,g3,g4,g5⟩:=kk (v:=true) (.inl ⟨N,rfl⟩);exact auG g1 (by simpa using g2) g3 g4 g5 (A { o with guard:=none } rfl h)
  |skip=>
   rw [N] at h;obtain ⟨j,i,rj,bj,g1,g2,g3,g4,g5⟩:=kk (v:=false) (.inr ⟨N,rfl⟩);dsimp only at h;rw [g1] at h;obtain ⟨u,s⟩:=aI h;simp only [ah] at u;refine auu g1 (by simpa using g2) g3 g4 g5 u.1.1 ?_;have:=O (st':={ st with E:=cL o.dst (some (j,i)) (.raw undef) st.E }) .refl (b7 _) (h1.out u.1.2 _ _) h2 hf hs s;rw [vT] at this;have hg:T.get (some (j,i))=false:=aeJ (by simpa using u.2);rw [hg] at this;exact this
end
def lf{R:Type}(X:Cx)(tb:List au)(y:YC R):Code->Fr->(Nat->XE->aE->Option R)->Nat->aE->Option R
 | .skip,_,K,p,st=>K p .nrm st
 | .exit i,_,K,p,st=>K p (.ext i) st
 | .ret,_,K,p,st=>K p .ret st
 | .block i c,fr,K,p,st=>lf X tb y c fr (λp=>brk i (K p)) p st
 | .cond c a b,fr,K,p,st=>match bC [] st.E fr.F none c with
  |some (.bool v)=>cnd v (λh=>lf X tb y a fr K p { st with h:=h }) (λh=>lf X tb y b fr K p { st with h:=h }) st.h
  |_=>none
 | .seq a b,fr,K,p,st=>lf X tb y a fr (λp=>yx (lf X tb y b fr K p) (K p)) p (match st.h with
  | .s h=>{ st with h:=h }
  |_=>st)
 | .loop c,fr,K,p,st=>match st.h with
  | .l tm q=>aC (st.low fr) (
   match lE (enter fr tm (cY c) st) tm (enter fr tm (cY c) st).Et (enter fr tm (cY c) st).Gt with
   |some s=>ax (λagain s=>lf X tb y c (enter fr tm (cY c) st).fr (λp'=>yx (λst'=>match lE (enter fr tm (cY c) st) tm st'.E st'.G with
      |some s=>aC (Nat.beq p' p) (again s) none
      |none=>none) (λe st'=>K p' e (Az e (enter fr tm (cY c) st) st'))) p (cZ (enter fr tm (cY c) st) tm s q)) X.fl s
   |none=>none ) none
  |_=>none
 | .region _ ops false,fr,K,p,st=>mW X tb y ops.toList fr ops.toList [] [] st p (λp=>K p .nrm)
 | .region _ ops true,fr,K,p,st=>match st.h with
  | .r th h=>Kv X tb [] (λ_ _=>none) ops fr th { st with h:=h } (K p .nrm)
  |_=>Kv X tb [] (λ_ _=>none) ops fr [] st (K p .nrm)
 |_,_,_,_,_=>none
section
variable {R : Type} {r : R} {X : Cx} {tb : List au} {y : YC R} {D : zm} {Φ : Nat -> Ctx} {ly : Nat} {H0 : List Row} {ρ0 : aB}
def adQ(Q:bD)(D:zm)(fr:Fr)(Φ:Nat->Ctx)(c0:Nat)(ρ0:aB)(r:R)(K:Nat->XE->aE->Option R):Prop:= ∀p,j2 Q D fr (Φ p) c0 ρ0 r (K p)
theorem adQ.less{Q:bD}{fr:Fr}{b c1:Nat}{ρ0 a:aB}{K:Nat->XE->aE->Option R}(h:adQ Q D fr Φ b ρ0 r K)(d:aW b ρ0 a)(c:b<=c1):adQ Q D fr Φ c1 a r K:=λp=>(h p).less d c
theorem Ap(j:∀p,∀it∈X.Γ,it∈Φ p)(o:∀e∈tb,e.Ok X.P X.Γ)(t:(ρ0 y.id).x= .func (.yield ly) #[] #[])(O:YOk X y r ly ρ0 H0 Φ):∀(c:Code) {Q:bD} {fr:Fr} {H1:List Row} {K:Nat->XE->aE->Option R} {p:Nat} {st:aE} {ρ:aB} {w:World},fr.H=H1++H0->IsY y ρ0 ρ st.c->Sat (ab ρ [] st.G++(ab ρ [] fr.H++Φ p)) w->
  lf X tb y c fr K p st=some r->adQ Q D fr Φ st.c ρ r K->WC X.P none c Q fr.n D (az ρ [] st.E fr.F) w
 | .skip,Q,fr,H1,K,p,st,ρ,w,hH,hI,hs,h,hK=>tw (hK p .nrm st ρ w .refl (b7 _) (by unfold lf at h;exact h) hs)
 | .exit i,Q,fr,H1,K,p,st,ρ,w,hH,hI,hs,h,hK=>Z1 (hK p (.ext i) st ρ w .refl (b7 _) (by unfold lf at h;exact h) hs)
 | .ret,Q,fr,H1,K,p,st,ρ,w,hH,hI,hs,h,hK=>wV (hK p .ret st ρ w .refl (b7 _) (by unfold lf at h;exact h) hs)
 | .block i c,Q,fr,H1,K,p,st,ρ,w,hH,hI,hs,h,hK=>VQ (Ap j o t O c hH hI hs (by unfold lf at h;exact h) (λp=>UC (hK p)))
 | .cond c a b,Q,fr,H1,K,p,st,ρ,w,hH,hI,hs,h,hK=>by
  unfold lf at h;split at h
  next v hb=>have N:=bL (ρ:=ρ) hb;simp only [AV.val] at N;obtain ⟨h1,T,q1,q2⟩:=UX h;exact j4 N (λhv=>Ap j o t O a (st:={ st with h:=h1 }) hH hI hs (q1 hv) hK) (λhv=>Ap j o t O b (st:={ st with h:=T }) hH hI hs (q2 hv) hK)
  .cases h
 | .seq a b,Q,fr,H1,K,p,st,ρ,w,hH,hI,hs,h,hK=>by
  unfold lf at h;have z:∀C,lf X tb y a fr (λp=>yx (lf X tb y b fr K p) (K p)) p { st with h:=C }=some r->WC X.P none (.seq a b) Q fr.n D (az ρ [] st.E fr.F) w:=λC hd=>by
   refine bB (Ap j o t O a (st:={ st with h:=C }) hH hI hs hd (λp' e st' ρ' w' B J u I=>?_));by_cases M:e= .nrm
   .subst M;exact bg (Ap j o t O b hH (hI.less B J) I u (hK.less B J))
   .rw [nW M] at u;exact iE M (hK p' e st' ρ' w' B J u I)
  split at h
  next C hh=>exact z C h
  .exact z st.h h
 | .loop c,Q,fr,H1,K,p,st,ρ,w,hH,hI,hs,h,hK=>by
  unfold lf at h;split at h
  .rename_i tm q hh;obtain ⟨hl,T⟩:=aI h;obtain ⟨U,en⟩:=Aj (tm:=tm) (m:=cY c) hl hs;generalize enter fr tm (cY c) st=f at T en;split at T
   .rename_i s0 hb0;obtain ⟨ρ2,E',Y,k,DD,b1,b2,b3,b4⟩:=pU en.lF en.lH en.fx en.sat hb0;have W:∀s E' Y k DD,fZ (λn=>f.c+n) f.fix tm.vs 0 (ic _ s)=⟨E',Y,k,DD⟩->cZ f tm s q=⟨f.c+k,E',rowsOf Y,q⟩:=λs E' Y k DD hb=>by unfold cZ;rw [hb]
    refine Vy (γ:=aB) (λs g w'=>aW f.c U g/\Sat (ab g [] (cZ f tm s q).G++(ab g [] f.fr.H++Φ p)) w') (λs g=>az g [] (cZ f tm s q).E f.fr.F) T ρ2 ⟨b2,?_⟩ ?_ (λA s g w' hag V=>?_)
    .rw [W _ _ _ _ _ b1];exact b4
    .rw [W _ _ _ _ _ b1];exact b3.trans en.sub
    .have N:f.c<=(cZ f tm s q).c:=by unfold cZ;generalize fZ (λn=>f.c+n) f.fix tm.vs 0 (ic _ s)=L;obtain ⟨a,b,c,d⟩:=L;exact qO _ _
     have hx:=Ap j o t O c (fr:=f.fr) (H1:=f.G++H1) (st:=cZ f tm s q) (ρ:=g) (Q:=Exit.then (Qa A r (λs g w'=>aW f.c U g/\Sat (ab g [] (cZ f tm s q).G++(ab g [] f.fr.H++Φ p)) w') (λs g=>az g [] (cZ f tm s q).E f.fr.F) fr.n D) Q)
      (by rw [en.fh,hH,b0]) ((hI.less en.ag en.le).less V.1 N) V.2 hag (λp' e st' ρ' w2 B J u I=>?_)
     .rw [en.fn] at hx;exact hx
     .by_cases M:e= .nrm
      .subst M;have S:(match lE f tm st'.E st'.G with|some s=>aC (Nat.beq p' p) (A s) none|none=>none)=some r:=u;split at S
       .rename_i s' hb;obtain ⟨hp,a5⟩:=aI S;have:=ai hp;subst this;obtain ⟨Z,E2,R2,k2,DD2,d1,d2,d3,d4⟩:=pU en.lF en.lH en.fx I hb;rw [en.fn];refine N9 s' Z a5 ⟨(V.1.trans (B.less N) (b7 _)).trans d2 (b7 _),?_⟩ ?_
        .rw [W _ _ _ _ _ d1];exact d4
        .rw [W _ _ _ _ _ d1];exact d3
       .cases S
      .rw [nW M] at u;have:=wB (hK p') en.ag en.le en.ff en.fh en.fn e st' ρ' w2 (V.1.trans (B.less N) (b7 _)) (c9 N J) u I;exact iE M this
   .cases T
  .cases h
 | .region id ops false,Q,fr,H1,K,p,st,ρ,w,hH,hI,hs,h,hK=>by
  unfold lf at h;obtain ⟨l⟩:=ops;exact bn (ai5 (σ:=none) j o t O hH hI (λx h=>by cases h) (λx h=>by cases h) ⟨λx _=>rfl,λx _=>rfl⟩ hs h (λp' st' ρ' w' B J u I=>hK p' .nrm st' ρ' w' B J u I))
 | .region id ops true,Q,fr,H1,K,p,st,ρ,w,hH,hI,hs,h,hK=>by
  unfold lf at h;have key:∀th C,Kv X tb [] (λ_ _=>none) ops fr th { st with h:=C } (K p .nrm)=some r->WC X.P none (.region id ops true) Q fr.n D (az ρ [] st.E fr.F) w:=λth C hd=>
   VX (K:=λe st=>match e with
    | .nrm=>K p .nrm st
    |_=>none) (st:={ st with h:=C }) (j p) o (λ_ h=>by cases h) hs hd (λe st' ρ' w' B J u I=>by
     cases e with
     |nrm=>exact hK p .nrm st' ρ' w' B J u I
     |_=>cases u)
  split at h
  .exact key _ _ h
  .exact key [] st.h h
 | .label _,Q,fr,H1,K,p,st,ρ,w,hH,hI,hs,h,hK=>by unfold lf at h;cases h
 | .goto _,Q,fr,H1,K,p,st,ρ,w,hH,hI,hs,h,hK=>by unfold lf at h;cases h
 | .scope _,Q,fr,H1,K,p,st,ρ,w,hH,hI,hs,h,hK=>by unfold lf at h;cases h
 | .rangeFunc _ _ _ _,Q,fr,H1,K,p,st,ρ,w,hH,hI,hs,h,hK=>by unfold lf at h;cases h
end
variable {γ : Type} {Ds : γ -> zm}
theorem Sat.swap{w:World}{C D:Ctx}:∀{B A:Ctx},Sat (A++(B++(C++D))) w->Sat (A++(C++(B++D))) w
 |[],A,h=>h
 |x::B,A,h=>by
  have b:Sat ((A++[x])++(B++(C++D))) w:=by simpa using h
  have a:Sat (A++x::(C++(B++D))) w:=by simpa using b.swap
  simpa using Sat.move a
theorem Sat.front{w:World}{A B:Ctx}{x:Item}(h:Sat (A++x::B) w):Sat (x::(A++B)) w:=by have:=Sat.swap (A:=[]) (B:=A) (C:=[x]) (D:=B) (by simpa using h);simpa using this
theorem Sat.behind{w:World}{A B:Ctx}{x:Item}(h:Sat (x::(A++B)) w):Sat (A++x::B) w:=Sat.move (A:=[]) h
theorem O7{α:Type}{A B:List α}{x:α}:(A++x::B)[A.length]? =some x:=by simp
theorem set_mid{α:Type}{A B:List α}{x y:α}:(A++x::B).set A.length y=A++y::B:=by
 induction A with
 |nil=>rfl
 |cons a A ih=>simp [ih]
def DP:Nat->Option Code
 |0=>none
 |1=>some .ret
 |n+2=>aC (Nat.beq (n%2) 0) (some (.exit (n/2))) (some (.goto (n/2)))
def Oo:Nat->XE
 |0=> .nrm
 |1=> .ret
 |n+2=>aC (Nat.beq (n%2) 0) (.ext (n/2)) (.gto (n/2))
theorem amZ{fr:Fr}:(p:Nat)->hx (Oo p) fr=fr.H
 |0=>rfl
 |1=>rfl
 |n+2=>by show hx (aC (Nat.beq (n%2) 0) (.ext (n/2)) (.gto (n/2))) fr=fr.H;cases Nat.beq (n%2) 0 <;> rfl
def Pe:Nat->LoopState
 |0=> .ready
 |_+1=> .done
theorem apR(i:Nat):DP (2*i+2)=some (.exit i):=by have b:2*i%2=0:=Nat.mul_mod_right 2 i;have a:2*i/2=i:=Nat.mul_div_cancel_left i (by decide);show aC (Nat.beq (2*i%2) 0) (some (Code.exit (2*i/2))) _=_;rw [b,a]
theorem aqT(i:Nat):DP (2*i+3)=some (.goto i):=by
 have b:(2*i+1)%2=1:=by omega
 have a:(2*i+1)/2=i:=by omega
 show aC (Nat.beq ((2*i+1)%2) 0) _ (some (Code.goto ((2*i+1)/2)))=_;rw [b,a]
def apQ:List Tmp->List AV->aG->Option aG
 |[],[],E=>some E
 |p::ps,v::vs,E=>apQ ps vs ((p,none,v)::E)
 |_,_,_=>none
theorem aiY{ρ:aB}{F:Env}:{ps:List Tmp}->{vs:List AV}->{E E':aG}->apQ ps vs E=some E'->aG.env ρ [] E'++F=agW ps (AV.ar ρ vs) (aG.env ρ [] E++F)/\Nat.beq (AV.ar ρ vs).length ps.length=true
 |[],[],E,E',h=>by cases h;exact ⟨rfl,rfl⟩
 |p::ps,v::vs,E,E',h=>by
  obtain ⟨b,a⟩:=aiY (ρ:=ρ) (F:=F) (ps:=ps) (vs:=vs) (E:=(p,none,v)::E) h;refine ⟨?_,?_⟩
  .rw [b];simp [aG.env,AV.ar,agW]
  .simpa [AV.ar] using a
 |[],_::_,_,_,h=>by cases h
 |_::_,[],_,_,h=>by cases h
def afc{R:Type}(X:Cx)(tb:List au)(tp:List bO)(ps:List Tmp)(assign body:Code)(fr:Fr)(E:aG)(hb:HT)(vs:List AV)(st:aE)(KY:Bool->Nat->aE->Option R):Option R:=match apQ ps vs E with
 |some E'=>den X tb tp assign fr (λe st1=>match e with
  | .nrm=>den X tb tp body fr (λe st2=>match e with
   | .nrm=>KY true 0 st2
   | .ret=>KY false 1 st2
   | .ext i=>KY false (2*i+2) st2
   | .gto l=>KY false (2*l+3) st2
   |_=>none) { st1 with h:=hb }
  |_=>none) ⟨st.c,E',st.G,.o⟩
 |none=>none
section
variable {R : Type} {r : R} {X : Cx} {tb : List au} {tp : List bO} {fr : Fr}
theorem aps{Φ1:Ctx}(T:∀it∈X.Γ,it∈Φ1)(K:∀e∈tb,e.Ok X.P X.Γ)(J:∀e∈tp,e.Ok X.P X.Γ){ps:List Tmp}{assign body:Code}{E:aG}{hb:HT}{O l b:Nat}{ρ0:aB}{d:LoopState->Option Code->Loop}
  (y:Rec fr.n (az ρ0 [] E fr.F) ps.toArray assign body b d) (hE:E.low O=true) (hF:aG.low O fr.F=true) (hp:ps.all (λp=>Nat.blt p fr.n)=true):
  YOk X ⟨O,afc X tb tp ps assign body fr E hb⟩ r l ρ0 fr.H (λp=>dX l d (Pe p) (DP p)::Φ1):=by
 intro vs st ρ w H1 KY hid Y hvs hG Z W h;have M:afc X tb tp ps assign body fr E hb vs st KY=some r:=h;unfold afc at M;split at M
 .rename_i E' hz;have q:aW O ρ0 ρ:=Y.less (mi _);obtain ⟨z1,z2⟩:=aiY (ρ:=ρ) (F:=aG.env ρ [] fr.F) hz;have eE:az ρ0 [] E fr.F=az ρ [] E fr.F:=by rw [az,az,sH q hE,sH q hF]
  rw [eE] at y;have S:bI st.c H1=true:=by
   clear h M W hz
   induction H1 with
   |nil=>rfl
   |cons x H1 ih=>
    simp only [n5,bI,ah] at Z ⊢;exact ⟨Z.1,ih Z.2⟩
  -- the row, parted in another way
  have R:∀{G:List Row} {ρ':aB} {x:Item} {w':World},Sat (ab ρ' [] G++(ab ρ' [] (H1++fr.H)++x::Φ1)) w'->Sat (ab ρ' [] G++(ab ρ' [] fr.H++(ab ρ' [] H1++x::Φ1))) w':=λ{G ρ' x w'} a=>by rw [bp,b0] at a;exact a.swap
  have frR:∀{G:List Row} {ρ':aB} {x:Item} {w':World},Sat (ab ρ' [] G++(ab ρ' [] fr.H++(ab ρ' [] H1++x::Φ1))) w'->Sat (ab ρ' [] G++(ab ρ' [] (H1++fr.H)++x::Φ1)) w':=λ{G ρ' x w'} a=>by rw [bp,b0];exact a.swap
  -- the loop's row, exchanged
  have I:∀{G:List Row} {ρ':aB} {x:Item},∃A:Ctx,ab ρ' [] G++(ab ρ' [] fr.H++(ab ρ [] H1++x::Φ1))=A++x::Φ1/\∀z,A++z::Φ1=ab ρ' [] G++(ab ρ' [] fr.H++(ab ρ [] H1++z::Φ1)):=λ{G ρ' x}=>
   ⟨ab ρ' [] G++(ab ρ' [] fr.H++ab ρ [] H1),by simp,λz=>by simp⟩
  have U:=R W;have m:∀x:Item,∀it∈X.Γ,it∈ab ρ [] H1++x::Φ1:=λx it hi=>gx _ (cb _ (T it hi));have V:Sat (dX l d .ready none::(ab ρ [] st.G++(ab ρ [] (H1++fr.H)++Φ1))) w:=by
   have:Sat ((ab ρ [] st.G++ab ρ [] (H1++fr.H))++dX l d .ready none::Φ1) w:=by rw [b0];exact W
   have:=this.front;rw [b0] at this;exact this
  refine atX y V z2 hp ?_;rw [<-z1];refine gf (σ:=some l) (D:=[]) (Φ:=ab ρ [] H1++dX l d .ready none::Φ1) (m _) K J assign (fr:=fr) (st:=⟨st.c,E',st.G,.o⟩) (ρ:=ρ) U M (λe st1 C w1 a1 a2 a3 a4=>?_);cases e with
  |nrm=>
   obtain ⟨A,e1,e2⟩:=I (G:=st1.G) (ρ':=C) (x:=dX l d .ready none);have a4':Sat (A++dX l d .ready none::Φ1) w1:=by rw [<-e1];exact a4
   refine ap7 (i:=A.length) y a4' O7 (λw2 L=>?_);rw [set_mid,e2] at L;refine gf (σ:=some l) (D:=[]) (Φ:=ab ρ [] H1++dX l d .busy none::Φ1) (m _) K J body (fr:=fr) (st:={ st1 with h:=hb }) (ρ:=C) L a3 (λe f t w3 b1 b2 s b4=>?_);obtain ⟨B,e3,e4⟩:=I (G:=f.G) (ρ':=t) (x:=dX l d .busy none);have k:Sat (B++dX l d .busy none::Φ1) w3:=by rw [<-e3];cases e <;> first|exact b4|cases s
   have N:aW st.c ρ t:=a1.trans b1 a2;have Ge:st.c<=f.c:=c9 a2 b2;have g:∀{Q:Bool} {p':Nat} {u:World},KY Q p' f=some r->Sat ((B++dX l d .busy none::Φ1).set B.length (dX l d (Pe p') (DP p'))) u->
     ∃b p' st' ρ',Value.bool Q= .bool b/\aW st.c ρ ρ'/\st.c<=st'.c/\KY b p' st'=some r/\Sat (ab ρ' [] st'.G++(ab ρ' [] (H1++fr.H)++dX l d (Pe p') (DP p')::Φ1)) u:=λ{Q p' u} hk a=>by
    rw [set_mid,e4,<-bh N S] at a;exact ⟨Q,p',f,t,rfl,N,Ge,hk,frR a⟩
   cases e with
   |nrm=>exact aoy (i:=B.length) y k O7 (λu a=>g (p':=0) s a)
   |ret=>exact afF (i:=B.length) y k O7 (λu a=>g (p':=1) s a)
   |ext i=>exact acY (i:=B.length) y k O7 (λu a=>g (p':=2*i+2) s (by rw [apR];exact a))
   |gto j=>exact acq (i:=B.length) y k O7 (λu a=>g (p':=2*j+3) s (by rw [aqT];exact a))
   |je v=>cases s
   |panE v=>cases s
   |panL v=>cases s
  |_=>cases a3
 .cases M
end
def Oq:aG->aG
 |[]=>[]
 |(t,_,v)::E=>(t+10000,some (1000000000,false),v)::Oq E
theorem aiV{ρ:aB}:{E:aG}->{t:Nat}->{p:Bool×Value}->look (aG.env ρ [] (Oq E)) t=some p->10000<=t/\p.1=false
 |[],_,_,h=>by cases h
 |(t',g,v)::E,t,p,h=>by
  simp only [Oq,aG.env,look] at h;cases hb:Nat.beq (t'+10000) t
  .rw [hb,aZ] at h;exact aiV h
  .rw [hb,cr] at h;have:=ai hb;cases h;exact ⟨by omega,rfl⟩
theorem Fits.far{n:Nat}{E:Env}{a:Act}{ρ:aB}{F:aG}(h:Fits n E a)(e:n<=10000):Fits n (E++aG.env ρ [] (Oq F)) a:=by
 refine ⟨h.size,λt g v b=>?_⟩;rw [HS] at b;split at b
 next p hp=>cases b;exact h.at_ t g v hp
 .obtain ⟨f,c⟩:=aiV b;simp only at c;subst c;have d:=h.size;have:¬t<a.tmps.size:=by omega
  simp [Array.getD,this,y6]
def itE{R:Type}(Kend:Nat->aE->Option R)(p:Nat):XE->aE->Option R
 | .nrm,st=>Kend p st
 | .ret,st=>Kend p st
 |_,_=>none
def rfD{R:Type}(X:Cx)(tb:List au)(tp:List bO)(tc:List lJ)(ps:List Tmp)(assign body:Code)(gv:AV)(fr:Fr)(st:aE)(hi hb:HT)(Kend:Nat->aE->Option R):Option R:=match gv with
 | .fn f a b=>(match Xt tc f with
  |some cl=>(match cl.fn.body with
   |some ib=>aC (cl.fn.results.isEmpty&&Nat.ble (a.length+(b.length+1)) cl.fn.ntmps&&Nat.ble cl.fn.ntmps 10000&&st.low fr&&ps.all (λp=>Nat.blt p fr.n)&&AV.cm st.c a&&AV.cm st.c b) (
     lf X tb ⟨st.c,afc X tb tp ps assign body fr st.E hb⟩ ib ⟨Oq (st.E++fr.F),fr.H,cl.fn.ntmps⟩ (itE Kend) 0 ⟨st.c+1,kf 0 (a++ .nv st.c::b),st.G,hi⟩) none
   |none=>none)
  |none=>none)
 |_=>none
section
variable {P : Program} {n : Nat} {D0 : zm} {E : Env} {w : World} {Γ : Ctx} {Q : bD}
theorem adh{g:Operand}{ps:Array Tmp}{assign body:Code}{f:FuncId}{first cap:zq}(ds:zC)
  (o:Enters P f) (C:aw E true g (.func (.func f) first.toArray cap.toArray)) (B:Sat (eN ds::Γ) w)
  (h:∀(l b:Nat) (r:LoopState->Option Code->Loop) w1,Rec n E ps assign body b r->Sat (dX l r .ready none::eN (b::ds)::Γ) w1->
   gK P f (first++[Value.func (.yield l) #[] #[]]++cap) w1 (lW P none l n (mk (b::ds)++D0) Q E)):
  WC P none (.rangeFunc g ps assign body) Q n (mk ds++D0) E w:=λa m y=>by
 refine wpIn_rangeFunc λfn D=>?_;obtain ⟨r,x⟩:∃r:LoopState->Option Code->Loop,r=λst A=>{ state:=st,pending:=A,fn,tmps:=a.tmps,params:=ps,assign,body,defers:=w.heap.size }:=⟨_,rfl⟩;obtain ⟨d,p⟩:∃d,(w.alloc (.deferred (some []))).alloc (.loop (r .ready none))=d:=⟨_,rfl⟩;have t:Sat (vQ w.heap.size (.deferred (some []))::eN ds::Γ) (w.alloc (.deferred (some []))):=B.push (fi _ _) (λb hb=>by
  have:b=w.heap.size:=by simpa [vQ] using hb
  subst this;simp) (λ_ _=>World.alloc_heap_new w _)
 have s:Sat (dX (w.heap.size+1) r .ready none::eN (w.heap.size::ds)::Γ) d:=by
  rw [<-p];have:=t.Sq.push (new:=dX (w.alloc (.deferred (some []))).heap.size r .ready none) (fi _ _) (λb hb=>by
   have:b=(w.alloc (.deferred (some []))).heap.size:=by simpa [vQ] using hb
   subst this;simp) (λ_ _=>World.alloc_heap_new (w.alloc (.deferred (some []))) (.loop (r .ready none)))
  rwa [World.size_alloc] at this
 have i:Rec n E ps assign body w.heap.size r:=⟨fn,a.tmps,⟨m.size,m.at_⟩,x⟩;have u:a.eval g=Value.func (.func f) first.toArray cap.toArray:=C n a m rfl;refine ⟨w.heap.size+1,[{ target:= .collected w.heap.size,args:= #[] }],d,{ target:= .fn (.func f) cap.toArray,args:=first.toArray++ #[Value.func (.yield (w.heap.size+1)) #[] #[]] },d,f,
  (first++[Value.func (.yield (w.heap.size+1)) #[] #[]]++cap).toArray,d,?_,?_,λ_ _=>trivial,?_,Kk,?_⟩
 .rw [<-p,x];exact run_enterLoop_outer _ _ _ _ _
 .simp only [resolve,u,Deferred.ofValue];simp [Act.eval]
 .have:=o (first++[Value.func (.yield (w.heap.size+1)) #[] #[]]++cap).toArray d;simp only [invoke];simpa using this
 .refine WT (Calls.mono (h (w.heap.size+1) w.heap.size r d i s) λe w' o=>?_);cases e with
  |returned v=>
   obtain ⟨j,q,F,z⟩:=o;refine ⟨j,q,F,?_⟩;have k:Fits n E { a with defers:=[{ target:= .collected w.heap.size,args:= #[] }]++a.defers }:=⟨m.size,m.at_⟩;cases j with
   |none=>exact z _ k (by simp [y,mk])
   |some c=>exact z _ k (by simp [y,mk])
  |panicked c=>exact o.elim
  |outgrown=>exact o.elim
end
section
variable {R : Type} {r : R} {X : Cx} {tb : List au} {tp : List bO} {tc : List lJ} {fr : Fr} {Φ : Ctx} {D : zm} {Q : bD}
theorem anP(J:∀it∈X.Γ,it∈Φ)(M:∀e∈tb,e.Ok X.P X.Γ)(htp:∀e∈tp,e.Ok X.P X.Γ)(htc:∀c∈tc,c.Ok X.P){g:Operand}{ps:Array Tmp}{assign body:Code}{gv:AV}{st:aE}{hi hb:HT}{m:Nat->aE->Option R}{ρ:aB}{w:World}{ds:zC}
  (hg:bC [] st.E fr.F none g=some gv) (hs:Sat (ab ρ [] st.G++(ab ρ [] fr.H++eN ds::Φ)) w) (h:rfD X tb tp tc ps.toList assign body gv fr st hi hb m=some r)
  (T:∀p st1 d w1 ds',aW st.c ρ d->st.c<=st1.c->m p st1=some r->Sat (ab d [] st1.G++(ab d [] fr.H++eN ds'::Φ)) w1->OA Q (Oo p) d fr.n (mk ds'++D) (az d [] st.E fr.F) w1):
  WC X.P none (.rangeFunc g ps assign body) Q fr.n (mk ds++D) (az ρ [] st.E fr.F) w:=by
 unfold rfD at h;split at h
 .rename_i f a b;split at h
  .rename_i B hcl;obtain ⟨c1,c2⟩:=Vm htc hcl;subst c2;split at h
   .rename_i ib hib;obtain ⟨k1,h1⟩:=aI h;simp only [ah] at k1;obtain ⟨⟨⟨⟨⟨⟨d1,d2⟩,d3⟩,d4⟩,d5⟩,d6⟩,d7⟩:=k1;have k:B.fn.results= #[]:=by simpa using d1
    have hn1:B.fn.ntmps<=10000:=dk d3;obtain ⟨l1,l2,l3,l4⟩:=aE.cS.1 d4;have O:=bL (ρ:=ρ) hg;simp only [AV.val] at O;have U:AV.cm st.c a=true/\AV.cm st.c b=true:=⟨d6,d7⟩
    -- the marks in front
    have hs0:Sat (eN ds::(ab ρ [] st.G++(ab ρ [] fr.H++Φ))) w:=by
     have:Sat ((ab ρ [] st.G++ab ρ [] fr.H)++eN ds::Φ) w:=by rw [b0];exact hs
     have:=this.front;rwa [b0] at this
    refine adh ds c1.1 O hs0 (λl j z w1 N hs1=>?_);have hr':Rec fr.n (az ρ [] st.E fr.F) ps.toList.toArray assign body j z:=by simpa using N
    -- yield's name
    generalize C:ρ.set st.c { df with x:= .func (.yield l) #[] #[] }=d;have o:aW st.c ρ d:=by rw [<-C];exact aB.bd
    have L:(d st.c).x= .func (.yield l) #[] #[]:=by rw [<-C,aB.bH]
    have A:AV.ar d (a++ .nv st.c::b)=AV.ar ρ a++[Value.func (.yield l) #[] #[]]++AV.ar ρ b:=by rw [dA];simp only [AV.ar,AV.val,L];rw [AV.cj o _ U.1,AV.cj o _ U.2];simp
    rw [<-A]
    -- the rows
    have hs2:Sat (ab d [] st.G++(ab d [] fr.H++(dX l z (Pe 0) (DP 0)::eN (j::ds)::Φ))) w1:=by
     rw [bh o l3,bh o l4];have e1:Sat ([]++([dX l z .ready none,eN (j::ds)]++((ab ρ [] st.G++ab ρ [] fr.H)++Φ))) w1:=by simpa using hs1
     have:=e1.swap;simp only [qs,b0,n5] at this;exact this
    have I:∀p,∀it∈X.Γ,it∈(dX l z (Pe p) (DP p)::eN (j::ds)::Φ):=λp it hi=>cb _ (cb _ (J it hi));have hrr:Rec fr.n (az d [] st.E fr.F) ps.toList.toArray assign body j z:=by rw [oY d4 o];exact hr'
    have hY:=aps (r:=r) (tp:=tp) (hb:=hb) (Φ1:=eN (j::ds)::Φ) (λit hi=>cb _ (J it hi)) M htp (l:=l) hrr l1 l2 d5;refine Calls.mono (jG (S:=lW X.P none l fr.n (mk (j::ds)++D) Q (az ρ [] st.E fr.F)) (Sp:=λ_ _=>False) c1.2 hib rfl (by rw [AV.bu];simpa [Nat.add_comm,Nat.add_left_comm,qC] using d2) ?_) (λe w' he=>he);have hE:az d [] (kf 0 (a++ .nv st.c::b)) (Oq (st.E++fr.F))=iota 0 (AV.ar d (a++ .nv st.c::b))++aG.env d [] (Oq (st.E++fr.F)):=by show aG.env d [] (kf 0 _)++aG.env d [] _=_;rw [yW]
    have hx:=Ap (r:=r) (D:=[]) (Φ:=λp=>dX l z (Pe p) (DP p)::eN (j::ds)::Φ) I M (y:=⟨st.c,afc X tb tp ps.toList assign body fr st.E hb⟩) L hY ib (Q:=BP X.P B.fn (lW X.P none l fr.n (mk (j::ds)++D) Q (az ρ [] st.E fr.F)) (λ_ _=>False)) (fr:=⟨Oq (st.E++fr.F),fr.H,B.fn.ntmps⟩) (H1:=[]) (K:=itE m) (st:=⟨st.c+1,kf 0 (a++ .nv st.c::b),st.G,hi⟩) (ρ:=d) (w:=w1) rfl ⟨qx _,.refl⟩ hs2 h1 (λp e st1 i Y a1 a2 Z a4=>?_)
    .rw [hE] at hx;exact λaa hf hd=>hx aa (hf.far hn1) hd
    . -- the iterator's end
     have W:aW st.c ρ i:=o.trans (a1.less (mi _)) (b7 _);have Ge:st.c<=st1.c:=Nat.le_of_succ_le a2;have eE:az i [] st.E fr.F=az ρ [] st.E fr.F:=oY d4 W;have V:m p st1=some r->lW X.P none l fr.n (mk (j::ds)++D) Q (az ρ [] st.E fr.F) (.tuple #[]) Y:=λhk=>by
      have t:Sat (dX l z (Pe p) (DP p)::(ab i [] st1.G++(ab i [] fr.H++eN (j::ds)::Φ))) Y:=by
       have:Sat ((ab i [] st1.G++ab i [] fr.H)++dX l z (Pe p) (DP p)::eN (j::ds)::Φ) Y:=by rw [b0];cases e <;> first|exact a4|cases Z
       have:=this.front;rwa [b0] at this
      have at_:∀s,Sat (ab i [] st1.G++(ab i [] fr.H++eN (j::ds)::Φ)) s->OA Q (Oo p) i fr.n (mk (j::ds)++D) (az ρ [] st.E fr.F) s:=λs u=>by have:=T p st1 i s (j::ds) W Ge hk u;rwa [eE] at this
      match p,t,at_ with
      |0,t,at_=>exact lW.go N t (λs u=>at_ s u)
      |1,t,at_=>exact lW.jump N t (λs u=>wV (at_ s u))
      |q+2,t,at_=>
       simp only [DP,Oo] at t at_;cases hq:Nat.beq (q%2) 0
       .simp only [hq] at t at_;exact lW.jump N t (λs u=>ajh (at_ s u))
       .simp only [hq] at t at_;exact lW.jump N t (λs u=>Z1 (at_ s u))
     cases e with
     |nrm=>exact (akC (vs:=[]) (by simp [k]) (λaa hf=>by rw [k];simp) (v:= .tuple #[]) rfl (V Z):At (BP X.P B.fn _ _) .ret B.fn.ntmps [] _ Y)
     |ret=>exact akC (vs:=[]) (by simp [k]) (λaa hf=>by rw [k];simp) (v:= .tuple #[]) rfl (V Z)
     |_=>cases Z
   .cases h
  .cases h
 .cases h
end
def rK:Code->Bool
 | .rangeFunc .. =>true
 | .seq a b=>rK a||rK b
 | .cond _ a b=>rK a||rK b
 | .block _ c=>rK c
 | .loop c=>rK c
 | .scope c=>rK c
 |_=>false
def kJ{R:Type}(X:Cx)(tb:List au)(tp:List bO)(tc:List lJ):Code->Fr->(XE->aE->Option R)->aE->Option R
 | .block i c,fr,K,st=>kJ X tb tp tc c fr (brk i K) st
 | .cond c x y,fr,K,st=>aC (rK x||rK y) (match bC [] st.E fr.F none c with
  |some (.bool b)=>cnd b (λh=>kJ X tb tp tc x fr K { st with h:=h }) (λh=>kJ X tb tp tc y fr K { st with h:=h }) st.h
  |_=>none) (den X tb tp (.cond c x y) fr K st)
 | .seq x y,fr,K,st=>aC (rK x||rK y) (match st.h with
  | .j tm p q=>aC (st.low fr) (
   aj (λs:fA (iG tm.vs)=>kJ X tb tp tc y fr K (il (enter fr tm (cY x) st) tm s q)) λk=>
   kJ X tb tp tc x (enter fr tm (cY x) st).fr (yx (λst'=>match lE (enter fr tm (cY x) st) tm st'.E st'.G with
     |some s=>k s
     |none=>none) (λe st'=>K e (Az e (enter fr tm (cY x) st) st'))) ⟨(enter fr tm (cY x) st).c,(enter fr tm (cY x) st).Et,(enter fr tm (cY x) st).Gt,p⟩ ) none
  | .s h=>kJ X tb tp tc x fr (yx (kJ X tb tp tc y fr K) K) { st with h:=h }
  |_=>kJ X tb tp tc x fr (yx (kJ X tb tp tc y fr K) K) st) (den X tb tp (.seq x y) fr K st)
 | .loop c,fr,K,st=>aC (rK c) (match st.h with
  | .l tm p=>aC (st.low fr) (
   match lE (enter fr tm (cY c) st) tm (enter fr tm (cY c) st).Et (enter fr tm (cY c) st).Gt with
   |some s=>ax (λagain s=>kJ X tb tp tc c (enter fr tm (cY c) st).fr (yx (λst'=>match lE (enter fr tm (cY c) st) tm st'.E st'.G with
      |some s=>again s
      |none=>none) (λe st'=>K e (Az e (enter fr tm (cY c) st) st'))) (cZ (enter fr tm (cY c) st) tm s p)) X.fl s
   |none=>none ) none
  |_=>none) (den X tb tp (.loop c) fr K st)
 | .rangeFunc g ps assign body,fr,K,st=>match st.h with
  | .c (.c hi hb) (.r (70000::th) hr)=>(match bC [] st.E fr.F none g with
   |some gv=>rfD X tb tp tc ps.toList assign body gv ⟨fr.F,bA (λr=> !(gA (reach st fr th) r)) st.G++fr.H,fr.n⟩ { st with G:=bA (gA (reach st fr th)) st.G } hi hb (λp st1=>K (Oo p) { st1 with E:=st.E,h:=hr,G:=st1.G++bA (λr=> !(gA (reach st fr th) r)) st.G })
   |none=>none)
  | .c (.c hi hb) hr=>(match bC [] st.E fr.F none g with
   |some gv=>rfD X tb tp tc ps.toList assign body gv fr st hi hb (λp st1=>K (Oo p) { st1 with E:=st.E,h:=hr })
   |none=>none)
  |_=>none
 |c,fr,K,st=>den X tb tp c fr K st
section
variable {P : Program} {ρ : zt} {Q : bD} {n : Nat} {E : Env} {w : World}
def akq{γ:Type}(J:γ->World->Prop)(Es:γ->Env)(n:Nat)(Ds:γ->zm)(a:Act)(w:World):Prop:=
 ∃g,J g w/\Fits n (Es g) a/\a.defers=Ds g
theorem ahy(J:γ->World->Prop)(b:γ->Env)(Ds:γ->zm){D:zm}{x y:Code}
  (c:∀g w',J g w'->WC P ρ y Q n (Ds g) (b g) w') (hx:WC P ρ x (Exit.then (akq J b n Ds) Q) n D E w):WC P ρ (.seq x y) Q n D E w:=
 λa d f=>wpIn_seq (wpIn_mono (hx a d f) (λe l w' h=>by cases e <;> first|exact h|(obtain ⟨g,i,j,k⟩:=h;exact c g w' i l j k)))
theorem aqN{J:γ->World->Prop}{a:γ->Env}{D:zm}(g:γ)(e:J g w)(b:j9 (a g) E)(f:D=Ds g):At (Exit.then (akq J a n Ds) Q) .normal n D E w:=
 λh c d=>⟨g,e,c.nS b,d.trans f⟩
def XF{σ γ τ:Type}(again:σ->Option τ)(r:τ)(J:σ->γ->World->Prop)(Es:σ->γ->Env)(n:Nat)(Ds:γ->zm)(a:Act)(w:World):Prop:=
 ∃s g,again s=some r/\J s g w/\Fits n (Es s g) a/\a.defers=Ds g
theorem aqJ{σ τ:Type}{F:(σ->Option τ)->σ->Option τ}{r:τ}(J:σ->γ->World->Prop)(d:σ->γ->Env)(Ds:γ->zm){body:Code}{D:zm}
  {N:Nat} {b:σ} (l:ax F N b=some r) (c:γ) (v:J b c w) (u:j9 (d b c) E) (i:D=Ds c)
  (round:∀again s g w,F again s=some r->J s g w->WC P ρ body (Exit.then (XF again r J d n Ds) Q) n (Ds g) (d s g) w):
  WC P ρ (.loop body) Q n D E w:=λa o p=>
 JO (λm=>XF (ax F m) r J d n Ds) N ⟨b,c,l,v,o.nS u,p.trans i⟩ λm a w ⟨s,g,k,q,t,i⟩=>by
  obtain ⟨j,rfl,f⟩:=NR k;exact wpIn_mono (round (ax F j) s g w f q a t i) λe a w h=>by cases e <;> first|exact h|exact ⟨j,qx _,h⟩
theorem anw{σ τ:Type}{a:σ->Option τ}{r:τ}{J:σ->γ->World->Prop}{b:σ->γ->Env}{D:zm}
  (s:σ) (g:γ) (d:a s=some r) (h:J s g w) (c:j9 (b s g) E) (i:D=Ds g):At (Exit.then (XF a r J b n Ds) Q) .normal n D E w:=
 λj e f=>⟨s,g,d,h,e.nS c,f.trans i⟩
end
section
variable {R : Type} {r : R} {X : Cx} {tb : List au} {tp : List bO} {tc : List lJ} {Φ : Ctx} {D : zm}
def XR(Q:bD)(D:zm)(fr:Fr)(Φ:Ctx)(c0:Nat)(ρ0:aB)(r:R)(K:XE->aE->Option R):Prop:= ∀ds,j2 Q (mk ds++D) fr (eN ds::Φ) c0 ρ0 r K
theorem XR.less{Q:bD}{fr:Fr}{b c1:Nat}{ρ0 a:aB}{K:XE->aE->Option R}(h:XR Q D fr Φ b ρ0 r K)(d:aW b ρ0 a)(c:b<=c1):XR Q D fr Φ c1 a r K:=λds=>(h ds).less d c
theorem asX(U:∀it∈X.Γ,it∈Φ)(W:∀e∈tb,e.Ok X.P X.Γ)(V:∀e∈tp,e.Ok X.P X.Γ)(htc:∀c∈tc,c.Ok X.P):∀(c:Code) {Q:bD} {fr:Fr} {K:XE->aE->Option R} {st:aE} {ρ:aB} {w:World} {ds:zC},Sat (ab ρ [] st.G++(ab ρ [] fr.H++eN ds::Φ)) w->
  kJ X tb tp tc c fr K st=some r->XR Q D fr Φ st.c ρ r K->WC X.P none c Q fr.n (mk ds++D) (az ρ [] st.E fr.F) w:=λc=>by
 have hΓ':∀ds:zC,∀it∈X.Γ,it∈eN ds::Φ:=λds it hi=>cb _ (U it hi);have sD:∀(c:Code) {Q:bD} {fr:Fr} {K:XE->aE->Option R} {st:aE} {ρ:aB} {w:World} {ds:zC},Sat (ab ρ [] st.G++(ab ρ [] fr.H++eN ds::Φ)) w->
   den X tb tp c fr K st=some r->XR Q D fr Φ st.c ρ r K->WC X.P none c Q fr.n (mk ds++D) (az ρ [] st.E fr.F) w:=λc {Q fr K st ρ w ds} u h t=>
  gf (hΓ' ds) W V c u h (t ds)
 induction c with
 |block i c ih=>
  intro Q fr K st ρ w ds u h t;exact VQ (ih u (by unfold kJ at h;exact h) (λds=>UC (t ds)))
 |cond c x y T S=>
  intro Q fr K st ρ w ds u h t;unfold kJ at h;rcases dT h with ⟨_,h⟩|⟨_,h⟩
  .split at h
   next b hb=>have Z:=bL (ρ:=ρ) hb;simp only [AV.val] at Z;obtain ⟨p,q,h1,N⟩:=UX h;exact j4 Z (λhb=>T (st:={ st with h:=p }) u (h1 hb) t) (λhb=>S (st:={ st with h:=q }) u (N hb) t)
   .cases h
  .exact sD _ u h t
 |seq x y T S=>
  intro Q fr K st ρ w ds u h t;unfold kJ at h;rcases dT h with ⟨_,h⟩|⟨_,h⟩
  .have I:∀h',kJ X tb tp tc x fr (yx (kJ X tb tp tc y fr K) K) { st with h:=h' }=some r->WC X.P none (.seq x y) Q fr.n (mk ds++D) (az ρ [] st.E fr.F) w:=λh' hd=>by
    refine bB (T (st:={ st with h:=h' }) u hd (λj e st' ρ' w' C O z B=>?_));by_cases J:e= .nrm
    .subst J;exact bg (S B z (t.less C O))
    .rw [nW J] at z;exact iE J (t j e st' ρ' w' C O z B)
   split at h
   .rename_i tm p q hh;obtain ⟨hl,N⟩:=aI h;obtain ⟨o,en⟩:=Aj (tm:=tm) (m:=cY x) hl u;generalize enter fr tm (cY x) st=f at N en;unfold aj at N;refine ahy (γ:=(fA (iG tm.vs)×aB)×zC) (λg w'=>kJ X tb tp tc y fr K (il f tm g.1.1 q)=some r/\aW f.c o g.1.2/\Sat (ab g.1.2 [] (il f tm g.1.1 q).G++(ab g.1.2 [] fr.H++eN g.2::Φ)) w') (λg=>az g.1.2 [] (il f tm g.1.1 q).E fr.F) (λg=>mk g.2++D) (λg w' hg=>?_) ?_
    .obtain ⟨g1,g2,g3⟩:=hg;refine S g3 g1 (t.less (en.ag.trans g2 en.le) ?_);have:f.c<=(il f tm g.1.1 q).c:=by unfold il;generalize fZ (λn=>f.c+n) f.fix tm.vs 0 (ic _ g.1.1)=L;obtain ⟨a,b,c,d⟩:=L;exact qO _ _
     exact c9 en.le this
    .have hx:=T (fr:=f.fr) (st:=⟨f.c,f.Et,f.Gt,p⟩) (ρ:=o) (Q:=Exit.then (akq (λ(g:(fA (iG tm.vs)×aB)×zC) w'=>kJ X tb tp tc y fr K (il f tm g.1.1 q)=some r/\aW f.c o g.1.2/\Sat (ab g.1.2 [] (il f tm g.1.1 q).G++(ab g.1.2 [] fr.H++eN g.2::Φ)) w') (λg=>az g.1.2 [] (il f tm g.1.1 q).E fr.F) fr.n (λg=>mk g.2++D)) Q) en.sat N (λj e st' ρ' w' C O z B=>?_)
     .rw [en.fn] at hx;exact hx.nS _ en.sub
     .by_cases J:e= .nrm
      .subst J;have v:(match lE f tm st'.E st'.G with|some s=>kJ X tb tp tc y fr K (il f tm s q)|none=>none)=some r:=z;split at v
       .rename_i s hb;obtain ⟨l,E',Y,k,DD,b1,b2,b3,b4⟩:=pU en.lF en.lH en.fx B hb;have eJ:il f tm s q=⟨f.c+k,E'++f.E,rowsOf Y++f.G,q⟩:=by unfold il;rw [b1]
        rw [en.fn];refine aqN ((s,l),j) ⟨v,C.trans b2 (b7 _),?_⟩ ?_ rfl
        .rw [eJ];show Sat (ab l [] (rowsOf Y++f.G)++_) w';rw [bp,b0];rw [en.fh,bp,b0] at b4;exact b4
        .rw [eJ];show j9 (aG.env l [] (E'++f.E)++_) _;rw [en.ff] at b3;have e2:az l [] E' (f.E++fr.F)=aG.env l [] (E'++f.E)++aG.env l [] fr.F:=by show aG.env l [] E'++aG.env l [] (f.E++fr.F)=_;rw [o9,o9,b0]
         rw [<-e2,en.ff];exact b3
       .cases v
      .rw [nW J] at z;have:=wB (t j) en.ag en.le en.ff en.fh en.fn e st' ρ' w' C O z B;exact iE J this
   next h' hh=>exact I h' h
   .exact I st.h h
  .exact sD _ u h t
 |loop c ih=>
  intro Q fr K st ρ w ds u h t;unfold kJ at h;rcases dT h with ⟨_,h⟩|⟨_,h⟩
  .split at h
   .rename_i tm p hh;obtain ⟨hl,N⟩:=aI h;obtain ⟨o,en⟩:=Aj (tm:=tm) (m:=cY c) hl u;generalize enter fr tm (cY c) st=f at N en;split at N
    .rename_i s0 hb0;obtain ⟨l,E',Y,k,DD,b1,b2,b3,b4⟩:=pU en.lF en.lH en.fx en.sat hb0;have eL:∀s E' Y k DD,fZ (λn=>f.c+n) f.fix tm.vs 0 (ic _ s)=⟨E',Y,k,DD⟩->cZ f tm s p=⟨f.c+k,E',rowsOf Y,p⟩:=λs E' Y k DD hb=>by unfold cZ;rw [hb]
     refine aqJ (γ:=aB×zC) (λs g w'=>aW f.c o g.1/\Sat (ab g.1 [] (cZ f tm s p).G++(ab g.1 [] f.fr.H++eN g.2::Φ)) w') (λs g=>az g.1 [] (cZ f tm s p).E f.fr.F) (λg=>mk g.2++D) N (l,ds) ⟨b2,?_⟩ ?_ rfl (λM s g w' hag hJ=>?_)
     .rw [eL _ _ _ _ _ b1];exact b4
     .rw [eL _ _ _ _ _ b1];exact b3.trans en.sub
     .have Z:f.c<=(cZ f tm s p).c:=by unfold cZ;generalize fZ (λn=>f.c+n) f.fix tm.vs 0 (ic _ s)=L;obtain ⟨a,b,c,d⟩:=L;exact qO _ _
      have hx:=ih (fr:=f.fr) (st:=cZ f tm s p) (ρ:=g.1) (ds:=g.2) (Q:=Exit.then (XF M r (λs (g:aB×zC) w'=>aW f.c o g.1/\Sat (ab g.1 [] (cZ f tm s p).G++(ab g.1 [] f.fr.H++eN g.2::Φ)) w') (λs g=>az g.1 [] (cZ f tm s p).E f.fr.F) fr.n (λg=>mk g.2++D)) Q) hJ.2 hag (λj e st' ρ' w2 C O z B=>?_)
      .rw [en.fn] at hx;exact hx
      .by_cases J:e= .nrm
       .subst J;have v:(match lE f tm st'.E st'.G with|some s=>M s|none=>none)=some r:=z;split at v
        .rename_i s' hb;obtain ⟨ρ3,E2,R2,k2,DD2,d1,d2,d3,d4⟩:=pU en.lF en.lH en.fx B hb;rw [en.fn];refine anw s' (ρ3,j) v ⟨(hJ.1.trans (C.less Z) (b7 _)).trans d2 (b7 _),?_⟩ ?_ rfl
         .rw [eL _ _ _ _ _ d1];exact d4
         .rw [eL _ _ _ _ _ d1];exact d3
        .cases v
       .rw [nW J] at z;have:=wB (t j) en.ag en.le en.ff en.fh en.fn e st' ρ' w2 (hJ.1.trans (C.less Z) (b7 _)) (c9 Z O) z B;exact iE J this
    .cases N
   .cases h
  .exact sD _ u h t
 |rangeFunc g ps assign body=>
  intro Q fr K st ρ w ds u h t;unfold kJ at h;split at h
  .rename_i hi hb th hr hh;split at h
   next gv hg=>have hs2:=sh (A:=[]) (p:=gA (reach st fr th)) u;refine anP (fr:=⟨fr.F,bA (λr=> !(gA (reach st fr th) r)) st.G++fr.H,fr.n⟩) (st:={ st with G:=bA (gA (reach st fr th)) st.G }) U W V htc hg (by simpa [ab] using hs2) h (λp st1 o w1 j C O z B=>t j (Oo p) { st1 with E:=st.E,h:=hr,G:=st1.G++bA (λr=> !(gA (reach st fr th) r)) st.G } o w1 C O z ?_);rw [bp,b0];rw [amZ] at*;simpa [ab] using B
   .cases h
  .rename_i hi hb hr _ hh;split at h
   next gv hg=>exact anP U W V htc hg u h (λp st1 o w1 j C O z B=>t j (Oo p) { st1 with E:=st.E,h:=hr } o w1 C O z (by rw [amZ];exact B))
   .cases h
  .cases h
 |_=>intro Q fr K st ρ w ds u h t;exact sD _ u (by unfold kJ at h;exact h) t
def arD(K:XE->aE->Option R):XE->aE->Option R
 | .nrm,st=>K .nrm st
 | .ret,st=>K .ret st
 |_,_=>none
theorem ao7(d:∀it∈X.Γ,it∈Φ)(j:∀e∈tb,e.Ok X.P X.Γ)(g:∀e∈tp,e.Ok X.P X.Γ)(i:∀c∈tc,c.Ok X.P){fn:Func}{S:Value->World->Prop}{Sp:zj->World->Prop}(c:Code){fr:Fr}{K:XE->aE->Option R}{st:aE}{ρ:aB}{w:World}
  (s:Sat (ab ρ [] st.G++(ab ρ [] fr.H++Φ)) w) (h:kJ X tb tp tc c fr (arD K) st=some r) (m:j2 (BP X.P fn S Sp) [] fr Φ st.c ρ r K):WC X.P none c (BP X.P fn S Sp) fr.n [] (az ρ [] st.E fr.F) w:=by
 have k:Sat (ab ρ [] st.G++(ab ρ [] fr.H++eN []::Φ)) w:=by
  have l:Sat (eN []::((ab ρ [] st.G++ab ρ [] fr.H)++Φ)) w:=by rw [b0];exact s.asV
  have:=l.behind;rwa [b0] at this
 refine asX (D:=[]) (ds:=[]) d j g i c k h (λds e st' ρ' w' q p a t=>?_);have o:Sat (eN ds::(ab ρ' [] st'.G++(ab ρ' [] fr.H++Φ))) w':=by
  have l:Sat ((ab ρ' [] st'.G++ab ρ' [] fr.H)++eN ds::Φ) w':=by rw [b0];cases e <;> first|exact t|cases a
  have:=l.front;rwa [b0] at this
 rw [hV];cases e with
 |nrm=>exact aew ds o (λb f=>m .nrm st' ρ' b q p a f)
 |ret=>exact UK ds o (λb f=>m .ret st' ρ' b q p a f)
 |_=>cases a
end
abbrev av2{R:Type}(E0:aG)(K:aE->Option R):XE->aE->Option R
 | .nrm,st=>K { st with E:=E0 }
 | .ret,st=>K { st with E:=E0 }
 |_,_=>none
def Zd{R:Type}(X:Cx)(tb:List au)(tp:List bO)(pm:Bool)(cl:lJ)(cap:List AV)(v:AV)(fr:Fr)(st:aE)(K:aE->Option R):Option R:=match cl.fn.body with
 |some (.seq (.region _ ops false) y)=>(match ops.toList with
  |⟨some d,.call ⟨.builtin .recover,xs,_⟩,_,_,_,none⟩::l=>aC (xs.isEmpty&&l.all QJ&&cl.fn.results.isEmpty&&Nat.ble cap.length cl.fn.ntmps&&Nat.blt d cl.fn.ntmps) (
    BM X tb tp (λ_ _ _=>none) ops.toList ⟨[],fr.H,cl.fn.ntmps⟩ l [] { st with E:=(d,none,v)::kf 0 cap,h:= .c (.r (List.range cap.length) .o) (.c (.r (List.range cap.length) .o) .o) } (λst1=>den X tb tp y ⟨[],fr.H,cl.fn.ntmps⟩ (av2 st.E K) st1)) none
  |_=>none)
 |some (.region _ ops false)=>aC (pm&&ops.toList.all QJ&&cl.fn.results.isEmpty&&Nat.ble cap.length cl.fn.ntmps) (
    BM X tb tp (λ_ _ _=>none) ops.toList ⟨[],fr.H,cl.fn.ntmps⟩ ops.toList [] { st with E:=kf 0 cap } (λst1=>K { st1 with E:=st.E })) none
 |_=>none
section
variable {X : Cx} {tb : List au} {tp : List bO} {D : zm} {R : Type} {r : R} {Φ : Ctx}
theorem P0{a:lJ}{cap:List AV}{v:AV}{fr:Fr}{st:aE}{K:aE->Option R}{u u':FrameMode}{T:World->Prop}(I:a.Ok X.P)(p:∀it∈X.Γ,it∈Φ)(s:∀e∈tb,e.Ok X.P X.Γ)(q:∀e∈tp,e.Ok X.P X.Γ)
  (hs:Sat (ab ρ [] st.G++(ab ρ [] fr.H++Φ)) w) {Z:Bool} (O:Z=true->u= .returning/\u'= .returning) (hu:(u= .returning/\u'= .returning/\v.val ρ= .nilIface)\/(u= .panicking (je (v.val ρ))/\u'= .panicking [{ v:=v.val ρ,recovered:=true }]))
  (h:Zd X tb tp Z a cap v fr st K=some r) (hK:∀(st':aE) (ρ':aB) (w':World),aW st.c ρ ρ'->st.c<=st'.c->K { st' with E:=st.E }=some r->Sat (ab ρ' [] st'.G++(ab ρ' [] fr.H++Φ)) w'->T w'):
  Ja X.P a.f (AV.ar ρ cap) u w λu2 w'=>u2=u'/\T w':=by
 unfold Zd at h;split at h
 .rename_i id ops y hb;split at h
  .rename_i d xs tys ty pos af l j;obtain ⟨J,M⟩:=aI h;simp only [ah] at J;obtain ⟨⟨⟨⟨W,V⟩,U⟩,S⟩,h7⟩:=J;have N:xs= #[]:=by simpa using W
   subst N;have b:a.fn.results= #[]:=by simpa using U
   refine aaV (n:=a.fn.ntmps) I.2 hb j V b rfl (by rw [AV.bu];exact S) h7 hu ?_;obtain ⟨m⟩:=ops;simp only at j M;have:=Zg (σ:=none) (D:=[]) (Q:=Exit.then (y.wpIn (FW none) 0 X.P (QB T)) (QB T)) (ρ:=ρ) (w:=w) (r:=r) (ops:=m) (fr:=⟨[],fr.H,a.fn.ntmps⟩) (st:={ st with E:=(d,none,v)::kf 0 cap,h:= .c (.r (List.range cap.length) .o) (.c (.r (List.range cap.length) .o) .o) }) p s q (λx h=>by cases h) (λx h=>by cases h) ⟨λx _=>rfl,λx _=>rfl⟩ hs M (λst1 g w1 A k z L=>?_) (λlb v st1 g w1 A k z L=>by cases z)
   .have e1:az ρ [] ((d,none,v)::kf 0 cap) []=(d,true,v.val ρ)::iota 0 (AV.ar ρ cap):=by show aG.env ρ [] ((d,none,v)::kf 0 cap)++[]=_;simp only [aG.env,aD.get_none,yW,hV]
    have e2:az ρ [] ({ st with E:=(d,none,v)::kf 0 cap,h:= .c (.r (List.range cap.length) .o) (.c (.r (List.range cap.length) .o) .o) }:aE).E (⟨[],fr.H,a.fn.ntmps⟩:Fr).F=(d,true,v.val ρ)::iota 0 (AV.ar ρ cap):=e1;rw [e2] at this;exact this
   .refine bg (gf (σ:=none) (D:=[]) p s q y (fr:=⟨[],fr.H,a.fn.ntmps⟩) L z (λe C B Y b1 b2 t b4=>?_));cases e with
    |nrm=>exact arn (hK C B Y (A.trans b1 k) (c9 k b2) t b4)
    |ret=>exact auN (hK C B Y (A.trans b1 k) (c9 k b2) t b4)
    |ext i=>cases t
    |gto l=>cases t
    |je v=>cases t
    |panE v=>cases t
    |panL v=>cases t
  .cases h
 .rename_i id ops hb;obtain ⟨J,M⟩:=aI h;simp only [ah] at J;obtain ⟨⟨⟨W,V⟩,U⟩,S⟩:=J;have b:a.fn.results= #[]:=by simpa using U
  obtain ⟨rfl,rfl⟩:=O W;refine ahH (n:=a.fn.ntmps) I.2 hb V b rfl (by rw [AV.bu];exact S) ?_;obtain ⟨m⟩:=ops;have:=Zg (σ:=none) (D:=[]) (Q:=QB T) (ρ:=ρ) (w:=w) (r:=r) (ops:=m) (fr:=⟨[],fr.H,a.fn.ntmps⟩) (st:={ st with E:=kf 0 cap }) p s q (λx h=>by cases h) (λx h=>by cases h) ⟨λx _=>rfl,λx _=>rfl⟩ hs M (λst1 g w1 A k z L=>arn (hK st1 g w1 A k z L)) (λlb v st1 g w1 A k z L=>by cases z);have e1:az ρ [] (kf 0 cap) []=iota 0 (AV.ar ρ cap):=by show aG.env ρ [] (kf 0 cap)++[]=_;simp only [yW,hV]
  have e2:az ρ [] ({ st with E:=kf 0 cap }:aE).E (⟨[],fr.H,a.fn.ntmps⟩:Fr).F=iota 0 (AV.ar ρ cap):=e1;rw [e2] at this;exact this
 .cases h
end
def alK:zz->Option (zz×Operand)
 |[]=>none
 |o::l=>(match l with
  |[]=>(match o with
   |⟨none,.defer ⟨.value fo,xs,_⟩,_,_,_,none⟩=>aC xs.isEmpty (some ([],fo)) none
   |_=>none)
  |_::_=>(match alK l with
   |some p=>some (o::p.1,p.2)
   |none=>none))
theorem ajv:{l l':zz}->{fo:Operand}->alK l=some (l',fo)->∃tys ty pos af,l=l'++[⟨none,.defer ⟨.value fo,#[],tys⟩,ty,pos,af,none⟩]
 |[],_,_,h=>by cases h
 |o::l,l',fo,h=>by
  unfold alK at h;split at h
  .split at h
   .obtain ⟨b,a⟩:=aI h;rename_i xs _ _ _ _;have:xs= #[]:=by simpa using b
    subst this;cases a;exact ⟨_,_,_,_,rfl⟩
   .cases h
  .split at h
   next p hp=>cases h;obtain ⟨tys,ty,pos,af,a⟩:=ajv (fo:=p.2) (l':=p.1) (by rw [hp]);exact ⟨tys,ty,pos,af,by rw [a];rfl⟩
   .cases h
def akH:Code->Option (zz×zz×Operand)
 | .region _ ops false=>(match alK ops.toList with
  |some p=>some (ops.toList,p.1,p.2)
  |none=>none)
 |_=>none
def ari:Code->Bool
 | .scope _=>true
 | .seq x y=>(akH x).isSome||ari y
 |_=>false
def US:List Row->Bool
 |[]=>true
 |r::H=>r.cV&&US H
theorem aaM:{H:List Row}->US H=true->dD H=H
 |[],_=>rfl
 |r::H,h=>by simp only [US,ah] at h;show aC r.cV (r::dD H) (dD H)=r::H;rw [h.1,aaM h.2]
def av7{R:Type}(X:Cx)(tb:List au)(tp:List bO)(cl:lJ)(cap:List AV)(fr:Fr)(K:XE->aE->Option R):XE->aE->Option R
 | .nrm,st=>aC (st.low fr) (Zd X tb tp true cl cap (.raw .nilIface) fr st (K .ret)) none
 | .ret,st=>aC (st.low fr) (Zd X tb tp true cl cap (.raw .nilIface) fr st (K .ret)) none
 | .panE v,st=>aC (st.low fr) (Zd X tb tp false cl cap v fr st (K .ret)) none
 | .panL v,st=>aC (US fr.H) (aC (st.low fr) (Zd X tb tp false cl cap v fr st (K .ret)) none) none
 |_,_=>none
def aj2{R:Type}(X:Cx)(tb:List au)(tp:List bO)(tc:List lJ):Code->Fr->(XE->aE->Option R)->aE->Option R
 | .scope c,fr,K,st=>aqG X tb tp c fr K st
 | .seq x y,fr,K,st=>(match akH x with
  |some p=>BM X tb tp (λb v st=>K (aC b (.panL v) (.panE v)) st) p.1 fr p.2.1 [] (BK st) (λst1=>match bC [] st1.E fr.F none p.2.2 with
   |some (.fn f [] cap)=>(match Xt tc f with
    |some cl=>aC (AV.cm st1.c cap) (den X tb tp y fr (av7 X tb tp cl cap fr K) st1) none
    |none=>none)
   |_=>none)
  |none=>aC (ari y) (den X tb tp x fr (yx (aj2 X tb tp tc y fr K) K) (BK st)) (aC (rK x||rK y) (kJ X tb tp tc (.seq x y) fr (arD K) st) (den X tb tp (.seq x y) fr K st)))
 |c,fr,K,st=>den X tb tp c fr K st
section
variable {X : Cx} {tb : List au} {tp : List bO} {tc : List lJ} {R : Type} {r : R} {Φ : Ctx} {fn : Func} {S : Value -> World -> Prop} {Sp : zj -> World -> Prop}
theorem asd{c:Code}{p:zz×zz×Operand}(h:akH c=some p):∃id ops,c= .region id ops false/\ops.toList=p.1/\∃tys ty pos af,p.1=p.2.1++[⟨none,.defer ⟨.value p.2.2,#[],tys⟩,ty,pos,af,none⟩]:=by
 unfold akH at h;split at h
 .rename_i id ops;split at h
  next q a=>cases h;exact ⟨id,ops,rfl,rfl,ajv a⟩
  .cases h
 .cases h
theorem aso(d:∀it∈X.Γ,it∈Φ)(j:∀e∈tb,e.Ok X.P X.Γ)(g:∀e∈tp,e.Ok X.P X.Γ)(M:∀c∈tc,c.Ok X.P):∀(c:Code) {fr:Fr} {K:XE->aE->Option R} {st:aE} {ρ:aB} {w:World},Sat (ab ρ [] st.G++(ab ρ [] fr.H++Φ)) w->
  aj2 X tb tp tc c fr K st=some r->j2 (BP X.P fn S Sp) [] fr Φ st.c ρ r K->WC X.P none c (BP X.P fn S Sp) fr.n [] (az ρ [] st.E fr.F) w:=λc=>by
 induction c with
 |scope c=>intro fr K st ρ w B h s;exact asW d j g B h s
 |seq x y ihx Y=>
  intro fr K st ρ w B h s;obtain ⟨W,p2,p3⟩:=ai9 (st:=st);unfold aj2 at h;split at h
  .rename_i p hp;obtain ⟨id,ops,rfl,e1,tys,ty,pos,af,e2⟩:=asd hp;refine bB (bn ?_);obtain ⟨opl⟩:=ops;simp only at e1;subst e1;have hw:=KU (σ:=none) (D:=[]) (Q:=Exit.then (y.wpIn (FW none) 0 X.P (BP X.P fn S Sp)) (BP X.P fn S Sp)) (ρ:=ρ) (w:=w) (st:=BK st) (rest:=[⟨none,.defer ⟨.value p.2.2,#[],tys⟩,ty,pos,af,none⟩]) d j g (λx h=>by cases h) (λx h=>by cases h) ⟨λx _=>rfl,λx _=>rfl⟩ (by rw [p3];exact B) h (λst1 k w1 z t m L=>?_) (λlb v st1 k w1 z t m L=>?_)
   .rw [p2,<-e2] at hw;exact hw
   .split at m
    .rename_i f cap Z;split at m
     .rename_i cl hcl;obtain ⟨b1,b2⟩:=aI m;obtain ⟨c1,c2⟩:=Vm M hcl;have C:=bL (ρ:=k) Z;simp only [AV.val,AV.ar] at C;subst c2;refine aqg C (cg (bg ?_));rw [W] at z t;refine gf (σ:=none) (D:=[Sq cl.f (AV.ar k cap)]) d j g y L b2 (λe b a w2 d1 d2 A V=>?_);have N:AV.ar a cap=AV.ar k cap:=AV.cj d1 _ b1;have U:b.low fr=true->∀(q:aE) (o:aB) (O:World),aW b.c a o->b.c<=q.c->K .ret { q with E:=b.E }=some r->Sat (ab o [] q.G++(ab o [] fr.H++Φ)) O->At (BP X.P fn S Sp) .ret fr.n [] (az a [] b.E fr.F) O:=λhl q o O f1 f2 f3 f4=>by have:=s .ret { q with E:=b.E } o O (z.trans (d1.trans f1 d2) t) (c9 t (c9 d2 f2)) f3 f4;rw [<-oY hl f1];exact this
      rw [<-N];cases e with
      |nrm=>
       obtain ⟨J,I⟩:=aI A;exact anB c1.1 (P0 (u:= .returning) (T:=λw'=>At (BP X.P fn S Sp) .ret fr.n [] (az a [] b.E fr.F) w') c1 d j g V (λ_=>⟨rfl,rfl⟩) (.inl ⟨rfl,rfl,rfl⟩) I (U J)) (λ_ h=>h)
      |ret=>
       obtain ⟨J,I⟩:=aI A;exact anB c1.1 (P0 (u:= .returning) (T:=λw'=>At (BP X.P fn S Sp) .ret fr.n [] (az a [] b.E fr.F) w') c1 d j g V (λ_=>⟨rfl,rfl⟩) (.inl ⟨rfl,rfl,rfl⟩) I (U J)) (λ_ h=>h)
      |ext i=>cases A
      |gto l=>cases A
      |je v=>cases A
      |panE v=>
       obtain ⟨J,I⟩:=aI A;have hp:=P0 (u:= .panicking (je (v.val a))) (T:=λw'=>At (BP X.P fn S Sp) .ret fr.n [] (az a [] b.E fr.F) w') c1 d j g V (λh=>by cases h) (.inr ⟨rfl,rfl⟩) I (U J);exact ajF c1.1 hp (λ_ h=>h)
      |panL v=>
       obtain ⟨l0,A⟩:=aI A;obtain ⟨J,I⟩:=aI A;have d5:Sat (ab a [] b.G++(ab a [] (dD fr.H)++Φ)) w2:=V;rw [aaM l0] at d5;have hp:=P0 (u:= .panicking (je (v.val a))) (T:=λw'=>At (BP X.P fn S Sp) .ret fr.n [] (az a [] b.E fr.F) w') c1 d j g d5 (λh=>by cases h) (.inr ⟨rfl,rfl⟩) I (U J);exact ajF c1.1 hp (λ_ h=>h)
     .cases m
    .cases m
   .rw [W] at z t;cases lb
    .exact Mx (s (.panE v) st1 k w1 z t m L)
    .exact Mx (s (.panL v) st1 k w1 z t m L)
  .rename_i hp;rcases dT h with ⟨h1,h2⟩|⟨_,h2⟩
   .refine bB ?_;have:=gf (σ:=none) (D:=[]) d j g x (fr:=fr) (st:=BK st) (ρ:=ρ) (w:=w) (Q:=Exit.then (y.wpIn (FW none) 0 X.P (BP X.P fn S Sp)) (BP X.P fn S Sp)) (by rw [p3];exact B) h2 (λe st' ρ' w' z t m L=>?_)
    .rw [p2] at this;exact this
    .rw [W] at z t;by_cases he:e= .nrm
     .subst he;exact bg (Y L m (s.less z t))
     .rw [nW he] at m;exact iE he (s e st' ρ' w' z t m L)
   .rcases dT h2 with ⟨_,h3⟩|⟨_,h3⟩
    .exact ao7 d j g M (.seq x y) B h3 s
    .exact gf d j g (.seq x y) B h3 s
 |_=>intro fr K st ρ w B h s;exact gf d j g _ B h s
end
variable {tb : List au} {tc : List lJ} {tp : List bO}
def eM:List (Bool×Row)->List Row
 |[]=>[]
 |x::R=>aC x.1 (x.2::eM R) (eM R)
def lT:List (Bool×Row)->List Row
 |[]=>[]
 |x::R=>aC x.1 (lT R) (x.2::lT R)
def PA:List Row->zC
 |[]=>[]
 |r::G=>(match r with
  | .box j _ _=>j::PA G
  |_=>PA G)
def Mu:Nat->Nat->zh
 |0,_=>[]
 |n+1,k=>some k::Mu n (k+1)
def afm:List (Nat×List AV)->List (List AV)->List (Nat×List AV)
 |x::X,cs::C=>(x.1,cs)::afm X C
 |_,_=>[]
def LV(X:Cx)(fr:Fr)(st:aE):ResultVar->Option AV
 | .tmp t=>Bh st.E fr.F t
 | .cell p t=>(match Bh st.E fr.F p with
  |some v=>(match Bp [] st.G fr.H none v with
   |some cs=>lN X.P t cs
   |none=>none)
  |none=>none)
def H2(vs:List AV):AV:=match vs with
 |[v]=>v
 |vs=> .tuple vs
def aoS(e:au)(fr:Fr)(st:aE)(v:AV)(fix0:Nat->Option AV)(fix:Nat->ix):List Row:=cP (uX st.G fr.H e.r v++XY st.G fr.H fix0 fix e.os) st.G
def auh(e:au)(fr:Fr)(n:Nat)(G:List Row)(v:AV)(fix0:Nat->Option AV)(fix:Nat->ix):Option (fA (og e.r++iG e.os)):=match mt G fr.H e.r v none none (Mu n 0) with
 |some mr=>(match mtV G fr.H fix0 fix e.os mr.B with
  |some mq=>aC (Ew ((mr.S++mq.S).map λx=>dL G fr.H x.2)&&Sm G.length ((mr.S++mq.S).map λx=>dL G fr.H x.2)) (cB _ (mr.D++mq.D)) none
  |none=>none)
 |none=>none
def ak4(X:Cx)(e:au)(fn:Func)(fr:Fr)(n:Nat)(fix0:Nat->Option AV)(fix:Nat->ix)(st:aE):Option (fA (og e.r++iG e.os)):=match yp (LV X fr st) fn.results.toList with
 |some rs=>auh e fr n (aoS e fr st (H2 rs) fix0 fix) (H2 rs) fix0 fix
 |none=>none
abbrev av4{R:Type}(K:aE->Option R):XE->aE->Option R
 | .nrm,st=>K st
 | .ret,st=>K st
 |_,_=>none
def alP{R:Type}(X:Cx)(tb:List au)(tp:List bO)(tc:List lJ)(h:HT)(fn:Func)(ps:List Pt)(KF:List AV->List Row->Nat->List (Nat×List AV)->XE->aE->Option R)(s:fA (oL ps)):Option R:=
 match eX id ps [] [] 0 (ic _ s) with
 |⟨vs,R,n,_,XA⟩=>match mM (PA (eM R)) n (eM R) with
  |(G,Q,c)=>match fn.body with
   |none=>none
   |some body=>aC (Nat.ble vs.length fn.ntmps&&AV.cm n vs&&bI n (R.map (·.2))) (
    aj2 X tb tp tc body ⟨[],Q++lT R,fn.ntmps⟩ (KF vs (Q++lT R) n (afm XA (gQ G))) ⟨c,kf 0 vs,G,h⟩) none
def afr(X:Cx)(tb:List au)(tp:List bO)(tc:List lJ)(h:HT)(fn:Func)(e:au)(s:fA (oL e.ps)):Option (fA (og e.r++iG e.os)):=
 alP X tb tp tc h fn e.ps (λvs H n XX=>av4 (ak4 X e fn ⟨[],H,fn.ntmps⟩ n (λ(i:Nat)=>vs[i]?) (yH (Mu n 0) e.ps vs XX))) s
def PY(pp:Pt)(fr:Fr)(v:AV)(st:aE):Option (fA (og pp)):=match mt (cP (uX st.G fr.H pp v) st.G) fr.H pp v none none [] with
 |some mr=>aC (Ew (mr.S.map λx=>dL (cP (uX st.G fr.H pp v) st.G) fr.H x.2)&&Sm (cP (uX st.G fr.H pp v) st.G).length (mr.S.map λx=>dL (cP (uX st.G fr.H pp v) st.G) fr.H x.2)) (cB _ mr.D) none
 |none=>none
abbrev DU(pp:Pt):(pq:Option Pt)->(fr:Fr)->(v:AV)->(st:aE)->Option (Wf pp pq)
 |none,fr,v,st=>PY pp fr v st
 |some q,fr,v,st=>match PY pp fr v st with
  |some x=>some (.inl x)
  |none=>(PY q fr v st).map .inr
abbrev inT{B:Type}:(nv:Bool)->(r:Pt)->(os:List (Bool×Nat×Pt))->Option (fA (og r++iG os))->Option (Except B (rY nv r os))
 |true,_,_,_=>none
 |false,_,_,o=>o.map .ok
theorem aem{B:Type}:{nv:Bool}->{r:Pt}->{os:List (Bool×Nat×Pt)}->{o:Option (fA (og r++iG os))}->{z:Except B (rY nv r os)}->inT nv r os o=some z->∃x q,o=some q/\z= .ok x/\isOk nv r os x q
 |true,_,_,_,_,h=>by cases h
 |false,_,_,none,_,h=>by cases h
 |false,_,_,some q,_,h=>by cases h;exact ⟨q,q,rfl,rfl,rfl⟩
abbrev avU{B:Type}(nv:Bool)(r:Pt)(os:List (Bool×Nat×Pt))(K:aE->Option (fA (og r++iG os)))(KP KL:AV->aE->Option B):XE->aE->Option (Except B (rY nv r os))
 | .nrm,st=>inT nv r os (K st)
 | .ret,st=>inT nv r os (K st)
 | .je v,st=>(KP v st).map .error
 | .panE v,st=>(KP v st).map .error
 | .panL v,st=>(KL v st).map .error
 |_,_=>none
def aqD(X:Cx)(tb:List au)(tp:List bO)(tc:List lJ)(h:HT)(fn:Func)(e:bO)(s:fA (oL e.ps)):Option (Except (Wf e.pp e.pq) (rY e.nv e.r e.os)):=
 alP X tb tp tc h fn e.ps (λvs H n XX=>avU e.nv e.r e.os (ak4 X e.oe fn ⟨[],H,fn.ntmps⟩ n (λ(i:Nat)=>vs[i]?) (yH (Mu n 0) e.ps vs XX)) (DU e.pp e.pq ⟨[],H,fn.ntmps⟩) (λv st=>aC (e.lp||US H) (DU e.pp e.pq ⟨[],dD H,fn.ntmps⟩ v st) none)) s
theorem De:{G H:List Row}->gQ (G++H)=gQ G++gQ H
 |[],_=>rfl
 |r::G,H=>by cases r <;> simp only [n5,gQ,De]
theorem AK:{R S:List (Bool×Row)}->eM (R++S)=eM R++eM S
 |[],_=>rfl
 |x::R,S=>by have e:∀Q,eM (x::Q)=aC x.1 (x.2::eM Q) (eM Q):=λ_=>rfl;rw [n5,e,e,AK];cases x.1 <;> rfl
theorem aaw{nm:Nat->Nat}:(t:Ty)->(x:t.T)->(n:Nat)->(o:zf)->gQ (eM (ir nm t x n o).R)=[]
 | .i _,_,_,_|.bo,_,_,_|.s,_,_,_|.un,_,_,_|.n,_,_,_|.mp _ _,_,_,_=>rfl
 | .p a b,x,n,o=>by
  unfold ir;have h:=aaw (nm:=nm) a x.1 n o;generalize ir nm a x.1 n o=L at h;obtain ⟨u,p,f,d⟩:=L;dsimp only;have g:=aaw (nm:=nm) b x.2 f d;generalize ir nm b x.2 f d=L at g;obtain ⟨j,c,m,k⟩:=L;show gQ (eM (p++c))=[];rw [AK,De,show gQ (eM p)=[] from h,show gQ (eM c)=[] from g];rfl
 | .l t,x,n,o=>by
  unfold ir;split <;> first|rfl|(rename_i e _;show gQ (eM [(ow e,_)])=[];unfold eM;cases ow e <;> rfl)
 | .ex,x,n,o=>by unfold ir;split <;> first|rfl|(rename_i e _;show gQ (eM [(ow e,_)])=[];unfold eM;cases ow e <;> rfl)
mutual
theorem aas{nm:Nat->Nat}:(p:Pt)->(fx:ix)->(c:Option AV)->(n:Nat)->(D:List cn)->(fill nm p fx c n D).X.map (·.2)=gQ (eM (fill nm p fx c n D).R)
 | .int _,_,_,_,_|.bool,_,_,_,_|.str,_,_,_,_|.sli _,_,_,_,_|.slr _,_,_,_,_|.ptr _ _,_,_,_,_|.it,_,_,_,_|.kB _,_,_,_,_|.ifn,_,_,_,_|.sfp,_,_,_,_|.same,_,_,_,_=>rfl
 | .own t e m,fx,c,n,D=>by cases m <;> rfl
 | .mp k v m,fx,c,n,D=>by cases m <;> rfl
 | .bx t off m vs,fx,c,n,D=>by
  unfold fill;have h:=vA (nm:=nm) vs [] (Kp fx) (n+1) D;generalize eX nm vs [] (Kp fx) (n+1) D=L at h;obtain ⟨cs,R,k,g,d⟩:=L;have q:d.map (·.2)=gQ (eM R):=h;cases m
  .exact q
  .show reS (I0 nm fx n) vs cs::d.map (·.2)=reS (I0 nm fx n) vs cs::gQ (eM R);rw [q]
 | .agg l,fx,c,n,D=>by
  unfold fill;have h:=vA (nm:=nm) l (ik fx) [] n D;generalize eX nm l (ik fx) [] n D=L at h;obtain ⟨cs,R,k,g,d⟩:=L;exact h
 | .cB l,fx,c,n,D=>by
  unfold fill;have h:=vA (nm:=nm) l [] [] n D;generalize eX nm l [] [] n D=L at h;obtain ⟨cs,R,k,g,d⟩:=L;exact h
 | .fn f a b,fx,c,n,D=>by
  unfold fill;have h:=vA (nm:=nm) a [] [] n D;generalize eX nm a [] [] n D=L at h;obtain ⟨cs,R,k,g,d⟩:=L;dsimp only;have j:=vA (nm:=nm) b (ik fx) [] k g;generalize eX nm b (ik fx) [] k g=L at j;obtain ⟨s,r,x,u,i⟩:=L;show (d++i).map (·.2)=gQ (eM (R++r));rw [q0,AK,De,show d.map (·.2)=gQ (eM R) from h,show i.map (·.2)=gQ (eM r) from j]
 | .sty p,fx,c,n,D=>by
  unfold fill;exact aas p _ none n D
 | .ifc t p,fx,c,n,D=>by
  unfold fill;have h:=aas (nm:=nm) p (oT p (ik fx)) none n D;generalize fill nm p (oT p (ik fx)) none n D=L at h;obtain ⟨v,R,k,g,d⟩:=L;exact h
 | .dat t o,fx,c,n,D=>by unfold fill;have h:=aaw (nm:=nm) t (gV t D) n o;generalize ir nm t (gV t D) n o=L at h;obtain ⟨cs,R,k,w⟩:=L;exact h.symm
theorem vA{nm:Nat->Nat}:(l:List Pt)->(b a:List AV)->(n:Nat)->(D:List cn)->(eX nm l b a n D).X.map (·.2)=gQ (eM (eX nm l b a n D).R)
 |[],_,_,_,_=>rfl
 |p::l,b,a,n,D=>by unfold eX;have h:=aas (nm:=nm) p (oT p b) a.head? n D;generalize fill nm p (oT p b) a.head? n D=L at h;obtain ⟨cs,R,k,g,e⟩:=L;dsimp only;have d:=vA (nm:=nm) l b.tail a.tail k g;generalize eX nm l b.tail a.tail k g=L at d;obtain ⟨i,f,m,j,c⟩:=L;show (e++c).map (·.2)=gQ (eM (R++f));rw [q0,AK,De,show e.map (·.2)=gQ (eM R) from h,show c.map (·.2)=gQ (eM f) from d]
end
theorem aer{ρ ρ':aB}:{X:List (Nat×List AV)}->{C:List (List AV)}->C.map (AV.ar ρ')=X.map (λx=>AV.ar ρ x.2)->eA ρ' (afm X C)=eA ρ X
 |[],[],_=>rfl
 |[],_::_,h=>by cases h
 |_::_,[],h=>by cases h
 |x::X,cs::C,h=>by simp only [er,nI] at h;show (x.1,AV.ar ρ' cs)::eA ρ' (afm X C)=(x.1,AV.ar ρ x.2)::eA ρ X;rw [h.1,aer h.2]
section
variable {w : World} {ρ : aB}
theorem Sat.auB{A B:Ctx}{x:Item}(h:Sat (A++B) w)(hx:x.own=[]/\∀M w,x.P M w):Sat (A++x::B) w:=by
 refine h.C5 (λj k=>(j<A.length/\k=j)\/(A.length<j/\k+1=j)) (λj jt a=>?_) (λj k q b d c=>by omega);by_cases e:j<A.length
 .rw [cy e] at a;exact .inr ⟨j,jt,.inl ⟨e,rfl⟩,by rw [cy e];exact a,cd.refl⟩
 .rw [ca (by omega)] at a;by_cases e2:j=A.length
  .subst e2;simp at a;subst a;exact .inl hx
  .refine .inr ⟨j-1,jt,.inr ⟨by omega,by omega⟩,?_,cd.refl⟩;rw [ca (by omega)];have:j-A.length=(j-1-A.length)+1:=by omega
   rw [this,c8] at a;exact a
theorem Sat.kE{A B:Ctx}(h:Sat (A++B) w):∀(L:List Item),(∀it∈L,it.cV=true/\∀M w,it.P M w)->Sat (A++(L++B)) w
 |[],_=>h
 |x::L,hL=>(Sat.kE h L (λit a=>hL it (cb _ a))).auB ⟨x.hp (hL x (ct ..)).1,(hL x (ct ..)).2⟩
theorem aa5{Φ:Ctx}{T:aD}:∀{R:List (Bool×Row)} {A:Ctx},Sat (A++(ab ρ T (R.map (·.2))++Φ)) w->Sat (A++(ab ρ T (eM R)++(ab ρ T (lT R)++Φ))) w
 |[],_,h=>h
 |x::R,A,h=>by
  have c:Sat ((A++[x.2.item ρ T])++(ab ρ T (R.map (·.2))++Φ)) w:=by simpa [ab] using h
  have a:=aa5 c;unfold eM lT;cases x.1
  .have b:Sat (A++x.2.item ρ T::(ab ρ T (eM R)++(ab ρ T (lT R)++Φ))) w:=by simpa using a
   exact b.move
  .simpa [ab] using a
theorem OO{Φ:Ctx}{T:aD}:∀{R:List (Bool×Row)} {I:fJ} {A:Ctx},fO (RwI ρ T) R I->Sat (A++(ab ρ T (lT R)++Φ)) w->Sat (A++(fK I++Φ)) w
 |_,_,_,.nil,h=>h
 |_,_,A,.cons (a:=a) (b:=b) (l:=l) (m:=m) h1 hr,h=>by
  unfold lT at h;show Sat (A++(aC b.1 gS b.2)::(fK m++Φ)) w;rw [<-h1.1];cases d:a.1
  .rw [d] at h;have f:Sat (A++b.2::(ab ρ T (lT l)++Φ)) w:=by have c:Sat (A++a.2.item ρ T::(ab ρ T (lT l)++Φ)) w:=h;exact c.Ge h1.2.2
   have e:Sat ((A++[b.2])++(ab ρ T (lT l)++Φ)) w:=by simpa using f
   have:=OO hr e;simpa using this
  .rw [d] at h;have c:Sat (A++(ab ρ T (lT l)++Φ)) w:=h;exact (OO hr c).auB ⟨rfl,λ_ _=>trivial⟩
theorem agK{c:Nat}:{R:List (Bool×Row)}->bI c (R.map (·.2))=true->bI c (eM R)=true/\bI c (lT R)=true
 |[],_=>⟨rfl,rfl⟩
 |x::R,h=>by
  simp only [er,bI,ah] at h;obtain ⟨b,a⟩:=agK h.2;unfold eM lT;cases x.1
  .exact ⟨b,by show bI c (x.2::lT R)=true;simp only [bI,ah];exact ⟨h.1,a⟩⟩
  .exact ⟨by show bI c (x.2::eM R)=true;simp only [bI,ah];exact ⟨h.1,b⟩,a⟩
theorem amY{N:List Nm}:∀{M:List Nm} {k:Nat},(∀i a,M[i]? =some a->ρ (k+i)=a)->NB ρ (Mu M.length k) M
 |[],_,_=> .nil
 |a::M,k,h=> .cons (by
   have:=h 0 a rfl;rw [qu] at this;exact ⟨by rw [this],by rw [this],by rw [this]⟩) (amY (N:=N) λi b hb=>by
   have:=h (i+1) b (by simpa using hb);rw [<-this];congr 1;omega)
end
section
variable {X : Cx} {fr : Fr} {st : aE} {ρ : aB} {Φ : Ctx} {w : World}
theorem ar2(l:Sat (ab ρ [] st.G++(ab ρ [] fr.H++Φ)) w){r:ResultVar}{v:AV}(h:LV X fr st r=some v):kK X.P (az ρ [] st.E fr.F) w r (v.val ρ):=by
 cases r with
 |tmp t=>exact kK.t (Hk h)
 |cell p t=>
  unfold LV at h;dsimp only at h;split at h
  .rename_i u k;split at h
   .rename_i cs e;obtain ⟨A,e1,i⟩:=PR l e aD.get_none;have c:=Hk (ρ:=ρ) k;rw [e1] at c;have x:lN X.P t (cs.drop 0)=some v:=by simpa using h
    obtain ⟨d,n,bytes,z,c1,y,g⟩:=oM (ρ:=ρ) x;cases b:kI d
    .rw [b] at g;simp only [pA,qT] at g;exact kK.c1 c c1 b i g
    .unfold lN at h;rw [c1] at h;rcases dT h with ⟨_,f⟩|⟨j,_⟩
     .split at f
      next q m=>obtain ⟨n,bytes,z⟩:=q;obtain ⟨s,o⟩:=aI f;cases o;have a:n<=cs.length:=dk s;simp only [AV.val];refine kK.cA c c1 b (cW m) (vs:=AV.ar ρ (cs.take n)) ?_ (by rw [AV.bu,b9,et a]);have:=i.sub (us:=AV.ar ρ (cs.take n)) 0 (by rw [AV.kM,qa,b9,AV.bu,et a]);simpa [Addr.add] using this
      .cases f
     .rw [b] at j;cases j
   .cases h
  .cases h
theorem aqF{rs:List AV}:(if h:(AV.ar ρ rs).length=1 then (AV.ar ρ rs)[0] else .tuple (AV.ar ρ rs).toArray)=(H2 rs).val ρ:=by
 match rs with
 |[]=>simp [H2,AV.ar,AV.val]
 |[v]=>simp [H2,AV.ar]
 |u::v::l=>simp [H2,AV.ar,AV.val]
theorem anL{fn:Func}{S:Value->World->Prop}{Sp:zj->World->Prop}{rs:List AV}(k:Sat (ab ρ [] st.G++(ab ρ [] fr.H++Φ)) w)(h:yp (LV X fr st) fn.results.toList=some rs)(o:S ((H2 rs).val ρ) w):
  At (BP X.P fn S Sp) .ret fr.n [] (az ρ [] st.E fr.F) w:=by
 have c:∀{α β:Type} {f:α->Option β} {l:List α} {ys:List β},yp f l=some ys->l.length=ys.length:=λ{α β f l}=>by
  induction l with
  |nil=>intro ys h;cases h;rfl
  |cons x l ih=>
   intro ys h;unfold yp at h;split at h
   .split at h
    next zs e=>cases h;simp [ih e]
    .cases h
   .cases h
 have b:∀{l:List ResultVar} {ys:List AV},yp (LV X fr st) l=some ys->yp (λr=>(LV X fr st r).map (AV.val ρ)) l=some (AV.ar ρ ys):=λ{l}=>by
  induction l with
  |nil=>intro ys h;cases h;simp [yp,AV.ar]
  |cons x l ih=>
   intro ys h;unfold yp at h ⊢;split at h
   .rename_i y j;split at h
    next zs e=>cases h;rw [j,ih e];simp [AV.ar]
    .cases h
   .cases h
 refine akC (vs:=AV.ar ρ rs) (by rw [AV.bu];exact c h) (λa m=>Ww (g:=λr=>(LV X fr st r).map (AV.val ρ)) (λr v d=>?_) (b h)) aqF o;cases i:LV X fr st r with
 |none=>rw [i] at d;cases d
 |some u=>
  rw [i] at d;cases d;exact (ar2 k i).run m
end
theorem aiX{R:Type}{X:Cx}{h:HT}{fn:Func}{f:FuncId}{ps:List Pt}{KF:List AV->List Row->Nat->List (Nat×List AV)->XE->aE->Option R}{s:fA (oL ps)}{r:R}{S:Value->World->Prop}{Sp:zj->World->Prop}
  (hfn:X.P.funcs[f]? =some fn) (U:∀e∈tb,e.Ok X.P X.Γ) (O:∀e∈tp,e.Ok X.P X.Γ) (Q:∀c∈tc,c.Ok X.P) (j:alP X tb tp tc h fn ps KF s=some r) {d:zq} {N:List Nm} {I:fJ} {XX:kr} {Φ:Ctx} {w:World}
  (hS:xA ps d [] [] [] (ic _ s) I XX N) (p:Sat (dM I++Φ) w) (M:∀it∈X.Γ,it∈Φ)
  (fin:∀(x:XE) (vs:List AV) (H:List Row) (F:List (Nat×List AV)) (st:aE) (ρ:aB) (w':World),KF vs H N.length F x st=some r->Sat (ab ρ [] st.G++(ab ρ [] (hx x ⟨[],H,fn.ntmps⟩)++Φ)) w'->NB ρ (Mu N.length 0) N->AV.ar ρ vs=d->eA ρ F=XX->
   (∀{A:Ctx} {K:World},Sat (A++(ab ρ [] H++Φ)) K->Sat (A++(fK I++Φ)) K)->OA (BP X.P fn S Sp) x ρ fn.ntmps [] (az ρ [] st.E []) w'):mV X.P f d w S Sp:=by
 -- names of the arguments
 have t:xY (λ(i:Nat)=>(N[i]?).getD df) id 0 N:=λi a m=>by simp only [id,m,qD];exact ⟨trivial,trivial,trivial,λ_=>trivial⟩
 have u:∀(i:Nat) a,N[i]? =some a->(λ(i:Nat)=>(N[i]?).getD df) (0+i)=a:=λi a m=>by simp only [l7,m,qD]
 generalize (λ(i:Nat)=>(N[i]?).getD df)=ρ at t u;obtain ⟨y,D,f3,z,v⟩:=vH (T:=[]) (nm:=id) ps d [] [] [] (ic _ s) I XX N (by simpa only [AV.ar] using hS) t (qf _) [];have fb:=vA (nm:=id) ps [] [] 0 (ic _ s);simp only [hV,qg] at y D f3 z v;unfold alP at j;generalize eX id ps [] [] 0 (ic _ s)=L at y D f3 z v fb j;obtain ⟨vs,R,n,DD,F⟩:=L;simp only at y D f3 z v fb;dsimp only at j;subst D;generalize hL:mM (PA (eM R)) N.length (eM R)=L at j;obtain ⟨G,J,c⟩:=L;dsimp only at j;split at j
 .cases j
 rename_i body k;obtain ⟨h1,h2⟩:=aI j;simp only [ah] at h1;obtain ⟨⟨h3,h4⟩,h5⟩:=h1;obtain ⟨l1,l2⟩:=agK h5;obtain ⟨b,g⟩:=KZ (ids:=PA (eM R)) (ρ:=ρ) l1;rw [hL] at g;have hc:N.length<=c:=g.le;have Y:Sat (ab ρ [] (R.map (·.2))++Φ) w:=Sat.leL (A:=[]) (B:=dM I) (C:=Φ) p v.rw;have W:=aa5 (A:=[]) Y;have e1:ab b [] G=ab ρ [] (eM R):=g.eq;have V:Sat (ab b [] G++(ab b [] (J++lT R)++Φ)) w:=by
  rw [e1,bp,bh g.ag l2,b0];exact Sat.kE (A:=ab ρ [] (eM R)) (B:=ab ρ [] (lT R)++Φ) W (ab b [] J) (λit Z=>by obtain ⟨q,hq,rfl⟩:=List.mem_map.1 Z;exact g.rp q hq)
 have o:AV.ar b vs=d:=by rw [AV.cj g.ag _ h4,y]
 refine jG hfn k rfl (by rw [<-o,AV.bu];exact h3) ?_;have hE:az b [] (kf 0 vs) []=iota 0 d:=by show aG.env b [] (kf 0 vs)++[]=_;rw [yW,o,hV]
 rw [<-hE];refine aso (fr:=⟨[],J++lT R,fn.ntmps⟩) (st:=⟨c,kf 0 vs,G,h⟩) M U O Q body V h2 (λx st' ρ' w' a1 a2 a3 a4=>?_);have l:aW N.length ρ ρ':=g.ag.trans (a1.less hc) (b7 _);refine fin x vs (J++lT R) (afm F (gQ G)) st' ρ' w' a3 a4 (amY (N:=N) (λi a m=>by
   have hi:i<N.length:=(List.getElem?_eq_some_iff.1 m).1;rw [l _ (by omega)];exact u i a m)) (by rw [AV.cj l _ h4,y]) ?_ (λ{A K} hw=>?_)
 .rw [z];refine aer ?_;have g1:(gQ G).map (AV.ar ρ')=(gQ G).map (AV.ar b):=O8 a1 g.lw;have g2:(gQ G).map (AV.ar b)=(gQ (eM R)).map (AV.ar ρ):=g.bx;rw [g1,g2,<-fb,za];rfl
 .rw [bp,b0] at hw;have p4:=hw.Ym;have hfr:ab ρ' [] (lT R)=ab ρ [] (lT R):=bh l l2;rw [hfr] at p4;exact OO v p4
theorem P8{X:Cx}{e:au}{fn:Func}{S:Value->World->Prop}{Sp:zj->World->Prop}{q:fA (og e.r++iG e.os)}{a:zq}{N:List Nm}{I:fJ}{x:kr}{Φ:Ctx}{vs:List AV}{H:List Row}{g:List (Nat×List AV)}{st:aE}{ρ:aB}{w':World}
  (b:ak4 X e fn ⟨[],H,fn.ntmps⟩ N.length (λ(i:Nat)=>vs[i]?) (yH (Mu N.length 0) e.ps vs g) st=some q) (J:Sat (ab ρ [] st.G++(ab ρ [] H++Φ)) w') (j:NB ρ (Mu N.length 0) N) (c:AV.ar ρ vs=a) (Z:eA ρ g=x)
  (d:∀{A:Ctx} {y:World},Sat (A++(ab ρ [] H++Φ)) y->Sat (A++(fK I++Φ)) y)
  (w:∀v w',(∃(k N2:List Nm) (L K:List cn) (m l:fJ) (X1 X2:kr),Sem e.r v none none N L m X1 k/\HZ (Yj N e.ps a x) (λ(i:Nat)=>a[i]?) e.os k K l X2 N2/\L++K=ic _ q/\Sat ((dM m++dM l)++(fK I++Φ)) w')->S v w'):
  At (BP X.P fn S Sp) .ret fn.ntmps [] (az ρ [] st.E []) w':=by
 unfold ak4 at b;split at b
 .rename_i rs p;refine anL (fr:=⟨[],H,fn.ntmps⟩) J p (w _ _ ?_);generalize H2 rs=v at b;have f:=kh (ids:=uX st.G H e.r v++XY st.G H (λ(i:Nat)=>vs[i]?) (yH (Mu N.length 0) e.ps vs g) e.os) J;change Sat (ab ρ [] (aoS e ⟨[],H,fn.ntmps⟩ st v (λ(i:Nat)=>vs[i]?) (yH (Mu N.length 0) e.ps vs g))++_) w' at f;generalize aoS e ⟨[],H,fn.ntmps⟩ st v (λ(i:Nat)=>vs[i]?) (yH (Mu N.length 0) e.ps vs g)=G' at b f;unfold auh at b;split at b
  .rename_i n s;split at b
   .rename_i F t;obtain ⟨o,W⟩:=aI b;simp only [ah] at o;obtain ⟨k,m,M,V,Q⟩:=Ll f e.r v none none _ n N s j (λq Y=>by cases Y);obtain ⟨N2,l,z,n2,O⟩:=YM f e.os n.B F k t V;have u:(λi=>fX ρ (yH (Mu N.length 0) e.ps vs g i))=Yj N e.ps a x:=by
     funext i
     rw [<-ai4 j,c,Z]
    have h:(λ(i:Nat)=>(vs[i]?).map (AV.val ρ))=λ(i:Nat)=>a[i]? :=by
     funext i
     rw [<-c,aaN]
    rw [u,h] at z;obtain ⟨U,_⟩:=Qi f (Q.append O);obtain ⟨C,_⟩:=y8 f U (AD o.1);rw [Dx o.2] at C;have T:=C.Ym;have R:=d T;refine ⟨k,N2,n.D,F.D,m,l,_,_,M,z,(Di _ W).symm,?_⟩;simpa [dM] using R
   .cases b
  .cases b
 .cases b
theorem atK{X:Cx}{h:HT}{fn:Func}{e:au}(t:Enters X.P e.f)(q:X.P.funcs[e.f]? =some fn)(p:∀e∈tb,e.Ok X.P X.Γ)(n:∀e∈tp,e.Ok X.P X.Γ)(o:∀c∈tc,c.Ok X.P)(B:∀s r,e.m s=some r->afr X tb tp tc h fn e s=some r):e.Ok X.P X.Γ:=by
 refine ⟨t,λs r A z N I D Φ w C g k=>?_⟩;refine aiX q p n o (B s r A) C g k (λx vs H E st ρ w' b y j d u a=>?_);cases x with
 |nrm=>exact P8 b y j d u a (λ_ _ h=>h)
 |ret=>exact P8 b y j d u a (λ_ _ h=>h)
 |ext i=>cases b
 |gto l=>cases b
 |je v=>cases b
 |panE v=>cases b
 |panL v=>cases b
theorem atn{X:Cx}{h:HT}{fn:Func}{e:bO}(T:Enters X.P e.f)(S:X.P.funcs[e.f]? =some fn)(Q:∀e∈tb,e.Ok X.P X.Γ)(M:∀e∈tp,e.Ok X.P X.Γ)(O:∀c∈tc,c.Ok X.P)(hm:∀s r,e.m s=some r->aqD X tb tp tc h fn e s=some r):e.Ok X.P X.Γ:=by
 refine ⟨T,λs r hr W N I XX Φ w hS D L=>?_⟩;refine aiX S Q M O (hm s r hr) hS D L (λx vs H XA st ρ w' u y E C V b=>?_);have t:∀(v:AV) (H:List Row) (J:Ctx),Sat (ab ρ [] st.G++(ab ρ [] H++Φ)) w'->(∀{A:Ctx},Sat (A++(ab ρ [] H++Φ)) w'->Sat (A++(J++Φ)) w')->∀(pp:Pt) (pq:Option Pt) (p:Wf pp pq),DU pp pq ⟨[],H,fn.ntmps⟩ v st=some p->∃(g:List Nm) (d:fJ) (n:kr),aoO pp pq p (v.val ρ) d n g/\Sat (dM d++(J++Φ)) w':=λv H J y b pp pq p hp=>by
  have one:∀(pp:Pt) (p:fA (og pp)),PY pp ⟨[],H,fn.ntmps⟩ v st=some p->∃(g:List Nm) (d:fJ) (n:kr),Sem pp (v.val ρ) none none [] (ic _ p) d n g/\Sat (dM d++(J++Φ)) w':=λpp p hp=>by
   unfold PY at hp;have F:=kh (ids:=uX st.G H pp v) y;generalize cP (uX st.G H pp v) st.G=G' at hp F;split at hp
   next mr R=>obtain ⟨K,k2⟩:=aI hp;simp only [ah] at K;obtain ⟨g,d,o,n1,Y⟩:=Ll F pp v none none _ mr [] R .nil (λq j=>by cases j);obtain ⟨p1,_⟩:=Qi F Y;obtain ⟨U,_⟩:=y8 F p1 (AD K.1);rw [Dx K.2] at U;have Z:=b U.Ym;rw [<-Di _ k2] at o;exact ⟨g,d,_,o,by simpa [dM] using Z⟩
   .cases hp
  cases pq with
  |none=>exact one pp p hp
  |some q=>
   simp only [DU] at hp;split at hp
   next x hx=>cases hp;exact one pp x hx
   .cases j:PY q ⟨[],H,fn.ntmps⟩ v st with
    |none=>rw [j] at hp;cases hp
    |some x=>
     rw [j] at hp;cases hp;exact one q x j
 have B:∀{A:Ctx},Sat (A++(fK I++Φ)) w'->Sat (A++(aC e.lp [] (fK I)++Φ)) w':=λh=>by
  cases e.lp
  .exact h
  .exact Sat.O6 h
 cases x with
 |nrm=>
  obtain ⟨x,q,j,rfl,hi⟩:=aem u;exact P8 j y E C V b (λ_ _ h=>⟨x,q,rfl,hi,h⟩)
 |ret=>
  obtain ⟨x,q,j,rfl,hi⟩:=aem u;exact P8 j y E C V b (λ_ _ h=>⟨x,q,rfl,hi,h⟩)
 |ext i=>cases u
 |gto l=>cases u
 |je v=>
  have a:(DU e.pp e.pq ⟨[],H,fn.ntmps⟩ v st).map Except.error=some r:=u;cases hp:DU e.pp e.pq ⟨[],H,fn.ntmps⟩ v st with
  |none=>rw [hp] at a;cases a
  |some p=>
   rw [hp] at a;cases a;obtain ⟨g,d,n,o,z⟩:=t v H (fK I) y b e.pp e.pq p hp;exact akQ ⟨p,rfl,v.val ρ,g,d,n,rfl,o,B z⟩
 |panE v=>
  have a:(DU e.pp e.pq ⟨[],H,fn.ntmps⟩ v st).map Except.error=some r:=u;cases hp:DU e.pp e.pq ⟨[],H,fn.ntmps⟩ v st with
  |none=>rw [hp] at a;cases a
  |some p=>
   rw [hp] at a;cases a;obtain ⟨g,d,n,o,z⟩:=t v H (fK I) y b e.pp e.pq p hp;exact (akQ ⟨p,rfl,v.val ρ,g,d,n,rfl,o,B z⟩:Fc _ _ [] _).at
 |panL v=>
  have a:(aC (e.lp||US H) (DU e.pp e.pq ⟨[],dD H,fn.ntmps⟩ v st) none).map Except.error=some r:=u;cases k:e.lp||US H with
  |false=>rw [k] at a;cases a
  |true=>
   rw [k] at a;replace a:(DU e.pp e.pq ⟨[],dD H,fn.ntmps⟩ v st).map Except.error=some r:=a;cases hp:DU e.pp e.pq ⟨[],dD H,fn.ntmps⟩ v st with
   |none=>rw [hp] at a;cases a
   |some p=>
    rw [hp] at a;cases a;obtain ⟨g,d,n,o,z⟩:=t v (dD H) (aC e.lp [] (fK I)) y (λh=>by
     cases hl:e.lp
     .rw [hl,n3] at k;rw [aaM k] at h;exact b h
     .exact Sat.O6 h) e.pp e.pq p hp
    exact (akQ ⟨p,rfl,v.val ρ,g,d,n,rfl,o,z⟩:Fc _ _ [] _).at
theorem eZ{X:Cx}{A B:Type}{E:(A->Option B)->au}{F:(A->Option B)->A->Option B}(b:(E λ_=>none).Ok X.P X.Γ)(a:∀k,(E k).Ok X.P X.Γ->(E (F k)).Ok X.P X.Γ):∀n,(E (ax F n)).Ok X.P X.Γ
 |0=>b
 |n+1=>a _ (eZ b a n)
theorem afX{X:Cx}{A B:Type}{E:(A->Option B)->bO}{F:(A->Option B)->A->Option B}(b:(E λ_=>none).Ok X.P X.Γ)(a:∀k,(E k).Ok X.P X.Γ->(E (F k)).Ok X.P X.Γ):∀n,(E (ax F n)).Ok X.P X.Γ
 |0=>b
 |n+1=>a _ (afX b a n)
theorem ba{X:Cx}{fn:Func}{e:au}(h:HT)(i:Enters X.P e.f)(g:X.P.funcs[e.f]? =some fn)(d:∀e∈tb,e.Ok X.P X.Γ)(a:∀e∈tp,e.Ok X.P X.Γ)(b:∀c∈tc,c.Ok X.P)(eq:∀s,afr X tb tp tc h fn e s=e.m s):e.Ok X.P X.Γ:=
 atK i g d a b λs _ j=>(eq s).trans j
theorem s6{X:Cx}{fn:Func}{e:bO}(h:HT)(i:Enters X.P e.f)(g:X.P.funcs[e.f]? =some fn)(d:∀e∈tb,e.Ok X.P X.Γ)(a:∀e∈tp,e.Ok X.P X.Γ)(b:∀c∈tc,c.Ok X.P)(eq:∀s,aqD X tb tp tc h fn e s=e.m s):e.Ok X.P X.Γ:=
 atn i g d a b λs _ j=>(eq s).trans j
theorem ao{E:Type}{p:E->Prop}:∀e∈([]:List E),p e:=λ_ h=>by cases h
theorem al{E:Type}{p:E->Prop}{x:E}{l:List E}(hx:p x)(b:∀e∈l,p e):∀e∈x::l,p e:=λe a=>by
 rcases List.mem_cons.1 a with rfl|a
 .exact hx
 .exact b e a
def alH(x:Int):Bool:=decide (-9223372036854775808<=x)&&decide (x<=9223372036854775807)
theorem aq1{x:Int}:alH x=true↔ -9223372036854775808<=x/\x<=9223372036854775807:=by simp [alH]
open Go.Proofs Go.Shelf Go.Lib
theorem atu{Γg:Ctx}{ρ:Go.Shelf.Ren}(L:Go.Proofs.LaysM.n145 P ρ)(C:Enters P (ρ.f 145))(o:glx (ρ.g 1)∈Γg)
  (p:aS->aS->Option (aS×aS×Bool)) (z:∀s t r,p s t=some r->s.length<4294967281/\r=Lib.cut s t):(⟨ρ.f 145,[.str,.str],.cB [.str,.str,.bool],[],λs=>p s.1 s.2⟩:au).Ok P Γg:=by
 refine ⟨C,λs r y vs N I X Φ w B k l=>?_⟩;obtain ⟨E,u,W,V,R,Q,J,H,K,rfl,⟨a,rfl,rfl,rfl,rfl,rfl⟩,⟨D,q,U,T,O,M,G,F,N2,rfl,⟨b,rfl,rfl,rfl,rfl,rfl⟩,⟨rfl,rfl,rfl,rfl,rfl⟩,rfl,rfl,rfl⟩,j,rfl,rfl⟩:=B;obtain ⟨d,c⟩:=s;obtain ⟨h,rfl⟩:=z d c r y;have j:[(⟨.s,d⟩:cn),⟨.s,c⟩]=[⟨.s,a⟩,⟨.s,b⟩]:=j;simp only [nI,uc] at j;have x:d=a:=by cases j.1;rfl
 have v:c=b:=by cases j.2;rfl
 subst x v;have k:Sat Φ w:=k;obtain ⟨i,hi⟩:=zc (l _ o);obtain ⟨_,m,A⟩:=k.at_ hi;refine Calls.mono (Any.strings_Cut { L with } ⟨d.toArray⟩ ⟨c.toArray⟩ m w h A) ?_;rintro e w' ⟨rfl,n,rfl⟩;refine ⟨[],[],[⟨.s,(Lib.cut d c).1⟩,⟨.s,(Lib.cut d c).2.1⟩,⟨.bo,(Lib.cut d c).2.2⟩],[],[],[],[],[],
  ⟨[S (Lib.cut d c).1,S (Lib.cut d c).2.1,.bool (Lib.cut d c).2.2],rfl,_,_,_,_,_,_,_,_,_,rfl,⟨_,rfl,rfl,rfl,rfl,rfl⟩,⟨_,_,_,_,_,_,_,_,_,rfl,⟨_,rfl,rfl,rfl,rfl,rfl⟩,⟨_,_,_,_,_,_,_,_,_,rfl,⟨_,rfl,rfl,rfl,rfl,rfl⟩,⟨rfl,rfl,rfl,rfl,rfl⟩,rfl,rfl,rfl⟩,rfl,rfl,rfl⟩,rfl,rfl,rfl⟩,⟨rfl,rfl,rfl,rfl⟩,rfl,?_⟩
 exact Sat.ext (Γ:=Φ) k ⟨rfl,rfl,rfl,b7 _,λb hb=>rfl⟩
open Go.Proofs Go.Shelf Go.Lib Go.RowKit
def wl:aS->aS->List aS
 |[],cur=>if cur.isEmpty then [] else [cur]
 |b::l,cur=>if b==32 then (if cur.isEmpty then wl l [] else cur::wl l []) else wl l (cur++[b])
theorem ajd:∀(k:Nat) (l cur:aS),k<=l.length->(∀j,j<k->l.getD j 0≠32)->wl l cur=wl (l.drop k) (cur++l.take k)
 |0,l,cur,_,_=>by simp
 |k+1,[],cur,h,_=>by simp at h
 |k+1,b::t,cur,h,hz=>by
  have a:b≠32:=by simpa using hz 0 (by omega)
  rw [wl,cx (by simpa using a),ajd k t (cur++[b]) (by simp at h;omega) (λj c=>by simpa using hz (j+1) (by omega))];simp
theorem avt(n a d c b:Nat):((decodeN n a d c b).1=32↔a=32)/\(a=32->(decodeN n a d c b).2=1):=by
 unfold decodeN
 repeat' split
 all_goals (refine ⟨⟨λh=>?_,λh=>?_⟩,λh=>?_⟩ <;> simp only at h ⊢ <;> omega)
theorem au3(s:ByteArray)(pos:Nat)(h:pos<s.size):((Utf8.decode s pos).1==32)=(s.data.toList.getD pos 0==32)/\(s.data.toList.getD pos 0=32->(Utf8.decode s pos).2=1)/\pos+(Utf8.decode s pos).2<=s.size/\
  (s.data.toList.getD pos 0≠32->∀j,j<(Utf8.decode s pos).2->s.data.toList.getD (pos+j) 0≠32):=by
 have c:s.data.toList.length=s.size:=de;rw [decode_N,c];have b:∀x:UInt8,x=32↔x.toNat=32:=λx=>⟨λh=>by rw [h];rfl,λh=>UInt8.toNat_inj.1 h⟩;have f:=avt (s.size-pos) (s.data.toList.getD pos 0).toNat (s.data.toList.getD (pos+1) 0).toNat (s.data.toList.getD (pos+2) 0).toNat (s.data.toList.getD (pos+3) 0).toNat
 obtain ⟨l,k,i,m⟩:=decodeN_conts (s.size-pos) (s.data.toList.getD pos 0).toNat (s.data.toList.getD (pos+1) 0).toNat (s.data.toList.getD (pos+2) 0).toNat (s.data.toList.getD (pos+3) 0).toNat
 have g:=decodeN_le_n' (s.size-pos) (s.data.toList.getD pos 0).toNat (s.data.toList.getD (pos+1) 0).toNat (s.data.toList.getD (pos+2) 0).toNat (s.data.toList.getD (pos+3) 0).toNat (by omega);generalize decodeN (s.size-pos) (s.data.toList.getD pos 0).toNat (s.data.toList.getD (pos+1) 0).toNat (s.data.toList.getD (pos+2) 0).toNat (s.data.toList.getD (pos+3) 0).toNat=q at*;refine ⟨?_,λh=>f.2 ((b _).1 h),by omega,λd j a e=>?_⟩
 .rw [qh,kR,kR,f.1,b]
 .have e:=(b _).1 e
  match j,a,e with
  |0,_,e=>exact d ((b _).2 e)
  |1,a,e=>have:=(l (by omega)).1;omega
  |2,a,e=>have:=(k (by omega)).1;omega
  |3,a,e=>have:=(i (by omega)).1;omega
  |j+4,a,_=>omega
def AO(L:aS)(pos:Nat):zt->aS
 |some a=>(L.drop a).take (pos-a)
 |none=>[]
theorem aoJ(s:ByteArray):∀(f pos:Nat) (st:zt) (acc:List (Nat×Nat)),s.size<=pos+f->pos<=s.size->(∀a,st=some a->a<pos)->
  (closeSpans s (spansFromP (λr=>r==32) s f pos st acc)).map (λx=>(s.extract x.1 x.2).data.toList)=
   acc.map (λx=>(s.extract x.1 x.2).data.toList)++wl (s.data.toList.drop pos) (AO s.data.toList pos st):=by
 intro f
 induction f with
 |zero=>
  intro pos st acc v u e;have hp:pos=s.size:=by omega
  have g:s.data.toList.length=s.size:=de;subst hp;rw [mE (by omega)];cases st with
  |none=>simp [spansFromP,closeSpans,wl,AO]
  |some a=>
   have:=e a rfl;have b:((s.data.toList.drop a).take (s.size-a)).isEmpty=false:=by rw [ub,<-List.length_pos_iff,b9,ec];omega
   simp [spansFromP,closeSpans,wl,AO,b]
 |succ f ih=>
  intro pos st acc v u e;have g:s.data.toList.length=s.size:=de;by_cases d:pos<s.size
  .obtain ⟨d1,d2,i,w⟩:=au3 s pos d;have y:=width_pos s pos;have p:s.data.toList.getD pos 0=s.data.toList[pos]'(by omega):=by rw [List.getD,aT (by omega)];rfl
   simp only [spansFromP,d,qQ,d1];by_cases hb:s.data.toList.getD pos 0=32
   .have n:=d2 hb;rw [n];rw [cN (by simpa using hb)];have q:s.data.toList.drop pos=32::s.data.toList.drop (pos+1):=by rw [qG (by omega),<-p,hb]
    rw [q];cases st with
    |none=>rw [ih (pos+1) none acc (by omega) (by omega) (λa h=>by cases h)];simp [wl,AO]
    |some a=>
     have:=e a rfl;have b:((s.data.toList.drop a).take (pos-a)).isEmpty=false:=by rw [ub,<-List.length_pos_iff,b9,ec];omega
     show (closeSpans s (spansFromP _ s f (pos+1) none (acc++[(a,pos)]))).map _=_;rw [ih (pos+1) none (acc++[(a,pos)]) (by omega) (by omega) (λa h=>by cases h)];simp [wl,AO,b]
   .rw [cx (by simpa using hb)];generalize l:(Utf8.decode s pos).2=k at*;have m:=ajd k (s.data.toList.drop pos) (AO s.data.toList pos st) (by rw [ec];omega) (λj o=>by rw [getD_dropU];exact w hb j o);rw [m,n9];have c:∀a,a<=pos->(s.data.toList.drop a).take (pos-a)++(s.data.toList.drop pos).take k=(s.data.toList.drop a).take (pos+k-a):=λa t=>by rw [show pos+k-a=(pos-a)+k by omega,List.take_add,n9,show a+(pos-a)=pos by omega]
    cases st with
    |none=>
     show (closeSpans s (spansFromP _ s f (pos+k) (some pos) acc)).map _=_;rw [ih (pos+k) (some pos) acc (by omega) i (λa h=>by cases h;omega)];have:=c pos (b7 _);rw [vb,List.take_zero,qs] at this;simp [this,AO]
    |some a=>
     show (closeSpans s (spansFromP _ s f (pos+k) (some a) acc)).map _=_;have t:=e a rfl;rw [ih (pos+k) (some a) acc (by omega) i (λz h=>by cases h;omega)];simp [c a (by omega),AO]
  .rw [spansFromP_end _ _ _ _ _ _ d];have hp:pos=s.size:=by omega
   subst hp;rw [mE (by omega)];cases st with
   |none=>simp [closeSpans,wl,AO]
   |some a=>
    have:=e a rfl;have b:((s.data.toList.drop a).take (s.size-a)).isEmpty=false:=by rw [ub,<-List.length_pos_iff,b9,ec];omega
    simp [closeSpans,wl,AO,b]
theorem aa6(s:aS):(goFieldsP (λr=>r==32) ⟨s.toArray⟩).map (λb=>Value.string b)=(wl s []).map S:=by
 have h:=aoJ ⟨s.toArray⟩ s.length 0 none [] (by show s.toArray.size<=0+s.length;simp) (qf _) (λa h=>by cases h);have c:(goFieldsP (λr=>r==32) ⟨s.toArray⟩).map (λb=>b.data.toList)=wl s []:=by unfold goFieldsP spansOfP;rw [za,show (⟨s.toArray⟩:ByteArray).size=s.length from n7];exact h
 rw [<-c,za];exact qB λb _=>by simp [S]
theorem atw{Γg:Ctx}{ρ:Go.Shelf.Ren}(L:Go.Proofs.LaysM.n229 P ρ)(O:Enters P (ρ.f 229)){g:FuncId}(eg:Enters P g)(J:∀(W:World) (x:Nat),FnGives P g #[] #[.int .i32 x] (.bool (x==32)) W)
  (m:aS->Option (List aS)) (H:∀s r,m s=some r->s.length<=4294967296/\r=wl s []):(⟨ρ.f 229,[.str,.fn g [] []],.sli .s,[],λs=>m s⟩:au).Ok P Γg:=by
 refine ⟨O,λs r F vs N I X Φ w K y E=>?_⟩;obtain ⟨T,C,D1,D2,I1,I2,X1,X2,N1,rfl,⟨a,rfl,rfl,rfl,rfl,rfl⟩,⟨R,B,D3,D4,I3,I4,X3,Z,N2,rfl,⟨us,Q,E1,E2,J1,J2,Y,V,M1,rfl,_,⟨rfl,rfl,rfl,rfl,rfl⟩,⟨rfl,rfl,rfl,rfl,rfl⟩,rfl,rfl,rfl⟩,⟨rfl,rfl,rfl,rfl,rfl⟩,rfl,rfl,rfl⟩,q,rfl,rfl⟩:=K;obtain ⟨k,rfl⟩:=H s r F;have q:[(⟨.s,s⟩:cn)]=[⟨.s,a⟩]:=q;simp only [nI,uc] at q;have D:a=s:=by cases q;rfl
 subst D;have y:Sat Φ w:=y;refine Calls.mono (Any.strings_FieldsFunc { L with } g #[] eg (λr=>r==32) ⟨a.toArray⟩ w k (λW x _=>J W x) L.i154 L.i9) ?_;rintro e w' ⟨A,rfl,U,c,o⟩;have d:(goFieldsP (λr=>r==32) ⟨a.toArray⟩).length=(wl a []).length:=by simpa using congrArg List.length (aa6 a)
 obtain ⟨p,hp⟩:∃p:gP,p=(some ⟨A,0,none⟩,(wl a []).length,(wl a []).length):=⟨_,rfl⟩;have c:w'.ownsRow w.heap.size (ρ.t 9) 1 (sl p) (wl a []).length ((wl a []).map S):=by rw [hp,<-aa6,<-d];exact c
 have hx:Ext w w':=⟨o.os,o.tape,o.output,o.size,o.block⟩;have z:∀M,iv RS (ρ.t 9) M w' (sl p) (wl a []):=λM=>⟨_,YL.of c,UD _⟩;have n:dV (sl p)=[A]:=by rw [hp];rfl
 have j:Sat (iB RS (ρ.t 9) (sl p) (wl a []) (dV (sl p))::Φ) w':=y.push hx (λb hb=>by have hb:b∈dV (sl p):=hb;refine ⟨(z Φ.M).lt b hb,?_⟩;rw [n,l5] at hb;omega) (λM' _=>bR.of (z M'))
 have u:=j.iP (i:=0) (new:=Is true RS p (wl a []) false) rfl ((Ext.refl w').uP _) (λb hb=>by cases hb) (λM' m G=>λ_=>⟨((j.own (i:=0) rfl).freeze (λb hb=>G b hb (λhb=>by cases hb)) m),λh=>by cases h⟩);refine ⟨[{ df with v:=p }],[{ df with v:=p }],[⟨.l .s,wl a []⟩],[],[(false,Is true RS p (wl a []) false)],[],[],[],⟨{ df with v:=p },wl a [],by rw [d,hp];rfl,rfl,rfl,rfl,rfl⟩,⟨rfl,rfl,rfl,rfl⟩,rfl,?_⟩;exact u
end
end Go.Proofs.YtdolcddlmodkkaaGreatDoor
