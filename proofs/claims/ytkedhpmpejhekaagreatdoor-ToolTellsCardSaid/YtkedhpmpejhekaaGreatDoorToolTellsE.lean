/- Own texts for ToolTells, cut and joined by a program. -/
import Derived.Test.YtkedhpmpejhekaaGreatDoorToolTellsD
import Derived.Lib.ItoaNum
import Derived.Shelf.Strings.Cut
import Derived.Shelf.LaysM
import Derived.Shelf.Strings.FieldsFuncAny
import Derived.Lib.TrimUEq
import Derived.Lib.SpaceUEq
set_option linter.all false
namespace Go.Proofs.YtkedhpmpejhekaaGreatDoor
noncomputable section
variable {P : Program} {o : Oper} {w : World} {ρ : ay}
open Go.Lib
def iS:Nat->List AV->aF
 |_,[]=>[]
 |k,v::vs=>(k,none,v)::iS (k+1) vs
theorem wx{ρ:ay}:{vs:List AV}->{k:Nat}->aF.env ρ [] (iS k vs)=iota k (AV.ao ρ vs)
 |[],_=>rfl
 |v::vs,k=>by simp only [iS,aF.env,AV.ao,iota,aC.get_none,wx]
structure jV where
 f:FuncId
 fn:Func
def jV.Ok(P:Program)(c:jV):Prop:=Enters P c.f/\P.funcs[c.f]? =some c.fn
def UX:List jV->Nat->Option jV
 |[],_=>none
 |c::l,f=>aA (Nat.beq c.f f) (some c) (UX l f)
theorem Sc{P:Program}{f:Nat}{c:jV}:{l:List jV}->(∀c∈l,c.Ok P)->UX l f=some c->c.Ok P/\c.f=f
 |[],_,h=>by cases h
 |c'::l,hl,h=>by
  unfold UX at h;rcases dq h with ⟨b,a⟩|⟨_,a⟩
  .cases a;exact ⟨hl _ (b5 ..),ah b⟩
  .exact Sc (λc hc=>hl c (aW _ hc)) a
structure YC(R:Type) where
 id:Nat
 rnd:List AV->aD->(Bool->Nat->aD->Option R)->Option R
def YOk{R:Type}(X:Cx)(y:YC R)(r:R)(ly:Nat)(ρ0:ay)(H0:List Row)(Φ:Nat->Ctx):Prop:=
 ∀(vs:List AV) (st:aD) (ρ:ay) (w:World) (H1:List Row) (KY:Bool->Nat->aD->Option R),y.id<st.c->aT (y.id+1) ρ0 ρ->AV.bW st.c vs=true->bC st.c st.G=true->bC st.c (H1++H0)=true->
  Sat (ab ρ [] st.G++(ab ρ [] (H1++H0)++Φ 0)) w->y.rnd vs st KY=some r->
  Yld X.P ly (AV.ao ρ vs) w (λv w'=>∃b p' st' ρ',v= .bool b/\aT st.c ρ ρ'/\st.c<=st'.c/\KY b p' st'=some r/\Sat (ab ρ' [] st'.G++(ab ρ' [] (H1++H0)++Φ p')) w')
def noG:List Row->Bool
 |[]=>true
 |r::G=>pE r.gd&&noG G
theorem aiS:{G:List Row}->noG G=true->∀r,r∈G->r.gd=none
 |[],_,_,h=>by cases h
 |x::G,h,r,a=>by
  simp only [noG,ae] at h;rcases List.mem_cons.1 a with rfl|a
  .cases b:r.gd with
   |none=>rfl
   |some k=>rw [b] at h;cases h.1
  .exact aiS h.2 r a
theorem UF{T T':aC}{G:List Row}(h:∀r,r∈G->r.gd=none):ab ρ T G=ab ρ T' G:=
 qz λr a=>Row.BA (by rw [h r a];simp)
theorem acU{T:aC}{fr:Fr}(b:FT T fr):ab ρ T fr.H=ab ρ [] fr.H:=
 qz λr a=>Row.BA (b.2 r a)
def ahR{R:Type}(y:YC R)(T:aC)(fr:Fr)(st:aD)(o:Oper)(p:Nat)(K:Nat->cC R):Option (Option R):=match o.guard,o.op,o.dst with
 |none,.call c,some d=>(match c.callee with
  | .value fo=>(match br T st.E fr.F none fo with
   |some (.nv i)=>some (aA (Nat.beq i y.id&&Nat.beq p 0&&Nat.blt d fr.n&&mN (some d) T&&st.low fr&&noG st.G) (match ox T st.E fr.F none c.args.toList with
     |some vs=>aA (AV.bW st.c vs) (y.rnd vs st (λb p' st'=>K p' { st' with E:=ct (some d) none (.bool b) st.E,G:=kF st'.G,h:=st.h })) none
     |none=>none) none)
   |_=>none)
  |_=>none)
 |_,_,_=>none
inductive UG where
 |cL|skip|run|no
def unK(ops:y4)(fr:Fr)(kn:za)(E:aF)(o:Oper):UG:=match o.guard with
 |none=> .cL
 |some k=>aA (rW k.1 kn) (match (ops[k.1]?).bind (·.dst) with
  |some rj=>aA (Nat.blt rj fr.n) (match dB E fr.F rj with
   |some (none,.bool b)=>(match we k.2 b with
    |true=> .run
    |false=> .skip)
   |_=> .no) .no
  |none=> .no) .cL
def knT(ops:y4)(t:Tmp):za->Bool
 |[]=>false
 |j::kn=>(match (ops[j]?).bind (·.dst) with
  |some d=>Nat.beq d t
  |none=>false)||knT ops t kn
def Xf(ops:y4)(fr:Fr)(kn:za)(E:aF)(o:Oper):Oper:=match o.guard,o.op with
 |none,.pick (.tmp t) x y=>aA (knT ops t kn) (match dB E fr.F t with
  |some (none,.bool v)=>(match v with
   |true=>{ o with op:= .move x }
   |false=>{ o with op:= .move y })
  |_=>o) o
 |_,_=>o
def unO(ops:y4)(fr:Fr)(kn:za)(E:aF)(o:Oper):UG->Oper
 | .run=>{ o with guard:=none }
 |_=>Xf ops fr kn E o
def kX{R:Type}(X:Cx)(tb:List aq)(y:YC R)(ops:y4)(fr:Fr):y4->za->aC->aD->Nat->(Nat->cC R)->Option R
 |[],_,T,st,p,K=>aA (AT T fr st) (K p (wR T st)) none
 |o::l,kn,T,st,p,K=>match unK ops fr kn st.E o with
  | .no=>none
  | .skip=>(match o.guard with
   |some k=>aA (LL fr.n o.dst&&mN o.dst T&& !(Qg k T)) (kX X tb y ops fr l kn T { st with E:=ct o.dst (some k) (.raw undef) st.E } p K) none
   |none=>none)
  |u=>match ahR y T fr st (unO ops fr kn st.E o u) p (λp' st'=>kX X tb y ops fr l kn T st' p' K) with
   |some q=>q
   |none=>stepG ops T fr st (unO ops fr kn st.E o u) λT g=>opD X tb T fr st g (unO ops fr kn st.E o u) λst'=>match st'.h,o.dst with
    | .n j (.c ha hb),some d=>aA (Nat.beq j (ops.length-l.length-1)&&mN (some d) T) (match bz st'.E d with
      |some (none,.bool b)=>cond b (kX X tb y ops fr l (j::kn) T { st' with E:=(d,none,.bool true)::st'.E,h:=ha } p K) (kX X tb y ops fr l (j::kn) T { st' with E:=(d,none,.bool false)::st'.E,h:=hb } p K)
      |_=>none) (kX X tb y ops fr l kn T st' p K)
    |_,_=>kX X tb y ops fr l kn T st' p K
section
variable {R : Type} {r : R} {X : Cx} {tb : List aq} {y : YC R} {σ : x4} {Q : bu} {D : w9} {ops : y4} {fr : Fr} {Φ : Nat -> Ctx} {ly : Nat} {H0 H1 : List Row} {ρ0 : ay}
theorem ap7{P:Program}{n:Nat}{E:Env}{w:World}{ops:x6}{rest:y4}{o:Oper}{j:Nat}{b:Bool}{rj:Tmp}{i:Bool}(d:o.guard=some (j,b))(m:(ops[j]?).bind (·.dst)=some rj)(l:look E rj=some (true,.bool i))(k:Nat.blt rj n=true)(hb:we b i=true)
  (h:WL P σ ops Q n D ({ o with guard:=none }::rest) E w):WL P σ ops Q n D (o::rest) E w:=λa g p=>by
 have c:=h a g p;have f:=DO (ops:=ops) d m l g k;rw [<-MZ,hb] at f;unfold wpListIn at c ⊢;rw [f];have e:Region.wanted { o with guard:=none } (yielded ops a.tmps)=true:=by simp [Region.wanted]
 rw [e] at c;simp only [qk,qt] at c ⊢;exact c
theorem ap1{P:Program}{n:Nat}{E:Env}{w:World}{ops:x6}{rest:y4}{o:Oper}{j:Nat}{b:Bool}{rj:Tmp}{e:Bool}(c:o.guard=some (j,b))(k:(ops[j]?).bind (·.dst)=some rj)(i:look E rj=some (true,.bool e))(f:Nat.blt rj n=true)(hb:we b e=false)(hd:LL n o.dst=true)
  (h:WL P σ ops Q n D rest (o8 o.dst false undef E) w):WL P σ ops Q n D (o::rest) E w:=λa d m=>
 wpListIn_step λK l=>by rw [DO c k i d f,<-MZ,hb];simp only [qk,oi,qI];have:=d.o8 (g:=false) (v:=undef) hd;exact ⟨λ_ _=>trivial,l _ _ (h _ this (by rw [ik];exact m))⟩
def IsY(y:YC R)(ρ0:ay)(ρ:ay)(c:Nat):Prop:=y.id<c/\aT (y.id+1) ρ0 ρ
theorem IsY.less{ρ0 ρ':ay}{c a:Nat}(h:IsY y ρ0 ρ c)(ha:aT c ρ ρ')(hc:c<=a):IsY y ρ0 ρ' a:=⟨ec h.1 hc,h.2.trans ha h.1⟩
theorem aqE{T:aC}{st:aD}{o:Oper}{p:Nat}{K:Nat->cC R}{l:y4}{ρ:ay}{w:World}{q:Option R}(j:(ρ0 y.id).x= .func (.yield ly) #[] #[])(Z:YOk X y r ly ρ0 H0 Φ)(u:fr.H=H1++H0)(t:IsY y ρ0 ρ st.c)(h1:eK T st.E fr.F)(I:FT T fr)
  (W:Sat (ab ρ T st.G++(ab ρ T fr.H++Φ p)) w) (h:ahR y T fr st o p K=some q) (Y:q=some r)
  (e:∀p' st' ρ' w',eK T st'.E fr.F->aT st.c ρ ρ'->st.c<=st'.c->K p' st'=some r->Sat (ab ρ' T st'.G++(ab ρ' T fr.H++Φ p')) w'->WL X.P σ ops.toArray Q fr.n D l (au ρ' T st'.E fr.F) w'):
  WL X.P σ ops.toArray Q fr.n D (o::l) (au ρ T st.E fr.F) w:=by
 obtain ⟨dst,op,ty,pos,af,gd⟩:=o;unfold ahR at h;split at h
 .rename_i c d C B hd;simp only at C B hd;subst C B hd;split at h
  .rename_i fo hc;split at h
   .rename_i i s;injection h with h
    rw [Y] at h;obtain ⟨L,z⟩:=aI h;clear h;simp only [ae] at L;obtain ⟨⟨⟨⟨⟨c1,c2⟩,c3⟩,c4⟩,J⟩,c6⟩:=L;have e1:=ah c1;have e2:=ah c2;subst e1 e2;split at z
    .rename_i vs g;obtain ⟨b2,h⟩:=aI z;obtain ⟨cc,xs,tys⟩:=c;simp only at hc g;subst hc;have a:=bF (ρ:=ρ) s;simp only [AV.val] at a;rw [t.2 _ (qj _),j] at a;have f:=fS (ρ:=ρ) g;rw [aC.get_none] at f;obtain ⟨_,_,V,U⟩:=aD.cD.1 J;have hG:=aiS c6;have m:Sat (ab ρ [] st.G++(ab ρ [] (H1++H0)++Φ 0)) w:=by rw [<-u,<-acU I,UF (T':=T) hG];exact W
     have k:=Z vs st ρ w H1 _ t.1 t.2 b2 V (by rw [<-u];exact U) m h;refine amP (xs:=xs.toList) (vs:=AV.ao ρ vs) a f c3 k (λv w' hv=>?_);obtain ⟨b,p',st',ρ',rfl,N,a2,a3,M⟩:=hv;rw [<-u] at M;have hE:au ρ' T st.E fr.F=au ρ T st.E fr.F:=mM J N;have:=e p' { st' with E:=ct (some d) none (.bool b) st.E,G:=kF st'.G,h:=st.h } ρ' w' (h1.out (d:=some d) c4 none (.bool b)) N a2 a3 (by
      have S:=y6 (A:=[]) M;have e3:ab ρ' T (kF st'.G)=ab ρ' [] (kF st'.G):=UF w7;have O:Sat (ab ρ' T (kF st'.G)++(ab ρ' T fr.H++Φ p')) w':=by rw [e3,acU I];exact S
      exact O)
     rw [tw,hE] at this;simpa [o8,AV.val] using this
    .cases z
   .cases h
  .cases h
 .cases h
theorem ao8{n:Nat}{E:Env}{ops:x6}{rest:y4}{c x y:Operand}{v:Bool}{dst:x5}{ty:TypeId}{pos:String}{af:x8}(hc:ar E true c (.bool v))
  (h:WL P σ ops Q n D (⟨dst,.move (cond v x y),ty,pos,af,none⟩::rest) E w):WL P σ ops Q n D (⟨dst,.pick c x y,ty,pos,af,none⟩::rest) E w:=λa d i=>
 wpListIn_plain rfl λK g=>kf rfl (by
  have b:=h a d i;unfold wpListIn at b;have k:Region.wanted ⟨dst,.move (cond v x y),ty,pos,af,none⟩ (yielded ops a.tmps)=true:=rfl;rw [hW k] at b;have j:=Oper.wpIn_mono g b;obtain ⟨_,f⟩:=j;rw [show (FW σ).round=σ from rfl,HU rfl] at f;have e:(execOp a.eval ⟨dst,.pick c x y,ty,pos,af,none⟩).run P w=(execOp a.eval ⟨dst,.move (cond v x y),ty,pos,af,none⟩).run P w:=by cases v <;> simp [execOp,hc n a d rfl,asBool]
  rw [e];exact f)
theorem ak9{a:za}{E:aF}:(Xf ops fr a E o).dst=o.dst:=by
 unfold Xf;split
 .cases knT ops _ a
  .rfl
  .split
   .split <;> rfl
   .rfl
 .rfl
theorem aqG{a:za}{E:aF}{o:Oper}{ρ:ay}{T:aC}{w:World}{l:y4}(h:WL X.P σ ops.toArray Q fr.n D (Xf ops fr a E o::l) (au ρ T E fr.F) w):WL X.P σ ops.toArray Q fr.n D (o::l) (au ρ T E fr.F) w:=by
 obtain ⟨dst,op,ty,pos,af,gd⟩:=o;unfold Xf at h;split at h
 .rename_i t x y d b;simp only at d b;subst d b;cases c:knT ops t a
  .rw [c] at h;exact h
  .rw [c] at h;split at h
   next v e=>refine ao8 (v:=v) ?_ (by cases v <;> exact h);exact ar.t (by rw [fN,e];simp [AV.val])
   .exact h
 .exact h
theorem aaZ{k:Nat×Bool}:{T:aC}->Qg k T=false->T.get (some k)=false
 |[],_=>rfl
 |(k',par,rj,b)::T,h=>by
  simp only [Qg,qG] at h;have a:GK.eq (some k') (some k)=false:=by
   cases hb:GK.eq (some k') (some k)
   .rfl
   .have e:=GK.eq_eq hb;cases e;rw [GK.age] at h;cases h.1
  unfold aC.get;rw [a];exact aaZ h.2
theorem agi(O:∀p,∀it∈X.Γ,it∈Φ p)(U:∀e∈tb,e.Ok X.P X.Γ)(S:(ρ0 y.id).x= .func (.yield ly) #[] #[])(hY:YOk X y r ly ρ0 H0 Φ)(hH:fr.H=H1++H0){K:Nat->cC R}:∀{l:y4} {f:za} {T:aC} {st:aD} {p:Nat} {ρ:ay} {w:World},IsY y ρ0 ρ st.c->eK T st.E fr.F->mR ops fr.n T->FT T fr->Sat (ab ρ T st.G++(ab ρ T fr.H++Φ p)) w->
  kX X tb y ops fr l f T st p K=some r->
  (∀p' st' ρ' w',aT st.c ρ ρ'->st.c<=st'.c->K p' st'=some r->Sat (ab ρ' [] st'.G++(ab ρ' [] fr.H++Φ p')) w'->At Q .normal fr.n D (au ρ' [] st'.E fr.F) w')->
  WL X.P σ ops.toArray Q fr.n D l (au ρ T st.E fr.F) w
 |[],f,T,st,p,ρ,w,hI,h1,h2,hf,hs,h,next=>by
  unfold kX at h;obtain ⟨h3,h4⟩:=aI h;obtain ⟨k1,k2,k3⟩:=HJ h3 hf hs;exact bU λa B hd=>next p _ ρ w .refl (by rw [k1];exact bb _) h4 k3 a (B.lI k2) hd
 |o::l,f,T,st,p,ρ,w,hI,h1,h2,hf,hs,h,next=>by
  have N:∀{f:za} {T':aC} {st':aD} {p':Nat} {ρ':ay} {w':World},aT st.c ρ ρ'->st.c<=st'.c->eK T' st'.E fr.F->mR ops fr.n T'->FT T' fr->Sat (ab ρ' T' st'.G++(ab ρ' T' fr.H++Φ p')) w'->kX X tb y ops fr l f T' st' p' K=some r->
    WL X.P σ ops.toArray Q fr.n D l (au ρ' T' st'.E fr.F) w':=λ{f T' st' p' ρ' w'} A u J I C W a7=>
   agi O U S hY hH (hI.less A u) J I C W a7 (λp2 st2 ρ2 w2 s m b3 b4=>next p2 st2 ρ2 w2 (A.trans s u) (cg u m) b3 b4)
  -- the operation itself, guarded or not
  have z:∀L:Oper,L.dst=o.dst->(match ahR y T fr st L p (λp' st'=>kX X tb y ops fr l f T st' p' K) with
   |some q=>q
   |none=>stepG ops T fr st L λT g=>opD X tb T fr st g L λst'=>match st'.h,o.dst with
    | .n j (.c ha hb),some d=>aA (Nat.beq j (ops.length-l.length-1)&&mN (some d) T) (match bz st'.E d with
      |some (none,.bool b)=>cond b (kX X tb y ops fr l (j::f) T { st' with E:=(d,none,.bool true)::st'.E,h:=ha } p K) (kX X tb y ops fr l (j::f) T { st' with E:=(d,none,.bool false)::st'.E,h:=hb } p K)
      |_=>none) (kX X tb y ops fr l f T st' p K)
    |_,_=>kX X tb y ops fr l f T st' p K)=some r->WL X.P σ ops.toArray Q fr.n D (L::l) (au ρ T st.E fr.F) w:=λL ho' h=>by
   split at h
   next q V=>exact aqE S hY hH hI h1 hf hs V h (λp' st' ρ' w' A u J I C=>N u J A h2 hf C I)
   .refine abo (K:=λT st'=>match st'.h,o.dst with
     | .n j (.c ha hb),some d=>aA (Nat.beq j (ops.length-l.length-1)&&mN (some d) T) (match bz st'.E d with
       |some (none,.bool b)=>cond b (kX X tb y ops fr l (j::f) T { st' with E:=(d,none,.bool true)::st'.E,h:=ha } p K) (kX X tb y ops fr l (j::f) T { st' with E:=(d,none,.bool false)::st'.E,h:=hb } p K)
       |_=>none) (kX X tb y ops fr l f T st' p K)
     |_,_=>kX X tb y ops fr l f T st' p K) h1 h2 rfl (λ_ h=>h) hf hs (O p) U h (λT' st' ρ' w' A u J I C W a7 a8=>?_)
    split at W
    .rename_i j ha hb d hh hd;rcases dq W with ⟨s,m⟩|⟨_,m⟩
     .simp only [ae] at s;split at m
      .rename_i b hl;have one:∀(v:Bool) (h':HT),b=v->kX X tb y ops fr l (j::f) T' { st' with E:=(d,none,.bool v)::st'.E,h:=h' } p K=some r->WL X.P σ ops.toArray Q fr.n D l (au ρ' T' st'.E fr.F) w':=λv h' hb hv=>by
        have:=N (st':={ st' with E:=(d,none,.bool v)::st'.E,h:=h' }) I C (A.out (d:=some d) s.2 none (.bool v)) u J a8 hv;refine λa B hd'=>this a (B.lI ?_) hd';intro t pp hp;rw [fN] at hp ⊢;unfold dB at hp ⊢;cases V:Nat.beq d t
        .rw [ey V] at hp;exact hp
        .have:=ah V;subst this;rw [gE V] at hp;rw [hl,hb];exact hp
       rcases su m with ⟨c1,c2⟩|⟨c1,c2⟩
       .exact one true ha c1 c2
       .exact one false hb c1 c2
      .cases m
     .exact N I C A u J a8 m
    .exact N I C A u J a8 W
  unfold kX at h
  -- what is known of its guard
  have kk:∀{v:Bool},(unK ops fr f st.E o= .run/\v=true\/unK ops fr f st.E o= .skip/\v=false)->∃j i rj Z,o.guard=some (j,i)/\(ops[j]?).bind (·.dst)=some rj/\look (au ρ T st.E fr.F) rj=some (true,.bool Z)/\Nat.blt rj fr.n=true/\we i Z=v:=λ{v} hv=>by
   unfold unK at hv;split at hv
   .rcases hv with ⟨h,_⟩|⟨h,_⟩ <;> cases h
   .rename_i k hg;obtain ⟨j,i⟩:=k;cases hm:rW j f
    .simp only [hm] at hv;rcases hv with ⟨h,_⟩|⟨h,_⟩ <;> cases h
    .simp only [hm] at hv;split at hv
     .rename_i rj hr;cases hb:Nat.blt rj fr.n
      .simp only [hb] at hv;rcases hv with ⟨h,_⟩|⟨h,_⟩ <;> cases h
      .simp only [hb] at hv;split at hv
       .rename_i b hl;refine ⟨j,i,rj,b,hg,hr,by rw [fN,hl];simp [AV.val],hb,?_⟩;cases hp:we i b
        .simp only [hp] at hv;rcases hv with ⟨h,_⟩|⟨_,h⟩
         .cases h
         .exact h.symm
        .simp only [hp] at hv;rcases hv with ⟨_,h⟩|⟨h,_⟩
         .exact h.symm
         .cases h
       .rcases hv with ⟨h,_⟩|⟨h,_⟩ <;> cases h
     .rcases hv with ⟨h,_⟩|⟨h,_⟩ <;> cases h
  cases M:unK ops fr f st.E o with
  |no=>rw [M] at h;cases h
  |cL=>rw [M] at h;exact aqG (by exact z (Xf ops fr f st.E o) ak9 h)
  |run=>
   rw [M] at h;obtain ⟨j,i,rj,Z,Y,g2,g3,g4,g5⟩:=kk (v:=true) (.inl ⟨M,rfl⟩);exact ap7 Y (by simpa using g2) g3 g4 g5 (z { o with guard:=none } rfl h)
  |skip=>
   rw [M] at h;obtain ⟨j,i,rj,Z,Y,g2,g3,g4,g5⟩:=kk (v:=false) (.inr ⟨M,rfl⟩);dsimp only at h;rw [Y] at h;obtain ⟨s,m⟩:=aI h;simp only [ae] at s;refine ap1 Y (by simpa using g2) g3 g4 g5 s.1.1 ?_;have:=N (st':={ st with E:=ct o.dst (some (j,i)) (.raw undef) st.E }) .refl (bb _) (h1.out s.1.2 _ _) h2 hf hs m;rw [tw] at this;have hg:T.get (some (j,i))=false:=aaZ (by simpa using s.2);rw [hg] at this;exact this
end
def jD{R:Type}(X:Cx)(tb:List aq)(y:YC R):Code->Fr->(Nat->XE->aD->Option R)->Nat->aD->Option R
 | .skip,_,K,p,st=>K p .nrm st
 | .exit i,_,K,p,st=>K p (.ext i) st
 | .ret,_,K,p,st=>K p .ret st
 | .block i c,fr,K,p,st=>jD X tb y c fr (λp=>brk i (K p)) p st
 | .cond c a b,fr,K,p,st=>match br [] st.E fr.F none c with
  |some (.bool v)=>cnd v (λh=>jD X tb y a fr K p { st with h:=h }) (λh=>jD X tb y b fr K p { st with h:=h }) st.h
  |_=>none
 | .seq a b,fr,K,p,st=>jD X tb y a fr (λp=>ug (jD X tb y b fr K p) (K p)) p (match st.h with
  | .s h=>{ st with h:=h }
  |_=>st)
 | .loop c,fr,K,p,st=>match st.h with
  | .l tm q=>aA (st.low fr) (
   match jQ (enter fr tm (cI c) st) tm (enter fr tm (cI c) st).Et (enter fr tm (cI c) st).Gt with
   |some s=>ax (λagain s=>jD X tb y c (enter fr tm (cI c) st).fr (λp'=>ug (λst'=>match jQ (enter fr tm (cI c) st) tm st'.E st'.G with
      |some s=>aA (Nat.beq p' p) (again s) none
      |none=>none) (λe st'=>K p' e (vV e (enter fr tm (cI c) st) st'))) p (ck (enter fr tm (cI c) st) tm s q)) X.fl s
   |none=>none ) none
  |_=>none
 | .region _ ops false,fr,K,p,st=>kX X tb y ops.toList fr ops.toList [] [] st p (λp=>K p .nrm)
 | .region _ ops true,fr,K,p,st=>match st.h with
  | .r th h=>HH X tb [] (λ_ _=>none) ops fr th { st with h:=h } (K p .nrm)
  |_=>HH X tb [] (λ_ _=>none) ops fr [] st (K p .nrm)
 |_,_,_,_,_=>none
section
variable {R : Type} {r : R} {X : Cx} {tb : List aq} {y : YC R} {D : w9} {Φ : Nat -> Ctx} {ly : Nat} {H0 : List Row} {ρ0 : ay}
def aap(Q:bu)(D:w9)(fr:Fr)(Φ:Nat->Ctx)(c0:Nat)(ρ0:ay)(r:R)(K:Nat->XE->aD->Option R):Prop:= ∀p,iO Q D fr (Φ p) c0 ρ0 r (K p)
theorem aap.less{Q:bu}{fr:Fr}{b c1:Nat}{ρ0 a:ay}{K:Nat->XE->aD->Option R}(h:aap Q D fr Φ b ρ0 r K)(ha:aT b ρ0 a)(hc:b<=c1):aap Q D fr Φ c1 a r K:=λp=>(h p).less ha hc
theorem wE(j:∀p,∀it∈X.Γ,it∈Φ p)(o:∀e∈tb,e.Ok X.P X.Γ)(t:(ρ0 y.id).x= .func (.yield ly) #[] #[])(N:YOk X y r ly ρ0 H0 Φ):∀(c:Code) {Q:bu} {fr:Fr} {H1:List Row} {K:Nat->XE->aD->Option R} {p:Nat} {st:aD} {ρ:ay} {w:World},fr.H=H1++H0->IsY y ρ0 ρ st.c->Sat (ab ρ [] st.G++(ab ρ [] fr.H++Φ p)) w->
  jD X tb y c fr K p st=some r->aap Q D fr Φ st.c ρ r K->WC X.P none c Q fr.n D (au ρ [] st.E fr.F) w
 | .skip,Q,fr,H1,K,p,st,ρ,w,hH,hI,hs,h,hK=>po (hK p .nrm st ρ w .refl (bb _) (by unfold jD at h;exact h) hs)
 | .exit i,Q,fr,H1,K,p,st,ρ,w,hH,hI,hs,h,hK=>Wp (hK p (.ext i) st ρ w .refl (bb _) (by unfold jD at h;exact h) hs)
 | .ret,Q,fr,H1,K,p,st,ρ,w,hH,hI,hs,h,hK=>uR (hK p .ret st ρ w .refl (bb _) (by unfold jD at h;exact h) hs)
 | .block i c,Q,fr,H1,K,p,st,ρ,w,hH,hI,hs,h,hK=>Ru (wE j o t N c hH hI hs (by unfold jD at h;exact h) (λp=>Qp (hK p)))
 | .cond c a b,Q,fr,H1,K,p,st,ρ,w,hH,hI,hs,h,hK=>by
  unfold jD at h;split at h
  next v hb=>have hc:=bF (ρ:=ρ) hb;simp only [AV.val] at hc;obtain ⟨h1,S,q1,q2⟩:=RM h;exact iM hc (λhv=>wE j o t N a (st:={ st with h:=h1 }) hH hI hs (q1 hv) hK) (λhv=>wE j o t N b (st:={ st with h:=S }) hH hI hs (q2 hv) hK)
  .cases h
 | .seq a b,Q,fr,H1,K,p,st,ρ,w,hH,hI,hs,h,hK=>by
  unfold jD at h;have z:∀C,jD X tb y a fr (λp=>ug (jD X tb y b fr K p) (K p)) p { st with h:=C }=some r->WC X.P none (.seq a b) Q fr.n D (au ρ [] st.E fr.F) w:=λC hd=>by
   refine bq (wE j o t N a (st:={ st with h:=C }) hH hI hs hd (λp' e st' ρ' w' B J u I=>?_));by_cases M:e= .nrm
   .subst M;exact bd (wE j o t N b hH (hI.less B J) I u (hK.less B J))
   .rw [lN M] at u;exact gq M (hK p' e st' ρ' w' B J u I)
  split at h
  next C hh=>exact z C h
  .exact z st.h h
 | .loop c,Q,fr,H1,K,p,st,ρ,w,hH,hI,hs,h,hK=>by
  unfold jD at h;split at h
  .rename_i tm q hh;obtain ⟨hl,S⟩:=aI h;obtain ⟨T,en⟩:=wh (tm:=tm) (m:=cI c) hl hs;generalize enter fr tm (cI c) st=f at S en;split at S
   .rename_i s0 hb0;obtain ⟨Z,E',W,k,DD,b1,b2,b3,b4⟩:=nj en.lF en.lH en.fx en.sat hb0;have V:∀s E' W k DD,eY (λn=>f.c+n) f.fix tm.vs 0 (fM _ s)=⟨E',W,k,DD⟩->ck f tm s q=⟨f.c+k,E',rowsOf W,q⟩:=λs E' W k DD hb=>by unfold ck;rw [hb]
    refine PZ (γ:=ay) (λs g w'=>aT f.c T g/\Sat (ab g [] (ck f tm s q).G++(ab g [] f.fr.H++Φ p)) w') (λs g=>au g [] (ck f tm s q).E f.fr.F) S Z ⟨b2,?_⟩ ?_ (λA s g w' hag U=>?_)
    .rw [V _ _ _ _ _ b1];exact b4
    .rw [V _ _ _ _ _ b1];exact b3.trans en.sub
    .have hc:f.c<=(ck f tm s q).c:=by unfold ck;generalize eY (λn=>f.c+n) f.fix tm.vs 0 (fM _ s)=L;obtain ⟨a,b,c,d⟩:=L;exact qC _ _
     have hx:=wE j o t N c (fr:=f.fr) (H1:=f.G++H1) (st:=ck f tm s q) (ρ:=g) (Q:=Exit.then (Nj A r (λs g w'=>aT f.c T g/\Sat (ab g [] (ck f tm s q).G++(ab g [] f.fr.H++Φ p)) w') (λs g=>au g [] (ck f tm s q).E f.fr.F) fr.n D) Q)
      (by rw [en.fh,hH,aO]) ((hI.less en.ag en.le).less U.1 hc) U.2 hag (λp' e st' ρ' w2 B J u I=>?_)
     .rw [en.fn] at hx;exact hx
     .by_cases M:e= .nrm
      .subst M;have O:(match jQ f tm st'.E st'.G with|some s=>aA (Nat.beq p' p) (A s) none|none=>none)=some r:=u;split at O
       .rename_i s' hb;obtain ⟨hp,a5⟩:=aI O;have:=ah hp;subst this;obtain ⟨Y,E2,R2,k2,DD2,d1,d2,d3,d4⟩:=nj en.lF en.lH en.fx I hb;rw [en.fn];refine Ln s' Y a5 ⟨(U.1.trans (B.less hc) (bb _)).trans d2 (bb _),?_⟩ ?_
        .rw [V _ _ _ _ _ d1];exact d4
        .rw [V _ _ _ _ _ d1];exact d3
       .cases O
      .rw [lN M] at u;have:=s5 (hK p') en.ag en.le en.ff en.fh en.fn e st' ρ' w2 (U.1.trans (B.less hc) (bb _)) (cg hc J) u I;exact gq M this
   .cases S
  .cases h
 | .region id ops false,Q,fr,H1,K,p,st,ρ,w,hH,hI,hs,h,hK=>by
  unfold jD at h;obtain ⟨l⟩:=ops;exact bh (agi (σ:=none) j o t N hH hI (λx h=>by cases h) (λx h=>by cases h) ⟨λx _=>rfl,λx _=>rfl⟩ hs h (λp' st' ρ' w' B J u I=>hK p' .nrm st' ρ' w' B J u I))
 | .region id ops true,Q,fr,H1,K,p,st,ρ,w,hH,hI,hs,h,hK=>by
  unfold jD at h;have key:∀th C,HH X tb [] (λ_ _=>none) ops fr th { st with h:=C } (K p .nrm)=some r->WC X.P none (.region id ops true) Q fr.n D (au ρ [] st.E fr.F) w:=λth C hd=>
   Rb (K:=λe st=>match e with
    | .nrm=>K p .nrm st
    |_=>none) (st:={ st with h:=C }) (j p) o (λ_ h=>by cases h) hs hd (λe st' ρ' w' B J u I=>by
     cases e with
     |nrm=>exact hK p .nrm st' ρ' w' B J u I
     |_=>cases u)
  split at h
  .exact key _ _ h
  .exact key [] st.h h
 | .label _,Q,fr,H1,K,p,st,ρ,w,hH,hI,hs,h,hK=>by unfold jD at h;cases h
 | .goto _,Q,fr,H1,K,p,st,ρ,w,hH,hI,hs,h,hK=>by unfold jD at h;cases h
 | .scope _,Q,fr,H1,K,p,st,ρ,w,hH,hI,hs,h,hK=>by unfold jD at h;cases h
 | .rangeFunc _ _ _ _,Q,fr,H1,K,p,st,ρ,w,hH,hI,hs,h,hK=>by unfold jD at h;cases h
end
variable {γ : Type} {Ds : γ -> w9}
theorem Sat.swap{w:World}{C D:Ctx}:∀{B A:Ctx},Sat (A++(B++(C++D))) w->Sat (A++(C++(B++D))) w
 |[],A,h=>h
 |x::B,A,h=>by
  have b:Sat ((A++[x])++(B++(C++D))) w:=by simpa using h
  have a:Sat (A++x::(C++(B++D))) w:=by simpa using b.swap
  simpa using Sat.move a
theorem Sat.front{w:World}{A B:Ctx}{x:Item}(h:Sat (A++x::B) w):Sat (x::(A++B)) w:=by have:=Sat.swap (A:=[]) (B:=A) (C:=[x]) (D:=B) (by simpa using h);simpa using this
theorem Sat.behind{w:World}{A B:Ctx}{x:Item}(h:Sat (x::(A++B)) w):Sat (A++x::B) w:=Sat.move (A:=[]) h
theorem Ku{α:Type}{A B:List α}{x:α}:(A++x::B)[A.length]? =some x:=by simp
theorem set_mid{α:Type}{A B:List α}{x y:α}:(A++x::B).set A.length y=A++y::B:=by
 induction A with
 |nil=>rfl
 |cons a A ih=>simp [ih]
def AW:Nat->Option Code
 |0=>none
 |1=>some .ret
 |n+2=>aA (Nat.beq (n%2) 0) (some (.exit (n/2))) (some (.goto (n/2)))
def My:Nat->XE
 |0=> .nrm
 |1=> .ret
 |n+2=>aA (Nat.beq (n%2) 0) (.ext (n/2)) (.gto (n/2))
theorem ajD{fr:Fr}:(p:Nat)->hx (My p) fr=fr.H
 |0=>rfl
 |1=>rfl
 |n+2=>by show hx (aA (Nat.beq (n%2) 0) (.ext (n/2)) (.gto (n/2))) fr=fr.H;cases Nat.beq (n%2) 0 <;> rfl
def MK:Nat->LoopState
 |0=> .ready
 |_+1=> .done
theorem akz(i:Nat):AW (2*i+2)=some (.exit i):=by have b:2*i%2=0:=Nat.mul_mod_right 2 i;have a:2*i/2=i:=Nat.mul_div_cancel_left i (by decide);show aA (Nat.beq (2*i%2) 0) (some (Code.exit (2*i/2))) _=_;rw [b,a]
theorem ak5(i:Nat):AW (2*i+3)=some (.goto i):=by
 have b:(2*i+1)%2=1:=by omega
 have a:(2*i+1)/2=i:=by omega
 show aA (Nat.beq ((2*i+1)%2) 0) _ (some (Code.goto ((2*i+1)/2)))=_;rw [b,a]
def alC:List Tmp->List AV->aF->Option aF
 |[],[],E=>some E
 |p::ps,v::vs,E=>alC ps vs ((p,none,v)::E)
 |_,_,_=>none
theorem af5{ρ:ay}{F:Env}:{ps:List Tmp}->{vs:List AV}->{E E':aF}->alC ps vs E=some E'->aF.env ρ [] E'++F=abD ps (AV.ao ρ vs) (aF.env ρ [] E++F)/\Nat.beq (AV.ao ρ vs).length ps.length=true
 |[],[],E,E',h=>by cases h;exact ⟨rfl,rfl⟩
 |p::ps,v::vs,E,E',h=>by
  obtain ⟨b,a⟩:=af5 (ρ:=ρ) (F:=F) (ps:=ps) (vs:=vs) (E:=(p,none,v)::E) h;refine ⟨?_,?_⟩
  .rw [b];simp [aF.env,AV.ao,abD]
  .simpa [AV.ao] using a
 |[],_::_,_,_,h=>by cases h
 |_::_,[],_,_,h=>by cases h
def ac8{R:Type}(X:Cx)(tb:List aq)(tp:List bI)(ps:List Tmp)(assign body:Code)(fr:Fr)(E:aF)(hb:HT)(vs:List AV)(st:aD)(KY:Bool->Nat->aD->Option R):Option R:=match alC ps vs E with
 |some E'=>den X tb tp assign fr (λe st1=>match e with
  | .nrm=>den X tb tp body fr (λe st2=>match e with
   | .nrm=>KY true 0 st2
   | .ret=>KY false 1 st2
   | .ext i=>KY false (2*i+2) st2
   | .gto l=>KY false (2*l+3) st2
   |_=>none) { st1 with h:=hb }
  |_=>none) ⟨st.c,E',st.G,.o⟩
 |none=>none
section
variable {R : Type} {r : R} {X : Cx} {tb : List aq} {tp : List bI} {fr : Fr}
theorem alq{Φ1:Ctx}(T:∀it∈X.Γ,it∈Φ1)(K:∀e∈tb,e.Ok X.P X.Γ)(J:∀e∈tp,e.Ok X.P X.Γ){ps:List Tmp}{assign body:Code}{E:aF}{hb:HT}{O l b:Nat}{ρ0:ay}{d:LoopState->Option Code->Loop}
  (y:Rec fr.n (au ρ0 [] E fr.F) ps.toArray assign body b d) (hE:E.low O=true) (hF:aF.low O fr.F=true) (hp:ps.all (λp=>Nat.blt p fr.n)=true):
  YOk X ⟨O,ac8 X tb tp ps assign body fr E hb⟩ r l ρ0 fr.H (λp=>dz l d (MK p) (AW p)::Φ1):=by
 intro vs st ρ w H1 KY hid Y hvs hG Z W h;have M:ac8 X tb tp ps assign body fr E hb vs st KY=some r:=h;unfold ac8 at M;split at M
 .rename_i E' hz;have q:aT O ρ0 ρ:=Y.less (hV _);obtain ⟨z1,z2⟩:=af5 (ρ:=ρ) (F:=aF.env ρ [] fr.F) hz;have eE:au ρ0 [] E fr.F=au ρ [] E fr.F:=by rw [au,au,oN q hE,oN q hF]
  rw [eE] at y;have S:bC st.c H1=true:=by
   clear h M W hz
   induction H1 with
   |nil=>rfl
   |cons x H1 ih=>
    simp only [eb,bC,ae] at Z ⊢;exact ⟨Z.1,ih Z.2⟩
  -- the row, parted in another way
  have R:∀{G:List Row} {ρ':ay} {x:Item} {w':World},Sat (ab ρ' [] G++(ab ρ' [] (H1++fr.H)++x::Φ1)) w'->Sat (ab ρ' [] G++(ab ρ' [] fr.H++(ab ρ' [] H1++x::Φ1))) w':=λ{G ρ' x w'} a=>by rw [bk,aO] at a;exact a.swap
  have frR:∀{G:List Row} {ρ':ay} {x:Item} {w':World},Sat (ab ρ' [] G++(ab ρ' [] fr.H++(ab ρ' [] H1++x::Φ1))) w'->Sat (ab ρ' [] G++(ab ρ' [] (H1++fr.H)++x::Φ1)) w':=λ{G ρ' x w'} a=>by rw [bk,aO];exact a.swap
  -- the loop's row, exchanged
  have I:∀{G:List Row} {ρ':ay} {x:Item},∃A:Ctx,ab ρ' [] G++(ab ρ' [] fr.H++(ab ρ [] H1++x::Φ1))=A++x::Φ1/\∀z,A++z::Φ1=ab ρ' [] G++(ab ρ' [] fr.H++(ab ρ [] H1++z::Φ1)):=λ{G ρ' x}=>
   ⟨ab ρ' [] G++(ab ρ' [] fr.H++ab ρ [] H1),by simp,λz=>by simp⟩
  have U:=R W;have m:∀x:Item,∀it∈X.Γ,it∈ab ρ [] H1++x::Φ1:=λx it hi=>ed _ (aW _ (T it hi));have V:Sat (dz l d .ready none::(ab ρ [] st.G++(ab ρ [] (H1++fr.H)++Φ1))) w:=by
   have:Sat ((ab ρ [] st.G++ab ρ [] (H1++fr.H))++dz l d .ready none::Φ1) w:=by rw [aO];exact W
   have:=this.front;rw [aO] at this;exact this
  refine apA y V z2 hp ?_;rw [<-z1];refine fg (σ:=some l) (D:=[]) (Φ:=ab ρ [] H1++dz l d .ready none::Φ1) (m _) K J assign (fr:=fr) (st:=⟨st.c,E',st.G,.o⟩) (ρ:=ρ) U M (λe st1 C w1 a1 a2 a3 a4=>?_);cases e with
  |nrm=>
   obtain ⟨A,e1,e2⟩:=I (G:=st1.G) (ρ':=C) (x:=dz l d .ready none);have a4':Sat (A++dz l d .ready none::Φ1) w1:=by rw [<-e1];exact a4
   refine alu (i:=A.length) y a4' Ku (λw2 L=>?_);rw [set_mid,e2] at L;refine fg (σ:=some l) (D:=[]) (Φ:=ab ρ [] H1++dz l d .busy none::Φ1) (m _) K J body (fr:=fr) (st:={ st1 with h:=hb }) (ρ:=C) L a3 (λe f t w3 b1 b2 s b4=>?_);obtain ⟨B,e3,e4⟩:=I (G:=f.G) (ρ':=t) (x:=dz l d .busy none);have k:Sat (B++dz l d .busy none::Φ1) w3:=by rw [<-e3];cases e <;> first|exact b4|cases s
   have N:aT st.c ρ t:=a1.trans b1 a2;have Dx:st.c<=f.c:=cg a2 b2;have g:∀{Q:Bool} {p':Nat} {u:World},KY Q p' f=some r->Sat ((B++dz l d .busy none::Φ1).set B.length (dz l d (MK p') (AW p'))) u->
     ∃b p' st' ρ',Value.bool Q= .bool b/\aT st.c ρ ρ'/\st.c<=st'.c/\KY b p' st'=some r/\Sat (ab ρ' [] st'.G++(ab ρ' [] (H1++fr.H)++dz l d (MK p') (AW p')::Φ1)) u:=λ{Q p' u} hk a=>by
    rw [set_mid,e4,<-bf N S] at a;exact ⟨Q,p',f,t,rfl,N,Dx,hk,frR a⟩
   cases e with
   |nrm=>exact alQ (i:=B.length) y k Ku (λu a=>g (p':=0) s a)
   |ret=>exact abK (i:=B.length) y k Ku (λu a=>g (p':=1) s a)
   |ext i=>exact ZS (i:=B.length) y k Ku (λu a=>g (p':=2*i+2) s (by rw [akz];exact a))
   |gto j=>exact aab (i:=B.length) y k Ku (λu a=>g (p':=2*j+3) s (by rw [ak5];exact a))
   |gS v=>cases s
   |panE v=>cases s
   |panL v=>cases s
  |_=>cases a3
 .cases M
end
def Mu:aF->aF
 |[]=>[]
 |(t,_,v)::E=>(t+10000,some (1000000000,false),v)::Mu E
theorem afq{ρ:ay}:{E:aF}->{t:Nat}->{p:Bool×Value}->look (aF.env ρ [] (Mu E)) t=some p->10000<=t/\p.1=false
 |[],_,_,h=>by cases h
 |(t',g,v)::E,t,p,h=>by
  simp only [Mu,aF.env,look] at h;cases hb:Nat.beq (t'+10000) t
  .rw [hb,cy] at h;exact afq h
  .rw [hb,c8] at h;have:=ah hb;cases h;exact ⟨by omega,rfl⟩
theorem Fits.far{n:Nat}{E:Env}{a:Act}{ρ:ay}{F:aF}(h:Fits n E a)(e:n<=10000):Fits n (E++aF.env ρ [] (Mu F)) a:=by
 refine ⟨h.size,λt g v b=>?_⟩;rw [FD] at b;split at b
 next p hp=>cases b;exact h.at_ t g v hp
 .obtain ⟨f,c⟩:=afq b;simp only at c;subst c;have d:=h.size;have:¬t<a.tmps.size:=by omega
  simp [Array.getD,this,wD]
def itE{R:Type}(Kend:Nat->aD->Option R)(p:Nat):XE->aD->Option R
 | .nrm,st=>Kend p st
 | .ret,st=>Kend p st
 |_,_=>none
def rfD{R:Type}(X:Cx)(tb:List aq)(tp:List bI)(tc:List jV)(ps:List Tmp)(assign body:Code)(gv:AV)(fr:Fr)(st:aD)(hi hb:HT)(Kend:Nat->aD->Option R):Option R:=match gv with
 | .fn f a b=>(match UX tc f with
  |some cl=>(match cl.fn.body with
   |some ib=>aA (cl.fn.results.isEmpty&&Nat.ble (a.length+(b.length+1)) cl.fn.ntmps&&Nat.ble cl.fn.ntmps 10000&&st.low fr&&ps.all (λp=>Nat.blt p fr.n)&&AV.bW st.c a&&AV.bW st.c b) (
     jD X tb ⟨st.c,ac8 X tb tp ps assign body fr st.E hb⟩ ib ⟨Mu (st.E++fr.F),fr.H,cl.fn.ntmps⟩ (itE Kend) 0 ⟨st.c+1,iS 0 (a++ .nv st.c::b),st.G,hi⟩) none
   |none=>none)
  |none=>none)
 |_=>none
section
variable {P : Program} {n : Nat} {D0 : w9} {E : Env} {w : World} {Γ : Ctx} {Q : bu}
theorem ZB{g:Operand}{ps:Array Tmp}{assign body:Code}{f:FuncId}{first cap:xu}(ds:za)
  (o:Enters P f) (B:ar E true g (.func (.func f) first.toArray cap.toArray)) (A:Sat (dK ds::Γ) w)
  (h:∀(l b:Nat) (r:LoopState->Option Code->Loop) w1,Rec n E ps assign body b r->Sat (dz l r .ready none::dK (b::ds)::Γ) w1->
   fB P f (first++[Value.func (.yield l) #[] #[]]++cap) w1 (kb P none l n (mk (b::ds)++D0) Q E)):
  WC P none (.rangeFunc g ps assign body) Q n (mk ds++D0) E w:=λa m hd=>by
 refine wpIn_rangeFunc λfn C=>?_;obtain ⟨r,x⟩:∃r:LoopState->Option Code->Loop,r=λst z=>{ state:=st,pending:=z,fn,tmps:=a.tmps,params:=ps,assign,body,defers:=w.heap.size }:=⟨_,rfl⟩;obtain ⟨d,p⟩:∃d,(w.alloc (.deferred (some []))).alloc (.loop (r .ready none))=d:=⟨_,rfl⟩;have t:Sat (rZ w.heap.size (.deferred (some []))::dK ds::Γ) (w.alloc (.deferred (some []))):=A.push (ei _ _) (λb hb=>by
  have:b=w.heap.size:=by simpa [rZ] using hb
  subst this;simp) (λ_ _=>World.alloc_heap_new w _)
 have s:Sat (dz (w.heap.size+1) r .ready none::dK (w.heap.size::ds)::Γ) d:=by
  rw [<-p];have:=t.PB.push (new:=dz (w.alloc (.deferred (some []))).heap.size r .ready none) (ei _ _) (λb hb=>by
   have:b=(w.alloc (.deferred (some []))).heap.size:=by simpa [rZ] using hb
   subst this;simp) (λ_ _=>World.alloc_heap_new (w.alloc (.deferred (some []))) (.loop (r .ready none)))
  rwa [World.size_alloc] at this
 have i:Rec n E ps assign body w.heap.size r:=⟨fn,a.tmps,⟨m.size,m.at_⟩,x⟩;have u:a.eval g=Value.func (.func f) first.toArray cap.toArray:=B n a m rfl;refine ⟨w.heap.size+1,[{ target:= .collected w.heap.size,args:= #[] }],d,{ target:= .fn (.func f) cap.toArray,args:=first.toArray++ #[Value.func (.yield (w.heap.size+1)) #[] #[]] },d,f,
  (first++[Value.func (.yield (w.heap.size+1)) #[] #[]]++cap).toArray,d,?_,?_,λ_ _=>trivial,?_,Ht,?_⟩
 .rw [<-p,x];exact run_enterLoop_outer _ _ _ _ _
 .simp only [resolve,u,Deferred.ofValue];simp [Act.eval]
 .have:=o (first++[Value.func (.yield (w.heap.size+1)) #[] #[]]++cap).toArray d;simp only [invoke];simpa using this
 .refine Sn (Calls.mono (h (w.heap.size+1) w.heap.size r d i s) λe w' o=>?_);cases e with
  |returned v=>
   obtain ⟨j,q,D,y⟩:=o;refine ⟨j,q,D,?_⟩;have k:Fits n E { a with defers:=[{ target:= .collected w.heap.size,args:= #[] }]++a.defers }:=⟨m.size,m.at_⟩;cases j with
   |none=>exact y _ k (by simp [hd,mk])
   |some c=>exact y _ k (by simp [hd,mk])
  |panicked c=>exact o.elim
  |outgrown=>exact o.elim
end
section
variable {R : Type} {r : R} {X : Cx} {tb : List aq} {tp : List bI} {tc : List jV} {fr : Fr} {Φ : Ctx} {D : w9} {Q : bu}
theorem akn(J:∀it∈X.Γ,it∈Φ)(M:∀e∈tb,e.Ok X.P X.Γ)(htp:∀e∈tp,e.Ok X.P X.Γ)(htc:∀c∈tc,c.Ok X.P){g:Operand}{ps:Array Tmp}{assign body:Code}{gv:AV}{st:aD}{hi hb:HT}{m:Nat->aD->Option R}{ρ:ay}{w:World}{ds:za}
  (hg:br [] st.E fr.F none g=some gv) (hs:Sat (ab ρ [] st.G++(ab ρ [] fr.H++dK ds::Φ)) w) (h:rfD X tb tp tc ps.toList assign body gv fr st hi hb m=some r)
  (T:∀p st1 d w1 ds',aT st.c ρ d->st.c<=st1.c->m p st1=some r->Sat (ab d [] st1.G++(ab d [] fr.H++dK ds'::Φ)) w1->MB Q (My p) d fr.n (mk ds'++D) (au d [] st.E fr.F) w1):
  WC X.P none (.rangeFunc g ps assign body) Q fr.n (mk ds++D) (au ρ [] st.E fr.F) w:=by
 unfold rfD at h;split at h
 .rename_i f a b;split at h
  .rename_i B hcl;obtain ⟨c1,c2⟩:=Sc htc hcl;subst c2;split at h
   .rename_i ib hib;obtain ⟨k1,h1⟩:=aI h;simp only [ae] at k1;obtain ⟨⟨⟨⟨⟨⟨d1,d2⟩,d3⟩,d4⟩,d5⟩,d6⟩,d7⟩:=k1;have k:B.fn.results= #[]:=by simpa using d1
    have hn1:B.fn.ntmps<=10000:=cn d3;obtain ⟨l1,l2,l3,l4⟩:=aD.cD.1 d4;have O:=bF (ρ:=ρ) hg;simp only [AV.val] at O;have U:AV.bW st.c a=true/\AV.bW st.c b=true:=⟨d6,d7⟩
    -- the marks in front
    have hs0:Sat (dK ds::(ab ρ [] st.G++(ab ρ [] fr.H++Φ))) w:=by
     have:Sat ((ab ρ [] st.G++ab ρ [] fr.H)++dK ds::Φ) w:=by rw [aO];exact hs
     have:=this.front;rwa [aO] at this
    refine ZB ds c1.1 O hs0 (λl j z w1 N hs1=>?_);have hr':Rec fr.n (au ρ [] st.E fr.F) ps.toList.toArray assign body j z:=by simpa using N
    -- yield's name
    generalize C:ρ.set st.c { cO with x:= .func (.yield l) #[] #[] }=d;have o:aT st.c ρ d:=by rw [<-C];exact ay.aZ
    have L:(d st.c).x= .func (.yield l) #[] #[]:=by rw [<-C,ay.bA]
    have A:AV.ao d (a++ .nv st.c::b)=AV.ao ρ a++[Value.func (.yield l) #[] #[]]++AV.ao ρ b:=by rw [cZ];simp only [AV.ao,AV.val,L];rw [AV.bS o _ U.1,AV.bS o _ U.2];simp
    rw [<-A]
    -- the rows
    have hs2:Sat (ab d [] st.G++(ab d [] fr.H++(dz l z (MK 0) (AW 0)::dK (j::ds)::Φ))) w1:=by
     rw [bf o l3,bf o l4];have e1:Sat ([]++([dz l z .ready none,dK (j::ds)]++((ab ρ [] st.G++ab ρ [] fr.H)++Φ))) w1:=by simpa using hs1
     have:=e1.swap;simp only [mj,aO,eb] at this;exact this
    have I:∀p,∀it∈X.Γ,it∈(dz l z (MK p) (AW p)::dK (j::ds)::Φ):=λp it hi=>aW _ (aW _ (J it hi));have hrr:Rec fr.n (au d [] st.E fr.F) ps.toList.toArray assign body j z:=by rw [mM d4 o];exact hr'
    have hY:=alq (r:=r) (tp:=tp) (hb:=hb) (Φ1:=dK (j::ds)::Φ) (λit hi=>aW _ (J it hi)) M htp (l:=l) hrr l1 l2 d5;refine Calls.mono (iw (S:=kb X.P none l fr.n (mk (j::ds)++D) Q (au ρ [] st.E fr.F)) (Sp:=λ_ _=>False) c1.2 hib rfl (by rw [AV.bm];simpa [Nat.add_comm,Nat.add_left_comm,qx] using d2) ?_) (λe w' he=>he);have hE:au d [] (iS 0 (a++ .nv st.c::b)) (Mu (st.E++fr.F))=iota 0 (AV.ao d (a++ .nv st.c::b))++aF.env d [] (Mu (st.E++fr.F)):=by show aF.env d [] (iS 0 _)++aF.env d [] _=_;rw [wx]
    have hx:=wE (r:=r) (D:=[]) (Φ:=λp=>dz l z (MK p) (AW p)::dK (j::ds)::Φ) I M (y:=⟨st.c,ac8 X tb tp ps.toList assign body fr st.E hb⟩) L hY ib (Q:=BP X.P B.fn (kb X.P none l fr.n (mk (j::ds)++D) Q (au ρ [] st.E fr.F)) (λ_ _=>False)) (fr:=⟨Mu (st.E++fr.F),fr.H,B.fn.ntmps⟩) (H1:=[]) (K:=itE m) (st:=⟨st.c+1,iS 0 (a++ .nv st.c::b),st.G,hi⟩) (ρ:=d) (w:=w1) rfl ⟨qj _,.refl⟩ hs2 h1 (λp e st1 i Y a1 a2 Z a4=>?_)
    .rw [hE] at hx;exact λaa hf hd=>hx aa (hf.far hn1) hd
    . -- the iterator's end
     have W:aT st.c ρ i:=o.trans (a1.less (hV _)) (bb _);have Dx:st.c<=st1.c:=Nat.le_of_succ_le a2;have eE:au i [] st.E fr.F=au ρ [] st.E fr.F:=mM d4 W;have V:m p st1=some r->kb X.P none l fr.n (mk (j::ds)++D) Q (au ρ [] st.E fr.F) (.tuple #[]) Y:=λhk=>by
      have t:Sat (dz l z (MK p) (AW p)::(ab i [] st1.G++(ab i [] fr.H++dK (j::ds)::Φ))) Y:=by
       have:Sat ((ab i [] st1.G++ab i [] fr.H)++dz l z (MK p) (AW p)::dK (j::ds)::Φ) Y:=by rw [aO];cases e <;> first|exact a4|cases Z
       have:=this.front;rwa [aO] at this
      have at_:∀s,Sat (ab i [] st1.G++(ab i [] fr.H++dK (j::ds)::Φ)) s->MB Q (My p) i fr.n (mk (j::ds)++D) (au ρ [] st.E fr.F) s:=λs u=>by have:=T p st1 i s (j::ds) W Dx hk u;rwa [eE] at this
      match p,t,at_ with
      |0,t,at_=>exact kb.go N t (λs u=>at_ s u)
      |1,t,at_=>exact kb.jump N t (λs u=>uR (at_ s u))
      |q+2,t,at_=>
       simp only [AW,My] at t at_;cases hq:Nat.beq (q%2) 0
       .simp only [hq] at t at_;exact kb.jump N t (λs u=>afl (at_ s u))
       .simp only [hq] at t at_;exact kb.jump N t (λs u=>Wp (at_ s u))
     cases e with
     |nrm=>exact (ah7 (vs:=[]) (by simp [k]) (λaa hf=>by rw [k];simp) (v:= .tuple #[]) rfl (V Z):At (BP X.P B.fn _ _) .ret B.fn.ntmps [] _ Y)
     |ret=>exact ah7 (vs:=[]) (by simp [k]) (λaa hf=>by rw [k];simp) (v:= .tuple #[]) rfl (V Z)
     |_=>cases Z
   .cases h
  .cases h
 .cases h
end
def nQ:Code->Bool
 | .rangeFunc .. =>true
 | .seq a b=>nQ a||nQ b
 | .cond _ a b=>nQ a||nQ b
 | .block _ c=>nQ c
 | .loop c=>nQ c
 | .scope c=>nQ c
 |_=>false
def jl{R:Type}(X:Cx)(tb:List aq)(tp:List bI)(tc:List jV):Code->Fr->(XE->aD->Option R)->aD->Option R
 | .block i c,fr,K,st=>jl X tb tp tc c fr (brk i K) st
 | .cond c x y,fr,K,st=>aA (nQ x||nQ y) (match br [] st.E fr.F none c with
  |some (.bool b)=>cnd b (λh=>jl X tb tp tc x fr K { st with h:=h }) (λh=>jl X tb tp tc y fr K { st with h:=h }) st.h
  |_=>none) (den X tb tp (.cond c x y) fr K st)
 | .seq x y,fr,K,st=>aA (nQ x||nQ y) (match st.h with
  | .j tm p q=>aA (st.low fr) (
   ai (λs:ew (gr tm.vs)=>jl X tb tp tc y fr K (fT (enter fr tm (cI x) st) tm s q)) λk=>
   jl X tb tp tc x (enter fr tm (cI x) st).fr (ug (λst'=>match jQ (enter fr tm (cI x) st) tm st'.E st'.G with
     |some s=>k s
     |none=>none) (λe st'=>K e (vV e (enter fr tm (cI x) st) st'))) ⟨(enter fr tm (cI x) st).c,(enter fr tm (cI x) st).Et,(enter fr tm (cI x) st).Gt,p⟩ ) none
  | .s h=>jl X tb tp tc x fr (ug (jl X tb tp tc y fr K) K) { st with h:=h }
  |_=>jl X tb tp tc x fr (ug (jl X tb tp tc y fr K) K) st) (den X tb tp (.seq x y) fr K st)
 | .loop c,fr,K,st=>aA (nQ c) (match st.h with
  | .l tm p=>aA (st.low fr) (
   match jQ (enter fr tm (cI c) st) tm (enter fr tm (cI c) st).Et (enter fr tm (cI c) st).Gt with
   |some s=>ax (λagain s=>jl X tb tp tc c (enter fr tm (cI c) st).fr (ug (λst'=>match jQ (enter fr tm (cI c) st) tm st'.E st'.G with
      |some s=>again s
      |none=>none) (λe st'=>K e (vV e (enter fr tm (cI c) st) st'))) (ck (enter fr tm (cI c) st) tm s p)) X.fl s
   |none=>none ) none
  |_=>none) (den X tb tp (.loop c) fr K st)
 | .rangeFunc g ps assign body,fr,K,st=>match st.h with
  | .c (.c hi hb) (.r (70000::th) hr)=>(match br [] st.E fr.F none g with
   |some gv=>rfD X tb tp tc ps.toList assign body gv ⟨fr.F,bn (λr=> !(fu (reach st fr th) r)) st.G++fr.H,fr.n⟩ { st with G:=bn (fu (reach st fr th)) st.G } hi hb (λp st1=>K (My p) { st1 with E:=st.E,h:=hr,G:=st1.G++bn (λr=> !(fu (reach st fr th) r)) st.G })
   |none=>none)
  | .c (.c hi hb) hr=>(match br [] st.E fr.F none g with
   |some gv=>rfD X tb tp tc ps.toList assign body gv fr st hi hb (λp st1=>K (My p) { st1 with E:=st.E,h:=hr })
   |none=>none)
  |_=>none
 |c,fr,K,st=>den X tb tp c fr K st
section
variable {P : Program} {ρ : x4} {Q : bu} {n : Nat} {E : Env} {w : World}
def ahT{γ:Type}(J:γ->World->Prop)(Es:γ->Env)(n:Nat)(Ds:γ->w9)(a:Act)(w:World):Prop:=
 ∃g,J g w/\Fits n (Es g) a/\a.defers=Ds g
theorem aeg(J:γ->World->Prop)(b:γ->Env)(Ds:γ->w9){D:w9}{x y:Code}
  (c:∀g w',J g w'->WC P ρ y Q n (Ds g) (b g) w') (hx:WC P ρ x (Exit.then (ahT J b n Ds) Q) n D E w):WC P ρ (.seq x y) Q n D E w:=
 λa d hd=>wpIn_seq (wpIn_mono (hx a d hd) (λe k w' h=>by cases e <;> first|exact h|(obtain ⟨g,f,i,j⟩:=h;exact c g w' f k i j)))
theorem alF{J:γ->World->Prop}{a:γ->Env}{D:w9}(g:γ)(d:J g w)(b:iV (a g) E)(e:D=Ds g):At (Exit.then (ahT J a n Ds) Q) .normal n D E w:=
 λf c hd=>⟨g,d,c.lI b,hd.trans e⟩
def VL{σ γ τ:Type}(again:σ->Option τ)(r:τ)(J:σ->γ->World->Prop)(Es:σ->γ->Env)(n:Nat)(Ds:γ->w9)(a:Act)(w:World):Prop:=
 ∃s g,again s=some r/\J s g w/\Fits n (Es s g) a/\a.defers=Ds g
theorem ak7{σ τ:Type}{F:(σ->Option τ)->σ->Option τ}{r:τ}(J:σ->γ->World->Prop)(d:σ->γ->Env)(Ds:γ->w9){body:Code}{D:w9}
  {N:Nat} {b:σ} (l:ax F N b=some r) (c:γ) (u:J b c w) (t:iV (d b c) E) (i:D=Ds c)
  (round:∀again s g w,F again s=some r->J s g w->WC P ρ body (Exit.then (VL again r J d n Ds) Q) n (Ds g) (d s g) w):
  WC P ρ (.loop body) Q n D E w:=λa o hd=>
 Gq (λm=>VL (ax F m) r J d n Ds) N ⟨b,c,l,u,o.lI t,hd.trans i⟩ λm a w ⟨s,g,k,p,q,i⟩=>by
  obtain ⟨j,rfl,f⟩:=Mt k;exact wpIn_mono (round (ax F j) s g w f p a q i) λe a w h=>by cases e <;> first|exact h|exact ⟨j,qj _,h⟩
theorem aj6{σ τ:Type}{a:σ->Option τ}{r:τ}{J:σ->γ->World->Prop}{b:σ->γ->Env}{D:w9}
  (s:σ) (g:γ) (d:a s=some r) (f:J s g w) (c:iV (b s g) E) (h:D=Ds g):At (Exit.then (VL a r J b n Ds) Q) .normal n D E w:=
 λi e hd=>⟨s,g,d,f,e.lI c,hd.trans h⟩
end
section
variable {R : Type} {r : R} {X : Cx} {tb : List aq} {tp : List bI} {tc : List jV} {Φ : Ctx} {D : w9}
def S3(Q:bu)(D:w9)(fr:Fr)(Φ:Ctx)(c0:Nat)(ρ0:ay)(r:R)(K:XE->aD->Option R):Prop:= ∀ds,iO Q (mk ds++D) fr (dK ds::Φ) c0 ρ0 r K
theorem S3.less{Q:bu}{fr:Fr}{b c1:Nat}{ρ0 a:ay}{K:XE->aD->Option R}(h:S3 Q D fr Φ b ρ0 r K)(ha:aT b ρ0 a)(hc:b<=c1):S3 Q D fr Φ c1 a r K:=λds=>(h ds).less ha hc
theorem an0(U:∀it∈X.Γ,it∈Φ)(W:∀e∈tb,e.Ok X.P X.Γ)(V:∀e∈tp,e.Ok X.P X.Γ)(htc:∀c∈tc,c.Ok X.P):∀(c:Code) {Q:bu} {fr:Fr} {K:XE->aD->Option R} {st:aD} {ρ:ay} {w:World} {ds:za},Sat (ab ρ [] st.G++(ab ρ [] fr.H++dK ds::Φ)) w->
  jl X tb tp tc c fr K st=some r->S3 Q D fr Φ st.c ρ r K->WC X.P none c Q fr.n (mk ds++D) (au ρ [] st.E fr.F) w:=λc=>by
 have Z:∀ds:za,∀it∈X.Γ,it∈dK ds::Φ:=λds it hi=>aW _ (U it hi);have oG:∀(c:Code) {Q:bu} {fr:Fr} {K:XE->aD->Option R} {st:aD} {ρ:ay} {w:World} {ds:za},Sat (ab ρ [] st.G++(ab ρ [] fr.H++dK ds::Φ)) w->
   den X tb tp c fr K st=some r->S3 Q D fr Φ st.c ρ r K->WC X.P none c Q fr.n (mk ds++D) (au ρ [] st.E fr.F) w:=λc {Q fr K st ρ w ds} u h t=>
  fg (Z ds) W V c u h (t ds)
 induction c with
 |block i c ih=>
  intro Q fr K st ρ w ds u h t;exact Ru (ih u (by unfold jl at h;exact h) (λds=>Qp (t ds)))
 |cond c x y T S=>
  intro Q fr K st ρ w ds u h t;unfold jl at h;rcases dq h with ⟨_,h⟩|⟨_,h⟩
  .split at h
   next b hb=>have hc:=bF (ρ:=ρ) hb;simp only [AV.val] at hc;obtain ⟨p,q,h1,N⟩:=RM h;exact iM hc (λhb=>T (st:={ st with h:=p }) u (h1 hb) t) (λhb=>S (st:={ st with h:=q }) u (N hb) t)
   .cases h
  .exact oG _ u h t
 |seq x y T S=>
  intro Q fr K st ρ w ds u h t;unfold jl at h;rcases dq h with ⟨_,h⟩|⟨_,h⟩
  .have I:∀h',jl X tb tp tc x fr (ug (jl X tb tp tc y fr K) K) { st with h:=h' }=some r->WC X.P none (.seq x y) Q fr.n (mk ds++D) (au ρ [] st.E fr.F) w:=λh' hd=>by
    refine bq (T (st:={ st with h:=h' }) u hd (λj e st' ρ' w' C O z B=>?_));by_cases J:e= .nrm
    .subst J;exact bd (S B z (t.less C O))
    .rw [lN J] at z;exact gq J (t j e st' ρ' w' C O z B)
   split at h
   .rename_i tm p q hh;obtain ⟨hl,N⟩:=aI h;obtain ⟨o,en⟩:=wh (tm:=tm) (m:=cI x) hl u;generalize enter fr tm (cI x) st=f at N en;unfold ai at N;refine aeg (γ:=(ew (gr tm.vs)×ay)×za) (λg w'=>jl X tb tp tc y fr K (fT f tm g.1.1 q)=some r/\aT f.c o g.1.2/\Sat (ab g.1.2 [] (fT f tm g.1.1 q).G++(ab g.1.2 [] fr.H++dK g.2::Φ)) w') (λg=>au g.1.2 [] (fT f tm g.1.1 q).E fr.F) (λg=>mk g.2++D) (λg w' hg=>?_) ?_
    .obtain ⟨g1,g2,g3⟩:=hg;refine S g3 g1 (t.less (en.ag.trans g2 en.le) ?_);have:f.c<=(fT f tm g.1.1 q).c:=by unfold fT;generalize eY (λn=>f.c+n) f.fix tm.vs 0 (fM _ g.1.1)=L;obtain ⟨a,b,c,d⟩:=L;exact qC _ _
     exact cg en.le this
    .have hx:=T (fr:=f.fr) (st:=⟨f.c,f.Et,f.Gt,p⟩) (ρ:=o) (Q:=Exit.then (ahT (λ(g:(ew (gr tm.vs)×ay)×za) w'=>jl X tb tp tc y fr K (fT f tm g.1.1 q)=some r/\aT f.c o g.1.2/\Sat (ab g.1.2 [] (fT f tm g.1.1 q).G++(ab g.1.2 [] fr.H++dK g.2::Φ)) w') (λg=>au g.1.2 [] (fT f tm g.1.1 q).E fr.F) fr.n (λg=>mk g.2++D)) Q) en.sat N (λj e st' ρ' w' C O z B=>?_)
     .rw [en.fn] at hx;exact hx.lI _ en.sub
     .by_cases J:e= .nrm
      .subst J;have v:(match jQ f tm st'.E st'.G with|some s=>jl X tb tp tc y fr K (fT f tm s q)|none=>none)=some r:=z;split at v
       .rename_i s hb;obtain ⟨l,E',Y,k,DD,b1,b2,b3,b4⟩:=nj en.lF en.lH en.fx B hb;have eJ:fT f tm s q=⟨f.c+k,E'++f.E,rowsOf Y++f.G,q⟩:=by unfold fT;rw [b1]
        rw [en.fn];refine alF ((s,l),j) ⟨v,C.trans b2 (bb _),?_⟩ ?_ rfl
        .rw [eJ];show Sat (ab l [] (rowsOf Y++f.G)++_) w';rw [bk,aO];rw [en.fh,bk,aO] at b4;exact b4
        .rw [eJ];show iV (aF.env l [] (E'++f.E)++_) _;rw [en.ff] at b3;have e2:au l [] E' (f.E++fr.F)=aF.env l [] (E'++f.E)++aF.env l [] fr.F:=by show aF.env l [] E'++aF.env l [] (f.E++fr.F)=_;rw [mu,mu,aO]
         rw [<-e2,en.ff];exact b3
       .cases v
      .rw [lN J] at z;have:=s5 (t j) en.ag en.le en.ff en.fh en.fn e st' ρ' w' C O z B;exact gq J this
   next h' hh=>exact I h' h
   .exact I st.h h
  .exact oG _ u h t
 |loop c ih=>
  intro Q fr K st ρ w ds u h t;unfold jl at h;rcases dq h with ⟨_,h⟩|⟨_,h⟩
  .split at h
   .rename_i tm p hh;obtain ⟨hl,N⟩:=aI h;obtain ⟨o,en⟩:=wh (tm:=tm) (m:=cI c) hl u;generalize enter fr tm (cI c) st=f at N en;split at N
    .rename_i s0 hb0;obtain ⟨l,E',Y,k,DD,b1,b2,b3,b4⟩:=nj en.lF en.lH en.fx en.sat hb0;have eL:∀s E' Y k DD,eY (λn=>f.c+n) f.fix tm.vs 0 (fM _ s)=⟨E',Y,k,DD⟩->ck f tm s p=⟨f.c+k,E',rowsOf Y,p⟩:=λs E' Y k DD hb=>by unfold ck;rw [hb]
     refine ak7 (γ:=ay×za) (λs g w'=>aT f.c o g.1/\Sat (ab g.1 [] (ck f tm s p).G++(ab g.1 [] f.fr.H++dK g.2::Φ)) w') (λs g=>au g.1 [] (ck f tm s p).E f.fr.F) (λg=>mk g.2++D) N (l,ds) ⟨b2,?_⟩ ?_ rfl (λM s g w' hag hJ=>?_)
     .rw [eL _ _ _ _ _ b1];exact b4
     .rw [eL _ _ _ _ _ b1];exact b3.trans en.sub
     .have hc:f.c<=(ck f tm s p).c:=by unfold ck;generalize eY (λn=>f.c+n) f.fix tm.vs 0 (fM _ s)=L;obtain ⟨a,b,c,d⟩:=L;exact qC _ _
      have hx:=ih (fr:=f.fr) (st:=ck f tm s p) (ρ:=g.1) (ds:=g.2) (Q:=Exit.then (VL M r (λs (g:ay×za) w'=>aT f.c o g.1/\Sat (ab g.1 [] (ck f tm s p).G++(ab g.1 [] f.fr.H++dK g.2::Φ)) w') (λs g=>au g.1 [] (ck f tm s p).E f.fr.F) fr.n (λg=>mk g.2++D)) Q) hJ.2 hag (λj e st' ρ' w2 C O z B=>?_)
      .rw [en.fn] at hx;exact hx
      .by_cases J:e= .nrm
       .subst J;have v:(match jQ f tm st'.E st'.G with|some s=>M s|none=>none)=some r:=z;split at v
        .rename_i s' hb;obtain ⟨ρ3,E2,R2,k2,DD2,d1,d2,d3,d4⟩:=nj en.lF en.lH en.fx B hb;rw [en.fn];refine aj6 s' (ρ3,j) v ⟨(hJ.1.trans (C.less hc) (bb _)).trans d2 (bb _),?_⟩ ?_ rfl
         .rw [eL _ _ _ _ _ d1];exact d4
         .rw [eL _ _ _ _ _ d1];exact d3
        .cases v
       .rw [lN J] at z;have:=s5 (t j) en.ag en.le en.ff en.fh en.fn e st' ρ' w2 (hJ.1.trans (C.less hc) (bb _)) (cg hc O) z B;exact gq J this
    .cases N
   .cases h
  .exact oG _ u h t
 |rangeFunc g ps assign body=>
  intro Q fr K st ρ w ds u h t;unfold jl at h;split at h
  .rename_i hi hb th hr hh;split at h
   next gv hg=>have hs2:=oP (A:=[]) (p:=fu (reach st fr th)) u;refine akn (fr:=⟨fr.F,bn (λr=> !(fu (reach st fr th) r)) st.G++fr.H,fr.n⟩) (st:={ st with G:=bn (fu (reach st fr th)) st.G }) U W V htc hg (by simpa [ab] using hs2) h (λp st1 o w1 j C O z B=>t j (My p) { st1 with E:=st.E,h:=hr,G:=st1.G++bn (λr=> !(fu (reach st fr th) r)) st.G } o w1 C O z ?_);rw [bk,aO];rw [ajD] at*;simpa [ab] using B
   .cases h
  .rename_i hi hb hr _ hh;split at h
   next gv hg=>exact akn U W V htc hg u h (λp st1 o w1 j C O z B=>t j (My p) { st1 with E:=st.E,h:=hr } o w1 C O z (by rw [ajD];exact B))
   .cases h
  .cases h
 |_=>intro Q fr K st ρ w ds u h t;exact oG _ u (by unfold jl at h;exact h) t
def anF(K:XE->aD->Option R):XE->aD->Option R
 | .nrm,st=>K .nrm st
 | .ret,st=>K .ret st
 |_,_=>none
theorem amr(d:∀it∈X.Γ,it∈Φ)(j:∀e∈tb,e.Ok X.P X.Γ)(g:∀e∈tp,e.Ok X.P X.Γ)(i:∀c∈tc,c.Ok X.P){fn:Func}{S:Value->World->Prop}{Sp:w5->World->Prop}(c:Code){fr:Fr}{K:XE->aD->Option R}{st:aD}{ρ:ay}{w:World}
  (s:Sat (ab ρ [] st.G++(ab ρ [] fr.H++Φ)) w) (h:jl X tb tp tc c fr (anF K) st=some r) (m:iO (BP X.P fn S Sp) [] fr Φ st.c ρ r K):WC X.P none c (BP X.P fn S Sp) fr.n [] (au ρ [] st.E fr.F) w:=by
 have k:Sat (ab ρ [] st.G++(ab ρ [] fr.H++dK []::Φ)) w:=by
  have l:Sat (dK []::((ab ρ [] st.G++ab ρ [] fr.H)++Φ)) w:=by rw [aO];exact s.ao4
  have:=l.behind;rwa [aO] at this
 refine an0 (D:=[]) (ds:=[]) d j g i c k h (λds e st' ρ' w' q p a t=>?_);have o:Sat (dK ds::(ab ρ' [] st'.G++(ab ρ' [] fr.H++Φ))) w':=by
  have l:Sat ((ab ρ' [] st'.G++ab ρ' [] fr.H)++dK ds::Φ) w':=by rw [aO];cases e <;> first|exact t|cases a
  have:=l.front;rwa [aO] at this
 rw [la];cases e with
 |nrm=>exact acw ds o (λb f=>m .nrm st' ρ' b q p a f)
 |ret=>exact Rw ds o (λb f=>m .ret st' ρ' b q p a f)
 |_=>cases a
end
abbrev ari{R:Type}(E0:aF)(K:aD->Option R):XE->aD->Option R
 | .nrm,st=>K { st with E:=E0 }
 | .ret,st=>K { st with E:=E0 }
 |_,_=>none
def WK{R:Type}(X:Cx)(tb:List aq)(tp:List bI)(pm:Bool)(cl:jV)(cap:List AV)(v:AV)(fr:Fr)(st:aD)(K:aD->Option R):Option R:=match cl.fn.body with
 |some (.seq (.region _ ops false) y)=>(match ops.toList with
  |⟨some d,.call ⟨.builtin .recover,xs,_⟩,_,_,_,none⟩::l=>aA (xs.isEmpty&&l.all Nr&&cl.fn.results.isEmpty&&Nat.ble cap.length cl.fn.ntmps&&Nat.blt d cl.fn.ntmps) (
    yh X tb tp (λ_ _ _=>none) ops.toList ⟨[],fr.H,cl.fn.ntmps⟩ l [] { st with E:=(d,none,v)::iS 0 cap,h:= .c (.r (List.range cap.length) .o) (.c (.r (List.range cap.length) .o) .o) } (λst1=>den X tb tp y ⟨[],fr.H,cl.fn.ntmps⟩ (ari st.E K) st1)) none
  |_=>none)
 |some (.region _ ops false)=>aA (pm&&ops.toList.all Nr&&cl.fn.results.isEmpty&&Nat.ble cap.length cl.fn.ntmps) (
    yh X tb tp (λ_ _ _=>none) ops.toList ⟨[],fr.H,cl.fn.ntmps⟩ ops.toList [] { st with E:=iS 0 cap } (λst1=>K { st1 with E:=st.E })) none
 |_=>none
section
variable {X : Cx} {tb : List aq} {tp : List bI} {D : w9} {R : Type} {r : R} {Φ : Ctx}
theorem NA{a:jV}{cap:List AV}{v:AV}{fr:Fr}{st:aD}{K:aD->Option R}{u u':FrameMode}{T:World->Prop}(I:a.Ok X.P)(p:∀it∈X.Γ,it∈Φ)(s:∀e∈tb,e.Ok X.P X.Γ)(q:∀e∈tp,e.Ok X.P X.Γ)
  (hs:Sat (ab ρ [] st.G++(ab ρ [] fr.H++Φ)) w) {pm:Bool} (O:pm=true->u= .returning/\u'= .returning) (hu:(u= .returning/\u'= .returning/\v.val ρ= .nilIface)\/(u= .panicking (gS (v.val ρ))/\u'= .panicking [{ v:=v.val ρ,recovered:=true }]))
  (h:WK X tb tp pm a cap v fr st K=some r) (hK:∀(st':aD) (ρ':ay) (w':World),aT st.c ρ ρ'->st.c<=st'.c->K { st' with E:=st.E }=some r->Sat (ab ρ' [] st'.G++(ab ρ' [] fr.H++Φ)) w'->T w'):
  Gf X.P a.f (AV.ao ρ cap) u w λu2 w'=>u2=u'/\T w':=by
 unfold WK at h;split at h
 .rename_i id ops y hb;split at h
  .rename_i d xs tys ty pos af l j;obtain ⟨J,M⟩:=aI h;simp only [ae] at J;obtain ⟨⟨⟨⟨W,V⟩,U⟩,S⟩,h7⟩:=J;have N:xs= #[]:=by simpa using W
   subst N;have b:a.fn.results= #[]:=by simpa using U
   refine Xn (n:=a.fn.ntmps) I.2 hb j V b rfl (by rw [AV.bm];exact S) h7 hu ?_;obtain ⟨m⟩:=ops;simp only at j M;have:=Wy (σ:=none) (D:=[]) (Q:=Exit.then (y.wpIn (FW none) 0 X.P (QB T)) (QB T)) (ρ:=ρ) (w:=w) (r:=r) (ops:=m) (fr:=⟨[],fr.H,a.fn.ntmps⟩) (st:={ st with E:=(d,none,v)::iS 0 cap,h:= .c (.r (List.range cap.length) .o) (.c (.r (List.range cap.length) .o) .o) }) p s q (λx h=>by cases h) (λx h=>by cases h) ⟨λx _=>rfl,λx _=>rfl⟩ hs M (λst1 g w1 A k z L=>?_) (λlb v st1 g w1 A k z L=>by cases z)
   .have Z:au ρ [] ((d,none,v)::iS 0 cap) []=(d,true,v.val ρ)::iota 0 (AV.ao ρ cap):=by show aF.env ρ [] ((d,none,v)::iS 0 cap)++[]=_;simp only [aF.env,aC.get_none,wx,la]
    have Y:au ρ [] ({ st with E:=(d,none,v)::iS 0 cap,h:= .c (.r (List.range cap.length) .o) (.c (.r (List.range cap.length) .o) .o) }:aD).E (⟨[],fr.H,a.fn.ntmps⟩:Fr).F=(d,true,v.val ρ)::iota 0 (AV.ao ρ cap):=Z;rw [Y] at this;exact this
   .refine bd (fg (σ:=none) (D:=[]) p s q y (fr:=⟨[],fr.H,a.fn.ntmps⟩) L z (λe C B w2 b1 b2 t b4=>?_));cases e with
    |nrm=>exact anj (hK C B w2 (A.trans b1 k) (cg k b2) t b4)
    |ret=>exact apq (hK C B w2 (A.trans b1 k) (cg k b2) t b4)
    |ext i=>cases t
    |gto l=>cases t
    |gS v=>cases t
    |panE v=>cases t
    |panL v=>cases t
  .cases h
 .rename_i id ops hb;obtain ⟨J,M⟩:=aI h;simp only [ae] at J;obtain ⟨⟨⟨W,V⟩,U⟩,S⟩:=J;have b:a.fn.results= #[]:=by simpa using U
  obtain ⟨rfl,rfl⟩:=O W;refine ad4 (n:=a.fn.ntmps) I.2 hb V b rfl (by rw [AV.bm];exact S) ?_;obtain ⟨m⟩:=ops;have:=Wy (σ:=none) (D:=[]) (Q:=QB T) (ρ:=ρ) (w:=w) (r:=r) (ops:=m) (fr:=⟨[],fr.H,a.fn.ntmps⟩) (st:={ st with E:=iS 0 cap }) p s q (λx h=>by cases h) (λx h=>by cases h) ⟨λx _=>rfl,λx _=>rfl⟩ hs M (λst1 g w1 A k z L=>anj (hK st1 g w1 A k z L)) (λlb v st1 g w1 A k z L=>by cases z);have Z:au ρ [] (iS 0 cap) []=iota 0 (AV.ao ρ cap):=by show aF.env ρ [] (iS 0 cap)++[]=_;simp only [wx,la]
  have Y:au ρ [] ({ st with E:=iS 0 cap }:aD).E (⟨[],fr.H,a.fn.ntmps⟩:Fr).F=iota 0 (AV.ao ρ cap):=Z;rw [Y] at this;exact this
 .cases h
end
def ahj:y4->Option (y4×Operand)
 |[]=>none
 |o::l=>(match l with
  |[]=>(match o with
   |⟨none,.defer ⟨.value fo,xs,_⟩,_,_,_,none⟩=>aA xs.isEmpty (some ([],fo)) none
   |_=>none)
  |_::_=>(match ahj l with
   |some p=>some (o::p.1,p.2)
   |none=>none))
theorem afX:{l l':y4}->{fo:Operand}->ahj l=some (l',fo)->∃tys ty pos af,l=l'++[⟨none,.defer ⟨.value fo,#[],tys⟩,ty,pos,af,none⟩]
 |[],_,_,h=>by cases h
 |o::l,l',fo,h=>by
  unfold ahj at h;split at h
  .split at h
   .obtain ⟨b,a⟩:=aI h;rename_i xs _ _ _ _;have:xs= #[]:=by simpa using b
    subst this;cases a;exact ⟨_,_,_,_,rfl⟩
   .cases h
  .split at h
   next p hp=>cases h;obtain ⟨tys,ty,pos,af,a⟩:=afX (fo:=p.2) (l':=p.1) (by rw [hp]);exact ⟨tys,ty,pos,af,by rw [a];rfl⟩
   .cases h
def aiv:Code->Option (y4×y4×Operand)
 | .region _ ops false=>(match ahj ops.toList with
  |some p=>some (ops.toList,p.1,p.2)
  |none=>none)
 |_=>none
def ang:Code->Bool
 | .scope _=>true
 | .seq x y=>(aiv x).isSome||ang y
 |_=>false
def Qc:List Row->Bool
 |[]=>true
 |r::H=>r.cG&&Qc H
theorem WO:{H:List Row}->Qc H=true->da H=H
 |[],_=>rfl
 |r::H,h=>by simp only [Qc,ae] at h;show aA r.cG (r::da H) (da H)=r::H;rw [h.1,WO h.2]
def arb{R:Type}(X:Cx)(tb:List aq)(tp:List bI)(cl:jV)(cap:List AV)(fr:Fr)(K:XE->aD->Option R):XE->aD->Option R
 | .nrm,st=>aA (st.low fr) (WK X tb tp true cl cap (.raw .nilIface) fr st (K .ret)) none
 | .ret,st=>aA (st.low fr) (WK X tb tp true cl cap (.raw .nilIface) fr st (K .ret)) none
 | .panE v,st=>aA (st.low fr) (WK X tb tp false cl cap v fr st (K .ret)) none
 | .panL v,st=>aA (Qc fr.H) (aA (st.low fr) (WK X tb tp false cl cap v fr st (K .ret)) none) none
 |_,_=>none
def ahs{R:Type}(X:Cx)(tb:List aq)(tp:List bI)(tc:List jV):Code->Fr->(XE->aD->Option R)->aD->Option R
 | .scope c,fr,K,st=>akZ X tb tp c fr K st
 | .seq x y,fr,K,st=>(match aiv x with
  |some p=>yh X tb tp (λb v st=>K (aA b (.panL v) (.panE v)) st) p.1 fr p.2.1 [] (yq st) (λst1=>match br [] st1.E fr.F none p.2.2 with
   |some (.fn f [] cap)=>(match UX tc f with
    |some cl=>aA (AV.bW st1.c cap) (den X tb tp y fr (arb X tb tp cl cap fr K) st1) none
    |none=>none)
   |_=>none)
  |none=>aA (ang y) (den X tb tp x fr (ug (ahs X tb tp tc y fr K) K) (yq st)) (aA (nQ x||nQ y) (jl X tb tp tc (.seq x y) fr (anF K) st) (den X tb tp (.seq x y) fr K st)))
 |c,fr,K,st=>den X tb tp c fr K st
section
variable {X : Cx} {tb : List aq} {tp : List bI} {tc : List jV} {R : Type} {r : R} {Φ : Ctx} {fn : Func} {S : Value -> World -> Prop} {Sp : w5 -> World -> Prop}
theorem aoX{c:Code}{p:y4×y4×Operand}(h:aiv c=some p):∃id ops,c= .region id ops false/\ops.toList=p.1/\∃tys ty pos af,p.1=p.2.1++[⟨none,.defer ⟨.value p.2.2,#[],tys⟩,ty,pos,af,none⟩]:=by
 unfold aiv at h;split at h
 .rename_i id ops;split at h
  next q a=>cases h;exact ⟨id,ops,rfl,rfl,afX a⟩
  .cases h
 .cases h
theorem aow(d:∀it∈X.Γ,it∈Φ)(j:∀e∈tb,e.Ok X.P X.Γ)(g:∀e∈tp,e.Ok X.P X.Γ)(M:∀c∈tc,c.Ok X.P):∀(c:Code) {fr:Fr} {K:XE->aD->Option R} {st:aD} {ρ:ay} {w:World},Sat (ab ρ [] st.G++(ab ρ [] fr.H++Φ)) w->
  ahs X tb tp tc c fr K st=some r->iO (BP X.P fn S Sp) [] fr Φ st.c ρ r K->WC X.P none c (BP X.P fn S Sp) fr.n [] (au ρ [] st.E fr.F) w:=λc=>by
 induction c with
 |scope c=>intro fr K st ρ w B h s;exact anU d j g B h s
 |seq x y ihx Y=>
  intro fr K st ρ w B h s;obtain ⟨W,p2,p3⟩:=afx (st:=st);unfold ahs at h;split at h
  .rename_i p hp;obtain ⟨id,ops,rfl,e1,tys,ty,pos,af,e2⟩:=aoX hp;refine bq (bh ?_);obtain ⟨opl⟩:=ops;simp only at e1;subst e1;have hw:=IA (σ:=none) (D:=[]) (Q:=Exit.then (y.wpIn (FW none) 0 X.P (BP X.P fn S Sp)) (BP X.P fn S Sp)) (ρ:=ρ) (w:=w) (st:=yq st) (rest:=[⟨none,.defer ⟨.value p.2.2,#[],tys⟩,ty,pos,af,none⟩]) d j g (λx h=>by cases h) (λx h=>by cases h) ⟨λx _=>rfl,λx _=>rfl⟩ (by rw [p3];exact B) h (λst1 k w1 z t m L=>?_) (λlb v st1 k w1 z t m L=>?_)
   .rw [p2,<-e2] at hw;exact hw
   .split at m
    .rename_i f cap Z;split at m
     .rename_i cl hcl;obtain ⟨b1,b2⟩:=aI m;obtain ⟨c1,c2⟩:=Sc M hcl;have C:=bF (ρ:=k) Z;simp only [AV.val,AV.ao] at C;subst c2;refine ak0 C (bU (bd ?_));rw [W] at z t;refine fg (σ:=none) (D:=[PB cl.f (AV.ao k cap)]) d j g y L b2 (λe b a w2 d1 d2 A V=>?_);have N:AV.ao a cap=AV.ao k cap:=AV.bS d1 _ b1;have U:b.low fr=true->∀(q:aD) (o:ay) (O:World),aT b.c a o->b.c<=q.c->K .ret { q with E:=b.E }=some r->Sat (ab o [] q.G++(ab o [] fr.H++Φ)) O->At (BP X.P fn S Sp) .ret fr.n [] (au a [] b.E fr.F) O:=λhl q o O f1 f2 f3 f4=>by have:=s .ret { q with E:=b.E } o O (z.trans (d1.trans f1 d2) t) (cg t (cg d2 f2)) f3 f4;rw [<-mM hl f1];exact this
      rw [<-N];cases e with
      |nrm=>
       obtain ⟨J,I⟩:=aI A;exact aiH c1.1 (NA (u:= .returning) (T:=λw'=>At (BP X.P fn S Sp) .ret fr.n [] (au a [] b.E fr.F) w') c1 d j g V (λ_=>⟨rfl,rfl⟩) (.inl ⟨rfl,rfl,rfl⟩) I (U J)) (λ_ h=>h)
      |ret=>
       obtain ⟨J,I⟩:=aI A;exact aiH c1.1 (NA (u:= .returning) (T:=λw'=>At (BP X.P fn S Sp) .ret fr.n [] (au a [] b.E fr.F) w') c1 d j g V (λ_=>⟨rfl,rfl⟩) (.inl ⟨rfl,rfl,rfl⟩) I (U J)) (λ_ h=>h)
      |ext i=>cases A
      |gto l=>cases A
      |gS v=>cases A
      |panE v=>
       obtain ⟨J,I⟩:=aI A;have hp:=NA (u:= .panicking (gS (v.val a))) (T:=λw'=>At (BP X.P fn S Sp) .ret fr.n [] (au a [] b.E fr.F) w') c1 d j g V (λh=>by cases h) (.inr ⟨rfl,rfl⟩) I (U J);exact afr c1.1 hp (λ_ h=>h)
      |panL v=>
       obtain ⟨l0,A⟩:=aI A;obtain ⟨J,I⟩:=aI A;have d5:Sat (ab a [] b.G++(ab a [] (da fr.H)++Φ)) w2:=V;rw [WO l0] at d5;have hp:=NA (u:= .panicking (gS (v.val a))) (T:=λw'=>At (BP X.P fn S Sp) .ret fr.n [] (au a [] b.E fr.F) w') c1 d j g d5 (λh=>by cases h) (.inr ⟨rfl,rfl⟩) I (U J);exact afr c1.1 hp (λ_ h=>h)
     .cases m
    .cases m
   .rw [W] at z t;cases lb
    .exact JA (s (.panE v) st1 k w1 z t m L)
    .exact JA (s (.panL v) st1 k w1 z t m L)
  .rename_i hp;rcases dq h with ⟨h1,h2⟩|⟨_,h2⟩
   .refine bq ?_;have:=fg (σ:=none) (D:=[]) d j g x (fr:=fr) (st:=yq st) (ρ:=ρ) (w:=w) (Q:=Exit.then (y.wpIn (FW none) 0 X.P (BP X.P fn S Sp)) (BP X.P fn S Sp)) (by rw [p3];exact B) h2 (λe st' ρ' w' z t m L=>?_)
    .rw [p2] at this;exact this
    .rw [W] at z t;by_cases he:e= .nrm
     .subst he;exact bd (Y L m (s.less z t))
     .rw [lN he] at m;exact gq he (s e st' ρ' w' z t m L)
   .rcases dq h2 with ⟨_,h3⟩|⟨_,h3⟩
    .exact amr d j g M (.seq x y) B h3 s
    .exact fg d j g (.seq x y) B h3 s
 |_=>intro fr K st ρ w B h s;exact fg d j g _ B h s
end
variable {tb : List aq} {tc : List jV} {tp : List bI}
def dL:List (Bool×Row)->List Row
 |[]=>[]
 |x::R=>aA x.1 (x.2::dL R) (dL R)
def j3:List (Bool×Row)->List Row
 |[]=>[]
 |x::R=>aA x.1 (j3 R) (x.2::j3 R)
def Kw:List Row->za
 |[]=>[]
 |r::G=>(match r with
  | .box j _ _=>j::Kw G
  |_=>Kw G)
def Jy:Nat->Nat->wv
 |0,_=>[]
 |n+1,k=>some k::Jy n (k+1)
def acm:List (Nat×List AV)->List (List AV)->List (Nat×List AV)
 |x::X,cs::C=>(x.1,cs)::acm X C
 |_,_=>[]
def Ip(X:Cx)(fr:Fr)(st:aD):ResultVar->Option AV
 | .tmp t=>xj st.E fr.F t
 | .cell p t=>(match xj st.E fr.F p with
  |some v=>(match xN [] st.G fr.H none v with
   |some cs=>j2 X.P t cs
   |none=>none)
  |none=>none)
def Fa(vs:List AV):AV:=match vs with
 |[v]=>v
 |vs=> .tuple vs
def amR(e:aq)(fr:Fr)(st:aD)(v:AV)(fix0:Nat->Option AV)(fix:Nat->gz):List Row:=cu (rP st.G fr.H e.r v++UQ st.G fr.H fix0 fix e.os) st.G
def apf(e:aq)(fr:Fr)(n:Nat)(G:List Row)(v:AV)(fix0:Nat->Option AV)(fix:Nat->gz):Option (ew (lQ e.r++gr e.os)):=match mt G fr.H e.r v none none (Jy n 0) with
 |some mr=>(match YA G fr.H fix0 fix e.os mr.B with
  |some mq=>aA (A6 ((mr.S++mq.S).map λx=>di G fr.H x.2)&&OK G.length ((mr.S++mq.S).map λx=>di G fr.H x.2)) (cB _ (mr.D++mq.D)) none
  |none=>none)
 |none=>none
def ahw(X:Cx)(e:aq)(fn:Func)(fr:Fr)(n:Nat)(fix0:Nat->Option AV)(fix:Nat->gz)(st:aD):Option (ew (lQ e.r++gr e.os)):=match ud (Ip X fr st) fn.results.toList with
 |some rs=>apf e fr n (amR e fr st (Fa rs) fix0 fix) (Fa rs) fix0 fix
 |none=>none
abbrev aru{R:Type}(K:aD->Option R):XE->aD->Option R
 | .nrm,st=>K st
 | .ret,st=>K st
 |_,_=>none
def agq{R:Type}(X:Cx)(tb:List aq)(tp:List bI)(tc:List jV)(h:HT)(fn:Func)(ps:List Pt)(KF:List AV->List Row->Nat->List (Nat×List AV)->XE->aD->Option R)(s:ew (my ps)):Option R:=
 match dU id ps [] [] 0 (fM _ s) with
 |⟨vs,R,n,_,XA⟩=>match kB (Kw (dL R)) n (dL R) with
  |(G,Q,c)=>match fn.body with
   |none=>none
   |some body=>aA (Nat.ble vs.length fn.ntmps&&AV.bW n vs&&bC n (R.map (·.2))) (
    ahs X tb tp tc body ⟨[],Q++j3 R,fn.ntmps⟩ (KF vs (Q++j3 R) n (acm XA (fF G))) ⟨c,iS 0 vs,G,h⟩) none
def adB(X:Cx)(tb:List aq)(tp:List bI)(tc:List jV)(h:HT)(fn:Func)(e:aq)(s:ew (my e.ps)):Option (ew (lQ e.r++gr e.os)):=
 agq X tb tp tc h fn e.ps (λvs H n XX=>aru (ahw X e fn ⟨[],H,fn.ntmps⟩ n (λ(i:Nat)=>vs[i]?) (vM (Jy n 0) e.ps vs XX))) s
def M4(pp:Pt)(fr:Fr)(v:AV)(st:aD):Option (ew (lQ pp)):=match mt (cu (rP st.G fr.H pp v) st.G) fr.H pp v none none [] with
 |some mr=>aA (A6 (mr.S.map λx=>di (cu (rP st.G fr.H pp v) st.G) fr.H x.2)&&OK (cu (rP st.G fr.H pp v) st.G).length (mr.S.map λx=>di (cu (rP st.G fr.H pp v) st.G) fr.H x.2)) (cB _ mr.D) none
 |none=>none
abbrev AU(pp:Pt):(pq:Option Pt)->(fr:Fr)->(v:AV)->(st:aD)->Option (VO pp pq)
 |none,fr,v,st=>M4 pp fr v st
 |some q,fr,v,st=>match M4 pp fr v st with
  |some x=>some (.inl x)
  |none=>(M4 q fr v st).map .inr
abbrev inT{B:Type}:(nv:Bool)->(r:Pt)->(os:List (Bool×Nat×Pt))->Option (ew (lQ r++gr os))->Option (Except B (O1 nv r os))
 |true,_,_,_=>none
 |false,_,_,o=>o.map .ok
theorem acI{B:Type}:{nv:Bool}->{r:Pt}->{os:List (Bool×Nat×Pt)}->{o:Option (ew (lQ r++gr os))}->{z:Except B (O1 nv r os)}->inT nv r os o=some z->∃x q,o=some q/\z= .ok x/\isOk nv r os x q
 |true,_,_,_,_,h=>by cases h
 |false,_,_,none,_,h=>by cases h
 |false,_,_,some q,_,h=>by cases h;exact ⟨q,q,rfl,rfl,rfl⟩
abbrev arf{B:Type}(nv:Bool)(r:Pt)(os:List (Bool×Nat×Pt))(K:aD->Option (ew (lQ r++gr os)))(KP KL:AV->aD->Option B):XE->aD->Option (Except B (O1 nv r os))
 | .nrm,st=>inT nv r os (K st)
 | .ret,st=>inT nv r os (K st)
 | .gS v,st=>(KP v st).map .error
 | .panE v,st=>(KP v st).map .error
 | .panL v,st=>(KL v st).map .error
 |_,_=>none
def alc(X:Cx)(tb:List aq)(tp:List bI)(tc:List jV)(h:HT)(fn:Func)(e:bI)(s:ew (my e.ps)):Option (Except (VO e.pp e.pq) (O1 e.nv e.r e.os)):=
 agq X tb tp tc h fn e.ps (λvs H n XX=>arf e.nv e.r e.os (ahw X e.oe fn ⟨[],H,fn.ntmps⟩ n (λ(i:Nat)=>vs[i]?) (vM (Jy n 0) e.ps vs XX)) (AU e.pp e.pq ⟨[],H,fn.ntmps⟩) (λv st=>aA (e.lp||Qc H) (AU e.pp e.pq ⟨[],da H,fn.ntmps⟩ v st) none)) s
theorem yY:{G H:List Row}->fF (G++H)=fF G++fF H
 |[],_=>rfl
 |r::G,H=>by cases r <;> simp only [eb,fF,yY]
theorem wT:{R S:List (Bool×Row)}->dL (R++S)=dL R++dL S
 |[],_=>rfl
 |x::R,S=>by have e:∀Q,dL (x::Q)=aA x.1 (x.2::dL Q) (dL Q):=λ_=>rfl;rw [eb,e,e,wT];cases x.1 <;> rfl
theorem Wl{nm:Nat->Nat}:(t:Ty)->(x:t.T)->(n:Nat)->(o:vB)->fF (dL (fZ nm t x n o).R)=[]
 | .i _,_,_,_|.bo,_,_,_|.s,_,_,_|.un,_,_,_|.n,_,_,_|.mp _ _,_,_,_=>rfl
 | .p a b,x,n,o=>by
  unfold fZ;have h:=Wl (nm:=nm) a x.1 n o;generalize fZ nm a x.1 n o=L at h;obtain ⟨u,p,f,d⟩:=L;dsimp only;have g:=Wl (nm:=nm) b x.2 f d;generalize fZ nm b x.2 f d=L at g;obtain ⟨j,c,m,k⟩:=L;show fF (dL (p++c))=[];rw [wT,yY,show fF (dL p)=[] from h,show fF (dL c)=[] from g];rfl
 | .l t,x,n,o=>by
  unfold fZ;split <;> first|rfl|(rename_i e _;show fF (dL [(ow e,_)])=[];unfold dL;cases ow e <;> rfl)
 | .ex,x,n,o=>by unfold fZ;split <;> first|rfl|(rename_i e _;show fF (dL [(ow e,_)])=[];unfold dL;cases ow e <;> rfl)
mutual
theorem Xp{nm:Nat->Nat}:(p:Pt)->(fx:gz)->(c:Option AV)->(n:Nat)->(D:List bY)->(fill nm p fx c n D).X.map (·.2)=fF (dL (fill nm p fx c n D).R)
 | .int _,_,_,_,_|.bool,_,_,_,_|.str,_,_,_,_|.sli _,_,_,_,_|.slr _,_,_,_,_|.ptr _ _,_,_,_,_|.it,_,_,_,_|.jg _,_,_,_,_|.ifn,_,_,_,_|.sfp,_,_,_,_|.same,_,_,_,_=>rfl
 | .own t e m,fx,c,n,D=>by cases m <;> rfl
 | .mp k v m,fx,c,n,D=>by cases m <;> rfl
 | .bx t off m vs,fx,c,n,D=>by
  unfold fill;have h:=ss (nm:=nm) vs [] (HD fx) (n+1) D;generalize dU nm vs [] (HD fx) (n+1) D=L at h;obtain ⟨cs,R,k,g,d⟩:=L;have q:d.map (·.2)=fF (dL R):=h;cases m
  .exact q
  .show reS (Gg nm fx n) vs cs::d.map (·.2)=reS (Gg nm fx n) vs cs::fF (dL R);rw [q]
 | .agg l,fx,c,n,D=>by
  unfold fill;have h:=ss (nm:=nm) l (fW fx) [] n D;generalize dU nm l (fW fx) [] n D=L at h;obtain ⟨cs,R,k,g,d⟩:=L;exact h
 | .cB l,fx,c,n,D=>by
  unfold fill;have h:=ss (nm:=nm) l [] [] n D;generalize dU nm l [] [] n D=L at h;obtain ⟨cs,R,k,g,d⟩:=L;exact h
 | .fn f a b,fx,c,n,D=>by
  unfold fill;have h:=ss (nm:=nm) a [] [] n D;generalize dU nm a [] [] n D=L at h;obtain ⟨cs,R,k,g,d⟩:=L;dsimp only;have j:=ss (nm:=nm) b (fW fx) [] k g;generalize dU nm b (fW fx) [] k g=L at j;obtain ⟨s,r,x,u,i⟩:=L;show (d++i).map (·.2)=fF (dL (R++r));rw [qV,wT,yY,show d.map (·.2)=fF (dL R) from h,show i.map (·.2)=fF (dL r) from j]
 | .sty p,fx,c,n,D=>by
  unfold fill;exact Xp p _ none n D
 | .ifc t p,fx,c,n,D=>by
  unfold fill;have h:=Xp (nm:=nm) p (mf p (fW fx)) none n D;generalize fill nm p (mf p (fW fx)) none n D=L at h;obtain ⟨v,R,k,g,d⟩:=L;exact h
 | .dat t o,fx,c,n,D=>by unfold fill;have h:=Wl (nm:=nm) t (fH t D) n o;generalize fZ nm t (fH t D) n o=L at h;obtain ⟨cs,R,k,w⟩:=L;exact h.symm
theorem ss{nm:Nat->Nat}:(l:List Pt)->(b a:List AV)->(n:Nat)->(D:List bY)->(dU nm l b a n D).X.map (·.2)=fF (dL (dU nm l b a n D).R)
 |[],_,_,_,_=>rfl
 |p::l,b,a,n,D=>by unfold dU;have h:=Xp (nm:=nm) p (mf p b) a.head? n D;generalize fill nm p (mf p b) a.head? n D=L at h;obtain ⟨cs,R,k,g,e⟩:=L;dsimp only;have d:=ss (nm:=nm) l b.tail a.tail k g;generalize dU nm l b.tail a.tail k g=L at d;obtain ⟨i,f,m,j,c⟩:=L;show (e++c).map (·.2)=fF (dL (R++f));rw [qV,wT,yY,show e.map (·.2)=fF (dL R) from h,show c.map (·.2)=fF (dL f) from d]
end
theorem adP{ρ ρ':ay}:{X:List (Nat×List AV)}->{C:List (List AV)}->C.map (AV.ao ρ')=X.map (λx=>AV.ao ρ x.2)->dF ρ' (acm X C)=dF ρ X
 |[],[],_=>rfl
 |[],_::_,h=>by cases h
 |_::_,[],h=>by cases h
 |x::X,cs::C,h=>by simp only [c5,qa] at h;show (x.1,AV.ao ρ' cs)::dF ρ' (acm X C)=(x.1,AV.ao ρ x.2)::dF ρ X;rw [h.1,adP h.2]
section
variable {w : World} {ρ : ay}
theorem Sat.apw{A B:Ctx}{x:Item}(h:Sat (A++B) w)(hx:x.own=[]/\∀M w,x.P M w):Sat (A++x::B) w:=by
 refine h.Az (λj k=>(j<A.length/\k=j)\/(A.length<j/\k+1=j)) (λj jt a=>?_) (λj k q b f d=>by omega);by_cases e:j<A.length
 .rw [cb e] at a;exact .inr ⟨j,jt,.inl ⟨e,rfl⟩,by rw [cb e];exact a,bR.refl⟩
 .rw [b7 (by omega)] at a;by_cases c:j=A.length
  .subst c;simp at a;subst a;exact .inl hx
  .refine .inr ⟨j-1,jt,.inr ⟨by omega,by omega⟩,?_,bR.refl⟩;rw [b7 (by omega)];have:j-A.length=(j-1-A.length)+1:=by omega
   rw [this,cd] at a;exact a
theorem Sat.mO{A B:Ctx}(h:Sat (A++B) w):∀(L:List Item),(∀it∈L,it.cG=true/\∀M w,it.P M w)->Sat (A++(L++B)) w
 |[],_=>h
 |x::L,hL=>(Sat.mO h L (λit a=>hL it (aW _ a))).apw ⟨x.hp (hL x (b5 ..)).1,(hL x (b5 ..)).2⟩
theorem Yt{Φ:Ctx}{T:aC}:∀{R:List (Bool×Row)} {A:Ctx},Sat (A++(ab ρ T (R.map (·.2))++Φ)) w->Sat (A++(ab ρ T (dL R)++(ab ρ T (j3 R)++Φ))) w
 |[],_,h=>h
 |x::R,A,h=>by
  have c:Sat ((A++[x.2.item ρ T])++(ab ρ T (R.map (·.2))++Φ)) w:=by simpa [ab] using h
  have a:=Yt c;unfold dL j3;cases x.1
  .have b:Sat (A++x.2.item ρ T::(ab ρ T (dL R)++(ab ρ T (j3 R)++Φ))) w:=by simpa using a
   exact b.move
  .simpa [ab] using a
theorem LV{Φ:Ctx}{T:aC}:∀{R:List (Bool×Row)} {I:eI} {A:Ctx},eQ (RwI ρ T) R I->Sat (A++(ab ρ T (j3 R)++Φ)) w->Sat (A++(eM I++Φ)) w
 |_,_,_,.nil,h=>h
 |_,_,A,.cons (a:=a) (b:=b) (l:=l) (m:=m) h1 hr,h=>by
  unfold j3 at h;show Sat (A++(aA b.1 fG b.2)::(eM m++Φ)) w;rw [<-h1.1];cases ha:a.1
  .rw [ha] at h;have e:Sat (A++b.2::(ab ρ T (j3 l)++Φ)) w:=by have c:Sat (A++a.2.item ρ T::(ab ρ T (j3 l)++Φ)) w:=h;exact c.Dx h1.2.2
   have d:Sat ((A++[b.2])++(ab ρ T (j3 l)++Φ)) w:=by simpa using e
   have:=LV hr d;simpa using this
  .rw [ha] at h;have c:Sat (A++(ab ρ T (j3 l)++Φ)) w:=h;exact (LV hr c).apw ⟨rfl,λ_ _=>trivial⟩
theorem ac9{c:Nat}:{R:List (Bool×Row)}->bC c (R.map (·.2))=true->bC c (dL R)=true/\bC c (j3 R)=true
 |[],_=>⟨rfl,rfl⟩
 |x::R,h=>by
  simp only [c5,bC,ae] at h;obtain ⟨b,a⟩:=ac9 h.2;unfold dL j3;cases x.1
  .exact ⟨b,by show bC c (x.2::j3 R)=true;simp only [bC,ae];exact ⟨h.1,a⟩⟩
  .exact ⟨by show bC c (x.2::dL R)=true;simp only [bC,ae];exact ⟨h.1,b⟩,a⟩
theorem aiY{N:List Nm}:∀{M:List Nm} {k:Nat},(∀i a,M[i]? =some a->ρ (k+i)=a)->NB ρ (Jy M.length k) M
 |[],_,_=> .nil
 |a::M,k,h=> .cons (by
   have:=h 0 a rfl;rw [qn] at this;exact ⟨by rw [this],by rw [this],by rw [this]⟩) (aiY (N:=N) λi b hb=>by
   have:=h (i+1) b (by simpa using hb);rw [<-this];congr 1;omega)
end
section
variable {X : Cx} {fr : Fr} {st : aD} {ρ : ay} {Φ : Ctx} {w : World}
theorem aoo(j:Sat (ab ρ [] st.G++(ab ρ [] fr.H++Φ)) w){r:ResultVar}{v:AV}(h:Ip X fr st r=some v):jr X.P (au ρ [] st.E fr.F) w r (v.val ρ):=by
 cases r with
 |tmp t=>exact jr.t (EK h)
 |cell p t=>
  unfold Ip at h;dsimp only at h;split at h
  .rename_i u i;split at h
   .rename_i cs c;obtain ⟨y,s,hc⟩:=Mx j c aC.get_none;have b:=EK (ρ:=ρ) i;rw [s] at b;have o:j2 X.P t (cs.drop 0)=some v:=by simpa using h
    obtain ⟨d,n,bytes,z,c1,x,f⟩:=me (ρ:=ρ) o;cases hd:jn d
    .rw [hd] at f;simp only [oi,qI] at f;exact jr.c1 b c1 hd hc f
    .unfold j2 at h;rw [c1] at h;rcases dq h with ⟨_,e⟩|⟨g,_⟩
     .split at e
      next q k=>obtain ⟨n,bytes,z⟩:=q;obtain ⟨m,l⟩:=aI e;cases l;have a:n<=cs.length:=cn m;simp only [AV.val];refine jr.cA b c1 hd (cF k) (vs:=AV.ao ρ (cs.take n)) ?_ (by rw [AV.bm,b0,du a]);have:=hc.sub (us:=AV.ao ρ (cs.take n)) 0 (by rw [AV.jv,j6,b0,AV.bm,du a]);simpa [Addr.add] using this
      .cases e
     .rw [hd] at g;cases g
   .cases h
  .cases h
theorem akX{rs:List AV}:(if h:(AV.ao ρ rs).length=1 then (AV.ao ρ rs)[0] else .tuple (AV.ao ρ rs).toArray)=(Fa rs).val ρ:=by
 match rs with
 |[]=>simp [Fa,AV.ao,AV.val]
 |[v]=>simp [Fa,AV.ao]
 |u::v::l=>simp [Fa,AV.ao,AV.val]
theorem ajC{fn:Func}{S:Value->World->Prop}{Sp:w5->World->Prop}{rs:List AV}(j:Sat (ab ρ [] st.G++(ab ρ [] fr.H++Φ)) w)(h:ud (Ip X fr st) fn.results.toList=some rs)(m:S ((Fa rs).val ρ) w):
  At (BP X.P fn S Sp) .ret fr.n [] (au ρ [] st.E fr.F) w:=by
 have c:∀{α β:Type} {f:α->Option β} {l:List α} {ys:List β},ud f l=some ys->l.length=ys.length:=λ{α β f l}=>by
  induction l with
  |nil=>intro ys h;cases h;rfl
  |cons x l ih=>
   intro ys h;unfold ud at h;split at h
   .split at h
    next zs d=>cases h;simp [ih d]
    .cases h
   .cases h
 have b:∀{l:List ResultVar} {ys:List AV},ud (Ip X fr st) l=some ys->ud (λr=>(Ip X fr st r).map (AV.val ρ)) l=some (AV.ao ρ ys):=λ{l}=>by
  induction l with
  |nil=>intro ys h;cases h;simp [ud,AV.ao]
  |cons x l ih=>
   intro ys h;unfold ud at h ⊢;split at h
   .rename_i y i;split at h
    next zs d=>cases h;rw [i,ih d];simp [AV.ao]
    .cases h
   .cases h
 refine ah7 (vs:=AV.ao ρ rs) (by rw [AV.bm];exact c h) (λa k=>Ua (g:=λr=>(Ip X fr st r).map (AV.val ρ)) (λr v hv=>?_) (b h)) akX m;cases e:Ip X fr st r with
 |none=>rw [e] at hv;cases hv
 |some u=>
  rw [e] at hv;cases hv;exact (aoo j e).run k
end
theorem afP{R:Type}{X:Cx}{h:HT}{fn:Func}{f:FuncId}{ps:List Pt}{KF:List AV->List Row->Nat->List (Nat×List AV)->XE->aD->Option R}{s:ew (my ps)}{r:R}{S:Value->World->Prop}{Sp:w5->World->Prop}
  (Z:X.P.funcs[f]? =some fn) (O:∀e∈tb,e.Ok X.P X.Γ) (K:∀e∈tp,e.Ok X.P X.Γ) (M:∀c∈tc,c.Ok X.P) (hd:agq X tb tp tc h fn ps KF s=some r) {d:xu} {N:List Nm} {I:eI} {XX:jh} {Φ:Ctx} {w:World}
  (hS:tT ps d [] [] [] (fM _ s) I XX N) (m:Sat (dh I++Φ) w) (J:∀it∈X.Γ,it∈Φ)
  (fin:∀(x:XE) (vs:List AV) (H:List Row) (z:List (Nat×List AV)) (st:aD) (ρ:ay) (w':World),KF vs H N.length z x st=some r->Sat (ab ρ [] st.G++(ab ρ [] (hx x ⟨[],H,fn.ntmps⟩)++Φ)) w'->NB ρ (Jy N.length 0) N->AV.ao ρ vs=d->dF ρ z=XX->
   (∀{A:Ctx} {F:World},Sat (A++(ab ρ [] H++Φ)) F->Sat (A++(eM I++Φ)) F)->MB (BP X.P fn S Sp) x ρ fn.ntmps [] (au ρ [] st.E []) w'):kE X.P f d w S Sp:=by
 -- names of the arguments
 have o:vh (λ(i:Nat)=>(N[i]?).getD cO) id 0 N:=λi a ha=>by simp only [id,ha,qA];exact ⟨trivial,trivial,trivial,λ_=>trivial⟩
 have p:∀(i:Nat) a,N[i]? =some a->(λ(i:Nat)=>(N[i]?).getD cO) (0+i)=a:=λi a ha=>by simp only [ig,ha,qA]
 generalize (λ(i:Nat)=>(N[i]?).getD cO)=ρ at o p;obtain ⟨u,y,f3,v,t⟩:=sJ (T:=[]) (nm:=id) ps d [] [] [] (fM _ s) I XX N (by simpa only [AV.ao] using hS) o (qd _) [];have fb:=ss (nm:=id) ps [] [] 0 (fM _ s);simp only [la,et] at u y f3 v t;unfold agq at hd;generalize dU id ps [] [] 0 (fM _ s)=L at u y f3 v t fb hd;obtain ⟨vs,R,n,DD,z⟩:=L;simp only at u y f3 v t fb;dsimp only at hd;subst y;generalize hL:kB (Kw (dL R)) N.length (dL R)=L at hd;obtain ⟨G,D,c⟩:=L;dsimp only at hd;split at hd
 .cases hd
 rename_i body j;obtain ⟨h1,h2⟩:=aI hd;simp only [ae] at h1;obtain ⟨⟨h3,h4⟩,h5⟩:=h1;obtain ⟨l1,l2⟩:=ac9 h5;obtain ⟨b,g⟩:=HB (ids:=Kw (dL R)) (ρ:=ρ) l1;rw [hL] at g;have hc:N.length<=c:=g.le;have V:Sat (ab ρ [] (R.map (·.2))++Φ) w:=Sat.leL (A:=[]) (B:=dh I) (C:=Φ) m t.rw;have U:=Yt (A:=[]) V;have e1:ab b [] G=ab ρ [] (dL R):=g.eq;have Q:Sat (ab b [] G++(ab b [] (D++j3 R)++Φ)) w:=by
  rw [e1,bk,bf g.ag l2,aO];exact Sat.mO (A:=ab ρ [] (dL R)) (B:=ab ρ [] (j3 R)++Φ) U (ab b [] D) (λit W=>by obtain ⟨q,hq,rfl⟩:=List.mem_map.1 W;exact g.rp q hq)
 have l:AV.ao b vs=d:=by rw [AV.bS g.ag _ h4,u]
 refine iw Z j rfl (by rw [<-l,AV.bm];exact h3) ?_;have hE:au b [] (iS 0 vs) []=iota 0 d:=by show aF.env b [] (iS 0 vs)++[]=_;rw [wx,l,la]
 rw [<-hE];refine aow (fr:=⟨[],D++j3 R,fn.ntmps⟩) (st:=⟨c,iS 0 vs,G,h⟩) J O K M body Q h2 (λx st' ρ' w' a1 a2 a3 a4=>?_);have k:aT N.length ρ ρ':=g.ag.trans (a1.less hc) (bb _);refine fin x vs (D++j3 R) (acm z (fF G)) st' ρ' w' a3 a4 (aiY (N:=N) (λi a ha=>by
   have hi:i<N.length:=(List.getElem?_eq_some_iff.1 ha).1;rw [k _ (by omega)];exact p i a ha)) (by rw [AV.bS k _ h4,u]) ?_ (λ{A F} hw=>?_)
 .rw [v];refine adP ?_;have g1:(fF G).map (AV.ao ρ')=(fF G).map (AV.ao b):=Lp a1 g.lw;have g2:(fF G).map (AV.ao b)=(fF (dL R)).map (AV.ao ρ):=g.bx;rw [g1,g2,<-fb,qY];rfl
 .rw [bk,aO] at hw;have p4:=hw.SR;have Y:ab ρ' [] (j3 R)=ab ρ [] (j3 R):=bf k l2;rw [Y] at p4;exact LV t p4
theorem Nh{X:Cx}{e:aq}{fn:Func}{S:Value->World->Prop}{Sp:w5->World->Prop}{q:ew (lQ e.r++gr e.os)}{a:xu}{N:List Nm}{I:eI}{w:jh}{Φ:Ctx}{vs:List AV}{H:List Row}{g:List (Nat×List AV)}{st:aD}{ρ:ay}{w':World}
  (b:ahw X e fn ⟨[],H,fn.ntmps⟩ N.length (λ(i:Nat)=>vs[i]?) (vM (Jy N.length 0) e.ps vs g) st=some q) (F:Sat (ab ρ [] st.G++(ab ρ [] H++Φ)) w') (j:NB ρ (Jy N.length 0) N) (c:AV.ao ρ vs=a) (Y:dF ρ g=w)
  (d:∀{A:Ctx} {x:World},Sat (A++(ab ρ [] H++Φ)) x->Sat (A++(eM I++Φ)) x)
  (u:∀v w',(∃(N1 N2:List Nm) (K J:List bY) (l k:eI) (X1 Z:jh),Sem e.r v none none N K l X1 N1/\EH (Vj N e.ps a w) (λ(i:Nat)=>a[i]?) e.os N1 J k Z N2/\K++J=fM _ q/\Sat ((dh l++dh k)++(eM I++Φ)) w')->S v w'):
  At (BP X.P fn S Sp) .ret fn.ntmps [] (au ρ [] st.E []) w':=by
 unfold ahw at b;split at b
 .rename_i rs o;refine ajC (fr:=⟨[],H,fn.ntmps⟩) F o (u _ _ ?_);generalize Fa rs=v at b;have f:=iR (ids:=rP st.G H e.r v++UQ st.G H (λ(i:Nat)=>vs[i]?) (vM (Jy N.length 0) e.ps vs g) e.os) F;change Sat (ab ρ [] (amR e ⟨[],H,fn.ntmps⟩ st v (λ(i:Nat)=>vs[i]?) (vM (Jy N.length 0) e.ps vs g))++_) w' at f;generalize amR e ⟨[],H,fn.ntmps⟩ st v (λ(i:Nat)=>vs[i]?) (vM (Jy N.length 0) e.ps vs g)=G' at b f;unfold apf at b;split at b
  .rename_i m p;split at b
   .rename_i C s;obtain ⟨n,V⟩:=aI b;simp only [ae] at n;obtain ⟨N1,l,L,U,O⟩:=II f e.r v none none _ m N p j (λq W=>by cases W);obtain ⟨N2,k,y,n2,M⟩:=SM f e.os m.B C N1 s U;have t:(λi=>eZ ρ (vM (Jy N.length 0) e.ps vs g i))=Vj N e.ps a w:=by
     funext i
     rw [<-afD j,c,Y]
    have h:(λ(i:Nat)=>(vs[i]?).map (AV.val ρ))=λ(i:Nat)=>a[i]? :=by
     funext i
     rw [<-c,V2]
    rw [t,h] at y;obtain ⟨T,_⟩:=Nn f (O.append M);obtain ⟨z,_⟩:=vX f T (wF n.1);rw [Ca n.2] at z;have R:=z.SR;have Q:=d R;refine ⟨N1,N2,m.D,C.D,l,k,_,_,L,y,(AL _ V).symm,?_⟩;simpa [dh] using Q
   .cases b
  .cases b
 .cases b
theorem apB{X:Cx}{h:HT}{fn:Func}{e:aq}(t:Enters X.P e.f)(q:X.P.funcs[e.f]? =some fn)(p:∀e∈tb,e.Ok X.P X.Γ)(n:∀e∈tp,e.Ok X.P X.Γ)(o:∀c∈tc,c.Ok X.P)(B:∀s r,e.m s=some r->adB X tb tp tc h fn e s=some r):e.Ok X.P X.Γ:=by
 refine ⟨t,λs r A z N I D Φ w C g k=>?_⟩;refine afP q p n o (B s r A) C g k (λx vs H E st ρ w' b y j d u a=>?_);cases x with
 |nrm=>exact Nh b y j d u a (λ_ _ h=>h)
 |ret=>exact Nh b y j d u a (λ_ _ h=>h)
 |ext i=>cases b
 |gto l=>cases b
 |gS v=>cases b
 |panE v=>cases b
 |panL v=>cases b
theorem apa{X:Cx}{h:HT}{fn:Func}{e:bI}(S:Enters X.P e.f)(R:X.P.funcs[e.f]? =some fn)(O:∀e∈tb,e.Ok X.P X.Γ)(L:∀e∈tp,e.Ok X.P X.Γ)(M:∀c∈tc,c.Ok X.P)(hm:∀s r,e.m s=some r->alc X tb tp tc h fn e s=some r):e.Ok X.P X.Γ:=by
 refine ⟨S,λs r hr V N I XX Φ w hS C K=>?_⟩;refine afP R O L M (hm s r hr) hS C K (λx vs H XA st ρ w' t u D B U b=>?_);have o:∀(v:AV) (H:List Row) (F:Ctx),Sat (ab ρ [] st.G++(ab ρ [] H++Φ)) w'->(∀{A:Ctx},Sat (A++(ab ρ [] H++Φ)) w'->Sat (A++(F++Φ)) w')->∀(pp:Pt) (pq:Option Pt) (p:VO pp pq),AU pp pq ⟨[],H,fn.ntmps⟩ v st=some p->∃(N1:List Nm) (d:eI) (k:jh),ak4 pp pq p (v.val ρ) d k N1/\Sat (dh d++(F++Φ)) w':=λv H F u b pp pq p hp=>by
  have one:∀(pp:Pt) (p:ew (lQ pp)),M4 pp ⟨[],H,fn.ntmps⟩ v st=some p->∃(N1:List Nm) (d:eI) (k:jh),Sem pp (v.val ρ) none none [] (fM _ p) d k N1/\Sat (dh d++(F++Φ)) w':=λpp p hp=>by
   unfold M4 at hp;have E:=iR (ids:=rP st.G H pp v) u;generalize cu (rP st.G H pp v) st.G=G' at hp E;split at hp
   next mr Q=>obtain ⟨J,k2⟩:=aI hp;simp only [ae] at J;obtain ⟨N1,d,n,n1,W⟩:=II E pp v none none _ mr [] Q .nil (λq g=>by cases g);obtain ⟨Z,_⟩:=Nn E W;obtain ⟨T,_⟩:=vX E Z (wF J.1);rw [Ca J.2] at T;have Y:=b T.SR;rw [<-AL _ k2] at n;exact ⟨N1,d,_,n,by simpa [dh] using Y⟩
   .cases hp
  cases pq with
  |none=>exact one pp p hp
  |some q=>
   simp only [AU] at hp;split at hp
   next x hx=>cases hp;exact one pp x hx
   .cases g:M4 q ⟨[],H,fn.ntmps⟩ v st with
    |none=>rw [g] at hp;cases hp
    |some x=>
     rw [g] at hp;cases hp;exact one q x g
 have z:∀{A:Ctx},Sat (A++(eM I++Φ)) w'->Sat (A++(aA e.lp [] (eM I)++Φ)) w':=λh=>by
  cases e.lp
  .exact h
  .exact Sat.LC h
 cases x with
 |nrm=>
  obtain ⟨x,q,g,rfl,hi⟩:=acI t;exact Nh g u D B U b (λ_ _ h=>⟨x,q,rfl,hi,h⟩)
 |ret=>
  obtain ⟨x,q,g,rfl,hi⟩:=acI t;exact Nh g u D B U b (λ_ _ h=>⟨x,q,rfl,hi,h⟩)
 |ext i=>cases t
 |gto l=>cases t
 |gS v=>
  have a:(AU e.pp e.pq ⟨[],H,fn.ntmps⟩ v st).map Except.error=some r:=t;cases hp:AU e.pp e.pq ⟨[],H,fn.ntmps⟩ v st with
  |none=>rw [hp] at a;cases a
  |some p=>
   rw [hp] at a;cases a;obtain ⟨N1,d,k,n,y⟩:=o v H (eM I) u b e.pp e.pq p hp;exact ait ⟨p,rfl,v.val ρ,N1,d,k,rfl,n,z y⟩
 |panE v=>
  have a:(AU e.pp e.pq ⟨[],H,fn.ntmps⟩ v st).map Except.error=some r:=t;cases hp:AU e.pp e.pq ⟨[],H,fn.ntmps⟩ v st with
  |none=>rw [hp] at a;cases a
  |some p=>
   rw [hp] at a;cases a;obtain ⟨N1,d,k,n,y⟩:=o v H (eM I) u b e.pp e.pq p hp;exact (ait ⟨p,rfl,v.val ρ,N1,d,k,rfl,n,z y⟩:B9 _ _ [] _).at
 |panL v=>
  have a:(aA (e.lp||Qc H) (AU e.pp e.pq ⟨[],da H,fn.ntmps⟩ v st) none).map Except.error=some r:=t;cases j:e.lp||Qc H with
  |false=>rw [j] at a;cases a
  |true=>
   rw [j] at a;replace a:(AU e.pp e.pq ⟨[],da H,fn.ntmps⟩ v st).map Except.error=some r:=a;cases hp:AU e.pp e.pq ⟨[],da H,fn.ntmps⟩ v st with
   |none=>rw [hp] at a;cases a
   |some p=>
    rw [hp] at a;cases a;obtain ⟨N1,d,k,n,y⟩:=o v (da H) (aA e.lp [] (eM I)) u (λh=>by
     cases hl:e.lp
     .rw [hl,ql] at j;rw [WO j] at h;exact b h
     .exact Sat.LC h) e.pp e.pq p hp
    exact (ait ⟨p,rfl,v.val ρ,N1,d,k,rfl,n,y⟩:B9 _ _ [] _).at
theorem dO{X:Cx}{A B:Type}{E:(A->Option B)->aq}{F:(A->Option B)->A->Option B}(b:(E λ_=>none).Ok X.P X.Γ)(a:∀k,(E k).Ok X.P X.Γ->(E (F k)).Ok X.P X.Γ):∀n,(E (ax F n)).Ok X.P X.Γ
 |0=>b
 |n+1=>a _ (dO b a n)
theorem acK{X:Cx}{A B:Type}{E:(A->Option B)->bI}{F:(A->Option B)->A->Option B}(b:(E λ_=>none).Ok X.P X.Γ)(a:∀k,(E k).Ok X.P X.Γ->(E (F k)).Ok X.P X.Γ):∀n,(E (ax F n)).Ok X.P X.Γ
 |0=>b
 |n+1=>a _ (acK b a n)
theorem aX{X:Cx}{fn:Func}{e:aq}(h:HT)(i:Enters X.P e.f)(g:X.P.funcs[e.f]? =some fn)(d:∀e∈tb,e.Ok X.P X.Γ)(a:∀e∈tp,e.Ok X.P X.Γ)(b:∀c∈tc,c.Ok X.P)(eq:∀s,adB X tb tp tc h fn e s=e.m s):e.Ok X.P X.Γ:=
 apB i g d a b λs _ j=>(eq s).trans j
theorem oV{X:Cx}{fn:Func}{e:bI}(h:HT)(i:Enters X.P e.f)(g:X.P.funcs[e.f]? =some fn)(d:∀e∈tb,e.Ok X.P X.Γ)(a:∀e∈tp,e.Ok X.P X.Γ)(b:∀c∈tc,c.Ok X.P)(eq:∀s,alc X tb tp tc h fn e s=e.m s):e.Ok X.P X.Γ:=
 apa i g d a b λs _ j=>(eq s).trans j
theorem al{E:Type}{p:E->Prop}:∀e∈([]:List E),p e:=λ_ h=>by cases h
theorem aj{E:Type}{p:E->Prop}{x:E}{l:List E}(hx:p x)(b:∀e∈l,p e):∀e∈x::l,p e:=λe a=>by
 rcases List.mem_cons.1 a with rfl|a
 .exact hx
 .exact b e a
def acN(x:Int):Bool:=decide (-9223372036854775808<=x)&&decide (x<=9223372036854775807)
theorem acp{x:Int}:acN x=true↔ -9223372036854775808<=x/\x<=9223372036854775807:=by simp [acN]
open Go.Proofs Go.Shelf Go.Lib
theorem aoP{Γg:Ctx}{ρ:Go.Shelf.Ren}(L:Go.Proofs.LaysM.n145 P ρ)(B:Enters P (ρ.f 145))(o:glx (ρ.g 1)∈Γg)
  (p:aB->aB->Option (aB×aB×Bool)) (z:∀s t r,p s t=some r->s.length<4294967281/\r=Lib.cut s t):(⟨ρ.f 145,[.str,.str],.cB [.str,.str,.bool],[],λs=>p s.1 s.2⟩:aq).Ok P Γg:=by
 refine ⟨B,λs r y vs N I X Φ w A k l=>?_⟩;obtain ⟨D,u,U,T,O,M,H,G,N1,rfl,⟨a,rfl,rfl,rfl,rfl,rfl⟩,⟨C,q,R,Q,K,J,F,E,N2,rfl,⟨b,rfl,rfl,rfl,rfl,rfl⟩,⟨rfl,rfl,rfl,rfl,rfl⟩,rfl,rfl,rfl⟩,j,rfl,rfl⟩:=A;obtain ⟨d,c⟩:=s;obtain ⟨h,rfl⟩:=z d c r y;have j:[(⟨.s,d⟩:bY),⟨.s,c⟩]=[⟨.s,a⟩,⟨.s,b⟩]:=j;simp only [qa,rX] at j;have x:d=a:=by cases j.1;rfl
 have v:c=b:=by cases j.2;rfl
 subst x v;have k:Sat Φ w:=k;obtain ⟨i,hi⟩:=vb (l _ o);obtain ⟨_,m,hc⟩:=k.at_ hi;refine Calls.mono (Any.strings_Cut { L with } ⟨d.toArray⟩ ⟨c.toArray⟩ m w h hc) ?_;rintro e w' ⟨rfl,n,rfl⟩;refine ⟨[],[],[⟨.s,(Lib.cut d c).1⟩,⟨.s,(Lib.cut d c).2.1⟩,⟨.bo,(Lib.cut d c).2.2⟩],[],[],[],[],[],
  ⟨[S (Lib.cut d c).1,S (Lib.cut d c).2.1,.bool (Lib.cut d c).2.2],rfl,_,_,_,_,_,_,_,_,_,rfl,⟨_,rfl,rfl,rfl,rfl,rfl⟩,⟨_,_,_,_,_,_,_,_,_,rfl,⟨_,rfl,rfl,rfl,rfl,rfl⟩,⟨_,_,_,_,_,_,_,_,_,rfl,⟨_,rfl,rfl,rfl,rfl,rfl⟩,⟨rfl,rfl,rfl,rfl,rfl⟩,rfl,rfl,rfl⟩,rfl,rfl,rfl⟩,rfl,rfl,rfl⟩,⟨rfl,rfl,rfl,rfl⟩,rfl,?_⟩
 exact Sat.ext (Γ:=Φ) k ⟨rfl,rfl,rfl,bb _,λb hb=>rfl⟩
open Go.Proofs Go.Shelf Go.Lib Go.RowKit
def wl:aB->aB->List aB
 |[],cur=>if cur.isEmpty then [] else [cur]
 |b::l,cur=>if b==32 then (if cur.isEmpty then wl l [] else cur::wl l []) else wl l (cur++[b])
theorem afF:∀(k:Nat) (l cur:aB),k<=l.length->(∀j,j<k->l.getD j 0≠32)->wl l cur=wl (l.drop k) (cur++l.take k)
 |0,l,cur,_,_=>by simp
 |k+1,[],cur,h,_=>by simp at h
 |k+1,b::t,cur,h,hz=>by
  have a:b≠32:=by simpa using hz 0 (by omega)
  rw [wl,gx (by simpa using a),afF k t (cur++[b]) (by simp at h;omega) (λj c=>by simpa using hz (j+1) (by omega))];simp
theorem aqB(n a d c b:Nat):((decodeN n a d c b).1=32↔a=32)/\(a=32->(decodeN n a d c b).2=1):=by
 unfold decodeN
 repeat' split
 all_goals (refine ⟨⟨λh=>?_,λh=>?_⟩,λh=>?_⟩ <;> simp only at h ⊢ <;> omega)
theorem ap9(s:ByteArray)(pos:Nat)(h:pos<s.size):((Utf8.decode s pos).1==32)=(s.data.toList.getD pos 0==32)/\(s.data.toList.getD pos 0=32->(Utf8.decode s pos).2=1)/\pos+(Utf8.decode s pos).2<=s.size/\
  (s.data.toList.getD pos 0≠32->∀j,j<(Utf8.decode s pos).2->s.data.toList.getD (pos+j) 0≠32):=by
 have c:s.data.toList.length=s.size:=ch;rw [decode_N,c];have b:∀x:UInt8,x=32↔x.toNat=32:=λx=>⟨λh=>by rw [h];rfl,λh=>UInt8.toNat_inj.1 h⟩;have f:=aqB (s.size-pos) (s.data.toList.getD pos 0).toNat (s.data.toList.getD (pos+1) 0).toNat (s.data.toList.getD (pos+2) 0).toNat (s.data.toList.getD (pos+3) 0).toNat
 obtain ⟨l,k,i,m⟩:=decodeN_conts (s.size-pos) (s.data.toList.getD pos 0).toNat (s.data.toList.getD (pos+1) 0).toNat (s.data.toList.getD (pos+2) 0).toNat (s.data.toList.getD (pos+3) 0).toNat
 have g:=decodeN_le_n' (s.size-pos) (s.data.toList.getD pos 0).toNat (s.data.toList.getD (pos+1) 0).toNat (s.data.toList.getD (pos+2) 0).toNat (s.data.toList.getD (pos+3) 0).toNat (by omega);generalize decodeN (s.size-pos) (s.data.toList.getD pos 0).toNat (s.data.toList.getD (pos+1) 0).toNat (s.data.toList.getD (pos+2) 0).toNat (s.data.toList.getD (pos+3) 0).toNat=q at*;refine ⟨?_,λh=>f.2 ((b _).1 h),by omega,λd j a e=>?_⟩
 .rw [qE,kN,kN,f.1,b]
 .have e:=(b _).1 e
  match j,a,e with
  |0,_,e=>exact d ((b _).2 e)
  |1,a,e=>have:=(l (by omega)).1;omega
  |2,a,e=>have:=(k (by omega)).1;omega
  |3,a,e=>have:=(i (by omega)).1;omega
  |j+4,a,_=>omega
def wV(L:aB)(pos:Nat):x4->aB
 |some a=>(L.drop a).take (pos-a)
 |none=>[]
theorem alB(s:ByteArray):∀(f pos:Nat) (st:x4) (b:List (Nat×Nat)),s.size<=pos+f->pos<=s.size->(∀a,st=some a->a<pos)->
  (closeSpans s (spansFromP (λr=>r==32) s f pos st b)).map (λx=>(s.extract x.1 x.2).data.toList)=
   b.map (λx=>(s.extract x.1 x.2).data.toList)++wl (s.data.toList.drop pos) (wV s.data.toList pos st):=by
 intro f
 induction f with
 |zero=>
  intro pos st b u t g;have hp:pos=s.size:=by omega
  have i:s.data.toList.length=s.size:=ch;subst hp;rw [de (by omega)];cases st with
  |none=>simp [spansFromP,closeSpans,wl,wV]
  |some a=>
   have:=g a rfl;have c:((s.data.toList.drop a).take (s.size-a)).isEmpty=false:=by rw [qW,<-List.length_pos_iff,b0,cr];omega
   simp [spansFromP,closeSpans,wl,wV,c]
 |succ f ih=>
  intro pos st b u t g;have i:s.data.toList.length=s.size:=ch;by_cases e:pos<s.size
  .obtain ⟨w,d2,l,v⟩:=ap9 s pos e;have y:=width_pos s pos;have q:s.data.toList.getD pos 0=s.data.toList[pos]'(by omega):=by rw [List.getD,b9 (by omega)];rfl
   simp only [spansFromP,e,qt,w];by_cases hb:s.data.toList.getD pos 0=32
   .have o:=d2 hb;rw [o];rw [hW (by simpa using hb)];have hd:s.data.toList.drop pos=32::s.data.toList.drop (pos+1):=by rw [dk (by omega),<-q,hb]
    rw [hd];cases st with
    |none=>rw [ih (pos+1) none b (by omega) (by omega) (λa h=>by cases h)];simp [wl,wV]
    |some a=>
     have:=g a rfl;have c:((s.data.toList.drop a).take (pos-a)).isEmpty=false:=by rw [qW,<-List.length_pos_iff,b0,cr];omega
     show (closeSpans s (spansFromP _ s f (pos+1) none (b++[(a,pos)]))).map _=_;rw [ih (pos+1) none (b++[(a,pos)]) (by omega) (by omega) (λa h=>by cases h)];simp [wl,wV,c]
   .rw [gx (by simpa using hb)];generalize m:(Utf8.decode s pos).2=k at*;have n:=afF k (s.data.toList.drop pos) (wV s.data.toList pos st) (by rw [cr];omega) (λj p=>by rw [getD_dropU];exact v hb j p);rw [n,n3];have d:∀a,a<=pos->(s.data.toList.drop a).take (pos-a)++(s.data.toList.drop pos).take k=(s.data.toList.drop a).take (pos+k-a):=λa ha=>by rw [show pos+k-a=(pos-a)+k by omega,List.take_add,n3,show a+(pos-a)=pos by omega]
    cases st with
    |none=>
     show (closeSpans s (spansFromP _ s f (pos+k) (some pos) b)).map _=_;rw [ih (pos+k) (some pos) b (by omega) l (λa h=>by cases h;omega)];have:=d pos (bb _);rw [Nat.sub_self,List.take_zero,mj] at this;simp [this,wV]
    |some a=>
     show (closeSpans s (spansFromP _ s f (pos+k) (some a) b)).map _=_;have ha:=g a rfl;rw [ih (pos+k) (some a) b (by omega) l (λz h=>by cases h;omega)];simp [d a (by omega),wV]
  .rw [spansFromP_end _ _ _ _ _ _ e];have hp:pos=s.size:=by omega
   subst hp;rw [de (by omega)];cases st with
   |none=>simp [closeSpans,wl,wV]
   |some a=>
    have:=g a rfl;have c:((s.data.toList.drop a).take (s.size-a)).isEmpty=false:=by rw [qW,<-List.length_pos_iff,b0,cr];omega
    simp [closeSpans,wl,wV,c]
theorem Yk(s:aB):(goFieldsP (λr=>r==32) ⟨s.toArray⟩).map (λb=>Value.string b)=(wl s []).map S:=by
 have h:=alB ⟨s.toArray⟩ s.length 0 none [] (by show s.toArray.size<=0+s.length;simp) (qd _) (λa h=>by cases h);have c:(goFieldsP (λr=>r==32) ⟨s.toArray⟩).map (λb=>b.data.toList)=wl s []:=by unfold goFieldsP spansOfP;rw [qY,show (⟨s.toArray⟩:ByteArray).size=s.length from mo];exact h
 rw [<-c,qY];exact qz λb _=>by simp [S]
theorem ao9{Γg:Ctx}{ρ:Go.Shelf.Ren}(L:Go.Proofs.LaysM.n229 P ρ)(O:Enters P (ρ.f 229)){g:FuncId}(eg:Enters P g)(J:∀(W:World) (x:Nat),FnGives P g #[] #[.int .i32 x] (.bool (x==32)) W)
  (m:aB->Option (List aB)) (H:∀s r,m s=some r->s.length<=4294967296/\r=wl s []):(⟨ρ.f 229,[.str,.fn g [] []],.sli .s,[],λs=>m s⟩:aq).Ok P Γg:=by
 refine ⟨O,λs r F vs N I X Φ w K y E=>?_⟩;obtain ⟨R,C,D1,D2,I1,I2,X1,X2,N1,rfl,⟨a,rfl,rfl,rfl,rfl,rfl⟩,⟨Q,B,D3,D4,I3,I4,Z,Y,N2,rfl,⟨us,ws,E1,E2,J1,J2,V,U,M1,rfl,_,⟨rfl,rfl,rfl,rfl,rfl⟩,⟨rfl,rfl,rfl,rfl,rfl⟩,rfl,rfl,rfl⟩,⟨rfl,rfl,rfl,rfl,rfl⟩,rfl,rfl,rfl⟩,q,rfl,rfl⟩:=K;obtain ⟨k,rfl⟩:=H s r F;have q:[(⟨.s,s⟩:bY)]=[⟨.s,a⟩]:=q;simp only [qa,rX] at q;have D:a=s:=by cases q;rfl
 subst D;have y:Sat Φ w:=y;refine Calls.mono (Any.strings_FieldsFunc { L with } g #[] eg (λr=>r==32) ⟨a.toArray⟩ w k (λW x _=>J W x) L.i154 L.i9) ?_;rintro e w' ⟨A,rfl,T,c,o⟩;have d:(goFieldsP (λr=>r==32) ⟨a.toArray⟩).length=(wl a []).length:=by simpa using congrArg List.length (Yk a)
 obtain ⟨p,hp⟩:∃p:fE,p=(some ⟨A,0,none⟩,(wl a []).length,(wl a []).length):=⟨_,rfl⟩;have c:w'.ownsRow w.heap.size (ρ.t 9) 1 (sl p) (wl a []).length ((wl a []).map S):=by rw [hp,<-Yk,<-d];exact c
 have hx:Ext w w':=⟨o.os,o.tape,o.output,o.size,o.block⟩;have z:∀M,gm RS (ρ.t 9) M w' (sl p) (wl a []):=λM=>⟨_,UB.of c,QJ _⟩;have n:dv (sl p)=[A]:=by rw [hp];rfl
 have j:Sat (gi RS (ρ.t 9) (sl p) (wl a []) (dv (sl p))::Φ) w':=y.push hx (λb hb=>by have hb:b∈dv (sl p):=hb;refine ⟨(z Φ.M).lt b hb,?_⟩;rw [n,l9] at hb;omega) (λM' _=>bL.of (z M'))
 have u:=j.ng (i:=0) (new:=Fk true RS p (wl a []) false) rfl ((Ext.refl w').rK _) (λb hb=>by cases hb) (λM' m G=>λ_=>⟨((j.own (i:=0) rfl).freeze (λb hb=>G b hb (λhb=>by cases hb)) m),λh=>by cases h⟩);refine ⟨[{ cO with v:=p }],[{ cO with v:=p }],[⟨.l .s,wl a []⟩],[],[(false,Fk true RS p (wl a []) false)],[],[],[],⟨{ cO with v:=p },wl a [],by rw [d,hp];rfl,rfl,rfl,rfl,rfl⟩,⟨rfl,rfl,rfl,rfl⟩,rfl,?_⟩;exact u
end
end Go.Proofs.YtkedhpmpejhekaaGreatDoor
