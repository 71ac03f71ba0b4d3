/- Own texts for ToolShows, cut and joined by a program. -/
import Derived.Test.YtkedhpmpejhekaaGreatDoorToolShowsD
import Derived.Lib.ItoaNum
import Derived.Shelf.Strings.Cut
import Derived.Shelf.LaysM
import Derived.Shelf.Strings.FieldsFuncAny
import Derived.Lib.TrimUEq
import Derived.Lib.SpaceUEq
set_option linter.all false
namespace Go.Proofs.YtkedhpmpejhekaaGreatDoor
noncomputable section
variable {P : Program} {o : Oper} {w : World} {ρ : ay}
open Go.Lib
def iO:Nat->List AV->aF
 |_,[]=>[]
 |k,v::vs=>(k,none,v)::iO (k+1) vs
theorem vS{ρ:ay}:{vs:List AV}->{k:Nat}->aF.env ρ [] (iO k vs)=iota k (AV.ao ρ vs)
 |[],_=>rfl
 |v::vs,k=>by simp only [iO,aF.env,AV.ao,iota,aB.get_none,vS]
structure jR where
 f:FuncId
 fn:Func
def jR.Ok(P:Program)(c:jR):Prop:=Enters P c.f/\P.funcs[c.f]? =some c.fn
def Sq:List jR->Nat->Option jR
 |[],_=>none
 |c::l,f=>aA (Nat.beq c.f f) (some c) (Sq l f)
theorem QP{P:Program}{f:Nat}{c:jR}:{l:List jR}->(∀c∈l,c.Ok P)->Sq l f=some c->c.Ok P/\c.f=f
 |[],_,h=>by cases h
 |c'::l,hl,h=>by
  unfold Sq at h;rcases dq h with ⟨b,a⟩|⟨_,a⟩
  .cases a;exact ⟨hl _ (bj ..),ah b⟩
  .exact QP (λc hc=>hl c (aW _ hc)) a
structure YC(R:Type) where
 id:Nat
 rnd:List AV->aC->(Bool->Nat->aC->Option R)->Option R
def YOk{R:Type}(X:Cx)(y:YC R)(r:R)(ly:Nat)(ρ0:ay)(H0:List Row)(Φ:Nat->Ctx):Prop:=
 ∀(vs:List AV) (st:aC) (ρ:ay) (w:World) (H1:List Row) (KY:Bool->Nat->aC->Option R),y.id<st.c->aT (y.id+1) ρ0 ρ->AV.bX st.c vs=true->bC st.c st.G=true->bC st.c (H1++H0)=true->
  Sat (ab ρ [] st.G++(ab ρ [] (H1++H0)++Φ 0)) w->y.rnd vs st KY=some r->
  Yld X.P ly (AV.ao ρ vs) w (λv w'=>∃b p' st' ρ',v= .bool b/\aT st.c ρ ρ'/\st.c<=st'.c/\KY b p' st'=some r/\Sat (ab ρ' [] st'.G++(ab ρ' [] (H1++H0)++Φ p')) w')
def noG:List Row->Bool
 |[]=>true
 |r::G=>pC r.gd&&noG G
theorem ajp:{G:List Row}->noG G=true->∀r,r∈G->r.gd=none
 |[],_,_,h=>by cases h
 |x::G,h,r,a=>by
  simp only [noG,ae] at h;rcases List.mem_cons.1 a with rfl|a
  .cases b:r.gd with
   |none=>rfl
   |some k=>rw [b] at h;cases h.1
  .exact ajp h.2 r a
theorem UO{T T':aB}{G:List Row}(h:∀r,r∈G->r.gd=none):ab ρ T G=ab ρ T' G:=
 qw λr a=>Row.B7 (by rw [h r a];simp)
theorem acm{T:aB}{fr:Fr}(b:FT T fr):ab ρ T fr.H=ab ρ [] fr.H:=
 qw λr a=>Row.B7 (b.2 r a)
def ahr{R:Type}(y:YC R)(T:aB)(fr:Fr)(st:aC)(o:Oper)(p:Nat)(K:Nat->cB R):Option (Option R):=match o.guard,o.op,o.dst with
 |none,.call c,some d=>(match c.callee with
  | .value fo=>(match br T st.E fr.F none fo with
   |some (.nv i)=>some (aA (Nat.beq i y.id&&Nat.beq p 0&&Nat.blt d fr.n&&mf (some d) T&&st.low fr&&noG st.G) (match oP T st.E fr.F none c.args.toList with
     |some vs=>aA (AV.bX st.c vs) (y.rnd vs st (λb p' st'=>K p' { st' with E:=cu (some d) none (.bool b) st.E,G:=kx st'.G,h:=st.h })) none
     |none=>none) none)
   |_=>none)
  |_=>none)
 |_,_,_=>none
inductive UG where
 |cK|skip|run|no
def unK(ops:x5)(fr:Fr)(kn:x8)(E:aF)(o:Oper):UG:=match o.guard with
 |none=> .cK
 |some k=>aA (se k.1 kn) (match (ops[k.1]?).bind (·.dst) with
  |some rj=>aA (Nat.blt rj fr.n) (match dC E fr.F rj with
   |some (none,.bool b)=>(match wj k.2 b with
    |true=> .run
    |false=> .skip)
   |_=> .no) .no
  |none=> .no) .cK
def knT(ops:x5)(t:Tmp):x8->Bool
 |[]=>false
 |j::kn=>(match (ops[j]?).bind (·.dst) with
  |some d=>Nat.beq d t
  |none=>false)||knT ops t kn
def W7(ops:x5)(fr:Fr)(kn:x8)(E:aF)(o:Oper):Oper:=match o.guard,o.op with
 |none,.pick (.tmp t) x y=>aA (knT ops t kn) (match dC E fr.F t with
  |some (none,.bool v)=>(match v with
   |true=>{ o with op:= .move x }
   |false=>{ o with op:= .move y })
  |_=>o) o
 |_,_=>o
def unO(ops:x5)(fr:Fr)(kn:x8)(E:aF)(o:Oper):UG->Oper
 | .run=>{ o with guard:=none }
 |_=>W7 ops fr kn E o
def kJ{R:Type}(X:Cx)(tb:List aq)(y:YC R)(ops:x5)(fr:Fr):x5->x8->aB->aC->Nat->(Nat->cB R)->Option R
 |[],_,T,st,p,K=>aA (BD T fr st) (K p (wS T st)) none
 |o::l,kn,T,st,p,K=>match unK ops fr kn st.E o with
  | .no=>none
  | .skip=>(match o.guard with
   |some k=>aA (L6 fr.n o.dst&&mf o.dst T&& !(RG k T)) (kJ X tb y ops fr l kn T { st with E:=cu o.dst (some k) (.raw undef) st.E } p K) none
   |none=>none)
  |u=>match ahr y T fr st (unO ops fr kn st.E o u) p (λp' st'=>kJ X tb y ops fr l kn T st' p' K) with
   |some q=>q
   |none=>stepG ops T fr st (unO ops fr kn st.E o u) λT g=>opD X tb T fr st g (unO ops fr kn st.E o u) λst'=>match st'.h,o.dst with
    | .n j (.c ha hb),some d=>aA (Nat.beq j (ops.length-l.length-1)&&mf (some d) T) (match bw st'.E d with
      |some (none,.bool b)=>cond b (kJ X tb y ops fr l (j::kn) T { st' with E:=(d,none,.bool true)::st'.E,h:=ha } p K) (kJ X tb y ops fr l (j::kn) T { st' with E:=(d,none,.bool false)::st'.E,h:=hb } p K)
      |_=>none) (kJ X tb y ops fr l kn T st' p K)
    |_,_=>kJ X tb y ops fr l kn T st' p K
section
variable {R : Type} {r : R} {X : Cx} {tb : List aq} {y : YC R} {σ : xb} {Q : bu} {D : v7} {ops : x5} {fr : Fr} {Φ : Nat -> Ctx} {ly : Nat} {H0 H1 : List Row} {ρ0 : ay}
theorem aqj{P:Program}{n:Nat}{E:Env}{w:World}{ops:xJ}{rest:x5}{o:Oper}{j:Nat}{b:Bool}{rj:Tmp}{i:Bool}(d:o.guard=some (j,b))(m:(ops[j]?).bind (·.dst)=some rj)(l:look E rj=some (true,.bool i))(k:Nat.blt rj n=true)(hb:wj b i=true)
  (h:WL P σ ops Q n D ({ o with guard:=none }::rest) E w):WL P σ ops Q n D (o::rest) E w:=λa g p=>by
 have c:=h a g p;have f:=DU (ops:=ops) d m l g k;rw [<-MV,hb] at f;unfold wpListIn at c ⊢;rw [f];have e:Region.wanted { o with guard:=none } (yielded ops a.tmps)=true:=by simp [Region.wanted]
 rw [e] at c;simp only [qu,qn] at c ⊢;exact c
theorem apk{P:Program}{n:Nat}{E:Env}{w:World}{ops:xJ}{rest:x5}{o:Oper}{j:Nat}{b:Bool}{rj:Tmp}{e:Bool}(c:o.guard=some (j,b))(k:(ops[j]?).bind (·.dst)=some rj)(i:look E rj=some (true,.bool e))(f:Nat.blt rj n=true)(hb:wj b e=false)(hd:L6 n o.dst=true)
  (h:WL P σ ops Q n D rest (pb o.dst false undef E) w):WL P σ ops Q n D (o::rest) E w:=λa d m=>
 wpListIn_step λK l=>by rw [DU c k i d f,<-MV,hb];simp only [qu,oi,qF];have:=d.pb (g:=false) (v:=undef) hd;exact ⟨λ_ _=>trivial,l _ _ (h _ this (by rw [il];exact m))⟩
def IsY(y:YC R)(ρ0:ay)(ρ:ay)(c:Nat):Prop:=y.id<c/\aT (y.id+1) ρ0 ρ
theorem IsY.less{ρ0 ρ':ay}{c a:Nat}(h:IsY y ρ0 ρ c)(ha:aT c ρ ρ')(hc:c<=a):IsY y ρ0 ρ' a:=⟨dk h.1 hc,h.2.trans ha h.1⟩
theorem aqC{T:aB}{st:aC}{o:Oper}{p:Nat}{K:Nat->cB R}{l:x5}{ρ:ay}{w:World}{q:Option R}(j:(ρ0 y.id).x= .func (.yield ly) #[] #[])(Z:YOk X y r ly ρ0 H0 Φ)(u:fr.H=H1++H0)(t:IsY y ρ0 ρ st.c)(h1:eK T st.E fr.F)(I:FT T fr)
  (W:Sat (ab ρ T st.G++(ab ρ T fr.H++Φ p)) w) (h:ahr y T fr st o p K=some q) (Y:q=some r)
  (e:∀p' st' ρ' w',eK T st'.E fr.F->aT st.c ρ ρ'->st.c<=st'.c->K p' st'=some r->Sat (ab ρ' T st'.G++(ab ρ' T fr.H++Φ p')) w'->WL X.P σ ops.toArray Q fr.n D l (au ρ' T st'.E fr.F) w'):
  WL X.P σ ops.toArray Q fr.n D (o::l) (au ρ T st.E fr.F) w:=by
 obtain ⟨dst,op,ty,pos,af,gd⟩:=o;unfold ahr at h;split at h
 .rename_i c d C B hd;simp only at C B hd;subst C B hd;split at h
  .rename_i fo hc;split at h
   .rename_i i s;injection h with h
    rw [Y] at h;obtain ⟨L,z⟩:=aI h;clear h;simp only [ae] at L;obtain ⟨⟨⟨⟨⟨c1,c2⟩,c3⟩,c4⟩,J⟩,c6⟩:=L;have e1:=ah c1;have e2:=ah c2;subst e1 e2;split at z
    .rename_i vs g;obtain ⟨b2,h⟩:=aI z;obtain ⟨cc,xs,tys⟩:=c;simp only at hc g;subst hc;have a:=bE (ρ:=ρ) s;simp only [AV.val] at a;rw [t.2 _ (qh _),j] at a;have f:=fN (ρ:=ρ) g;rw [aB.get_none] at f;obtain ⟨_,_,V,U⟩:=aC.cC.1 J;have hG:=ajp c6;have m:Sat (ab ρ [] st.G++(ab ρ [] (H1++H0)++Φ 0)) w:=by rw [<-u,<-acm I,UO (T':=T) hG];exact W
     have k:=Z vs st ρ w H1 _ t.1 t.2 b2 V (by rw [<-u];exact U) m h;refine ald (xs:=xs.toList) (vs:=AV.ao ρ vs) a f c3 k (λv w' hv=>?_);obtain ⟨b,p',st',ρ',rfl,N,a2,a3,M⟩:=hv;rw [<-u] at M;have hE:au ρ' T st.E fr.F=au ρ T st.E fr.F:=mA J N;have:=e p' { st' with E:=cu (some d) none (.bool b) st.E,G:=kx st'.G,h:=st.h } ρ' w' (h1.out (d:=some d) c4 none (.bool b)) N a2 a3 (by
      have S:=Ay (A:=[]) M;have e3:ab ρ' T (kx st'.G)=ab ρ' [] (kx st'.G):=UO wK;have O:Sat (ab ρ' T (kx st'.G)++(ab ρ' T fr.H++Φ p')) w':=by rw [e3,acm I];exact S
      exact O)
     rw [sT,hE] at this;simpa [pb,AV.val] using this
    .cases z
   .cases h
  .cases h
 .cases h
theorem aob{n:Nat}{E:Env}{ops:xJ}{rest:x5}{c x y:Operand}{v:Bool}{dst:xc}{ty:TypeId}{pos:String}{af:x3}(hc:ar E true c (.bool v))
  (h:WL P σ ops Q n D (⟨dst,.move (cond v x y),ty,pos,af,none⟩::rest) E w):WL P σ ops Q n D (⟨dst,.pick c x y,ty,pos,af,none⟩::rest) E w:=λa d i=>
 wpListIn_plain rfl λK g=>j7 rfl (by
  have b:=h a d i;unfold wpListIn at b;have k:Region.wanted ⟨dst,.move (cond v x y),ty,pos,af,none⟩ (yielded ops a.tmps)=true:=rfl;rw [lk k] at b;have j:=Oper.wpIn_mono g b;obtain ⟨_,f⟩:=j;rw [show (FW σ).round=σ from rfl,Iq rfl] at f;have e:(execOp a.eval ⟨dst,.pick c x y,ty,pos,af,none⟩).run P w=(execOp a.eval ⟨dst,.move (cond v x y),ty,pos,af,none⟩).run P w:=by cases v <;> simp [execOp,hc n a d rfl,asBool]
  rw [e];exact f)
theorem amR{a:x8}{E:aF}:(W7 ops fr a E o).dst=o.dst:=by
 unfold W7;split
 .cases knT ops _ a
  .rfl
  .split
   .split <;> rfl
   .rfl
 .rfl
theorem aqt{a:x8}{E:aF}{o:Oper}{ρ:ay}{T:aB}{w:World}{l:x5}(h:WL X.P σ ops.toArray Q fr.n D (W7 ops fr a E o::l) (au ρ T E fr.F) w):WL X.P σ ops.toArray Q fr.n D (o::l) (au ρ T E fr.F) w:=by
 obtain ⟨dst,op,ty,pos,af,gd⟩:=o;unfold W7 at h;split at h
 .rename_i t x y d b;simp only at d b;subst d b;cases c:knT ops t a
  .rw [c] at h;exact h
  .rw [c] at h;split at h
   next v e=>refine aob (v:=v) ?_ (by cases v <;> exact h);exact ar.t (by rw [fM,e];simp [AV.val])
   .exact h
 .exact h
theorem acT{k:Nat×Bool}:{T:aB}->RG k T=false->T.get (some k)=false
 |[],_=>rfl
 |(k',par,rj,b)::T,h=>by
  simp only [RG,qD] at h;have a:GK.eq (some k') (some k)=false:=by
   cases hb:GK.eq (some k') (some k)
   .rfl
   .have e:=GK.eq_eq hb;cases e;rw [GK.afW] at h;cases h.1
  unfold aB.get;rw [a];exact acT h.2
theorem afV(O:∀p,∀it∈X.Γ,it∈Φ p)(U:∀e∈tb,e.Ok X.P X.Γ)(S:(ρ0 y.id).x= .func (.yield ly) #[] #[])(hY:YOk X y r ly ρ0 H0 Φ)(hH:fr.H=H1++H0){K:Nat->cB R}:∀{l:x5} {f:x8} {T:aB} {st:aC} {p:Nat} {ρ:ay} {w:World},IsY y ρ0 ρ st.c->eK T st.E fr.F->na ops fr.n T->FT T fr->Sat (ab ρ T st.G++(ab ρ T fr.H++Φ p)) w->
  kJ X tb y ops fr l f T st p K=some r->
  (∀p' st' ρ' w',aT st.c ρ ρ'->st.c<=st'.c->K p' st'=some r->Sat (ab ρ' [] st'.G++(ab ρ' [] fr.H++Φ p')) w'->At Q .normal fr.n D (au ρ' [] st'.E fr.F) w')->
  WL X.P σ ops.toArray Q fr.n D l (au ρ T st.E fr.F) w
 |[],f,T,st,p,ρ,w,hI,h1,h2,hf,hs,h,next=>by
  unfold kJ at h;obtain ⟨h3,h4⟩:=aI h;obtain ⟨k1,k2,k3⟩:=IL h3 hf hs;exact bT λa B hd=>next p _ ρ w .refl (by rw [k1];exact bb _) h4 k3 a (B.lK k2) hd
 |o::l,f,T,st,p,ρ,w,hI,h1,h2,hf,hs,h,next=>by
  have N:∀{f:x8} {T':aB} {st':aC} {p':Nat} {ρ':ay} {w':World},aT st.c ρ ρ'->st.c<=st'.c->eK T' st'.E fr.F->na ops fr.n T'->FT T' fr->Sat (ab ρ' T' st'.G++(ab ρ' T' fr.H++Φ p')) w'->kJ X tb y ops fr l f T' st' p' K=some r->
    WL X.P σ ops.toArray Q fr.n D l (au ρ' T' st'.E fr.F) w':=λ{f T' st' p' ρ' w'} A u J I C W a7=>
   afV O U S hY hH (hI.less A u) J I C W a7 (λp2 st2 ρ2 w2 s m b3 b4=>next p2 st2 ρ2 w2 (A.trans s u) (cg u m) b3 b4)
  -- the operation itself, guarded or not
  have z:∀L:Oper,L.dst=o.dst->(match ahr y T fr st L p (λp' st'=>kJ X tb y ops fr l f T st' p' K) with
   |some q=>q
   |none=>stepG ops T fr st L λT g=>opD X tb T fr st g L λst'=>match st'.h,o.dst with
    | .n j (.c ha hb),some d=>aA (Nat.beq j (ops.length-l.length-1)&&mf (some d) T) (match bw st'.E d with
      |some (none,.bool b)=>cond b (kJ X tb y ops fr l (j::f) T { st' with E:=(d,none,.bool true)::st'.E,h:=ha } p K) (kJ X tb y ops fr l (j::f) T { st' with E:=(d,none,.bool false)::st'.E,h:=hb } p K)
      |_=>none) (kJ X tb y ops fr l f T st' p K)
    |_,_=>kJ X tb y ops fr l f T st' p K)=some r->WL X.P σ ops.toArray Q fr.n D (L::l) (au ρ T st.E fr.F) w:=λL ho' h=>by
   split at h
   next q V=>exact aqC S hY hH hI h1 hf hs V h (λp' st' ρ' w' A u J I C=>N u J A h2 hf C I)
   .refine adB (K:=λT st'=>match st'.h,o.dst with
     | .n j (.c ha hb),some d=>aA (Nat.beq j (ops.length-l.length-1)&&mf (some d) T) (match bw st'.E d with
       |some (none,.bool b)=>cond b (kJ X tb y ops fr l (j::f) T { st' with E:=(d,none,.bool true)::st'.E,h:=ha } p K) (kJ X tb y ops fr l (j::f) T { st' with E:=(d,none,.bool false)::st'.E,h:=hb } p K)
       |_=>none) (kJ X tb y ops fr l f T st' p K)
     |_,_=>kJ X tb y ops fr l f T st' p K) h1 h2 rfl (λ_ h=>h) hf hs (O p) U h (λT' st' ρ' w' A u J I C W a7 a8=>?_)
    split at W
    .rename_i j ha hb d hh hd;rcases dq W with ⟨s,m⟩|⟨_,m⟩
     .simp only [ae] at s;split at m
      .rename_i b hl;have one:∀(v:Bool) (h':HT),b=v->kJ X tb y ops fr l (j::f) T' { st' with E:=(d,none,.bool v)::st'.E,h:=h' } p K=some r->WL X.P σ ops.toArray Q fr.n D l (au ρ' T' st'.E fr.F) w':=λv h' hb hv=>by
        have:=N (st':={ st' with E:=(d,none,.bool v)::st'.E,h:=h' }) I C (A.out (d:=some d) s.2 none (.bool v)) u J a8 hv;refine λa B hd'=>this a (B.lK ?_) hd';intro t pp hp;rw [fM] at hp ⊢;unfold dC at hp ⊢;cases V:Nat.beq d t
        .rw [ey V] at hp;exact hp
        .have:=ah V;subst this;rw [gB V] at hp;rw [hl,hb];exact hp
       rcases sn m with ⟨c1,c2⟩|⟨c1,c2⟩
       .exact one true ha c1 c2
       .exact one false hb c1 c2
      .cases m
     .exact N I C A u J a8 m
    .exact N I C A u J a8 W
  unfold kJ at h
  -- what is known of its guard
  have kk:∀{v:Bool},(unK ops fr f st.E o= .run/\v=true\/unK ops fr f st.E o= .skip/\v=false)->∃j i rj Z,o.guard=some (j,i)/\(ops[j]?).bind (·.dst)=some rj/\look (au ρ T st.E fr.F) rj=some (true,.bool Z)/\Nat.blt rj fr.n=true/\wj i Z=v:=λ{v} hv=>by
   unfold unK at hv;split at hv
   .rcases hv with ⟨h,_⟩|⟨h,_⟩ <;> cases h
   .rename_i k hg;obtain ⟨j,i⟩:=k;cases hm:se j f
    .simp only [hm] at hv;rcases hv with ⟨h,_⟩|⟨h,_⟩ <;> cases h
    .simp only [hm] at hv;split at hv
     .rename_i rj hr;cases hb:Nat.blt rj fr.n
      .simp only [hb] at hv;rcases hv with ⟨h,_⟩|⟨h,_⟩ <;> cases h
      .simp only [hb] at hv;split at hv
       .rename_i b hl;refine ⟨j,i,rj,b,hg,hr,by rw [fM,hl];simp [AV.val],hb,?_⟩;cases hp:wj i b
        .simp only [hp] at hv;rcases hv with ⟨h,_⟩|⟨_,h⟩
         .cases h
         .exact h.symm
        .simp only [hp] at hv;rcases hv with ⟨_,h⟩|⟨h,_⟩
         .exact h.symm
         .cases h
       .rcases hv with ⟨h,_⟩|⟨h,_⟩ <;> cases h
     .rcases hv with ⟨h,_⟩|⟨h,_⟩ <;> cases h
  cases M:unK ops fr f st.E o with
  |no=>rw [M] at h;cases h
  |cK=>rw [M] at h;exact aqt (by exact z (W7 ops fr f st.E o) amR h)
  |run=>
   rw [M] at h;obtain ⟨j,i,rj,Z,Y,g2,g3,g4,g5⟩:=kk (v:=true) (.inl ⟨M,rfl⟩);exact aqj Y (by simpa using g2) g3 g4 g5 (z { o with guard:=none } rfl h)
  |skip=>
   rw [M] at h;obtain ⟨j,i,rj,Z,Y,g2,g3,g4,g5⟩:=kk (v:=false) (.inr ⟨M,rfl⟩);dsimp only at h;rw [Y] at h;obtain ⟨s,m⟩:=aI h;simp only [ae] at s;refine apk Y (by simpa using g2) g3 g4 g5 s.1.1 ?_;have:=N (st':={ st with E:=cu o.dst (some (j,i)) (.raw undef) st.E }) .refl (bb _) (h1.out s.1.2 _ _) h2 hf hs m;rw [sT] at this;have hg:T.get (some (j,i))=false:=acT (by simpa using s.2);rw [hg] at this;exact this
end
def jD{R:Type}(X:Cx)(tb:List aq)(y:YC R):Code->Fr->(Nat->XE->aC->Option R)->Nat->aC->Option R
 | .skip,_,K,p,st=>K p .nrm st
 | .exit i,_,K,p,st=>K p (.ext i) st
 | .ret,_,K,p,st=>K p .ret st
 | .block i c,fr,K,p,st=>jD X tb y c fr (λp=>brk i (K p)) p st
 | .cond c a b,fr,K,p,st=>match br [] st.E fr.F none c with
  |some (.bool v)=>cnd v (λh=>jD X tb y a fr K p { st with h:=h }) (λh=>jD X tb y b fr K p { st with h:=h }) st.h
  |_=>none
 | .seq a b,fr,K,p,st=>jD X tb y a fr (λp=>uJ (jD X tb y b fr K p) (K p)) p (match st.h with
  | .s h=>{ st with h:=h }
  |_=>st)
 | .loop c,fr,K,p,st=>match st.h with
  | .l tm q=>aA (st.low fr) (
   match jM (enter fr tm (cI c) st) tm (enter fr tm (cI c) st).Et (enter fr tm (cI c) st).Gt with
   |some s=>aw (λagain s=>jD X tb y c (enter fr tm (cI c) st).fr (λp'=>uJ (λst'=>match jM (enter fr tm (cI c) st) tm st'.E st'.G with
      |some s=>aA (Nat.beq p' p) (again s) none
      |none=>none) (λe st'=>K p' e (vN e (enter fr tm (cI c) st) st'))) p (bP (enter fr tm (cI c) st) tm s q)) X.fl s
   |none=>none ) none
  |_=>none
 | .region _ ops false,fr,K,p,st=>kJ X tb y ops.toList fr ops.toList [] [] st p (λp=>K p .nrm)
 | .region _ ops true,fr,K,p,st=>match st.h with
  | .r th h=>IM X tb [] (λ_ _=>none) ops fr th { st with h:=h } (K p .nrm)
  |_=>IM X tb [] (λ_ _=>none) ops fr [] st (K p .nrm)
 |_,_,_,_,_=>none
section
variable {R : Type} {r : R} {X : Cx} {tb : List aq} {y : YC R} {D : v7} {Φ : Nat -> Ctx} {ly : Nat} {H0 : List Row} {ρ0 : ay}
def aal(Q:bu)(D:v7)(fr:Fr)(Φ:Nat->Ctx)(c0:Nat)(ρ0:ay)(r:R)(K:Nat->XE->aC->Option R):Prop:= ∀p,iG Q D fr (Φ p) c0 ρ0 r (K p)
theorem aal.less{Q:bu}{fr:Fr}{b c1:Nat}{ρ0 a:ay}{K:Nat->XE->aC->Option R}(h:aal Q D fr Φ b ρ0 r K)(ha:aT b ρ0 a)(hc:b<=c1):aal Q D fr Φ c1 a r K:=λp=>(h p).less ha hc
theorem wq(j:∀p,∀it∈X.Γ,it∈Φ p)(o:∀e∈tb,e.Ok X.P X.Γ)(t:(ρ0 y.id).x= .func (.yield ly) #[] #[])(N:YOk X y r ly ρ0 H0 Φ):∀(c:Code) {Q:bu} {fr:Fr} {H1:List Row} {K:Nat->XE->aC->Option R} {p:Nat} {st:aC} {ρ:ay} {w:World},fr.H=H1++H0->IsY y ρ0 ρ st.c->Sat (ab ρ [] st.G++(ab ρ [] fr.H++Φ p)) w->
  jD X tb y c fr K p st=some r->aal Q D fr Φ st.c ρ r K->WC X.P none c Q fr.n D (au ρ [] st.E fr.F) w
 | .skip,Q,fr,H1,K,p,st,ρ,w,hH,hI,hs,h,hK=>po (hK p .nrm st ρ w .refl (bb _) (by unfold jD at h;exact h) hs)
 | .exit i,Q,fr,H1,K,p,st,ρ,w,hH,hI,hs,h,hK=>WT (hK p (.ext i) st ρ w .refl (bb _) (by unfold jD at h;exact h) hs)
 | .ret,Q,fr,H1,K,p,st,ρ,w,hH,hI,hs,h,hK=>uN (hK p .ret st ρ w .refl (bb _) (by unfold jD at h;exact h) hs)
 | .block i c,Q,fr,H1,K,p,st,ρ,w,hH,hI,hs,h,hK=>Rh (wq j o t N c hH hI hs (by unfold jD at h;exact h) (λp=>QJ (hK p)))
 | .cond c a b,Q,fr,H1,K,p,st,ρ,w,hH,hI,hs,h,hK=>by
  unfold jD at h;split at h
  next v hb=>have hc:=bE (ρ:=ρ) hb;simp only [AV.val] at hc;obtain ⟨h1,S,q1,q2⟩:=RO h;exact iJ hc (λhv=>wq j o t N a (st:={ st with h:=h1 }) hH hI hs (q1 hv) hK) (λhv=>wq j o t N b (st:={ st with h:=S }) hH hI hs (q2 hv) hK)
  .cases h
 | .seq a b,Q,fr,H1,K,p,st,ρ,w,hH,hI,hs,h,hK=>by
  unfold jD at h;have z:∀C,jD X tb y a fr (λp=>uJ (jD X tb y b fr K p) (K p)) p { st with h:=C }=some r->WC X.P none (.seq a b) Q fr.n D (au ρ [] st.E fr.F) w:=λC hd=>by
   refine bn (wq j o t N a (st:={ st with h:=C }) hH hI hs hd (λp' e st' ρ' w' B J u I=>?_));by_cases M:e= .nrm
   .subst M;exact bd (wq j o t N b hH (hI.less B J) I u (hK.less B J))
   .rw [lR M] at u;exact gq M (hK p' e st' ρ' w' B J u I)
  split at h
  next C hh=>exact z C h
  .exact z st.h h
 | .loop c,Q,fr,H1,K,p,st,ρ,w,hH,hI,hs,h,hK=>by
  unfold jD at h;split at h
  .rename_i tm q hh;obtain ⟨hl,S⟩:=aI h;obtain ⟨T,en⟩:=vW (tm:=tm) (m:=cI c) hl hs;generalize enter fr tm (cI c) st=f at S en;split at S
   .rename_i s0 hb0;obtain ⟨Z,E',W,k,DD,b1,b2,b3,b4⟩:=nk en.lF en.lH en.fx en.sat hb0;have V:∀s E' W k DD,eZ (λn=>f.c+n) f.fix tm.vs 0 (fL _ s)=⟨E',W,k,DD⟩->bP f tm s q=⟨f.c+k,E',rowsOf W,q⟩:=λs E' W k DD hb=>by unfold bP;rw [hb]
    refine Ro (γ:=ay) (λs g w'=>aT f.c T g/\Sat (ab g [] (bP f tm s q).G++(ab g [] f.fr.H++Φ p)) w') (λs g=>au g [] (bP f tm s q).E f.fr.F) S Z ⟨b2,?_⟩ ?_ (λA s g w' hag U=>?_)
    .rw [V _ _ _ _ _ b1];exact b4
    .rw [V _ _ _ _ _ b1];exact b3.trans en.sub
    .have hc:f.c<=(bP f tm s q).c:=by unfold bP;generalize eZ (λn=>f.c+n) f.fix tm.vs 0 (fL _ s)=L;obtain ⟨a,b,c,d⟩:=L;exact qz _ _
     have hx:=wq j o t N c (fr:=f.fr) (H1:=f.G++H1) (st:=bP f tm s q) (ρ:=g) (Q:=Exit.then (MX A r (λs g w'=>aT f.c T g/\Sat (ab g [] (bP f tm s q).G++(ab g [] f.fr.H++Φ p)) w') (λs g=>au g [] (bP f tm s q).E f.fr.F) fr.n D) Q)
      (by rw [en.fh,hH,aO]) ((hI.less en.ag en.le).less U.1 hc) U.2 hag (λp' e st' ρ' w2 B J u I=>?_)
     .rw [en.fn] at hx;exact hx
     .by_cases M:e= .nrm
      .subst M;have O:(match jM f tm st'.E st'.G with|some s=>aA (Nat.beq p' p) (A s) none|none=>none)=some r:=u;split at O
       .rename_i s' hb;obtain ⟨hp,a5⟩:=aI O;have:=ah hp;subst this;obtain ⟨Y,E2,R2,k2,DD2,d1,d2,d3,d4⟩:=nk en.lF en.lH en.fx I hb;rw [en.fn];refine MA s' Y a5 ⟨(U.1.trans (B.less hc) (bb _)).trans d2 (bb _),?_⟩ ?_
        .rw [V _ _ _ _ _ d1];exact d4
        .rw [V _ _ _ _ _ d1];exact d3
       .cases O
      .rw [lR M] at u;have:=sR (hK p') en.ag en.le en.ff en.fh en.fn e st' ρ' w2 (U.1.trans (B.less hc) (bb _)) (cg hc J) u I;exact gq M this
   .cases S
  .cases h
 | .region id ops false,Q,fr,H1,K,p,st,ρ,w,hH,hI,hs,h,hK=>by
  unfold jD at h;obtain ⟨l⟩:=ops;exact bh (afV (σ:=none) j o t N hH hI (λx h=>by cases h) (λx h=>by cases h) ⟨λx _=>rfl,λx _=>rfl⟩ hs h (λp' st' ρ' w' B J u I=>hK p' .nrm st' ρ' w' B J u I))
 | .region id ops true,Q,fr,H1,K,p,st,ρ,w,hH,hI,hs,h,hK=>by
  unfold jD at h;have key:∀th C,IM X tb [] (λ_ _=>none) ops fr th { st with h:=C } (K p .nrm)=some r->WC X.P none (.region id ops true) Q fr.n D (au ρ [] st.E fr.F) w:=λth C hd=>
   Qn (K:=λe st=>match e with
    | .nrm=>K p .nrm st
    |_=>none) (st:={ st with h:=C }) (j p) o (λ_ h=>by cases h) hs hd (λe st' ρ' w' B J u I=>by
     cases e with
     |nrm=>exact hK p .nrm st' ρ' w' B J u I
     |_=>cases u)
  split at h
  .exact key _ _ h
  .exact key [] st.h h
 | .label _,Q,fr,H1,K,p,st,ρ,w,hH,hI,hs,h,hK=>by unfold jD at h;cases h
 | .goto _,Q,fr,H1,K,p,st,ρ,w,hH,hI,hs,h,hK=>by unfold jD at h;cases h
 | .scope _,Q,fr,H1,K,p,st,ρ,w,hH,hI,hs,h,hK=>by unfold jD at h;cases h
 | .rangeFunc _ _ _ _,Q,fr,H1,K,p,st,ρ,w,hH,hI,hs,h,hK=>by unfold jD at h;cases h
end
variable {γ : Type} {Ds : γ -> v7}
theorem Sat.swap{w:World}{C D:Ctx}:∀{B A:Ctx},Sat (A++(B++(C++D))) w->Sat (A++(C++(B++D))) w
 |[],A,h=>h
 |x::B,A,h=>by
  have b:Sat ((A++[x])++(B++(C++D))) w:=by simpa using h
  have a:Sat (A++x::(C++(B++D))) w:=by simpa using b.swap
  simpa using Sat.move a
theorem Sat.front{w:World}{A B:Ctx}{x:Item}(h:Sat (A++x::B) w):Sat (x::(A++B)) w:=by have:=Sat.swap (A:=[]) (B:=A) (C:=[x]) (D:=B) (by simpa using h);simpa using this
theorem Sat.behind{w:World}{A B:Ctx}{x:Item}(h:Sat (x::(A++B)) w):Sat (A++x::B) w:=Sat.move (A:=[]) h
theorem Lj{α:Type}{A B:List α}{x:α}:(A++x::B)[A.length]? =some x:=by simp
theorem set_mid{α:Type}{A B:List α}{x y:α}:(A++x::B).set A.length y=A++y::B:=by
 induction A with
 |nil=>rfl
 |cons a A ih=>simp [ih]
def AR:Nat->Option Code
 |0=>none
 |1=>some .ret
 |n+2=>aA (Nat.beq (n%2) 0) (some (.exit (n/2))) (some (.goto (n/2)))
def La:Nat->XE
 |0=> .nrm
 |1=> .ret
 |n+2=>aA (Nat.beq (n%2) 0) (.ext (n/2)) (.gto (n/2))
theorem ai2{fr:Fr}:(p:Nat)->hx (La p) fr=fr.H
 |0=>rfl
 |1=>rfl
 |n+2=>by show hx (aA (Nat.beq (n%2) 0) (.ext (n/2)) (.gto (n/2))) fr=fr.H;cases Nat.beq (n%2) 0 <;> rfl
def K7:Nat->LoopState
 |0=> .ready
 |_+1=> .done
theorem akU(i:Nat):AR (2*i+2)=some (.exit i):=by have b:2*i%2=0:=Nat.mul_mod_right 2 i;have a:2*i/2=i:=Nat.mul_div_cancel_left i (by decide);show aA (Nat.beq (2*i%2) 0) (some (Code.exit (2*i/2))) _=_;rw [b,a]
theorem akO(i:Nat):AR (2*i+3)=some (.goto i):=by
 have b:(2*i+1)%2=1:=by omega
 have a:(2*i+1)/2=i:=by omega
 show aA (Nat.beq ((2*i+1)%2) 0) _ (some (Code.goto ((2*i+1)/2)))=_;rw [b,a]
def alz:List Tmp->List AV->aF->Option aF
 |[],[],E=>some E
 |p::ps,v::vs,E=>alz ps vs ((p,none,v)::E)
 |_,_,_=>none
theorem afS{ρ:ay}{F:Env}:{ps:List Tmp}->{vs:List AV}->{E E':aF}->alz ps vs E=some E'->aF.env ρ [] E'++F=abb ps (AV.ao ρ vs) (aF.env ρ [] E++F)/\Nat.beq (AV.ao ρ vs).length ps.length=true
 |[],[],E,E',h=>by cases h;exact ⟨rfl,rfl⟩
 |p::ps,v::vs,E,E',h=>by
  obtain ⟨b,a⟩:=afS (ρ:=ρ) (F:=F) (ps:=ps) (vs:=vs) (E:=(p,none,v)::E) h;refine ⟨?_,?_⟩
  .rw [b];simp [aF.env,AV.ao,abb]
  .simpa [AV.ao] using a
 |[],_::_,_,_,h=>by cases h
 |_::_,[],_,_,h=>by cases h
def acZ{R:Type}(X:Cx)(tb:List aq)(tp:List bI)(ps:List Tmp)(assign body:Code)(fr:Fr)(E:aF)(hb:HT)(vs:List AV)(st:aC)(KY:Bool->Nat->aC->Option R):Option R:=match alz ps vs E with
 |some E'=>den X tb tp assign fr (λe st1=>match e with
  | .nrm=>den X tb tp body fr (λe st2=>match e with
   | .nrm=>KY true 0 st2
   | .ret=>KY false 1 st2
   | .ext i=>KY false (2*i+2) st2
   | .gto l=>KY false (2*l+3) st2
   |_=>none) { st1 with h:=hb }
  |_=>none) ⟨st.c,E',st.G,.o⟩
 |none=>none
section
variable {R : Type} {r : R} {X : Cx} {tb : List aq} {tp : List bI} {fr : Fr}
theorem al8{Φ1:Ctx}(T:∀it∈X.Γ,it∈Φ1)(K:∀e∈tb,e.Ok X.P X.Γ)(J:∀e∈tp,e.Ok X.P X.Γ){ps:List Tmp}{assign body:Code}{E:aF}{hb:HT}{O l b:Nat}{ρ0:ay}{d:LoopState->Option Code->Loop}
  (y:Rec fr.n (au ρ0 [] E fr.F) ps.toArray assign body b d) (hE:E.low O=true) (hF:aF.low O fr.F=true) (hp:ps.all (λp=>Nat.blt p fr.n)=true):
  YOk X ⟨O,acZ X tb tp ps assign body fr E hb⟩ r l ρ0 fr.H (λp=>dz l d (K7 p) (AR p)::Φ1):=by
 intro vs st ρ w H1 KY hid Y hvs hG Z W h;have M:acZ X tb tp ps assign body fr E hb vs st KY=some r:=h;unfold acZ at M;split at M
 .rename_i E' hz;have q:aT O ρ0 ρ:=Y.less (gy _);obtain ⟨z1,z2⟩:=afS (ρ:=ρ) (F:=aF.env ρ [] fr.F) hz;have eE:au ρ0 [] E fr.F=au ρ [] E fr.F:=by rw [au,au,oL q hE,oL q hF]
  rw [eE] at y;have S:bC st.c H1=true:=by
   clear h M W hz
   induction H1 with
   |nil=>rfl
   |cons x H1 ih=>
    simp only [de,bC,ae] at Z ⊢;exact ⟨Z.1,ih Z.2⟩
  -- the row, parted in another way
  have R:∀{G:List Row} {ρ':ay} {x:Item} {w':World},Sat (ab ρ' [] G++(ab ρ' [] (H1++fr.H)++x::Φ1)) w'->Sat (ab ρ' [] G++(ab ρ' [] fr.H++(ab ρ' [] H1++x::Φ1))) w':=λ{G ρ' x w'} a=>by rw [bk,aO] at a;exact a.swap
  have frR:∀{G:List Row} {ρ':ay} {x:Item} {w':World},Sat (ab ρ' [] G++(ab ρ' [] fr.H++(ab ρ' [] H1++x::Φ1))) w'->Sat (ab ρ' [] G++(ab ρ' [] (H1++fr.H)++x::Φ1)) w':=λ{G ρ' x w'} a=>by rw [bk,aO];exact a.swap
  -- the loop's row, exchanged
  have I:∀{G:List Row} {ρ':ay} {x:Item},∃A:Ctx,ab ρ' [] G++(ab ρ' [] fr.H++(ab ρ [] H1++x::Φ1))=A++x::Φ1/\∀z,A++z::Φ1=ab ρ' [] G++(ab ρ' [] fr.H++(ab ρ [] H1++z::Φ1)):=λ{G ρ' x}=>
   ⟨ab ρ' [] G++(ab ρ' [] fr.H++ab ρ [] H1),by simp,λz=>by simp⟩
  have U:=R W;have m:∀x:Item,∀it∈X.Γ,it∈ab ρ [] H1++x::Φ1:=λx it hi=>du _ (aW _ (T it hi));have V:Sat (dz l d .ready none::(ab ρ [] st.G++(ab ρ [] (H1++fr.H)++Φ1))) w:=by
   have:Sat ((ab ρ [] st.G++ab ρ [] (H1++fr.H))++dz l d .ready none::Φ1) w:=by rw [aO];exact W
   have:=this.front;rw [aO] at this;exact this
  refine ap0 y V z2 hp ?_;rw [<-z1];refine fa (σ:=some l) (D:=[]) (Φ:=ab ρ [] H1++dz l d .ready none::Φ1) (m _) K J assign (fr:=fr) (st:=⟨st.c,E',st.G,.o⟩) (ρ:=ρ) U M (λe st1 C w1 a1 a2 a3 a4=>?_);cases e with
  |nrm=>
   obtain ⟨A,e1,e2⟩:=I (G:=st1.G) (ρ':=C) (x:=dz l d .ready none);have a4':Sat (A++dz l d .ready none::Φ1) w1:=by rw [<-e1];exact a4
   refine ak9 (i:=A.length) y a4' Lj (λw2 L=>?_);rw [set_mid,e2] at L;refine fa (σ:=some l) (D:=[]) (Φ:=ab ρ [] H1++dz l d .busy none::Φ1) (m _) K J body (fr:=fr) (st:={ st1 with h:=hb }) (ρ:=C) L a3 (λe f t w3 b1 b2 s b4=>?_);obtain ⟨B,e3,e4⟩:=I (G:=f.G) (ρ':=t) (x:=dz l d .busy none);have k:Sat (B++dz l d .busy none::Φ1) w3:=by rw [<-e3];cases e <;> first|exact b4|cases s
   have N:aT st.c ρ t:=a1.trans b1 a2;have Dz:st.c<=f.c:=cg a2 b2;have g:∀{Q:Bool} {p':Nat} {u:World},KY Q p' f=some r->Sat ((B++dz l d .busy none::Φ1).set B.length (dz l d (K7 p') (AR p'))) u->
     ∃b p' st' ρ',Value.bool Q= .bool b/\aT st.c ρ ρ'/\st.c<=st'.c/\KY b p' st'=some r/\Sat (ab ρ' [] st'.G++(ab ρ' [] (H1++fr.H)++dz l d (K7 p') (AR p')::Φ1)) u:=λ{Q p' u} hk a=>by
    rw [set_mid,e4,<-bf N S] at a;exact ⟨Q,p',f,t,rfl,N,Dz,hk,frR a⟩
   cases e with
   |nrm=>exact amS (i:=B.length) y k Lj (λu a=>g (p':=0) s a)
   |ret=>exact abT (i:=B.length) y k Lj (λu a=>g (p':=1) s a)
   |ext i=>exact Zd (i:=B.length) y k Lj (λu a=>g (p':=2*i+2) s (by rw [akU];exact a))
   |gto j=>exact ZV (i:=B.length) y k Lj (λu a=>g (p':=2*j+3) s (by rw [akO];exact a))
   |gO v=>cases s
   |panE v=>cases s
   |panL v=>cases s
  |_=>cases a3
 .cases M
end
def MG:aF->aF
 |[]=>[]
 |(t,_,v)::E=>(t+10000,some (1000000000,false),v)::MG E
theorem afK{ρ:ay}:{E:aF}->{t:Nat}->{p:Bool×Value}->look (aF.env ρ [] (MG E)) t=some p->10000<=t/\p.1=false
 |[],_,_,h=>by cases h
 |(t',g,v)::E,t,p,h=>by
  simp only [MG,aF.env,look] at h;cases hb:Nat.beq (t'+10000) t
  .rw [hb,cy] at h;exact afK h
  .rw [hb,c9] at h;have:=ah hb;cases h;exact ⟨by omega,rfl⟩
theorem Fits.far{n:Nat}{E:Env}{a:Act}{ρ:ay}{F:aF}(h:Fits n E a)(e:n<=10000):Fits n (E++aF.env ρ [] (MG F)) a:=by
 refine ⟨h.size,λt g v b=>?_⟩;rw [EK] at b;split at b
 next p hp=>cases b;exact h.at_ t g v hp
 .obtain ⟨f,c⟩:=afK b;simp only at c;subst c;have d:=h.size;have:¬t<a.tmps.size:=by omega
  simp [Array.getD,this,vO]
def itE{R:Type}(Kend:Nat->aC->Option R)(p:Nat):XE->aC->Option R
 | .nrm,st=>Kend p st
 | .ret,st=>Kend p st
 |_,_=>none
def rfD{R:Type}(X:Cx)(tb:List aq)(tp:List bI)(tc:List jR)(ps:List Tmp)(assign body:Code)(gv:AV)(fr:Fr)(st:aC)(hi hb:HT)(Kend:Nat->aC->Option R):Option R:=match gv with
 | .fn f a b=>(match Sq tc f with
  |some cl=>(match cl.fn.body with
   |some ib=>aA (cl.fn.results.isEmpty&&Nat.ble (a.length+(b.length+1)) cl.fn.ntmps&&Nat.ble cl.fn.ntmps 10000&&st.low fr&&ps.all (λp=>Nat.blt p fr.n)&&AV.bX st.c a&&AV.bX st.c b) (
     jD X tb ⟨st.c,acZ X tb tp ps assign body fr st.E hb⟩ ib ⟨MG (st.E++fr.F),fr.H,cl.fn.ntmps⟩ (itE Kend) 0 ⟨st.c+1,iO 0 (a++ .nv st.c::b),st.G,hi⟩) none
   |none=>none)
  |none=>none)
 |_=>none
section
variable {P : Program} {n : Nat} {D0 : v7} {E : Env} {w : World} {Γ : Ctx} {Q : bu}
theorem Zk{g:Operand}{ps:Array Tmp}{assign body:Code}{f:FuncId}{first cap:w9}(ds:x8)
  (o:Enters P f) (B:ar E true g (.func (.func f) first.toArray cap.toArray)) (A:Sat (dJ ds::Γ) w)
  (h:∀(l b:Nat) (r:LoopState->Option Code->Loop) w1,Rec n E ps assign body b r->Sat (dz l r .ready none::dJ (b::ds)::Γ) w1->
   fq P f (first++[Value.func (.yield l) #[] #[]]++cap) w1 (j9 P none l n (mk (b::ds)++D0) Q E)):
  WC P none (.rangeFunc g ps assign body) Q n (mk ds++D0) E w:=λa m hd=>by
 refine wpIn_rangeFunc λfn C=>?_;obtain ⟨r,x⟩:∃r:LoopState->Option Code->Loop,r=λst z=>{ state:=st,pending:=z,fn,tmps:=a.tmps,params:=ps,assign,body,defers:=w.heap.size }:=⟨_,rfl⟩;obtain ⟨d,p⟩:∃d,(w.alloc (.deferred (some []))).alloc (.loop (r .ready none))=d:=⟨_,rfl⟩;have t:Sat (sL w.heap.size (.deferred (some []))::dJ ds::Γ) (w.alloc (.deferred (some []))):=A.push (dY _ _) (λb hb=>by
  have:b=w.heap.size:=by simpa [sL] using hb
  subst this;simp) (λ_ _=>World.alloc_heap_new w _)
 have s:Sat (dz (w.heap.size+1) r .ready none::dJ (w.heap.size::ds)::Γ) d:=by
  rw [<-p];have:=t.PH.push (new:=dz (w.alloc (.deferred (some []))).heap.size r .ready none) (dY _ _) (λb hb=>by
   have:b=(w.alloc (.deferred (some []))).heap.size:=by simpa [sL] using hb
   subst this;simp) (λ_ _=>World.alloc_heap_new (w.alloc (.deferred (some []))) (.loop (r .ready none)))
  rwa [World.size_alloc] at this
 have i:Rec n E ps assign body w.heap.size r:=⟨fn,a.tmps,⟨m.size,m.at_⟩,x⟩;have u:a.eval g=Value.func (.func f) first.toArray cap.toArray:=B n a m rfl;refine ⟨w.heap.size+1,[{ target:= .collected w.heap.size,args:= #[] }],d,{ target:= .fn (.func f) cap.toArray,args:=first.toArray++ #[Value.func (.yield (w.heap.size+1)) #[] #[]] },d,f,
  (first++[Value.func (.yield (w.heap.size+1)) #[] #[]]++cap).toArray,d,?_,?_,λ_ _=>trivial,?_,Ig,?_⟩
 .rw [<-p,x];exact run_enterLoop_outer _ _ _ _ _
 .simp only [resolve,u,Deferred.ofValue];simp [Act.eval]
 .have:=o (first++[Value.func (.yield (w.heap.size+1)) #[] #[]]++cap).toArray d;simp only [invoke];simpa using this
 .refine Sa (Calls.mono (h (w.heap.size+1) w.heap.size r d i s) λe w' o=>?_);cases e with
  |returned v=>
   obtain ⟨j,q,D,y⟩:=o;refine ⟨j,q,D,?_⟩;have k:Fits n E { a with defers:=[{ target:= .collected w.heap.size,args:= #[] }]++a.defers }:=⟨m.size,m.at_⟩;cases j with
   |none=>exact y _ k (by simp [hd,mk])
   |some c=>exact y _ k (by simp [hd,mk])
  |panicked c=>exact o.elim
  |outgrown=>exact o.elim
end
section
variable {R : Type} {r : R} {X : Cx} {tb : List aq} {tp : List bI} {tc : List jR} {fr : Fr} {Φ : Ctx} {D : v7} {Q : bu}
theorem ai7(J:∀it∈X.Γ,it∈Φ)(M:∀e∈tb,e.Ok X.P X.Γ)(htp:∀e∈tp,e.Ok X.P X.Γ)(htc:∀c∈tc,c.Ok X.P){g:Operand}{ps:Array Tmp}{assign body:Code}{gv:AV}{st:aC}{hi hb:HT}{m:Nat->aC->Option R}{ρ:ay}{w:World}{ds:x8}
  (hg:br [] st.E fr.F none g=some gv) (hs:Sat (ab ρ [] st.G++(ab ρ [] fr.H++dJ ds::Φ)) w) (h:rfD X tb tp tc ps.toList assign body gv fr st hi hb m=some r)
  (T:∀p st1 d w1 ds',aT st.c ρ d->st.c<=st1.c->m p st1=some r->Sat (ab d [] st1.G++(ab d [] fr.H++dJ ds'::Φ)) w1->KS Q (La p) d fr.n (mk ds'++D) (au d [] st.E fr.F) w1):
  WC X.P none (.rangeFunc g ps assign body) Q fr.n (mk ds++D) (au ρ [] st.E fr.F) w:=by
 unfold rfD at h;split at h
 .rename_i f a b;split at h
  .rename_i B hcl;obtain ⟨c1,c2⟩:=QP htc hcl;subst c2;split at h
   .rename_i ib hib;obtain ⟨k1,h1⟩:=aI h;simp only [ae] at k1;obtain ⟨⟨⟨⟨⟨⟨d1,d2⟩,d3⟩,d4⟩,d5⟩,d6⟩,d7⟩:=k1;have k:B.fn.results= #[]:=by simpa using d1
    have hn1:B.fn.ntmps<=10000:=cj d3;obtain ⟨l1,l2,l3,l4⟩:=aC.cC.1 d4;have O:=bE (ρ:=ρ) hg;simp only [AV.val] at O;have U:AV.bX st.c a=true/\AV.bX st.c b=true:=⟨d6,d7⟩
    -- the marks in front
    have hs0:Sat (dJ ds::(ab ρ [] st.G++(ab ρ [] fr.H++Φ))) w:=by
     have:Sat ((ab ρ [] st.G++ab ρ [] fr.H)++dJ ds::Φ) w:=by rw [aO];exact hs
     have:=this.front;rwa [aO] at this
    refine Zk ds c1.1 O hs0 (λl j z w1 N hs1=>?_);have hr':Rec fr.n (au ρ [] st.E fr.F) ps.toList.toArray assign body j z:=by simpa using N
    -- yield's name
    generalize C:ρ.set st.c { cM with x:= .func (.yield l) #[] #[] }=d;have o:aT st.c ρ d:=by rw [<-C];exact ay.aZ
    have L:(d st.c).x= .func (.yield l) #[] #[]:=by rw [<-C,ay.bB]
    have A:AV.ao d (a++ .nv st.c::b)=AV.ao ρ a++[Value.func (.yield l) #[] #[]]++AV.ao ρ b:=by rw [cZ];simp only [AV.ao,AV.val,L];rw [AV.bU o _ U.1,AV.bU o _ U.2];simp
    rw [<-A]
    -- the rows
    have hs2:Sat (ab d [] st.G++(ab d [] fr.H++(dz l z (K7 0) (AR 0)::dJ (j::ds)::Φ))) w1:=by
     rw [bf o l3,bf o l4];have e1:Sat ([]++([dz l z .ready none,dJ (j::ds)]++((ab ρ [] st.G++ab ρ [] fr.H)++Φ))) w1:=by simpa using hs1
     have:=e1.swap;simp only [mo,aO,de] at this;exact this
    have I:∀p,∀it∈X.Γ,it∈(dz l z (K7 p) (AR p)::dJ (j::ds)::Φ):=λp it hi=>aW _ (aW _ (J it hi));have hrr:Rec fr.n (au d [] st.E fr.F) ps.toList.toArray assign body j z:=by rw [mA d4 o];exact hr'
    have hY:=al8 (r:=r) (tp:=tp) (hb:=hb) (Φ1:=dJ (j::ds)::Φ) (λit hi=>aW _ (J it hi)) M htp (l:=l) hrr l1 l2 d5;refine Calls.mono (iv (S:=j9 X.P none l fr.n (mk (j::ds)++D) Q (au ρ [] st.E fr.F)) (Sp:=λ_ _=>False) c1.2 hib rfl (by rw [AV.bm];simpa [Nat.add_comm,Nat.add_left_comm,qs] using d2) ?_) (λe w' he=>he);have hE:au d [] (iO 0 (a++ .nv st.c::b)) (MG (st.E++fr.F))=iota 0 (AV.ao d (a++ .nv st.c::b))++aF.env d [] (MG (st.E++fr.F)):=by show aF.env d [] (iO 0 _)++aF.env d [] _=_;rw [vS]
    have hx:=wq (r:=r) (D:=[]) (Φ:=λp=>dz l z (K7 p) (AR p)::dJ (j::ds)::Φ) I M (y:=⟨st.c,acZ X tb tp ps.toList assign body fr st.E hb⟩) L hY ib (Q:=BP X.P B.fn (j9 X.P none l fr.n (mk (j::ds)++D) Q (au ρ [] st.E fr.F)) (λ_ _=>False)) (fr:=⟨MG (st.E++fr.F),fr.H,B.fn.ntmps⟩) (H1:=[]) (K:=itE m) (st:=⟨st.c+1,iO 0 (a++ .nv st.c::b),st.G,hi⟩) (ρ:=d) (w:=w1) rfl ⟨qh _,.refl⟩ hs2 h1 (λp e st1 i Y a1 a2 Z a4=>?_)
    .rw [hE] at hx;exact λaa hf hd=>hx aa (hf.far hn1) hd
    . -- the iterator's end
     have W:aT st.c ρ i:=o.trans (a1.less (gy _)) (bb _);have Dz:st.c<=st1.c:=Nat.le_of_succ_le a2;have eE:au i [] st.E fr.F=au ρ [] st.E fr.F:=mA d4 W;have V:m p st1=some r->j9 X.P none l fr.n (mk (j::ds)++D) Q (au ρ [] st.E fr.F) (.tuple #[]) Y:=λhk=>by
      have t:Sat (dz l z (K7 p) (AR p)::(ab i [] st1.G++(ab i [] fr.H++dJ (j::ds)::Φ))) Y:=by
       have:Sat ((ab i [] st1.G++ab i [] fr.H)++dz l z (K7 p) (AR p)::dJ (j::ds)::Φ) Y:=by rw [aO];cases e <;> first|exact a4|cases Z
       have:=this.front;rwa [aO] at this
      have at_:∀s,Sat (ab i [] st1.G++(ab i [] fr.H++dJ (j::ds)::Φ)) s->KS Q (La p) i fr.n (mk (j::ds)++D) (au ρ [] st.E fr.F) s:=λs u=>by have:=T p st1 i s (j::ds) W Dz hk u;rwa [eE] at this
      match p,t,at_ with
      |0,t,at_=>exact j9.go N t (λs u=>at_ s u)
      |1,t,at_=>exact j9.jump N t (λs u=>uN (at_ s u))
      |q+2,t,at_=>
       simp only [AR,La] at t at_;cases hq:Nat.beq (q%2) 0
       .simp only [hq] at t at_;exact j9.jump N t (λs u=>af6 (at_ s u))
       .simp only [hq] at t at_;exact j9.jump N t (λs u=>WT (at_ s u))
     cases e with
     |nrm=>exact (ahf (vs:=[]) (by simp [k]) (λaa hf=>by rw [k];simp) (v:= .tuple #[]) rfl (V Z):At (BP X.P B.fn _ _) .ret B.fn.ntmps [] _ Y)
     |ret=>exact ahf (vs:=[]) (by simp [k]) (λaa hf=>by rw [k];simp) (v:= .tuple #[]) rfl (V Z)
     |_=>cases Z
   .cases h
  .cases h
 .cases h
end
def nV:Code->Bool
 | .rangeFunc .. =>true
 | .seq a b=>nV a||nV b
 | .cond _ a b=>nV a||nV b
 | .block _ c=>nV c
 | .loop c=>nV c
 | .scope c=>nV c
 |_=>false
def jl{R:Type}(X:Cx)(tb:List aq)(tp:List bI)(tc:List jR):Code->Fr->(XE->aC->Option R)->aC->Option R
 | .block i c,fr,K,st=>jl X tb tp tc c fr (brk i K) st
 | .cond c x y,fr,K,st=>aA (nV x||nV y) (match br [] st.E fr.F none c with
  |some (.bool b)=>cnd b (λh=>jl X tb tp tc x fr K { st with h:=h }) (λh=>jl X tb tp tc y fr K { st with h:=h }) st.h
  |_=>none) (den X tb tp (.cond c x y) fr K st)
 | .seq x y,fr,K,st=>aA (nV x||nV y) (match st.h with
  | .j tm p q=>aA (st.low fr) (
   ai (λs:ew (gi tm.vs)=>jl X tb tp tc y fr K (fS (enter fr tm (cI x) st) tm s q)) λk=>
   jl X tb tp tc x (enter fr tm (cI x) st).fr (uJ (λst'=>match jM (enter fr tm (cI x) st) tm st'.E st'.G with
     |some s=>k s
     |none=>none) (λe st'=>K e (vN e (enter fr tm (cI x) st) st'))) ⟨(enter fr tm (cI x) st).c,(enter fr tm (cI x) st).Et,(enter fr tm (cI x) st).Gt,p⟩ ) none
  | .s h=>jl X tb tp tc x fr (uJ (jl X tb tp tc y fr K) K) { st with h:=h }
  |_=>jl X tb tp tc x fr (uJ (jl X tb tp tc y fr K) K) st) (den X tb tp (.seq x y) fr K st)
 | .loop c,fr,K,st=>aA (nV c) (match st.h with
  | .l tm p=>aA (st.low fr) (
   match jM (enter fr tm (cI c) st) tm (enter fr tm (cI c) st).Et (enter fr tm (cI c) st).Gt with
   |some s=>aw (λagain s=>jl X tb tp tc c (enter fr tm (cI c) st).fr (uJ (λst'=>match jM (enter fr tm (cI c) st) tm st'.E st'.G with
      |some s=>again s
      |none=>none) (λe st'=>K e (vN e (enter fr tm (cI c) st) st'))) (bP (enter fr tm (cI c) st) tm s p)) X.fl s
   |none=>none ) none
  |_=>none) (den X tb tp (.loop c) fr K st)
 | .rangeFunc g ps assign body,fr,K,st=>match st.h with
  | .c (.c hi hb) (.r (70000::th) hr)=>(match br [] st.E fr.F none g with
   |some gv=>rfD X tb tp tc ps.toList assign body gv ⟨fr.F,bq (λr=> !(fj (reach st fr th) r)) st.G++fr.H,fr.n⟩ { st with G:=bq (fj (reach st fr th)) st.G } hi hb (λp st1=>K (La p) { st1 with E:=st.E,h:=hr,G:=st1.G++bq (λr=> !(fj (reach st fr th) r)) st.G })
   |none=>none)
  | .c (.c hi hb) hr=>(match br [] st.E fr.F none g with
   |some gv=>rfD X tb tp tc ps.toList assign body gv fr st hi hb (λp st1=>K (La p) { st1 with E:=st.E,h:=hr })
   |none=>none)
  |_=>none
 |c,fr,K,st=>den X tb tp c fr K st
section
variable {P : Program} {ρ : xb} {Q : bu} {n : Nat} {E : Env} {w : World}
def ahK{γ:Type}(J:γ->World->Prop)(Es:γ->Env)(n:Nat)(Ds:γ->v7)(a:Act)(w:World):Prop:=
 ∃g,J g w/\Fits n (Es g) a/\a.defers=Ds g
theorem aek(J:γ->World->Prop)(b:γ->Env)(Ds:γ->v7){D:v7}{x y:Code}
  (c:∀g w',J g w'->WC P ρ y Q n (Ds g) (b g) w') (hx:WC P ρ x (Exit.then (ahK J b n Ds) Q) n D E w):WC P ρ (.seq x y) Q n D E w:=
 λa d hd=>wpIn_seq (wpIn_mono (hx a d hd) (λe k w' h=>by cases e <;> first|exact h|(obtain ⟨g,f,i,j⟩:=h;exact c g w' f k i j)))
theorem ali{J:γ->World->Prop}{a:γ->Env}{D:v7}(g:γ)(d:J g w)(b:iT (a g) E)(e:D=Ds g):At (Exit.then (ahK J a n Ds) Q) .normal n D E w:=
 λf c hd=>⟨g,d,c.lK b,hd.trans e⟩
def Su{σ γ τ:Type}(again:σ->Option τ)(r:τ)(J:σ->γ->World->Prop)(Es:σ->γ->Env)(n:Nat)(Ds:γ->v7)(a:Act)(w:World):Prop:=
 ∃s g,again s=some r/\J s g w/\Fits n (Es s g) a/\a.defers=Ds g
theorem amB{σ τ:Type}{F:(σ->Option τ)->σ->Option τ}{r:τ}(J:σ->γ->World->Prop)(d:σ->γ->Env)(Ds:γ->v7){body:Code}{D:v7}
  {N:Nat} {b:σ} (l:aw F N b=some r) (c:γ) (u:J b c w) (t:iT (d b c) E) (i:D=Ds c)
  (round:∀again s g w,F again s=some r->J s g w->WC P ρ body (Exit.then (Su again r J d n Ds) Q) n (Ds g) (d s g) w):
  WC P ρ (.loop body) Q n D E w:=λa o hd=>
 Gd (λm=>Su (aw F m) r J d n Ds) N ⟨b,c,l,u,o.lK t,hd.trans i⟩ λm a w ⟨s,g,k,p,q,i⟩=>by
  obtain ⟨j,rfl,f⟩:=MI k;exact wpIn_mono (round (aw F j) s g w f p a q i) λe a w h=>by cases e <;> first|exact h|exact ⟨j,qh _,h⟩
theorem ajL{σ τ:Type}{a:σ->Option τ}{r:τ}{J:σ->γ->World->Prop}{b:σ->γ->Env}{D:v7}
  (s:σ) (g:γ) (d:a s=some r) (f:J s g w) (c:iT (b s g) E) (h:D=Ds g):At (Exit.then (Su a r J b n Ds) Q) .normal n D E w:=
 λi e hd=>⟨s,g,d,f,e.lK c,hd.trans h⟩
end
section
variable {R : Type} {r : R} {X : Cx} {tb : List aq} {tp : List bI} {tc : List jR} {Φ : Ctx} {D : v7}
def Vt(Q:bu)(D:v7)(fr:Fr)(Φ:Ctx)(c0:Nat)(ρ0:ay)(r:R)(K:XE->aC->Option R):Prop:= ∀ds,iG Q (mk ds++D) fr (dJ ds::Φ) c0 ρ0 r K
theorem Vt.less{Q:bu}{fr:Fr}{b c1:Nat}{ρ0 a:ay}{K:XE->aC->Option R}(h:Vt Q D fr Φ b ρ0 r K)(ha:aT b ρ0 a)(hc:b<=c1):Vt Q D fr Φ c1 a r K:=λds=>(h ds).less ha hc
theorem aoU(U:∀it∈X.Γ,it∈Φ)(W:∀e∈tb,e.Ok X.P X.Γ)(V:∀e∈tp,e.Ok X.P X.Γ)(htc:∀c∈tc,c.Ok X.P):∀(c:Code) {Q:bu} {fr:Fr} {K:XE->aC->Option R} {st:aC} {ρ:ay} {w:World} {ds:x8},Sat (ab ρ [] st.G++(ab ρ [] fr.H++dJ ds::Φ)) w->
  jl X tb tp tc c fr K st=some r->Vt Q D fr Φ st.c ρ r K->WC X.P none c Q fr.n (mk ds++D) (au ρ [] st.E fr.F) w:=λc=>by
 have Z:∀ds:x8,∀it∈X.Γ,it∈dJ ds::Φ:=λds it hi=>aW _ (U it hi);have oh:∀(c:Code) {Q:bu} {fr:Fr} {K:XE->aC->Option R} {st:aC} {ρ:ay} {w:World} {ds:x8},Sat (ab ρ [] st.G++(ab ρ [] fr.H++dJ ds::Φ)) w->
   den X tb tp c fr K st=some r->Vt Q D fr Φ st.c ρ r K->WC X.P none c Q fr.n (mk ds++D) (au ρ [] st.E fr.F) w:=λc {Q fr K st ρ w ds} u h t=>
  fa (Z ds) W V c u h (t ds)
 induction c with
 |block i c ih=>
  intro Q fr K st ρ w ds u h t;exact Rh (ih u (by unfold jl at h;exact h) (λds=>QJ (t ds)))
 |cond c x y T S=>
  intro Q fr K st ρ w ds u h t;unfold jl at h;rcases dq h with ⟨_,h⟩|⟨_,h⟩
  .split at h
   next b hb=>have hc:=bE (ρ:=ρ) hb;simp only [AV.val] at hc;obtain ⟨p,q,h1,N⟩:=RO h;exact iJ hc (λhb=>T (st:={ st with h:=p }) u (h1 hb) t) (λhb=>S (st:={ st with h:=q }) u (N hb) t)
   .cases h
  .exact oh _ u h t
 |seq x y T S=>
  intro Q fr K st ρ w ds u h t;unfold jl at h;rcases dq h with ⟨_,h⟩|⟨_,h⟩
  .have I:∀h',jl X tb tp tc x fr (uJ (jl X tb tp tc y fr K) K) { st with h:=h' }=some r->WC X.P none (.seq x y) Q fr.n (mk ds++D) (au ρ [] st.E fr.F) w:=λh' hd=>by
    refine bn (T (st:={ st with h:=h' }) u hd (λj e st' ρ' w' C O z B=>?_));by_cases J:e= .nrm
    .subst J;exact bd (S B z (t.less C O))
    .rw [lR J] at z;exact gq J (t j e st' ρ' w' C O z B)
   split at h
   .rename_i tm p q hh;obtain ⟨hl,N⟩:=aI h;obtain ⟨o,en⟩:=vW (tm:=tm) (m:=cI x) hl u;generalize enter fr tm (cI x) st=f at N en;unfold ai at N;refine aek (γ:=(ew (gi tm.vs)×ay)×x8) (λg w'=>jl X tb tp tc y fr K (fS f tm g.1.1 q)=some r/\aT f.c o g.1.2/\Sat (ab g.1.2 [] (fS f tm g.1.1 q).G++(ab g.1.2 [] fr.H++dJ g.2::Φ)) w') (λg=>au g.1.2 [] (fS f tm g.1.1 q).E fr.F) (λg=>mk g.2++D) (λg w' hg=>?_) ?_
    .obtain ⟨g1,g2,g3⟩:=hg;refine S g3 g1 (t.less (en.ag.trans g2 en.le) ?_);have:f.c<=(fS f tm g.1.1 q).c:=by unfold fS;generalize eZ (λn=>f.c+n) f.fix tm.vs 0 (fL _ g.1.1)=L;obtain ⟨a,b,c,d⟩:=L;exact qz _ _
     exact cg en.le this
    .have hx:=T (fr:=f.fr) (st:=⟨f.c,f.Et,f.Gt,p⟩) (ρ:=o) (Q:=Exit.then (ahK (λ(g:(ew (gi tm.vs)×ay)×x8) w'=>jl X tb tp tc y fr K (fS f tm g.1.1 q)=some r/\aT f.c o g.1.2/\Sat (ab g.1.2 [] (fS f tm g.1.1 q).G++(ab g.1.2 [] fr.H++dJ g.2::Φ)) w') (λg=>au g.1.2 [] (fS f tm g.1.1 q).E fr.F) fr.n (λg=>mk g.2++D)) Q) en.sat N (λj e st' ρ' w' C O z B=>?_)
     .rw [en.fn] at hx;exact hx.lK _ en.sub
     .by_cases J:e= .nrm
      .subst J;have v:(match jM f tm st'.E st'.G with|some s=>jl X tb tp tc y fr K (fS f tm s q)|none=>none)=some r:=z;split at v
       .rename_i s hb;obtain ⟨l,E',Y,k,DD,b1,b2,b3,b4⟩:=nk en.lF en.lH en.fx B hb;have eJ:fS f tm s q=⟨f.c+k,E'++f.E,rowsOf Y++f.G,q⟩:=by unfold fS;rw [b1]
        rw [en.fn];refine ali ((s,l),j) ⟨v,C.trans b2 (bb _),?_⟩ ?_ rfl
        .rw [eJ];show Sat (ab l [] (rowsOf Y++f.G)++_) w';rw [bk,aO];rw [en.fh,bk,aO] at b4;exact b4
        .rw [eJ];show iT (aF.env l [] (E'++f.E)++_) _;rw [en.ff] at b3;have e2:au l [] E' (f.E++fr.F)=aF.env l [] (E'++f.E)++aF.env l [] fr.F:=by show aF.env l [] E'++aF.env l [] (f.E++fr.F)=_;rw [mD,mD,aO]
         rw [<-e2,en.ff];exact b3
       .cases v
      .rw [lR J] at z;have:=sR (t j) en.ag en.le en.ff en.fh en.fn e st' ρ' w' C O z B;exact gq J this
   next h' hh=>exact I h' h
   .exact I st.h h
  .exact oh _ u h t
 |loop c ih=>
  intro Q fr K st ρ w ds u h t;unfold jl at h;rcases dq h with ⟨_,h⟩|⟨_,h⟩
  .split at h
   .rename_i tm p hh;obtain ⟨hl,N⟩:=aI h;obtain ⟨o,en⟩:=vW (tm:=tm) (m:=cI c) hl u;generalize enter fr tm (cI c) st=f at N en;split at N
    .rename_i s0 hb0;obtain ⟨l,E',Y,k,DD,b1,b2,b3,b4⟩:=nk en.lF en.lH en.fx en.sat hb0;have eL:∀s E' Y k DD,eZ (λn=>f.c+n) f.fix tm.vs 0 (fL _ s)=⟨E',Y,k,DD⟩->bP f tm s p=⟨f.c+k,E',rowsOf Y,p⟩:=λs E' Y k DD hb=>by unfold bP;rw [hb]
     refine amB (γ:=ay×x8) (λs g w'=>aT f.c o g.1/\Sat (ab g.1 [] (bP f tm s p).G++(ab g.1 [] f.fr.H++dJ g.2::Φ)) w') (λs g=>au g.1 [] (bP f tm s p).E f.fr.F) (λg=>mk g.2++D) N (l,ds) ⟨b2,?_⟩ ?_ rfl (λM s g w' hag hJ=>?_)
     .rw [eL _ _ _ _ _ b1];exact b4
     .rw [eL _ _ _ _ _ b1];exact b3.trans en.sub
     .have hc:f.c<=(bP f tm s p).c:=by unfold bP;generalize eZ (λn=>f.c+n) f.fix tm.vs 0 (fL _ s)=L;obtain ⟨a,b,c,d⟩:=L;exact qz _ _
      have hx:=ih (fr:=f.fr) (st:=bP f tm s p) (ρ:=g.1) (ds:=g.2) (Q:=Exit.then (Su M r (λs (g:ay×x8) w'=>aT f.c o g.1/\Sat (ab g.1 [] (bP f tm s p).G++(ab g.1 [] f.fr.H++dJ g.2::Φ)) w') (λs g=>au g.1 [] (bP f tm s p).E f.fr.F) fr.n (λg=>mk g.2++D)) Q) hJ.2 hag (λj e st' ρ' w2 C O z B=>?_)
      .rw [en.fn] at hx;exact hx
      .by_cases J:e= .nrm
       .subst J;have v:(match jM f tm st'.E st'.G with|some s=>M s|none=>none)=some r:=z;split at v
        .rename_i s' hb;obtain ⟨ρ3,E2,R2,k2,DD2,d1,d2,d3,d4⟩:=nk en.lF en.lH en.fx B hb;rw [en.fn];refine ajL s' (ρ3,j) v ⟨(hJ.1.trans (C.less hc) (bb _)).trans d2 (bb _),?_⟩ ?_ rfl
         .rw [eL _ _ _ _ _ d1];exact d4
         .rw [eL _ _ _ _ _ d1];exact d3
        .cases v
       .rw [lR J] at z;have:=sR (t j) en.ag en.le en.ff en.fh en.fn e st' ρ' w2 (hJ.1.trans (C.less hc) (bb _)) (cg hc O) z B;exact gq J this
    .cases N
   .cases h
  .exact oh _ u h t
 |rangeFunc g ps assign body=>
  intro Q fr K st ρ w ds u h t;unfold jl at h;split at h
  .rename_i hi hb th hr hh;split at h
   next gv hg=>have hs2:=oN (A:=[]) (p:=fj (reach st fr th)) u;refine ai7 (fr:=⟨fr.F,bq (λr=> !(fj (reach st fr th) r)) st.G++fr.H,fr.n⟩) (st:={ st with G:=bq (fj (reach st fr th)) st.G }) U W V htc hg (by simpa [ab] using hs2) h (λp st1 o w1 j C O z B=>t j (La p) { st1 with E:=st.E,h:=hr,G:=st1.G++bq (λr=> !(fj (reach st fr th) r)) st.G } o w1 C O z ?_);rw [bk,aO];rw [ai2] at*;simpa [ab] using B
   .cases h
  .rename_i hi hb hr _ hh;split at h
   next gv hg=>exact ai7 U W V htc hg u h (λp st1 o w1 j C O z B=>t j (La p) { st1 with E:=st.E,h:=hr } o w1 C O z (by rw [ai2];exact B))
   .cases h
  .cases h
 |_=>intro Q fr K st ρ w ds u h t;exact oh _ u (by unfold jl at h;exact h) t
def ann(K:XE->aC->Option R):XE->aC->Option R
 | .nrm,st=>K .nrm st
 | .ret,st=>K .ret st
 |_,_=>none
theorem amX(d:∀it∈X.Γ,it∈Φ)(j:∀e∈tb,e.Ok X.P X.Γ)(g:∀e∈tp,e.Ok X.P X.Γ)(i:∀c∈tc,c.Ok X.P){fn:Func}{S:Value->World->Prop}{Sp:vA->World->Prop}(c:Code){fr:Fr}{K:XE->aC->Option R}{st:aC}{ρ:ay}{w:World}
  (s:Sat (ab ρ [] st.G++(ab ρ [] fr.H++Φ)) w) (h:jl X tb tp tc c fr (ann K) st=some r) (m:iG (BP X.P fn S Sp) [] fr Φ st.c ρ r K):WC X.P none c (BP X.P fn S Sp) fr.n [] (au ρ [] st.E fr.F) w:=by
 have k:Sat (ab ρ [] st.G++(ab ρ [] fr.H++dJ []::Φ)) w:=by
  have l:Sat (dJ []::((ab ρ [] st.G++ab ρ [] fr.H)++Φ)) w:=by rw [aO];exact s.anO
  have:=l.behind;rwa [aO] at this
 refine aoU (D:=[]) (ds:=[]) d j g i c k h (λds e st' ρ' w' q p a t=>?_);have o:Sat (dJ ds::(ab ρ' [] st'.G++(ab ρ' [] fr.H++Φ))) w':=by
  have l:Sat ((ab ρ' [] st'.G++ab ρ' [] fr.H)++dJ ds::Φ) w':=by rw [aO];cases e <;> first|exact t|cases a
  have:=l.front;rwa [aO] at this
 rw [iq];cases e with
 |nrm=>exact adn ds o (λb f=>m .nrm st' ρ' b q p a f)
 |ret=>exact QC ds o (λb f=>m .ret st' ρ' b q p a f)
 |_=>cases a
end
abbrev arc{R:Type}(E0:aF)(K:aC->Option R):XE->aC->Option R
 | .nrm,st=>K { st with E:=E0 }
 | .ret,st=>K { st with E:=E0 }
 |_,_=>none
def WI{R:Type}(X:Cx)(tb:List aq)(tp:List bI)(pm:Bool)(cl:jR)(cap:List AV)(v:AV)(fr:Fr)(st:aC)(K:aC->Option R):Option R:=match cl.fn.body with
 |some (.seq (.region _ ops false) y)=>(match ops.toList with
  |⟨some d,.call ⟨.builtin .recover,xs,_⟩,_,_,_,none⟩::l=>aA (xs.isEmpty&&l.all Nl&&cl.fn.results.isEmpty&&Nat.ble cap.length cl.fn.ntmps&&Nat.blt d cl.fn.ntmps) (
    yj X tb tp (λ_ _ _=>none) ops.toList ⟨[],fr.H,cl.fn.ntmps⟩ l [] { st with E:=(d,none,v)::iO 0 cap,h:= .c (.r (List.range cap.length) .o) (.c (.r (List.range cap.length) .o) .o) } (λst1=>den X tb tp y ⟨[],fr.H,cl.fn.ntmps⟩ (arc st.E K) st1)) none
  |_=>none)
 |some (.region _ ops false)=>aA (pm&&ops.toList.all Nl&&cl.fn.results.isEmpty&&Nat.ble cap.length cl.fn.ntmps) (
    yj X tb tp (λ_ _ _=>none) ops.toList ⟨[],fr.H,cl.fn.ntmps⟩ ops.toList [] { st with E:=iO 0 cap } (λst1=>K { st1 with E:=st.E })) none
 |_=>none
section
variable {X : Cx} {tb : List aq} {tp : List bI} {D : v7} {R : Type} {r : R} {Φ : Ctx}
theorem Nr{a:jR}{cap:List AV}{v:AV}{fr:Fr}{st:aC}{K:aC->Option R}{u u':FrameMode}{T:World->Prop}(I:a.Ok X.P)(p:∀it∈X.Γ,it∈Φ)(s:∀e∈tb,e.Ok X.P X.Γ)(q:∀e∈tp,e.Ok X.P X.Γ)
  (hs:Sat (ab ρ [] st.G++(ab ρ [] fr.H++Φ)) w) {pm:Bool} (O:pm=true->u= .returning/\u'= .returning) (hu:(u= .returning/\u'= .returning/\v.val ρ= .nilIface)\/(u= .panicking (gO (v.val ρ))/\u'= .panicking [{ v:=v.val ρ,recovered:=true }]))
  (h:WI X tb tp pm a cap v fr st K=some r) (hK:∀(st':aC) (ρ':ay) (w':World),aT st.c ρ ρ'->st.c<=st'.c->K { st' with E:=st.E }=some r->Sat (ab ρ' [] st'.G++(ab ρ' [] fr.H++Φ)) w'->T w'):
  FQ X.P a.f (AV.ao ρ cap) u w λu2 w'=>u2=u'/\T w':=by
 unfold WI at h;split at h
 .rename_i id ops y hb;split at h
  .rename_i d xs tys ty pos af l j;obtain ⟨J,M⟩:=aI h;simp only [ae] at J;obtain ⟨⟨⟨⟨W,V⟩,U⟩,S⟩,h7⟩:=J;have N:xs= #[]:=by simpa using W
   subst N;have b:a.fn.results= #[]:=by simpa using U
   refine Xy (n:=a.fn.ntmps) I.2 hb j V b rfl (by rw [AV.bm];exact S) h7 hu ?_;obtain ⟨m⟩:=ops;simp only at j M;have:=WO (σ:=none) (D:=[]) (Q:=Exit.then (y.wpIn (FW none) 0 X.P (QB T)) (QB T)) (ρ:=ρ) (w:=w) (r:=r) (ops:=m) (fr:=⟨[],fr.H,a.fn.ntmps⟩) (st:={ st with E:=(d,none,v)::iO 0 cap,h:= .c (.r (List.range cap.length) .o) (.c (.r (List.range cap.length) .o) .o) }) p s q (λx h=>by cases h) (λx h=>by cases h) ⟨λx _=>rfl,λx _=>rfl⟩ hs M (λst1 g w1 A k z L=>?_) (λlb v st1 g w1 A k z L=>by cases z)
   .have Z:au ρ [] ((d,none,v)::iO 0 cap) []=(d,true,v.val ρ)::iota 0 (AV.ao ρ cap):=by show aF.env ρ [] ((d,none,v)::iO 0 cap)++[]=_;simp only [aF.env,aB.get_none,vS,iq]
    have Y:au ρ [] ({ st with E:=(d,none,v)::iO 0 cap,h:= .c (.r (List.range cap.length) .o) (.c (.r (List.range cap.length) .o) .o) }:aC).E (⟨[],fr.H,a.fn.ntmps⟩:Fr).F=(d,true,v.val ρ)::iota 0 (AV.ao ρ cap):=Z;rw [Y] at this;exact this
   .refine bd (fa (σ:=none) (D:=[]) p s q y (fr:=⟨[],fr.H,a.fn.ntmps⟩) L z (λe C B w2 b1 b2 t b4=>?_));cases e with
    |nrm=>exact anv (hK C B w2 (A.trans b1 k) (cg k b2) t b4)
    |ret=>exact aqn (hK C B w2 (A.trans b1 k) (cg k b2) t b4)
    |ext i=>cases t
    |gto l=>cases t
    |gO v=>cases t
    |panE v=>cases t
    |panL v=>cases t
  .cases h
 .rename_i id ops hb;obtain ⟨J,M⟩:=aI h;simp only [ae] at J;obtain ⟨⟨⟨W,V⟩,U⟩,S⟩:=J;have b:a.fn.results= #[]:=by simpa using U
  obtain ⟨rfl,rfl⟩:=O W;refine aet (n:=a.fn.ntmps) I.2 hb V b rfl (by rw [AV.bm];exact S) ?_;obtain ⟨m⟩:=ops;have:=WO (σ:=none) (D:=[]) (Q:=QB T) (ρ:=ρ) (w:=w) (r:=r) (ops:=m) (fr:=⟨[],fr.H,a.fn.ntmps⟩) (st:={ st with E:=iO 0 cap }) p s q (λx h=>by cases h) (λx h=>by cases h) ⟨λx _=>rfl,λx _=>rfl⟩ hs M (λst1 g w1 A k z L=>anv (hK st1 g w1 A k z L)) (λlb v st1 g w1 A k z L=>by cases z);have Z:au ρ [] (iO 0 cap) []=iota 0 (AV.ao ρ cap):=by show aF.env ρ [] (iO 0 cap)++[]=_;simp only [vS,iq]
  have Y:au ρ [] ({ st with E:=iO 0 cap }:aC).E (⟨[],fr.H,a.fn.ntmps⟩:Fr).F=iota 0 (AV.ao ρ cap):=Z;rw [Y] at this;exact this
 .cases h
end
def aib:x5->Option (x5×Operand)
 |[]=>none
 |o::l=>(match l with
  |[]=>(match o with
   |⟨none,.defer ⟨.value fo,xs,_⟩,_,_,_,none⟩=>aA xs.isEmpty (some ([],fo)) none
   |_=>none)
  |_::_=>(match aib l with
   |some p=>some (o::p.1,p.2)
   |none=>none))
theorem afu:{l l':x5}->{fo:Operand}->aib l=some (l',fo)->∃tys ty pos af,l=l'++[⟨none,.defer ⟨.value fo,#[],tys⟩,ty,pos,af,none⟩]
 |[],_,_,h=>by cases h
 |o::l,l',fo,h=>by
  unfold aib at h;split at h
  .split at h
   .obtain ⟨b,a⟩:=aI h;rename_i xs _ _ _ _;have:xs= #[]:=by simpa using b
    subst this;cases a;exact ⟨_,_,_,_,rfl⟩
   .cases h
  .split at h
   next p hp=>cases h;obtain ⟨tys,ty,pos,af,a⟩:=afu (fo:=p.2) (l':=p.1) (by rw [hp]);exact ⟨tys,ty,pos,af,by rw [a];rfl⟩
   .cases h
def agT:Code->Option (x5×x5×Operand)
 | .region _ ops false=>(match aib ops.toList with
  |some p=>some (ops.toList,p.1,p.2)
  |none=>none)
 |_=>none
def ant:Code->Bool
 | .scope _=>true
 | .seq x y=>(agT x).isSome||ant y
 |_=>false
def P5:List Row->Bool
 |[]=>true
 |r::H=>r.cF&&P5 H
theorem Wn:{H:List Row}->P5 H=true->da H=H
 |[],_=>rfl
 |r::H,h=>by simp only [P5,ae] at h;show aA r.cF (r::da H) (da H)=r::H;rw [h.1,Wn h.2]
def aro{R:Type}(X:Cx)(tb:List aq)(tp:List bI)(cl:jR)(cap:List AV)(fr:Fr)(K:XE->aC->Option R):XE->aC->Option R
 | .nrm,st=>aA (st.low fr) (WI X tb tp true cl cap (.raw .nilIface) fr st (K .ret)) none
 | .ret,st=>aA (st.low fr) (WI X tb tp true cl cap (.raw .nilIface) fr st (K .ret)) none
 | .panE v,st=>aA (st.low fr) (WI X tb tp false cl cap v fr st (K .ret)) none
 | .panL v,st=>aA (P5 fr.H) (aA (st.low fr) (WI X tb tp false cl cap v fr st (K .ret)) none) none
 |_,_=>none
def ahL{R:Type}(X:Cx)(tb:List aq)(tp:List bI)(tc:List jR):Code->Fr->(XE->aC->Option R)->aC->Option R
 | .scope c,fr,K,st=>amL X tb tp c fr K st
 | .seq x y,fr,K,st=>(match agT x with
  |some p=>yj X tb tp (λb v st=>K (aA b (.panL v) (.panE v)) st) p.1 fr p.2.1 [] (yf st) (λst1=>match br [] st1.E fr.F none p.2.2 with
   |some (.fn f [] cap)=>(match Sq tc f with
    |some cl=>aA (AV.bX st1.c cap) (den X tb tp y fr (aro X tb tp cl cap fr K) st1) none
    |none=>none)
   |_=>none)
  |none=>aA (ant y) (den X tb tp x fr (uJ (ahL X tb tp tc y fr K) K) (yf st)) (aA (nV x||nV y) (jl X tb tp tc (.seq x y) fr (ann K) st) (den X tb tp (.seq x y) fr K st)))
 |c,fr,K,st=>den X tb tp c fr K st
section
variable {X : Cx} {tb : List aq} {tp : List bI} {tc : List jR} {R : Type} {r : R} {Φ : Ctx} {fn : Func} {S : Value -> World -> Prop} {Sp : vA -> World -> Prop}
theorem aoB{c:Code}{p:x5×x5×Operand}(h:agT c=some p):∃id ops,c= .region id ops false/\ops.toList=p.1/\∃tys ty pos af,p.1=p.2.1++[⟨none,.defer ⟨.value p.2.2,#[],tys⟩,ty,pos,af,none⟩]:=by
 unfold agT at h;split at h
 .rename_i id ops;split at h
  next q a=>cases h;exact ⟨id,ops,rfl,rfl,afu a⟩
  .cases h
 .cases h
theorem aom(d:∀it∈X.Γ,it∈Φ)(j:∀e∈tb,e.Ok X.P X.Γ)(g:∀e∈tp,e.Ok X.P X.Γ)(M:∀c∈tc,c.Ok X.P):∀(c:Code) {fr:Fr} {K:XE->aC->Option R} {st:aC} {ρ:ay} {w:World},Sat (ab ρ [] st.G++(ab ρ [] fr.H++Φ)) w->
  ahL X tb tp tc c fr K st=some r->iG (BP X.P fn S Sp) [] fr Φ st.c ρ r K->WC X.P none c (BP X.P fn S Sp) fr.n [] (au ρ [] st.E fr.F) w:=λc=>by
 induction c with
 |scope c=>intro fr K st ρ w B h s;exact an2 d j g B h s
 |seq x y ihx Y=>
  intro fr K st ρ w B h s;obtain ⟨W,p2,p3⟩:=afU (st:=st);unfold ahL at h;split at h
  .rename_i p hp;obtain ⟨id,ops,rfl,e1,tys,ty,pos,af,e2⟩:=aoB hp;refine bn (bh ?_);obtain ⟨opl⟩:=ops;simp only at e1;subst e1;have hw:=Ix (σ:=none) (D:=[]) (Q:=Exit.then (y.wpIn (FW none) 0 X.P (BP X.P fn S Sp)) (BP X.P fn S Sp)) (ρ:=ρ) (w:=w) (st:=yf st) (rest:=[⟨none,.defer ⟨.value p.2.2,#[],tys⟩,ty,pos,af,none⟩]) d j g (λx h=>by cases h) (λx h=>by cases h) ⟨λx _=>rfl,λx _=>rfl⟩ (by rw [p3];exact B) h (λst1 k w1 z t m L=>?_) (λlb v st1 k w1 z t m L=>?_)
   .rw [p2,<-e2] at hw;exact hw
   .split at m
    .rename_i f cap Z;split at m
     .rename_i cl hcl;obtain ⟨b1,b2⟩:=aI m;obtain ⟨c1,c2⟩:=QP M hcl;have C:=bE (ρ:=k) Z;simp only [AV.val,AV.ao] at C;subst c2;refine amr C (bT (bd ?_));rw [W] at z t;refine fa (σ:=none) (D:=[PH cl.f (AV.ao k cap)]) d j g y L b2 (λe b a w2 d1 d2 A V=>?_);have N:AV.ao a cap=AV.ao k cap:=AV.bU d1 _ b1;have U:b.low fr=true->∀(q:aC) (o:ay) (O:World),aT b.c a o->b.c<=q.c->K .ret { q with E:=b.E }=some r->Sat (ab o [] q.G++(ab o [] fr.H++Φ)) O->At (BP X.P fn S Sp) .ret fr.n [] (au a [] b.E fr.F) O:=λhl q o O f1 f2 f3 f4=>by have:=s .ret { q with E:=b.E } o O (z.trans (d1.trans f1 d2) t) (cg t (cg d2 f2)) f3 f4;rw [<-mA hl f1];exact this
      rw [<-N];cases e with
      |nrm=>
       obtain ⟨J,I⟩:=aI A;exact aiO c1.1 (Nr (u:= .returning) (T:=λw'=>At (BP X.P fn S Sp) .ret fr.n [] (au a [] b.E fr.F) w') c1 d j g V (λ_=>⟨rfl,rfl⟩) (.inl ⟨rfl,rfl,rfl⟩) I (U J)) (λ_ h=>h)
      |ret=>
       obtain ⟨J,I⟩:=aI A;exact aiO c1.1 (Nr (u:= .returning) (T:=λw'=>At (BP X.P fn S Sp) .ret fr.n [] (au a [] b.E fr.F) w') c1 d j g V (λ_=>⟨rfl,rfl⟩) (.inl ⟨rfl,rfl,rfl⟩) I (U J)) (λ_ h=>h)
      |ext i=>cases A
      |gto l=>cases A
      |gO v=>cases A
      |panE v=>
       obtain ⟨J,I⟩:=aI A;have hp:=Nr (u:= .panicking (gO (v.val a))) (T:=λw'=>At (BP X.P fn S Sp) .ret fr.n [] (au a [] b.E fr.F) w') c1 d j g V (λh=>by cases h) (.inr ⟨rfl,rfl⟩) I (U J);exact afT c1.1 hp (λ_ h=>h)
      |panL v=>
       obtain ⟨l0,A⟩:=aI A;obtain ⟨J,I⟩:=aI A;have d5:Sat (ab a [] b.G++(ab a [] (da fr.H)++Φ)) w2:=V;rw [Wn l0] at d5;have hp:=Nr (u:= .panicking (gO (v.val a))) (T:=λw'=>At (BP X.P fn S Sp) .ret fr.n [] (au a [] b.E fr.F) w') c1 d j g d5 (λh=>by cases h) (.inr ⟨rfl,rfl⟩) I (U J);exact afT c1.1 hp (λ_ h=>h)
     .cases m
    .cases m
   .rw [W] at z t;cases lb
    .exact Jg (s (.panE v) st1 k w1 z t m L)
    .exact Jg (s (.panL v) st1 k w1 z t m L)
  .rename_i hp;rcases dq h with ⟨h1,h2⟩|⟨_,h2⟩
   .refine bn ?_;have:=fa (σ:=none) (D:=[]) d j g x (fr:=fr) (st:=yf st) (ρ:=ρ) (w:=w) (Q:=Exit.then (y.wpIn (FW none) 0 X.P (BP X.P fn S Sp)) (BP X.P fn S Sp)) (by rw [p3];exact B) h2 (λe st' ρ' w' z t m L=>?_)
    .rw [p2] at this;exact this
    .rw [W] at z t;by_cases he:e= .nrm
     .subst he;exact bd (Y L m (s.less z t))
     .rw [lR he] at m;exact gq he (s e st' ρ' w' z t m L)
   .rcases dq h2 with ⟨_,h3⟩|⟨_,h3⟩
    .exact amX d j g M (.seq x y) B h3 s
    .exact fa d j g (.seq x y) B h3 s
 |_=>intro fr K st ρ w B h s;exact fa d j g _ B h s
end
variable {tb : List aq} {tc : List jR} {tp : List bI}
def dK:List (Bool×Row)->List Row
 |[]=>[]
 |x::R=>aA x.1 (x.2::dK R) (dK R)
def jX:List (Bool×Row)->List Row
 |[]=>[]
 |x::R=>aA x.1 (jX R) (x.2::jX R)
def Kd:List Row->x8
 |[]=>[]
 |r::G=>(match r with
  | .box j _ _=>j::Kd G
  |_=>Kd G)
def Jc:Nat->Nat->vc
 |0,_=>[]
 |n+1,k=>some k::Jc n (k+1)
def acH:List (Nat×List AV)->List (List AV)->List (Nat×List AV)
 |x::X,cs::C=>(x.1,cs)::acH X C
 |_,_=>[]
def HA(X:Cx)(fr:Fr)(st:aC):ResultVar->Option AV
 | .tmp t=>xv st.E fr.F t
 | .cell p t=>(match xv st.E fr.F p with
  |some v=>(match xt [] st.G fr.H none v with
   |some cs=>jY X.P t cs
   |none=>none)
  |none=>none)
def E7(vs:List AV):AV:=match vs with
 |[v]=>v
 |vs=> .tuple vs
def alY(e:aq)(fr:Fr)(st:aC)(v:AV)(fix0:Nat->Option AV)(fix:Nat->fY):List Row:=cm (rQ st.G fr.H e.r v++S3 st.G fr.H fix0 fix e.os) st.G
def apy(e:aq)(fr:Fr)(n:Nat)(G:List Row)(v:AV)(fix0:Nat->Option AV)(fix:Nat->fY):Option (ew (lD e.r++gi e.os)):=match mt G fr.H e.r v none none (Jc n 0) with
 |some mr=>(match XP G fr.H fix0 fix e.os mr.B with
  |some mq=>aA (AW ((mr.S++mq.S).map λx=>dj G fr.H x.2)&&O3 G.length ((mr.S++mq.S).map λx=>dj G fr.H x.2)) (cG _ (mr.D++mq.D)) none
  |none=>none)
 |none=>none
def ahi(X:Cx)(e:aq)(fn:Func)(fr:Fr)(n:Nat)(fix0:Nat->Option AV)(fix:Nat->fY)(st:aC):Option (ew (lD e.r++gi e.os)):=match uu (HA X fr st) fn.results.toList with
 |some rs=>apy e fr n (alY e fr st (E7 rs) fix0 fix) (E7 rs) fix0 fix
 |none=>none
abbrev aq1{R:Type}(K:aC->Option R):XE->aC->Option R
 | .nrm,st=>K st
 | .ret,st=>K st
 |_,_=>none
def ahD{R:Type}(X:Cx)(tb:List aq)(tp:List bI)(tc:List jR)(h:HT)(fn:Func)(ps:List Pt)(KF:List AV->List Row->Nat->List (Nat×List AV)->XE->aC->Option R)(s:ew (mu ps)):Option R:=
 match dU id ps [] [] 0 (fL _ s) with
 |⟨vs,R,n,_,XA⟩=>match ko (Kd (dK R)) n (dK R) with
  |(G,Q,c)=>match fn.body with
   |none=>none
   |some body=>aA (Nat.ble vs.length fn.ntmps&&AV.bX n vs&&bC n (R.map (·.2))) (
    ahL X tb tp tc body ⟨[],Q++jX R,fn.ntmps⟩ (KF vs (Q++jX R) n (acH XA (fC G))) ⟨c,iO 0 vs,G,h⟩) none
def adA(X:Cx)(tb:List aq)(tp:List bI)(tc:List jR)(h:HT)(fn:Func)(e:aq)(s:ew (mu e.ps)):Option (ew (lD e.r++gi e.os)):=
 ahD X tb tp tc h fn e.ps (λvs H n XX=>aq1 (ahi X e fn ⟨[],H,fn.ntmps⟩ n (λ(i:Nat)=>vs[i]?) (vJ (Jc n 0) e.ps vs XX))) s
def Nw(pp:Pt)(fr:Fr)(v:AV)(st:aC):Option (ew (lD pp)):=match mt (cm (rQ st.G fr.H pp v) st.G) fr.H pp v none none [] with
 |some mr=>aA (AW (mr.S.map λx=>dj (cm (rQ st.G fr.H pp v) st.G) fr.H x.2)&&O3 (cm (rQ st.G fr.H pp v) st.G).length (mr.S.map λx=>dj (cm (rQ st.G fr.H pp v) st.G) fr.H x.2)) (cG _ mr.D) none
 |none=>none
abbrev BY(pp:Pt):(pq:Option Pt)->(fr:Fr)->(v:AV)->(st:aC)->Option (Vq pp pq)
 |none,fr,v,st=>Nw pp fr v st
 |some q,fr,v,st=>match Nw pp fr v st with
  |some x=>some (.inl x)
  |none=>(Nw q fr v st).map .inr
abbrev inT{B:Type}:(nv:Bool)->(r:Pt)->(os:List (Bool×Nat×Pt))->Option (ew (lD r++gi os))->Option (Except B (Pa nv r os))
 |true,_,_,_=>none
 |false,_,_,o=>o.map .ok
theorem aaS{B:Type}:{nv:Bool}->{r:Pt}->{os:List (Bool×Nat×Pt)}->{o:Option (ew (lD r++gi os))}->{z:Except B (Pa nv r os)}->inT nv r os o=some z->∃x q,o=some q/\z= .ok x/\isOk nv r os x q
 |true,_,_,_,_,h=>by cases h
 |false,_,_,none,_,h=>by cases h
 |false,_,_,some q,_,h=>by cases h;exact ⟨q,q,rfl,rfl,rfl⟩
abbrev aq9{B:Type}(nv:Bool)(r:Pt)(os:List (Bool×Nat×Pt))(K:aC->Option (ew (lD r++gi os)))(KP KL:AV->aC->Option B):XE->aC->Option (Except B (Pa nv r os))
 | .nrm,st=>inT nv r os (K st)
 | .ret,st=>inT nv r os (K st)
 | .gO v,st=>(KP v st).map .error
 | .panE v,st=>(KP v st).map .error
 | .panL v,st=>(KL v st).map .error
 |_,_=>none
def alf(X:Cx)(tb:List aq)(tp:List bI)(tc:List jR)(h:HT)(fn:Func)(e:bI)(s:ew (mu e.ps)):Option (Except (Vq e.pp e.pq) (Pa e.nv e.r e.os)):=
 ahD X tb tp tc h fn e.ps (λvs H n XX=>aq9 e.nv e.r e.os (ahi X e.oe fn ⟨[],H,fn.ntmps⟩ n (λ(i:Nat)=>vs[i]?) (vJ (Jc n 0) e.ps vs XX)) (BY e.pp e.pq ⟨[],H,fn.ntmps⟩) (λv st=>aA (e.lp||P5 H) (BY e.pp e.pq ⟨[],da H,fn.ntmps⟩ v st) none)) s
theorem y9:{G H:List Row}->fC (G++H)=fC G++fC H
 |[],_=>rfl
 |r::G,H=>by cases r <;> simp only [de,fC,y9]
theorem wI:{R S:List (Bool×Row)}->dK (R++S)=dK R++dK S
 |[],_=>rfl
 |x::R,S=>by have e:∀Q,dK (x::Q)=aA x.1 (x.2::dK Q) (dK Q):=λ_=>rfl;rw [de,e,e,wI];cases x.1 <;> rfl
theorem Wb{nm:Nat->Nat}:(t:Ty)->(x:t.T)->(n:Nat)->(o:u9)->fC (dK (fW nm t x n o).R)=[]
 | .i _,_,_,_|.bo,_,_,_|.s,_,_,_|.un,_,_,_|.n,_,_,_|.mp _ _,_,_,_=>rfl
 | .p a b,x,n,o=>by
  unfold fW;have h:=Wb (nm:=nm) a x.1 n o;generalize fW nm a x.1 n o=L at h;obtain ⟨u,p,f,d⟩:=L;dsimp only;have g:=Wb (nm:=nm) b x.2 f d;generalize fW nm b x.2 f d=L at g;obtain ⟨j,c,m,k⟩:=L;show fC (dK (p++c))=[];rw [wI,y9,show fC (dK p)=[] from h,show fC (dK c)=[] from g];rfl
 | .l t,x,n,o=>by
  unfold fW;split <;> first|rfl|(rename_i e _;show fC (dK [(ow e,_)])=[];unfold dK;cases ow e <;> rfl)
 | .ex,x,n,o=>by unfold fW;split <;> first|rfl|(rename_i e _;show fC (dK [(ow e,_)])=[];unfold dK;cases ow e <;> rfl)
mutual
theorem Ws{nm:Nat->Nat}:(p:Pt)->(fx:fY)->(c:Option AV)->(n:Nat)->(D:List bZ)->(fill nm p fx c n D).X.map (·.2)=fC (dK (fill nm p fx c n D).R)
 | .int _,_,_,_,_|.bool,_,_,_,_|.str,_,_,_,_|.sli _,_,_,_,_|.slr _,_,_,_,_|.ptr _ _,_,_,_,_|.it,_,_,_,_|.iU _,_,_,_,_|.ifn,_,_,_,_|.sfp,_,_,_,_|.same,_,_,_,_=>rfl
 | .own t e m,fx,c,n,D=>by cases m <;> rfl
 | .mp k v m,fx,c,n,D=>by cases m <;> rfl
 | .bx t off m vs,fx,c,n,D=>by
  unfold fill;have h:=sx (nm:=nm) vs [] (HN fx) (n+1) D;generalize dU nm vs [] (HN fx) (n+1) D=L at h;obtain ⟨cs,R,k,g,d⟩:=L;have q:d.map (·.2)=fC (dK R):=h;cases m
  .exact q
  .show reS (F9 nm fx n) vs cs::d.map (·.2)=reS (F9 nm fx n) vs cs::fC (dK R);rw [q]
 | .agg l,fx,c,n,D=>by
  unfold fill;have h:=sx (nm:=nm) l (fT fx) [] n D;generalize dU nm l (fT fx) [] n D=L at h;obtain ⟨cs,R,k,g,d⟩:=L;exact h
 | .cG l,fx,c,n,D=>by
  unfold fill;have h:=sx (nm:=nm) l [] [] n D;generalize dU nm l [] [] n D=L at h;obtain ⟨cs,R,k,g,d⟩:=L;exact h
 | .fn f a b,fx,c,n,D=>by
  unfold fill;have h:=sx (nm:=nm) a [] [] n D;generalize dU nm a [] [] n D=L at h;obtain ⟨cs,R,k,g,d⟩:=L;dsimp only;have j:=sx (nm:=nm) b (fT fx) [] k g;generalize dU nm b (fT fx) [] k g=L at j;obtain ⟨s,r,x,u,i⟩:=L;show (d++i).map (·.2)=fC (dK (R++r));rw [qB,wI,y9,show d.map (·.2)=fC (dK R) from h,show i.map (·.2)=fC (dK r) from j]
 | .sty p,fx,c,n,D=>by
  unfold fill;exact Ws p _ none n D
 | .ifc t p,fx,c,n,D=>by
  unfold fill;have h:=Ws (nm:=nm) p (mb p (fT fx)) none n D;generalize fill nm p (mb p (fT fx)) none n D=L at h;obtain ⟨v,R,k,g,d⟩:=L;exact h
 | .dat t o,fx,c,n,D=>by unfold fill;have h:=Wb (nm:=nm) t (fE t D) n o;generalize fW nm t (fE t D) n o=L at h;obtain ⟨cs,R,k,w⟩:=L;exact h.symm
theorem sx{nm:Nat->Nat}:(l:List Pt)->(b a:List AV)->(n:Nat)->(D:List bZ)->(dU nm l b a n D).X.map (·.2)=fC (dK (dU nm l b a n D).R)
 |[],_,_,_,_=>rfl
 |p::l,b,a,n,D=>by unfold dU;have h:=Ws (nm:=nm) p (mb p b) a.head? n D;generalize fill nm p (mb p b) a.head? n D=L at h;obtain ⟨cs,R,k,g,e⟩:=L;dsimp only;have d:=sx (nm:=nm) l b.tail a.tail k g;generalize dU nm l b.tail a.tail k g=L at d;obtain ⟨i,f,m,j,c⟩:=L;show (e++c).map (·.2)=fC (dK (R++f));rw [qB,wI,y9,show e.map (·.2)=fC (dK R) from h,show c.map (·.2)=fC (dK f) from d]
end
theorem acj{ρ ρ':ay}:{X:List (Nat×List AV)}->{C:List (List AV)}->C.map (AV.ao ρ')=X.map (λx=>AV.ao ρ x.2)->dF ρ' (acH X C)=dF ρ X
 |[],[],_=>rfl
 |[],_::_,h=>by cases h
 |_::_,[],h=>by cases h
 |x::X,cs::C,h=>by simp only [cx,qb] at h;show (x.1,AV.ao ρ' cs)::dF ρ' (acH X C)=(x.1,AV.ao ρ x.2)::dF ρ X;rw [h.1,acj h.2]
section
variable {w : World} {ρ : ay}
theorem Sat.apa{A B:Ctx}{x:Item}(h:Sat (A++B) w)(hx:x.own=[]/\∀M w,x.P M w):Sat (A++x::B) w:=by
 refine h.Au (λj k=>(j<A.length/\k=j)\/(A.length<j/\k+1=j)) (λj jt a=>?_) (λj k q b f d=>by omega);by_cases e:j<A.length
 .rw [cd e] at a;exact .inr ⟨j,jt,.inl ⟨e,rfl⟩,by rw [cd e];exact a,bS.refl⟩
 .rw [b5 (by omega)] at a;by_cases c:j=A.length
  .subst c;simp at a;subst a;exact .inl hx
  .refine .inr ⟨j-1,jt,.inr ⟨by omega,by omega⟩,?_,bS.refl⟩;rw [b5 (by omega)];have:j-A.length=(j-1-A.length)+1:=by omega
   rw [this,cf] at a;exact a
theorem Sat.lX{A B:Ctx}(h:Sat (A++B) w):∀(L:List Item),(∀it∈L,it.cF=true/\∀M w,it.P M w)->Sat (A++(L++B)) w
 |[],_=>h
 |x::L,hL=>(Sat.lX h L (λit a=>hL it (aW _ a))).apa ⟨x.hp (hL x (bj ..)).1,(hL x (bj ..)).2⟩
theorem X9{Φ:Ctx}{T:aB}:∀{R:List (Bool×Row)} {A:Ctx},Sat (A++(ab ρ T (R.map (·.2))++Φ)) w->Sat (A++(ab ρ T (dK R)++(ab ρ T (jX R)++Φ))) w
 |[],_,h=>h
 |x::R,A,h=>by
  have c:Sat ((A++[x.2.item ρ T])++(ab ρ T (R.map (·.2))++Φ)) w:=by simpa [ab] using h
  have a:=X9 c;unfold dK jX;cases x.1
  .have b:Sat (A++x.2.item ρ T::(ab ρ T (dK R)++(ab ρ T (jX R)++Φ))) w:=by simpa using a
   exact b.move
  .simpa [ab] using a
theorem L8{Φ:Ctx}{T:aB}:∀{R:List (Bool×Row)} {I:eB} {A:Ctx},eR (RwI ρ T) R I->Sat (A++(ab ρ T (jX R)++Φ)) w->Sat (A++(eI I++Φ)) w
 |_,_,_,.nil,h=>h
 |_,_,A,.cons (a:=a) (b:=b) (l:=l) (m:=m) h1 hr,h=>by
  unfold jX at h;show Sat (A++(aA b.1 fJ b.2)::(eI m++Φ)) w;rw [<-h1.1];cases ha:a.1
  .rw [ha] at h;have e:Sat (A++b.2::(ab ρ T (jX l)++Φ)) w:=by have c:Sat (A++a.2.item ρ T::(ab ρ T (jX l)++Φ)) w:=h;exact c.Dz h1.2.2
   have d:Sat ((A++[b.2])++(ab ρ T (jX l)++Φ)) w:=by simpa using e
   have:=L8 hr d;simpa using this
  .rw [ha] at h;have c:Sat (A++(ab ρ T (jX l)++Φ)) w:=h;exact (L8 hr c).apa ⟨rfl,λ_ _=>trivial⟩
theorem aaJ{c:Nat}:{R:List (Bool×Row)}->bC c (R.map (·.2))=true->bC c (dK R)=true/\bC c (jX R)=true
 |[],_=>⟨rfl,rfl⟩
 |x::R,h=>by
  simp only [cx,bC,ae] at h;obtain ⟨b,a⟩:=aaJ h.2;unfold dK jX;cases x.1
  .exact ⟨b,by show bC c (x.2::jX R)=true;simp only [bC,ae];exact ⟨h.1,a⟩⟩
  .exact ⟨by show bC c (x.2::dK R)=true;simp only [bC,ae];exact ⟨h.1,b⟩,a⟩
theorem ajQ{N:List Nm}:∀{M:List Nm} {k:Nat},(∀i a,M[i]? =some a->ρ (k+i)=a)->NB ρ (Jc M.length k) M
 |[],_,_=> .nil
 |a::M,k,h=> .cons (by
   have:=h 0 a rfl;rw [qj] at this;exact ⟨by rw [this],by rw [this],by rw [this]⟩) (ajQ (N:=N) λi b hb=>by
   have:=h (i+1) b (by simpa using hb);rw [<-this];congr 1;omega)
end
section
variable {X : Cx} {fr : Fr} {st : aC} {ρ : ay} {Φ : Ctx} {w : World}
theorem aof(j:Sat (ab ρ [] st.G++(ab ρ [] fr.H++Φ)) w){r:ResultVar}{v:AV}(h:HA X fr st r=some v):jh X.P (au ρ [] st.E fr.F) w r (v.val ρ):=by
 cases r with
 |tmp t=>exact jh.t (Fw h)
 |cell p t=>
  unfold HA at h;dsimp only at h;split at h
  .rename_i u i;split at h
   .rename_i cs c;obtain ⟨y,s,hc⟩:=Kl j c aB.get_none;have b:=Fw (ρ:=ρ) i;rw [s] at b;have o:jY X.P t (cs.drop 0)=some v:=by simpa using h
    obtain ⟨d,n,bytes,z,c1,x,f⟩:=mm (ρ:=ρ) o;cases hd:jm d
    .rw [hd] at f;simp only [oi,qF] at f;exact jh.c1 b c1 hd hc f
    .unfold jY at h;rw [c1] at h;rcases dq h with ⟨_,e⟩|⟨g,_⟩
     .split at e
      next q k=>obtain ⟨n,bytes,z⟩:=q;obtain ⟨m,l⟩:=aI e;cases l;have a:n<=cs.length:=cj m;simp only [AV.val];refine jh.cA b c1 hd (cE k) (vs:=AV.ao ρ (cs.take n)) ?_ (by rw [AV.bm,b0,c8 a]);have:=hc.sub (us:=AV.ao ρ (cs.take n)) 0 (by rw [AV.ju,l9,b0,AV.bm,c8 a]);simpa [Addr.add] using this
      .cases e
     .rw [hd] at g;cases g
   .cases h
  .cases h
theorem amI{rs:List AV}:(if h:(AV.ao ρ rs).length=1 then (AV.ao ρ rs)[0] else .tuple (AV.ao ρ rs).toArray)=(E7 rs).val ρ:=by
 match rs with
 |[]=>simp [E7,AV.ao,AV.val]
 |[v]=>simp [E7,AV.ao]
 |u::v::l=>simp [E7,AV.ao,AV.val]
theorem aji{fn:Func}{S:Value->World->Prop}{Sp:vA->World->Prop}{rs:List AV}(j:Sat (ab ρ [] st.G++(ab ρ [] fr.H++Φ)) w)(h:uu (HA X fr st) fn.results.toList=some rs)(m:S ((E7 rs).val ρ) w):
  At (BP X.P fn S Sp) .ret fr.n [] (au ρ [] st.E fr.F) w:=by
 have c:∀{α β:Type} {f:α->Option β} {l:List α} {ys:List β},uu f l=some ys->l.length=ys.length:=λ{α β f l}=>by
  induction l with
  |nil=>intro ys h;cases h;rfl
  |cons x l ih=>
   intro ys h;unfold uu at h;split at h
   .split at h
    next zs d=>cases h;simp [ih d]
    .cases h
   .cases h
 have b:∀{l:List ResultVar} {ys:List AV},uu (HA X fr st) l=some ys->uu (λr=>(HA X fr st r).map (AV.val ρ)) l=some (AV.ao ρ ys):=λ{l}=>by
  induction l with
  |nil=>intro ys h;cases h;simp [uu,AV.ao]
  |cons x l ih=>
   intro ys h;unfold uu at h ⊢;split at h
   .rename_i y i;split at h
    next zs d=>cases h;rw [i,ih d];simp [AV.ao]
    .cases h
   .cases h
 refine ahf (vs:=AV.ao ρ rs) (by rw [AV.bm];exact c h) (λa k=>SL (g:=λr=>(HA X fr st r).map (AV.val ρ)) (λr v hv=>?_) (b h)) amI m;cases e:HA X fr st r with
 |none=>rw [e] at hv;cases hv
 |some u=>
  rw [e] at hv;cases hv;exact (aof j e).run k
end
theorem afA{R:Type}{X:Cx}{h:HT}{fn:Func}{f:FuncId}{ps:List Pt}{KF:List AV->List Row->Nat->List (Nat×List AV)->XE->aC->Option R}{s:ew (mu ps)}{r:R}{S:Value->World->Prop}{Sp:vA->World->Prop}
  (Z:X.P.funcs[f]? =some fn) (O:∀e∈tb,e.Ok X.P X.Γ) (K:∀e∈tp,e.Ok X.P X.Γ) (M:∀c∈tc,c.Ok X.P) (hd:ahD X tb tp tc h fn ps KF s=some r) {d:w9} {N:List Nm} {I:eB} {XX:iY} {Φ:Ctx} {w:World}
  (hS:u5 ps d [] [] [] (fL _ s) I XX N) (m:Sat (di I++Φ) w) (J:∀it∈X.Γ,it∈Φ)
  (fin:∀(x:XE) (vs:List AV) (H:List Row) (z:List (Nat×List AV)) (st:aC) (ρ:ay) (w':World),KF vs H N.length z x st=some r->Sat (ab ρ [] st.G++(ab ρ [] (hx x ⟨[],H,fn.ntmps⟩)++Φ)) w'->NB ρ (Jc N.length 0) N->AV.ao ρ vs=d->dF ρ z=XX->
   (∀{A:Ctx} {F:World},Sat (A++(ab ρ [] H++Φ)) F->Sat (A++(eI I++Φ)) F)->KS (BP X.P fn S Sp) x ρ fn.ntmps [] (au ρ [] st.E []) w'):ky X.P f d w S Sp:=by
 -- names of the arguments
 have o:tF (λ(i:Nat)=>(N[i]?).getD cM) id 0 N:=λi a ha=>by simp only [id,ha,qx];exact ⟨trivial,trivial,trivial,λ_=>trivial⟩
 have p:∀(i:Nat) a,N[i]? =some a->(λ(i:Nat)=>(N[i]?).getD cM) (0+i)=a:=λi a ha=>by simp only [hV,ha,qx]
 generalize (λ(i:Nat)=>(N[i]?).getD cM)=ρ at o p;obtain ⟨u,y,f3,v,t⟩:=su (T:=[]) (nm:=id) ps d [] [] [] (fL _ s) I XX N (by simpa only [AV.ao] using hS) o (qd _) [];have fb:=sx (nm:=id) ps [] [] 0 (fL _ s);simp only [iq,gj] at u y f3 v t;unfold ahD at hd;generalize dU id ps [] [] 0 (fL _ s)=L at u y f3 v t fb hd;obtain ⟨vs,R,n,DD,z⟩:=L;simp only at u y f3 v t fb;dsimp only at hd;subst y;generalize hL:ko (Kd (dK R)) N.length (dK R)=L at hd;obtain ⟨G,D,c⟩:=L;dsimp only at hd;split at hd
 .cases hd
 rename_i body j;obtain ⟨h1,h2⟩:=aI hd;simp only [ae] at h1;obtain ⟨⟨h3,h4⟩,h5⟩:=h1;obtain ⟨l1,l2⟩:=aaJ h5;obtain ⟨b,g⟩:=I8 (ids:=Kd (dK R)) (ρ:=ρ) l1;rw [hL] at g;have hc:N.length<=c:=g.le;have V:Sat (ab ρ [] (R.map (·.2))++Φ) w:=Sat.leL (A:=[]) (B:=di I) (C:=Φ) m t.rw;have U:=X9 (A:=[]) V;have e1:ab b [] G=ab ρ [] (dK R):=g.eq;have Q:Sat (ab b [] G++(ab b [] (D++jX R)++Φ)) w:=by
  rw [e1,bk,bf g.ag l2,aO];exact Sat.lX (A:=ab ρ [] (dK R)) (B:=ab ρ [] (jX R)++Φ) U (ab b [] D) (λit W=>by obtain ⟨q,hq,rfl⟩:=List.mem_map.1 W;exact g.rp q hq)
 have l:AV.ao b vs=d:=by rw [AV.bU g.ag _ h4,u]
 refine iv Z j rfl (by rw [<-l,AV.bm];exact h3) ?_;have hE:au b [] (iO 0 vs) []=iota 0 d:=by show aF.env b [] (iO 0 vs)++[]=_;rw [vS,l,iq]
 rw [<-hE];refine aom (fr:=⟨[],D++jX R,fn.ntmps⟩) (st:=⟨c,iO 0 vs,G,h⟩) J O K M body Q h2 (λx st' ρ' w' a1 a2 a3 a4=>?_);have k:aT N.length ρ ρ':=g.ag.trans (a1.less hc) (bb _);refine fin x vs (D++jX R) (acH z (fC G)) st' ρ' w' a3 a4 (ajQ (N:=N) (λi a ha=>by
   have hi:i<N.length:=(List.getElem?_eq_some_iff.1 ha).1;rw [k _ (by omega)];exact p i a ha)) (by rw [AV.bU k _ h4,u]) ?_ (λ{A F} hw=>?_)
 .rw [v];refine acj ?_;have g1:(fC G).map (AV.ao ρ')=(fC G).map (AV.ao b):=LZ a1 g.lw;have g2:(fC G).map (AV.ao b)=(fC (dK R)).map (AV.ao ρ):=g.bx;rw [g1,g2,<-fb,qG];rfl
 .rw [bk,aO] at hw;have p4:=hw.Sj;have Y:ab ρ' [] (jX R)=ab ρ [] (jX R):=bf k l2;rw [Y] at p4;exact L8 t p4
theorem M6{X:Cx}{e:aq}{fn:Func}{S:Value->World->Prop}{Sp:vA->World->Prop}{q:ew (lD e.r++gi e.os)}{a:w9}{N:List Nm}{I:eB}{w:iY}{Φ:Ctx}{vs:List AV}{H:List Row}{g:List (Nat×List AV)}{st:aC}{ρ:ay}{w':World}
  (b:ahi X e fn ⟨[],H,fn.ntmps⟩ N.length (λ(i:Nat)=>vs[i]?) (vJ (Jc N.length 0) e.ps vs g) st=some q) (F:Sat (ab ρ [] st.G++(ab ρ [] H++Φ)) w') (j:NB ρ (Jc N.length 0) N) (c:AV.ao ρ vs=a) (Y:dF ρ g=w)
  (d:∀{A:Ctx} {x:World},Sat (A++(ab ρ [] H++Φ)) x->Sat (A++(eI I++Φ)) x)
  (u:∀v w',(∃(N1 N2:List Nm) (K J:List bZ) (l k:eB) (X1 Z:iY),Sem e.r v none none N K l X1 N1/\Ft (Ug N e.ps a w) (λ(i:Nat)=>a[i]?) e.os N1 J k Z N2/\K++J=fL _ q/\Sat ((di l++di k)++(eI I++Φ)) w')->S v w'):
  At (BP X.P fn S Sp) .ret fn.ntmps [] (au ρ [] st.E []) w':=by
 unfold ahi at b;split at b
 .rename_i rs o;refine aji (fr:=⟨[],H,fn.ntmps⟩) F o (u _ _ ?_);generalize E7 rs=v at b;have f:=iP (ids:=rQ st.G H e.r v++S3 st.G H (λ(i:Nat)=>vs[i]?) (vJ (Jc N.length 0) e.ps vs g) e.os) F;change Sat (ab ρ [] (alY e ⟨[],H,fn.ntmps⟩ st v (λ(i:Nat)=>vs[i]?) (vJ (Jc N.length 0) e.ps vs g))++_) w' at f;generalize alY e ⟨[],H,fn.ntmps⟩ st v (λ(i:Nat)=>vs[i]?) (vJ (Jc N.length 0) e.ps vs g)=G' at b f;unfold apy at b;split at b
  .rename_i m p;split at b
   .rename_i C s;obtain ⟨n,V⟩:=aI b;simp only [ae] at n;obtain ⟨N1,l,L,U,O⟩:=Hy f e.r v none none _ m N p j (λq W=>by cases W);obtain ⟨N2,k,y,n2,M⟩:=UY f e.os m.B C N1 s U;have t:(λi=>eX ρ (vJ (Jc N.length 0) e.ps vs g i))=Ug N e.ps a w:=by
     funext i
     rw [<-agb j,c,Y]
    have h:(λ(i:Nat)=>(vs[i]?).map (AV.val ρ))=λ(i:Nat)=>a[i]? :=by
     funext i
     rw [<-c,W2]
    rw [t,h] at y;obtain ⟨T,_⟩:=MT f (O.append M);obtain ⟨z,_⟩:=vR f T (wv n.1);rw [BO n.2] at z;have R:=z.Sj;have Q:=d R;refine ⟨N1,N2,m.D,C.D,l,k,_,_,L,y,(AG _ V).symm,?_⟩;simpa [di] using Q
   .cases b
  .cases b
 .cases b
theorem apm{X:Cx}{h:HT}{fn:Func}{e:aq}(t:Enters X.P e.f)(q:X.P.funcs[e.f]? =some fn)(p:∀e∈tb,e.Ok X.P X.Γ)(n:∀e∈tp,e.Ok X.P X.Γ)(o:∀c∈tc,c.Ok X.P)(B:∀s r,e.m s=some r->adA X tb tp tc h fn e s=some r):e.Ok X.P X.Γ:=by
 refine ⟨t,λs r A z N I D Φ w C g k=>?_⟩;refine afA q p n o (B s r A) C g k (λx vs H E st ρ w' b y j d u a=>?_);cases x with
 |nrm=>exact M6 b y j d u a (λ_ _ h=>h)
 |ret=>exact M6 b y j d u a (λ_ _ h=>h)
 |ext i=>cases b
 |gto l=>cases b
 |gO v=>cases b
 |panE v=>cases b
 |panL v=>cases b
theorem aor{X:Cx}{h:HT}{fn:Func}{e:bI}(S:Enters X.P e.f)(R:X.P.funcs[e.f]? =some fn)(O:∀e∈tb,e.Ok X.P X.Γ)(L:∀e∈tp,e.Ok X.P X.Γ)(M:∀c∈tc,c.Ok X.P)(hm:∀s r,e.m s=some r->alf X tb tp tc h fn e s=some r):e.Ok X.P X.Γ:=by
 refine ⟨S,λs r hr V N I XX Φ w hS C K=>?_⟩;refine afA R O L M (hm s r hr) hS C K (λx vs H XA st ρ w' t u D B U b=>?_);have o:∀(v:AV) (H:List Row) (F:Ctx),Sat (ab ρ [] st.G++(ab ρ [] H++Φ)) w'->(∀{A:Ctx},Sat (A++(ab ρ [] H++Φ)) w'->Sat (A++(F++Φ)) w')->∀(pp:Pt) (pq:Option Pt) (p:Vq pp pq),BY pp pq ⟨[],H,fn.ntmps⟩ v st=some p->∃(N1:List Nm) (d:eB) (k:iY),alo pp pq p (v.val ρ) d k N1/\Sat (di d++(F++Φ)) w':=λv H F u b pp pq p hp=>by
  have one:∀(pp:Pt) (p:ew (lD pp)),Nw pp ⟨[],H,fn.ntmps⟩ v st=some p->∃(N1:List Nm) (d:eB) (k:iY),Sem pp (v.val ρ) none none [] (fL _ p) d k N1/\Sat (di d++(F++Φ)) w':=λpp p hp=>by
   unfold Nw at hp;have E:=iP (ids:=rQ st.G H pp v) u;generalize cm (rQ st.G H pp v) st.G=G' at hp E;split at hp
   next mr Q=>obtain ⟨J,k2⟩:=aI hp;simp only [ae] at J;obtain ⟨N1,d,n,n1,W⟩:=Hy E pp v none none _ mr [] Q .nil (λq g=>by cases g);obtain ⟨Z,_⟩:=MT E W;obtain ⟨T,_⟩:=vR E Z (wv J.1);rw [BO J.2] at T;have Y:=b T.Sj;rw [<-AG _ k2] at n;exact ⟨N1,d,_,n,by simpa [di] using Y⟩
   .cases hp
  cases pq with
  |none=>exact one pp p hp
  |some q=>
   simp only [BY] at hp;split at hp
   next x hx=>cases hp;exact one pp x hx
   .cases g:Nw q ⟨[],H,fn.ntmps⟩ v st with
    |none=>rw [g] at hp;cases hp
    |some x=>
     rw [g] at hp;cases hp;exact one q x g
 have z:∀{A:Ctx},Sat (A++(eI I++Φ)) w'->Sat (A++(aA e.lp [] (eI I)++Φ)) w':=λh=>by
  cases e.lp
  .exact h
  .exact Sat.Ki h
 cases x with
 |nrm=>
  obtain ⟨x,q,g,rfl,hi⟩:=aaS t;exact M6 g u D B U b (λ_ _ h=>⟨x,q,rfl,hi,h⟩)
 |ret=>
  obtain ⟨x,q,g,rfl,hi⟩:=aaS t;exact M6 g u D B U b (λ_ _ h=>⟨x,q,rfl,hi,h⟩)
 |ext i=>cases t
 |gto l=>cases t
 |gO v=>
  have a:(BY e.pp e.pq ⟨[],H,fn.ntmps⟩ v st).map Except.error=some r:=t;cases hp:BY e.pp e.pq ⟨[],H,fn.ntmps⟩ v st with
  |none=>rw [hp] at a;cases a
  |some p=>
   rw [hp] at a;cases a;obtain ⟨N1,d,k,n,y⟩:=o v H (eI I) u b e.pp e.pq p hp;exact ahB ⟨p,rfl,v.val ρ,N1,d,k,rfl,n,z y⟩
 |panE v=>
  have a:(BY e.pp e.pq ⟨[],H,fn.ntmps⟩ v st).map Except.error=some r:=t;cases hp:BY e.pp e.pq ⟨[],H,fn.ntmps⟩ v st with
  |none=>rw [hp] at a;cases a
  |some p=>
   rw [hp] at a;cases a;obtain ⟨N1,d,k,n,y⟩:=o v H (eI I) u b e.pp e.pq p hp;exact (ahB ⟨p,rfl,v.val ρ,N1,d,k,rfl,n,z y⟩:BE _ _ [] _).at
 |panL v=>
  have a:(aA (e.lp||P5 H) (BY e.pp e.pq ⟨[],da H,fn.ntmps⟩ v st) none).map Except.error=some r:=t;cases j:e.lp||P5 H with
  |false=>rw [j] at a;cases a
  |true=>
   rw [j] at a;replace a:(BY e.pp e.pq ⟨[],da H,fn.ntmps⟩ v st).map Except.error=some r:=a;cases hp:BY e.pp e.pq ⟨[],da H,fn.ntmps⟩ v st with
   |none=>rw [hp] at a;cases a
   |some p=>
    rw [hp] at a;cases a;obtain ⟨N1,d,k,n,y⟩:=o v (da H) (aA e.lp [] (eI I)) u (λh=>by
     cases hl:e.lp
     .rw [hl,qv] at j;rw [Wn j] at h;exact b h
     .exact Sat.Ki h) e.pp e.pq p hp
    exact (ahB ⟨p,rfl,v.val ρ,N1,d,k,rfl,n,y⟩:BE _ _ [] _).at
theorem dN{X:Cx}{A B:Type}{E:(A->Option B)->aq}{F:(A->Option B)->A->Option B}(b:(E λ_=>none).Ok X.P X.Γ)(a:∀k,(E k).Ok X.P X.Γ->(E (F k)).Ok X.P X.Γ):∀n,(E (aw F n)).Ok X.P X.Γ
 |0=>b
 |n+1=>a _ (dN b a n)
theorem aci{X:Cx}{A B:Type}{E:(A->Option B)->bI}{F:(A->Option B)->A->Option B}(b:(E λ_=>none).Ok X.P X.Γ)(a:∀k,(E k).Ok X.P X.Γ->(E (F k)).Ok X.P X.Γ):∀n,(E (aw F n)).Ok X.P X.Γ
 |0=>b
 |n+1=>a _ (aci b a n)
theorem aX{X:Cx}{fn:Func}{e:aq}(h:HT)(i:Enters X.P e.f)(g:X.P.funcs[e.f]? =some fn)(d:∀e∈tb,e.Ok X.P X.Γ)(a:∀e∈tp,e.Ok X.P X.Γ)(b:∀c∈tc,c.Ok X.P)(eq:∀s,adA X tb tp tc h fn e s=e.m s):e.Ok X.P X.Γ:=
 apm i g d a b λs _ j=>(eq s).trans j
theorem oC{X:Cx}{fn:Func}{e:bI}(h:HT)(i:Enters X.P e.f)(g:X.P.funcs[e.f]? =some fn)(d:∀e∈tb,e.Ok X.P X.Γ)(a:∀e∈tp,e.Ok X.P X.Γ)(b:∀c∈tc,c.Ok X.P)(eq:∀s,alf X tb tp tc h fn e s=e.m s):e.Ok X.P X.Γ:=
 aor i g d a b λs _ j=>(eq s).trans j
theorem al{E:Type}{p:E->Prop}:∀e∈([]:List E),p e:=λ_ h=>by cases h
theorem aj{E:Type}{p:E->Prop}{x:E}{l:List E}(hx:p x)(b:∀e∈l,p e):∀e∈x::l,p e:=λe a=>by
 rcases List.mem_cons.1 a with rfl|a
 .exact hx
 .exact b e a
def abJ(x:Int):Bool:=decide (-9223372036854775808<=x)&&decide (x<=9223372036854775807)
theorem adv{x:Int}:abJ x=true↔ -9223372036854775808<=x/\x<=9223372036854775807:=by simp [abJ]
open Go.Proofs Go.Shelf Go.Lib
theorem aoJ{Γg:Ctx}{ρ:Go.Shelf.Ren}(L:Go.Proofs.LaysM.n145 P ρ)(B:Enters P (ρ.f 145))(o:glx (ρ.g 1)∈Γg)
  (p:aE->aE->Option (aE×aE×Bool)) (z:∀s t r,p s t=some r->s.length<4294967281/\r=Lib.cut s t):(⟨ρ.f 145,[.str,.str],.cG [.str,.str,.bool],[],λs=>p s.1 s.2⟩:aq).Ok P Γg:=by
 refine ⟨B,λs r y vs N I X Φ w A k l=>?_⟩;obtain ⟨D,u,U,T,O,M,H,G,N1,rfl,⟨a,rfl,rfl,rfl,rfl,rfl⟩,⟨C,q,R,Q,K,J,F,E,N2,rfl,⟨b,rfl,rfl,rfl,rfl,rfl⟩,⟨rfl,rfl,rfl,rfl,rfl⟩,rfl,rfl,rfl⟩,j,rfl,rfl⟩:=A;obtain ⟨d,c⟩:=s;obtain ⟨h,rfl⟩:=z d c r y;have j:[(⟨.s,d⟩:bZ),⟨.s,c⟩]=[⟨.s,a⟩,⟨.s,b⟩]:=j;simp only [qb,and_true] at j;have x:d=a:=by cases j.1;rfl
 have v:c=b:=by cases j.2;rfl
 subst x v;have k:Sat Φ w:=k;obtain ⟨i,hi⟩:=ti (l _ o);obtain ⟨_,m,hc⟩:=k.at_ hi;refine Calls.mono (Any.strings_Cut { L with } ⟨d.toArray⟩ ⟨c.toArray⟩ m w h hc) ?_;rintro e w' ⟨rfl,n,rfl⟩;refine ⟨[],[],[⟨.s,(Lib.cut d c).1⟩,⟨.s,(Lib.cut d c).2.1⟩,⟨.bo,(Lib.cut d c).2.2⟩],[],[],[],[],[],
  ⟨[S (Lib.cut d c).1,S (Lib.cut d c).2.1,.bool (Lib.cut d c).2.2],rfl,_,_,_,_,_,_,_,_,_,rfl,⟨_,rfl,rfl,rfl,rfl,rfl⟩,⟨_,_,_,_,_,_,_,_,_,rfl,⟨_,rfl,rfl,rfl,rfl,rfl⟩,⟨_,_,_,_,_,_,_,_,_,rfl,⟨_,rfl,rfl,rfl,rfl,rfl⟩,⟨rfl,rfl,rfl,rfl,rfl⟩,rfl,rfl,rfl⟩,rfl,rfl,rfl⟩,rfl,rfl,rfl⟩,⟨rfl,rfl,rfl,rfl⟩,rfl,?_⟩
 exact Sat.ext (Γ:=Φ) k ⟨rfl,rfl,rfl,bb _,λb hb=>rfl⟩
open Go.Proofs Go.Shelf Go.Lib Go.RowKit
def wl:aE->aE->List aE
 |[],cur=>if cur.isEmpty then [] else [cur]
 |b::l,cur=>if b==32 then (if cur.isEmpty then wl l [] else cur::wl l []) else wl l (cur++[b])
theorem afy:∀(k:Nat) (l cur:aE),k<=l.length->(∀j,j<k->l.getD j 0≠32)->wl l cur=wl (l.drop k) (cur++l.take k)
 |0,l,cur,_,_=>by simp
 |k+1,[],cur,h,_=>by simp at h
 |k+1,b::t,cur,h,hz=>by
  have a:b≠32:=by simpa using hz 0 (by omega)
  rw [wl,j0 (by simpa using a),afy k t (cur++[b]) (by simp at h;omega) (λj c=>by simpa using hz (j+1) (by omega))];simp
theorem aqA(n a d c b:Nat):((decodeN n a d c b).1=32↔a=32)/\(a=32->(decodeN n a d c b).2=1):=by
 unfold decodeN
 repeat' split
 all_goals (refine ⟨⟨λh=>?_,λh=>?_⟩,λh=>?_⟩ <;> simp only at h ⊢ <;> omega)
theorem aql(s:ByteArray)(pos:Nat)(h:pos<s.size):((Utf8.decode s pos).1==32)=(s.data.toList.getD pos 0==32)/\(s.data.toList.getD pos 0=32->(Utf8.decode s pos).2=1)/\pos+(Utf8.decode s pos).2<=s.size/\
  (s.data.toList.getD pos 0≠32->∀j,j<(Utf8.decode s pos).2->s.data.toList.getD (pos+j) 0≠32):=by
 have c:s.data.toList.length=s.size:=ch;rw [decode_N,c];have b:∀x:UInt8,x=32↔x.toNat=32:=λx=>⟨λh=>by rw [h];rfl,λh=>UInt8.toNat_inj.1 h⟩;have f:=aqA (s.size-pos) (s.data.toList.getD pos 0).toNat (s.data.toList.getD (pos+1) 0).toNat (s.data.toList.getD (pos+2) 0).toNat (s.data.toList.getD (pos+3) 0).toNat
 obtain ⟨l,k,i,m⟩:=decodeN_conts (s.size-pos) (s.data.toList.getD pos 0).toNat (s.data.toList.getD (pos+1) 0).toNat (s.data.toList.getD (pos+2) 0).toNat (s.data.toList.getD (pos+3) 0).toNat
 have g:=decodeN_le_n' (s.size-pos) (s.data.toList.getD pos 0).toNat (s.data.toList.getD (pos+1) 0).toNat (s.data.toList.getD (pos+2) 0).toNat (s.data.toList.getD (pos+3) 0).toNat (by omega);generalize decodeN (s.size-pos) (s.data.toList.getD pos 0).toNat (s.data.toList.getD (pos+1) 0).toNat (s.data.toList.getD (pos+2) 0).toNat (s.data.toList.getD (pos+3) 0).toNat=q at*;refine ⟨?_,λh=>f.2 ((b _).1 h),by omega,λd j a e=>?_⟩
 .rw [qN,kX,kX,f.1,b]
 .have e:=(b _).1 e
  match j,a,e with
  |0,_,e=>exact d ((b _).2 e)
  |1,a,e=>have:=(l (by omega)).1;omega
  |2,a,e=>have:=(k (by omega)).1;omega
  |3,a,e=>have:=(i (by omega)).1;omega
  |j+4,a,_=>omega
def wR(L:aE)(pos:Nat):xb->aE
 |some a=>(L.drop a).take (pos-a)
 |none=>[]
theorem ak8(s:ByteArray):∀(f pos:Nat) (st:xb) (b:List (Nat×Nat)),s.size<=pos+f->pos<=s.size->(∀a,st=some a->a<pos)->
  (closeSpans s (spansFromP (λr=>r==32) s f pos st b)).map (λx=>(s.extract x.1 x.2).data.toList)=
   b.map (λx=>(s.extract x.1 x.2).data.toList)++wl (s.data.toList.drop pos) (wR s.data.toList pos st):=by
 intro f
 induction f with
 |zero=>
  intro pos st b u t g;have hp:pos=s.size:=by omega
  have i:s.data.toList.length=s.size:=ch;subst hp;rw [eF (by omega)];cases st with
  |none=>simp [spansFromP,closeSpans,wl,wR]
  |some a=>
   have:=g a rfl;have c:((s.data.toList.drop a).take (s.size-a)).isEmpty=false:=by rw [qW,<-List.length_pos_iff,b0,cq];omega
   simp [spansFromP,closeSpans,wl,wR,c]
 |succ f ih=>
  intro pos st b u t g;have i:s.data.toList.length=s.size:=ch;by_cases e:pos<s.size
  .obtain ⟨w,d2,l,v⟩:=aql s pos e;have y:=width_pos s pos;have q:s.data.toList.getD pos 0=s.data.toList[pos]'(by omega):=by rw [List.getD,cb (by omega)];rfl
   simp only [spansFromP,e,qn,w];by_cases hb:s.data.toList.getD pos 0=32
   .have o:=d2 hb;rw [o];rw [lk (by simpa using hb)];have hd:s.data.toList.drop pos=32::s.data.toList.drop (pos+1):=by rw [gx (by omega),<-q,hb]
    rw [hd];cases st with
    |none=>rw [ih (pos+1) none b (by omega) (by omega) (λa h=>by cases h)];simp [wl,wR]
    |some a=>
     have:=g a rfl;have c:((s.data.toList.drop a).take (pos-a)).isEmpty=false:=by rw [qW,<-List.length_pos_iff,b0,cq];omega
     show (closeSpans s (spansFromP _ s f (pos+1) none (b++[(a,pos)]))).map _=_;rw [ih (pos+1) none (b++[(a,pos)]) (by omega) (by omega) (λa h=>by cases h)];simp [wl,wR,c]
   .rw [j0 (by simpa using hb)];generalize m:(Utf8.decode s pos).2=k at*;have n:=afy k (s.data.toList.drop pos) (wR s.data.toList pos st) (by rw [cq];omega) (λj p=>by rw [getD_dropU];exact v hb j p);rw [n,mj];have d:∀a,a<=pos->(s.data.toList.drop a).take (pos-a)++(s.data.toList.drop pos).take k=(s.data.toList.drop a).take (pos+k-a):=λa ha=>by rw [show pos+k-a=(pos-a)+k by omega,List.take_add,mj,show a+(pos-a)=pos by omega]
    cases st with
    |none=>
     show (closeSpans s (spansFromP _ s f (pos+k) (some pos) b)).map _=_;rw [ih (pos+k) (some pos) b (by omega) l (λa h=>by cases h;omega)];have:=d pos (bb _);rw [Nat.sub_self,List.take_zero,mo] at this;simp [this,wR]
    |some a=>
     show (closeSpans s (spansFromP _ s f (pos+k) (some a) b)).map _=_;have ha:=g a rfl;rw [ih (pos+k) (some a) b (by omega) l (λz h=>by cases h;omega)];simp [d a (by omega),wR]
  .rw [spansFromP_end _ _ _ _ _ _ e];have hp:pos=s.size:=by omega
   subst hp;rw [eF (by omega)];cases st with
   |none=>simp [closeSpans,wl,wR]
   |some a=>
    have:=g a rfl;have c:((s.data.toList.drop a).take (s.size-a)).isEmpty=false:=by rw [qW,<-List.length_pos_iff,b0,cq];omega
    simp [closeSpans,wl,wR,c]
theorem XY(s:aE):(goFieldsP (λr=>r==32) ⟨s.toArray⟩).map (λb=>Value.string b)=(wl s []).map S:=by
 have h:=ak8 ⟨s.toArray⟩ s.length 0 none [] (by show s.toArray.size<=0+s.length;simp) (qd _) (λa h=>by cases h);have c:(goFieldsP (λr=>r==32) ⟨s.toArray⟩).map (λb=>b.data.toList)=wl s []:=by unfold goFieldsP spansOfP;rw [qG,show (⟨s.toArray⟩:ByteArray).size=s.length from mi];exact h
 rw [<-c,qG];exact qw λb _=>by simp [S]
theorem aoh{Γg:Ctx}{ρ:Go.Shelf.Ren}(L:Go.Proofs.LaysM.n229 P ρ)(O:Enters P (ρ.f 229)){g:FuncId}(eg:Enters P g)(J:∀(W:World) (x:Nat),FnGives P g #[] #[.int .i32 x] (.bool (x==32)) W)
  (m:aE->Option (List aE)) (H:∀s r,m s=some r->s.length<=4294967296/\r=wl s []):(⟨ρ.f 229,[.str,.fn g [] []],.sli .s,[],λs=>m s⟩:aq).Ok P Γg:=by
 refine ⟨O,λs r F vs N I X Φ w K y E=>?_⟩;obtain ⟨R,C,D1,D2,I1,I2,X1,X2,N1,rfl,⟨a,rfl,rfl,rfl,rfl,rfl⟩,⟨Q,B,D3,D4,I3,I4,Z,Y,N2,rfl,⟨us,ws,E1,E2,J1,J2,V,U,M1,rfl,_,⟨rfl,rfl,rfl,rfl,rfl⟩,⟨rfl,rfl,rfl,rfl,rfl⟩,rfl,rfl,rfl⟩,⟨rfl,rfl,rfl,rfl,rfl⟩,rfl,rfl,rfl⟩,q,rfl,rfl⟩:=K;obtain ⟨k,rfl⟩:=H s r F;have q:[(⟨.s,s⟩:bZ)]=[⟨.s,a⟩]:=q;simp only [qb,and_true] at q;have D:a=s:=by cases q;rfl
 subst D;have y:Sat Φ w:=y;refine Calls.mono (Any.strings_FieldsFunc { L with } g #[] eg (λr=>r==32) ⟨a.toArray⟩ w k (λW x _=>J W x) L.i154 L.i9) ?_;rintro e w' ⟨A,rfl,T,c,o⟩;have d:(goFieldsP (λr=>r==32) ⟨a.toArray⟩).length=(wl a []).length:=by simpa using congrArg List.length (XY a)
 obtain ⟨p,hp⟩:∃p:fA,p=(some ⟨A,0,none⟩,(wl a []).length,(wl a []).length):=⟨_,rfl⟩;have c:w'.ownsRow w.heap.size (ρ.t 9) 1 (sl p) (wl a []).length ((wl a []).map S):=by rw [hp,<-XY,<-d];exact c
 have hx:Ext w w':=⟨o.os,o.tape,o.output,o.size,o.block⟩;have z:∀M,gb RS (ρ.t 9) M w' (sl p) (wl a []):=λM=>⟨_,R8.of c,Qf _⟩;have n:dv (sl p)=[A]:=by rw [hp];rfl
 have j:Sat (fX RS (ρ.t 9) (sl p) (wl a []) (dv (sl p))::Φ) w':=y.push hx (λb hb=>by have hb:b∈dv (sl p):=hb;refine ⟨(z Φ.M).lt b hb,?_⟩;rw [n,l5] at hb;omega) (λM' _=>bK.of (z M'))
 have u:=j.nd (i:=0) (new:=EY true RS p (wl a []) false) rfl ((Ext.refl w').rz _) (λb hb=>by cases hb) (λM' m G=>λ_=>⟨((j.own (i:=0) rfl).freeze (λb hb=>G b hb (λhb=>by cases hb)) m),λh=>by cases h⟩);refine ⟨[{ cM with v:=p }],[{ cM with v:=p }],[⟨.l .s,wl a []⟩],[],[(false,EY true RS p (wl a []) false)],[],[],[],⟨{ cM with v:=p },wl a [],by rw [d,hp];rfl,rfl,rfl,rfl,rfl⟩,⟨rfl,rfl,rfl,rfl⟩,rfl,?_⟩;exact u
end
end Go.Proofs.YtkedhpmpejhekaaGreatDoor
