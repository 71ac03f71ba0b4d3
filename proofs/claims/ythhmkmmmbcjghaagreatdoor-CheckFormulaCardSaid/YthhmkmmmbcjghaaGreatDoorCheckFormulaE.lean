/- Own texts for CheckFormula, cut and joined by a program. -/
import Derived.Test.YthhmkmmmbcjghaaGreatDoorCheckFormulaD
import Derived.Lib.ItoaNum
set_option linter.all false
namespace Go.Proofs.YthhmkmmmbcjghaaGreatDoor
noncomputable section
variable {o : Oper} {w : World} {ρ : aB}
open Go.Lib
def ki:Nat->List AV->aH
 |_,[]=>[]
 |k,v::vs=>(k,none,v)::ki (k+1) vs
theorem Ad{ρ:aB}:{vs:List AV}->{k:Nat}->aH.env ρ [] (ki k vs)=iota k (AV.ao ρ vs)
 |[],_=>rfl
 |v::vs,k=>by simp only [ki,aH.env,AV.ao,iota,aE.get_none,Ad]
structure lK where
 f:FuncId
 fn:Func
def lK.Ok(P:Program)(c:lK):Prop:=Enters P c.f/\P.funcs[c.f]? =some c.fn
def WS:List lK->Nat->Option lK
 |[],_=>none
 |c::l,f=>aC (Nat.beq c.f f) (some c) (WS l f)
theorem Ur{P:Program}{f:Nat}{c:lK}:{l:List lK}->(∀c∈l,c.Ok P)->WS l f=some c->c.Ok P/\c.f=f
 |[],_,h=>by cases h
 |c'::l,hl,h=>by
  unfold WS at h;rcases eb h with ⟨d,a⟩|⟨_,a⟩
  .cases a;exact ⟨hl _ (cz ..),aS d⟩
  .exact Ur (λc b=>hl c (cb _ b)) a
structure YC(R:Type) where
 id:Nat
 rnd:List AV->aG->(Bool->Nat->aG->Option R)->Option R
def YOk{R:Type}(X:Cx)(y:YC R)(r:R)(ly:Nat)(ρ0:aB)(H0:List Row)(Φ:Nat->Ctx):Prop:=
 ∀(vs:List AV) (st:aG) (ρ:aB) (w:World) (H1:List Row) (KY:Bool->Nat->aG->Option R),y.id<st.c->aZ (y.id+1) ρ0 ρ->AV.cr st.c vs=true->bJ st.c st.G=true->bJ st.c (H1++H0)=true->
  Sat (ab ρ [] st.G++(ab ρ [] (H1++H0)++Φ 0)) w->y.rnd vs st KY=some r->
  Yld X.P ly (AV.ao ρ vs) w (λv w'=>∃b p' st' ρ',v= .bool b/\aZ st.c ρ ρ'/\st.c<=st'.c/\KY b p' st'=some r/\Sat (ab ρ' [] st'.G++(ab ρ' [] (H1++H0)++Φ p')) w')
def noG:List Row->Bool
 |[]=>true
 |r::G=>tg r.gd&&noG G
theorem anF:{G:List Row}->noG G=true->∀r,r∈G->r.gd=none
 |[],_,_,h=>by cases h
 |x::G,h,r,a=>by
  simp only [noG,ar] at h;rcases List.mem_cons.1 a with rfl|a
  .cases b:r.gd with
   |none=>rfl
   |some k=>rw [b] at h;cases h.1
  .exact anF h.2 r a
theorem Wg{T T':aE}{G:List Row}(h:∀r,r∈G->r.gd=none):ab ρ T G=ab ρ T' G:=
 sw λr a=>Row.EP (by rw [h r a];simp)
theorem aeN{T:aE}{fr:Fr}(b:FT T fr):ab ρ T fr.H=ab ρ [] fr.H:=
 sw λr a=>Row.EP (b.2 r a)
def akX{R:Type}(y:YC R)(T:aE)(fr:Fr)(st:aG)(o:Oper)(p:Nat)(K:Nat->cT R):Option (Option R):=match o.guard,o.op,o.dst with
 |none,.call c,some d=>(match c.callee with
  | .value fo=>(match bE T st.E fr.F none fo with
   |some (.nv i)=>some (aC (Nat.beq i y.id&&Nat.beq p 0&&Nat.blt d fr.n&&oG (some d) T&&st.low fr&&noG st.G) (match rW T st.E fr.F none c.args.toList with
     |some vs=>aC (AV.cr st.c vs) (y.rnd vs st (λb p' st'=>K p' { st' with E:=cN (some d) none (.bool b) st.E,G:=mC st'.G,h:=st.h })) none
     |none=>none) none)
   |_=>none)
  |_=>none)
 |_,_,_=>none
inductive UG where
 |dm|skip|run|no
def unK(ops:zf)(fr:Fr)(kn:zh)(E:aH)(o:Oper):UG:=match o.guard with
 |none=> .dm
 |some k=>aC (uL k.1 kn) (match (ops[k.1]?).bind (·.dst) with
  |some rj=>aC (Nat.blt rj fr.n) (match ew E fr.F rj with
   |some (none,.bool b)=>(match yG k.2 b with
    |true=> .run
    |false=> .skip)
   |_=> .no) .no
  |none=> .no) .dm
def knT(ops:zf)(t:Tmp):zh->Bool
 |[]=>false
 |j::kn=>(match (ops[j]?).bind (·.dst) with
  |some d=>Nat.beq d t
  |none=>false)||knT ops t kn
def aam(ops:zf)(fr:Fr)(kn:zh)(E:aH)(o:Oper):Oper:=match o.guard,o.op with
 |none,.pick (.tmp t) x y=>aC (knT ops t kn) (match ew E fr.F t with
  |some (none,.bool v)=>(match v with
   |true=>{ o with op:= .move x }
   |false=>{ o with op:= .move y })
  |_=>o) o
 |_,_=>o
def unO(ops:zf)(fr:Fr)(kn:zh)(E:aH)(o:Oper):UG->Oper
 | .run=>{ o with guard:=none }
 |_=>aam ops fr kn E o
def mL{R:Type}(X:Cx)(tb:List aq)(y:YC R)(ops:zf)(fr:Fr):zf->zh->aE->aG->Nat->(Nat->cT R)->Option R
 |[],_,T,st,p,K=>aC (Ee T fr st) (K p (AA T st)) none
 |o::l,kn,T,st,p,K=>match unK ops fr kn st.E o with
  | .no=>none
  | .skip=>(match o.guard with
   |some k=>aC (Nq fr.n o.dst&&oG o.dst T&& !(VJ k T)) (mL X tb y ops fr l kn T { st with E:=cN o.dst (some k) (.raw undef) st.E } p K) none
   |none=>none)
  |u=>match akX y T fr st (unO ops fr kn st.E o u) p (λp' st'=>mL X tb y ops fr l kn T st' p' K) with
   |some q=>q
   |none=>stepG ops T fr st (unO ops fr kn st.E o u) λT g=>opD X tb T fr st g (unO ops fr kn st.E o u) λst'=>match st'.h,o.dst with
    | .n j (.c ha hb),some d=>aC (Nat.beq j (ops.length-l.length-1)&&oG (some d) T) (match bH st'.E d with
      |some (none,.bool b)=>cond b (mL X tb y ops fr l (j::kn) T { st' with E:=(d,none,.bool true)::st'.E,h:=ha } p K) (mL X tb y ops fr l (j::kn) T { st' with E:=(d,none,.bool false)::st'.E,h:=hb } p K)
      |_=>none) (mL X tb y ops fr l kn T st' p K)
    |_,_=>mL X tb y ops fr l kn T st' p K
section
variable {R : Type} {r : R} {X : Cx} {tb : List aq} {y : YC R} {σ : za} {Q : bD} {D : x3} {ops : zf} {fr : Fr} {Φ : Nat -> Ctx} {ly : Nat} {H0 H1 : List Row} {ρ0 : aB}
theorem atj{P:Program}{n:Nat}{E:Env}{w:World}{ops:zc}{rest:zf}{o:Oper}{j:Nat}{b:Bool}{rj:Tmp}{i:Bool}(d:o.guard=some (j,b))(k:(ops[j]?).bind (·.dst)=some rj)(hl:look E rj=some (true,.bool i))(hn:Nat.blt rj n=true)(hb:yG b i=true)
  (h:WL P σ ops Q n D ({ o with guard:=none }::rest) E w):WL P σ ops Q n D (o::rest) E w:=λa g l=>by
 have c:=h a g l;have f:=Ge (ops:=ops) d k hl g hn;rw [<-Qh,hb] at f;unfold wpListIn at c ⊢;rw [f];have e:Region.wanted { o with guard:=none } (yielded ops a.tmps)=true:=by simp [Region.wanted]
 rw [e] at c;simp only [j2,oi] at c ⊢;exact c
theorem as5{P:Program}{n:Nat}{E:Env}{w:World}{ops:zc}{rest:zf}{o:Oper}{j:Nat}{b:Bool}{rj:Tmp}{e:Bool}(c:o.guard=some (j,b))(f:(ops[j]?).bind (·.dst)=some rj)(hl:look E rj=some (true,.bool e))(hn:Nat.blt rj n=true)(hb:yG b e=false)(hd:Nq n o.dst=true)
  (h:WL P σ ops Q n D rest (rP o.dst false undef E) w):WL P σ ops Q n D (o::rest) E w:=λa d k=>
 wpListIn_step λK i=>by rw [Ge c f hl d hn,<-Qh,hb];simp only [j2,cL,j3];have:=d.rP (g:=false) (v:=undef) hd;exact ⟨λ_ _=>trivial,i _ _ (h _ this (by rw [jq];exact k))⟩
def IsY(y:YC R)(ρ0:aB)(ρ:aB)(c:Nat):Prop:=y.id<c/\aZ (y.id+1) ρ0 ρ
theorem IsY.less{ρ0 ρ':aB}{c a:Nat}(h:IsY y ρ0 ρ c)(d:aZ c ρ ρ')(b:c<=a):IsY y ρ0 ρ' a:=⟨eW h.1 b,h.2.trans d h.1⟩
theorem aur{T:aE}{st:aG}{o:Oper}{p:Nat}{K:Nat->cT R}{l:zf}{ρ:aB}{w:World}{q:Option R}(j:(ρ0 y.id).x= .func (.yield ly) #[] #[])(hY:YOk X y r ly ρ0 H0 Φ)(u:fr.H=H1++H0)(t:IsY y ρ0 ρ st.c)(h1:fJ T st.E fr.F)(I:FT T fr)
  (Z:Sat (ab ρ T st.G++(ab ρ T fr.H++Φ p)) w) (h:akX y T fr st o p K=some q) (hq:q=some r)
  (e:∀p' st' ρ' w',fJ T st'.E fr.F->aZ st.c ρ ρ'->st.c<=st'.c->K p' st'=some r->Sat (ab ρ' T st'.G++(ab ρ' T fr.H++Φ p')) w'->WL X.P σ ops.toArray Q fr.n D l (az ρ' T st'.E fr.F) w'):
  WL X.P σ ops.toArray Q fr.n D (o::l) (az ρ T st.E fr.F) w:=by
 obtain ⟨dst,op,ty,pos,af,gd⟩:=o;unfold akX at h;split at h
 .rename_i c d C B hd;simp only at C B hd;subst C B hd;split at h
  .rename_i fo J;split at h
   .rename_i i s;injection h with h
    rw [hq] at h;obtain ⟨M,z⟩:=aK h;clear h;simp only [ar] at M;obtain ⟨⟨⟨⟨⟨c1,c2⟩,c3⟩,c4⟩,L⟩,c6⟩:=M;have e1:=aS c1;have e2:=aS c2;subst e1 e2;split at z
    .rename_i vs g;obtain ⟨b2,h⟩:=aK z;obtain ⟨cc,xs,tys⟩:=c;simp only at J g;subst J;have a:=bK (ρ:=ρ) s;simp only [AV.val] at a;rw [t.2 _ (mV _),j] at a;have f:=gW (ρ:=ρ) g;rw [aE.get_none] at f;obtain ⟨_,_,W,V⟩:=aG.cS.1 L;have hG:=anF c6;have m:Sat (ab ρ [] st.G++(ab ρ [] (H1++H0)++Φ 0)) w:=by rw [<-u,<-aeN I,Wg (T':=T) hG];exact Z
     have k:=hY vs st ρ w H1 _ t.1 t.2 b2 W (by rw [<-u];exact V) m h;refine aoB (xs:=xs.toList) (vs:=AV.ao ρ vs) a f c3 k (λv w' Y=>?_);obtain ⟨b,p',st',ρ',rfl,O,a2,a3,N⟩:=Y;rw [<-u] at N;have hE:az ρ' T st.E fr.F=az ρ T st.E fr.F:=oh L O;have:=e p' { st' with E:=cN (some d) none (.bool b) st.E,G:=mC st'.G,h:=st.h } ρ' w' (h1.out (d:=some d) c4 none (.bool b)) O a2 a3 (by
      have U:=CW (A:=[]) N;have e3:ab ρ' T (mC st'.G)=ab ρ' [] (mC st'.G):=Wg Au;have S:Sat (ab ρ' T (mC st'.G)++(ab ρ' T fr.H++Φ p')) w':=by rw [e3,aeN I];exact U
      exact S)
     rw [vW,hE] at this;simpa [rP,AV.val] using this
    .cases z
   .cases h
  .cases h
 .cases h
theorem arK{P:Program}{n:Nat}{E:Env}{ops:zc}{rest:zf}{c x y:Operand}{v:Bool}{dst:zb}{ty:TypeId}{pos:String}{af:zd}(g:au E true c (.bool v))
  (h:WL P σ ops Q n D (⟨dst,.move (cond v x y),ty,pos,af,none⟩::rest) E w):WL P σ ops Q n D (⟨dst,.pick c x y,ty,pos,af,none⟩::rest) E w:=λa d j=>
 wpListIn_plain rfl λK i=>lW rfl (by
  have b:=h a d j;unfold wpListIn at b;have l:Region.wanted ⟨dst,.move (cond v x y),ty,pos,af,none⟩ (yielded ops a.tmps)=true:=rfl;rw [pa l] at b;have k:=Oper.wpIn_mono i b;obtain ⟨_,f⟩:=k;rw [show (FW σ).round=σ from rfl,K7 rfl] at f;have e:(execOp a.eval ⟨dst,.pick c x y,ty,pos,af,none⟩).run P w=(execOp a.eval ⟨dst,.move (cond v x y),ty,pos,af,none⟩).run P w:=by cases v <;> simp [execOp,g n a d rfl,asBool]
  rw [e];exact f)
theorem aoU{a:zh}{E:aH}:(aam ops fr a E o).dst=o.dst:=by
 unfold aam;split
 .cases knT ops _ a
  .rfl
  .split
   .split <;> rfl
   .rfl
 .rfl
theorem aut{a:zh}{E:aH}{o:Oper}{ρ:aB}{T:aE}{w:World}{l:zf}(h:WL X.P σ ops.toArray Q fr.n D (aam ops fr a E o::l) (az ρ T E fr.F) w):WL X.P σ ops.toArray Q fr.n D (o::l) (az ρ T E fr.F) w:=by
 obtain ⟨dst,op,ty,pos,af,gd⟩:=o;unfold aam at h;split at h
 .rename_i t x y c b;simp only at c b;subst c b;cases hk:knT ops t a
  .rw [hk] at h;exact h
  .rw [hk] at h;split at h
   next v hl=>refine arK (v:=v) ?_ (by cases v <;> exact h);exact au.t (by rw [hZ,hl];simp [AV.val])
   .exact h
 .exact h
theorem af4{k:Nat×Bool}:{T:aE}->VJ k T=false->T.get (some k)=false
 |[],_=>rfl
 |(k',par,rj,b)::T,h=>by
  simp only [VJ,qh] at h;have a:GK.eq (some k') (some k)=false:=by
   cases hb:GK.eq (some k') (some k)
   .rfl
   .have e:=GK.eq_eq hb;cases e;rw [GK.ain] at h;cases h.1
  unfold aE.get;rw [a];exact af4 h.2
theorem ais(S:∀p,∀it∈X.Γ,it∈Φ p)(V:∀e∈tb,e.Ok X.P X.Γ)(U:(ρ0 y.id).x= .func (.yield ly) #[] #[])(hY:YOk X y r ly ρ0 H0 Φ)(hH:fr.H=H1++H0){K:Nat->cT R}:∀{l:zf} {f:zh} {T:aE} {st:aG} {p:Nat} {ρ:aB} {w:World},IsY y ρ0 ρ st.c->fJ T st.E fr.F->o6 ops fr.n T->FT T fr->Sat (ab ρ T st.G++(ab ρ T fr.H++Φ p)) w->
  mL X tb y ops fr l f T st p K=some r->
  (∀p' st' ρ' w',aZ st.c ρ ρ'->st.c<=st'.c->K p' st'=some r->Sat (ab ρ' [] st'.G++(ab ρ' [] fr.H++Φ p')) w'->At Q .normal fr.n D (az ρ' [] st'.E fr.F) w')->
  WL X.P σ ops.toArray Q fr.n D l (az ρ T st.E fr.F) w
 |[],f,T,st,p,ρ,w,hI,h1,h2,hf,hs,h,next=>by
  unfold mL at h;obtain ⟨h3,h4⟩:=aK h;obtain ⟨k1,k2,k3⟩:=Ke h3 hf hs;exact ct λa C hd=>next p _ ρ w .refl (by rw [k1];exact ch _) h4 k3 a (C.nB k2) hd
 |o::l,f,T,st,p,ρ,w,hI,h1,h2,hf,hs,h,next=>by
  have O:∀{f:zh} {T':aE} {st':aG} {p':Nat} {ρ':aB} {w':World},aZ st.c ρ ρ'->st.c<=st'.c->fJ T' st'.E fr.F->o6 ops fr.n T'->FT T' fr->Sat (ab ρ' T' st'.G++(ab ρ' T' fr.H++Φ p')) w'->mL X tb y ops fr l f T' st' p' K=some r->
    WL X.P σ ops.toArray Q fr.n D l (az ρ' T' st'.E fr.F) w':=λ{f T' st' p' ρ' w'} B z L J I Z a7=>
   ais S V U hY hH (hI.less B z) L J I Z a7 (λp2 st2 ρ2 w2 u s b3 b4=>next p2 st2 ρ2 w2 (B.trans u z) (cK z s) b3 b4)
  -- the operation itself, guarded or not
  have A:∀M:Oper,M.dst=o.dst->(match akX y T fr st M p (λp' st'=>mL X tb y ops fr l f T st' p' K) with
   |some q=>q
   |none=>stepG ops T fr st M λT g=>opD X tb T fr st g M λst'=>match st'.h,o.dst with
    | .n j (.c Y hb),some d=>aC (Nat.beq j (ops.length-l.length-1)&&oG (some d) T) (match bH st'.E d with
      |some (none,.bool b)=>cond b (mL X tb y ops fr l (j::f) T { st' with E:=(d,none,.bool true)::st'.E,h:=Y } p K) (mL X tb y ops fr l (j::f) T { st' with E:=(d,none,.bool false)::st'.E,h:=hb } p K)
      |_=>none) (mL X tb y ops fr l f T st' p K)
    |_,_=>mL X tb y ops fr l f T st' p K)=some r->WL X.P σ ops.toArray Q fr.n D (M::l) (az ρ T st.E fr.F) w:=λM ho' h=>by
   split at h
   next q W=>exact aur U hY hH hI h1 hf hs W h (λp' st' ρ' w' B z L J I=>O z L B h2 hf I J)
   .refine ad1 (K:=λT st'=>match st'.h,o.dst with
     | .n j (.c Y hb),some d=>aC (Nat.beq j (ops.length-l.length-1)&&oG (some d) T) (match bH st'.E d with
       |some (none,.bool b)=>cond b (mL X tb y ops fr l (j::f) T { st' with E:=(d,none,.bool true)::st'.E,h:=Y } p K) (mL X tb y ops fr l (j::f) T { st' with E:=(d,none,.bool false)::st'.E,h:=hb } p K)
       |_=>none) (mL X tb y ops fr l f T st' p K)
     |_,_=>mL X tb y ops fr l f T st' p K) h1 h2 rfl (λ_ h=>h) hf hs (S p) V h (λT' st' ρ' w' B z L J I Z a7 a8=>?_)
    split at Z
    .rename_i j Y hb d hh hd;rcases eb Z with ⟨u,s⟩|⟨_,s⟩
     .simp only [ar] at u;split at s
      .rename_i b hl;have one:∀(v:Bool) (h':HT),b=v->mL X tb y ops fr l (j::f) T' { st' with E:=(d,none,.bool v)::st'.E,h:=h' } p K=some r->WL X.P σ ops.toArray Q fr.n D l (az ρ' T' st'.E fr.F) w':=λv h' hb m=>by
        have:=O (st':={ st' with E:=(d,none,.bool v)::st'.E,h:=h' }) J I (B.out (d:=some d) u.2 none (.bool v)) z L a8 m;refine λa C hd'=>this a (C.nB ?_) hd';intro t pp hp;rw [hZ] at hp ⊢;unfold ew at hp ⊢;cases W:Nat.beq d t
        .rw [fz W] at hp;exact hp
        .have:=aS W;subst this;rw [iG W] at hp;rw [hl,hb];exact hp
       rcases uR s with ⟨c1,c2⟩|⟨c1,c2⟩
       .exact one true Y c1 c2
       .exact one false hb c1 c2
      .cases s
     .exact O J I B z L a8 s
    .exact O J I B z L a8 Z
  unfold mL at h
  -- what is known of its guard
  have kk:∀{v:Bool},(unK ops fr f st.E o= .run/\v=true\/unK ops fr f st.E o= .skip/\v=false)->∃j i rj bj,o.guard=some (j,i)/\(ops[j]?).bind (·.dst)=some rj/\look (az ρ T st.E fr.F) rj=some (true,.bool bj)/\Nat.blt rj fr.n=true/\yG i bj=v:=λ{v} m=>by
   unfold unK at m;split at m
   .rcases m with ⟨h,_⟩|⟨h,_⟩ <;> cases h
   .rename_i k hg;obtain ⟨j,i⟩:=k;cases hm:uL j f
    .simp only [hm] at m;rcases m with ⟨h,_⟩|⟨h,_⟩ <;> cases h
    .simp only [hm] at m;split at m
     .rename_i rj hr;cases hb:Nat.blt rj fr.n
      .simp only [hb] at m;rcases m with ⟨h,_⟩|⟨h,_⟩ <;> cases h
      .simp only [hb] at m;split at m
       .rename_i b hl;refine ⟨j,i,rj,b,hg,hr,by rw [hZ,hl];simp [AV.val],hb,?_⟩;cases hp:yG i b
        .simp only [hp] at m;rcases m with ⟨h,_⟩|⟨_,h⟩
         .cases h
         .exact h.symm
        .simp only [hp] at m;rcases m with ⟨_,h⟩|⟨h,_⟩
         .exact h.symm
         .cases h
       .rcases m with ⟨h,_⟩|⟨h,_⟩ <;> cases h
     .rcases m with ⟨h,_⟩|⟨h,_⟩ <;> cases h
  cases N:unK ops fr f st.E o with
  |no=>rw [N] at h;cases h
  |dm=>rw [N] at h;exact aut (by exact A (aam ops fr f st.E o) aoU h)
  |run=>
   rw [N] at h;obtain ⟨j,i,rj,bj,g1,g2,g3,g4,g5⟩:=kk (v:=true) (.inl ⟨N,rfl⟩);exact atj g1 (by simpa using g2) g3 g4 g5 (A { o with guard:=none } rfl h)
  |skip=>
   rw [N] at h;obtain ⟨j,i,rj,bj,g1,g2,g3,g4,g5⟩:=kk (v:=false) (.inr ⟨N,rfl⟩);dsimp only at h;rw [g1] at h;obtain ⟨u,s⟩:=aK h;simp only [ar] at u;refine as5 g1 (by simpa using g2) g3 g4 g5 u.1.1 ?_;have:=O (st':={ st with E:=cN o.dst (some (j,i)) (.raw undef) st.E }) .refl (ch _) (h1.out u.1.2 _ _) h2 hf hs s;rw [vW] at this;have hg:T.get (some (j,i))=false:=af4 (by simpa using u.2);rw [hg] at this;exact this
end
def kY{R:Type}(X:Cx)(tb:List aq)(y:YC R):Code->Fr->(Nat->XE->aG->Option R)->Nat->aG->Option R
 | .skip,_,K,p,st=>K p .nrm st
 | .exit i,_,K,p,st=>K p (.ext i) st
 | .ret,_,K,p,st=>K p .ret st
 | .block i c,fr,K,p,st=>kY X tb y c fr (λp=>brk i (K p)) p st
 | .cond c a b,fr,K,p,st=>match bE [] st.E fr.F none c with
  |some (.bool v)=>cnd v (λh=>kY X tb y a fr K p { st with h:=h }) (λh=>kY X tb y b fr K p { st with h:=h }) st.h
  |_=>none
 | .seq a b,fr,K,p,st=>kY X tb y a fr (λp=>wA (kY X tb y b fr K p) (K p)) p (match st.h with
  | .s h=>{ st with h:=h }
  |_=>st)
 | .loop c,fr,K,p,st=>match st.h with
  | .l tm q=>aC (st.low fr) (
   match lI (enter fr tm (cY c) st) tm (enter fr tm (cY c) st).Et (enter fr tm (cY c) st).Gt with
   |some s=>aw (λagain s=>kY X tb y c (enter fr tm (cY c) st).fr (λp'=>wA (λst'=>match lI (enter fr tm (cY c) st) tm st'.E st'.G with
      |some s=>aC (Nat.beq p' p) (again s) none
      |none=>none) (λe st'=>K p' e (y7 e (enter fr tm (cY c) st) st'))) p (df (enter fr tm (cY c) st) tm s q)) X.fl s
   |none=>none ) none
  |_=>none
 | .region _ ops false,fr,K,p,st=>mL X tb y ops.toList fr ops.toList [] [] st p (λp=>K p .nrm)
 | .region _ ops true,fr,K,p,st=>match st.h with
  | .r th h=>KT X tb [] (λ_ _=>none) ops fr th { st with h:=h } (K p .nrm)
  |_=>KT X tb [] (λ_ _=>none) ops fr [] st (K p .nrm)
 |_,_,_,_,_=>none
section
variable {R : Type} {r : R} {X : Cx} {tb : List aq} {y : YC R} {D : x3} {Φ : Nat -> Ctx} {ly : Nat} {H0 : List Row} {ρ0 : aB}
def adb(Q:bD)(D:x3)(fr:Fr)(Φ:Nat->Ctx)(c0:Nat)(ρ0:aB)(r:R)(K:Nat->XE->aG->Option R):Prop:= ∀p,jR Q D fr (Φ p) c0 ρ0 r (K p)
theorem adb.less{Q:bD}{fr:Fr}{b c1:Nat}{ρ0 a:aB}{K:Nat->XE->aG->Option R}(h:adb Q D fr Φ b ρ0 r K)(d:aZ b ρ0 a)(c:b<=c1):adb Q D fr Φ c1 a r K:=λp=>(h p).less d c
theorem Am(j:∀p,∀it∈X.Γ,it∈Φ p)(o:∀e∈tb,e.Ok X.P X.Γ)(t:(ρ0 y.id).x= .func (.yield ly) #[] #[])(O:YOk X y r ly ρ0 H0 Φ):∀(c:Code) {Q:bD} {fr:Fr} {H1:List Row} {K:Nat->XE->aG->Option R} {p:Nat} {st:aG} {ρ:aB} {w:World},fr.H=H1++H0->IsY y ρ0 ρ st.c->Sat (ab ρ [] st.G++(ab ρ [] fr.H++Φ p)) w->
  kY X tb y c fr K p st=some r->adb Q D fr Φ st.c ρ r K->WC X.P none c Q fr.n D (az ρ [] st.E fr.F) w
 | .skip,Q,fr,H1,K,p,st,ρ,w,hH,hI,hs,h,hK=>sQ (hK p .nrm st ρ w .refl (ch _) (by unfold kY at h;exact h) hs)
 | .exit i,Q,fr,H1,K,p,st,ρ,w,hH,hI,hs,h,hK=>aaL (hK p (.ext i) st ρ w .refl (ch _) (by unfold kY at h;exact h) hs)
 | .ret,Q,fr,H1,K,p,st,ρ,w,hH,hI,hs,h,hK=>A3 (hK p .ret st ρ w .refl (ch _) (by unfold kY at h;exact h) hs)
 | .block i c,Q,fr,H1,K,p,st,ρ,w,hH,hI,hs,h,hK=>UT (Am j o t O c hH hI hs (by unfold kY at h;exact h) (λp=>V2 (hK p)))
 | .cond c a b,Q,fr,H1,K,p,st,ρ,w,hH,hI,hs,h,hK=>by
  unfold kY at h;split at h
  next v hb=>have N:=bK (ρ:=ρ) hb;simp only [AV.val] at N;obtain ⟨h1,T,q1,q2⟩:=Vm h;exact jS N (λhv=>Am j o t O a (st:={ st with h:=h1 }) hH hI hs (q1 hv) hK) (λhv=>Am j o t O b (st:={ st with h:=T }) hH hI hs (q2 hv) hK)
  .cases h
 | .seq a b,Q,fr,H1,K,p,st,ρ,w,hH,hI,hs,h,hK=>by
  unfold kY at h;have z:∀C,kY X tb y a fr (λp=>wA (kY X tb y b fr K p) (K p)) p { st with h:=C }=some r->WC X.P none (.seq a b) Q fr.n D (az ρ [] st.E fr.F) w:=λC hd=>by
   refine bF (Am j o t O a (st:={ st with h:=C }) hH hI hs hd (λp' e st' ρ' w' B J u I=>?_));by_cases M:e= .nrm
   .subst M;exact bn (Am j o t O b hH (hI.less B J) I u (hK.less B J))
   .rw [nV M] at u;exact iz M (hK p' e st' ρ' w' B J u I)
  split at h
  next C hh=>exact z C h
  .exact z st.h h
 | .loop c,Q,fr,H1,K,p,st,ρ,w,hH,hI,hs,h,hK=>by
  unfold kY at h;split at h
  .rename_i tm q hh;obtain ⟨hl,T⟩:=aK h;obtain ⟨U,en⟩:=y8 (tm:=tm) (m:=cY c) hl hs;generalize enter fr tm (cY c) st=f at T en;split at T
   .rename_i s0 hb0;obtain ⟨ρ2,E',Y,k,DD,b1,b2,b3,b4⟩:=pA en.lF en.lH en.fx en.sat hb0;have W:∀s E' Y k DD,fZ (λn=>f.c+n) f.fix tm.vs 0 (ic _ s)=⟨E',Y,k,DD⟩->df f tm s q=⟨f.c+k,E',rowsOf Y,q⟩:=λs E' Y k DD hb=>by unfold df;rw [hb]
    refine VI (γ:=aB) (λs g w'=>aZ f.c U g/\Sat (ab g [] (df f tm s q).G++(ab g [] f.fr.H++Φ p)) w') (λs g=>az g [] (df f tm s q).E f.fr.F) T ρ2 ⟨b2,?_⟩ ?_ (λA s g w' hag V=>?_)
    .rw [W _ _ _ _ _ b1];exact b4
    .rw [W _ _ _ _ _ b1];exact b3.trans en.sub
    .have N:f.c<=(df f tm s q).c:=by unfold df;generalize fZ (λn=>f.c+n) f.fix tm.vs 0 (ic _ s)=L;obtain ⟨a,b,c,d⟩:=L;exact qI _ _
     have hx:=Am j o t O c (fr:=f.fr) (H1:=f.G++H1) (st:=df f tm s q) (ρ:=g) (Q:=Exit.then (P3 A r (λs g w'=>aZ f.c U g/\Sat (ab g [] (df f tm s q).G++(ab g [] f.fr.H++Φ p)) w') (λs g=>az g [] (df f tm s q).E f.fr.F) fr.n D) Q)
      (by rw [en.fh,hH,bb]) ((hI.less en.ag en.le).less V.1 N) V.2 hag (λp' e st' ρ' w2 B J u I=>?_)
     .rw [en.fn] at hx;exact hx
     .by_cases M:e= .nrm
      .subst M;have S:(match lI f tm st'.E st'.G with|some s=>aC (Nat.beq p' p) (A s) none|none=>none)=some r:=u;split at S
       .rename_i s' hb;obtain ⟨hp,a5⟩:=aK S;have:=aS hp;subst this;obtain ⟨Z,E2,R2,k2,DD2,d1,d2,d3,d4⟩:=pA en.lF en.lH en.fx I hb;rw [en.fn];refine Py s' Z a5 ⟨(V.1.trans (B.less N) (ch _)).trans d2 (ch _),?_⟩ ?_
        .rw [W _ _ _ _ _ d1];exact d4
        .rw [W _ _ _ _ _ d1];exact d3
       .cases S
      .rw [nV M] at u;have:=vY (hK p') en.ag en.le en.ff en.fh en.fn e st' ρ' w2 (V.1.trans (B.less N) (ch _)) (cK N J) u I;exact iz M this
   .cases T
  .cases h
 | .region id ops false,Q,fr,H1,K,p,st,ρ,w,hH,hI,hs,h,hK=>by
  unfold kY at h;obtain ⟨l⟩:=ops;exact bA (ais (σ:=none) j o t O hH hI (λx h=>by cases h) (λx h=>by cases h) ⟨λx _=>rfl,λx _=>rfl⟩ hs h (λp' st' ρ' w' B J u I=>hK p' .nrm st' ρ' w' B J u I))
 | .region id ops true,Q,fr,H1,K,p,st,ρ,w,hH,hI,hs,h,hK=>by
  unfold kY at h;have key:∀th C,KT X tb [] (λ_ _=>none) ops fr th { st with h:=C } (K p .nrm)=some r->WC X.P none (.region id ops true) Q fr.n D (az ρ [] st.E fr.F) w:=λth C hd=>
   UI (K:=λe st=>match e with
    | .nrm=>K p .nrm st
    |_=>none) (st:={ st with h:=C }) (j p) o (λ_ h=>by cases h) hs hd (λe st' ρ' w' B J u I=>by
     cases e with
     |nrm=>exact hK p .nrm st' ρ' w' B J u I
     |_=>cases u)
  split at h
  .exact key _ _ h
  .exact key [] st.h h
 | .label _,Q,fr,H1,K,p,st,ρ,w,hH,hI,hs,h,hK=>by unfold kY at h;cases h
 | .goto _,Q,fr,H1,K,p,st,ρ,w,hH,hI,hs,h,hK=>by unfold kY at h;cases h
 | .scope _,Q,fr,H1,K,p,st,ρ,w,hH,hI,hs,h,hK=>by unfold kY at h;cases h
 | .rangeFunc _ _ _ _,Q,fr,H1,K,p,st,ρ,w,hH,hI,hs,h,hK=>by unfold kY at h;cases h
end
variable {γ : Type} {Ds : γ -> x3}
theorem Sat.swap{w:World}{C D:Ctx}:∀{B A:Ctx},Sat (A++(B++(C++D))) w->Sat (A++(C++(B++D))) w
 |[],A,h=>h
 |x::B,A,h=>by
  have b:Sat ((A++[x])++(B++(C++D))) w:=by simpa using h
  have a:Sat (A++x::(C++(B++D))) w:=by simpa using b.swap
  simpa using Sat.move a
theorem Sat.front{w:World}{A B:Ctx}{x:Item}(h:Sat (A++x::B) w):Sat (x::(A++B)) w:=by have:=Sat.swap (A:=[]) (B:=A) (C:=[x]) (D:=B) (by simpa using h);simpa using this
theorem Sat.behind{w:World}{A B:Ctx}{x:Item}(h:Sat (x::(A++B)) w):Sat (A++x::B) w:=Sat.move (A:=[]) h
theorem Oe{α:Type}{A B:List α}{x:α}:(A++x::B)[A.length]? =some x:=by simp
theorem aii{α:Type}{A B:List α}{x y:α}:(A++x::B).set A.length y=A++y::B:=by
 induction A with
 |nil=>rfl
 |cons a A ih=>simp [ih]
def Ey:Nat->Option Code
 |0=>none
 |1=>some .ret
 |n+2=>aC (Nat.beq (n%2) 0) (some (.exit (n/2))) (some (.goto (n/2)))
def Np:Nat->XE
 |0=> .nrm
 |1=> .ret
 |n+2=>aC (Nat.beq (n%2) 0) (.ext (n/2)) (.gto (n/2))
theorem al5{fr:Fr}:(p:Nat)->hx (Np p) fr=fr.H
 |0=>rfl
 |1=>rfl
 |n+2=>by show hx (aC (Nat.beq (n%2) 0) (.ext (n/2)) (.gto (n/2))) fr=fr.H;cases Nat.beq (n%2) 0 <;> rfl
def OB:Nat->LoopState
 |0=> .ready
 |_+1=> .done
theorem aoi(i:Nat):Ey (2*i+2)=some (.exit i):=by have b:2*i%2=0:=Nat.mul_mod_right 2 i;have a:2*i/2=i:=Nat.mul_div_cancel_left i (by decide);show aC (Nat.beq (2*i%2) 0) (some (Code.exit (2*i/2))) _=_;rw [b,a]
theorem aos(i:Nat):Ey (2*i+3)=some (.goto i):=by
 have b:(2*i+1)%2=1:=by omega
 have a:(2*i+1)/2=i:=by omega
 show aC (Nat.beq ((2*i+1)%2) 0) _ (some (Code.goto ((2*i+1)/2)))=_;rw [b,a]
def aqj:List Tmp->List AV->aH->Option aH
 |[],[],E=>some E
 |p::ps,v::vs,E=>aqj ps vs ((p,none,v)::E)
 |_,_,_=>none
theorem aiW{ρ:aB}{F:Env}:{ps:List Tmp}->{vs:List AV}->{E E':aH}->aqj ps vs E=some E'->aH.env ρ [] E'++F=afK ps (AV.ao ρ vs) (aH.env ρ [] E++F)/\Nat.beq (AV.ao ρ vs).length ps.length=true
 |[],[],E,E',h=>by cases h;exact ⟨rfl,rfl⟩
 |p::ps,v::vs,E,E',h=>by
  obtain ⟨b,a⟩:=aiW (ρ:=ρ) (F:=F) (ps:=ps) (vs:=vs) (E:=(p,none,v)::E) h;refine ⟨?_,?_⟩
  .rw [b];simp [aH.env,AV.ao,afK]
  .simpa [AV.ao] using a
 |[],_::_,_,_,h=>by cases h
 |_::_,[],_,_,h=>by cases h
def agE{R:Type}(X:Cx)(tb:List aq)(tp:List bR)(ps:List Tmp)(assign body:Code)(fr:Fr)(E:aH)(hb:HT)(vs:List AV)(st:aG)(KY:Bool->Nat->aG->Option R):Option R:=match aqj ps vs E with
 |some E'=>den X tb tp assign fr (λe st1=>match e with
  | .nrm=>den X tb tp body fr (λe st2=>match e with
   | .nrm=>KY true 0 st2
   | .ret=>KY false 1 st2
   | .ext i=>KY false (2*i+2) st2
   | .gto l=>KY false (2*l+3) st2
   |_=>none) { st1 with h:=hb }
  |_=>none) ⟨st.c,E',st.G,.o⟩
 |none=>none
section
variable {R : Type} {r : R} {X : Cx} {tb : List aq} {tp : List bR} {fr : Fr}
theorem apq{Φ1:Ctx}(S:∀it∈X.Γ,it∈Φ1)(J:∀e∈tb,e.Ok X.P X.Γ)(I:∀e∈tp,e.Ok X.P X.Γ){ps:List Tmp}{assign body:Code}{E:aH}{hb:HT}{N l b:Nat}{ρ0:aB}{d:LoopState->Option Code->Loop}
  (y:Rec fr.n (az ρ0 [] E fr.F) ps.toArray assign body b d) (hE:E.low N=true) (hF:aH.low N fr.F=true) (hp:ps.all (λp=>Nat.blt p fr.n)=true):
  YOk X ⟨N,agE X tb tp ps assign body fr E hb⟩ r l ρ0 fr.H (λp=>ej l d (OB p) (Ey p)::Φ1):=by
 intro vs st ρ w H1 KY hid W hvs hG Y V h;have L:agE X tb tp ps assign body fr E hb vs st KY=some r:=h;unfold agE at L;split at L
 .rename_i E' hz;have q:aZ N ρ0 ρ:=W.less (jm _);obtain ⟨z1,z2⟩:=aiW (ρ:=ρ) (F:=aH.env ρ [] fr.F) hz;have eE:az ρ0 [] E fr.F=az ρ [] E fr.F:=by rw [az,az,sa q hE,sa q hF]
  rw [eE] at y;have R:bJ st.c H1=true:=by
   clear h L V hz
   induction H1 with
   |nil=>rfl
   |cons x H1 ih=>
    simp only [mj,bJ,ar] at Y ⊢;exact ⟨Y.1,ih Y.2⟩
  -- the row, parted in another way
  have Q:∀{G:List Row} {ρ':aB} {x:Item} {w':World},Sat (ab ρ' [] G++(ab ρ' [] (H1++fr.H)++x::Φ1)) w'->Sat (ab ρ' [] G++(ab ρ' [] fr.H++(ab ρ' [] H1++x::Φ1))) w':=λ{G ρ' x w'} a=>by rw [bu,bb] at a;exact a.swap
  have Z:∀{G:List Row} {ρ':aB} {x:Item} {w':World},Sat (ab ρ' [] G++(ab ρ' [] fr.H++(ab ρ' [] H1++x::Φ1))) w'->Sat (ab ρ' [] G++(ab ρ' [] (H1++fr.H)++x::Φ1)) w':=λ{G ρ' x w'} a=>by rw [bu,bb];exact a.swap
  -- the loop's row, exchanged
  have mid:∀{G:List Row} {ρ':aB} {x:Item},∃A:Ctx,ab ρ' [] G++(ab ρ' [] fr.H++(ab ρ [] H1++x::Φ1))=A++x::Φ1/\∀z,A++z::Φ1=ab ρ' [] G++(ab ρ' [] fr.H++(ab ρ [] H1++z::Φ1)):=λ{G ρ' x}=>
   ⟨ab ρ' [] G++(ab ρ' [] fr.H++ab ρ [] H1),by simp,λz=>by simp⟩
  have T:=Q V;have m:∀x:Item,∀it∈X.Γ,it∈ab ρ [] H1++x::Φ1:=λx it hi=>gj _ (cb _ (S it hi));have U:Sat (ej l d .ready none::(ab ρ [] st.G++(ab ρ [] (H1++fr.H)++Φ1))) w:=by
   have:Sat ((ab ρ [] st.G++ab ρ [] (H1++fr.H))++ej l d .ready none::Φ1) w:=by rw [bb];exact V
   have:=this.front;rw [bb] at this;exact this
  refine as4 y U z2 hp ?_;rw [<-z1];refine gf (σ:=some l) (D:=[]) (Φ:=ab ρ [] H1++ej l d .ready none::Φ1) (m _) J I assign (fr:=fr) (st:=⟨st.c,E',st.G,.o⟩) (ρ:=ρ) T L (λe st1 C w1 a1 a2 a3 a4=>?_);cases e with
  |nrm=>
   obtain ⟨A,e1,e2⟩:=mid (G:=st1.G) (ρ':=C) (x:=ej l d .ready none);have a4':Sat (A++ej l d .ready none::Φ1) w1:=by rw [<-e1];exact a4
   refine ao8 (i:=A.length) y a4' Oe (λw2 K=>?_);rw [aii,e2] at K;refine gf (σ:=some l) (D:=[]) (Φ:=ab ρ [] H1++ej l d .busy none::Φ1) (m _) J I body (fr:=fr) (st:={ st1 with h:=hb }) (ρ:=C) K a3 (λe f t w3 b1 b2 s b4=>?_);obtain ⟨B,e3,e4⟩:=mid (G:=f.G) (ρ':=t) (x:=ej l d .busy none);have k:Sat (B++ej l d .busy none::Φ1) w3:=by rw [<-e3];cases e <;> first|exact b4|cases s
   have M:aZ st.c ρ t:=a1.trans b1 a2;have GV:st.c<=f.c:=cK a2 b2;have g:∀{O:Bool} {p':Nat} {u:World},KY O p' f=some r->Sat ((B++ej l d .busy none::Φ1).set B.length (ej l d (OB p') (Ey p'))) u->
     ∃b p' st' ρ',Value.bool O= .bool b/\aZ st.c ρ ρ'/\st.c<=st'.c/\KY b p' st'=some r/\Sat (ab ρ' [] st'.G++(ab ρ' [] (H1++fr.H)++ej l d (OB p') (Ey p')::Φ1)) u:=λ{O p' u} hk a=>by
    rw [aii,e4,<-bm M R] at a;exact ⟨O,p',f,t,rfl,M,GV,hk,Z a⟩
   cases e with
   |nrm=>exact ap8 (i:=B.length) y k Oe (λu a=>g (p':=0) s a)
   |ret=>exact aeV (i:=B.length) y k Oe (λu a=>g (p':=1) s a)
   |ext i=>exact acO (i:=B.length) y k Oe (λu a=>g (p':=2*i+2) s (by rw [aoi];exact a))
   |gto j=>exact ack (i:=B.length) y k Oe (λu a=>g (p':=2*j+3) s (by rw [aos];exact a))
   |iY v=>cases s
   |panE v=>cases s
   |panL v=>cases s
  |_=>cases a3
 .cases L
end
def Ox:aH->aH
 |[]=>[]
 |(t,_,v)::E=>(t+10000,some (1000000000,false),v)::Ox E
theorem ajj{ρ:aB}:{E:aH}->{t:Nat}->{p:Bool×Value}->look (aH.env ρ [] (Ox E)) t=some p->10000<=t/\p.1=false
 |[],_,_,h=>by cases h
 |(t',g,v)::E,t,p,h=>by
  simp only [Ox,aH.env,look] at h;cases hb:Nat.beq (t'+10000) t
  .rw [hb,bd] at h;exact ajj h
  .rw [hb,cw] at h;have:=aS hb;cases h;exact ⟨by omega,rfl⟩
theorem Fits.far{n:Nat}{E:Env}{a:Act}{ρ:aB}{F:aH}(h:Fits n E a)(hn:n<=10000):Fits n (E++aH.env ρ [] (Ox F)) a:=by
 refine ⟨h.size,λt g v b=>?_⟩;rw [HN] at b;split at b
 next p hp=>cases b;exact h.at_ t g v hp
 .obtain ⟨e,c⟩:=ajj b;simp only at c;subst c;have d:=h.size;have:¬t<a.tmps.size:=by omega
  simp [Array.getD,this,yN]
def itE{R:Type}(Kend:Nat->aG->Option R)(p:Nat):XE->aG->Option R
 | .nrm,st=>Kend p st
 | .ret,st=>Kend p st
 |_,_=>none
def rfD{R:Type}(X:Cx)(tb:List aq)(tp:List bR)(tc:List lK)(ps:List Tmp)(assign body:Code)(gv:AV)(fr:Fr)(st:aG)(hi hb:HT)(Kend:Nat->aG->Option R):Option R:=match gv with
 | .fn f a b=>(match WS tc f with
  |some cl=>(match cl.fn.body with
   |some ib=>aC (cl.fn.results.isEmpty&&Nat.ble (a.length+(b.length+1)) cl.fn.ntmps&&Nat.ble cl.fn.ntmps 10000&&st.low fr&&ps.all (λp=>Nat.blt p fr.n)&&AV.cr st.c a&&AV.cr st.c b) (
     kY X tb ⟨st.c,agE X tb tp ps assign body fr st.E hb⟩ ib ⟨Ox (st.E++fr.F),fr.H,cl.fn.ntmps⟩ (itE Kend) 0 ⟨st.c+1,ki 0 (a++ .nv st.c::b),st.G,hi⟩) none
   |none=>none)
  |none=>none)
 |_=>none
section
variable {P : Program} {n : Nat} {D0 : x3} {E : Env} {w : World} {Γ : Ctx} {Q : bD}
theorem acJ{g:Operand}{ps:Array Tmp}{assign body:Code}{f:FuncId}{first cap:yp}(ds:zh)
  (o:Enters P f) (B:au E true g (.func (.func f) first.toArray cap.toArray)) (A:Sat (eO ds::Γ) w)
  (h:∀(l b:Nat) (r:LoopState->Option Code->Loop) w1,Rec n E ps assign body b r->Sat (ej l r .ready none::eO (b::ds)::Γ) w1->
   gE P f (first++[Value.func (.yield l) #[] #[]]++cap) w1 (l6 P none l n (mk (b::ds)++D0) Q E)):
  WC P none (.rangeFunc g ps assign body) Q n (mk ds++D0) E w:=λa m hd=>by
 refine wpIn_rangeFunc λfn C=>?_;obtain ⟨r,x⟩:∃r:LoopState->Option Code->Loop,r=λst z=>{ state:=st,pending:=z,fn,tmps:=a.tmps,params:=ps,assign,body,defers:=w.heap.size }:=⟨_,rfl⟩;obtain ⟨d,p⟩:∃d,(w.alloc (.deferred (some []))).alloc (.loop (r .ready none))=d:=⟨_,rfl⟩;have t:Sat (vd w.heap.size (.deferred (some []))::eO ds::Γ) (w.alloc (.deferred (some []))):=A.push (fp _ _) (λb hb=>by
  have:b=w.heap.size:=by simpa [vd] using hb
  subst this;simp) (λ_ _=>World.alloc_heap_new w _)
 have s:Sat (ej (w.heap.size+1) r .ready none::eO (w.heap.size::ds)::Γ) d:=by
  rw [<-p];have:=t.SU.push (new:=ej (w.alloc (.deferred (some []))).heap.size r .ready none) (fp _ _) (λb hb=>by
   have:b=(w.alloc (.deferred (some []))).heap.size:=by simpa [vd] using hb
   subst this;simp) (λ_ _=>World.alloc_heap_new (w.alloc (.deferred (some []))) (.loop (r .ready none)))
  rwa [World.size_alloc] at this
 have i:Rec n E ps assign body w.heap.size r:=⟨fn,a.tmps,⟨m.size,m.at_⟩,x⟩;have u:a.eval g=Value.func (.func f) first.toArray cap.toArray:=B n a m rfl;refine ⟨w.heap.size+1,[{ target:= .collected w.heap.size,args:= #[] }],d,{ target:= .fn (.func f) cap.toArray,args:=first.toArray++ #[Value.func (.yield (w.heap.size+1)) #[] #[]] },d,f,
  (first++[Value.func (.yield (w.heap.size+1)) #[] #[]]++cap).toArray,d,?_,?_,λ_ _=>trivial,?_,Kq,?_⟩
 .rw [<-p,x];exact run_enterLoop_outer _ _ _ _ _
 .simp only [resolve,u,Deferred.ofValue];simp [Act.eval]
 .have:=o (first++[Value.func (.yield (w.heap.size+1)) #[] #[]]++cap).toArray d;simp only [invoke];simpa using this
 .refine Ye (Calls.mono (h (w.heap.size+1) w.heap.size r d i s) λe w' o=>?_);cases e with
  |returned v=>
   obtain ⟨j,q,D,y⟩:=o;refine ⟨j,q,D,?_⟩;have k:Fits n E { a with defers:=[{ target:= .collected w.heap.size,args:= #[] }]++a.defers }:=⟨m.size,m.at_⟩;cases j with
   |none=>exact y _ k (by simp [hd,mk])
   |some c=>exact y _ k (by simp [hd,mk])
  |panicked c=>exact o.elim
  |outgrown=>exact o.elim
end
section
variable {R : Type} {r : R} {X : Cx} {tb : List aq} {tp : List bR} {tc : List lK} {fr : Fr} {Φ : Ctx} {D : x3} {Q : bD}
theorem anl(L:∀it∈X.Γ,it∈Φ)(N:∀e∈tb,e.Ok X.P X.Γ)(htp:∀e∈tp,e.Ok X.P X.Γ)(htc:∀c∈tc,c.Ok X.P){g:Operand}{ps:Array Tmp}{assign body:Code}{gv:AV}{st:aG}{hi hb:HT}{m:Nat->aG->Option R}{ρ:aB}{w:World}{ds:zh}
  (hg:bE [] st.E fr.F none g=some gv) (hs:Sat (ab ρ [] st.G++(ab ρ [] fr.H++eO ds::Φ)) w) (h:rfD X tb tp tc ps.toList assign body gv fr st hi hb m=some r)
  (U:∀p st1 d B ds',aZ st.c ρ d->st.c<=st1.c->m p st1=some r->Sat (ab d [] st1.G++(ab d [] fr.H++eO ds'::Φ)) B->Pv Q (Np p) d fr.n (mk ds'++D) (az d [] st.E fr.F) B):
  WC X.P none (.rangeFunc g ps assign body) Q fr.n (mk ds++D) (az ρ [] st.E fr.F) w:=by
 unfold rfD at h;split at h
 .rename_i f a b;split at h
  .rename_i C hcl;obtain ⟨c1,c2⟩:=Ur htc hcl;subst c2;split at h
   .rename_i ib hib;obtain ⟨k1,h1⟩:=aK h;simp only [ar] at k1;obtain ⟨⟨⟨⟨⟨⟨d1,d2⟩,d3⟩,d4⟩,d5⟩,d6⟩,d7⟩:=k1;have k:C.fn.results= #[]:=by simpa using d1
    have hn1:C.fn.ntmps<=10000:=c5 d3;obtain ⟨l1,l2,l3,l4⟩:=aG.cS.1 d4;have T:=bK (ρ:=ρ) hg;simp only [AV.val] at T;have V:AV.cr st.c a=true/\AV.cr st.c b=true:=⟨d6,d7⟩
    -- the marks in front
    have hs0:Sat (eO ds::(ab ρ [] st.G++(ab ρ [] fr.H++Φ))) w:=by
     have:Sat ((ab ρ [] st.G++ab ρ [] fr.H)++eO ds::Φ) w:=by rw [bb];exact hs
     have:=this.front;rwa [bb] at this
    refine acJ ds c1.1 T hs0 (λl j z B O hs1=>?_);have hr':Rec fr.n (az ρ [] st.E fr.F) ps.toList.toArray assign body j z:=by simpa using O
    -- yield's name
    generalize I:ρ.set st.c { dB with x:= .func (.yield l) #[] #[] }=d;have o:aZ st.c ρ d:=by rw [<-I];exact aB.bg
    have M:(d st.c).x= .func (.yield l) #[] #[]:=by rw [<-I,aB.bM]
    have A:AV.ao d (a++ .nv st.c::b)=AV.ao ρ a++[Value.func (.yield l) #[] #[]]++AV.ao ρ b:=by rw [dJ];simp only [AV.ao,AV.val,M];rw [AV.cn o _ V.1,AV.cn o _ V.2];simp
    rw [<-A]
    -- the rows
    have hs2:Sat (ab d [] st.G++(ab d [] fr.H++(ej l z (OB 0) (Ey 0)::eO (j::ds)::Φ))) B:=by
     rw [bm o l3,bm o l4];have e1:Sat ([]++([ej l z .ready none,eO (j::ds)]++((ab ρ [] st.G++ab ρ [] fr.H)++Φ))) B:=by simpa using hs1
     have:=e1.swap;simp only [qO,bb,mj] at this;exact this
    have J:∀p,∀it∈X.Γ,it∈(ej l z (OB p) (Ey p)::eO (j::ds)::Φ):=λp it hi=>cb _ (cb _ (L it hi));have hrr:Rec fr.n (az d [] st.E fr.F) ps.toList.toArray assign body j z:=by rw [oh d4 o];exact hr'
    have hY:=apq (r:=r) (tp:=tp) (hb:=hb) (Φ1:=eO (j::ds)::Φ) (λit hi=>cb _ (L it hi)) N htp (l:=l) hrr l1 l2 d5;refine Calls.mono (ln (S:=l6 X.P none l fr.n (mk (j::ds)++D) Q (az ρ [] st.E fr.F)) (Sp:=λ_ _=>False) c1.2 hib rfl (by rw [AV.bw];simpa [Nat.add_comm,Nat.add_left_comm,qH] using d2) ?_) (λe w' he=>he);have hE:az d [] (ki 0 (a++ .nv st.c::b)) (Ox (st.E++fr.F))=iota 0 (AV.ao d (a++ .nv st.c::b))++aH.env d [] (Ox (st.E++fr.F)):=by show aH.env d [] (ki 0 _)++aH.env d [] _=_;rw [Ad]
    have hx:=Am (r:=r) (D:=[]) (Φ:=λp=>ej l z (OB p) (Ey p)::eO (j::ds)::Φ) J N (y:=⟨st.c,agE X tb tp ps.toList assign body fr st.E hb⟩) M hY ib (Q:=BP X.P C.fn (l6 X.P none l fr.n (mk (j::ds)++D) Q (az ρ [] st.E fr.F)) (λ_ _=>False)) (fr:=⟨Ox (st.E++fr.F),fr.H,C.fn.ntmps⟩) (H1:=[]) (K:=itE m) (st:=⟨st.c+1,ki 0 (a++ .nv st.c::b),st.G,hi⟩) (ρ:=d) (w:=B) rfl ⟨mV _,.refl⟩ hs2 h1 (λp e st1 i Z a1 a2 a3 a4=>?_)
    .rw [hE] at hx;exact λaa hf hd=>hx aa (hf.far hn1) hd
    . -- the iterator's end
     have Y:aZ st.c ρ i:=o.trans (a1.less (jm _)) (ch _);have GV:st.c<=st1.c:=Nat.le_of_succ_le a2;have eE:az i [] st.E fr.F=az ρ [] st.E fr.F:=oh d4 Y;have W:m p st1=some r->l6 X.P none l fr.n (mk (j::ds)++D) Q (az ρ [] st.E fr.F) (.tuple #[]) Z:=λhk=>by
      have t:Sat (ej l z (OB p) (Ey p)::(ab i [] st1.G++(ab i [] fr.H++eO (j::ds)::Φ))) Z:=by
       have:Sat ((ab i [] st1.G++ab i [] fr.H)++ej l z (OB p) (Ey p)::eO (j::ds)::Φ) Z:=by rw [bb];cases e <;> first|exact a4|cases a3
       have:=this.front;rwa [bb] at this
      have at_:∀s,Sat (ab i [] st1.G++(ab i [] fr.H++eO (j::ds)::Φ)) s->Pv Q (Np p) i fr.n (mk (j::ds)++D) (az ρ [] st.E fr.F) s:=λs u=>by have:=U p st1 i s (j::ds) Y GV hk u;rwa [eE] at this
      match p,t,at_ with
      |0,t,at_=>exact l6.go O t (λs u=>at_ s u)
      |1,t,at_=>exact l6.jump O t (λs u=>A3 (at_ s u))
      |q+2,t,at_=>
       simp only [Ey,Np] at t at_;cases hq:Nat.beq (q%2) 0
       .simp only [hq] at t at_;exact l6.jump O t (λs u=>aid (at_ s u))
       .simp only [hq] at t at_;exact l6.jump O t (λs u=>aaL (at_ s u))
     cases e with
     |nrm=>exact (aku (vs:=[]) (by simp [k]) (λaa hf=>by rw [k];simp) (v:= .tuple #[]) rfl (W a3):At (BP X.P C.fn _ _) .ret C.fn.ntmps [] _ Z)
     |ret=>exact aku (vs:=[]) (by simp [k]) (λaa hf=>by rw [k];simp) (v:= .tuple #[]) rfl (W a3)
     |_=>cases a3
   .cases h
  .cases h
 .cases h
end
def rm:Code->Bool
 | .rangeFunc .. =>true
 | .seq a b=>rm a||rm b
 | .cond _ a b=>rm a||rm b
 | .block _ c=>rm c
 | .loop c=>rm c
 | .scope c=>rm c
 |_=>false
def kI{R:Type}(X:Cx)(tb:List aq)(tp:List bR)(tc:List lK):Code->Fr->(XE->aG->Option R)->aG->Option R
 | .block i c,fr,K,st=>kI X tb tp tc c fr (brk i K) st
 | .cond c x y,fr,K,st=>aC (rm x||rm y) (match bE [] st.E fr.F none c with
  |some (.bool b)=>cnd b (λh=>kI X tb tp tc x fr K { st with h:=h }) (λh=>kI X tb tp tc y fr K { st with h:=h }) st.h
  |_=>none) (den X tb tp (.cond c x y) fr K st)
 | .seq x y,fr,K,st=>aC (rm x||rm y) (match st.h with
  | .j tm p q=>aC (st.low fr) (
   ah (λs:fy (iB tm.vs)=>kI X tb tp tc y fr K (ik (enter fr tm (cY x) st) tm s q)) λk=>
   kI X tb tp tc x (enter fr tm (cY x) st).fr (wA (λst'=>match lI (enter fr tm (cY x) st) tm st'.E st'.G with
     |some s=>k s
     |none=>none) (λe st'=>K e (y7 e (enter fr tm (cY x) st) st'))) ⟨(enter fr tm (cY x) st).c,(enter fr tm (cY x) st).Et,(enter fr tm (cY x) st).Gt,p⟩ ) none
  | .s h=>kI X tb tp tc x fr (wA (kI X tb tp tc y fr K) K) { st with h:=h }
  |_=>kI X tb tp tc x fr (wA (kI X tb tp tc y fr K) K) st) (den X tb tp (.seq x y) fr K st)
 | .loop c,fr,K,st=>aC (rm c) (match st.h with
  | .l tm p=>aC (st.low fr) (
   match lI (enter fr tm (cY c) st) tm (enter fr tm (cY c) st).Et (enter fr tm (cY c) st).Gt with
   |some s=>aw (λagain s=>kI X tb tp tc c (enter fr tm (cY c) st).fr (wA (λst'=>match lI (enter fr tm (cY c) st) tm st'.E st'.G with
      |some s=>again s
      |none=>none) (λe st'=>K e (y7 e (enter fr tm (cY c) st) st'))) (df (enter fr tm (cY c) st) tm s p)) X.fl s
   |none=>none ) none
  |_=>none) (den X tb tp (.loop c) fr K st)
 | .rangeFunc g ps assign body,fr,K,st=>match st.h with
  | .c (.c hi hb) (.r (70000::th) hr)=>(match bE [] st.E fr.F none g with
   |some gv=>rfD X tb tp tc ps.toList assign body gv ⟨fr.F,bB (λr=> !(gB (reach st fr th) r)) st.G++fr.H,fr.n⟩ { st with G:=bB (gB (reach st fr th)) st.G } hi hb (λp st1=>K (Np p) { st1 with E:=st.E,h:=hr,G:=st1.G++bB (λr=> !(gB (reach st fr th) r)) st.G })
   |none=>none)
  | .c (.c hi hb) hr=>(match bE [] st.E fr.F none g with
   |some gv=>rfD X tb tp tc ps.toList assign body gv fr st hi hb (λp st1=>K (Np p) { st1 with E:=st.E,h:=hr })
   |none=>none)
  |_=>none
 |c,fr,K,st=>den X tb tp c fr K st
section
variable {P : Program} {ρ : za} {Q : bD} {n : Nat} {E : Env} {w : World}
def akN{γ:Type}(J:γ->World->Prop)(Es:γ->Env)(n:Nat)(Ds:γ->x3)(a:Act)(w:World):Prop:=
 ∃g,J g w/\Fits n (Es g) a/\a.defers=Ds g
theorem ahg(J:γ->World->Prop)(b:γ->Env)(Ds:γ->x3){D:x3}{x y:Code}
  (c:∀g w',J g w'->WC P ρ y Q n (Ds g) (b g) w') (hx:WC P ρ x (Exit.then (akN J b n Ds) Q) n D E w):WC P ρ (.seq x y) Q n D E w:=
 λa d hd=>wpIn_seq (wpIn_mono (hx a d hd) (λe k w' h=>by cases e <;> first|exact h|(obtain ⟨g,f,i,j⟩:=h;exact c g w' f k i j)))
theorem aqn{J:γ->World->Prop}{a:γ->Env}{D:x3}(g:γ)(d:J g w)(b:jX (a g) E)(e:D=Ds g):At (Exit.then (akN J a n Ds) Q) .normal n D E w:=
 λf c hd=>⟨g,d,c.nB b,hd.trans e⟩
def WI{σ γ τ:Type}(again:σ->Option τ)(r:τ)(J:σ->γ->World->Prop)(Es:σ->γ->Env)(n:Nat)(Ds:γ->x3)(a:Act)(w:World):Prop:=
 ∃s g,again s=some r/\J s g w/\Fits n (Es s g) a/\a.defers=Ds g
theorem aqp{σ τ:Type}{F:(σ->Option τ)->σ->Option τ}{r:τ}(J:σ->γ->World->Prop)(d:σ->γ->Env)(Ds:γ->x3){body:Code}{D:x3}
  {N:Nat} {b:σ} (l:aw F N b=some r) (c:γ) (u:J b c w) (t:jX (d b c) E) (i:D=Ds c)
  (round:∀again s g w,F again s=some r->J s g w->WC P ρ body (Exit.then (WI again r J d n Ds) Q) n (Ds g) (d s g) w):
  WC P ρ (.loop body) Q n D E w:=λa o hd=>
 JV (λm=>WI (aw F m) r J d n Ds) N ⟨b,c,l,u,o.nB t,hd.trans i⟩ λm a w ⟨s,g,k,p,q,i⟩=>by
  obtain ⟨j,rfl,f⟩:=OI k;exact wpIn_mono (round (aw F j) s g w f p a q i) λe a w h=>by cases e <;> first|exact h|exact ⟨j,mV _,h⟩
theorem al8{σ τ:Type}{a:σ->Option τ}{r:τ}{J:σ->γ->World->Prop}{b:σ->γ->Env}{D:x3}
  (s:σ) (g:γ) (d:a s=some r) (f:J s g w) (c:jX (b s g) E) (h:D=Ds g):At (Exit.then (WI a r J b n Ds) Q) .normal n D E w:=
 λi e hd=>⟨s,g,d,f,e.nB c,hd.trans h⟩
end
section
variable {R : Type} {r : R} {X : Cx} {tb : List aq} {tp : List bR} {tc : List lK} {Φ : Ctx} {D : x3}
def YT(Q:bD)(D:x3)(fr:Fr)(Φ:Ctx)(c0:Nat)(ρ0:aB)(r:R)(K:XE->aG->Option R):Prop:= ∀ds,jR Q (mk ds++D) fr (eO ds::Φ) c0 ρ0 r K
theorem YT.less{Q:bD}{fr:Fr}{b c1:Nat}{ρ0 a:aB}{K:XE->aG->Option R}(h:YT Q D fr Φ b ρ0 r K)(d:aZ b ρ0 a)(c:b<=c1):YT Q D fr Φ c1 a r K:=λds=>(h ds).less d c
theorem asO(U:∀it∈X.Γ,it∈Φ)(W:∀e∈tb,e.Ok X.P X.Γ)(V:∀e∈tp,e.Ok X.P X.Γ)(htc:∀c∈tc,c.Ok X.P):∀(c:Code) {Q:bD} {fr:Fr} {K:XE->aG->Option R} {st:aG} {ρ:aB} {w:World} {ds:zh},Sat (ab ρ [] st.G++(ab ρ [] fr.H++eO ds::Φ)) w->
  kI X tb tp tc c fr K st=some r->YT Q D fr Φ st.c ρ r K->WC X.P none c Q fr.n (mk ds++D) (az ρ [] st.E fr.F) w:=λc=>by
 have hΓ':∀ds:zh,∀it∈X.Γ,it∈eO ds::Φ:=λds it hi=>cb _ (U it hi);have sB:∀(c:Code) {Q:bD} {fr:Fr} {K:XE->aG->Option R} {st:aG} {ρ:aB} {w:World} {ds:zh},Sat (ab ρ [] st.G++(ab ρ [] fr.H++eO ds::Φ)) w->
   den X tb tp c fr K st=some r->YT Q D fr Φ st.c ρ r K->WC X.P none c Q fr.n (mk ds++D) (az ρ [] st.E fr.F) w:=λc {Q fr K st ρ w ds} u h t=>
  gf (hΓ' ds) W V c u h (t ds)
 induction c with
 |block i c ih=>
  intro Q fr K st ρ w ds u h t;exact UT (ih u (by unfold kI at h;exact h) (λds=>V2 (t ds)))
 |cond c x y T S=>
  intro Q fr K st ρ w ds u h t;unfold kI at h;rcases eb h with ⟨_,h⟩|⟨_,h⟩
  .split at h
   next b hb=>have Z:=bK (ρ:=ρ) hb;simp only [AV.val] at Z;obtain ⟨p,q,h1,N⟩:=Vm h;exact jS Z (λhb=>T (st:={ st with h:=p }) u (h1 hb) t) (λhb=>S (st:={ st with h:=q }) u (N hb) t)
   .cases h
  .exact sB _ u h t
 |seq x y T S=>
  intro Q fr K st ρ w ds u h t;unfold kI at h;rcases eb h with ⟨_,h⟩|⟨_,h⟩
  .have I:∀h',kI X tb tp tc x fr (wA (kI X tb tp tc y fr K) K) { st with h:=h' }=some r->WC X.P none (.seq x y) Q fr.n (mk ds++D) (az ρ [] st.E fr.F) w:=λh' hd=>by
    refine bF (T (st:={ st with h:=h' }) u hd (λj e st' ρ' w' C O z B=>?_));by_cases J:e= .nrm
    .subst J;exact bn (S B z (t.less C O))
    .rw [nV J] at z;exact iz J (t j e st' ρ' w' C O z B)
   split at h
   .rename_i tm p q hh;obtain ⟨hl,N⟩:=aK h;obtain ⟨o,en⟩:=y8 (tm:=tm) (m:=cY x) hl u;generalize enter fr tm (cY x) st=f at N en;unfold ah at N;refine ahg (γ:=(fy (iB tm.vs)×aB)×zh) (λg w'=>kI X tb tp tc y fr K (ik f tm g.1.1 q)=some r/\aZ f.c o g.1.2/\Sat (ab g.1.2 [] (ik f tm g.1.1 q).G++(ab g.1.2 [] fr.H++eO g.2::Φ)) w') (λg=>az g.1.2 [] (ik f tm g.1.1 q).E fr.F) (λg=>mk g.2++D) (λg w' hg=>?_) ?_
    .obtain ⟨g1,g2,g3⟩:=hg;refine S g3 g1 (t.less (en.ag.trans g2 en.le) ?_);have:f.c<=(ik f tm g.1.1 q).c:=by unfold ik;generalize fZ (λn=>f.c+n) f.fix tm.vs 0 (ic _ g.1.1)=L;obtain ⟨a,b,c,d⟩:=L;exact qI _ _
     exact cK en.le this
    .have hx:=T (fr:=f.fr) (st:=⟨f.c,f.Et,f.Gt,p⟩) (ρ:=o) (Q:=Exit.then (akN (λ(g:(fy (iB tm.vs)×aB)×zh) w'=>kI X tb tp tc y fr K (ik f tm g.1.1 q)=some r/\aZ f.c o g.1.2/\Sat (ab g.1.2 [] (ik f tm g.1.1 q).G++(ab g.1.2 [] fr.H++eO g.2::Φ)) w') (λg=>az g.1.2 [] (ik f tm g.1.1 q).E fr.F) fr.n (λg=>mk g.2++D)) Q) en.sat N (λj e st' ρ' w' C O z B=>?_)
     .rw [en.fn] at hx;exact hx.nB _ en.sub
     .by_cases J:e= .nrm
      .subst J;have v:(match lI f tm st'.E st'.G with|some s=>kI X tb tp tc y fr K (ik f tm s q)|none=>none)=some r:=z;split at v
       .rename_i s hb;obtain ⟨l,E',Y,k,DD,b1,b2,b3,b4⟩:=pA en.lF en.lH en.fx B hb;have eJ:ik f tm s q=⟨f.c+k,E'++f.E,rowsOf Y++f.G,q⟩:=by unfold ik;rw [b1]
        rw [en.fn];refine aqn ((s,l),j) ⟨v,C.trans b2 (ch _),?_⟩ ?_ rfl
        .rw [eJ];show Sat (ab l [] (rowsOf Y++f.G)++_) w';rw [bu,bb];rw [en.fh,bu,bb] at b4;exact b4
        .rw [eJ];show jX (aH.env l [] (E'++f.E)++_) _;rw [en.ff] at b3;have e2:az l [] E' (f.E++fr.F)=aH.env l [] (E'++f.E)++aH.env l [] fr.F:=by show aH.env l [] E'++aH.env l [] (f.E++fr.F)=_;rw [oW,oW,bb]
         rw [<-e2,en.ff];exact b3
       .cases v
      .rw [nV J] at z;have:=vY (t j) en.ag en.le en.ff en.fh en.fn e st' ρ' w' C O z B;exact iz J this
   next h' hh=>exact I h' h
   .exact I st.h h
  .exact sB _ u h t
 |loop c ih=>
  intro Q fr K st ρ w ds u h t;unfold kI at h;rcases eb h with ⟨_,h⟩|⟨_,h⟩
  .split at h
   .rename_i tm p hh;obtain ⟨hl,N⟩:=aK h;obtain ⟨o,en⟩:=y8 (tm:=tm) (m:=cY c) hl u;generalize enter fr tm (cY c) st=f at N en;split at N
    .rename_i s0 hb0;obtain ⟨l,E',Y,k,DD,b1,b2,b3,b4⟩:=pA en.lF en.lH en.fx en.sat hb0;have eL:∀s E' Y k DD,fZ (λn=>f.c+n) f.fix tm.vs 0 (ic _ s)=⟨E',Y,k,DD⟩->df f tm s p=⟨f.c+k,E',rowsOf Y,p⟩:=λs E' Y k DD hb=>by unfold df;rw [hb]
     refine aqp (γ:=aB×zh) (λs g w'=>aZ f.c o g.1/\Sat (ab g.1 [] (df f tm s p).G++(ab g.1 [] f.fr.H++eO g.2::Φ)) w') (λs g=>az g.1 [] (df f tm s p).E f.fr.F) (λg=>mk g.2++D) N (l,ds) ⟨b2,?_⟩ ?_ rfl (λM s g w' hag hJ=>?_)
     .rw [eL _ _ _ _ _ b1];exact b4
     .rw [eL _ _ _ _ _ b1];exact b3.trans en.sub
     .have Z:f.c<=(df f tm s p).c:=by unfold df;generalize fZ (λn=>f.c+n) f.fix tm.vs 0 (ic _ s)=L;obtain ⟨a,b,c,d⟩:=L;exact qI _ _
      have hx:=ih (fr:=f.fr) (st:=df f tm s p) (ρ:=g.1) (ds:=g.2) (Q:=Exit.then (WI M r (λs (g:aB×zh) w'=>aZ f.c o g.1/\Sat (ab g.1 [] (df f tm s p).G++(ab g.1 [] f.fr.H++eO g.2::Φ)) w') (λs g=>az g.1 [] (df f tm s p).E f.fr.F) fr.n (λg=>mk g.2++D)) Q) hJ.2 hag (λj e st' ρ' w2 C O z B=>?_)
      .rw [en.fn] at hx;exact hx
      .by_cases J:e= .nrm
       .subst J;have v:(match lI f tm st'.E st'.G with|some s=>M s|none=>none)=some r:=z;split at v
        .rename_i s' hb;obtain ⟨ρ3,E2,R2,k2,DD2,d1,d2,d3,d4⟩:=pA en.lF en.lH en.fx B hb;rw [en.fn];refine al8 s' (ρ3,j) v ⟨(hJ.1.trans (C.less Z) (ch _)).trans d2 (ch _),?_⟩ ?_ rfl
         .rw [eL _ _ _ _ _ d1];exact d4
         .rw [eL _ _ _ _ _ d1];exact d3
        .cases v
       .rw [nV J] at z;have:=vY (t j) en.ag en.le en.ff en.fh en.fn e st' ρ' w2 (hJ.1.trans (C.less Z) (ch _)) (cK Z O) z B;exact iz J this
    .cases N
   .cases h
  .exact sB _ u h t
 |rangeFunc g ps assign body=>
  intro Q fr K st ρ w ds u h t;unfold kI at h;split at h
  .rename_i hi hb th hr hh;split at h
   next gv hg=>have hs2:=sM (A:=[]) (p:=gB (reach st fr th)) u;refine anl (fr:=⟨fr.F,bB (λr=> !(gB (reach st fr th) r)) st.G++fr.H,fr.n⟩) (st:={ st with G:=bB (gB (reach st fr th)) st.G }) U W V htc hg (by simpa [ab] using hs2) h (λp st1 o w1 j C O z B=>t j (Np p) { st1 with E:=st.E,h:=hr,G:=st1.G++bB (λr=> !(gB (reach st fr th) r)) st.G } o w1 C O z ?_);rw [bu,bb];rw [al5] at*;simpa [ab] using B
   .cases h
  .rename_i hi hb hr _ hh;split at h
   next gv hg=>exact anl U W V htc hg u h (λp st1 o w1 j C O z B=>t j (Np p) { st1 with E:=st.E,h:=hr } o w1 C O z (by rw [al5];exact B))
   .cases h
  .cases h
 |_=>intro Q fr K st ρ w ds u h t;exact sB _ u (by unfold kI at h;exact h) t
def aqV(K:XE->aG->Option R):XE->aG->Option R
 | .nrm,st=>K .nrm st
 | .ret,st=>K .ret st
 |_,_=>none
theorem aoF(d:∀it∈X.Γ,it∈Φ)(j:∀e∈tb,e.Ok X.P X.Γ)(g:∀e∈tp,e.Ok X.P X.Γ)(i:∀c∈tc,c.Ok X.P){fn:Func}{S:Value->World->Prop}{Sp:xc->World->Prop}(c:Code){fr:Fr}{K:XE->aG->Option R}{st:aG}{ρ:aB}{w:World}
  (s:Sat (ab ρ [] st.G++(ab ρ [] fr.H++Φ)) w) (h:kI X tb tp tc c fr (aqV K) st=some r) (m:jR (BP X.P fn S Sp) [] fr Φ st.c ρ r K):WC X.P none c (BP X.P fn S Sp) fr.n [] (az ρ [] st.E fr.F) w:=by
 have k:Sat (ab ρ [] st.G++(ab ρ [] fr.H++eO []::Φ)) w:=by
  have l:Sat (eO []::((ab ρ [] st.G++ab ρ [] fr.H)++Φ)) w:=by rw [bb];exact s.asd
  have:=l.behind;rwa [bb] at this
 refine asO (D:=[]) (ds:=[]) d j g i c k h (λds e st' ρ' w' q p a t=>?_);have o:Sat (eO ds::(ab ρ' [] st'.G++(ab ρ' [] fr.H++Φ))) w':=by
  have l:Sat ((ab ρ' [] st'.G++ab ρ' [] fr.H)++eO ds::Φ) w':=by rw [bb];cases e <;> first|exact t|cases a
  have:=l.front;rwa [bb] at this
 rw [l5];cases e with
 |nrm=>exact aev ds o (λb f=>m .nrm st' ρ' b q p a f)
 |ret=>exact Ut ds o (λb f=>m .ret st' ρ' b q p a f)
 |_=>cases a
end
abbrev avu{R:Type}(E0:aH)(K:aG->Option R):XE->aG->Option R
 | .nrm,st=>K { st with E:=E0 }
 | .ret,st=>K { st with E:=E0 }
 |_,_=>none
def Y3{R:Type}(X:Cx)(tb:List aq)(tp:List bR)(pm:Bool)(cl:lK)(cap:List AV)(v:AV)(fr:Fr)(st:aG)(K:aG->Option R):Option R:=match cl.fn.body with
 |some (.seq (.region _ ops false) y)=>(match ops.toList with
  |⟨some d,.call ⟨.builtin .recover,xs,_⟩,_,_,_,none⟩::l=>aC (xs.isEmpty&&l.all Qt&&cl.fn.results.isEmpty&&Nat.ble cap.length cl.fn.ntmps&&Nat.blt d cl.fn.ntmps) (
    BK X tb tp (λ_ _ _=>none) ops.toList ⟨[],fr.H,cl.fn.ntmps⟩ l [] { st with E:=(d,none,v)::ki 0 cap,h:= .c (.r (List.range cap.length) .o) (.c (.r (List.range cap.length) .o) .o) } (λst1=>den X tb tp y ⟨[],fr.H,cl.fn.ntmps⟩ (avu st.E K) st1)) none
  |_=>none)
 |some (.region _ ops false)=>aC (pm&&ops.toList.all Qt&&cl.fn.results.isEmpty&&Nat.ble cap.length cl.fn.ntmps) (
    BK X tb tp (λ_ _ _=>none) ops.toList ⟨[],fr.H,cl.fn.ntmps⟩ ops.toList [] { st with E:=ki 0 cap } (λst1=>K { st1 with E:=st.E })) none
 |_=>none
section
variable {X : Cx} {tb : List aq} {tp : List bR} {D : x3} {R : Type} {r : R} {Φ : Ctx}
theorem Qx{a:lK}{cap:List AV}{v:AV}{fr:Fr}{st:aG}{K:aG->Option R}{u u':FrameMode}{T:World->Prop}(I:a.Ok X.P)(p:∀it∈X.Γ,it∈Φ)(s:∀e∈tb,e.Ok X.P X.Γ)(q:∀e∈tp,e.Ok X.P X.Γ)
  (hs:Sat (ab ρ [] st.G++(ab ρ [] fr.H++Φ)) w) {pm:Bool} (S:pm=true->u= .returning/\u'= .returning) (hu:(u= .returning/\u'= .returning/\v.val ρ= .nilIface)\/(u= .panicking (iY (v.val ρ))/\u'= .panicking [{ v:=v.val ρ,recovered:=true }]))
  (h:Y3 X tb tp pm a cap v fr st K=some r) (hK:∀(st':aG) (ρ':aB) (w':World),aZ st.c ρ ρ'->st.c<=st'.c->K { st' with E:=st.E }=some r->Sat (ab ρ' [] st'.G++(ab ρ' [] fr.H++Φ)) w'->T w'):
  IJ X.P a.f (AV.ao ρ cap) u w λu2 w'=>u2=u'/\T w':=by
 unfold Y3 at h;split at h
 .rename_i id ops y hb;split at h
  .rename_i d xs tys ty pos af l j;obtain ⟨J,N⟩:=aK h;simp only [ar] at J;obtain ⟨⟨⟨⟨Y,W⟩,V⟩,U⟩,h7⟩:=J;have O:xs= #[]:=by simpa using Y
   subst O;have b:a.fn.results= #[]:=by simpa using V
   refine aat (n:=a.fn.ntmps) I.2 hb j W b rfl (by rw [AV.bw];exact U) h7 hu ?_;obtain ⟨m⟩:=ops;simp only at j N;have:=aaA (σ:=none) (D:=[]) (Q:=Exit.then (y.wpIn (FW none) 0 X.P (QB T)) (QB T)) (ρ:=ρ) (w:=w) (r:=r) (ops:=m) (fr:=⟨[],fr.H,a.fn.ntmps⟩) (st:={ st with E:=(d,none,v)::ki 0 cap,h:= .c (.r (List.range cap.length) .o) (.c (.r (List.range cap.length) .o) .o) }) p s q (λx h=>by cases h) (λx h=>by cases h) ⟨λx _=>rfl,λx _=>rfl⟩ hs N (λst1 g M A k z L=>?_) (λlb v st1 g M A k z L=>by cases z)
   .have e1:az ρ [] ((d,none,v)::ki 0 cap) []=(d,true,v.val ρ)::iota 0 (AV.ao ρ cap):=by show aH.env ρ [] ((d,none,v)::ki 0 cap)++[]=_;simp only [aH.env,aE.get_none,Ad,l5]
    have Z:az ρ [] ({ st with E:=(d,none,v)::ki 0 cap,h:= .c (.r (List.range cap.length) .o) (.c (.r (List.range cap.length) .o) .o) }:aG).E (⟨[],fr.H,a.fn.ntmps⟩:Fr).F=(d,true,v.val ρ)::iota 0 (AV.ao ρ cap):=e1;rw [Z] at this;exact this
   .refine bn (gf (σ:=none) (D:=[]) p s q y (fr:=⟨[],fr.H,a.fn.ntmps⟩) L z (λe C B w2 b1 b2 t b4=>?_));cases e with
    |nrm=>exact aqO (hK C B w2 (A.trans b1 k) (cK k b2) t b4)
    |ret=>exact atv (hK C B w2 (A.trans b1 k) (cK k b2) t b4)
    |ext i=>cases t
    |gto l=>cases t
    |iY v=>cases t
    |panE v=>cases t
    |panL v=>cases t
  .cases h
 .rename_i id ops hb;obtain ⟨J,N⟩:=aK h;simp only [ar] at J;obtain ⟨⟨⟨Y,W⟩,V⟩,U⟩:=J;have b:a.fn.results= #[]:=by simpa using V
  obtain ⟨rfl,rfl⟩:=S Y;refine ahM (n:=a.fn.ntmps) I.2 hb W b rfl (by rw [AV.bw];exact U) ?_;obtain ⟨m⟩:=ops;have:=aaA (σ:=none) (D:=[]) (Q:=QB T) (ρ:=ρ) (w:=w) (r:=r) (ops:=m) (fr:=⟨[],fr.H,a.fn.ntmps⟩) (st:={ st with E:=ki 0 cap }) p s q (λx h=>by cases h) (λx h=>by cases h) ⟨λx _=>rfl,λx _=>rfl⟩ hs N (λst1 g M A k z L=>aqO (hK st1 g M A k z L)) (λlb v st1 g M A k z L=>by cases z);have e1:az ρ [] (ki 0 cap) []=iota 0 (AV.ao ρ cap):=by show aH.env ρ [] (ki 0 cap)++[]=_;simp only [Ad,l5]
  have Z:az ρ [] ({ st with E:=ki 0 cap }:aG).E (⟨[],fr.H,a.fn.ntmps⟩:Fr).F=iota 0 (AV.ao ρ cap):=e1;rw [Z] at this;exact this
 .cases h
end
def ak1:zf->Option (zf×Operand)
 |[]=>none
 |o::l=>(match l with
  |[]=>(match o with
   |⟨none,.defer ⟨.value fo,xs,_⟩,_,_,_,none⟩=>aC xs.isEmpty (some ([],fo)) none
   |_=>none)
  |_::_=>(match ak1 l with
   |some p=>some (o::p.1,p.2)
   |none=>none))
theorem aiI:{l l':zf}->{fo:Operand}->ak1 l=some (l',fo)->∃tys ty pos af,l=l'++[⟨none,.defer ⟨.value fo,#[],tys⟩,ty,pos,af,none⟩]
 |[],_,_,h=>by cases h
 |o::l,l',fo,h=>by
  unfold ak1 at h;split at h
  .split at h
   .obtain ⟨b,a⟩:=aK h;rename_i xs _ _ _ _;have:xs= #[]:=by simpa using b
    subst this;cases a;exact ⟨_,_,_,_,rfl⟩
   .cases h
  .split at h
   next p hp=>cases h;obtain ⟨tys,ty,pos,af,a⟩:=aiI (fo:=p.2) (l':=p.1) (by rw [hp]);exact ⟨tys,ty,pos,af,by rw [a];rfl⟩
   .cases h
def ak2:Code->Option (zf×zf×Operand)
 | .region _ ops false=>(match ak1 ops.toList with
  |some p=>some (ops.toList,p.1,p.2)
  |none=>none)
 |_=>none
def aqW:Code->Bool
 | .scope _=>true
 | .seq x y=>(ak2 x).isSome||aqW y
 |_=>false
def UE:List Row->Bool
 |[]=>true
 |r::H=>r.cW&&UE H
theorem aaJ:{H:List Row}->UE H=true->dL H=H
 |[],_=>rfl
 |r::H,h=>by simp only [UE,ar] at h;show aC r.cW (r::dL H) (dL H)=r::H;rw [h.1,aaJ h.2]
def avA{R:Type}(X:Cx)(tb:List aq)(tp:List bR)(cl:lK)(cap:List AV)(fr:Fr)(K:XE->aG->Option R):XE->aG->Option R
 | .nrm,st=>aC (st.low fr) (Y3 X tb tp true cl cap (.raw .nilIface) fr st (K .ret)) none
 | .ret,st=>aC (st.low fr) (Y3 X tb tp true cl cap (.raw .nilIface) fr st (K .ret)) none
 | .panE v,st=>aC (st.low fr) (Y3 X tb tp false cl cap v fr st (K .ret)) none
 | .panL v,st=>aC (UE fr.H) (aC (st.low fr) (Y3 X tb tp false cl cap v fr st (K .ret)) none) none
 |_,_=>none
def aj0{R:Type}(X:Cx)(tb:List aq)(tp:List bR)(tc:List lK):Code->Fr->(XE->aG->Option R)->aG->Option R
 | .scope c,fr,K,st=>aqk X tb tp c fr K st
 | .seq x y,fr,K,st=>(match ak2 x with
  |some p=>BK X tb tp (λb v st=>K (aC b (.panL v) (.panE v)) st) p.1 fr p.2.1 [] (BX st) (λst1=>match bE [] st1.E fr.F none p.2.2 with
   |some (.fn f [] cap)=>(match WS tc f with
    |some cl=>aC (AV.cr st1.c cap) (den X tb tp y fr (avA X tb tp cl cap fr K) st1) none
    |none=>none)
   |_=>none)
  |none=>aC (aqW y) (den X tb tp x fr (wA (aj0 X tb tp tc y fr K) K) (BX st)) (aC (rm x||rm y) (kI X tb tp tc (.seq x y) fr (aqV K) st) (den X tb tp (.seq x y) fr K st)))
 |c,fr,K,st=>den X tb tp c fr K st
section
variable {X : Cx} {tb : List aq} {tp : List bR} {tc : List lK} {R : Type} {r : R} {Φ : Ctx} {fn : Func} {S : Value -> World -> Prop} {Sp : xc -> World -> Prop}
theorem asJ{c:Code}{p:zf×zf×Operand}(h:ak2 c=some p):∃id ops,c= .region id ops false/\ops.toList=p.1/\∃tys ty pos af,p.1=p.2.1++[⟨none,.defer ⟨.value p.2.2,#[],tys⟩,ty,pos,af,none⟩]:=by
 unfold ak2 at h;split at h
 .rename_i id ops;split at h
  next q a=>cases h;exact ⟨id,ops,rfl,rfl,aiI a⟩
  .cases h
 .cases h
theorem aso(d:∀it∈X.Γ,it∈Φ)(j:∀e∈tb,e.Ok X.P X.Γ)(g:∀e∈tp,e.Ok X.P X.Γ)(M:∀c∈tc,c.Ok X.P):∀(c:Code) {fr:Fr} {K:XE->aG->Option R} {st:aG} {ρ:aB} {w:World},Sat (ab ρ [] st.G++(ab ρ [] fr.H++Φ)) w->
  aj0 X tb tp tc c fr K st=some r->jR (BP X.P fn S Sp) [] fr Φ st.c ρ r K->WC X.P none c (BP X.P fn S Sp) fr.n [] (az ρ [] st.E fr.F) w:=λc=>by
 induction c with
 |scope c=>intro fr K st ρ w B h s;exact asN d j g B h s
 |seq x y ihx Z=>
  intro fr K st ρ w B h s;obtain ⟨Y,p2,p3⟩:=ai7 (st:=st);unfold aj0 at h;split at h
  .rename_i p hp;obtain ⟨id,ops,rfl,e1,tys,ty,pos,af,e2⟩:=asJ hp;refine bF (bA ?_);obtain ⟨opl⟩:=ops;simp only at e1;subst e1;have hw:=Kc (σ:=none) (D:=[]) (Q:=Exit.then (y.wpIn (FW none) 0 X.P (BP X.P fn S Sp)) (BP X.P fn S Sp)) (ρ:=ρ) (w:=w) (st:=BX st) (rest:=[⟨none,.defer ⟨.value p.2.2,#[],tys⟩,ty,pos,af,none⟩]) d j g (λx h=>by cases h) (λx h=>by cases h) ⟨λx _=>rfl,λx _=>rfl⟩ (by rw [p3];exact B) h (λst1 k W z t m L=>?_) (λlb v st1 k W z t m L=>?_)
   .rw [p2,<-e2] at hw;exact hw
   .split at m
    .rename_i f cap hfo;split at m
     .rename_i cl hcl;obtain ⟨b1,b2⟩:=aK m;obtain ⟨c1,c2⟩:=Ur M hcl;have C:=bK (ρ:=k) hfo;simp only [AV.val,AV.ao] at C;subst c2;refine aqs C (ct (bn ?_));rw [Y] at z t;refine gf (σ:=none) (D:=[SU cl.f (AV.ao k cap)]) d j g y L b2 (λe b a w2 d1 d2 A V=>?_);have N:AV.ao a cap=AV.ao k cap:=AV.cn d1 _ b1;have U:b.low fr=true->∀(q:aG) (o:aB) (O:World),aZ b.c a o->b.c<=q.c->K .ret { q with E:=b.E }=some r->Sat (ab o [] q.G++(ab o [] fr.H++Φ)) O->At (BP X.P fn S Sp) .ret fr.n [] (az a [] b.E fr.F) O:=λhl q o O f1 f2 f3 f4=>by have:=s .ret { q with E:=b.E } o O (z.trans (d1.trans f1 d2) t) (cK t (cK d2 f2)) f3 f4;rw [<-oh hl f1];exact this
      rw [<-N];cases e with
      |nrm=>
       obtain ⟨J,I⟩:=aK A;exact anx c1.1 (Qx (u:= .returning) (T:=λw'=>At (BP X.P fn S Sp) .ret fr.n [] (az a [] b.E fr.F) w') c1 d j g V (λ_=>⟨rfl,rfl⟩) (.inl ⟨rfl,rfl,rfl⟩) I (U J)) (λ_ h=>h)
      |ret=>
       obtain ⟨J,I⟩:=aK A;exact anx c1.1 (Qx (u:= .returning) (T:=λw'=>At (BP X.P fn S Sp) .ret fr.n [] (az a [] b.E fr.F) w') c1 d j g V (λ_=>⟨rfl,rfl⟩) (.inl ⟨rfl,rfl,rfl⟩) I (U J)) (λ_ h=>h)
      |ext i=>cases A
      |gto l=>cases A
      |iY v=>cases A
      |panE v=>
       obtain ⟨J,I⟩:=aK A;have hp:=Qx (u:= .panicking (iY (v.val a))) (T:=λw'=>At (BP X.P fn S Sp) .ret fr.n [] (az a [] b.E fr.F) w') c1 d j g V (λh=>by cases h) (.inr ⟨rfl,rfl⟩) I (U J);exact ai9 c1.1 hp (λ_ h=>h)
      |panL v=>
       obtain ⟨l0,A⟩:=aK A;obtain ⟨J,I⟩:=aK A;have d5:Sat (ab a [] b.G++(ab a [] (dL fr.H)++Φ)) w2:=V;rw [aaJ l0] at d5;have hp:=Qx (u:= .panicking (iY (v.val a))) (T:=λw'=>At (BP X.P fn S Sp) .ret fr.n [] (az a [] b.E fr.F) w') c1 d j g d5 (λh=>by cases h) (.inr ⟨rfl,rfl⟩) I (U J);exact ai9 c1.1 hp (λ_ h=>h)
     .cases m
    .cases m
   .rw [Y] at z t;cases lb
    .exact Mh (s (.panE v) st1 k W z t m L)
    .exact Mh (s (.panL v) st1 k W z t m L)
  .rename_i hp;rcases eb h with ⟨h1,h2⟩|⟨_,h2⟩
   .refine bF ?_;have:=gf (σ:=none) (D:=[]) d j g x (fr:=fr) (st:=BX st) (ρ:=ρ) (w:=w) (Q:=Exit.then (y.wpIn (FW none) 0 X.P (BP X.P fn S Sp)) (BP X.P fn S Sp)) (by rw [p3];exact B) h2 (λe st' ρ' w' z t m L=>?_)
    .rw [p2] at this;exact this
    .rw [Y] at z t;by_cases he:e= .nrm
     .subst he;exact bn (Z L m (s.less z t))
     .rw [nV he] at m;exact iz he (s e st' ρ' w' z t m L)
   .rcases eb h2 with ⟨_,h3⟩|⟨_,h3⟩
    .exact aoF d j g M (.seq x y) B h3 s
    .exact gf d j g (.seq x y) B h3 s
 |_=>intro fr K st ρ w B h s;exact gf d j g _ B h s
end
variable {tb : List aq} {tc : List lK} {tp : List bR}
def eN:List (Bool×Row)->List Row
 |[]=>[]
 |x::R=>aC x.1 (x.2::eN R) (eN R)
def lU:List (Bool×Row)->List Row
 |[]=>[]
 |x::R=>aC x.1 (lU R) (x.2::lU R)
def N8:List Row->zh
 |[]=>[]
 |r::G=>(match r with
  | .box j _ _=>j::N8 G
  |_=>N8 G)
def Mu:Nat->Nat->xb
 |0,_=>[]
 |n+1,k=>some k::Mu n (k+1)
def afJ:List (Nat×List AV)->List (List AV)->List (Nat×List AV)
 |x::X,cs::C=>(x.1,cs)::afJ X C
 |_,_=>[]
def Ld(X:Cx)(fr:Fr)(st:aG):ResultVar->Option AV
 | .tmp t=>A4 st.E fr.F t
 | .cell p t=>(match A4 st.E fr.F p with
  |some v=>(match AN [] st.G fr.H none v with
   |some cs=>lQ X.P t cs
   |none=>none)
  |none=>none)
def HR(vs:List AV):AV:=match vs with
 |[v]=>v
 |vs=> .tuple vs
def ao3(e:aq)(fr:Fr)(st:aG)(v:AV)(fix0:Nat->Option AV)(fix:Nat->iD):List Row:=cJ (uA st.G fr.H e.r v++W5 st.G fr.H fix0 fix e.os) st.G
def auo(e:aq)(fr:Fr)(n:Nat)(G:List Row)(v:AV)(fix0:Nat->Option AV)(fix:Nat->iD):Option (fy (nC e.r++iB e.os)):=match mt G fr.H e.r v none none (Mu n 0) with
 |some mr=>(match mtV G fr.H fix0 fix e.os mr.B with
  |some mq=>aC (EW ((mr.S++mq.S).map λx=>dQ G fr.H x.2)&&SJ G.length ((mr.S++mq.S).map λx=>dQ G fr.H x.2)) (cQ _ (mr.D++mq.D)) none
  |none=>none)
 |none=>none
def aki(X:Cx)(e:aq)(fn:Func)(fr:Fr)(n:Nat)(fix0:Nat->Option AV)(fix:Nat->iD)(st:aG):Option (fy (nC e.r++iB e.os)):=match wz (Ld X fr st) fn.results.toList with
 |some rs=>auo e fr n (ao3 e fr st (HR rs) fix0 fix) (HR rs) fix0 fix
 |none=>none
abbrev au9{R:Type}(K:aG->Option R):XE->aG->Option R
 | .nrm,st=>K st
 | .ret,st=>K st
 |_,_=>none
def ak0{R:Type}(X:Cx)(tb:List aq)(tp:List bR)(tc:List lK)(h:HT)(fn:Func)(ps:List Pt)(KF:List AV->List Row->Nat->List (Nat×List AV)->XE->aG->Option R)(s:fy (oN ps)):Option R:=
 match fg id ps [] [] 0 (ic _ s) with
 |⟨vs,R,n,_,XA⟩=>match mB (N8 (eN R)) n (eN R) with
  |(G,Q,c)=>match fn.body with
   |none=>none
   |some body=>aC (Nat.ble vs.length fn.ntmps&&AV.cr n vs&&bJ n (R.map (·.2))) (
    aj0 X tb tp tc body ⟨[],Q++lU R,fn.ntmps⟩ (KF vs (Q++lU R) n (afJ XA (gN G))) ⟨c,ki 0 vs,G,h⟩) none
def adK(X:Cx)(tb:List aq)(tp:List bR)(tc:List lK)(h:HT)(fn:Func)(e:aq)(s:fy (oN e.ps)):Option (fy (nC e.r++iB e.os)):=
 ak0 X tb tp tc h fn e.ps (λvs H n XX=>au9 (aki X e fn ⟨[],H,fn.ntmps⟩ n (λ(i:Nat)=>vs[i]?) (yy (Mu n 0) e.ps vs XX))) s
def Qd(pp:Pt)(fr:Fr)(v:AV)(st:aG):Option (fy (nC pp)):=match mt (cJ (uA st.G fr.H pp v) st.G) fr.H pp v none none [] with
 |some mr=>aC (EW (mr.S.map λx=>dQ (cJ (uA st.G fr.H pp v) st.G) fr.H x.2)&&SJ (cJ (uA st.G fr.H pp v) st.G).length (mr.S.map λx=>dQ (cJ (uA st.G fr.H pp v) st.G) fr.H x.2)) (cQ _ mr.D) none
 |none=>none
abbrev Dm(pp:Pt):(pq:Option Pt)->(fr:Fr)->(v:AV)->(st:aG)->Option (Wy pp pq)
 |none,fr,v,st=>Qd pp fr v st
 |some q,fr,v,st=>match Qd pp fr v st with
  |some x=>some (.inl x)
  |none=>(Qd q fr v st).map .inr
abbrev inT{B:Type}:(nv:Bool)->(r:Pt)->(os:List (Bool×Nat×Pt))->Option (fy (nC r++iB os))->Option (Except B (Ue nv r os))
 |true,_,_,_=>none
 |false,_,_,o=>o.map .ok
theorem aen{B:Type}:{nv:Bool}->{r:Pt}->{os:List (Bool×Nat×Pt)}->{o:Option (fy (nC r++iB os))}->{z:Except B (Ue nv r os)}->inT nv r os o=some z->∃x q,o=some q/\z= .ok x/\isOk nv r os x q
 |true,_,_,_,_,h=>by cases h
 |false,_,_,none,_,h=>by cases h
 |false,_,_,some q,_,h=>by cases h;exact ⟨q,q,rfl,rfl,rfl⟩
abbrev avh{B:Type}(nv:Bool)(r:Pt)(os:List (Bool×Nat×Pt))(K:aG->Option (fy (nC r++iB os)))(KP KL:AV->aG->Option B):XE->aG->Option (Except B (Ue nv r os))
 | .nrm,st=>inT nv r os (K st)
 | .ret,st=>inT nv r os (K st)
 | .iY v,st=>(KP v st).map .error
 | .panE v,st=>(KP v st).map .error
 | .panL v,st=>(KL v st).map .error
 |_,_=>none
def apB(X:Cx)(tb:List aq)(tp:List bR)(tc:List lK)(h:HT)(fn:Func)(e:bR)(s:fy (oN e.ps)):Option (Except (Wy e.pp e.pq) (Ue e.nv e.r e.os)):=
 ak0 X tb tp tc h fn e.ps (λvs H n XX=>avh e.nv e.r e.os (aki X e.oe fn ⟨[],H,fn.ntmps⟩ n (λ(i:Nat)=>vs[i]?) (yy (Mu n 0) e.ps vs XX)) (Dm e.pp e.pq ⟨[],H,fn.ntmps⟩) (λv st=>aC (e.lp||UE H) (Dm e.pp e.pq ⟨[],dL H,fn.ntmps⟩ v st) none)) s
theorem C3:{G H:List Row}->gN (G++H)=gN G++gN H
 |[],_=>rfl
 |r::G,H=>by cases r <;> simp only [mj,gN,C3]
theorem Aq:{R S:List (Bool×Row)}->eN (R++S)=eN R++eN S
 |[],_=>rfl
 |x::R,S=>by have e:∀Q,eN (x::Q)=aC x.1 (x.2::eN Q) (eN Q):=λ_=>rfl;rw [mj,e,e,Aq];cases x.1 <;> rfl
theorem aak{nm:Nat->Nat}:(t:Ty)->(x:t.T)->(n:Nat)->(o:w5)->gN (eN (im nm t x n o).R)=[]
 | .i _,_,_,_|.bo,_,_,_|.s,_,_,_|.un,_,_,_|.n,_,_,_|.mp _ _,_,_,_=>rfl
 | .p a b,x,n,o=>by
  unfold im;have h:=aak (nm:=nm) a x.1 n o;generalize im nm a x.1 n o=L at h;obtain ⟨u,p,f,d⟩:=L;dsimp only;have g:=aak (nm:=nm) b x.2 f d;generalize im nm b x.2 f d=L at g;obtain ⟨j,c,m,k⟩:=L;show gN (eN (p++c))=[];rw [Aq,C3,show gN (eN p)=[] from h,show gN (eN c)=[] from g];rfl
 | .l t,x,n,o=>by
  unfold im;split <;> first|rfl|(rename_i e _;show gN (eN [(ow e,_)])=[];unfold eN;cases ow e <;> rfl)
 | .ex,x,n,o=>by unfold im;split <;> first|rfl|(rename_i e _;show gN (eN [(ow e,_)])=[];unfold eN;cases ow e <;> rfl)
mutual
theorem Zj{nm:Nat->Nat}:(p:Pt)->(fx:iD)->(c:Option AV)->(n:Nat)->(D:List cD)->(fill nm p fx c n D).X.map (·.2)=gN (eN (fill nm p fx c n D).R)
 | .int _,_,_,_,_|.bool,_,_,_,_|.str,_,_,_,_|.sli _,_,_,_,_|.slr _,_,_,_,_|.ptr _ _,_,_,_,_|.it,_,_,_,_|.kr _,_,_,_,_|.ifn,_,_,_,_|.sfp,_,_,_,_|.same,_,_,_,_=>rfl
 | .own t e m,fx,c,n,D=>by cases m <;> rfl
 | .mp k v m,fx,c,n,D=>by cases m <;> rfl
 | .bx t off m vs,fx,c,n,D=>by
  unfold fill;have h:=uI (nm:=nm) vs [] (K4 fx) (n+1) D;generalize fg nm vs [] (K4 fx) (n+1) D=L at h;obtain ⟨cs,R,k,g,d⟩:=L;have q:d.map (·.2)=gN (eN R):=h;cases m
  .exact q
  .show reS (JS nm fx n) vs cs::d.map (·.2)=reS (JS nm fx n) vs cs::gN (eN R);rw [q]
 | .agg l,fx,c,n,D=>by
  unfold fill;have h:=uI (nm:=nm) l (ij fx) [] n D;generalize fg nm l (ij fx) [] n D=L at h;obtain ⟨cs,R,k,g,d⟩:=L;exact h
 | .cQ l,fx,c,n,D=>by
  unfold fill;have h:=uI (nm:=nm) l [] [] n D;generalize fg nm l [] [] n D=L at h;obtain ⟨cs,R,k,g,d⟩:=L;exact h
 | .fn f a b,fx,c,n,D=>by
  unfold fill;have h:=uI (nm:=nm) a [] [] n D;generalize fg nm a [] [] n D=L at h;obtain ⟨cs,R,k,g,d⟩:=L;dsimp only;have j:=uI (nm:=nm) b (ij fx) [] k g;generalize fg nm b (ij fx) [] k g=L at j;obtain ⟨s,r,x,u,i⟩:=L;show (d++i).map (·.2)=gN (eN (R++r));rw [wb,Aq,C3,show d.map (·.2)=gN (eN R) from h,show i.map (·.2)=gN (eN r) from j]
 | .sty p,fx,c,n,D=>by
  unfold fill;exact Zj p _ none n D
 | .ifc t p,fx,c,n,D=>by
  unfold fill;have h:=Zj (nm:=nm) p (oL p (ij fx)) none n D;generalize fill nm p (oL p (ij fx)) none n D=L at h;obtain ⟨v,R,k,g,d⟩:=L;exact h
 | .dat t o,fx,c,n,D=>by unfold fill;have h:=aak (nm:=nm) t (gQ t D) n o;generalize im nm t (gQ t D) n o=L at h;obtain ⟨cs,R,k,w⟩:=L;exact h.symm
theorem uI{nm:Nat->Nat}:(l:List Pt)->(b a:List AV)->(n:Nat)->(D:List cD)->(fg nm l b a n D).X.map (·.2)=gN (eN (fg nm l b a n D).R)
 |[],_,_,_,_=>rfl
 |p::l,b,a,n,D=>by unfold fg;have h:=Zj (nm:=nm) p (oL p b) a.head? n D;generalize fill nm p (oL p b) a.head? n D=L at h;obtain ⟨cs,R,k,g,e⟩:=L;dsimp only;have d:=uI (nm:=nm) l b.tail a.tail k g;generalize fg nm l b.tail a.tail k g=L at d;obtain ⟨i,f,m,j,c⟩:=L;show (e++c).map (·.2)=gN (eN (R++f));rw [wb,Aq,C3,show e.map (·.2)=gN (eN R) from h,show c.map (·.2)=gN (eN f) from d]
end
theorem afk{ρ ρ':aB}:{X:List (Nat×List AV)}->{C:List (List AV)}->C.map (AV.ao ρ')=X.map (λx=>AV.ao ρ x.2)->eB ρ' (afJ X C)=eB ρ X
 |[],[],_=>rfl
 |[],_::_,h=>by cases h
 |_::_,[],h=>by cases h
 |x::X,cs::C,h=>by simp only [et,qm] at h;show (x.1,AV.ao ρ' cs)::eB ρ' (afJ X C)=(x.1,AV.ao ρ x.2)::eB ρ X;rw [h.1,afk h.2]
section
variable {w : World} {ρ : aB}
theorem Sat.ato{A B:Ctx}{x:Item}(h:Sat (A++B) w)(hx:x.own=[]/\∀M w,x.P M w):Sat (A++x::B) w:=by
 refine h.Cz (λj k=>(j<A.length/\k=j)\/(A.length<j/\k+1=j)) (λj jt a=>?_) (λj k q b f d=>by omega);by_cases e:j<A.length
 .rw [cG e] at a;exact .inr ⟨j,jt,.inl ⟨e,rfl⟩,by rw [cG e];exact a,ck.refl⟩
 .rw [cy (by omega)] at a;by_cases c:j=A.length
  .subst c;simp at a;subst a;exact .inl hx
  .refine .inr ⟨j-1,jt,.inr ⟨by omega,by omega⟩,?_,ck.refl⟩;rw [cy (by omega)];have:j-A.length=(j-1-A.length)+1:=by omega
   rw [this,cH] at a;exact a
theorem Sat.oI{A B:Ctx}(h:Sat (A++B) w):∀(L:List Item),(∀it∈L,it.cW=true/\∀M w,it.P M w)->Sat (A++(L++B)) w
 |[],_=>h
 |x::L,hL=>(Sat.oI h L (λit bQ=>hL it (cb _ bQ))).ato ⟨x.hp (hL x (cz ..)).1,(hL x (cz ..)).2⟩
theorem abE{Φ:Ctx}{T:aE}:∀{R:List (Bool×Row)} {A:Ctx},Sat (A++(ab ρ T (R.map (·.2))++Φ)) w->Sat (A++(ab ρ T (eN R)++(ab ρ T (lU R)++Φ))) w
 |[],_,h=>h
 |x::R,A,h=>by
  have c:Sat ((A++[x.2.item ρ T])++(ab ρ T (R.map (·.2))++Φ)) w:=by simpa [ab] using h
  have a:=abE c;unfold eN lU;cases x.1
  .have b:Sat (A++x.2.item ρ T::(ab ρ T (eN R)++(ab ρ T (lU R)++Φ))) w:=by simpa using a
   exact b.move
  .simpa [ab] using a
theorem PV{Φ:Ctx}{T:aE}:∀{R:List (Bool×Row)} {I:fF} {A:Ctx},fQ (RwI ρ T) R I->Sat (A++(ab ρ T (lU R)++Φ)) w->Sat (A++(fK I++Φ)) w
 |_,_,_,.nil,h=>h
 |_,_,A,.cons (a:=a) (b:=b) (l:=l) (m:=m) h1 hr,h=>by
  unfold lU at h;show Sat (A++(aC b.1 gT b.2)::(fK m++Φ)) w;rw [<-h1.1];cases d:a.1
  .rw [d] at h;have f:Sat (A++b.2::(ab ρ T (lU l)++Φ)) w:=by have c:Sat (A++a.2.item ρ T::(ab ρ T (lU l)++Φ)) w:=h;exact c.GV h1.2.2
   have e:Sat ((A++[b.2])++(ab ρ T (lU l)++Φ)) w:=by simpa using f
   have:=PV hr e;simpa using this
  .rw [d] at h;have c:Sat (A++(ab ρ T (lU l)++Φ)) w:=h;exact (PV hr c).ato ⟨rfl,λ_ _=>trivial⟩
theorem aem{c:Nat}:{R:List (Bool×Row)}->bJ c (R.map (·.2))=true->bJ c (eN R)=true/\bJ c (lU R)=true
 |[],_=>⟨rfl,rfl⟩
 |x::R,h=>by
  simp only [et,bJ,ar] at h;obtain ⟨b,a⟩:=aem h.2;unfold eN lU;cases x.1
  .exact ⟨b,by show bJ c (x.2::lU R)=true;simp only [bJ,ar];exact ⟨h.1,a⟩⟩
  .exact ⟨by show bJ c (x.2::eN R)=true;simp only [bJ,ar];exact ⟨h.1,b⟩,a⟩
theorem amJ{N:List Nm}:∀{M:List Nm} {k:Nat},(∀i a,M[i]? =some a->ρ (k+i)=a)->NB ρ (Mu M.length k) M
 |[],_,_=> .nil
 |a::M,k,h=> .cons (by
   have:=h 0 a rfl;rw [qn] at this;exact ⟨by rw [this],by rw [this],by rw [this]⟩) (amJ (N:=N) λi b hb=>by
   have:=h (i+1) b (by simpa using hb);rw [<-this];congr 1;omega)
end
section
variable {X : Cx} {fr : Fr} {st : aG} {ρ : aB} {Φ : Ctx} {w : World}
theorem ase(j:Sat (ab ρ [] st.G++(ab ρ [] fr.H++Φ)) w){r:ResultVar}{v:AV}(h:Ld X fr st r=some v):lE X.P (az ρ [] st.E fr.F) w r (v.val ρ):=by
 cases r with
 |tmp t=>exact lE.t (Hy h)
 |cell p t=>
  unfold Ld at h;dsimp only at h;split at h
  .rename_i u i;split at h
   .rename_i cs b;obtain ⟨y,s,f⟩:=Oj j b aE.get_none;have hl:=Hy (ρ:=ρ) i;rw [s] at hl;have o:lQ X.P t (cs.drop 0)=some v:=by simpa using h
    obtain ⟨d,n,bytes,z,c1,x,e⟩:=oS (ρ:=ρ) o;cases hd:kJ d
    .rw [hd] at e;simp only [cL,j3] at e;exact lE.c1 hl c1 hd f e
    .unfold lQ at h;rw [c1] at h;rcases eb h with ⟨_,c⟩|⟨g,_⟩
     .split at c
      next q k=>obtain ⟨n,bytes,z⟩:=q;obtain ⟨m,l⟩:=aK c;cases l;have a:n<=cs.length:=c5 m;simp only [AV.val];refine lE.cA hl c1 hd (cU k) (vs:=AV.ao ρ (cs.take n)) ?_ (by rw [AV.bw,cx,ed a]);have:=f.sub (us:=AV.ao ρ (cs.take n)) 0 (by rw [AV.kP,n3,cx,AV.bw,ed a]);simpa [Addr.add] using this
      .cases c
     .rw [hd] at g;cases g
   .cases h
  .cases h
theorem ap2{rs:List AV}:(if h:(AV.ao ρ rs).length=1 then (AV.ao ρ rs)[0] else .tuple (AV.ao ρ rs).toArray)=(HR rs).val ρ:=by
 match rs with
 |[]=>simp [HR,AV.ao,AV.val]
 |[v]=>simp [HR,AV.ao]
 |u::v::l=>simp [HR,AV.ao,AV.val]
theorem ama{fn:Func}{S:Value->World->Prop}{Sp:xc->World->Prop}{rs:List AV}(k:Sat (ab ρ [] st.G++(ab ρ [] fr.H++Φ)) w)(h:wz (Ld X fr st) fn.results.toList=some rs)(o:S ((HR rs).val ρ) w):
  At (BP X.P fn S Sp) .ret fr.n [] (az ρ [] st.E fr.F) w:=by
 have c:∀{α β:Type} {f:α->Option β} {l:List α} {ys:List β},wz f l=some ys->l.length=ys.length:=λ{α β f l}=>by
  induction l with
  |nil=>intro ys h;cases h;rfl
  |cons x l ih=>
   intro ys h;unfold wz at h;split at h
   .split at h
    next zs e=>cases h;simp [ih e]
    .cases h
   .cases h
 have b:∀{l:List ResultVar} {ys:List AV},wz (Ld X fr st) l=some ys->wz (λr=>(Ld X fr st r).map (AV.val ρ)) l=some (AV.ao ρ ys):=λ{l}=>by
  induction l with
  |nil=>intro ys h;cases h;simp [wz,AV.ao]
  |cons x l ih=>
   intro ys h;unfold wz at h ⊢;split at h
   .rename_i y j;split at h
    next zs e=>cases h;rw [j,ih e];simp [AV.ao]
    .cases h
   .cases h
 refine aku (vs:=AV.ao ρ rs) (by rw [AV.bw];exact c h) (λa m=>Xn (g:=λr=>(Ld X fr st r).map (AV.val ρ)) (λr v d=>?_) (b h)) ap2 o;cases i:Ld X fr st r with
 |none=>rw [i] at d;cases d
 |some u=>
  rw [i] at d;cases d;exact (ase k i).run m
end
theorem aiv{R:Type}{X:Cx}{h:HT}{fn:Func}{f:FuncId}{ps:List Pt}{KF:List AV->List Row->Nat->List (Nat×List AV)->XE->aG->Option R}{s:fy (oN ps)}{r:R}{S:Value->World->Prop}{Sp:xc->World->Prop}
  (Z:X.P.funcs[f]? =some fn) (Q:∀e∈tb,e.Ok X.P X.Γ) (M:∀e∈tp,e.Ok X.P X.Γ) (O:∀c∈tc,c.Ok X.P) (hd:ak0 X tb tp tc h fn ps KF s=some r) {d:yp} {N:List Nm} {I:fF} {XX:kq} {Φ:Ctx} {w:World}
  (hS:wB ps d [] [] [] (ic _ s) I XX N) (o:Sat (dP I++Φ) w) (K:∀it∈X.Γ,it∈Φ)
  (fin:∀(x:XE) (vs:List AV) (H:List Row) (D:List (Nat×List AV)) (st:aG) (ρ:aB) (w':World),KF vs H N.length D x st=some r->Sat (ab ρ [] st.G++(ab ρ [] (hx x ⟨[],H,fn.ntmps⟩)++Φ)) w'->NB ρ (Mu N.length 0) N->AV.ao ρ vs=d->eB ρ D=XX->
   (∀{A:Ctx} {J:World},Sat (A++(ab ρ [] H++Φ)) J->Sat (A++(fK I++Φ)) J)->Pv (BP X.P fn S Sp) x ρ fn.ntmps [] (az ρ [] st.E []) w'):mw X.P f d w S Sp:=by
 -- names of the arguments
 have p:w6 (λ(i:Nat)=>(N[i]?).getD dB) id 0 N:=λi a l=>by simp only [id,l,qg];exact ⟨trivial,trivial,trivial,λ_=>trivial⟩
 have t:∀(i:Nat) a,N[i]? =some a->(λ(i:Nat)=>(N[i]?).getD dB) (0+i)=a:=λi a l=>by simp only [j0,l,qg]
 generalize (λ(i:Nat)=>(N[i]?).getD dB)=ρ at p t;obtain ⟨v,z,f3,y,u⟩:=vk (T:=[]) (nm:=id) ps d [] [] [] (ic _ s) I XX N (by simpa only [AV.ao] using hS) p (qk _) [];have fb:=uI (nm:=id) ps [] [] 0 (ic _ s);simp only [l5,qa] at v z f3 y u;unfold ak0 at hd;generalize fg id ps [] [] 0 (ic _ s)=L at v z f3 y u fb hd;obtain ⟨vs,R,n,DD,D⟩:=L;simp only at v z f3 y u fb;dsimp only at hd;subst z;generalize hL:mB (N8 (eN R)) N.length (eN R)=L at hd;obtain ⟨G,F,c⟩:=L;dsimp only at hd;split at hd
 .cases hd
 rename_i body j;obtain ⟨h1,h2⟩:=aK hd;simp only [ar] at h1;obtain ⟨⟨h3,h4⟩,h5⟩:=h1;obtain ⟨l1,l2⟩:=aem h5;obtain ⟨b,g⟩:=LZ (ids:=N8 (eN R)) (ρ:=ρ) l1;rw [hL] at g;have hc:N.length<=c:=g.le;have W:Sat (ab ρ [] (R.map (·.2))++Φ) w:=Sat.leL (A:=[]) (B:=dP I) (C:=Φ) o u.rw;have V:=abE (A:=[]) W;have e1:ab b [] G=ab ρ [] (eN R):=g.eq;have U:Sat (ab b [] G++(ab b [] (F++lU R)++Φ)) w:=by
  rw [e1,bu,bm g.ag l2,bb];exact Sat.oI (A:=ab ρ [] (eN R)) (B:=ab ρ [] (lU R)++Φ) V (ab b [] F) (λit bQ=>by obtain ⟨q,hq,rfl⟩:=List.mem_map.1 bQ;exact g.rp q hq)
 have m:AV.ao b vs=d:=by rw [AV.cn g.ag _ h4,v]
 refine ln Z j rfl (by rw [<-m,AV.bw];exact h3) ?_;have hE:az b [] (ki 0 vs) []=iota 0 d:=by show aH.env b [] (ki 0 vs)++[]=_;rw [Ad,m,l5]
 rw [<-hE];refine aso (fr:=⟨[],F++lU R,fn.ntmps⟩) (st:=⟨c,ki 0 vs,G,h⟩) K Q M O body U h2 (λx st' ρ' w' a1 a2 a3 a4=>?_);have k:aZ N.length ρ ρ':=g.ag.trans (a1.less hc) (ch _);refine fin x vs (F++lU R) (afJ D (gN G)) st' ρ' w' a3 a4 (amJ (N:=N) (λi a l=>by
   have hi:i<N.length:=(List.getElem?_eq_some_iff.1 l).1;rw [k _ (by omega)];exact t i a l)) (by rw [AV.cn k _ h4,v]) ?_ (λ{A J} hw=>?_)
 .rw [y];refine afk ?_;have g1:(gN G).map (AV.ao ρ')=(gN G).map (AV.ao b):=Ny a1 g.lw;have g2:(gN G).map (AV.ao b)=(gN (eN R)).map (AV.ao ρ):=g.bx;rw [g1,g2,<-fb,List.map_map];rfl
 .rw [bu,bb] at hw;have p4:=hw.Xb;have Y:ab ρ' [] (lU R)=ab ρ [] (lU R):=bm k l2;rw [Y] at p4;exact PV u p4
theorem PY{X:Cx}{e:aq}{fn:Func}{S:Value->World->Prop}{Sp:xc->World->Prop}{q:fy (nC e.r++iB e.os)}{a:yp}{N:List Nm}{I:fF}{w:kq}{Φ:Ctx}{vs:List AV}{H:List Row}{f:List (Nat×List AV)}{st:aG}{ρ:aB}{w':World}
  (hk:aki X e fn ⟨[],H,fn.ntmps⟩ N.length (λ(i:Nat)=>vs[i]?) (yy (Mu N.length 0) e.ps vs f) st=some q) (F:Sat (ab ρ [] st.G++(ab ρ [] H++Φ)) w') (h:NB ρ (Mu N.length 0) N) (b:AV.ao ρ vs=a) (Y:eB ρ f=w)
  (c:∀{A:Ctx} {x:World},Sat (A++(ab ρ [] H++Φ)) x->Sat (A++(fK I++Φ)) x)
  (u:∀v w',(∃(j N2:List Nm) (K J:List cD) (l k:fF) (X1 Z:kq),Sem e.r v none none N K l X1 j/\Ij (WJ N e.ps a w) (λ(i:Nat)=>a[i]?) e.os j J k Z N2/\K++J=ic _ q/\Sat ((dP l++dP k)++(fK I++Φ)) w')->S v w'):
  At (BP X.P fn S Sp) .ret fn.ntmps [] (az ρ [] st.E []) w':=by
 unfold aki at hk;split at hk
 .rename_i rs o;refine ama (fr:=⟨[],H,fn.ntmps⟩) F o (u _ _ ?_);generalize HR rs=v at hk;have d:=ka (ids:=uA st.G H e.r v++W5 st.G H (λ(i:Nat)=>vs[i]?) (yy (Mu N.length 0) e.ps vs f) e.os) F;change Sat (ab ρ [] (ao3 e ⟨[],H,fn.ntmps⟩ st v (λ(i:Nat)=>vs[i]?) (yy (Mu N.length 0) e.ps vs f))++_) w' at d;generalize ao3 e ⟨[],H,fn.ntmps⟩ st v (λ(i:Nat)=>vs[i]?) (yy (Mu N.length 0) e.ps vs f)=G' at hk d;unfold auo at hk;split at hk
  .rename_i m p;split at hk
   .rename_i C s;obtain ⟨n,V⟩:=aK hk;simp only [ar] at n;obtain ⟨j,l,L,U,O⟩:=Lg d e.r v none none _ m N p h (λq W=>by cases W);obtain ⟨N2,k,y,n2,M⟩:=W4 d e.os m.B C j s U;have t:(λi=>fY ρ (yy (Mu N.length 0) e.ps vs f i))=WJ N e.ps a w:=by
     funext i
     rw [<-ajo h,b,Y]
    have g:(λ(i:Nat)=>(vs[i]?).map (AV.val ρ))=λ(i:Nat)=>a[i]? :=by
     funext i
     rw [<-b,Zn]
    rw [t,g] at y;obtain ⟨T,_⟩:=P8 d (O.append M);obtain ⟨z,_⟩:=Ah d T (Ao n.1);rw [E5 n.2] at z;have R:=z.Xb;have Q:=c R;refine ⟨j,N2,m.D,C.D,l,k,_,_,L,y,(C9 _ V).symm,?_⟩;simpa [dP] using Q
   .cases hk
  .cases hk
 .cases hk
theorem at1{X:Cx}{h:HT}{fn:Func}{e:aq}(q:Enters X.P e.f)(p:X.P.funcs[e.f]? =some fn)(o:∀e∈tb,e.Ok X.P X.Γ)(k:∀e∈tp,e.Ok X.P X.Γ)(n:∀c∈tc,c.Ok X.P)(A:∀s r,e.m s=some r->adK X tb tp tc h fn e s=some r):e.Ok X.P X.Γ:=by
 refine ⟨q,λs r z y N I C Φ w B d j=>?_⟩;refine aiv p o k n (A s r z) B d j (λx vs H D st ρ w' hk u g b t a=>?_);cases x with
 |nrm=>exact PY hk u g b t a (λ_ _ h=>h)
 |ret=>exact PY hk u g b t a (λ_ _ h=>h)
 |ext i=>cases hk
 |gto l=>cases hk
 |iY v=>cases hk
 |panE v=>cases hk
 |panL v=>cases hk
theorem asp{X:Cx}{h:HT}{fn:Func}{e:bR}(R:Enters X.P e.f)(Q:X.P.funcs[e.f]? =some fn)(M:∀e∈tb,e.Ok X.P X.Γ)(K:∀e∈tp,e.Ok X.P X.Γ)(L:∀c∈tc,c.Ok X.P)(hm:∀s r,e.m s=some r->apB X tb tp tc h fn e s=some r):e.Ok X.P X.Γ:=by
 refine ⟨R,λs r hr U N I XX Φ w hS B J=>?_⟩;refine aiv Q M K L (hm s r hr) hS B J (λx vs H XA st ρ w' hk t C z T b=>?_);have two:∀(v:AV) (H:List Row) (E:Ctx),Sat (ab ρ [] st.G++(ab ρ [] H++Φ)) w'->(∀{A:Ctx},Sat (A++(ab ρ [] H++Φ)) w'->Sat (A++(E++Φ)) w')->∀(pp:Pt) (pq:Option Pt) (p:Wy pp pq),Dm pp pq ⟨[],H,fn.ntmps⟩ v st=some p->∃(g:List Nm) (d:fF) (n:kq),aoc pp pq p (v.val ρ) d n g/\Sat (dP d++(E++Φ)) w':=λv H E t b pp pq p hp=>by
  have one:∀(pp:Pt) (p:fy (nC pp)),Qd pp ⟨[],H,fn.ntmps⟩ v st=some p->∃(g:List Nm) (d:fF) (n:kq),Sem pp (v.val ρ) none none [] (ic _ p) d n g/\Sat (dP d++(E++Φ)) w':=λpp p hp=>by
   unfold Qd at hp;have D:=ka (ids:=uA st.G H pp v) t;generalize cJ (uA st.G H pp v) st.G=G' at hp D;split at hp
   next Z O=>obtain ⟨F,k2⟩:=aK hp;simp only [ar] at F;obtain ⟨g,d,o,n1,V⟩:=Lg D pp v none none _ Z [] O .nil (λq j=>by cases j);obtain ⟨Y,_⟩:=P8 D V;obtain ⟨S,_⟩:=Ah D Y (Ao F.1);rw [E5 F.2] at S;have W:=b S.Xb;rw [<-C9 _ k2] at o;exact ⟨g,d,_,o,by simpa [dP] using W⟩
   .cases hp
  cases pq with
  |none=>exact one pp p hp
  |some q=>
   simp only [Dm] at hp;split at hp
   next x hx=>cases hp;exact one pp x hx
   .cases j:Qd q ⟨[],H,fn.ntmps⟩ v st with
    |none=>rw [j] at hp;cases hp
    |some x=>
     rw [j] at hp;cases hp;exact one q x j
 have y:∀{A:Ctx},Sat (A++(fK I++Φ)) w'->Sat (A++(aC e.lp [] (fK I)++Φ)) w':=λh=>by
  cases e.lp
  .exact h
  .exact Sat.NI h
 cases x with
 |nrm=>
  obtain ⟨x,q,j,rfl,hi⟩:=aen hk;exact PY j t C z T b (λ_ _ h=>⟨x,q,rfl,hi,h⟩)
 |ret=>
  obtain ⟨x,q,j,rfl,hi⟩:=aen hk;exact PY j t C z T b (λ_ _ h=>⟨x,q,rfl,hi,h⟩)
 |ext i=>cases hk
 |gto l=>cases hk
 |iY v=>
  have a:(Dm e.pp e.pq ⟨[],H,fn.ntmps⟩ v st).map Except.error=some r:=hk;cases hp:Dm e.pp e.pq ⟨[],H,fn.ntmps⟩ v st with
  |none=>rw [hp] at a;cases a
  |some p=>
   rw [hp] at a;cases a;obtain ⟨g,d,n,o,u⟩:=two v H (fK I) t b e.pp e.pq p hp;exact akG ⟨p,rfl,v.val ρ,g,d,n,rfl,o,y u⟩
 |panE v=>
  have a:(Dm e.pp e.pq ⟨[],H,fn.ntmps⟩ v st).map Except.error=some r:=hk;cases hp:Dm e.pp e.pq ⟨[],H,fn.ntmps⟩ v st with
  |none=>rw [hp] at a;cases a
  |some p=>
   rw [hp] at a;cases a;obtain ⟨g,d,n,o,u⟩:=two v H (fK I) t b e.pp e.pq p hp;exact (akG ⟨p,rfl,v.val ρ,g,d,n,rfl,o,y u⟩:DG _ _ [] _).at
 |panL v=>
  have a:(aC (e.lp||UE H) (Dm e.pp e.pq ⟨[],dL H,fn.ntmps⟩ v st) none).map Except.error=some r:=hk;cases k:e.lp||UE H with
  |false=>rw [k] at a;cases a
  |true=>
   rw [k] at a;replace a:(Dm e.pp e.pq ⟨[],dL H,fn.ntmps⟩ v st).map Except.error=some r:=a;cases hp:Dm e.pp e.pq ⟨[],dL H,fn.ntmps⟩ v st with
   |none=>rw [hp] at a;cases a
   |some p=>
    rw [hp] at a;cases a;obtain ⟨g,d,n,o,u⟩:=two v (dL H) (aC e.lp [] (fK I)) t (λh=>by
     cases hl:e.lp
     .rw [hl,qs] at k;rw [aaJ k] at h;exact b h
     .exact Sat.NI h) e.pp e.pq p hp
    exact (akG ⟨p,rfl,v.val ρ,g,d,n,rfl,o,u⟩:DG _ _ [] _).at
theorem dR{X:Cx}{A B:Type}{E:(A->Option B)->aq}{F:(A->Option B)->A->Option B}(a:(E λ_=>none).Ok X.P X.Γ)(step:∀k,(E k).Ok X.P X.Γ->(E (F k)).Ok X.P X.Γ):∀n,(E (aw F n)).Ok X.P X.Γ
 |0=>a
 |n+1=>step _ (dR a step n)
theorem adH{X:Cx}{A B:Type}{E:(A->Option B)->bR}{F:(A->Option B)->A->Option B}(a:(E λ_=>none).Ok X.P X.Γ)(step:∀k,(E k).Ok X.P X.Γ->(E (F k)).Ok X.P X.Γ):∀n,(E (aw F n)).Ok X.P X.Γ
 |0=>a
 |n+1=>step _ (adH a step n)
theorem aY{X:Cx}{fn:Func}{e:aq}(h:HT)(i:Enters X.P e.f)(g:X.P.funcs[e.f]? =some fn)(d:∀e∈tb,e.Ok X.P X.Γ)(a:∀e∈tp,e.Ok X.P X.Γ)(b:∀c∈tc,c.Ok X.P)(eq:∀s,adK X tb tp tc h fn e s=e.m s):e.Ok X.P X.Γ:=
 at1 i g d a b λs _ j=>(eq s).trans j
theorem sJ{X:Cx}{fn:Func}{e:bR}(h:HT)(i:Enters X.P e.f)(g:X.P.funcs[e.f]? =some fn)(d:∀e∈tb,e.Ok X.P X.Γ)(a:∀e∈tp,e.Ok X.P X.Γ)(b:∀c∈tc,c.Ok X.P)(eq:∀s,apB X tb tp tc h fn e s=e.m s):e.Ok X.P X.Γ:=
 asp i g d a b λs _ j=>(eq s).trans j
theorem aj{E:Type}{p:E->Prop}:∀e∈([]:List E),p e:=λ_ h=>by cases h
theorem al{E:Type}{p:E->Prop}{x:E}{l:List E}(hx:p x)(hl:∀e∈l,p e):∀e∈x::l,p e:=λe a=>by
 rcases List.mem_cons.1 a with rfl|a
 .exact hx
 .exact hl e a
def akT(x:Int):Bool:=decide (-9223372036854775808<=x)&&decide (x<=9223372036854775807)
theorem aqq{x:Int}:akT x=true↔ -9223372036854775808<=x/\x<=9223372036854775807:=by simp [akT]
end
end Go.Proofs.YthhmkmmmbcjghaaGreatDoor
