/- Own texts for NestAlwaysQ, cut and joined by a program. -/
import Derived.Test.YtcgihjbfppkcfaaGreatDoorNestAlwaysQB
set_option linter.all false
namespace Go.Proofs.YtcgihjbfppkcfaaGreatDoor
open IntKind (i64)
open Go.Lib
def bV(a b:Item):Prop:=(∀x,x∈b.own->x∈a.own)/\∀M w,a.P M w->b.P M w
theorem bV.refl{a:Item}:bV a a:=⟨λ_ h=>h,λ_ _ h=>h⟩
def adL(ρ:aw)(T:aA)(G H:List Row)(s:Src)(it:Item):Prop:=
 (it.own=[]/\(∀M w,it.P M w)/\∀r,¬s.at_ G H r)\/∃r,s.at_ G H r/\bV (r.item ρ T) it/\(r.cL=true->it.own=[])/\(r.cL=false->bV it (r.item ρ T))
def SI(ρ:aw)(T:aA)(G H:List Row)(a:Bool×Src)(b:Bool×Item):Prop:=a.1=b.1/\adL ρ T G H a.2 b.2
inductive fN{α β:Type}(R:α->β->Prop):List α->List β->Prop
 |nil:fN R [] []
 |cons {a b l m}:R a b->fN R l m->fN R (a::l) (b::m)
theorem fN.length{α β:Type}{R:α->β->Prop}{l:List α}{m:List β}(h:fN R l m):l.length=m.length:=by
 induction h with
 |nil=>rfl
 |cons _ _ ih=>simp [ih]
theorem fN.append{α β:Type}{R:α->β->Prop}{l l':List α}{m a:List β}(h:fN R l m)(k:fN R l' a):fN R (l++l') (m++a):=by
 induction h with
 |nil=>exact k
 |cons b _ ih=>exact .cons b ih
theorem fN.get{α β:Type}{R:α->β->Prop}{l:List α}{m:List β}(h:fN R l m):∀{i:Nat} {a:α},l[i]? =some a->∃b,m[i]? =some b/\R a b:=by
 induction h with
 |nil=>intro i a h;simp at h
 |cons c _ ih=>
  grind
def NBr(ρ:aw)(o:zg)(a:Nm):Prop:=match o with
 |some j=>a.b=(ρ j).b/\a.v=(ρ j).v/\a.m=(ρ j).m
 |none=>a.v=(none,0,0)/\a.m=none
abbrev NB(ρ:aw)(B:xc)(N:List Nm):Prop:=fN (NBr ρ) B N
theorem NB.at_{ρ:aw}{B:xc}{N:List Nm}(h:NB ρ B N){n j:Nat}(hb:N7 ((B[n]?).getD none) (some j)=true):∃a,N[n]? =some a/\a.b=(ρ j).b/\a.v=(ρ j).v:=by
 have e:=anT hb;cases hn:B[n]? with
 |none=>rw [hn] at e;cases e
 |some o=>
  rw [hn] at e;subst e;obtain ⟨a,d,c⟩:=h.get hn;exact ⟨a,d,c.1,c.2.1⟩
section
variable {ρ : aw} {T : aA} {G H : List Row} {Φ : Ctx} {w : World}
theorem SW(g:Sat (ab ρ T G++(ab ρ T H++Φ)) w){t:Ty}{v:AV}{q:zg×Src×List t.T}(h:YY G H t v=some q):∃a:Nm,NBr ρ q.1 a/\v.val ρ=sl a.v/\adL ρ T G H q.2.1 (LQ true t.rep a.v q.2.2 false):=by
 unfold YY at h;split at h
 .split at h
  .rename_i s c t' l b d;split at h
   next l' hl=>cases h;obtain ⟨rfl,rfl⟩:=sd hl;obtain ⟨f,e⟩:=bW d;have  :=b0 e;subst this;refine ⟨ρ c,⟨rfl,rfl,rfl⟩,by simp [AV.val],.inr ⟨_,f,⟨λ_ h=>h,λM w h _=>⟨(h aA.get_none).1,λhb=>by cases hb⟩⟩,λ_=>rfl,λh=>by cases h⟩⟩
   .cases h
  .cases h
 .cases h;exact ⟨dm,⟨rfl,rfl⟩,by rfl,.inl ⟨rfl,λM w _=>⟨bS.nil,λhb=>by cases hb⟩,λr h=>h⟩⟩
 .cases h
theorem R9(i:Sat (ab ρ T G++(ab ρ T H++Φ)) w){t:Ty}{e:TypeId}{v:AV}{q:zg×Src×List t.T}(h:Ya G H t e v=some q):∃a:Nm,NBr ρ q.1 a/\v.val ρ=sl a.v/\a.y=⟨.l t,q.2.2⟩/\adL ρ T G H q.2.1 (te t.rep e a.v q.2.2 True):=by
 unfold Ya at h;split at h
 .split at h
  .rename_i s g t' e' l f j;obtain ⟨k,c⟩:=aI h;have n:=b0 k;subst n;split at c
   next l' hl=>cases c;obtain ⟨rfl,rfl⟩:=sd hl;obtain ⟨d,m⟩:=bW j;have  :=b0 m;subst this;have b:=(Src.holds i d).2;refine ⟨{ ρ g with y:=⟨.l t',l⟩ },⟨rfl,rfl,rfl⟩,by simp [AV.val],rfl,.inr ⟨_,d,⟨λ_ h=>h,λM w h=>⟨h.1,trivial⟩⟩,λh=>(by cases h),λ_=>⟨λ_ h=>h,λM w h=>⟨h.1,b⟩⟩⟩⟩
   .cases c
  .cases h
 .cases h;exact ⟨{ dm with y:=⟨.l t,([])⟩ },⟨rfl,rfl⟩,by rfl,rfl,.inl ⟨rfl,λM w=>⟨cf.nil,trivial⟩,λr h=>h⟩⟩
 .cases h
theorem S2(m:Sat (ab ρ T G++(ab ρ T H++Φ)) w):(t:Ty)->(vs:List AV)->(o:xa)->(B:xc)->(d:DR t)->(N:List Nm)->FU G H t vs o B=some d->NB ρ B N->
  ∃us N' I,vs=us++d.vs/\OJ t d.x (AV.aj ρ us) o N I N' d.o/\NB ρ d.B N'/\fN (SI ρ T G H) d.S I
 | .i k,vs,o,B,d,N,h,hN=>by
  unfold FU at h;split at h
  next U x us=>obtain ⟨A,z⟩:=aI h;have:=nb A;subst this;cases z;exact ⟨[.int k x],N,[],rfl,⟨by simp [AV.aj,AV.val],rfl,rfl,rfl⟩,hN,.nil⟩
  .cases h
 | .bo,vs,o,B,d,N,h,hN=>by
  unfold FU at h;split at h
  next x us=>cases h;exact ⟨[.bool x],N,[],rfl,⟨by simp [AV.aj,AV.val],rfl,rfl,rfl⟩,hN,.nil⟩
  .cases h
 | .s,vs,o,B,d,N,h,hN=>by
  unfold FU at h;split at h
  next x us=>cases h;exact ⟨[.str x],N,[],rfl,⟨by simp [AV.aj,AV.val],rfl,rfl,rfl⟩,hN,.nil⟩
  .cases h
 | .un,vs,o,B,d,N,h,hN=>by
  cases h;exact ⟨[],N,[],rfl,⟨by simp [AV.aj],rfl,rfl,rfl⟩,hN,.nil⟩
 | .n,vs,o,B,d,N,h,hN=>by cases h
 | .mp _ _,vs,o,B,d,N,h,hN=>by cases h
 | .p a b,vs,o,B,d,N,h,hN=>by
  unfold FU at h;split at h
  .rename_i d1 A;split at h
   next d2 z=>cases h;obtain ⟨y,F,K,g,c,f,R⟩:=S2 m a vs o B d1 N A hN;obtain ⟨u,N2,J,P,L,O,Q⟩:=S2 m b d1.vs d1.o d1.B d2 F z f;refine ⟨y++u,N2,K++J,by rw [g,P,cb],?_,O,R.append Q⟩;rw [dh];exact ⟨_,_,F,K,J,d1.o,c,L,rfl,rfl⟩
   .cases h
  .cases h
 | .l t,vs,o,B,d,N,h,hN=>by
  unfold FU at h;split at h
  .rename_i v us;split at h
   .split at h
    next q j=>cases h;obtain ⟨a,f,g,c⟩:=SW m j;refine ⟨[v],N++[a],_,rfl,⟨a,by simp [AV.aj];rw [g],rfl,.inl ⟨rfl,rfl⟩⟩,hN.append (.cons f .nil),.cons ⟨rfl,c⟩ .nil⟩
    .cases h
   .rename_i e M;split at h
    next q j=>cases h;obtain ⟨a,f,g,r,c⟩:=R9 m j;refine ⟨[v],N++[a],_,rfl,⟨a,by grind [AV.aj],rfl,.inr ⟨e,rfl,rfl,r⟩⟩,hN.append (.cons f .nil),.cons ⟨rfl,c⟩ .nil⟩
    .cases h
   .cases h
  .cases h
 | .ex,vs,o,B,d,N,h,hN=>by
  unfold FU at h;split at h
  .rename_i E D C v us;split at h
   .split at h
    next q j=>cases h;obtain ⟨a,f,g,c⟩:=SW m j;refine ⟨[.int .i64 E,.int .i64 D,.int .i64 C,v],N++[a],_,rfl,⟨a,by simp only [AV.aj];rw [g];rfl,rfl,.inl ⟨rfl,rfl⟩⟩,hN.append (.cons f .nil),.cons ⟨rfl,c⟩ .nil⟩
    .cases h
   .rename_i e M;split at h
    next q j=>cases h;obtain ⟨a,f,g,r,c⟩:=R9 m j;refine ⟨[.int .i64 E,.int .i64 D,.int .i64 C,v],N++[a],_,rfl,⟨a,by simp only [AV.aj];rw [g];rfl,rfl,.inr ⟨e,rfl,rfl,r⟩⟩,hN.append (.cons f .nil),.cons ⟨rfl,c⟩ .nil⟩
    .cases h
   .cases h
  .cases h
abbrev eV(ρ:aw)(X:List (Nat×List AV)):lh:=X.map λx=>(x.1,AV.aj ρ x.2)
abbrev ic(ρ:aw)(fx:ja):Fx:=fx.map λq=>(q.1.val ρ,AV.aj ρ q.2)
theorem abt{fx:ja}:fxC (ic ρ fx)=AV.aj ρ (Iv fx):=by
 cases fx with
 |none=>simp [fxC,Iv,AV.aj]
 |some q=>rfl
theorem Mx{p:Pt}{a:List AV}:fx1 p (AV.aj ρ a)=ic ρ (rA p a):=by
 cases a with
 |nil=>rfl
 |cons u us=>
  unfold fx1 rA;cases Wm p <;> simp [AV.aj]
theorem Ze{b:Bool}{x:List AV}:AV.aj ρ (aD b x [])=aD b (AV.aj ρ x) []:=by grind [AV.aj]
theorem Qe{fx:ja}:(ic ρ fx).isSome=fx.isSome:=by cases fx <;> rfl
theorem vS{fx:ja}{v:AV}(h:∀q,fx=some q->q.1.val ρ=v.val ρ):xI (ic ρ fx) (v.val ρ):=by
 intro p hp;cases fx with
 |none=>cases hp
 |some q=>grind
theorem Uz(a:Sat (ab ρ T G++(ab ρ T H++Φ)) w){p:Pt}{v:AV}:(aD (Xy p) v (wP G H v)).val ρ=v.val ρ:=by grind [Xy,Z5]
theorem Uy{l:List AV}:(AV.aj ρ l).head? =l.head?.map (AV.val ρ):=by cases l <;> simp [AV.aj]
theorem LV{l:List AV}:(AV.aj ρ l).tail=AV.aj ρ l.tail:=by cases l <;> simp [AV.aj]
mutual
theorem Mt(O:Sat (ab ρ T G++(ab ρ T H++Φ)) w):(p:Pt)->(v:AV)->(fx:ja)->(y:Option AV)->(B:xc)->(r:MR)->(N:List Nm)->mt G H p v fx y B=some r->NB ρ B N->(∀q,fx=some q->q.1.val ρ=v.val ρ)->
  ∃J I,Sem p (v.val ρ) (ic ρ fx) (y.map (AV.val ρ)) N r.D I (eV ρ r.X) J/\NB ρ r.B J/\fN (SI ρ T G H) r.S I
 | .int k,v,fx,y,B,r,N,h,hN,hf=>by
  unfold mt at h;split at h
  next k' x=>obtain ⟨g,i⟩:=aI h;have:=nb g;subst this;cases i;exact ⟨N,[],⟨x,by simp only [AV.val],rfl,rfl,rfl,rfl⟩,hN,.nil⟩
  .cases h
 | .bool,v,fx,y,B,r,N,h,hN,hf=>by
  unfold mt at h;split at h
  next x=>cases h;exact ⟨N,[],⟨x,by simp only [AV.val],rfl,rfl,rfl,rfl⟩,hN,.nil⟩
  .cases h
 | .str,v,fx,y,B,r,N,h,hN,hf=>by
  unfold mt at h;split at h
  next x=>cases h;exact ⟨N,[],⟨x,by simp only [AV.val],rfl,rfl,rfl,rfl⟩,hN,.nil⟩
  .cases h
 | .sli t,v,fx,y,B,r,N,h,hN,hf=>by
  unfold mt at h;split at h
  next q L=>cases h;obtain ⟨a,C,E,A⟩:=SW O L;exact ⟨N++[a],_,⟨a,q.2.2,E,rfl,rfl,rfl,rfl⟩,hN.append (.cons C .nil),.cons ⟨rfl,A⟩ .nil⟩
  .cases h
 | .own t e m,v,fx,y,B,r,N,h,hN,hf=>by
  unfold mt at h;split at h
  next q L=>cases h;obtain ⟨a,C,E,y1,A⟩:=R9 O L;exact ⟨N++[a],_,⟨a,q.2.2,E,vS hf,rfl,rfl,rfl,rfl,y1⟩,hN.append (.cons C .nil),.cons ⟨rfl,A⟩ .nil⟩
  .cases h
 | .slr n,v,fx,y,B,r,N,h,hN,hf=>by
  unfold mt at h;split at h
  next j=>obtain ⟨g,i⟩:=aI h;cases i;obtain ⟨a,z,P,a3⟩:=hN.at_ g;exact ⟨N,[],⟨a,z,by simp only [AV.val];rw [a3],rfl,rfl,rfl,rfl⟩,hN,.nil⟩
  .cases h
 | .bx t off m vs,v,fx,y,B,r,N,h,hN,hf=>by
  unfold mt at h;split at h
  .rename_i j Q;obtain ⟨g,i⟩:=aI h;have E:=b0 g;subst E;split at i
   .rename_i s F t' cs K;obtain ⟨h3,h4⟩:=aI i;have e2:=b0 h3;subst e2;split at h4
    next q L=>cases h4;obtain ⟨U,R⟩:=bW K;have:F=j:=b0 R;subst this;obtain ⟨J,I,A,C,z⟩:=Al O vs cs [] (Iv fx) (B++[some F]) q (N++[ρ F]) L (.inl rfl) (hN.append (.cons ⟨rfl,rfl,rfl⟩ .nil));refine ⟨J,_,⟨ρ F,AV.aj ρ cs,I,eV ρ q.X,by simp only [AV.val],vS hf,by rw [abt];simpa only [AV.aj] using A,rfl,?_⟩,C,.cons ⟨rfl,.inr ⟨_,U,bV.refl,(λh=>by cases h),λ_=>bV.refl⟩⟩ z⟩;rw [<-hN.length];cases m <;> simp [eV]
    .cases h4
   .cases i
  .cases h
 | .ptr n off,v,fx,y,B,r,N,h,hN,hf=>by
  unfold mt at h;split at h
  next j Q=>obtain ⟨g,i⟩:=aI h;simp only [an] at g;cases i;have E:=b0 g.1;subst E;obtain ⟨a,z,P,a3⟩:=hN.at_ g.2;exact ⟨N,[],⟨a,z,by simp only [AV.val];rw [P],rfl,rfl,rfl,rfl⟩,hN,.nil⟩
  .cases h
 | .mp k u m,v,fx,y,B,r,N,h,hN,hf=>by
  unfold mt at h;split at h
  .rename_i j;split at h
   .rename_i s F k' u' d K;split at h
    next d' hd=>cases h;have:=ck.MA hd;cases this;obtain ⟨U,R⟩:=bW K;have:F=j:=b0 R;subst this;exact ⟨N++[ρ F],_,⟨ρ F,d',by simp only [AV.val],vS hf,rfl,rfl,rfl,rfl⟩,hN.append (.cons ⟨rfl,rfl,rfl⟩ .nil),.cons ⟨rfl,.inr ⟨_,U,bV.refl,(λh=>by cases h),λ_=>bV.refl⟩⟩ .nil⟩
    .cases h
   .cases h
  .cases h;exact ⟨N++[dm],_,⟨dm,none,by simp only [AV.val];rfl,vS hf,rfl,rfl,rfl,rfl⟩,hN.append (.cons ⟨rfl,rfl⟩ .nil),.cons ⟨rfl,.inl ⟨rfl,λM w=>rv.nil,λr h=>h⟩⟩ .nil⟩
  .cases h
 | .it,v,fx,y,B,r,N,h,hN,hf=>by
  unfold mt at h;split at h
  .rename_i j;split at h
   next s F x p K=>cases h;obtain ⟨U,R⟩:=bW K;have:F=j:=b0 R;subst this;exact ⟨N++[ρ F],_,⟨ρ F,x,p,by simp only [AV.val],vS hf,rfl,rfl,rfl,rfl⟩,hN.append (.cons ⟨rfl,rfl,rfl⟩ .nil),.cons ⟨rfl,.inr ⟨_,U,bV.refl,(λh=>by cases h),λ_=>bV.refl⟩⟩ .nil⟩
   .cases h
  .cases h
 | .agg l,v,fx,y,B,r,N,h,hN,hf=>by
  unfold mt at h;split at h
  next vs=>obtain ⟨_,h⟩:=aI h;obtain ⟨J,I,A,C,z⟩:=Al O l vs (aD fx.isSome vs []) [] B r N h (by cases fx <;> first|exact .inl rfl|exact .inr rfl) hN;exact ⟨J,I,⟨AV.aj ρ vs,by simp only [AV.val],vS hf,by rw [Qe,<-Ze];simpa only [AV.aj] using A⟩,C,z⟩
  .cases h
 | .cQ l,v,fx,y,B,r,N,h,hN,hf=>by
  unfold mt at h;split at h
  next vs=>obtain ⟨J,I,A,C,z⟩:=Al O l vs [] [] B r N h (.inl rfl) hN;exact ⟨J,I,⟨AV.aj ρ vs,by simp only [AV.val],by simpa only [AV.aj] using A⟩,C,z⟩
  .cases h
 | .fn f a b,v,fx,y,B,r,N,h,hN,hf=>by
  unfold mt at h;split at h
  .rename_i f' a' b';obtain ⟨g,i⟩:=aI h;simp only [an] at g;have E:=b0 g.1;subst E;split at i
   .rename_i V Z;split at i
    next W Y=>cases i;obtain ⟨N1,I1,A,C,z⟩:=Al O a a' [] [] B V N Z (.inl rfl) hN;obtain ⟨N2,I2,s2,n2,P⟩:=Al O b b' (aD fx.isSome b' []) [] V.B W N1 Y (by cases fx <;> first|exact .inl rfl|exact .inr rfl) C;exact ⟨N2,I1++I2,⟨AV.aj ρ a',AV.aj ρ b',V.D,W.D,I1,I2,eV ρ V.X,eV ρ W.X,N1,by simp only [AV.val],vS hf,by simpa only [AV.aj] using A,by rw [Qe,<-Ze];simpa only [AV.aj] using s2,rfl,rfl,by simp [eV]⟩,n2,z.append P⟩
    .cases i
   .cases i
  .cases h
 | .ifc t p,v,fx,y,B,r,N,h,hN,hf=>by
  unfold mt at h;split at h
  .rename_i t' u;obtain ⟨g,i⟩:=aI h;simp only [an] at g;have E:=b0 g.1;subst E;obtain ⟨J,I,A,C,z⟩:=Mt O p u (rA p (aD fx.isSome [u] [])) none B r N i hN (λq L=>by
    cases fx with
    |none=>cases L
    |some f=>
     have L:aD (Wm p) none (some (u,[]))=some q:=L;obtain ⟨_,h3⟩:=Mi L;cases h3;rfl)
   refine ⟨J,I,⟨u.val ρ,by simp only [AV.val],vS hf,?_⟩,C,z⟩;have e2:(aD (ic ρ fx).isSome [u.val ρ] []:ze)=AV.aj ρ (aD fx.isSome [u] []):=by
    cases fx
    .show ([]:ze)=AV.aj ρ [];simp only [AV.aj]
    .show [u.val ρ]=AV.aj ρ [u];simp only [AV.aj]
   rw [e2,Mx];exact A
  .cases h
 | .mQ c,v,fx,y,B,r,N,h,hN,hf=>by
  unfold mt at h;obtain ⟨g,i⟩:=aI h;cases i;exact ⟨N,[],⟨⟨AV.IK c v g,λρ'=>(AV.IK (ρ':=ρ) (ρ:=ρ') c v g).symm.trans (AV.IK c v g)⟩,rfl,rfl,rfl,rfl⟩,hN,.nil⟩
 | .dat t o,v,fx,y,B,r,N,h,hN,hf=>by
  unfold mt at h;split at h
  .rename_i cs;split at h
   next x o' B' S hd=>cases h;obtain ⟨us,J,I,E,A,C,z⟩:=S2 O t cs o B _ N hd hN;simp only [ma] at E;subst E;exact ⟨J,I,⟨_,x,o',by simp only [AV.val],rfl,A,rfl⟩,C,z⟩
   .cases h
  .cases h
 | .ifn,v,fx,y,B,r,N,h,hN,hf=>by
  unfold mt at h;split at h
  next t=>cases h;exact ⟨N,[],⟨t,by simp only [AV.val,AV.aj],rfl,rfl,rfl,rfl⟩,hN,.nil⟩
  .cases h
 | .sfp,v,fx,y,B,r,N,h,hN,hf=>by
  have hl:=hN.length;unfold mt at h;split at h
  .split at h
   next o ho=>cases h;obtain ⟨a,g,_⟩:=hN.get ho;exact ⟨N,[],⟨a,false,by rw [<-hl];exact g,by simp only [AV.val,BI,ca],rfl,rfl,rfl,rfl⟩,hN,.nil⟩
   .cases h
  next j f=>obtain ⟨g,i⟩:=aI h;cases i;obtain ⟨a,z,P,_⟩:=hN.at_ g;exact ⟨N,[],⟨a,f,by rw [<-hl];exact z,by simp only [AV.val];rw [P],rfl,rfl,rfl,rfl⟩,hN,.nil⟩
  next j=>obtain ⟨g,i⟩:=aI h;cases i;obtain ⟨a,z,P,_⟩:=hN.at_ g;exact ⟨N,[],⟨a,true,by rw [<-hl];exact z,by simp only [AV.val,BI,cp];rw [P],rfl,rfl,rfl,rfl⟩,hN,.nil⟩
  .cases h
 | .same,v,fx,y,B,r,N,h,hN,hf=>by
  unfold mt at h;obtain ⟨g,i⟩:=aI h;cases i;refine ⟨N,[],⟨?_,rfl,rfl,rfl,rfl⟩,hN,.nil⟩;unfold nvs at g;split at g
  next q=>exact .inl ⟨_,rfl,(hf q rfl).symm⟩
  .split at g
   .split at g
    .rw [b0 g];exact .inr ⟨rfl,rfl⟩
    .cases g
   .cases g
theorem Al(d:Sat (ab ρ T G++(ab ρ T H++Φ)) w):(l:List Pt)->(vs:List AV)->(a:List AV)->(b:List AV)->(B:xc)->(r:MR)->(N:List Nm)->F6 G H l vs a b B=some r->(a=[]\/a=vs)->NB ρ B N->
  ∃N' I,w7 l (AV.aj ρ vs) (AV.aj ρ a) (AV.aj ρ b) N r.D I (eV ρ r.X) N'/\NB ρ r.B N'/\fN (SI ρ T G H) r.S I
 |[],vs,a,b,B,r,N,h,hfx,hN=>by
  unfold F6 at h;split at h
  .cases h;exact ⟨N,[],⟨by simp [AV.aj],rfl,rfl,rfl,rfl⟩,hN,.nil⟩
  .cases h
 |p::l,vs,a,b,B,r,N,h,hfx,hN=>by
  unfold F6 at h;split at h
  .rename_i v us;split at h
   .rename_i c g;split at h
    .rename_i e f;cases h;obtain ⟨j,m,n,s,x⟩:=Mt d p _ (rA p a) b.head? B c N g hN (λq i=>by
      rcases hfx with rfl|rfl
      .cases i
      .obtain ⟨_,t⟩:=Mi i;cases t;exact (Uz d).symm)
     obtain ⟨N2,k,y,o,u⟩:=Al d l us a.tail b.tail c.B e j f (by rcases hfx with rfl|rfl <;> first|exact .inl rfl|exact .inr rfl) s;rw [Uz d] at n;refine ⟨N2,m++k,⟨v.val ρ,AV.aj ρ us,c.D,e.D,m,k,eV ρ c.X,eV ρ e.X,j,by simp [AV.aj],by grind [Uy,Mx],by grind [LV],rfl,rfl,by simp ⟩,o,x.append u⟩
    .cases h
   .cases h
  .cases h
end
theorem P9(m:Sat (ab ρ T G++(ab ρ T H++Φ)) w){A:Nat->Option AV}{fix:Nat->ja}:(l:List (Bool×Nat×Pt))->(B:xc)->(r:MR)->(N:List Nm)->WE G H A fix l B=some r->NB ρ B N->
  ∃N' I,FE (λi=>ic ρ (fix i)) (λi=>(A i).map (AV.val ρ)) l N r.D I (eV ρ r.X) N'/\NB ρ r.B N'/\fN (SI ρ T G H) r.S I
 |[],B,r,N,h,hN=>by
  cases h;exact ⟨N,[],⟨rfl,rfl,rfl,rfl⟩,hN,.nil⟩
 |(b,t,p)::l,B,r,N,h,hN=>by
  unfold WE at h;split at h
  .rename_i v C;split at h
   .rename_i a c;split at h
    .rename_i d e;cases h;cases b
     .obtain ⟨g,k,z,s,y⟩:=Mt m p v none none B a N c hN (λq u=>by cases u);obtain ⟨N2,j,n,o,x⟩:=P9 m l a.B d g e s;exact ⟨N2,k++j,⟨v.val ρ,a.D,d.D,k,j,eV ρ a.X,eV ρ d.X,g,by grind,z,n,rfl,rfl,by simp ⟩,o,y.append x⟩
     .cases f:fix t with
      |none=>grind
      |some q=>
       rw [f] at C c;cases C;obtain ⟨g,k,z,s,y⟩:=Mt m p q.1 (some q) none B a N c hN (λq' u=>by cases u;rfl);obtain ⟨N2,j,n,o,x⟩:=P9 m l a.B d g e s;exact ⟨N2,k++j,⟨q.1.val ρ,a.D,d.D,k,j,eV ρ a.X,eV ρ d.X,g,by simp only [f];rfl,by grind,n,rfl,rfl,by simp ⟩,o,y.append x⟩
    .cases h
   .cases h
  .cases h
end
variable {A N : List Nm} {a : Nm} {fx : ja}
structure FR where
 v:AV
 R:List (Bool×Row)
 k:Nat
 D:List ck
 X:List (Nat×List AV)
structure FRs where
 vs:List AV
 R:List (Bool×Row)
 k:Nat
 D:List ck
 X:List (Nat×List AV)
def im(t:Ty)(D:List ck):t.T:=match D with
 |d::_=>(d.as t).getD t.tl
 |[]=>t.tl
theorem sB{t:Ty}{x:t.T}{D:List ck}:im t (⟨t,x⟩::D)=x:=by simp [im,ck.amH]
theorem apF{k:IntKind}{x:Int}{D:List ck}:im (.i k) (⟨.i k,x⟩::D)=x:=sB (t:= .i k)
theorem aoi{x:Bool}{D:List ck}:im .bo (⟨.bo,x⟩::D)=x:=sB (t:= .bo)
theorem afz{x:aE}{D:List ck}:im .s (⟨.s,x⟩::D)=x:=sB (t:= .s)
theorem ahQ{x:Nat}{D:List ck}:im .n (⟨.n,x⟩::D)=x:=sB (t:= .n)
theorem ahi{t:Ty}{x:List t.T}{D:List ck}:im (.l t) (⟨.l t,x⟩::D)=x:=sB (t:= .l t)
theorem anU{k v:Ty}{x:Option (List (k.T×v.T))}{D:List ck}:im (.mp k v) (⟨.mp k v,x⟩::D)=x:=sB (t:= .mp k v)
structure LR where
 vs:List AV
 R:List (Bool×Row)
 k:Nat
 o:xa
def iL(nm:Nat->Nat):(t:Ty)->t.T->Nat->xa->LR
 | .i k,x,n,o=>⟨[.int k x],[],n,o⟩
 | .bo,x,n,o=>⟨[.bool x],[],n,o⟩
 | .s,x,n,o=>⟨[.str x],[],n,o⟩
 | .un,_,n,o=>⟨[],[],n,o⟩
 | .p a b,x,n,o=>match iL nm a x.1 n o with
  |⟨u,p,n,o⟩=>match iL nm b x.2 n o with
   |⟨v,q,n,o⟩=>⟨u++v,p++q,n,o⟩
 | .l t,x,n,o=>match o with
  |none::o=>⟨[.sl (nm n)],[(false,.sli none (nm n) t x false)],n+1,o⟩
  |some e::o=>⟨[.sl (nm n)],[(ow e,.own (nm n) t (oe e) x (nm n))],n+1,o⟩
  |[]=>⟨[],[],n,[]⟩
 | .ex,x,n,o=>match o with
  |none::o=>⟨[.int .i64 x.op,.int .i64 x.n,.int .i64 x.at_,.sl (nm n)],[(false,.sli none (nm n) .ex x.l false)],n+1,o⟩
  |some e::o=>⟨[.int .i64 x.op,.int .i64 x.n,.int .i64 x.at_,.sl (nm n)],[(ow e,.own (nm n) .ex (oe e) x.l (nm n))],n+1,o⟩
  |[]=>⟨[],[],n,[]⟩
 |_,_,n,o=>⟨[],[],n,o⟩
def nmS(nm:Nat->Nat)(fx:ja)(n:Nat):Nat:=match fx with
 |some (.sl j,_)=>j
 |_=>nm n
def G2(nm:Nat->Nat)(fx:ja)(n:Nat):Nat:=match fx with
 |some (.ptr j _,_)=>j
 |_=>nm n
def nmM(nm:Nat->Nat)(fx:ja)(n:Nat):Nat:=match fx with
 |some (.mp j,_)=>j
 |_=>nm n
def alV(fx:ja)(sm:Option AV):AV:=match fx with
 |some p=>p.1
 |none=>match sm with
  |some x=>x
  |none=> .bool false
def XO(id:Nat):List Pt->List AV->List AV
 | .sfp::_,.sfp _ f::us=> .sfp id f::us
 |_,us=>us
mutual
def fill(nm:Nat->Nat):Pt->ja->Option AV->Nat->List ck->FR
 | .int k,_,_,n,D=>⟨.int k (im (.i k) D),[],n,D.tail,[]⟩
 | .bool,_,_,n,D=>⟨.bool (im .bo D),[],n,D.tail,[]⟩
 | .str,_,_,n,D=>⟨.str (im .s D),[],n,D.tail,[]⟩
 | .sli t,_,_,n,D=>⟨.sl (nm n),[(false,.sli none (nm n) t (im (.l t) D) false)],n+1,D.tail,[]⟩
 | .own t e m,fx,_,n,D=>⟨.sl (nmS nm fx n),[(m,.own (nmS nm fx n) t e (im (.l t) D) (nm n))],n+1,D.tail,[]⟩
 | .slr k,_,_,n,D=>⟨.sl (nm k),[],n,D,[]⟩
 | .bx t off m vs,fx,_,n,D=>match eX nm vs [] (Iv fx) (n+1) D with
  |⟨cs,R,k,D,X⟩=>⟨.ptr (G2 nm fx n) off,(m,.box (G2 nm fx n) t (XO (G2 nm fx n) vs cs))::R,k,D,(aD m [(n,XO (G2 nm fx n) vs cs)] [])++X⟩
 | .ptr k off,_,_,n,D=>⟨.ptr (nm k) off,[],n,D,[]⟩
 | .mp k v m,fx,_,n,D=>⟨.mp (nmM nm fx n),[(m,.mp (nmM nm fx n) k v (im (.mp k v) D))],n+1,D.tail,[]⟩
 | .it,fx,_,n,D=>⟨.ptr (G2 nm fx n) 0,[(true,.it (G2 nm fx n) (im .s D) (im .n D.tail))],n+1,D.tail.tail,[]⟩
 | .agg l,fx,_,n,D=>match eX nm l (iG fx) [] n D with
  |⟨cs,R,k,D,X⟩=>⟨.agg cs,R,k,D,X⟩
 | .cQ l,_,_,n,D=>match eX nm l [] [] n D with
  |⟨cs,R,k,D,X⟩=>⟨.tuple cs,R,k,D,X⟩
 | .fn f a b,fx,_,n,D=>match eX nm a [] [] n D with
  |⟨cs,R,k,D,X⟩=>match eX nm b (iG fx) [] k D with
   |⟨cs',R',k,D,X'⟩=>⟨.fn f cs cs',R++R',k,D,X++X'⟩
 | .ifc t p,fx,_,n,D=>match fill nm p (rA p (iG fx)) none n D with
  |⟨v,R,k,D,X⟩=>⟨.ifc t v,R,k,D,X⟩
 | .mQ v,_,_,n,D=>⟨v,[],n,D,[]⟩
 | .dat t o,_,_,n,D=>match iL nm t (im t D) n o with
  |⟨cs,R,k,_⟩=>⟨.agg cs,R,k,D.tail,[]⟩
 | .ifn,_,_,n,D=>⟨.ifc (im .n D) (.agg []),[],n,D.tail,[]⟩
 | .sfp,_,_,n,D=>⟨.sfp (nm (n-1)) (im .bo D),[],n,D.tail,[]⟩
 | .same,fx,sm,n,D=>⟨alV fx sm,[],n,D,[]⟩
def eX(nm:Nat->Nat):List Pt->List AV->List AV->Nat->List ck->FRs
 |[],_,_,n,D=>⟨[],[],n,D,[]⟩
 |p::l,fxs,sms,n,D=>match fill nm p (rA p fxs) sms.head? n D with
  |⟨v,R,k,D,X⟩=>match eX nm l fxs.tail sms.tail k D with
   |⟨vs,R',k,D,X'⟩=>⟨v::vs,R++R',k,D,X++X'⟩
end
structure FV where
 E:aF
 R:List (Bool×Row)
 k:Nat
 D:List ck
def fW(nm:Nat->Nat)(fix:Nat->ja):List (Bool×Nat×Pt)->Nat->List ck->FV
 |[],n,D=>⟨[],[],n,D⟩
 |x::l,n,D=>match fill nm x.2.2 (aD x.1 (fix x.2.1) none) none n D with
  |⟨v,R,k,D,_⟩=>match fW nm fix l k D with
   |⟨E,R',k,D⟩=>⟨aD x.1 E ((x.2.1,none,v)::E),R++R',k,D⟩
def wY(N N':List Nm):Prop:= ∃E,N'=N++E
theorem wY.refl:wY N N:=⟨[],by simp⟩
theorem wY.trans{B C:List Nm}(h:wY A B)(k:wY B C):wY A C:=by obtain ⟨E,rfl⟩:=h;obtain ⟨F,rfl⟩:=k;exact ⟨E++F,by simp⟩
theorem wY.one:wY N (N++[a]):=⟨[a],rfl⟩
theorem wY.len{B:List Nm}(h:wY A B):A.length<=B.length:=by obtain ⟨E,rfl⟩:=h;simp
theorem wY.at_{B:List Nm}(h:wY A B){i:Nat}{a:Nm}(ha:A[i]? =some a):B[i]? =some a:=by obtain ⟨E,rfl⟩:=h;rw [eb (List.getElem?_eq_some_iff.1 ha).1];exact ha
theorem Di:(t:Ty)->(x:t.T)->(cs:ze)->(o:xa)->(N:List Nm)->(I:fI)->(c:List Nm)->(d:xa)->OJ t x cs o N I c d->wY N c
 | .i _,_,_,_,_,_,_,_,h|.bo,_,_,_,_,_,_,_,h|.s,_,_,_,_,_,_,_,h|.un,_,_,_,_,_,_,_,h=>by obtain ⟨_,_,rfl,_⟩:=h;exact .refl
 | .n,_,_,_,_,_,_,_,h|.mp _ _,_,_,_,_,_,_,_,h=>h.elim
 | .p a b,x,cs,o,N,I,c,d,h=>by
  obtain ⟨c1,j,k,q,m,g,f,e,_⟩:=h;exact (Di a _ _ _ _ _ _ _ f).trans (Di b _ _ _ _ _ _ _ e)
 | .l t,x,cs,o,N,I,c,d,h=>by obtain ⟨a,_,rfl,_⟩:=h;exact .one
 | .ex,x,cs,o,N,I,c,d,h=>by obtain ⟨a,_,rfl,_⟩:=h;exact .one
mutual
theorem ym:(p:Pt)->(v:Value)->(fx:Fx)->(i:Option Value)->(N:List Nm)->(D:List ck)->(I:fI)->(X:lh)->(g:List Nm)->Sem p v fx i N D I X g->wY N g
 | .int _,v,fx,i,N,D,I,X,g,h|.bool,v,fx,i,N,D,I,X,g,h|.str,v,fx,i,N,D,I,X,g,h=>by obtain ⟨_,_,_,_,_,rfl⟩:=h;exact .refl
 | .sli t,v,fx,i,N,D,I,X,g,h=>by obtain ⟨a,l,_,_,_,_,rfl⟩:=h;exact .one
 | .own t e m,v,fx,i,N,D,I,X,g,h=>by obtain ⟨a,l,_,_,_,_,_,rfl,_⟩:=h;exact .one
 | .slr n,v,fx,i,N,D,I,X,g,h|.ptr n _,v,fx,i,N,D,I,X,g,h=>by obtain ⟨a,_,_,_,_,_,rfl⟩:=h;exact .refl
 | .bx t off m vs,v,fx,i,N,D,I,X,g,h=>by
  obtain ⟨a,cs,E,z,_,_,j,_⟩:=h;exact wY.one.trans (oq vs _ _ _ _ _ _ _ _ j)
 | .mp k u m,v,fx,i,N,D,I,X,g,h=>by obtain ⟨a,d,_,_,_,_,_,rfl⟩:=h;exact .one
 | .it,v,fx,i,N,D,I,X,g,h=>by obtain ⟨a,s,p,_,_,_,_,_,rfl⟩:=h;exact .one
 | .agg l,v,fx,i,N,D,I,X,g,h=>by obtain ⟨cs,_,_,j⟩:=h;exact oq l _ _ _ _ _ _ _ _ j
 | .cQ l,v,fx,i,N,D,I,X,g,h=>by obtain ⟨cs,_,j⟩:=h;exact oq l _ _ _ _ _ _ _ _ j
 | .fn f a b,v,fx,i,N,D,I,X,g,h=>by
  obtain ⟨us,vs,G,F,C,B,y,w,A,_,_,j,q,_⟩:=h;exact (oq a _ _ _ _ _ _ _ _ j).trans (oq b _ _ _ _ _ _ _ _ q)
 | .ifc t p,v,fx,i,N,D,I,X,g,h=>by obtain ⟨u,_,_,j⟩:=h;exact ym p _ _ _ _ _ _ _ _ j
 | .mQ c,v,fx,i,N,D,I,X,g,h=>by obtain ⟨_,_,_,_,rfl⟩:=h;exact .refl
 | .dat t o,v,fx,i,N,D,I,X,g,h=>by obtain ⟨cs,x,r,_,_,j,_⟩:=h;exact Di t _ _ _ _ _ _ _ j
 | .ifn,v,fx,i,N,D,I,X,g,h=>by obtain ⟨_,_,_,_,_,rfl⟩:=h;exact .refl
 | .sfp,v,fx,i,N,D,I,X,g,h=>by obtain ⟨_,_,_,_,_,_,_,rfl⟩:=h;exact .refl
 | .same,v,fx,i,N,D,I,X,g,h=>by obtain ⟨_,_,_,_,rfl⟩:=h;exact .refl
theorem oq:(l:List Pt)->(vs:ze)->(b:ze)->(a:ze)->(N:List Nm)->(D:List ck)->(I:fI)->(X:lh)->(c:List Nm)->w7 l vs b a N D I X c->wY N c
 |[],vs,b,a,N,D,I,X,c,h=>by obtain ⟨_,_,_,_,rfl⟩:=h;exact .refl
 |p::l,vs,b,a,N,D,I,X,c,h=>by obtain ⟨v,d,o,n,m,k,i,g,j,_,f,e,_⟩:=h;exact (ym p _ _ _ _ _ _ _ _ f).trans (oq l _ _ _ _ _ _ _ _ e)
end
theorem NV{fix:Nat->Fx}{val:Nat->Option Value}:(l:List (Bool×Nat×Pt))->(N:List Nm)->(D:List ck)->(I:fI)->(X:lh)->(a:List Nm)->FE fix val l N D I X a->wY N a
 |[],N,D,I,X,a,h=>by obtain ⟨_,_,_,rfl⟩:=h;exact .refl
 |x::l,N,D,I,X,a,h=>by obtain ⟨v,k,j,i,g,e,d,f,_,c,b,_⟩:=h;exact (ym _ _ _ _ _ _ _ _ _ c).trans (NV l _ _ _ _ _ b)
def RwI(ρ:aw)(T:aA)(a:Bool×Row)(b:Bool×Item):Prop:=a.1=b.1/\bV b.2 (a.2.item ρ T)/\bV (a.2.item ρ T) b.2
section
variable {ρ : aw} {T : aA} {nm : Nat -> Nat} {n0 : Nat}
theorem amr{id:Nat}{vs:List Pt}{us:List AV}{cs d:ze}{q:List Nm}{D:List ck}{I:fI}{X:lh}(h:w7 vs cs [] d (N++[a]) D I X q)(k:(ρ id).b=a.b)(c:AV.aj ρ us=cs):AV.aj ρ (XO id vs us)=cs:=by
 unfold XO;split
 .rename_i l j f i;obtain ⟨v,g,y,x,w,u,s,r,t,rfl,n,_⟩:=h;obtain ⟨p,o,ha,rfl,_⟩:=n;have e:p=a:=by simpa using ha.symm
  subst e;simp only [AV.aj,AV.val,qa] at c ⊢;refine ⟨?_,c.2⟩;rw [k];have m:=c.1;cases f <;> cases o <;> simp [BI] at m ⊢
 .exact c
def xF(ρ:aw)(nm:Nat->Nat)(n0:Nat)(N:List Nm):Prop:= ∀i a,N[i]? =some a->(ρ (nm i)).b=a.b/\(ρ (nm i)).v=a.v/\(ρ (nm i)).m=a.m/\(n0<=i->(ρ (nm i)).y=a.y)
theorem xF.pre{A B:List Nm}(h:xF ρ nm n0 B)(k:wY A B):xF ρ nm n0 A:=λi a ha=>h i a (k.at_ ha)
theorem xF.last(h:xF ρ nm n0 (A++[a])):(ρ (nm A.length)).b=a.b/\(ρ (nm A.length)).v=a.v/\(ρ (nm A.length)).m=a.m/\(n0<=A.length->(ρ (nm A.length)).y=a.y):=h _ _ (by simp)
theorem Yo{t:Ty}{l:List t.T}{j:Nat}(h:(ρ j).v=a.v):bV (LQ true t.rep a.v l false) ((Row.sli none j t l false).item ρ T)/\bV ((Row.sli none j t l false).item ρ T) (LQ true t.rep a.v l false):=by simp only [Row.item,h];exact ⟨⟨λ_ h=>h,λM w h _=>h rfl⟩,⟨λ_ h=>h,λM w h _=>h aA.get_none⟩⟩
theorem aag{t:Ty}{e:TypeId}{l:List t.T}{j b:Nat}(h:(ρ j).v=a.v)(c:(ρ b).y=⟨.l t,l⟩):bV (te t.rep e a.v l True) ((Row.own j t e l b).item ρ T)/\bV ((Row.own j t e l b).item ρ T) (te t.rep e a.v l True):=by simp only [Row.item,h];exact ⟨⟨λ_ h=>h,λM w h=>⟨h.1,c⟩⟩,⟨λ_ h=>h,λM w h=>⟨h.1,trivial⟩⟩⟩
theorem SK:(t:Ty)->(x:t.T)->(cs:ze)->(o:xa)->(N:List Nm)->(I:fI)->(c:List Nm)->(d:xa)->OJ t x cs o N I c d->xF ρ nm n0 c->n0<=N.length->
  AV.aj ρ (iL nm t x N.length o).vs=cs/\(iL nm t x N.length o).k=c.length/\(iL nm t x N.length o).o=d/\fN (RwI ρ T) (iL nm t x N.length o).R I
 | .i k,x,cs,o,N,I,c,d,h,hn,hle=>by
  obtain ⟨rfl,rfl,rfl,rfl⟩:=h;exact ⟨by simp only [iL,AV.aj,AV.val],rfl,rfl,.nil⟩
 | .bo,x,cs,o,N,I,c,d,h,hn,hle=>by
  obtain ⟨rfl,rfl,rfl,rfl⟩:=h;exact ⟨by simp only [iL,AV.aj,AV.val],rfl,rfl,.nil⟩
 | .s,x,cs,o,N,I,c,d,h,hn,hle=>by
  obtain ⟨rfl,rfl,rfl,rfl⟩:=h;exact ⟨by simp only [iL,AV.aj,AV.val],rfl,rfl,.nil⟩
 | .un,x,cs,o,N,I,c,d,h,hn,hle=>by
  obtain ⟨rfl,rfl,rfl,rfl⟩:=h;exact ⟨by simp only [iL,AV.aj],rfl,rfl,.nil⟩
 | .n,x,cs,o,N,I,c,d,h,hn,hle=>h.elim
 | .mp _ _,x,cs,o,N,I,c,d,h,hn,hle=>h.elim
 | .p a b,x,cs,o,N,I,c,d,h,hn,hle=>by
  obtain ⟨c1,F,z,K,J,A,C,B,rfl,rfl⟩:=h;have p2:=Di b _ _ _ _ _ _ _ B;obtain ⟨y,w,v,r⟩:=SK a x.1 c1 o N K z A C (hn.pre p2) hle;obtain ⟨q,m,j,g⟩:=SK b x.2 F A z J c d B hn (ec hle (Di a _ _ _ _ _ _ _ C).len);unfold iL;generalize iL nm a x.1 N.length o=H at y w v r;obtain ⟨u,p,n,E⟩:=H;simp only at y w v r;subst w;subst v;dsimp only;generalize iL nm b x.2 z.length E=G at q m j g;obtain ⟨L,p2,M,D⟩:=G;simp only at q m j g;dsimp only;exact ⟨by rw [dh,y,q],m,j,r.append g⟩
 | .l t,x,cs,o,N,I,c,d,h,hn,hle=>by
  obtain ⟨a,rfl,rfl,h⟩:=h;have hl:=hn.last;rcases h with ⟨rfl,rfl⟩|⟨e,rfl,rfl,f⟩
  .exact ⟨by simp only [iL,AV.aj,AV.val,hl.2.1],by simp [iL],rfl,.cons ⟨rfl,Yo hl.2.1⟩ .nil⟩
  .exact ⟨by simp only [iL,AV.aj,AV.val,hl.2.1],by simp [iL],rfl,.cons ⟨rfl,aag hl.2.1 (by rw [hl.2.2.2 hle];exact f)⟩ .nil⟩
 | .ex,x,cs,o,N,I,c,d,h,hn,hle=>by
  obtain ⟨a,rfl,rfl,h⟩:=h;have hl:=hn.last;rcases h with ⟨rfl,rfl⟩|⟨e,rfl,rfl,f⟩
  .exact ⟨by simp only [iL,AV.aj,AV.val,hl.2.1],by simp [iL],rfl,.cons ⟨rfl,Yo (t:= .ex) hl.2.1⟩ .nil⟩
  .exact ⟨by simp only [iL,AV.aj,AV.val,hl.2.1],by simp [iL],rfl,.cons ⟨rfl,aag (t:= .ex) hl.2.1 (by rw [hl.2.2.2 hle];exact f)⟩ .nil⟩
theorem an5{p q:ju}(h:sl p=sl q):p=q:=by obtain ⟨a,b,c⟩:=p;obtain ⟨f,e,d⟩:=q;simp only [sl,Value.slice.injEq] at h;rw [h.1,h.2.1,h.2.2]
theorem aoP(hn:xF ρ nm n0 (N++[a]))(b:xI (ic ρ fx) (sl a.v)):(ρ (nmS nm fx N.length)).v=a.v:=by
 unfold nmS;split
 .have:=b _ rfl;simp only [AV.val] at this;exact (an5 this).symm
 .rw [hn.last.2.1]
theorem ahr{c:Nat}(hn:(ρ (nm N.length)).b=a.b)(d:xI (ic ρ fx) (.pointer (some ⟨a.b,c,none⟩))):(ρ (G2 nm fx N.length)).b=a.b:=by
 unfold G2;split
 .have:=d _ rfl;simp only [AV.val,Value.pointer.injEq,et,Addr.mk.injEq] at this;exact this.1.symm
 .rw [hn]
theorem aoa(hn:xF ρ nm n0 (N++[a]))(b:xI (ic ρ fx) (.map a.m)):(ρ (nmM nm fx N.length)).m=a.m:=by
 unfold nmM;split
 .have:=b _ rfl;simp only [AV.val,Value.map.injEq] at this;exact this.symm
 .rw [hn.last.2.2.1]
theorem FK(p:Pt):sf p none=true:=by cases p <;> rfl
theorem X9(p:Pt)(a:List AV):sf p (rA p a)=true:=by
 unfold rA;cases a with
 |nil=>exact FK p
 |cons u us=>cases p <;> rfl
theorem aiH{l:List Pt}{cs:ze}(a:sf (.agg l) fx=true)(b:xI (ic ρ fx) (.agg cs.toArray)):AV.aj ρ (iG fx)=aD (ic ρ fx).isSome cs []:=by
 cases fx with
 |none=>rfl
 |some q=>
  obtain ⟨v,d⟩:=q;cases v <;> first|(cases a;done)|skip;have:=b _ rfl;simp only [AV.val,Value.agg.injEq] at this;show AV.aj ρ (iG (some (_,_)))=cs;simpa [iG] using this.symm
theorem ani{f:FuncId}{a b:List Pt}{us vs:ze}(c:sf (.fn f a b) fx=true)(e:xI (ic ρ fx) (.func (.func f) us.toArray vs.toArray)):AV.aj ρ (iG fx)=aD (ic ρ fx).isSome vs []:=by
 cases fx with
 |none=>rfl
 |some q=>
  obtain ⟨v,d⟩:=q;cases v <;> first|(cases c;done)|skip;have:=e _ rfl;simp only [AV.val,Value.func.injEq] at this;show AV.aj ρ (iG (some (_,_)))=vs;simpa [iG] using this.2.2.symm
theorem ajy{t:TypeId}{p:Pt}{u:Value}(a:sf (.ifc t p) fx=true)(b:xI (ic ρ fx) (.iface t u)):AV.aj ρ (iG fx)=aD (ic ρ fx).isSome [u] []:=by
 cases fx with
 |none=>rfl
 |some q=>
  obtain ⟨v,d⟩:=q;cases v <;> first|(cases a;done)|skip;have:=b _ rfl;simp only [AV.val,Value.iface.injEq] at this;show AV.aj ρ (iG (some (_,_)))=[u];simp [iG,AV.aj,this.2]
mutual
theorem Gc:(p:Pt)->(v:Value)->(fx:ja)->(j:Option AV)->(N:List Nm)->(D:List ck)->(I:fI)->(X:lh)->(i:List Nm)->Sem p v (ic ρ fx) (j.map (AV.val ρ)) N D I X i->sf p fx=true->xF ρ nm n0 i->n0<=N.length->(g:List ck)->
  (fill nm p fx j N.length (D++g)).v.val ρ=v/\(fill nm p fx j N.length (D++g)).k=i.length/\(fill nm p fx j N.length (D++g)).D=g/\X=eV ρ (fill nm p fx j N.length (D++g)).X/\fN (RwI ρ T) (fill nm p fx j N.length (D++g)).R I
 | .int k,v,fx,j,N,D,I,X,i,h,hg,hn,hle,g=>by
  obtain ⟨x,rfl,rfl,rfl,rfl,rfl⟩:=h;exact ⟨by simp only [fill,qI,apF,AV.val],rfl,rfl,rfl,.nil⟩
 | .bool,v,fx,j,N,D,I,X,i,h,hg,hn,hle,g=>by
  obtain ⟨x,rfl,rfl,rfl,rfl,rfl⟩:=h;exact ⟨by simp only [fill,qI,aoi,AV.val],rfl,rfl,rfl,.nil⟩
 | .str,v,fx,j,N,D,I,X,i,h,hg,hn,hle,g=>by
  obtain ⟨x,rfl,rfl,rfl,rfl,rfl⟩:=h;exact ⟨by simp only [fill,qI,afz,AV.val],rfl,rfl,rfl,.nil⟩
 | .sli t,v,fx,j,N,D,I,X,i,h,hg,hn,hle,g=>by
  obtain ⟨a,l,rfl,rfl,rfl,rfl,rfl⟩:=h;have hl:=hn.last;refine ⟨by simp only [fill,AV.val,hl.2.1],by simp [fill],rfl,rfl,.cons ⟨rfl,?_⟩ .nil⟩;show bV _ ((Row.sli none (nm N.length) t (im (.l t) (⟨.l t,l⟩::g)) false).item ρ T)/\bV ((Row.sli none (nm N.length) t (im (.l t) (⟨.l t,l⟩::g)) false).item ρ T) _;rw [ahi];exact Yo hl.2.1
 | .own t e m,v,fx,j,N,D,I,X,i,h,hg,hn,hle,g=>by
  obtain ⟨a,l,rfl,E,rfl,rfl,rfl,rfl,hy⟩:=h;have hS:=aoP hn E;refine ⟨by simp only [fill,AV.val,hS],by simp [fill],rfl,rfl,.cons ⟨rfl,?_⟩ .nil⟩;show bV _ ((Row.own (nmS nm fx N.length) t e (im (.l t) (⟨.l t,l⟩::g)) (nm N.length)).item ρ T)/\bV ((Row.own (nmS nm fx N.length) t e (im (.l t) (⟨.l t,l⟩::g)) (nm N.length)).item ρ T) _;rw [ahi];exact aag hS (by rw [hn.last.2.2.2 hle];exact hy)
 | .slr n,v,fx,j,N,D,I,X,i,h,hg,hn,hle,g=>by
  obtain ⟨a,ha,rfl,rfl,rfl,rfl,rfl⟩:=h;exact ⟨by simp only [fill,AV.val,(hn _ _ ha).2.1],rfl,rfl,rfl,.nil⟩
 | .bx t off m vs,v,fx,j,N,D,I,X,i,h,hg,hn,hle,g=>by
  obtain ⟨a,cs,I',X',rfl,E,A,rfl,rfl⟩:=h;rw [abt] at A;have p1:=oq vs _ _ _ _ _ _ _ _ A;have hl:=hn.pre p1;have F:=ahr hl.last.1 E;have G:(N++[a]).length=N.length+1:=by simp
  obtain ⟨z,w,B,C,r⟩:=u5 vs cs [] (Iv fx) (N++[a]) D I' X' i (by simpa only [AV.aj] using A) hn (by simp;omega) g;rw [G] at z w B C r;unfold fill;generalize eX nm vs [] (Iv fx) (N.length+1) (D++g)=L at z w B C r;obtain ⟨us,R,k,J,H⟩:=L;simp only at z w B C r;dsimp only;have Y:AV.aj ρ (XO (G2 nm fx N.length) vs us)=cs:=amr A F z;refine ⟨by simp only [AV.val,F],w,B,?_,.cons ⟨rfl,?_⟩ r⟩
  .rw [C];cases m <;> simp [eV,Y]
  .simp only [Row.item,F,Y];exact ⟨bV.refl,bV.refl⟩
 | .ptr n off,v,fx,j,N,D,I,X,i,h,hg,hn,hle,g=>by
  obtain ⟨a,ha,rfl,rfl,rfl,rfl,rfl⟩:=h;exact ⟨by simp only [fill,AV.val,(hn _ _ ha).1],rfl,rfl,rfl,.nil⟩
 | .mp k u m,v,fx,j,N,D,I,X,i,h,hg,hn,hle,g=>by
  obtain ⟨a,d,rfl,E,rfl,rfl,rfl,rfl⟩:=h;have V:=aoa hn E;refine ⟨by simp only [fill,AV.val,V],by simp [fill],rfl,rfl,.cons ⟨rfl,?_⟩ .nil⟩;show bV _ ((Row.mp (nmM nm fx N.length) k u (im (.mp k u) (⟨.mp k u,d⟩::g))).item ρ T)/\bV ((Row.mp (nmM nm fx N.length) k u (im (.mp k u) (⟨.mp k u,d⟩::g))).item ρ T) _;rw [anU];simp only [Row.item,V];exact ⟨bV.refl,bV.refl⟩
 | .it,v,fx,j,N,D,I,X,i,h,hg,hn,hle,g=>by
  obtain ⟨a,s,p,rfl,E,rfl,rfl,rfl,rfl⟩:=h;have F:=ahr hn.last.1 E;refine ⟨by simp only [fill,AV.val,F],by simp [fill],rfl,rfl,.cons ⟨rfl,?_⟩ .nil⟩;show bV _ ((Row.it (G2 nm fx N.length) (im .s (⟨.s,s⟩::⟨.n,p⟩::g)) (im .n (⟨.n,p⟩::g))).item ρ T)/\bV ((Row.it (G2 nm fx N.length) (im .s (⟨.s,s⟩::⟨.n,p⟩::g)) (im .n (⟨.n,p⟩::g))).item ρ T) _;rw [afz,ahQ];simp only [Row.item,F];exact ⟨bV.refl,bV.refl⟩
 | .agg l,v,fx,j,N,D,I,X,i,h,hg,hn,hle,g=>by
  obtain ⟨cs,rfl,E,A⟩:=h;obtain ⟨z,w,B,C,r⟩:=u5 l cs (iG fx) [] N D I X i (by rw [aiH hg E];simpa only [AV.aj] using A) hn hle g;unfold fill;generalize eX nm l (iG fx) [] N.length (D++g)=L at z w B C r;obtain ⟨us,R,k,J,H⟩:=L;simp only at z w B C r;dsimp only;exact ⟨by simp only [AV.val,z],w,B,C,r⟩
 | .cQ l,v,fx,j,N,D,I,X,i,h,hg,hn,hle,g=>by
  obtain ⟨cs,rfl,A⟩:=h;obtain ⟨z,w,B,C,r⟩:=u5 l cs [] [] N D I X i (by simpa only [AV.aj] using A) hn hle g;unfold fill;generalize eX nm l [] [] N.length (D++g)=L at z w B C r;obtain ⟨us,R,k,J,H⟩:=L;simp only at z w B C r;dsimp only;exact ⟨by simp only [AV.val,z],w,B,C,r⟩
 | .fn f a b,v,fx,j,N,D,I,X,i,h,hg,hn,hle,g=>by
  obtain ⟨us,vs,Z,K,I1,I2,X1,X2,U,rfl,E,A,W,rfl,rfl,rfl⟩:=h;have p2:=oq b _ _ _ _ _ _ _ _ W;obtain ⟨z,w,B,C,r⟩:=u5 a us [] [] N Z I1 X1 U (by simpa only [AV.aj] using A) (hn.pre p2) hle (K++g);obtain ⟨c1,S,Q,P,O⟩:=u5 b vs (iG fx) [] U K I2 X2 i (by rw [ani hg E];simpa only [AV.aj] using W) hn (ec hle (oq a _ _ _ _ _ _ _ _ A).len) g;unfold fill;rw [cb];generalize eX nm a [] [] N.length (Z++(K++g))=L at z w B C r;obtain ⟨us',R,k,J,H⟩:=L;simp only at z w B C r;subst w;subst B;dsimp only;generalize eX nm b (iG fx) [] U.length (K++g)=L at c1 S Q P O;obtain ⟨us2,R2,k2,DD2,XX2⟩:=L;simp only at c1 S Q P O;dsimp only;exact ⟨by simp only [AV.val,z,c1],S,Q,by rw [C,P];simp [eV],r.append O⟩
 | .ifc t p,v,fx,j,N,D,I,X,i,h,hg,hn,hle,g=>by
  obtain ⟨u,rfl,E,A⟩:=h;rw [<-ajy hg E,Mx] at A;obtain ⟨z,w,B,C,r⟩:=Gc p u (rA p (iG fx)) none N D I X i A (X9 p _) hn hle g;unfold fill;generalize fill nm p (rA p (iG fx)) none N.length (D++g)=L at z w B C r;obtain ⟨us,R,k,J,H⟩:=L;simp only at z w B C r;dsimp only;exact ⟨by simp only [AV.val,z],w,B,C,r⟩
 | .mQ c,v,fx,j,N,D,I,X,i,h,hg,hn,hle,g=>by
  obtain ⟨⟨A,h0⟩,rfl,rfl,rfl,rfl⟩:=h;exact ⟨by rw [A];exact h0 ρ,rfl,rfl,rfl,.nil⟩
 | .dat t o,v,fx,j,N,D,I,X,i,h,hg,hn,hle,g=>by
  obtain ⟨cs,x,o',rfl,rfl,A,rfl⟩:=h;obtain ⟨z,w,B,r⟩:=SK (T:=T) t x cs o N I i o' A hn hle;unfold fill;rw [qI,sB];generalize iL nm t x N.length o=L at z w B r;obtain ⟨us,R,k,oo⟩:=L;simp only at z w B r;dsimp only;exact ⟨by simp only [AV.val,z],w,rfl,rfl,r⟩
 | .ifn,v,fx,j,N,D,I,X,i,h,hg,hn,hle,g=>by
  obtain ⟨x,rfl,rfl,rfl,rfl,rfl⟩:=h;exact ⟨by simp only [fill,qI,ahQ,AV.val,AV.aj],rfl,rfl,rfl,.nil⟩
 | .sfp,v,fx,j,N,D,I,X,i,h,hg,hn,hle,g=>by
  obtain ⟨a,f,ha,rfl,rfl,rfl,rfl,rfl⟩:=h;refine ⟨?_,rfl,rfl,rfl,.nil⟩;simp only [fill,AV.val,(hn _ _ ha).1,qI];rfl
 | .same,v,fx,j,N,D,I,X,i,h,hg,hn,hle,g=>by
  obtain ⟨A,rfl,rfl,rfl,rfl⟩:=h;refine ⟨?_,rfl,rfl,rfl,.nil⟩;simp only [fill,alV];rcases A with ⟨p,hp,rfl⟩|⟨M,A⟩
  .cases fx with
   |none=>cases hp
   |some q=>cases hp;rfl
  .cases fx with
   |some q=>cases M
   |none=>
    cases j with
    |none=>cases A
    |some y=>cases A;rfl
theorem u5:(l:List Pt)->(vs:ze)->(a:List AV)->(b:List AV)->(N:List Nm)->(D:List ck)->(I:fI)->(X:lh)->(d:List Nm)->w7 l vs (AV.aj ρ a) (AV.aj ρ b) N D I X d->xF ρ nm n0 d->n0<=N.length->(c:List ck)->
  AV.aj ρ (eX nm l a b N.length (D++c)).vs=vs/\(eX nm l a b N.length (D++c)).k=d.length/\(eX nm l a b N.length (D++c)).D=c/\X=eV ρ (eX nm l a b N.length (D++c)).X/\fN (RwI ρ T) (eX nm l a b N.length (D++c)).R I
 |[],vs,a,b,N,D,I,X,d,h,hn,hle,c=>by
  obtain ⟨rfl,rfl,rfl,rfl,rfl⟩:=h;exact ⟨by simp only [eX,AV.aj],rfl,rfl,rfl,.nil⟩
 |p::l,vs,a,b,N,D,I,X,d,h,hn,hle,c=>by obtain ⟨v,f,x,e,F,E,C,B,w,rfl,i,g,rfl,rfl,rfl⟩:=h;rw [Uy,Mx] at i;rw [LV,LV] at g;have p2:=oq l _ _ _ _ _ _ _ _ g;obtain ⟨u,t,s,r,q⟩:=Gc p v (rA p a) b.head? N x F C w i (X9 p a) (hn.pre p2) hle (e++c);obtain ⟨c1,o,n,m,j⟩:=u5 l f a.tail b.tail w e E B d g hn (ec hle (ym p _ _ _ _ _ _ _ _ i).len) c;unfold eX;rw [cb];generalize fill nm p (rA p a) b.head? N.length (x++(e++c))=L at u t s r q;obtain ⟨z,R,k,M,J⟩:=L;simp only at u t s r q;subst t;subst s;dsimp only;generalize eX nm l a.tail b.tail w.length (e++c)=L at c1 o n m j;obtain ⟨y,K,H,G,A⟩:=L;simp only at c1 o n m j;dsimp only;exact ⟨by simp only [AV.aj,u,c1],o,n,by rw [r,m];simp [eV],q.append j⟩
end
theorem NU{fix:Nat->ja}{g:Nat->Option Value}:(l:List (Bool×Nat×Pt))->(N:List Nm)->(D:List ck)->(I:fI)->(X:lh)->(d:List Nm)->FE (λi=>ic ρ (fix i)) g l N D I X d->tL fix l=true->xF ρ nm n0 d->n0<=N.length->(a:List ck)->
  (∀t p,look (aF.env ρ [] (fW nm fix l N.length (D++a)).E) t=some p->p.1=true/\g t=some p.2)/\(fW nm fix l N.length (D++a)).k=d.length/\(fW nm fix l N.length (D++a)).D=a/\fN (RwI ρ T) (fW nm fix l N.length (D++a)).R I
 |[],N,D,I,X,d,h,hg,hn,hle,a=>by
  obtain ⟨rfl,rfl,rfl,rfl⟩:=h;exact ⟨(λt p h=>by cases h),rfl,rfl,.nil⟩
 |(b,t,p)::l,N,D,I,X,d,h,hg,hn,hle,a=>by
  simp only [tL,an] at hg;obtain ⟨v,y,f,F,K,C,J,e,H,A,z,rfl,rfl,rfl⟩:=h;have p2:=NV l _ _ _ _ _ z;have m:Sem p v (ic ρ (aD b (fix t) none)) ((none:Option AV).map (AV.val ρ)) N y F C e:=by cases b <;> exact A
  obtain ⟨x,w,u,B,s⟩:=Gc (T:=T) p v _ none N y F C e m hg.1 (hn.pre p2) hle (f++a);obtain ⟨c1,r,o,n⟩:=NU l e f K J d z hg.2 hn (ec hle (ym p _ _ _ _ _ _ _ _ A).len) a;unfold fW;rw [cb];dsimp only;generalize fill nm p (aD b (fix t) none) none N.length (y++(f++a))=L at x w u B s;obtain ⟨G,R,k,U,P⟩:=L;simp only at x w u B s;subst w;subst u;dsimp only;generalize fW nm fix l e.length (f++a)=L at c1 r o n;obtain ⟨S,Q,O,M⟩:=L;simp only at c1 r o n;dsimp only;refine ⟨λt' q c=>?_,r,o,s.append n⟩;cases b
  .simp only [aF.env,look] at c;cases hb:Nat.beq t t'
   .rw [hb] at c;exact c1 t' q c
   .rw [hb] at c;simp only [cp,et] at c;subst c;have:=b0 hb;subst this;refine ⟨aA.get_none,?_⟩;have j:g t=some v:=H;rw [j,x]
  .exact c1 t' q c
end
section
variable {Γ Γ' : Ctx} {w : World}
theorem Sat.BA(h:Sat Γ w)(q:Nat->Nat->Prop)(g:∀(j:Nat) (a:Item),Γ'[j]? =some a->(a.own=[]/\∀M w,a.P M w)\/∃(i:Nat) (it:Item),q j i/\Γ[i]? =some it/\bV it a)
  (t:∀(j k i:Nat),j≠k->q j i->q k i->False):Sat Γ' w:=by
 have mv:Mv Γ.M w (Ctx.M Γ') w:=Mv.weaken w λb hb=>by
  obtain ⟨it,hi,hb⟩:=hb;obtain ⟨k,hk⟩:=List.mem_iff_getElem?.1 hi;rcases g k it hk with ⟨c,_⟩|⟨i,a,_,f,d⟩
  .rw [c] at hb;cases hb
  .exact Ctx.kG f (d.1 b hb)
 refine ⟨λa m=>?_,λj k a kt m hk s b hb n=>?_⟩
 .obtain ⟨k,hk⟩:=List.mem_iff_getElem?.1 m;rcases g k a hk with ⟨_,c⟩|⟨i,it,_,f,d⟩
  .exact c _ _
  .exact d.2 _ _ (it.cX (h.at_ f) mv (λ_ _=>rfl) (ix.refl w))
 .rcases g j a m with ⟨c,_⟩|⟨i,it,r1,f,d⟩
  .rw [c] at hb;cases hb
  .rcases g k kt hk with ⟨c,_⟩|⟨r,l,r2,p,o⟩
   .grind
   .by_cases e:i=r
    .grind
    .exact h.sep i r it l f p e b (d.1 b hb) (o.1 b n)
def jb:Item:=Wu True
theorem Sat.pull(h:Sat Γ w){i:Nat}{it b:Item}(hi:Γ[i]? =some it)(hl:bV it b):Sat (b::Γ.set i jb) w:=by
 refine h.BA (λj k=>(j=0/\k=i)\/(j=k+1/\k≠i)) (λj kt a=>?_) (λj k q c f d=>by omega);cases j with
 |zero=>grind
 |succ j=>
  simp at a;by_cases e:j=i
  .subst e;rw [so (List.getElem?_eq_some_iff.1 hi).1] at a;cases a;exact .inl ⟨rfl,λ_ _=>trivial⟩
  .rw [qK (λh=>e h.symm)] at a;exact .inr ⟨j,kt,.inr ⟨rfl,e⟩,a,bV.refl⟩
theorem Sat.BC{A B:Ctx}{x:Item}(h:Sat (A++x::B) w):Sat (A++B) w:=by
 refine h.BA (λj k=>(j<A.length/\k=j)\/(A.length<=j/\k=j+1)) (λj a c=>?_) (λj k q b f d=>by omega);by_cases e:j<A.length
 .exact .inr ⟨j,a,.inl ⟨e,rfl⟩,by grind,bV.refl⟩
 .have e':A.length<=j:=by omega
  refine .inr ⟨j+1,a,.inr ⟨e',rfl⟩,?_,bV.refl⟩;grind
theorem Sat.anV{A B:Ctx}{x a:Item}{k:Nat}(h:Sat (A++x::B.set k jb) w)(hk:B[k]? =some a)(hl:bV x a):Sat (A++B) w:=by
 refine h.BA (λj q=>(j<A.length/\q=j)\/(j=A.length+k/\q=A.length)\/(A.length<=j/\j≠A.length+k/\q=j+1)) (λj kt d=>?_) (λj k q b g f=>by omega);by_cases e:j<A.length
 .exact .inr ⟨j,kt,.inl ⟨e,rfl⟩,by grind,bV.refl⟩
 .have e':A.length<=j:=by omega
  by_cases c:j=A.length+k
  .grind
  .refine .inr ⟨j+1,kt,.inr (.inr ⟨e',c,rfl⟩),?_,bV.refl⟩;grind
theorem Sat.El{A B:Ctx}{x y:Item}(h:Sat (A++x::B) w)(hl:bV x y):Sat (A++y::B) w:=by
 refine h.BA (λj k=>j=k) (λj a c=>?_) (λj k q b f d=>by omega);by_cases e:j<A.length
 .exact .inr ⟨j,a,rfl,by grind,bV.refl⟩
 .by_cases g:j=A.length
  .grind
  .refine .inr ⟨j,a,rfl,?_,bV.refl⟩;grind
theorem Sat.ZN{A B C:Ctx}(h:Sat (A++(B++C)) w){c:Ctx}(hl:fN bV B c):Sat (A++(c++C)) w:=by
 induction hl generalizing A with
 |nil=>exact h
 | @cons a b l m h1 _ ih=>
  have d  :=h.El h1;have e:Sat ((A++[b])++(l++C)) w:=by simpa using d
  grind
def kH:xc->Ctx->Ctx
 |[],Γ=>Γ
 |none::l,Γ=>kH l Γ
 |some i::l,Γ=>(kH l Γ).set i jb
def Ndp:xc->Prop
 |[]=>True
 |none::l=>Ndp l
 |some i::l=>some i∉l/\Ndp l
theorem RV:∀{l:xc} {Γ:Ctx},(kH l Γ).length=Γ.length
 |[],_=>rfl
 |none::l,Γ=>RV (l:=l)
 |some j::l,Γ=>by show ((kH l Γ).set j jb).length=_;rw [qJ,RV]
theorem Cf:∀{l:xc} {Γ:Ctx} {i:Nat},some i∉l->(kH l Γ)[i]? =Γ[i]?
 |[],_,_,_=>rfl
 |none::l,Γ,i,h=>Cf (l:=l) (λa=>h (b7 _ a))
 |some j::l,Γ,i,h=>by have e:j≠i:=λe=>h (by grind);show ((kH l Γ).set j jb)[i]? =_;rw [qK e];exact Cf (λa=>h (b7 _ a))
theorem Ik{x:Item}:∀{l:xc} {Γ:Ctx} {i:Nat},some i∉l->(kH l Γ).set i x=kH l (Γ.set i x)
 |[],_,_,_=>rfl
 |none::l,Γ,i,h=>Ik (l:=l) (λa=>h (b7 _ a))
 |some j::l,Γ,i,h=>by have e:j≠i:=λe=>h (by grind);show ((kH l Γ).set j jb).set i x=(kH l (Γ.set i x)).set j jb;rw [List.set_comm _ _ e,Ik (λa=>h (b7 _ a))]
def PI(Γ:Ctx)(w:World)(o:zg)(x:Bool×Item):Prop:=match o with
 |some i=>∃jt,Γ[i]? =some jt/\bV jt x.2
 |none=>x.2.own=[]/\x.2.P Γ.M w
abbrev dA(I:fI):Ctx:=I.map (·.2)
def hZ(I:fI):Ctx:=I.map λx=>aD x.1 jb x.2
theorem yA(h:Sat Γ w):∀{L:xc} {I:fI},fN (PI Γ w) L I->Ndp L->Sat (dA I++kH L Γ) w/\∀b,Ctx.M (dA I++kH L Γ) b->Γ.M b
 |_,_,.nil,_=>⟨h,λ_ h=>h⟩
 |_,_,.cons (a:=none) (b:=x) h1 hr,hd=>by
  obtain ⟨ih,c⟩:=yA h hr hd;refine ⟨ih.add h1.1 (x.2.cX h1.2 (Mv.weaken w c) (λ_ _=>rfl) (ix.refl w)),λb hb=>?_⟩;rcases Ctx.CQ.1 hb with hb|hb
  .rw [h1.1] at hb;cases hb
  .exact c b hb
 |_,_,.cons (a:=some i) (l:=l) (m:=m) h1 hr,hd=>by
  obtain ⟨ih,c⟩:=yA h hr hd.2;obtain ⟨j,f,hl⟩:=h1;have hi:(dA m++kH l Γ)[(dA m).length+i]? =some j:=by rw [de (by omega),show (dA m).length+i-(dA m).length=i by omega,Cf hd.1];exact f
  have g:=ih.pull hi hl;rw [s5 _ _ (by omega),show (dA m).length+i-(dA m).length=i by omega] at g;refine ⟨g,λb hb=>?_⟩;rcases Ctx.CQ.1 hb with hb|hb
  .exact Ctx.kG f (hl.1 b hb)
  .obtain ⟨it,d,e⟩:=hb;refine c b ?_;rcases List.mem_append.1 d with d|d
   .exact ⟨it,qh _ d,e⟩
   .rcases List.mem_or_eq_of_mem_set d with d|d
    .exact ⟨it,hV _ d,e⟩
    .subst d;cases e
def AL:xc->fI->xc
 |o::L,x::I=>(aD x.1 o none)::AL L I
 |_,_=>[]
def Dd(Γ:Ctx)(o:zg)(x:Bool×Item):Prop:=match o with
 |some i=>∃jt,Γ[i]? =some jt/\(x.1=false->bV x.2 jt)
 |none=>True
theorem Dd.set{Γ:Ctx}{i:Nat}{y:Item}:∀{L:xc} {I:fI},fN (Dd Γ) L I->some i∉L->fN (Dd (Γ.set i y)) L I
 |_,_,.nil,_=> .nil
 |_,_,.cons (a:=none) h1 hr,hn=> .cons trivial (Dd.set hr (λh=>hn (b7 _ h)))
 |_,_,.cons (a:=some j) h1 hr,hn=>by obtain ⟨b,c,hl⟩:=h1;exact .cons ⟨b,by grind,hl⟩ (Dd.set hr (λh=>hn (b7 _ h)))
theorem QH{i:Nat}:∀{L:xc} {I:fI},some i∈AL L I->some i∈L
 |[],_,h=>by cases h
 |o::L,[],h=>by cases h
 |o::L,x::I,h=>by
  rcases List.mem_cons.1 h with h|h
  .grind
  .exact b7 _ (QH h)
theorem G8{A:Ctx}:∀{L:xc} {I:fI} {Γ:Ctx},fN (Dd Γ) L I->Ndp L->Sat (A++(hZ I++kH L Γ)) w->Sat (A++kH (AL L I) Γ) w
 |_,_,_,.nil,_,h=>h
 |_,_,_,.cons (a:=none) h1 hr,hd,h=>by
  have c  :=Sat.BC h;have:=G8 hr hd c;grind [AL,kH]
 |_,_,Γ,.cons (a:=some i) (b:=x) (l:=l) (m:=m) h1 hr,hd,h=>by
  obtain ⟨f,e,hl⟩:=h1;cases hx:x.1
  .have d:hZ (x::m)++kH (some i::l) Γ=x.2::(hZ m++kH l Γ).set (m.length+i) jb:=by simp_all [hZ,kH,set]
   rw [d] at h;have c:=h.anV (by
    rw [de (by simp [hZ])];have:m.length+i-(hZ m).length=i:=by simp [hZ]
    rw [this,Cf hd.1];exact e) (hl hx)
   have:=G8 hr hd.2 c;grind [AL,kH]
  .have d:hZ (x::m)++kH (some i::l) Γ=jb::(hZ m++kH l (Γ.set i jb)):=by show (aD x.1 jb x.2)::(hZ m++(kH l Γ).set i jb)=_;rw [hx,Ik hd.1]
   rw [d] at h;have c:=Sat.BC h;have:=G8 (Dd.set hr hd.1) hd.2 c;rw [<-Ik (λh=>hd.1 (QH h))] at this;grind [AL,kH]
end
def dB(G H:List Row)(s:Src):zg:=match s with
 | .top i=>(match G[i]? with
  |some r=>aD r.cL none (some i)
  |none=>none)
 | .cu i=>(match H[i]? with
  |some r=>aD r.cL none (some (G.length+i))
  |none=>none)
 |_=>none
def lY(n:Nat):xc->Bool
 |[]=>false
 |o::l=>(match o with
  |some m=>Nat.beq n m
  |none=>false)||lY n l
theorem O0{n:Nat}:{l:xc}->(lY n l=true↔some n∈l)
 |[]=>by simp [lY]
 |none::l=>by simp [lY,O0]
 |some m::l=>by simp only [lY,fi,oi,et];rw [O0,Nat.beq_eq]
def Fk:xc->Bool
 |[]=>true
 |o::l=>(match o with
  |some i=> !(lY i l)
  |none=>true)&&Fk l
theorem yC:{l:xc}->Fk l=true->Ndp l
 |[],_=>trivial
 |none::l,h=>by
  exact yC (l:=l) h
 |some i::l,h=>by simp [Fk,an] at h;exact ⟨(λa=>by grind [O0]),yC h.2⟩
section
variable {ρ : aw} {T : aA} {G H : List Row} {Φ : Ctx} {w : World}
theorem Src.pos{s:Src}{r:Row}(h:s.at_ G H r)(hp:r.cL=false):∃i,dB G H s=some i/\(ab ρ T G++(ab ρ T H++Φ))[i]? =some (r.item ρ T):=by
 cases s with
 |top i=>
  have h:G[i]? =some r:=h;simp_all [dB,ik]
 |cu i=>
  have h:H[i]? =some r:=h;simp_all [dB,Vr]
 |nilI=>exact h.elim
 |nilO=>exact h.elim
 |nilM=>exact h.elim
theorem Src.aqD{s:Src}{r:Row}(h:s.at_ G H r)(hp:r.cL=true):dB G H s=none:=by
 cases s with
 |top i=>
  have h:G[i]? =some r:=h;grind [dB]
 |cu i=>
  have h:H[i]? =some r:=h;grind [dB]
 |nilI=>exact h.elim
 |nilO=>exact h.elim
 |nilM=>exact h.elim
theorem Src.aqx{s:Src}(h:∀r,¬s.at_ G H r):dB G H s=none:=by
 cases s with
 |top i=>
  cases a:G[i]? with
  |none=>simp [dB,a]
  |some r=>exact (h r a).elim
 |cu i=>
  cases a:H[i]? with
  |none=>simp [dB,a]
  |some r=>exact (h r a).elim
 |nilI=>rfl
 |nilO=>rfl
 |nilM=>rfl
theorem Mr(j:Sat (ab ρ T G++(ab ρ T H++Φ)) w):∀{S:List (Bool×Src)} {I:fI},fN (SI ρ T G H) S I->fN (PI (ab ρ T G++(ab ρ T H++Φ)) w) (S.map λx=>dB G H x.2) I/\fN (Dd (ab ρ T G++(ab ρ T H++Φ))) (S.map λx=>dB G H x.2) I
 |_,_,.nil=>⟨.nil,.nil⟩
 |_,_,.cons (a:=a) (b:=x) h1 hr=>by
  obtain ⟨h,g⟩:=Mr j hr;obtain ⟨e,k⟩:=h1;rcases k with ⟨k1,d,f⟩|⟨r,k1,d,f,l⟩
  .have hp:=Src.aqx f;refine ⟨.cons ?_ h,.cons ?_ g⟩
   .show PI _ _ (dB G H a.2) x;rw [hp];exact ⟨k1,d _ _⟩
   grind [Dd,dB]
  .cases c:r.cL
   .obtain ⟨i,p1,p2⟩:=Src.pos k1 c;refine ⟨.cons ?_ h,.cons ?_ g⟩
    .show PI _ _ (dB G H a.2) x;rw [p1];exact ⟨_,p2,d⟩
    grind [Dd,dB]
   .have hp:=Src.aqD k1 c;refine ⟨.cons ?_ h,.cons ?_ g⟩
    .show PI _ _ (dB G H a.2) x;rw [hp];exact ⟨f c,d.2 _ _ (Src.holds j k1)⟩
    grind [Dd,dB]
def tu(is:xc):Nat->List Row->List Row
 |_,[]=>[]
 |k,r::G=>(aD (lY k is) .gone r)::tu is (k+1) G
def mf:List Row->List Row
 |[]=>[]
 |r::G=>(match r with
  | .gone=>mf G
  |r=>r::mf G)
theorem EH{B:Ctx}:∀{G:List Row} {A:Ctx},Sat (A++(ab ρ T G++B)) w->Sat (A++(ab ρ T (mf G)++B)) w
 |[],_,h=>h
 |r::G,A,h=>by
  unfold mf;split
  .exact EH (Sat.BC h)
  .have a:Sat ((A++[r.item ρ T])++(ab ρ T G++B)) w:=by simpa [ab] using h
   have:=EH a;grind
theorem NH{L:xc}:∀{G:List Row} {k:Nat},ab ρ T (tu L k G)=(ab ρ T G).mapIdx λi it=>aD (lY (k+i) L) jb it
 |[],_=>rfl
 |r::G,k=>by
  simp only [tu,eT,List.mapIdx_cons];have:=NH (L:=L) (G:=G) (k:=k+1);congr 1
  .cases lY k L <;> rfl
  grind
theorem Yn:∀{L:xc} {Γ:Ctx} {j:Nat},(kH L Γ)[j]? =(Γ[j]?).map λit=>aD (lY j L) jb it
 |[],Γ,j=>by
  show Γ[j]? =_;cases Γ[j]? <;> rfl
 |none::l,Γ,j=>Yn (L:=l)
 |some i::l,Γ,j=>by
  show ((kH l Γ).set i jb)[j]? =_;by_cases e:i=j
  .have hl:(kH l Γ).length=Γ.length:=RV;have a:lY i (some i::l)=true:=by simp [lY]
   grind
  .rw [qK e,Yn];grind [Nat.beq,absurd,Nat.eq_of_beq_eq_true,lY]
end
structure aC where
 f:FuncId
 ps:List Pt
 r:Pt
 os:List (Bool×Nat×Pt)
 m:fy (pJ ps)->Option (fy (po r++iW os))
def ajN:Ty->xa->Nat×xa
 | .p a b,o=>match ajN a o with
  |(n,o)=>match ajN b o with
   |(m,o)=>(n+m,o)
 | .l _,o=>(1,o.tail)
 | .ex,o=>(1,o.tail)
 |_,o=>(0,o)
mutual
def aji:Pt->Nat
 | .sli _|.own _ _ _|.mp _ _ _|.it=>1
 | .bx _ _ _ vs=>Qn vs+1
 | .agg l|.cQ l=>Qn l
 | .fn _ a b=>Qn a+Qn b
 | .ifc _ p=>aji p
 | .dat t o=>(ajN t o).1
 |_=>0
def Qn:List Pt->Nat
 |[]=>0
 |p::l=>aji p+Qn l
end
def ixN:List Pt->Nat->Nat
 |p::l,i+1=>aji p+ixN l i
 |_,_=>0
def QQ(X:lh)(n:Nat):ze:=match X with
 |[]=>[]
 |x::X=>aD (Nat.beq x.1 n) x.2 (QQ X n)
def Lb(X:List (Nat×List AV))(n:Nat):List AV:=match X with
 |[]=>[]
 |x::X=>aD (Nat.beq x.1 n) x.2 (Lb X n)
theorem UF{ρ:aw}{n:Nat}:{X:List (Nat×List AV)}->QQ (eV ρ X) n=AV.aj ρ (Lb X n)
 |[]=>by simp [QQ,Lb,AV.aj]
 |x::X=>by
  show (aD (Nat.beq x.1 n) (AV.aj ρ x.2) (QQ (eV ρ X) n))=AV.aj ρ (aD (Nat.beq x.1 n) x.2 (Lb X n));cases Nat.beq x.1 n
  .exact UF
  .rfl
def Qb(ps:List Pt)(vs:ze)(X:lh)(i:Nat):Fx:=(vs[i]?).map λv=>(v,QQ X (ixN ps i))
def x8(ps:List Pt)(vs:List AV)(X:List (Nat×List AV))(i:Nat):ja:=match vs[i]? with
 |some v=>some (v,Lb X (ixN ps i))
 |none=>none
theorem Rw{ρ:aw}:{l:List AV}->{i:Nat}->(AV.aj ρ l)[i]? =(l[i]?).map (AV.val ρ)
 |[],i=>by simp [AV.aj]
 |v::l,0=>by simp [AV.aj]
 |v::l,i+1=>by simp only [AV.aj,iQ];exact Rw
theorem abA{ρ:aw}{ps:List Pt}{vs:List AV}{X:List (Nat×List AV)}{i:Nat}:Qb ps (AV.aj ρ vs) (eV ρ X) i=ic ρ (x8 ps vs X i):=by
 unfold Qb x8;rw [Rw];cases vs[i]? with
 |none=>rfl
 |some v=>simp [UF]
def aC.Ok(P:Program)(Γg:Ctx)(e:aC):Prop:=Enters P e.f/\∀s r,e.m s=some r->∀(vs:ze) (N:List Nm) (I:fI) (X:lh) (Φ:Ctx) (w:World),
 w7 e.ps vs [] [] [] (iD _ s) I X N->Sat (dA I++Φ) w->(∀it∈Γg,it∈Φ)->
 jg P e.f vs w λv w'=>∃(N1 N2:List Nm) (D1 D2:List ck) (I1 I2:fI) (X1 X2:lh),Sem e.r v none none N D1 I1 X1 N1/\FE (Qb e.ps vs X) (λi=>vs[i]?) e.os N1 D2 I2 X2 N2/\D1++D2=iD _ r/\
  Sat ((dA I1++dA I2)++(hZ I++Φ)) w'
def cellsOf(G H:List Row)(j:Nat):List AV:=match eo G H (yW j) with
 |some (_,.box _ _ cs)=>cs
 |_=>[]
def aiP:(t:Ty)->List AV->xa->zo×List AV×xa
 | .i _,vs,o|.bo,vs,o|.s,vs,o=>([],vs.tail,o)
 | .p a b,vs,o=>match aiP a vs o with
  |(i,vs,o)=>match aiP b vs o with
   |(j,vs,o)=>(i++j,vs,o)
 | .l _,vs,o=>(match o with
  |none::_=>(match vs with
   |v::_=>v.fg
   |[]=>[])
  |_=>[],vs.tail,o.tail)
 | .ex,vs,o=>(match o with
  |none::_=>(match vs with
   |_::_::_::v::_=>v.fg
   |_=>[])
  |_=>[],vs.drop 4,o.tail)
 |_,vs,o=>([],vs,o)
mutual
def xi(G H:List Row):Pt->AV->zo
 | .sli _,v=>v.fg
 | .bx _ _ _ vs,v=>(match v with
  | .ptr j _=>eQ G H vs (cellsOf G H j)
  |_=>[])
 | .agg l,v=>(match v with
  | .agg vs=>eQ G H l vs
  |_=>[])
 | .cQ l,v=>(match v with
  | .tuple vs=>eQ G H l vs
  |_=>[])
 | .fn _ a b,v=>(match v with
  | .fn _ a' b'=>eQ G H a a'++eQ G H b b'
  |_=>[])
 | .ifc _ p,v=>(match v with
  | .ifc _ u=>xi G H p u
  |_=>[])
 | .dat t o,v=>(match v with
  | .agg cs=>(aiP t cs o).1
  |_=>[])
 |_,_=>[]
def eQ(G H:List Row):List Pt->List AV->zo
 |[],_=>[]
 |p::l,vs=>(match vs with
  |v::vs=>xi G H p (wP G H v)++eQ G H l vs
  |[]=>[])
end
def xH(T:aA)(g:GK):List Row->List Row
 |[]=>[]
 |r::G=>(match r with
  | .sli (some k) id t l b=> .sli (aD (T.imp g (some k)) none (some k)) id t l b
  |r=>r)::xH T g G
def B0(g:GK)(r:Row):Row:=match g with
 |none=>r
 |some g=>(match r with
  | .sli none id t l b=> .sli (some g) id t l b
  | .own id t _ l _=> .sli (some g) id t l false
  |r=>r)
def slB:Row->Bool
 | .sli none _ _ _ _|.own .. =>true
 |_=>false
def S9:List (Bool×Row)->Bool
 |[]=>true
 |x::l=>slB x.2&&S9 l
def uO(B:xc)(c:Nat)(n:Nat):Nat:=match B[n]? with
 |some (some j)=>j
 |_=>c+n
def Vh(c:Nat):xc->Bool
 |[]=>true
 |o::l=>(match o with
  |some j=>Nat.blt j c
  |none=>true)&&Vh c l
def Oh(c:Nat):List (Nat×List AV)->Bool
 |[]=>true
 |x::l=>AV.cj c x.2&&Oh c l
def A9(G H:List Row):List (Bool×Src)->xc
 |[]=>[]
 |x::S=>(aD x.1 (dB G H x.2) none)::A9 G H S
def NQ(n:Nat):xc->Bool
 |[]=>true
 |o::l=>(match o with
  |some i=>Nat.blt i n
  |none=>true)&&NQ n l
def QO:xc->Bool
 |[]=>true
 |o::l=>(match o with
  |some _=>false
  |none=>true)&&QO l
def MC{R:Type}(_fr:Fr)(st:aB)(g:GK)(d:zh)(args:List AV)(e:aC)(mr:MR)(G1:List Row)(K:cF R)(r:fy (po e.r++iW e.os)):Option R:=
 match fill (uO mr.B st.c) e.r none none mr.B.length (iD _ r) with
 |⟨v,R1,k,D,_⟩=>match fW (uO mr.B st.c) (x8 e.ps args mr.X) e.os k D with
  |⟨_,R2,k,_⟩=>aD (match g with|none=>true|some _=>S9 R1) (K { st with c:=st.c+k,E:=cJ d g v st.E,G:=(R1++R2).map (λx=>B0 g x.2)++G1 }) none
def ad1{R:Type}(T:aA)(fr:Fr)(st:aB)(g:GK)(d:zh)(args:List AV)(e:aC)(K:cF R):Option (Option R):=
 match g with
 |none=>(match F6 (cu (eQ st.G fr.H e.ps args) st.G) fr.H e.ps args [] [] [] with
  |some mr=>aD (Fk (mr.S.map λx=>dB (cu (eQ st.G fr.H e.ps args) st.G) fr.H x.2)&&NQ (cu (eQ st.G fr.H e.ps args) st.G).length (A9 (cu (eQ st.G fr.H e.ps args) st.G) fr.H mr.S)&&Vh st.c mr.B&&AV.cj st.c args&&Oh st.c mr.X&&tL (x8 e.ps args mr.X) e.os) (match cQ (pJ e.ps) mr.D with
   |some s=>some ((e.m s).bind (MC fr st none d args e mr (mf (tu (A9 (cu (eQ st.G fr.H e.ps args) st.G) fr.H mr.S) 0 (cu (eQ st.G fr.H e.ps args) st.G))) K))
   |none=>none) none
  |none=>none)
 |some gk=>(match F6 (xH T (some gk) (cu (eQ st.G fr.H e.ps args) st.G)) (xH T (some gk) fr.H) e.ps args [] [] [] with
  |some mr=>aD (Fk (mr.S.map λx=>dB (xH T (some gk) (cu (eQ st.G fr.H e.ps args) st.G)) (xH T (some gk) fr.H) x.2)&&QO (A9 (xH T (some gk) (cu (eQ st.G fr.H e.ps args) st.G)) (xH T (some gk) fr.H) mr.S)&&e.os.isEmpty&&Vh st.c mr.B&&AV.cj st.c args&&Oh st.c mr.X&&tL (x8 e.ps args mr.X) e.os) (match cQ (pJ e.ps) mr.D with
   |some s=>some (bF (T.get (some gk)) (aeY _) (e.m s) (MC fr st (some gk) d args e mr (cu (eQ st.G fr.H e.ps args) st.G) K))
   |none=>none) none
  |none=>none)
def xg{R:Type}(T:aA)(fr:Fr)(st:aB)(g:GK)(d:zh)(f:FuncId)(args:List AV)(K:cF R):List aC->Option R
 |[]=>none
 |e::tb=>aD (Nat.beq e.f f) (match ad1 T fr st g d args e K with
   |some r=>r
   |none=>xg T fr st g d f args K tb) (xg T fr st g d f args K tb)
section
variable {ρ : aw} {T : aA} {G H : List Row} {Φ : Ctx} {w : World}
theorem NZ{s:Src}{i:Nat}(h:dB G H s=some i):i<G.length+H.length:=by
 cases s with
 |top j=>
  simp only [dB] at h;split at h
  next r a=>obtain ⟨_,b⟩:=Mi h;cases b;have:=(List.getElem?_eq_some_iff.1 a).1;omega
  .cases h
 |cu j=>
  simp only [dB] at h;split at h
  next r a=>obtain ⟨_,b⟩:=Mi h;cases b;have:=(List.getElem?_eq_some_iff.1 a).1;omega
  .cases h
 |nilI=>cases h
 |nilO=>cases h
 |nilM=>cases h
theorem Ow:∀{S:List (Bool×Src)} {I:fI},fN (SI ρ T G H) S I->AL (S.map λx=>dB G H x.2) I=A9 G H S
 |_,_,.nil=>rfl
 |_,_,.cons (a:=a) (b:=x) h1 hr=>by show (aD x.1 (dB G H a.2) none)::AL _ _=(aD a.1 (dB G H a.2) none)::_;rw [Ow hr,h1.1]
theorem Ua{n:Nat}:∀{L:xc} {j:Nat},NQ n L=true->lY j L=true->j<n
 |[],j,h,a=>by cases a
 |none::l,j,h,a=>by
  simp only [NQ,mi] at h;simp only [lY,mm] at a;exact Ua h a
 |some i::l,j,h,a=>by
  simp only [NQ,an,j6] at h;simp only [lY,fi] at a;rcases a with a|a
  .rw [b0 a];exact h.1
  .exact Ua h.2 a
theorem C0{L:xc}{Δ:Ctx}(h:NQ G.length L=true):kH L (ab ρ T G++Δ)=ab ρ T (tu L 0 G)++Δ:=by
 apply mN;intro j;rw [Yn,NH];by_cases a:j<G.length
 .rw [eb (by simpa [ab] using a),eb (by simpa [ab] using a),List.getElem?_mapIdx];simp
 .have e:lY j L=false:=by
   cases hm:lY j L
   .rfl
   .exact absurd (Ua h hm) a
  rw [de (by simp [ab];omega),de (by simp [ab];omega),e];have b:(ab ρ T G).length=((ab ρ T G).mapIdx λi it=>aD (lY (0+i) L) jb it).length:=by simp
  rw [<-b];cases Δ[j-(ab ρ T G).length]? <;> rfl
theorem Zr:∀{L:xc} {Γ:Ctx},QO L=true->kH L Γ=Γ
 |[],_,_=>rfl
 |none::l,Γ,h=>by
  simp only [QO,mi] at h;exact Zr (L:=l) h
 |some i::l,Γ,h=>by simp [QO] at h
theorem Of{g:GK}(c:T.get g=true){B:Ctx}:∀{G:List Row} {A:Ctx},Sat (A++(ab ρ T G++B)) w->Sat (A++(ab ρ T (xH T g G)++B)) w
 |[],_,h=>h
 |r::G,A,h=>by
  have step:∀a:Row,bV (r.item ρ T) (a.item ρ T)->Sat (A++(ab ρ T (a::xH T g G)++B)) w:=λa hl=>by
   have d:Sat (A++a.item ρ T::(ab ρ T G++B)) w:=Sat.El h hl;have e:Sat ((A++[a.item ρ T])++(ab ρ T G++B)) w:=by simpa [ab] using d
   have:=Of c (G:=G) e;simpa [ab] using this
  unfold xH;split
  .rename_i k id t l b;refine step _ ?_;cases hi:T.imp g (some k)
   .exact bV.refl
   .refine ⟨λ_ h=>h,λM w h _=>h (aA.my hi c)⟩
  .exact step _ bV.refl
theorem SX{g:GK}:∀{G:List Row},fN bV (ab ρ T (xH T g G)) (ab ρ T G)
 |[]=> .nil
 |r::G=>by
  show fN bV (ab ρ T (xH T g (r::G))) (r.item ρ T::ab ρ T G);unfold xH;refine .cons ?_ SX;split
  .rename_i k id t l b;cases hi:T.imp g (some k)
   .exact bV.refl
   .exact ⟨λ_ h=>h,λM w h _=>h aA.get_none⟩
  .exact bV.refl
theorem Y3{g:Nat×Bool}{B:Ctx}:∀{R:List (Bool×Row)} {A:Ctx},S9 R=true->Sat (A++(ab ρ T (R.map (·.2))++B)) w->Sat (A++(ab ρ T (R.map λx=>B0 (some g) x.2)++B)) w
 |[],_,_,h=>h
 |(m,r)::R,A,hb,h=>by
  simp only [S9,an] at hb;have step:Sat (A++(B0 (some g) r).item ρ T::(ab ρ T (R.map (·.2))++B)) w:=by
   have c:Sat (A++r.item ρ T::(ab ρ T (R.map (·.2))++B)) w:=h;cases r with
   |sli k id t l b=>
    cases k with
    |none=>exact c.El ⟨λ_ h=>h,λM w h _=>h aA.get_none⟩
    |some k=>simp [slB] at hb
   |own id t e l a=>
    have hi:(A++(Row.own id t e l a).item ρ T::(ab ρ T (R.map (·.2))++B))[A.length]? =some (te t.rep e (ρ id).v l ((ρ a).y=⟨.l t,l⟩)):=by simp [Row.item]
    have d:=c.lJ hi (new:=(B0 (some g) (Row.own id t e l a)).item ρ T) ((Ext.refl w).vV _) (λb hb=>by cases hb) (λM' m hn=>λ_=>⟨(c.at_ hi).1.freeze (λb hb=>hn b hb (λhb=>by cases hb)) m,λhb=>by cases hb⟩);simpa using d
   |_=>simp [slB] at hb
  have f:Sat ((A++[(B0 (some g) r).item ρ T])++(ab ρ T (R.map (·.2))++B)) w:=by simpa using step
  have:=Y3 (g:=g) hb.2 f;simpa [ab] using this
theorem IL{g:Nat×Bool}(a:T.get (some g)=false):∀{R:List (Bool×Row)},S9 R=true->∀it∈ab ρ T (R.map λx=>B0 (some g) x.2),it.cL=true/\∀M w,it.P M w
 |[],_,it,h=>by cases h
 |(m,r)::R,hb,it,h=>by
  simp only [S9,an] at hb;rw [eT,ab,eT] at h;rcases List.mem_cons.1 h with rfl|h
  .cases r with
   |sli k id t l b=>
    cases k with
    |none=>exact ⟨rfl,λM w h=>by rw [a] at h;cases h⟩
    |some k=>simp [slB] at hb
   |own id t e l c=>exact ⟨rfl,λM w h=>by rw [a] at h;cases h⟩
   |_=>simp [slB] at hb
  .exact IL a hb.2 it h
theorem fN.rw{R:List (Bool×Row)}{I:fI}(h:fN (RwI ρ T) R I):fN bV (dA I) (ab ρ T (R.map (·.2))):=by
 induction h with
 |nil=>exact .nil
 |cons a _ ih=>exact .cons a.2.1 ih
theorem PR{R:List (Bool×Row)}:(R.map λx=>B0 none x.2)=R.map (·.2):=rfl
theorem Vm{N2:List Nm}{B:xc}{c:Nat}(hN:NB ρ B N)(hp:wY N N2)(p:Vh c B=true):
  xF (λi=>aD (Nat.blt i c) (ρ i) ((N2[i-c]?).getD dm)) (uO B c) B.length N2:=by
 intro i a ha;have e:∀n,(aD (Nat.blt (c+n) c) (ρ (c+n)) ((N2[c+n-c]?).getD dm))=(N2[n]?).getD dm:=λn=>by
  have:Nat.blt (c+n) c=false:=by
   cases hb:Nat.blt (c+n) c
   .rfl
   .simp only [j6] at hb;omega
  rw [this,show c+n-c=n by omega]
 unfold uO;split
 .rename_i j d;obtain ⟨r,q,f⟩:=hN.get d;have k:=hp.at_ q;rw [ha] at k;cases k;have b:Nat.blt j c=true:=by
   have key:∀(B:xc) (i:Nat),Vh c B=true->B[i]? =some (some j)->Nat.blt j c=true:=λB=>by
    induction B with
    |nil=>intro i _ h;simp at h
    |cons o l ih=>
     intro i h g;simp only [Vh,an] at h;cases i with
     |zero=>simp at g;subst g;exact h.1
     |succ i=>exact ih i h.2 (by simpa using g)
   exact key B i p d
  simp only [b];refine ⟨f.1.symm,f.2.1.symm,f.2.2.symm,λm=>?_⟩;have:=(List.getElem?_eq_some_iff.1 d).1;omega
 .simp only [e,ha,qF];exact ⟨trivial,trivial,trivial,λ_=>trivial⟩
theorem Yh{ρ':aw}{c:Nat}(ha:aQ c ρ ρ'):{X:List (Nat×List AV)}->Oh c X=true->eV ρ' X=eV ρ X
 |[],_=>rfl
 |x::X,h=>by simp only [Oh,an] at h;show (x.1,AV.aj ρ' x.2)::eV ρ' X=(x.1,AV.aj ρ x.2)::eV ρ X;rw [AV.bZ ha _ h.1,Yh ha h.2]
end
section
variable {P : Program} {R : Type} {r : R} {K : cF R} {T : aA} {fr : Fr} {st : aB} {g : GK} {d : zh} {ρ : aw} {Φ Γg : Ctx} {w : World} {ty : TypeId} {pos : String} {af : zj} {gd : xb}
theorem LI{e:aC}{args:List AV}{a:MR}{l:List Row}{q:fy (po e.r++iW e.os)}{v:Value}{w':World}{p N2:List Nm}{F s:List ck}{E n:fI}{X1 V:lh}
  (hl:st.low fr=true) (I:bB st.c l=true) (hN:NB ρ a.B N) (hB:Vh st.c a.B=true) (hA:AV.cj st.c args=true) (hX:Oh st.c a.X=true) (hF:tL (x8 e.ps args a.X) e.os=true)
  (Z:Sem e.r v none none N F E X1 p) (z:FE (Qb e.ps (AV.aj ρ args) (eV ρ a.X)) (λi=>(AV.aj ρ args)[i]?) e.os p s n V N2) (hD:F++s=iD _ q)
  (hg:T.get g=true) (hs:Sat ((dA E++dA n)++(ab ρ T l++(ab ρ T fr.H++Φ))) w') (b:g=none\/e.os=[]) (h:MC fr st g d args e a l K q=some r):aU r K T fr st g d ρ Φ v w':=by
 have w:=ym _ _ _ _ _ _ _ _ _ Z;have u:=NV _ _ _ _ _ _ z;have m:=Vm (N2:=N2) hN (w.trans u) hB;have f:aQ st.c ρ (λi=>aD (Nat.blt i st.c) (ρ i) ((N2[i-st.c]?).getD dm)):=λj hj=>by
  have:Nat.blt j st.c=true:=by simpa using hj
  simp only [this]
 generalize hρ:(λi=>aD (Nat.blt i st.c) (ρ i) ((N2[i-st.c]?).getD dm))=ρ' at m f;have y:a.B.length=N.length:=hN.length;obtain ⟨U,S,Q,a4,P⟩:=Gc (T:=T) e.r v none none N F E X1 p Z (FK _) (m.pre u) (by omega) s;have J:FE (λi=>ic ρ' (x8 e.ps args a.X i)) (λi=>(AV.aj ρ args)[i]?) e.os p s n V N2:=by
  have e1:(λi=>ic ρ' (x8 e.ps args a.X i))=Qb e.ps (AV.aj ρ args) (eV ρ a.X):=by
   funext i
   rw [<-AV.bZ f _ hA,<-Yh f hX,abA]
  rw [e1];exact z
 obtain ⟨b1,O,M,o⟩:=NU (T:=T) e.os p s n V N2 J hF m (ec (by omega) w.len) [];unfold MC at h;rw [<-hD,y] at h;generalize fill (uO a.B st.c) e.r none none N.length (F++s)=L at U S Q a4 P h;obtain ⟨v',D,k,DD,XX⟩:=L;simp only at U S Q a4 P;subst S;subst Q;dsimp only at h;rw [ma] at b1 O M o;generalize fW (uO a.B st.c) (x8 e.ps args a.X) e.os p.length DD=L at b1 O M o h;obtain ⟨E2,W,Y,DD2⟩:=L;simp only at O M o;dsimp only at h;obtain ⟨c1,c2⟩:=aI h;refine aU.new (ρ':=ρ') hl c2 f (by simp) rfl U ?_;have t:Sat ((ab ρ' T (D.map (·.2))++ab ρ' T (W.map (·.2)))++(ab ρ T l++(ab ρ T fr.H++Φ))) w':=by have k1:=Sat.ZN (A:=[]) (B:=dA E) (C:=dA n++(ab ρ T l++(ab ρ T fr.H++Φ))) (by simpa using hs) P.rw;have Y:=Sat.ZN (A:=ab ρ' T (D.map (·.2))) (B:=dA n) (C:=ab ρ T l++(ab ρ T fr.H++Φ)) k1 o.rw;simpa using Y
 have e3:=aZ (T:=T) f I;show Sat (ab ρ' T ((D++W).map (λx=>B0 g x.2)++l)++(ab ρ T fr.H++Φ)) w';rw [bg,e3,sj,bg];cases g with
 |none=>
  rw [PR,PR];simpa using t
 |some gk=>
  rcases b with b|b
  .cases b
  .have G:W=[]:=by
    have hI:n=[]:=by rw [b] at z;exact z.2.1
    rw [hI] at o;cases o;rfl
   subst G;have k3:=Y3 (g:=gk) (A:=[]) (R:=D) (B:=ab ρ T l++(ab ρ T fr.H++Φ)) c1 (by simpa using t);simpa using k3
theorem ahl{e:aC}{op:Op}{args:List AV}(hl:st.low fr=true)(p:Sat (ab ρ T st.G++(ab ρ T fr.H++Φ)) w)(he:e.Ok P Γg)(hΓ:∀it∈Γg,it∈Φ)
  (ent:T.get g=true->∀n j,Fits n (ay ρ T st.E fr.F) j->(execOp j.eval ⟨d,op,ty,pos,af,gd⟩).run P w= .ok (.enter e.f (AV.aj ρ args).toArray) w) (h:ad1 T fr st g d args e K=some (some r)):
  lW P T g (ay ρ T st.E fr.F) ⟨d,op,ty,pos,af,gd⟩ w (aU r K T fr st g d ρ Φ):=by
 have hGl:=tP (ids:=eQ st.G fr.H e.ps args) (aB.cE.1 hl).2.2.1;replace p:=kY (ids:=eQ st.G fr.H e.ps args) p
 -- what is lent, taken and handed back
 have key:∀(o l:List Row) (a:MR) (s:fy (pJ e.ps)) (q:fy (po e.r++iW e.os)),Sat (ab ρ T o++(ab ρ T l++Φ)) w->F6 o l e.ps args [] [] []=some a->Fk (a.S.map λx=>dB o l x.2)=true->
   cQ (pJ e.ps) a.D=some s->e.m s=some q->jg P e.f (AV.aj ρ args) w λv w'=>∃(N J N2:List Nm) (R Q:List ck) (O M:fI) (X1 X2:lh),NB ρ a.B N/\Sem e.r v none none N R O X1 J/\
    FE (Qb e.ps (AV.aj ρ args) (eV ρ a.X)) (λi=>(AV.aj ρ args)[i]?) e.os J Q M X2 N2/\R++Q=iD _ q/\Sat ((dA O++dA M)++kH (A9 o l a.S) (ab ρ T o++(ab ρ T l++Φ))) w':=λo l a s q p hm hnd b hq=>by
  obtain ⟨N,I,s1,U,a1⟩:=Al p e.ps args [] [] [] a [] hm (.inl rfl) .nil;rw [<-Cd _ b] at s1;obtain ⟨p1,p2⟩:=Mr p a1;have y:=yC hnd;obtain ⟨q1,_⟩:=yA p p1 y;refine (he.2 s q hq (AV.aj ρ args) N I (eV ρ a.X) _ w (by simpa only [AV.aj] using s1) q1 (λit bH=>?_)).mono ?_
  .obtain ⟨k,hk⟩:=List.mem_iff_getElem?.1 (hΓ it bH);have hk2:(ab ρ T o++(ab ρ T l++Φ))[o.length+l.length+k]? =some it:=by
    rw [de (by simp [ab];omega),de (by simp [ab];omega)];have:o.length+l.length+k-(ab ρ T o).length-(ab ρ T l).length=k:=by simp [ab];omega
    rw [this];exact hk
   refine gr (i:=o.length+l.length+k) ?_;rw [Cf,hk2];intro Z;obtain ⟨x,_,hx⟩:=List.mem_map.1 Z;have:=NZ hx;omega
  .intro v w' W;obtain ⟨J,N2,R,Q,O,M,X1,X2,c1,c2,c3,C⟩:=W;have z:=G8 p2 y C;rw [Ow a1] at z;exact ⟨N,J,N2,R,Q,O,M,X1,X2,U,c1,c2,c3,z⟩
 unfold ad1 at h;cases g with
 |none=>
  dsimp only at h;split at h
  .rename_i a hm;obtain ⟨h1,u⟩:=aI h;simp only [an] at h1;obtain ⟨⟨⟨⟨⟨h3,h4⟩,h5⟩,h6⟩,h7⟩,h9⟩:=h1;split at u
   .rename_i s b;simp only [et] at u;obtain ⟨q,hq,hk⟩:=ia u;refine .none_ (λn j hf=> .inr (.inr ⟨e.f,AV.aj ρ args,ent aA.get_none n j hf,(key _ _ a s q p hm h3 b hq).mono λv w' W=>?_⟩));obtain ⟨N,J,N2,R,Q,O,M,X1,X2,U,c1,c2,c3,C⟩:=W;rw [C0 h4] at C;have z:=EH C;refine LI hl ?_ U h5 h6 h7 h9 c1 c2 c3 aA.get_none z (.inl rfl) hk;have V:∀(L:xc) (G:List Row) (k:Nat),bB st.c G=true->bB st.c (mf (tu L k G))=true:=λL G=>by
     induction G with
     |nil=>intro k _;rfl
     |cons r G ih=>
      intro k hG;simp only [bB,an] at hG;show bB st.c (mf ((aD (lY k L) .gone r)::tu L (k+1) G))=true;cases lY k L
      .cases r <;> first|exact ih (k+1) hG.2|(simp only [mf,bB,an];exact ⟨hG.1,ih (k+1) hG.2⟩)
      .exact ih (k+1) hG.2
    exact V _ _ _ hGl
   .cases u
  .cases h
 |some gk=>
  dsimp only at h;split at h
  .rename_i a hm;obtain ⟨h1,u⟩:=aI h;simp only [an] at h1;obtain ⟨⟨⟨⟨⟨⟨h3,h4⟩,h8⟩,h5⟩,h6⟩,h7⟩,h9⟩:=h1;have Y:e.os=[]:=by simpa using h8
   split at u
   .rename_i s b;simp only [et] at u;obtain ⟨q,hq1,hq0,hk⟩:=Rd u;refine ⟨λt=>λn j hf=> .inr (.inr ⟨e.f,AV.aj ρ args,ent t n j hf,(key _ _ a s q (Of (A:=ab ρ T (xH T (some gk) (cu (eQ st.G fr.H e.ps args) st.G))) t (Of (A:=[]) t p)) hm h3 b (hq1 t)).mono λv w' W=>?_⟩),λt=>?_⟩
    .obtain ⟨N,J,N2,R,Q,O,M,X1,X2,U,c1,c2,c3,C⟩:=W;rw [Zr h4] at C;have z:=Sat.ZN C SX;rw [<-cb] at z;have c6:=Sat.ZN z SX;rw [cb] at c6;exact LI hl hGl U h5 h6 h7 h9 c1 c2 c3 t c6 (.inr Y) hk
    .have e0:=hq0 t;subst e0;unfold MC at hk;generalize fill (uO a.B st.c) e.r none none a.B.length (iD _ (aeY _))=L at hk;obtain ⟨v',R1,k,DD,XX⟩:=L;dsimp only at hk;have e2:fW (uO a.B st.c) (x8 e.ps args a.X) e.os k DD=⟨[],[],k,DD⟩:=by rw [Y];rfl
     rw [e2] at hk;dsimp only at hk;obtain ⟨d1,d2⟩:=aI hk;refine ⟨_,aU.kQ d2 (by simp) rfl rfl ?_⟩;show Sat (ab ρ T ((R1++[]).map (λx:Bool×Row=>B0 (some gk) x.2)++_)++_) w;rw [ma,bg,cb];exact Ck p _ (λit bH=>⟨(IL t d1 it bH).1,(IL t d1 it bH).2 _ _⟩)
   .cases u
  .cases h
end
def PW:(t:Ty)->List t.T->Option ze
 | .s,xs=>some (xs.map S)
 | .i k,xs=>some (xs.map (.int k))
 |_,_=>none
def glI(p:Nat×Nat×ck):Item:=match p.2.2 with
 |⟨.l t,xs⟩=>(match PW t xs with
  |some cs=>gl p.1 cs
  |none=>jb)
 |_=>jb
def Cx.Γ(X:Cx):Ctx:=X.gls.map glI
def Wt:List (Nat×Nat×ck)->Nat->Option ck
 |[],_=>none
 |p::l,b=>aD (Nat.beq p.1 b) (some p.2.2) (Wt l b)
theorem ZC:{l:List (Nat×Nat×ck)}->{b:Nat}->{d:ck}->Wt l b=some d->∃p,p∈l/\p.1=b/\p.2.2=d
 |[],_,_,h=>by cases h
 |p::l,b,d,h=>by
  unfold Wt at h;rcases dR h with ⟨f,a⟩|⟨_,a⟩
  .cases a;exact ⟨p,cx .., b0 f,rfl⟩
  .obtain ⟨q,e,c⟩:=ZC a;exact ⟨q,b7 _ e,c⟩
theorem agY{M:Nat->Prop}{w:World}:{t:Ty}->{xs:List t.T}->{cs:ze}->PW t xs=some cs->cS t.rep M w cs xs
 | .s,xs,_,h=>by cases h;exact YF xs
 | .i k,xs,_,h=>by cases h;exact UM xs
 | .bo,_,_,h|.un,_,_,h|.n,_,_,h|.p _ _,_,_,h|.l _,_,_,h|.mp _ _,_,_,h|.ex,_,_,h=>by cases h
structure GA where
 n:Nat
 e:TypeId
 b:Nat
 t:Ty
 xs:List t.T
 m:Nat
def gaA(X:Cx)(T:aA)(fr:Fr)(st:aB)(g:GK)(t:TypeId)(x:Operand):Option GA:=match X.P.underlying t with
 |some (.array n e)=>(match oz X.P e with
  |some z=>(match bu T st.E fr.F g x with
   |some (.gp b)=>(match Wt X.gls b with
    |some ⟨.l u,xs⟩=>aD ((PW u xs).isSome&&Nat.beq z.1 u.n'&&Nat.beq n xs.length&&Nat.blt 0 n) (some ⟨n,e,b,u,xs,z.1⟩) none
    |_=>none)
   |_=>none)
  |none=>none)
 |_=>none
section
variable {X : Cx} {R : Type} {r : R} {K : cF R} {T : aA} {fr : Fr} {st : aB} {g : GK} {d : Tmp} {ρ : aw} {Φ : Ctx} {w : World} {ty : TypeId} {pos : String} {af : zj} {gd : xb}
theorem ahy{t:TypeId}{x:Operand}{q:GA}(f:∀it∈X.Γ,it∈Φ)(A:Sat (ab ρ T st.G++(ab ρ T fr.H++Φ)) w)(h:gaA X T fr st g t x=some q):
  X.P.underlying t=some (.array q.n q.e)/\(∃bytes z,TI X.P q.e q.m bytes z)/\al (ay ρ T st.E fr.F) (T.get g) x (.pointer (some ⟨q.b,0,none⟩))/\q.m=q.t.rep.n/\q.n=q.xs.length/\Nat.blt 0 q.n=true/\
   bS q.t.rep (Ctx.M (ab ρ T st.G++(ab ρ T fr.H++Φ))) w (sl (some ⟨q.b,0,none⟩,q.xs.length,q.xs.length)) q.xs:=by
 unfold gaA at h;split at h
 .rename_i n e ht;split at h
  .rename_i z y;obtain ⟨m,bytes,z⟩:=z;split at h
   .rename_i b hx;split at h
    .rename_i u xs B;obtain ⟨s,J⟩:=aI h;cases J;simp only [an] at s;obtain ⟨⟨⟨r,I⟩,D⟩,C⟩:=s;have c:=aO (ρ:=ρ) hx;simp only [AV.val] at c;obtain ⟨p,p1,p2,o⟩:=ZC B;obtain ⟨k,v,N⟩:=p;simp only at p2 o;subst p2;subst o;cases j:PW u xs with
     |none=>rw [j] at r;cases r
     |some cs=>
      have d:gl k cs∈Φ:=by have:=f (glI (k,v,⟨.l u,xs⟩)) (List.mem_map.2 ⟨_,p1,rfl⟩);unfold glI at this;simp only [j] at this;exact this
      have a:gl k cs∈ab ρ T st.G++(ab ρ T fr.H++Φ):=hV _ (hV _ d);obtain ⟨i,hi⟩:=List.mem_iff_getElem?.1 a;obtain ⟨L,K⟩:=A.gl hi;exact ⟨ht,⟨bytes,z,cP y⟩,c,(b0 I).trans u.CJ.symm,b0 D,C,ap4 L K (agY j)⟩
    .cases h
   .cases h
  .cases h
 .cases h
def Wr(X:Cx)(T:aA)(fr:Fr)(st:aB)(g:GK)(d:Tmp)(t:TypeId)(x y:Operand)(K:cF R):Option R:=match gaA X T fr st g t x with
 |some q=>(match bu T st.E fr.F g y with
  |some (.int _ i)=>apL T g st d q.t q.xs i K
  |_=>none)
 |none=>none
theorem Ys{N:TypeId}{x y:Operand}(hl:st.low fr=true)(O:∀it∈X.Γ,it∈Φ)(U:Sat (ab ρ T st.G++(ab ρ T fr.H++Φ)) w)(h:Wr X T fr st g d N x y K=some r):
  NT X.P T g (ay ρ T st.E fr.F) ⟨some d,.indexAddr N x y,ty,pos,af,gd⟩ w (aU r K T fr st g (some d) ρ Φ):=by
 unfold Wr at h;split at h
 .rename_i q hq;obtain ⟨ht,⟨bytes,z,C⟩,B,hm,hn,_,hS⟩:=ahy O U hq;obtain ⟨n,e,b,t,l,m⟩:=q;simp only at ht C B hm hn hS h;split at h
  .rename_i k i hy;have A:=aO (ρ:=ρ) hy;simp only [AV.val] at A;obtain ⟨u,V,b2⟩:=Bx h;have key:∃(p:Addr) (f:aw),aQ st.c ρ f/\(f st.c).a=p/\(T.get g=true->AP (sl (some ⟨b,0,none⟩,l.length,l.length)) i m p)/\
     ∀it∈ab f T (.elm g st.c (dS t u (st.c+1)).1::((dS t u (st.c+1)).2.1.map (xT g))),it.cL=true/\it.P (Ctx.M (ab ρ T st.G++(ab ρ T fr.H++Φ))) w:=by
    cases s:T.get g
    .refine ⟨⟨0,0,none⟩,ρ.set st.c dm,aw.aX,by rw [aw.bG];rfl,(λh=>by cases h),λit bH=>?_⟩;rw [ab,eT] at bH;rcases List.mem_cons.1 bH with rfl|bH
     .exact ⟨rfl,λh=>by rw [s] at h;cases h⟩
     .obtain ⟨r1,v,rfl⟩:=List.mem_map.1 bH;obtain ⟨r2,j,rfl⟩:=List.mem_map.1 v;obtain ⟨j1,t1,W,rfl⟩:=KJ _ _ _ _ j;exact vQ (λh=>by rw [s] at h;cases h)
    .obtain ⟨L,vs,S,e3,e4⟩:=hS.Xo (V s);obtain ⟨f,m1⟩:=Gn (T:=T) t u (st.c+1) vs e3 (ρ.set st.c { dm with a:=tW (sl (some ⟨b,0,none⟩,l.length,l.length)) i t.rep.n });have J:(f st.c).a=tW (sl (some ⟨b,0,none⟩,l.length,l.length)) i t.rep.n:=by rw [m1.ag _ (mE _),aw.bG]
     refine ⟨tW (sl (some ⟨b,0,none⟩,l.length,l.length)) i t.rep.n,f,aw.aX.trans m1.ag (l5 _),J,λ_=>by rw [hm];exact L,λit bH=>?_⟩;rw [ab,eT] at bH;rcases List.mem_cons.1 bH with rfl|bH
     .refine ⟨rfl,λ_=>?_⟩;show ¬Ctx.M _ (f st.c).a.block/\bL w (f st.c).a _;rw [J,m1.eq];exact ⟨e4,S⟩
     .obtain ⟨r1,v,rfl⟩:=List.mem_map.1 bH;obtain ⟨r2,j,rfl⟩:=List.mem_map.1 v;have R:=m1.rp _ j;obtain ⟨j1,t1,W,rfl⟩:=m1.rs _ j;exact vQ (λ_=>R)
   obtain ⟨p,f,k1,k2,Z,Y⟩:=key;have Q:=Ck U _ Y;have eG:=aZ (T:=T) k1 (aB.cE.1 hl).2.2.1
   -- what stands there where g does not hold does not count
   have D:∀w',bc X.P (ay ρ T st.E fr.F) (T.get g) ⟨some d,.indexAddr N x y,ty,pos,af,gd⟩ w' (.pointer (some ((⟨b,0,none⟩:Addr).add (i.toNat*m)))):=λw'=>
    BM ht C B A (λs=>anS (V s) hn.symm)
   have o:aU r K T fr st g (some d) ρ Φ (.pointer (some p)) w:=by
    refine aU.new (ρ':=f) hl b2 k1 (ec (l5 _) (JT _ _ _)) rfl (by simp only [AV.val,k2];simp [Addr.add]) ?_;show Sat (ab f T (Row.elm g st.c _::(_++st.G))++_) w;have e8:ab f T (Row.elm g st.c (dS t u (st.c+1)).1::((dS t u (st.c+1)).2.1.map (xT g)++st.G))=ab f T (.elm g st.c (dS t u (st.c+1)).1::((dS t u (st.c+1)).2.1.map (xT g)))++ab f T st.G:=by simp [ab]
    rw [e8,eG,cb];exact Q
   cases s:T.get g
   .exact ⟨_,λw'=>λn a hf I=>(by rw [s] at I;cases I),o⟩
   .obtain ⟨a,len,cap,L,_,_,S⟩:=Z s;have e3:p=(⟨b,0,none⟩:Addr).add (i.toNat*m):=by
     injection L with L _ _
     cases L;exact S
    subst e3;exact ⟨_,D,o⟩
  .cases h
 .cases h
def ajw(X:Cx)(T:aA)(fr:Fr)(st:aB)(d:Tmp)(t:TypeId)(x:Operand)(lo hi mx:Option Operand)(K:cF R):Option R:=match lo,hi,mx with
 |none,none,none=>(match gaA X T fr st none t x with
  |some q=>K { st with c:=st.c+1,E:=cJ (some d) none (.sl st.c) st.E,G:= .sli none st.c q.t q.xs false::st.G }
  |none=>none)
 |_,_,_=>none
theorem amZ{t:TypeId}{x:Operand}{lo hi g:Option Operand}(hl:st.low fr=true)(e:∀it∈X.Γ,it∈Φ)(i:Sat (ab ρ T st.G++(ab ρ T fr.H++Φ)) w)(h:ajw X T fr st d t x lo hi g K=some r):
  lW X.P T none (ay ρ T st.E fr.F) ⟨some d,.slice t x lo hi g,ty,pos,af,gd⟩ w (aU r K T fr st none (some d) ρ Φ):=by
 unfold ajw at h;split at h
 .split at h
  next q j=>obtain ⟨ht,⟨bytes,z,f⟩,a,hm,hn,c,hS⟩:=ahy e i j;rw [aA.get_none] at a;refine .none_ (bI.gd (bI.run (adw ht f c a) ?_));refine aU.push (x:={ dm with v:=(some ⟨q.b,0,none⟩,q.n,q.n) }) hl h (by simp only [AV.val,aw.bG];rfl) (i.add rfl ?_);intro _;rw [aw.bG];exact ⟨by rw [hn];exact hS,λh=>by cases h⟩
  .cases h
 .cases h
end
variable {cv : zc × AV}
def sEq(P:Program)(t:TypeId)(a b:AV):zc:=match P.underlying t with
 |some (.int _)=>(match a,b with
  | .int k x,.int k' y=>aD (jB k k') (some (x==y)) none
  |_,_=>none)
 |some .bool=>(match a,b with
  | .bool x,.bool y=>some (x==y)
  |_,_=>none)
 |some .string=>(match a,b with
  | .str x,.str y=>some (x==y)
  |_,_=>none)
 |_=>none
def fEq(P:Program):List Field->Nat->List AV->List AV->Option zm
 |[],_,l1,l2=>aD (l1.isEmpty&&l2.isEmpty) (some []) none
 |f::fs,k,l1,l2=>(match l1,l2 with
  |a::l1,b::l2=>aD (f.name != "_" &&Nat.beq f.offset k) (match sEq P f.type a b with
   |some r=>(match fEq P fs (k+1) l1 l2 with
    |some l=>some (r::l)
    |none=>none)
   |none=>none) none
  |_,_=>none)
def ZQ:Bool->zm->Bool
 |b,[]=>b
 |b,c::l=>ZQ (b&&c) l
def eqL:zm->Bool
 |[]=>true
 |b::l=>ZQ b l
theorem aba:∀{l:zm} {b:Bool},ZQ b l=(b&&l.foldr (· && ·) true)
 |[],b=>by simp [ZQ]
 |c::l,b=>by simp only [ZQ,aba,List.foldr_cons,Bool.and_assoc]
theorem apc:∀{l:zm},eqL l=l.foldr (· && ·) true
 |[]=>rfl
 |b::l=>by simp only [eqL,aba,List.foldr_cons]
def ajC(X:Cx)(T:aA)(E F:aF)(g:GK):Op->CV
 | .binOp op t x y _=>(match bu T E F g x with
  |some (.agg l1)=>(match bu T E F g y with
   |some (.agg l2)=>(match X.P.underlying t with
    |some (.struct fs)=>aD (!(X.P.eqGuardType X.P.depth t)&& !(X.P.stoodInHeld t)) (match fEq X.P fs.toList 0 l1 l2 with
     |some bs=>(match op with
      | .eql=>pv (.bool (eqL bs))
      | .neq=>pv (.bool (!(eqL bs)))
      |_=>none)
     |none=>none) none
    |_=>none)
   |_=>none)
  |_=>none)
 |_=>none
def akV(X:Cx)(T:aA)(E F:aF)(g:GK):Op->CV
 | .typeAssert x _ t true=>(match X.P.underlying t with
  |some dd=>aD (!(iz dd)) (match bu T E F g x with
   |some (.ifc t' v)=>aD (Nat.beq t' t) (pv (.tuple [v,.bool true])) (match oz X.P t with
    |some z=>pv (.tuple [.raw z.2.2,.bool false])
    |none=>none)
   |some (.raw .nilIface)=>(match oz X.P t with
    |some z=>pv (.tuple [.raw z.2.2,.bool false])
    |none=>none)
   |_=>none) none
  |none=>none)
 |_=>none
def aem(X:Cx)(T:aA)(E F:aF)(g:GK):Op->CV
 | .indexAddr t x (.const (.int _ (.ofNat j)))=>(match X.P.underlying t with
  |some (.array n e)=>(match oz X.P e with
   |some z=>(match bu T E F g x with
    |some (.ptr id off)=>aD (Nat.blt j n) (pv (.ptr id (off+j*z.1))) none
    |_=>none)
   |none=>none)
  |_=>none)
 |_=>none
def ajt(X:Cx)(T:aA)(E F:aF)(g:GK)(op:Op):CV:=match ak7 X T E F g op with
 |some cv=>some cv
 |none=>(match ajC X T E F g op with
  |some cv=>some cv
  |none=>(match akV X T E F g op with
   |some cv=>some cv
   |none=>aem X T E F g op))
section
variable {X : Cx} {T : aA} {E F : aF} {g : GK} {ρ : aw} {w : World} {dst : zh} {ty : TypeId} {pos : String} {af : zj} {gd : xb}
theorem aoT{P:Program}{t:TypeId}{a b:AV}{r:Bool}(d:Nat)(h:sEq P t a b=some r):(∃td,P.underlying t=some td/\mB td=false)/\(Op.equalIn (d+1) t (a.val ρ) (b.val ρ)).run P w= .ok r w:=by
 unfold sEq at h;split at h
 .rename_i g ht;split at h
  next k x i y=>obtain ⟨f,c⟩:=aI h;cases c;have e:=nb f;subst e;exact ⟨⟨_,ht,rfl⟩,by simp only [AV.val];exact run_equalIn_int w d t _ _ _ _ ht⟩
  .cases h
 .rename_i ht;split at h
  .cases h;exact ⟨⟨_,ht,rfl⟩,by simp only [AV.val];exact run_equalIn_bool' w d t _ _ ht⟩
  .cases h
 .rename_i ht;split at h
  .cases h;exact ⟨⟨_,ht,rfl⟩,by simp only [AV.val];exact V6 _ w d t _ _ ht⟩
  .cases h
 .cases h
theorem ahM{P:Program}{xs ys:ze}(d:Nat):∀{m:List Field} {k:Nat} {g e:List AV} {i:zm},fEq P m k g e=some i->xs.drop k=AV.aj ρ g->ys.drop k=AV.aj ρ e->
  (Op.eqFields (d+1) xs.toArray ys.toArray m).run P w= .ok (i.foldr (· && ·) true) w
 |[],k,g,e,i,h,_,_=>by
  unfold fEq at h;obtain ⟨_,c⟩:=aI h;cases c;exact am4
 |f::m,k,g,e,i,h,hx,hy=>by
  unfold fEq at h;split at h
  .rename_i a g b e;obtain ⟨j,c⟩:=aI h;simp only [an] at j;have n:=b0 j.2;split at c
   .rename_i r p;split at c
    .rename_i l hl;cases c;obtain ⟨⟨t,t1,t2⟩,o⟩:=aoT (ρ:=ρ) (w:=w) d p;simp only [AV.aj] at hx hy;have s:xs[k]? =some (a.val ρ):=by rw [<-List.head?_drop,hx];rfl
     have q:ys[k]? =some (b.val ρ):=by rw [<-List.head?_drop,hy];rfl
     refine akN j.1 (aev t1 t2 (by rw [n];exact s)) (aev t1 t2 (by rw [n];exact q)) o ?_;refine ahM d hl ?_ ?_
     .rw [<-qA,hx];rfl
     .rw [<-qA,hy];rfl
    .cases c
   .cases c
  .cases h
theorem ajG{op:Op}(h:ajC X T E F g op=some cv):oQ X.P (ay ρ T E F) ρ (T.get g) ⟨dst,op,ty,pos,af,gd⟩ w cv:=by
 unfold ajC at h;split at h
 .rename_i n t x y t';split at h
  .rename_i j hx;split at h
   .rename_i i k;split at h
    .rename_i l ht;obtain ⟨d,c⟩:=aI h;simp only [an,nA] at d;split at c
     .rename_i m e;have b:=aO (ρ:=ρ) hx;have a:=aO (ρ:=ρ) k;simp only [AV.val] at b a;have f:X.P.fieldsOf t=l:=by simp [Program.fieldsOf,ht]
      have key:(Op.equalIn 10000 t (.agg (AV.aj ρ j).toArray) (.agg (AV.aj ρ i).toArray)).run X.P w= .ok (eqL m) w:=by rw [run_equalIn_struct w 9999 t _ _ (by rw [f];exact ht) d.2,f,apc];exact ahM 9998 e rfl rfl
      split at c
      .refine .pv c (cw b a ?_);rw [Sem.run_bind,run_eqGuard_agg w _ _ _ _ _ _ d.1,Result.andThen_ok,run_eql_struct,key];simp only [AV.val,Result.andThen_ok]
      .refine .pv c (cw b a ?_);rw [Sem.run_bind,run_eqGuard_agg w _ _ _ _ _ _ d.1,Result.andThen_ok,run_neq_struct,key];simp only [AV.val,Result.andThen_ok]
      .cases c
     .cases c
    .cases h
   .cases h
  .cases h
 .cases h
theorem ak3{op:Op}(h:akV X T E F g op=some cv):oQ X.P (ay ρ T E F) ρ (T.get g) ⟨dst,op,ty,pos,af,gd⟩ w cv:=by
 unfold akV at h;split at h
 .rename_i x s t;split at h
  .rename_i dd ht;obtain ⟨i,b⟩:=aI h;have hd:iz dd=false:=by simpa using i
   split at b
   .rename_i t' v hx;have a:=aO (ρ:=ρ) hx;simp only [AV.val] at a;rcases dR b with ⟨f,c⟩|⟨f,c⟩
    .have:=b0 f;subst this;refine .pv c ?_;simp only [AV.val,AV.aj];exact Wd ht hd a
    .split at c
     next z d=>obtain ⟨n,bytes,z⟩:=z;refine .pv c ?_;simp only [AV.val,AV.aj];exact Wh (λe=>by subst e;simp at f) ht hd (cP d) a
     .cases c
   .rename_i hx;split at b
    next z d=>obtain ⟨n,bytes,z⟩:=z;have a:=aO (ρ:=ρ) hx;simp only [AV.val] at a;refine .pv b ?_;simp only [AV.val,AV.aj];exact VZ ht hd (cP d) a
    .cases b
   .cases b
  .cases h
 .cases h
theorem agx{op:Op}(h:aem X T E F g op=some cv):oQ X.P (ay ρ T E F) ρ (T.get g) ⟨dst,op,ty,pos,af,gd⟩ w cv:=by
 unfold aem at h;split at h
 .rename_i t x k j;split at h
  .rename_i n e ht;split at h
   .rename_i z l;obtain ⟨m,bytes,z⟩:=z;split at h
    .rename_i id d hx;obtain ⟨i,o⟩:=aI h;have f:=aO (ρ:=ρ) hx;simp only [AV.val] at f;refine .pv o ?_;have a:=BM (P:=X.P) (w:=w) (dst:=dst) (ty:=ty) (pos:=pos) (af:=af) (gd:=gd) (y:= .const (.int k (.ofNat j))) ht (cP l) f al.c (by intro _;rw [j6] at i;exact nc.2 ⟨Int.natCast_nonneg j,by simpa using i⟩)
     have p:((⟨(ρ id).b,d,none⟩:Addr).add ((Int.ofNat j).toNat*m))=⟨(ρ id).b,d+j*m,none⟩:=by rw [add_plain];rfl
     rw [p] at a;simpa only [AV.val] using a
    .cases h
   .cases h
  .cases h
 .cases h
theorem aiX{op:Op}(c:fL T E F)(h:ajt X T E F g op=some cv):oQ X.P (ay ρ T E F) ρ (T.get g) ⟨dst,op,ty,pos,af,gd⟩ w cv:=by
 unfold ajt at h;split at h
 next b a=>cases h;exact ajq c a
 .split at h
  next b a=>cases h;exact ajG a
  .split at h
   next b a=>cases h;exact ak3 a
   .exact agx h
end
variable {d : TypeDesc} {x : Operand}
def wN{α:Type}(xs ys:List α):List α:=ys.take xs.length++xs.drop ys.length
section
variable {P : Program} {E : Env} {w : World} {g : Bool}
variable {dst : zh} {ty : TypeId} {pos : String} {af : zj} {gd : xb}
theorem aiQ{α:Type}{A:eS α}{M:Nat->Prop}{v u:Value}{t ty e:TypeId}{bytes:Nat}{z:Value}{R:zo}(ht:P.underlying t=some (.slice e))(B:TI P e A.n bytes z)
  {xs ys:List α} (N:cf A e M w v xs R) (y:bS A M w u ys) (_hM:∀b∈R,M b):
  ∃w',(Builtin.copy_ #[t,t] ty #[v,u]).run P w= .ok (.int .i64 ((Nat.min ys.length xs.length:Nat):Int)) w'/\lE R w w'/\w'.heap.size=w.heap.size/\∀M',Mv M w M' w'->cf A e M' w' v (wN xs ys) R:=by
 obtain ⟨i,hi,hs,_,_⟩:=B.out;by_cases g:xs=[]\/ys=[]
 .have hc:wN xs ys=xs:=by unfold wN;rcases g with g|g <;> subst g <;> simp
  have hn:Nat.min ys.length xs.length=0:=by rcases g with g|g <;> subst g <;> simp
  obtain ⟨p,c,rfl,_⟩:=N.shape;obtain ⟨a,c2,rfl⟩:=y.len;refine ⟨w,?_,(Ext.refl w).vV _,rfl,λM' m=>?_⟩
  .have hl:∀a:Addr,(loadCells a 0).run P w= .ok #[] w:=λa=>run_loadCells_list (P:=P) w a [] (λj v Y=>by simp at Y);rw [hn];cases a <;> cases p <;> simp [Builtin.copy_,run_underlying ht,sizeOf,typeInfo,hi,Builtin.lenOf,Builtin.firstCells,hn,hl,storeCells,goInt]
  .rw [hc];exact N.cX (λb hb=>rfl) m
 .have hx:xs≠[]:=λh=>g (.inl h);have W:ys≠[]:=λh=>g (.inr h);obtain ⟨b,c,cur,rfl,rfl,T,r,F,K,L⟩:=N.row hx;rcases y with ⟨_,I⟩|⟨b2,k,H,G,e2,fr2,rfl,U,S,Z,X,l⟩
  .exact absurd I W
  have O:((G.toList.drop k).take (ys.length*A.n)).length=ys.length*A.n:=l.1;generalize Q:(G.toList.drop k).take (ys.length*A.n)=x at l O;have E:Nat.min ys.length xs.length<=ys.length:=Nat.min_le_left _ _;have D:Nat.min ys.length xs.length<=xs.length:=Nat.min_le_right _ _;generalize hn:Nat.min ys.length xs.length=n at E D;have m1:n*A.n<=ys.length*A.n:=gy _ E;have V:n*A.n<=xs.length*A.n:=gy _ D;have m3:xs.length*A.n<=c*A.n:=gy _ r;have d:(x.take (n*A.n)).length=n*A.n:=by rw [dk];omega
  have s:cur.toList.length=c*A.n:=by simpa using K
  have run:=uC (P:=P) (w:=w) (ty:=ty) ht B (b:=b) (o:=0) (dl:=xs.length) (dc:=c) (cur:=cur) (e':=e) (a:=⟨b2,k,none⟩) (ls:=ys.length) (sc:=H) (cs:=x.take (n*A.n))
   (by rw [d,hn]) (cell_of_heap S k _ (by rw [d,<-Q,qG,j0 m1])) T (by rw [d];omega) (λv J=>l.Ci v (tx J))
  refine ⟨_,by rw [run,hn];rfl,wV b _,by simp,λM' m=>?_⟩;have hd:wN xs ys=ys.take n++xs.drop n:=by
   unfold wN;have q:min ys.length xs.length=n:=hn;clear hn;rcases Nat.le_total ys.length xs.length with h|h
   .rw [j0 h] at q;subst q;rw [gx h,gx (c8 _)]
   .rw [Nat.min_eq_right h] at q;subst q;rw [qi h,qi (c8 _)]
  have f:(wN xs ys).length=xs.length:=by rw [hd,eP,dk,j5];omega
  have key:=(((l.take n).mv m).append ((L.drop n).mv m));have C:=setRow_heap w b cur (cur.toList.take 0++x.take (n*A.n)++cur.toList.drop (0+(x.take (n*A.n)).length)).toArray e (0,0) T;have J:Value.slice (some ⟨b,0,none⟩) xs.length c=Value.slice (some ⟨b,0,none⟩) (wN xs ys).length c:=by rw [f]
  rw [J];refine cf.mk_ C (by rw [f];exact r) F ?_ ?_
  .simp only [uc,l9,nI,qj,eP,d,j5,s];omega
  .rw [f,hd];simp only [uc,l9,nI,d];have e1:((x.take (n*A.n))++cur.toList.drop (n*A.n)).take (xs.length*A.n)=x.take (n*A.n)++(cur.toList.take (xs.length*A.n)).drop (n*A.n):=by rw [vb,d,qG,Nat.min_eq_right V,qz]
   rw [e1];simpa only [uc,l9,nI,d] using key
theorem ac0{x y:Operand}{t e:TypeId}{n m bytes:Nat}{z v:Value}{d:TypeDesc}{cs:ze}{i:Int}{k:IntKind}(ht:P.underlying t=some (.array n e))(hd:P.underlying e=some d)(b:TI P e m bytes z)
  (hx:al E g x (.agg cs.toArray)) (h:al E g y (.int k i)) (p:0<=i) (o:i<(n:Nat)) (j:(if mB d then some (.agg ((cs.drop (i.toNat*m)).take m).toArray) else cs[i.toNat*m]?)=some v):
  bc P E g ⟨dst,.index t x y,ty,pos,af,gd⟩ w v:=
 λn' a f c=>by have hp:=aae (w:=w) hd b j;obtain ⟨q,hi,l,_,_⟩:=b.out;simp [execOp,hx n' a f c,h n' a f c,Instr.index,asIntOf,run_underlying ht,sizeOf,typeInfo,hi,l,p,o,hp]
theorem aat{x y h:Operand}{p:Addr}{len m bytes:Nat}{z:Value}{t e:TypeId}{k i:IntKind}(ht:P.underlying t=some (.array len e))(b:TI P e m bytes z)(hx:al E g x (.pointer (some p)))(j:al E g y (.int k (len:Nat)))(l:al E g h (.int i (len:Nat))):
  bc P E g ⟨dst,.slice t x none (some y) (some h),ty,pos,af,gd⟩ w (.slice (some p) len len):=
 λn' a f d=>by obtain ⟨n,c,o,_,_⟩:=b.out;simp [execOp,hx n' a f d,j n' a f d,l n' a f d,Instr.sliceAt,run_underlying ht,Instr.sureAddr,Instr.sliceBounds,run_sliceBound,sizeOf,typeInfo,c,Addr.add]
theorem aek{y:Operand}{t t' u:TypeId}{v:Value}(ht:P.underlying t=some d)(hd:iz d=true)(hx:al E g x (.iface u v))(a:al E g y .nilIface):
  bc P E g ⟨dst,.binOp .neq t x y t',ty,pos,af,gd⟩ w (.bool true):=
 cw (P:=P) hx a (by
  rw [Sem.run_bind,gD rfl,Result.andThen_ok];have h:∀k:Nat,(Op.equalIn (k+1) t (.iface u v) .nilIface).run P w= .ok false w:=λk=>by cases d <;> first|(cases hd;done)|simp [Op.equalIn,run_underlying ht]
  simp only [binOp];simp [Op.equal,Op.maxDepth,h 9999])
theorem aa7{t t':TypeId}(ht:P.underlying t=some d)(hd:iz d=true)(hx:al E g x .nilIface):
  bc P E g ⟨dst,.binOp .neq t x (.const .nilIface) t',ty,pos,af,gd⟩ w (.bool false):=
 cw (P:=P) hx (y:= .const .nilIface) (v:= .nilIface) (λ_ _ _ _=>rfl) (by
  have h:∀k:Nat,(Op.equalIn (k+1) t .nilIface .nilIface).run P w= .ok true w:=λk=>by cases d <;> first|(cases hd;done)|simp [Op.equalIn,run_underlying ht]
  have a:(eqGuard .neq t x (.const .nilIface) .nilIface .nilIface).run P w= .ok () w:=by unfold eqGuard;simp
  rw [Sem.run_bind,a,Result.andThen_ok];simp only [binOp];simp [Op.equal,Op.maxDepth,h 9999])
theorem Reach.val{t:TypeId}{u:Value}{a:String}{f:FuncId}(h:Km P t a f false)(ht:P.underlying t=some d)(hd:∀e,d≠ .pointer e):Reach P w t u a f u:=λk=>by obtain ⟨i,m,hi,hm,hp,b⟩:=h.out;unfold method;simp only [typeInfo,hi,hm,hp,b,follow,Sem.run_bind,Sem.run_pure,Result.andThen_ok,run_program];cases d <;> first|exact absurd rfl (hd _)|simp [receiverAt,run_underlying ht,Place.get]
theorem aas{n:Nat}{g:Bool}{f:FuncId}{r:Operand}{it t:TypeId}{d:TypeDesc}{u u':Value}{b:String}{vs:ze}{xs:zb}{tys:Array TypeId}{dst:zh}{gd:Option (Nat×Bool)}
  (k:Enters P f) (j:al E g r (.func (.methodOf it b) #[] #[])) (bH:P.underlying it=some d) (hd:iz d=true) (hm:g=true->Reach P w t u b f u') (c:jV E g xs (.iface t u::vs)) {a:Act} (h:Fits n E a) (e:g=true):
  (execOp a.eval ⟨dst,.call ⟨.value r,xs.toArray,tys⟩,ty,pos,af,gd⟩).run P w= .ok (.enter f (u'::vs).toArray) w:=by
 have p:(Array.map a.eval xs.toArray)=(Value.iface t u::vs).toArray:=by simp [c.map h e]
 have l:=k (u'::vs).toArray w;have i:=hm e (P.types.size+99);have o:P.types.size+99+1=P.types.size+Made.depth:=rfl;rw [o] at i;have e3:((Value.iface t u::vs).toArray)[0]? =some (Value.iface t u):=by simp
 have e4:((Value.iface t u::vs).toArray).extract 1 ((Value.iface t u::vs).toArray).size=vs.toArray:=by simp
 have m:(#[u']++vs.toArray)=(u'::vs).toArray:=by simp
 cases d <;> first|(cases hd;done)|skip;simp only [execOp,resolve,j n a h e,Deferred.ofValue,p,Sem.run_bind,Sem.run_pure,Result.andThen_ok];simp only [ua,invoke,e3,e4,Sem.run_bind,run_underlying bH,Result.andThen_ok,callMethod,run_program,i,m,l]
end
def ajr(X:Cx)(T:aA)(E F:aF)(g:GK):Op->CV
 | .index t x y=>(match X.P.underlying t with
  |some (.array n e)=>(match oz X.P e with
   |some z=>(match bu T E F g x with
    |some (.agg cs)=>(match bu T E F g y with
     |some (.int _ i)=>aD (decide (0<=i)&&decide (i<(n:Int))) (match mX X.P e (cs.drop (i.toNat*z.1)) with
      |some v=>pv v
      |none=>none) none
     |_=>none)
    |_=>none)
   |none=>none)
  |_=>none)
 | .binOp .neq t x (.const .nilIface) _=>(match X.P.underlying t with
  |some d=>aD (iz d) (match bu T E F g x with
   |some (.ifc _ _)=>pv (.bool true)
   |some (.raw .nilIface)=>pv (.bool false)
   |_=>none) none
  |none=>none)
 | .makeFunc (.methodOf t nm) ⟨[]⟩ ⟨[]⟩=>pv (.raw (.func (.methodOf t nm) #[] #[]))
 |_=>none
section
variable {X : Cx} {ρ : aw} {T : aA} {E F : aF} {g : GK} {w : World} {dst : zh} {ty : TypeId} {pos : String} {af : zj} {gd : xb}
theorem ajp{op:Op}(h:ajr X T E F g op=some cv):oQ X.P (ay ρ T E F) ρ (T.get g) ⟨dst,op,ty,pos,af,gd⟩ w cv:=by
 unfold ajr at h;split at h
 .rename_i t x y;split at h
  .rename_i n e ht;split at h
   .rename_i z q;obtain ⟨m,bytes,z⟩:=z;split at h
    .rename_i cs hx;split at h
     .rename_i k i r;obtain ⟨f,b⟩:=aI h;simp only [an,gj] at f;split at b
      .rename_i v s;obtain ⟨d,n',p,C,c1,B,o⟩:=pI (ρ:=ρ) s;have a:=aO (ρ:=ρ) hx;have j:=aO (ρ:=ρ) r;simp only [AV.val] at a j;have c:=cP q;refine .pv b (ac0 ht c1 c a j f.1 f.2 ?_);cases hd:mB d
       .rw [hd] at o;exact o
       .rw [hd] at o;have l:=B hd;unfold TI at l c;rw [c] at l;simp only [et,q8] at l;have A:m=n':=l.1;subst A;exact o
      .cases b
     .cases h
    .cases h
   .cases h
  .cases h
 .split at h
  .rename_i d ht;obtain ⟨f,b⟩:=aI h;split at b
   next u v hx=>have a:=aO (ρ:=ρ) hx;simp only [AV.val] at a;exact .pv b (aek ht f a (λ_ _ _ _=>rfl))
   next hx=>have a:=aO (ρ:=ρ) hx;simp only [AV.val] at a;exact .pv b (aa7 ht f a)
   .cases b
  .cases h
 .exact .pv h (LK (first:=[]) (cap:=[]) .nil .nil)
 .cases h
end
def ah7(X:Cx)(T:aA)(E F:aF)(g:GK):Op->CV
 | .binOp .eql t x y _=>(match X.P.underlying t with
  |some (.pointer _)=>(match bu T E F g x with
   |some (.sfp _ f)=>(match bu T E F g y with
    |some (.raw (.pointer none))=>pv (.bool (!f))
    |_=>none)
   |_=>none)
  |_=>none)
 | .binOp .neq t x y _=>(match X.P.underlying t with
  |some (.pointer e)=>(match oz X.P e with
   |some _=>(match bu T E F g x with
    |some (.sfp j f)=>(match bu T E F g y with
     |some (.ptr j' 0)=>aD (Nat.beq j j') (pv (.bool (!f))) none
     |_=>none)
    |_=>none)
   |none=>none)
  |_=>none)
 | .call ⟨.value (.func f),⟨[x]⟩,_⟩=>aD (vn f X.ids) (match bu T E F g x with
  |some v=>pv v
  |none=>none) none
 |_=>none
def aki(X:Cx)(T:aA)(E F:aF)(G H:List Row)(g:GK):Op->CV
 | .convert s d x=>(match bu T E F g x with
  |some (.ptr j 0)=>(match eo G H (yW j) with
   |some (_,.box _ e' cs)=>(match X.P.underlying s with
    |some (.pointer e)=>(match X.P.underlying d with
     |some .unsafePointer=>(match oz X.P e with
      |some z=>aD (Nat.blt 0 z.1&&Nat.blt 0 cs.length) (pv (.ptr j 0)) none
      |none=>none)
     |_=>none)
    |some .unsafePointer=>(match X.P.underlying d with
     |some (.pointer e)=>(match oz X.P e with
      |some _=>aD (liesAt X.P X.P.depth e' (cs.length/X.P.cellsOf e') 0 e 1) (pv (.ptr j 0)) none
      |none=>none)
     |_=>none)
    |_=>none)
   |_=>none)
  |_=>none)
 |_=>none
def afu(X:Cx)(T:aA)(E F:aF)(g:GK)(op:Op):CV:=match ajt X T E F g op with
 |some cv=>some cv
 |none=>(match ajr X T E F g op with
  |some cv=>some cv
  |none=>ah7 X T E F g op)
def adx(X:Cx)(T:aA)(E F:aF)(G H:List Row)(g:GK)(op:Op):CV:=match alf X T E F G H g op with
 |some cv=>some cv
 |none=>aki X T E F G H g op
abbrev apG(xs ys:zn):zn:=xs++ys
def adQ{R:Type}(X:Cx)(T:aA)(fr:Fr)(st:aB)(d:Tmp)(t u:TypeId)(x y:Operand)(K:cF R):Option R:=match iR X.P t with
 |some e=>(match oz X.P e with
  |some (1,1,.int .u8 (.ofNat 0))=>aD (isStr X.P u) (match bu T st.E fr.F none y with
   |some (.str s)=>(match bu T st.E fr.F none x with
    |some (.sl id)=>(match eo st.G fr.H (oV id) with
     |some (.top j,.own _ u' e' xs _)=>aD (Nat.beq e e') (match ug.ck.asL (.i .u8) ⟨.l u',xs⟩ with
      |some xs=>aM (aH (List.length xs+s.length) 1) (K { st with c:=st.c+1,E:=cJ (some d) none (.sl st.c) st.E,G:=st.G.set j (.own st.c (.i .u8) e (apG xs (aP s)) st.c) })
      |none=>none) none
     |_=>none)
    |some (.raw (.slice none 0 0))=>aM (aH (([]:zn).length+s.length) 1) (K { st with c:=st.c+1,E:=cJ (some d) none (.sl st.c) st.E,G:= .own st.c (.i .u8) e (([]:zn)++aP s) st.c::st.G })
    |_=>none)
   |_=>none) none
  |_=>none)
 |none=>none
section
variable {X : Cx} {T : aA} {E F : aF} {G H : List Row} {g : GK} {ρ : aw} {w : World} {dst : zh} {ty : TypeId} {pos : String} {af : zj} {gd : xb} {Φ : Ctx}
theorem aik{op:Op}(h:ah7 X T E F g op=some cv):oQ X.P (ay ρ T E F) ρ (T.get g) ⟨dst,op,ty,pos,af,gd⟩ w cv:=by
 unfold ah7 at h;split at h
 .rename_i t x y s;split at h
  .rename_i e ht;split at h
   .rename_i j f hx;split at h
    next d=>have b:=aO (ρ:=ρ) hx;have a:=aO (ρ:=ρ) d;simp only [AV.val] at b a;exact .pv h (ad2 ht b a)
    .cases h
   .cases h
  .cases h
 .rename_i t x y s;split at h
  .rename_i e ht;split at h
   .rename_i z k;obtain ⟨n,bytes,z⟩:=z;split at h
    .rename_i j f hx;split at h
     next l d=>obtain ⟨i,c⟩:=aI h;have:=b0 i;subst this;have b:=aO (ρ:=ρ) hx;have a:=aO (ρ:=ρ) d;simp only [AV.val] at b a;exact .pv c (afc ht (cP k) b a)
     .cases h
    .cases h
   .cases h
  .cases h
 .rename_i f x tys;obtain ⟨i,c⟩:=aI h;split at c
  next v hx=>exact .pv c (ai1 (X.idsOk f (YH.1 i)) (aO (ρ:=ρ) hx))
  .cases c
 .cases h
theorem aiq{op:Op}(o:Sat (ab ρ T G++(ab ρ T H++Φ)) w)(h:aki X T E F G H g op=some cv):oQ X.P (ay ρ T E F) ρ (T.get g) ⟨dst,op,ty,pos,af,gd⟩ w cv:=by
 unfold aki at h;split at h
 .rename_i s d x;split at h
  .rename_i j hx;split at h
   .rename_i t m e' cs p;obtain ⟨r,q⟩:=bW p;have:m=j:=b0 q;subst this;have hb:gf w (ρ m).b e' (AV.aj ρ cs):=Src.holds o r;have a:=aO (ρ:=ρ) hx;simp only [AV.val] at a;split at h
    .rename_i e c;split at h
     .rename_i f;split at h
      next z k=>obtain ⟨n,bytes,z⟩:=z;obtain ⟨i,l⟩:=aI h;simp only [an] at i;refine .pv l ?_;simp only [AV.val];exact WJ c f (cP k) i.1 a hb (by rw [AV.bD];exact i.2)
      .cases h
     .cases h
    .rename_i c;split at h
     .rename_i e f;split at h
      next z k=>obtain ⟨n,bytes,z⟩:=z;obtain ⟨i,l⟩:=aI h;refine .pv l ?_;simp only [AV.val];exact Rx c f (cP k) a hb (by rw [AV.bD];exact i)
      .cases h
     .cases h
    .cases h
   .cases h
  .cases h
 .cases h
theorem YP{op:Op}(c:fL T E F)(h:afu X T E F g op=some cv):oQ X.P (ay ρ T E F) ρ (T.get g) ⟨dst,op,ty,pos,af,gd⟩ w cv:=by
 unfold afu at h;split at h
 next b a=>cases h;exact aiX c a
 .split at h
  next b a=>cases h;exact ajp a
  .exact aik h
theorem XI{op:Op}(b:Sat (ab ρ T G++(ab ρ T H++Φ)) w)(h:adx X T E F G H g op=some cv):oQ X.P (ay ρ T E F) ρ (T.get g) ⟨dst,op,ty,pos,af,gd⟩ w cv:=by
 unfold adx at h;split at h
 next c a=>cases h;exact aja b a
 .exact aiq b h
end
section
variable {X : Cx} {R : Type} {r : R} {K : cF R} {T : aA} {fr : Fr} {st : aB} {d : Tmp} {ρ : aw} {Φ : Ctx} {w : World} {ty : TypeId} {pos : String} {af : zj} {gd : xb}
theorem Lv{P:Program}{E:Env}{M:Nat->Prop}{v:Value}{y:Operand}{t u e:TypeId}{R:zo}{xs:zn}{s:aE}(ht:P.underlying t=some (.slice e))(n:P.underlying u=some .string)(h:TI P e 1 1 (.int .u8 0))(hx:al E true x v)(k:al E true y (S s))
  (j:cf (RI .u8) e M w v xs R) (r:∀b∈R,M b) (c:aH (xs.length+s.length) 1=true):
  ∃f R' w',om P E ⟨some d,.call ⟨.builtin .append,#[x,y],#[t,u]⟩,ty,pos,af,gd⟩ w f w'/\lE R w w'/\(∀b∈R',b<w'.heap.size/\(b∈R\/w.heap.size<=b))/\∀M',Mv M w M' w'->cf (RI .u8) e M' w' f (xs++aP s) R':=by
 rcases j with ⟨rfl,p⟩|⟨rfl,rfl,⟨a0,rfl⟩,l⟩
 .obtain ⟨f,w',i,hC,q,j⟩:=wQ t u ty e ht n h p r c;exact ⟨f,dL f,w',(λn' a g=>by simp [execOp,resolve,invoke,builtin,hx n' a g rfl,k n' a g rfl,i]),hC,q,λM' m=>cf.of (j M' m)⟩
 .rcases Bc (M:=M) (w:=w) t u ty e ht n h (a0:=a0) (s:=s) (by simpa using c) with ⟨i,rfl⟩|⟨f,w',i,z,o,j⟩
  .exact ⟨.slice a0 0 0,[],w,(λn' a g=>by simp [execOp,resolve,invoke,builtin,hx n' a g rfl,k n' a g rfl,i]),(Ext.refl w).vV _,(λb hb=>by cases hb),λM' m=>by simpa [aP] using cf.empty (e:=e) (l.mv m)⟩
  .exact ⟨f,dL f,w',(λn' a g=>by simp [execOp,resolve,invoke,builtin,hx n' a g rfl,k n' a g rfl,i]),z.vV _,(λb hb=>⟨(o b hb).1,.inr (o b hb).2⟩),λM' m=>cf.of (by simpa using j M' m)⟩
theorem aiC{t u:TypeId}{y:Operand}(hl:st.low fr=true)(N:Sat (ab ρ T st.G++(ab ρ T fr.H++Φ)) w)(h:adQ X T fr st d t u x y K=some r):
  lW X.P T none (ay ρ T st.E fr.F) ⟨some d,.call ⟨.builtin .append,#[x,y],#[t,u]⟩,ty,pos,af,gd⟩ w (aU r K T fr st none (some d) ρ Φ):=by
 have B:=(aB.cE.1 hl).2.2.1;unfold adQ at h;split at h
 .rename_i e V;split at h
  .rename_i hz;have z:TI X.P e 1 1 (.int .u8 0):=cP hz;obtain ⟨hu,h⟩:=aI h;have q:=sY hu;split at h
   .rename_i s hy;have k:=bK (ρ:=ρ) hy;simp only [AV.val] at k;split at h
    .rename_i id hx;have g:=bK (ρ:=ρ) hx;simp only [AV.val] at g;split at h
     .rename_i j J u' e' C Z hf;obtain ⟨h3,U⟩:=aI h;have:=b0 h3;subst this;split at U
      .rename_i xs L;obtain ⟨eu,ex⟩:=sd L;subst eu;simp only at ex;subst ex;obtain ⟨S,R⟩:=iS U;obtain ⟨Y,f2⟩:=bW hf;have:J=id:=b0 f2;subst this;have hi:=ik (ρ:=ρ) (T:=T) (Φ:=ab ρ T fr.H++Φ) Y;obtain ⟨hO,_⟩:=N.at_ hi;obtain ⟨D,R',w',O,hC,Q,A⟩:=Lv (P:=X.P) (E:=ay ρ T st.E fr.F) (w:=w) (d:=d) (ty:=ty) (pos:=pos) (af:=af) (gd:=none) (cq V) q z g k hO (λb hb=>Ctx.kG hi hb) S;have I:Mv (Ctx.M (ab ρ T st.G++(ab ρ T fr.H++Φ))) w (Ctx.M (ab ρ T st.G++(ab ρ T fr.H++Φ))) w':=⟨hC.size,λb hb hn=>⟨hn,hC.block b hb (λhc=>hn (Ctx.kG hi hc))⟩⟩;have f:=A _ I;have n:∃p:ju,D=sl p:=by obtain ⟨a,cap,n⟩:=f.len;exact ⟨(a,_,cap),n⟩
       obtain ⟨p,rfl⟩:=n;have hj:j<st.G.length:=(List.getElem?_eq_some_iff.1 Y).1;refine .none_ (bI.gd (bI.ru O (aU.new (ρ':=ρ.set st.c { dm with v:=p,y:=⟨.l (.i .u8),apG C (aP s)⟩ }) hl R aw.aX (l5 _) rfl (by simp only [AV.val,aw.bG]) ?_)));show Sat (ab _ T (st.G.set j _)++_) _;rw [fV hj,aZ aw.aX B];refine N.lJ hi hC (λb hb=>?_) (λM' m _=>?_)
       .simp only [Row.item,aw.bG] at hb;exact Q b (f.canon.1 b hb)
       .simp only [Row.item,aw.bG];exact ⟨f.canon.2 _ _ (A M' m),trivial⟩
      .cases U
     .cases h
    .rename_i hx;have g:=bK (ρ:=ρ) hx;simp only [AV.val] at g;obtain ⟨S,R⟩:=iS h;obtain ⟨D,R',w',O,hC,Q,A⟩:=Lv (P:=X.P) (E:=ay ρ T st.E fr.F) (w:=w) (d:=d) (ty:=ty) (pos:=pos) (af:=af) (gd:=none) (M:=Ctx.M (ab ρ T st.G++(ab ρ T fr.H++Φ))) (xs:=([]:zn)) (cq V) q z g k cf.nil (λb hb=>by cases hb) S;have W:Ext w w':=⟨hC.os,hC.tape,hC.output,hC.size,λb hb=>hC.block b hb (λh=>by cases h)⟩;have f:=A _ (W.mv _);have n:∃p:ju,D=sl p:=by obtain ⟨a,cap,n⟩:=f.len;exact ⟨(a,_,cap),n⟩
     obtain ⟨p,rfl⟩:=n;refine .none_ (bI.gd (bI.ru O ?_));exact yF (d:=d) (t:= .i .u8) (e:=e) (p:=p) hl B N W (λb hb=>by
      obtain ⟨q1,o⟩:=Q b (f.canon.1 b hb);rcases o with o|o
      .cases o
      .exact ⟨q1,o⟩) (λM' m=>f.canon.2 _ _ (A M' m)) rfl R
    .cases h
   .cases h
  .cases h
 .cases h
def Wp{R:Type}(T:aA)(fr:Fr)(st:aB)(d:Tmp)(x:Operand)(K:cF R):Option R:=match bu T st.E fr.F none x with
 |some (.sl id)=>(match eo st.G fr.H (oV id) with
  |some (_,.own _ t _ l ver)=>aot T none st d id ver t l 0 K
  |_=>none)
 |_=>none
def aeF{R:Type}(X:Cx)(T:aA)(fr:Fr)(st:aB)(d:Tmp)(pt:TypeId)(x y:Operand)(K:cF R):Option R:=match X.P.underlying pt with
 |some (.pointer e)=>aD (Nat.beq (X.P.cellsOf e) 1) (match bu T st.E fr.F none x with
  |some (.adr q 0)=>(match bu T st.E fr.F none y with
   |some (.int .i64 m)=>(match eo st.G fr.H (Pm q) with
    |some (_,.kn none _ id ver _ i _)=>(match eo st.G fr.H (oV id) with
     |some (.top j,.own _ u e' xs ver')=>aD (Nat.beq ver ver'&&Nat.beq e e') (match ug.ck.asL (.i .u8) ⟨.l u,xs⟩ with
      |some xs=>aM (decide (i=0)&&decide (m=(List.length xs:Int))) (K { st with E:=cJ (some d) none (.str (strOf xs)) st.E,G:=st.G.set j (.sli none id (.i .u8) xs false) })
      |none=>none) none
     |_=>none)
    |_=>none)
   |_=>none)
  |_=>none) none
 |_=>none
theorem cf.ahN{α:Type}{A:eS α}{e:TypeId}{M:Nat->Prop}{w:World}{v:Value}{xs:List α}{R:zo}(h:cf A e M w v xs R)(a:xs≠[]):Roomy v:=by
 rcases h with ⟨_,cells,c,_⟩|⟨_,rfl,_⟩
 .rcases c.2 with ⟨_,b⟩|⟨g,cap,cur,rfl,_,_,d,_⟩
  .exact absurd (ej b) a
  .obtain ⟨k,rfl⟩:∃k,cap=k+1:=⟨cap-1,by have:=List.length_pos_iff.2 a;omega⟩;exact ⟨g,_,k,rfl⟩
 .exact absurd rfl a
theorem Vu{v:ju}{n:Nat}(h:Roomy (sl v)):v.1=some (tW (sl v) 0 n):=by obtain ⟨b,len,cap,e⟩:=h;obtain ⟨d,c,a⟩:=v;simp only [sl,Value.slice.injEq] at e;obtain ⟨rfl,rfl,rfl⟩:=e;simp [sl,tW,Addr.add]
theorem af0{α:Type}{l:List α}{i:Int}{x:α}(h:idx l i=some x):l≠[]:=λe=>by subst e;unfold idx at h;split at h <;> cases h
theorem Z1{y:Array TypeId}(hl:st.low fr=true)(q:Sat (ab ρ T st.G++(ab ρ T fr.H++Φ)) w)(h:Wp T fr st d x K=some r):
  NT X.P T none (ay ρ T st.E fr.F) ⟨some d,.call ⟨.builtin .unsafeSliceData,#[x],y⟩,ty,pos,af,gd⟩ w (aU r K T fr st none (some d) ρ Φ):=by
 unfold Wp at h;split at h
 .rename_i id hx;have i:=bK (ρ:=ρ) hx;simp only [AV.val] at i;split at h
  .rename_i s b t e' l f z;obtain ⟨m,B⟩:=bW z;have:b=id:=b0 B;subst this;obtain ⟨D,o,C⟩:=Bx h;have o:=o aA.get_none;obtain ⟨A,p⟩:=Src.holds q m;have e:b<st.c/\f<st.c:=by
    have:(Row.own b t e' l f).low st.c=true:=by
     cases s with
     |top j=>exact tN (aB.cE.1 hl).2.2.1 m
     |cu j=>exact tN (aB.cE.1 hl).2.2.2 m
     |_=>exact m.elim
    simpa only [Row.low,an,j6] using this
   have u:=A.ahN (af0 o);have k:aU r K T fr st none (some d) ρ Φ (.pointer (some (tW (sl (ρ b).v) 0 t.rep.n))) w:=by refine aU.push (x:={ dm with a:=tW (sl (ρ b).v) 0 t.rep.n }) hl C (by simp only [AV.val,aw.bG];simp [Addr.add]) (q.add rfl ?_);intro I;rw [aw.aX _ e.1,aw.aX _ e.2,aw.bG];exact ⟨l,p,o,rfl⟩
   refine ⟨_,λw'=>?_,k⟩;rw [<-Vu u];rw [aA.get_none];exact ahf (g:=true) i (λ_=>u)
  .cases h
 .cases h
theorem ah9{P:Program}{E:Env}{v:ju}{y:Operand}{C it e:TypeId}{M:Nat->Prop}{R:zo}{xs:zn}(Z:cf (RI .u8) e M w (sl v) xs R)(hp:P.underlying C=some (.pointer e))(O:P.cellsOf e=1)
  (hx:al E true x (.pointer v.1)) (V:al E true y (.int .i64 (xs.length:Int))) (T:xs≠[]):
  ∃w',om P E ⟨some d,.call ⟨.builtin .unsafeString,#[x,y],#[C,it]⟩,ty,pos,af,gd⟩ w (S (strOf xs)) w'/\lE R w w'/\∀M',Mv M w M' w'->(∀b∈R,¬M' b)->bS (RI .u8) M' w' (sl v) xs:=by
 have f:xs.length≠0:=λe=>T (ej e);rcases Z with ⟨Y,cells,⟨h1,h2⟩,L⟩|⟨_,rfl,_⟩
 .rcases h2 with ⟨_,U⟩|⟨g,cap,cur,Q,hg,H,h,hm,z,p⟩
  .exact absurd U f
  .obtain ⟨v1,v2,K⟩:=v;simp only [sl,Value.slice.injEq] at Q;obtain ⟨rfl,rfl,rfl⟩:=Q;have D:(RI .u8).n=1:=rfl;have t:cur.size=K:=by simpa [D] using z
   have pr:w.shape? g=some (e,cur.size):=by unfold World.shape?;rw [H]
   have o:∀(j:Nat) (a:Int),xs[j]? =some a->w.cell? ((⟨g,0,none⟩:Addr).add j)=some (.int .u8 a):=λj a k=>by
    have G:=(List.getElem?_eq_some_iff.1 k).1;have hA:=L.2 j G;have ha:xs[j]=a:=(List.getElem?_eq_some_iff.1 k).2;have I:cells[j]? =some (.int .u8 a):=by
     have e1:(cells.drop (j*1)).take 1=[.int .u8 a]:=by rw [<-ha];exact hA
     have e2:=congrArg (λl=>l[0]?) e1;simpa using e2
    have key:bL w ⟨g,0,none⟩ cells:=⟨rfl,cur,e,(0,0),H,λj u k=>by
     rw [<-p,ql] at k;split at k
     .simpa using k
     .cases k⟩
    exact key.cell I
   have X:xs.length<=9223372036854775807:=by unfold maxLen at hm;omega
   have q:(Builtin.unsafeString_ #[C,it] ty #[.pointer (some ⟨g,0,none⟩),.int .i64 xs.length]).run P w= .ok (S (strOf xs)) (w.freeze ⟨g,0,none⟩ xs.length):=by
    have F:=Hn (P:=P) (w:=w) xs ⟨g,0,none⟩ .empty o;have i:=Lib.liesAt_bytes (P:=P) O (cur.size/P.cellsOf e) xs.length (by rw [O,t];simpa using h);have B:¬(9223372036854775807:Int)<(xs.length:Int):=by omega
    have s:i64.max=9223372036854775807:=rfl;have r:¬(xs.length:Int)<0:=by omega
    refine (Sem.run_bind (P:=P) (w:=w) (asInt (.int .i64 xs.length)) _).trans ?_;simp [asInt,asIntOf,s,B,r,f,variablesAt,pr,elemOf,run_underlying hp,i,F,S]
   have W:(w.freeze ⟨g,0,none⟩ xs.length).heap[g]? =some (.cells cur e (0,xs.length)):=by unfold World.freeze;rw [df f];simp [v7,H]
   have A:R=[g]:=by rw [Y];simp [dL,Value.ownBlock,sl]
   refine ⟨w.freeze ⟨g,0,none⟩ xs.length,λn' a N=>by simp [execOp,resolve,invoke,builtin,hx n' a N rfl,V n' a N rfl,q],?_,λM' m hb=>?_⟩
   .rw [A];unfold World.freeze;rw [df f];refine ⟨rfl,rfl,rfl,by simp,λc _ J=>?_⟩;have:g≠c:=λe=>J (by simp [e]);simp [v7,this]
   .refine .inr ⟨g,0,K,cur,e,_,rfl,hb g (by rw [A];simp),W,h,by rw [nI];exact Nat.le_of_eq z.symm,?_⟩;rw [p5,p];exact L.mv m
 .exact absurd rfl T
theorem aj3{y:Operand}{I it:TypeId}(_hl:st.low fr=true)(s:Sat (ab ρ T st.G++(ab ρ T fr.H++Φ)) w)(h:aeF X T fr st d I x y K=some r):
  lW X.P T none (ay ρ T st.E fr.F) ⟨some d,.call ⟨.builtin .unsafeString,#[x,y],#[I,it]⟩,ty,pos,af,gd⟩ w (aU r K T fr st none (some d) ρ Φ):=by
 unfold aeF at h;split at h
 .rename_i e hp;obtain ⟨z,h⟩:=aI h;have z:=b0 z;split at h
  .rename_i q hx;have f:=bK (ρ:=ρ) hx;simp only [AV.val] at f;split at h
   .rename_i m Q;have c:=bK (ρ:=ρ) Q;simp only [AV.val] at c;split at h
    .rename_i s1 q' id O u1 i xe t;obtain ⟨f1,f2⟩:=bW t;have:q'=q:=b0 f2;subst this;have W:=Src.holds s f1;split at h
     .rename_i j a u e' N D U;obtain ⟨M,Z⟩:=bW U;have:a=id:=b0 Z;subst this;obtain ⟨C,B⟩:=aI h;simp only [an] at C;have e1:=b0 C.1;have e2:=b0 C.2;subst e1;subst e2;split at B
      .rename_i xs o;obtain ⟨eu,ex⟩:=sd o;subst eu;subst ex;obtain ⟨L,Y⟩:=iS B;simp only [an,gj] at L;obtain ⟨rfl,rfl⟩:=L;have hi:=ik (ρ:=ρ) (T:=T) (Φ:=ab ρ T fr.H++Φ) M;obtain ⟨J,l⟩:=s.at_ hi;obtain ⟨l0,b1,b2,b3⟩:=W aA.get_none;obtain ⟨e4,e5⟩:=Mj b1 l;cases e4;cases e5;have k:=af0 b2;have R:=J.ahN k;have p:al (ay ρ T st.E fr.F) true x (.pointer (ρ a).v.1):=by rw [Vu (n:=(Ty.i .u8).rep.n) R,<-b3];simpa [Addr.add] using f
       obtain ⟨w',g,hC,V⟩:=ah9 (P:=X.P) (d:=d) (ty:=ty) (pos:=pos) (af:=af) (gd:=gd) (it:=it) J hp z p c k;have S:j<st.G.length:=(List.getElem?_eq_some_iff.1 M).1;refine .none_ (bI.gd (bI.ru g (aU.kQ Y (c8 _) rfl rfl ?_)));show Sat (ab _ T (st.G.set j _)++_) _;rw [fV S];exact s.lJ hi hC (λb hb=>by cases hb) (λM' m hb _=>⟨V M' m (λb A=>hb b A (λh=>by cases h)),λh=>by cases h⟩)
      .cases B
     .cases h
    .cases h
   .cases h
  .cases h
 .cases h
def adW{R:Type}(X:Cx)(T:aA)(fr:Fr)(st:aB)(g:GK)(d:Tmp)(t:TypeId)(x:Operand)(K:cF R):Option R:=match iR X.P t with
 |some _=>(match bu T st.E fr.F g x with
  |some (.sl id)=>(match UI st.G fr.H id with
   |some s=>aD (T.imp g s.g) (K { st with E:=cJ (some d) g (.int .i64 (s.l.length:Int)) st.E }) none
   |none=>none)
  |_=>none)
 |none=>none
theorem ak8{g:GK}{t:TypeId}(c:Sat (ab ρ T st.G++(ab ρ T fr.H++Φ)) w)(h:adW X T fr st g d t x K=some r):
  NT X.P T g (ay ρ T st.E fr.F) ⟨some d,.call ⟨.builtin .len,#[x],#[t]⟩,ty,pos,af,gd⟩ w (aU r K T fr st g (some d) ρ Φ):=by
 unfold adW at h;split at h
 .rename_i e i;split at h
  .rename_i id hx;have a:=aO (ρ:=ρ) hx;simp only [AV.val] at a;split at h
   next s b=>obtain ⟨k,j⟩:=aI h;exact ⟨_,λw'=>pz (cq i) a (λf=>Sw c b (aA.my k f)),aU.kQ j (c8 _) rfl rfl c⟩
   .cases h
  .cases h
 .cases h
end
abbrev gone{R:Type}(g:GK)(k:Option R):Option R:=match g with
 |none=>k
 |some _=>none
theorem dC{R:Type}{r:R}{g:GK}{k:Option R}(h:gone g k=some r):g=none/\k=some r:=by
 cases g with
 |none=>exact ⟨rfl,h⟩
 |some _=>cases h
def adj{R:Type}(X:Cx)(T:aA)(fr:Fr)(st:aB)(d:zh)(t:TypeId)(x y:Operand)(K:cF R):Option R:=match iR X.P t with
 |some e=>(match Bs X.tys e with
  |some u=>(match oz X.P e with
   |some z=>(match bu T st.E fr.F none x with
    |some (.sl id)=>(match bu T st.E fr.F none y with
     |some b=>aD (Nat.beq z.1 u.n') (match ug (cu b.fg st.G) fr.H u b with
      |some ys=>(match eo (cu b.fg st.G) fr.H (oV id) with
       |some (.top j,.own _ u' e' xs _)=>aD (Nat.beq e e') (match ug.ck.asL u ⟨.l u',xs⟩ with
        |some xs=>K { st with c:=st.c+1,E:=cJ d none (.int .i64 ((Nat.min ys.length xs.length:Nat):Int)) st.E,G:=(cu b.fg st.G).set j (.own id u e (wN xs ys) st.c) }
        |none=>none) none
       |_=>none)
      |none=>none) none
     |none=>none)
    |_=>none)
   |none=>none)
  |none=>none)
 |none=>none
def inO(n d:Nat):List (Nat×Nat)->Bool
 |[]=>false
 |x::l=>(Nat.beq x.1 n&&Nat.beq x.2 d)||inO n d l
def afl{R:Type}(X:Cx)(T:aA)(fr:Fr)(st:aB)(d:Tmp)(t:TypeId)(x:Operand)(hi:Option Operand)(K:cF R):Option R:=match iR X.P t with
 |some e=>(match oz X.P e with
  |some z=>(match bu T st.E fr.F none x with
   |some (.sl id)=>(match NC T st.E fr.F none hi with
    |some j=>(match eo st.G fr.H (oV id) with
     |some (.top k,.own _ u e' xs _)=>aD (Nat.beq z.1 u.n') (aM (cR 0 (j.getD (xs.length:Int)) xs.length) (K { st with c:=st.c+1,E:=cJ (some d) none (.sl st.c) st.E,G:=st.G.set k (.own st.c u e' (aT xs 0 (j.getD (xs.length:Int))) st.c) })) none
     |_=>none)
    |none=>none)
   |_=>none)
  |none=>none)
 |none=>none
def aiB{R:Type}(X:Cx)(T:aA)(fr:Fr)(st:aB)(d:Tmp)(t:TypeId)(x:Operand)(lo hi mx:Option Operand)(K:cF R):Option R:=match lo,hi,mx with
 |none,some y,some y3=>(match X.P.underlying t with
  |some (.array n e)=>(match Bs X.tys e with
   |some u=>(match oz X.P e with
    |some z=>(match bu T st.E fr.F none x with
     |some (.ptr id 0)=>(match bu T st.E fr.F none y with
      |some (.int _ h)=>(match bu T st.E fr.F none y3 with
       |some (.int _ m)=>(match rS (yW id) st.G with
        |some (j,.box _ _ cs)=>aD ((h==(n:Int))&&(m==(n:Int))&&Nat.beq z.1 u.n') (match Xn st.G fr.H u n cs with
         |some xs=>K { st with c:=st.c+1,E:=cJ (some d) none (.sl st.c) st.E,G:=st.G.set j (.sli none st.c u xs true) }
         |none=>none) none
        |_=>none)
       |_=>none)
      |_=>none)
     |_=>none)
    |none=>none)
   |none=>none)
  |_=>none)
 |_,_,_=>none
def aes(X:Cx)(T:aA)(fr:Fr)(st:aB)(d:Tmp)(t:TypeId)(x y:Operand){R:Type}(K:cF R):Option R:=match X.P.underlying t with
 |some (.array n e)=>(match oz X.P e with
  |some z=>(match bu T st.E fr.F none x with
   |some (.adr id off)=>(match bu T st.E fr.F none y with
    |some (.int _ i)=>ac2 i z.1 (λk=>K { st with E:=cJ (some d) none (.adr id (off+k)) st.E }) n 0
    |_=>none)
   |some (.ptr id off)=>(match bu T st.E fr.F none y with
    |some (.int _ i)=>ac2 i z.1 (λk=>K { st with E:=cJ (some d) none (.ptr id (off+k)) st.E }) n 0
    |_=>none)
   |_=>none)
  |none=>none)
 |_=>none
def aez(P:Program)(t:TypeId)(nm:String):Option (FuncId×Bool):=match P.info? t with
 |some i=>(match i.methods.find? (·.name==nm) with
  |some m=>(match m.path.toList with
   |[]=>m.func
   |_=>none)
  |none=>none)
 |none=>none
def aoU:TypeDesc->Bool
 | .pointer _=>true
 |_=>false
def HH(X:Cx)(T:aA)(fr:Fr)(st:aB)(g:GK)(t:TypeId)(u:AV)(nm:String):Option (FuncId×AV):=match aez X.P t nm with
 |some (f,true)=>(match X.P.underlying t with
  |some (.pointer _)=>some (f,u)
  |_=>none)
 |some (f,false)=>(match X.P.underlying t with
  |some (.pointer e)=>(match An T st.G fr.H g u with
   |some cs=>(match mX X.P e cs with
    |some v=>some (f,v)
    |none=>none)
   |none=>none)
  |some d=>aD (aoU d) none (some (f,u))
  |none=>none)
 |none=>none
def Wx:List UO->FuncId->Option UO
 |[],_=>none
 |i::l,f=>match Nat.beq i.f f with
  |true=>some i
  |false=>Wx l f
def akr{R:Type}(X:Cx)(T:aA)(fr:Fr)(st:aB)(g:GK)(d:zh)(f:FuncId)(args:List AV)(K:cF R)(els:Option R):Option R:=match Wx X.inl f with
 |none=>els
 |some i=>(match T with
  |[]=>gone g (i.run args fr.H st (λav st'=>K { st' with E:=cJ d none av st.E,h:=st.h }))
  |_::_=>none)
def byT{R:Type}(k:TypeId->Option R)(t:TypeId):List TypeId->Option R
 |[]=>none
 |c::cs=>cond (Nat.beq t c) (k c) (byT k t cs)
section
variable {X : Cx} {R : Type} {r : R} {K : cF R} {T : aA} {fr : Fr} {st : aB} {g : GK} {ρ : aw} {Φ : Ctx} {w : World} {ty : TypeId} {pos : String} {af : zj} {gd : xb}
theorem XM:{l:List UO}->{f:FuncId}->{i:UO}->Wx l f=some i->i∈l/\i.f=f
 |[],_,_,h=>by cases h
 |j::l,f,i,h=>by
  unfold Wx at h;split at h
  next c=>cases h;exact ⟨cx .., b0 c⟩
  .obtain ⟨b,a⟩:=XM h;exact ⟨b7 _ b,a⟩
theorem anG{d:zh}{op:Op}{f:FuncId}{args:List AV}{c:Option R}(hl:st.low fr=true)(s:Sat (ab ρ T st.G++(ab ρ T fr.H++Φ)) w)
  (e:Enters X.P f->T.get g=true->∀n a,Fits n (ay ρ T st.E fr.F) a->(execOp a.eval ⟨d,op,ty,pos,af,gd⟩).run X.P w= .ok (.enter f (AV.aj ρ args).toArray) w) (h:akr X T fr st g d f args K c=some r) (b:c=some r->lW X.P T g (ay ρ T st.E fr.F) ⟨d,op,ty,pos,af,gd⟩ w (aU r K T fr st g d ρ Φ)):
  lW X.P T g (ay ρ T st.E fr.F) ⟨d,op,ty,pos,af,gd⟩ w (aU r K T fr st g d ρ Φ):=by
 unfold akr at h;split at h
 .exact b h
 .rename_i i hi;obtain ⟨p,o⟩:=XM hi;subst o;obtain ⟨y,x⟩:=X.inlOk i p;split at h
  .obtain ⟨rfl,u⟩:=dC h;refine .none_ (λn a t=> .inr (.inr ⟨i.f,AV.aj ρ args,e y aA.get_none n a t,(x r args fr.H st _ ρ Φ w s u).mono λv w' q=>?_⟩));obtain ⟨ρ',st',av,k1,j,m,l,k⟩:=q;have e3:=aZ (T:=[]) j (aB.cE.1 hl).2.2.2;exact aU.new (ρ':=ρ') (st':={ st' with E:=cJ d none av st.E,h:=st.h }) hl k1 j m rfl l (by rw [<-e3];exact k)
  .cases h
theorem Yd{k:TypeId->Option R}{t:TypeId}:∀{cs:List TypeId},byT k t cs=some r->k t=some r
 |[],h=>by cases h
 |c::cs,h=>by
  unfold byT at h;rcases vq h with ⟨b,a⟩|⟨_,a⟩
  .rw [b0 b];exact a
  .exact Yd a
theorem W9{P:Program}{t:TypeId}{nm:String}{q:FuncId×Bool}(h:aez P t nm=some q):Km P t nm q.1 q.2:=by
 unfold aez at h;split at h
 .rename_i i hi;split at h
  .rename_i m hm;split at h
   next hp=>unfold Km;rw [hi];simp only [Option.bind_some];rw [hm];simp [hp,h]
   .cases h
  .cases h
 .cases h
theorem aka{t:TypeId}{u v:AV}{cs:List AV}{G H:List Row}(f:Sat (ab ρ T G++(ab ρ T H++Φ)) w)(a:An T G H g u=some cs)(h:mX X.P t cs=some v)(j:T.get g=true):
  ∃p,u.val ρ= .pointer (some p)/\(loadVar t p).run X.P w= .ok (v.val ρ) w:=by
 obtain ⟨p,hp,a⟩:=KO f a j;refine ⟨p,hp,?_⟩;have m:mX X.P t (cs.drop 0)=some v:=by simpa using h
 obtain ⟨d,n,bytes,z,c1,o,c⟩:=pI (ρ:=ρ) m;cases hd:mB d
 .rw [hd] at c;simp only [e9,qw] at c;exact LC c1 hd (a.cell0 c)
 .unfold mX at h;rw [c1] at h;rcases dR h with ⟨_,b⟩|⟨e,_⟩
  .split at b
   .rename_i q i;obtain ⟨n,bytes,z⟩:=q;obtain ⟨l,k⟩:=aI b;cases k;have hl:n<=cs.length:=er l;simp only [AV.val];refine Kn c1 hd (cP i) (vs:=AV.aj ρ (cs.take n)) ?_ ?_
    .have:=a.sub (us:=AV.aj ρ (cs.take n)) 0 (by rw [AV.lG,p5,dk,AV.bD,j0 hl])
     simpa [Addr.add] using this
    .rw [AV.bD,dk,j0 hl]
   .cases b
  .rw [hd] at e;cases e
theorem WN{t:TypeId}{u:AV}{nm:String}{q:FuncId×AV}(c:Sat (ab ρ T st.G++(ab ρ T fr.H++Φ)) w)(h:HH X T fr st g t u nm=some q):T.get g=true->Reach X.P w t (u.val ρ) nm q.1 (q.2.val ρ):=by
 unfold HH at h;split at h
 .rename_i f a;have hm:=W9 a;split at h
  next e ht=>cases h;exact λ_=>Reach.ptr hm ht
  .cases h
 .rename_i f a;have hm:=W9 a;split at h
  .rename_i e ht;split at h
   .rename_i cs k;split at h
    next v b=>cases h;intro i;obtain ⟨p,hp,hl⟩:=aka c k b i;rw [hp];exact Reach.load hm ht hl
    .cases h
   .cases h
  next d ht=>obtain ⟨m,l⟩:=Mi h;cases l;exact λ_=>Reach.val hm ht (λe j=>by subst j;cases m)
  .cases h
 .cases h
theorem acu{d:Tmp}{t:TypeId}{y:Operand}(s:Sat (ab ρ T st.G++(ab ρ T fr.H++Φ)) w)(h:aes X T fr st d t x y K=some r):
  NT X.P T none (ay ρ T st.E fr.F) ⟨some d,.indexAddr t x y,ty,pos,af,gd⟩ w (aU r K T fr st none (some d) ρ Φ):=by
 unfold aes at h;split at h
 .rename_i n e ht;split at h
  .rename_i z p;obtain ⟨m,bytes,z⟩:=z;split at h
   .rename_i id c hx;split at h
    .rename_i k i o;obtain ⟨q,_,u,j,l⟩:=LX h;have g:=bK (ρ:=ρ) hx;have f:=bK (ρ:=ρ) o;simp only [AV.val] at g f;refine ⟨.pointer (some (((ρ id).a.add c).add (i.toNat*m))),λw'=>?_,?_⟩
     .rw [aA.get_none];exact BM (P:=X.P) (w:=w') (dst:=some d) (ty:=ty) (pos:=pos) (af:=af) (gd:=gd) ht (cP p) g f (by
       intro _;subst j;exact nc.2 ⟨by omega,by omega⟩)
     .refine aU.kQ (av:= .adr id (c+q*m)) l (c8 _) rfl ?_ s;simp only [AV.val];rw [add_add,j];rfl
    .cases h
   .rename_i id c hx;split at h
    .rename_i k i o;obtain ⟨q,_,u,j,l⟩:=LX h;have g:=bK (ρ:=ρ) hx;have f:=bK (ρ:=ρ) o;simp only [AV.val] at g f;refine ⟨.pointer (some ((⟨(ρ id).b,c,none⟩:Addr).add (i.toNat*m))),λw'=>?_,?_⟩
     .rw [aA.get_none];exact BM (P:=X.P) (w:=w') (dst:=some d) (ty:=ty) (pos:=pos) (af:=af) (gd:=gd) ht (cP p) g f (by
       intro _;subst j;exact nc.2 ⟨by omega,by omega⟩)
     .refine aU.kQ (av:= .ptr id (c+q*m)) l (c8 _) rfl ?_ s;simp only [AV.val];rw [add_plain,j];rfl
    .cases h
   .cases h
  .cases h
 .cases h
theorem ajT{d:zh}{t:TypeId}{y:Operand}(hl:st.low fr=true)(g:Sat (ab ρ T st.G++(ab ρ T fr.H++Φ)) w)(h:adj X T fr st d t x y K=some r):
  lW X.P T none (ay ρ T st.E fr.F) ⟨d,.call ⟨.builtin .copy,#[x,y],#[t,t]⟩,ty,pos,af,gd⟩ w (aU r K T fr st none d ρ Φ):=by
 unfold adj at h;split at h
 .rename_i e S;split at h
  .rename_i u hu;split at h
   .rename_i z M;obtain ⟨n,bytes,z⟩:=z;split at h
    .rename_i id hx;split at h
     .rename_i b N;obtain ⟨W,i⟩:=aI h;have hn:n=u.rep.n:=(b0 W).trans u.CJ.symm;have B:=cP M;subst hn;have f:=tP (ids:=b.fg) (aB.cE.1 hl).2.2.1;replace g:=kY (ids:=b.fg) g;generalize cu b.fg st.G=G at i f g;have o:=bK (ρ:=ρ) hx;have v:=bK (ρ:=ρ) N;simp only [AV.val] at o;split at i
      .rename_i ys q;have s:=Mg g q;split at i
       .rename_i j p u' e' k L R;obtain ⟨V,D⟩:=aI i;have:=b0 V;subst this;split at D
        .rename_i xs A;obtain ⟨Z,ex⟩:=sd A;subst Z;simp only at ex;subst ex;obtain ⟨I,Y⟩:=bW R;have:p=id:=b0 Y;subst this;have hi:=ik (ρ:=ρ) (T:=T) (Φ:=ab ρ T fr.H++Φ) I;obtain ⟨J,_⟩:=g.at_ hi;obtain ⟨w',O,hC,C,U⟩:=aiQ (P:=X.P) (ty:=ty) (w:=w) (t:=t) (cq S) B J s (λb hb=>Ctx.kG hi hb);have Q:j<G.length:=(List.getElem?_eq_some_iff.1 I).1;have a:=tN f I;simp only [Row.low,an,j6] at a;refine .none_ (bI.gd (bI.ru (AJ o v O) (aU.new (ρ':=ρ.set st.c { dm with y:=⟨.l u',wN k ys⟩ }) (av:= .int .i64 ((Nat.min ys.length k.length:Nat):Int)) hl D aw.aX (l5 _) rfl (by simp only [AV.val]) ?_)));show Sat (ab _ T (G.set j _)++_) _;rw [fV Q,aZ aw.aX f];refine g.lJ hi hC (λb hb=>?_) (λM' m _=>?_)
         .simp only [Row.item,aw.aX _ a.1] at hb;exact ⟨by rw [C];exact J.lt b hb,.inl hb⟩
         .simp only [Row.item,aw.aX _ a.1,aw.bG];exact ⟨U M' m,trivial⟩
        .cases D
       .cases i
      .cases i
     .cases h
    .cases h
   .cases h
  .cases h
 .cases h
theorem aia{d:Tmp}{t:TypeId}{hi:Option Operand}(hl:st.low fr=true)(A:Sat (ab ρ T st.G++(ab ρ T fr.H++Φ)) w)(h:afl X T fr st d t x hi K=some r):
  lW X.P T none (ay ρ T st.E fr.F) ⟨some d,.slice t x none hi none,ty,pos,af,gd⟩ w (aU r K T fr st none (some d) ρ Φ):=by
 have s:=(aB.cE.1 hl).2.2.1;unfold afl at h;split at h
 .rename_i e M;split at h
  .rename_i z I;obtain ⟨n,bytes,z⟩:=z;split at h
   .rename_i id hx;split at h
    .rename_i j J;split at h
     .rename_i k o u e' xs D L;obtain ⟨R,Q⟩:=aI h;obtain ⟨O,N⟩:=iS Q;have hn:n=u.rep.n:=(b0 R).trans u.CJ.symm;have q:=cP I;subst hn;obtain ⟨C,S⟩:=bW L;have:o=id:=b0 S;subst this;have a:=bK (ρ:=ρ) hx;simp only [AV.val] at a;have f:=ik (ρ:=ρ) (T:=T) (Φ:=ab ρ T fr.H++Φ) C;obtain ⟨B,_⟩:=A.at_ f;obtain ⟨p,k1,i⟩:=B.aqi O;have hk:k<st.G.length:=(List.getElem?_eq_some_iff.1 C).1;have g:=PM (ρ:=ρ) (len:=xs.length) J;rw [aA.get_none] at g;refine .none_ (bI.gd (bI.run (EX (lo:=none) (hi:=hi) (cq M) q a (λ_=>B.len) rfl g (λ_=>k1)) (aU.new (ρ':=ρ.set st.c { dm with v:=p,y:=⟨.l u,aT xs 0 (j.getD (xs.length:Int))⟩ }) hl N aw.aX (l5 _) rfl (by simp only [AV.val,aw.bG]) ?_)));show Sat (ab _ T (st.G.set k _)++_) _;rw [fV hk,aZ aw.aX s];refine A.lJ f ((Ext.refl w).vV _) (λb hb=>?_) (λM' m _=>?_)
      .simp only [Row.item,aw.bG] at hb;have:=i.canon.1 b hb;exact ⟨i.lt b this,.inl this⟩
      .simp only [Row.item,aw.bG];exact ⟨i.canon.2 _ _ (i.cX (λ_ _=>rfl) m),trivial⟩
     .cases h
    .cases h
   .cases h
  .cases h
 .cases h
theorem ans{d:Tmp}{t:TypeId}{lo hi q:Option Operand}(hl:st.low fr=true)(o:Sat (ab ρ T st.G++(ab ρ T fr.H++Φ)) w)(h:aiB X T fr st d t x lo hi q K=some r):
  lW X.P T none (ay ρ T st.E fr.F) ⟨some d,.slice t x lo hi q,ty,pos,af,gd⟩ w (aU r K T fr st none (some d) ρ Φ):=by
 have M:=(aB.cE.1 hl).2.2.1;unfold aiB at h;split at h
 .rename_i y O;split at h
  .rename_i n e ht;split at h
   .rename_i u S;split at h
    .rename_i z D;obtain ⟨Q,bytes,z⟩:=z;split at h
     .rename_i id hx;split at h
      .rename_i k U I;split at h
       .rename_i R m i;split at h
        .rename_i j c bt cs L;obtain ⟨A,p⟩:=aI h;simp only [an,n4] at A;obtain ⟨⟨rfl,rfl⟩,V⟩:=A;split at p
         next xs l=>obtain ⟨B,N⟩:=n7 L;have:c=id:=b0 N;subst this;have g:=bK (ρ:=ρ) hx;have f:=bK (ρ:=ρ) I;have a:=bK (ρ:=ρ) i;simp only [AV.val] at g f a;have hi:=ik (ρ:=ρ) (T:=T) (Φ:=ab ρ T fr.H++Φ) B;have hb:gf w (ρ c).b bt (AV.aj ρ cs):=o.at_ hi;obtain ⟨s,C⟩:=Rf o n cs xs l;have J:j<st.G.length:=(List.getElem?_eq_some_iff.1 B).1;refine .none_ (bI.gd (bI.run (aat ht (cP D) g f a) (aU.lJ (x:={ dm with v:=(some ⟨(ρ c).b,0,none⟩,n,n) }) hl J p (by simp only [AV.val,aw.bG];rfl) ?_)));refine o.lJ hi ((Ext.refl w).vV _) (λb hb=>by cases hb) (λM' m hn=>?_);simp only [Row.item,aw.bG];exact λ_=>⟨bS.fresh hb (hn _ (by simp [Row.item,box]) (λhb=>by cases hb)) s (C.mv m),λ_=>s.symm⟩
         .cases p
        .cases h
       .cases h
      .cases h
     .cases h
    .cases h
   .cases h
  .cases h
 .cases h
end
variable {d : zh} {tys : Array TypeId}
def afy{R:Type}(X:Cx)(T:aA)(fr:Fr)(st:aB)(t:TypeId)(x y:Operand)(K:cF R):Option R:=match bu T st.E fr.F none x with
 |some (.ptr id off)=>(match bu T st.E fr.F none y with
  |some v=>ZH X.P st t id off v K
  |none=>none)
 |some (.adr q off)=>(match bu T st.E fr.F none y with
  |some v=>Yv X.P fr st t q off v K
  |none=>none)
 |_=>none
def alS{R:Type}(X:Cx)(T:aA)(fr:Fr)(st:aB)(g:GK)(d:Tmp)(t:TypeId)(x:Operand)(K:cF R):Option R:=match bu T st.E fr.F g x with
 |some (.adr q off)=>PX X T fr st g d t q off K
 |_=>none
def an9{R:Type}(X:Cx)(T:aA)(fr:Fr)(st:aB)(g:GK)(b:Builtin)(d:zh)(xs:zb)(ts:List TypeId)(K:cF R):Option R:=match b,xs,ts,d with
 | .append,[x,y],[t,u],some d=>gone g (aD (Nat.beq t u) (ajk X T fr st d t x y K) (adQ X T fr st d t u x y K))
 | .unsafeSliceData,[x],_,some d=>gone g (Wp T fr st d x K)
 | .unsafeString,[x,y],[pt,_],some d=>gone g (aeF X T fr st d pt x y K)
 | .copy,[x,y],[t,u],d=>gone g (aD (Nat.beq t u) (adj X T fr st d t x y K) none)
 |_,_,_,_=>none
def aiR{R:Type}(X:Cx)(tb:List aC)(T:aA)(fr:Fr)(st:aB)(g:GK)(d:zh)(c:Callee)(xs:zb)(ts:List TypeId)(K:cF R):Option R:=match c with
 | .builtin b=>an9 X T fr st g b d xs ts K
 | .value fo=>(match bu T st.E fr.F g fo with
  |some (.fn f a b)=>(match uk T st.E fr.F g xs with
   |some vs=>akr X T fr st g d f (a++vs++b) K (xg T fr st g d f (a++vs++b) K tb)
   |none=>none)
  |some (.raw (.func (.methodOf it nm) ⟨[]⟩ ⟨[]⟩))=>(match X.P.underlying it with
   |some dI=>aD (iz dI) (match uk T st.E fr.F g xs with
    |some (.ifc t u::vs)=>byT (λc=>match HH X T fr st g c u nm with
     |some q=>xg T fr st g d q.1 (q.2::vs) K tb
     |none=>none) t X.ks
    |_=>none) none
   |none=>none)
  |_=>none)
 | .invoke rc nm=>(match bu T st.E fr.F g rc with
  |some (.ifc t u)=>(match uk T st.E fr.F g xs with
   |some vs=>(match u with
    | .agg []=>byT (λc=>match HH X T fr st g c u nm with
     |some q=>xg T fr st g d q.1 (q.2::vs) K tb
     |none=>none) t X.ks
    |_=>(match HH X T fr st g t u nm with
     |some q=>xg T fr st g d q.1 (q.2::vs) K tb
     |none=>none))
   |none=>none)
  |_=>none)
noncomputable def opN{R:Type}(X:Cx)(tb:List aC)(T:aA)(fr:Fr)(st:aB)(g:GK)(op:Op)(dst:zh)(K:cF R):Option R:=match op,dst with
 | .indexAddr t x y,some d=>(match iR X.P t with
  |some _=>aeJ X T fr st g d t x y K
  |none=>(match bu T st.E fr.F g x with
   |some (.gp _)=>Wr X T fr st g d t x y K
   |_=>gone g (aes X T fr st d t x y K)))
 | .slice t x lo hi mx,some d=>(match iR X.P t with
  |some _=>(match lo,mx with
   |none,none=>aD (inO fr.n d X.oc) (gone g (afl X T fr st d t x hi K)) (Zi X T fr st g d t x none hi none K)
   |lo,mx=>Zi X T fr st g d t x lo hi mx K)
  |none=>(match bu T st.E fr.F g x with
   |some (.gp _)=>gone g (ajw X T fr st d t x lo hi mx K)
   |_=>gone g (aiB X T fr st d t x lo hi mx K)))
 | .alloc t,some d=>gone g (Xz X st d t K)
 | .box t x,some d=>gone g (ajv T fr st d t x K)
 | .store t x y,none=>gone g (afy X T fr st t x y K)
 | .load t x,some d=>alS X T fr st g d t x K
 | .buildSlice t n ps,some d=>ajn X T fr st g d t n ps.toList K
 | .makeSlice t x y,some d=>gone g (aeQ X T fr st d t x y K)
 | .makeMap t none,some d=>gone g (adX X st d t K)
 | .mapUpdate t x y z,none=>gone g (adI X T fr st t x y z K)
 | .range t x,some d=>gone g (ajL X T fr st d t x K)
 | .next x true,some d=>gone g (akX T fr st d x K)
 | .convert s dt x,some d=>aiF X T fr st g d s dt x K
 | .binOp op t x y _,some d=>gone g (ak6 X T fr st d op t x y K)
 | .call c,d=>aiR X tb T fr st g d c.callee c.args.toList c.argTypes.toList K
 |_,_=>none
noncomputable def ZJ{R:Type}(X:Cx)(tb:List aC)(T:aA)(fr:Fr)(st:aB)(g:GK)(o:Oper)(K:cF R):Option R:=
 match afu X T st.E fr.F g o.op with
 |some cv=>HA cv.1 (g.map λ_=>T.get g) (K { st with E:=cJ o.dst g cv.2 st.E })
 |none=>match adx X T st.E fr.F st.G fr.H g o.op with
  |some cv=>HA cv.1 (g.map λ_=>T.get g) (K { st with E:=cJ o.dst g cv.2 st.E })
  |none=>aD (st.low fr) (opN X tb T fr st g o.op o.dst K) none
section
variable {X : Cx} {tb : List aC} {R : Type} {r : R} {K : cF R} {T : aA} {fr : Fr} {st : aB} {g : GK} {ρ : aw} {Φ : Ctx} {w : World} {ty : TypeId} {pos : String} {af : zj} {gd : xb}
theorem Av{d:zh}{op:Op}{f:FuncId}{args:List AV}(hl:st.low fr=true)(j:Sat (ab ρ T st.G++(ab ρ T fr.H++Φ)) w)(a:∀it∈X.Γ,it∈Φ)
  (b:Enters X.P f->T.get g=true->∀n act,Fits n (ay ρ T st.E fr.F) act->(execOp act.eval ⟨d,op,ty,pos,af,gd⟩).run X.P w= .ok (.enter f (AV.aj ρ args).toArray) w):∀{tb:List aC},(∀e∈tb,e.Ok X.P X.Γ)->xg T fr st g d f args K tb=some r->
  lW X.P T g (ay ρ T st.E fr.F) ⟨d,op,ty,pos,af,gd⟩ w (aU r K T fr st g d ρ Φ)
 |[],_,h=>by cases h
 |e::tb,htb,h=>by
  unfold xg at h;rcases dR h with ⟨l,i⟩|⟨_,i⟩
  .split at i
   next m k=>subst i;have:=b0 l;subst this;have c:=htb e (cx ..);exact ahl hl j c a (b c.1) k
   .exact Av hl j a b (λe c=>htb e (b7 _ c)) i
  .exact Av hl j a b (λe c=>htb e (b7 _ c)) i
theorem ajH{f:FuncId}{fo:Operand}{xs:zb}{a b vs:List AV}(hl:st.low fr=true)(o:Sat (ab ρ T st.G++(ab ρ T fr.H++Φ)) w)(j:∀it∈X.Γ,it∈Φ)
  (m:bu T st.E fr.F g fo=some (.fn f a b)) (k:uk T st.E fr.F g xs=some vs) {tb:List aC} (l:∀e∈tb,e.Ok X.P X.Γ) (h:xg T fr st g d f (a++vs++b) K tb=some r):
  lW X.P T g (ay ρ T st.E fr.F) ⟨d,.call ⟨.value fo,xs.toArray,tys⟩,ty,pos,af,gd⟩ w (aU r K T fr st g d ρ Φ):=by
 have c:=aO (ρ:=ρ) m;have i:=jo (ρ:=ρ) k;simp only [AV.val] at c;refine Av hl o j (λs p n t q=>?_) l h;rw [dh,dh];exact Eh s c i q p
theorem Zg{k:Operand}{nm:String}{xs:zb}{t:TypeId}{u:AV}{vs:List AV}{q:FuncId×AV}(hl:st.low fr=true)(l:Sat (ab ρ T st.G++(ab ρ T fr.H++Φ)) w)(c:∀it∈X.Γ,it∈Φ)
  (j:bu T st.E fr.F g k=some (.ifc t u)) (f:uk T st.E fr.F g xs=some vs) (m:HH X T fr st g t u nm=some q) {tb:List aC} (i:∀e∈tb,e.Ok X.P X.Γ) (h:xg T fr st g d q.1 (q.2::vs) K tb=some r):
  lW X.P T g (ay ρ T st.E fr.F) ⟨d,.call ⟨.invoke k nm,xs.toArray,tys⟩,ty,pos,af,gd⟩ w (aU r K T fr st g d ρ Φ):=by
 have a:=aO (ρ:=ρ) j;have b:=jo (ρ:=ρ) f;simp only [AV.val] at a;exact Av hl l c (λs o n v p=>ain s a (WN l m) b p o) i h
theorem ai5{fo:Operand}{it:TypeId}{l:TypeDesc}{nm:String}{xs:zb}{t:TypeId}{u:AV}{vs:List AV}{q:FuncId×AV}(hl:st.low fr=true)(k:Sat (ab ρ T st.G++(ab ρ T fr.H++Φ)) w)(c:∀it∈X.Γ,it∈Φ)
  (j:bu T st.E fr.F g fo=some (.raw (.func (.methodOf it nm) #[] #[]))) (bH:X.P.underlying it=some l) (hd:iz l=true) (f:uk T st.E fr.F g xs=some (.ifc t u::vs)) (m:HH X T fr st g t u nm=some q) {tb:List aC} (i:∀e∈tb,e.Ok X.P X.Γ) (h:xg T fr st g d q.1 (q.2::vs) K tb=some r):
  lW X.P T g (ay ρ T st.E fr.F) ⟨d,.call ⟨.value fo,xs.toArray,tys⟩,ty,pos,af,gd⟩ w (aU r K T fr st g d ρ Φ):=by
 have b:=aO (ρ:=ρ) j;have a:=jo (ρ:=ρ) f;simp only [AV.val,AV.aj] at b a;exact Av hl k c (λs o n v p=>aas s b bH hd (WN k m) a p o) i h
theorem amz{c:Callee}{xs:Array Operand}{I:Array TypeId}(hl:st.low fr=true)(l:Sat (ab ρ T st.G++(ab ρ T fr.H++Φ)) w)(m:∀it∈X.Γ,it∈Φ)(o:∀e∈tb,e.Ok X.P X.Γ)
  (h:aiR X tb T fr st g d c xs.toList I.toList K=some r):lW X.P T g (ay ρ T st.E fr.F) ⟨d,.call ⟨c,xs,I⟩,ty,pos,af,gd⟩ w (aU r K T fr st g d ρ Φ):=by
 obtain ⟨xs⟩:=xs;obtain ⟨I⟩:=I;unfold aiR at h;split at h
 .unfold an9 at h;split at h
  .rename_i x y t u J k z;simp only at k z;subst k;subst z;obtain ⟨rfl,s⟩:=dC h;rcases dR s with ⟨A,j⟩|⟨_,j⟩
   .have:=b0 A;subst this;exact am5 hl l j
   .exact aiC hl l j
  next x J k=>simp only at k;subst k;obtain ⟨rfl,s⟩:=dC h;exact (Z1 hl l s).Zw
  next x y Q it J k z=>simp only at k z;subst k;subst z;obtain ⟨rfl,s⟩:=dC h;exact aj3 hl l s
  next x y t u k z=>simp only at k z;subst k;subst z;obtain ⟨rfl,s⟩:=dC h;obtain ⟨A,j⟩:=aI s;have:=b0 A;subst this;exact ajT hl l j
  .cases h
 .split at h
  .rename_i f a b p;split at h
   next vs i=>refine anG hl l (λN L n O M=>?_) h (λh=>ajH hl l m p i o h);have v:=aO (ρ:=ρ) p;have B:=jo (ρ:=ρ) i;simp only [AV.val] at v;rw [dh,dh];exact Eh N v B M L
   .cases h
  .rename_i it nm p;split at h
   .rename_i R bH;obtain ⟨s,A⟩:=aI h;split at A
    .rename_i t u vs i;have j:=Yd A;split at j
     next q D=>exact ai5 hl l m p bH s i D o j
     .cases j
    .cases A
   .cases h
  .cases h
 .split at h
  .rename_i t u C;split at h
   .rename_i vs i;split at h
    .have j:=Yd h;split at j
     next q D=>exact Zg hl l m C i D o j
     .cases j
    .split at h
     next q D=>exact Zg hl l m C i D o h
     .cases h
   .cases h
  .cases h
theorem aob{op:Op}{dst:zh}(hl:st.low fr=true)(b:Sat (ab ρ T st.G++(ab ρ T fr.H++Φ)) w)(c:∀it∈X.Γ,it∈Φ)(i:∀e∈tb,e.Ok X.P X.Γ)
  (h:opN X tb T fr st g op dst K=some r):lW X.P T g (ay ρ T st.E fr.F) ⟨dst,op,ty,pos,af,gd⟩ w (aU r K T fr st g dst ρ Φ):=by
 unfold opN at h;split at h
 .split at h
  .exact (acr hl b h).Zw
  .split at h
   .exact (Ys hl c b h).Zw
   .obtain ⟨rfl,a⟩:=dC h;exact (acu b a).Zw
 .split at h
  .split at h
   .rcases dR h with ⟨_,j⟩|⟨_,j⟩
    .obtain ⟨rfl,k⟩:=dC j;exact aia hl b k
    .exact (RH hl b j).Zw
   .exact (RH hl b h).Zw
  .split at h
   .obtain ⟨rfl,a⟩:=dC h;exact amZ hl c b a
   .obtain ⟨rfl,a⟩:=dC h;exact ans hl b a
 .obtain ⟨rfl,a⟩:=dC h;exact af1 hl b a
 .obtain ⟨rfl,a⟩:=dC h;exact anw hl b a
 .obtain ⟨rfl,a⟩:=dC h;unfold afy at a;split at a
  .rename_i id d hx;split at a
   next v f=>exact .none_ (aga b hx f a)
   .cases a
  .rename_i id d hx;split at a
   next v f=>exact .none_ (ag9 hl b hx f a)
   .cases a
  .cases a
 .unfold alS at h;split at h
  next q d hx=>exact akW hl b hx h
  .cases h
 .exact al7 hl b h
 .obtain ⟨rfl,a⟩:=dC h;exact alc hl b a
 .obtain ⟨rfl,a⟩:=dC h;exact aiL hl b a
 .obtain ⟨rfl,a⟩:=dC h;exact ais b a
 .obtain ⟨rfl,a⟩:=dC h;exact anq hl b a
 .obtain ⟨rfl,a⟩:=dC h;exact amc b a
 .exact am1 hl b h
 .obtain ⟨rfl,a⟩:=dC h;exact anF b a
 .exact amz hl b c i h
 .cases h
theorem apa{o:Oper}(m:fL T st.E fr.F)(f:Sat (ab ρ T st.G++(ab ρ T fr.H++Φ)) w)(i:∀it∈X.Γ,it∈Φ)(j:∀e∈tb,e.Ok X.P X.Γ)
  (h:ZJ X tb T fr st g o K=some r):lW X.P T g (ay ρ T st.E fr.F) o w (aU r K T fr st g o.dst ρ Φ):=by
 obtain ⟨dst,op,ty,pos,af,gd⟩:=o;unfold ZJ at h;simp only at h;split at h
 next cv b=>obtain ⟨d,c⟩:=sX h;exact NT.Zw ⟨_,λw'=>YP m b d,aU.kQ c (c8 _) rfl rfl f⟩
 .split at h
  next cv b=>obtain ⟨d,c⟩:=sX h;have k:=XI (dst:=dst) (ty:=ty) (pos:=pos) (af:=af) (gd:=gd) f b d;have a:aU r K T fr st g dst ρ Φ (cv.2.val ρ) w:=aU.kQ c (c8 _) rfl rfl f;exact ⟨λl=>bI.run (by rwa [l] at k) a,λ_=>⟨_,a⟩⟩
  .obtain ⟨d,c⟩:=aI h;exact aob d f i j c
end
def Row.gd:Row->GK
 | .sli g _ _ _ _|.elm g _ _|.kn g _ _ _ _ _ _=>g
 |_=>none
theorem Row.CD{ρ:aw}{T T':aA}{r:Row}(h:T'.get r.gd=T.get r.gd):r.item ρ T'=r.item ρ T:=by cases r <;> simp only [Row.gd] at h <;> simp only [Row.item,h]
def C8(k:Nat×Bool)(g:GK):Bool:= !(GK.eq (some k) g)
def HC(k:Nat×Bool):aF->Bool
 |[]=>true
 |x::E=>C8 k x.2.1&&HC k E
def OF(k:Nat×Bool):List Row->Bool
 |[]=>true
 |r::G=>C8 k r.gd&&OF k G
def aer(k:Nat×Bool):aA->Bool
 |[]=>true
 |x::T=>C8 k (some x.1)&&C8 k x.2.1&&aer k T
theorem yP{k:Nat×Bool}{par:GK}{rj:Nat}{b:Bool}{T:aA}{g:GK}(h:C8 k g=true):aA.get ((k,par,rj,b)::T) g=T.get g:=aA.N8 h
theorem OC{ρ:aw}{k:Nat×Bool}{par:GK}{rj:Nat}{b:Bool}{T:aA}:{E:aF}->HC k E=true->aF.env ρ ((k,par,rj,b)::T) E=aF.env ρ T E
 |[],_=>rfl
 |(t,g,v)::E,h=>by simp only [HC,an] at h;simp only [aF.env];rw [yP h.1,OC h.2]
theorem HI{ρ:aw}{k:Nat×Bool}{par:GK}{rj:Nat}{b:Bool}{T:aA}:{G:List Row}->OF k G=true->ab ρ ((k,par,rj,b)::T) G=ab ρ T G
 |[],_=>rfl
 |r::G,h=>by simp only [OF,an] at h;simp only [ab,eT];rw [Row.CD (yP h.1)];have:=HI (ρ:=ρ) (par:=par) (rj:=rj) (b:=b) (T:=T) h.2;simp only [ab] at this;rw [this]
theorem J8{k:Nat×Bool}:{E:aF}->HC k E=true->{t:Nat}->{x:GK×AV}->bA E t=some x->C8 k x.1=true
 |[],_,_,_,h=>by cases h
 |(r,g,v)::E,h,t,x,hx=>by
  simp only [HC,an] at h;unfold bA at hx;rcases dR hx with ⟨_,a⟩|⟨_,a⟩
  .cases a;exact h.1
  .exact J8 h.2 a
def Ot(k:Nat×Bool):aA->Bool
 |[]=>false
 |x::T=>GK.eq (some k) (some x.1)||Ot k T
def pN(d:zh):aA->Bool
 |[]=>true
 |x::T=>(match d with
  |none=>true
  |some d=> !(Nat.beq d x.2.2.1))&&pN d T
def pZ(ops:zl)(n:Nat)(T:aA):Prop:= ∀x,x∈T->(ops[x.1.1]?).bind (·.dst)=some x.2.2.1/\Nat.blt x.2.2.1 n=true
def FT(T:aA)(fr:Fr):Prop:=(∀x,x∈fr.F->T.get x.2.1=aA.get [] x.2.1)/\∀r,r∈fr.H->T.get r.gd=aA.get [] r.gd
def stepG{R:Type}(ops:zl)(T:aA)(fr:Fr)(st:aB)(o:Oper)(run:aA->GK->Option R):Option R:=
 aD (jH o&&K0 fr.n o.dst) (match o.guard with
 |none=>aD ( pN o.dst T ) ( run T none ) none
 |some k=>aD ( Ot k T ) ( aD ( pN o.dst T ) ( run T (some k) ) none )<|match ops[k.1]? with
  |some oj=>(match oj.dst with
   |some rj=>(match dW st.E fr.F rj with
    |some (par,.bool b)=>aD ( Nat.blt rj fr.n&&HC k st.E&&HC k fr.F&&OF k st.G&&OF k fr.H&&aer k T&&pN o.dst ((k,par,rj,b)::T) ) ( run ((k,par,rj,b)::T) (some k) ) none
    |_=>none)
   |none=>none)
  |none=>none) none
structure afY(ops:zl)(fr0 fr:Fr)(st:aB)(ρ:aw)(o:Oper)(T T':aA)(g:GK):Prop where
 pl:jH o=true
 ds:K0 fr.n o.dst=true
 t1:fL T' st.E fr.F
 t2:pZ ops fr.n T'
 ft:FT T' fr0
 ak:pN o.dst T'=true
 ee:aF.env ρ T' st.E=aF.env ρ T st.E
 ef:aF.env ρ T' fr.F=aF.env ρ T fr.F
 eg:ab ρ T' st.G=ab ρ T st.G
 eh:ab ρ T' fr.H=ab ρ T fr.H
 gg:o.guard=g
 gk:∀k,g=some k->∃rj par b,(ops[k.1]?).bind (·.dst)=some rj/\look (ay ρ T' st.E fr.F) rj=some (T'.get par,.bool b)/\Nat.blt rj fr.n=true/\(T'.get par&&(b==k.2))=T'.get g
theorem abg{k:Nat×Bool}:{T:aA}->Ot k T=true->∃x,x∈T/\x.1=k
 |[],h=>by cases h
 |x::T,h=>by
  simp only [Ot,fi] at h;rcases h with h|h
  .have:=GK.eq_eq h;cases this;exact ⟨x,cx .., rfl⟩
  .obtain ⟨y,b,a⟩:=abg h;exact ⟨y,b7 _ b,a⟩
theorem abG{k:Nat×Bool}:{T:aA}->aer k T=true->∀x,x∈T->C8 k (some x.1)=true/\C8 k x.2.1=true
 |[],_,x,h=>by cases h
 |y::T,h,x,hx=>by
  simp only [aer,an] at h;rcases List.mem_cons.1 hx with rfl|hx
  .exact h.1
  .exact abG h.2 x hx
theorem acP{k:Nat×Bool}:{E:aF}->HC k E=true->∀x,x∈E->C8 k x.2.1=true
 |[],_,x,h=>by cases h
 |y::T,h,x,hx=>by
  simp only [HC,an] at h;rcases List.mem_cons.1 hx with rfl|hx
  .exact h.1
  .exact acP h.2 x hx
theorem ab9{k:Nat×Bool}:{E:List Row}->OF k E=true->∀x,x∈E->C8 k x.gd=true
 |[],_,x,h=>by cases h
 |y::T,h,x,hx=>by
  simp only [OF,an] at h;rcases List.mem_cons.1 hx with rfl|hx
  .exact h.1
  .exact ab9 h.2 x hx
theorem aah{R:Type}{r:R}{ops:zl}{T:aA}{fr0 fr:Fr}{st:aB}{o:Oper}{run:aA->GK->Option R}{ρ:aw}(u:fL T st.E fr.F)(t:pZ ops fr.n T)(w:fr0.F=fr.F)(v:∀r,r∈fr0.H->r∈fr.H)(p:FT T fr0)(h:stepG ops T fr st o run=some r):
  ∃T' g,run T' g=some r/\afY ops fr0 fr st ρ o T T' g:=by
 unfold stepG at h;obtain ⟨f,z⟩:=aI h;simp only [an] at f;have kQ:∀k x,x∈T->x.1=k->∃rj par b,(ops[k.1]?).bind (·.dst)=some rj/\look (ay ρ T st.E fr.F) rj=some (T.get par,.bool b)/\Nat.blt rj fr.n=true/\(T.get par&&(b==k.2))=T.get (some k):=λk x hx hk=>by subst hk;obtain ⟨G,D⟩:=u x hx;obtain ⟨C,B⟩:=t x hx;exact ⟨x.2.2.1,x.2.1,x.2.2.2,C,by rw [iC,G];simp [AV.val],B,by rw [D,L5]⟩
 split at z
 next m=>obtain ⟨s,d⟩:=aI z;exact ⟨T,none,d,⟨f.1,f.2,u,t,p,s,rfl,rfl,rfl,rfl,m,λk hk=>by cases hk⟩⟩
 .rename_i k m;rcases dR z with ⟨s,d⟩|⟨s,d⟩
  .obtain ⟨q,y⟩:=aI d;obtain ⟨x,hx,hk⟩:=abg s;exact ⟨T,some k,y,⟨f.1,f.2,u,t,p,q,rfl,rfl,rfl,rfl,m,λL e=>by cases e;exact kQ k x hx hk⟩⟩
  .split at d
   .rename_i oj l;split at d
    .rename_i rj i;split at d
     .rename_i par b a;obtain ⟨q,y⟩:=aI d;simp only [an] at q;obtain ⟨⟨⟨⟨⟨⟨K,J⟩,A⟩,O⟩,I⟩,N⟩,M⟩:=q;have j:C8 k par=true:=by
       unfold dW at a;split at a
       next x hx=>cases a;exact J8 J hx
       .exact J8 A a
      have c:aA.get ((k,par,rj,b)::T) (some k)=(aA.get ((k,par,rj,b)::T) par&&yo k.2 b):=by rw [aA.akZ,yP j]
      have ee:=OC (ρ:=ρ) (par:=par) (rj:=rj) (b:=b) (T:=T) J;have ef:=OC (ρ:=ρ) (par:=par) (rj:=rj) (b:=b) (T:=T) A;refine ⟨(k,par,rj,b)::T,some k,y,⟨f.1,f.2,λx hx=>?_,λx hx=>?_,⟨λx hx=>?_,λx hx=>?_⟩,M,ee,ef,HI O,HI I,m,λL e=>?_⟩⟩
      .rcases List.mem_cons.1 hx with rfl|hx
       .exact ⟨a,c⟩
       .obtain ⟨G,D⟩:=u x hx;obtain ⟨C,B⟩:=abG N x hx;exact ⟨G,by rw [yP C,yP B];exact D⟩
      .rcases List.mem_cons.1 hx with rfl|hx
       .exact ⟨by simp [l,i],K⟩
       .exact t x hx
      .rw [yP (acP A x (w▸hx))];exact p.1 x hx
      .rw [yP (ab9 I x (v x hx))];exact p.2 x hx
      .cases e;refine ⟨rj,par,b,by simp [l,i],?_,K,by rw [c,L5]⟩;rw [iC,a];simp [AV.val]
     .cases d
    .cases d
   .cases d
theorem UX{d:zh}:{T:aA}->pN d T=true->∀x,x∈T->∀(g:GK) (v:AV) (E F:aF),dW (cJ d g v E) F x.2.2.1=dW E F x.2.2.1
 |[],_,x,h=>by cases h
 |y::T,h,x,hx=>λg v E F=>by
  simp only [pN,an] at h;rcases List.mem_cons.1 hx with rfl|hx
  .cases d with
   |none=>rfl
   |some d=>
    have a:=h.1;simp only [nA] at a;unfold dW;simp only [cJ,bA,a]
  .exact UX h.2 x hx g v E F
theorem fL.out{T:aA}{E F:aF}(h:fL T E F){d:zh}(ha:pN d T=true)(g:GK)(v:AV):fL T (cJ d g v E) F:=λx hx=>by rw [UX ha x hx];exact h x hx
theorem vW{ρ:aw}{T:aA}{g:GK}{v:AV}{E F:aF}:ay ρ T (cJ d g v E) F=sF d (T.get g) (v.val ρ) (ay ρ T E F):=by cases d <;> rfl
section
variable {X : Cx} {tb : List aC} {σ : zg} {Q : bm} {D : za} {ops : zl} {rest : zl} {R : Type} {r : R} {T : aA} {fr : Fr} {st : aB} {ρ : aw} {Φ : Ctx} {w : World}
theorem Y0{fr0:Fr}{o:Oper}{K:aA->cF R}(L:fL T st.E fr.F)(J:pZ ops fr.n T)(p:fr0.F=fr.F)(m:∀r,r∈fr0.H->r∈fr.H)(C:FT T fr0)(B:Sat (ab ρ T st.G++(ab ρ T fr.H++Φ)) w)(f:∀it∈X.Γ,it∈Φ)(i:∀e∈tb,e.Ok X.P X.Γ)
  (h:stepG ops T fr st o (λT g=>ZJ X tb T fr st g o (K T))=some r)
  (next:∀T' st' ρ' w',fL T' st'.E fr.F->pZ ops fr.n T'->FT T' fr0->aQ st.c ρ ρ'->st.c<=st'.c->K T' st'=some r->ab ρ' T' fr.H=ab ρ T fr.H->Sat (ab ρ' T' st'.G++(ab ρ' T' fr.H++Φ)) w'->WL X.P σ ops.toArray Q fr.n D rest (ay ρ' T' st'.E fr.F) w'):
  WL X.P σ ops.toArray Q fr.n D (o::rest) (ay ρ T st.E fr.F) w:=by
 obtain ⟨T',g,hk,a⟩:=aah (ρ:=ρ) L J p m C h;have j:Sat (ab ρ T' st.G++(ab ρ T' fr.H++Φ)) w:=by rw [a.eg,a.eh];exact B
 have I:ay ρ T st.E fr.F=ay ρ T' st.E fr.F:=by rw [ay,ay,a.ee,a.ef]
 rw [I];have d:=apa a.t1 j f i hk;have fin:∀v w',aU r (K T') T' fr st g o.dst ρ Φ v w'->WL X.P σ ops.toArray Q fr.n D rest (sF o.dst (T'.get g) v (ay ρ T' st.E fr.F)) w':=λv w' A=>by obtain ⟨ρ',st',av,k1,z,y,q,x,u,t,s⟩:=A;have:=next T' st' ρ' w' (by rw [q];exact a.t1.out a.ak g av) a.t2 a.ft z y k1 (t.trans a.eh) s;rw [q,vW,x,u] at this;exact this
 cases l:g with
 |none=>
  subst l;have:=fin;rw [aA.get_none] at this;exact am0 (d.1 aA.get_none) a.pl a.gg a.ds this
 |some k=>
  obtain ⟨rj,par,b,S,O,N,M⟩:=a.gk k l;subst l;exact aiG d.1 d.2 a.pl a.gg (by simpa using S) O N M a.ds fin
end
def tB{α:Type}:Option α->Bool
 |none=>true
 |some _=>false
def oY(E0:aF):aF->aF
 |[]=>[]
 |x::E=>(match bA E0 x.1 with
  |some (none,_)=>aD (tB x.2.1) (x::oY E0 E) (oY E0 E)
  |_=>oY E0 E)
def nO:List Row->List Row
 |[]=>[]
 |r::G=>aD (tB r.gd) (r::nO G) (nO G)
def yZ(T:aA)(st:aB):aB:=match T with
 |[]=>st
 |_::_=>{ st with E:=oY st.E st.E,G:=nO st.G }
theorem nU{t' t:Nat}{g:GK}{v:AV}{E:aF}(h:Nat.beq t' t=true):bA ((t',g,v)::E) t=some (g,v):=by simp only [bA,h]
theorem iV{t' t:Nat}{g:GK}{v:AV}{E:aF}(h:Nat.beq t' t=false):bA ((t',g,v)::E) t=bA E t:=by simp only [bA,h]
theorem FZ{d:aF}{t:Nat}:{E:aF}->{x:GK×AV}->bA (oY d E) t=some x->x.1=none/\(∃v,bA d t=some (none,v))/\((∃v,bA E t=some (none,v))->bA E t=some x)
 |[],x,h=>by cases h
 |(t',g',v')::E,x,h=>by
  unfold oY at h;have cX:bA (oY d E) t=some x->(∀v,Nat.beq t' t=true->bA d t'≠some (none,v)\/g'≠none)->x.1=none/\(∃v,bA d t=some (none,v))/\((∃v,bA ((t',g',v')::E) t=some (none,v))->bA ((t',g',v')::E) t=some x):=λm hn=>by
   obtain ⟨a,c,l⟩:=FZ m;refine ⟨a,c,λf=>?_⟩;cases hb:Nat.beq t' t
   .rw [iV hb] at f ⊢; exact l f
   .exfalso;obtain ⟨j,i⟩:=c;obtain ⟨n,b⟩:=f;rw [nU hb] at b;simp only [et,q8] at b;have e:=b0 hb;rcases hn j hb with g|g
    .rw [e] at g;exact g i
    .exact g b.1
  dsimp only at h;split at h
  .rename_i v f;cases a:tB g'
   .rw [a] at h;exact cX h (λv _=> .inr (λe=>by rw [e] at a;cases a))
   .rw [a] at h;have c:bA ((t',g',v')::oY d E) t=some x:=h;cases hb:Nat.beq t' t
    .rw [iV hb] at c ⊢;exact FZ (E:=E) c
    .rw [nU hb] at c ⊢;cases c;have e:=b0 hb;refine ⟨?_,⟨v,by rw [<-e];exact f⟩,λ_=>rfl⟩;cases k:g' with
     |none=>rfl
     |some _=>rw [k] at a;cases a
  next hn=>exact cX h (λv hb=> .inl (λe=>hn v e))
theorem NS{a:aF}{t:Nat}{c:AV}(b:bA a t=some (none,c)):{E:aF}->{v:AV}->bA E t=some (none,v)->bA (oY a E) t=some (none,v)
 |[],v,h=>by cases h
 |(t',g',v')::E,v,h=>by
  unfold oY;cases hb:Nat.beq t' t
  .rw [iV hb] at h;have ih:=NS b h;dsimp only;split
   .cases tB g'
    .exact ih
    .show bA ((t',g',v')::oY a E) t=_;rw [iV hb];exact ih
   .exact ih
  .rw [nU hb] at h;cases h;have e:=b0 hb;subst e;dsimp only;rw [b];exact nU hb
def Wv(F E0:aF):aF->Bool
 |[]=>true
 |x::E=>(match bA E0 x.1 with
  |some (none,_)=>true
  |_=>tB (bA F x.1))&&Wv F E0 E
theorem Zb{F c:aF}{t:Nat}:{E:aF}->{x:GK×AV}->Wv F c E=true->bA E t=some x->(∃v,bA c t=some (none,v))\/bA F t=none
 |[],x,_,h=>by cases h
 |(t',g',v')::E,x,hb,h=>by
  simp only [Wv,an] at hb;cases b:Nat.beq t' t
  .rw [iV b] at h;exact Zb hb.2 h
  .have e:=b0 b;subst e;have a:=hb.1;split at a
   next v d=>exact .inl ⟨v,d⟩
   .cases f:bA F t' with
    |none=>exact .inr rfl
    |some y=>rw [f] at a;cases a
def DG(T:aA)(fr:Fr)(st:aB):Bool:=match T with
 |[]=>true
 |_::_=>Wv fr.F st.E st.E
theorem akM{ρ:aw}{T:aA}{E:aF}(h:∀x,x∈E->T.get x.2.1=aA.get [] x.2.1):aF.env ρ T E=aF.env ρ [] E:=by
 induction E with
 |nil=>rfl
 |cons x E ih=>
  obtain ⟨t,g,v⟩:=x;simp only [aF.env];rw [h _ (cx ..),ih (λx hx=>h x (b7 _ hx))]
theorem PL{ρ:aw}{T:aA}{G:List Row}(h:∀r,r∈G->T.get r.gd=aA.get [] r.gd):ab ρ T G=ab ρ [] G:=
 qO λr a=>Row.CD (h r a)
theorem Ab:{G:List Row}->∀r,r∈nO G->r.gd=none
 |[],r,h=>by cases h
 |y::G,r,h=>by
  unfold nO at h;cases a:tB y.gd
  .rw [a] at h;exact Ab r h
  .rw [a] at h;rcases List.mem_cons.1 h with rfl|h
   .cases b:r.gd with
    |none=>rfl
    |some _=>rw [b] at a;cases a
   .exact Ab r h
theorem BR{ρ:aw}{T:aA}{w:World}{B:Ctx}:∀{G:List Row} {A:Ctx},Sat (A++(ab ρ T G++B)) w->Sat (A++(ab ρ T (nO G)++B)) w
 |[],_,h=>h
 |r::G,A,h=>by
  unfold nO;cases tB r.gd
  .exact BR (G:=G) (Sat.BC h)
  .have a:Sat ((A++[r.item ρ T])++(ab ρ T G++B)) w:=by simpa [ab] using h
   have:=BR (G:=G) a;simpa [ab] using this
theorem II{ρ:aw}{T:aA}{fr:Fr}{st:aB}{Φ:Ctx}{w:World}(j:DG T fr st=true)(f:FT T fr)(e:Sat (ab ρ T st.G++(ab ρ T fr.H++Φ)) w):
  (yZ T st).c=st.c/\kT (ay ρ [] (yZ T st).E fr.F) (ay ρ T st.E fr.F)/\Sat (ab ρ [] (yZ T st).G++(ab ρ [] fr.H++Φ)) w:=by
 cases T with
 |nil=>exact ⟨rfl,kT.refl,e⟩
 |cons x T=>
  refine ⟨rfl,λt p hp=>?_,?_⟩
  .have n:aF.env ρ (x::T) fr.F=aF.env ρ [] fr.F:=akM f.1;rw [ay,Fh] at hp ⊢;rw [n];cases hl:look (aF.env ρ [] (yZ (x::T) st).E) t with
   |none=>
    rw [hl] at hp
    -- nothing kept: nothing told, or under a guard
    have:look (aF.env ρ (x::T) st.E) t=none:=by
     rw [yE] at hl hp ⊢;cases i:bA st.E t with
     |none=>rfl
     |some y=>
      exfalso;have hk:bA (oY st.E st.E) t=none:=by
       cases hk:bA (oY st.E st.E) t with
       |none=>rfl
       |some z=>
        have:bA (yZ (x::T) st).E t=some z:=hk;rw [this] at hl;cases hl
      rcases Zb j i with ⟨v,d⟩|h
      .rw [NS d d] at hk;cases hk
      .rw [h] at hp;cases hp
    rw [this];exact hp
   |some q=>
    rw [hl] at hp;cases hp;rw [yE] at hl;cases hk:bA (yZ (x::T) st).E t with
    |none=>rw [hk] at hl;cases hl
    |some y=>
     rw [hk] at hl;obtain ⟨b,m,l⟩:=FZ hk;have k:=l m;rw [yE,k];simp only [og,et] at hl ⊢;rw [<-hl,b,aA.get_none,aA.get_none]
  .have b:=BR (A:=[]) e;have s:ab ρ (x::T) (nO st.G)=ab ρ [] (nO st.G):=PL λr g=>by rw [Ab r g,aA.get_none,aA.get_none]
   have o:ab ρ (x::T) fr.H=ab ρ [] fr.H:=PL f.2;rw [l9,s,o] at b;exact b
def tT:Bool->Pt->List (Bool×Nat×Pt)->Type
 |true,_,_=>Empty
 |false,r,os=>fy (po r++iW os)
abbrev aoE{R:Type}:(nv:Bool)->(r:Pt)->(os:List (Bool×Nat×Pt))->tT nv r os->(fy (po r++iW os)->Option R)->Option R
 |true,_,_,x,_=>Empty.elim x
 |false,_,_,x,K=>K x
def isOk:(nv:Bool)->(r:Pt)->(os:List (Bool×Nat×Pt))->tT nv r os->fy (po r++iW os)->Prop
 |true,_,_,_,_=>False
 |false,_,_,x,q=>x=q
theorem aml{R:Type}{a:R}:{nv:Bool}->{r:Pt}->{os:List (Bool×Nat×Pt)}->{x:tT nv r os}->{q:fy (po r++iW os)}->{K:fy (po r++iW os)->Option R}->isOk nv r os x q->aoE nv r os x K=some a->K q=some a
 |true,_,_,_,_,_,h,_=>h.elim
 |false,_,_,_,_,_,rfl,h=>h
abbrev Rj(p:Pt):Option Pt->Type
 |none=>fy (po p)
 |some q=>fy (po p) ⊕ fy (po q)
abbrev YX{A B R:Type}(x:A ⊕ B)(f:A->R)(g:B->R):R:=match x with
 | .inl a=>f a
 | .inr b=>g b
def ajc(pp:Pt):(pq:Option Pt)->Rj pp pq->Value->fI->lh->List Nm->Prop
 |none,p,v,I,X,N=>Sem pp v none none [] (iD _ p) I X N
 |some _,.inl p,v,I,X,N=>Sem pp v none none [] (iD _ p) I X N
 |some q,.inr p,v,I,X,N=>Sem q v none none [] (iD _ p) I X N
structure bX where
 f:FuncId
 ps:List Pt
 pp:Pt
 pq:Option Pt
 nv:Bool
 lp:Bool
 r:Pt
 os:List (Bool×Nat×Pt)
 m:fy (pJ ps)->Option (Except (Rj pp pq) (tT nv r os))
def bX.oe(e:bX):aC:=⟨e.f,e.ps,e.r,e.os,λ_=>none⟩
def bX.S(e:bX)(vs:ze)(N:List Nm)(I:fI)(X:lh)(Φ:Ctx)(r:Except (Rj e.pp e.pq) (tT e.nv e.r e.os))(v:Value)(w':World):Prop:=
 ∃x q,r= .ok x/\isOk e.nv e.r e.os x q/\∃(N1 N2:List Nm) (D1 D2:List ck) (I1 I2:fI) (X1 X2:lh),Sem e.r v none none N D1 I1 X1 N1/\FE (Qb e.ps vs X) (λi=>vs[i]?) e.os N1 D2 I2 X2 N2/\D1++D2=iD _ q/\
  Sat ((dA I1++dA I2)++(hZ I++Φ)) w'
def bX.Sp(e:bX)(I:fI)(Φ:Ctx)(r:Except (Rj e.pp e.pq) (tT e.nv e.r e.os))(c:x7)(w':World):Prop:=
 ∃p,r= .error p/\∃(v:Value) (N1:List Nm) (I1:fI) (X1:lh),c=jI v/\ajc e.pp e.pq p v I1 X1 N1/\Sat (dA I1++(aD e.lp [] (hZ I)++Φ)) w'
def bX.Ok(P:Program)(Γg:Ctx)(e:bX):Prop:=Enters P e.f/\∀s r,e.m s=some r->∀(vs:ze) (N:List Nm) (I:fI) (X:lh) (Φ:Ctx) (w:World),
 w7 e.ps vs [] [] [] (iD _ s) I X N->Sat (dA I++Φ) w->(∀it∈Γg,it∈Φ)->nz P e.f vs w (e.S vs N I X Φ r) (e.Sp I Φ r)
theorem Sat.move{A B C:Ctx}{x:Item}{w:World}(h:Sat (A++x::(B++C)) w):Sat (A++(B++x::C)) w:=by
 refine h.BA (λj k=>(j<A.length/\k=j)\/(A.length<=j/\j<A.length+B.length/\k=j+1)\/(j=A.length+B.length/\k=A.length)\/(A.length+B.length<j/\k=j)) (λj b a=>?_) (λj k q c l i=>by omega);by_cases e:j<A.length
 .rw [eb e] at a;exact .inr ⟨j,b,.inl ⟨e,rfl⟩,by rw [eb e];exact a,bV.refl⟩
 .rw [de (by omega)] at a;by_cases g:j<A.length+B.length
  .rw [eb (by omega)] at a;refine .inr ⟨j+1,b,.inr (.inl ⟨by omega,g,rfl⟩),?_,bV.refl⟩;rw [de (by omega)];have:j+1-A.length=(j-A.length)+1:=by omega
   rw [this,iQ,eb (by omega)];exact a
  .rw [de (by omega)] at a;by_cases e3:j=A.length+B.length
   .subst e3;rw [show A.length+B.length-A.length-B.length=0 by omega] at a;simp at a;subst a;exact .inr ⟨A.length,x,.inr (.inr (.inl ⟨rfl,rfl⟩)),by simp,bV.refl⟩
   .refine .inr ⟨j,b,.inr (.inr (.inr ⟨by omega,rfl⟩)),?_,bV.refl⟩;rw [de (by omega)];have e4:j-A.length-B.length=(j-A.length-B.length-1)+1:=by omega
    rw [e4,iQ] at a;have f:j-A.length=(j-A.length-1)+1:=by omega
    rw [f,iQ,de (by omega)];have d:j-A.length-1-B.length=j-A.length-B.length-1:=by omega
    rw [d];exact a
theorem Sat.swp{w:World}{B C:Ctx}:∀{A P:Ctx},Sat (P++(A++(B++C))) w->Sat (P++(B++(A++C))) w
 |[],_,h=>h
 |x::A,P,h=>by
  have c:Sat ((P++[x])++(A++(B++C))) w:=by simpa using h
  have b:=Sat.swp (A:=A) c;have a:Sat (P++x::(B++(A++C))) w:=by simpa using b
  exact a.move
def dp:List Row->List Row
 |[]=>[]
 |r::G=>aD r.cL (r::dp G) (dp G)
abbrev G5(b:Bool)(H:List Row):List Row:=aD b (dp H) H
theorem EU{c:Nat}:{G:List Row}->bB c G=true->bB c (dp G)=true
 |[],_=>rfl
 |r::G,h=>by
  simp only [bB,an] at h;unfold dp;cases r.cL
  .exact EU h.2
  .show bB c (r::dp G)=true;simp only [bB,an];exact ⟨h.1,EU h.2⟩
theorem amk{c:Nat}{b:Bool}{G:List Row}(h:bB c G=true):bB c (G5 b G)=true:=by
 cases b
 .exact h
 .exact EU h
theorem sw{r:Row}:{G:List Row}->r∈dp G->r∈G/\r.cL=true
 |[],h=>by cases h
 |x::G,h=>by
  unfold dp at h;cases hx:x.cL <;> rw [hx] at h
  .exact ⟨b7 _ (sw h).1,(sw h).2⟩
  .rcases List.mem_cons.1 h with rfl|h
   .exact ⟨cx .., hx⟩
   .exact ⟨b7 _ (sw h).1,(sw h).2⟩
theorem Kv{G H:List Row}:dp (G++H)=dp G++dp H:=by
 induction G with
 |nil=>rfl
 |cons r G ih=>
  show aD r.cL (r::dp (G++H)) (dp (G++H))=aD r.cL (r::dp G) (dp G)++dp H;rw [ih];cases r.cL <;> rfl
theorem agu{ρ:aw}{T:aA}{w:World}{Γ:Ctx}(h:Sat Γ w){H:List Row}(b:∀r∈H,r.item ρ T∈Γ):Sat (ab ρ T (dp H)++Γ) w:=by
 refine h.akF _ (List.all_eq_true.2 λit bH=>?_) ?_
 .obtain ⟨r,a,rfl⟩:=List.mem_map.1 bH;exact Row.ahp (sw a).2
 .have:∀l:List Item,(∀it∈l,it.P Γ.M w)->ad5 Γ.M w l:=λl=>by
   induction l with
   |nil=>intro _;trivial
   |cons x l ih=>intro hl;exact ⟨hl x (cx ..),ih λit bH=>hl it (b7 _ bH)⟩
  refine this _ λit bH=>?_;obtain ⟨r,a,rfl⟩:=List.mem_map.1 bH;exact h.all _ (b r (sw a).1)
theorem am8{L:xc}{A B:Ctx}(h:∀i,some i∈L->i<A.length):∃a,kH L (A++B)=a++B/\a.length=A.length:=by
 induction L with
 |nil=>exact ⟨A,rfl,rfl⟩
 |cons o L ih=>
  obtain ⟨a,c,b⟩:=ih (λi hi=>h i (b7 _ hi));cases o with
  |none=>exact ⟨a,c,b⟩
  |some i=>
   refine ⟨a.set i jb,?_,by rw [qJ,b]⟩;show (kH L (A++B)).set i jb=_;have:=h i (cx ..);rw [c,List.set_append_left _ _ (by omega)]
theorem Sat.KS{w:World}{B C:Ctx}:∀{A:Ctx},Sat (B++(A++C)) w->Sat (B++C) w
 |[],h=>h
 |_x::A,h=>Sat.KS (A:=A) (Sat.BC h)
def JW{R:Type}(st:aB)(pp:Pt)(G1:List Row)(KP:AV->aB->Option R)(p:fy (po pp)):Option R:=
 match fill (uO [] st.c) pp none none 0 (iD _ p) with
 |⟨v,R1,k,_,_⟩=>KP v { st with c:=st.c+k,G:=R1.map (·.2)++G1 }
abbrev afV{R:Type}(st:aB)(pp:Pt):(pq:Option Pt)->(G1:List Row)->(KP:AV->aB->Option R)->Rj pp pq->Option R
 |none,G1,KP,p=>JW st pp G1 KP p
 |some q,G1,KP,p=>YX p (JW st pp G1 KP) (JW st q G1 KP)
def XP{R:Type}(fr:Fr)(st:aB)(d:zh)(args:List AV)(e:bX)(KP:Bool->AV->aB->Option R)(K:cF R):Option (Option R):=
 match F6 (cu (eQ st.G fr.H e.ps args) st.G) fr.H e.ps args [] [] [] with
  |some mr=>aD (Fk (mr.S.map λx=>dB (cu (eQ st.G fr.H e.ps args) st.G) fr.H x.2)&&NQ (cu (eQ st.G fr.H e.ps args) st.G).length (A9 (cu (eQ st.G fr.H e.ps args) st.G) fr.H mr.S)&&Vh st.c mr.B&&AV.cj st.c args&&Oh st.c mr.X&&tL (x8 e.ps args mr.X) e.os) (match cQ (pJ e.ps) mr.D with
   |some s=>some (fZ (e.m s) (afV st e.pp e.pq (aD e.lp (dp (cu (eQ st.G fr.H e.ps args) st.G)) (mf (tu (A9 (cu (eQ st.G fr.H e.ps args) st.G) fr.H mr.S) 0 (cu (eQ st.G fr.H e.ps args) st.G)))) (KP e.lp))
     (λx=>aoE e.nv e.r e.os x (MC fr st none d args e.oe mr (mf (tu (A9 (cu (eQ st.G fr.H e.ps args) st.G) fr.H mr.S) 0 (cu (eQ st.G fr.H e.ps args) st.G))) K)))
   |none=>none) none
  |none=>none
def K6{R:Type}(fr:Fr)(st:aB)(d:zh)(f:FuncId)(args:List AV)(KP:Bool->AV->aB->Option R)(K:cF R):List bX->Option (Option R)
 |[]=>none
 |e::tp=>aD (Nat.beq e.f f) (match XP fr st d args e KP K with
   |some r=>some r
   |none=>K6 fr st d f args KP K tp) (K6 fr st d f args KP K tp)
def aef{R:Type}(tp:List bX)(T:aA)(fr:Fr)(st:aB)(o:Oper)(KP:Bool->AV->aB->Option R)(K:cF R):Option (Option R):=match o.guard with
 |some _=>none
 |none=>(match o.op with
  | .panic x=>(match bu T st.E fr.F none x with
   |some (.ifc t v)=>some (KP false (.ifc t v) st)
   |_=>none)
  | .call c=>(match c.callee with
   | .value fo=>(match bu T st.E fr.F none fo with
    |some (.fn f a b)=>(match uk T st.E fr.F none c.args.toList with
     |some vs=>aD (pN o.dst T&&K0 fr.n o.dst&&st.low fr) (K6 fr st o.dst f (a++vs++b) KP K tp) none
     |none=>none)
    |_=>none)
   |_=>none)
  |_=>none)
section
variable {P : Program} {R : Type} {r : R} {K : cF R} {KP : Bool -> AV -> aB -> Option R} {b : Bool} {T : aA} {fr : Fr} {st : aB} {d : zh} {ρ : aw} {Φ Γg : Ctx} {w : World}
def YL(r:R)(KP:Bool->AV->aB->Option R)(T:aA)(fr:Fr)(st:aB)(ρ:aw)(Φ:Ctx)(v:Value)(w':World):Prop:=
 ∃(b:Bool) (ρ':aw) (st':aB) (av:AV),KP b av st'=some r/\aQ st.c ρ ρ'/\st.c<=st'.c/\st'.E=st.E/\av.val ρ'=v/\Sat (ab ρ' T st'.G++(ab ρ' T (G5 b fr.H)++Φ)) w'/\ay ρ' T st.E fr.F=ay ρ T st.E fr.F
theorem HW{pp:Pt}{f:List Row}{p:fy (po pp)}{v:Value}{w':World}{e:List Nm}{m:fI}{w:lh}
  (hl:st.low fr=true) (o:bB st.c f=true) (u:Sem pp v none none [] (iD _ p) m w e)
  (z:Sat (dA m++(ab ρ T f++(ab ρ T (G5 b fr.H)++Φ))) w') (h:JW st pp f (KP b) p=some r):YL r KP T fr st ρ Φ v w':=by
 have n:=ym _ _ _ _ _ _ _ _ _ u;have d:=Vm (ρ:=ρ) (c:=st.c) (N:=[]) (B:=[]) (N2:=e) .nil n rfl;have a:aQ st.c ρ (λi=>aD (Nat.blt i st.c) (ρ i) ((e[i-st.c]?).getD dm)):=λj D=>by
  have:Nat.blt j st.c=true:=by simpa using D
  simp only [this]
 generalize y:(λi=>aD (Nat.blt i st.c) (ρ i) ((e[i-st.c]?).getD dm))=ρ' at d a;obtain ⟨l,t,s,q,g⟩:=Gc (T:=T) pp v none none [] (iD _ p) m w e u (FK _) d (by simp) [];rw [ma,qg] at l t s q g;unfold JW at h;generalize fill (uO [] st.c) pp none none 0 (iD _ p)=L at l t s q g h;obtain ⟨x,E,k,G,F⟩:=L;simp only at l t s q g;dsimp only at h;have e3:=aZ (T:=T) a o;have e4:=aZ (T:=T) a (amk (b:=b) (aB.cE.1 hl).2.2.2);refine ⟨b,ρ',_,x,h,a,qP _ _,rfl,l,?_,pC hl a⟩;show Sat (ab ρ' T (E.map (·.2)++f)++(ab ρ' T (G5 b fr.H)++Φ)) w';rw [bg,e3,e4,cb];exact Sat.ZN (A:=[]) (B:=dA m) (C:=ab ρ T f++(ab ρ T (G5 b fr.H)++Φ)) (by simpa using z) g.rw
theorem Rp{pp:Pt}:{pq:Option Pt}->{a:List Row}->{p:Rj pp pq}->{v:Value}->{w':World}->{f:List Nm}->{d:fI}->{e:lh}->
  st.low fr=true->bB st.c a=true->ajc pp pq p v d e f->Sat (dA d++(ab ρ T a++(ab ρ T (G5 b fr.H)++Φ))) w'->afV st pp pq a (KP b) p=some r->YL r KP T fr st ρ Φ v w'
 |none,_,_,_,_,_,_,_,hl,hG,h1,hs,h=>HW hl hG h1 hs h
 |some _,_,.inl _,_,_,_,_,_,hl,hG,h1,hs,h=>HW hl hG h1 hs h
 |some _,_,.inr _,_,_,_,_,_,hl,hG,h1,hs,h=>HW hl hG h1 hs h
theorem agL{e:bX}{args:List AV}(hl:st.low fr=true)(n:Sat (ab ρ T st.G++(ab ρ T fr.H++Φ)) w)(he:e.Ok P Γg)(l:∀it∈Γg,it∈Φ)(h:XP fr st d args e KP K=some (some r)):
  nz P e.f (AV.aj ρ args) w (aU r K T fr st none d ρ Φ) (λc w'=>∃v,c=jI v/\YL r KP T fr st ρ Φ v w'):=by
 have D:=tP (ids:=eQ st.G fr.H e.ps args) (aB.cE.1 hl).2.2.1;replace n:=kY (ids:=eQ st.G fr.H e.ps args) n;unfold XP at h;generalize cu (eQ st.G fr.H e.ps args) st.G=a at D n h;have hd:=agu n (H:=a++fr.H) (λr hr=>List.mem_append.2 ((List.mem_append.1 hr).imp (λh=>List.mem_map_of_mem h) (λh=>qh _ (List.mem_map_of_mem h))));replace hd:Sat (ab ρ T a++(ab ρ T fr.H++(ab ρ T (dp (a++fr.H))++Φ))) w:=by exact Sat.swp (P:=ab ρ T a) (Sat.swp (P:=[]) hd)
 have M:=l;replace l:∀it∈Γg,it∈ab ρ T (dp (a++fr.H))++Φ:=λit bH=>hV _ (M it bH);generalize J:ab ρ T (dp (a++fr.H))++Φ=g at hd l;have hdr:∀{A:Ctx} {w':World},Sat (A++g) w'->Sat (A++Φ) w':=λ{A w'} h=>by rw [<-J] at h;exact Sat.KS h
 replace n:=hd;split at h
 .rename_i m hm;obtain ⟨h1,Y⟩:=aI h;simp only [an] at h1;obtain ⟨⟨⟨⟨⟨h3,h4⟩,h5⟩,h6⟩,h7⟩,h9⟩:=h1;split at Y
  .rename_i s O;simp only [et] at Y;obtain ⟨N,I,s1,n1,a1⟩:=Al n e.ps args [] [] [] m [] hm (.inl rfl) .nil;rw [<-Cd _ O] at s1;obtain ⟨p1,p2⟩:=Mr n a1;have o:=yC h3;obtain ⟨q1,_⟩:=yA n p1 o;have F:∀(L:xc) (G:List Row) (k:Nat),bB st.c G=true->bB st.c (mf (tu L k G))=true:=λL G=>by
    induction G with
    |nil=>intro k _;rfl
    |cons r G ih=>
     intro k V;simp only [bB,an] at V;show bB st.c (mf ((aD (lY k L) .gone r)::tu L (k+1) G))=true;cases lY k L
     .cases r <;> first|exact ih (k+1) V.2|(simp only [mf,bB,an];exact ⟨V.1,ih (k+1) V.2⟩)
     .exact ih (k+1) V.2
   have t:=F (A9 a fr.H m.S) a 0 D;have Q:∀it∈Γg,it∈kH (m.S.map λx=>dB a fr.H x.2) (ab ρ T a++(ab ρ T fr.H++g)):=λit bH=>by
    obtain ⟨k,hk⟩:=List.mem_iff_getElem?.1 (l it bH);have hk2:(ab ρ T a++(ab ρ T fr.H++g))[a.length+fr.H.length+k]? =some it:=by
     rw [de (by simp [ab];omega),de (by simp [ab];omega)];have:a.length+fr.H.length+k-(ab ρ T a).length-(ab ρ T fr.H).length=k:=by simp [ab];omega
     rw [this];exact hk
    refine gr (i:=a.length+fr.H.length+k) ?_;rw [Cf,hk2];intro R;obtain ⟨x,_,hx⟩:=List.mem_map.1 R;have:=NZ hx;omega
   have u:=λrr hr=>he.2 s rr hr (AV.aj ρ args) N I (eV ρ m.X) _ w (by simpa only [AV.aj] using s1) q1 Q;have j:∀{A:Ctx} {w':World},Sat (A++(hZ I++kH (m.S.map λx=>dB a fr.H x.2) (ab ρ T a++(ab ρ T fr.H++g)))) w'->Sat (A++(ab ρ T (mf (tu (A9 a fr.H m.S) 0 a))++(ab ρ T fr.H++Φ))) w':=λ{A w'} c4=>by have W:=G8 p2 o c4;rw [Ow a1,C0 h4] at W;have c6:=EH W;rw [<-cb (ab ρ T (mf (tu (A9 a fr.H m.S) 0 a))),<-cb A] at c6;have c7:=hdr c6;rwa [cb A,cb] at c7
   rcases adv Y with ⟨p,hq,hk⟩|⟨q,hq,hk⟩
   .refine (u _ hq).mono (λv w' y=>?_) (λc w' y=>?_)
    .obtain ⟨x',q',z,_⟩:=y;cases z
    .obtain ⟨p',C,v,N1,I1,X1,c1,Z,E⟩:=y;cases C;refine ⟨v,c1,?_⟩;cases U:e.lp with
     |false=>rw [U] at E hk;exact Rp (b:=false) hl t Z (j E) hk
     |true=>
      rw [U] at E hk;obtain ⟨A',e1,_⟩:=am8 (L:=m.S.map λx=>dB a fr.H x.2) (A:=ab ρ T a++ab ρ T fr.H) (B:=g) (λi hi=>by obtain ⟨x,_,hx⟩:=List.mem_map.1 hi;have:=NZ hx;simp only [ab,eP,qb];omega)
      rw [cb] at e1;rw [e1] at E;have W:Sat (dA I1++g) w':=Sat.KS (A:=A') E;rw [<-J,Kv,bg,cb] at W;exact Rp (b:=true) hl (EU D) Z W hk
   .refine (u _ hq).mono (λv w' y=>?_) (λc w' y=>?_)
    .obtain ⟨x',q',z,hi,N1,N2,D1,D2,I1,I2,X1,X2,c1,Z,E,c4⟩:=y;cases z;exact LI (e:=e.oe) hl t n1 h5 h6 h7 h9 c1 Z E aA.get_none (j c4) (.inl rfl) (aml hi hk)
    .obtain ⟨p',C,_⟩:=y;cases C
  .cases Y
 .cases h
theorem K5{f:FuncId}{args:List AV}(hl:st.low fr=true)(g:Sat (ab ρ T st.G++(ab ρ T fr.H++Φ)) w)(a:∀it∈Γg,it∈Φ):∀{tp:List bX},(∀e∈tp,e.Ok P Γg)->K6 fr st d f args KP K tp=some (some r)->
  Enters P f/\nz P f (AV.aj ρ args) w (aU r K T fr st none d ρ Φ) (λc w'=>∃v,c=jI v/\YL r KP T fr st ρ Φ v w')
 |[],_,h=>by cases h
 |e::tp,htp,h=>by
  unfold K6 at h;rcases dR h with ⟨k,b⟩|⟨_,b⟩
  .split at b
   next l i=>cases b;have:=b0 k;subst this;exact ⟨(htp e (cx ..)).1,agL hl g (htp e (cx ..)) a i⟩
   .exact K5 hl g a (λe j=>htp e (b7 _ j)) b
  .exact K5 hl g a (λe j=>htp e (b7 _ j)) b
variable {σ : zg} {Q : bm} {D : za} {ops rest : zl} {tp : List bX}
theorem alL{o:Oper}(Y:fL T st.E fr.F)(R:Sat (ab ρ T st.G++(ab ρ T fr.H++Φ)) w)(I:∀it∈Γg,it∈Φ)(M:∀e∈tp,e.Ok P Γg)
  (h:aef tp T fr st o KP K=some (some r))
  (next:∀st' ρ' w',fL T st'.E fr.F->aQ st.c ρ ρ'->st.c<=st'.c->K st'=some r->ab ρ' T fr.H=ab ρ T fr.H->Sat (ab ρ' T st'.G++(ab ρ' T fr.H++Φ)) w'->WL P σ ops.toArray Q fr.n D rest (ay ρ' T st'.E fr.F) w')
  (g:∀b v st' ρ' w',aQ st.c ρ ρ'->st.c<=st'.c->KP b v st'=some r->st'.E=st.E->ay ρ' T st.E fr.F=ay ρ T st.E fr.F->Sat (ab ρ' T st'.G++(ab ρ' T (G5 b fr.H)++Φ)) w'->At Q (.panic (jI (v.val ρ'))) fr.n D (ay ρ' T st'.E fr.F) w'):
  WL P σ ops.toArray Q fr.n D (o::rest) (ay ρ T st.E fr.F) w:=by
 obtain ⟨dst,op,ty,pos,af,gd⟩:=o;unfold aef at h;split at h
 .cases h
 rename_i q;simp only at q;subst q;split at h
 .rename_i x j;simp only at j;subst j;split at h
  next t v hx=>have hk:=iN h;have m:=aO (ρ:=ρ) hx;rw [aA.get_none] at m;simp only [AV.val] at m;refine akp m ?_;have:=g false (.ifc t v) st ρ w .refl (c8 _) hk rfl rfl R;simp only [AV.val] at this;exact this
  .cases h
 .rename_i c j;simp only at j;subst j;obtain ⟨y,xs,tys⟩:=c;obtain ⟨xs⟩:=xs;simp only at h;split at h
  .rename_i fo;split at h
   .rename_i f a b N;split at h
    .rename_i vs J;obtain ⟨U,X⟩:=aI h;simp only [an] at U;obtain ⟨⟨O,hd⟩,hl⟩:=U;obtain ⟨s,S⟩:=K5 hl R I M X;have d:=aO (ρ:=ρ) N;have i:=jo (ρ:=ρ) J;rw [aA.get_none] at d i;simp only [AV.val] at d;have k:AV.aj ρ (a++vs++b)=AV.aj ρ a++AV.aj ρ vs++AV.aj ρ b:=by rw [dh,dh]
     have fin:∀v w',aU r K T fr st none dst ρ Φ v w'->WL P σ ops.toArray Q fr.n D rest (sF dst true v (ay ρ T st.E fr.F)) w':=λv w' L=>by obtain ⟨ρ',st',av,k1,C,B,p,A,z,u,W⟩:=L;have:=next st' ρ' w' (by rw [p];exact Y.out O none av) C B k1 u W;rw [p,vW,A,z,aA.get_none] at this;exact this
     have l:∀c w',(∃v,c=jI v/\YL r KP T fr st ρ Φ v w')->At Q (.panic c) fr.n D (ay ρ T st.E fr.F) w':=λc w' L=>by obtain ⟨v,rfl,V,ρ',st',av,k1,C,B,p,A,z,u⟩:=L;have:=g V av st' ρ' w' C B k1 p u z;rw [A,p,u] at this;exact this
     cases dst with
     |none=>exact agH s d i k S fin l
     |some dd=>exact YB s d i k hd S fin l
    .cases h
   .cases h
  .cases h
 .cases h
end
theorem Sat.aic{A B:Ctx}{x:Item}{w:World}(h:Sat (A++x::B) w):Sat (x::(A++B)) w:=by
 refine h.BA (λj k=>(j=0/\k=A.length)\/(0<j/\j<=A.length/\k+1=j)\/(A.length<j/\k=j)) (λj b a=>?_) (λj k q c f d=>by omega);cases j with
 |zero=>
  simp only [qm,et] at a;subst a;exact .inr ⟨A.length,x,.inl ⟨rfl,rfl⟩,by simp,bV.refl⟩
 |succ j=>
  simp only [iQ] at a;by_cases e:j<A.length
  .rw [eb e] at a;exact .inr ⟨j,b,.inr (.inl ⟨by omega,by omega,rfl⟩),by rw [eb e];exact a,bV.refl⟩
  .rw [de (by omega)] at a;refine .inr ⟨j+1,b,.inr (.inr ⟨by omega,rfl⟩),?_,bV.refl⟩;rw [de (by omega)];have:j+1-A.length=(j-A.length)+1:=by omega
   rw [this,iQ];exact a
theorem Sat.ap0{Γ:Ctx}{it new:Item}{w:World}(h:Sat (it::Γ) w)(a:∀b∈new.own,b∈it.own)(c:∀M',Mv (Ctx.M (it::Γ)) w M' w->new.P M' w):Sat (new::Γ) w:=by have:=h.lJ (i:=0) (it:=it) (new:=new) (w':=w) rfl ⟨rfl,rfl,rfl,c8 _,λ_ _ _=>rfl⟩ (λb hb=>⟨h.lt (Ctx.CQ.2 (.inl (a b hb))),.inl (a b hb)⟩) (λM' m _=>c M' m);simpa using this
def IX(X:Cx)(T:aA)(fr:Fr)(st:aB)(o:Oper):Option (TypeId×List AV×List AV):=match o.op,o.guard with
 | .alloc t,none=>(match Wk X.P t with
  |some cs=>some (t,[],cs)
  |none=>none)
 | .buildSlice t len ps,none=>(match iR X.P t with
  |some e=>(match oz X.P e with
   |some z=>(match uk T st.E fr.F none (ps.toList.map (·.2)) with
    |some vs=>(match Ei (λi=>some (i*z.1,z.1)) ((ps.toList.map (·.1)).zip vs) (Zn len (z.2.2.cells.toList.map mQ)) with
     |some cs=>aD ( Nat.beq z.2.2.cells.size z.1&&Nat.ble (len*z.1) 16777216&&(Nat.blt 0 (len*z.1)||Nat.beq len 0&&ps.toList.isEmpty) ) (some (e,vs,cs)) none
     |none=>none)
    |none=>none)
   |none=>none)
  |none=>none)
 |_,_=>none
theorem Y4{X:Cx}{T:aA}{fr:Fr}{st:aB}{ρ:aw}{o:Oper}{e:TypeId}{vs cs:List AV}(h:IX X T fr st o=some (e,vs,cs))(w:World):
  om X.P (ay ρ T st.E fr.F) o w (FM o w.heap.size) (w.alloc (.cells (AV.aj ρ cs).toArray e)):=by
 obtain ⟨dst,op,ty,pos,af,gd⟩:=o;unfold IX at h;simp only at h;split at h
 .rename_i t;split at h
  .rename_i p a;cases h;unfold Wk at a;split at a
   next z k=>cases a;obtain ⟨n,b,z⟩:=z;have:=H5 (P:=X.P) (E:=ay ρ T st.E fr.F) (w:=w) (dst:=dst) (ty:=ty) (pos:=pos) (af:=af) (zs:=z.cells.toList) (cP k) (by simp);rw [pD];exact this
   .cases a
  .cases h
 .rename_i t len ps;obtain ⟨ps⟩:=ps;split at h
  .rename_i e' q;split at h
   .rename_i z k;obtain ⟨n,bytes,z⟩:=z;split at h
    .rename_i s m;split at h
     .rename_i p a;obtain ⟨r,v⟩:=aI h;cases v;simp only [an,fi] at r;obtain ⟨⟨A,y⟩,g⟩:=r;have f:z.cells.size=n:=b0 A;have d:=jo (ρ:=ρ) m;rw [aA.get_none] at d;have c:=Cr (ρ:=ρ) a;rw [HQ,Yx,pD] at c;rcases g with g|⟨g,u⟩
      .have i:0<n:=by
        have:0<len*n:=by simpa using g
        exact Nat.pos_of_ne_zero (λe=>by simp [e] at this)
       have j:yO n len z.cells.toList ((ps.map (·.1)).zip (AV.aj ρ vs))=some (AV.aj ρ cs).toArray:=by unfold yO;have l:=Ln z.cells.toList (by simp [f];exact i) len;simp only [fb,f] at l;simp only [fb,f];rw [<-c,<-l]
       exact xR (P:=X.P) (w:=w) (dst:=dst) (ty:=ty) (pos:=pos) (af:=af) (cq q) (cP k) (zs:=z.cells.toList) (by simp) g y d j
      .have x:len=0:=b0 g;subst x;have l:ps=[]:=by simpa using u
       subst l;have:cs=[]:=by simp only [List.map_nil,List.zip_nil_left,Zn,List.replicate_zero,List.flatten_nil,Ei,et] at a;exact a.symm
       subst this;exact vh (P:=X.P) (E:=ay ρ T st.E fr.F) (w:=w) (dst:=dst) (ty:=ty) (pos:=pos) (af:=af) (cq q) (cP k)
     .cases h
    .cases h
   .cases h
  .cases h
 .cases h
def ajs{R:Type}(X:Cx)(T:aA)(fr:Fr)(st:aB)(o:Oper)(K:cF R):Option R:=match IX X T fr st o,o.dst with
 |some p,some d=>(match o.op with
  | .buildSlice _ len _=>(match Bs X.tys p.1 with
   |some u=>(match Xn (cu (AV.fg (.agg p.2.1)++(p.2.1.map AV.fg).flatten) st.G) fr.H u len p.2.2 with
    |some xs=>aD (st.low fr&&Nat.ble len 9223372036854775807) (K { st with c:=st.c+1,E:=cJ (some d) none (.sl st.c) st.E,G:= .own st.c u p.1 xs st.c::cu (AV.fg (.agg p.2.1)++(p.2.1.map AV.fg).flatten) st.G }) none
    |none=>none)
   |none=>none)
  |_=>aD (st.low fr&&AV.cj st.c p.2.2) (afo st d p.1 p.2.2 K) none)
 |_,_=>none
section
variable {X : Cx} {R : Type} {r : R} {K : cF R} {T : aA} {fr : Fr} {st : aB} {ρ : aw} {Φ : Ctx} {w : World}
theorem amg{o:Oper}{b:Nat}{e':TypeId}{k:ze}(g:Sat (ab ρ T st.G++(ab ρ T fr.H++(box b e' k::Φ))) w)
  (I:∀e vs cs,IX X T fr st o=some (e,vs,cs)->e'=e/\k=AV.aj ρ cs) (h:ajs X T fr st o K=some r):
  aU r K T fr st none o.dst ρ Φ (FM o b) w:=by
 obtain ⟨dst,op,ty,pos,af,gd⟩:=o;unfold ajs at h;simp only at h;split at h
 .rename_i p d hp;obtain ⟨e,vs,cs⟩:=p;obtain ⟨rfl,rfl⟩:=I _ _ _ hp;split at h
  .rename_i t len ps;split at h
   .rename_i u L;split at h
    .rename_i xs n;obtain ⟨A,z⟩:=aI h;simp only [an] at A;obtain ⟨hl,J⟩:=A;have s:=tP (ids:=AV.fg (.agg vs)++(vs.map AV.fg).flatten) (aB.cE.1 hl).2.2.1;replace g:=kY (ids:=AV.fg (.agg vs)++(vs.map AV.fg).flatten) g;simp only at z;generalize cu (AV.fg (.agg vs)++(vs.map AV.fg).flatten) st.G=G at z s g n;obtain ⟨k1,F⟩:=Rf (ρ:=ρ) (T:=T) g _ _ _ n;have f:Sat ((ab ρ T G++ab ρ T fr.H)++box b e' (AV.aj ρ cs)::Φ) w:=by rw [cb];exact g
     have a:=f.aic;have mv:Mv (Ctx.M (ab ρ T G++(ab ρ T fr.H++(box b e' (AV.aj ρ cs)::Φ)))) w (Ctx.M (box b e' (AV.aj ρ cs)::((ab ρ T G++ab ρ T fr.H)++Φ))) w:=Mv.weaken w λc B=>by
      obtain ⟨it,hi,hb⟩:=B;refine ⟨it,?_,hb⟩;simp only [oi,List.mem_append] at hi ⊢;rcases hi with h|(h|h)|h
      .exact .inr (.inr (.inl h))
      .exact .inl h
      .exact .inr (.inl h)
      .exact .inr (.inr (.inr h))
     refine aU.new (ρ':=ρ.set st.c { dm with v:=(some ⟨b,0,none⟩,len,len),y:=⟨.l u,xs⟩ }) (av:= .sl st.c) hl z aw.aX (l5 _) rfl (by simp only [AV.val,aw.bG];rfl) ?_;show Sat (ab _ T (_::G)++_) w;have e:=aZ (T:=T) (aw.aX (ρ:=ρ) (j:=st.c) (x:={ dm with v:=(some ⟨b,0,none⟩,len,len),y:=⟨.l u,xs⟩ })) s;rw [ab,eT];rw [ab] at e;rw [e];have hb:gf w b e' (AV.aj ρ cs):=a.at_ (i:=0) rfl;have q:Sat ((Row.own st.c u e' xs st.c).item (ρ.set st.c { dm with v:=(some ⟨b,0,none⟩,len,len),y:=⟨.l u,xs⟩ }) T::((ab ρ T G++ab ρ T fr.H)++Φ)) w:=by
      refine a.ap0 (λc B=>?_) (λM' m=>?_)
      .simp only [Row.item,aw.bG] at B;exact GN B
      .simp only [Row.item,aw.bG];exact ⟨(cf.of (jX.fresh hb k1 J (F.mv (mv.trans m)))).Lm,trivial⟩
     rw [cb] at q;exact q
    .cases h
   .cases h
  .rename_i C;obtain ⟨A,z⟩:=aI h;simp only [an] at A;obtain ⟨hl,E⟩:=A;have f:Sat ((ab ρ T st.G++ab ρ T fr.H)++box b e' (AV.aj ρ cs)::Φ) w:=by rw [cb];exact g
   have a:=f.aic;rw [cb] at a;have ev:FM ⟨some d,op,ty,pos,af,gd⟩ b= .pointer (some ⟨b,0,none⟩):=by
    unfold FM;split
    next D=>exact (C _ _ _ D).elim
    .rfl
   rw [ev];refine aU.new (ρ':=ρ.set st.c { dm with b:=b }) (av:= .ptr st.c 0) hl z aw.aX (l5 _) rfl (by simp only [AV.val,aw.bG]) ?_;show Sat (ab _ T (_::st.G)++_) w;have e:=aZ (T:=T) (aw.aX (ρ:=ρ) (j:=st.c) (x:={ dm with b:=b })) (aB.cE.1 hl).2.2.1;rw [ab,eT];rw [ab] at e;rw [e];simp only [Row.item,aw.bG];rw [AV.bZ aw.aX _ E];exact a
 .cases h
end
end Go.Proofs.YtcgihjbfppkcfaaGreatDoor
