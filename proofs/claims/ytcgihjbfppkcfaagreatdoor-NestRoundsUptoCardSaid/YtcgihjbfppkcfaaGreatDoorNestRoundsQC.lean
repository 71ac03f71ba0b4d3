/- Own texts for NestRoundsQ, cut and joined by a program. -/
import Derived.Test.YtcgihjbfppkcfaaGreatDoorNestRoundsQB
set_option linter.all false
namespace Go.Proofs.YtcgihjbfppkcfaaGreatDoor
open IntKind (i64)
open Go.Lib
def bW(a b:Item):Prop:=(∀x,x∈b.own->x∈a.own)/\∀M w,a.P M w->b.P M w
theorem bW.refl{a:Item}:bW a a:=⟨λ_ h=>h,λ_ _ h=>h⟩
def afV(ρ:ay)(T:aB)(G H:List Row)(s:Src)(it:Item):Prop:=
 (it.own=[]/\(∀M w,it.P M w)/\∀r,¬s.at_ G H r)\/∃r,s.at_ G H r/\bW (r.item ρ T) it/\(r.cM=true->it.own=[])/\(r.cM=false->bW it (r.item ρ T))
def SI(ρ:ay)(T:aB)(G H:List Row)(a:Bool×Src)(b:Bool×Item):Prop:=a.1=b.1/\afV ρ T G H a.2 b.2
inductive gi{α β:Type}(R:α->β->Prop):List α->List β->Prop
 |nil:gi R [] []
 |cons {a b l m}:R a b->gi R l m->gi R (a::l) (b::m)
theorem gi.length{α β:Type}{R:α->β->Prop}{l:List α}{m:List β}(h:gi R l m):l.length=m.length:=by
 induction h with
 |nil=>rfl
 |cons _ _ ih=>simp [ih]
theorem gi.append{α β:Type}{R:α->β->Prop}{l l':List α}{m a:List β}(h:gi R l m)(k:gi R l' a):gi R (l++l') (m++a):=by
 induction h with
 |nil=>exact k
 |cons b _ ih=>exact .cons b ih
theorem gi.get{α β:Type}{R:α->β->Prop}{l:List α}{m:List β}(h:gi R l m):∀{i:Nat} {a:α},l[i]? =some a->∃b,m[i]? =some b/\R a b:=by
 induction h with
 |nil=>intro i a h;simp at h
 |cons c _ ih=>
  grind
def NBr(ρ:ay)(o:zc)(a:Nm):Prop:=match o with
 |some j=>a.b=(ρ j).b/\a.v=(ρ j).v/\a.m=(ρ j).m
 |none=>a.v=(none,0,0)/\a.m=none
abbrev NB(ρ:ay)(B:wi)(N:List Nm):Prop:=gi (NBr ρ) B N
theorem NB.at_{ρ:ay}{B:wi}{N:List Nm}(h:NB ρ B N){n j:Nat}(hb:PY ((B[n]?).getD none) (some j)=true):∃a,N[n]? =some a/\a.b=(ρ j).b/\a.v=(ρ j).v:=by
 have e:=anV hb;cases hn:B[n]? with
 |none=>rw [hn] at e;cases e
 |some o=>
  rw [hn] at e;subst e;obtain ⟨a,d,c⟩:=h.get hn;exact ⟨a,d,c.1,c.2.1⟩
section
variable {ρ : ay} {T : aB} {G H : List Row} {Φ : Ctx} {w : World}
theorem Vq(g:Sat (ab ρ T G++(ab ρ T H++Φ)) w){t:Ty}{v:AV}{q:zc×Src×List t.T}(h:aak G H t v=some q):∃a:Nm,NBr ρ q.1 a/\v.val ρ=sl a.v/\afV ρ T G H q.2.1 (ND true t.rep a.v q.2.2 false):=by
 unfold aak at h;split at h
 .split at h
  .rename_i s c t' l b d;split at h
   next l' hl=>cases h;obtain ⟨rfl,rfl⟩:=tN hl;obtain ⟨f,e⟩:=bX d;have  :=b0 e;subst this;refine ⟨ρ c,⟨rfl,rfl,rfl⟩,by simp [AV.val],.inr ⟨_,f,⟨λ_ h=>h,λM w h _=>⟨(h aB.get_none).1,λhb=>by cases hb⟩⟩,λ_=>rfl,λh=>by cases h⟩⟩
   .cases h
  .cases h
 .cases h;exact ⟨dy,⟨rfl,rfl⟩,by rfl,.inl ⟨rfl,λM w _=>⟨bS.nil,λhb=>by cases hb⟩,λr h=>h⟩⟩
 .cases h
theorem UN(i:Sat (ab ρ T G++(ab ρ T H++Φ)) w){t:Ty}{e:TypeId}{v:AV}{q:zc×Src×List t.T}(h:Z3 G H t e v=some q):∃a:Nm,NBr ρ q.1 a/\v.val ρ=sl a.v/\a.y=⟨.l t,q.2.2⟩/\afV ρ T G H q.2.1 (tQ t.rep e a.v q.2.2 True):=by
 unfold Z3 at h;split at h
 .split at h
  .rename_i s g t' e' l f j;obtain ⟨k,c⟩:=aI h;have n:=b0 k;subst n;split at c
   next l' hl=>cases c;obtain ⟨rfl,rfl⟩:=tN hl;obtain ⟨d,m⟩:=bX j;have  :=b0 m;subst this;have b:=(Src.holds i d).2;refine ⟨{ ρ g with y:=⟨.l t',l⟩ },⟨rfl,rfl,rfl⟩,by simp [AV.val],rfl,.inr ⟨_,d,⟨λ_ h=>h,λM w h=>⟨h.1,trivial⟩⟩,λh=>(by cases h),λ_=>⟨λ_ h=>h,λM w h=>⟨h.1,b⟩⟩⟩⟩
   .cases c
  .cases h
 .cases h;exact ⟨{ dy with y:=⟨.l t,([])⟩ },⟨rfl,rfl⟩,by rfl,rfl,.inl ⟨rfl,λM w=>⟨cf.nil,trivial⟩,λr h=>h⟩⟩
 .cases h
theorem Wh(j:Sat (ab ρ T G++(ab ρ T H++Φ)) w):(t:Ty)->(vs:List AV)->(o:v7)->(B:wi)->(d:DR t)->(N:List Nm)->Hf G H t vs o B=some d->NB ρ B N->
  ∃us N' I,vs=us++d.vs/\Qh t d.x (AV.al ρ us) o N I N' d.o/\NB ρ d.B N'/\gi (SI ρ T G H) d.S I
 | .i k,vs,o,B,d,N,h,hN=>by
  unfold Hf at h;split at h
  next R x us=>obtain ⟨z,y⟩:=aI h;have:=n5 z;subst this;cases y;exact ⟨[.int k x],N,[],rfl,⟨by simp [AV.al,AV.val],rfl,rfl,rfl⟩,hN,.nil⟩
  .cases h
 | .bo,vs,o,B,d,N,h,hN=>by
  unfold Hf at h;split at h
  next x us=>cases h;exact ⟨[.bool x],N,[],rfl,⟨by simp [AV.al,AV.val],rfl,rfl,rfl⟩,hN,.nil⟩
  .cases h
 | .s,vs,o,B,d,N,h,hN=>by
  unfold Hf at h;split at h
  next x us=>cases h;exact ⟨[.str x],N,[],rfl,⟨by simp [AV.al,AV.val],rfl,rfl,rfl⟩,hN,.nil⟩
  .cases h
 | .un,vs,o,B,d,N,h,hN=>by
  cases h;exact ⟨[],N,[],rfl,⟨by simp [AV.al],rfl,rfl,rfl⟩,hN,.nil⟩
 | .n,vs,o,B,d,N,h,hN=>by cases h
 | .mp _ _,vs,o,B,d,N,h,hN=>by cases h
 | .p a b,vs,o,B,d,N,h,hN=>by
  unfold Hf at h;split at h
  .rename_i d1 z;split at h
   next d2 y=>cases h;obtain ⟨u,E,J,f,c,n1,Q⟩:=Wh j a vs o B d1 N z hN;obtain ⟨r,N2,F,O,K,M,P⟩:=Wh j b d1.vs d1.o d1.B d2 E y n1;refine ⟨u++r,N2,J++F,by rw [f,O,cb],?_,M,Q.append P⟩;rw [dp];exact ⟨_,_,E,J,F,d1.o,c,K,rfl,rfl⟩
   .cases h
  .cases h
 | .l t,vs,o,B,d,N,h,hN=>by
  unfold Hf at h;split at h
  .rename_i v us;split at h
   .split at h
    next q g=>cases h;obtain ⟨a,n1,f,c⟩:=Vq j g;refine ⟨[v],N++[a],_,rfl,⟨a,by simp [AV.al];rw [f],rfl,.inl ⟨rfl,rfl⟩⟩,hN.append (.cons n1 .nil),.cons ⟨rfl,c⟩ .nil⟩
    .cases h
   .rename_i e L;split at h
    next q g=>cases h;obtain ⟨a,n1,f,m,c⟩:=UN j g;refine ⟨[v],N++[a],_,rfl,⟨a,by grind [AV.al],rfl,.inr ⟨e,rfl,rfl,m⟩⟩,hN.append (.cons n1 .nil),.cons ⟨rfl,c⟩ .nil⟩
    .cases h
   .cases h
  .cases h
 | .ex,vs,o,B,d,N,h,hN=>by
  unfold Hf at h;split at h
  .rename_i D C A v us;split at h
   .split at h
    next q g=>cases h;obtain ⟨a,n1,f,c⟩:=Vq j g;refine ⟨[.int .i64 D,.int .i64 C,.int .i64 A,v],N++[a],_,rfl,⟨a,by simp only [AV.al];rw [f];rfl,rfl,.inl ⟨rfl,rfl⟩⟩,hN.append (.cons n1 .nil),.cons ⟨rfl,c⟩ .nil⟩
    .cases h
   .rename_i e L;split at h
    next q g=>cases h;obtain ⟨a,n1,f,m,c⟩:=UN j g;refine ⟨[.int .i64 D,.int .i64 C,.int .i64 A,v],N++[a],_,rfl,⟨a,by simp only [AV.al];rw [f];rfl,rfl,.inr ⟨e,rfl,rfl,m⟩⟩,hN.append (.cons n1 .nil),.cons ⟨rfl,c⟩ .nil⟩
    .cases h
   .cases h
  .cases h
abbrev fm(ρ:ay)(X:List (Nat×List AV)):lO:=X.map λx=>(x.1,AV.al ρ x.2)
abbrev iD(ρ:ay)(fx:jE):Fx:=fx.map λq=>(q.1.val ρ,AV.al ρ q.2)
theorem aed{fx:jE}:fxC (iD ρ fx)=AV.al ρ (Kp fx):=by
 cases fx with
 |none=>simp [fxC,Kp,AV.al]
 |some q=>rfl
theorem Of{p:Pt}{a:List AV}:fx1 p (AV.al ρ a)=iD ρ (sK p a):=by
 cases a with
 |nil=>rfl
 |cons u us=>
  unfold fx1 sK;cases YD p <;> simp [AV.al]
theorem ZE{b:Bool}{x:List AV}:AV.al ρ (aD b x [])=aD b (AV.al ρ x) []:=by grind [AV.al]
theorem Rx{fx:jE}:(iD ρ fx).isSome=fx.isSome:=by cases fx <;> rfl
theorem xi{fx:jE}{v:AV}(h:∀q,fx=some q->q.1.val ρ=v.val ρ):yE (iD ρ fx) (v.val ρ):=by
 intro p hp;cases fx with
 |none=>cases hp
 |some q=>grind
theorem Xf(a:Sat (ab ρ T G++(ab ρ T H++Φ)) w){p:Pt}{v:AV}:(aD (YN p) v (yy G H v)).val ρ=v.val ρ:=by grind [YN,aas]
theorem Wu{l:List AV}:(AV.al ρ l).head? =l.head?.map (AV.val ρ):=by cases l <;> simp [AV.al]
theorem Mn{l:List AV}:(AV.al ρ l).tail=AV.al ρ l.tail:=by cases l <;> simp [AV.al]
mutual
theorem N9(L:Sat (ab ρ T G++(ab ρ T H++Φ)) w):(p:Pt)->(v:AV)->(fx:jE)->(y:Option AV)->(B:wi)->(r:MR)->(N:List Nm)->mt G H p v fx y B=some r->NB ρ B N->(∀q,fx=some q->q.1.val ρ=v.val ρ)->
  ∃F I,Sem p (v.val ρ) (iD ρ fx) (y.map (AV.val ρ)) N r.D I (fm ρ r.X) F/\NB ρ r.B F/\gi (SI ρ T G H) r.S I
 | .int k,v,fx,y,B,r,N,h,hN,hf=>by
  unfold mt at h;split at h
  next k' x=>obtain ⟨g,i⟩:=aI h;have:=n5 g;subst this;cases i;exact ⟨N,[],⟨x,by simp only [AV.val],rfl,rfl,rfl,rfl⟩,hN,.nil⟩
  .cases h
 | .bool,v,fx,y,B,r,N,h,hN,hf=>by
  unfold mt at h;split at h
  next x=>cases h;exact ⟨N,[],⟨x,by simp only [AV.val],rfl,rfl,rfl,rfl⟩,hN,.nil⟩
  .cases h
 | .str,v,fx,y,B,r,N,h,hN,hf=>by
  unfold mt at h;split at h
  next x=>cases h;exact ⟨N,[],⟨x,by simp only [AV.val],rfl,rfl,rfl,rfl⟩,hN,.nil⟩
  .cases h
 | .sli t,v,fx,y,B,r,N,h,hN,hf=>by
  unfold mt at h;split at h
  next q K=>cases h;obtain ⟨a,n1,C,A⟩:=Vq L K;exact ⟨N++[a],_,⟨a,q.2.2,C,rfl,rfl,rfl,rfl⟩,hN.append (.cons n1 .nil),.cons ⟨rfl,A⟩ .nil⟩
  .cases h
 | .own t e m,v,fx,y,B,r,N,h,hN,hf=>by
  unfold mt at h;split at h
  next q K=>cases h;obtain ⟨a,n1,C,y1,A⟩:=UN L K;exact ⟨N++[a],_,⟨a,q.2.2,C,xi hf,rfl,rfl,rfl,rfl,y1⟩,hN.append (.cons n1 .nil),.cons ⟨rfl,A⟩ .nil⟩
  .cases h
 | .slr n,v,fx,y,B,r,N,h,hN,hf=>by
  unfold mt at h;split at h
  next j=>obtain ⟨g,i⟩:=aI h;cases i;obtain ⟨a,z,O,a3⟩:=hN.at_ g;exact ⟨N,[],⟨a,z,by simp only [AV.val];rw [a3],rfl,rfl,rfl,rfl⟩,hN,.nil⟩
  .cases h
 | .bx t off m vs,v,fx,y,B,r,N,h,hN,hf=>by
  unfold mt at h;split at h
  .rename_i j P;obtain ⟨g,i⟩:=aI h;have C:=b0 g;subst C;split at i
   .rename_i s E t' cs J;obtain ⟨h3,Z⟩:=aI i;have e2:=b0 h3;subst e2;split at Z
    next q K=>cases Z;obtain ⟨R,Q⟩:=bX J;have:E=j:=b0 Q;subst this;obtain ⟨F,I,A,n1,z⟩:=Bt L vs cs [] (Kp fx) (B++[some E]) q (N++[ρ E]) K (.inl rfl) (hN.append (.cons ⟨rfl,rfl,rfl⟩ .nil));refine ⟨F,_,⟨ρ E,AV.al ρ cs,I,fm ρ q.X,by simp only [AV.val],xi hf,by rw [aed];simpa only [AV.al] using A,rfl,?_⟩,n1,.cons ⟨rfl,.inr ⟨_,R,bW.refl,(λh=>by cases h),λ_=>bW.refl⟩⟩ z⟩;rw [<-hN.length];cases m <;> simp [fm]
    .cases Z
   .cases i
  .cases h
 | .ptr n off,v,fx,y,B,r,N,h,hN,hf=>by
  unfold mt at h;split at h
  next j P=>obtain ⟨g,i⟩:=aI h;simp only [ar] at g;cases i;have C:=b0 g.1;subst C;obtain ⟨a,z,O,a3⟩:=hN.at_ g.2;exact ⟨N,[],⟨a,z,by simp only [AV.val];rw [O],rfl,rfl,rfl,rfl⟩,hN,.nil⟩
  .cases h
 | .mp k u m,v,fx,y,B,r,N,h,hN,hf=>by
  unfold mt at h;split at h
  .rename_i j;split at h
   .rename_i s E k' u' d J;split at h
    next d' hd=>cases h;have:=cm.Ow hd;cases this;obtain ⟨R,Q⟩:=bX J;have:E=j:=b0 Q;subst this;exact ⟨N++[ρ E],_,⟨ρ E,d',by simp only [AV.val],xi hf,rfl,rfl,rfl,rfl⟩,hN.append (.cons ⟨rfl,rfl,rfl⟩ .nil),.cons ⟨rfl,.inr ⟨_,R,bW.refl,(λh=>by cases h),λ_=>bW.refl⟩⟩ .nil⟩
    .cases h
   .cases h
  .cases h;exact ⟨N++[dy],_,⟨dy,none,by simp only [AV.val];rfl,xi hf,rfl,rfl,rfl,rfl⟩,hN.append (.cons ⟨rfl,rfl⟩ .nil),.cons ⟨rfl,.inl ⟨rfl,λM w=>sI.nil,λr h=>h⟩⟩ .nil⟩
  .cases h
 | .it,v,fx,y,B,r,N,h,hN,hf=>by
  unfold mt at h;split at h
  .rename_i j;split at h
   next s E x p J=>cases h;obtain ⟨R,Q⟩:=bX J;have:E=j:=b0 Q;subst this;exact ⟨N++[ρ E],_,⟨ρ E,x,p,by simp only [AV.val],xi hf,rfl,rfl,rfl,rfl⟩,hN.append (.cons ⟨rfl,rfl,rfl⟩ .nil),.cons ⟨rfl,.inr ⟨_,R,bW.refl,(λh=>by cases h),λ_=>bW.refl⟩⟩ .nil⟩
   .cases h
  .cases h
 | .agg l,v,fx,y,B,r,N,h,hN,hf=>by
  unfold mt at h;split at h
  next vs=>obtain ⟨_,h⟩:=aI h;obtain ⟨F,I,A,n1,z⟩:=Bt L l vs (aD fx.isSome vs []) [] B r N h (by cases fx <;> first|exact .inl rfl|exact .inr rfl) hN;exact ⟨F,I,⟨AV.al ρ vs,by simp only [AV.val],xi hf,by rw [Rx,<-ZE];simpa only [AV.al] using A⟩,n1,z⟩
  .cases h
 | .cW l,v,fx,y,B,r,N,h,hN,hf=>by
  unfold mt at h;split at h
  next vs=>obtain ⟨F,I,A,n1,z⟩:=Bt L l vs [] [] B r N h (.inl rfl) hN;exact ⟨F,I,⟨AV.al ρ vs,by simp only [AV.val],by simpa only [AV.al] using A⟩,n1,z⟩
  .cases h
 | .fn f a b,v,fx,y,B,r,N,h,hN,hf=>by
  unfold mt at h;split at h
  .rename_i f' a' b';obtain ⟨g,i⟩:=aI h;simp only [ar] at g;have C:=b0 g.1;subst C;split at i
   .rename_i U Y;split at i
    next V W=>cases i;obtain ⟨N1,I1,A,n1,z⟩:=Bt L a a' [] [] B U N Y (.inl rfl) hN;obtain ⟨N2,I2,s2,n2,O⟩:=Bt L b b' (aD fx.isSome b' []) [] U.B V N1 W (by cases fx <;> first|exact .inl rfl|exact .inr rfl) n1;exact ⟨N2,I1++I2,⟨AV.al ρ a',AV.al ρ b',U.D,V.D,I1,I2,fm ρ U.X,fm ρ V.X,N1,by simp only [AV.val],xi hf,by simpa only [AV.al] using A,by rw [Rx,<-ZE];simpa only [AV.al] using s2,rfl,rfl,by simp [fm]⟩,n2,z.append O⟩
    .cases i
   .cases i
  .cases h
 | .ifc t p,v,fx,y,B,r,N,h,hN,hf=>by
  unfold mt at h;split at h
  .rename_i t' u;obtain ⟨g,i⟩:=aI h;simp only [ar] at g;have C:=b0 g.1;subst C;obtain ⟨F,I,A,n1,z⟩:=N9 L p u (sK p (aD fx.isSome [u] [])) none B r N i hN (λq K=>by
    cases fx with
    |none=>cases K
    |some f=>
     have K:aD (YD p) none (some (u,[]))=some q:=K;obtain ⟨_,h3⟩:=OF K;cases h3;rfl)
   refine ⟨F,I,⟨u.val ρ,by simp only [AV.val],xi hf,?_⟩,n1,z⟩;have e2:(aD (iD ρ fx).isSome [u.val ρ] []:za)=AV.al ρ (aD fx.isSome [u] []):=by
    cases fx
    .show ([]:za)=AV.al ρ [];simp only [AV.al]
    .show [u.val ρ]=AV.al ρ [u];simp only [AV.al]
   rw [e2,Of];exact A
  .cases h
 | .nK c,v,fx,y,B,r,N,h,hN,hf=>by
  unfold mt at h;obtain ⟨g,i⟩:=aI h;cases i;exact ⟨N,[],⟨⟨AV.JN c v g,λρ'=>(AV.JN (ρ':=ρ) (ρ:=ρ') c v g).symm.trans (AV.JN c v g)⟩,rfl,rfl,rfl,rfl⟩,hN,.nil⟩
 | .dat t o,v,fx,y,B,r,N,h,hN,hf=>by
  unfold mt at h;split at h
  .rename_i cs;split at h
   next x o' B' S hd=>cases h;obtain ⟨us,F,I,C,A,n1,z⟩:=Wh L t cs o B _ N hd hN;simp only [j5] at C;subst C;exact ⟨F,I,⟨_,x,o',by simp only [AV.val],rfl,A,rfl⟩,n1,z⟩
   .cases h
  .cases h
 | .ifn,v,fx,y,B,r,N,h,hN,hf=>by
  unfold mt at h;split at h
  next t=>cases h;exact ⟨N,[],⟨t,by simp only [AV.val,AV.al],rfl,rfl,rfl,rfl⟩,hN,.nil⟩
  .cases h
 | .sfp,v,fx,y,B,r,N,h,hN,hf=>by
  have hl:=hN.length;unfold mt at h;split at h
  .split at h
   next o ho=>cases h;obtain ⟨a,g,_⟩:=hN.get ho;exact ⟨N,[],⟨a,false,by rw [<-hl];exact g,by simp only [AV.val,Dd,b7],rfl,rfl,rfl,rfl⟩,hN,.nil⟩
   .cases h
  next j f=>obtain ⟨g,i⟩:=aI h;cases i;obtain ⟨a,z,O,_⟩:=hN.at_ g;exact ⟨N,[],⟨a,f,by rw [<-hl];exact z,by simp only [AV.val];rw [O],rfl,rfl,rfl,rfl⟩,hN,.nil⟩
  next j=>obtain ⟨g,i⟩:=aI h;cases i;obtain ⟨a,z,O,_⟩:=hN.at_ g;exact ⟨N,[],⟨a,true,by rw [<-hl];exact z,by simp only [AV.val,Dd,ca];rw [O],rfl,rfl,rfl,rfl⟩,hN,.nil⟩
  .cases h
 | .same,v,fx,y,B,r,N,h,hN,hf=>by
  unfold mt at h;obtain ⟨g,i⟩:=aI h;cases i;refine ⟨N,[],⟨?_,rfl,rfl,rfl,rfl⟩,hN,.nil⟩;unfold nvs at g;split at g
  next q=>exact .inl ⟨_,rfl,(hf q rfl).symm⟩
  .split at g
   .split at g
    .rw [b0 g];exact .inr ⟨rfl,rfl⟩
    .cases g
   .cases g
theorem Bt(d:Sat (ab ρ T G++(ab ρ T H++Φ)) w):(l:List Pt)->(vs:List AV)->(a:List AV)->(b:List AV)->(B:wi)->(r:MR)->(N:List Nm)->Jf G H l vs a b B=some r->(a=[]\/a=vs)->NB ρ B N->
  ∃N' I,yp l (AV.al ρ vs) (AV.al ρ a) (AV.al ρ b) N r.D I (fm ρ r.X) N'/\NB ρ r.B N'/\gi (SI ρ T G H) r.S I
 |[],vs,a,b,B,r,N,h,hfx,hN=>by
  unfold Jf at h;split at h
  .cases h;exact ⟨N,[],⟨by simp [AV.al],rfl,rfl,rfl,rfl⟩,hN,.nil⟩
  .cases h
 |p::l,vs,a,b,B,r,N,h,hfx,hN=>by
  unfold Jf at h;split at h
  .rename_i v us;split at h
   .rename_i c g;split at h
    .rename_i e f;cases h;obtain ⟨j,m,n,n1,u⟩:=N9 d p _ (sK p a) b.head? B c N g hN (λq i=>by
      rcases hfx with rfl|rfl
      .cases i
      .obtain ⟨_,s⟩:=OF i;cases s;exact (Xf d).symm)
     obtain ⟨N2,k,x,o,t⟩:=Bt d l us a.tail b.tail c.B e j f (by rcases hfx with rfl|rfl <;> first|exact .inl rfl|exact .inr rfl) n1;rw [Xf d] at n;refine ⟨N2,m++k,⟨v.val ρ,AV.al ρ us,c.D,e.D,m,k,fm ρ c.X,fm ρ e.X,j,by simp [AV.al],by grind [Wu,Of],by grind [Mn],rfl,rfl,by simp ⟩,o,u.append t⟩
    .cases h
   .cases h
  .cases h
end
theorem Sd(m:Sat (ab ρ T G++(ab ρ T H++Φ)) w){z:Nat->Option AV}{fix:Nat->jE}:(l:List (Bool×Nat×Pt))->(B:wi)->(r:MR)->(N:List Nm)->mtV G H z fix l B=some r->NB ρ B N->
  ∃N' I,G7 (λi=>iD ρ (fix i)) (λi=>(z i).map (AV.val ρ)) l N r.D I (fm ρ r.X) N'/\NB ρ r.B N'/\gi (SI ρ T G H) r.S I
 |[],B,r,N,h,hN=>by
  cases h;exact ⟨N,[],⟨rfl,rfl,rfl,rfl⟩,hN,.nil⟩
 |(b,t,p)::l,B,r,N,h,hN=>by
  unfold mtV at h;split at h
  .rename_i v A;split at h
   .rename_i a c;split at h
    .rename_i d e;cases h;cases b
     .obtain ⟨g,k,y,n1,x⟩:=N9 m p v none none B a N c hN (λq s=>by cases s);obtain ⟨N2,j,n,o,u⟩:=Sd m l a.B d g e n1;exact ⟨N2,k++j,⟨v.val ρ,a.D,d.D,k,j,fm ρ a.X,fm ρ d.X,g,by grind,y,n,rfl,rfl,by simp ⟩,o,x.append u⟩
     .cases f:fix t with
      |none=>grind
      |some q=>
       rw [f] at A c;cases A;obtain ⟨g,k,y,n1,x⟩:=N9 m p q.1 (some q) none B a N c hN (λq' s=>by cases s;rfl);obtain ⟨N2,j,n,o,u⟩:=Sd m l a.B d g e n1;exact ⟨N2,k++j,⟨q.1.val ρ,a.D,d.D,k,j,fm ρ a.X,fm ρ d.X,g,by simp only [f];rfl,by grind,n,rfl,rfl,by simp ⟩,o,x.append u⟩
    .cases h
   .cases h
  .cases h
end
variable {A N : List Nm} {a : Nm} {fx : jE}
structure FR where
 v:AV
 R:List (Bool×Row)
 k:Nat
 D:List cm
 X:List (Nat×List AV)
structure FRs where
 vs:List AV
 R:List (Bool×Row)
 k:Nat
 D:List cm
 X:List (Nat×List AV)
def iK(t:Ty)(D:List cm):t.T:=match D with
 |d::_=>(d.as t).getD t.tL
 |[]=>t.tL
theorem tM{t:Ty}{x:t.T}{D:List cm}:iK t (⟨t,x⟩::D)=x:=by simp [iK,cm.aoH]
theorem aqW{k:IntKind}{x:Int}{D:List cm}:iK (.i k) (⟨.i k,x⟩::D)=x:=tM (t:= .i k)
theorem arB{x:Bool}{D:List cm}:iK .bo (⟨.bo,x⟩::D)=x:=tM (t:= .bo)
theorem ahl{x:aE}{D:List cm}:iK .s (⟨.s,x⟩::D)=x:=tM (t:= .s)
theorem aiC{x:Nat}{D:List cm}:iK .n (⟨.n,x⟩::D)=x:=tM (t:= .n)
theorem ai5{t:Ty}{x:List t.T}{D:List cm}:iK (.l t) (⟨.l t,x⟩::D)=x:=tM (t:= .l t)
theorem ao3{k v:Ty}{x:Option (List (k.T×v.T))}{D:List cm}:iK (.mp k v) (⟨.mp k v,x⟩::D)=x:=tM (t:= .mp k v)
structure LR where
 vs:List AV
 R:List (Bool×Row)
 k:Nat
 o:v7
def jf(nm:Nat->Nat):(t:Ty)->t.T->Nat->v7->LR
 | .i k,x,n,o=>⟨[.int k x],[],n,o⟩
 | .bo,x,n,o=>⟨[.bool x],[],n,o⟩
 | .s,x,n,o=>⟨[.str x],[],n,o⟩
 | .un,_,n,o=>⟨[],[],n,o⟩
 | .p a b,x,n,o=>match jf nm a x.1 n o with
  |⟨u,p,n,o⟩=>match jf nm b x.2 n o with
   |⟨v,q,n,o⟩=>⟨u++v,p++q,n,o⟩
 | .l t,x,n,o=>match o with
  |none::o=>⟨[.sl (nm n)],[(false,.sli none (nm n) t x false)],n+1,o⟩
  |some e::o=>⟨[.sl (nm n)],[(ow e,.own (nm n) t (oe e) x (nm n))],n+1,o⟩
  |[]=>⟨[],[],n,[]⟩
 | .ex,x,n,o=>match o with
  |none::o=>⟨[.int .i64 x.op,.int .i64 x.n,.int .i64 x.at_,.sl (nm n)],[(false,.sli none (nm n) .ex x.l false)],n+1,o⟩
  |some e::o=>⟨[.int .i64 x.op,.int .i64 x.n,.int .i64 x.at_,.sl (nm n)],[(ow e,.own (nm n) .ex (oe e) x.l (nm n))],n+1,o⟩
  |[]=>⟨[],[],n,[]⟩
 |_,_,n,o=>⟨[],[],n,o⟩
def nmS(nm:Nat->Nat)(fx:jE)(n:Nat):Nat:=match fx with
 |some (.sl j,_)=>j
 |_=>nm n
def H4(nm:Nat->Nat)(fx:jE)(n:Nat):Nat:=match fx with
 |some (.ptr j _,_)=>j
 |_=>nm n
def nmM(nm:Nat->Nat)(fx:jE)(n:Nat):Nat:=match fx with
 |some (.mp j,_)=>j
 |_=>nm n
def ant(fx:jE)(sm:Option AV):AV:=match fx with
 |some p=>p.1
 |none=>match sm with
  |some x=>x
  |none=> .bool false
def reS(id:Nat):List Pt->List AV->List AV
 | .sfp::_,.sfp _ f::us=> .sfp id f::us
 |_,us=>us
mutual
def fill(nm:Nat->Nat):Pt->jE->Option AV->Nat->List cm->FR
 | .int k,_,_,n,D=>⟨.int k (iK (.i k) D),[],n,D.tail,[]⟩
 | .bool,_,_,n,D=>⟨.bool (iK .bo D),[],n,D.tail,[]⟩
 | .str,_,_,n,D=>⟨.str (iK .s D),[],n,D.tail,[]⟩
 | .sli t,_,_,n,D=>⟨.sl (nm n),[(false,.sli none (nm n) t (iK (.l t) D) false)],n+1,D.tail,[]⟩
 | .own t e m,fx,_,n,D=>⟨.sl (nmS nm fx n),[(m,.own (nmS nm fx n) t e (iK (.l t) D) (nm n))],n+1,D.tail,[]⟩
 | .slr k,_,_,n,D=>⟨.sl (nm k),[],n,D,[]⟩
 | .bx t off m vs,fx,_,n,D=>match fv nm vs [] (Kp fx) (n+1) D with
  |⟨cs,R,k,D,X⟩=>⟨.ptr (H4 nm fx n) off,(m,.box (H4 nm fx n) t (reS (H4 nm fx n) vs cs))::R,k,D,(aD m [(n,reS (H4 nm fx n) vs cs)] [])++X⟩
 | .ptr k off,_,_,n,D=>⟨.ptr (nm k) off,[],n,D,[]⟩
 | .mp k v m,fx,_,n,D=>⟨.mp (nmM nm fx n),[(m,.mp (nmM nm fx n) k v (iK (.mp k v) D))],n+1,D.tail,[]⟩
 | .it,fx,_,n,D=>⟨.ptr (H4 nm fx n) 0,[(true,.it (H4 nm fx n) (iK .s D) (iK .n D.tail))],n+1,D.tail.tail,[]⟩
 | .agg l,fx,_,n,D=>match fv nm l (ja fx) [] n D with
  |⟨cs,R,k,D,X⟩=>⟨.agg cs,R,k,D,X⟩
 | .cW l,_,_,n,D=>match fv nm l [] [] n D with
  |⟨cs,R,k,D,X⟩=>⟨.tuple cs,R,k,D,X⟩
 | .fn f a b,fx,_,n,D=>match fv nm a [] [] n D with
  |⟨cs,R,k,D,X⟩=>match fv nm b (ja fx) [] k D with
   |⟨cs',R',k,D,X'⟩=>⟨.fn f cs cs',R++R',k,D,X++X'⟩
 | .ifc t p,fx,_,n,D=>match fill nm p (sK p (ja fx)) none n D with
  |⟨v,R,k,D,X⟩=>⟨.ifc t v,R,k,D,X⟩
 | .nK v,_,_,n,D=>⟨v,[],n,D,[]⟩
 | .dat t o,_,_,n,D=>match jf nm t (iK t D) n o with
  |⟨cs,R,k,_⟩=>⟨.agg cs,R,k,D.tail,[]⟩
 | .ifn,_,_,n,D=>⟨.ifc (iK .n D) (.agg []),[],n,D.tail,[]⟩
 | .sfp,_,_,n,D=>⟨.sfp (nm (n-1)) (iK .bo D),[],n,D.tail,[]⟩
 | .same,fx,sm,n,D=>⟨ant fx sm,[],n,D,[]⟩
def fv(nm:Nat->Nat):List Pt->List AV->List AV->Nat->List cm->FRs
 |[],_,_,n,D=>⟨[],[],n,D,[]⟩
 |p::l,fxs,sms,n,D=>match fill nm p (sK p fxs) sms.head? n D with
  |⟨v,R,k,D,X⟩=>match fv nm l fxs.tail sms.tail k D with
   |⟨vs,R',k,D,X'⟩=>⟨v::vs,R++R',k,D,X++X'⟩
end
structure FV where
 E:aF
 R:List (Bool×Row)
 k:Nat
 D:List cm
def gI(nm:Nat->Nat)(fix:Nat->jE):List (Bool×Nat×Pt)->Nat->List cm->FV
 |[],n,D=>⟨[],[],n,D⟩
 |x::l,n,D=>match fill nm x.2.2 (aD x.1 (fix x.2.1) none) none n D with
  |⟨v,R,k,D,_⟩=>match gI nm fix l k D with
   |⟨E,R',k,D⟩=>⟨aD x.1 E ((x.2.1,none,v)::E),R++R',k,D⟩
def x8(N N':List Nm):Prop:= ∃E,N'=N++E
theorem x8.refl:x8 N N:=⟨[],by simp⟩
theorem x8.trans{B C:List Nm}(h:x8 A B)(k:x8 B C):x8 A C:=by obtain ⟨E,rfl⟩:=h;obtain ⟨F,rfl⟩:=k;exact ⟨E++F,by simp⟩
theorem x8.one:x8 N (N++[a]):=⟨[a],rfl⟩
theorem x8.len{B:List Nm}(h:x8 A B):A.length<=B.length:=by obtain ⟨E,rfl⟩:=h;simp
theorem x8.at_{B:List Nm}(h:x8 A B){i:Nat}{a:Nm}(ha:A[i]? =some a):B[i]? =some a:=by obtain ⟨E,rfl⟩:=h;rw [ec (List.getElem?_eq_some_iff.1 ha).1];exact ha
theorem EU:(t:Ty)->(x:t.T)->(cs:za)->(o:v7)->(N:List Nm)->(I:fX)->(c:List Nm)->(d:v7)->Qh t x cs o N I c d->x8 N c
 | .i _,_,_,_,_,_,_,_,h|.bo,_,_,_,_,_,_,_,h|.s,_,_,_,_,_,_,_,h|.un,_,_,_,_,_,_,_,h=>by obtain ⟨_,_,rfl,_⟩:=h;exact .refl
 | .n,_,_,_,_,_,_,_,h|.mp _ _,_,_,_,_,_,_,_,h=>h.elim
 | .p a b,x,cs,o,N,I,c,d,h=>by
  obtain ⟨c1,j,k,q,m,g,f,e,_⟩:=h;exact (EU a _ _ _ _ _ _ _ f).trans (EU b _ _ _ _ _ _ _ e)
 | .l t,x,cs,o,N,I,c,d,h=>by obtain ⟨a,_,rfl,_⟩:=h;exact .one
 | .ex,x,cs,o,N,I,c,d,h=>by obtain ⟨a,_,rfl,_⟩:=h;exact .one
mutual
theorem Ay:(p:Pt)->(v:Value)->(fx:Fx)->(i:Option Value)->(N:List Nm)->(D:List cm)->(I:fX)->(X:lO)->(g:List Nm)->Sem p v fx i N D I X g->x8 N g
 | .int _,v,fx,i,N,D,I,X,g,h|.bool,v,fx,i,N,D,I,X,g,h|.str,v,fx,i,N,D,I,X,g,h=>by obtain ⟨_,_,_,_,_,rfl⟩:=h;exact .refl
 | .sli t,v,fx,i,N,D,I,X,g,h=>by obtain ⟨a,l,_,_,_,_,rfl⟩:=h;exact .one
 | .own t e m,v,fx,i,N,D,I,X,g,h=>by obtain ⟨a,l,_,_,_,_,_,rfl,_⟩:=h;exact .one
 | .slr n,v,fx,i,N,D,I,X,g,h|.ptr n _,v,fx,i,N,D,I,X,g,h=>by obtain ⟨a,_,_,_,_,_,rfl⟩:=h;exact .refl
 | .bx t off m vs,v,fx,i,N,D,I,X,g,h=>by
  obtain ⟨a,cs,E,z,_,_,j,_⟩:=h;exact x8.one.trans (o8 vs _ _ _ _ _ _ _ _ j)
 | .mp k u m,v,fx,i,N,D,I,X,g,h=>by obtain ⟨a,d,_,_,_,_,_,rfl⟩:=h;exact .one
 | .it,v,fx,i,N,D,I,X,g,h=>by obtain ⟨a,s,p,_,_,_,_,_,rfl⟩:=h;exact .one
 | .agg l,v,fx,i,N,D,I,X,g,h=>by obtain ⟨cs,_,_,j⟩:=h;exact o8 l _ _ _ _ _ _ _ _ j
 | .cW l,v,fx,i,N,D,I,X,g,h=>by obtain ⟨cs,_,j⟩:=h;exact o8 l _ _ _ _ _ _ _ _ j
 | .fn f a b,v,fx,i,N,D,I,X,g,h=>by
  obtain ⟨us,vs,G,F,C,B,y,w,A,_,_,j,q,_⟩:=h;exact (o8 a _ _ _ _ _ _ _ _ j).trans (o8 b _ _ _ _ _ _ _ _ q)
 | .ifc t p,v,fx,i,N,D,I,X,g,h=>by obtain ⟨u,_,_,j⟩:=h;exact Ay p _ _ _ _ _ _ _ _ j
 | .nK c,v,fx,i,N,D,I,X,g,h=>by obtain ⟨_,_,_,_,rfl⟩:=h;exact .refl
 | .dat t o,v,fx,i,N,D,I,X,g,h=>by obtain ⟨cs,x,r,_,_,j,_⟩:=h;exact EU t _ _ _ _ _ _ _ j
 | .ifn,v,fx,i,N,D,I,X,g,h=>by obtain ⟨_,_,_,_,_,rfl⟩:=h;exact .refl
 | .sfp,v,fx,i,N,D,I,X,g,h=>by obtain ⟨_,_,_,_,_,_,_,rfl⟩:=h;exact .refl
 | .same,v,fx,i,N,D,I,X,g,h=>by obtain ⟨_,_,_,_,rfl⟩:=h;exact .refl
theorem o8:(l:List Pt)->(vs:za)->(b:za)->(a:za)->(N:List Nm)->(D:List cm)->(I:fX)->(X:lO)->(c:List Nm)->yp l vs b a N D I X c->x8 N c
 |[],vs,b,a,N,D,I,X,c,h=>by obtain ⟨_,_,_,_,rfl⟩:=h;exact .refl
 |p::l,vs,b,a,N,D,I,X,c,h=>by obtain ⟨v,d,o,n,m,k,i,g,j,_,f,e,_⟩:=h;exact (Ay p _ _ _ _ _ _ _ _ f).trans (o8 l _ _ _ _ _ _ _ _ e)
end
theorem PW{fix:Nat->Fx}{val:Nat->Option Value}:(l:List (Bool×Nat×Pt))->(N:List Nm)->(D:List cm)->(I:fX)->(X:lO)->(a:List Nm)->G7 fix val l N D I X a->x8 N a
 |[],N,D,I,X,a,h=>by obtain ⟨_,_,_,rfl⟩:=h;exact .refl
 |x::l,N,D,I,X,a,h=>by obtain ⟨v,k,j,i,g,e,d,f,_,c,b,_⟩:=h;exact (Ay _ _ _ _ _ _ _ _ _ c).trans (PW l _ _ _ _ _ b)
def RwI(ρ:ay)(T:aB)(a:Bool×Row)(b:Bool×Item):Prop:=a.1=b.1/\bW b.2 (a.2.item ρ T)/\bW (a.2.item ρ T) b.2
section
variable {ρ : ay} {T : aB} {nm : Nat -> Nat} {n0 : Nat}
theorem an0{id:Nat}{vs:List Pt}{us:List AV}{cs d:za}{q:List Nm}{D:List cm}{I:fX}{X:lO}(h:yp vs cs [] d (N++[a]) D I X q)(k:(ρ id).b=a.b)(c:AV.al ρ us=cs):AV.al ρ (reS id vs us)=cs:=by
 unfold reS;split
 .rename_i l j f i;obtain ⟨v,g,y,x,w,u,s,r,t,rfl,n,_⟩:=h;obtain ⟨p,o,ha,rfl,_⟩:=n;have e:p=a:=by simpa using ha.symm
  subst e;simp only [AV.al,AV.val,o6] at c ⊢;refine ⟨?_,c.2⟩;rw [k];have m:=c.1;cases f <;> cases o <;> simp [Dd] at m ⊢
 .exact c
def xN(ρ:ay)(nm:Nat->Nat)(n0:Nat)(N:List Nm):Prop:= ∀i a,N[i]? =some a->(ρ (nm i)).b=a.b/\(ρ (nm i)).v=a.v/\(ρ (nm i)).m=a.m/\(n0<=i->(ρ (nm i)).y=a.y)
theorem xN.pre{A B:List Nm}(h:xN ρ nm n0 B)(k:x8 A B):xN ρ nm n0 A:=λi a ha=>h i a (k.at_ ha)
theorem xN.last(h:xN ρ nm n0 (A++[a])):(ρ (nm A.length)).b=a.b/\(ρ (nm A.length)).v=a.v/\(ρ (nm A.length)).m=a.m/\(n0<=A.length->(ρ (nm A.length)).y=a.y):=h _ _ (by simp)
theorem Zv{t:Ty}{l:List t.T}{j:Nat}(h:(ρ j).v=a.v):bW (ND true t.rep a.v l false) ((Row.sli none j t l false).item ρ T)/\bW ((Row.sli none j t l false).item ρ T) (ND true t.rep a.v l false):=by simp only [Row.item,h];exact ⟨⟨λ_ h=>h,λM w h _=>h rfl⟩,⟨λ_ h=>h,λM w h _=>h aB.get_none⟩⟩
theorem ZN{t:Ty}{e:TypeId}{l:List t.T}{j b:Nat}(h:(ρ j).v=a.v)(c:(ρ b).y=⟨.l t,l⟩):bW (tQ t.rep e a.v l True) ((Row.own j t e l b).item ρ T)/\bW ((Row.own j t e l b).item ρ T) (tQ t.rep e a.v l True):=by simp only [Row.item,h];exact ⟨⟨λ_ h=>h,λM w h=>⟨h.1,c⟩⟩,⟨λ_ h=>h,λM w h=>⟨h.1,trivial⟩⟩⟩
theorem U5:(t:Ty)->(x:t.T)->(cs:za)->(o:v7)->(N:List Nm)->(I:fX)->(c:List Nm)->(d:v7)->Qh t x cs o N I c d->xN ρ nm n0 c->n0<=N.length->
  AV.al ρ (jf nm t x N.length o).vs=cs/\(jf nm t x N.length o).k=c.length/\(jf nm t x N.length o).o=d/\gi (RwI ρ T) (jf nm t x N.length o).R I
 | .i k,x,cs,o,N,I,c,d,h,hn,hle=>by
  obtain ⟨rfl,rfl,rfl,rfl⟩:=h;exact ⟨by simp only [jf,AV.al,AV.val],rfl,rfl,.nil⟩
 | .bo,x,cs,o,N,I,c,d,h,hn,hle=>by
  obtain ⟨rfl,rfl,rfl,rfl⟩:=h;exact ⟨by simp only [jf,AV.al,AV.val],rfl,rfl,.nil⟩
 | .s,x,cs,o,N,I,c,d,h,hn,hle=>by
  obtain ⟨rfl,rfl,rfl,rfl⟩:=h;exact ⟨by simp only [jf,AV.al,AV.val],rfl,rfl,.nil⟩
 | .un,x,cs,o,N,I,c,d,h,hn,hle=>by
  obtain ⟨rfl,rfl,rfl,rfl⟩:=h;exact ⟨by simp only [jf,AV.al],rfl,rfl,.nil⟩
 | .n,x,cs,o,N,I,c,d,h,hn,hle=>h.elim
 | .mp _ _,x,cs,o,N,I,c,d,h,hn,hle=>h.elim
 | .p a b,x,cs,o,N,I,c,d,h,hn,hle=>by
  obtain ⟨c1,F,z,K,J,A,C,B,rfl,rfl⟩:=h;have p2:=EU b _ _ _ _ _ _ _ B;obtain ⟨y,w,v,r⟩:=U5 a x.1 c1 o N K z A C (hn.pre p2) hle;obtain ⟨q,m,j,g⟩:=U5 b x.2 F A z J c d B hn (dx hle (EU a _ _ _ _ _ _ _ C).len);unfold jf;generalize jf nm a x.1 N.length o=H at y w v r;obtain ⟨u,p,n,E⟩:=H;simp only at y w v r;subst w;subst v;dsimp only;generalize jf nm b x.2 z.length E=G at q m j g;obtain ⟨L,p2,M,D⟩:=G;simp only at q m j g;dsimp only;exact ⟨by rw [dp,y,q],m,j,r.append g⟩
 | .l t,x,cs,o,N,I,c,d,h,hn,hle=>by
  obtain ⟨a,rfl,rfl,h⟩:=h;have hl:=hn.last;rcases h with ⟨rfl,rfl⟩|⟨e,rfl,rfl,f⟩
  .exact ⟨by simp only [jf,AV.al,AV.val,hl.2.1],by simp [jf],rfl,.cons ⟨rfl,Zv hl.2.1⟩ .nil⟩
  .exact ⟨by simp only [jf,AV.al,AV.val,hl.2.1],by simp [jf],rfl,.cons ⟨rfl,ZN hl.2.1 (by rw [hl.2.2.2 hle];exact f)⟩ .nil⟩
 | .ex,x,cs,o,N,I,c,d,h,hn,hle=>by
  obtain ⟨a,rfl,rfl,h⟩:=h;have hl:=hn.last;rcases h with ⟨rfl,rfl⟩|⟨e,rfl,rfl,f⟩
  .exact ⟨by simp only [jf,AV.al,AV.val,hl.2.1],by simp [jf],rfl,.cons ⟨rfl,Zv (t:= .ex) hl.2.1⟩ .nil⟩
  .exact ⟨by simp only [jf,AV.al,AV.val,hl.2.1],by simp [jf],rfl,.cons ⟨rfl,ZN (t:= .ex) hl.2.1 (by rw [hl.2.2.2 hle];exact f)⟩ .nil⟩
theorem arz{p q:jP}(h:sl p=sl q):p=q:=by obtain ⟨a,b,c⟩:=p;obtain ⟨f,e,d⟩:=q;simp only [sl,Value.slice.injEq] at h;rw [h.1,h.2.1,h.2.2]
theorem aqR(hn:xN ρ nm n0 (N++[a]))(b:yE (iD ρ fx) (sl a.v)):(ρ (nmS nm fx N.length)).v=a.v:=by
 unfold nmS;split
 .have:=b _ rfl;simp only [AV.val] at this;exact (arz this).symm
 .rw [hn.last.2.1]
theorem aiY{c:Nat}(hn:(ρ (nm N.length)).b=a.b)(d:yE (iD ρ fx) (.pointer (some ⟨a.b,c,none⟩))):(ρ (H4 nm fx N.length)).b=a.b:=by
 unfold H4;split
 .have:=d _ rfl;simp only [AV.val,Value.pointer.injEq,ej,Addr.mk.injEq] at this;exact this.1.symm
 .rw [hn]
theorem apQ(hn:xN ρ nm n0 (N++[a]))(b:yE (iD ρ fx) (.map a.m)):(ρ (nmM nm fx N.length)).m=a.m:=by
 unfold nmM;split
 .have:=b _ rfl;simp only [AV.val,Value.map.injEq] at this;exact this.symm
 .rw [hn.last.2.2.1]
theorem Hs(p:Pt):tD p none=true:=by cases p <;> rfl
theorem abj(p:Pt)(a:List AV):tD p (sK p a)=true:=by
 unfold sK;cases a with
 |nil=>exact Hs p
 |cons u us=>cases p <;> rfl
theorem ak7{l:List Pt}{cs:za}(a:tD (.agg l) fx=true)(b:yE (iD ρ fx) (.agg cs.toArray)):AV.al ρ (ja fx)=aD (iD ρ fx).isSome cs []:=by
 cases fx with
 |none=>rfl
 |some q=>
  obtain ⟨v,d⟩:=q;cases v <;> first|(cases a;done)|skip;have:=b _ rfl;simp only [AV.val,Value.agg.injEq] at this;show AV.al ρ (ja (some (_,_)))=cs;simpa [ja] using this.symm
theorem apB{f:FuncId}{a b:List Pt}{us vs:za}(c:tD (.fn f a b) fx=true)(e:yE (iD ρ fx) (.func (.func f) us.toArray vs.toArray)):AV.al ρ (ja fx)=aD (iD ρ fx).isSome vs []:=by
 cases fx with
 |none=>rfl
 |some q=>
  obtain ⟨v,d⟩:=q;cases v <;> first|(cases c;done)|skip;have:=e _ rfl;simp only [AV.val,Value.func.injEq] at this;show AV.al ρ (ja (some (_,_)))=vs;simpa [ja] using this.2.2.symm
theorem ajT{t:TypeId}{p:Pt}{u:Value}(a:tD (.ifc t p) fx=true)(b:yE (iD ρ fx) (.iface t u)):AV.al ρ (ja fx)=aD (iD ρ fx).isSome [u] []:=by
 cases fx with
 |none=>rfl
 |some q=>
  obtain ⟨v,d⟩:=q;cases v <;> first|(cases a;done)|skip;have:=b _ rfl;simp only [AV.val,Value.iface.injEq] at this;show AV.al ρ (ja (some (_,_)))=[u];simp [ja,AV.al,this.2]
mutual
theorem Iq:(p:Pt)->(v:Value)->(fx:jE)->(j:Option AV)->(N:List Nm)->(D:List cm)->(I:fX)->(X:lO)->(i:List Nm)->Sem p v (iD ρ fx) (j.map (AV.val ρ)) N D I X i->tD p fx=true->xN ρ nm n0 i->n0<=N.length->(g:List cm)->
  (fill nm p fx j N.length (D++g)).v.val ρ=v/\(fill nm p fx j N.length (D++g)).k=i.length/\(fill nm p fx j N.length (D++g)).D=g/\X=fm ρ (fill nm p fx j N.length (D++g)).X/\gi (RwI ρ T) (fill nm p fx j N.length (D++g)).R I
 | .int k,v,fx,j,N,D,I,X,i,h,hg,hn,hle,g=>by
  obtain ⟨x,rfl,rfl,rfl,rfl,rfl⟩:=h;exact ⟨by simp only [fill,qH,aqW,AV.val],rfl,rfl,rfl,.nil⟩
 | .bool,v,fx,j,N,D,I,X,i,h,hg,hn,hle,g=>by
  obtain ⟨x,rfl,rfl,rfl,rfl,rfl⟩:=h;exact ⟨by simp only [fill,qH,arB,AV.val],rfl,rfl,rfl,.nil⟩
 | .str,v,fx,j,N,D,I,X,i,h,hg,hn,hle,g=>by
  obtain ⟨x,rfl,rfl,rfl,rfl,rfl⟩:=h;exact ⟨by simp only [fill,qH,ahl,AV.val],rfl,rfl,rfl,.nil⟩
 | .sli t,v,fx,j,N,D,I,X,i,h,hg,hn,hle,g=>by
  obtain ⟨a,l,rfl,rfl,rfl,rfl,rfl⟩:=h;have hl:=hn.last;refine ⟨by simp only [fill,AV.val,hl.2.1],by simp [fill],rfl,rfl,.cons ⟨rfl,?_⟩ .nil⟩;show bW _ ((Row.sli none (nm N.length) t (iK (.l t) (⟨.l t,l⟩::g)) false).item ρ T)/\bW ((Row.sli none (nm N.length) t (iK (.l t) (⟨.l t,l⟩::g)) false).item ρ T) _;rw [ai5];exact Zv hl.2.1
 | .own t e m,v,fx,j,N,D,I,X,i,h,hg,hn,hle,g=>by
  obtain ⟨a,l,rfl,E,rfl,rfl,rfl,rfl,hy⟩:=h;have hS:=aqR hn E;refine ⟨by simp only [fill,AV.val,hS],by simp [fill],rfl,rfl,.cons ⟨rfl,?_⟩ .nil⟩;show bW _ ((Row.own (nmS nm fx N.length) t e (iK (.l t) (⟨.l t,l⟩::g)) (nm N.length)).item ρ T)/\bW ((Row.own (nmS nm fx N.length) t e (iK (.l t) (⟨.l t,l⟩::g)) (nm N.length)).item ρ T) _;rw [ai5];exact ZN hS (by rw [hn.last.2.2.2 hle];exact hy)
 | .slr n,v,fx,j,N,D,I,X,i,h,hg,hn,hle,g=>by
  obtain ⟨a,ha,rfl,rfl,rfl,rfl,rfl⟩:=h;exact ⟨by simp only [fill,AV.val,(hn _ _ ha).2.1],rfl,rfl,rfl,.nil⟩
 | .bx t off m vs,v,fx,j,N,D,I,X,i,h,hg,hn,hle,g=>by
  obtain ⟨a,cs,I',X',rfl,E,A,rfl,rfl⟩:=h;rw [aed] at A;have p1:=o8 vs _ _ _ _ _ _ _ _ A;have hl:=hn.pre p1;have F:=aiY hl.last.1 E;have G:(N++[a]).length=N.length+1:=by simp
  obtain ⟨z,w,B,C,r⟩:=wj vs cs [] (Kp fx) (N++[a]) D I' X' i (by simpa only [AV.al] using A) hn (by simp;omega) g;rw [G] at z w B C r;unfold fill;generalize fv nm vs [] (Kp fx) (N.length+1) (D++g)=L at z w B C r;obtain ⟨us,R,k,J,H⟩:=L;simp only at z w B C r;dsimp only;have Y:AV.al ρ (reS (H4 nm fx N.length) vs us)=cs:=an0 A F z;refine ⟨by simp only [AV.val,F],w,B,?_,.cons ⟨rfl,?_⟩ r⟩
  .rw [C];cases m <;> simp [fm,Y]
  .simp only [Row.item,F,Y];exact ⟨bW.refl,bW.refl⟩
 | .ptr n off,v,fx,j,N,D,I,X,i,h,hg,hn,hle,g=>by
  obtain ⟨a,ha,rfl,rfl,rfl,rfl,rfl⟩:=h;exact ⟨by simp only [fill,AV.val,(hn _ _ ha).1],rfl,rfl,rfl,.nil⟩
 | .mp k u m,v,fx,j,N,D,I,X,i,h,hg,hn,hle,g=>by
  obtain ⟨a,d,rfl,E,rfl,rfl,rfl,rfl⟩:=h;have V:=apQ hn E;refine ⟨by simp only [fill,AV.val,V],by simp [fill],rfl,rfl,.cons ⟨rfl,?_⟩ .nil⟩;show bW _ ((Row.mp (nmM nm fx N.length) k u (iK (.mp k u) (⟨.mp k u,d⟩::g))).item ρ T)/\bW ((Row.mp (nmM nm fx N.length) k u (iK (.mp k u) (⟨.mp k u,d⟩::g))).item ρ T) _;rw [ao3];simp only [Row.item,V];exact ⟨bW.refl,bW.refl⟩
 | .it,v,fx,j,N,D,I,X,i,h,hg,hn,hle,g=>by
  obtain ⟨a,s,p,rfl,E,rfl,rfl,rfl,rfl⟩:=h;have F:=aiY hn.last.1 E;refine ⟨by simp only [fill,AV.val,F],by simp [fill],rfl,rfl,.cons ⟨rfl,?_⟩ .nil⟩;show bW _ ((Row.it (H4 nm fx N.length) (iK .s (⟨.s,s⟩::⟨.n,p⟩::g)) (iK .n (⟨.n,p⟩::g))).item ρ T)/\bW ((Row.it (H4 nm fx N.length) (iK .s (⟨.s,s⟩::⟨.n,p⟩::g)) (iK .n (⟨.n,p⟩::g))).item ρ T) _;rw [ahl,aiC];simp only [Row.item,F];exact ⟨bW.refl,bW.refl⟩
 | .agg l,v,fx,j,N,D,I,X,i,h,hg,hn,hle,g=>by
  obtain ⟨cs,rfl,E,A⟩:=h;obtain ⟨z,w,B,C,r⟩:=wj l cs (ja fx) [] N D I X i (by rw [ak7 hg E];simpa only [AV.al] using A) hn hle g;unfold fill;generalize fv nm l (ja fx) [] N.length (D++g)=L at z w B C r;obtain ⟨us,R,k,J,H⟩:=L;simp only at z w B C r;dsimp only;exact ⟨by simp only [AV.val,z],w,B,C,r⟩
 | .cW l,v,fx,j,N,D,I,X,i,h,hg,hn,hle,g=>by
  obtain ⟨cs,rfl,A⟩:=h;obtain ⟨z,w,B,C,r⟩:=wj l cs [] [] N D I X i (by simpa only [AV.al] using A) hn hle g;unfold fill;generalize fv nm l [] [] N.length (D++g)=L at z w B C r;obtain ⟨us,R,k,J,H⟩:=L;simp only at z w B C r;dsimp only;exact ⟨by simp only [AV.val,z],w,B,C,r⟩
 | .fn f a b,v,fx,j,N,D,I,X,i,h,hg,hn,hle,g=>by
  obtain ⟨us,vs,Z,K,I1,I2,X1,X2,U,rfl,E,A,W,rfl,rfl,rfl⟩:=h;have p2:=o8 b _ _ _ _ _ _ _ _ W;obtain ⟨z,w,B,C,r⟩:=wj a us [] [] N Z I1 X1 U (by simpa only [AV.al] using A) (hn.pre p2) hle (K++g);obtain ⟨c1,S,Q,P,O⟩:=wj b vs (ja fx) [] U K I2 X2 i (by rw [apB hg E];simpa only [AV.al] using W) hn (dx hle (o8 a _ _ _ _ _ _ _ _ A).len) g;unfold fill;rw [cb];generalize fv nm a [] [] N.length (Z++(K++g))=L at z w B C r;obtain ⟨us',R,k,J,H⟩:=L;simp only at z w B C r;subst w;subst B;dsimp only;generalize fv nm b (ja fx) [] U.length (K++g)=L at c1 S Q P O;obtain ⟨us2,R2,k2,DD2,XX2⟩:=L;simp only at c1 S Q P O;dsimp only;exact ⟨by simp only [AV.val,z,c1],S,Q,by rw [C,P];simp [fm],r.append O⟩
 | .ifc t p,v,fx,j,N,D,I,X,i,h,hg,hn,hle,g=>by
  obtain ⟨u,rfl,E,A⟩:=h;rw [<-ajT hg E,Of] at A;obtain ⟨z,w,B,C,r⟩:=Iq p u (sK p (ja fx)) none N D I X i A (abj p _) hn hle g;unfold fill;generalize fill nm p (sK p (ja fx)) none N.length (D++g)=L at z w B C r;obtain ⟨us,R,k,J,H⟩:=L;simp only at z w B C r;dsimp only;exact ⟨by simp only [AV.val,z],w,B,C,r⟩
 | .nK c,v,fx,j,N,D,I,X,i,h,hg,hn,hle,g=>by
  obtain ⟨⟨A,h0⟩,rfl,rfl,rfl,rfl⟩:=h;exact ⟨by rw [A];exact h0 ρ,rfl,rfl,rfl,.nil⟩
 | .dat t o,v,fx,j,N,D,I,X,i,h,hg,hn,hle,g=>by
  obtain ⟨cs,x,o',rfl,rfl,A,rfl⟩:=h;obtain ⟨z,w,B,r⟩:=U5 (T:=T) t x cs o N I i o' A hn hle;unfold fill;rw [qH,tM];generalize jf nm t x N.length o=L at z w B r;obtain ⟨us,R,k,oo⟩:=L;simp only at z w B r;dsimp only;exact ⟨by simp only [AV.val,z],w,rfl,rfl,r⟩
 | .ifn,v,fx,j,N,D,I,X,i,h,hg,hn,hle,g=>by
  obtain ⟨x,rfl,rfl,rfl,rfl,rfl⟩:=h;exact ⟨by simp only [fill,qH,aiC,AV.val,AV.al],rfl,rfl,rfl,.nil⟩
 | .sfp,v,fx,j,N,D,I,X,i,h,hg,hn,hle,g=>by
  obtain ⟨a,f,ha,rfl,rfl,rfl,rfl,rfl⟩:=h;refine ⟨?_,rfl,rfl,rfl,.nil⟩;simp only [fill,AV.val,(hn _ _ ha).1,qH];rfl
 | .same,v,fx,j,N,D,I,X,i,h,hg,hn,hle,g=>by
  obtain ⟨A,rfl,rfl,rfl,rfl⟩:=h;refine ⟨?_,rfl,rfl,rfl,.nil⟩;simp only [fill,ant];rcases A with ⟨p,hp,rfl⟩|⟨M,A⟩
  .cases fx with
   |none=>cases hp
   |some q=>cases hp;rfl
  .cases fx with
   |some q=>cases M
   |none=>
    cases j with
    |none=>cases A
    |some y=>cases A;rfl
theorem wj:(l:List Pt)->(vs:za)->(a:List AV)->(b:List AV)->(N:List Nm)->(D:List cm)->(I:fX)->(X:lO)->(d:List Nm)->yp l vs (AV.al ρ a) (AV.al ρ b) N D I X d->xN ρ nm n0 d->n0<=N.length->(c:List cm)->
  AV.al ρ (fv nm l a b N.length (D++c)).vs=vs/\(fv nm l a b N.length (D++c)).k=d.length/\(fv nm l a b N.length (D++c)).D=c/\X=fm ρ (fv nm l a b N.length (D++c)).X/\gi (RwI ρ T) (fv nm l a b N.length (D++c)).R I
 |[],vs,a,b,N,D,I,X,d,h,hn,hle,c=>by
  obtain ⟨rfl,rfl,rfl,rfl,rfl⟩:=h;exact ⟨by simp only [fv,AV.al],rfl,rfl,rfl,.nil⟩
 |p::l,vs,a,b,N,D,I,X,d,h,hn,hle,c=>by obtain ⟨v,f,x,e,F,E,C,B,w,rfl,i,g,rfl,rfl,rfl⟩:=h;rw [Wu,Of] at i;rw [Mn,Mn] at g;have p2:=o8 l _ _ _ _ _ _ _ _ g;obtain ⟨u,t,s,r,q⟩:=Iq p v (sK p a) b.head? N x F C w i (abj p a) (hn.pre p2) hle (e++c);obtain ⟨c1,o,n,m,j⟩:=wj l f a.tail b.tail w e E B d g hn (dx hle (Ay p _ _ _ _ _ _ _ _ i).len) c;unfold fv;rw [cb];generalize fill nm p (sK p a) b.head? N.length (x++(e++c))=L at u t s r q;obtain ⟨z,R,k,M,J⟩:=L;simp only at u t s r q;subst t;subst s;dsimp only;generalize fv nm l a.tail b.tail w.length (e++c)=L at c1 o n m j;obtain ⟨y,K,H,G,A⟩:=L;simp only at c1 o n m j;dsimp only;exact ⟨by simp only [AV.al,u,c1],o,n,by rw [r,m];simp [fm],q.append j⟩
end
theorem Rk{fix:Nat->jE}{g:Nat->Option Value}:(l:List (Bool×Nat×Pt))->(N:List Nm)->(D:List cm)->(I:fX)->(X:lO)->(d:List Nm)->G7 (λi=>iD ρ (fix i)) g l N D I X d->uy fix l=true->xN ρ nm n0 d->n0<=N.length->(a:List cm)->
  (∀t p,look (aF.env ρ [] (gI nm fix l N.length (D++a)).E) t=some p->p.1=true/\g t=some p.2)/\(gI nm fix l N.length (D++a)).k=d.length/\(gI nm fix l N.length (D++a)).D=a/\gi (RwI ρ T) (gI nm fix l N.length (D++a)).R I
 |[],N,D,I,X,d,h,hg,hn,hle,a=>by
  obtain ⟨rfl,rfl,rfl,rfl⟩:=h;exact ⟨(λt p h=>by cases h),rfl,rfl,.nil⟩
 |(b,t,p)::l,N,D,I,X,d,h,hg,hn,hle,a=>by
  simp only [uy,ar] at hg;obtain ⟨v,y,f,F,K,C,J,e,H,A,z,rfl,rfl,rfl⟩:=h;have p2:=PW l _ _ _ _ _ z;have m:Sem p v (iD ρ (aD b (fix t) none)) ((none:Option AV).map (AV.val ρ)) N y F C e:=by cases b <;> exact A
  obtain ⟨x,w,u,B,s⟩:=Iq (T:=T) p v _ none N y F C e m hg.1 (hn.pre p2) hle (f++a);obtain ⟨c1,r,o,n⟩:=Rk l e f K J d z hg.2 hn (dx hle (Ay p _ _ _ _ _ _ _ _ A).len) a;unfold gI;rw [cb];dsimp only;generalize fill nm p (aD b (fix t) none) none N.length (y++(f++a))=L at x w u B s;obtain ⟨G,R,k,U,P⟩:=L;simp only at x w u B s;subst w;subst u;dsimp only;generalize gI nm fix l e.length (f++a)=L at c1 r o n;obtain ⟨S,Q,O,M⟩:=L;simp only at c1 r o n;dsimp only;refine ⟨λt' q c=>?_,r,o,s.append n⟩;cases b
  .simp only [aF.env,look] at c;cases hb:Nat.beq t t'
   .rw [hb] at c;exact c1 t' q c
   .rw [hb] at c;simp only [ca,ej] at c;subst c;have:=b0 hb;subst this;refine ⟨aB.get_none,?_⟩;have j:g t=some v:=H;rw [j,x]
  .exact c1 t' q c
end
section
variable {Γ Γ' : Ctx} {w : World}
theorem Sat.CK(h:Sat Γ w)(q:Nat->Nat->Prop)(g:∀(j:Nat) (a:Item),Γ'[j]? =some a->(a.own=[]/\∀M w,a.P M w)\/∃(i:Nat) (it:Item),q j i/\Γ[i]? =some it/\bW it a)
  (t:∀(j k i:Nat),j≠k->q j i->q k i->False):Sat Γ' w:=by
 have mv:Mv Γ.M w (Ctx.M Γ') w:=Mv.weaken w λb hb=>by
  obtain ⟨it,hi,hb⟩:=hb;obtain ⟨k,hk⟩:=List.mem_iff_getElem?.1 hi;rcases g k it hk with ⟨c,_⟩|⟨i,a,_,f,d⟩
  .rw [c] at hb;cases hb
  .exact Ctx.ll f (d.1 b hb)
 refine ⟨λa m=>?_,λj k a kt m hk s b hb n=>?_⟩
 .obtain ⟨k,hk⟩:=List.mem_iff_getElem?.1 m;rcases g k a hk with ⟨_,c⟩|⟨i,it,_,f,d⟩
  .exact c _ _
  .exact d.2 _ _ (it.cY (h.at_ f) mv (λ_ _=>rfl) (iX.refl w))
 .rcases g j a m with ⟨c,_⟩|⟨i,it,r1,f,d⟩
  .rw [c] at hb;cases hb
  .rcases g k kt hk with ⟨c,_⟩|⟨r,l,r2,p,o⟩
   .grind
   .by_cases e:i=r
    .grind
    .exact h.sep i r it l f p e b (d.1 b hb) (o.1 b n)
def jC:Item:=Yn True
theorem Sat.pull(h:Sat Γ w){i:Nat}{it b:Item}(hi:Γ[i]? =some it)(hl:bW it b):Sat (b::Γ.set i jC) w:=by
 refine h.CK (λj k=>(j=0/\k=i)\/(j=k+1/\k≠i)) (λj kt a=>?_) (λj k q c f d=>by omega);cases j with
 |zero=>grind
 |succ j=>
  simp at a;by_cases e:j=i
  .subst e;rw [rJ (List.getElem?_eq_some_iff.1 hi).1] at a;cases a;exact .inl ⟨rfl,λ_ _=>trivial⟩
  .rw [qJ (λh=>e h.symm)] at a;exact .inr ⟨j,kt,.inr ⟨rfl,e⟩,a,bW.refl⟩
theorem Sat.De{A B:Ctx}{x:Item}(h:Sat (A++x::B) w):Sat (A++B) w:=by
 refine h.CK (λj k=>(j<A.length/\k=j)\/(A.length<=j/\k=j+1)) (λj a c=>?_) (λj k q b f d=>by omega);by_cases e:j<A.length
 .exact .inr ⟨j,a,.inl ⟨e,rfl⟩,by grind,bW.refl⟩
 .have e':A.length<=j:=by omega
  refine .inr ⟨j+1,a,.inr ⟨e',rfl⟩,?_,bW.refl⟩;grind
theorem Sat.anR{A B:Ctx}{x a:Item}{k:Nat}(h:Sat (A++x::B.set k jC) w)(hk:B[k]? =some a)(hl:bW x a):Sat (A++B) w:=by
 refine h.CK (λj q=>(j<A.length/\q=j)\/(j=A.length+k/\q=A.length)\/(A.length<=j/\j≠A.length+k/\q=j+1)) (λj kt d=>?_) (λj k q b g f=>by omega);by_cases e:j<A.length
 .exact .inr ⟨j,kt,.inl ⟨e,rfl⟩,by grind,bW.refl⟩
 .have e':A.length<=j:=by omega
  by_cases c:j=A.length+k
  .grind
  .refine .inr ⟨j+1,kt,.inr (.inr ⟨e',c,rfl⟩),?_,bW.refl⟩;grind
theorem Sat.Gb{A B:Ctx}{x y:Item}(h:Sat (A++x::B) w)(hl:bW x y):Sat (A++y::B) w:=by
 refine h.CK (λj k=>j=k) (λj a c=>?_) (λj k q b f d=>by omega);by_cases e:j<A.length
 .exact .inr ⟨j,a,rfl,by grind,bW.refl⟩
 .by_cases g:j=A.length
  .grind
  .refine .inr ⟨j,a,rfl,?_,bW.refl⟩;grind
theorem Sat.Z2{A B C:Ctx}(h:Sat (A++(B++C)) w){c:Ctx}(hl:gi bW B c):Sat (A++(c++C)) w:=by
 induction hl generalizing A with
 |nil=>exact h
 | @cons a b l m h1 _ ih=>
  have d  :=h.Gb h1;have e:Sat ((A++[b])++(l++C)) w:=by simpa using d
  grind
def lj:wi->Ctx->Ctx
 |[],Γ=>Γ
 |none::l,Γ=>lj l Γ
 |some i::l,Γ=>(lj l Γ).set i jC
def Ndp:wi->Prop
 |[]=>True
 |none::l=>Ndp l
 |some i::l=>some i∉l/\Ndp l
theorem VT:∀{l:wi} {Γ:Ctx},(lj l Γ).length=Γ.length
 |[],_=>rfl
 |none::l,Γ=>VT (l:=l)
 |some j::l,Γ=>by show ((lj l Γ).set j jC).length=_;rw [qI,VT]
theorem Dx:∀{l:wi} {Γ:Ctx} {i:Nat},some i∉l->(lj l Γ)[i]? =Γ[i]?
 |[],_,_,_=>rfl
 |none::l,Γ,i,h=>Dx (l:=l) (λa=>h (cp _ a))
 |some j::l,Γ,i,h=>by have e:j≠i:=λe=>h (by grind);show ((lj l Γ).set j jC)[i]? =_;rw [qJ e];exact Dx (λa=>h (cp _ a))
theorem Jp{x:Item}:∀{l:wi} {Γ:Ctx} {i:Nat},some i∉l->(lj l Γ).set i x=lj l (Γ.set i x)
 |[],_,_,_=>rfl
 |none::l,Γ,i,h=>Jp (l:=l) (λa=>h (cp _ a))
 |some j::l,Γ,i,h=>by have e:j≠i:=λe=>h (by grind);show ((lj l Γ).set j jC).set i x=(lj l (Γ.set i x)).set j jC;rw [List.set_comm _ _ e,Jp (λa=>h (cp _ a))]
def PI(Γ:Ctx)(w:World)(o:zc)(x:Bool×Item):Prop:=match o with
 |some i=>∃jt,Γ[i]? =some jt/\bW jt x.2
 |none=>x.2.own=[]/\x.2.P Γ.M w
abbrev dE(I:fX):Ctx:=I.map (·.2)
def iA(I:fX):Ctx:=I.map λx=>aD x.1 jC x.2
theorem AH(h:Sat Γ w):∀{L:wi} {I:fX},gi (PI Γ w) L I->Ndp L->Sat (dE I++lj L Γ) w/\∀b,Ctx.M (dE I++lj L Γ) b->Γ.M b
 |_,_,.nil,_=>⟨h,λ_ h=>h⟩
 |_,_,.cons (a:=none) (b:=x) h1 hr,hd=>by
  obtain ⟨ih,c⟩:=AH h hr hd;refine ⟨ih.add h1.1 (x.2.cY h1.2 (Mv.weaken w c) (λ_ _=>rfl) (iX.refl w)),λb hb=>?_⟩;rcases Ctx.EW.1 hb with hb|hb
  .rw [h1.1] at hb;cases hb
  .exact c b hb
 |_,_,.cons (a:=some i) (l:=l) (m:=m) h1 hr,hd=>by
  obtain ⟨ih,c⟩:=AH h hr hd.2;obtain ⟨j,f,hl⟩:=h1;have hi:(dE m++lj l Γ)[(dE m).length+i]? =some j:=by rw [c9 (by omega),show (dE m).length+i-(dE m).length=i by omega,Dx hd.1];exact f
  have g:=ih.pull hi hl;rw [sj _ _ (by omega),show (dE m).length+i-(dE m).length=i by omega] at g;refine ⟨g,λb hb=>?_⟩;rcases Ctx.EW.1 hb with hb|hb
  .exact Ctx.ll f (hl.1 b hb)
  .obtain ⟨it,d,e⟩:=hb;refine c b ?_;rcases List.mem_append.1 d with d|d
   .exact ⟨it,qz _ d,e⟩
   .rcases List.mem_or_eq_of_mem_set d with d|d
    .exact ⟨it,gx _ d,e⟩
    .subst d;cases e
def Bo:wi->fX->wi
 |o::L,x::I=>(aD x.1 o none)::Bo L I
 |_,_=>[]
def Ft(Γ:Ctx)(o:zc)(x:Bool×Item):Prop:=match o with
 |some i=>∃jt,Γ[i]? =some jt/\(x.1=false->bW x.2 jt)
 |none=>True
theorem Ft.set{Γ:Ctx}{i:Nat}{y:Item}:∀{L:wi} {I:fX},gi (Ft Γ) L I->some i∉L->gi (Ft (Γ.set i y)) L I
 |_,_,.nil,_=> .nil
 |_,_,.cons (a:=none) h1 hr,hn=> .cons trivial (Ft.set hr (λh=>hn (cp _ h)))
 |_,_,.cons (a:=some j) h1 hr,hn=>by obtain ⟨b,c,hl⟩:=h1;exact .cons ⟨b,by grind,hl⟩ (Ft.set hr (λh=>hn (cp _ h)))
theorem Un{i:Nat}:∀{L:wi} {I:fX},some i∈Bo L I->some i∈L
 |[],_,h=>by cases h
 |o::L,[],h=>by cases h
 |o::L,x::I,h=>by
  rcases List.mem_cons.1 h with h|h
  .grind
  .exact cp _ (Un h)
theorem IL{A:Ctx}:∀{L:wi} {I:fX} {Γ:Ctx},gi (Ft Γ) L I->Ndp L->Sat (A++(iA I++lj L Γ)) w->Sat (A++lj (Bo L I) Γ) w
 |_,_,_,.nil,_,h=>h
 |_,_,_,.cons (a:=none) h1 hr,hd,h=>by
  have c  :=Sat.De h;have:=IL hr hd c;grind [Bo,lj]
 |_,_,Γ,.cons (a:=some i) (b:=x) (l:=l) (m:=m) h1 hr,hd,h=>by
  obtain ⟨f,e,hl⟩:=h1;cases hx:x.1
  .have d:iA (x::m)++lj (some i::l) Γ=x.2::(iA m++lj l Γ).set (m.length+i) jC:=by simp_all [iA,lj,set]
   rw [d] at h;have c:=h.anR (by
    rw [c9 (by simp [iA])];have:m.length+i-(iA m).length=i:=by simp [iA]
    rw [this,Dx hd.1];exact e) (hl hx)
   have:=IL hr hd.2 c;grind [Bo,lj]
  .have d:iA (x::m)++lj (some i::l) Γ=jC::(iA m++lj l (Γ.set i jC)):=by show (aD x.1 jC x.2)::(iA m++(lj l Γ).set i jC)=_;rw [hx,Jp hd.1]
   rw [d] at h;have c:=Sat.De h;have:=IL (Ft.set hr hd.1) hd.2 c;rw [<-Jp (λh=>hd.1 (Un h))] at this;grind [Bo,lj]
end
def dF(G H:List Row)(s:Src):zc:=match s with
 | .top i=>(match G[i]? with
  |some r=>aD r.cM none (some i)
  |none=>none)
 | .cw i=>(match H[i]? with
  |some r=>aD r.cM none (some (G.length+i))
  |none=>none)
 |_=>none
def nq(n:Nat):wi->Bool
 |[]=>false
 |o::l=>(match o with
  |some m=>Nat.beq n m
  |none=>false)||nq n l
theorem Rg{n:Nat}:{l:wi}->(nq n l=true↔some n∈l)
 |[]=>by simp [nq]
 |none::l=>by simp [nq,Rg]
 |some m::l=>by simp only [nq,e9,qa,ej];rw [Rg,Nat.beq_eq]
def HG:wi->Bool
 |[]=>true
 |o::l=>(match o with
  |some i=> !(nq i l)
  |none=>true)&&HG l
theorem Aq:{l:wi}->HG l=true->Ndp l
 |[],_=>trivial
 |none::l,h=>by
  exact Aq (l:=l) h
 |some i::l,h=>by simp [HG,ar] at h;exact ⟨(λa=>by grind [Rg]),Aq h.2⟩
section
variable {ρ : ay} {T : aB} {G H : List Row} {Φ : Ctx} {w : World}
theorem Src.pos{s:Src}{r:Row}(h:s.at_ G H r)(hp:r.cM=false):∃i,dF G H s=some i/\(ab ρ T G++(ab ρ T H++Φ))[i]? =some (r.item ρ T):=by
 cases s with
 |top i=>
  have h:G[i]? =some r:=h;simp_all [dF,iH]
 |cw i=>
  have h:H[i]? =some r:=h;simp_all [dF,Wl]
 |nilI=>exact h.elim
 |nilO=>exact h.elim
 |nilM=>exact h.elim
theorem Src.asC{s:Src}{r:Row}(h:s.at_ G H r)(hp:r.cM=true):dF G H s=none:=by
 cases s with
 |top i=>
  have h:G[i]? =some r:=h;grind [dF]
 |cw i=>
  have h:H[i]? =some r:=h;grind [dF]
 |nilI=>exact h.elim
 |nilO=>exact h.elim
 |nilM=>exact h.elim
theorem Src.asD{s:Src}(h:∀r,¬s.at_ G H r):dF G H s=none:=by
 cases s with
 |top i=>
  cases a:G[i]? with
  |none=>simp [dF,a]
  |some r=>exact (h r a).elim
 |cw i=>
  cases a:H[i]? with
  |none=>simp [dF,a]
  |some r=>exact (h r a).elim
 |nilI=>rfl
 |nilO=>rfl
 |nilM=>rfl
theorem Oa(j:Sat (ab ρ T G++(ab ρ T H++Φ)) w):∀{S:List (Bool×Src)} {I:fX},gi (SI ρ T G H) S I->gi (PI (ab ρ T G++(ab ρ T H++Φ)) w) (S.map λx=>dF G H x.2) I/\gi (Ft (ab ρ T G++(ab ρ T H++Φ))) (S.map λx=>dF G H x.2) I
 |_,_,.nil=>⟨.nil,.nil⟩
 |_,_,.cons (a:=a) (b:=x) h1 hr=>by
  obtain ⟨h,g⟩:=Oa j hr;obtain ⟨e,k⟩:=h1;rcases k with ⟨k1,d,f⟩|⟨r,k1,d,f,l⟩
  .have hp:=Src.asD f;refine ⟨.cons ?_ h,.cons ?_ g⟩
   .show PI _ _ (dF G H a.2) x;rw [hp];exact ⟨k1,d _ _⟩
   grind [Ft,dF]
  .cases c:r.cM
   .obtain ⟨i,p1,p2⟩:=Src.pos k1 c;refine ⟨.cons ?_ h,.cons ?_ g⟩
    .show PI _ _ (dF G H a.2) x;rw [p1];exact ⟨_,p2,d⟩
    grind [Ft,dF]
   .have hp:=Src.asC k1 c;refine ⟨.cons ?_ h,.cons ?_ g⟩
    .show PI _ _ (dF G H a.2) x;rw [hp];exact ⟨f c,d.2 _ _ (Src.holds j k1)⟩
    grind [Ft,dF]
def uK(is:wi):Nat->List Row->List Row
 |_,[]=>[]
 |k,r::G=>(aD (nq k is) .gone r)::uK is (k+1) G
def na:List Row->List Row
 |[]=>[]
 |r::G=>(match r with
  | .gone=>na G
  |r=>r::na G)
theorem Gi{B:Ctx}:∀{G:List Row} {A:Ctx},Sat (A++(ab ρ T G++B)) w->Sat (A++(ab ρ T (na G)++B)) w
 |[],_,h=>h
 |r::G,A,h=>by
  unfold na;split
  .exact Gi (Sat.De h)
  .have a:Sat ((A++[r.item ρ T])++(ab ρ T G++B)) w:=by simpa [ab] using h
   have:=Gi a;grind
theorem Po{L:wi}:∀{G:List Row} {k:Nat},ab ρ T (uK L k G)=(ab ρ T G).mapIdx λi it=>aD (nq (k+i) L) jC it
 |[],_=>rfl
 |r::G,k=>by
  simp only [uK,eT,List.mapIdx_cons];have:=Po (L:=L) (G:=G) (k:=k+1);congr 1
  .cases nq k L <;> rfl
  grind
theorem YX:∀{L:wi} {Γ:Ctx} {j:Nat},(lj L Γ)[j]? =(Γ[j]?).map λit=>aD (nq j L) jC it
 |[],Γ,j=>by
  show Γ[j]? =_;cases Γ[j]? <;> rfl
 |none::l,Γ,j=>YX (L:=l)
 |some i::l,Γ,j=>by
  show ((lj l Γ).set i jC)[j]? =_;by_cases e:i=j
  .have hl:(lj l Γ).length=Γ.length:=VT;have a:nq i (some i::l)=true:=by simp [nq]
   grind
  .rw [qJ e,YX];grind [Nat.beq,absurd,Nat.eq_of_beq_eq_true,nq]
end
structure aA where
 f:FuncId
 ps:List Pt
 r:Pt
 os:List (Bool×Nat×Pt)
 m:fN (rR ps)->Option (fN (rA r++jx os))
def ali:Ty->v7->Nat×v7
 | .p a b,o=>match ali a o with
  |(n,o)=>match ali b o with
   |(m,o)=>(n+m,o)
 | .l _,o=>(1,o.tail)
 | .ex,o=>(1,o.tail)
 |_,o=>(0,o)
mutual
def alH:Pt->Nat
 | .sli _|.own _ _ _|.mp _ _ _|.it=>1
 | .bx _ _ _ vs=>Si vs+1
 | .agg l|.cW l=>Si l
 | .fn _ a b=>Si a+Si b
 | .ifc _ p=>alH p
 | .dat t o=>(ali t o).1
 |_=>0
def Si:List Pt->Nat
 |[]=>0
 |p::l=>alH p+Si l
end
def ixN:List Pt->Nat->Nat
 |p::l,i+1=>alH p+ixN l i
 |_,_=>0
def Sf(X:lO)(n:Nat):za:=match X with
 |[]=>[]
 |x::X=>aD (Nat.beq x.1 n) x.2 (Sf X n)
def M1(X:List (Nat×List AV))(n:Nat):List AV:=match X with
 |[]=>[]
 |x::X=>aD (Nat.beq x.1 n) x.2 (M1 X n)
theorem WO{ρ:ay}{n:Nat}:{X:List (Nat×List AV)}->Sf (fm ρ X) n=AV.al ρ (M1 X n)
 |[]=>by simp [Sf,M1,AV.al]
 |x::X=>by
  show (aD (Nat.beq x.1 n) (AV.al ρ x.2) (Sf (fm ρ X) n))=AV.al ρ (aD (Nat.beq x.1 n) x.2 (M1 X n));cases Nat.beq x.1 n
  .exact WO
  .rfl
def UA(ps:List Pt)(vs:za)(X:lO)(i:Nat):Fx:=(vs[i]?).map λv=>(v,Sf X (ixN ps i))
def y7(ps:List Pt)(vs:List AV)(X:List (Nat×List AV))(i:Nat):jE:=match vs[i]? with
 |some v=>some (v,M1 X (ixN ps i))
 |none=>none
theorem Vj{ρ:ay}:{l:List AV}->{i:Nat}->(AV.al ρ l)[i]? =(l[i]?).map (AV.val ρ)
 |[],i=>by simp [AV.al]
 |v::l,0=>by simp [AV.al]
 |v::l,i+1=>by simp only [AV.al,gy];exact Vj
theorem adq{ρ:ay}{ps:List Pt}{vs:List AV}{X:List (Nat×List AV)}{i:Nat}:UA ps (AV.al ρ vs) (fm ρ X) i=iD ρ (y7 ps vs X i):=by
 unfold UA y7;rw [Vj];cases vs[i]? with
 |none=>rfl
 |some v=>simp [WO]
def aA.Ok(P:Program)(Γg:Ctx)(e:aA):Prop:=Enters P e.f/\∀s r,e.m s=some r->∀(vs:za) (N:List Nm) (I:fX) (X:lO) (Φ:Ctx) (w:World),
 yp e.ps vs [] [] [] (iP _ s) I X N->Sat (dE I++Φ) w->(∀it∈Γg,it∈Φ)->
 jA P e.f vs w λv w'=>∃(N1 N2:List Nm) (D1 D2:List cm) (I1 I2:fX) (X1 X2:lO),Sem e.r v none none N D1 I1 X1 N1/\G7 (UA e.ps vs X) (λi=>vs[i]?) e.os N1 D2 I2 X2 N2/\D1++D2=iP _ r/\
  Sat ((dE I1++dE I2)++(iA I++Φ)) w'
def cellsOf(G H:List Row)(j:Nat):List AV:=match eD G H (Bb j) with
 |some (_,.box _ _ cs)=>cs
 |_=>[]
def amS:(t:Ty)->List AV->v7->zk×List AV×v7
 | .i _,vs,o|.bo,vs,o|.s,vs,o=>([],vs.tail,o)
 | .p a b,vs,o=>match amS a vs o with
  |(i,vs,o)=>match amS b vs o with
   |(j,vs,o)=>(i++j,vs,o)
 | .l _,vs,o=>(match o with
  |none::_=>(match vs with
   |v::_=>v.fA
   |[]=>[])
  |_=>[],vs.tail,o.tail)
 | .ex,vs,o=>(match o with
  |none::_=>(match vs with
   |_::_::_::v::_=>v.fA
   |_=>[])
  |_=>[],vs.drop 4,o.tail)
 |_,vs,o=>([],vs,o)
mutual
def yh(G H:List Row):Pt->AV->zk
 | .sli _,v=>v.fA
 | .bx _ _ _ vs,v=>(match v with
  | .ptr j _=>eX G H vs (cellsOf G H j)
  |_=>[])
 | .agg l,v=>(match v with
  | .agg vs=>eX G H l vs
  |_=>[])
 | .cW l,v=>(match v with
  | .tuple vs=>eX G H l vs
  |_=>[])
 | .fn _ a b,v=>(match v with
  | .fn _ a' b'=>eX G H a a'++eX G H b b'
  |_=>[])
 | .ifc _ p,v=>(match v with
  | .ifc _ u=>yh G H p u
  |_=>[])
 | .dat t o,v=>(match v with
  | .agg cs=>(amS t cs o).1
  |_=>[])
 |_,_=>[]
def eX(G H:List Row):List Pt->List AV->zk
 |[],_=>[]
 |p::l,vs=>(match vs with
  |v::vs=>yh G H p (yy G H v)++eX G H l vs
  |[]=>[])
end
def yI(T:aB)(g:GK):List Row->List Row
 |[]=>[]
 |r::G=>(match r with
  | .sli (some k) id t l b=> .sli (aD (T.imp g (some k)) none (some k)) id t l b
  |r=>r)::yI T g G
def C6(g:GK)(r:Row):Row:=match g with
 |none=>r
 |some g=>(match r with
  | .sli none id t l b=> .sli (some g) id t l b
  | .own id t _ l _=> .sli (some g) id t l false
  |r=>r)
def slB:Row->Bool
 | .sli none _ _ _ _|.own .. =>true
 |_=>false
def Vu:List (Bool×Row)->Bool
 |[]=>true
 |x::l=>slB x.2&&Vu l
def vU(B:wi)(c:Nat)(n:Nat):Nat:=match B[n]? with
 |some (some j)=>j
 |_=>c+n
def Wz(c:Nat):wi->Bool
 |[]=>true
 |o::l=>(match o with
  |some j=>Nat.blt j c
  |none=>true)&&Wz c l
def Rj(c:Nat):List (Nat×List AV)->Bool
 |[]=>true
 |x::l=>AV.ck c x.2&&Rj c l
def Ch(G H:List Row):List (Bool×Src)->wi
 |[]=>[]
 |x::S=>(aD x.1 (dF G H x.2) none)::Ch G H S
def Pk(n:Nat):wi->Bool
 |[]=>true
 |o::l=>(match o with
  |some i=>Nat.blt i n
  |none=>true)&&Pk n l
def Sq:wi->Bool
 |[]=>true
 |o::l=>(match o with
  |some _=>false
  |none=>true)&&Sq l
def Oj{R:Type}(_fr:Fr)(st:aC)(g:GK)(d:zd)(args:List AV)(e:aA)(mr:MR)(G1:List Row)(K:cJ R)(r:fN (rA e.r++jx e.os)):Option R:=
 match fill (vU mr.B st.c) e.r none none mr.B.length (iP _ r) with
 |⟨v,R1,k,D,_⟩=>match gI (vU mr.B st.c) (y7 e.ps args mr.X) e.os k D with
  |⟨_,R2,k,_⟩=>aD (match g with|none=>true|some _=>Vu R1) (K { st with c:=st.c+k,E:=cN d g v st.E,G:=(R1++R2).map (λx=>C6 g x.2)++G1 }) none
def agQ{R:Type}(T:aB)(fr:Fr)(st:aC)(g:GK)(d:zd)(args:List AV)(e:aA)(K:cJ R):Option (Option R):=
 match g with
 |none=>(match Jf (cw (eX st.G fr.H e.ps args) st.G) fr.H e.ps args [] [] [] with
  |some mr=>aD (HG (mr.S.map λx=>dF (cw (eX st.G fr.H e.ps args) st.G) fr.H x.2)&&Pk (cw (eX st.G fr.H e.ps args) st.G).length (Ch (cw (eX st.G fr.H e.ps args) st.G) fr.H mr.S)&&Wz st.c mr.B&&AV.ck st.c args&&Rj st.c mr.X&&uy (y7 e.ps args mr.X) e.os) (match cW (rR e.ps) mr.D with
   |some s=>some ((e.m s).bind (Oj fr st none d args e mr (na (uK (Ch (cw (eX st.G fr.H e.ps args) st.G) fr.H mr.S) 0 (cw (eX st.G fr.H e.ps args) st.G))) K))
   |none=>none) none
  |none=>none)
 |some gk=>(match Jf (yI T (some gk) (cw (eX st.G fr.H e.ps args) st.G)) (yI T (some gk) fr.H) e.ps args [] [] [] with
  |some mr=>aD (HG (mr.S.map λx=>dF (yI T (some gk) (cw (eX st.G fr.H e.ps args) st.G)) (yI T (some gk) fr.H) x.2)&&Sq (Ch (yI T (some gk) (cw (eX st.G fr.H e.ps args) st.G)) (yI T (some gk) fr.H) mr.S)&&e.os.isEmpty&&Wz st.c mr.B&&AV.ck st.c args&&Rj st.c mr.X&&uy (y7 e.ps args mr.X) e.os) (match cW (rR e.ps) mr.D with
   |some s=>some (bC (T.get (some gk)) (afc _) (e.m s) (Oj fr st (some gk) d args e mr (cw (eX st.G fr.H e.ps args) st.G) K))
   |none=>none) none
  |none=>none)
def yc{R:Type}(T:aB)(fr:Fr)(st:aC)(g:GK)(d:zd)(f:FuncId)(args:List AV)(K:cJ R):List aA->Option R
 |[]=>none
 |e::tb=>aD (Nat.beq e.f f) (match agQ T fr st g d args e K with
   |some r=>r
   |none=>yc T fr st g d f args K tb) (yc T fr st g d f args K tb)
section
variable {ρ : ay} {T : aB} {G H : List Row} {Φ : Ctx} {w : World}
theorem Rn{s:Src}{i:Nat}(h:dF G H s=some i):i<G.length+H.length:=by
 cases s with
 |top j=>
  simp only [dF] at h;split at h
  next r a=>obtain ⟨_,b⟩:=OF h;cases b;have:=(List.getElem?_eq_some_iff.1 a).1;omega
  .cases h
 |cw j=>
  simp only [dF] at h;split at h
  next r a=>obtain ⟨_,b⟩:=OF h;cases b;have:=(List.getElem?_eq_some_iff.1 a).1;omega
  .cases h
 |nilI=>cases h
 |nilO=>cases h
 |nilM=>cases h
theorem Ql:∀{S:List (Bool×Src)} {I:fX},gi (SI ρ T G H) S I->Bo (S.map λx=>dF G H x.2) I=Ch G H S
 |_,_,.nil=>rfl
 |_,_,.cons (a:=a) (b:=x) h1 hr=>by show (aD x.1 (dF G H a.2) none)::Bo _ _=(aD a.1 (dF G H a.2) none)::_;rw [Ql hr,h1.1]
theorem Vy{n:Nat}:∀{L:wi} {j:Nat},Pk n L=true->nq j L=true->j<n
 |[],j,h,a=>by cases a
 |none::l,j,h,a=>by
  simp only [Pk,iQ] at h;simp only [nq,mE] at a;exact Vy h a
 |some i::l,j,h,a=>by
  simp only [Pk,ar,j0] at h;simp only [nq,e9] at a;rcases a with a|a
  .rw [b0 a];exact h.1
  .exact Vy h.2 a
theorem Eg{L:wi}{Δ:Ctx}(h:Pk G.length L=true):lj L (ab ρ T G++Δ)=ab ρ T (uK L 0 G)++Δ:=by
 apply l9;intro j;rw [YX,Po];by_cases a:j<G.length
 .rw [ec (by simpa [ab] using a),ec (by simpa [ab] using a),List.getElem?_mapIdx];simp
 .have e:nq j L=false:=by
   cases hm:nq j L
   .rfl
   .exact absurd (Vy h hm) a
  rw [c9 (by simp [ab];omega),c9 (by simp [ab];omega),e];have b:(ab ρ T G).length=((ab ρ T G).mapIdx λi it=>aD (nq (0+i) L) jC it).length:=by simp
  rw [<-b];cases Δ[j-(ab ρ T G).length]? <;> rfl
theorem Y2:∀{L:wi} {Γ:Ctx},Sq L=true->lj L Γ=Γ
 |[],_,_=>rfl
 |none::l,Γ,h=>by
  simp only [Sq,iQ] at h;exact Y2 (L:=l) h
 |some i::l,Γ,h=>by simp [Sq] at h
theorem QO{g:GK}(c:T.get g=true){B:Ctx}:∀{G:List Row} {A:Ctx},Sat (A++(ab ρ T G++B)) w->Sat (A++(ab ρ T (yI T g G)++B)) w
 |[],_,h=>h
 |r::G,A,h=>by
  have step:∀a:Row,bW (r.item ρ T) (a.item ρ T)->Sat (A++(ab ρ T (a::yI T g G)++B)) w:=λa hl=>by
   have d:Sat (A++a.item ρ T::(ab ρ T G++B)) w:=Sat.Gb h hl;have e:Sat ((A++[a.item ρ T])++(ab ρ T G++B)) w:=by simpa [ab] using d
   have:=QO c (G:=G) e;simpa [ab] using this
  unfold yI;split
  .rename_i k id t l b;refine step _ ?_;cases hi:T.imp g (some k)
   .exact bW.refl
   .refine ⟨λ_ h=>h,λM w h _=>h (aB.np hi c)⟩
  .exact step _ bW.refl
theorem Vk{g:GK}:∀{G:List Row},gi bW (ab ρ T (yI T g G)) (ab ρ T G)
 |[]=> .nil
 |r::G=>by
  show gi bW (ab ρ T (yI T g (r::G))) (r.item ρ T::ab ρ T G);unfold yI;refine .cons ?_ Vk;split
  .rename_i k id t l b;cases hi:T.imp g (some k)
   .exact bW.refl
   .exact ⟨λ_ h=>h,λM w h _=>h aB.get_none⟩
  .exact bW.refl
theorem ZY{g:Nat×Bool}{B:Ctx}:∀{R:List (Bool×Row)} {A:Ctx},Vu R=true->Sat (A++(ab ρ T (R.map (·.2))++B)) w->Sat (A++(ab ρ T (R.map λx=>C6 (some g) x.2)++B)) w
 |[],_,_,h=>h
 |(m,r)::R,A,hb,h=>by
  simp only [Vu,ar] at hb;have step:Sat (A++(C6 (some g) r).item ρ T::(ab ρ T (R.map (·.2))++B)) w:=by
   have c:Sat (A++r.item ρ T::(ab ρ T (R.map (·.2))++B)) w:=h;cases r with
   |sli k id t l b=>
    cases k with
    |none=>exact c.Gb ⟨λ_ h=>h,λM w h _=>h aB.get_none⟩
    |some k=>simp [slB] at hb
   |own id t e l a=>
    have hi:(A++(Row.own id t e l a).item ρ T::(ab ρ T (R.map (·.2))++B))[A.length]? =some (tQ t.rep e (ρ id).v l ((ρ a).y=⟨.l t,l⟩)):=by simp [Row.item]
    have d:=c.mC hi (new:=(C6 (some g) (Row.own id t e l a)).item ρ T) ((Ext.refl w).xn _) (λb hb=>by cases hb) (λM' m hn=>λ_=>⟨(c.at_ hi).1.freeze (λb hb=>hn b hb (λhb=>by cases hb)) m,λhb=>by cases hb⟩);simpa using d
   |_=>simp [slB] at hb
  have f:Sat ((A++[(C6 (some g) r).item ρ T])++(ab ρ T (R.map (·.2))++B)) w:=by simpa using step
  have:=ZY (g:=g) hb.2 f;simpa [ab] using this
theorem KE{g:Nat×Bool}(a:T.get (some g)=false):∀{R:List (Bool×Row)},Vu R=true->∀it∈ab ρ T (R.map λx=>C6 (some g) x.2),it.cM=true/\∀M w,it.P M w
 |[],_,it,h=>by cases h
 |(m,r)::R,hb,it,h=>by
  simp only [Vu,ar] at hb;rw [eT,ab,eT] at h;rcases List.mem_cons.1 h with rfl|h
  .cases r with
   |sli k id t l b=>
    cases k with
    |none=>exact ⟨rfl,λM w h=>by rw [a] at h;cases h⟩
    |some k=>simp [slB] at hb
   |own id t e l c=>exact ⟨rfl,λM w h=>by rw [a] at h;cases h⟩
   |_=>simp [slB] at hb
  .exact KE a hb.2 it h
theorem gi.rw{R:List (Bool×Row)}{I:fX}(h:gi (RwI ρ T) R I):gi bW (dE I) (ab ρ T (R.map (·.2))):=by
 induction h with
 |nil=>exact .nil
 |cons a _ ih=>exact .cons a.2.1 ih
theorem SM{R:List (Bool×Row)}:(R.map λx=>C6 none x.2)=R.map (·.2):=rfl
theorem Xc{N2:List Nm}{B:wi}{c:Nat}(hN:NB ρ B N)(hp:x8 N N2)(p:Wz c B=true):
  xN (λi=>aD (Nat.blt i c) (ρ i) ((N2[i-c]?).getD dy)) (vU B c) B.length N2:=by
 intro i a ha;have e:∀n,(aD (Nat.blt (c+n) c) (ρ (c+n)) ((N2[c+n-c]?).getD dy))=(N2[n]?).getD dy:=λn=>by
  have:Nat.blt (c+n) c=false:=by
   cases hb:Nat.blt (c+n) c
   .rfl
   .simp only [j0] at hb;omega
  rw [this,show c+n-c=n by omega]
 unfold vU;split
 .rename_i j d;obtain ⟨r,q,f⟩:=hN.get d;have k:=hp.at_ q;rw [ha] at k;cases k;have b:Nat.blt j c=true:=by
   have key:∀(B:wi) (i:Nat),Wz c B=true->B[i]? =some (some j)->Nat.blt j c=true:=λB=>by
    induction B with
    |nil=>intro i _ h;simp at h
    |cons o l ih=>
     intro i h g;simp only [Wz,ar] at h;cases i with
     |zero=>simp at g;subst g;exact h.1
     |succ i=>exact ih i h.2 (by simpa using g)
   exact key B i p d
  simp only [b];refine ⟨f.1.symm,f.2.1.symm,f.2.2.symm,λm=>?_⟩;have:=(List.getElem?_eq_some_iff.1 d).1;omega
 .simp only [e,ha,qE];exact ⟨trivial,trivial,trivial,λ_=>trivial⟩
theorem Z6{ρ':ay}{c:Nat}(ha:aS c ρ ρ'):{X:List (Nat×List AV)}->Rj c X=true->fm ρ' X=fm ρ X
 |[],_=>rfl
 |x::X,h=>by simp only [Rj,ar] at h;show (x.1,AV.al ρ' x.2)::fm ρ' X=(x.1,AV.al ρ x.2)::fm ρ X;rw [AV.cd ha _ h.1,Z6 ha h.2]
end
section
variable {P : Program} {R : Type} {r : R} {K : cJ R} {T : aB} {fr : Fr} {st : aC} {g : GK} {d : zd} {ρ : ay} {Φ Γg : Ctx} {w : World} {ty : TypeId} {pos : String} {af : zf} {gd : wb}
theorem MQ{e:aA}{args:List AV}{a:MR}{l:List Row}{q:fN (rA e.r++jx e.os)}{v:Value}{w':World}{p N2:List Nm}{F s:List cm}{E n:fX}{X1 V:lO}
  (hl:st.low fr=true) (I:bB st.c l=true) (hN:NB ρ a.B N) (hB:Wz st.c a.B=true) (hA:AV.ck st.c args=true) (hX:Rj st.c a.X=true) (hF:uy (y7 e.ps args a.X) e.os=true)
  (Z:Sem e.r v none none N F E X1 p) (z:G7 (UA e.ps (AV.al ρ args) (fm ρ a.X)) (λi=>(AV.al ρ args)[i]?) e.os p s n V N2) (hD:F++s=iP _ q)
  (hg:T.get g=true) (hs:Sat ((dE E++dE n)++(ab ρ T l++(ab ρ T fr.H++Φ))) w') (b:g=none\/e.os=[]) (h:Oj fr st g d args e a l K q=some r):aU r K T fr st g d ρ Φ v w':=by
 have w:=Ay _ _ _ _ _ _ _ _ _ Z;have u:=PW _ _ _ _ _ _ z;have m:=Xc (N2:=N2) hN (w.trans u) hB;have f:aS st.c ρ (λi=>aD (Nat.blt i st.c) (ρ i) ((N2[i-st.c]?).getD dy)):=λj hj=>by
  have:Nat.blt j st.c=true:=by simpa using hj
  simp only [this]
 generalize hρ:(λi=>aD (Nat.blt i st.c) (ρ i) ((N2[i-st.c]?).getD dy))=ρ' at m f;have y:a.B.length=N.length:=hN.length;obtain ⟨U,S,Q,a4,P⟩:=Iq (T:=T) e.r v none none N F E X1 p Z (Hs _) (m.pre u) (by omega) s;have J:G7 (λi=>iD ρ' (y7 e.ps args a.X i)) (λi=>(AV.al ρ args)[i]?) e.os p s n V N2:=by
  have e1:(λi=>iD ρ' (y7 e.ps args a.X i))=UA e.ps (AV.al ρ args) (fm ρ a.X):=by
   funext i
   rw [<-AV.cd f _ hA,<-Z6 f hX,adq]
  rw [e1];exact z
 obtain ⟨b1,O,M,o⟩:=Rk (T:=T) e.os p s n V N2 J hF m (dx (by omega) w.len) [];unfold Oj at h;rw [<-hD,y] at h;generalize fill (vU a.B st.c) e.r none none N.length (F++s)=L at U S Q a4 P h;obtain ⟨v',D,k,DD,XX⟩:=L;simp only at U S Q a4 P;subst S;subst Q;dsimp only at h;rw [j5] at b1 O M o;generalize gI (vU a.B st.c) (y7 e.ps args a.X) e.os p.length DD=L at b1 O M o h;obtain ⟨E2,W,Y,DD2⟩:=L;simp only at O M o;dsimp only at h;obtain ⟨c1,c2⟩:=aI h;refine aU.new (ρ':=ρ') hl c2 f (by simp) rfl U ?_;have t:Sat ((ab ρ' T (D.map (·.2))++ab ρ' T (W.map (·.2)))++(ab ρ T l++(ab ρ T fr.H++Φ))) w':=by have k1:=Sat.Z2 (A:=[]) (B:=dE E) (C:=dE n++(ab ρ T l++(ab ρ T fr.H++Φ))) (by simpa using hs) P.rw;have Y:=Sat.Z2 (A:=ab ρ' T (D.map (·.2))) (B:=dE n) (C:=ab ρ T l++(ab ρ T fr.H++Φ)) k1 o.rw;simpa using Y
 have e3:=aZ (T:=T) f I;show Sat (ab ρ' T ((D++W).map (λx=>C6 g x.2)++l)++(ab ρ T fr.H++Φ)) w';rw [bg,e3,q9,bg];cases g with
 |none=>
  rw [SM,SM];simpa using t
 |some gk=>
  rcases b with b|b
  .cases b
  .have G:W=[]:=by
    have hI:n=[]:=by rw [b] at z;exact z.2.1
    rw [hI] at o;cases o;rfl
   subst G;have k3:=ZY (g:=gk) (A:=[]) (R:=D) (B:=ab ρ T l++(ab ρ T fr.H++Φ)) c1 (by simpa using t);simpa using k3
theorem aiJ{e:aA}{op:Op}{args:List AV}(hl:st.low fr=true)(p:Sat (ab ρ T st.G++(ab ρ T fr.H++Φ)) w)(he:e.Ok P Γg)(hΓ:∀it∈Γg,it∈Φ)
  (ent:T.get g=true->∀n j,Fits n (az ρ T st.E fr.F) j->(execOp j.eval ⟨d,op,ty,pos,af,gd⟩).run P w= .ok (.enter e.f (AV.al ρ args).toArray) w) (h:agQ T fr st g d args e K=some (some r)):
  mP P T g (az ρ T st.E fr.F) ⟨d,op,ty,pos,af,gd⟩ w (aU r K T fr st g d ρ Φ):=by
 have Z:=uO (ids:=eX st.G fr.H e.ps args) (aC.cG.1 hl).2.2.1;replace p:=lI (ids:=eX st.G fr.H e.ps args) p
 -- what is lent, taken and handed back
 have key:∀(o l:List Row) (a:MR) (s:fN (rR e.ps)) (q:fN (rA e.r++jx e.os)),Sat (ab ρ T o++(ab ρ T l++Φ)) w->Jf o l e.ps args [] [] []=some a->HG (a.S.map λx=>dF o l x.2)=true->
   cW (rR e.ps) a.D=some s->e.m s=some q->jA P e.f (AV.al ρ args) w λv w'=>∃(N J N2:List Nm) (R Q:List cm) (O M:fX) (X1 X2:lO),NB ρ a.B N/\Sem e.r v none none N R O X1 J/\
    G7 (UA e.ps (AV.al ρ args) (fm ρ a.X)) (λi=>(AV.al ρ args)[i]?) e.os J Q M X2 N2/\R++Q=iP _ q/\Sat ((dE O++dE M)++lj (Ch o l a.S) (ab ρ T o++(ab ρ T l++Φ))) w':=λo l a s q p hm hnd b hq=>by
  obtain ⟨N,I,s1,n1,a1⟩:=Bt p e.ps args [] [] [] a [] hm (.inl rfl) .nil;rw [<-Dz _ b] at s1;obtain ⟨p1,p2⟩:=Oa p a1;have y:=Aq hnd;obtain ⟨q1,_⟩:=AH p p1 y;refine (he.2 s q hq (AV.al ρ args) N I (fm ρ a.X) _ w (by simpa only [AV.al] using s1) q1 (λit bI=>?_)).mono ?_
  .obtain ⟨k,hk⟩:=List.mem_iff_getElem?.1 (hΓ it bI);have hk2:(ab ρ T o++(ab ρ T l++Φ))[o.length+l.length+k]? =some it:=by
    rw [c9 (by simp [ab];omega),c9 (by simp [ab];omega)];have:o.length+l.length+k-(ab ρ T o).length-(ab ρ T l).length=k:=by simp [ab];omega
    rw [this];exact hk
   refine fe (i:=o.length+l.length+k) ?_;rw [Dx,hk2];intro Y;obtain ⟨x,_,hx⟩:=List.mem_map.1 Y;have:=Rn hx;omega
  .intro v w' V;obtain ⟨J,N2,R,Q,O,M,X1,X2,c1,c2,c3,C⟩:=V;have z:=IL p2 y C;rw [Ql a1] at z;exact ⟨N,J,N2,R,Q,O,M,X1,X2,n1,c1,c2,c3,z⟩
 unfold agQ at h;cases g with
 |none=>
  dsimp only at h;split at h
  .rename_i a hm;obtain ⟨h1,u⟩:=aI h;simp only [ar] at h1;obtain ⟨⟨⟨⟨⟨h3,h4⟩,h5⟩,h6⟩,h7⟩,h9⟩:=h1;split at u
   .rename_i s b;simp only [ej] at u;obtain ⟨q,hq,hk⟩:=iB u;refine .none_ (λn j hf=> .inr (.inr ⟨e.f,AV.al ρ args,ent aB.get_none n j hf,(key _ _ a s q p hm h3 b hq).mono λv w' V=>?_⟩));obtain ⟨N,J,N2,R,Q,O,M,X1,X2,n1,c1,c2,c3,C⟩:=V;rw [Eg h4] at C;have z:=Gi C;refine MQ hl ?_ n1 h5 h6 h7 h9 c1 c2 c3 aB.get_none z (.inl rfl) hk;have U:∀(L:wi) (G:List Row) (k:Nat),bB st.c G=true->bB st.c (na (uK L k G))=true:=λL G=>by
     induction G with
     |nil=>intro k _;rfl
     |cons r G ih=>
      intro k hG;simp only [bB,ar] at hG;show bB st.c (na ((aD (nq k L) .gone r)::uK L (k+1) G))=true;cases nq k L
      .cases r <;> first|exact ih (k+1) hG.2|(simp only [na,bB,ar];exact ⟨hG.1,ih (k+1) hG.2⟩)
      .exact ih (k+1) hG.2
    exact U _ _ _ Z
   .cases u
  .cases h
 |some gk=>
  dsimp only at h;split at h
  .rename_i a hm;obtain ⟨h1,u⟩:=aI h;simp only [ar] at h1;obtain ⟨⟨⟨⟨⟨⟨h3,h4⟩,h8⟩,h5⟩,h6⟩,h7⟩,h9⟩:=h1;have W:e.os=[]:=by simpa using h8
   split at u
   .rename_i s b;simp only [ej] at u;obtain ⟨q,hq1,hq0,hk⟩:=Uf u;refine ⟨λt=>λn j hf=> .inr (.inr ⟨e.f,AV.al ρ args,ent t n j hf,(key _ _ a s q (QO (A:=ab ρ T (yI T (some gk) (cw (eX st.G fr.H e.ps args) st.G))) t (QO (A:=[]) t p)) hm h3 b (hq1 t)).mono λv w' V=>?_⟩),λt=>?_⟩
    .obtain ⟨N,J,N2,R,Q,O,M,X1,X2,n1,c1,c2,c3,C⟩:=V;rw [Y2 h4] at C;have z:=Sat.Z2 C Vk;rw [<-cb] at z;have c6:=Sat.Z2 z Vk;rw [cb] at c6;exact MQ hl Z n1 h5 h6 h7 h9 c1 c2 c3 t c6 (.inr W) hk
    .have e0:=hq0 t;subst e0;unfold Oj at hk;generalize fill (vU a.B st.c) e.r none none a.B.length (iP _ (afc _))=L at hk;obtain ⟨v',R1,k,DD,XX⟩:=L;dsimp only at hk;have e2:gI (vU a.B st.c) (y7 e.ps args a.X) e.os k DD=⟨[],[],k,DD⟩:=by rw [W];rfl
     rw [e2] at hk;dsimp only at hk;obtain ⟨d1,d2⟩:=aI hk;refine ⟨_,aU.kT d2 (by simp) rfl rfl ?_⟩;show Sat (ab ρ T ((R1++[]).map (λx:Bool×Row=>C6 (some gk) x.2)++_)++_) w;rw [j5,bg,cb];exact E7 p _ (λit bI=>⟨(KE t d1 it bI).1,(KE t d1 it bI).2 _ _⟩)
   .cases u
  .cases h
end
def Ux:(t:Ty)->List t.T->Option za
 | .s,xs=>some (xs.map S)
 | .i k,xs=>some (xs.map (.int k))
 |_,_=>none
def glI(p:Nat×Nat×cm):Item:=match p.2.2 with
 |⟨.l t,xs⟩=>(match Ux t xs with
  |some cs=>gl p.1 cs
  |none=>jC)
 |_=>jC
def Cx.Γ(X:Cx):Ctx:=X.gls.map glI
def Yu:List (Nat×Nat×cm)->Nat->Option cm
 |[],_=>none
 |p::l,b=>aD (Nat.beq p.1 b) (some p.2.2) (Yu l b)
theorem Z1:{l:List (Nat×Nat×cm)}->{b:Nat}->{d:cm}->Yu l b=some d->∃p,p∈l/\p.1=b/\p.2.2=d
 |[],_,_,h=>by cases h
 |p::l,b,d,h=>by
  unfold Yu at h;rcases ek h with ⟨f,a⟩|⟨_,a⟩
  .cases a;exact ⟨p,c8 .., b0 f,rfl⟩
  .obtain ⟨q,e,c⟩:=Z1 a;exact ⟨q,cp _ e,c⟩
theorem ahK{M:Nat->Prop}{w:World}:{t:Ty}->{xs:List t.T}->{cs:za}->Ux t xs=some cs->cT t.rep M w cs xs
 | .s,xs,_,h=>by cases h;exact aaJ xs
 | .i k,xs,_,h=>by cases h;exact Xm xs
 | .bo,_,_,h|.un,_,_,h|.n,_,_,h|.p _ _,_,_,h|.l _,_,_,h|.mp _ _,_,_,h|.ex,_,_,h=>by cases h
structure GA where
 n:Nat
 e:TypeId
 b:Nat
 t:Ty
 xs:List t.T
 m:Nat
def gaA(X:Cx)(T:aB)(fr:Fr)(st:aC)(g:GK)(t:TypeId)(x:Operand):Option GA:=match X.P.underlying t with
 |some (.array n e)=>(match px X.P e with
  |some z=>(match br T st.E fr.F g x with
   |some (.gp b)=>(match Yu X.gls b with
    |some ⟨.l u,xs⟩=>aD ((Ux u xs).isSome&&Nat.beq z.1 u.n'&&Nat.beq n xs.length&&Nat.blt 0 n) (some ⟨n,e,b,u,xs,z.1⟩) none
    |_=>none)
   |_=>none)
  |none=>none)
 |_=>none
section
variable {X : Cx} {R : Type} {r : R} {K : cJ R} {T : aB} {fr : Fr} {st : aC} {g : GK} {d : Tmp} {ρ : ay} {Φ : Ctx} {w : World} {ty : TypeId} {pos : String} {af : zf} {gd : wb}
theorem ahX{t:TypeId}{x:Operand}{q:GA}(f:∀it∈X.Γ,it∈Φ)(A:Sat (ab ρ T st.G++(ab ρ T fr.H++Φ)) w)(h:gaA X T fr st g t x=some q):
  X.P.underlying t=some (.array q.n q.e)/\(∃bytes z,TI X.P q.e q.m bytes z)/\an (az ρ T st.E fr.F) (T.get g) x (.pointer (some ⟨q.b,0,none⟩))/\q.m=q.t.rep.n/\q.n=q.xs.length/\Nat.blt 0 q.n=true/\
   bS q.t.rep (Ctx.M (ab ρ T st.G++(ab ρ T fr.H++Φ))) w (sl (some ⟨q.b,0,none⟩,q.xs.length,q.xs.length)) q.xs:=by
 unfold gaA at h;split at h
 .rename_i n e ht;split at h
  .rename_i z y;obtain ⟨m,bytes,z⟩:=z;split at h
   .rename_i b hx;split at h
    .rename_i u xs B;obtain ⟨s,J⟩:=aI h;cases J;simp only [ar] at s;obtain ⟨⟨⟨r,I⟩,D⟩,C⟩:=s;have c:=aO (ρ:=ρ) hx;simp only [AV.val] at c;obtain ⟨p,p1,p2,o⟩:=Z1 B;obtain ⟨k,v,N⟩:=p;simp only at p2 o;subst p2;subst o;cases j:Ux u xs with
     |none=>rw [j] at r;cases r
     |some cs=>
      have d:gl k cs∈Φ:=by have:=f (glI (k,v,⟨.l u,xs⟩)) (List.mem_map.2 ⟨_,p1,rfl⟩);unfold glI at this;simp only [j] at this;exact this
      have a:gl k cs∈ab ρ T st.G++(ab ρ T fr.H++Φ):=gx _ (gx _ d);obtain ⟨i,hi⟩:=List.mem_iff_getElem?.1 a;obtain ⟨L,K⟩:=A.gl hi;exact ⟨ht,⟨bytes,z,cR y⟩,c,(b0 I).trans u.Fo.symm,b0 D,C,ar5 L K (ahK j)⟩
    .cases h
   .cases h
  .cases h
 .cases h
def Yz(X:Cx)(T:aB)(fr:Fr)(st:aC)(g:GK)(d:Tmp)(t:TypeId)(x y:Operand)(K:cJ R):Option R:=match gaA X T fr st g t x with
 |some q=>(match br T st.E fr.F g y with
  |some (.int _ i)=>aq7 T g st d q.t q.xs i K
  |_=>none)
 |none=>none
theorem ZK{N:TypeId}{x y:Operand}(hl:st.low fr=true)(O:∀it∈X.Γ,it∈Φ)(U:Sat (ab ρ T st.G++(ab ρ T fr.H++Φ)) w)(h:Yz X T fr st g d N x y K=some r):
  Ps X.P T g (az ρ T st.E fr.F) ⟨some d,.indexAddr N x y,ty,pos,af,gd⟩ w (aU r K T fr st g (some d) ρ Φ):=by
 unfold Yz at h;split at h
 .rename_i q hq;obtain ⟨ht,⟨bytes,z,C⟩,B,hm,hn,_,hS⟩:=ahX O U hq;obtain ⟨n,e,b,t,l,m⟩:=q;simp only at ht C B hm hn hS h;split at h
  .rename_i k i hy;have A:=aO (ρ:=ρ) hy;simp only [AV.val] at A;obtain ⟨u,V,b2⟩:=CC h;have key:∃(p:Addr) (f:ay),aS st.c ρ f/\(f st.c).a=p/\(T.get g=true->B6 (sl (some ⟨b,0,none⟩,l.length,l.length)) i m p)/\
     ∀it∈ab f T (.elm g st.c (ed t u (st.c+1)).1::((ed t u (st.c+1)).2.1.map (yS g))),it.cM=true/\it.P (Ctx.M (ab ρ T st.G++(ab ρ T fr.H++Φ))) w:=by
    cases s:T.get g
    .refine ⟨⟨0,0,none⟩,ρ.set st.c dy,ay.aX,by rw [ay.bH];rfl,(λh=>by cases h),λit bI=>?_⟩;rw [ab,eT] at bI;rcases List.mem_cons.1 bI with rfl|bI
     .exact ⟨rfl,λh=>by rw [s] at h;cases h⟩
     .obtain ⟨r1,v,rfl⟩:=List.mem_map.1 bI;obtain ⟨r2,j,rfl⟩:=List.mem_map.1 v;obtain ⟨j1,t1,l1,rfl⟩:=LZ _ _ _ _ j;exact xl (λh=>by rw [s] at h;cases h)
    .obtain ⟨L,vs,S,e3,e4⟩:=hS.atA (V s);obtain ⟨f,m1⟩:=H7 (T:=T) t u (st.c+1) vs e3 (ρ.set st.c { dy with a:=u4 (sl (some ⟨b,0,none⟩,l.length,l.length)) i t.rep.n });have J:(f st.c).a=u4 (sl (some ⟨b,0,none⟩,l.length,l.length)) i t.rep.n:=by rw [m1.ag _ (ko _),ay.bH]
     refine ⟨u4 (sl (some ⟨b,0,none⟩,l.length,l.length)) i t.rep.n,f,ay.aX.trans m1.ag (j2 _),J,λ_=>by rw [hm];exact L,λit bI=>?_⟩;rw [ab,eT] at bI;rcases List.mem_cons.1 bI with rfl|bI
     .refine ⟨rfl,λ_=>?_⟩;show ¬Ctx.M _ (f st.c).a.block/\bM w (f st.c).a _;rw [J,m1.eq];exact ⟨e4,S⟩
     .obtain ⟨r1,v,rfl⟩:=List.mem_map.1 bI;obtain ⟨r2,j,rfl⟩:=List.mem_map.1 v;have R:=m1.rp _ j;obtain ⟨j1,t1,l1,rfl⟩:=m1.rs _ j;exact xl (λ_=>R)
   obtain ⟨p,f,k1,Z,Y,W⟩:=key;have Q:=E7 U _ W;have eG:=aZ (T:=T) k1 (aC.cG.1 hl).2.2.1
   -- what stands there where g does not hold does not count
   have D:∀w',bc X.P (az ρ T st.E fr.F) (T.get g) ⟨some d,.indexAddr N x y,ty,pos,af,gd⟩ w' (.pointer (some ((⟨b,0,none⟩:Addr).add (i.toNat*m)))):=λw'=>
    Dq ht C B A (λs=>aoo (V s) hn.symm)
   have o:aU r K T fr st g (some d) ρ Φ (.pointer (some p)) w:=by
    refine aU.new (ρ':=f) hl b2 k1 (dx (j2 _) (Mg _ _ _)) rfl (by simp only [AV.val,Z];simp [Addr.add]) ?_;show Sat (ab f T (Row.elm g st.c _::(_++st.G))++_) w;have e8:ab f T (Row.elm g st.c (ed t u (st.c+1)).1::((ed t u (st.c+1)).2.1.map (yS g)++st.G))=ab f T (.elm g st.c (ed t u (st.c+1)).1::((ed t u (st.c+1)).2.1.map (yS g)))++ab f T st.G:=by simp [ab]
    rw [e8,eG,cb];exact Q
   cases s:T.get g
   .exact ⟨_,λw'=>λn a hf I=>(by rw [s] at I;cases I),o⟩
   .obtain ⟨a,len,cap,L,_,_,S⟩:=Y s;have e3:p=(⟨b,0,none⟩:Addr).add (i.toNat*m):=by
     injection L with L _ _
     cases L;exact S
    subst e3;exact ⟨_,D,o⟩
  .cases h
 .cases h
def aj7(X:Cx)(T:aB)(fr:Fr)(st:aC)(d:Tmp)(t:TypeId)(x:Operand)(lo hi mx:Option Operand)(K:cJ R):Option R:=match lo,hi,mx with
 |none,none,none=>(match gaA X T fr st none t x with
  |some q=>K { st with c:=st.c+1,E:=cN (some d) none (.sl st.c) st.E,G:= .sli none st.c q.t q.xs false::st.G }
  |none=>none)
 |_,_,_=>none
theorem anO{t:TypeId}{x:Operand}{lo hi g:Option Operand}(hl:st.low fr=true)(e:∀it∈X.Γ,it∈Φ)(i:Sat (ab ρ T st.G++(ab ρ T fr.H++Φ)) w)(h:aj7 X T fr st d t x lo hi g K=some r):
  mP X.P T none (az ρ T st.E fr.F) ⟨some d,.slice t x lo hi g,ty,pos,af,gd⟩ w (aU r K T fr st none (some d) ρ Φ):=by
 unfold aj7 at h;split at h
 .split at h
  next q j=>obtain ⟨ht,⟨bytes,z,f⟩,a,hm,hn,c,hS⟩:=ahX e i j;rw [aB.get_none] at a;refine .none_ (bL.gd (bL.run (agW ht f c a) ?_));refine aU.push (x:={ dy with v:=(some ⟨q.b,0,none⟩,q.n,q.n) }) hl h (by simp only [AV.val,ay.bH];rfl) (i.add rfl ?_);intro _;rw [ay.bH];exact ⟨by rw [hn];exact hS,λh=>by cases h⟩
  .cases h
 .cases h
end
variable {cv : x3 × AV}
def sEq(P:Program)(t:TypeId)(a b:AV):x3:=match P.underlying t with
 |some (.int _)=>(match a,b with
  | .int k x,.int k' y=>aD (jW k k') (some (x==y)) none
  |_,_=>none)
 |some .bool=>(match a,b with
  | .bool x,.bool y=>some (x==y)
  |_,_=>none)
 |some .string=>(match a,b with
  | .str x,.str y=>some (x==y)
  |_,_=>none)
 |_=>none
def fEq(P:Program):List Field->Nat->List AV->List AV->Option zi
 |[],_,l1,l2=>aD (l1.isEmpty&&l2.isEmpty) (some []) none
 |f::fs,k,l1,l2=>(match l1,l2 with
  |a::l1,b::l2=>aD (f.name != "_" &&Nat.beq f.offset k) (match sEq P f.type a b with
   |some r=>(match fEq P fs (k+1) l1 l2 with
    |some l=>some (r::l)
    |none=>none)
   |none=>none) none
  |_,_=>none)
def aaR:Bool->zi->Bool
 |b,[]=>b
 |b,c::l=>aaR (b&&c) l
def eqL:zi->Bool
 |[]=>true
 |b::l=>aaR b l
theorem adl:∀{l:zi} {b:Bool},aaR b l=(b&&l.foldr (· && ·) true)
 |[],b=>by simp [aaR]
 |c::l,b=>by simp only [aaR,adl,List.foldr_cons,Bool.and_assoc]
theorem aqi:∀{l:zi},eqL l=l.foldr (· && ·) true
 |[]=>rfl
 |b::l=>by simp only [eqL,adl,List.foldr_cons]
def amd(X:Cx)(T:aB)(E F:aF)(g:GK):Op->CV
 | .binOp op t x y _=>(match br T E F g x with
  |some (.agg l1)=>(match br T E F g y with
   |some (.agg l2)=>(match X.P.underlying t with
    |some (.struct fs)=>aD (!(X.P.eqGuardType X.P.depth t)&& !(X.P.stoodInHeld t)) (match fEq X.P fs.toList 0 l1 l2 with
     |some bs=>(match op with
      | .eql=>pv (.bool (eqL bs))
      | .neq=>pv (.bool (!(eqL bs)))
      |_=>none)
     |none=>none) none
    |_=>none)
   |_=>none)
  |_=>none)
 |_=>none
def ajU(X:Cx)(T:aB)(E F:aF)(g:GK):Op->CV
 | .typeAssert x _ t true=>(match X.P.underlying t with
  |some dd=>aD (!(iS dd)) (match br T E F g x with
   |some (.ifc t' v)=>aD (Nat.beq t' t) (pv (.tuple [v,.bool true])) (match px X.P t with
    |some z=>pv (.tuple [.raw z.2.2,.bool false])
    |none=>none)
   |some (.raw .nilIface)=>(match px X.P t with
    |some z=>pv (.tuple [.raw z.2.2,.bool false])
    |none=>none)
   |_=>none) none
  |none=>none)
 |_=>none
def agY(X:Cx)(T:aB)(E F:aF)(g:GK):Op->CV
 | .indexAddr t x (.const (.int _ (.ofNat j)))=>(match X.P.underlying t with
  |some (.array n e)=>(match px X.P e with
   |some z=>(match br T E F g x with
    |some (.ptr id off)=>aD (Nat.blt j n) (pv (.ptr id (off+j*z.1))) none
    |_=>none)
   |none=>none)
  |_=>none)
 |_=>none
def akI(X:Cx)(T:aB)(E F:aF)(g:GK)(op:Op):CV:=match aj6 X T E F g op with
 |some cv=>some cv
 |none=>(match amd X T E F g op with
  |some cv=>some cv
  |none=>(match ajU X T E F g op with
   |some cv=>some cv
   |none=>agY X T E F g op))
section
variable {X : Cx} {T : aB} {E F : aF} {g : GK} {ρ : ay} {w : World} {dst : zd} {ty : TypeId} {pos : String} {af : zf} {gd : wb}
theorem aqa{P:Program}{t:TypeId}{a b:AV}{r:Bool}(d:Nat)(h:sEq P t a b=some r):(∃td,P.underlying t=some td/\mT td=false)/\(Op.equalIn (d+1) t (a.val ρ) (b.val ρ)).run P w= .ok r w:=by
 unfold sEq at h;split at h
 .rename_i g ht;split at h
  next k x i y=>obtain ⟨f,c⟩:=aI h;cases c;have e:=n5 f;subst e;exact ⟨⟨_,ht,rfl⟩,by simp only [AV.val];exact run_equalIn_int w d t _ _ _ _ ht⟩
  .cases h
 .rename_i ht;split at h
  .cases h;exact ⟨⟨_,ht,rfl⟩,by simp only [AV.val];exact run_equalIn_bool' w d t _ _ ht⟩
  .cases h
 .rename_i ht;split at h
  .cases h;exact ⟨⟨_,ht,rfl⟩,by simp only [AV.val];exact XP _ w d t _ _ ht⟩
  .cases h
 .cases h
theorem ajr{P:Program}{xs ys:za}(d:Nat):∀{j:List Field} {k:Nat} {l1 e:List AV} {g:zi},fEq P j k l1 e=some g->xs.drop k=AV.al ρ l1->ys.drop k=AV.al ρ e->
  (Op.eqFields (d+1) xs.toArray ys.toArray j).run P w= .ok (g.foldr (· && ·) true) w
 |[],k,l1,e,g,h,_,_=>by
  unfold fEq at h;obtain ⟨_,c⟩:=aI h;cases c;exact aop
 |f::j,k,l1,e,g,h,hx,hy=>by
  unfold fEq at h;split at h
  .rename_i a l1 b e;obtain ⟨i,c⟩:=aI h;simp only [ar] at i;have m:=b0 i.2;split at c
   .rename_i r o;split at c
    .rename_i l hl;cases c;obtain ⟨⟨s,t1,t2⟩,n⟩:=aqa (ρ:=ρ) (w:=w) d o;simp only [AV.al] at hx hy;have q:xs[k]? =some (a.val ρ):=by rw [<-List.head?_drop,hx];rfl
     have p:ys[k]? =some (b.val ρ):=by rw [<-List.head?_drop,hy];rfl
     refine alO i.1 (ag8 t1 t2 (by rw [m];exact q)) (ag8 t1 t2 (by rw [m];exact p)) n ?_;refine ajr d hl ?_ ?_
     .rw [<-qy,hx];rfl
     .rw [<-qy,hy];rfl
    .cases c
   .cases c
  .cases h
theorem akk{op:Op}(h:amd X T E F g op=some cv):pU X.P (az ρ T E F) ρ (T.get g) ⟨dst,op,ty,pos,af,gd⟩ w cv:=by
 unfold amd at h;split at h
 .rename_i m t x y t';split at h
  .rename_i l1 hx;split at h
   .rename_i i j;split at h
    .rename_i k ht;obtain ⟨d,c⟩:=aI h;simp only [ar,mm] at d;split at c
     .rename_i l e;have b:=aO (ρ:=ρ) hx;have a:=aO (ρ:=ρ) j;simp only [AV.val] at b a;have f:X.P.fieldsOf t=k:=by simp [Program.fieldsOf,ht]
      have key:(Op.equalIn 10000 t (.agg (AV.al ρ l1).toArray) (.agg (AV.al ρ i).toArray)).run X.P w= .ok (eqL l) w:=by rw [run_equalIn_struct w 9999 t _ _ (by rw [f];exact ht) d.2,f,aqi];exact ajr 9998 e rfl rfl
      split at c
      .refine .pv c (cz b a ?_);rw [Sem.run_bind,run_eqGuard_agg w _ _ _ _ _ _ d.1,Result.andThen_ok,run_eql_struct,key];simp only [AV.val,Result.andThen_ok]
      .refine .pv c (cz b a ?_);rw [Sem.run_bind,run_eqGuard_agg w _ _ _ _ _ _ d.1,Result.andThen_ok,run_neq_struct,key];simp only [AV.val,Result.andThen_ok]
      .cases c
     .cases c
    .cases h
   .cases h
  .cases h
 .cases h
theorem am4{op:Op}(h:ajU X T E F g op=some cv):pU X.P (az ρ T E F) ρ (T.get g) ⟨dst,op,ty,pos,af,gd⟩ w cv:=by
 unfold ajU at h;split at h
 .rename_i x s t;split at h
  .rename_i dd ht;obtain ⟨i,b⟩:=aI h;have hd:iS dd=false:=by simpa using i
   split at b
   .rename_i t' v hx;have a:=aO (ρ:=ρ) hx;simp only [AV.val] at a;rcases ek b with ⟨f,c⟩|⟨f,c⟩
    .have:=b0 f;subst this;refine .pv c ?_;simp only [AV.val,AV.al];exact Xu ht hd a
    .split at c
     next z d=>obtain ⟨n,bytes,z⟩:=z;refine .pv c ?_;simp only [AV.val,AV.al];exact XR (λe=>by subst e;simp at f) ht hd (cR d) a
     .cases c
   .rename_i hx;split at b
    next z d=>obtain ⟨n,bytes,z⟩:=z;have a:=aO (ρ:=ρ) hx;simp only [AV.val] at a;refine .pv b ?_;simp only [AV.val,AV.al];exact X9 ht hd (cR d) a
    .cases b
   .cases b
  .cases h
 .cases h
theorem ai3{op:Op}(h:agY X T E F g op=some cv):pU X.P (az ρ T E F) ρ (T.get g) ⟨dst,op,ty,pos,af,gd⟩ w cv:=by
 unfold agY at h;split at h
 .rename_i t x k j;split at h
  .rename_i n e ht;split at h
   .rename_i z l;obtain ⟨m,bytes,z⟩:=z;split at h
    .rename_i id d hx;obtain ⟨i,o⟩:=aI h;have f:=aO (ρ:=ρ) hx;simp only [AV.val] at f;refine .pv o ?_;have a:=Dq (P:=X.P) (w:=w) (dst:=dst) (ty:=ty) (pos:=pos) (af:=af) (gd:=gd) (y:= .const (.int k (.ofNat j))) ht (cR l) f an.c (by intro _;rw [j0] at i;exact nZ.2 ⟨Int.natCast_nonneg j,by simpa using i⟩)
     have p:((⟨(ρ id).b,d,none⟩:Addr).add ((Int.ofNat j).toNat*m))=⟨(ρ id).b,d+j*m,none⟩:=by rw [add_plain];rfl
     rw [p] at a;simpa only [AV.val] using a
    .cases h
   .cases h
  .cases h
 .cases h
theorem alu{op:Op}(c:ga T E F)(h:akI X T E F g op=some cv):pU X.P (az ρ T E F) ρ (T.get g) ⟨dst,op,ty,pos,af,gd⟩ w cv:=by
 unfold akI at h;split at h
 next b a=>cases h;exact alN c a
 .split at h
  next b a=>cases h;exact akk a
  .split at h
   next b a=>cases h;exact am4 a
   .exact ai3 h
end
variable {d : TypeDesc} {x : Operand}
def xQ{α:Type}(xs ys:List α):List α:=ys.take xs.length++xs.drop ys.length
section
variable {P : Program} {E : Env} {w : World} {g : Bool}
variable {dst : zd} {ty : TypeId} {pos : String} {af : zf} {gd : wb}
theorem akw{α:Type}{A:fg α}{M:Nat->Prop}{v u:Value}{t ty e:TypeId}{bytes:Nat}{z:Value}{R:zk}(ht:P.underlying t=some (.slice e))(B:TI P e A.n bytes z)
  {xs ys:List α} (N:cf A e M w v xs R) (y:bS A M w u ys) (_hM:∀b∈R,M b):
  ∃w',(Builtin.copy_ #[t,t] ty #[v,u]).run P w= .ok (.int .i64 ((Nat.min ys.length xs.length:Nat):Int)) w'/\mA R w w'/\w'.heap.size=w.heap.size/\∀M',Mv M w M' w'->cf A e M' w' v (xQ xs ys) R:=by
 obtain ⟨i,hi,hs,_,_⟩:=B.out;by_cases g:xs=[]\/ys=[]
 .have hc:xQ xs ys=xs:=by unfold xQ;rcases g with g|g <;> subst g <;> simp
  have hn:Nat.min ys.length xs.length=0:=by rcases g with g|g <;> subst g <;> simp
  obtain ⟨p,c,rfl,_⟩:=N.shape;obtain ⟨a,c2,rfl⟩:=y.len;refine ⟨w,?_,(Ext.refl w).xn _,rfl,λM' m=>?_⟩
  .have hl:∀a:Addr,(loadCells a 0).run P w= .ok #[] w:=λa=>run_loadCells_list (P:=P) w a [] (λj v Y=>by simp at Y);rw [hn];cases a <;> cases p <;> simp [Builtin.copy_,run_underlying ht,sizeOf,typeInfo,hi,Builtin.lenOf,Builtin.firstCells,hn,hl,storeCells,goInt]
  .rw [hc];exact N.cY (λb hb=>rfl) m
 .have hx:xs≠[]:=λh=>g (.inl h);have W:ys≠[]:=λh=>g (.inr h);obtain ⟨b,c,cur,rfl,rfl,T,r,F,K,L⟩:=N.row hx;rcases y with ⟨_,I⟩|⟨b2,k,H,G,e2,fr2,rfl,U,S,Z,X,l⟩
  .exact absurd I W
  have O:((G.toList.drop k).take (ys.length*A.n)).length=ys.length*A.n:=l.1;generalize Q:(G.toList.drop k).take (ys.length*A.n)=x at l O;have E:Nat.min ys.length xs.length<=ys.length:=Nat.min_le_left _ _;have D:Nat.min ys.length xs.length<=xs.length:=Nat.min_le_right _ _;generalize hn:Nat.min ys.length xs.length=n at E D;have m1:n*A.n<=ys.length*A.n:=hU _ E;have V:n*A.n<=xs.length*A.n:=hU _ D;have m3:xs.length*A.n<=c*A.n:=hU _ r;have d:(x.take (n*A.n)).length=n*A.n:=by rw [dj];omega
  have s:cur.toList.length=c*A.n:=by simpa using K
  have run:=vQ (P:=P) (w:=w) (ty:=ty) ht B (b:=b) (o:=0) (dl:=xs.length) (dc:=c) (cur:=cur) (e':=e) (a:=⟨b2,k,none⟩) (ls:=ys.length) (sc:=H) (cs:=x.take (n*A.n))
   (by rw [d,hn]) (cell_of_heap S k _ (by rw [d,<-Q,qF,hV m1])) T (by rw [d];omega) (λv J=>l.Dw v (qV J))
  refine ⟨_,by rw [run,hn];rfl,yM b _,by simp,λM' m=>?_⟩;have hd:xQ xs ys=ys.take n++xs.drop n:=by
   unfold xQ;have q:min ys.length xs.length=n:=hn;clear hn;rcases Nat.le_total ys.length xs.length with h|h
   .rw [hV h] at q;subst q;rw [fb h,fb (cH _)]
   .rw [Nat.min_eq_right h] at q;subst q;rw [qb h,qb (cH _)]
  have f:(xQ xs ys).length=xs.length:=by rw [hd,et,dj,iN];omega
  have key:=(((l.take n).mv m).append ((L.drop n).mv m));have C:=setRow_heap w b cur (cur.toList.take 0++x.take (n*A.n)++cur.toList.drop (0+(x.take (n*A.n)).length)).toArray e (0,0) T;have J:Value.slice (some ⟨b,0,none⟩) xs.length c=Value.slice (some ⟨b,0,none⟩) (xQ xs ys).length c:=by rw [f]
  rw [J];refine cf.mk_ C (by rw [f];exact r) F ?_ ?_
  .simp only [tx,o5,ma,qd,et,d,iN,s];omega
  .rw [f,hd];simp only [tx,o5,ma,d];have e1:((x.take (n*A.n))++cur.toList.drop (n*A.n)).take (xs.length*A.n)=x.take (n*A.n)++(cur.toList.take (xs.length*A.n)).drop (n*A.n):=by rw [ua,d,qF,Nat.min_eq_right V,qx]
   rw [e1];simpa only [tx,o5,ma,d] using key
theorem aeO{x y:Operand}{t e:TypeId}{n m bytes:Nat}{z v:Value}{d:TypeDesc}{cs:za}{i:Int}{k:IntKind}(ht:P.underlying t=some (.array n e))(hd:P.underlying e=some d)(b:TI P e m bytes z)
  (hx:an E g x (.agg cs.toArray)) (h:an E g y (.int k i)) (p:0<=i) (o:i<(n:Nat)) (j:(if mT d then some (.agg ((cs.drop (i.toNat*m)).take m).toArray) else cs[i.toNat*m]?)=some v):
  bc P E g ⟨dst,.index t x y,ty,pos,af,gd⟩ w v:=
 λn' a f c=>by have hp:=YV (w:=w) hd b j;obtain ⟨q,hi,l,_,_⟩:=b.out;simp [execOp,hx n' a f c,h n' a f c,Instr.index,asIntOf,run_underlying ht,sizeOf,typeInfo,hi,l,p,o,hp]
theorem acv{x y h:Operand}{p:Addr}{len m bytes:Nat}{z:Value}{t e:TypeId}{k i:IntKind}(ht:P.underlying t=some (.array len e))(b:TI P e m bytes z)(hx:an E g x (.pointer (some p)))(j:an E g y (.int k (len:Nat)))(l:an E g h (.int i (len:Nat))):
  bc P E g ⟨dst,.slice t x none (some y) (some h),ty,pos,af,gd⟩ w (.slice (some p) len len):=
 λn' a f d=>by obtain ⟨n,c,o,_,_⟩:=b.out;simp [execOp,hx n' a f d,j n' a f d,l n' a f d,Instr.sliceAt,run_underlying ht,Instr.sureAddr,Instr.sliceBounds,run_sliceBound,sizeOf,typeInfo,c,Addr.add]
theorem agc{y:Operand}{t t' u:TypeId}{v:Value}(ht:P.underlying t=some d)(hd:iS d=true)(hx:an E g x (.iface u v))(a:an E g y .nilIface):
  bc P E g ⟨dst,.binOp .neq t x y t',ty,pos,af,gd⟩ w (.bool true):=
 cz (P:=P) hx a (by
  rw [Sem.run_bind,gV rfl,Result.andThen_ok];have h:∀k:Nat,(Op.equalIn (k+1) t (.iface u v) .nilIface).run P w= .ok false w:=λk=>by cases d <;> first|(cases hd;done)|simp [Op.equalIn,run_underlying ht]
  simp only [binOp];simp [Op.equal,Op.maxDepth,h 9999])
theorem acM{t t':TypeId}(ht:P.underlying t=some d)(hd:iS d=true)(hx:an E g x .nilIface):
  bc P E g ⟨dst,.binOp .neq t x (.const .nilIface) t',ty,pos,af,gd⟩ w (.bool false):=
 cz (P:=P) hx (y:= .const .nilIface) (v:= .nilIface) (λ_ _ _ _=>rfl) (by
  have h:∀k:Nat,(Op.equalIn (k+1) t .nilIface .nilIface).run P w= .ok true w:=λk=>by cases d <;> first|(cases hd;done)|simp [Op.equalIn,run_underlying ht]
  have a:(eqGuard .neq t x (.const .nilIface) .nilIface .nilIface).run P w= .ok () w:=by unfold eqGuard;simp
  rw [Sem.run_bind,a,Result.andThen_ok];simp only [binOp];simp [Op.equal,Op.maxDepth,h 9999])
theorem Reach.val{t:TypeId}{u:Value}{a:String}{f:FuncId}(h:Ml P t a f false)(ht:P.underlying t=some d)(hd:∀e,d≠ .pointer e):Reach P w t u a f u:=λk=>by obtain ⟨i,m,hi,hm,hp,b⟩:=h.out;unfold method;simp only [typeInfo,hi,hm,hp,b,follow,Sem.run_bind,Sem.run_pure,Result.andThen_ok,run_program];cases d <;> first|exact absurd rfl (hd _)|simp [receiverAt,run_underlying ht,Place.get]
theorem acQ{n:Nat}{g:Bool}{f:FuncId}{r:Operand}{it t:TypeId}{d:TypeDesc}{u u':Value}{b:String}{vs:za}{xs:xc}{tys:Array TypeId}{dst:zd}{gd:Option (Nat×Bool)}
  (k:Enters P f) (j:an E g r (.func (.methodOf it b) #[] #[])) (bI:P.underlying it=some d) (hd:iS d=true) (hm:g=true->Reach P w t u b f u') (c:kf E g xs (.iface t u::vs)) {a:Act} (h:Fits n E a) (e:g=true):
  (execOp a.eval ⟨dst,.call ⟨.value r,xs.toArray,tys⟩,ty,pos,af,gd⟩).run P w= .ok (.enter f (u'::vs).toArray) w:=by
 have p:(Array.map a.eval xs.toArray)=(Value.iface t u::vs).toArray:=by simp [c.map h e]
 have l:=k (u'::vs).toArray w;have i:=hm e (P.types.size+99);have o:P.types.size+99+1=P.types.size+Made.depth:=rfl;rw [o] at i;have e3:((Value.iface t u::vs).toArray)[0]? =some (Value.iface t u):=by simp
 have e4:((Value.iface t u::vs).toArray).extract 1 ((Value.iface t u::vs).toArray).size=vs.toArray:=by simp
 have m:(#[u']++vs.toArray)=(u'::vs).toArray:=by simp
 cases d <;> first|(cases hd;done)|skip;simp only [execOp,resolve,j n a h e,Deferred.ofValue,p,Sem.run_bind,Sem.run_pure,Result.andThen_ok];simp only [tt,invoke,e3,e4,Sem.run_bind,run_underlying bI,Result.andThen_ok,callMethod,run_program,i,m,l]
end
def alF(X:Cx)(T:aB)(E F:aF)(g:GK):Op->CV
 | .index t x y=>(match X.P.underlying t with
  |some (.array n e)=>(match px X.P e with
   |some z=>(match br T E F g x with
    |some (.agg cs)=>(match br T E F g y with
     |some (.int _ i)=>aD (decide (0<=i)&&decide (i<(n:Int))) (match nV X.P e (cs.drop (i.toNat*z.1)) with
      |some v=>pv v
      |none=>none) none
     |_=>none)
    |_=>none)
   |none=>none)
  |_=>none)
 | .binOp .neq t x (.const .nilIface) _=>(match X.P.underlying t with
  |some d=>aD (iS d) (match br T E F g x with
   |some (.ifc _ _)=>pv (.bool true)
   |some (.raw .nilIface)=>pv (.bool false)
   |_=>none) none
  |none=>none)
 | .makeFunc (.methodOf t nm) ⟨[]⟩ ⟨[]⟩=>pv (.raw (.func (.methodOf t nm) #[] #[]))
 |_=>none
section
variable {X : Cx} {ρ : ay} {T : aB} {E F : aF} {g : GK} {w : World} {dst : zd} {ty : TypeId} {pos : String} {af : zf} {gd : wb}
theorem aln{op:Op}(h:alF X T E F g op=some cv):pU X.P (az ρ T E F) ρ (T.get g) ⟨dst,op,ty,pos,af,gd⟩ w cv:=by
 unfold alF at h;split at h
 .rename_i t x y;split at h
  .rename_i n e ht;split at h
   .rename_i z q;obtain ⟨m,bytes,z⟩:=z;split at h
    .rename_i cs hx;split at h
     .rename_i k i r;obtain ⟨f,b⟩:=aI h;simp only [ar,eY] at f;split at b
      .rename_i v s;obtain ⟨d,n',p,C,c1,B,o⟩:=sb (ρ:=ρ) s;have a:=aO (ρ:=ρ) hx;have j:=aO (ρ:=ρ) r;simp only [AV.val] at a j;have c:=cR q;refine .pv b (aeO ht c1 c a j f.1 f.2 ?_);cases hd:mT d
       .rw [hd] at o;exact o
       .rw [hd] at o;have l:=B hd;unfold TI at l c;rw [c] at l;simp only [ej,q5] at l;have A:m=n':=l.1;subst A;exact o
      .cases b
     .cases h
    .cases h
   .cases h
  .cases h
 .split at h
  .rename_i d ht;obtain ⟨f,b⟩:=aI h;split at b
   next u v hx=>have a:=aO (ρ:=ρ) hx;simp only [AV.val] at a;exact .pv b (agc ht f a (λ_ _ _ _=>rfl))
   next hx=>have a:=aO (ρ:=ρ) hx;simp only [AV.val] at a;exact .pv b (acM ht f a)
   .cases b
  .cases h
 .exact .pv h (Mb (first:=[]) (cap:=[]) .nil .nil)
 .cases h
end
def als(X:Cx)(T:aB)(E F:aF)(g:GK):Op->CV
 | .binOp .eql t x y _=>(match X.P.underlying t with
  |some (.pointer _)=>(match br T E F g x with
   |some (.sfp _ f)=>(match br T E F g y with
    |some (.raw (.pointer none))=>pv (.bool (!f))
    |_=>none)
   |_=>none)
  |_=>none)
 | .binOp .neq t x y _=>(match X.P.underlying t with
  |some (.pointer e)=>(match px X.P e with
   |some _=>(match br T E F g x with
    |some (.sfp j f)=>(match br T E F g y with
     |some (.ptr j' 0)=>aD (Nat.beq j j') (pv (.bool (!f))) none
     |_=>none)
    |_=>none)
   |none=>none)
  |_=>none)
 | .call ⟨.value (.func f),⟨[x]⟩,_⟩=>aD (wh f X.ids) (match br T E F g x with
  |some v=>pv v
  |none=>none) none
 |_=>none
def amF(X:Cx)(T:aB)(E F:aF)(G H:List Row)(g:GK):Op->CV
 | .convert s d x=>(match br T E F g x with
  |some (.ptr j 0)=>(match eD G H (Bb j) with
   |some (_,.box _ e' cs)=>(match X.P.underlying s with
    |some (.pointer e)=>(match X.P.underlying d with
     |some .unsafePointer=>(match px X.P e with
      |some z=>aD (Nat.blt 0 z.1&&Nat.blt 0 cs.length) (pv (.ptr j 0)) none
      |none=>none)
     |_=>none)
    |some .unsafePointer=>(match X.P.underlying d with
     |some (.pointer e)=>(match px X.P e with
      |some _=>aD (liesAt X.P X.P.depth e' (cs.length/X.P.cellsOf e') 0 e 1) (pv (.ptr j 0)) none
      |none=>none)
     |_=>none)
    |_=>none)
   |_=>none)
  |_=>none)
 |_=>none
def afA(X:Cx)(T:aB)(E F:aF)(g:GK)(op:Op):CV:=match akI X T E F g op with
 |some cv=>some cv
 |none=>(match alF X T E F g op with
  |some cv=>some cv
  |none=>als X T E F g op)
def aeN(X:Cx)(T:aB)(E F:aF)(G H:List Row)(g:GK)(op:Op):CV:=match alI X T E F G H g op with
 |some cv=>some cv
 |none=>amF X T E F G H g op
abbrev apU(xs ys:zj):zj:=xs++ys
def afn{R:Type}(X:Cx)(T:aB)(fr:Fr)(st:aC)(d:Tmp)(t u:TypeId)(x y:Operand)(K:cJ R):Option R:=match ji X.P t with
 |some e=>(match px X.P e with
  |some (1,1,.int .u8 (.ofNat 0))=>aD (isStr X.P u) (match br T st.E fr.F none y with
   |some (.str s)=>(match br T st.E fr.F none x with
    |some (.sl id)=>(match eD st.G fr.H (pY id) with
     |some (.top j,.own _ u' e' xs _)=>aD (Nat.beq e e') (match vh.cm.asL (.i .u8) ⟨.l u',xs⟩ with
      |some xs=>aN (aH (List.length xs+s.length) 1) (K { st with c:=st.c+1,E:=cN (some d) none (.sl st.c) st.E,G:=st.G.set j (.own st.c (.i .u8) e (apU xs (aQ s)) st.c) })
      |none=>none) none
     |_=>none)
    |some (.raw (.slice none 0 0))=>aN (aH (([]:zj).length+s.length) 1) (K { st with c:=st.c+1,E:=cN (some d) none (.sl st.c) st.E,G:= .own st.c (.i .u8) e (([]:zj)++aQ s) st.c::st.G })
    |_=>none)
   |_=>none) none
  |_=>none)
 |none=>none
section
variable {X : Cx} {T : aB} {E F : aF} {G H : List Row} {g : GK} {ρ : ay} {w : World} {dst : zd} {ty : TypeId} {pos : String} {af : zf} {gd : wb} {Φ : Ctx}
theorem alV{op:Op}(h:als X T E F g op=some cv):pU X.P (az ρ T E F) ρ (T.get g) ⟨dst,op,ty,pos,af,gd⟩ w cv:=by
 unfold als at h;split at h
 .rename_i t x y s;split at h
  .rename_i e ht;split at h
   .rename_i j f hx;split at h
    next d=>have b:=aO (ρ:=ρ) hx;have a:=aO (ρ:=ρ) d;simp only [AV.val] at b a;exact .pv h (afW ht b a)
    .cases h
   .cases h
  .cases h
 .rename_i t x y s;split at h
  .rename_i e ht;split at h
   .rename_i z k;obtain ⟨n,bytes,z⟩:=z;split at h
    .rename_i j f hx;split at h
     next l d=>obtain ⟨i,c⟩:=aI h;have:=b0 i;subst this;have b:=aO (ρ:=ρ) hx;have a:=aO (ρ:=ρ) d;simp only [AV.val] at b a;exact .pv c (afs ht (cR k) b a)
     .cases h
    .cases h
   .cases h
  .cases h
 .rename_i f x tys;obtain ⟨i,c⟩:=aI h;split at c
  next v hx=>exact .pv c (akq (X.idsOk f (ZM.1 i)) (aO (ρ:=ρ) hx))
  .cases c
 .cases h
theorem amQ{op:Op}(o:Sat (ab ρ T G++(ab ρ T H++Φ)) w)(h:amF X T E F G H g op=some cv):pU X.P (az ρ T E F) ρ (T.get g) ⟨dst,op,ty,pos,af,gd⟩ w cv:=by
 unfold amF at h;split at h
 .rename_i s d x;split at h
  .rename_i j hx;split at h
   .rename_i t m e' cs p;obtain ⟨r,q⟩:=bX p;have:m=j:=b0 q;subst this;have hb:gJ w (ρ m).b e' (AV.al ρ cs):=Src.holds o r;have a:=aO (ρ:=ρ) hx;simp only [AV.val] at a;split at h
    .rename_i e c;split at h
     .rename_i f;split at h
      next z k=>obtain ⟨n,bytes,z⟩:=z;obtain ⟨i,l⟩:=aI h;simp only [ar] at i;refine .pv l ?_;simp only [AV.val];exact YF c f (cR k) i.1 a hb (by rw [AV.bE];exact i.2)
      .cases h
     .cases h
    .rename_i c;split at h
     .rename_i e f;split at h
      next z k=>obtain ⟨n,bytes,z⟩:=z;obtain ⟨i,l⟩:=aI h;refine .pv l ?_;simp only [AV.val];exact UM c f (cR k) a hb (by rw [AV.bE];exact i)
      .cases h
     .cases h
    .cases h
   .cases h
  .cases h
 .cases h
theorem aav{op:Op}(c:ga T E F)(h:afA X T E F g op=some cv):pU X.P (az ρ T E F) ρ (T.get g) ⟨dst,op,ty,pos,af,gd⟩ w cv:=by
 unfold afA at h;split at h
 next b a=>cases h;exact alu c a
 .split at h
  next b a=>cases h;exact aln a
  .exact alV h
theorem abm{op:Op}(b:Sat (ab ρ T G++(ab ρ T H++Φ)) w)(h:aeN X T E F G H g op=some cv):pU X.P (az ρ T E F) ρ (T.get g) ⟨dst,op,ty,pos,af,gd⟩ w cv:=by
 unfold aeN at h;split at h
 next c a=>cases h;exact al3 b a
 .exact amQ b h
end
section
variable {X : Cx} {R : Type} {r : R} {K : cJ R} {T : aB} {fr : Fr} {st : aC} {d : Tmp} {ρ : ay} {Φ : Ctx} {w : World} {ty : TypeId} {pos : String} {af : zf} {gd : wb}
theorem MA{P:Program}{E:Env}{M:Nat->Prop}{v:Value}{y:Operand}{t u e:TypeId}{R:zk}{xs:zj}{s:aE}(ht:P.underlying t=some (.slice e))(n:P.underlying u=some .string)(h:TI P e 1 1 (.int .u8 0))(hx:an E true x v)(k:an E true y (S s))
  (j:cf (RI .u8) e M w v xs R) (r:∀b∈R,M b) (c:aH (xs.length+s.length) 1=true):
  ∃f R' w',oW P E ⟨some d,.call ⟨.builtin .append,#[x,y],#[t,u]⟩,ty,pos,af,gd⟩ w f w'/\mA R w w'/\(∀b∈R',b<w'.heap.size/\(b∈R\/w.heap.size<=b))/\∀M',Mv M w M' w'->cf (RI .u8) e M' w' f (xs++aQ s) R':=by
 rcases j with ⟨rfl,p⟩|⟨rfl,rfl,⟨a0,rfl⟩,l⟩
 .obtain ⟨f,w',i,hC,q,j⟩:=yf t u ty e ht n h p r c;exact ⟨f,dS f,w',(λn' a g=>by simp [execOp,resolve,invoke,builtin,hx n' a g rfl,k n' a g rfl,i]),hC,q,λM' m=>cf.of (j M' m)⟩
 .rcases CB (M:=M) (w:=w) t u ty e ht n h (a0:=a0) (s:=s) (by simpa using c) with ⟨i,rfl⟩|⟨f,w',i,z,o,j⟩
  .exact ⟨.slice a0 0 0,[],w,(λn' a g=>by simp [execOp,resolve,invoke,builtin,hx n' a g rfl,k n' a g rfl,i]),(Ext.refl w).xn _,(λb hb=>by cases hb),λM' m=>by simpa [aQ] using cf.empty (e:=e) (l.mv m)⟩
  .exact ⟨f,dS f,w',(λn' a g=>by simp [execOp,resolve,invoke,builtin,hx n' a g rfl,k n' a g rfl,i]),z.xn _,(λb hb=>⟨(o b hb).1,.inr (o b hb).2⟩),λM' m=>cf.of (by simpa using j M' m)⟩
theorem amP{t u:TypeId}{y:Operand}(hl:st.low fr=true)(N:Sat (ab ρ T st.G++(ab ρ T fr.H++Φ)) w)(h:afn X T fr st d t u x y K=some r):
  mP X.P T none (az ρ T st.E fr.F) ⟨some d,.call ⟨.builtin .append,#[x,y],#[t,u]⟩,ty,pos,af,gd⟩ w (aU r K T fr st none (some d) ρ Φ):=by
 have B:=(aC.cG.1 hl).2.2.1;unfold afn at h;split at h
 .rename_i e V;split at h
  .rename_i hz;have z:TI X.P e 1 1 (.int .u8 0):=cR hz;obtain ⟨hu,h⟩:=aI h;have q:=tC hu;split at h
   .rename_i s hy;have k:=bJ (ρ:=ρ) hy;simp only [AV.val] at k;split at h
    .rename_i id hx;have g:=bJ (ρ:=ρ) hx;simp only [AV.val] at g;split at h
     .rename_i j J u' e' C Z hf;obtain ⟨h3,U⟩:=aI h;have:=b0 h3;subst this;split at U
      .rename_i xs L;obtain ⟨eu,ex⟩:=tN L;subst eu;simp only at ex;subst ex;obtain ⟨S,R⟩:=jG U;obtain ⟨Y,f2⟩:=bX hf;have:J=id:=b0 f2;subst this;have hi:=iH (ρ:=ρ) (T:=T) (Φ:=ab ρ T fr.H++Φ) Y;obtain ⟨hO,_⟩:=N.at_ hi;obtain ⟨D,R',w',O,hC,Q,A⟩:=MA (P:=X.P) (E:=az ρ T st.E fr.F) (w:=w) (d:=d) (ty:=ty) (pos:=pos) (af:=af) (gd:=none) (cr V) q z g k hO (λb hb=>Ctx.ll hi hb) S;have I:Mv (Ctx.M (ab ρ T st.G++(ab ρ T fr.H++Φ))) w (Ctx.M (ab ρ T st.G++(ab ρ T fr.H++Φ))) w':=⟨hC.size,λb hb hn=>⟨hn,hC.block b hb (λhc=>hn (Ctx.ll hi hc))⟩⟩;have f:=A _ I;have n:∃p:jP,D=sl p:=by obtain ⟨a,cap,n⟩:=f.len;exact ⟨(a,_,cap),n⟩
       obtain ⟨p,rfl⟩:=n;have hj:j<st.G.length:=(List.getElem?_eq_some_iff.1 Y).1;refine .none_ (bL.gd (bL.sR O (aU.new (ρ':=ρ.set st.c { dy with v:=p,y:=⟨.l (.i .u8),apU C (aQ s)⟩ }) hl R ay.aX (j2 _) rfl (by simp only [AV.val,ay.bH]) ?_)));show Sat (ab _ T (st.G.set j _)++_) _;rw [gC hj,aZ ay.aX B];refine N.mC hi hC (λb hb=>?_) (λM' m _=>?_)
       .simp only [Row.item,ay.bH] at hb;exact Q b (f.canon.1 b hb)
       .simp only [Row.item,ay.bH];exact ⟨f.canon.2 _ _ (A M' m),trivial⟩
      .cases U
     .cases h
    .rename_i hx;have g:=bJ (ρ:=ρ) hx;simp only [AV.val] at g;obtain ⟨S,R⟩:=jG h;obtain ⟨D,R',w',O,hC,Q,A⟩:=MA (P:=X.P) (E:=az ρ T st.E fr.F) (w:=w) (d:=d) (ty:=ty) (pos:=pos) (af:=af) (gd:=none) (M:=Ctx.M (ab ρ T st.G++(ab ρ T fr.H++Φ))) (xs:=([]:zj)) (cr V) q z g k cf.nil (λb hb=>by cases hb) S;have W:Ext w w':=⟨hC.os,hC.tape,hC.output,hC.size,λb hb=>hC.block b hb (λh=>by cases h)⟩;have f:=A _ (W.mv _);have n:∃p:jP,D=sl p:=by obtain ⟨a,cap,n⟩:=f.len;exact ⟨(a,_,cap),n⟩
     obtain ⟨p,rfl⟩:=n;refine .none_ (bL.gd (bL.sR O ?_));exact AB (d:=d) (t:= .i .u8) (e:=e) (p:=p) hl B N W (λb hb=>by
      obtain ⟨q1,o⟩:=Q b (f.canon.1 b hb);rcases o with o|o
      .cases o
      .exact ⟨q1,o⟩) (λM' m=>f.canon.2 _ _ (A M' m)) rfl R
    .cases h
   .cases h
  .cases h
 .cases h
def Yo{R:Type}(T:aB)(fr:Fr)(st:aC)(d:Tmp)(x:Operand)(K:cJ R):Option R:=match br T st.E fr.F none x with
 |some (.sl id)=>(match eD st.G fr.H (pY id) with
  |some (_,.own _ t _ l ver)=>aqq T none st d id ver t l 0 K
  |_=>none)
 |_=>none
def agz{R:Type}(X:Cx)(T:aB)(fr:Fr)(st:aC)(d:Tmp)(pt:TypeId)(x y:Operand)(K:cJ R):Option R:=match X.P.underlying pt with
 |some (.pointer e)=>aD (Nat.beq (X.P.cellsOf e) 1) (match br T st.E fr.F none x with
  |some (.adr q 0)=>(match br T st.E fr.F none y with
   |some (.int .i64 m)=>(match eD st.G fr.H (Qg q) with
    |some (_,.kn none _ id ver _ i _)=>(match eD st.G fr.H (pY id) with
     |some (.top j,.own _ u e' xs ver')=>aD (Nat.beq ver ver'&&Nat.beq e e') (match vh.cm.asL (.i .u8) ⟨.l u,xs⟩ with
      |some xs=>aN (decide (i=0)&&decide (m=(List.length xs:Int))) (K { st with E:=cN (some d) none (.str (strOf xs)) st.E,G:=st.G.set j (.sli none id (.i .u8) xs false) })
      |none=>none) none
     |_=>none)
    |_=>none)
   |_=>none)
  |_=>none) none
 |_=>none
theorem cf.ahs{α:Type}{A:fg α}{e:TypeId}{M:Nat->Prop}{w:World}{v:Value}{xs:List α}{R:zk}(h:cf A e M w v xs R)(a:xs≠[]):Roomy v:=by
 rcases h with ⟨_,cells,c,_⟩|⟨_,rfl,_⟩
 .rcases c.2 with ⟨_,b⟩|⟨g,cap,cur,rfl,_,_,d,_⟩
  .exact absurd (er b) a
  .obtain ⟨k,rfl⟩:∃k,cap=k+1:=⟨cap-1,by have:=List.length_pos_iff.2 a;omega⟩;exact ⟨g,_,k,rfl⟩
 .exact absurd rfl a
theorem Xd{v:jP}{n:Nat}(h:Roomy (sl v)):v.1=some (u4 (sl v) 0 n):=by obtain ⟨b,len,cap,e⟩:=h;obtain ⟨d,c,a⟩:=v;simp only [sl,Value.slice.injEq] at e;obtain ⟨rfl,rfl,rfl⟩:=e;simp [sl,u4,Addr.add]
theorem ahC{α:Type}{l:List α}{i:Int}{x:α}(h:idx l i=some x):l≠[]:=λe=>by subst e;unfold idx at h;split at h <;> cases h
theorem Zh{y:Array TypeId}(hl:st.low fr=true)(q:Sat (ab ρ T st.G++(ab ρ T fr.H++Φ)) w)(h:Yo T fr st d x K=some r):
  Ps X.P T none (az ρ T st.E fr.F) ⟨some d,.call ⟨.builtin .unsafeSliceData,#[x],y⟩,ty,pos,af,gd⟩ w (aU r K T fr st none (some d) ρ Φ):=by
 unfold Yo at h;split at h
 .rename_i id hx;have i:=bJ (ρ:=ρ) hx;simp only [AV.val] at i;split at h
  .rename_i s b t e' l f z;obtain ⟨m,B⟩:=bX z;have:b=id:=b0 B;subst this;obtain ⟨D,o,C⟩:=CC h;have o:=o aB.get_none;obtain ⟨A,p⟩:=Src.holds q m;have e:b<st.c/\f<st.c:=by
    have:(Row.own b t e' l f).low st.c=true:=by
     cases s with
     |top j=>exact uH (aC.cG.1 hl).2.2.1 m
     |cw j=>exact uH (aC.cG.1 hl).2.2.2 m
     |_=>exact m.elim
    simpa only [Row.low,ar,j0] using this
   have u:=A.ahs (ahC o);have k:aU r K T fr st none (some d) ρ Φ (.pointer (some (u4 (sl (ρ b).v) 0 t.rep.n))) w:=by refine aU.push (x:={ dy with a:=u4 (sl (ρ b).v) 0 t.rep.n }) hl C (by simp only [AV.val,ay.bH];simp [Addr.add]) (q.add rfl ?_);intro I;rw [ay.aX _ e.1,ay.aX _ e.2,ay.bH];exact ⟨l,p,o,rfl⟩
   refine ⟨_,λw'=>?_,k⟩;rw [<-Xd u];rw [aB.get_none];exact ahZ (g:=true) i (λ_=>u)
  .cases h
 .cases h
theorem ald{P:Program}{E:Env}{v:jP}{y:Operand}{C it e:TypeId}{M:Nat->Prop}{R:zk}{xs:zj}(Z:cf (RI .u8) e M w (sl v) xs R)(hp:P.underlying C=some (.pointer e))(O:P.cellsOf e=1)
  (hx:an E true x (.pointer v.1)) (V:an E true y (.int .i64 (xs.length:Int))) (T:xs≠[]):
  ∃w',oW P E ⟨some d,.call ⟨.builtin .unsafeString,#[x,y],#[C,it]⟩,ty,pos,af,gd⟩ w (S (strOf xs)) w'/\mA R w w'/\∀M',Mv M w M' w'->(∀b∈R,¬M' b)->bS (RI .u8) M' w' (sl v) xs:=by
 have f:xs.length≠0:=λe=>T (er e);rcases Z with ⟨Y,cells,⟨h1,h2⟩,L⟩|⟨_,rfl,_⟩
 .rcases h2 with ⟨_,U⟩|⟨g,cap,cur,Q,hg,H,h,hm,z,p⟩
  .exact absurd U f
  .obtain ⟨v1,v2,K⟩:=v;simp only [sl,Value.slice.injEq] at Q;obtain ⟨rfl,rfl,rfl⟩:=Q;have D:(RI .u8).n=1:=rfl;have t:cur.size=K:=by simpa [D] using z
   have sk:w.shape? g=some (e,cur.size):=by unfold World.shape?;rw [H]
   have o:∀(j:Nat) (a:Int),xs[j]? =some a->w.cell? ((⟨g,0,none⟩:Addr).add j)=some (.int .u8 a):=λj a k=>by
    have G:=(List.getElem?_eq_some_iff.1 k).1;have hA:=L.2 j G;have ha:xs[j]=a:=(List.getElem?_eq_some_iff.1 k).2;have I:cells[j]? =some (.int .u8 a):=by
     have e1:(cells.drop (j*1)).take 1=[.int .u8 a]:=by rw [<-ha];exact hA
     have e2:=congrArg (λl=>l[0]?) e1;simpa using e2
    have key:bM w ⟨g,0,none⟩ cells:=⟨rfl,cur,e,(0,0),H,λj u k=>by
     rw [<-p,qg] at k;split at k
     .simpa using k
     .cases k⟩
    exact key.cell I
   have X:xs.length<=9223372036854775807:=by unfold maxLen at hm;omega
   have q:(Builtin.unsafeString_ #[C,it] ty #[.pointer (some ⟨g,0,none⟩),.int .i64 xs.length]).run P w= .ok (S (strOf xs)) (w.freeze ⟨g,0,none⟩ xs.length):=by
    have F:=I9 (P:=P) (w:=w) xs ⟨g,0,none⟩ .empty o;have i:=Lib.liesAt_bytes (P:=P) O (cur.size/P.cellsOf e) xs.length (by rw [O,t];simpa using h);have B:¬(9223372036854775807:Int)<(xs.length:Int):=by omega
    have s:i64.max=9223372036854775807:=rfl;have r:¬(xs.length:Int)<0:=by omega
    refine (Sem.run_bind (P:=P) (w:=w) (asInt (.int .i64 xs.length)) _).trans ?_;simp [asInt,asIntOf,s,B,r,f,variablesAt,sk,elemOf,run_underlying hp,i,F,S]
   have W:(w.freeze ⟨g,0,none⟩ xs.length).heap[g]? =some (.cells cur e (0,xs.length)):=by unfold World.freeze;rw [dk f];simp [u9,H]
   have A:R=[g]:=by rw [Y];simp [dS,Value.ownBlock,sl]
   refine ⟨w.freeze ⟨g,0,none⟩ xs.length,λn' a N=>by simp [execOp,resolve,invoke,builtin,hx n' a N rfl,V n' a N rfl,q],?_,λM' m hb=>?_⟩
   .rw [A];unfold World.freeze;rw [dk f];refine ⟨rfl,rfl,rfl,by simp,λc _ J=>?_⟩;have:g≠c:=λe=>J (by simp [e]);simp [u9,this]
   .refine .inr ⟨g,0,K,cur,e,_,rfl,hb g (by rw [A];simp),W,h,by rw [ma];exact Nat.le_of_eq z.symm,?_⟩;rw [n9,p];exact L.mv m
 .exact absurd rfl T
theorem amc{y:Operand}{I it:TypeId}(_hl:st.low fr=true)(s:Sat (ab ρ T st.G++(ab ρ T fr.H++Φ)) w)(h:agz X T fr st d I x y K=some r):
  mP X.P T none (az ρ T st.E fr.F) ⟨some d,.call ⟨.builtin .unsafeString,#[x,y],#[I,it]⟩,ty,pos,af,gd⟩ w (aU r K T fr st none (some d) ρ Φ):=by
 unfold agz at h;split at h
 .rename_i e hp;obtain ⟨z,h⟩:=aI h;have z:=b0 z;split at h
  .rename_i q hx;have f:=bJ (ρ:=ρ) hx;simp only [AV.val] at f;split at h
   .rename_i m Q;have c:=bJ (ρ:=ρ) Q;simp only [AV.val] at c;split at h
    .rename_i s1 q' id O u1 i xe t;obtain ⟨f1,f2⟩:=bX t;have:q'=q:=b0 f2;subst this;have W:=Src.holds s f1;split at h
     .rename_i j a u e' N D U;obtain ⟨M,Z⟩:=bX U;have:a=id:=b0 Z;subst this;obtain ⟨C,B⟩:=aI h;simp only [ar] at C;have e1:=b0 C.1;have e2:=b0 C.2;subst e1;subst e2;split at B
      .rename_i xs o;obtain ⟨eu,ex⟩:=tN o;subst eu;subst ex;obtain ⟨L,Y⟩:=jG B;simp only [ar,eY] at L;obtain ⟨rfl,rfl⟩:=L;have hi:=iH (ρ:=ρ) (T:=T) (Φ:=ab ρ T fr.H++Φ) M;obtain ⟨J,l⟩:=s.at_ hi;obtain ⟨l0,b1,b2,b3⟩:=W aB.get_none;obtain ⟨e4,e5⟩:=OB b1 l;cases e4;cases e5;have k:=ahC b2;have R:=J.ahs k;have p:an (az ρ T st.E fr.F) true x (.pointer (ρ a).v.1):=by rw [Xd (n:=(Ty.i .u8).rep.n) R,<-b3];simpa [Addr.add] using f
       obtain ⟨w',g,hC,V⟩:=ald (P:=X.P) (d:=d) (ty:=ty) (pos:=pos) (af:=af) (gd:=gd) (it:=it) J hp z p c k;have S:j<st.G.length:=(List.getElem?_eq_some_iff.1 M).1;refine .none_ (bL.gd (bL.sR g (aU.kT Y (cH _) rfl rfl ?_)));show Sat (ab _ T (st.G.set j _)++_) _;rw [gC S];exact s.mC hi hC (λb hb=>by cases hb) (λM' m hb _=>⟨V M' m (λb A=>hb b A (λh=>by cases h)),λh=>by cases h⟩)
      .cases B
     .cases h
    .cases h
   .cases h
  .cases h
 .cases h
def ae3{R:Type}(X:Cx)(T:aB)(fr:Fr)(st:aC)(g:GK)(d:Tmp)(t:TypeId)(x:Operand)(K:cJ R):Option R:=match ji X.P t with
 |some _=>(match br T st.E fr.F g x with
  |some (.sl id)=>(match WH st.G fr.H id with
   |some s=>aD (T.imp g s.g) (K { st with E:=cN (some d) g (.int .i64 (s.l.length:Int)) st.E }) none
   |none=>none)
  |_=>none)
 |none=>none
theorem aj9{g:GK}{t:TypeId}(c:Sat (ab ρ T st.G++(ab ρ T fr.H++Φ)) w)(h:ae3 X T fr st g d t x K=some r):
  Ps X.P T g (az ρ T st.E fr.F) ⟨some d,.call ⟨.builtin .len,#[x],#[t]⟩,ty,pos,af,gd⟩ w (aU r K T fr st g (some d) ρ Φ):=by
 unfold ae3 at h;split at h
 .rename_i e i;split at h
  .rename_i id hx;have a:=aO (ρ:=ρ) hx;simp only [AV.val] at a;split at h
   next s b=>obtain ⟨k,j⟩:=aI h;exact ⟨_,λw'=>rQ (cr i) a (λf=>V4 c b (aB.np k f)),aU.kT j (cH _) rfl rfl c⟩
   .cases h
  .cases h
 .cases h
end
abbrev gone{R:Type}(g:GK)(k:Option R):Option R:=match g with
 |none=>k
 |some _=>none
theorem dG{R:Type}{r:R}{g:GK}{k:Option R}(h:gone g k=some r):g=none/\k=some r:=by
 cases g with
 |none=>exact ⟨rfl,h⟩
 |some _=>cases h
def ag9{R:Type}(X:Cx)(T:aB)(fr:Fr)(st:aC)(d:zd)(t:TypeId)(x y:Operand)(K:cJ R):Option R:=match ji X.P t with
 |some e=>(match Dp X.tys e with
  |some u=>(match px X.P e with
   |some z=>(match br T st.E fr.F none x with
    |some (.sl id)=>(match br T st.E fr.F none y with
     |some b=>aD (Nat.beq z.1 u.n') (match vh (cw b.fA st.G) fr.H u b with
      |some ys=>(match eD (cw b.fA st.G) fr.H (pY id) with
       |some (.top j,.own _ u' e' xs _)=>aD (Nat.beq e e') (match vh.cm.asL u ⟨.l u',xs⟩ with
        |some xs=>K { st with c:=st.c+1,E:=cN d none (.int .i64 ((Nat.min ys.length xs.length:Nat):Int)) st.E,G:=(cw b.fA st.G).set j (.own id u e (xQ xs ys) st.c) }
        |none=>none) none
       |_=>none)
      |none=>none) none
     |none=>none)
    |_=>none)
   |none=>none)
  |none=>none)
 |none=>none
def inO(n d:Nat):List (Nat×Nat)->Bool
 |[]=>false
 |x::l=>(Nat.beq x.1 n&&Nat.beq x.2 d)||inO n d l
def agG{R:Type}(X:Cx)(T:aB)(fr:Fr)(st:aC)(d:Tmp)(t:TypeId)(x:Operand)(hi:Option Operand)(K:cJ R):Option R:=match ji X.P t with
 |some e=>(match px X.P e with
  |some z=>(match br T st.E fr.F none x with
   |some (.sl id)=>(match Pq T st.E fr.F none hi with
    |some j=>(match eD st.G fr.H (pY id) with
     |some (.top k,.own _ u e' xs _)=>aD (Nat.beq z.1 u.n') (aN (cZ 0 (j.getD (xs.length:Int)) xs.length) (K { st with c:=st.c+1,E:=cN (some d) none (.sl st.c) st.E,G:=st.G.set k (.own st.c u e' (aV xs 0 (j.getD (xs.length:Int))) st.c) })) none
     |_=>none)
    |none=>none)
   |_=>none)
  |none=>none)
 |none=>none
def alC{R:Type}(X:Cx)(T:aB)(fr:Fr)(st:aC)(d:Tmp)(t:TypeId)(x:Operand)(lo hi mx:Option Operand)(K:cJ R):Option R:=match lo,hi,mx with
 |none,some y,some y3=>(match X.P.underlying t with
  |some (.array n e)=>(match Dp X.tys e with
   |some u=>(match px X.P e with
    |some z=>(match br T st.E fr.F none x with
     |some (.ptr id 0)=>(match br T st.E fr.F none y with
      |some (.int _ h)=>(match br T st.E fr.F none y3 with
       |some (.int _ m)=>(match s9 (Bb id) st.G with
        |some (j,.box _ _ cs)=>aD ((h==(n:Int))&&(m==(n:Int))&&Nat.beq z.1 u.n') (match Zt st.G fr.H u n cs with
         |some xs=>K { st with c:=st.c+1,E:=cN (some d) none (.sl st.c) st.E,G:=st.G.set j (.sli none st.c u xs true) }
         |none=>none) none
        |_=>none)
       |_=>none)
      |_=>none)
     |_=>none)
    |none=>none)
   |none=>none)
  |_=>none)
 |_,_,_=>none
def agN(X:Cx)(T:aB)(fr:Fr)(st:aC)(d:Tmp)(t:TypeId)(x y:Operand){R:Type}(K:cJ R):Option R:=match X.P.underlying t with
 |some (.array n e)=>(match px X.P e with
  |some z=>(match br T st.E fr.F none x with
   |some (.adr id off)=>(match br T st.E fr.F none y with
    |some (.int _ i)=>afB i z.1 (λk=>K { st with E:=cN (some d) none (.adr id (off+k)) st.E }) n 0
    |_=>none)
   |some (.ptr id off)=>(match br T st.E fr.F none y with
    |some (.int _ i)=>afB i z.1 (λk=>K { st with E:=cN (some d) none (.ptr id (off+k)) st.E }) n 0
    |_=>none)
   |_=>none)
  |none=>none)
 |_=>none
def af8(P:Program)(t:TypeId)(nm:String):Option (FuncId×Bool):=match P.info? t with
 |some i=>(match i.methods.find? (·.name==nm) with
  |some m=>(match m.path.toList with
   |[]=>m.func
   |_=>none)
  |none=>none)
 |none=>none
def aqJ:TypeDesc->Bool
 | .pointer _=>true
 |_=>false
def Ky(X:Cx)(T:aB)(fr:Fr)(st:aC)(g:GK)(t:TypeId)(u:AV)(nm:String):Option (FuncId×AV):=match af8 X.P t nm with
 |some (f,true)=>(match X.P.underlying t with
  |some (.pointer _)=>some (f,u)
  |_=>none)
 |some (f,false)=>(match X.P.underlying t with
  |some (.pointer e)=>(match Bv T st.G fr.H g u with
   |some cs=>(match nV X.P e cs with
    |some v=>some (f,v)
    |none=>none)
   |none=>none)
  |some d=>aD (aqJ d) none (some (f,u))
  |none=>none)
 |none=>none
def Ym:List Xb->FuncId->Option Xb
 |[],_=>none
 |i::l,f=>match Nat.beq i.f f with
  |true=>some i
  |false=>Ym l f
def akv{R:Type}(X:Cx)(T:aB)(fr:Fr)(st:aC)(g:GK)(d:zd)(f:FuncId)(args:List AV)(K:cJ R)(els:Option R):Option R:=match Ym X.inl f with
 |none=>els
 |some i=>(match T with
  |[]=>gone g (i.run args fr.H st (λav st'=>K { st' with E:=cN d none av st.E,h:=st.h }))
  |_::_=>none)
def byT{R:Type}(k:TypeId->Option R)(t:TypeId):List TypeId->Option R
 |[]=>none
 |c::cs=>cond (Nat.beq t c) (k c) (byT k t cs)
section
variable {X : Cx} {R : Type} {r : R} {K : cJ R} {T : aB} {fr : Fr} {st : aC} {g : GK} {ρ : ay} {Φ : Ctx} {w : World} {ty : TypeId} {pos : String} {af : zf} {gd : wb}
theorem abe:{l:List Xb}->{f:FuncId}->{i:Xb}->Ym l f=some i->i∈l/\i.f=f
 |[],_,_,h=>by cases h
 |j::l,f,i,h=>by
  unfold Ym at h;split at h
  next c=>cases h;exact ⟨c8 .., b0 c⟩
  .obtain ⟨b,a⟩:=abe h;exact ⟨cp _ b,a⟩
theorem apn{d:zd}{op:Op}{f:FuncId}{args:List AV}{c:Option R}(hl:st.low fr=true)(s:Sat (ab ρ T st.G++(ab ρ T fr.H++Φ)) w)
  (e:Enters X.P f->T.get g=true->∀n a,Fits n (az ρ T st.E fr.F) a->(execOp a.eval ⟨d,op,ty,pos,af,gd⟩).run X.P w= .ok (.enter f (AV.al ρ args).toArray) w) (h:akv X T fr st g d f args K c=some r) (b:c=some r->mP X.P T g (az ρ T st.E fr.F) ⟨d,op,ty,pos,af,gd⟩ w (aU r K T fr st g d ρ Φ)):
  mP X.P T g (az ρ T st.E fr.F) ⟨d,op,ty,pos,af,gd⟩ w (aU r K T fr st g d ρ Φ):=by
 unfold akv at h;split at h
 .exact b h
 .rename_i i hi;obtain ⟨p,o⟩:=abe hi;subst o;obtain ⟨y,x⟩:=X.inlOk i p;split at h
  .obtain ⟨rfl,u⟩:=dG h;refine .none_ (λn a t=> .inr (.inr ⟨i.f,AV.al ρ args,e y aB.get_none n a t,(x r args fr.H st _ ρ Φ w s u).mono λv w' q=>?_⟩));obtain ⟨ρ',st',av,k1,j,m,l,k⟩:=q;have e3:=aZ (T:=[]) j (aC.cG.1 hl).2.2.2;exact aU.new (ρ':=ρ') (st':={ st' with E:=cN d none av st.E,h:=st.h }) hl k1 j m rfl l (by rw [<-e3];exact k)
  .cases h
theorem YG{k:TypeId->Option R}{t:TypeId}:∀{cs:List TypeId},byT k t cs=some r->k t=some r
 |[],h=>by cases h
 |c::cs,h=>by
  unfold byT at h;rcases wH h with ⟨b,a⟩|⟨_,a⟩
  .rw [b0 b];exact a
  .exact YG a
theorem Y6{P:Program}{t:TypeId}{nm:String}{q:FuncId×Bool}(h:af8 P t nm=some q):Ml P t nm q.1 q.2:=by
 unfold af8 at h;split at h
 .rename_i i hi;split at h
  .rename_i m hm;split at h
   next hp=>unfold Ml;rw [hi];simp only [Option.bind_some];rw [hm];simp [hp,h]
   .cases h
  .cases h
 .cases h
theorem aj0{t:TypeId}{u v:AV}{cs:List AV}{G H:List Row}(f:Sat (ab ρ T G++(ab ρ T H++Φ)) w)(a:Bv T G H g u=some cs)(h:nV X.P t cs=some v)(j:T.get g=true):
  ∃p,u.val ρ= .pointer (some p)/\(loadVar t p).run X.P w= .ok (v.val ρ) w:=by
 obtain ⟨p,hp,a⟩:=Nr f a j;refine ⟨p,hp,?_⟩;have m:nV X.P t (cs.drop 0)=some v:=by simpa using h
 obtain ⟨d,n,bytes,z,c1,o,c⟩:=sb (ρ:=ρ) m;cases hd:mT d
 .rw [hd] at c;simp only [eF,qu] at c;exact M5 c1 hd (a.cell0 c)
 .unfold nV at h;rw [c1] at h;rcases ek h with ⟨_,b⟩|⟨e,_⟩
  .split at b
   .rename_i q i;obtain ⟨n,bytes,z⟩:=q;obtain ⟨l,k⟩:=aI b;cases k;have hl:n<=cs.length:=ei l;simp only [AV.val];refine No c1 hd (cR i) (vs:=AV.al ρ (cs.take n)) ?_ ?_
    .have:=a.sub (us:=AV.al ρ (cs.take n)) 0 (by rw [AV.mD,n9,dj,AV.bE,hV hl])
     simpa [Addr.add] using this
    .rw [AV.bE,dj,hV hl]
   .cases b
  .rw [hd] at e;cases e
theorem ZD{t:TypeId}{u:AV}{nm:String}{q:FuncId×AV}(c:Sat (ab ρ T st.G++(ab ρ T fr.H++Φ)) w)(h:Ky X T fr st g t u nm=some q):T.get g=true->Reach X.P w t (u.val ρ) nm q.1 (q.2.val ρ):=by
 unfold Ky at h;split at h
 .rename_i f a;have hm:=Y6 a;split at h
  next e ht=>cases h;exact λ_=>Reach.ptr hm ht
  .cases h
 .rename_i f a;have hm:=Y6 a;split at h
  .rename_i e ht;split at h
   .rename_i cs k;split at h
    next v b=>cases h;intro i;obtain ⟨p,hp,hl⟩:=aj0 c k b i;rw [hp];exact Reach.load hm ht hl
    .cases h
   .cases h
  next d ht=>obtain ⟨m,l⟩:=OF h;cases l;exact λ_=>Reach.val hm ht (λe j=>by subst j;cases m)
  .cases h
 .cases h
theorem aey{d:Tmp}{t:TypeId}{y:Operand}(s:Sat (ab ρ T st.G++(ab ρ T fr.H++Φ)) w)(h:agN X T fr st d t x y K=some r):
  Ps X.P T none (az ρ T st.E fr.F) ⟨some d,.indexAddr t x y,ty,pos,af,gd⟩ w (aU r K T fr st none (some d) ρ Φ):=by
 unfold agN at h;split at h
 .rename_i n e ht;split at h
  .rename_i z p;obtain ⟨m,bytes,z⟩:=z;split at h
   .rename_i id c hx;split at h
    .rename_i k i o;obtain ⟨q,_,u,j,l⟩:=LU h;have g:=bJ (ρ:=ρ) hx;have f:=bJ (ρ:=ρ) o;simp only [AV.val] at g f;refine ⟨.pointer (some (((ρ id).a.add c).add (i.toNat*m))),λw'=>?_,?_⟩
     .rw [aB.get_none];exact Dq (P:=X.P) (w:=w') (dst:=some d) (ty:=ty) (pos:=pos) (af:=af) (gd:=gd) ht (cR p) g f (by
       intro _;subst j;exact nZ.2 ⟨by omega,by omega⟩)
     .refine aU.kT (av:= .adr id (c+q*m)) l (cH _) rfl ?_ s;simp only [AV.val];rw [add_add,j];rfl
    .cases h
   .rename_i id c hx;split at h
    .rename_i k i o;obtain ⟨q,_,u,j,l⟩:=LU h;have g:=bJ (ρ:=ρ) hx;have f:=bJ (ρ:=ρ) o;simp only [AV.val] at g f;refine ⟨.pointer (some ((⟨(ρ id).b,c,none⟩:Addr).add (i.toNat*m))),λw'=>?_,?_⟩
     .rw [aB.get_none];exact Dq (P:=X.P) (w:=w') (dst:=some d) (ty:=ty) (pos:=pos) (af:=af) (gd:=gd) ht (cR p) g f (by
       intro _;subst j;exact nZ.2 ⟨by omega,by omega⟩)
     .refine aU.kT (av:= .ptr id (c+q*m)) l (cH _) rfl ?_ s;simp only [AV.val];rw [add_plain,j];rfl
    .cases h
   .cases h
  .cases h
 .cases h
theorem amu{d:zd}{t:TypeId}{y:Operand}(hl:st.low fr=true)(g:Sat (ab ρ T st.G++(ab ρ T fr.H++Φ)) w)(h:ag9 X T fr st d t x y K=some r):
  mP X.P T none (az ρ T st.E fr.F) ⟨d,.call ⟨.builtin .copy,#[x,y],#[t,t]⟩,ty,pos,af,gd⟩ w (aU r K T fr st none d ρ Φ):=by
 unfold ag9 at h;split at h
 .rename_i e S;split at h
  .rename_i u hu;split at h
   .rename_i z M;obtain ⟨n,bytes,z⟩:=z;split at h
    .rename_i id hx;split at h
     .rename_i b N;obtain ⟨W,i⟩:=aI h;have hn:n=u.rep.n:=(b0 W).trans u.Fo.symm;have B:=cR M;subst hn;have f:=uO (ids:=b.fA) (aC.cG.1 hl).2.2.1;replace g:=lI (ids:=b.fA) g;generalize cw b.fA st.G=G at i f g;have o:=bJ (ρ:=ρ) hx;have v:=bJ (ρ:=ρ) N;simp only [AV.val] at o;split at i
      .rename_i ys q;have s:=N8 g q;split at i
       .rename_i j p u' e' k L R;obtain ⟨V,D⟩:=aI i;have:=b0 V;subst this;split at D
        .rename_i xs A;obtain ⟨Z,ex⟩:=tN A;subst Z;simp only at ex;subst ex;obtain ⟨I,Y⟩:=bX R;have:p=id:=b0 Y;subst this;have hi:=iH (ρ:=ρ) (T:=T) (Φ:=ab ρ T fr.H++Φ) I;obtain ⟨J,_⟩:=g.at_ hi;obtain ⟨w',O,hC,C,U⟩:=akw (P:=X.P) (ty:=ty) (w:=w) (t:=t) (cr S) B J s (λb hb=>Ctx.ll hi hb);have Q:j<G.length:=(List.getElem?_eq_some_iff.1 I).1;have a:=uH f I;simp only [Row.low,ar,j0] at a;refine .none_ (bL.gd (bL.sR (BE o v O) (aU.new (ρ':=ρ.set st.c { dy with y:=⟨.l u',xQ k ys⟩ }) (av:= .int .i64 ((Nat.min ys.length k.length:Nat):Int)) hl D ay.aX (j2 _) rfl (by simp only [AV.val]) ?_)));show Sat (ab _ T (G.set j _)++_) _;rw [gC Q,aZ ay.aX f];refine g.mC hi hC (λb hb=>?_) (λM' m _=>?_)
         .simp only [Row.item,ay.aX _ a.1] at hb;exact ⟨by rw [C];exact J.lt b hb,.inl hb⟩
         .simp only [Row.item,ay.aX _ a.1,ay.bH];exact ⟨U M' m,trivial⟩
        .cases D
       .cases i
      .cases i
     .cases h
    .cases h
   .cases h
  .cases h
 .cases h
theorem akQ{d:Tmp}{t:TypeId}{hi:Option Operand}(hl:st.low fr=true)(A:Sat (ab ρ T st.G++(ab ρ T fr.H++Φ)) w)(h:agG X T fr st d t x hi K=some r):
  mP X.P T none (az ρ T st.E fr.F) ⟨some d,.slice t x none hi none,ty,pos,af,gd⟩ w (aU r K T fr st none (some d) ρ Φ):=by
 have s:=(aC.cG.1 hl).2.2.1;unfold agG at h;split at h
 .rename_i e M;split at h
  .rename_i z I;obtain ⟨n,bytes,z⟩:=z;split at h
   .rename_i id hx;split at h
    .rename_i j J;split at h
     .rename_i k o u e' xs D L;obtain ⟨R,Q⟩:=aI h;obtain ⟨O,N⟩:=jG Q;have hn:n=u.rep.n:=(b0 R).trans u.Fo.symm;have q:=cR I;subst hn;obtain ⟨C,S⟩:=bX L;have:o=id:=b0 S;subst this;have a:=bJ (ρ:=ρ) hx;simp only [AV.val] at a;have f:=iH (ρ:=ρ) (T:=T) (Φ:=ab ρ T fr.H++Φ) C;obtain ⟨B,_⟩:=A.at_ f;obtain ⟨p,k1,i⟩:=B.arZ O;have hk:k<st.G.length:=(List.getElem?_eq_some_iff.1 C).1;have g:=S9 (ρ:=ρ) (len:=xs.length) J;rw [aB.get_none] at g;refine .none_ (bL.gd (bL.run (GL (lo:=none) (hi:=hi) (cr M) q a (λ_=>B.len) rfl g (λ_=>k1)) (aU.new (ρ':=ρ.set st.c { dy with v:=p,y:=⟨.l u,aV xs 0 (j.getD (xs.length:Int))⟩ }) hl N ay.aX (j2 _) rfl (by simp only [AV.val,ay.bH]) ?_)));show Sat (ab _ T (st.G.set k _)++_) _;rw [gC hk,aZ ay.aX s];refine A.mC f ((Ext.refl w).xn _) (λb hb=>?_) (λM' m _=>?_)
      .simp only [Row.item,ay.bH] at hb;have:=i.canon.1 b hb;exact ⟨i.lt b this,.inl this⟩
      .simp only [Row.item,ay.bH];exact ⟨i.canon.2 _ _ (i.cY (λ_ _=>rfl) m),trivial⟩
     .cases h
    .cases h
   .cases h
  .cases h
 .cases h
theorem apy{d:Tmp}{t:TypeId}{lo hi q:Option Operand}(hl:st.low fr=true)(o:Sat (ab ρ T st.G++(ab ρ T fr.H++Φ)) w)(h:alC X T fr st d t x lo hi q K=some r):
  mP X.P T none (az ρ T st.E fr.F) ⟨some d,.slice t x lo hi q,ty,pos,af,gd⟩ w (aU r K T fr st none (some d) ρ Φ):=by
 have L:=(aC.cG.1 hl).2.2.1;unfold alC at h;split at h
 .rename_i y N;split at h
  .rename_i n e ht;split at h
   .rename_i u R;split at h
    .rename_i z C;obtain ⟨O,bytes,z⟩:=z;split at h
     .rename_i id hx;split at h
      .rename_i k S D;split at h
       .rename_i Q m i;split at h
        .rename_i j c bt cs J;obtain ⟨s,p⟩:=aI h;simp only [ar,mN] at s;obtain ⟨⟨rfl,rfl⟩,U⟩:=s;split at p
         next xs l=>obtain ⟨A,M⟩:=o7 J;have:c=id:=b0 M;subst this;have g:=bJ (ρ:=ρ) hx;have f:=bJ (ρ:=ρ) D;have a:=bJ (ρ:=ρ) i;simp only [AV.val] at g f a;have hi:=iH (ρ:=ρ) (T:=T) (Φ:=ab ρ T fr.H++Φ) A;have hb:gJ w (ρ c).b bt (AV.al ρ cs):=o.at_ hi;obtain ⟨l1,B⟩:=S8 o n cs xs l;have I:j<st.G.length:=(List.getElem?_eq_some_iff.1 A).1;refine .none_ (bL.gd (bL.run (acv ht (cR C) g f a) (aU.mC (x:={ dy with v:=(some ⟨(ρ c).b,0,none⟩,n,n) }) hl I p (by simp only [AV.val,ay.bH];rfl) ?_)));refine o.mC hi ((Ext.refl w).xn _) (λb hb=>by cases hb) (λM' m hn=>?_);simp only [Row.item,ay.bH];exact λ_=>⟨bS.fresh hb (hn _ (by simp [Row.item,box]) (λhb=>by cases hb)) l1 (B.mv m),λ_=>l1.symm⟩
         .cases p
        .cases h
       .cases h
      .cases h
     .cases h
    .cases h
   .cases h
  .cases h
 .cases h
end
variable {d : zd} {tys : Array TypeId}
def ajc{R:Type}(X:Cx)(T:aB)(fr:Fr)(st:aC)(t:TypeId)(x y:Operand)(K:cJ R):Option R:=match br T st.E fr.F none x with
 |some (.ptr id off)=>(match br T st.E fr.F none y with
  |some v=>abM X.P st t id off v K
  |none=>none)
 |some (.adr q off)=>(match br T st.E fr.F none y with
  |some v=>YT X.P fr st t q off v K
  |none=>none)
 |_=>none
def anK{R:Type}(X:Cx)(T:aB)(fr:Fr)(st:aC)(g:GK)(d:Tmp)(t:TypeId)(x:Operand)(K:cJ R):Option R:=match br T st.E fr.F g x with
 |some (.adr q off)=>Sa X T fr st g d t q off K
 |_=>none
def apR{R:Type}(X:Cx)(T:aB)(fr:Fr)(st:aC)(g:GK)(b:Builtin)(d:zd)(xs:xc)(ts:List TypeId)(K:cJ R):Option R:=match b,xs,ts,d with
 | .append,[x,y],[t,u],some d=>gone g (aD (Nat.beq t u) (ajY X T fr st d t x y K) (afn X T fr st d t u x y K))
 | .unsafeSliceData,[x],_,some d=>gone g (Yo T fr st d x K)
 | .unsafeString,[x,y],[pt,_],some d=>gone g (agz X T fr st d pt x y K)
 | .copy,[x,y],[t,u],d=>gone g (aD (Nat.beq t u) (ag9 X T fr st d t x y K) none)
 |_,_,_,_=>none
def akL{R:Type}(X:Cx)(tb:List aA)(T:aB)(fr:Fr)(st:aC)(g:GK)(d:zd)(c:Callee)(xs:xc)(ts:List TypeId)(K:cJ R):Option R:=match c with
 | .builtin b=>apR X T fr st g b d xs ts K
 | .value fo=>(match br T st.E fr.F g fo with
  |some (.fn f a b)=>(match vf T st.E fr.F g xs with
   |some vs=>akv X T fr st g d f (a++vs++b) K (yc T fr st g d f (a++vs++b) K tb)
   |none=>none)
  |some (.raw (.func (.methodOf it nm) ⟨[]⟩ ⟨[]⟩))=>(match X.P.underlying it with
   |some dI=>aD (iS dI) (match vf T st.E fr.F g xs with
    |some (.ifc t u::vs)=>byT (λc=>match Ky X T fr st g c u nm with
     |some q=>yc T fr st g d q.1 (q.2::vs) K tb
     |none=>none) t X.ks
    |_=>none) none
   |none=>none)
  |_=>none)
 | .invoke rc nm=>(match br T st.E fr.F g rc with
  |some (.ifc t u)=>(match vf T st.E fr.F g xs with
   |some vs=>(match u with
    | .agg []=>byT (λc=>match Ky X T fr st g c u nm with
     |some q=>yc T fr st g d q.1 (q.2::vs) K tb
     |none=>none) t X.ks
    |_=>(match Ky X T fr st g t u nm with
     |some q=>yc T fr st g d q.1 (q.2::vs) K tb
     |none=>none))
   |none=>none)
  |_=>none)
noncomputable def opN{R:Type}(X:Cx)(tb:List aA)(T:aB)(fr:Fr)(st:aC)(g:GK)(op:Op)(dst:zd)(K:cJ R):Option R:=match op,dst with
 | .indexAddr t x y,some d=>(match ji X.P t with
  |some _=>agt X T fr st g d t x y K
  |none=>(match br T st.E fr.F g x with
   |some (.gp _)=>Yz X T fr st g d t x y K
   |_=>gone g (agN X T fr st d t x y K)))
 | .slice t x lo hi mx,some d=>(match ji X.P t with
  |some _=>(match lo,mx with
   |none,none=>aD (inO fr.n d X.oc) (gone g (agG X T fr st d t x hi K)) (YH X T fr st g d t x none hi none K)
   |lo,mx=>YH X T fr st g d t x lo hi mx K)
  |none=>(match br T st.E fr.F g x with
   |some (.gp _)=>gone g (aj7 X T fr st d t x lo hi mx K)
   |_=>gone g (alC X T fr st d t x lo hi mx K)))
 | .alloc t,some d=>gone g (abA X st d t K)
 | .box t x,some d=>gone g (akZ T fr st d t x K)
 | .store t x y,none=>gone g (ajc X T fr st t x y K)
 | .load t x,some d=>anK X T fr st g d t x K
 | .buildSlice t n ps,some d=>alo X T fr st g d t n ps.toList K
 | .makeSlice t x y,some d=>gone g (af9 X T fr st d t x y K)
 | .makeMap t none,some d=>gone g (agv X st d t K)
 | .mapUpdate t x y z,none=>gone g (af6 X T fr st t x y z K)
 | .range t x,some d=>gone g (alT X T fr st d t x K)
 | .next x true,some d=>gone g (amA T fr st d x K)
 | .convert s dt x,some d=>akC X T fr st g d s dt x K
 | .binOp op t x y _,some d=>gone g (amN X T fr st d op t x y K)
 | .call c,d=>akL X tb T fr st g d c.callee c.args.toList c.argTypes.toList K
 |_,_=>none
noncomputable def Y4{R:Type}(X:Cx)(tb:List aA)(T:aB)(fr:Fr)(st:aC)(g:GK)(o:Oper)(K:cJ R):Option R:=
 match afA X T st.E fr.F g o.op with
 |some cv=>JU cv.1 (g.map λ_=>T.get g) (K { st with E:=cN o.dst g cv.2 st.E })
 |none=>match aeN X T st.E fr.F st.G fr.H g o.op with
  |some cv=>JU cv.1 (g.map λ_=>T.get g) (K { st with E:=cN o.dst g cv.2 st.E })
  |none=>aD (st.low fr) (opN X tb T fr st g o.op o.dst K) none
section
variable {X : Cx} {tb : List aA} {R : Type} {r : R} {K : cJ R} {T : aB} {fr : Fr} {st : aC} {g : GK} {ρ : ay} {Φ : Ctx} {w : World} {ty : TypeId} {pos : String} {af : zf} {gd : wb}
theorem BN{d:zd}{op:Op}{f:FuncId}{args:List AV}(hl:st.low fr=true)(j:Sat (ab ρ T st.G++(ab ρ T fr.H++Φ)) w)(a:∀it∈X.Γ,it∈Φ)
  (b:Enters X.P f->T.get g=true->∀n act,Fits n (az ρ T st.E fr.F) act->(execOp act.eval ⟨d,op,ty,pos,af,gd⟩).run X.P w= .ok (.enter f (AV.al ρ args).toArray) w):∀{tb:List aA},(∀e∈tb,e.Ok X.P X.Γ)->yc T fr st g d f args K tb=some r->
  mP X.P T g (az ρ T st.E fr.F) ⟨d,op,ty,pos,af,gd⟩ w (aU r K T fr st g d ρ Φ)
 |[],_,h=>by cases h
 |e::tb,htb,h=>by
  unfold yc at h;rcases ek h with ⟨l,i⟩|⟨_,i⟩
  .split at i
   next m k=>subst i;have:=b0 l;subst this;have c:=htb e (c8 ..);exact aiJ hl j c a (b c.1) k
   .exact BN hl j a b (λe c=>htb e (cp _ c)) i
  .exact BN hl j a b (λe c=>htb e (cp _ c)) i
theorem amn{f:FuncId}{fo:Operand}{xs:xc}{a b vs:List AV}(hl:st.low fr=true)(o:Sat (ab ρ T st.G++(ab ρ T fr.H++Φ)) w)(j:∀it∈X.Γ,it∈Φ)
  (m:br T st.E fr.F g fo=some (.fn f a b)) (k:vf T st.E fr.F g xs=some vs) {tb:List aA} (l:∀e∈tb,e.Ok X.P X.Γ) (h:yc T fr st g d f (a++vs++b) K tb=some r):
  mP X.P T g (az ρ T st.E fr.F) ⟨d,.call ⟨.value fo,xs.toArray,tys⟩,ty,pos,af,gd⟩ w (aU r K T fr st g d ρ Φ):=by
 have c:=aO (ρ:=ρ) m;have i:=jO (ρ:=ρ) k;simp only [AV.val] at c;refine BN hl o j (λs p n t q=>?_) l h;rw [dp,dp];exact Gq s c i q p
theorem Zw{k:Operand}{nm:String}{xs:xc}{t:TypeId}{u:AV}{vs:List AV}{q:FuncId×AV}(hl:st.low fr=true)(l:Sat (ab ρ T st.G++(ab ρ T fr.H++Φ)) w)(c:∀it∈X.Γ,it∈Φ)
  (j:br T st.E fr.F g k=some (.ifc t u)) (f:vf T st.E fr.F g xs=some vs) (m:Ky X T fr st g t u nm=some q) {tb:List aA} (i:∀e∈tb,e.Ok X.P X.Γ) (h:yc T fr st g d q.1 (q.2::vs) K tb=some r):
  mP X.P T g (az ρ T st.E fr.F) ⟨d,.call ⟨.invoke k nm,xs.toArray,tys⟩,ty,pos,af,gd⟩ w (aU r K T fr st g d ρ Φ):=by
 have a:=aO (ρ:=ρ) j;have b:=jO (ρ:=ρ) f;simp only [AV.val] at a;exact BN hl l c (λs o n v p=>ak0 s a (ZD l m) b p o) i h
theorem alW{fo:Operand}{it:TypeId}{l:TypeDesc}{nm:String}{xs:xc}{t:TypeId}{u:AV}{vs:List AV}{q:FuncId×AV}(hl:st.low fr=true)(k:Sat (ab ρ T st.G++(ab ρ T fr.H++Φ)) w)(c:∀it∈X.Γ,it∈Φ)
  (j:br T st.E fr.F g fo=some (.raw (.func (.methodOf it nm) #[] #[]))) (bI:X.P.underlying it=some l) (hd:iS l=true) (f:vf T st.E fr.F g xs=some (.ifc t u::vs)) (m:Ky X T fr st g t u nm=some q) {tb:List aA} (i:∀e∈tb,e.Ok X.P X.Γ) (h:yc T fr st g d q.1 (q.2::vs) K tb=some r):
  mP X.P T g (az ρ T st.E fr.F) ⟨d,.call ⟨.value fo,xs.toArray,tys⟩,ty,pos,af,gd⟩ w (aU r K T fr st g d ρ Φ):=by
 have b:=aO (ρ:=ρ) j;have a:=jO (ρ:=ρ) f;simp only [AV.val,AV.al] at b a;exact BN hl k c (λs o n v p=>acQ s b bI hd (ZD k m) a p o) i h
theorem an4{c:Callee}{xs:Array Operand}{I:Array TypeId}(hl:st.low fr=true)(l:Sat (ab ρ T st.G++(ab ρ T fr.H++Φ)) w)(m:∀it∈X.Γ,it∈Φ)(o:∀e∈tb,e.Ok X.P X.Γ)
  (h:akL X tb T fr st g d c xs.toList I.toList K=some r):mP X.P T g (az ρ T st.E fr.F) ⟨d,.call ⟨c,xs,I⟩,ty,pos,af,gd⟩ w (aU r K T fr st g d ρ Φ):=by
 obtain ⟨xs⟩:=xs;obtain ⟨I⟩:=I;unfold akL at h;split at h
 .unfold apR at h;split at h
  .rename_i x y t u J k z;simp only at k z;subst k;subst z;obtain ⟨rfl,s⟩:=dG h;rcases ek s with ⟨A,j⟩|⟨_,j⟩
   .have:=b0 A;subst this;exact aoQ hl l j
   .exact amP hl l j
  next x J k=>simp only at k;subst k;obtain ⟨rfl,s⟩:=dG h;exact (Zh hl l s).ok2
  next x y Q it J k z=>simp only at k z;subst k;subst z;obtain ⟨rfl,s⟩:=dG h;exact amc hl l s
  next x y t u k z=>simp only at k z;subst k;subst z;obtain ⟨rfl,s⟩:=dG h;obtain ⟨A,j⟩:=aI s;have:=b0 A;subst this;exact amu hl l j
  .cases h
 .split at h
  .rename_i f a b p;split at h
   next vs i=>refine apn hl l (λN L n O M=>?_) h (λh=>amn hl l m p i o h);have v:=aO (ρ:=ρ) p;have B:=jO (ρ:=ρ) i;simp only [AV.val] at v;rw [dp,dp];exact Gq N v B M L
   .cases h
  .rename_i it nm p;split at h
   .rename_i R bI;obtain ⟨s,A⟩:=aI h;split at A
    .rename_i t u vs i;have j:=YG A;split at j
     next q D=>exact alW hl l m p bI s i D o j
     .cases j
    .cases A
   .cases h
  .cases h
 .split at h
  .rename_i t u C;split at h
   .rename_i vs i;split at h
    .have j:=YG h;split at j
     next q D=>exact Zw hl l m C i D o j
     .cases j
    .split at h
     next q D=>exact Zw hl l m C i D o h
     .cases h
   .cases h
  .cases h
theorem aqS{op:Op}{dst:zd}(hl:st.low fr=true)(b:Sat (ab ρ T st.G++(ab ρ T fr.H++Φ)) w)(c:∀it∈X.Γ,it∈Φ)(i:∀e∈tb,e.Ok X.P X.Γ)
  (h:opN X tb T fr st g op dst K=some r):mP X.P T g (az ρ T st.E fr.F) ⟨dst,op,ty,pos,af,gd⟩ w (aU r K T fr st g dst ρ Φ):=by
 unfold opN at h;split at h
 .split at h
  .exact (aen hl b h).ok2
  .split at h
   .exact (ZK hl c b h).ok2
   .obtain ⟨rfl,a⟩:=dG h;exact (aey b a).ok2
 .split at h
  .split at h
   .rcases ek h with ⟨_,j⟩|⟨_,j⟩
    .obtain ⟨rfl,k⟩:=dG j;exact akQ hl b k
    .exact (VD hl b j).ok2
   .exact (VD hl b h).ok2
  .split at h
   .obtain ⟨rfl,a⟩:=dG h;exact anO hl c b a
   .obtain ⟨rfl,a⟩:=dG h;exact apy hl b a
 .obtain ⟨rfl,a⟩:=dG h;exact aiy hl b a
 .obtain ⟨rfl,a⟩:=dG h;exact apv hl b a
 .obtain ⟨rfl,a⟩:=dG h;unfold ajc at a;split at a
  .rename_i id d hx;split at a
   next v f=>exact .none_ (ai4 b hx f a)
   .cases a
  .rename_i id d hx;split at a
   next v f=>exact .none_ (ajl hl b hx f a)
   .cases a
  .cases a
 .unfold anK at h;split at h
  next q d hx=>exact ak2 hl b hx h
  .cases h
 .exact aoi hl b h
 .obtain ⟨rfl,a⟩:=dG h;exact amY hl b a
 .obtain ⟨rfl,a⟩:=dG h;exact akG hl b a
 .obtain ⟨rfl,a⟩:=dG h;exact amz b a
 .obtain ⟨rfl,a⟩:=dG h;exact ape hl b a
 .obtain ⟨rfl,a⟩:=dG h;exact aoc b a
 .exact aoW hl b h
 .obtain ⟨rfl,a⟩:=dG h;exact aoT b a
 .exact an4 hl b c i h
 .cases h
theorem aq1{o:Oper}(m:ga T st.E fr.F)(f:Sat (ab ρ T st.G++(ab ρ T fr.H++Φ)) w)(i:∀it∈X.Γ,it∈Φ)(j:∀e∈tb,e.Ok X.P X.Γ)
  (h:Y4 X tb T fr st g o K=some r):mP X.P T g (az ρ T st.E fr.F) o w (aU r K T fr st g o.dst ρ Φ):=by
 obtain ⟨dst,op,ty,pos,af,gd⟩:=o;unfold Y4 at h;simp only at h;split at h
 next cv b=>obtain ⟨d,c⟩:=tF h;exact Ps.ok2 ⟨_,λw'=>aav m b d,aU.kT c (cH _) rfl rfl f⟩
 .split at h
  next cv b=>obtain ⟨d,c⟩:=tF h;have k:=abm (dst:=dst) (ty:=ty) (pos:=pos) (af:=af) (gd:=gd) f b d;have a:aU r K T fr st g dst ρ Φ (cv.2.val ρ) w:=aU.kT c (cH _) rfl rfl f;exact ⟨λl=>bL.run (by rwa [l] at k) a,λ_=>⟨_,a⟩⟩
  .obtain ⟨d,c⟩:=aI h;exact aqS d f i j c
end
def Row.gd:Row->GK
 | .sli g _ _ _ _|.elm g _ _|.kn g _ _ _ _ _ _=>g
 |_=>none
theorem Row.EF{ρ:ay}{T T':aB}{r:Row}(h:T'.get r.gd=T.get r.gd):r.item ρ T'=r.item ρ T:=by cases r <;> simp only [Row.gd] at h <;> simp only [Row.item,h]
def Ei(k:Nat×Bool)(g:GK):Bool:= !(GK.eq (some k) g)
def JJ(k:Nat×Bool):aF->Bool
 |[]=>true
 |x::E=>Ei k x.2.1&&JJ k E
def P6(k:Nat×Bool):List Row->Bool
 |[]=>true
 |r::G=>Ei k r.gd&&P6 k G
def af5(k:Nat×Bool):aB->Bool
 |[]=>true
 |x::T=>Ei k (some x.1)&&Ei k x.2.1&&af5 k T
theorem AR{k:Nat×Bool}{par:GK}{rj:Nat}{b:Bool}{T:aB}{g:GK}(h:Ei k g=true):aB.get ((k,par,rj,b)::T) g=T.get g:=aB.Rs h
theorem PT{ρ:ay}{k:Nat×Bool}{par:GK}{rj:Nat}{b:Bool}{T:aB}:{E:aF}->JJ k E=true->aF.env ρ ((k,par,rj,b)::T) E=aF.env ρ T E
 |[],_=>rfl
 |(t,g,v)::E,h=>by simp only [JJ,ar] at h;simp only [aF.env];rw [AR h.1,PT h.2]
theorem Jy{ρ:ay}{k:Nat×Bool}{par:GK}{rj:Nat}{b:Bool}{T:aB}:{G:List Row}->P6 k G=true->ab ρ ((k,par,rj,b)::T) G=ab ρ T G
 |[],_=>rfl
 |r::G,h=>by simp only [P6,ar] at h;simp only [ab,eT];rw [Row.EF (AR h.1)];have:=Jy (ρ:=ρ) (par:=par) (rj:=rj) (b:=b) (T:=T) h.2;simp only [ab] at this;rw [this]
theorem Nn{k:Nat×Bool}:{E:aF}->JJ k E=true->{t:Nat}->{x:GK×AV}->bA E t=some x->Ei k x.1=true
 |[],_,_,_,h=>by cases h
 |(r,g,v)::E,h,t,x,hx=>by
  simp only [JJ,ar] at h;unfold bA at hx;rcases ek hx with ⟨_,a⟩|⟨_,a⟩
  .cases a;exact h.1
  .exact Nn h.2 a
def Qv(k:Nat×Bool):aB->Bool
 |[]=>false
 |x::T=>GK.eq (some k) (some x.1)||Qv k T
def rL(d:zd):aB->Bool
 |[]=>true
 |x::T=>(match d with
  |none=>true
  |some d=> !(Nat.beq d x.2.2.1))&&rL d T
def sq(ops:zh)(n:Nat)(T:aB):Prop:= ∀x,x∈T->(ops[x.1.1]?).bind (·.dst)=some x.2.2.1/\Nat.blt x.2.2.1 n=true
def FT(T:aB)(fr:Fr):Prop:=(∀x,x∈fr.F->T.get x.2.1=aB.get [] x.2.1)/\∀r,r∈fr.H->T.get r.gd=aB.get [] r.gd
def stepG{R:Type}(ops:zh)(T:aB)(fr:Fr)(st:aC)(o:Oper)(run:aB->GK->Option R):Option R:=
 aD (kc o&&Ma fr.n o.dst) (match o.guard with
 |none=>aD ( rL o.dst T ) ( run T none ) none
 |some k=>aD ( Qv k T ) ( aD ( rL o.dst T ) ( run T (some k) ) none )<|match ops[k.1]? with
  |some oj=>(match oj.dst with
   |some rj=>(match ew st.E fr.F rj with
    |some (par,.bool b)=>aD ( Nat.blt rj fr.n&&JJ k st.E&&JJ k fr.F&&P6 k st.G&&P6 k fr.H&&af5 k T&&rL o.dst ((k,par,rj,b)::T) ) ( run ((k,par,rj,b)::T) (some k) ) none
    |_=>none)
   |none=>none)
  |none=>none) none
structure ajB(ops:zh)(fr0 fr:Fr)(st:aC)(ρ:ay)(o:Oper)(T T':aB)(g:GK):Prop where
 pl:kc o=true
 ds:Ma fr.n o.dst=true
 t1:ga T' st.E fr.F
 t2:sq ops fr.n T'
 ft:FT T' fr0
 ak:rL o.dst T'=true
 ee:aF.env ρ T' st.E=aF.env ρ T st.E
 ef:aF.env ρ T' fr.F=aF.env ρ T fr.F
 eg:ab ρ T' st.G=ab ρ T st.G
 eh:ab ρ T' fr.H=ab ρ T fr.H
 gg:o.guard=g
 gk:∀k,g=some k->∃rj par b,(ops[k.1]?).bind (·.dst)=some rj/\look (az ρ T' st.E fr.F) rj=some (T'.get par,.bool b)/\Nat.blt rj fr.n=true/\(T'.get par&&(b==k.2))=T'.get g
theorem ada{k:Nat×Bool}:{T:aB}->Qv k T=true->∃x,x∈T/\x.1=k
 |[],h=>by cases h
 |x::T,h=>by
  simp only [Qv,e9] at h;rcases h with h|h
  .have:=GK.eq_eq h;cases this;exact ⟨x,c8 .., rfl⟩
  .obtain ⟨y,b,a⟩:=ada h;exact ⟨y,cp _ b,a⟩
theorem ac9{k:Nat×Bool}:{T:aB}->af5 k T=true->∀x,x∈T->Ei k (some x.1)=true/\Ei k x.2.1=true
 |[],_,x,h=>by cases h
 |y::T,h,x,hx=>by
  simp only [af5,ar] at h;rcases List.mem_cons.1 hx with rfl|hx
  .exact h.1
  .exact ac9 h.2 x hx
theorem aee{k:Nat×Bool}:{E:aF}->JJ k E=true->∀x,x∈E->Ei k x.2.1=true
 |[],_,x,h=>by cases h
 |y::T,h,x,hx=>by
  simp only [JJ,ar] at h;rcases List.mem_cons.1 hx with rfl|hx
  .exact h.1
  .exact aee h.2 x hx
theorem adV{k:Nat×Bool}:{E:List Row}->P6 k E=true->∀x,x∈E->Ei k x.gd=true
 |[],_,x,h=>by cases h
 |y::T,h,x,hx=>by
  simp only [P6,ar] at h;rcases List.mem_cons.1 hx with rfl|hx
  .exact h.1
  .exact adV h.2 x hx
theorem abE{R:Type}{r:R}{ops:zh}{T:aB}{fr0 fr:Fr}{st:aC}{o:Oper}{run:aB->GK->Option R}{ρ:ay}(u:ga T st.E fr.F)(t:sq ops fr.n T)(w:fr0.F=fr.F)(v:∀r,r∈fr0.H->r∈fr.H)(p:FT T fr0)(h:stepG ops T fr st o run=some r):
  ∃T' g,run T' g=some r/\ajB ops fr0 fr st ρ o T T' g:=by
 unfold stepG at h;obtain ⟨f,z⟩:=aI h;simp only [ar] at f;have kT:∀k x,x∈T->x.1=k->∃rj par b,(ops[k.1]?).bind (·.dst)=some rj/\look (az ρ T st.E fr.F) rj=some (T.get par,.bool b)/\Nat.blt rj fr.n=true/\(T.get par&&(b==k.2))=T.get (some k):=λk x hx hk=>by subst hk;obtain ⟨G,D⟩:=u x hx;obtain ⟨C,B⟩:=t x hx;exact ⟨x.2.2.1,x.2.1,x.2.2.2,C,by rw [iO,G];simp [AV.val],B,by rw [D,Ox]⟩
 split at z
 next m=>obtain ⟨s,d⟩:=aI z;exact ⟨T,none,d,⟨f.1,f.2,u,t,p,s,rfl,rfl,rfl,rfl,m,λk hk=>by cases hk⟩⟩
 .rename_i k m;rcases ek z with ⟨s,d⟩|⟨s,d⟩
  .obtain ⟨q,y⟩:=aI d;obtain ⟨x,hx,hk⟩:=ada s;exact ⟨T,some k,y,⟨f.1,f.2,u,t,p,q,rfl,rfl,rfl,rfl,m,λL e=>by cases e;exact kT k x hx hk⟩⟩
  .split at d
   .rename_i oj l;split at d
    .rename_i rj i;split at d
     .rename_i par b a;obtain ⟨q,y⟩:=aI d;simp only [ar] at q;obtain ⟨⟨⟨⟨⟨⟨K,J⟩,A⟩,O⟩,I⟩,N⟩,M⟩:=q;have j:Ei k par=true:=by
       unfold ew at a;split at a
       next x hx=>cases a;exact Nn J hx
       .exact Nn A a
      have c:aB.get ((k,par,rj,b)::T) (some k)=(aB.get ((k,par,rj,b)::T) par&&AW k.2 b):=by rw [aB.akn,AR j]
      have ee:=PT (ρ:=ρ) (par:=par) (rj:=rj) (b:=b) (T:=T) J;have ef:=PT (ρ:=ρ) (par:=par) (rj:=rj) (b:=b) (T:=T) A;refine ⟨(k,par,rj,b)::T,some k,y,⟨f.1,f.2,λx hx=>?_,λx hx=>?_,⟨λx hx=>?_,λx hx=>?_⟩,M,ee,ef,Jy O,Jy I,m,λL e=>?_⟩⟩
      .rcases List.mem_cons.1 hx with rfl|hx
       .exact ⟨a,c⟩
       .obtain ⟨G,D⟩:=u x hx;obtain ⟨C,B⟩:=ac9 N x hx;exact ⟨G,by rw [AR C,AR B];exact D⟩
      .rcases List.mem_cons.1 hx with rfl|hx
       .exact ⟨by simp [l,i],K⟩
       .exact t x hx
      .rw [AR (aee A x (w▸hx))];exact p.1 x hx
      .rw [AR (adV I x (v x hx))];exact p.2 x hx
      .cases e;refine ⟨rj,par,b,by simp [l,i],?_,K,by rw [c,Ox]⟩;rw [iO,a];simp [AV.val]
     .cases d
    .cases d
   .cases d
theorem W0{d:zd}:{T:aB}->rL d T=true->∀x,x∈T->∀(g:GK) (v:AV) (E F:aF),ew (cN d g v E) F x.2.2.1=ew E F x.2.2.1
 |[],_,x,h=>by cases h
 |y::T,h,x,hx=>λg v E F=>by
  simp only [rL,ar] at h;rcases List.mem_cons.1 hx with rfl|hx
  .cases d with
   |none=>rfl
   |some d=>
    have a:=h.1;simp only [mm] at a;unfold ew;simp only [cN,bA,a]
  .exact W0 h.2 x hx g v E F
theorem ga.out{T:aB}{E F:aF}(h:ga T E F){d:zd}(ha:rL d T=true)(g:GK)(v:AV):ga T (cN d g v E) F:=λx hx=>by rw [W0 ha x hx];exact h x hx
theorem w9{ρ:ay}{T:aB}{g:GK}{v:AV}{E F:aF}:az ρ T (cN d g v E) F=tB d (T.get g) (v.val ρ) (az ρ T E F):=by cases d <;> rfl
section
variable {X : Cx} {tb : List aA} {σ : zc} {Q : bm} {D : xb} {ops : zh} {rest : zh} {R : Type} {r : R} {T : aB} {fr : Fr} {st : aC} {ρ : ay} {Φ : Ctx} {w : World}
theorem abZ{fr0:Fr}{o:Oper}{K:aB->cJ R}(L:ga T st.E fr.F)(J:sq ops fr.n T)(p:fr0.F=fr.F)(m:∀r,r∈fr0.H->r∈fr.H)(C:FT T fr0)(B:Sat (ab ρ T st.G++(ab ρ T fr.H++Φ)) w)(f:∀it∈X.Γ,it∈Φ)(i:∀e∈tb,e.Ok X.P X.Γ)
  (h:stepG ops T fr st o (λT g=>Y4 X tb T fr st g o (K T))=some r)
  (next:∀T' st' ρ' w',ga T' st'.E fr.F->sq ops fr.n T'->FT T' fr0->aS st.c ρ ρ'->st.c<=st'.c->K T' st'=some r->ab ρ' T' fr.H=ab ρ T fr.H->Sat (ab ρ' T' st'.G++(ab ρ' T' fr.H++Φ)) w'->WL X.P σ ops.toArray Q fr.n D rest (az ρ' T' st'.E fr.F) w'):
  WL X.P σ ops.toArray Q fr.n D (o::rest) (az ρ T st.E fr.F) w:=by
 obtain ⟨T',g,hk,a⟩:=abE (ρ:=ρ) L J p m C h;have j:Sat (ab ρ T' st.G++(ab ρ T' fr.H++Φ)) w:=by rw [a.eg,a.eh];exact B
 have I:az ρ T st.E fr.F=az ρ T' st.E fr.F:=by rw [az,az,a.ee,a.ef]
 rw [I];have d:=aq1 a.t1 j f i hk;have fin:∀v w',aU r (K T') T' fr st g o.dst ρ Φ v w'->WL X.P σ ops.toArray Q fr.n D rest (tB o.dst (T'.get g) v (az ρ T' st.E fr.F)) w':=λv w' A=>by obtain ⟨ρ',st',av,k1,z,y,q,x,u,t,s⟩:=A;have:=next T' st' ρ' w' (by rw [q];exact a.t1.out a.ak g av) a.t2 a.ft z y k1 (t.trans a.eh) s;rw [q,w9,x,u] at this;exact this
 cases l:g with
 |none=>
  subst l;have:=fin;rw [aB.get_none] at this;exact ao8 (d.1 aB.get_none) a.pl a.gg a.ds this
 |some k=>
  obtain ⟨rj,par,b,S,O,N,M⟩:=a.gk k l;subst l;exact ajR d.1 d.2 a.pl a.gg (by simpa using S) O N M a.ds fin
end
def uD{α:Type}:Option α->Bool
 |none=>true
 |some _=>false
def pL(E0:aF):aF->aF
 |[]=>[]
 |x::E=>(match bA E0 x.1 with
  |some (none,_)=>aD (uD x.2.1) (x::pL E0 E) (pL E0 E)
  |_=>pL E0 E)
def oP:List Row->List Row
 |[]=>[]
 |r::G=>aD (uD r.gd) (r::oP G) (oP G)
def Bc(T:aB)(st:aC):aC:=match T with
 |[]=>st
 |_::_=>{ st with E:=pL st.E st.E,G:=oP st.G }
theorem oy{t' t:Nat}{g:GK}{v:AV}{E:aF}(h:Nat.beq t' t=true):bA ((t',g,v)::E) t=some (g,v):=by simp only [bA,h]
theorem jz{t' t:Nat}{g:GK}{v:AV}{E:aF}(h:Nat.beq t' t=false):bA ((t',g,v)::E) t=bA E t:=by simp only [bA,h]
theorem GW{d:aF}{t:Nat}:{E:aF}->{x:GK×AV}->bA (pL d E) t=some x->x.1=none/\(∃v,bA d t=some (none,v))/\((∃v,bA E t=some (none,v))->bA E t=some x)
 |[],x,h=>by cases h
 |(t',g',v')::E,x,h=>by
  unfold pL at h;have cY:bA (pL d E) t=some x->(∀v,Nat.beq t' t=true->bA d t'≠some (none,v)\/g'≠none)->x.1=none/\(∃v,bA d t=some (none,v))/\((∃v,bA ((t',g',v')::E) t=some (none,v))->bA ((t',g',v')::E) t=some x):=λm hn=>by
   obtain ⟨a,c,l⟩:=GW m;refine ⟨a,c,λf=>?_⟩;cases hb:Nat.beq t' t
   .rw [jz hb] at f ⊢; exact l f
   .exfalso;obtain ⟨j,i⟩:=c;obtain ⟨n,b⟩:=f;rw [oy hb] at b;simp only [ej,q5] at b;have e:=b0 hb;rcases hn j hb with g|g
    .rw [e] at g;exact g i
    .exact g b.1
  dsimp only at h;split at h
  .rename_i v f;cases a:uD g'
   .rw [a] at h;exact cY h (λv _=> .inr (λe=>by rw [e] at a;cases a))
   .rw [a] at h;have c:bA ((t',g',v')::pL d E) t=some x:=h;cases hb:Nat.beq t' t
    .rw [jz hb] at c ⊢;exact GW (E:=E) c
    .rw [oy hb] at c ⊢;cases c;have e:=b0 hb;refine ⟨?_,⟨v,by rw [<-e];exact f⟩,λ_=>rfl⟩;cases k:g' with
     |none=>rfl
     |some _=>rw [k] at a;cases a
  next hn=>exact cY h (λv hb=> .inl (λe=>hn v e))
theorem PE{a:aF}{t:Nat}{c:AV}(b:bA a t=some (none,c)):{E:aF}->{v:AV}->bA E t=some (none,v)->bA (pL a E) t=some (none,v)
 |[],v,h=>by cases h
 |(t',g',v')::E,v,h=>by
  unfold pL;cases hb:Nat.beq t' t
  .rw [jz hb] at h;have ih:=PE b h;dsimp only;split
   .cases uD g'
    .exact ih
    .show bA ((t',g',v')::pL a E) t=_;rw [jz hb];exact ih
   .exact ih
  .rw [oy hb] at h;cases h;have e:=b0 hb;subst e;dsimp only;rw [b];exact oy hb
def Yv(F E0:aF):aF->Bool
 |[]=>true
 |x::E=>(match bA E0 x.1 with
  |some (none,_)=>true
  |_=>uD (bA F x.1))&&Yv F E0 E
theorem aaT{F c:aF}{t:Nat}:{E:aF}->{x:GK×AV}->Yv F c E=true->bA E t=some x->(∃v,bA c t=some (none,v))\/bA F t=none
 |[],x,_,h=>by cases h
 |(t',g',v')::E,x,hb,h=>by
  simp only [Yv,ar] at hb;cases b:Nat.beq t' t
  .rw [jz b] at h;exact aaT hb.2 h
  .have e:=b0 b;subst e;have a:=hb.1;split at a
   next v d=>exact .inl ⟨v,d⟩
   .cases f:bA F t' with
    |none=>exact .inr rfl
    |some y=>rw [f] at a;cases a
def E4(T:aB)(fr:Fr)(st:aC):Bool:=match T with
 |[]=>true
 |_::_=>Yv fr.F st.E st.E
theorem amk{ρ:ay}{T:aB}{E:aF}(h:∀x,x∈E->T.get x.2.1=aB.get [] x.2.1):aF.env ρ T E=aF.env ρ [] E:=by
 induction E with
 |nil=>rfl
 |cons x E ih=>
  obtain ⟨t,g,v⟩:=x;simp only [aF.env];rw [h _ (c8 ..),ih (λx hx=>h x (cp _ hx))]
theorem Sg{ρ:ay}{T:aB}{G:List Row}(h:∀r,r∈G->T.get r.gd=aB.get [] r.gd):ab ρ T G=ab ρ [] G:=
 qM λr a=>Row.EF (h r a)
theorem Bj:{G:List Row}->∀r,r∈oP G->r.gd=none
 |[],r,h=>by cases h
 |y::G,r,h=>by
  unfold oP at h;cases a:uD y.gd
  .rw [a] at h;exact Bj r h
  .rw [a] at h;rcases List.mem_cons.1 h with rfl|h
   .cases b:r.gd with
    |none=>rfl
    |some _=>rw [b] at a;cases a
   .exact Bj r h
theorem C9{ρ:ay}{T:aB}{w:World}{B:Ctx}:∀{G:List Row} {A:Ctx},Sat (A++(ab ρ T G++B)) w->Sat (A++(ab ρ T (oP G)++B)) w
 |[],_,h=>h
 |r::G,A,h=>by
  unfold oP;cases uD r.gd
  .exact C9 (G:=G) (Sat.De h)
  .have a:Sat ((A++[r.item ρ T])++(ab ρ T G++B)) w:=by simpa [ab] using h
   have:=C9 (G:=G) a;simpa [ab] using this
theorem KI{ρ:ay}{T:aB}{fr:Fr}{st:aC}{Φ:Ctx}{w:World}(j:E4 T fr st=true)(f:FT T fr)(e:Sat (ab ρ T st.G++(ab ρ T fr.H++Φ)) w):
  (Bc T st).c=st.c/\lG (az ρ [] (Bc T st).E fr.F) (az ρ T st.E fr.F)/\Sat (ab ρ [] (Bc T st).G++(ab ρ [] fr.H++Φ)) w:=by
 cases T with
 |nil=>exact ⟨rfl,lG.refl,e⟩
 |cons x T=>
  refine ⟨rfl,λt p hp=>?_,?_⟩
  .have n:aF.env ρ (x::T) fr.F=aF.env ρ [] fr.F:=amk f.1;rw [az,HK] at hp ⊢;rw [n];cases hl:look (aF.env ρ [] (Bc (x::T) st).E) t with
   |none=>
    rw [hl] at hp
    -- nothing kept: nothing told, or under a guard
    have:look (aF.env ρ (x::T) st.E) t=none:=by
     rw [Ao] at hl hp ⊢;cases i:bA st.E t with
     |none=>rfl
     |some y=>
      exfalso;have hk:bA (pL st.E st.E) t=none:=by
       cases hk:bA (pL st.E st.E) t with
       |none=>rfl
       |some z=>
        have:bA (Bc (x::T) st).E t=some z:=hk;rw [this] at hl;cases hl
      rcases aaT j i with ⟨v,d⟩|h
      .rw [PE d d] at hk;cases hk
      .rw [h] at hp;cases hp
    rw [this];exact hp
   |some q=>
    rw [hl] at hp;cases hp;rw [Ao] at hl;cases hk:bA (Bc (x::T) st).E t with
    |none=>rw [hk] at hl;cases hl
    |some y=>
     rw [hk] at hl;obtain ⟨b,m,l⟩:=GW hk;have k:=l m;rw [Ao,k];simp only [l7,ej] at hl ⊢;rw [<-hl,b,aB.get_none,aB.get_none]
  .have b:=C9 (A:=[]) e;have s:ab ρ (x::T) (oP st.G)=ab ρ [] (oP st.G):=Sg λr g=>by rw [Bj r g,aB.get_none,aB.get_none]
   have o:ab ρ (x::T) fr.H=ab ρ [] fr.H:=Sg f.2;rw [o5,s,o] at b;exact b
def u7:Bool->Pt->List (Bool×Nat×Pt)->Type
 |true,_,_=>Empty
 |false,r,os=>fN (rA r++jx os)
abbrev arh{R:Type}:(nv:Bool)->(r:Pt)->(os:List (Bool×Nat×Pt))->u7 nv r os->(fN (rA r++jx os)->Option R)->Option R
 |true,_,_,x,_=>Empty.elim x
 |false,_,_,x,K=>K x
def isOk:(nv:Bool)->(r:Pt)->(os:List (Bool×Nat×Pt))->u7 nv r os->fN (rA r++jx os)->Prop
 |true,_,_,_,_=>False
 |false,_,_,x,q=>x=q
theorem ao2{R:Type}{a:R}:{nv:Bool}->{r:Pt}->{os:List (Bool×Nat×Pt)}->{x:u7 nv r os}->{q:fN (rA r++jx os)}->{K:fN (rA r++jx os)->Option R}->isOk nv r os x q->arh nv r os x K=some a->K q=some a
 |true,_,_,_,_,_,h,_=>h.elim
 |false,_,_,_,_,_,rfl,h=>h
abbrev S4(p:Pt):Option Pt->Type
 |none=>fN (rA p)
 |some q=>fN (rA p) ⊕ fN (rA q)
abbrev YO{A B R:Type}(x:A ⊕ B)(f:A->R)(g:B->R):R:=match x with
 | .inl a=>f a
 | .inr b=>g b
def amE(pp:Pt):(pq:Option Pt)->S4 pp pq->Value->fX->lO->List Nm->Prop
 |none,p,v,I,X,N=>Sem pp v none none [] (iP _ p) I X N
 |some _,.inl p,v,I,X,N=>Sem pp v none none [] (iP _ p) I X N
 |some q,.inr p,v,I,X,N=>Sem q v none none [] (iP _ p) I X N
structure bY where
 f:FuncId
 ps:List Pt
 pp:Pt
 pq:Option Pt
 nv:Bool
 lp:Bool
 r:Pt
 os:List (Bool×Nat×Pt)
 m:fN (rR ps)->Option (Except (S4 pp pq) (u7 nv r os))
def bY.oe(e:bY):aA:=⟨e.f,e.ps,e.r,e.os,λ_=>none⟩
def bY.S(e:bY)(vs:za)(N:List Nm)(I:fX)(X:lO)(Φ:Ctx)(r:Except (S4 e.pp e.pq) (u7 e.nv e.r e.os))(v:Value)(w':World):Prop:=
 ∃x q,r= .ok x/\isOk e.nv e.r e.os x q/\∃(N1 N2:List Nm) (D1 D2:List cm) (I1 I2:fX) (X1 X2:lO),Sem e.r v none none N D1 I1 X1 N1/\G7 (UA e.ps vs X) (λi=>vs[i]?) e.os N1 D2 I2 X2 N2/\D1++D2=iP _ q/\
  Sat ((dE I1++dE I2)++(iA I++Φ)) w'
def bY.Sp(e:bY)(I:fX)(Φ:Ctx)(r:Except (S4 e.pp e.pq) (u7 e.nv e.r e.os))(c:w4)(w':World):Prop:=
 ∃p,r= .error p/\∃(v:Value) (N1:List Nm) (I1:fX) (X1:lO),c=ka v/\amE e.pp e.pq p v I1 X1 N1/\Sat (dE I1++(aD e.lp [] (iA I)++Φ)) w'
def bY.Ok(P:Program)(Γg:Ctx)(e:bY):Prop:=Enters P e.f/\∀s r,e.m s=some r->∀(vs:za) (N:List Nm) (I:fX) (X:lO) (Φ:Ctx) (w:World),
 yp e.ps vs [] [] [] (iP _ s) I X N->Sat (dE I++Φ) w->(∀it∈Γg,it∈Φ)->oJ P e.f vs w (e.S vs N I X Φ r) (e.Sp I Φ r)
theorem Sat.move{A B C:Ctx}{x:Item}{w:World}(h:Sat (A++x::(B++C)) w):Sat (A++(B++x::C)) w:=by
 refine h.CK (λj k=>(j<A.length/\k=j)\/(A.length<=j/\j<A.length+B.length/\k=j+1)\/(j=A.length+B.length/\k=A.length)\/(A.length+B.length<j/\k=j)) (λj b a=>?_) (λj k q c l i=>by omega);by_cases e:j<A.length
 .rw [ec e] at a;exact .inr ⟨j,b,.inl ⟨e,rfl⟩,by rw [ec e];exact a,bW.refl⟩
 .rw [c9 (by omega)] at a;by_cases g:j<A.length+B.length
  .rw [ec (by omega)] at a;refine .inr ⟨j+1,b,.inr (.inl ⟨by omega,g,rfl⟩),?_,bW.refl⟩;rw [c9 (by omega)];have:j+1-A.length=(j-A.length)+1:=by omega
   rw [this,gy,ec (by omega)];exact a
  .rw [c9 (by omega)] at a;by_cases e3:j=A.length+B.length
   .subst e3;rw [show A.length+B.length-A.length-B.length=0 by omega] at a;simp at a;subst a;exact .inr ⟨A.length,x,.inr (.inr (.inl ⟨rfl,rfl⟩)),by simp,bW.refl⟩
   .refine .inr ⟨j,b,.inr (.inr (.inr ⟨by omega,rfl⟩)),?_,bW.refl⟩;rw [c9 (by omega)];have e4:j-A.length-B.length=(j-A.length-B.length-1)+1:=by omega
    rw [e4,gy] at a;have f:j-A.length=(j-A.length-1)+1:=by omega
    rw [f,gy,c9 (by omega)];have d:j-A.length-1-B.length=j-A.length-B.length-1:=by omega
    rw [d];exact a
theorem Sat.swp{w:World}{B C:Ctx}:∀{A P:Ctx},Sat (P++(A++(B++C))) w->Sat (P++(B++(A++C))) w
 |[],_,h=>h
 |x::A,P,h=>by
  have c:Sat ((P++[x])++(A++(B++C))) w:=by simpa using h
  have b:=Sat.swp (A:=A) c;have a:Sat (P++x::(B++(A++C))) w:=by simpa using b
  exact a.move
def dz:List Row->List Row
 |[]=>[]
 |r::G=>aD r.cM (r::dz G) (dz G)
abbrev IX(b:Bool)(H:List Row):List Row:=aD b (dz H) H
theorem GD{c:Nat}:{G:List Row}->bB c G=true->bB c (dz G)=true
 |[],_=>rfl
 |r::G,h=>by
  simp only [bB,ar] at h;unfold dz;cases r.cM
  .exact GD h.2
  .show bB c (r::dz G)=true;simp only [bB,ar];exact ⟨h.1,GD h.2⟩
theorem aoa{c:Nat}{b:Bool}{G:List Row}(h:bB c G=true):bB c (IX b G)=true:=by
 cases b
 .exact h
 .exact GD h
theorem uq{r:Row}:{G:List Row}->r∈dz G->r∈G/\r.cM=true
 |[],h=>by cases h
 |x::G,h=>by
  unfold dz at h;cases hx:x.cM <;> rw [hx] at h
  .exact ⟨cp _ (uq h).1,(uq h).2⟩
  .rcases List.mem_cons.1 h with rfl|h
   .exact ⟨c8 .., hx⟩
   .exact ⟨cp _ (uq h).1,(uq h).2⟩
theorem Ny{G H:List Row}:dz (G++H)=dz G++dz H:=by
 induction G with
 |nil=>rfl
 |cons r G ih=>
  show aD r.cM (r::dz (G++H)) (dz (G++H))=aD r.cM (r::dz G) (dz G)++dz H;rw [ih];cases r.cM <;> rfl
theorem ahu{ρ:ay}{T:aB}{w:World}{Γ:Ctx}(h:Sat Γ w){H:List Row}(b:∀r∈H,r.item ρ T∈Γ):Sat (ab ρ T (dz H)++Γ) w:=by
 refine h.ams _ (List.all_eq_true.2 λit bI=>?_) ?_
 .obtain ⟨r,a,rfl⟩:=List.mem_map.1 bI;exact Row.aio (uq a).2
 .have:∀l:List Item,(∀it∈l,it.P Γ.M w)->age Γ.M w l:=λl=>by
   induction l with
   |nil=>intro _;trivial
   |cons x l ih=>intro hl;exact ⟨hl x (c8 ..),ih λit bI=>hl it (cp _ bI)⟩
  refine this _ λit bI=>?_;obtain ⟨r,a,rfl⟩:=List.mem_map.1 bI;exact h.all _ (b r (uq a).1)
theorem an7{L:wi}{A B:Ctx}(h:∀i,some i∈L->i<A.length):∃a,lj L (A++B)=a++B/\a.length=A.length:=by
 induction L with
 |nil=>exact ⟨A,rfl,rfl⟩
 |cons o L ih=>
  obtain ⟨a,c,b⟩:=ih (λi hi=>h i (cp _ hi));cases o with
  |none=>exact ⟨a,c,b⟩
  |some i=>
   refine ⟨a.set i jC,?_,by rw [qI,b]⟩;show (lj L (A++B)).set i jC=_;have:=h i (c8 ..);rw [c,List.set_append_left _ _ (by omega)]
theorem Sat.Nx{w:World}{B C:Ctx}:∀{A:Ctx},Sat (B++(A++C)) w->Sat (B++C) w
 |[],h=>h
 |_x::A,h=>Sat.Nx (A:=A) (Sat.De h)
def NN{R:Type}(st:aC)(pp:Pt)(G1:List Row)(KP:AV->aC->Option R)(p:fN (rA pp)):Option R:=
 match fill (vU [] st.c) pp none none 0 (iP _ p) with
 |⟨v,R1,k,_,_⟩=>KP v { st with c:=st.c+k,G:=R1.map (·.2)++G1 }
abbrev ahw{R:Type}(st:aC)(pp:Pt):(pq:Option Pt)->(G1:List Row)->(KP:AV->aC->Option R)->S4 pp pq->Option R
 |none,G1,KP,p=>NN st pp G1 KP p
 |some q,G1,KP,p=>YO p (NN st pp G1 KP) (NN st q G1 KP)
def Zz{R:Type}(fr:Fr)(st:aC)(d:zd)(args:List AV)(e:bY)(KP:Bool->AV->aC->Option R)(K:cJ R):Option (Option R):=
 match Jf (cw (eX st.G fr.H e.ps args) st.G) fr.H e.ps args [] [] [] with
  |some mr=>aD (HG (mr.S.map λx=>dF (cw (eX st.G fr.H e.ps args) st.G) fr.H x.2)&&Pk (cw (eX st.G fr.H e.ps args) st.G).length (Ch (cw (eX st.G fr.H e.ps args) st.G) fr.H mr.S)&&Wz st.c mr.B&&AV.ck st.c args&&Rj st.c mr.X&&uy (y7 e.ps args mr.X) e.os) (match cW (rR e.ps) mr.D with
   |some s=>some (gE (e.m s) (ahw st e.pp e.pq (aD e.lp (dz (cw (eX st.G fr.H e.ps args) st.G)) (na (uK (Ch (cw (eX st.G fr.H e.ps args) st.G) fr.H mr.S) 0 (cw (eX st.G fr.H e.ps args) st.G)))) (KP e.lp))
     (λx=>arh e.nv e.r e.os x (Oj fr st none d args e.oe mr (na (uK (Ch (cw (eX st.G fr.H e.ps args) st.G) fr.H mr.S) 0 (cw (eX st.G fr.H e.ps args) st.G))) K)))
   |none=>none) none
  |none=>none
def MV{R:Type}(fr:Fr)(st:aC)(d:zd)(f:FuncId)(args:List AV)(KP:Bool->AV->aC->Option R)(K:cJ R):List bY->Option (Option R)
 |[]=>none
 |e::tp=>aD (Nat.beq e.f f) (match Zz fr st d args e KP K with
   |some r=>some r
   |none=>MV fr st d f args KP K tp) (MV fr st d f args KP K tp)
def afr{R:Type}(tp:List bY)(T:aB)(fr:Fr)(st:aC)(o:Oper)(KP:Bool->AV->aC->Option R)(K:cJ R):Option (Option R):=match o.guard with
 |some _=>none
 |none=>(match o.op with
  | .panic x=>(match br T st.E fr.F none x with
   |some (.ifc t v)=>some (KP false (.ifc t v) st)
   |_=>none)
  | .call c=>(match c.callee with
   | .value fo=>(match br T st.E fr.F none fo with
    |some (.fn f a b)=>(match vf T st.E fr.F none c.args.toList with
     |some vs=>aD (rL o.dst T&&Ma fr.n o.dst&&st.low fr) (MV fr st o.dst f (a++vs++b) KP K tp) none
     |none=>none)
    |_=>none)
   |_=>none)
  |_=>none)
section
variable {P : Program} {R : Type} {r : R} {K : cJ R} {KP : Bool -> AV -> aC -> Option R} {b : Bool} {T : aB} {fr : Fr} {st : aC} {d : zd} {ρ : ay} {Φ Γg : Ctx} {w : World}
def Zn(r:R)(KP:Bool->AV->aC->Option R)(T:aB)(fr:Fr)(st:aC)(ρ:ay)(Φ:Ctx)(v:Value)(w':World):Prop:=
 ∃(b:Bool) (ρ':ay) (st':aC) (av:AV),KP b av st'=some r/\aS st.c ρ ρ'/\st.c<=st'.c/\st'.E=st.E/\av.val ρ'=v/\Sat (ab ρ' T st'.G++(ab ρ' T (IX b fr.H)++Φ)) w'/\az ρ' T st.E fr.F=az ρ T st.E fr.F
theorem J5{pp:Pt}{f:List Row}{p:fN (rA pp)}{v:Value}{w':World}{e:List Nm}{m:fX}{w:lO}
  (hl:st.low fr=true) (o:bB st.c f=true) (u:Sem pp v none none [] (iP _ p) m w e)
  (z:Sat (dE m++(ab ρ T f++(ab ρ T (IX b fr.H)++Φ))) w') (h:NN st pp f (KP b) p=some r):Zn r KP T fr st ρ Φ v w':=by
 have n:=Ay _ _ _ _ _ _ _ _ _ u;have d:=Xc (ρ:=ρ) (c:=st.c) (N:=[]) (B:=[]) (N2:=e) .nil n rfl;have a:aS st.c ρ (λi=>aD (Nat.blt i st.c) (ρ i) ((e[i-st.c]?).getD dy)):=λj D=>by
  have:Nat.blt j st.c=true:=by simpa using D
  simp only [this]
 generalize y:(λi=>aD (Nat.blt i st.c) (ρ i) ((e[i-st.c]?).getD dy))=ρ' at d a;obtain ⟨l,t,s,q,g⟩:=Iq (T:=T) pp v none none [] (iP _ p) m w e u (Hs _) d (by simp) [];rw [j5,qq] at l t s q g;unfold NN at h;generalize fill (vU [] st.c) pp none none 0 (iP _ p)=L at l t s q g h;obtain ⟨x,E,k,G,F⟩:=L;simp only at l t s q g;dsimp only at h;have e3:=aZ (T:=T) a o;have e4:=aZ (T:=T) a (aoa (b:=b) (aC.cG.1 hl).2.2.2);refine ⟨b,ρ',_,x,h,a,qO _ _,rfl,l,?_,sa hl a⟩;show Sat (ab ρ' T (E.map (·.2)++f)++(ab ρ' T (IX b fr.H)++Φ)) w';rw [bg,e3,e4,cb];exact Sat.Z2 (A:=[]) (B:=dE m) (C:=ab ρ T f++(ab ρ T (IX b fr.H)++Φ)) (by simpa using z) g.rw
theorem RZ{pp:Pt}:{pq:Option Pt}->{a:List Row}->{p:S4 pp pq}->{v:Value}->{w':World}->{f:List Nm}->{d:fX}->{e:lO}->
  st.low fr=true->bB st.c a=true->amE pp pq p v d e f->Sat (dE d++(ab ρ T a++(ab ρ T (IX b fr.H)++Φ))) w'->ahw st pp pq a (KP b) p=some r->Zn r KP T fr st ρ Φ v w'
 |none,_,_,_,_,_,_,_,hl,hG,h1,hs,h=>J5 hl hG h1 hs h
 |some _,_,.inl _,_,_,_,_,_,hl,hG,h1,hs,h=>J5 hl hG h1 hs h
 |some _,_,.inr _,_,_,_,_,_,hl,hG,h1,hs,h=>J5 hl hG h1 hs h
theorem ajv{e:bY}{args:List AV}(hl:st.low fr=true)(n:Sat (ab ρ T st.G++(ab ρ T fr.H++Φ)) w)(he:e.Ok P Γg)(l:∀it∈Γg,it∈Φ)(h:Zz fr st d args e KP K=some (some r)):
  oJ P e.f (AV.al ρ args) w (aU r K T fr st none d ρ Φ) (λc w'=>∃v,c=ka v/\Zn r KP T fr st ρ Φ v w'):=by
 have D:=uO (ids:=eX st.G fr.H e.ps args) (aC.cG.1 hl).2.2.1;replace n:=lI (ids:=eX st.G fr.H e.ps args) n;unfold Zz at h;generalize cw (eX st.G fr.H e.ps args) st.G=a at D n h;have hd:=ahu n (H:=a++fr.H) (λr hr=>List.mem_append.2 ((List.mem_append.1 hr).imp (λh=>List.mem_map_of_mem h) (λh=>qz _ (List.mem_map_of_mem h))));replace hd:Sat (ab ρ T a++(ab ρ T fr.H++(ab ρ T (dz (a++fr.H))++Φ))) w:=by exact Sat.swp (P:=ab ρ T a) (Sat.swp (P:=[]) hd)
 have M:=l;replace l:∀it∈Γg,it∈ab ρ T (dz (a++fr.H))++Φ:=λit bI=>gx _ (M it bI);generalize J:ab ρ T (dz (a++fr.H))++Φ=g at hd l;have hdr:∀{A:Ctx} {w':World},Sat (A++g) w'->Sat (A++Φ) w':=λ{A w'} h=>by rw [<-J] at h;exact Sat.Nx h
 replace n:=hd;split at h
 .rename_i m hm;obtain ⟨h1,Y⟩:=aI h;simp only [ar] at h1;obtain ⟨⟨⟨⟨⟨h3,h4⟩,h5⟩,h6⟩,h7⟩,h9⟩:=h1;split at Y
  .rename_i s O;simp only [ej] at Y;obtain ⟨N,I,s1,n1,a1⟩:=Bt n e.ps args [] [] [] m [] hm (.inl rfl) .nil;rw [<-Dz _ O] at s1;obtain ⟨p1,p2⟩:=Oa n a1;have o:=Aq h3;obtain ⟨q1,_⟩:=AH n p1 o;have F:∀(L:wi) (G:List Row) (k:Nat),bB st.c G=true->bB st.c (na (uK L k G))=true:=λL G=>by
    induction G with
    |nil=>intro k _;rfl
    |cons r G ih=>
     intro k V;simp only [bB,ar] at V;show bB st.c (na ((aD (nq k L) .gone r)::uK L (k+1) G))=true;cases nq k L
     .cases r <;> first|exact ih (k+1) V.2|(simp only [na,bB,ar];exact ⟨V.1,ih (k+1) V.2⟩)
     .exact ih (k+1) V.2
   have t:=F (Ch a fr.H m.S) a 0 D;have Q:∀it∈Γg,it∈lj (m.S.map λx=>dF a fr.H x.2) (ab ρ T a++(ab ρ T fr.H++g)):=λit bI=>by
    obtain ⟨k,hk⟩:=List.mem_iff_getElem?.1 (l it bI);have hk2:(ab ρ T a++(ab ρ T fr.H++g))[a.length+fr.H.length+k]? =some it:=by
     rw [c9 (by simp [ab];omega),c9 (by simp [ab];omega)];have:a.length+fr.H.length+k-(ab ρ T a).length-(ab ρ T fr.H).length=k:=by simp [ab];omega
     rw [this];exact hk
    refine fe (i:=a.length+fr.H.length+k) ?_;rw [Dx,hk2];intro R;obtain ⟨x,_,hx⟩:=List.mem_map.1 R;have:=Rn hx;omega
   have u:=λrr hr=>he.2 s rr hr (AV.al ρ args) N I (fm ρ m.X) _ w (by simpa only [AV.al] using s1) q1 Q;have j:∀{A:Ctx} {w':World},Sat (A++(iA I++lj (m.S.map λx=>dF a fr.H x.2) (ab ρ T a++(ab ρ T fr.H++g)))) w'->Sat (A++(ab ρ T (na (uK (Ch a fr.H m.S) 0 a))++(ab ρ T fr.H++Φ))) w':=λ{A w'} c4=>by have W:=IL p2 o c4;rw [Ql a1,Eg h4] at W;have c6:=Gi W;rw [<-cb (ab ρ T (na (uK (Ch a fr.H m.S) 0 a))),<-cb A] at c6;have c7:=hdr c6;rwa [cb A,cb] at c7
   rcases aeX Y with ⟨p,hq,hk⟩|⟨q,hq,hk⟩
   .refine (u _ hq).mono (λv w' y=>?_) (λc w' y=>?_)
    .obtain ⟨x',q',z,_⟩:=y;cases z
    .obtain ⟨p',C,v,N1,I1,X1,c1,Z,E⟩:=y;cases C;refine ⟨v,c1,?_⟩;cases U:e.lp with
     |false=>rw [U] at E hk;exact RZ (b:=false) hl t Z (j E) hk
     |true=>
      rw [U] at E hk;obtain ⟨A',e1,_⟩:=an7 (L:=m.S.map λx=>dF a fr.H x.2) (A:=ab ρ T a++ab ρ T fr.H) (B:=g) (λi hi=>by obtain ⟨x,_,hx⟩:=List.mem_map.1 hi;have:=Rn hx;simp only [ab,et,mj];omega)
      rw [cb] at e1;rw [e1] at E;have W:Sat (dE I1++g) w':=Sat.Nx (A:=A') E;rw [<-J,Ny,bg,cb] at W;exact RZ (b:=true) hl (GD D) Z W hk
   .refine (u _ hq).mono (λv w' y=>?_) (λc w' y=>?_)
    .obtain ⟨x',q',z,hi,N1,N2,D1,D2,I1,I2,X1,X2,c1,Z,E,c4⟩:=y;cases z;exact MQ (e:=e.oe) hl t n1 h5 h6 h7 h9 c1 Z E aB.get_none (j c4) (.inl rfl) (ao2 hi hk)
    .obtain ⟨p',C,_⟩:=y;cases C
  .cases Y
 .cases h
theorem My{f:FuncId}{args:List AV}(hl:st.low fr=true)(g:Sat (ab ρ T st.G++(ab ρ T fr.H++Φ)) w)(a:∀it∈Γg,it∈Φ):∀{tp:List bY},(∀e∈tp,e.Ok P Γg)->MV fr st d f args KP K tp=some (some r)->
  Enters P f/\oJ P f (AV.al ρ args) w (aU r K T fr st none d ρ Φ) (λc w'=>∃v,c=ka v/\Zn r KP T fr st ρ Φ v w')
 |[],_,h=>by cases h
 |e::tp,htp,h=>by
  unfold MV at h;rcases ek h with ⟨k,b⟩|⟨_,b⟩
  .split at b
   next l i=>cases b;have:=b0 k;subst this;exact ⟨(htp e (c8 ..)).1,ajv hl g (htp e (c8 ..)) a i⟩
   .exact My hl g a (λe j=>htp e (cp _ j)) b
  .exact My hl g a (λe j=>htp e (cp _ j)) b
variable {σ : zc} {Q : bm} {D : xb} {ops rest : zh} {tp : List bY}
theorem anJ{o:Oper}(Y:ga T st.E fr.F)(R:Sat (ab ρ T st.G++(ab ρ T fr.H++Φ)) w)(I:∀it∈Γg,it∈Φ)(M:∀e∈tp,e.Ok P Γg)
  (h:afr tp T fr st o KP K=some (some r))
  (next:∀st' ρ' w',ga T st'.E fr.F->aS st.c ρ ρ'->st.c<=st'.c->K st'=some r->ab ρ' T fr.H=ab ρ T fr.H->Sat (ab ρ' T st'.G++(ab ρ' T fr.H++Φ)) w'->WL P σ ops.toArray Q fr.n D rest (az ρ' T st'.E fr.F) w')
  (g:∀b v st' ρ' w',aS st.c ρ ρ'->st.c<=st'.c->KP b v st'=some r->st'.E=st.E->az ρ' T st.E fr.F=az ρ T st.E fr.F->Sat (ab ρ' T st'.G++(ab ρ' T (IX b fr.H)++Φ)) w'->At Q (.panic (ka (v.val ρ'))) fr.n D (az ρ' T st'.E fr.F) w'):
  WL P σ ops.toArray Q fr.n D (o::rest) (az ρ T st.E fr.F) w:=by
 obtain ⟨dst,op,ty,pos,af,gd⟩:=o;unfold afr at h;split at h
 .cases h
 rename_i q;simp only at q;subst q;split at h
 .rename_i x j;simp only at j;subst j;split at h
  next t v hx=>have hk:=gj h;have m:=aO (ρ:=ρ) hx;rw [aB.get_none] at m;simp only [AV.val] at m;refine alZ m ?_;have:=g false (.ifc t v) st ρ w .refl (cH _) hk rfl rfl R;simp only [AV.val] at this;exact this
  .cases h
 .rename_i c j;simp only at j;subst j;obtain ⟨y,xs,tys⟩:=c;obtain ⟨xs⟩:=xs;simp only at h;split at h
  .rename_i fo;split at h
   .rename_i f a b N;split at h
    .rename_i vs J;obtain ⟨U,X⟩:=aI h;simp only [ar] at U;obtain ⟨⟨O,hd⟩,hl⟩:=U;obtain ⟨s,S⟩:=My hl R I M X;have d:=aO (ρ:=ρ) N;have i:=jO (ρ:=ρ) J;rw [aB.get_none] at d i;simp only [AV.val] at d;have k:AV.al ρ (a++vs++b)=AV.al ρ a++AV.al ρ vs++AV.al ρ b:=by rw [dp,dp]
     have fin:∀v w',aU r K T fr st none dst ρ Φ v w'->WL P σ ops.toArray Q fr.n D rest (tB dst true v (az ρ T st.E fr.F)) w':=λv w' L=>by obtain ⟨ρ',st',av,k1,C,B,p,A,z,u,W⟩:=L;have:=next st' ρ' w' (by rw [p];exact Y.out O none av) C B k1 u W;rw [p,w9,A,z,aB.get_none] at this;exact this
     have l:∀c w',(∃v,c=ka v/\Zn r KP T fr st ρ Φ v w')->At Q (.panic c) fr.n D (az ρ T st.E fr.F) w':=λc w' L=>by obtain ⟨v,rfl,V,ρ',st',av,k1,C,B,p,A,z,u⟩:=L;have:=g V av st' ρ' w' C B k1 p u z;rw [A,p,u] at this;exact this
     cases dst with
     |none=>exact ah3 s d i k S fin l
     |some dd=>exact aam s d i k hd S fin l
    .cases h
   .cases h
  .cases h
 .cases h
end
theorem Sat.akN{A B:Ctx}{x:Item}{w:World}(h:Sat (A++x::B) w):Sat (x::(A++B)) w:=by
 refine h.CK (λj k=>(j=0/\k=A.length)\/(0<j/\j<=A.length/\k+1=j)\/(A.length<j/\k=j)) (λj b a=>?_) (λj k q c f d=>by omega);cases j with
 |zero=>
  simp only [qh,ej] at a;subst a;exact .inr ⟨A.length,x,.inl ⟨rfl,rfl⟩,by simp,bW.refl⟩
 |succ j=>
  simp only [gy] at a;by_cases e:j<A.length
  .rw [ec e] at a;exact .inr ⟨j,b,.inr (.inl ⟨by omega,by omega,rfl⟩),by rw [ec e];exact a,bW.refl⟩
  .rw [c9 (by omega)] at a;refine .inr ⟨j+1,b,.inr (.inr ⟨by omega,rfl⟩),?_,bW.refl⟩;rw [c9 (by omega)];have:j+1-A.length=(j-A.length)+1:=by omega
   rw [this,gy];exact a
theorem Sat.asg{Γ:Ctx}{it new:Item}{w:World}(h:Sat (it::Γ) w)(a:∀b∈new.own,b∈it.own)(c:∀M',Mv (Ctx.M (it::Γ)) w M' w->new.P M' w):Sat (new::Γ) w:=by have:=h.mC (i:=0) (it:=it) (new:=new) (w':=w) rfl ⟨rfl,rfl,rfl,cH _,λ_ _ _=>rfl⟩ (λb hb=>⟨h.lt (Ctx.EW.2 (.inl (a b hb))),.inl (a b hb)⟩) (λM' m _=>c M' m);simpa using this
def JG(X:Cx)(T:aB)(fr:Fr)(st:aC)(o:Oper):Option (TypeId×List AV×List AV):=match o.op,o.guard with
 | .alloc t,none=>(match Yr X.P t with
  |some cs=>some (t,[],cs)
  |none=>none)
 | .buildSlice t len ps,none=>(match ji X.P t with
  |some e=>(match px X.P e with
   |some z=>(match vf T st.E fr.F none (ps.toList.map (·.2)) with
    |some vs=>(match Gx (λi=>some (i*z.1,z.1)) ((ps.toList.map (·.1)).zip vs) (abR len (z.2.2.cells.toList.map nK)) with
     |some cs=>aD ( Nat.beq z.2.2.cells.size z.1&&Nat.ble (len*z.1) 16777216&&(Nat.blt 0 (len*z.1)||Nat.beq len 0&&ps.toList.isEmpty) ) (some (e,vs,cs)) none
     |none=>none)
    |none=>none)
   |none=>none)
  |none=>none)
 |_,_=>none
theorem abJ{X:Cx}{T:aB}{fr:Fr}{st:aC}{ρ:ay}{o:Oper}{e:TypeId}{vs cs:List AV}(h:JG X T fr st o=some (e,vs,cs))(w:World):
  oW X.P (az ρ T st.E fr.F) o w (HN o w.heap.size) (w.alloc (.cells (AV.al ρ cs).toArray e)):=by
 obtain ⟨dst,op,ty,pos,af,gd⟩:=o;unfold JG at h;simp only at h;split at h
 .rename_i t;split at h
  .rename_i p a;cases h;unfold Yr at a;split at a
   next z k=>cases a;obtain ⟨n,b,z⟩:=z;have:=KZ (P:=X.P) (E:=az ρ T st.E fr.F) (w:=w) (dst:=dst) (ty:=ty) (pos:=pos) (af:=af) (zs:=z.cells.toList) (cR k) (by simp);rw [rI];exact this
   .cases a
  .cases h
 .rename_i t len ps;obtain ⟨ps⟩:=ps;split at h
  .rename_i e' q;split at h
   .rename_i z k;obtain ⟨n,bytes,z⟩:=z;split at h
    .rename_i s m;split at h
     .rename_i p a;obtain ⟨r,v⟩:=aI h;cases v;simp only [ar,e9] at r;obtain ⟨⟨A,y⟩,g⟩:=r;have f:z.cells.size=n:=b0 A;have d:=jO (ρ:=ρ) m;rw [aB.get_none] at d;have c:=EP (ρ:=ρ) a;rw [J9,Zs,rI] at c;rcases g with g|⟨g,u⟩
      .have i:0<n:=by
        have:0<len*n:=by simpa using g
        exact Nat.pos_of_ne_zero (λe=>by simp [e] at this)
       have j:An n len z.cells.toList ((ps.map (·.1)).zip (AV.al ρ vs))=some (AV.al ρ cs).toArray:=by unfold An;have l:=MN z.cells.toList (by simp [f];exact i) len;simp only [eZ,f] at l;simp only [eZ,f];rw [<-c,<-l]
       exact yN (P:=X.P) (w:=w) (dst:=dst) (ty:=ty) (pos:=pos) (af:=af) (cr q) (cR k) (zs:=z.cells.toList) (by simp) g y d j
      .have x:len=0:=b0 g;subst x;have l:ps=[]:=by simpa using u
       subst l;have:cs=[]:=by simp only [List.map_nil,List.zip_nil_left,abR,List.replicate_zero,List.flatten_nil,Gx,ej] at a;exact a.symm
       subst this;exact wz (P:=X.P) (E:=az ρ T st.E fr.F) (w:=w) (dst:=dst) (ty:=ty) (pos:=pos) (af:=af) (cr q) (cR k)
     .cases h
    .cases h
   .cases h
  .cases h
 .cases h
def amL{R:Type}(X:Cx)(T:aB)(fr:Fr)(st:aC)(o:Oper)(K:cJ R):Option R:=match JG X T fr st o,o.dst with
 |some p,some d=>(match o.op with
  | .buildSlice _ len _=>(match Dp X.tys p.1 with
   |some u=>(match Zt (cw (AV.fA (.agg p.2.1)++(p.2.1.map AV.fA).flatten) st.G) fr.H u len p.2.2 with
    |some xs=>aD (st.low fr&&Nat.ble len 9223372036854775807) (K { st with c:=st.c+1,E:=cN (some d) none (.sl st.c) st.E,G:= .own st.c u p.1 xs st.c::cw (AV.fA (.agg p.2.1)++(p.2.1.map AV.fA).flatten) st.G }) none
    |none=>none)
   |none=>none)
  |_=>aD (st.low fr&&AV.ck st.c p.2.2) (afd st d p.1 p.2.2 K) none)
 |_,_=>none
section
variable {X : Cx} {R : Type} {r : R} {K : cJ R} {T : aB} {fr : Fr} {st : aC} {ρ : ay} {Φ : Ctx} {w : World}
theorem ao7{o:Oper}{b:Nat}{e':TypeId}{k:za}(g:Sat (ab ρ T st.G++(ab ρ T fr.H++(box b e' k::Φ))) w)
  (I:∀e vs cs,JG X T fr st o=some (e,vs,cs)->e'=e/\k=AV.al ρ cs) (h:amL X T fr st o K=some r):
  aU r K T fr st none o.dst ρ Φ (HN o b) w:=by
 obtain ⟨dst,op,ty,pos,af,gd⟩:=o;unfold amL at h;simp only at h;split at h
 .rename_i p d hp;obtain ⟨e,vs,cs⟩:=p;obtain ⟨rfl,rfl⟩:=I _ _ _ hp;split at h
  .rename_i t len ps;split at h
   .rename_i u L;split at h
    .rename_i xs n;obtain ⟨A,z⟩:=aI h;simp only [ar] at A;obtain ⟨hl,J⟩:=A;have s:=uO (ids:=AV.fA (.agg vs)++(vs.map AV.fA).flatten) (aC.cG.1 hl).2.2.1;replace g:=lI (ids:=AV.fA (.agg vs)++(vs.map AV.fA).flatten) g;simp only at z;generalize cw (AV.fA (.agg vs)++(vs.map AV.fA).flatten) st.G=G at z s g n;obtain ⟨k1,F⟩:=S8 (ρ:=ρ) (T:=T) g _ _ _ n;have f:Sat ((ab ρ T G++ab ρ T fr.H)++box b e' (AV.al ρ cs)::Φ) w:=by rw [cb];exact g
     have a:=f.akN;have mv:Mv (Ctx.M (ab ρ T G++(ab ρ T fr.H++(box b e' (AV.al ρ cs)::Φ)))) w (Ctx.M (box b e' (AV.al ρ cs)::((ab ρ T G++ab ρ T fr.H)++Φ))) w:=Mv.weaken w λc B=>by
      obtain ⟨it,hi,hb⟩:=B;refine ⟨it,?_,hb⟩;simp only [qa,List.mem_append] at hi ⊢;rcases hi with h|(h|h)|h
      .exact .inr (.inr (.inl h))
      .exact .inl h
      .exact .inr (.inl h)
      .exact .inr (.inr (.inr h))
     refine aU.new (ρ':=ρ.set st.c { dy with v:=(some ⟨b,0,none⟩,len,len),y:=⟨.l u,xs⟩ }) (av:= .sl st.c) hl z ay.aX (j2 _) rfl (by simp only [AV.val,ay.bH];rfl) ?_;show Sat (ab _ T (_::G)++_) w;have e:=aZ (T:=T) (ay.aX (ρ:=ρ) (j:=st.c) (x:={ dy with v:=(some ⟨b,0,none⟩,len,len),y:=⟨.l u,xs⟩ })) s;rw [ab,eT];rw [ab] at e;rw [e];have hb:gJ w b e' (AV.al ρ cs):=a.at_ (i:=0) rfl;have q:Sat ((Row.own st.c u e' xs st.c).item (ρ.set st.c { dy with v:=(some ⟨b,0,none⟩,len,len),y:=⟨.l u,xs⟩ }) T::((ab ρ T G++ab ρ T fr.H)++Φ)) w:=by
      refine a.asg (λc B=>?_) (λM' m=>?_)
      .simp only [Row.item,ay.bH] at B;exact Je B
      .simp only [Row.item,ay.bH];exact ⟨(cf.of (km.fresh hb k1 J (F.mv (mv.trans m)))).Mz,trivial⟩
     rw [cb] at q;exact q
    .cases h
   .cases h
  .rename_i C;obtain ⟨A,z⟩:=aI h;simp only [ar] at A;obtain ⟨hl,E⟩:=A;have f:Sat ((ab ρ T st.G++ab ρ T fr.H)++box b e' (AV.al ρ cs)::Φ) w:=by rw [cb];exact g
   have a:=f.akN;rw [cb] at a;have ev:HN ⟨some d,op,ty,pos,af,gd⟩ b= .pointer (some ⟨b,0,none⟩):=by
    unfold HN;split
    next D=>exact (C _ _ _ D).elim
    .rfl
   rw [ev];refine aU.new (ρ':=ρ.set st.c { dy with b:=b }) (av:= .ptr st.c 0) hl z ay.aX (j2 _) rfl (by simp only [AV.val,ay.bH]) ?_;show Sat (ab _ T (_::st.G)++_) w;have e:=aZ (T:=T) (ay.aX (ρ:=ρ) (j:=st.c) (x:={ dy with b:=b })) (aC.cG.1 hl).2.2.1;rw [ab,eT];rw [ab] at e;rw [e];simp only [Row.item,ay.bH];rw [AV.cd ay.aX _ E];exact a
 .cases h
end
end Go.Proofs.YtcgihjbfppkcfaaGreatDoor
