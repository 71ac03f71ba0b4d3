/-
  Own texts for the statement NestRounds, cut down to what it needs: B13, B14, B15, B16, B24, B25, K20, B32, B30, B33, B17, B23, B31. (cut and joined by a program)
-/
import Derived.Test.YtcgihjbfppkcfaaGreatDoorNestRoundsB
set_option linter.unusedVariables false
set_option linter.unusedSimpArgs false
namespace Go.Proofs.YtcgihjbfppkcfaaGreatDoor
open IntKind (i64)
open Go.Lib
def bW(a b:Item):Prop:=(∀x,x∈b.own->x∈a.own)/\∀M w,a.P M w->b.P M w
theorem bW.refl{a:Item}:bW a a:=⟨λ_ h=>h,λ_ _ h=>h⟩
def afV(ρ:ay)(T:aB)(G H:List Row)(s:Src)(it:Item):Prop:=
 (it.own=[]/\(∀M w,it.P M w)/\∀r,¬s.at_ G H r)\/∃r,s.at_ G H r/\bW (r.item ρ T) it/\(r.cM=true->it.own=[])/\(r.cM=false->bW it (r.item ρ T))
def SI(ρ:ay)(T:aB)(G H:List Row)(a:Bool×Src)(b:Bool×Item):Prop:=a.1=b.1/\afV ρ T G H a.2 b.2
inductive gB{α β:Type}(R:α->β->Prop):List α->List β->Prop
 |nil:gB R [] []
 |cons {a b l m}:R a b->gB R l m->gB R (a::l) (b::m)
theorem gB.length{α β:Type}{R:α->β->Prop}{l:List α}{m:List β}(h:gB R l m):l.length=m.length:=by
 induction h with
 |nil=>rfl
 |cons _ _ ih=>simp [ih]
theorem gB.append{α β:Type}{R:α->β->Prop}{l l':List α}{m a:List β}(h:gB R l m)(k:gB R l' a):gB R (l++l') (m++a):=by
 induction h with
 |nil=>exact k
 |cons b _ ih=>exact .cons b ih
theorem gB.get{α β:Type}{R:α->β->Prop}{l:List α}{m:List β}(h:gB R l m):∀{i:Nat} {a:α},l[i]? =some a->∃b,m[i]? =some b/\R a b:=by
 induction h with
 |nil=>intro i a h;simp at h
 |cons c _ ih=>
  grind
def NBr(ρ:ay)(o:zc)(a:Nm):Prop:=match o with
 |some j=>a.b=(ρ j).b/\a.v=(ρ j).v/\a.m=(ρ j).m
 |none=>a.v=(none,0,0)/\a.m=none
abbrev NB(ρ:ay)(B:wi)(N:List Nm):Prop:=gB (NBr ρ) B N
theorem NB.at_{ρ:ay}{B:wi}{N:List Nm}(h:NB ρ B N){n j:Nat}(hb:Qy ((B[n]?).getD none) (some j)=true):∃a,N[n]? =some a/\a.b=(ρ j).b/\a.v=(ρ j).v:=by
 have e:=aot hb;cases hn:B[n]? with
 |none=>rw [hn] at e;cases e
 |some o=>
  rw [hn] at e;subst e;obtain ⟨a,d,c⟩:=h.get hn;exact ⟨a,d,c.1,c.2.1⟩
section
variable {ρ : ay} {T : aB} {G H : List Row} {Φ : Ctx} {w : World}
theorem U0(g:Sat (ab ρ T G++(ab ρ T H++Φ)) w){t:Ty}{v:AV}{q:zc×Src×List t.T}(h:abn G H t v=some q):∃a:Nm,NBr ρ q.1 a/\v.val ρ=sl a.v/\afV ρ T G H q.2.1 (NC true t.rep a.v q.2.2 false):=by
 unfold abn at h;split at h
 .split at h
  .rename_i s c t' l b d;split at h
   next l' hl=>cases h;obtain ⟨rfl,rfl⟩:=tC hl;obtain ⟨f,e⟩:=bX d;have  :=b0 e;subst this;refine ⟨ρ c,⟨rfl,rfl,rfl⟩,by simp [AV.val],.inr ⟨_,f,⟨λ_ h=>h,λM w h _=>⟨(h aB.get_none).1,λhb=>by cases hb⟩⟩,λ_=>rfl,λh=>by cases h⟩⟩
   .cases h
  .cases h
 .cases h;exact ⟨dy,⟨rfl,rfl⟩,by rfl,.inl ⟨rfl,λM w _=>⟨bS.nil,λhb=>by cases hb⟩,λr h=>h⟩⟩
 .cases h
theorem UT(i:Sat (ab ρ T G++(ab ρ T H++Φ)) w){t:Ty}{e:TypeId}{v:AV}{q:zc×Src×List t.T}(h:YW G H t e v=some q):∃a:Nm,NBr ρ q.1 a/\v.val ρ=sl a.v/\a.y=⟨.l t,q.2.2⟩/\afV ρ T G H q.2.1 (uf t.rep e a.v q.2.2 True):=by
 unfold YW at h;split at h
 .split at h
  .rename_i s g t' e' l f j;obtain ⟨k,c⟩:=aI h;have n:=b0 k;subst n;split at c
   next l' hl=>cases c;obtain ⟨rfl,rfl⟩:=tC hl;obtain ⟨d,m⟩:=bX j;have  :=b0 m;subst this;have b:=(Src.holds i d).2;refine ⟨{ ρ g with y:=⟨.l t',l⟩ },⟨rfl,rfl,rfl⟩,by simp [AV.val],rfl,.inr ⟨_,d,⟨λ_ h=>h,λM w h=>⟨h.1,trivial⟩⟩,λh=>(by cases h),λ_=>⟨λ_ h=>h,λM w h=>⟨h.1,b⟩⟩⟩⟩
   .cases c
  .cases h
 .cases h;exact ⟨{ dy with y:=⟨.l t,([])⟩ },⟨rfl,rfl⟩,by rfl,rfl,.inl ⟨rfl,λM w=>⟨cg.nil,trivial⟩,λr h=>h⟩⟩
 .cases h
theorem Vh(j:Sat (ab ρ T G++(ab ρ T H++Φ)) w):(t:Ty)->(vs:List AV)->(o:v7)->(B:wi)->(d:DR t)->(N:List Nm)->G2 G H t vs o B=some d->NB ρ B N->
  ∃us N' I,vs=us++d.vs/\Rc t d.x (AV.al ρ us) o N I N' d.o/\NB ρ d.B N'/\gB (SI ρ T G H) d.S I
 | .i k,vs,o,B,d,N,h,hN=>by
  unfold G2 at h;split at h
  next R x us=>obtain ⟨z,y⟩:=aI h;have:=nY z;subst this;cases y;exact ⟨[.int k x],N,[],rfl,⟨by simp [AV.al,AV.val],rfl,rfl,rfl⟩,hN,.nil⟩
  .cases h
 | .bo,vs,o,B,d,N,h,hN=>by
  unfold G2 at h;split at h
  next x us=>cases h;exact ⟨[.bool x],N,[],rfl,⟨by simp [AV.al,AV.val],rfl,rfl,rfl⟩,hN,.nil⟩
  .cases h
 | .s,vs,o,B,d,N,h,hN=>by
  unfold G2 at h;split at h
  next x us=>cases h;exact ⟨[.str x],N,[],rfl,⟨by simp [AV.al,AV.val],rfl,rfl,rfl⟩,hN,.nil⟩
  .cases h
 | .un,vs,o,B,d,N,h,hN=>by
  cases h;exact ⟨[],N,[],rfl,⟨by simp [AV.al],rfl,rfl,rfl⟩,hN,.nil⟩
 | .n,vs,o,B,d,N,h,hN=>by cases h
 | .mp _ _,vs,o,B,d,N,h,hN=>by cases h
 | .p a b,vs,o,B,d,N,h,hN=>by
  unfold G2 at h;split at h
  .rename_i d1 z;split at h
   next d2 y=>cases h;obtain ⟨u,E,J,f,c,n1,Q⟩:=Vh j a vs o B d1 N z hN;obtain ⟨r,N2,F,O,K,M,P⟩:=Vh j b d1.vs d1.o d1.B d2 E y n1;refine ⟨u++r,N2,J++F,by rw [f,O,cb],?_,M,Q.append P⟩;rw [dp];exact ⟨_,_,E,J,F,d1.o,c,K,rfl,rfl⟩
   .cases h
  .cases h
 | .l t,vs,o,B,d,N,h,hN=>by
  unfold G2 at h;split at h
  .rename_i v us;split at h
   .split at h
    next q g=>cases h;obtain ⟨a,n1,f,c⟩:=U0 j g;refine ⟨[v],N++[a],_,rfl,⟨a,by simp [AV.al];rw [f],rfl,.inl ⟨rfl,rfl⟩⟩,hN.append (.cons n1 .nil),.cons ⟨rfl,c⟩ .nil⟩
    .cases h
   .rename_i e L;split at h
    next q g=>cases h;obtain ⟨a,n1,f,m,c⟩:=UT j g;refine ⟨[v],N++[a],_,rfl,⟨a,by grind [AV.al],rfl,.inr ⟨e,rfl,rfl,m⟩⟩,hN.append (.cons n1 .nil),.cons ⟨rfl,c⟩ .nil⟩
    .cases h
   .cases h
  .cases h
 | .ex,vs,o,B,d,N,h,hN=>by
  unfold G2 at h;split at h
  .rename_i D C A v us;split at h
   .split at h
    next q g=>cases h;obtain ⟨a,n1,f,c⟩:=U0 j g;refine ⟨[.int .i64 D,.int .i64 C,.int .i64 A,v],N++[a],_,rfl,⟨a,by simp only [AV.al];rw [f];rfl,rfl,.inl ⟨rfl,rfl⟩⟩,hN.append (.cons n1 .nil),.cons ⟨rfl,c⟩ .nil⟩
    .cases h
   .rename_i e L;split at h
    next q g=>cases h;obtain ⟨a,n1,f,m,c⟩:=UT j g;refine ⟨[.int .i64 D,.int .i64 C,.int .i64 A,v],N++[a],_,rfl,⟨a,by simp only [AV.al];rw [f];rfl,rfl,.inr ⟨e,rfl,rfl,m⟩⟩,hN.append (.cons n1 .nil),.cons ⟨rfl,c⟩ .nil⟩
    .cases h
   .cases h
  .cases h
abbrev fj(ρ:ay)(X:List (Nat×List AV)):lP:=X.map λx=>(x.1,AV.al ρ x.2)
abbrev iB(ρ:ay)(fx:jv):Fx:=fx.map λq=>(q.1.val ρ,AV.al ρ q.2)
theorem aeB{fx:jv}:fxC (iB ρ fx)=AV.al ρ (JE fx):=by
 cases fx with
 |none=>simp [fxC,JE,AV.al]
 |some q=>rfl
theorem Oz{p:Pt}{a:List AV}:fx1 p (AV.al ρ a)=iB ρ (sQ p a):=by
 cases a with
 |nil=>rfl
 |cons u us=>
  unfold fx1 sQ;cases Yk p <;> simp [AV.al]
theorem ab2{b:Bool}{x:List AV}:AV.al ρ (aD b x [])=aD b (AV.al ρ x) []:=by grind [AV.al]
theorem Uy{fx:jv}:(iB ρ fx).isSome=fx.isSome:=by cases fx <;> rfl
theorem wY{fx:jv}{v:AV}(h:∀q,fx=some q->q.1.val ρ=v.val ρ):xN (iB ρ fx) (v.val ρ):=by
 intro p hp;cases fx with
 |none=>cases hp
 |some q=>grind
theorem Xj(a:Sat (ab ρ T G++(ab ρ T H++Φ)) w){p:Pt}{v:AV}:(aD (abY p) v (yU G H v)).val ρ=v.val ρ:=by grind [abY,Zk]
theorem WO{l:List AV}:(AV.al ρ l).head? =l.head?.map (AV.val ρ):=by cases l <;> simp [AV.al]
theorem Mp{l:List AV}:(AV.al ρ l).tail=AV.al ρ l.tail:=by cases l <;> simp [AV.al]
mutual
theorem Ov(L:Sat (ab ρ T G++(ab ρ T H++Φ)) w):(p:Pt)->(v:AV)->(fx:jv)->(y:Option AV)->(B:wi)->(r:MR)->(N:List Nm)->mt G H p v fx y B=some r->NB ρ B N->(∀q,fx=some q->q.1.val ρ=v.val ρ)->
  ∃F I,Sem p (v.val ρ) (iB ρ fx) (y.map (AV.val ρ)) N r.D I (fj ρ r.X) F/\NB ρ r.B F/\gB (SI ρ T G H) r.S I
 | .int k,v,fx,y,B,r,N,h,hN,hf=>by
  unfold mt at h;split at h
  next k' x=>obtain ⟨g,i⟩:=aI h;have:=nY g;subst this;cases i;exact ⟨N,[],⟨x,by simp only [AV.val],rfl,rfl,rfl,rfl⟩,hN,.nil⟩
  .cases h
 | .bool,v,fx,y,B,r,N,h,hN,hf=>by
  unfold mt at h;split at h
  next x=>cases h;exact ⟨N,[],⟨x,by simp only [AV.val],rfl,rfl,rfl,rfl⟩,hN,.nil⟩
  .cases h
 | .str,v,fx,y,B,r,N,h,hN,hf=>by
  unfold mt at h;split at h
  next x=>cases h;exact ⟨N,[],⟨x,by simp only [AV.val],rfl,rfl,rfl,rfl⟩,hN,.nil⟩
  .cases h
 | .sli t,v,fx,y,B,r,N,h,hN,hf=>by
  unfold mt at h;split at h
  next q K=>cases h;obtain ⟨a,n1,C,A⟩:=U0 L K;exact ⟨N++[a],_,⟨a,q.2.2,C,rfl,rfl,rfl,rfl⟩,hN.append (.cons n1 .nil),.cons ⟨rfl,A⟩ .nil⟩
  .cases h
 | .own t e m,v,fx,y,B,r,N,h,hN,hf=>by
  unfold mt at h;split at h
  next q K=>cases h;obtain ⟨a,n1,C,y1,A⟩:=UT L K;exact ⟨N++[a],_,⟨a,q.2.2,C,wY hf,rfl,rfl,rfl,rfl,y1⟩,hN.append (.cons n1 .nil),.cons ⟨rfl,A⟩ .nil⟩
  .cases h
 | .slr n,v,fx,y,B,r,N,h,hN,hf=>by
  unfold mt at h;split at h
  next j=>obtain ⟨g,i⟩:=aI h;cases i;obtain ⟨a,z,O,a3⟩:=hN.at_ g;exact ⟨N,[],⟨a,z,by simp only [AV.val];rw [a3],rfl,rfl,rfl,rfl⟩,hN,.nil⟩
  .cases h
 | .bx t off m vs,v,fx,y,B,r,N,h,hN,hf=>by
  unfold mt at h;split at h
  .rename_i j P;obtain ⟨g,i⟩:=aI h;have C:=b0 g;subst C;split at i
   .rename_i s E t' cs J;obtain ⟨h3,Z⟩:=aI i;have e2:=b0 h3;subst e2;split at Z
    next q K=>cases Z;obtain ⟨R,Q⟩:=bX J;have:E=j:=b0 Q;subst this;obtain ⟨F,I,A,n1,z⟩:=BM L vs cs [] (JE fx) (B++[some E]) q (N++[ρ E]) K (.inl rfl) (hN.append (.cons ⟨rfl,rfl,rfl⟩ .nil));refine ⟨F,_,⟨ρ E,AV.al ρ cs,I,fj ρ q.X,by simp only [AV.val],wY hf,by rw [aeB];simpa only [AV.al] using A,rfl,?_⟩,n1,.cons ⟨rfl,.inr ⟨_,R,bW.refl,(λh=>by cases h),λ_=>bW.refl⟩⟩ z⟩;rw [<-hN.length];cases m <;> simp [fj]
    .cases Z
   .cases i
  .cases h
 | .ptr n off,v,fx,y,B,r,N,h,hN,hf=>by
  unfold mt at h;split at h
  next j P=>obtain ⟨g,i⟩:=aI h;simp only [ar] at g;cases i;have C:=b0 g.1;subst C;obtain ⟨a,z,O,a3⟩:=hN.at_ g.2;exact ⟨N,[],⟨a,z,by simp only [AV.val];rw [O],rfl,rfl,rfl,rfl⟩,hN,.nil⟩
  .cases h
 | .mp k u m,v,fx,y,B,r,N,h,hN,hf=>by
  unfold mt at h;split at h
  .rename_i j;split at h
   .rename_i s E k' u' d J;split at h
    next d' hd=>cases h;have:=cm.Oo hd;cases this;obtain ⟨R,Q⟩:=bX J;have:E=j:=b0 Q;subst this;exact ⟨N++[ρ E],_,⟨ρ E,d',by simp only [AV.val],wY hf,rfl,rfl,rfl,rfl⟩,hN.append (.cons ⟨rfl,rfl,rfl⟩ .nil),.cons ⟨rfl,.inr ⟨_,R,bW.refl,(λh=>by cases h),λ_=>bW.refl⟩⟩ .nil⟩
    .cases h
   .cases h
  .cases h;exact ⟨N++[dy],_,⟨dy,none,by simp only [AV.val];rfl,wY hf,rfl,rfl,rfl,rfl⟩,hN.append (.cons ⟨rfl,rfl⟩ .nil),.cons ⟨rfl,.inl ⟨rfl,λM w=>sD.nil,λr h=>h⟩⟩ .nil⟩
  .cases h
 | .it,v,fx,y,B,r,N,h,hN,hf=>by
  unfold mt at h;split at h
  .rename_i j;split at h
   next s E x p J=>cases h;obtain ⟨R,Q⟩:=bX J;have:E=j:=b0 Q;subst this;exact ⟨N++[ρ E],_,⟨ρ E,x,p,by simp only [AV.val],wY hf,rfl,rfl,rfl,rfl⟩,hN.append (.cons ⟨rfl,rfl,rfl⟩ .nil),.cons ⟨rfl,.inr ⟨_,R,bW.refl,(λh=>by cases h),λ_=>bW.refl⟩⟩ .nil⟩
   .cases h
  .cases h
 | .agg l,v,fx,y,B,r,N,h,hN,hf=>by
  unfold mt at h;split at h
  next vs=>obtain ⟨_,h⟩:=aI h;obtain ⟨F,I,A,n1,z⟩:=BM L l vs (aD fx.isSome vs []) [] B r N h (by cases fx <;> first|exact .inl rfl|exact .inr rfl) hN;exact ⟨F,I,⟨AV.al ρ vs,by simp only [AV.val],wY hf,by rw [Uy,<-ab2];simpa only [AV.al] using A⟩,n1,z⟩
  .cases h
 | .cW l,v,fx,y,B,r,N,h,hN,hf=>by
  unfold mt at h;split at h
  next vs=>obtain ⟨F,I,A,n1,z⟩:=BM L l vs [] [] B r N h (.inl rfl) hN;exact ⟨F,I,⟨AV.al ρ vs,by simp only [AV.val],by simpa only [AV.al] using A⟩,n1,z⟩
  .cases h
 | .fn f a b,v,fx,y,B,r,N,h,hN,hf=>by
  unfold mt at h;split at h
  .rename_i f' a' b';obtain ⟨g,i⟩:=aI h;simp only [ar] at g;have C:=b0 g.1;subst C;split at i
   .rename_i U Y;split at i
    next V W=>cases i;obtain ⟨N1,I1,A,n1,z⟩:=BM L a a' [] [] B U N Y (.inl rfl) hN;obtain ⟨N2,I2,s2,n2,O⟩:=BM L b b' (aD fx.isSome b' []) [] U.B V N1 W (by cases fx <;> first|exact .inl rfl|exact .inr rfl) n1;exact ⟨N2,I1++I2,⟨AV.al ρ a',AV.al ρ b',U.D,V.D,I1,I2,fj ρ U.X,fj ρ V.X,N1,by simp only [AV.val],wY hf,by simpa only [AV.al] using A,by rw [Uy,<-ab2];simpa only [AV.al] using s2,rfl,rfl,by simp [fj]⟩,n2,z.append O⟩
    .cases i
   .cases i
  .cases h
 | .ifc t p,v,fx,y,B,r,N,h,hN,hf=>by
  unfold mt at h;split at h
  .rename_i t' u;obtain ⟨g,i⟩:=aI h;simp only [ar] at g;have C:=b0 g.1;subst C;obtain ⟨F,I,A,n1,z⟩:=Ov L p u (sQ p (aD fx.isSome [u] [])) none B r N i hN (λq K=>by
    cases fx with
    |none=>cases K
    |some f=>
     have K:aD (Yk p) none (some (u,[]))=some q:=K;obtain ⟨_,h3⟩:=Oh K;cases h3;rfl)
   refine ⟨F,I,⟨u.val ρ,by simp only [AV.val],wY hf,?_⟩,n1,z⟩;have e2:(aD (iB ρ fx).isSome [u.val ρ] []:za)=AV.al ρ (aD fx.isSome [u] []):=by
    cases fx
    .show ([]:za)=AV.al ρ [];simp only [AV.al]
    .show [u.val ρ]=AV.al ρ [u];simp only [AV.al]
   rw [e2,Oz];exact A
  .cases h
 | .nK c,v,fx,y,B,r,N,h,hN,hf=>by
  unfold mt at h;obtain ⟨g,i⟩:=aI h;cases i;exact ⟨N,[],⟨⟨AV.JN c v g,λρ'=>(AV.JN (ρ':=ρ) (ρ:=ρ') c v g).symm.trans (AV.JN c v g)⟩,rfl,rfl,rfl,rfl⟩,hN,.nil⟩
 | .dat t o,v,fx,y,B,r,N,h,hN,hf=>by
  unfold mt at h;split at h
  .rename_i cs;split at h
   next x o' B' S hd=>cases h;obtain ⟨us,F,I,C,A,n1,z⟩:=Vh L t cs o B _ N hd hN;simp only [j5] at C;subst C;exact ⟨F,I,⟨_,x,o',by simp only [AV.val],rfl,A,rfl⟩,n1,z⟩
   .cases h
  .cases h
 | .ifn,v,fx,y,B,r,N,h,hN,hf=>by
  unfold mt at h;split at h
  next t=>cases h;exact ⟨N,[],⟨t,by simp only [AV.val,AV.al],rfl,rfl,rfl,rfl⟩,hN,.nil⟩
  .cases h
 | .sfp,v,fx,y,B,r,N,h,hN,hf=>by
  have hl:=hN.length;unfold mt at h;split at h
  .split at h
   next o ho=>cases h;obtain ⟨a,g,_⟩:=hN.get ho;exact ⟨N,[],⟨a,false,by rw [<-hl];exact g,by simp only [AV.val,Db,b7],rfl,rfl,rfl,rfl⟩,hN,.nil⟩
   .cases h
  next j f=>obtain ⟨g,i⟩:=aI h;cases i;obtain ⟨a,z,O,_⟩:=hN.at_ g;exact ⟨N,[],⟨a,f,by rw [<-hl];exact z,by simp only [AV.val];rw [O],rfl,rfl,rfl,rfl⟩,hN,.nil⟩
  next j=>obtain ⟨g,i⟩:=aI h;cases i;obtain ⟨a,z,O,_⟩:=hN.at_ g;exact ⟨N,[],⟨a,true,by rw [<-hl];exact z,by simp only [AV.val,Db,ca];rw [O],rfl,rfl,rfl,rfl⟩,hN,.nil⟩
  .cases h
 | .same,v,fx,y,B,r,N,h,hN,hf=>by
  unfold mt at h;obtain ⟨g,i⟩:=aI h;cases i;refine ⟨N,[],⟨?_,rfl,rfl,rfl,rfl⟩,hN,.nil⟩;unfold nvs at g;split at g
  next q=>exact .inl ⟨_,rfl,(hf q rfl).symm⟩
  .split at g
   .split at g
    .rw [b0 g];exact .inr ⟨rfl,rfl⟩
    .cases g
   .cases g
theorem BM(d:Sat (ab ρ T G++(ab ρ T H++Φ)) w):(l:List Pt)->(vs:List AV)->(a:List AV)->(b:List AV)->(B:wi)->(r:MR)->(N:List Nm)->Ig G H l vs a b B=some r->(a=[]\/a=vs)->NB ρ B N->
  ∃N' I,xQ l (AV.al ρ vs) (AV.al ρ a) (AV.al ρ b) N r.D I (fj ρ r.X) N'/\NB ρ r.B N'/\gB (SI ρ T G H) r.S I
 |[],vs,a,b,B,r,N,h,hfx,hN=>by
  unfold Ig at h;split at h
  .cases h;exact ⟨N,[],⟨by simp [AV.al],rfl,rfl,rfl,rfl⟩,hN,.nil⟩
  .cases h
 |p::l,vs,a,b,B,r,N,h,hfx,hN=>by
  unfold Ig at h;split at h
  .rename_i v us;split at h
   .rename_i c g;split at h
    .rename_i e f;cases h;obtain ⟨j,m,n,n1,u⟩:=Ov d p _ (sQ p a) b.head? B c N g hN (λq i=>by
      rcases hfx with rfl|rfl
      .cases i
      .obtain ⟨_,s⟩:=Oh i;cases s;exact (Xj d).symm)
     obtain ⟨N2,k,x,o,t⟩:=BM d l us a.tail b.tail c.B e j f (by rcases hfx with rfl|rfl <;> first|exact .inl rfl|exact .inr rfl) n1;rw [Xj d] at n;refine ⟨N2,m++k,⟨v.val ρ,AV.al ρ us,c.D,e.D,m,k,fj ρ c.X,fj ρ e.X,j,by simp [AV.al],by grind [WO,Oz],by grind [Mp],rfl,rfl,by simp ⟩,o,u.append t⟩
    .cases h
   .cases h
  .cases h
end
theorem Ru(m:Sat (ab ρ T G++(ab ρ T H++Φ)) w){z:Nat->Option AV}{fix:Nat->jv}:(l:List (Bool×Nat×Pt))->(B:wi)->(r:MR)->(N:List Nm)->mtV G H z fix l B=some r->NB ρ B N->
  ∃N' I,G6 (λi=>iB ρ (fix i)) (λi=>(z i).map (AV.val ρ)) l N r.D I (fj ρ r.X) N'/\NB ρ r.B N'/\gB (SI ρ T G H) r.S I
 |[],B,r,N,h,hN=>by
  cases h;exact ⟨N,[],⟨rfl,rfl,rfl,rfl⟩,hN,.nil⟩
 |(b,t,p)::l,B,r,N,h,hN=>by
  unfold mtV at h;split at h
  .rename_i v A;split at h
   .rename_i a c;split at h
    .rename_i d e;cases h;cases b
     .obtain ⟨g,k,y,n1,x⟩:=Ov m p v none none B a N c hN (λq s=>by cases s);obtain ⟨N2,j,n,o,u⟩:=Ru m l a.B d g e n1;exact ⟨N2,k++j,⟨v.val ρ,a.D,d.D,k,j,fj ρ a.X,fj ρ d.X,g,by grind,y,n,rfl,rfl,by simp ⟩,o,x.append u⟩
     .cases f:fix t with
      |none=>grind
      |some q=>
       rw [f] at A c;cases A;obtain ⟨g,k,y,n1,x⟩:=Ov m p q.1 (some q) none B a N c hN (λq' s=>by cases s;rfl);obtain ⟨N2,j,n,o,u⟩:=Ru m l a.B d g e n1;exact ⟨N2,k++j,⟨q.1.val ρ,a.D,d.D,k,j,fj ρ a.X,fj ρ d.X,g,by simp only [f];rfl,by grind,n,rfl,rfl,by simp ⟩,o,x.append u⟩
    .cases h
   .cases h
  .cases h
end
variable {A N : List Nm} {a : Nm} {fx : jv}
structure FR where
 v:AV
 R:List (Bool×Row)
 k:Nat
 D:List cm
 X:List (Nat×List AV)
structure FRs where
 vs:List AV
 R:List (Bool×Row)
 k:Nat
 D:List cm
 X:List (Nat×List AV)
def iK(t:Ty)(D:List cm):t.T:=match D with
 |d::_=>(d.as t).getD t.ue
 |[]=>t.ue
theorem ux{t:Ty}{x:t.T}{D:List cm}:iK t (⟨t,x⟩::D)=x:=by simp [iK,cm.apK]
theorem apQ{k:IntKind}{x:Int}{D:List cm}:iK (.i k) (⟨.i k,x⟩::D)=x:=ux (t:= .i k)
theorem arn{x:Bool}{D:List cm}:iK .bo (⟨.bo,x⟩::D)=x:=ux (t:= .bo)
theorem ajM{x:aE}{D:List cm}:iK .s (⟨.s,x⟩::D)=x:=ux (t:= .s)
theorem ahX{x:Nat}{D:List cm}:iK .n (⟨.n,x⟩::D)=x:=ux (t:= .n)
theorem ajq{t:Ty}{x:List t.T}{D:List cm}:iK (.l t) (⟨.l t,x⟩::D)=x:=ux (t:= .l t)
theorem an2{k v:Ty}{x:Option (List (k.T×v.T))}{D:List cm}:iK (.mp k v) (⟨.mp k v,x⟩::D)=x:=ux (t:= .mp k v)
structure LR where
 vs:List AV
 R:List (Bool×Row)
 k:Nat
 o:v7
def jg(nm:Nat->Nat):(t:Ty)->t.T->Nat->v7->LR
 | .i k,x,n,o=>⟨[.int k x],[],n,o⟩
 | .bo,x,n,o=>⟨[.bool x],[],n,o⟩
 | .s,x,n,o=>⟨[.str x],[],n,o⟩
 | .un,_,n,o=>⟨[],[],n,o⟩
 | .p a b,x,n,o=>match jg nm a x.1 n o with
  |⟨u,p,n,o⟩=>match jg nm b x.2 n o with
   |⟨v,q,n,o⟩=>⟨u++v,p++q,n,o⟩
 | .l t,x,n,o=>match o with
  |none::o=>⟨[.sl (nm n)],[(false,.sli none (nm n) t x false)],n+1,o⟩
  |some e::o=>⟨[.sl (nm n)],[(ow e,.own (nm n) t (oe e) x (nm n))],n+1,o⟩
  |[]=>⟨[],[],n,[]⟩
 | .ex,x,n,o=>match o with
  |none::o=>⟨[.int .i64 x.op,.int .i64 x.n,.int .i64 x.at_,.sl (nm n)],[(false,.sli none (nm n) .ex x.l false)],n+1,o⟩
  |some e::o=>⟨[.int .i64 x.op,.int .i64 x.n,.int .i64 x.at_,.sl (nm n)],[(ow e,.own (nm n) .ex (oe e) x.l (nm n))],n+1,o⟩
  |[]=>⟨[],[],n,[]⟩
 |_,_,n,o=>⟨[],[],n,o⟩
def nmS(nm:Nat->Nat)(fx:jv)(n:Nat):Nat:=match fx with
 |some (.sl j,_)=>j
 |_=>nm n
def Il(nm:Nat->Nat)(fx:jv)(n:Nat):Nat:=match fx with
 |some (.ptr j _,_)=>j
 |_=>nm n
def nmM(nm:Nat->Nat)(fx:jv)(n:Nat):Nat:=match fx with
 |some (.mp j,_)=>j
 |_=>nm n
def anv(fx:jv)(sm:Option AV):AV:=match fx with
 |some p=>p.1
 |none=>match sm with
  |some x=>x
  |none=> .bool false
def reS(id:Nat):List Pt->List AV->List AV
 | .sfp::_,.sfp _ f::us=> .sfp id f::us
 |_,us=>us
mutual
def fill(nm:Nat->Nat):Pt->jv->Option AV->Nat->List cm->FR
 | .int k,_,_,n,D=>⟨.int k (iK (.i k) D),[],n,D.tail,[]⟩
 | .bool,_,_,n,D=>⟨.bool (iK .bo D),[],n,D.tail,[]⟩
 | .str,_,_,n,D=>⟨.str (iK .s D),[],n,D.tail,[]⟩
 | .sli t,_,_,n,D=>⟨.sl (nm n),[(false,.sli none (nm n) t (iK (.l t) D) false)],n+1,D.tail,[]⟩
 | .own t e m,fx,_,n,D=>⟨.sl (nmS nm fx n),[(m,.own (nmS nm fx n) t e (iK (.l t) D) (nm n))],n+1,D.tail,[]⟩
 | .slr k,_,_,n,D=>⟨.sl (nm k),[],n,D,[]⟩
 | .bx t off m vs,fx,_,n,D=>match fv nm vs [] (JE fx) (n+1) D with
  |⟨cs,R,k,D,X⟩=>⟨.ptr (Il nm fx n) off,(m,.box (Il nm fx n) t (reS (Il nm fx n) vs cs))::R,k,D,(aD m [(n,reS (Il nm fx n) vs cs)] [])++X⟩
 | .ptr k off,_,_,n,D=>⟨.ptr (nm k) off,[],n,D,[]⟩
 | .mp k v m,fx,_,n,D=>⟨.mp (nmM nm fx n),[(m,.mp (nmM nm fx n) k v (iK (.mp k v) D))],n+1,D.tail,[]⟩
 | .it,fx,_,n,D=>⟨.ptr (Il nm fx n) 0,[(true,.it (Il nm fx n) (iK .s D) (iK .n D.tail))],n+1,D.tail.tail,[]⟩
 | .agg l,fx,_,n,D=>match fv nm l (ja fx) [] n D with
  |⟨cs,R,k,D,X⟩=>⟨.agg cs,R,k,D,X⟩
 | .cW l,_,_,n,D=>match fv nm l [] [] n D with
  |⟨cs,R,k,D,X⟩=>⟨.tuple cs,R,k,D,X⟩
 | .fn f a b,fx,_,n,D=>match fv nm a [] [] n D with
  |⟨cs,R,k,D,X⟩=>match fv nm b (ja fx) [] k D with
   |⟨cs',R',k,D,X'⟩=>⟨.fn f cs cs',R++R',k,D,X++X'⟩
 | .ifc t p,fx,_,n,D=>match fill nm p (sQ p (ja fx)) none n D with
  |⟨v,R,k,D,X⟩=>⟨.ifc t v,R,k,D,X⟩
 | .nK v,_,_,n,D=>⟨v,[],n,D,[]⟩
 | .dat t o,_,_,n,D=>match jg nm t (iK t D) n o with
  |⟨cs,R,k,_⟩=>⟨.agg cs,R,k,D.tail,[]⟩
 | .ifn,_,_,n,D=>⟨.ifc (iK .n D) (.agg []),[],n,D.tail,[]⟩
 | .sfp,_,_,n,D=>⟨.sfp (nm (n-1)) (iK .bo D),[],n,D.tail,[]⟩
 | .same,fx,sm,n,D=>⟨anv fx sm,[],n,D,[]⟩
def fv(nm:Nat->Nat):List Pt->List AV->List AV->Nat->List cm->FRs
 |[],_,_,n,D=>⟨[],[],n,D,[]⟩
 |p::l,fxs,sms,n,D=>match fill nm p (sQ p fxs) sms.head? n D with
  |⟨v,R,k,D,X⟩=>match fv nm l fxs.tail sms.tail k D with
   |⟨vs,R',k,D,X'⟩=>⟨v::vs,R++R',k,D,X++X'⟩
end
structure FV where
 E:aF
 R:List (Bool×Row)
 k:Nat
 D:List cm
def gI(nm:Nat->Nat)(fix:Nat->jv):List (Bool×Nat×Pt)->Nat->List cm->FV
 |[],n,D=>⟨[],[],n,D⟩
 |x::l,n,D=>match fill nm x.2.2 (aD x.1 (fix x.2.1) none) none n D with
  |⟨v,R,k,D,_⟩=>match gI nm fix l k D with
   |⟨E,R',k,D⟩=>⟨aD x.1 E ((x.2.1,none,v)::E),R++R',k,D⟩
def xZ(N N':List Nm):Prop:= ∃E,N'=N++E
theorem xZ.refl:xZ N N:=⟨[],by simp⟩
theorem xZ.trans{B C:List Nm}(h:xZ A B)(k:xZ B C):xZ A C:=by obtain ⟨E,rfl⟩:=h;obtain ⟨F,rfl⟩:=k;exact ⟨E++F,by simp⟩
theorem xZ.one:xZ N (N++[a]):=⟨[a],rfl⟩
theorem xZ.len{B:List Nm}(h:xZ A B):A.length<=B.length:=by obtain ⟨E,rfl⟩:=h;simp
theorem xZ.at_{B:List Nm}(h:xZ A B){i:Nat}{a:Nm}(ha:A[i]? =some a):B[i]? =some a:=by obtain ⟨E,rfl⟩:=h;rw [ec (List.getElem?_eq_some_iff.1 ha).1];exact ha
theorem DI:(t:Ty)->(x:t.T)->(cs:za)->(o:v7)->(N:List Nm)->(I:fX)->(c:List Nm)->(d:v7)->Rc t x cs o N I c d->xZ N c
 | .i _,_,_,_,_,_,_,_,h|.bo,_,_,_,_,_,_,_,h|.s,_,_,_,_,_,_,_,h|.un,_,_,_,_,_,_,_,h=>by obtain ⟨_,_,rfl,_⟩:=h;exact .refl
 | .n,_,_,_,_,_,_,_,h|.mp _ _,_,_,_,_,_,_,_,h=>h.elim
 | .p a b,x,cs,o,N,I,c,d,h=>by
  obtain ⟨c1,j,k,q,m,g,f,e,_⟩:=h;exact (DI a _ _ _ _ _ _ _ f).trans (DI b _ _ _ _ _ _ _ e)
 | .l t,x,cs,o,N,I,c,d,h=>by obtain ⟨a,_,rfl,_⟩:=h;exact .one
 | .ex,x,cs,o,N,I,c,d,h=>by obtain ⟨a,_,rfl,_⟩:=h;exact .one
mutual
theorem AZ:(p:Pt)->(v:Value)->(fx:Fx)->(i:Option Value)->(N:List Nm)->(D:List cm)->(I:fX)->(X:lP)->(g:List Nm)->Sem p v fx i N D I X g->xZ N g
 | .int _,v,fx,i,N,D,I,X,g,h|.bool,v,fx,i,N,D,I,X,g,h|.str,v,fx,i,N,D,I,X,g,h=>by obtain ⟨_,_,_,_,_,rfl⟩:=h;exact .refl
 | .sli t,v,fx,i,N,D,I,X,g,h=>by obtain ⟨a,l,_,_,_,_,rfl⟩:=h;exact .one
 | .own t e m,v,fx,i,N,D,I,X,g,h=>by obtain ⟨a,l,_,_,_,_,_,rfl,_⟩:=h;exact .one
 | .slr n,v,fx,i,N,D,I,X,g,h|.ptr n _,v,fx,i,N,D,I,X,g,h=>by obtain ⟨a,_,_,_,_,_,rfl⟩:=h;exact .refl
 | .bx t off m vs,v,fx,i,N,D,I,X,g,h=>by
  obtain ⟨a,cs,E,z,_,_,j,_⟩:=h;exact xZ.one.trans (oW vs _ _ _ _ _ _ _ _ j)
 | .mp k u m,v,fx,i,N,D,I,X,g,h=>by obtain ⟨a,d,_,_,_,_,_,rfl⟩:=h;exact .one
 | .it,v,fx,i,N,D,I,X,g,h=>by obtain ⟨a,s,p,_,_,_,_,_,rfl⟩:=h;exact .one
 | .agg l,v,fx,i,N,D,I,X,g,h=>by obtain ⟨cs,_,_,j⟩:=h;exact oW l _ _ _ _ _ _ _ _ j
 | .cW l,v,fx,i,N,D,I,X,g,h=>by obtain ⟨cs,_,j⟩:=h;exact oW l _ _ _ _ _ _ _ _ j
 | .fn f a b,v,fx,i,N,D,I,X,g,h=>by
  obtain ⟨us,vs,G,F,C,B,y,w,A,_,_,j,q,_⟩:=h;exact (oW a _ _ _ _ _ _ _ _ j).trans (oW b _ _ _ _ _ _ _ _ q)
 | .ifc t p,v,fx,i,N,D,I,X,g,h=>by obtain ⟨u,_,_,j⟩:=h;exact AZ p _ _ _ _ _ _ _ _ j
 | .nK c,v,fx,i,N,D,I,X,g,h=>by obtain ⟨_,_,_,_,rfl⟩:=h;exact .refl
 | .dat t o,v,fx,i,N,D,I,X,g,h=>by obtain ⟨cs,x,r,_,_,j,_⟩:=h;exact DI t _ _ _ _ _ _ _ j
 | .ifn,v,fx,i,N,D,I,X,g,h=>by obtain ⟨_,_,_,_,_,rfl⟩:=h;exact .refl
 | .sfp,v,fx,i,N,D,I,X,g,h=>by obtain ⟨_,_,_,_,_,_,_,rfl⟩:=h;exact .refl
 | .same,v,fx,i,N,D,I,X,g,h=>by obtain ⟨_,_,_,_,rfl⟩:=h;exact .refl
theorem oW:(l:List Pt)->(vs:za)->(b:za)->(a:za)->(N:List Nm)->(D:List cm)->(I:fX)->(X:lP)->(c:List Nm)->xQ l vs b a N D I X c->xZ N c
 |[],vs,b,a,N,D,I,X,c,h=>by obtain ⟨_,_,_,_,rfl⟩:=h;exact .refl
 |p::l,vs,b,a,N,D,I,X,c,h=>by obtain ⟨v,d,o,n,m,k,i,g,j,_,f,e,_⟩:=h;exact (AZ p _ _ _ _ _ _ _ _ f).trans (oW l _ _ _ _ _ _ _ _ e)
end
theorem P7{fix:Nat->Fx}{val:Nat->Option Value}:(l:List (Bool×Nat×Pt))->(N:List Nm)->(D:List cm)->(I:fX)->(X:lP)->(a:List Nm)->G6 fix val l N D I X a->xZ N a
 |[],N,D,I,X,a,h=>by obtain ⟨_,_,_,rfl⟩:=h;exact .refl
 |x::l,N,D,I,X,a,h=>by obtain ⟨v,k,j,i,g,e,d,f,_,c,b,_⟩:=h;exact (AZ _ _ _ _ _ _ _ _ _ c).trans (P7 l _ _ _ _ _ b)
def RwI(ρ:ay)(T:aB)(a:Bool×Row)(b:Bool×Item):Prop:=a.1=b.1/\bW b.2 (a.2.item ρ T)/\bW (a.2.item ρ T) b.2
section
variable {ρ : ay} {T : aB} {nm : Nat -> Nat} {n0 : Nat}
theorem aos{id:Nat}{vs:List Pt}{us:List AV}{cs d:za}{q:List Nm}{D:List cm}{I:fX}{X:lP}(h:xQ vs cs [] d (N++[a]) D I X q)(k:(ρ id).b=a.b)(c:AV.al ρ us=cs):AV.al ρ (reS id vs us)=cs:=by
 unfold reS;split
 .rename_i l j f i;obtain ⟨v,g,y,x,w,u,s,r,t,rfl,n,_⟩:=h;obtain ⟨p,o,ha,rfl,_⟩:=n;have e:p=a:=by simpa using ha.symm
  subst e;simp only [AV.al,AV.val,o5] at c ⊢;refine ⟨?_,c.2⟩;rw [k];have m:=c.1;cases f <;> cases o <;> simp [Db] at m ⊢
 .exact c
def ym(ρ:ay)(nm:Nat->Nat)(n0:Nat)(N:List Nm):Prop:= ∀i a,N[i]? =some a->(ρ (nm i)).b=a.b/\(ρ (nm i)).v=a.v/\(ρ (nm i)).m=a.m/\(n0<=i->(ρ (nm i)).y=a.y)
theorem ym.pre{A B:List Nm}(h:ym ρ nm n0 B)(k:xZ A B):ym ρ nm n0 A:=λi a ha=>h i a (k.at_ ha)
theorem ym.last(h:ym ρ nm n0 (A++[a])):(ρ (nm A.length)).b=a.b/\(ρ (nm A.length)).v=a.v/\(ρ (nm A.length)).m=a.m/\(n0<=A.length->(ρ (nm A.length)).y=a.y):=h _ _ (by simp)
theorem abX{t:Ty}{l:List t.T}{j:Nat}(h:(ρ j).v=a.v):bW (NC true t.rep a.v l false) ((Row.sli none j t l false).item ρ T)/\bW ((Row.sli none j t l false).item ρ T) (NC true t.rep a.v l false):=by simp only [Row.item,h];exact ⟨⟨λ_ h=>h,λM w h _=>h rfl⟩,⟨λ_ h=>h,λM w h _=>h aB.get_none⟩⟩
theorem abL{t:Ty}{e:TypeId}{l:List t.T}{j b:Nat}(h:(ρ j).v=a.v)(c:(ρ b).y=⟨.l t,l⟩):bW (uf t.rep e a.v l True) ((Row.own j t e l b).item ρ T)/\bW ((Row.own j t e l b).item ρ T) (uf t.rep e a.v l True):=by simp only [Row.item,h];exact ⟨⟨λ_ h=>h,λM w h=>⟨h.1,c⟩⟩,⟨λ_ h=>h,λM w h=>⟨h.1,trivial⟩⟩⟩
theorem Wb:(t:Ty)->(x:t.T)->(cs:za)->(o:v7)->(N:List Nm)->(I:fX)->(c:List Nm)->(d:v7)->Rc t x cs o N I c d->ym ρ nm n0 c->n0<=N.length->
  AV.al ρ (jg nm t x N.length o).vs=cs/\(jg nm t x N.length o).k=c.length/\(jg nm t x N.length o).o=d/\gB (RwI ρ T) (jg nm t x N.length o).R I
 | .i k,x,cs,o,N,I,c,d,h,hn,hle=>by
  obtain ⟨rfl,rfl,rfl,rfl⟩:=h;exact ⟨by simp only [jg,AV.al,AV.val],rfl,rfl,.nil⟩
 | .bo,x,cs,o,N,I,c,d,h,hn,hle=>by
  obtain ⟨rfl,rfl,rfl,rfl⟩:=h;exact ⟨by simp only [jg,AV.al,AV.val],rfl,rfl,.nil⟩
 | .s,x,cs,o,N,I,c,d,h,hn,hle=>by
  obtain ⟨rfl,rfl,rfl,rfl⟩:=h;exact ⟨by simp only [jg,AV.al,AV.val],rfl,rfl,.nil⟩
 | .un,x,cs,o,N,I,c,d,h,hn,hle=>by
  obtain ⟨rfl,rfl,rfl,rfl⟩:=h;exact ⟨by simp only [jg,AV.al],rfl,rfl,.nil⟩
 | .n,x,cs,o,N,I,c,d,h,hn,hle=>h.elim
 | .mp _ _,x,cs,o,N,I,c,d,h,hn,hle=>h.elim
 | .p a b,x,cs,o,N,I,c,d,h,hn,hle=>by
  obtain ⟨c1,F,z,K,J,A,C,B,rfl,rfl⟩:=h;have p2:=DI b _ _ _ _ _ _ _ B;obtain ⟨y,w,v,r⟩:=Wb a x.1 c1 o N K z A C (hn.pre p2) hle;obtain ⟨q,m,j,g⟩:=Wb b x.2 F A z J c d B hn (dx hle (DI a _ _ _ _ _ _ _ C).len);unfold jg;generalize jg nm a x.1 N.length o=H at y w v r;obtain ⟨u,p,n,E⟩:=H;simp only at y w v r;subst w;subst v;dsimp only;generalize jg nm b x.2 z.length E=G at q m j g;obtain ⟨L,p2,M,D⟩:=G;simp only at q m j g;dsimp only;exact ⟨by rw [dp,y,q],m,j,r.append g⟩
 | .l t,x,cs,o,N,I,c,d,h,hn,hle=>by
  obtain ⟨a,rfl,rfl,h⟩:=h;have hl:=hn.last;rcases h with ⟨rfl,rfl⟩|⟨e,rfl,rfl,f⟩
  .exact ⟨by simp only [jg,AV.al,AV.val,hl.2.1],by simp [jg],rfl,.cons ⟨rfl,abX hl.2.1⟩ .nil⟩
  .exact ⟨by simp only [jg,AV.al,AV.val,hl.2.1],by simp [jg],rfl,.cons ⟨rfl,abL hl.2.1 (by rw [hl.2.2.2 hle];exact f)⟩ .nil⟩
 | .ex,x,cs,o,N,I,c,d,h,hn,hle=>by
  obtain ⟨a,rfl,rfl,h⟩:=h;have hl:=hn.last;rcases h with ⟨rfl,rfl⟩|⟨e,rfl,rfl,f⟩
  .exact ⟨by simp only [jg,AV.al,AV.val,hl.2.1],by simp [jg],rfl,.cons ⟨rfl,abX (t:= .ex) hl.2.1⟩ .nil⟩
  .exact ⟨by simp only [jg,AV.al,AV.val,hl.2.1],by simp [jg],rfl,.cons ⟨rfl,abL (t:= .ex) hl.2.1 (by rw [hl.2.2.2 hle];exact f)⟩ .nil⟩
theorem aqs{p q:jN}(h:sl p=sl q):p=q:=by obtain ⟨a,b,c⟩:=p;obtain ⟨f,e,d⟩:=q;simp only [sl,Value.slice.injEq] at h;rw [h.1,h.2.1,h.2.2]
theorem arb(hn:ym ρ nm n0 (N++[a]))(b:xN (iB ρ fx) (sl a.v)):(ρ (nmS nm fx N.length)).v=a.v:=by
 unfold nmS;split
 .have:=b _ rfl;simp only [AV.val] at this;exact (aqs this).symm
 .rw [hn.last.2.1]
theorem ahT{c:Nat}(hn:(ρ (nm N.length)).b=a.b)(d:xN (iB ρ fx) (.pointer (some ⟨a.b,c,none⟩))):(ρ (Il nm fx N.length)).b=a.b:=by
 unfold Il;split
 .have:=d _ rfl;simp only [AV.val,Value.pointer.injEq,ej,Addr.mk.injEq] at this;exact this.1.symm
 .rw [hn]
theorem apY(hn:ym ρ nm n0 (N++[a]))(b:xN (iB ρ fx) (.map a.m)):(ρ (nmM nm fx N.length)).m=a.m:=by
 unfold nmM;split
 .have:=b _ rfl;simp only [AV.val,Value.map.injEq] at this;exact this.symm
 .rw [hn.last.2.2.1]
theorem HQ(p:Pt):ud p none=true:=by cases p <;> rfl
theorem Zq(p:Pt)(a:List AV):ud p (sQ p a)=true:=by
 unfold sQ;cases a with
 |nil=>exact HQ p
 |cons u us=>cases p <;> rfl
theorem ajU{l:List Pt}{cs:za}(a:ud (.agg l) fx=true)(b:xN (iB ρ fx) (.agg cs.toArray)):AV.al ρ (ja fx)=aD (iB ρ fx).isSome cs []:=by
 cases fx with
 |none=>rfl
 |some q=>
  obtain ⟨v,d⟩:=q;cases v <;> first|(cases a;done)|skip;have:=b _ rfl;simp only [AV.val,Value.agg.injEq] at this;show AV.al ρ (ja (some (_,_)))=cs;simpa [ja] using this.symm
theorem apn{f:FuncId}{a b:List Pt}{us vs:za}(c:ud (.fn f a b) fx=true)(e:xN (iB ρ fx) (.func (.func f) us.toArray vs.toArray)):AV.al ρ (ja fx)=aD (iB ρ fx).isSome vs []:=by
 cases fx with
 |none=>rfl
 |some q=>
  obtain ⟨v,d⟩:=q;cases v <;> first|(cases c;done)|skip;have:=e _ rfl;simp only [AV.val,Value.func.injEq] at this;show AV.al ρ (ja (some (_,_)))=vs;simpa [ja] using this.2.2.symm
theorem alj{t:TypeId}{p:Pt}{u:Value}(a:ud (.ifc t p) fx=true)(b:xN (iB ρ fx) (.iface t u)):AV.al ρ (ja fx)=aD (iB ρ fx).isSome [u] []:=by
 cases fx with
 |none=>rfl
 |some q=>
  obtain ⟨v,d⟩:=q;cases v <;> first|(cases a;done)|skip;have:=b _ rfl;simp only [AV.val,Value.iface.injEq] at this;show AV.al ρ (ja (some (_,_)))=[u];simp [ja,AV.al,this.2]
mutual
theorem H9:(p:Pt)->(v:Value)->(fx:jv)->(j:Option AV)->(N:List Nm)->(D:List cm)->(I:fX)->(X:lP)->(i:List Nm)->Sem p v (iB ρ fx) (j.map (AV.val ρ)) N D I X i->ud p fx=true->ym ρ nm n0 i->n0<=N.length->(g:List cm)->
  (fill nm p fx j N.length (D++g)).v.val ρ=v/\(fill nm p fx j N.length (D++g)).k=i.length/\(fill nm p fx j N.length (D++g)).D=g/\X=fj ρ (fill nm p fx j N.length (D++g)).X/\gB (RwI ρ T) (fill nm p fx j N.length (D++g)).R I
 | .int k,v,fx,j,N,D,I,X,i,h,hg,hn,hle,g=>by
  obtain ⟨x,rfl,rfl,rfl,rfl,rfl⟩:=h;exact ⟨by simp only [fill,qH,apQ,AV.val],rfl,rfl,rfl,.nil⟩
 | .bool,v,fx,j,N,D,I,X,i,h,hg,hn,hle,g=>by
  obtain ⟨x,rfl,rfl,rfl,rfl,rfl⟩:=h;exact ⟨by simp only [fill,qH,arn,AV.val],rfl,rfl,rfl,.nil⟩
 | .str,v,fx,j,N,D,I,X,i,h,hg,hn,hle,g=>by
  obtain ⟨x,rfl,rfl,rfl,rfl,rfl⟩:=h;exact ⟨by simp only [fill,qH,ajM,AV.val],rfl,rfl,rfl,.nil⟩
 | .sli t,v,fx,j,N,D,I,X,i,h,hg,hn,hle,g=>by
  obtain ⟨a,l,rfl,rfl,rfl,rfl,rfl⟩:=h;have hl:=hn.last;refine ⟨by simp only [fill,AV.val,hl.2.1],by simp [fill],rfl,rfl,.cons ⟨rfl,?_⟩ .nil⟩;show bW _ ((Row.sli none (nm N.length) t (iK (.l t) (⟨.l t,l⟩::g)) false).item ρ T)/\bW ((Row.sli none (nm N.length) t (iK (.l t) (⟨.l t,l⟩::g)) false).item ρ T) _;rw [ajq];exact abX hl.2.1
 | .own t e m,v,fx,j,N,D,I,X,i,h,hg,hn,hle,g=>by
  obtain ⟨a,l,rfl,E,rfl,rfl,rfl,rfl,hy⟩:=h;have hS:=arb hn E;refine ⟨by simp only [fill,AV.val,hS],by simp [fill],rfl,rfl,.cons ⟨rfl,?_⟩ .nil⟩;show bW _ ((Row.own (nmS nm fx N.length) t e (iK (.l t) (⟨.l t,l⟩::g)) (nm N.length)).item ρ T)/\bW ((Row.own (nmS nm fx N.length) t e (iK (.l t) (⟨.l t,l⟩::g)) (nm N.length)).item ρ T) _;rw [ajq];exact abL hS (by rw [hn.last.2.2.2 hle];exact hy)
 | .slr n,v,fx,j,N,D,I,X,i,h,hg,hn,hle,g=>by
  obtain ⟨a,ha,rfl,rfl,rfl,rfl,rfl⟩:=h;exact ⟨by simp only [fill,AV.val,(hn _ _ ha).2.1],rfl,rfl,rfl,.nil⟩
 | .bx t off m vs,v,fx,j,N,D,I,X,i,h,hg,hn,hle,g=>by
  obtain ⟨a,cs,I',X',rfl,E,A,rfl,rfl⟩:=h;rw [aeB] at A;have p1:=oW vs _ _ _ _ _ _ _ _ A;have hl:=hn.pre p1;have F:=ahT hl.last.1 E;have G:(N++[a]).length=N.length+1:=by simp
  obtain ⟨z,w,B,C,r⟩:=wx vs cs [] (JE fx) (N++[a]) D I' X' i (by simpa only [AV.al] using A) hn (by simp;omega) g;rw [G] at z w B C r;unfold fill;generalize fv nm vs [] (JE fx) (N.length+1) (D++g)=L at z w B C r;obtain ⟨us,R,k,J,H⟩:=L;simp only at z w B C r;dsimp only;have Y:AV.al ρ (reS (Il nm fx N.length) vs us)=cs:=aos A F z;refine ⟨by simp only [AV.val,F],w,B,?_,.cons ⟨rfl,?_⟩ r⟩
  .rw [C];cases m <;> simp [fj,Y]
  .simp only [Row.item,F,Y];exact ⟨bW.refl,bW.refl⟩
 | .ptr n off,v,fx,j,N,D,I,X,i,h,hg,hn,hle,g=>by
  obtain ⟨a,ha,rfl,rfl,rfl,rfl,rfl⟩:=h;exact ⟨by simp only [fill,AV.val,(hn _ _ ha).1],rfl,rfl,rfl,.nil⟩
 | .mp k u m,v,fx,j,N,D,I,X,i,h,hg,hn,hle,g=>by
  obtain ⟨a,d,rfl,E,rfl,rfl,rfl,rfl⟩:=h;have V:=apY hn E;refine ⟨by simp only [fill,AV.val,V],by simp [fill],rfl,rfl,.cons ⟨rfl,?_⟩ .nil⟩;show bW _ ((Row.mp (nmM nm fx N.length) k u (iK (.mp k u) (⟨.mp k u,d⟩::g))).item ρ T)/\bW ((Row.mp (nmM nm fx N.length) k u (iK (.mp k u) (⟨.mp k u,d⟩::g))).item ρ T) _;rw [an2];simp only [Row.item,V];exact ⟨bW.refl,bW.refl⟩
 | .it,v,fx,j,N,D,I,X,i,h,hg,hn,hle,g=>by
  obtain ⟨a,s,p,rfl,E,rfl,rfl,rfl,rfl⟩:=h;have F:=ahT hn.last.1 E;refine ⟨by simp only [fill,AV.val,F],by simp [fill],rfl,rfl,.cons ⟨rfl,?_⟩ .nil⟩;show bW _ ((Row.it (Il nm fx N.length) (iK .s (⟨.s,s⟩::⟨.n,p⟩::g)) (iK .n (⟨.n,p⟩::g))).item ρ T)/\bW ((Row.it (Il nm fx N.length) (iK .s (⟨.s,s⟩::⟨.n,p⟩::g)) (iK .n (⟨.n,p⟩::g))).item ρ T) _;rw [ajM,ahX];simp only [Row.item,F];exact ⟨bW.refl,bW.refl⟩
 | .agg l,v,fx,j,N,D,I,X,i,h,hg,hn,hle,g=>by
  obtain ⟨cs,rfl,E,A⟩:=h;obtain ⟨z,w,B,C,r⟩:=wx l cs (ja fx) [] N D I X i (by rw [ajU hg E];simpa only [AV.al] using A) hn hle g;unfold fill;generalize fv nm l (ja fx) [] N.length (D++g)=L at z w B C r;obtain ⟨us,R,k,J,H⟩:=L;simp only at z w B C r;dsimp only;exact ⟨by simp only [AV.val,z],w,B,C,r⟩
 | .cW l,v,fx,j,N,D,I,X,i,h,hg,hn,hle,g=>by
  obtain ⟨cs,rfl,A⟩:=h;obtain ⟨z,w,B,C,r⟩:=wx l cs [] [] N D I X i (by simpa only [AV.al] using A) hn hle g;unfold fill;generalize fv nm l [] [] N.length (D++g)=L at z w B C r;obtain ⟨us,R,k,J,H⟩:=L;simp only at z w B C r;dsimp only;exact ⟨by simp only [AV.val,z],w,B,C,r⟩
 | .fn f a b,v,fx,j,N,D,I,X,i,h,hg,hn,hle,g=>by
  obtain ⟨us,vs,Z,K,I1,I2,X1,X2,U,rfl,E,A,W,rfl,rfl,rfl⟩:=h;have p2:=oW b _ _ _ _ _ _ _ _ W;obtain ⟨z,w,B,C,r⟩:=wx a us [] [] N Z I1 X1 U (by simpa only [AV.al] using A) (hn.pre p2) hle (K++g);obtain ⟨c1,S,Q,P,O⟩:=wx b vs (ja fx) [] U K I2 X2 i (by rw [apn hg E];simpa only [AV.al] using W) hn (dx hle (oW a _ _ _ _ _ _ _ _ A).len) g;unfold fill;rw [cb];generalize fv nm a [] [] N.length (Z++(K++g))=L at z w B C r;obtain ⟨us',R,k,J,H⟩:=L;simp only at z w B C r;subst w;subst B;dsimp only;generalize fv nm b (ja fx) [] U.length (K++g)=L at c1 S Q P O;obtain ⟨us2,R2,k2,DD2,XX2⟩:=L;simp only at c1 S Q P O;dsimp only;exact ⟨by simp only [AV.val,z,c1],S,Q,by rw [C,P];simp [fj],r.append O⟩
 | .ifc t p,v,fx,j,N,D,I,X,i,h,hg,hn,hle,g=>by
  obtain ⟨u,rfl,E,A⟩:=h;rw [<-alj hg E,Oz] at A;obtain ⟨z,w,B,C,r⟩:=H9 p u (sQ p (ja fx)) none N D I X i A (Zq p _) hn hle g;unfold fill;generalize fill nm p (sQ p (ja fx)) none N.length (D++g)=L at z w B C r;obtain ⟨us,R,k,J,H⟩:=L;simp only at z w B C r;dsimp only;exact ⟨by simp only [AV.val,z],w,B,C,r⟩
 | .nK c,v,fx,j,N,D,I,X,i,h,hg,hn,hle,g=>by
  obtain ⟨⟨A,h0⟩,rfl,rfl,rfl,rfl⟩:=h;exact ⟨by rw [A];exact h0 ρ,rfl,rfl,rfl,.nil⟩
 | .dat t o,v,fx,j,N,D,I,X,i,h,hg,hn,hle,g=>by
  obtain ⟨cs,x,o',rfl,rfl,A,rfl⟩:=h;obtain ⟨z,w,B,r⟩:=Wb (T:=T) t x cs o N I i o' A hn hle;unfold fill;rw [qH,ux];generalize jg nm t x N.length o=L at z w B r;obtain ⟨us,R,k,oo⟩:=L;simp only at z w B r;dsimp only;exact ⟨by simp only [AV.val,z],w,rfl,rfl,r⟩
 | .ifn,v,fx,j,N,D,I,X,i,h,hg,hn,hle,g=>by
  obtain ⟨x,rfl,rfl,rfl,rfl,rfl⟩:=h;exact ⟨by simp only [fill,qH,ahX,AV.val,AV.al],rfl,rfl,rfl,.nil⟩
 | .sfp,v,fx,j,N,D,I,X,i,h,hg,hn,hle,g=>by
  obtain ⟨a,f,ha,rfl,rfl,rfl,rfl,rfl⟩:=h;refine ⟨?_,rfl,rfl,rfl,.nil⟩;simp only [fill,AV.val,(hn _ _ ha).1,qH];rfl
 | .same,v,fx,j,N,D,I,X,i,h,hg,hn,hle,g=>by
  obtain ⟨A,rfl,rfl,rfl,rfl⟩:=h;refine ⟨?_,rfl,rfl,rfl,.nil⟩;simp only [fill,anv];rcases A with ⟨p,hp,rfl⟩|⟨M,A⟩
  .cases fx with
   |none=>cases hp
   |some q=>cases hp;rfl
  .cases fx with
   |some q=>cases M
   |none=>
    cases j with
    |none=>cases A
    |some y=>cases A;rfl
theorem wx:(l:List Pt)->(vs:za)->(a:List AV)->(b:List AV)->(N:List Nm)->(D:List cm)->(I:fX)->(X:lP)->(d:List Nm)->xQ l vs (AV.al ρ a) (AV.al ρ b) N D I X d->ym ρ nm n0 d->n0<=N.length->(c:List cm)->
  AV.al ρ (fv nm l a b N.length (D++c)).vs=vs/\(fv nm l a b N.length (D++c)).k=d.length/\(fv nm l a b N.length (D++c)).D=c/\X=fj ρ (fv nm l a b N.length (D++c)).X/\gB (RwI ρ T) (fv nm l a b N.length (D++c)).R I
 |[],vs,a,b,N,D,I,X,d,h,hn,hle,c=>by
  obtain ⟨rfl,rfl,rfl,rfl,rfl⟩:=h;exact ⟨by simp only [fv,AV.al],rfl,rfl,rfl,.nil⟩
 |p::l,vs,a,b,N,D,I,X,d,h,hn,hle,c=>by obtain ⟨v,f,x,e,F,E,C,B,w,rfl,i,g,rfl,rfl,rfl⟩:=h;rw [WO,Oz] at i;rw [Mp,Mp] at g;have p2:=oW l _ _ _ _ _ _ _ _ g;obtain ⟨u,t,s,r,q⟩:=H9 p v (sQ p a) b.head? N x F C w i (Zq p a) (hn.pre p2) hle (e++c);obtain ⟨c1,o,n,m,j⟩:=wx l f a.tail b.tail w e E B d g hn (dx hle (AZ p _ _ _ _ _ _ _ _ i).len) c;unfold fv;rw [cb];generalize fill nm p (sQ p a) b.head? N.length (x++(e++c))=L at u t s r q;obtain ⟨z,R,k,M,J⟩:=L;simp only at u t s r q;subst t;subst s;dsimp only;generalize fv nm l a.tail b.tail w.length (e++c)=L at c1 o n m j;obtain ⟨y,K,H,G,A⟩:=L;simp only at c1 o n m j;dsimp only;exact ⟨by simp only [AV.al,u,c1],o,n,by rw [r,m];simp [fj],q.append j⟩
end
theorem P4{fix:Nat->jv}{g:Nat->Option Value}:(l:List (Bool×Nat×Pt))->(N:List Nm)->(D:List cm)->(I:fX)->(X:lP)->(d:List Nm)->G6 (λi=>iB ρ (fix i)) g l N D I X d->uF fix l=true->ym ρ nm n0 d->n0<=N.length->(a:List cm)->
  (∀t p,look (aF.env ρ [] (gI nm fix l N.length (D++a)).E) t=some p->p.1=true/\g t=some p.2)/\(gI nm fix l N.length (D++a)).k=d.length/\(gI nm fix l N.length (D++a)).D=a/\gB (RwI ρ T) (gI nm fix l N.length (D++a)).R I
 |[],N,D,I,X,d,h,hg,hn,hle,a=>by
  obtain ⟨rfl,rfl,rfl,rfl⟩:=h;exact ⟨(λt p h=>by cases h),rfl,rfl,.nil⟩
 |(b,t,p)::l,N,D,I,X,d,h,hg,hn,hle,a=>by
  simp only [uF,ar] at hg;obtain ⟨v,y,f,F,K,C,J,e,H,A,z,rfl,rfl,rfl⟩:=h;have p2:=P7 l _ _ _ _ _ z;have m:Sem p v (iB ρ (aD b (fix t) none)) ((none:Option AV).map (AV.val ρ)) N y F C e:=by cases b <;> exact A
  obtain ⟨x,w,u,B,s⟩:=H9 (T:=T) p v _ none N y F C e m hg.1 (hn.pre p2) hle (f++a);obtain ⟨c1,r,o,n⟩:=P4 l e f K J d z hg.2 hn (dx hle (AZ p _ _ _ _ _ _ _ _ A).len) a;unfold gI;rw [cb];dsimp only;generalize fill nm p (aD b (fix t) none) none N.length (y++(f++a))=L at x w u B s;obtain ⟨G,R,k,U,P⟩:=L;simp only at x w u B s;subst w;subst u;dsimp only;generalize gI nm fix l e.length (f++a)=L at c1 r o n;obtain ⟨S,Q,O,M⟩:=L;simp only at c1 r o n;dsimp only;refine ⟨λt' q c=>?_,r,o,s.append n⟩;cases b
  .simp only [aF.env,look] at c;cases hb:Nat.beq t t'
   .rw [hb] at c;exact c1 t' q c
   .rw [hb] at c;simp only [ca,ej] at c;subst c;have:=b0 hb;subst this;refine ⟨aB.get_none,?_⟩;have j:g t=some v:=H;rw [j,x]
  .exact c1 t' q c
end
section
variable {Γ Γ' : Ctx} {w : World}
theorem Sat.Dp(h:Sat Γ w)(q:Nat->Nat->Prop)(g:∀(j:Nat) (a:Item),Γ'[j]? =some a->(a.own=[]/\∀M w,a.P M w)\/∃(i:Nat) (it:Item),q j i/\Γ[i]? =some it/\bW it a)
  (t:∀(j k i:Nat),j≠k->q j i->q k i->False):Sat Γ' w:=by
 have mv:Mv Γ.M w (Ctx.M Γ') w:=Mv.weaken w λb hb=>by
  obtain ⟨it,hi,hb⟩:=hb;obtain ⟨k,hk⟩:=List.mem_iff_getElem?.1 hi;rcases g k it hk with ⟨c,_⟩|⟨i,a,_,f,d⟩
  .rw [c] at hb;cases hb
  .exact Ctx.kY f (d.1 b hb)
 refine ⟨λa m=>?_,λj k a kt m hk s b hb n=>?_⟩
 .obtain ⟨k,hk⟩:=List.mem_iff_getElem?.1 m;rcases g k a hk with ⟨_,c⟩|⟨i,it,_,f,d⟩
  .exact c _ _
  .exact d.2 _ _ (it.cY (h.at_ f) mv (λ_ _=>rfl) (iM.refl w))
 .rcases g j a m with ⟨c,_⟩|⟨i,it,r1,f,d⟩
  .rw [c] at hb;cases hb
  .rcases g k kt hk with ⟨c,_⟩|⟨r,l,r2,p,o⟩
   .grind
   .by_cases e:i=r
    .grind
    .exact h.sep i r it l f p e b (d.1 b hb) (o.1 b n)
def jr:Item:=Ym True
theorem Sat.pull(h:Sat Γ w){i:Nat}{it b:Item}(hi:Γ[i]? =some it)(hl:bW it b):Sat (b::Γ.set i jr) w:=by
 refine h.Dp (λj k=>(j=0/\k=i)\/(j=k+1/\k≠i)) (λj kt a=>?_) (λj k q c f d=>by omega);cases j with
 |zero=>grind
 |succ j=>
  simp at a;by_cases e:j=i
  .subst e;rw [rJ (List.getElem?_eq_some_iff.1 hi).1] at a;cases a;exact .inl ⟨rfl,λ_ _=>trivial⟩
  .rw [qJ (λh=>e h.symm)] at a;exact .inr ⟨j,kt,.inr ⟨rfl,e⟩,a,bW.refl⟩
theorem Sat.Dh{A B:Ctx}{x:Item}(h:Sat (A++x::B) w):Sat (A++B) w:=by
 refine h.Dp (λj k=>(j<A.length/\k=j)\/(A.length<=j/\k=j+1)) (λj a c=>?_) (λj k q b f d=>by omega);by_cases e:j<A.length
 .exact .inr ⟨j,a,.inl ⟨e,rfl⟩,by grind,bW.refl⟩
 .have e':A.length<=j:=by omega
  refine .inr ⟨j+1,a,.inr ⟨e',rfl⟩,?_,bW.refl⟩;grind
theorem Sat.aoO{A B:Ctx}{x a:Item}{k:Nat}(h:Sat (A++x::B.set k jr) w)(hk:B[k]? =some a)(hl:bW x a):Sat (A++B) w:=by
 refine h.Dp (λj q=>(j<A.length/\q=j)\/(j=A.length+k/\q=A.length)\/(A.length<=j/\j≠A.length+k/\q=j+1)) (λj kt d=>?_) (λj k q b g f=>by omega);by_cases e:j<A.length
 .exact .inr ⟨j,kt,.inl ⟨e,rfl⟩,by grind,bW.refl⟩
 .have e':A.length<=j:=by omega
  by_cases c:j=A.length+k
  .grind
  .refine .inr ⟨j+1,kt,.inr (.inr ⟨e',c,rfl⟩),?_,bW.refl⟩;grind
theorem Sat.F6{A B:Ctx}{x y:Item}(h:Sat (A++x::B) w)(hl:bW x y):Sat (A++y::B) w:=by
 refine h.Dp (λj k=>j=k) (λj a c=>?_) (λj k q b f d=>by omega);by_cases e:j<A.length
 .exact .inr ⟨j,a,rfl,by grind,bW.refl⟩
 .by_cases g:j=A.length
  .grind
  .refine .inr ⟨j,a,rfl,?_,bW.refl⟩;grind
theorem Sat.leL{A B C:Ctx}(h:Sat (A++(B++C)) w){c:Ctx}(hl:gB bW B c):Sat (A++(c++C)) w:=by
 induction hl generalizing A with
 |nil=>exact h
 | @cons a b l m h1 _ ih=>
  have d  :=h.F6 h1;have e:Sat ((A++[b])++(l++C)) w:=by simpa using d
  grind
def ll:wi->Ctx->Ctx
 |[],Γ=>Γ
 |none::l,Γ=>ll l Γ
 |some i::l,Γ=>(ll l Γ).set i jr
def Ndp:wi->Prop
 |[]=>True
 |none::l=>Ndp l
 |some i::l=>some i∉l/\Ndp l
theorem VS:∀{l:wi} {Γ:Ctx},(ll l Γ).length=Γ.length
 |[],_=>rfl
 |none::l,Γ=>VS (l:=l)
 |some j::l,Γ=>by show ((ll l Γ).set j jr).length=_;rw [qI,VS]
theorem Dy:∀{l:wi} {Γ:Ctx} {i:Nat},some i∉l->(ll l Γ)[i]? =Γ[i]?
 |[],_,_,_=>rfl
 |none::l,Γ,i,h=>Dy (l:=l) (λa=>h (cp _ a))
 |some j::l,Γ,i,h=>by have e:j≠i:=λe=>h (by grind);show ((ll l Γ).set j jr)[i]? =_;rw [qJ e];exact Dy (λa=>h (cp _ a))
theorem JQ{x:Item}:∀{l:wi} {Γ:Ctx} {i:Nat},some i∉l->(ll l Γ).set i x=ll l (Γ.set i x)
 |[],_,_,_=>rfl
 |none::l,Γ,i,h=>JQ (l:=l) (λa=>h (cp _ a))
 |some j::l,Γ,i,h=>by have e:j≠i:=λe=>h (by grind);show ((ll l Γ).set j jr).set i x=(ll l (Γ.set i x)).set j jr;rw [List.set_comm _ _ e,JQ (λa=>h (cp _ a))]
def PI(Γ:Ctx)(w:World)(o:zc)(x:Bool×Item):Prop:=match o with
 |some i=>∃jt,Γ[i]? =some jt/\bW jt x.2
 |none=>x.2.own=[]/\x.2.P Γ.M w
abbrev dF(I:fX):Ctx:=I.map (·.2)
def iE(I:fX):Ctx:=I.map λx=>aD x.1 jr x.2
theorem AE(h:Sat Γ w):∀{L:wi} {I:fX},gB (PI Γ w) L I->Ndp L->Sat (dF I++ll L Γ) w/\∀b,Ctx.M (dF I++ll L Γ) b->Γ.M b
 |_,_,.nil,_=>⟨h,λ_ h=>h⟩
 |_,_,.cons (a:=none) (b:=x) h1 hr,hd=>by
  obtain ⟨ih,c⟩:=AE h hr hd;refine ⟨ih.add h1.1 (x.2.cY h1.2 (Mv.weaken w c) (λ_ _=>rfl) (iM.refl w)),λb hb=>?_⟩;rcases Ctx.Fq.1 hb with hb|hb
  .rw [h1.1] at hb;cases hb
  .exact c b hb
 |_,_,.cons (a:=some i) (l:=l) (m:=m) h1 hr,hd=>by
  obtain ⟨ih,c⟩:=AE h hr hd.2;obtain ⟨j,f,hl⟩:=h1;have hi:(dF m++ll l Γ)[(dF m).length+i]? =some j:=by rw [c9 (by omega),show (dF m).length+i-(dF m).length=i by omega,Dy hd.1];exact f
  have g:=ih.pull hi hl;rw [sj _ _ (by omega),show (dF m).length+i-(dF m).length=i by omega] at g;refine ⟨g,λb hb=>?_⟩;rcases Ctx.Fq.1 hb with hb|hb
  .exact Ctx.kY f (hl.1 b hb)
  .obtain ⟨it,d,e⟩:=hb;refine c b ?_;rcases List.mem_append.1 d with d|d
   .exact ⟨it,qz _ d,e⟩
   .rcases List.mem_or_eq_of_mem_set d with d|d
    .exact ⟨it,gx _ d,e⟩
    .subst d;cases e
def Bz:wi->fX->wi
 |o::L,x::I=>(aD x.1 o none)::Bz L I
 |_,_=>[]
def ET(Γ:Ctx)(o:zc)(x:Bool×Item):Prop:=match o with
 |some i=>∃jt,Γ[i]? =some jt/\(x.1=false->bW x.2 jt)
 |none=>True
theorem ET.set{Γ:Ctx}{i:Nat}{y:Item}:∀{L:wi} {I:fX},gB (ET Γ) L I->some i∉L->gB (ET (Γ.set i y)) L I
 |_,_,.nil,_=> .nil
 |_,_,.cons (a:=none) h1 hr,hn=> .cons trivial (ET.set hr (λh=>hn (cp _ h)))
 |_,_,.cons (a:=some j) h1 hr,hn=>by obtain ⟨b,c,hl⟩:=h1;exact .cons ⟨b,by grind,hl⟩ (ET.set hr (λh=>hn (cp _ h)))
theorem Un{i:Nat}:∀{L:wi} {I:fX},some i∈Bz L I->some i∈L
 |[],_,h=>by cases h
 |o::L,[],h=>by cases h
 |o::L,x::I,h=>by
  rcases List.mem_cons.1 h with h|h
  .grind
  .exact cp _ (Un h)
theorem Iz{A:Ctx}:∀{L:wi} {I:fX} {Γ:Ctx},gB (ET Γ) L I->Ndp L->Sat (A++(iE I++ll L Γ)) w->Sat (A++ll (Bz L I) Γ) w
 |_,_,_,.nil,_,h=>h
 |_,_,_,.cons (a:=none) h1 hr,hd,h=>by
  have c  :=Sat.Dh h;have:=Iz hr hd c;grind [Bz,ll]
 |_,_,Γ,.cons (a:=some i) (b:=x) (l:=l) (m:=m) h1 hr,hd,h=>by
  obtain ⟨f,e,hl⟩:=h1;cases hx:x.1
  .have d:iE (x::m)++ll (some i::l) Γ=x.2::(iE m++ll l Γ).set (m.length+i) jr:=by simp_all [iE,ll,set]
   rw [d] at h;have c:=h.aoO (by
    rw [c9 (by simp [iE])];have:m.length+i-(iE m).length=i:=by simp [iE]
    rw [this,Dy hd.1];exact e) (hl hx)
   have:=Iz hr hd.2 c;grind [Bz,ll]
  .have d:iE (x::m)++ll (some i::l) Γ=jr::(iE m++ll l (Γ.set i jr)):=by show (aD x.1 jr x.2)::(iE m++(ll l Γ).set i jr)=_;rw [hx,JQ hd.1]
   rw [d] at h;have c:=Sat.Dh h;have:=Iz (ET.set hr hd.1) hd.2 c;rw [<-JQ (λh=>hd.1 (Un h))] at this;grind [Bz,ll]
end
def dE(G H:List Row)(s:Src):zc:=match s with
 | .top i=>(match G[i]? with
  |some r=>aD r.cM none (some i)
  |none=>none)
 | .cw i=>(match H[i]? with
  |some r=>aD r.cM none (some (G.length+i))
  |none=>none)
 |_=>none
def nq(n:Nat):wi->Bool
 |[]=>false
 |o::l=>(match o with
  |some m=>Nat.beq n m
  |none=>false)||nq n l
theorem QF{n:Nat}:{l:wi}->(nq n l=true↔some n∈l)
 |[]=>by simp [nq]
 |none::l=>by simp [nq,QF]
 |some m::l=>by simp only [nq,e9,qa,ej];rw [QF,Nat.beq_eq]
def HL:wi->Bool
 |[]=>true
 |o::l=>(match o with
  |some i=> !(nq i l)
  |none=>true)&&HL l
theorem Aq:{l:wi}->HL l=true->Ndp l
 |[],_=>trivial
 |none::l,h=>by
  exact Aq (l:=l) h
 |some i::l,h=>by simp [HL,ar] at h;exact ⟨(λa=>by grind [QF]),Aq h.2⟩
section
variable {ρ : ay} {T : aB} {G H : List Row} {Φ : Ctx} {w : World}
theorem Src.pos{s:Src}{r:Row}(h:s.at_ G H r)(hp:r.cM=false):∃i,dE G H s=some i/\(ab ρ T G++(ab ρ T H++Φ))[i]? =some (r.item ρ T):=by
 cases s with
 |top i=>
  have h:G[i]? =some r:=h;simp_all [dE,iH]
 |cw i=>
  have h:H[i]? =some r:=h;simp_all [dE,Ww]
 |nilI=>exact h.elim
 |nilO=>exact h.elim
 |nilM=>exact h.elim
theorem Src.asF{s:Src}{r:Row}(h:s.at_ G H r)(hp:r.cM=true):dE G H s=none:=by
 cases s with
 |top i=>
  have h:G[i]? =some r:=h;grind [dE]
 |cw i=>
  have h:H[i]? =some r:=h;grind [dE]
 |nilI=>exact h.elim
 |nilO=>exact h.elim
 |nilM=>exact h.elim
theorem Src.asG{s:Src}(h:∀r,¬s.at_ G H r):dE G H s=none:=by
 cases s with
 |top i=>
  cases a:G[i]? with
  |none=>simp [dE,a]
  |some r=>exact (h r a).elim
 |cw i=>
  cases a:H[i]? with
  |none=>simp [dE,a]
  |some r=>exact (h r a).elim
 |nilI=>rfl
 |nilO=>rfl
 |nilM=>rfl
theorem Oj(j:Sat (ab ρ T G++(ab ρ T H++Φ)) w):∀{S:List (Bool×Src)} {I:fX},gB (SI ρ T G H) S I->gB (PI (ab ρ T G++(ab ρ T H++Φ)) w) (S.map λx=>dE G H x.2) I/\gB (ET (ab ρ T G++(ab ρ T H++Φ))) (S.map λx=>dE G H x.2) I
 |_,_,.nil=>⟨.nil,.nil⟩
 |_,_,.cons (a:=a) (b:=x) h1 hr=>by
  obtain ⟨h,g⟩:=Oj j hr;obtain ⟨e,k⟩:=h1;rcases k with ⟨k1,d,f⟩|⟨r,k1,d,f,l⟩
  .have hp:=Src.asG f;refine ⟨.cons ?_ h,.cons ?_ g⟩
   .show PI _ _ (dE G H a.2) x;rw [hp];exact ⟨k1,d _ _⟩
   grind [ET,dE]
  .cases c:r.cM
   .obtain ⟨i,p1,p2⟩:=Src.pos k1 c;refine ⟨.cons ?_ h,.cons ?_ g⟩
    .show PI _ _ (dE G H a.2) x;rw [p1];exact ⟨_,p2,d⟩
    grind [ET,dE]
   .have hp:=Src.asF k1 c;refine ⟨.cons ?_ h,.cons ?_ g⟩
    .show PI _ _ (dE G H a.2) x;rw [hp];exact ⟨f c,d.2 _ _ (Src.holds j k1)⟩
    grind [ET,dE]
def uE(is:wi):Nat->List Row->List Row
 |_,[]=>[]
 |k,r::G=>(aD (nq k is) .gone r)::uE is (k+1) G
def mY:List Row->List Row
 |[]=>[]
 |r::G=>(match r with
  | .gone=>mY G
  |r=>r::mY G)
theorem Gk{B:Ctx}:∀{G:List Row} {A:Ctx},Sat (A++(ab ρ T G++B)) w->Sat (A++(ab ρ T (mY G)++B)) w
 |[],_,h=>h
 |r::G,A,h=>by
  unfold mY;split
  .exact Gk (Sat.Dh h)
  .have a:Sat ((A++[r.item ρ T])++(ab ρ T G++B)) w:=by simpa [ab] using h
   have:=Gk a;grind
theorem Pg{L:wi}:∀{G:List Row} {k:Nat},ab ρ T (uE L k G)=(ab ρ T G).mapIdx λi it=>aD (nq (k+i) L) jr it
 |[],_=>rfl
 |r::G,k=>by
  simp only [uE,eT,List.mapIdx_cons];have:=Pg (L:=L) (G:=G) (k:=k+1);congr 1
  .cases nq k L <;> rfl
  grind
theorem Zw:∀{L:wi} {Γ:Ctx} {j:Nat},(ll L Γ)[j]? =(Γ[j]?).map λit=>aD (nq j L) jr it
 |[],Γ,j=>by
  show Γ[j]? =_;cases Γ[j]? <;> rfl
 |none::l,Γ,j=>Zw (L:=l)
 |some i::l,Γ,j=>by
  show ((ll l Γ).set i jr)[j]? =_;by_cases e:i=j
  .have hl:(ll l Γ).length=Γ.length:=VS;have a:nq i (some i::l)=true:=by simp [nq]
   grind
  .rw [qJ e,Zw];grind [Nat.beq,absurd,Nat.eq_of_beq_eq_true,nq]
end
structure aA where
 f:FuncId
 ps:List Pt
 r:Pt
 os:List (Bool×Nat×Pt)
 m:fK (rH ps)->Option (fK (ry r++jC os))
def al8:Ty->v7->Nat×v7
 | .p a b,o=>match al8 a o with
  |(n,o)=>match al8 b o with
   |(m,o)=>(n+m,o)
 | .l _,o=>(1,o.tail)
 | .ex,o=>(1,o.tail)
 |_,o=>(0,o)
mutual
def akG:Pt->Nat
 | .sli _|.own _ _ _|.mp _ _ _|.it=>1
 | .bx _ _ _ vs=>Um vs+1
 | .agg l|.cW l=>Um l
 | .fn _ a b=>Um a+Um b
 | .ifc _ p=>akG p
 | .dat t o=>(al8 t o).1
 |_=>0
def Um:List Pt->Nat
 |[]=>0
 |p::l=>akG p+Um l
end
def ixN:List Pt->Nat->Nat
 |p::l,i+1=>akG p+ixN l i
 |_,_=>0
def Sx(X:lP)(n:Nat):za:=match X with
 |[]=>[]
 |x::X=>aD (Nat.beq x.1 n) x.2 (Sx X n)
def M1(X:List (Nat×List AV))(n:Nat):List AV:=match X with
 |[]=>[]
 |x::X=>aD (Nat.beq x.1 n) x.2 (M1 X n)
theorem WT{ρ:ay}{n:Nat}:{X:List (Nat×List AV)}->Sx (fj ρ X) n=AV.al ρ (M1 X n)
 |[]=>by simp [Sx,M1,AV.al]
 |x::X=>by
  show (aD (Nat.beq x.1 n) (AV.al ρ x.2) (Sx (fj ρ X) n))=AV.al ρ (aD (Nat.beq x.1 n) x.2 (M1 X n));cases Nat.beq x.1 n
  .exact WT
  .rfl
def Rz(ps:List Pt)(vs:za)(X:lP)(i:Nat):Fx:=(vs[i]?).map λv=>(v,Sx X (ixN ps i))
def y9(ps:List Pt)(vs:List AV)(X:List (Nat×List AV))(i:Nat):jv:=match vs[i]? with
 |some v=>some (v,M1 X (ixN ps i))
 |none=>none
theorem Vu{ρ:ay}:{l:List AV}->{i:Nat}->(AV.al ρ l)[i]? =(l[i]?).map (AV.val ρ)
 |[],i=>by simp [AV.al]
 |v::l,0=>by simp [AV.al]
 |v::l,i+1=>by simp only [AV.al,gy];exact Vu
theorem adh{ρ:ay}{ps:List Pt}{vs:List AV}{X:List (Nat×List AV)}{i:Nat}:Rz ps (AV.al ρ vs) (fj ρ X) i=iB ρ (y9 ps vs X i):=by
 unfold Rz y9;rw [Vu];cases vs[i]? with
 |none=>rfl
 |some v=>simp [WT]
def aA.Ok(P:Program)(Γg:Ctx)(e:aA):Prop:=Enters P e.f/\∀s r,e.m s=some r->∀(vs:za) (N:List Nm) (I:fX) (X:lP) (Φ:Ctx) (w:World),
 xQ e.ps vs [] [] [] (iU _ s) I X N->Sat (dF I++Φ) w->(∀it∈Γg,it∈Φ)->
 jl P e.f vs w λv w'=>∃(N1 N2:List Nm) (D1 D2:List cm) (I1 I2:fX) (X1 X2:lP),Sem e.r v none none N D1 I1 X1 N1/\G6 (Rz e.ps vs X) (λi=>vs[i]?) e.os N1 D2 I2 X2 N2/\D1++D2=iU _ r/\
  Sat ((dF I1++dF I2)++(iE I++Φ)) w'
def cellsOf(G H:List Row)(j:Nat):List AV:=match eK G H (Bk j) with
 |some (_,.box _ _ cs)=>cs
 |_=>[]
def akk:(t:Ty)->List AV->v7->zk×List AV×v7
 | .i _,vs,o|.bo,vs,o|.s,vs,o=>([],vs.tail,o)
 | .p a b,vs,o=>match akk a vs o with
  |(i,vs,o)=>match akk b vs o with
   |(j,vs,o)=>(i++j,vs,o)
 | .l _,vs,o=>(match o with
  |none::_=>(match vs with
   |v::_=>v.fA
   |[]=>[])
  |_=>[],vs.tail,o.tail)
 | .ex,vs,o=>(match o with
  |none::_=>(match vs with
   |_::_::_::v::_=>v.fA
   |_=>[])
  |_=>[],vs.drop 4,o.tail)
 |_,vs,o=>([],vs,o)
mutual
def yT(G H:List Row):Pt->AV->zk
 | .sli _,v=>v.fA
 | .bx _ _ _ vs,v=>(match v with
  | .ptr j _=>eZ G H vs (cellsOf G H j)
  |_=>[])
 | .agg l,v=>(match v with
  | .agg vs=>eZ G H l vs
  |_=>[])
 | .cW l,v=>(match v with
  | .tuple vs=>eZ G H l vs
  |_=>[])
 | .fn _ a b,v=>(match v with
  | .fn _ a' b'=>eZ G H a a'++eZ G H b b'
  |_=>[])
 | .ifc _ p,v=>(match v with
  | .ifc _ u=>yT G H p u
  |_=>[])
 | .dat t o,v=>(match v with
  | .agg cs=>(akk t cs o).1
  |_=>[])
 |_,_=>[]
def eZ(G H:List Row):List Pt->List AV->zk
 |[],_=>[]
 |p::l,vs=>(match vs with
  |v::vs=>yT G H p (yU G H v)++eZ G H l vs
  |[]=>[])
end
def yc(T:aB)(g:GK):List Row->List Row
 |[]=>[]
 |r::G=>(match r with
  | .sli (some k) id t l b=> .sli (aD (T.imp g (some k)) none (some k)) id t l b
  |r=>r)::yc T g G
def CD(g:GK)(r:Row):Row:=match g with
 |none=>r
 |some g=>(match r with
  | .sli none id t l b=> .sli (some g) id t l b
  | .own id t _ l _=> .sli (some g) id t l false
  |r=>r)
def slB:Row->Bool
 | .sli none _ _ _ _|.own .. =>true
 |_=>false
def UX:List (Bool×Row)->Bool
 |[]=>true
 |x::l=>slB x.2&&UX l
def vU(B:wi)(c:Nat)(n:Nat):Nat:=match B[n]? with
 |some (some j)=>j
 |_=>c+n
def WU(c:Nat):wi->Bool
 |[]=>true
 |o::l=>(match o with
  |some j=>Nat.blt j c
  |none=>true)&&WU c l
def Rf(c:Nat):List (Nat×List AV)->Bool
 |[]=>true
 |x::l=>AV.ck c x.2&&Rf c l
def Ck(G H:List Row):List (Bool×Src)->wi
 |[]=>[]
 |x::S=>(aD x.1 (dE G H x.2) none)::Ck G H S
def Pq(n:Nat):wi->Bool
 |[]=>true
 |o::l=>(match o with
  |some i=>Nat.blt i n
  |none=>true)&&Pq n l
def Uk:wi->Bool
 |[]=>true
 |o::l=>(match o with
  |some _=>false
  |none=>true)&&Uk l
def N8{R:Type}(_fr:Fr)(st:aC)(g:GK)(d:zd)(args:List AV)(e:aA)(mr:MR)(G1:List Row)(K:cJ R)(r:fK (ry e.r++jC e.os)):Option R:=
 match fill (vU mr.B st.c) e.r none none mr.B.length (iU _ r) with
 |⟨v,R1,k,D,_⟩=>match gI (vU mr.B st.c) (y9 e.ps args mr.X) e.os k D with
  |⟨_,R2,k,_⟩=>aD (match g with|none=>true|some _=>UX R1) (K { st with c:=st.c+k,E:=cN d g v st.E,G:=(R1++R2).map (λx=>CD g x.2)++G1 }) none
def agk{R:Type}(T:aB)(fr:Fr)(st:aC)(g:GK)(d:zd)(args:List AV)(e:aA)(K:cJ R):Option (Option R):=
 match g with
 |none=>(match Ig (cw (eZ st.G fr.H e.ps args) st.G) fr.H e.ps args [] [] [] with
  |some mr=>aD (HL (mr.S.map λx=>dE (cw (eZ st.G fr.H e.ps args) st.G) fr.H x.2)&&Pq (cw (eZ st.G fr.H e.ps args) st.G).length (Ck (cw (eZ st.G fr.H e.ps args) st.G) fr.H mr.S)&&WU st.c mr.B&&AV.ck st.c args&&Rf st.c mr.X&&uF (y9 e.ps args mr.X) e.os) (match cW (rH e.ps) mr.D with
   |some s=>some ((e.m s).bind (N8 fr st none d args e mr (mY (uE (Ck (cw (eZ st.G fr.H e.ps args) st.G) fr.H mr.S) 0 (cw (eZ st.G fr.H e.ps args) st.G))) K))
   |none=>none) none
  |none=>none)
 |some gk=>(match Ig (yc T (some gk) (cw (eZ st.G fr.H e.ps args) st.G)) (yc T (some gk) fr.H) e.ps args [] [] [] with
  |some mr=>aD (HL (mr.S.map λx=>dE (yc T (some gk) (cw (eZ st.G fr.H e.ps args) st.G)) (yc T (some gk) fr.H) x.2)&&Uk (Ck (yc T (some gk) (cw (eZ st.G fr.H e.ps args) st.G)) (yc T (some gk) fr.H) mr.S)&&e.os.isEmpty&&WU st.c mr.B&&AV.ck st.c args&&Rf st.c mr.X&&uF (y9 e.ps args mr.X) e.os) (match cW (rH e.ps) mr.D with
   |some s=>some (bC (T.get (some gk)) (agX _) (e.m s) (N8 fr st (some gk) d args e mr (cw (eZ st.G fr.H e.ps args) st.G) K))
   |none=>none) none
  |none=>none)
def xX{R:Type}(T:aB)(fr:Fr)(st:aC)(g:GK)(d:zd)(f:FuncId)(args:List AV)(K:cJ R):List aA->Option R
 |[]=>none
 |e::tb=>aD (Nat.beq e.f f) (match agk T fr st g d args e K with
   |some r=>r
   |none=>xX T fr st g d f args K tb) (xX T fr st g d f args K tb)
section
variable {ρ : ay} {T : aB} {G H : List Row} {Φ : Ctx} {w : World}
theorem Qx{s:Src}{i:Nat}(h:dE G H s=some i):i<G.length+H.length:=by
 cases s with
 |top j=>
  simp only [dE] at h;split at h
  next r a=>obtain ⟨_,b⟩:=Oh h;cases b;have:=(List.getElem?_eq_some_iff.1 a).1;omega
  .cases h
 |cw j=>
  simp only [dE] at h;split at h
  next r a=>obtain ⟨_,b⟩:=Oh h;cases b;have:=(List.getElem?_eq_some_iff.1 a).1;omega
  .cases h
 |nilI=>cases h
 |nilO=>cases h
 |nilM=>cases h
theorem Rn:∀{S:List (Bool×Src)} {I:fX},gB (SI ρ T G H) S I->Bz (S.map λx=>dE G H x.2) I=Ck G H S
 |_,_,.nil=>rfl
 |_,_,.cons (a:=a) (b:=x) h1 hr=>by show (aD x.1 (dE G H a.2) none)::Bz _ _=(aD a.1 (dE G H a.2) none)::_;rw [Rn hr,h1.1]
theorem VR{n:Nat}:∀{L:wi} {j:Nat},Pq n L=true->nq j L=true->j<n
 |[],j,h,a=>by cases a
 |none::l,j,h,a=>by
  simp only [Pq,iQ] at h;simp only [nq,mE] at a;exact VR h a
 |some i::l,j,h,a=>by
  simp only [Pq,ar,j0] at h;simp only [nq,e9] at a;rcases a with a|a
  .rw [b0 a];exact h.1
  .exact VR h.2 a
theorem DP{L:wi}{Δ:Ctx}(h:Pq G.length L=true):ll L (ab ρ T G++Δ)=ab ρ T (uE L 0 G)++Δ:=by
 apply l9;intro j;rw [Zw,Pg];by_cases a:j<G.length
 .rw [ec (by simpa [ab] using a),ec (by simpa [ab] using a),List.getElem?_mapIdx];simp
 .have e:nq j L=false:=by
   cases hm:nq j L
   .rfl
   .exact absurd (VR h hm) a
  rw [c9 (by simp [ab];omega),c9 (by simp [ab];omega),e];have b:(ab ρ T G).length=((ab ρ T G).mapIdx λi it=>aD (nq (0+i) L) jr it).length:=by simp
  rw [<-b];cases Δ[j-(ab ρ T G).length]? <;> rfl
theorem aaP:∀{L:wi} {Γ:Ctx},Uk L=true->ll L Γ=Γ
 |[],_,_=>rfl
 |none::l,Γ,h=>by
  simp only [Uk,iQ] at h;exact aaP (L:=l) h
 |some i::l,Γ,h=>by simp [Uk] at h
theorem QT{g:GK}(c:T.get g=true){B:Ctx}:∀{G:List Row} {A:Ctx},Sat (A++(ab ρ T G++B)) w->Sat (A++(ab ρ T (yc T g G)++B)) w
 |[],_,h=>h
 |r::G,A,h=>by
  have step:∀a:Row,bW (r.item ρ T) (a.item ρ T)->Sat (A++(ab ρ T (a::yc T g G)++B)) w:=λa hl=>by
   have d:Sat (A++a.item ρ T::(ab ρ T G++B)) w:=Sat.F6 h hl;have e:Sat ((A++[a.item ρ T])++(ab ρ T G++B)) w:=by simpa [ab] using d
   have:=QT c (G:=G) e;simpa [ab] using this
  unfold yc;split
  .rename_i k id t l b;refine step _ ?_;cases hi:T.imp g (some k)
   .exact bW.refl
   .refine ⟨λ_ h=>h,λM w h _=>h (aB.nr hi c)⟩
  .exact step _ bW.refl
theorem UC{g:GK}:∀{G:List Row},gB bW (ab ρ T (yc T g G)) (ab ρ T G)
 |[]=> .nil
 |r::G=>by
  show gB bW (ab ρ T (yc T g (r::G))) (r.item ρ T::ab ρ T G);unfold yc;refine .cons ?_ UC;split
  .rename_i k id t l b;cases hi:T.imp g (some k)
   .exact bW.refl
   .exact ⟨λ_ h=>h,λM w h _=>h aB.get_none⟩
  .exact bW.refl
theorem ZH{g:Nat×Bool}{B:Ctx}:∀{R:List (Bool×Row)} {A:Ctx},UX R=true->Sat (A++(ab ρ T (R.map (·.2))++B)) w->Sat (A++(ab ρ T (R.map λx=>CD (some g) x.2)++B)) w
 |[],_,_,h=>h
 |(m,r)::R,A,hb,h=>by
  simp only [UX,ar] at hb;have step:Sat (A++(CD (some g) r).item ρ T::(ab ρ T (R.map (·.2))++B)) w:=by
   have c:Sat (A++r.item ρ T::(ab ρ T (R.map (·.2))++B)) w:=h;cases r with
   |sli k id t l b=>
    cases k with
    |none=>exact c.F6 ⟨λ_ h=>h,λM w h _=>h aB.get_none⟩
    |some k=>simp [slB] at hb
   |own id t e l a=>
    have hi:(A++(Row.own id t e l a).item ρ T::(ab ρ T (R.map (·.2))++B))[A.length]? =some (uf t.rep e (ρ id).v l ((ρ a).y=⟨.l t,l⟩)):=by simp [Row.item]
    have d:=c.mA hi (new:=(CD (some g) (Row.own id t e l a)).item ρ T) ((Ext.refl w).wS _) (λb hb=>by cases hb) (λM' m hn=>λ_=>⟨(c.at_ hi).1.freeze (λb hb=>hn b hb (λhb=>by cases hb)) m,λhb=>by cases hb⟩);simpa using d
   |_=>simp [slB] at hb
  have f:Sat ((A++[(CD (some g) r).item ρ T])++(ab ρ T (R.map (·.2))++B)) w:=by simpa using step
  have:=ZH (g:=g) hb.2 f;simpa [ab] using this
theorem Kf{g:Nat×Bool}(a:T.get (some g)=false):∀{R:List (Bool×Row)},UX R=true->∀it∈ab ρ T (R.map λx=>CD (some g) x.2),it.cM=true/\∀M w,it.P M w
 |[],_,it,h=>by cases h
 |(m,r)::R,hb,it,h=>by
  simp only [UX,ar] at hb;rw [eT,ab,eT] at h;rcases List.mem_cons.1 h with rfl|h
  .cases r with
   |sli k id t l b=>
    cases k with
    |none=>exact ⟨rfl,λM w h=>by rw [a] at h;cases h⟩
    |some k=>simp [slB] at hb
   |own id t e l c=>exact ⟨rfl,λM w h=>by rw [a] at h;cases h⟩
   |_=>simp [slB] at hb
  .exact Kf a hb.2 it h
theorem gB.rw{R:List (Bool×Row)}{I:fX}(h:gB (RwI ρ T) R I):gB bW (dF I) (ab ρ T (R.map (·.2))):=by
 induction h with
 |nil=>exact .nil
 |cons a _ ih=>exact .cons a.2.1 ih
theorem Uq{R:List (Bool×Row)}:(R.map λx=>CD none x.2)=R.map (·.2):=rfl
theorem WW{N2:List Nm}{B:wi}{c:Nat}(hN:NB ρ B N)(hp:xZ N N2)(p:WU c B=true):
  ym (λi=>aD (Nat.blt i c) (ρ i) ((N2[i-c]?).getD dy)) (vU B c) B.length N2:=by
 intro i a ha;have e:∀n,(aD (Nat.blt (c+n) c) (ρ (c+n)) ((N2[c+n-c]?).getD dy))=(N2[n]?).getD dy:=λn=>by
  have:Nat.blt (c+n) c=false:=by
   cases hb:Nat.blt (c+n) c
   .rfl
   .simp only [j0] at hb;omega
  rw [this,show c+n-c=n by omega]
 unfold vU;split
 .rename_i j d;obtain ⟨r,q,f⟩:=hN.get d;have k:=hp.at_ q;rw [ha] at k;cases k;have b:Nat.blt j c=true:=by
   have key:∀(B:wi) (i:Nat),WU c B=true->B[i]? =some (some j)->Nat.blt j c=true:=λB=>by
    induction B with
    |nil=>intro i _ h;simp at h
    |cons o l ih=>
     intro i h g;simp only [WU,ar] at h;cases i with
     |zero=>simp at g;subst g;exact h.1
     |succ i=>exact ih i h.2 (by simpa using g)
   exact key B i p d
  simp only [b];refine ⟨f.1.symm,f.2.1.symm,f.2.2.symm,λm=>?_⟩;have:=(List.getElem?_eq_some_iff.1 d).1;omega
 .simp only [e,ha,qE];exact ⟨trivial,trivial,trivial,λ_=>trivial⟩
theorem YZ{ρ':ay}{c:Nat}(ha:aS c ρ ρ'):{X:List (Nat×List AV)}->Rf c X=true->fj ρ' X=fj ρ X
 |[],_=>rfl
 |x::X,h=>by simp only [Rf,ar] at h;show (x.1,AV.al ρ' x.2)::fj ρ' X=(x.1,AV.al ρ x.2)::fj ρ X;rw [AV.bZ ha _ h.1,YZ ha h.2]
end
section
variable {P : Program} {R : Type} {r : R} {K : cJ R} {T : aB} {fr : Fr} {st : aC} {g : GK} {d : zd} {ρ : ay} {Φ Γg : Ctx} {w : World} {ty : TypeId} {pos : String} {af : zf} {gd : wb}
theorem NP{e:aA}{args:List AV}{a:MR}{l:List Row}{q:fK (ry e.r++jC e.os)}{v:Value}{w':World}{p N2:List Nm}{F s:List cm}{E n:fX}{X1 V:lP}
  (hl:st.low fr=true) (I:bB st.c l=true) (hN:NB ρ a.B N) (hB:WU st.c a.B=true) (hA:AV.ck st.c args=true) (hX:Rf st.c a.X=true) (hF:uF (y9 e.ps args a.X) e.os=true)
  (Z:Sem e.r v none none N F E X1 p) (z:G6 (Rz e.ps (AV.al ρ args) (fj ρ a.X)) (λi=>(AV.al ρ args)[i]?) e.os p s n V N2) (hD:F++s=iU _ q)
  (hg:T.get g=true) (hs:Sat ((dF E++dF n)++(ab ρ T l++(ab ρ T fr.H++Φ))) w') (b:g=none\/e.os=[]) (h:N8 fr st g d args e a l K q=some r):aU r K T fr st g d ρ Φ v w':=by
 have w:=AZ _ _ _ _ _ _ _ _ _ Z;have u:=P7 _ _ _ _ _ _ z;have m:=WW (N2:=N2) hN (w.trans u) hB;have f:aS st.c ρ (λi=>aD (Nat.blt i st.c) (ρ i) ((N2[i-st.c]?).getD dy)):=λj hj=>by
  have:Nat.blt j st.c=true:=by simpa using hj
  simp only [this]
 generalize hρ:(λi=>aD (Nat.blt i st.c) (ρ i) ((N2[i-st.c]?).getD dy))=ρ' at m f;have y:a.B.length=N.length:=hN.length;obtain ⟨U,S,Q,a4,P⟩:=H9 (T:=T) e.r v none none N F E X1 p Z (HQ _) (m.pre u) (by omega) s;have J:G6 (λi=>iB ρ' (y9 e.ps args a.X i)) (λi=>(AV.al ρ args)[i]?) e.os p s n V N2:=by
  have e1:(λi=>iB ρ' (y9 e.ps args a.X i))=Rz e.ps (AV.al ρ args) (fj ρ a.X):=by
   funext i
   rw [<-AV.bZ f _ hA,<-YZ f hX,adh]
  rw [e1];exact z
 obtain ⟨b1,O,M,o⟩:=P4 (T:=T) e.os p s n V N2 J hF m (dx (by omega) w.len) [];unfold N8 at h;rw [<-hD,y] at h;generalize fill (vU a.B st.c) e.r none none N.length (F++s)=L at U S Q a4 P h;obtain ⟨v',D,k,DD,XX⟩:=L;simp only at U S Q a4 P;subst S;subst Q;dsimp only at h;rw [j5] at b1 O M o;generalize gI (vU a.B st.c) (y9 e.ps args a.X) e.os p.length DD=L at b1 O M o h;obtain ⟨E2,W,Y,DD2⟩:=L;simp only at O M o;dsimp only at h;obtain ⟨c1,c2⟩:=aI h;refine aU.new (ρ':=ρ') hl c2 f (by simp) rfl U ?_;have t:Sat ((ab ρ' T (D.map (·.2))++ab ρ' T (W.map (·.2)))++(ab ρ T l++(ab ρ T fr.H++Φ))) w':=by have k1:=Sat.leL (A:=[]) (B:=dF E) (C:=dF n++(ab ρ T l++(ab ρ T fr.H++Φ))) (by simpa using hs) P.rw;have Y:=Sat.leL (A:=ab ρ' T (D.map (·.2))) (B:=dF n) (C:=ab ρ T l++(ab ρ T fr.H++Φ)) k1 o.rw;simpa using Y
 have e3:=aZ (T:=T) f I;show Sat (ab ρ' T ((D++W).map (λx=>CD g x.2)++l)++(ab ρ T fr.H++Φ)) w';rw [bg,e3,q9,bg];cases g with
 |none=>
  rw [Uq,Uq];simpa using t
 |some gk=>
  rcases b with b|b
  .cases b
  .have G:W=[]:=by
    have hI:n=[]:=by rw [b] at z;exact z.2.1
    rw [hI] at o;cases o;rfl
   subst G;have k3:=ZH (g:=gk) (A:=[]) (R:=D) (B:=ab ρ T l++(ab ρ T fr.H++Φ)) c1 (by simpa using t);simpa using k3
theorem ahU{e:aA}{op:Op}{args:List AV}(hl:st.low fr=true)(p:Sat (ab ρ T st.G++(ab ρ T fr.H++Φ)) w)(he:e.Ok P Γg)(hΓ:∀it∈Γg,it∈Φ)
  (ent:T.get g=true->∀n j,Fits n (az ρ T st.E fr.F) j->(execOp j.eval ⟨d,op,ty,pos,af,gd⟩).run P w= .ok (.enter e.f (AV.al ρ args).toArray) w) (h:agk T fr st g d args e K=some (some r)):
  mW P T g (az ρ T st.E fr.F) ⟨d,op,ty,pos,af,gd⟩ w (aU r K T fr st g d ρ Φ):=by
 have Z:=uN (ids:=eZ st.G fr.H e.ps args) (aC.cG.1 hl).2.2.1;replace p:=lI (ids:=eZ st.G fr.H e.ps args) p
 -- what is lent, taken and handed back
 have key:∀(o l:List Row) (a:MR) (s:fK (rH e.ps)) (q:fK (ry e.r++jC e.os)),Sat (ab ρ T o++(ab ρ T l++Φ)) w->Ig o l e.ps args [] [] []=some a->HL (a.S.map λx=>dE o l x.2)=true->
   cW (rH e.ps) a.D=some s->e.m s=some q->jl P e.f (AV.al ρ args) w λv w'=>∃(N J N2:List Nm) (R Q:List cm) (O M:fX) (X1 X2:lP),NB ρ a.B N/\Sem e.r v none none N R O X1 J/\
    G6 (Rz e.ps (AV.al ρ args) (fj ρ a.X)) (λi=>(AV.al ρ args)[i]?) e.os J Q M X2 N2/\R++Q=iU _ q/\Sat ((dF O++dF M)++ll (Ck o l a.S) (ab ρ T o++(ab ρ T l++Φ))) w':=λo l a s q p hm hnd b hq=>by
  obtain ⟨N,I,s1,n1,a1⟩:=BM p e.ps args [] [] [] a [] hm (.inl rfl) .nil;rw [<-Dv _ b] at s1;obtain ⟨p1,p2⟩:=Oj p a1;have y:=Aq hnd;obtain ⟨q1,_⟩:=AE p p1 y;refine (he.2 s q hq (AV.al ρ args) N I (fj ρ a.X) _ w (by simpa only [AV.al] using s1) q1 (λit bH=>?_)).mono ?_
  .obtain ⟨k,hk⟩:=List.mem_iff_getElem?.1 (hΓ it bH);have hk2:(ab ρ T o++(ab ρ T l++Φ))[o.length+l.length+k]? =some it:=by
    rw [c9 (by simp [ab];omega),c9 (by simp [ab];omega)];have:o.length+l.length+k-(ab ρ T o).length-(ab ρ T l).length=k:=by simp [ab];omega
    rw [this];exact hk
   refine fe (i:=o.length+l.length+k) ?_;rw [Dy,hk2];intro Y;obtain ⟨x,_,hx⟩:=List.mem_map.1 Y;have:=Qx hx;omega
  .intro v w' V;obtain ⟨J,N2,R,Q,O,M,X1,X2,c1,c2,c3,C⟩:=V;have z:=Iz p2 y C;rw [Rn a1] at z;exact ⟨N,J,N2,R,Q,O,M,X1,X2,n1,c1,c2,c3,z⟩
 unfold agk at h;cases g with
 |none=>
  dsimp only at h;split at h
  .rename_i a hm;obtain ⟨h1,u⟩:=aI h;simp only [ar] at h1;obtain ⟨⟨⟨⟨⟨h3,h4⟩,h5⟩,h6⟩,h7⟩,h9⟩:=h1;split at u
   .rename_i s b;simp only [ej] at u;obtain ⟨q,hq,hk⟩:=iA u;refine .none_ (λn j hf=> .inr (.inr ⟨e.f,AV.al ρ args,ent aB.get_none n j hf,(key _ _ a s q p hm h3 b hq).mono λv w' V=>?_⟩));obtain ⟨N,J,N2,R,Q,O,M,X1,X2,n1,c1,c2,c3,C⟩:=V;rw [DP h4] at C;have z:=Gk C;refine NP hl ?_ n1 h5 h6 h7 h9 c1 c2 c3 aB.get_none z (.inl rfl) hk;have U:∀(L:wi) (G:List Row) (k:Nat),bB st.c G=true->bB st.c (mY (uE L k G))=true:=λL G=>by
     induction G with
     |nil=>intro k _;rfl
     |cons r G ih=>
      intro k hG;simp only [bB,ar] at hG;show bB st.c (mY ((aD (nq k L) .gone r)::uE L (k+1) G))=true;cases nq k L
      .cases r <;> first|exact ih (k+1) hG.2|(simp only [mY,bB,ar];exact ⟨hG.1,ih (k+1) hG.2⟩)
      .exact ih (k+1) hG.2
    exact U _ _ _ Z
   .cases u
  .cases h
 |some gk=>
  dsimp only at h;split at h
  .rename_i a hm;obtain ⟨h1,u⟩:=aI h;simp only [ar] at h1;obtain ⟨⟨⟨⟨⟨⟨h3,h4⟩,h8⟩,h5⟩,h6⟩,h7⟩,h9⟩:=h1;have W:e.os=[]:=by simpa using h8
   split at u
   .rename_i s b;simp only [ej] at u;obtain ⟨q,hq1,hq0,hk⟩:=R3 u;refine ⟨λt=>λn j hf=> .inr (.inr ⟨e.f,AV.al ρ args,ent t n j hf,(key _ _ a s q (QT (A:=ab ρ T (yc T (some gk) (cw (eZ st.G fr.H e.ps args) st.G))) t (QT (A:=[]) t p)) hm h3 b (hq1 t)).mono λv w' V=>?_⟩),λt=>?_⟩
    .obtain ⟨N,J,N2,R,Q,O,M,X1,X2,n1,c1,c2,c3,C⟩:=V;rw [aaP h4] at C;have z:=Sat.leL C UC;rw [<-cb] at z;have c6:=Sat.leL z UC;rw [cb] at c6;exact NP hl Z n1 h5 h6 h7 h9 c1 c2 c3 t c6 (.inr W) hk
    .have e0:=hq0 t;subst e0;unfold N8 at hk;generalize fill (vU a.B st.c) e.r none none a.B.length (iU _ (agX _))=L at hk;obtain ⟨v',R1,k,DD,XX⟩:=L;dsimp only at hk;have e2:gI (vU a.B st.c) (y9 e.ps args a.X) e.os k DD=⟨[],[],k,DD⟩:=by rw [W];rfl
     rw [e2] at hk;dsimp only at hk;obtain ⟨d1,d2⟩:=aI hk;refine ⟨_,aU.kX d2 (by simp) rfl rfl ?_⟩;show Sat (ab ρ T ((R1++[]).map (λx:Bool×Row=>CD (some gk) x.2)++_)++_) w;rw [j5,bg,cb];exact Eh p _ (λit bH=>⟨(Kf t d1 it bH).1,(Kf t d1 it bH).2 _ _⟩)
   .cases u
  .cases h
end
def SD:(t:Ty)->List t.T->Option za
 | .s,xs=>some (xs.map S)
 | .i k,xs=>some (xs.map (.int k))
 |_,_=>none
def glI(p:Nat×Nat×cm):Item:=match p.2.2 with
 |⟨.l t,xs⟩=>(match SD t xs with
  |some cs=>gl p.1 cs
  |none=>jr)
 |_=>jr
def Cx.Γ(X:Cx):Ctx:=X.gls.map glI
def Yw:List (Nat×Nat×cm)->Nat->Option cm
 |[],_=>none
 |p::l,b=>aD (Nat.beq p.1 b) (some p.2.2) (Yw l b)
theorem abO:{l:List (Nat×Nat×cm)}->{b:Nat}->{d:cm}->Yw l b=some d->∃p,p∈l/\p.1=b/\p.2.2=d
 |[],_,_,h=>by cases h
 |p::l,b,d,h=>by
  unfold Yw at h;rcases ek h with ⟨f,a⟩|⟨_,a⟩
  .cases a;exact ⟨p,c8 .., b0 f,rfl⟩
  .obtain ⟨q,e,c⟩:=abO a;exact ⟨q,cp _ e,c⟩
theorem ajg{M:Nat->Prop}{w:World}:{t:Ty}->{xs:List t.T}->{cs:za}->SD t xs=some cs->cT t.rep M w cs xs
 | .s,xs,_,h=>by cases h;exact aaZ xs
 | .i k,xs,_,h=>by cases h;exact Ws xs
 | .bo,_,_,h|.un,_,_,h|.n,_,_,h|.p _ _,_,_,h|.l _,_,_,h|.mp _ _,_,_,h|.ex,_,_,h=>by cases h
structure GA where
 n:Nat
 e:TypeId
 b:Nat
 t:Ty
 xs:List t.T
 m:Nat
def gaA(X:Cx)(T:aB)(fr:Fr)(st:aC)(g:GK)(t:TypeId)(x:Operand):Option GA:=match X.P.underlying t with
 |some (.array n e)=>(match pz X.P e with
  |some z=>(match br T st.E fr.F g x with
   |some (.gp b)=>(match Yw X.gls b with
    |some ⟨.l u,xs⟩=>aD ((SD u xs).isSome&&Nat.beq z.1 u.n'&&Nat.beq n xs.length&&Nat.blt 0 n) (some ⟨n,e,b,u,xs,z.1⟩) none
    |_=>none)
   |_=>none)
  |none=>none)
 |_=>none
section
variable {X : Cx} {R : Type} {r : R} {K : cJ R} {T : aB} {fr : Fr} {st : aC} {g : GK} {d : Tmp} {ρ : ay} {Φ : Ctx} {w : World} {ty : TypeId} {pos : String} {af : zf} {gd : wb}
theorem aiv{t:TypeId}{x:Operand}{q:GA}(f:∀it∈X.Γ,it∈Φ)(A:Sat (ab ρ T st.G++(ab ρ T fr.H++Φ)) w)(h:gaA X T fr st g t x=some q):
  X.P.underlying t=some (.array q.n q.e)/\(∃bytes z,TI X.P q.e q.m bytes z)/\an (az ρ T st.E fr.F) (T.get g) x (.pointer (some ⟨q.b,0,none⟩))/\q.m=q.t.rep.n/\q.n=q.xs.length/\Nat.blt 0 q.n=true/\
   bS q.t.rep (Ctx.M (ab ρ T st.G++(ab ρ T fr.H++Φ))) w (sl (some ⟨q.b,0,none⟩,q.xs.length,q.xs.length)) q.xs:=by
 unfold gaA at h;split at h
 .rename_i n e ht;split at h
  .rename_i z y;obtain ⟨m,bytes,z⟩:=z;split at h
   .rename_i b hx;split at h
    .rename_i u xs B;obtain ⟨s,J⟩:=aI h;cases J;simp only [ar] at s;obtain ⟨⟨⟨r,I⟩,D⟩,C⟩:=s;have c:=aO (ρ:=ρ) hx;simp only [AV.val] at c;obtain ⟨p,p1,p2,o⟩:=abO B;obtain ⟨k,v,N⟩:=p;simp only at p2 o;subst p2;subst o;cases j:SD u xs with
     |none=>rw [j] at r;cases r
     |some cs=>
      have d:gl k cs∈Φ:=by have:=f (glI (k,v,⟨.l u,xs⟩)) (List.mem_map.2 ⟨_,p1,rfl⟩);unfold glI at this;simp only [j] at this;exact this
      have a:gl k cs∈ab ρ T st.G++(ab ρ T fr.H++Φ):=gx _ (gx _ d);obtain ⟨i,hi⟩:=List.mem_iff_getElem?.1 a;obtain ⟨L,K⟩:=A.gl hi;exact ⟨ht,⟨bytes,z,cR y⟩,c,(b0 I).trans u.EY.symm,b0 D,C,arU L K (ajg j)⟩
    .cases h
   .cases h
  .cases h
 .cases h
def Yn(X:Cx)(T:aB)(fr:Fr)(st:aC)(g:GK)(d:Tmp)(t:TypeId)(x y:Operand)(K:cJ R):Option R:=match gaA X T fr st g t x with
 |some q=>(match br T st.E fr.F g y with
  |some (.int _ i)=>aqq T g st d q.t q.xs i K
  |_=>none)
 |none=>none
theorem YK{N:TypeId}{x y:Operand}(hl:st.low fr=true)(O:∀it∈X.Γ,it∈Φ)(U:Sat (ab ρ T st.G++(ab ρ T fr.H++Φ)) w)(h:Yn X T fr st g d N x y K=some r):
  Pj X.P T g (az ρ T st.E fr.F) ⟨some d,.indexAddr N x y,ty,pos,af,gd⟩ w (aU r K T fr st g (some d) ρ Φ):=by
 unfold Yn at h;split at h
 .rename_i q hq;obtain ⟨ht,⟨bytes,z,C⟩,B,hm,hn,_,hS⟩:=aiv O U hq;obtain ⟨n,e,b,t,l,m⟩:=q;simp only at ht C B hm hn hS h;split at h
  .rename_i k i hy;have A:=aO (ρ:=ρ) hy;simp only [AV.val] at A;obtain ⟨u,V,b2⟩:=CQ h;have key:∃(p:Addr) (f:ay),aS st.c ρ f/\(f st.c).a=p/\(T.get g=true->Cl (sl (some ⟨b,0,none⟩,l.length,l.length)) i m p)/\
     ∀it∈ab f T (.elm g st.c (ed t u (st.c+1)).1::((ed t u (st.c+1)).2.1.map (ya g))),it.cM=true/\it.P (Ctx.M (ab ρ T st.G++(ab ρ T fr.H++Φ))) w:=by
    cases s:T.get g
    .refine ⟨⟨0,0,none⟩,ρ.set st.c dy,ay.aX,by rw [ay.bI];rfl,(λh=>by cases h),λit bH=>?_⟩;rw [ab,eT] at bH;rcases List.mem_cons.1 bH with rfl|bH
     .exact ⟨rfl,λh=>by rw [s] at h;cases h⟩
     .obtain ⟨r1,v,rfl⟩:=List.mem_map.1 bH;obtain ⟨r2,j,rfl⟩:=List.mem_map.1 v;obtain ⟨j1,t1,l1,rfl⟩:=LW _ _ _ _ j;exact w8 (λh=>by rw [s] at h;cases h)
    .obtain ⟨L,vs,S,e3,e4⟩:=hS.atA (V s);obtain ⟨f,m1⟩:=Im (T:=T) t u (st.c+1) vs e3 (ρ.set st.c { dy with a:=uW (sl (some ⟨b,0,none⟩,l.length,l.length)) i t.rep.n });have J:(f st.c).a=uW (sl (some ⟨b,0,none⟩,l.length,l.length)) i t.rep.n:=by rw [m1.ag _ (ko _),ay.bI]
     refine ⟨uW (sl (some ⟨b,0,none⟩,l.length,l.length)) i t.rep.n,f,ay.aX.trans m1.ag (j2 _),J,λ_=>by rw [hm];exact L,λit bH=>?_⟩;rw [ab,eT] at bH;rcases List.mem_cons.1 bH with rfl|bH
     .refine ⟨rfl,λ_=>?_⟩;show ¬Ctx.M _ (f st.c).a.block/\bM w (f st.c).a _;rw [J,m1.eq];exact ⟨e4,S⟩
     .obtain ⟨r1,v,rfl⟩:=List.mem_map.1 bH;obtain ⟨r2,j,rfl⟩:=List.mem_map.1 v;have R:=m1.rp _ j;obtain ⟨j1,t1,l1,rfl⟩:=m1.rs _ j;exact w8 (λ_=>R)
   obtain ⟨p,f,k1,Z,Y,W⟩:=key;have Q:=Eh U _ W;have eG:=aZ (T:=T) k1 (aC.cG.1 hl).2.2.1
   -- what stands there where g does not hold does not count
   have D:∀w',bc X.P (az ρ T st.E fr.F) (T.get g) ⟨some d,.indexAddr N x y,ty,pos,af,gd⟩ w' (.pointer (some ((⟨b,0,none⟩:Addr).add (i.toNat*m)))):=λw'=>
    CG ht C B A (λs=>aoZ (V s) hn.symm)
   have o:aU r K T fr st g (some d) ρ Φ (.pointer (some p)) w:=by
    refine aU.new (ρ':=f) hl b2 k1 (dx (j2 _) (MI _ _ _)) rfl (by simp only [AV.val,Z];simp [Addr.add]) ?_;show Sat (ab f T (Row.elm g st.c _::(_++st.G))++_) w;have e8:ab f T (Row.elm g st.c (ed t u (st.c+1)).1::((ed t u (st.c+1)).2.1.map (ya g)++st.G))=ab f T (.elm g st.c (ed t u (st.c+1)).1::((ed t u (st.c+1)).2.1.map (ya g)))++ab f T st.G:=by simp [ab]
    rw [e8,eG,cb];exact Q
   cases s:T.get g
   .exact ⟨_,λw'=>λn a hf I=>(by rw [s] at I;cases I),o⟩
   .obtain ⟨a,len,cap,L,_,_,S⟩:=Y s;have e3:p=(⟨b,0,none⟩:Addr).add (i.toNat*m):=by
     injection L with L _ _
     cases L;exact S
    subst e3;exact ⟨_,D,o⟩
  .cases h
 .cases h
def amG(X:Cx)(T:aB)(fr:Fr)(st:aC)(d:Tmp)(t:TypeId)(x:Operand)(lo hi mx:Option Operand)(K:cJ R):Option R:=match lo,hi,mx with
 |none,none,none=>(match gaA X T fr st none t x with
  |some q=>K { st with c:=st.c+1,E:=cN (some d) none (.sl st.c) st.E,G:= .sli none st.c q.t q.xs false::st.G }
  |none=>none)
 |_,_,_=>none
theorem aoe{t:TypeId}{x:Operand}{lo hi g:Option Operand}(hl:st.low fr=true)(e:∀it∈X.Γ,it∈Φ)(i:Sat (ab ρ T st.G++(ab ρ T fr.H++Φ)) w)(h:amG X T fr st d t x lo hi g K=some r):
  mW X.P T none (az ρ T st.E fr.F) ⟨some d,.slice t x lo hi g,ty,pos,af,gd⟩ w (aU r K T fr st none (some d) ρ Φ):=by
 unfold amG at h;split at h
 .split at h
  next q j=>obtain ⟨ht,⟨bytes,z,f⟩,a,hm,hn,c,hS⟩:=aiv e i j;rw [aB.get_none] at a;refine .none_ (bK.gd (bK.run (af3 ht f c a) ?_));refine aU.push (x:={ dy with v:=(some ⟨q.b,0,none⟩,q.n,q.n) }) hl h (by simp only [AV.val,ay.bI];rfl) (i.add rfl ?_);intro _;rw [ay.bI];exact ⟨by rw [hn];exact hS,λh=>by cases h⟩
  .cases h
 .cases h
end
variable {cv : x3 × AV}
def sEq(P:Program)(t:TypeId)(a b:AV):x3:=match P.underlying t with
 |some (.int _)=>(match a,b with
  | .int k x,.int k' y=>aD (jT k k') (some (x==y)) none
  |_,_=>none)
 |some .bool=>(match a,b with
  | .bool x,.bool y=>some (x==y)
  |_,_=>none)
 |some .string=>(match a,b with
  | .str x,.str y=>some (x==y)
  |_,_=>none)
 |_=>none
def fEq(P:Program):List Field->Nat->List AV->List AV->Option zi
 |[],_,l1,l2=>aD (l1.isEmpty&&l2.isEmpty) (some []) none
 |f::fs,k,l1,l2=>(match l1,l2 with
  |a::l1,b::l2=>aD (f.name != "_" &&Nat.beq f.offset k) (match sEq P f.type a b with
   |some r=>(match fEq P fs (k+1) l1 l2 with
    |some l=>some (r::l)
    |none=>none)
   |none=>none) none
  |_,_=>none)
def aa4:Bool->zi->Bool
 |b,[]=>b
 |b,c::l=>aa4 (b&&c) l
def eqL:zi->Bool
 |[]=>true
 |b::l=>aa4 b l
theorem ade:∀{l:zi} {b:Bool},aa4 b l=(b&&l.foldr (· && ·) true)
 |[],b=>by simp [aa4]
 |c::l,b=>by simp only [aa4,ade,List.foldr_cons,Bool.and_assoc]
theorem aro:∀{l:zi},eqL l=l.foldr (· && ·) true
 |[]=>rfl
 |b::l=>by simp only [eqL,ade,List.foldr_cons]
def aky(X:Cx)(T:aB)(E F:aF)(g:GK):Op->CV
 | .binOp op t x y _=>(match br T E F g x with
  |some (.agg l1)=>(match br T E F g y with
   |some (.agg l2)=>(match X.P.underlying t with
    |some (.struct fs)=>aD (!(X.P.eqGuardType X.P.depth t)&& !(X.P.stoodInHeld t)) (match fEq X.P fs.toList 0 l1 l2 with
     |some bs=>(match op with
      | .eql=>pv (.bool (eqL bs))
      | .neq=>pv (.bool (!(eqL bs)))
      |_=>none)
     |none=>none) none
    |_=>none)
   |_=>none)
  |_=>none)
 |_=>none
def amr(X:Cx)(T:aB)(E F:aF)(g:GK):Op->CV
 | .typeAssert x _ t true=>(match X.P.underlying t with
  |some dd=>aD (!(iY dd)) (match br T E F g x with
   |some (.ifc t' v)=>aD (Nat.beq t' t) (pv (.tuple [v,.bool true])) (match pz X.P t with
    |some z=>pv (.tuple [.raw z.2.2,.bool false])
    |none=>none)
   |some (.raw .nilIface)=>(match pz X.P t with
    |some z=>pv (.tuple [.raw z.2.2,.bool false])
    |none=>none)
   |_=>none) none
  |none=>none)
 |_=>none
def agr(X:Cx)(T:aB)(E F:aF)(g:GK):Op->CV
 | .indexAddr t x (.const (.int _ (.ofNat j)))=>(match X.P.underlying t with
  |some (.array n e)=>(match pz X.P e with
   |some z=>(match br T E F g x with
    |some (.ptr id off)=>aD (Nat.blt j n) (pv (.ptr id (off+j*z.1))) none
    |_=>none)
   |none=>none)
  |_=>none)
 |_=>none
def amc(X:Cx)(T:aB)(E F:aF)(g:GK)(op:Op):CV:=match alX X T E F g op with
 |some cv=>some cv
 |none=>(match aky X T E F g op with
  |some cv=>some cv
  |none=>(match amr X T E F g op with
   |some cv=>some cv
   |none=>agr X T E F g op))
section
variable {X : Cx} {T : aB} {E F : aF} {g : GK} {ρ : ay} {w : World} {dst : zd} {ty : TypeId} {pos : String} {af : zf} {gd : wb}
theorem aqv{P:Program}{t:TypeId}{a b:AV}{r:Bool}(d:Nat)(h:sEq P t a b=some r):(∃td,P.underlying t=some td/\mV td=false)/\(Op.equalIn (d+1) t (a.val ρ) (b.val ρ)).run P w= .ok r w:=by
 unfold sEq at h;split at h
 .rename_i g ht;split at h
  next k x i y=>obtain ⟨f,c⟩:=aI h;cases c;have e:=nY f;subst e;exact ⟨⟨_,ht,rfl⟩,by simp only [AV.val];exact run_equalIn_int w d t _ _ _ _ ht⟩
  .cases h
 .rename_i ht;split at h
  .cases h;exact ⟨⟨_,ht,rfl⟩,by simp only [AV.val];exact run_equalIn_bool' w d t _ _ ht⟩
  .cases h
 .rename_i ht;split at h
  .cases h;exact ⟨⟨_,ht,rfl⟩,by simp only [AV.val];exact XD _ w d t _ _ ht⟩
  .cases h
 .cases h
theorem ajo{P:Program}{xs ys:za}(d:Nat):∀{j:List Field} {k:Nat} {l1 e:List AV} {g:zi},fEq P j k l1 e=some g->xs.drop k=AV.al ρ l1->ys.drop k=AV.al ρ e->
  (Op.eqFields (d+1) xs.toArray ys.toArray j).run P w= .ok (g.foldr (· && ·) true) w
 |[],k,l1,e,g,h,_,_=>by
  unfold fEq at h;obtain ⟨_,c⟩:=aI h;cases c;exact an7
 |f::j,k,l1,e,g,h,hx,hy=>by
  unfold fEq at h;split at h
  .rename_i a l1 b e;obtain ⟨i,c⟩:=aI h;simp only [ar] at i;have m:=b0 i.2;split at c
   .rename_i r o;split at c
    .rename_i l hl;cases c;obtain ⟨⟨s,t1,t2⟩,n⟩:=aqv (ρ:=ρ) (w:=w) d o;simp only [AV.al] at hx hy;have q:xs[k]? =some (a.val ρ):=by rw [<-List.head?_drop,hx];rfl
     have p:ys[k]? =some (b.val ρ):=by rw [<-List.head?_drop,hy];rfl
     refine amC i.1 (af8 t1 t2 (by rw [m];exact q)) (af8 t1 t2 (by rw [m];exact p)) n ?_;refine ajo d hl ?_ ?_
     .rw [<-qy,hx];rfl
     .rw [<-qy,hy];rfl
    .cases c
   .cases c
  .cases h
theorem al7{op:Op}(h:aky X T E F g op=some cv):pS X.P (az ρ T E F) ρ (T.get g) ⟨dst,op,ty,pos,af,gd⟩ w cv:=by
 unfold aky at h;split at h
 .rename_i m t x y t';split at h
  .rename_i l1 hx;split at h
   .rename_i i j;split at h
    .rename_i k ht;obtain ⟨d,c⟩:=aI h;simp only [ar,mm] at d;split at c
     .rename_i l e;have b:=aO (ρ:=ρ) hx;have a:=aO (ρ:=ρ) j;simp only [AV.val] at b a;have f:X.P.fieldsOf t=k:=by simp [Program.fieldsOf,ht]
      have key:(Op.equalIn 10000 t (.agg (AV.al ρ l1).toArray) (.agg (AV.al ρ i).toArray)).run X.P w= .ok (eqL l) w:=by rw [run_equalIn_struct w 9999 t _ _ (by rw [f];exact ht) d.2,f,aro];exact ajo 9998 e rfl rfl
      split at c
      .refine .pv c (cz b a ?_);rw [Sem.run_bind,run_eqGuard_agg w _ _ _ _ _ _ d.1,Result.andThen_ok,run_eql_struct,key];simp only [AV.val,Result.andThen_ok]
      .refine .pv c (cz b a ?_);rw [Sem.run_bind,run_eqGuard_agg w _ _ _ _ _ _ d.1,Result.andThen_ok,run_neq_struct,key];simp only [AV.val,Result.andThen_ok]
      .cases c
     .cases c
    .cases h
   .cases h
  .cases h
 .cases h
theorem akC{op:Op}(h:amr X T E F g op=some cv):pS X.P (az ρ T E F) ρ (T.get g) ⟨dst,op,ty,pos,af,gd⟩ w cv:=by
 unfold amr at h;split at h
 .rename_i x s t;split at h
  .rename_i dd ht;obtain ⟨i,b⟩:=aI h;have hd:iY dd=false:=by simpa using i
   split at b
   .rename_i t' v hx;have a:=aO (ρ:=ρ) hx;simp only [AV.val] at a;rcases ek b with ⟨f,c⟩|⟨f,c⟩
    .have:=b0 f;subst this;refine .pv c ?_;simp only [AV.val,AV.al];exact Xz ht hd a
    .split at c
     next z d=>obtain ⟨n,bytes,z⟩:=z;refine .pv c ?_;simp only [AV.val,AV.al];exact Xt (λe=>by subst e;simp at f) ht hd (cR d) a
     .cases c
   .rename_i hx;split at b
    next z d=>obtain ⟨n,bytes,z⟩:=z;have a:=aO (ρ:=ρ) hx;simp only [AV.val] at a;refine .pv b ?_;simp only [AV.val,AV.al];exact XM ht hd (cR d) a
    .cases b
   .cases b
  .cases h
 .cases h
theorem aiF{op:Op}(h:agr X T E F g op=some cv):pS X.P (az ρ T E F) ρ (T.get g) ⟨dst,op,ty,pos,af,gd⟩ w cv:=by
 unfold agr at h;split at h
 .rename_i t x k j;split at h
  .rename_i n e ht;split at h
   .rename_i z l;obtain ⟨m,bytes,z⟩:=z;split at h
    .rename_i id d hx;obtain ⟨i,o⟩:=aI h;have f:=aO (ρ:=ρ) hx;simp only [AV.val] at f;refine .pv o ?_;have a:=CG (P:=X.P) (w:=w) (dst:=dst) (ty:=ty) (pos:=pos) (af:=af) (gd:=gd) (y:= .const (.int k (.ofNat j))) ht (cR l) f an.c (by intro _;rw [j0] at i;exact n5.2 ⟨Int.natCast_nonneg j,by simpa using i⟩)
     have p:((⟨(ρ id).b,d,none⟩:Addr).add ((Int.ofNat j).toNat*m))=⟨(ρ id).b,d+j*m,none⟩:=by rw [add_plain];rfl
     rw [p] at a;simpa only [AV.val] using a
    .cases h
   .cases h
  .cases h
 .cases h
theorem amH{op:Op}(c:fZ T E F)(h:amc X T E F g op=some cv):pS X.P (az ρ T E F) ρ (T.get g) ⟨dst,op,ty,pos,af,gd⟩ w cv:=by
 unfold amc at h;split at h
 next b a=>cases h;exact amo c a
 .split at h
  next b a=>cases h;exact al7 a
  .split at h
   next b a=>cases h;exact akC a
   .exact aiF h
end
variable {d : TypeDesc} {x : Operand}
def yj{α:Type}(xs ys:List α):List α:=ys.take xs.length++xs.drop ys.length
section
variable {P : Program} {E : Env} {w : World} {g : Bool}
variable {dst : zd} {ty : TypeId} {pos : String} {af : zf} {gd : wb}
theorem ak9{α:Type}{A:fg α}{M:Nat->Prop}{v u:Value}{t ty e:TypeId}{bytes:Nat}{z:Value}{R:zk}(ht:P.underlying t=some (.slice e))(B:TI P e A.n bytes z)
  {xs ys:List α} (N:cg A e M w v xs R) (y:bS A M w u ys) (_hM:∀b∈R,M b):
  ∃w',(Builtin.copy_ #[t,t] ty #[v,u]).run P w= .ok (.int .i64 ((Nat.min ys.length xs.length:Nat):Int)) w'/\mC R w w'/\w'.heap.size=w.heap.size/\∀M',Mv M w M' w'->cg A e M' w' v (yj xs ys) R:=by
 obtain ⟨i,hi,hs,_,_⟩:=B.out;by_cases g:xs=[]\/ys=[]
 .have hc:yj xs ys=xs:=by unfold yj;rcases g with g|g <;> subst g <;> simp
  have hn:Nat.min ys.length xs.length=0:=by rcases g with g|g <;> subst g <;> simp
  obtain ⟨p,c,rfl,_⟩:=N.shape;obtain ⟨a,c2,rfl⟩:=y.len;refine ⟨w,?_,(Ext.refl w).wS _,rfl,λM' m=>?_⟩
  .have hl:∀a:Addr,(loadCells a 0).run P w= .ok #[] w:=λa=>run_loadCells_list (P:=P) w a [] (λj v Y=>by simp at Y);rw [hn];cases a <;> cases p <;> simp [Builtin.copy_,run_underlying ht,sizeOf,typeInfo,hi,Builtin.lenOf,Builtin.firstCells,hn,hl,storeCells,goInt]
  .rw [hc];exact N.cY (λb hb=>rfl) m
 .have hx:xs≠[]:=λh=>g (.inl h);have W:ys≠[]:=λh=>g (.inr h);obtain ⟨b,c,cur,rfl,rfl,T,r,F,K,L⟩:=N.row hx;rcases y with ⟨_,I⟩|⟨b2,k,H,G,e2,fr2,rfl,U,S,Z,X,l⟩
  .exact absurd I W
  have O:((G.toList.drop k).take (ys.length*A.n)).length=ys.length*A.n:=l.1;generalize Q:(G.toList.drop k).take (ys.length*A.n)=x at l O;have E:Nat.min ys.length xs.length<=ys.length:=Nat.min_le_left _ _;have D:Nat.min ys.length xs.length<=xs.length:=Nat.min_le_right _ _;generalize hn:Nat.min ys.length xs.length=n at E D;have m1:n*A.n<=ys.length*A.n:=hU _ E;have V:n*A.n<=xs.length*A.n:=hU _ D;have m3:xs.length*A.n<=c*A.n:=hU _ r;have d:(x.take (n*A.n)).length=n*A.n:=by rw [dh];omega
  have s:cur.toList.length=c*A.n:=by simpa using K
  have run:=vM (P:=P) (w:=w) (ty:=ty) ht B (b:=b) (o:=0) (dl:=xs.length) (dc:=c) (cur:=cur) (e':=e) (a:=⟨b2,k,none⟩) (ls:=ys.length) (sc:=H) (cs:=x.take (n*A.n))
   (by rw [d,hn]) (cell_of_heap S k _ (by rw [d,<-Q,qF,hV m1])) T (by rw [d];omega) (λv J=>l.Dz v (qV J))
  refine ⟨_,by rw [run,hn];rfl,x8 b _,by simp,λM' m=>?_⟩;have hd:yj xs ys=ys.take n++xs.drop n:=by
   unfold yj;have q:min ys.length xs.length=n:=hn;clear hn;rcases Nat.le_total ys.length xs.length with h|h
   .rw [hV h] at q;subst q;rw [fb h,fb (cH _)]
   .rw [Nat.min_eq_right h] at q;subst q;rw [qb h,qb (cH _)]
  have f:(yj xs ys).length=xs.length:=by rw [hd,et,dh,iN];omega
  have key:=(((l.take n).mv m).append ((L.drop n).mv m));have C:=setRow_heap w b cur (cur.toList.take 0++x.take (n*A.n)++cur.toList.drop (0+(x.take (n*A.n)).length)).toArray e (0,0) T;have J:Value.slice (some ⟨b,0,none⟩) xs.length c=Value.slice (some ⟨b,0,none⟩) (yj xs ys).length c:=by rw [f]
  rw [J];refine cg.mk_ C (by rw [f];exact r) F ?_ ?_
  .simp only [tx,oY,ma,qd,et,d,iN,s];omega
  .rw [f,hd];simp only [tx,oY,ma,d];have e1:((x.take (n*A.n))++cur.toList.drop (n*A.n)).take (xs.length*A.n)=x.take (n*A.n)++(cur.toList.take (xs.length*A.n)).drop (n*A.n):=by rw [ua,d,qF,Nat.min_eq_right V,qx]
   rw [e1];simpa only [tx,oY,ma,d] using key
theorem afy{x y:Operand}{t e:TypeId}{n m bytes:Nat}{z v:Value}{d:TypeDesc}{cs:za}{i:Int}{k:IntKind}(ht:P.underlying t=some (.array n e))(hd:P.underlying e=some d)(b:TI P e m bytes z)
  (hx:an E g x (.agg cs.toArray)) (h:an E g y (.int k i)) (p:0<=i) (o:i<(n:Nat)) (j:(if mV d then some (.agg ((cs.drop (i.toNat*m)).take m).toArray) else cs[i.toNat*m]?)=some v):
  bc P E g ⟨dst,.index t x y,ty,pos,af,gd⟩ w v:=
 λn' a f c=>by have hp:=Z9 (w:=w) hd b j;obtain ⟨q,hi,l,_,_⟩:=b.out;simp [execOp,hx n' a f c,h n' a f c,Instr.index,asIntOf,run_underlying ht,sizeOf,typeInfo,hi,l,p,o,hp]
theorem aco{x y h:Operand}{p:Addr}{len m bytes:Nat}{z:Value}{t e:TypeId}{k i:IntKind}(ht:P.underlying t=some (.array len e))(b:TI P e m bytes z)(hx:an E g x (.pointer (some p)))(j:an E g y (.int k (len:Nat)))(l:an E g h (.int i (len:Nat))):
  bc P E g ⟨dst,.slice t x none (some y) (some h),ty,pos,af,gd⟩ w (.slice (some p) len len):=
 λn' a f d=>by obtain ⟨n,c,o,_,_⟩:=b.out;simp [execOp,hx n' a f d,j n' a f d,l n' a f d,Instr.sliceAt,run_underlying ht,Instr.sureAddr,Instr.sliceBounds,run_sliceBound,sizeOf,typeInfo,c,Addr.add]
theorem ago{y:Operand}{t t' u:TypeId}{v:Value}(ht:P.underlying t=some d)(hd:iY d=true)(hx:an E g x (.iface u v))(a:an E g y .nilIface):
  bc P E g ⟨dst,.binOp .neq t x y t',ty,pos,af,gd⟩ w (.bool true):=
 cz (P:=P) hx a (by
  rw [Sem.run_bind,gS rfl,Result.andThen_ok];have h:∀k:Nat,(Op.equalIn (k+1) t (.iface u v) .nilIface).run P w= .ok false w:=λk=>by cases d <;> first|(cases hd;done)|simp [Op.equalIn,run_underlying ht]
  simp only [binOp];simp [Op.equal,Op.maxDepth,h 9999])
theorem acM{t t':TypeId}(ht:P.underlying t=some d)(hd:iY d=true)(hx:an E g x .nilIface):
  bc P E g ⟨dst,.binOp .neq t x (.const .nilIface) t',ty,pos,af,gd⟩ w (.bool false):=
 cz (P:=P) hx (y:= .const .nilIface) (v:= .nilIface) (λ_ _ _ _=>rfl) (by
  have h:∀k:Nat,(Op.equalIn (k+1) t .nilIface .nilIface).run P w= .ok true w:=λk=>by cases d <;> first|(cases hd;done)|simp [Op.equalIn,run_underlying ht]
  have a:(eqGuard .neq t x (.const .nilIface) .nilIface .nilIface).run P w= .ok () w:=by unfold eqGuard;simp
  rw [Sem.run_bind,a,Result.andThen_ok];simp only [binOp];simp [Op.equal,Op.maxDepth,h 9999])
theorem Reach.val{t:TypeId}{u:Value}{a:String}{f:FuncId}(h:Mr P t a f false)(ht:P.underlying t=some d)(hd:∀e,d≠ .pointer e):Reach P w t u a f u:=λk=>by obtain ⟨i,m,hi,hm,hp,b⟩:=h.out;unfold method;simp only [typeInfo,hi,hm,hp,b,follow,Sem.run_bind,Sem.run_pure,Result.andThen_ok,run_program];cases d <;> first|exact absurd rfl (hd _)|simp [receiverAt,run_underlying ht,Place.get]
theorem acF{n:Nat}{g:Bool}{f:FuncId}{r:Operand}{it t:TypeId}{d:TypeDesc}{u u':Value}{b:String}{vs:za}{xs:xc}{tys:Array TypeId}{dst:zd}{gd:Option (Nat×Bool)}
  (k:Enters P f) (j:an E g r (.func (.methodOf it b) #[] #[])) (bH:P.underlying it=some d) (hd:iY d=true) (hm:g=true->Reach P w t u b f u') (c:kg E g xs (.iface t u::vs)) {a:Act} (h:Fits n E a) (e:g=true):
  (execOp a.eval ⟨dst,.call ⟨.value r,xs.toArray,tys⟩,ty,pos,af,gd⟩).run P w= .ok (.enter f (u'::vs).toArray) w:=by
 have p:(Array.map a.eval xs.toArray)=(Value.iface t u::vs).toArray:=by simp [c.map h e]
 have l:=k (u'::vs).toArray w;have i:=hm e (P.types.size+99);have o:P.types.size+99+1=P.types.size+Made.depth:=rfl;rw [o] at i;have e3:((Value.iface t u::vs).toArray)[0]? =some (Value.iface t u):=by simp
 have e4:((Value.iface t u::vs).toArray).extract 1 ((Value.iface t u::vs).toArray).size=vs.toArray:=by simp
 have m:(#[u']++vs.toArray)=(u'::vs).toArray:=by simp
 cases d <;> first|(cases hd;done)|skip;simp only [execOp,resolve,j n a h e,Deferred.ofValue,p,Sem.run_bind,Sem.run_pure,Result.andThen_ok];simp only [tt,invoke,e3,e4,Sem.run_bind,run_underlying bH,Result.andThen_ok,callMethod,run_program,i,m,l]
end
def ala(X:Cx)(T:aB)(E F:aF)(g:GK):Op->CV
 | .index t x y=>(match X.P.underlying t with
  |some (.array n e)=>(match pz X.P e with
   |some z=>(match br T E F g x with
    |some (.agg cs)=>(match br T E F g y with
     |some (.int _ i)=>aD (decide (0<=i)&&decide (i<(n:Int))) (match nU X.P e (cs.drop (i.toNat*z.1)) with
      |some v=>pv v
      |none=>none) none
     |_=>none)
    |_=>none)
   |none=>none)
  |_=>none)
 | .binOp .neq t x (.const .nilIface) _=>(match X.P.underlying t with
  |some d=>aD (iY d) (match br T E F g x with
   |some (.ifc _ _)=>pv (.bool true)
   |some (.raw .nilIface)=>pv (.bool false)
   |_=>none) none
  |none=>none)
 | .makeFunc (.methodOf t nm) ⟨[]⟩ ⟨[]⟩=>pv (.raw (.func (.methodOf t nm) #[] #[]))
 |_=>none
section
variable {X : Cx} {ρ : ay} {T : aB} {E F : aF} {g : GK} {w : World} {dst : zd} {ty : TypeId} {pos : String} {af : zf} {gd : wb}
theorem aj6{op:Op}(h:ala X T E F g op=some cv):pS X.P (az ρ T E F) ρ (T.get g) ⟨dst,op,ty,pos,af,gd⟩ w cv:=by
 unfold ala at h;split at h
 .rename_i t x y;split at h
  .rename_i n e ht;split at h
   .rename_i z q;obtain ⟨m,bytes,z⟩:=z;split at h
    .rename_i cs hx;split at h
     .rename_i k i r;obtain ⟨f,b⟩:=aI h;simp only [ar,eW] at f;split at b
      .rename_i v s;obtain ⟨d,n',p,C,c1,B,o⟩:=rX (ρ:=ρ) s;have a:=aO (ρ:=ρ) hx;have j:=aO (ρ:=ρ) r;simp only [AV.val] at a j;have c:=cR q;refine .pv b (afy ht c1 c a j f.1 f.2 ?_);cases hd:mV d
       .rw [hd] at o;exact o
       .rw [hd] at o;have l:=B hd;unfold TI at l c;rw [c] at l;simp only [ej,q5] at l;have A:m=n':=l.1;subst A;exact o
      .cases b
     .cases h
    .cases h
   .cases h
  .cases h
 .split at h
  .rename_i d ht;obtain ⟨f,b⟩:=aI h;split at b
   next u v hx=>have a:=aO (ρ:=ρ) hx;simp only [AV.val] at a;exact .pv b (ago ht f a (λ_ _ _ _=>rfl))
   next hx=>have a:=aO (ρ:=ρ) hx;simp only [AV.val] at a;exact .pv b (acM ht f a)
   .cases b
  .cases h
 .exact .pv h (MX (first:=[]) (cap:=[]) .nil .nil)
 .cases h
end
def ajY(X:Cx)(T:aB)(E F:aF)(g:GK):Op->CV
 | .binOp .eql t x y _=>(match X.P.underlying t with
  |some (.pointer _)=>(match br T E F g x with
   |some (.sfp _ f)=>(match br T E F g y with
    |some (.raw (.pointer none))=>pv (.bool (!f))
    |_=>none)
   |_=>none)
  |_=>none)
 | .binOp .neq t x y _=>(match X.P.underlying t with
  |some (.pointer e)=>(match pz X.P e with
   |some _=>(match br T E F g x with
    |some (.sfp j f)=>(match br T E F g y with
     |some (.ptr j' 0)=>aD (Nat.beq j j') (pv (.bool (!f))) none
     |_=>none)
    |_=>none)
   |none=>none)
  |_=>none)
 | .call ⟨.value (.func f),⟨[x]⟩,_⟩=>aD (wh f X.ids) (match br T E F g x with
  |some v=>pv v
  |none=>none) none
 |_=>none
def alc(X:Cx)(T:aB)(E F:aF)(G H:List Row)(g:GK):Op->CV
 | .convert s d x=>(match br T E F g x with
  |some (.ptr j 0)=>(match eK G H (Bk j) with
   |some (_,.box _ e' cs)=>(match X.P.underlying s with
    |some (.pointer e)=>(match X.P.underlying d with
     |some .unsafePointer=>(match pz X.P e with
      |some z=>aD (Nat.blt 0 z.1&&Nat.blt 0 cs.length) (pv (.ptr j 0)) none
      |none=>none)
     |_=>none)
    |some .unsafePointer=>(match X.P.underlying d with
     |some (.pointer e)=>(match pz X.P e with
      |some _=>aD (liesAt X.P X.P.depth e' (cs.length/X.P.cellsOf e') 0 e 1) (pv (.ptr j 0)) none
      |none=>none)
     |_=>none)
    |_=>none)
   |_=>none)
  |_=>none)
 |_=>none
def af5(X:Cx)(T:aB)(E F:aF)(g:GK)(op:Op):CV:=match amc X T E F g op with
 |some cv=>some cv
 |none=>(match ala X T E F g op with
  |some cv=>some cv
  |none=>ajY X T E F g op)
def afn(X:Cx)(T:aB)(E F:aF)(G H:List Row)(g:GK)(op:Op):CV:=match aj7 X T E F G H g op with
 |some cv=>some cv
 |none=>alc X T E F G H g op
abbrev ap7(xs ys:zj):zj:=xs++ys
def aeN{R:Type}(X:Cx)(T:aB)(fr:Fr)(st:aC)(d:Tmp)(t u:TypeId)(x y:Operand)(K:cJ R):Option R:=match jE X.P t with
 |some e=>(match pz X.P e with
  |some (1,1,.int .u8 (.ofNat 0))=>aD (isStr X.P u) (match br T st.E fr.F none y with
   |some (.str s)=>(match br T st.E fr.F none x with
    |some (.sl id)=>(match eK st.G fr.H (pM id) with
     |some (.top j,.own _ u' e' xs _)=>aD (Nat.beq e e') (match vh.cm.asL (.i .u8) ⟨.l u',xs⟩ with
      |some xs=>aN (aH (List.length xs+s.length) 1) (K { st with c:=st.c+1,E:=cN (some d) none (.sl st.c) st.E,G:=st.G.set j (.own st.c (.i .u8) e (ap7 xs (aQ s)) st.c) })
      |none=>none) none
     |_=>none)
    |some (.raw (.slice none 0 0))=>aN (aH (([]:zj).length+s.length) 1) (K { st with c:=st.c+1,E:=cN (some d) none (.sl st.c) st.E,G:= .own st.c (.i .u8) e (([]:zj)++aQ s) st.c::st.G })
    |_=>none)
   |_=>none) none
  |_=>none)
 |none=>none
section
variable {X : Cx} {T : aB} {E F : aF} {G H : List Row} {g : GK} {ρ : ay} {w : World} {dst : zd} {ty : TypeId} {pos : String} {af : zf} {gd : wb} {Φ : Ctx}
theorem amP{op:Op}(h:ajY X T E F g op=some cv):pS X.P (az ρ T E F) ρ (T.get g) ⟨dst,op,ty,pos,af,gd⟩ w cv:=by
 unfold ajY at h;split at h
 .rename_i t x y s;split at h
  .rename_i e ht;split at h
   .rename_i j f hx;split at h
    next d=>have b:=aO (ρ:=ρ) hx;have a:=aO (ρ:=ρ) d;simp only [AV.val] at b a;exact .pv h (afk ht b a)
    .cases h
   .cases h
  .cases h
 .rename_i t x y s;split at h
  .rename_i e ht;split at h
   .rename_i z k;obtain ⟨n,bytes,z⟩:=z;split at h
    .rename_i j f hx;split at h
     next l d=>obtain ⟨i,c⟩:=aI h;have:=b0 i;subst this;have b:=aO (ρ:=ρ) hx;have a:=aO (ρ:=ρ) d;simp only [AV.val] at b a;exact .pv c (agF ht (cR k) b a)
     .cases h
    .cases h
   .cases h
  .cases h
 .rename_i f x tys;obtain ⟨i,c⟩:=aI h;split at c
  next v hx=>exact .pv c (ame (X.idsOk f (Ze.1 i)) (aO (ρ:=ρ) hx))
  .cases c
 .cases h
theorem amb{op:Op}(o:Sat (ab ρ T G++(ab ρ T H++Φ)) w)(h:alc X T E F G H g op=some cv):pS X.P (az ρ T E F) ρ (T.get g) ⟨dst,op,ty,pos,af,gd⟩ w cv:=by
 unfold alc at h;split at h
 .rename_i s d x;split at h
  .rename_i j hx;split at h
   .rename_i t m e' cs p;obtain ⟨r,q⟩:=bX p;have:m=j:=b0 q;subst this;have hb:gK w (ρ m).b e' (AV.al ρ cs):=Src.holds o r;have a:=aO (ρ:=ρ) hx;simp only [AV.val] at a;split at h
    .rename_i e c;split at h
     .rename_i f;split at h
      next z k=>obtain ⟨n,bytes,z⟩:=z;obtain ⟨i,l⟩:=aI h;simp only [ar] at i;refine .pv l ?_;simp only [AV.val];exact abM c f (cR k) i.1 a hb (by rw [AV.bE];exact i.2)
      .cases h
     .cases h
    .rename_i c;split at h
     .rename_i e f;split at h
      next z k=>obtain ⟨n,bytes,z⟩:=z;obtain ⟨i,l⟩:=aI h;refine .pv l ?_;simp only [AV.val];exact Vk c f (cR k) a hb (by rw [AV.bE];exact i)
      .cases h
     .cases h
    .cases h
   .cases h
  .cases h
 .cases h
theorem Zm{op:Op}(c:fZ T E F)(h:af5 X T E F g op=some cv):pS X.P (az ρ T E F) ρ (T.get g) ⟨dst,op,ty,pos,af,gd⟩ w cv:=by
 unfold af5 at h;split at h
 next b a=>cases h;exact amH c a
 .split at h
  next b a=>cases h;exact aj6 a
  .exact amP h
theorem aac{op:Op}(b:Sat (ab ρ T G++(ab ρ T H++Φ)) w)(h:afn X T E F G H g op=some cv):pS X.P (az ρ T E F) ρ (T.get g) ⟨dst,op,ty,pos,af,gd⟩ w cv:=by
 unfold afn at h;split at h
 next c a=>cases h;exact akZ b a
 .exact amb b h
end
section
variable {X : Cx} {R : Type} {r : R} {K : cJ R} {T : aB} {fr : Fr} {st : aC} {d : Tmp} {ρ : ay} {Φ : Ctx} {w : World} {ty : TypeId} {pos : String} {af : zf} {gd : wb}
theorem Mi{P:Program}{E:Env}{M:Nat->Prop}{v:Value}{y:Operand}{t u e:TypeId}{R:zk}{xs:zj}{s:aE}(ht:P.underlying t=some (.slice e))(n:P.underlying u=some .string)(h:TI P e 1 1 (.int .u8 0))(hx:an E true x v)(k:an E true y (S s))
  (j:cg (RI .u8) e M w v xs R) (r:∀b∈R,M b) (c:aH (xs.length+s.length) 1=true):
  ∃f R' w',pn P E ⟨some d,.call ⟨.builtin .append,#[x,y],#[t,u]⟩,ty,pos,af,gd⟩ w f w'/\mC R w w'/\(∀b∈R',b<w'.heap.size/\(b∈R\/w.heap.size<=b))/\∀M',Mv M w M' w'->cg (RI .u8) e M' w' f (xs++aQ s) R':=by
 rcases j with ⟨rfl,p⟩|⟨rfl,rfl,⟨a0,rfl⟩,l⟩
 .obtain ⟨f,w',i,hC,q,j⟩:=xW t u ty e ht n h p r c;exact ⟨f,dS f,w',(λn' a g=>by simp [execOp,resolve,invoke,builtin,hx n' a g rfl,k n' a g rfl,i]),hC,q,λM' m=>cg.of (j M' m)⟩
 .rcases CA (M:=M) (w:=w) t u ty e ht n h (a0:=a0) (s:=s) (by simpa using c) with ⟨i,rfl⟩|⟨f,w',i,z,o,j⟩
  .exact ⟨.slice a0 0 0,[],w,(λn' a g=>by simp [execOp,resolve,invoke,builtin,hx n' a g rfl,k n' a g rfl,i]),(Ext.refl w).wS _,(λb hb=>by cases hb),λM' m=>by simpa [aQ] using cg.empty (e:=e) (l.mv m)⟩
  .exact ⟨f,dS f,w',(λn' a g=>by simp [execOp,resolve,invoke,builtin,hx n' a g rfl,k n' a g rfl,i]),z.wS _,(λb hb=>⟨(o b hb).1,.inr (o b hb).2⟩),λM' m=>cg.of (by simpa using j M' m)⟩
theorem alq{t u:TypeId}{y:Operand}(hl:st.low fr=true)(N:Sat (ab ρ T st.G++(ab ρ T fr.H++Φ)) w)(h:aeN X T fr st d t u x y K=some r):
  mW X.P T none (az ρ T st.E fr.F) ⟨some d,.call ⟨.builtin .append,#[x,y],#[t,u]⟩,ty,pos,af,gd⟩ w (aU r K T fr st none (some d) ρ Φ):=by
 have B:=(aC.cG.1 hl).2.2.1;unfold aeN at h;split at h
 .rename_i e V;split at h
  .rename_i hz;have z:TI X.P e 1 1 (.int .u8 0):=cR hz;obtain ⟨hu,h⟩:=aI h;have q:=uh hu;split at h
   .rename_i s hy;have k:=bJ (ρ:=ρ) hy;simp only [AV.val] at k;split at h
    .rename_i id hx;have g:=bJ (ρ:=ρ) hx;simp only [AV.val] at g;split at h
     .rename_i j J u' e' C Z hf;obtain ⟨h3,U⟩:=aI h;have:=b0 h3;subst this;split at U
      .rename_i xs L;obtain ⟨eu,ex⟩:=tC L;subst eu;simp only at ex;subst ex;obtain ⟨S,R⟩:=jq U;obtain ⟨Y,f2⟩:=bX hf;have:J=id:=b0 f2;subst this;have hi:=iH (ρ:=ρ) (T:=T) (Φ:=ab ρ T fr.H++Φ) Y;obtain ⟨hO,_⟩:=N.at_ hi;obtain ⟨D,R',w',O,hC,Q,A⟩:=Mi (P:=X.P) (E:=az ρ T st.E fr.F) (w:=w) (d:=d) (ty:=ty) (pos:=pos) (af:=af) (gd:=none) (cr V) q z g k hO (λb hb=>Ctx.kY hi hb) S;have I:Mv (Ctx.M (ab ρ T st.G++(ab ρ T fr.H++Φ))) w (Ctx.M (ab ρ T st.G++(ab ρ T fr.H++Φ))) w':=⟨hC.size,λb hb hn=>⟨hn,hC.block b hb (λhc=>hn (Ctx.kY hi hc))⟩⟩;have f:=A _ I;have n:∃p:jN,D=sl p:=by obtain ⟨a,cap,n⟩:=f.len;exact ⟨(a,_,cap),n⟩
       obtain ⟨p,rfl⟩:=n;have hj:j<st.G.length:=(List.getElem?_eq_some_iff.1 Y).1;refine .none_ (bK.gd (bK.sJ O (aU.new (ρ':=ρ.set st.c { dy with v:=p,y:=⟨.l (.i .u8),ap7 C (aQ s)⟩ }) hl R ay.aX (j2 _) rfl (by simp only [AV.val,ay.bI]) ?_)));show Sat (ab _ T (st.G.set j _)++_) _;rw [gC hj,aZ ay.aX B];refine N.mA hi hC (λb hb=>?_) (λM' m _=>?_)
       .simp only [Row.item,ay.bI] at hb;exact Q b (f.canon.1 b hb)
       .simp only [Row.item,ay.bI];exact ⟨f.canon.2 _ _ (A M' m),trivial⟩
      .cases U
     .cases h
    .rename_i hx;have g:=bJ (ρ:=ρ) hx;simp only [AV.val] at g;obtain ⟨S,R⟩:=jq h;obtain ⟨D,R',w',O,hC,Q,A⟩:=Mi (P:=X.P) (E:=az ρ T st.E fr.F) (w:=w) (d:=d) (ty:=ty) (pos:=pos) (af:=af) (gd:=none) (M:=Ctx.M (ab ρ T st.G++(ab ρ T fr.H++Φ))) (xs:=([]:zj)) (cr V) q z g k cg.nil (λb hb=>by cases hb) S;have W:Ext w w':=⟨hC.os,hC.tape,hC.output,hC.size,λb hb=>hC.block b hb (λh=>by cases h)⟩;have f:=A _ (W.mv _);have n:∃p:jN,D=sl p:=by obtain ⟨a,cap,n⟩:=f.len;exact ⟨(a,_,cap),n⟩
     obtain ⟨p,rfl⟩:=n;refine .none_ (bK.gd (bK.sJ O ?_));exact Ao (d:=d) (t:= .i .u8) (e:=e) (p:=p) hl B N W (λb hb=>by
      obtain ⟨q1,o⟩:=Q b (f.canon.1 b hb);rcases o with o|o
      .cases o
      .exact ⟨q1,o⟩) (λM' m=>f.canon.2 _ _ (A M' m)) rfl R
    .cases h
   .cases h
  .cases h
 .cases h
def Yz{R:Type}(T:aB)(fr:Fr)(st:aC)(d:Tmp)(x:Operand)(K:cJ R):Option R:=match br T st.E fr.F none x with
 |some (.sl id)=>(match eK st.G fr.H (pM id) with
  |some (_,.own _ t _ l ver)=>aq1 T none st d id ver t l 0 K
  |_=>none)
 |_=>none
def ae0{R:Type}(X:Cx)(T:aB)(fr:Fr)(st:aC)(d:Tmp)(pt:TypeId)(x y:Operand)(K:cJ R):Option R:=match X.P.underlying pt with
 |some (.pointer e)=>aD (Nat.beq (X.P.cellsOf e) 1) (match br T st.E fr.F none x with
  |some (.adr q 0)=>(match br T st.E fr.F none y with
   |some (.int .i64 m)=>(match eK st.G fr.H (Qu q) with
    |some (_,.kn none _ id ver _ i _)=>(match eK st.G fr.H (pM id) with
     |some (.top j,.own _ u e' xs ver')=>aD (Nat.beq ver ver'&&Nat.beq e e') (match vh.cm.asL (.i .u8) ⟨.l u,xs⟩ with
      |some xs=>aN (decide (i=0)&&decide (m=(List.length xs:Int))) (K { st with E:=cN (some d) none (.str (strOf xs)) st.E,G:=st.G.set j (.sli none id (.i .u8) xs false) })
      |none=>none) none
     |_=>none)
    |_=>none)
   |_=>none)
  |_=>none) none
 |_=>none
theorem cg.ahJ{α:Type}{A:fg α}{e:TypeId}{M:Nat->Prop}{w:World}{v:Value}{xs:List α}{R:zk}(h:cg A e M w v xs R)(a:xs≠[]):Roomy v:=by
 rcases h with ⟨_,cells,c,_⟩|⟨_,rfl,_⟩
 .rcases c.2 with ⟨_,b⟩|⟨g,cap,cur,rfl,_,_,d,_⟩
  .exact absurd (er b) a
  .obtain ⟨k,rfl⟩:∃k,cap=k+1:=⟨cap-1,by have:=List.length_pos_iff.2 a;omega⟩;exact ⟨g,_,k,rfl⟩
 .exact absurd rfl a
theorem Xd{v:jN}{n:Nat}(h:Roomy (sl v)):v.1=some (uW (sl v) 0 n):=by obtain ⟨b,len,cap,e⟩:=h;obtain ⟨d,c,a⟩:=v;simp only [sl,Value.slice.injEq] at e;obtain ⟨rfl,rfl,rfl⟩:=e;simp [sl,uW,Addr.add]
theorem ah9{α:Type}{l:List α}{i:Int}{x:α}(h:idx l i=some x):l≠[]:=λe=>by subst e;unfold idx at h;split at h <;> cases h
theorem abk{y:Array TypeId}(hl:st.low fr=true)(q:Sat (ab ρ T st.G++(ab ρ T fr.H++Φ)) w)(h:Yz T fr st d x K=some r):
  Pj X.P T none (az ρ T st.E fr.F) ⟨some d,.call ⟨.builtin .unsafeSliceData,#[x],y⟩,ty,pos,af,gd⟩ w (aU r K T fr st none (some d) ρ Φ):=by
 unfold Yz at h;split at h
 .rename_i id hx;have i:=bJ (ρ:=ρ) hx;simp only [AV.val] at i;split at h
  .rename_i s b t e' l f z;obtain ⟨m,B⟩:=bX z;have:b=id:=b0 B;subst this;obtain ⟨D,o,C⟩:=CQ h;have o:=o aB.get_none;obtain ⟨A,p⟩:=Src.holds q m;have e:b<st.c/\f<st.c:=by
    have:(Row.own b t e' l f).low st.c=true:=by
     cases s with
     |top j=>exact uG (aC.cG.1 hl).2.2.1 m
     |cw j=>exact uG (aC.cG.1 hl).2.2.2 m
     |_=>exact m.elim
    simpa only [Row.low,ar,j0] using this
   have u:=A.ahJ (ah9 o);have k:aU r K T fr st none (some d) ρ Φ (.pointer (some (uW (sl (ρ b).v) 0 t.rep.n))) w:=by refine aU.push (x:={ dy with a:=uW (sl (ρ b).v) 0 t.rep.n }) hl C (by simp only [AV.val,ay.bI];simp [Addr.add]) (q.add rfl ?_);intro I;rw [ay.aX _ e.1,ay.aX _ e.2,ay.bI];exact ⟨l,p,o,rfl⟩
   refine ⟨_,λw'=>?_,k⟩;rw [<-Xd u];rw [aB.get_none];exact aib (g:=true) i (λ_=>u)
  .cases h
 .cases h
theorem alR{P:Program}{E:Env}{v:jN}{y:Operand}{C it e:TypeId}{M:Nat->Prop}{R:zk}{xs:zj}(Z:cg (RI .u8) e M w (sl v) xs R)(hp:P.underlying C=some (.pointer e))(O:P.cellsOf e=1)
  (hx:an E true x (.pointer v.1)) (V:an E true y (.int .i64 (xs.length:Int))) (T:xs≠[]):
  ∃w',pn P E ⟨some d,.call ⟨.builtin .unsafeString,#[x,y],#[C,it]⟩,ty,pos,af,gd⟩ w (S (strOf xs)) w'/\mC R w w'/\∀M',Mv M w M' w'->(∀b∈R,¬M' b)->bS (RI .u8) M' w' (sl v) xs:=by
 have f:xs.length≠0:=λe=>T (er e);rcases Z with ⟨Y,cells,⟨h1,h2⟩,L⟩|⟨_,rfl,_⟩
 .rcases h2 with ⟨_,U⟩|⟨g,cap,cur,Q,hg,H,h,hm,z,p⟩
  .exact absurd U f
  .obtain ⟨v1,v2,K⟩:=v;simp only [sl,Value.slice.injEq] at Q;obtain ⟨rfl,rfl,rfl⟩:=Q;have D:(RI .u8).n=1:=rfl;have t:cur.size=K:=by simpa [D] using z
   have sx:w.shape? g=some (e,cur.size):=by unfold World.shape?;rw [H]
   have o:∀(j:Nat) (a:Int),xs[j]? =some a->w.cell? ((⟨g,0,none⟩:Addr).add j)=some (.int .u8 a):=λj a k=>by
    have G:=(List.getElem?_eq_some_iff.1 k).1;have hA:=L.2 j G;have ha:xs[j]=a:=(List.getElem?_eq_some_iff.1 k).2;have I:cells[j]? =some (.int .u8 a):=by
     have e1:(cells.drop (j*1)).take 1=[.int .u8 a]:=by rw [<-ha];exact hA
     have e2:=congrArg (λl=>l[0]?) e1;simpa using e2
    have key:bM w ⟨g,0,none⟩ cells:=⟨rfl,cur,e,(0,0),H,λj u k=>by
     rw [<-p,qg] at k;split at k
     .simpa using k
     .cases k⟩
    exact key.cell I
   have X:xs.length<=9223372036854775807:=by unfold maxLen at hm;omega
   have q:(Builtin.unsafeString_ #[C,it] ty #[.pointer (some ⟨g,0,none⟩),.int .i64 xs.length]).run P w= .ok (S (strOf xs)) (w.freeze ⟨g,0,none⟩ xs.length):=by
    have F:=Ix (P:=P) (w:=w) xs ⟨g,0,none⟩ .empty o;have i:=Lib.liesAt_bytes (P:=P) O (cur.size/P.cellsOf e) xs.length (by rw [O,t];simpa using h);have B:¬(9223372036854775807:Int)<(xs.length:Int):=by omega
    have s:i64.max=9223372036854775807:=rfl;have r:¬(xs.length:Int)<0:=by omega
    refine (Sem.run_bind (P:=P) (w:=w) (asInt (.int .i64 xs.length)) _).trans ?_;simp [asInt,asIntOf,s,B,r,f,variablesAt,sx,elemOf,run_underlying hp,i,F,S]
   have W:(w.freeze ⟨g,0,none⟩ xs.length).heap[g]? =some (.cells cur e (0,xs.length)):=by unfold World.freeze;rw [dk f];simp [u9,H]
   have A:R=[g]:=by rw [Y];simp [dS,Value.ownBlock,sl]
   refine ⟨w.freeze ⟨g,0,none⟩ xs.length,λn' a N=>by simp [execOp,resolve,invoke,builtin,hx n' a N rfl,V n' a N rfl,q],?_,λM' m hb=>?_⟩
   .rw [A];unfold World.freeze;rw [dk f];refine ⟨rfl,rfl,rfl,by simp,λc _ J=>?_⟩;have:g≠c:=λe=>J (by simp [e]);simp [u9,this]
   .refine .inr ⟨g,0,K,cur,e,_,rfl,hb g (by rw [A];simp),W,h,by rw [ma];exact Nat.le_of_eq z.symm,?_⟩;rw [n9,p];exact L.mv m
 .exact absurd rfl T
theorem alB{y:Operand}{I it:TypeId}(_hl:st.low fr=true)(s:Sat (ab ρ T st.G++(ab ρ T fr.H++Φ)) w)(h:ae0 X T fr st d I x y K=some r):
  mW X.P T none (az ρ T st.E fr.F) ⟨some d,.call ⟨.builtin .unsafeString,#[x,y],#[I,it]⟩,ty,pos,af,gd⟩ w (aU r K T fr st none (some d) ρ Φ):=by
 unfold ae0 at h;split at h
 .rename_i e hp;obtain ⟨z,h⟩:=aI h;have z:=b0 z;split at h
  .rename_i q hx;have f:=bJ (ρ:=ρ) hx;simp only [AV.val] at f;split at h
   .rename_i m Q;have c:=bJ (ρ:=ρ) Q;simp only [AV.val] at c;split at h
    .rename_i s1 q' id O u1 i xe t;obtain ⟨f1,f2⟩:=bX t;have:q'=q:=b0 f2;subst this;have W:=Src.holds s f1;split at h
     .rename_i j a u e' N D U;obtain ⟨M,Z⟩:=bX U;have:a=id:=b0 Z;subst this;obtain ⟨C,B⟩:=aI h;simp only [ar] at C;have e1:=b0 C.1;have e2:=b0 C.2;subst e1;subst e2;split at B
      .rename_i xs o;obtain ⟨eu,ex⟩:=tC o;subst eu;subst ex;obtain ⟨L,Y⟩:=jq B;simp only [ar,eW] at L;obtain ⟨rfl,rfl⟩:=L;have hi:=iH (ρ:=ρ) (T:=T) (Φ:=ab ρ T fr.H++Φ) M;obtain ⟨J,l⟩:=s.at_ hi;obtain ⟨l0,b1,b2,b3⟩:=W aB.get_none;obtain ⟨e4,e5⟩:=NV b1 l;cases e4;cases e5;have k:=ah9 b2;have R:=J.ahJ k;have p:an (az ρ T st.E fr.F) true x (.pointer (ρ a).v.1):=by rw [Xd (n:=(Ty.i .u8).rep.n) R,<-b3];simpa [Addr.add] using f
       obtain ⟨w',g,hC,V⟩:=alR (P:=X.P) (d:=d) (ty:=ty) (pos:=pos) (af:=af) (gd:=gd) (it:=it) J hp z p c k;have S:j<st.G.length:=(List.getElem?_eq_some_iff.1 M).1;refine .none_ (bK.gd (bK.sJ g (aU.kX Y (cH _) rfl rfl ?_)));show Sat (ab _ T (st.G.set j _)++_) _;rw [gC S];exact s.mA hi hC (λb hb=>by cases hb) (λM' m hb _=>⟨V M' m (λb A=>hb b A (λh=>by cases h)),λh=>by cases h⟩)
      .cases B
     .cases h
    .cases h
   .cases h
  .cases h
 .cases h
def agM{R:Type}(X:Cx)(T:aB)(fr:Fr)(st:aC)(g:GK)(d:Tmp)(t:TypeId)(x:Operand)(K:cJ R):Option R:=match jE X.P t with
 |some _=>(match br T st.E fr.F g x with
  |some (.sl id)=>(match W0 st.G fr.H id with
   |some s=>aD (T.imp g s.g) (K { st with E:=cN (some d) g (.int .i64 (s.l.length:Int)) st.E }) none
   |none=>none)
  |_=>none)
 |none=>none
theorem akn{g:GK}{t:TypeId}(c:Sat (ab ρ T st.G++(ab ρ T fr.H++Φ)) w)(h:agM X T fr st g d t x K=some r):
  Pj X.P T g (az ρ T st.E fr.F) ⟨some d,.call ⟨.builtin .len,#[x],#[t]⟩,ty,pos,af,gd⟩ w (aU r K T fr st g (some d) ρ Φ):=by
 unfold agM at h;split at h
 .rename_i e i;split at h
  .rename_i id hx;have a:=aO (ρ:=ρ) hx;simp only [AV.val] at a;split at h
   next s b=>obtain ⟨k,j⟩:=aI h;exact ⟨_,λw'=>rQ (cr i) a (λf=>Wj c b (aB.nr k f)),aU.kX j (cH _) rfl rfl c⟩
   .cases h
  .cases h
 .cases h
end
abbrev gone{R:Type}(g:GK)(k:Option R):Option R:=match g with
 |none=>k
 |some _=>none
theorem dG{R:Type}{r:R}{g:GK}{k:Option R}(h:gone g k=some r):g=none/\k=some r:=by
 cases g with
 |none=>exact ⟨rfl,h⟩
 |some _=>cases h
def ag9{R:Type}(X:Cx)(T:aB)(fr:Fr)(st:aC)(d:zd)(t:TypeId)(x y:Operand)(K:cJ R):Option R:=match jE X.P t with
 |some e=>(match CH X.tys e with
  |some u=>(match pz X.P e with
   |some z=>(match br T st.E fr.F none x with
    |some (.sl id)=>(match br T st.E fr.F none y with
     |some b=>aD (Nat.beq z.1 u.n') (match vh (cw b.fA st.G) fr.H u b with
      |some ys=>(match eK (cw b.fA st.G) fr.H (pM id) with
       |some (.top j,.own _ u' e' xs _)=>aD (Nat.beq e e') (match vh.cm.asL u ⟨.l u',xs⟩ with
        |some xs=>K { st with c:=st.c+1,E:=cN d none (.int .i64 ((Nat.min ys.length xs.length:Nat):Int)) st.E,G:=(cw b.fA st.G).set j (.own id u e (yj xs ys) st.c) }
        |none=>none) none
       |_=>none)
      |none=>none) none
     |none=>none)
    |_=>none)
   |none=>none)
  |none=>none)
 |none=>none
def inO(n d:Nat):List (Nat×Nat)->Bool
 |[]=>false
 |x::l=>(Nat.beq x.1 n&&Nat.beq x.2 d)||inO n d l
def agS{R:Type}(X:Cx)(T:aB)(fr:Fr)(st:aC)(d:Tmp)(t:TypeId)(x:Operand)(hi:Option Operand)(K:cJ R):Option R:=match jE X.P t with
 |some e=>(match pz X.P e with
  |some z=>(match br T st.E fr.F none x with
   |some (.sl id)=>(match Pk T st.E fr.F none hi with
    |some j=>(match eK st.G fr.H (pM id) with
     |some (.top k,.own _ u e' xs _)=>aD (Nat.beq z.1 u.n') (aN (cZ 0 (j.getD (xs.length:Int)) xs.length) (K { st with c:=st.c+1,E:=cN (some d) none (.sl st.c) st.E,G:=st.G.set k (.own st.c u e' (aV xs 0 (j.getD (xs.length:Int))) st.c) })) none
     |_=>none)
    |none=>none)
   |_=>none)
  |none=>none)
 |none=>none
def alJ{R:Type}(X:Cx)(T:aB)(fr:Fr)(st:aC)(d:Tmp)(t:TypeId)(x:Operand)(lo hi mx:Option Operand)(K:cJ R):Option R:=match lo,hi,mx with
 |none,some y,some y3=>(match X.P.underlying t with
  |some (.array n e)=>(match CH X.tys e with
   |some u=>(match pz X.P e with
    |some z=>(match br T st.E fr.F none x with
     |some (.ptr id 0)=>(match br T st.E fr.F none y with
      |some (.int _ h)=>(match br T st.E fr.F none y3 with
       |some (.int _ m)=>(match tl (Bk id) st.G with
        |some (j,.box _ _ cs)=>aD ((h==(n:Int))&&(m==(n:Int))&&Nat.beq z.1 u.n') (match Y6 st.G fr.H u n cs with
         |some xs=>K { st with c:=st.c+1,E:=cN (some d) none (.sl st.c) st.E,G:=st.G.set j (.sli none st.c u xs true) }
         |none=>none) none
        |_=>none)
       |_=>none)
      |_=>none)
     |_=>none)
    |none=>none)
   |none=>none)
  |_=>none)
 |_,_,_=>none
def ag3(X:Cx)(T:aB)(fr:Fr)(st:aC)(d:Tmp)(t:TypeId)(x y:Operand){R:Type}(K:cJ R):Option R:=match X.P.underlying t with
 |some (.array n e)=>(match pz X.P e with
  |some z=>(match br T st.E fr.F none x with
   |some (.adr id off)=>(match br T st.E fr.F none y with
    |some (.int _ i)=>aeT i z.1 (λk=>K { st with E:=cN (some d) none (.adr id (off+k)) st.E }) n 0
    |_=>none)
   |some (.ptr id off)=>(match br T st.E fr.F none y with
    |some (.int _ i)=>aeT i z.1 (λk=>K { st with E:=cN (some d) none (.ptr id (off+k)) st.E }) n 0
    |_=>none)
   |_=>none)
  |none=>none)
 |_=>none
def agQ(P:Program)(t:TypeId)(nm:String):Option (FuncId×Bool):=match P.info? t with
 |some i=>(match i.methods.find? (·.name==nm) with
  |some m=>(match m.path.toList with
   |[]=>m.func
   |_=>none)
  |none=>none)
 |none=>none
def ap2:TypeDesc->Bool
 | .pointer _=>true
 |_=>false
def Kk(X:Cx)(T:aB)(fr:Fr)(st:aC)(g:GK)(t:TypeId)(u:AV)(nm:String):Option (FuncId×AV):=match agQ X.P t nm with
 |some (f,true)=>(match X.P.underlying t with
  |some (.pointer _)=>some (f,u)
  |_=>none)
 |some (f,false)=>(match X.P.underlying t with
  |some (.pointer e)=>(match BB T st.G fr.H g u with
   |some cs=>(match nU X.P e cs with
    |some v=>some (f,v)
    |none=>none)
   |none=>none)
  |some d=>aD (ap2 d) none (some (f,u))
  |none=>none)
 |none=>none
def YB:List Wr->FuncId->Option Wr
 |[],_=>none
 |i::l,f=>match Nat.beq i.f f with
  |true=>some i
  |false=>YB l f
def als{R:Type}(X:Cx)(T:aB)(fr:Fr)(st:aC)(g:GK)(d:zd)(f:FuncId)(args:List AV)(K:cJ R)(els:Option R):Option R:=match YB X.inl f with
 |none=>els
 |some i=>(match T with
  |[]=>gone g (i.run args fr.H st (λav st'=>K { st' with E:=cN d none av st.E,h:=st.h }))
  |_::_=>none)
def byT{R:Type}(k:TypeId->Option R)(t:TypeId):List TypeId->Option R
 |[]=>none
 |c::cs=>cond (Nat.beq t c) (k c) (byT k t cs)
section
variable {X : Cx} {R : Type} {r : R} {K : cJ R} {T : aB} {fr : Fr} {st : aC} {g : GK} {ρ : ay} {Φ : Ctx} {w : World} {ty : TypeId} {pos : String} {af : zf} {gd : wb}
theorem aaT:{l:List Wr}->{f:FuncId}->{i:Wr}->YB l f=some i->i∈l/\i.f=f
 |[],_,_,h=>by cases h
 |j::l,f,i,h=>by
  unfold YB at h;split at h
  next c=>cases h;exact ⟨c8 .., b0 c⟩
  .obtain ⟨b,a⟩:=aaT h;exact ⟨cp _ b,a⟩
theorem apH{d:zd}{op:Op}{f:FuncId}{args:List AV}{c:Option R}(hl:st.low fr=true)(s:Sat (ab ρ T st.G++(ab ρ T fr.H++Φ)) w)
  (e:Enters X.P f->T.get g=true->∀n a,Fits n (az ρ T st.E fr.F) a->(execOp a.eval ⟨d,op,ty,pos,af,gd⟩).run X.P w= .ok (.enter f (AV.al ρ args).toArray) w) (h:als X T fr st g d f args K c=some r) (b:c=some r->mW X.P T g (az ρ T st.E fr.F) ⟨d,op,ty,pos,af,gd⟩ w (aU r K T fr st g d ρ Φ)):
  mW X.P T g (az ρ T st.E fr.F) ⟨d,op,ty,pos,af,gd⟩ w (aU r K T fr st g d ρ Φ):=by
 unfold als at h;split at h
 .exact b h
 .rename_i i hi;obtain ⟨p,o⟩:=aaT hi;subst o;obtain ⟨y,x⟩:=X.inlOk i p;split at h
  .obtain ⟨rfl,u⟩:=dG h;refine .none_ (λn a t=> .inr (.inr ⟨i.f,AV.al ρ args,e y aB.get_none n a t,(x r args fr.H st _ ρ Φ w s u).mono λv w' q=>?_⟩));obtain ⟨ρ',st',av,k1,j,m,l,k⟩:=q;have e3:=aZ (T:=[]) j (aC.cG.1 hl).2.2.2;exact aU.new (ρ':=ρ') (st':={ st' with E:=cN d none av st.E,h:=st.h }) hl k1 j m rfl l (by rw [<-e3];exact k)
  .cases h
theorem abP{k:TypeId->Option R}{t:TypeId}:∀{cs:List TypeId},byT k t cs=some r->k t=some r
 |[],h=>by cases h
 |c::cs,h=>by
  unfold byT at h;rcases wG h with ⟨b,a⟩|⟨_,a⟩
  .rw [b0 b];exact a
  .exact abP a
theorem abr{P:Program}{t:TypeId}{nm:String}{q:FuncId×Bool}(h:agQ P t nm=some q):Mr P t nm q.1 q.2:=by
 unfold agQ at h;split at h
 .rename_i i hi;split at h
  .rename_i m hm;split at h
   next hp=>unfold Mr;rw [hi];simp only [Option.bind_some];rw [hm];simp [hp,h]
   .cases h
  .cases h
 .cases h
theorem ami{t:TypeId}{u v:AV}{cs:List AV}{G H:List Row}(f:Sat (ab ρ T G++(ab ρ T H++Φ)) w)(a:BB T G H g u=some cs)(h:nU X.P t cs=some v)(j:T.get g=true):
  ∃p,u.val ρ= .pointer (some p)/\(loadVar t p).run X.P w= .ok (v.val ρ) w:=by
 obtain ⟨p,hp,a⟩:=MO f a j;refine ⟨p,hp,?_⟩;have m:nU X.P t (cs.drop 0)=some v:=by simpa using h
 obtain ⟨d,n,bytes,z,c1,o,c⟩:=rX (ρ:=ρ) m;cases hd:mV d
 .rw [hd] at c;simp only [eF,qu] at c;exact Mc c1 hd (a.cell0 c)
 .unfold nU at h;rw [c1] at h;rcases ek h with ⟨_,b⟩|⟨e,_⟩
  .split at b
   .rename_i q i;obtain ⟨n,bytes,z⟩:=q;obtain ⟨l,k⟩:=aI b;cases k;have hl:n<=cs.length:=ei l;simp only [AV.val];refine Nx c1 hd (cR i) (vs:=AV.al ρ (cs.take n)) ?_ ?_
    .have:=a.sub (us:=AV.al ρ (cs.take n)) 0 (by rw [AV.mB,n9,dh,AV.bE,hV hl])
     simpa [Addr.add] using this
    .rw [AV.bE,dh,hV hl]
   .cases b
  .rw [hd] at e;cases e
theorem abo{t:TypeId}{u:AV}{nm:String}{q:FuncId×AV}(c:Sat (ab ρ T st.G++(ab ρ T fr.H++Φ)) w)(h:Kk X T fr st g t u nm=some q):T.get g=true->Reach X.P w t (u.val ρ) nm q.1 (q.2.val ρ):=by
 unfold Kk at h;split at h
 .rename_i f a;have hm:=abr a;split at h
  next e ht=>cases h;exact λ_=>Reach.ptr hm ht
  .cases h
 .rename_i f a;have hm:=abr a;split at h
  .rename_i e ht;split at h
   .rename_i cs k;split at h
    next v b=>cases h;intro i;obtain ⟨p,hp,hl⟩:=ami c k b i;rw [hp];exact Reach.load hm ht hl
    .cases h
   .cases h
  next d ht=>obtain ⟨m,l⟩:=Oh h;cases l;exact λ_=>Reach.val hm ht (λe j=>by subst j;cases m)
  .cases h
 .cases h
theorem adA{d:Tmp}{t:TypeId}{y:Operand}(s:Sat (ab ρ T st.G++(ab ρ T fr.H++Φ)) w)(h:ag3 X T fr st d t x y K=some r):
  Pj X.P T none (az ρ T st.E fr.F) ⟨some d,.indexAddr t x y,ty,pos,af,gd⟩ w (aU r K T fr st none (some d) ρ Φ):=by
 unfold ag3 at h;split at h
 .rename_i n e ht;split at h
  .rename_i z p;obtain ⟨m,bytes,z⟩:=z;split at h
   .rename_i id c hx;split at h
    .rename_i k i o;obtain ⟨q,_,u,j,l⟩:=Mx h;have g:=bJ (ρ:=ρ) hx;have f:=bJ (ρ:=ρ) o;simp only [AV.val] at g f;refine ⟨.pointer (some (((ρ id).a.add c).add (i.toNat*m))),λw'=>?_,?_⟩
     .rw [aB.get_none];exact CG (P:=X.P) (w:=w') (dst:=some d) (ty:=ty) (pos:=pos) (af:=af) (gd:=gd) ht (cR p) g f (by
       intro _;subst j;exact n5.2 ⟨by omega,by omega⟩)
     .refine aU.kX (av:= .adr id (c+q*m)) l (cH _) rfl ?_ s;simp only [AV.val];rw [add_add,j];rfl
    .cases h
   .rename_i id c hx;split at h
    .rename_i k i o;obtain ⟨q,_,u,j,l⟩:=Mx h;have g:=bJ (ρ:=ρ) hx;have f:=bJ (ρ:=ρ) o;simp only [AV.val] at g f;refine ⟨.pointer (some ((⟨(ρ id).b,c,none⟩:Addr).add (i.toNat*m))),λw'=>?_,?_⟩
     .rw [aB.get_none];exact CG (P:=X.P) (w:=w') (dst:=some d) (ty:=ty) (pos:=pos) (af:=af) (gd:=gd) ht (cR p) g f (by
       intro _;subst j;exact n5.2 ⟨by omega,by omega⟩)
     .refine aU.kX (av:= .ptr id (c+q*m)) l (cH _) rfl ?_ s;simp only [AV.val];rw [add_plain,j];rfl
    .cases h
   .cases h
  .cases h
 .cases h
theorem akf{d:zd}{t:TypeId}{y:Operand}(hl:st.low fr=true)(g:Sat (ab ρ T st.G++(ab ρ T fr.H++Φ)) w)(h:ag9 X T fr st d t x y K=some r):
  mW X.P T none (az ρ T st.E fr.F) ⟨d,.call ⟨.builtin .copy,#[x,y],#[t,t]⟩,ty,pos,af,gd⟩ w (aU r K T fr st none d ρ Φ):=by
 unfold ag9 at h;split at h
 .rename_i e S;split at h
  .rename_i u hu;split at h
   .rename_i z M;obtain ⟨n,bytes,z⟩:=z;split at h
    .rename_i id hx;split at h
     .rename_i b N;obtain ⟨W,i⟩:=aI h;have hn:n=u.rep.n:=(b0 W).trans u.EY.symm;have B:=cR M;subst hn;have f:=uN (ids:=b.fA) (aC.cG.1 hl).2.2.1;replace g:=lI (ids:=b.fA) g;generalize cw b.fA st.G=G at i f g;have o:=bJ (ρ:=ρ) hx;have v:=bJ (ρ:=ρ) N;simp only [AV.val] at o;split at i
      .rename_i ys q;have s:=NX g q;split at i
       .rename_i j p u' e' k L R;obtain ⟨V,D⟩:=aI i;have:=b0 V;subst this;split at D
        .rename_i xs A;obtain ⟨Z,ex⟩:=tC A;subst Z;simp only at ex;subst ex;obtain ⟨I,Y⟩:=bX R;have:p=id:=b0 Y;subst this;have hi:=iH (ρ:=ρ) (T:=T) (Φ:=ab ρ T fr.H++Φ) I;obtain ⟨J,_⟩:=g.at_ hi;obtain ⟨w',O,hC,C,U⟩:=ak9 (P:=X.P) (ty:=ty) (w:=w) (t:=t) (cr S) B J s (λb hb=>Ctx.kY hi hb);have Q:j<G.length:=(List.getElem?_eq_some_iff.1 I).1;have a:=uG f I;simp only [Row.low,ar,j0] at a;refine .none_ (bK.gd (bK.sJ (BU o v O) (aU.new (ρ':=ρ.set st.c { dy with y:=⟨.l u',yj k ys⟩ }) (av:= .int .i64 ((Nat.min ys.length k.length:Nat):Int)) hl D ay.aX (j2 _) rfl (by simp only [AV.val]) ?_)));show Sat (ab _ T (G.set j _)++_) _;rw [gC Q,aZ ay.aX f];refine g.mA hi hC (λb hb=>?_) (λM' m _=>?_)
         .simp only [Row.item,ay.aX _ a.1] at hb;exact ⟨by rw [C];exact J.lt b hb,.inl hb⟩
         .simp only [Row.item,ay.aX _ a.1,ay.bI];exact ⟨U M' m,trivial⟩
        .cases D
       .cases i
      .cases i
     .cases h
    .cases h
   .cases h
  .cases h
 .cases h
theorem akU{d:Tmp}{t:TypeId}{hi:Option Operand}(hl:st.low fr=true)(A:Sat (ab ρ T st.G++(ab ρ T fr.H++Φ)) w)(h:agS X T fr st d t x hi K=some r):
  mW X.P T none (az ρ T st.E fr.F) ⟨some d,.slice t x none hi none,ty,pos,af,gd⟩ w (aU r K T fr st none (some d) ρ Φ):=by
 have s:=(aC.cG.1 hl).2.2.1;unfold agS at h;split at h
 .rename_i e M;split at h
  .rename_i z I;obtain ⟨n,bytes,z⟩:=z;split at h
   .rename_i id hx;split at h
    .rename_i j J;split at h
     .rename_i k o u e' xs D L;obtain ⟨R,Q⟩:=aI h;obtain ⟨O,N⟩:=jq Q;have hn:n=u.rep.n:=(b0 R).trans u.EY.symm;have q:=cR I;subst hn;obtain ⟨C,S⟩:=bX L;have:o=id:=b0 S;subst this;have a:=bJ (ρ:=ρ) hx;simp only [AV.val] at a;have f:=iH (ρ:=ρ) (T:=T) (Φ:=ab ρ T fr.H++Φ) C;obtain ⟨B,_⟩:=A.at_ f;obtain ⟨p,k1,i⟩:=B.ar9 O;have hk:k<st.G.length:=(List.getElem?_eq_some_iff.1 C).1;have g:=Uu (ρ:=ρ) (len:=xs.length) J;rw [aB.get_none] at g;refine .none_ (bK.gd (bK.run (FZ (lo:=none) (hi:=hi) (cr M) q a (λ_=>B.len) rfl g (λ_=>k1)) (aU.new (ρ':=ρ.set st.c { dy with v:=p,y:=⟨.l u,aV xs 0 (j.getD (xs.length:Int))⟩ }) hl N ay.aX (j2 _) rfl (by simp only [AV.val,ay.bI]) ?_)));show Sat (ab _ T (st.G.set k _)++_) _;rw [gC hk,aZ ay.aX s];refine A.mA f ((Ext.refl w).wS _) (λb hb=>?_) (λM' m _=>?_)
      .simp only [Row.item,ay.bI] at hb;have:=i.canon.1 b hb;exact ⟨i.lt b this,.inl this⟩
      .simp only [Row.item,ay.bI];exact ⟨i.canon.2 _ _ (i.cY (λ_ _=>rfl) m),trivial⟩
     .cases h
    .cases h
   .cases h
  .cases h
 .cases h
theorem aoV{d:Tmp}{t:TypeId}{lo hi q:Option Operand}(hl:st.low fr=true)(o:Sat (ab ρ T st.G++(ab ρ T fr.H++Φ)) w)(h:alJ X T fr st d t x lo hi q K=some r):
  mW X.P T none (az ρ T st.E fr.F) ⟨some d,.slice t x lo hi q,ty,pos,af,gd⟩ w (aU r K T fr st none (some d) ρ Φ):=by
 have L:=(aC.cG.1 hl).2.2.1;unfold alJ at h;split at h
 .rename_i y N;split at h
  .rename_i n e ht;split at h
   .rename_i u R;split at h
    .rename_i z C;obtain ⟨O,bytes,z⟩:=z;split at h
     .rename_i id hx;split at h
      .rename_i k S D;split at h
       .rename_i Q m i;split at h
        .rename_i j c bt cs J;obtain ⟨s,p⟩:=aI h;simp only [ar,mN] at s;obtain ⟨⟨rfl,rfl⟩,U⟩:=s;split at p
         next xs l=>obtain ⟨A,M⟩:=pc J;have:c=id:=b0 M;subst this;have g:=bJ (ρ:=ρ) hx;have f:=bJ (ρ:=ρ) D;have a:=bJ (ρ:=ρ) i;simp only [AV.val] at g f a;have hi:=iH (ρ:=ρ) (T:=T) (Φ:=ab ρ T fr.H++Φ) A;have hb:gK w (ρ c).b bt (AV.al ρ cs):=o.at_ hi;obtain ⟨l1,B⟩:=SN o n cs xs l;have I:j<st.G.length:=(List.getElem?_eq_some_iff.1 A).1;refine .none_ (bK.gd (bK.run (aco ht (cR C) g f a) (aU.mA (x:={ dy with v:=(some ⟨(ρ c).b,0,none⟩,n,n) }) hl I p (by simp only [AV.val,ay.bI];rfl) ?_)));refine o.mA hi ((Ext.refl w).wS _) (λb hb=>by cases hb) (λM' m hn=>?_);simp only [Row.item,ay.bI];exact λ_=>⟨bS.fresh hb (hn _ (by simp [Row.item,box]) (λhb=>by cases hb)) l1 (B.mv m),λ_=>l1.symm⟩
         .cases p
        .cases h
       .cases h
      .cases h
     .cases h
    .cases h
   .cases h
  .cases h
 .cases h
end
variable {d : zd} {tys : Array TypeId}
def ah1{R:Type}(X:Cx)(T:aB)(fr:Fr)(st:aC)(t:TypeId)(x y:Operand)(K:cJ R):Option R:=match br T st.E fr.F none x with
 |some (.ptr id off)=>(match br T st.E fr.F none y with
  |some v=>abT X.P st t id off v K
  |none=>none)
 |some (.adr q off)=>(match br T st.E fr.F none y with
  |some v=>aaD X.P fr st t q off v K
  |none=>none)
 |_=>none
def anD{R:Type}(X:Cx)(T:aB)(fr:Fr)(st:aC)(g:GK)(d:Tmp)(t:TypeId)(x:Operand)(K:cJ R):Option R:=match br T st.E fr.F g x with
 |some (.adr q off)=>SG X T fr st g d t q off K
 |_=>none
def arp{R:Type}(X:Cx)(T:aB)(fr:Fr)(st:aC)(g:GK)(b:Builtin)(d:zd)(xs:xc)(ts:List TypeId)(K:cJ R):Option R:=match b,xs,ts,d with
 | .append,[x,y],[t,u],some d=>gone g (aD (Nat.beq t u) (akB X T fr st d t x y K) (aeN X T fr st d t u x y K))
 | .unsafeSliceData,[x],_,some d=>gone g (Yz T fr st d x K)
 | .unsafeString,[x,y],[pt,_],some d=>gone g (ae0 X T fr st d pt x y K)
 | .copy,[x,y],[t,u],d=>gone g (aD (Nat.beq t u) (ag9 X T fr st d t x y K) none)
 |_,_,_,_=>none
def alu{R:Type}(X:Cx)(tb:List aA)(T:aB)(fr:Fr)(st:aC)(g:GK)(d:zd)(c:Callee)(xs:xc)(ts:List TypeId)(K:cJ R):Option R:=match c with
 | .builtin b=>arp X T fr st g b d xs ts K
 | .value fo=>(match br T st.E fr.F g fo with
  |some (.fn f a b)=>(match vt T st.E fr.F g xs with
   |some vs=>als X T fr st g d f (a++vs++b) K (xX T fr st g d f (a++vs++b) K tb)
   |none=>none)
  |some (.raw (.func (.methodOf it nm) ⟨[]⟩ ⟨[]⟩))=>(match X.P.underlying it with
   |some dI=>aD (iY dI) (match vt T st.E fr.F g xs with
    |some (.ifc t u::vs)=>byT (λc=>match Kk X T fr st g c u nm with
     |some q=>xX T fr st g d q.1 (q.2::vs) K tb
     |none=>none) t X.ks
    |_=>none) none
   |none=>none)
  |_=>none)
 | .invoke rc nm=>(match br T st.E fr.F g rc with
  |some (.ifc t u)=>(match vt T st.E fr.F g xs with
   |some vs=>(match u with
    | .agg []=>byT (λc=>match Kk X T fr st g c u nm with
     |some q=>xX T fr st g d q.1 (q.2::vs) K tb
     |none=>none) t X.ks
    |_=>(match Kk X T fr st g t u nm with
     |some q=>xX T fr st g d q.1 (q.2::vs) K tb
     |none=>none))
   |none=>none)
  |_=>none)
noncomputable def opN{R:Type}(X:Cx)(tb:List aA)(T:aB)(fr:Fr)(st:aC)(g:GK)(op:Op)(dst:zd)(K:cJ R):Option R:=match op,dst with
 | .indexAddr t x y,some d=>(match jE X.P t with
  |some _=>agu X T fr st g d t x y K
  |none=>(match br T st.E fr.F g x with
   |some (.gp _)=>Yn X T fr st g d t x y K
   |_=>gone g (ag3 X T fr st d t x y K)))
 | .slice t x lo hi mx,some d=>(match jE X.P t with
  |some _=>(match lo,mx with
   |none,none=>aD (inO fr.n d X.oc) (gone g (agS X T fr st d t x hi K)) (abv X T fr st g d t x none hi none K)
   |lo,mx=>abv X T fr st g d t x lo hi mx K)
  |none=>(match br T st.E fr.F g x with
   |some (.gp _)=>gone g (amG X T fr st d t x lo hi mx K)
   |_=>gone g (alJ X T fr st d t x lo hi mx K)))
 | .alloc t,some d=>gone g (aaH X st d t K)
 | .box t x,some d=>gone g (amX T fr st d t x K)
 | .store t x y,none=>gone g (ah1 X T fr st t x y K)
 | .load t x,some d=>anD X T fr st g d t x K
 | .buildSlice t n ps,some d=>ama X T fr st g d t n ps.toList K
 | .makeSlice t x y,some d=>gone g (aeL X T fr st d t x y K)
 | .makeMap t none,some d=>gone g (afh X st d t K)
 | .mapUpdate t x y z,none=>gone g (agc X T fr st t x y z K)
 | .range t x,some d=>gone g (alF X T fr st d t x K)
 | .next x true,some d=>gone g (aj2 T fr st d x K)
 | .convert s dt x,some d=>aj9 X T fr st g d s dt x K
 | .binOp op t x y _,some d=>gone g (amM X T fr st d op t x y K)
 | .call c,d=>alu X tb T fr st g d c.callee c.args.toList c.argTypes.toList K
 |_,_=>none
noncomputable def opD{R:Type}(X:Cx)(tb:List aA)(T:aB)(fr:Fr)(st:aC)(g:GK)(o:Oper)(K:cJ R):Option R:=
 match af5 X T st.E fr.F g o.op with
 |some cv=>JW cv.1 (g.map λ_=>T.get g) (K { st with E:=cN o.dst g cv.2 st.E })
 |none=>match afn X T st.E fr.F st.G fr.H g o.op with
  |some cv=>JW cv.1 (g.map λ_=>T.get g) (K { st with E:=cN o.dst g cv.2 st.E })
  |none=>aD (st.low fr) (opN X tb T fr st g o.op o.dst K) none
section
variable {X : Cx} {tb : List aA} {R : Type} {r : R} {K : cJ R} {T : aB} {fr : Fr} {st : aC} {g : GK} {ρ : ay} {Φ : Ctx} {w : World} {ty : TypeId} {pos : String} {af : zf} {gd : wb}
theorem BH{d:zd}{op:Op}{f:FuncId}{args:List AV}(hl:st.low fr=true)(j:Sat (ab ρ T st.G++(ab ρ T fr.H++Φ)) w)(a:∀it∈X.Γ,it∈Φ)
  (b:Enters X.P f->T.get g=true->∀n act,Fits n (az ρ T st.E fr.F) act->(execOp act.eval ⟨d,op,ty,pos,af,gd⟩).run X.P w= .ok (.enter f (AV.al ρ args).toArray) w):∀{tb:List aA},(∀e∈tb,e.Ok X.P X.Γ)->xX T fr st g d f args K tb=some r->
  mW X.P T g (az ρ T st.E fr.F) ⟨d,op,ty,pos,af,gd⟩ w (aU r K T fr st g d ρ Φ)
 |[],_,h=>by cases h
 |e::tb,htb,h=>by
  unfold xX at h;rcases ek h with ⟨l,i⟩|⟨_,i⟩
  .split at i
   next m k=>subst i;have:=b0 l;subst this;have c:=htb e (c8 ..);exact ahU hl j c a (b c.1) k
   .exact BH hl j a b (λe c=>htb e (cp _ c)) i
  .exact BH hl j a b (λe c=>htb e (cp _ c)) i
theorem ak6{f:FuncId}{fo:Operand}{xs:xc}{a b vs:List AV}(hl:st.low fr=true)(o:Sat (ab ρ T st.G++(ab ρ T fr.H++Φ)) w)(j:∀it∈X.Γ,it∈Φ)
  (m:br T st.E fr.F g fo=some (.fn f a b)) (k:vt T st.E fr.F g xs=some vs) {tb:List aA} (l:∀e∈tb,e.Ok X.P X.Γ) (h:xX T fr st g d f (a++vs++b) K tb=some r):
  mW X.P T g (az ρ T st.E fr.F) ⟨d,.call ⟨.value fo,xs.toArray,tys⟩,ty,pos,af,gd⟩ w (aU r K T fr st g d ρ Φ):=by
 have c:=aO (ρ:=ρ) m;have i:=jQ (ρ:=ρ) k;simp only [AV.val] at c;refine BH hl o j (λs p n t q=>?_) l h;rw [dp,dp];exact Gb s c i q p
theorem aas{k:Operand}{nm:String}{xs:xc}{t:TypeId}{u:AV}{vs:List AV}{q:FuncId×AV}(hl:st.low fr=true)(l:Sat (ab ρ T st.G++(ab ρ T fr.H++Φ)) w)(c:∀it∈X.Γ,it∈Φ)
  (j:br T st.E fr.F g k=some (.ifc t u)) (f:vt T st.E fr.F g xs=some vs) (m:Kk X T fr st g t u nm=some q) {tb:List aA} (i:∀e∈tb,e.Ok X.P X.Γ) (h:xX T fr st g d q.1 (q.2::vs) K tb=some r):
  mW X.P T g (az ρ T st.E fr.F) ⟨d,.call ⟨.invoke k nm,xs.toArray,tys⟩,ty,pos,af,gd⟩ w (aU r K T fr st g d ρ Φ):=by
 have a:=aO (ρ:=ρ) j;have b:=jQ (ρ:=ρ) f;simp only [AV.val] at a;exact BH hl l c (λs o n v p=>ak2 s a (abo l m) b p o) i h
theorem amN{fo:Operand}{it:TypeId}{l:TypeDesc}{nm:String}{xs:xc}{t:TypeId}{u:AV}{vs:List AV}{q:FuncId×AV}(hl:st.low fr=true)(k:Sat (ab ρ T st.G++(ab ρ T fr.H++Φ)) w)(c:∀it∈X.Γ,it∈Φ)
  (j:br T st.E fr.F g fo=some (.raw (.func (.methodOf it nm) #[] #[]))) (bH:X.P.underlying it=some l) (hd:iY l=true) (f:vt T st.E fr.F g xs=some (.ifc t u::vs)) (m:Kk X T fr st g t u nm=some q) {tb:List aA} (i:∀e∈tb,e.Ok X.P X.Γ) (h:xX T fr st g d q.1 (q.2::vs) K tb=some r):
  mW X.P T g (az ρ T st.E fr.F) ⟨d,.call ⟨.value fo,xs.toArray,tys⟩,ty,pos,af,gd⟩ w (aU r K T fr st g d ρ Φ):=by
 have b:=aO (ρ:=ρ) j;have a:=jQ (ρ:=ρ) f;simp only [AV.val,AV.al] at b a;exact BH hl k c (λs o n v p=>acF s b bH hd (abo k m) a p o) i h
theorem aon{c:Callee}{xs:Array Operand}{I:Array TypeId}(hl:st.low fr=true)(l:Sat (ab ρ T st.G++(ab ρ T fr.H++Φ)) w)(m:∀it∈X.Γ,it∈Φ)(o:∀e∈tb,e.Ok X.P X.Γ)
  (h:alu X tb T fr st g d c xs.toList I.toList K=some r):mW X.P T g (az ρ T st.E fr.F) ⟨d,.call ⟨c,xs,I⟩,ty,pos,af,gd⟩ w (aU r K T fr st g d ρ Φ):=by
 obtain ⟨xs⟩:=xs;obtain ⟨I⟩:=I;unfold alu at h;split at h
 .unfold arp at h;split at h
  .rename_i x y t u J k z;simp only at k z;subst k;subst z;obtain ⟨rfl,s⟩:=dG h;rcases ek s with ⟨A,j⟩|⟨_,j⟩
   .have:=b0 A;subst this;exact apJ hl l j
   .exact alq hl l j
  next x J k=>simp only at k;subst k;obtain ⟨rfl,s⟩:=dG h;exact (abk hl l s).YG
  next x y Q it J k z=>simp only at k z;subst k;subst z;obtain ⟨rfl,s⟩:=dG h;exact alB hl l s
  next x y t u k z=>simp only at k z;subst k;subst z;obtain ⟨rfl,s⟩:=dG h;obtain ⟨A,j⟩:=aI s;have:=b0 A;subst this;exact akf hl l j
  .cases h
 .split at h
  .rename_i f a b p;split at h
   next vs i=>refine apH hl l (λN L n O M=>?_) h (λh=>ak6 hl l m p i o h);have v:=aO (ρ:=ρ) p;have B:=jQ (ρ:=ρ) i;simp only [AV.val] at v;rw [dp,dp];exact Gb N v B M L
   .cases h
  .rename_i it nm p;split at h
   .rename_i R bH;obtain ⟨s,A⟩:=aI h;split at A
    .rename_i t u vs i;have j:=abP A;split at j
     next q D=>exact amN hl l m p bH s i D o j
     .cases j
    .cases A
   .cases h
  .cases h
 .split at h
  .rename_i t u C;split at h
   .rename_i vs i;split at h
    .have j:=abP h;split at j
     next q D=>exact aas hl l m C i D o j
     .cases j
    .split at h
     next q D=>exact aas hl l m C i D o h
     .cases h
   .cases h
  .cases h
theorem art{op:Op}{dst:zd}(hl:st.low fr=true)(b:Sat (ab ρ T st.G++(ab ρ T fr.H++Φ)) w)(c:∀it∈X.Γ,it∈Φ)(i:∀e∈tb,e.Ok X.P X.Γ)
  (h:opN X tb T fr st g op dst K=some r):mW X.P T g (az ρ T st.E fr.F) ⟨dst,op,ty,pos,af,gd⟩ w (aU r K T fr st g dst ρ Φ):=by
 unfold opN at h;split at h
 .split at h
  .exact (aec hl b h).YG
  .split at h
   .exact (YK hl c b h).YG
   .obtain ⟨rfl,a⟩:=dG h;exact (adA b a).YG
 .split at h
  .split at h
   .rcases ek h with ⟨_,j⟩|⟨_,j⟩
    .obtain ⟨rfl,k⟩:=dG j;exact akU hl b k
    .exact (Vc hl b j).YG
   .exact (Vc hl b h).YG
  .split at h
   .obtain ⟨rfl,a⟩:=dG h;exact aoe hl c b a
   .obtain ⟨rfl,a⟩:=dG h;exact aoV hl b a
 .obtain ⟨rfl,a⟩:=dG h;exact ajw hl b a
 .obtain ⟨rfl,a⟩:=dG h;exact aoT hl b a
 .obtain ⟨rfl,a⟩:=dG h;unfold ah1 at a;split at a
  .rename_i id d hx;split at a
   next v f=>exact .none_ (ajp b hx f a)
   .cases a
  .rename_i id d hx;split at a
   next v f=>exact .none_ (aiT hl b hx f a)
   .cases a
  .cases a
 .unfold anD at h;split at h
  next q d hx=>exact akJ hl b hx h
  .cases h
 .exact aoB hl b h
 .obtain ⟨rfl,a⟩:=dG h;exact alA hl b a
 .obtain ⟨rfl,a⟩:=dG h;exact aml hl b a
 .obtain ⟨rfl,a⟩:=dG h;exact akp b a
 .obtain ⟨rfl,a⟩:=dG h;exact anS hl b a
 .obtain ⟨rfl,a⟩:=dG h;exact aoz b a
 .exact aoN hl b h
 .obtain ⟨rfl,a⟩:=dG h;exact apC b a
 .exact aon hl b c i h
 .cases h
theorem aq4{o:Oper}(m:fZ T st.E fr.F)(f:Sat (ab ρ T st.G++(ab ρ T fr.H++Φ)) w)(i:∀it∈X.Γ,it∈Φ)(j:∀e∈tb,e.Ok X.P X.Γ)
  (h:opD X tb T fr st g o K=some r):mW X.P T g (az ρ T st.E fr.F) o w (aU r K T fr st g o.dst ρ Φ):=by
 obtain ⟨dst,op,ty,pos,af,gd⟩:=o;unfold opD at h;simp only at h;split at h
 next cv b=>obtain ⟨d,c⟩:=tQ h;exact Pj.YG ⟨_,λw'=>Zm m b d,aU.kX c (cH _) rfl rfl f⟩
 .split at h
  next cv b=>obtain ⟨d,c⟩:=tQ h;have k:=aac (dst:=dst) (ty:=ty) (pos:=pos) (af:=af) (gd:=gd) f b d;have a:aU r K T fr st g dst ρ Φ (cv.2.val ρ) w:=aU.kX c (cH _) rfl rfl f;exact ⟨λl=>bK.run (by rwa [l] at k) a,λ_=>⟨_,a⟩⟩
  .obtain ⟨d,c⟩:=aI h;exact art d f i j c
end
def Row.gd:Row->GK
 | .sli g _ _ _ _|.elm g _ _|.kn g _ _ _ _ _ _=>g
 |_=>none
theorem Row.Ec{ρ:ay}{T T':aB}{r:Row}(h:T'.get r.gd=T.get r.gd):r.item ρ T'=r.item ρ T:=by cases r <;> simp only [Row.gd] at h <;> simp only [Row.item,h]
def EM(k:Nat×Bool)(g:GK):Bool:= !(GK.eq (some k) g)
def KB(k:Nat×Bool):aF->Bool
 |[]=>true
 |x::E=>EM k x.2.1&&KB k E
def QW(k:Nat×Bool):List Row->Bool
 |[]=>true
 |r::G=>EM k r.gd&&QW k G
def aeU(k:Nat×Bool):aB->Bool
 |[]=>true
 |x::T=>EM k (some x.1)&&EM k x.2.1&&aeU k T
theorem Av{k:Nat×Bool}{par:GK}{rj:Nat}{b:Bool}{T:aB}{g:GK}(h:EM k g=true):aB.get ((k,par,rj,b)::T) g=T.get g:=aB.Ra h
theorem Rj{ρ:ay}{k:Nat×Bool}{par:GK}{rj:Nat}{b:Bool}{T:aB}:{E:aF}->KB k E=true->aF.env ρ ((k,par,rj,b)::T) E=aF.env ρ T E
 |[],_=>rfl
 |(t,g,v)::E,h=>by simp only [KB,ar] at h;simp only [aF.env];rw [Av h.1,Rj h.2]
theorem Ji{ρ:ay}{k:Nat×Bool}{par:GK}{rj:Nat}{b:Bool}{T:aB}:{G:List Row}->QW k G=true->ab ρ ((k,par,rj,b)::T) G=ab ρ T G
 |[],_=>rfl
 |r::G,h=>by simp only [QW,ar] at h;simp only [ab,eT];rw [Row.Ec (Av h.1)];have:=Ji (ρ:=ρ) (par:=par) (rj:=rj) (b:=b) (T:=T) h.2;simp only [ab] at this;rw [this]
theorem Mb{k:Nat×Bool}:{E:aF}->KB k E=true->{t:Nat}->{x:GK×AV}->bA E t=some x->EM k x.1=true
 |[],_,_,_,h=>by cases h
 |(r,g,v)::E,h,t,x,hx=>by
  simp only [KB,ar] at h;unfold bA at hx;rcases ek hx with ⟨_,a⟩|⟨_,a⟩
  .cases a;exact h.1
  .exact Mb h.2 a
def PX(k:Nat×Bool):aB->Bool
 |[]=>false
 |x::T=>GK.eq (some k) (some x.1)||PX k T
def rO(d:zd):aB->Bool
 |[]=>true
 |x::T=>(match d with
  |none=>true
  |some d=> !(Nat.beq d x.2.2.1))&&rO d T
def sk(ops:zh)(n:Nat)(T:aB):Prop:= ∀x,x∈T->(ops[x.1.1]?).bind (·.dst)=some x.2.2.1/\Nat.blt x.2.2.1 n=true
def FT(T:aB)(fr:Fr):Prop:=(∀x,x∈fr.F->T.get x.2.1=aB.get [] x.2.1)/\∀r,r∈fr.H->T.get r.gd=aB.get [] r.gd
def stepG{R:Type}(ops:zh)(T:aB)(fr:Fr)(st:aC)(o:Oper)(run:aB->GK->Option R):Option R:=
 aD (j9 o&&Nk fr.n o.dst) (match o.guard with
 |none=>aD ( rO o.dst T ) ( run T none ) none
 |some k=>aD ( PX k T ) ( aD ( rO o.dst T ) ( run T (some k) ) none )<|match ops[k.1]? with
  |some oj=>(match oj.dst with
   |some rj=>(match ey st.E fr.F rj with
    |some (par,.bool b)=>aD ( Nat.blt rj fr.n&&KB k st.E&&KB k fr.F&&QW k st.G&&QW k fr.H&&aeU k T&&rO o.dst ((k,par,rj,b)::T) ) ( run ((k,par,rj,b)::T) (some k) ) none
    |_=>none)
   |none=>none)
  |none=>none) none
structure ahM(ops:zh)(fr0 fr:Fr)(st:aC)(ρ:ay)(o:Oper)(T T':aB)(g:GK):Prop where
 pl:j9 o=true
 ds:Nk fr.n o.dst=true
 t1:fZ T' st.E fr.F
 t2:sk ops fr.n T'
 ft:FT T' fr0
 ak:rO o.dst T'=true
 ee:aF.env ρ T' st.E=aF.env ρ T st.E
 ef:aF.env ρ T' fr.F=aF.env ρ T fr.F
 eg:ab ρ T' st.G=ab ρ T st.G
 eh:ab ρ T' fr.H=ab ρ T fr.H
 gg:o.guard=g
 gk:∀k,g=some k->∃rj par b,(ops[k.1]?).bind (·.dst)=some rj/\look (az ρ T' st.E fr.F) rj=some (T'.get par,.bool b)/\Nat.blt rj fr.n=true/\(T'.get par&&(b==k.2))=T'.get g
theorem adW{k:Nat×Bool}:{T:aB}->PX k T=true->∃x,x∈T/\x.1=k
 |[],h=>by cases h
 |x::T,h=>by
  simp only [PX,e9] at h;rcases h with h|h
  .have:=GK.eq_eq h;cases this;exact ⟨x,c8 .., rfl⟩
  .obtain ⟨y,b,a⟩:=adW h;exact ⟨y,cp _ b,a⟩
theorem adi{k:Nat×Bool}:{T:aB}->aeU k T=true->∀x,x∈T->EM k (some x.1)=true/\EM k x.2.1=true
 |[],_,x,h=>by cases h
 |y::T,h,x,hx=>by
  simp only [aeU,ar] at h;rcases List.mem_cons.1 hx with rfl|hx
  .exact h.1
  .exact adi h.2 x hx
theorem ad4{k:Nat×Bool}:{E:aF}->KB k E=true->∀x,x∈E->EM k x.2.1=true
 |[],_,x,h=>by cases h
 |y::T,h,x,hx=>by
  simp only [KB,ar] at h;rcases List.mem_cons.1 hx with rfl|hx
  .exact h.1
  .exact ad4 h.2 x hx
theorem adN{k:Nat×Bool}:{E:List Row}->QW k E=true->∀x,x∈E->EM k x.gd=true
 |[],_,x,h=>by cases h
 |y::T,h,x,hx=>by
  simp only [QW,ar] at h;rcases List.mem_cons.1 hx with rfl|hx
  .exact h.1
  .exact adN h.2 x hx
theorem ZZ{R:Type}{r:R}{ops:zh}{T:aB}{fr0 fr:Fr}{st:aC}{o:Oper}{run:aB->GK->Option R}{ρ:ay}(u:fZ T st.E fr.F)(t:sk ops fr.n T)(w:fr0.F=fr.F)(v:∀r,r∈fr0.H->r∈fr.H)(p:FT T fr0)(h:stepG ops T fr st o run=some r):
  ∃T' g,run T' g=some r/\ahM ops fr0 fr st ρ o T T' g:=by
 unfold stepG at h;obtain ⟨f,z⟩:=aI h;simp only [ar] at f;have kX:∀k x,x∈T->x.1=k->∃rj par b,(ops[k.1]?).bind (·.dst)=some rj/\look (az ρ T st.E fr.F) rj=some (T.get par,.bool b)/\Nat.blt rj fr.n=true/\(T.get par&&(b==k.2))=T.get (some k):=λk x hx hk=>by subst hk;obtain ⟨G,D⟩:=u x hx;obtain ⟨C,B⟩:=t x hx;exact ⟨x.2.2.1,x.2.1,x.2.2.2,C,by rw [iR,G];simp [AV.val],B,by rw [D,OG]⟩
 split at z
 next m=>obtain ⟨s,d⟩:=aI z;exact ⟨T,none,d,⟨f.1,f.2,u,t,p,s,rfl,rfl,rfl,rfl,m,λk hk=>by cases hk⟩⟩
 .rename_i k m;rcases ek z with ⟨s,d⟩|⟨s,d⟩
  .obtain ⟨q,y⟩:=aI d;obtain ⟨x,hx,hk⟩:=adW s;exact ⟨T,some k,y,⟨f.1,f.2,u,t,p,q,rfl,rfl,rfl,rfl,m,λL e=>by cases e;exact kX k x hx hk⟩⟩
  .split at d
   .rename_i oj l;split at d
    .rename_i rj i;split at d
     .rename_i par b a;obtain ⟨q,y⟩:=aI d;simp only [ar] at q;obtain ⟨⟨⟨⟨⟨⟨K,J⟩,A⟩,O⟩,I⟩,N⟩,M⟩:=q;have j:EM k par=true:=by
       unfold ey at a;split at a
       next x hx=>cases a;exact Mb J hx
       .exact Mb A a
      have c:aB.get ((k,par,rj,b)::T) (some k)=(aB.get ((k,par,rj,b)::T) par&&AH k.2 b):=by rw [aB.akm,Av j]
      have ee:=Rj (ρ:=ρ) (par:=par) (rj:=rj) (b:=b) (T:=T) J;have ef:=Rj (ρ:=ρ) (par:=par) (rj:=rj) (b:=b) (T:=T) A;refine ⟨(k,par,rj,b)::T,some k,y,⟨f.1,f.2,λx hx=>?_,λx hx=>?_,⟨λx hx=>?_,λx hx=>?_⟩,M,ee,ef,Ji O,Ji I,m,λL e=>?_⟩⟩
      .rcases List.mem_cons.1 hx with rfl|hx
       .exact ⟨a,c⟩
       .obtain ⟨G,D⟩:=u x hx;obtain ⟨C,B⟩:=adi N x hx;exact ⟨G,by rw [Av C,Av B];exact D⟩
      .rcases List.mem_cons.1 hx with rfl|hx
       .exact ⟨by simp [l,i],K⟩
       .exact t x hx
      .rw [Av (ad4 A x (w▸hx))];exact p.1 x hx
      .rw [Av (adN I x (v x hx))];exact p.2 x hx
      .cases e;refine ⟨rj,par,b,by simp [l,i],?_,K,by rw [c,OG]⟩;rw [iR,a];simp [AV.val]
     .cases d
    .cases d
   .cases d
theorem Xc{d:zd}:{T:aB}->rO d T=true->∀x,x∈T->∀(g:GK) (v:AV) (E F:aF),ey (cN d g v E) F x.2.2.1=ey E F x.2.2.1
 |[],_,x,h=>by cases h
 |y::T,h,x,hx=>λg v E F=>by
  simp only [rO,ar] at h;rcases List.mem_cons.1 hx with rfl|hx
  .cases d with
   |none=>rfl
   |some d=>
    have a:=h.1;simp only [mm] at a;unfold ey;simp only [cN,bA,a]
  .exact Xc h.2 x hx g v E F
theorem fZ.out{T:aB}{E F:aF}(h:fZ T E F){d:zd}(ha:rO d T=true)(g:GK)(v:AV):fZ T (cN d g v E) F:=λx hx=>by rw [Xc ha x hx];exact h x hx
theorem xh{ρ:ay}{T:aB}{g:GK}{v:AV}{E F:aF}:az ρ T (cN d g v E) F=tF d (T.get g) (v.val ρ) (az ρ T E F):=by cases d <;> rfl
section
variable {X : Cx} {tb : List aA} {σ : zc} {Q : bm} {D : xb} {ops : zh} {rest : zh} {R : Type} {r : R} {T : aB} {fr : Fr} {st : aC} {ρ : ay} {Φ : Ctx} {w : World}
theorem aaL{fr0:Fr}{o:Oper}{K:aB->cJ R}(L:fZ T st.E fr.F)(J:sk ops fr.n T)(p:fr0.F=fr.F)(m:∀r,r∈fr0.H->r∈fr.H)(C:FT T fr0)(B:Sat (ab ρ T st.G++(ab ρ T fr.H++Φ)) w)(f:∀it∈X.Γ,it∈Φ)(i:∀e∈tb,e.Ok X.P X.Γ)
  (h:stepG ops T fr st o (λT g=>opD X tb T fr st g o (K T))=some r)
  (next:∀T' st' ρ' w',fZ T' st'.E fr.F->sk ops fr.n T'->FT T' fr0->aS st.c ρ ρ'->st.c<=st'.c->K T' st'=some r->ab ρ' T' fr.H=ab ρ T fr.H->Sat (ab ρ' T' st'.G++(ab ρ' T' fr.H++Φ)) w'->WL X.P σ ops.toArray Q fr.n D rest (az ρ' T' st'.E fr.F) w'):
  WL X.P σ ops.toArray Q fr.n D (o::rest) (az ρ T st.E fr.F) w:=by
 obtain ⟨T',g,hk,a⟩:=ZZ (ρ:=ρ) L J p m C h;have j:Sat (ab ρ T' st.G++(ab ρ T' fr.H++Φ)) w:=by rw [a.eg,a.eh];exact B
 have I:az ρ T st.E fr.F=az ρ T' st.E fr.F:=by rw [az,az,a.ee,a.ef]
 rw [I];have d:=aq4 a.t1 j f i hk;have fin:∀v w',aU r (K T') T' fr st g o.dst ρ Φ v w'->WL X.P σ ops.toArray Q fr.n D rest (tF o.dst (T'.get g) v (az ρ T' st.E fr.F)) w':=λv w' A=>by obtain ⟨ρ',st',av,k1,z,y,q,x,u,t,s⟩:=A;have:=next T' st' ρ' w' (by rw [q];exact a.t1.out a.ak g av) a.t2 a.ft z y k1 (t.trans a.eh) s;rw [q,xh,x,u] at this;exact this
 cases l:g with
 |none=>
  subst l;have:=fin;rw [aB.get_none] at this;exact aow (d.1 aB.get_none) a.pl a.gg a.ds this
 |some k=>
  obtain ⟨rj,par,b,S,O,N,M⟩:=a.gk k l;subst l;exact akV d.1 d.2 a.pl a.gg (by simpa using S) O N M a.ds fin
end
def uO{α:Type}:Option α->Bool
 |none=>true
 |some _=>false
def rb(E0:aF):aF->aF
 |[]=>[]
 |x::E=>(match bA E0 x.1 with
  |some (none,_)=>aD (uO x.2.1) (x::rb E0 E) (rb E0 E)
  |_=>rb E0 E)
def ox:List Row->List Row
 |[]=>[]
 |r::G=>aD (uO r.gd) (r::ox G) (ox G)
def Bj(T:aB)(st:aC):aC:=match T with
 |[]=>st
 |_::_=>{ st with E:=rb st.E st.E,G:=ox st.G }
theorem oS{t' t:Nat}{g:GK}{v:AV}{E:aF}(h:Nat.beq t' t=true):bA ((t',g,v)::E) t=some (g,v):=by simp only [bA,h]
theorem jB{t' t:Nat}{g:GK}{v:AV}{E:aF}(h:Nat.beq t' t=false):bA ((t',g,v)::E) t=bA E t:=by simp only [bA,h]
theorem GZ{d:aF}{t:Nat}:{E:aF}->{x:GK×AV}->bA (rb d E) t=some x->x.1=none/\(∃v,bA d t=some (none,v))/\((∃v,bA E t=some (none,v))->bA E t=some x)
 |[],x,h=>by cases h
 |(t',g',v')::E,x,h=>by
  unfold rb at h;have cY:bA (rb d E) t=some x->(∀v,Nat.beq t' t=true->bA d t'≠some (none,v)\/g'≠none)->x.1=none/\(∃v,bA d t=some (none,v))/\((∃v,bA ((t',g',v')::E) t=some (none,v))->bA ((t',g',v')::E) t=some x):=λm hn=>by
   obtain ⟨a,c,l⟩:=GZ m;refine ⟨a,c,λf=>?_⟩;cases hb:Nat.beq t' t
   .rw [jB hb] at f ⊢; exact l f
   .exfalso;obtain ⟨j,i⟩:=c;obtain ⟨n,b⟩:=f;rw [oS hb] at b;simp only [ej,q5] at b;have e:=b0 hb;rcases hn j hb with g|g
    .rw [e] at g;exact g i
    .exact g b.1
  dsimp only at h;split at h
  .rename_i v f;cases a:uO g'
   .rw [a] at h;exact cY h (λv _=> .inr (λe=>by rw [e] at a;cases a))
   .rw [a] at h;have c:bA ((t',g',v')::rb d E) t=some x:=h;cases hb:Nat.beq t' t
    .rw [jB hb] at c ⊢;exact GZ (E:=E) c
    .rw [oS hb] at c ⊢;cases c;have e:=b0 hb;refine ⟨?_,⟨v,by rw [<-e];exact f⟩,λ_=>rfl⟩;cases k:g' with
     |none=>rfl
     |some _=>rw [k] at a;cases a
  next hn=>exact cY h (λv hb=> .inl (λe=>hn v e))
theorem Pz{a:aF}{t:Nat}{c:AV}(b:bA a t=some (none,c)):{E:aF}->{v:AV}->bA E t=some (none,v)->bA (rb a E) t=some (none,v)
 |[],v,h=>by cases h
 |(t',g',v')::E,v,h=>by
  unfold rb;cases hb:Nat.beq t' t
  .rw [jB hb] at h;have ih:=Pz b h;dsimp only;split
   .cases uO g'
    .exact ih
    .show bA ((t',g',v')::rb a E) t=_;rw [jB hb];exact ih
   .exact ih
  .rw [oS hb] at h;cases h;have e:=b0 hb;subst e;dsimp only;rw [b];exact oS hb
def Yu(F E0:aF):aF->Bool
 |[]=>true
 |x::E=>(match bA E0 x.1 with
  |some (none,_)=>true
  |_=>uO (bA F x.1))&&Yu F E0 E
theorem YU{F c:aF}{t:Nat}:{E:aF}->{x:GK×AV}->Yu F c E=true->bA E t=some x->(∃v,bA c t=some (none,v))\/bA F t=none
 |[],x,_,h=>by cases h
 |(t',g',v')::E,x,hb,h=>by
  simp only [Yu,ar] at hb;cases b:Nat.beq t' t
  .rw [jB b] at h;exact YU hb.2 h
  .have e:=b0 b;subst e;have a:=hb.1;split at a
   next v d=>exact .inl ⟨v,d⟩
   .cases f:bA F t' with
    |none=>exact .inr rfl
    |some y=>rw [f] at a;cases a
def Fm(T:aB)(fr:Fr)(st:aC):Bool:=match T with
 |[]=>true
 |_::_=>Yu fr.F st.E st.E
theorem al0{ρ:ay}{T:aB}{E:aF}(h:∀x,x∈E->T.get x.2.1=aB.get [] x.2.1):aF.env ρ T E=aF.env ρ [] E:=by
 induction E with
 |nil=>rfl
 |cons x E ih=>
  obtain ⟨t,g,v⟩:=x;simp only [aF.env];rw [h _ (c8 ..),ih (λx hx=>h x (cp _ hx))]
theorem Uf{ρ:ay}{T:aB}{G:List Row}(h:∀r,r∈G->T.get r.gd=aB.get [] r.gd):ab ρ T G=ab ρ [] G:=
 qM λr a=>Row.Ec (h r a)
theorem Ba:{G:List Row}->∀r,r∈ox G->r.gd=none
 |[],r,h=>by cases h
 |y::G,r,h=>by
  unfold ox at h;cases a:uO y.gd
  .rw [a] at h;exact Ba r h
  .rw [a] at h;rcases List.mem_cons.1 h with rfl|h
   .cases b:r.gd with
    |none=>rfl
    |some _=>rw [b] at a;cases a
   .exact Ba r h
theorem Dn{ρ:ay}{T:aB}{w:World}{B:Ctx}:∀{G:List Row} {A:Ctx},Sat (A++(ab ρ T G++B)) w->Sat (A++(ab ρ T (ox G)++B)) w
 |[],_,h=>h
 |r::G,A,h=>by
  unfold ox;cases uO r.gd
  .exact Dn (G:=G) (Sat.Dh h)
  .have a:Sat ((A++[r.item ρ T])++(ab ρ T G++B)) w:=by simpa [ab] using h
   have:=Dn (G:=G) a;simpa [ab] using this
theorem JH{ρ:ay}{T:aB}{fr:Fr}{st:aC}{Φ:Ctx}{w:World}(j:Fm T fr st=true)(f:FT T fr)(e:Sat (ab ρ T st.G++(ab ρ T fr.H++Φ)) w):
  (Bj T st).c=st.c/\lG (az ρ [] (Bj T st).E fr.F) (az ρ T st.E fr.F)/\Sat (ab ρ [] (Bj T st).G++(ab ρ [] fr.H++Φ)) w:=by
 cases T with
 |nil=>exact ⟨rfl,lG.refl,e⟩
 |cons x T=>
  refine ⟨rfl,λt p hp=>?_,?_⟩
  .have n:aF.env ρ (x::T) fr.F=aF.env ρ [] fr.F:=al0 f.1;rw [az,Hr] at hp ⊢;rw [n];cases hl:look (aF.env ρ [] (Bj (x::T) st).E) t with
   |none=>
    rw [hl] at hp
    -- nothing kept: nothing told, or under a guard
    have:look (aF.env ρ (x::T) st.E) t=none:=by
     rw [AW] at hl hp ⊢;cases i:bA st.E t with
     |none=>rfl
     |some y=>
      exfalso;have hk:bA (rb st.E st.E) t=none:=by
       cases hk:bA (rb st.E st.E) t with
       |none=>rfl
       |some z=>
        have:bA (Bj (x::T) st).E t=some z:=hk;rw [this] at hl;cases hl
      rcases YU j i with ⟨v,d⟩|h
      .rw [Pz d d] at hk;cases hk
      .rw [h] at hp;cases hp
    rw [this];exact hp
   |some q=>
    rw [hl] at hp;cases hp;rw [AW] at hl;cases hk:bA (Bj (x::T) st).E t with
    |none=>rw [hk] at hl;cases hl
    |some y=>
     rw [hk] at hl;obtain ⟨b,m,l⟩:=GZ hk;have k:=l m;rw [AW,k];simp only [l7,ej] at hl ⊢;rw [<-hl,b,aB.get_none,aB.get_none]
  .have b:=Dn (A:=[]) e;have s:ab ρ (x::T) (ox st.G)=ab ρ [] (ox st.G):=Uf λr g=>by rw [Ba r g,aB.get_none,aB.get_none]
   have o:ab ρ (x::T) fr.H=ab ρ [] fr.H:=Uf f.2;rw [oY,s,o] at b;exact b
def uZ:Bool->Pt->List (Bool×Nat×Pt)->Type
 |true,_,_=>Empty
 |false,r,os=>fK (ry r++jC os)
abbrev arl{R:Type}:(nv:Bool)->(r:Pt)->(os:List (Bool×Nat×Pt))->uZ nv r os->(fK (ry r++jC os)->Option R)->Option R
 |true,_,_,x,_=>Empty.elim x
 |false,_,_,x,K=>K x
def isOk:(nv:Bool)->(r:Pt)->(os:List (Bool×Nat×Pt))->uZ nv r os->fK (ry r++jC os)->Prop
 |true,_,_,_,_=>False
 |false,_,_,x,q=>x=q
theorem aoM{R:Type}{a:R}:{nv:Bool}->{r:Pt}->{os:List (Bool×Nat×Pt)}->{x:uZ nv r os}->{q:fK (ry r++jC os)}->{K:fK (ry r++jC os)->Option R}->isOk nv r os x q->arl nv r os x K=some a->K q=some a
 |true,_,_,_,_,_,h,_=>h.elim
 |false,_,_,_,_,_,rfl,h=>h
abbrev Sv(p:Pt):Option Pt->Type
 |none=>fK (ry p)
 |some q=>fK (ry p) ⊕ fK (ry q)
abbrev abe{A B R:Type}(x:A ⊕ B)(f:A->R)(g:B->R):R:=match x with
 | .inl a=>f a
 | .inr b=>g b
def amR(pp:Pt):(pq:Option Pt)->Sv pp pq->Value->fX->lP->List Nm->Prop
 |none,p,v,I,X,N=>Sem pp v none none [] (iU _ p) I X N
 |some _,.inl p,v,I,X,N=>Sem pp v none none [] (iU _ p) I X N
 |some q,.inr p,v,I,X,N=>Sem q v none none [] (iU _ p) I X N
structure bY where
 f:FuncId
 ps:List Pt
 pp:Pt
 pq:Option Pt
 nv:Bool
 lp:Bool
 r:Pt
 os:List (Bool×Nat×Pt)
 m:fK (rH ps)->Option (Except (Sv pp pq) (uZ nv r os))
def bY.oe(e:bY):aA:=⟨e.f,e.ps,e.r,e.os,λ_=>none⟩
def bY.S(e:bY)(vs:za)(N:List Nm)(I:fX)(X:lP)(Φ:Ctx)(r:Except (Sv e.pp e.pq) (uZ e.nv e.r e.os))(v:Value)(w':World):Prop:=
 ∃x q,r= .ok x/\isOk e.nv e.r e.os x q/\∃(N1 N2:List Nm) (D1 D2:List cm) (I1 I2:fX) (X1 X2:lP),Sem e.r v none none N D1 I1 X1 N1/\G6 (Rz e.ps vs X) (λi=>vs[i]?) e.os N1 D2 I2 X2 N2/\D1++D2=iU _ q/\
  Sat ((dF I1++dF I2)++(iE I++Φ)) w'
def bY.Sp(e:bY)(I:fX)(Φ:Ctx)(r:Except (Sv e.pp e.pq) (uZ e.nv e.r e.os))(c:w4)(w':World):Prop:=
 ∃p,r= .error p/\∃(v:Value) (N1:List Nm) (I1:fX) (X1:lP),c=j4 v/\amR e.pp e.pq p v I1 X1 N1/\Sat (dF I1++(aD e.lp [] (iE I)++Φ)) w'
def bY.Ok(P:Program)(Γg:Ctx)(e:bY):Prop:=Enters P e.f/\∀s r,e.m s=some r->∀(vs:za) (N:List Nm) (I:fX) (X:lP) (Φ:Ctx) (w:World),
 xQ e.ps vs [] [] [] (iU _ s) I X N->Sat (dF I++Φ) w->(∀it∈Γg,it∈Φ)->ov P e.f vs w (e.S vs N I X Φ r) (e.Sp I Φ r)
theorem Sat.move{A B C:Ctx}{x:Item}{w:World}(h:Sat (A++x::(B++C)) w):Sat (A++(B++x::C)) w:=by
 refine h.Dp (λj k=>(j<A.length/\k=j)\/(A.length<=j/\j<A.length+B.length/\k=j+1)\/(j=A.length+B.length/\k=A.length)\/(A.length+B.length<j/\k=j)) (λj b a=>?_) (λj k q c l i=>by omega);by_cases e:j<A.length
 .rw [ec e] at a;exact .inr ⟨j,b,.inl ⟨e,rfl⟩,by rw [ec e];exact a,bW.refl⟩
 .rw [c9 (by omega)] at a;by_cases g:j<A.length+B.length
  .rw [ec (by omega)] at a;refine .inr ⟨j+1,b,.inr (.inl ⟨by omega,g,rfl⟩),?_,bW.refl⟩;rw [c9 (by omega)];have:j+1-A.length=(j-A.length)+1:=by omega
   rw [this,gy,ec (by omega)];exact a
  .rw [c9 (by omega)] at a;by_cases e3:j=A.length+B.length
   .subst e3;rw [show A.length+B.length-A.length-B.length=0 by omega] at a;simp at a;subst a;exact .inr ⟨A.length,x,.inr (.inr (.inl ⟨rfl,rfl⟩)),by simp,bW.refl⟩
   .refine .inr ⟨j,b,.inr (.inr (.inr ⟨by omega,rfl⟩)),?_,bW.refl⟩;rw [c9 (by omega)];have e4:j-A.length-B.length=(j-A.length-B.length-1)+1:=by omega
    rw [e4,gy] at a;have f:j-A.length=(j-A.length-1)+1:=by omega
    rw [f,gy,c9 (by omega)];have d:j-A.length-1-B.length=j-A.length-B.length-1:=by omega
    rw [d];exact a
theorem Sat.swp{w:World}{B C:Ctx}:∀{A P:Ctx},Sat (P++(A++(B++C))) w->Sat (P++(B++(A++C))) w
 |[],_,h=>h
 |x::A,P,h=>by
  have c:Sat ((P++[x])++(A++(B++C))) w:=by simpa using h
  have b:=Sat.swp (A:=A) c;have a:Sat (P++x::(B++(A++C))) w:=by simpa using b
  exact a.move
def dz:List Row->List Row
 |[]=>[]
 |r::G=>aD r.cM (r::dz G) (dz G)
abbrev II(b:Bool)(H:List Row):List Row:=aD b (dz H) H
theorem GF{c:Nat}:{G:List Row}->bB c G=true->bB c (dz G)=true
 |[],_=>rfl
 |r::G,h=>by
  simp only [bB,ar] at h;unfold dz;cases r.cM
  .exact GF h.2
  .show bB c (r::dz G)=true;simp only [bB,ar];exact ⟨h.1,GF h.2⟩
theorem aoL{c:Nat}{b:Bool}{G:List Row}(h:bB c G=true):bB c (II b G)=true:=by
 cases b
 .exact h
 .exact GF h
theorem tz{r:Row}:{G:List Row}->r∈dz G->r∈G/\r.cM=true
 |[],h=>by cases h
 |x::G,h=>by
  unfold dz at h;cases hx:x.cM <;> rw [hx] at h
  .exact ⟨cp _ (tz h).1,(tz h).2⟩
  .rcases List.mem_cons.1 h with rfl|h
   .exact ⟨c8 .., hx⟩
   .exact ⟨cp _ (tz h).1,(tz h).2⟩
theorem NI{G H:List Row}:dz (G++H)=dz G++dz H:=by
 induction G with
 |nil=>rfl
 |cons r G ih=>
  show aD r.cM (r::dz (G++H)) (dz (G++H))=aD r.cM (r::dz G) (dz G)++dz H;rw [ih];cases r.cM <;> rfl
theorem ahy{ρ:ay}{T:aB}{w:World}{Γ:Ctx}(h:Sat Γ w){H:List Row}(b:∀r∈H,r.item ρ T∈Γ):Sat (ab ρ T (dz H)++Γ) w:=by
 refine h.alL _ (List.all_eq_true.2 λit bH=>?_) ?_
 .obtain ⟨r,a,rfl⟩:=List.mem_map.1 bH;exact Row.aip (tz a).2
 .have:∀l:List Item,(∀it∈l,it.P Γ.M w)->agi Γ.M w l:=λl=>by
   induction l with
   |nil=>intro _;trivial
   |cons x l ih=>intro hl;exact ⟨hl x (c8 ..),ih λit bH=>hl it (cp _ bH)⟩
  refine this _ λit bH=>?_;obtain ⟨r,a,rfl⟩:=List.mem_map.1 bH;exact h.all _ (b r (tz a).1)
theorem ao4{L:wi}{A B:Ctx}(h:∀i,some i∈L->i<A.length):∃a,ll L (A++B)=a++B/\a.length=A.length:=by
 induction L with
 |nil=>exact ⟨A,rfl,rfl⟩
 |cons o L ih=>
  obtain ⟨a,c,b⟩:=ih (λi hi=>h i (cp _ hi));cases o with
  |none=>exact ⟨a,c,b⟩
  |some i=>
   refine ⟨a.set i jr,?_,by rw [qI,b]⟩;show (ll L (A++B)).set i jr=_;have:=h i (c8 ..);rw [c,List.set_append_left _ _ (by omega)]
theorem Sat.MU{w:World}{B C:Ctx}:∀{A:Ctx},Sat (B++(A++C)) w->Sat (B++C) w
 |[],h=>h
 |_x::A,h=>Sat.MU (A:=A) (Sat.Dh h)
def LV{R:Type}(st:aC)(pp:Pt)(G1:List Row)(KP:AV->aC->Option R)(p:fK (ry pp)):Option R:=
 match fill (vU [] st.c) pp none none 0 (iU _ p) with
 |⟨v,R1,k,_,_⟩=>KP v { st with c:=st.c+k,G:=R1.map (·.2)++G1 }
abbrev ajA{R:Type}(st:aC)(pp:Pt):(pq:Option Pt)->(G1:List Row)->(KP:AV->aC->Option R)->Sv pp pq->Option R
 |none,G1,KP,p=>LV st pp G1 KP p
 |some q,G1,KP,p=>abe p (LV st pp G1 KP) (LV st q G1 KP)
def aa2{R:Type}(fr:Fr)(st:aC)(d:zd)(args:List AV)(e:bY)(KP:Bool->AV->aC->Option R)(K:cJ R):Option (Option R):=
 match Ig (cw (eZ st.G fr.H e.ps args) st.G) fr.H e.ps args [] [] [] with
  |some mr=>aD (HL (mr.S.map λx=>dE (cw (eZ st.G fr.H e.ps args) st.G) fr.H x.2)&&Pq (cw (eZ st.G fr.H e.ps args) st.G).length (Ck (cw (eZ st.G fr.H e.ps args) st.G) fr.H mr.S)&&WU st.c mr.B&&AV.ck st.c args&&Rf st.c mr.X&&uF (y9 e.ps args mr.X) e.os) (match cW (rH e.ps) mr.D with
   |some s=>some (gD (e.m s) (ajA st e.pp e.pq (aD e.lp (dz (cw (eZ st.G fr.H e.ps args) st.G)) (mY (uE (Ck (cw (eZ st.G fr.H e.ps args) st.G) fr.H mr.S) 0 (cw (eZ st.G fr.H e.ps args) st.G)))) (KP e.lp))
     (λx=>arl e.nv e.r e.os x (N8 fr st none d args e.oe mr (mY (uE (Ck (cw (eZ st.G fr.H e.ps args) st.G) fr.H mr.S) 0 (cw (eZ st.G fr.H e.ps args) st.G))) K)))
   |none=>none) none
  |none=>none
def NS{R:Type}(fr:Fr)(st:aC)(d:zd)(f:FuncId)(args:List AV)(KP:Bool->AV->aC->Option R)(K:cJ R):List bY->Option (Option R)
 |[]=>none
 |e::tp=>aD (Nat.beq e.f f) (match aa2 fr st d args e KP K with
   |some r=>some r
   |none=>NS fr st d f args KP K tp) (NS fr st d f args KP K tp)
def af4{R:Type}(tp:List bY)(T:aB)(fr:Fr)(st:aC)(o:Oper)(KP:Bool->AV->aC->Option R)(K:cJ R):Option (Option R):=match o.guard with
 |some _=>none
 |none=>(match o.op with
  | .panic x=>(match br T st.E fr.F none x with
   |some (.ifc t v)=>some (KP false (.ifc t v) st)
   |_=>none)
  | .call c=>(match c.callee with
   | .value fo=>(match br T st.E fr.F none fo with
    |some (.fn f a b)=>(match vt T st.E fr.F none c.args.toList with
     |some vs=>aD (rO o.dst T&&Nk fr.n o.dst&&st.low fr) (NS fr st o.dst f (a++vs++b) KP K tp) none
     |none=>none)
    |_=>none)
   |_=>none)
  |_=>none)
section
variable {P : Program} {R : Type} {r : R} {K : cJ R} {KP : Bool -> AV -> aC -> Option R} {b : Bool} {T : aB} {fr : Fr} {st : aC} {d : zd} {ρ : ay} {Φ Γg : Ctx} {w : World}
def aaW(r:R)(KP:Bool->AV->aC->Option R)(T:aB)(fr:Fr)(st:aC)(ρ:ay)(Φ:Ctx)(v:Value)(w':World):Prop:=
 ∃(b:Bool) (ρ':ay) (st':aC) (av:AV),KP b av st'=some r/\aS st.c ρ ρ'/\st.c<=st'.c/\st'.E=st.E/\av.val ρ'=v/\Sat (ab ρ' T st'.G++(ab ρ' T (II b fr.H)++Φ)) w'/\az ρ' T st.E fr.F=az ρ T st.E fr.F
theorem JT{pp:Pt}{f:List Row}{p:fK (ry pp)}{v:Value}{w':World}{e:List Nm}{m:fX}{w:lP}
  (hl:st.low fr=true) (o:bB st.c f=true) (u:Sem pp v none none [] (iU _ p) m w e)
  (z:Sat (dF m++(ab ρ T f++(ab ρ T (II b fr.H)++Φ))) w') (h:LV st pp f (KP b) p=some r):aaW r KP T fr st ρ Φ v w':=by
 have n:=AZ _ _ _ _ _ _ _ _ _ u;have d:=WW (ρ:=ρ) (c:=st.c) (N:=[]) (B:=[]) (N2:=e) .nil n rfl;have a:aS st.c ρ (λi=>aD (Nat.blt i st.c) (ρ i) ((e[i-st.c]?).getD dy)):=λj D=>by
  have:Nat.blt j st.c=true:=by simpa using D
  simp only [this]
 generalize y:(λi=>aD (Nat.blt i st.c) (ρ i) ((e[i-st.c]?).getD dy))=ρ' at d a;obtain ⟨l,t,s,q,g⟩:=H9 (T:=T) pp v none none [] (iU _ p) m w e u (HQ _) d (by simp) [];rw [j5,qq] at l t s q g;unfold LV at h;generalize fill (vU [] st.c) pp none none 0 (iU _ p)=L at l t s q g h;obtain ⟨x,E,k,G,F⟩:=L;simp only at l t s q g;dsimp only at h;have e3:=aZ (T:=T) a o;have e4:=aZ (T:=T) a (aoL (b:=b) (aC.cG.1 hl).2.2.2);refine ⟨b,ρ',_,x,h,a,qO _ _,rfl,l,?_,rW hl a⟩;show Sat (ab ρ' T (E.map (·.2)++f)++(ab ρ' T (II b fr.H)++Φ)) w';rw [bg,e3,e4,cb];exact Sat.leL (A:=[]) (B:=dF m) (C:=ab ρ T f++(ab ρ T (II b fr.H)++Φ)) (by simpa using z) g.rw
theorem SX{pp:Pt}:{pq:Option Pt}->{a:List Row}->{p:Sv pp pq}->{v:Value}->{w':World}->{f:List Nm}->{d:fX}->{e:lP}->
  st.low fr=true->bB st.c a=true->amR pp pq p v d e f->Sat (dF d++(ab ρ T a++(ab ρ T (II b fr.H)++Φ))) w'->ajA st pp pq a (KP b) p=some r->aaW r KP T fr st ρ Φ v w'
 |none,_,_,_,_,_,_,_,hl,hG,h1,hs,h=>JT hl hG h1 hs h
 |some _,_,.inl _,_,_,_,_,_,hl,hG,h1,hs,h=>JT hl hG h1 hs h
 |some _,_,.inr _,_,_,_,_,_,hl,hG,h1,hs,h=>JT hl hG h1 hs h
theorem ahI{e:bY}{args:List AV}(hl:st.low fr=true)(n:Sat (ab ρ T st.G++(ab ρ T fr.H++Φ)) w)(he:e.Ok P Γg)(l:∀it∈Γg,it∈Φ)(h:aa2 fr st d args e KP K=some (some r)):
  ov P e.f (AV.al ρ args) w (aU r K T fr st none d ρ Φ) (λc w'=>∃v,c=j4 v/\aaW r KP T fr st ρ Φ v w'):=by
 have D:=uN (ids:=eZ st.G fr.H e.ps args) (aC.cG.1 hl).2.2.1;replace n:=lI (ids:=eZ st.G fr.H e.ps args) n;unfold aa2 at h;generalize cw (eZ st.G fr.H e.ps args) st.G=a at D n h;have hd:=ahy n (H:=a++fr.H) (λr hr=>List.mem_append.2 ((List.mem_append.1 hr).imp (λh=>List.mem_map_of_mem h) (λh=>qz _ (List.mem_map_of_mem h))));replace hd:Sat (ab ρ T a++(ab ρ T fr.H++(ab ρ T (dz (a++fr.H))++Φ))) w:=by exact Sat.swp (P:=ab ρ T a) (Sat.swp (P:=[]) hd)
 have M:=l;replace l:∀it∈Γg,it∈ab ρ T (dz (a++fr.H))++Φ:=λit bH=>gx _ (M it bH);generalize J:ab ρ T (dz (a++fr.H))++Φ=g at hd l;have hdr:∀{A:Ctx} {w':World},Sat (A++g) w'->Sat (A++Φ) w':=λ{A w'} h=>by rw [<-J] at h;exact Sat.MU h
 replace n:=hd;split at h
 .rename_i m hm;obtain ⟨h1,Y⟩:=aI h;simp only [ar] at h1;obtain ⟨⟨⟨⟨⟨h3,h4⟩,h5⟩,h6⟩,h7⟩,h9⟩:=h1;split at Y
  .rename_i s O;simp only [ej] at Y;obtain ⟨N,I,s1,n1,a1⟩:=BM n e.ps args [] [] [] m [] hm (.inl rfl) .nil;rw [<-Dv _ O] at s1;obtain ⟨p1,p2⟩:=Oj n a1;have o:=Aq h3;obtain ⟨q1,_⟩:=AE n p1 o;have F:∀(L:wi) (G:List Row) (k:Nat),bB st.c G=true->bB st.c (mY (uE L k G))=true:=λL G=>by
    induction G with
    |nil=>intro k _;rfl
    |cons r G ih=>
     intro k V;simp only [bB,ar] at V;show bB st.c (mY ((aD (nq k L) .gone r)::uE L (k+1) G))=true;cases nq k L
     .cases r <;> first|exact ih (k+1) V.2|(simp only [mY,bB,ar];exact ⟨V.1,ih (k+1) V.2⟩)
     .exact ih (k+1) V.2
   have t:=F (Ck a fr.H m.S) a 0 D;have Q:∀it∈Γg,it∈ll (m.S.map λx=>dE a fr.H x.2) (ab ρ T a++(ab ρ T fr.H++g)):=λit bH=>by
    obtain ⟨k,hk⟩:=List.mem_iff_getElem?.1 (l it bH);have hk2:(ab ρ T a++(ab ρ T fr.H++g))[a.length+fr.H.length+k]? =some it:=by
     rw [c9 (by simp [ab];omega),c9 (by simp [ab];omega)];have:a.length+fr.H.length+k-(ab ρ T a).length-(ab ρ T fr.H).length=k:=by simp [ab];omega
     rw [this];exact hk
    refine fe (i:=a.length+fr.H.length+k) ?_;rw [Dy,hk2];intro R;obtain ⟨x,_,hx⟩:=List.mem_map.1 R;have:=Qx hx;omega
   have u:=λrr hr=>he.2 s rr hr (AV.al ρ args) N I (fj ρ m.X) _ w (by simpa only [AV.al] using s1) q1 Q;have j:∀{A:Ctx} {w':World},Sat (A++(iE I++ll (m.S.map λx=>dE a fr.H x.2) (ab ρ T a++(ab ρ T fr.H++g)))) w'->Sat (A++(ab ρ T (mY (uE (Ck a fr.H m.S) 0 a))++(ab ρ T fr.H++Φ))) w':=λ{A w'} c4=>by have W:=Iz p2 o c4;rw [Rn a1,DP h4] at W;have c6:=Gk W;rw [<-cb (ab ρ T (mY (uE (Ck a fr.H m.S) 0 a))),<-cb A] at c6;have c7:=hdr c6;rwa [cb A,cb] at c7
   rcases age Y with ⟨p,hq,hk⟩|⟨q,hq,hk⟩
   .refine (u _ hq).mono (λv w' y=>?_) (λc w' y=>?_)
    .obtain ⟨x',q',z,_⟩:=y;cases z
    .obtain ⟨p',C,v,N1,I1,X1,c1,Z,E⟩:=y;cases C;refine ⟨v,c1,?_⟩;cases U:e.lp with
     |false=>rw [U] at E hk;exact SX (b:=false) hl t Z (j E) hk
     |true=>
      rw [U] at E hk;obtain ⟨A',e1,_⟩:=ao4 (L:=m.S.map λx=>dE a fr.H x.2) (A:=ab ρ T a++ab ρ T fr.H) (B:=g) (λi hi=>by obtain ⟨x,_,hx⟩:=List.mem_map.1 hi;have:=Qx hx;simp only [ab,et,mj];omega)
      rw [cb] at e1;rw [e1] at E;have W:Sat (dF I1++g) w':=Sat.MU (A:=A') E;rw [<-J,NI,bg,cb] at W;exact SX (b:=true) hl (GF D) Z W hk
   .refine (u _ hq).mono (λv w' y=>?_) (λc w' y=>?_)
    .obtain ⟨x',q',z,hi,N1,N2,D1,D2,I1,I2,X1,X2,c1,Z,E,c4⟩:=y;cases z;exact NP (e:=e.oe) hl t n1 h5 h6 h7 h9 c1 Z E aB.get_none (j c4) (.inl rfl) (aoM hi hk)
    .obtain ⟨p',C,_⟩:=y;cases C
  .cases Y
 .cases h
theorem ND{f:FuncId}{args:List AV}(hl:st.low fr=true)(g:Sat (ab ρ T st.G++(ab ρ T fr.H++Φ)) w)(a:∀it∈Γg,it∈Φ):∀{tp:List bY},(∀e∈tp,e.Ok P Γg)->NS fr st d f args KP K tp=some (some r)->
  Enters P f/\ov P f (AV.al ρ args) w (aU r K T fr st none d ρ Φ) (λc w'=>∃v,c=j4 v/\aaW r KP T fr st ρ Φ v w')
 |[],_,h=>by cases h
 |e::tp,htp,h=>by
  unfold NS at h;rcases ek h with ⟨k,b⟩|⟨_,b⟩
  .split at b
   next l i=>cases b;have:=b0 k;subst this;exact ⟨(htp e (c8 ..)).1,ahI hl g (htp e (c8 ..)) a i⟩
   .exact ND hl g a (λe j=>htp e (cp _ j)) b
  .exact ND hl g a (λe j=>htp e (cp _ j)) b
variable {σ : zc} {Q : bm} {D : xb} {ops rest : zh} {tp : List bY}
theorem anF{o:Oper}(Y:fZ T st.E fr.F)(R:Sat (ab ρ T st.G++(ab ρ T fr.H++Φ)) w)(I:∀it∈Γg,it∈Φ)(M:∀e∈tp,e.Ok P Γg)
  (h:af4 tp T fr st o KP K=some (some r))
  (next:∀st' ρ' w',fZ T st'.E fr.F->aS st.c ρ ρ'->st.c<=st'.c->K st'=some r->ab ρ' T fr.H=ab ρ T fr.H->Sat (ab ρ' T st'.G++(ab ρ' T fr.H++Φ)) w'->WL P σ ops.toArray Q fr.n D rest (az ρ' T st'.E fr.F) w')
  (g:∀b v st' ρ' w',aS st.c ρ ρ'->st.c<=st'.c->KP b v st'=some r->st'.E=st.E->az ρ' T st.E fr.F=az ρ T st.E fr.F->Sat (ab ρ' T st'.G++(ab ρ' T (II b fr.H)++Φ)) w'->At Q (.panic (j4 (v.val ρ'))) fr.n D (az ρ' T st'.E fr.F) w'):
  WL P σ ops.toArray Q fr.n D (o::rest) (az ρ T st.E fr.F) w:=by
 obtain ⟨dst,op,ty,pos,af,gd⟩:=o;unfold af4 at h;split at h
 .cases h
 rename_i q;simp only at q;subst q;split at h
 .rename_i x j;simp only at j;subst j;split at h
  next t v hx=>have hk:=gj h;have m:=aO (ρ:=ρ) hx;rw [aB.get_none] at m;simp only [AV.val] at m;refine alM m ?_;have:=g false (.ifc t v) st ρ w .refl (cH _) hk rfl rfl R;simp only [AV.val] at this;exact this
  .cases h
 .rename_i c j;simp only at j;subst j;obtain ⟨y,xs,tys⟩:=c;obtain ⟨xs⟩:=xs;simp only at h;split at h
  .rename_i fo;split at h
   .rename_i f a b N;split at h
    .rename_i vs J;obtain ⟨U,X⟩:=aI h;simp only [ar] at U;obtain ⟨⟨O,hd⟩,hl⟩:=U;obtain ⟨s,S⟩:=ND hl R I M X;have d:=aO (ρ:=ρ) N;have i:=jQ (ρ:=ρ) J;rw [aB.get_none] at d i;simp only [AV.val] at d;have k:AV.al ρ (a++vs++b)=AV.al ρ a++AV.al ρ vs++AV.al ρ b:=by rw [dp,dp]
     have fin:∀v w',aU r K T fr st none dst ρ Φ v w'->WL P σ ops.toArray Q fr.n D rest (tF dst true v (az ρ T st.E fr.F)) w':=λv w' L=>by obtain ⟨ρ',st',av,k1,C,B,p,A,z,u,W⟩:=L;have:=next st' ρ' w' (by rw [p];exact Y.out O none av) C B k1 u W;rw [p,xh,A,z,aB.get_none] at this;exact this
     have l:∀c w',(∃v,c=j4 v/\aaW r KP T fr st ρ Φ v w')->At Q (.panic c) fr.n D (az ρ T st.E fr.F) w':=λc w' L=>by obtain ⟨v,rfl,V,ρ',st',av,k1,C,B,p,A,z,u⟩:=L;have:=g V av st' ρ' w' C B k1 p u z;rw [A,p,u] at this;exact this
     cases dst with
     |none=>exact ahN s d i k S fin l
     |some dd=>exact abZ s d i k hd S fin l
    .cases h
   .cases h
  .cases h
 .cases h
end
theorem Sat.am3{A B:Ctx}{x:Item}{w:World}(h:Sat (A++x::B) w):Sat (x::(A++B)) w:=by
 refine h.Dp (λj k=>(j=0/\k=A.length)\/(0<j/\j<=A.length/\k+1=j)\/(A.length<j/\k=j)) (λj b a=>?_) (λj k q c f d=>by omega);cases j with
 |zero=>
  simp only [qh,ej] at a;subst a;exact .inr ⟨A.length,x,.inl ⟨rfl,rfl⟩,by simp,bW.refl⟩
 |succ j=>
  simp only [gy] at a;by_cases e:j<A.length
  .rw [ec e] at a;exact .inr ⟨j,b,.inr (.inl ⟨by omega,by omega,rfl⟩),by rw [ec e];exact a,bW.refl⟩
  .rw [c9 (by omega)] at a;refine .inr ⟨j+1,b,.inr (.inr ⟨by omega,rfl⟩),?_,bW.refl⟩;rw [c9 (by omega)];have:j+1-A.length=(j-A.length)+1:=by omega
   rw [this,gy];exact a
theorem Sat.asg{Γ:Ctx}{it new:Item}{w:World}(h:Sat (it::Γ) w)(a:∀b∈new.own,b∈it.own)(c:∀M',Mv (Ctx.M (it::Γ)) w M' w->new.P M' w):Sat (new::Γ) w:=by have:=h.mA (i:=0) (it:=it) (new:=new) (w':=w) rfl ⟨rfl,rfl,rfl,cH _,λ_ _ _=>rfl⟩ (λb hb=>⟨h.lt (Ctx.Fq.2 (.inl (a b hb))),.inl (a b hb)⟩) (λM' m _=>c M' m);simpa using this
def Kh(X:Cx)(T:aB)(fr:Fr)(st:aC)(o:Oper):Option (TypeId×List AV×List AV):=match o.op,o.guard with
 | .alloc t,none=>(match Yr X.P t with
  |some cs=>some (t,[],cs)
  |none=>none)
 | .buildSlice t len ps,none=>(match jE X.P t with
  |some e=>(match pz X.P e with
   |some z=>(match vt T st.E fr.F none (ps.toList.map (·.2)) with
    |some vs=>(match Gy (λi=>some (i*z.1,z.1)) ((ps.toList.map (·.1)).zip vs) (ZJ len (z.2.2.cells.toList.map nK)) with
     |some cs=>aD ( Nat.beq z.2.2.cells.size z.1&&Nat.ble (len*z.1) 16777216&&(Nat.blt 0 (len*z.1)||Nat.beq len 0&&ps.toList.isEmpty) ) (some (e,vs,cs)) none
     |none=>none)
    |none=>none)
   |none=>none)
  |none=>none)
 |_,_=>none
theorem abw{X:Cx}{T:aB}{fr:Fr}{st:aC}{ρ:ay}{o:Oper}{e:TypeId}{vs cs:List AV}(h:Kh X T fr st o=some (e,vs,cs))(w:World):
  pn X.P (az ρ T st.E fr.F) o w (Ha o w.heap.size) (w.alloc (.cells (AV.al ρ cs).toArray e)):=by
 obtain ⟨dst,op,ty,pos,af,gd⟩:=o;unfold Kh at h;simp only at h;split at h
 .rename_i t;split at h
  .rename_i p a;cases h;unfold Yr at a;split at a
   next z k=>cases a;obtain ⟨n,b,z⟩:=z;have:=J1 (P:=X.P) (E:=az ρ T st.E fr.F) (w:=w) (dst:=dst) (ty:=ty) (pos:=pos) (af:=af) (zs:=z.cells.toList) (cR k) (by simp);rw [rM];exact this
   .cases a
  .cases h
 .rename_i t len ps;obtain ⟨ps⟩:=ps;split at h
  .rename_i e' q;split at h
   .rename_i z k;obtain ⟨n,bytes,z⟩:=z;split at h
    .rename_i s m;split at h
     .rename_i p a;obtain ⟨r,v⟩:=aI h;cases v;simp only [ar,e9] at r;obtain ⟨⟨A,y⟩,g⟩:=r;have f:z.cells.size=n:=b0 A;have d:=jQ (ρ:=ρ) m;rw [aB.get_none] at d;have c:=Fs (ρ:=ρ) a;rw [KW,ab0,rM] at c;rcases g with g|⟨g,u⟩
      .have i:0<n:=by
        have:0<len*n:=by simpa using g
        exact Nat.pos_of_ne_zero (λe=>by simp [e] at this)
       have j:AA n len z.cells.toList ((ps.map (·.1)).zip (AV.al ρ vs))=some (AV.al ρ cs).toArray:=by unfold AA;have l:=MH z.cells.toList (by simp [f];exact i) len;simp only [eX,f] at l;simp only [eX,f];rw [<-c,<-l]
       exact xI (P:=X.P) (w:=w) (dst:=dst) (ty:=ty) (pos:=pos) (af:=af) (cr q) (cR k) (zs:=z.cells.toList) (by simp) g y d j
      .have x:len=0:=b0 g;subst x;have l:ps=[]:=by simpa using u
       subst l;have:cs=[]:=by simp only [List.map_nil,List.zip_nil_left,ZJ,List.replicate_zero,List.flatten_nil,Gy,ej] at a;exact a.symm
       subst this;exact wB (P:=X.P) (E:=az ρ T st.E fr.F) (w:=w) (dst:=dst) (ty:=ty) (pos:=pos) (af:=af) (cr q) (cR k)
     .cases h
    .cases h
   .cases h
  .cases h
 .cases h
def alo{R:Type}(X:Cx)(T:aB)(fr:Fr)(st:aC)(o:Oper)(K:cJ R):Option R:=match Kh X T fr st o,o.dst with
 |some p,some d=>(match o.op with
  | .buildSlice _ len _=>(match CH X.tys p.1 with
   |some u=>(match Y6 (cw (AV.fA (.agg p.2.1)++(p.2.1.map AV.fA).flatten) st.G) fr.H u len p.2.2 with
    |some xs=>aD (st.low fr&&Nat.ble len 9223372036854775807) (K { st with c:=st.c+1,E:=cN (some d) none (.sl st.c) st.E,G:= .own st.c u p.1 xs st.c::cw (AV.fA (.agg p.2.1)++(p.2.1.map AV.fA).flatten) st.G }) none
    |none=>none)
   |none=>none)
  |_=>aD (st.low fr&&AV.ck st.c p.2.2) (agN st d p.1 p.2.2 K) none)
 |_,_=>none
section
variable {X : Cx} {R : Type} {r : R} {K : cJ R} {T : aB} {fr : Fr} {st : aC} {ρ : ay} {Φ : Ctx} {w : World}
theorem aps{o:Oper}{b:Nat}{e':TypeId}{k:za}(g:Sat (ab ρ T st.G++(ab ρ T fr.H++(box b e' k::Φ))) w)
  (I:∀e vs cs,Kh X T fr st o=some (e,vs,cs)->e'=e/\k=AV.al ρ cs) (h:alo X T fr st o K=some r):
  aU r K T fr st none o.dst ρ Φ (Ha o b) w:=by
 obtain ⟨dst,op,ty,pos,af,gd⟩:=o;unfold alo at h;simp only at h;split at h
 .rename_i p d hp;obtain ⟨e,vs,cs⟩:=p;obtain ⟨rfl,rfl⟩:=I _ _ _ hp;split at h
  .rename_i t len ps;split at h
   .rename_i u L;split at h
    .rename_i xs n;obtain ⟨A,z⟩:=aI h;simp only [ar] at A;obtain ⟨hl,J⟩:=A;have s:=uN (ids:=AV.fA (.agg vs)++(vs.map AV.fA).flatten) (aC.cG.1 hl).2.2.1;replace g:=lI (ids:=AV.fA (.agg vs)++(vs.map AV.fA).flatten) g;simp only at z;generalize cw (AV.fA (.agg vs)++(vs.map AV.fA).flatten) st.G=G at z s g n;obtain ⟨k1,F⟩:=SN (ρ:=ρ) (T:=T) g _ _ _ n;have f:Sat ((ab ρ T G++ab ρ T fr.H)++box b e' (AV.al ρ cs)::Φ) w:=by rw [cb];exact g
     have a:=f.am3;have mv:Mv (Ctx.M (ab ρ T G++(ab ρ T fr.H++(box b e' (AV.al ρ cs)::Φ)))) w (Ctx.M (box b e' (AV.al ρ cs)::((ab ρ T G++ab ρ T fr.H)++Φ))) w:=Mv.weaken w λc B=>by
      obtain ⟨it,hi,hb⟩:=B;refine ⟨it,?_,hb⟩;simp only [qa,List.mem_append] at hi ⊢;rcases hi with h|(h|h)|h
      .exact .inr (.inr (.inl h))
      .exact .inl h
      .exact .inr (.inl h)
      .exact .inr (.inr (.inr h))
     refine aU.new (ρ':=ρ.set st.c { dy with v:=(some ⟨b,0,none⟩,len,len),y:=⟨.l u,xs⟩ }) (av:= .sl st.c) hl z ay.aX (j2 _) rfl (by simp only [AV.val,ay.bI];rfl) ?_;show Sat (ab _ T (_::G)++_) w;have e:=aZ (T:=T) (ay.aX (ρ:=ρ) (j:=st.c) (x:={ dy with v:=(some ⟨b,0,none⟩,len,len),y:=⟨.l u,xs⟩ })) s;rw [ab,eT];rw [ab] at e;rw [e];have hb:gK w b e' (AV.al ρ cs):=a.at_ (i:=0) rfl;have q:Sat ((Row.own st.c u e' xs st.c).item (ρ.set st.c { dy with v:=(some ⟨b,0,none⟩,len,len),y:=⟨.l u,xs⟩ }) T::((ab ρ T G++ab ρ T fr.H)++Φ)) w:=by
      refine a.asg (λc B=>?_) (λM' m=>?_)
      .simp only [Row.item,ay.bI] at B;exact Je B
      .simp only [Row.item,ay.bI];exact ⟨(cg.of (kq.fresh hb k1 J (F.mv (mv.trans m)))).Mm,trivial⟩
     rw [cb] at q;exact q
    .cases h
   .cases h
  .rename_i C;obtain ⟨A,z⟩:=aI h;simp only [ar] at A;obtain ⟨hl,E⟩:=A;have f:Sat ((ab ρ T st.G++ab ρ T fr.H)++box b e' (AV.al ρ cs)::Φ) w:=by rw [cb];exact g
   have a:=f.am3;rw [cb] at a;have ev:Ha ⟨some d,op,ty,pos,af,gd⟩ b= .pointer (some ⟨b,0,none⟩):=by
    unfold Ha;split
    next D=>exact (C _ _ _ D).elim
    .rfl
   rw [ev];refine aU.new (ρ':=ρ.set st.c { dy with b:=b }) (av:= .ptr st.c 0) hl z ay.aX (j2 _) rfl (by simp only [AV.val,ay.bI]) ?_;show Sat (ab _ T (_::st.G)++_) w;have e:=aZ (T:=T) (ay.aX (ρ:=ρ) (j:=st.c) (x:={ dy with b:=b })) (aC.cG.1 hl).2.2.1;rw [ab,eT];rw [ab] at e;rw [e];simp only [Row.item,ay.bI];rw [AV.bZ ay.aX _ E];exact a
 .cases h
end
end Go.Proofs.YtcgihjbfppkcfaaGreatDoor
