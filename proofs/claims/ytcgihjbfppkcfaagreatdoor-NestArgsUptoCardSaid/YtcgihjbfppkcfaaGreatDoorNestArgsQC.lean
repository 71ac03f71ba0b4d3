/- Own texts for NestArgsQ, cut and joined by a program. -/
import Derived.Test.YtcgihjbfppkcfaaGreatDoorNestArgsQB
set_option linter.all false
namespace Go.Proofs.YtcgihjbfppkcfaaGreatDoor
open IntKind (i64)
open Go.Lib
def bX(a b:Item):Prop:=(∀x,x∈b.own->x∈a.own)/\∀M w,a.P M w->b.P M w
theorem bX.refl{a:Item}:bX a a:=⟨λ_ h=>h,λ_ _ h=>h⟩
def agt(ρ:ay)(T:aB)(G H:List Row)(s:Src)(it:Item):Prop:=
 (it.own=[]/\(∀M w,it.P M w)/\∀r,¬s.at_ G H r)\/∃r,s.at_ G H r/\bX (r.item ρ T) it/\(r.cO=true->it.own=[])/\(r.cO=false->bX it (r.item ρ T))
def SI(ρ:ay)(T:aB)(G H:List Row)(a:Bool×Src)(b:Bool×Item):Prop:=a.1=b.1/\agt ρ T G H a.2 b.2
inductive gB{α β:Type}(R:α->β->Prop):List α->List β->Prop
 |nil:gB R [] []
 |cons {a b l m}:R a b->gB R l m->gB R (a::l) (b::m)
theorem gB.length{α β:Type}{R:α->β->Prop}{l:List α}{m:List β}(h:gB R l m):l.length=m.length:=by
 induction h with
 |nil=>rfl
 |cons _ _ ih=>simp [ih]
theorem gB.append{α β:Type}{R:α->β->Prop}{l l':List α}{m a:List β}(h:gB R l m)(k:gB R l' a):gB R (l++l') (m++a):=by
 induction h with
 |nil=>exact k
 |cons b _ ih=>exact .cons b ih
theorem gB.get{α β:Type}{R:α->β->Prop}{l:List α}{m:List β}(h:gB R l m):∀{i:Nat} {a:α},l[i]? =some a->∃b,m[i]? =some b/\R a b:=by
 induction h with
 |nil=>intro i a h;simp at h
 |cons c _ ih=>
  grind
def NBr(ρ:ay)(o:ze)(a:Nm):Prop:=match o with
 |some j=>a.b=(ρ j).b/\a.v=(ρ j).v/\a.m=(ρ j).m
 |none=>a.v=(none,0,0)/\a.m=none
abbrev NB(ρ:ay)(B:w5)(N:List Nm):Prop:=gB (NBr ρ) B N
theorem NB.at_{ρ:ay}{B:w5}{N:List Nm}(h:NB ρ B N){n j:Nat}(hb:Si ((B[n]?).getD none) (some j)=true):∃a,N[n]? =some a/\a.b=(ρ j).b/\a.v=(ρ j).v:=by
 have e:=apa hb;cases hn:B[n]? with
 |none=>rw [hn] at e;cases e
 |some o=>
  rw [hn] at e;subst e;obtain ⟨a,d,c⟩:=h.get hn;exact ⟨a,d,c.1,c.2.1⟩
section
variable {ρ : ay} {T : aB} {G H : List Row} {Φ : Ctx} {w : World}
theorem Wb(g:Sat (ab ρ T G++(ab ρ T H++Φ)) w){t:Ty}{v:AV}{q:ze×Src×List t.T}(h:acD G H t v=some q):∃a:Nm,NBr ρ q.1 a/\v.val ρ=sl a.v/\agt ρ T G H q.2.1 (Od true t.rep a.v q.2.2 false):=by
 unfold acD at h;split at h
 .split at h
  .rename_i s c t' l b d;split at h
   next l' hl=>cases h;obtain ⟨rfl,rfl⟩:=um hl;obtain ⟨f,e⟩:=bZ d;have  :=b0 e;subst this;refine ⟨ρ c,⟨rfl,rfl,rfl⟩,by simp [AV.val],.inr ⟨_,f,⟨λ_ h=>h,λM w h _=>⟨(h aB.get_none).1,λhb=>by cases hb⟩⟩,λ_=>rfl,λh=>by cases h⟩⟩
   .cases h
  .cases h
 .cases h;exact ⟨dA,⟨rfl,rfl⟩,by rfl,.inl ⟨rfl,λM w _=>⟨bT.nil,λhb=>by cases hb⟩,λr h=>h⟩⟩
 .cases h
theorem W9(i:Sat (ab ρ T G++(ab ρ T H++Φ)) w){t:Ty}{e:TypeId}{v:AV}{q:ze×Src×List t.T}(h:Zs G H t e v=some q):∃a:Nm,NBr ρ q.1 a/\v.val ρ=sl a.v/\a.y=⟨.l t,q.2.2⟩/\agt ρ T G H q.2.1 (uf t.rep e a.v q.2.2 True):=by
 unfold Zs at h;split at h
 .split at h
  .rename_i s g t' e' l f j;obtain ⟨k,c⟩:=aI h;have n:=b0 k;subst n;split at c
   next l' hl=>cases c;obtain ⟨rfl,rfl⟩:=um hl;obtain ⟨d,m⟩:=bZ j;have  :=b0 m;subst this;have b:=(Src.holds i d).2;refine ⟨{ ρ g with y:=⟨.l t',l⟩ },⟨rfl,rfl,rfl⟩,by simp [AV.val],rfl,.inr ⟨_,d,⟨λ_ h=>h,λM w h=>⟨h.1,trivial⟩⟩,λh=>(by cases h),λ_=>⟨λ_ h=>h,λM w h=>⟨h.1,b⟩⟩⟩⟩
   .cases c
  .cases h
 .cases h;exact ⟨{ dA with y:=⟨.l t,([])⟩ },⟨rfl,rfl⟩,by rfl,rfl,.inl ⟨rfl,λM w=>⟨cj.nil,trivial⟩,λr h=>h⟩⟩
 .cases h
theorem V4(j:Sat (ab ρ T G++(ab ρ T H++Φ)) w):(t:Ty)->(vs:List AV)->(o:wi)->(B:w5)->(d:DR t)->(N:List Nm)->Iy G H t vs o B=some d->NB ρ B N->
  ∃us N' I,vs=us++d.vs/\QJ t d.x (AV.al ρ us) o N I N' d.o/\NB ρ d.B N'/\gB (SI ρ T G H) d.S I
 | .i k,vs,o,B,d,N,h,hN=>by
  unfold Iy at h;split at h
  next R x us=>obtain ⟨z,y⟩:=aI h;have:=om z;subst this;cases y;exact ⟨[.int k x],N,[],rfl,⟨by simp [AV.al,AV.val],rfl,rfl,rfl⟩,hN,.nil⟩
  .cases h
 | .bo,vs,o,B,d,N,h,hN=>by
  unfold Iy at h;split at h
  next x us=>cases h;exact ⟨[.bool x],N,[],rfl,⟨by simp [AV.al,AV.val],rfl,rfl,rfl⟩,hN,.nil⟩
  .cases h
 | .s,vs,o,B,d,N,h,hN=>by
  unfold Iy at h;split at h
  next x us=>cases h;exact ⟨[.str x],N,[],rfl,⟨by simp [AV.al,AV.val],rfl,rfl,rfl⟩,hN,.nil⟩
  .cases h
 | .un,vs,o,B,d,N,h,hN=>by
  cases h;exact ⟨[],N,[],rfl,⟨by simp [AV.al],rfl,rfl,rfl⟩,hN,.nil⟩
 | .n,vs,o,B,d,N,h,hN=>by cases h
 | .mp _ _,vs,o,B,d,N,h,hN=>by cases h
 | .p a b,vs,o,B,d,N,h,hN=>by
  unfold Iy at h;split at h
  .rename_i d1 z;split at h
   next d2 y=>cases h;obtain ⟨u,E,J,f,c,n1,Q⟩:=V4 j a vs o B d1 N z hN;obtain ⟨r,N2,F,O,K,M,P⟩:=V4 j b d1.vs d1.o d1.B d2 E y n1;refine ⟨u++r,N2,J++F,by rw [f,O,cx],?_,M,Q.append P⟩;rw [dw];exact ⟨_,_,E,J,F,d1.o,c,K,rfl,rfl⟩
   .cases h
  .cases h
 | .l t,vs,o,B,d,N,h,hN=>by
  unfold Iy at h;split at h
  .rename_i v us;split at h
   .split at h
    next q g=>cases h;obtain ⟨a,n1,f,c⟩:=Wb j g;refine ⟨[v],N++[a],_,rfl,⟨a,by simp [AV.al];rw [f],rfl,.inl ⟨rfl,rfl⟩⟩,hN.append (.cons n1 .nil),.cons ⟨rfl,c⟩ .nil⟩
    .cases h
   .rename_i e L;split at h
    next q g=>cases h;obtain ⟨a,n1,f,m,c⟩:=W9 j g;refine ⟨[v],N++[a],_,rfl,⟨a,by grind [AV.al],rfl,.inr ⟨e,rfl,rfl,m⟩⟩,hN.append (.cons n1 .nil),.cons ⟨rfl,c⟩ .nil⟩
    .cases h
   .cases h
  .cases h
 | .ex,vs,o,B,d,N,h,hN=>by
  unfold Iy at h;split at h
  .rename_i D C A v us;split at h
   .split at h
    next q g=>cases h;obtain ⟨a,n1,f,c⟩:=Wb j g;refine ⟨[.int .i64 D,.int .i64 C,.int .i64 A,v],N++[a],_,rfl,⟨a,by simp only [AV.al];rw [f];rfl,rfl,.inl ⟨rfl,rfl⟩⟩,hN.append (.cons n1 .nil),.cons ⟨rfl,c⟩ .nil⟩
    .cases h
   .rename_i e L;split at h
    next q g=>cases h;obtain ⟨a,n1,f,m,c⟩:=W9 j g;refine ⟨[.int .i64 D,.int .i64 C,.int .i64 A,v],N++[a],_,rfl,⟨a,by simp only [AV.al];rw [f];rfl,rfl,.inr ⟨e,rfl,rfl,m⟩⟩,hN.append (.cons n1 .nil),.cons ⟨rfl,c⟩ .nil⟩
    .cases h
   .cases h
  .cases h
abbrev fw(ρ:ay)(X:List (Nat×List AV)):lT:=X.map λx=>(x.1,AV.al ρ x.2)
abbrev iK(ρ:ay)(fx:jB):Fx:=fx.map λq=>(q.1.val ρ,AV.al ρ q.2)
theorem adZ{fx:jB}:fxC (iK ρ fx)=AV.al ρ (Li fx):=by
 cases fx with
 |none=>simp [fxC,Li,AV.al]
 |some q=>rfl
theorem OV{p:Pt}{a:List AV}:fx1 p (AV.al ρ a)=iK ρ (tn p a):=by
 cases a with
 |nil=>rfl
 |cons u us=>
  unfold fx1 tn;cases Zb p <;> simp [AV.al]
theorem acM{b:Bool}{x:List AV}:AV.al ρ (aD b x [])=aD b (AV.al ρ x) []:=by grind [AV.al]
theorem Vn{fx:jB}:(iK ρ fx).isSome=fx.isSome:=by cases fx <;> rfl
theorem xA{fx:jB}{v:AV}(h:∀q,fx=some q->q.1.val ρ=v.val ρ):yc (iK ρ fx) (v.val ρ):=by
 intro p hp;cases fx with
 |none=>cases hp
 |some q=>grind
theorem XD(a:Sat (ab ρ T G++(ab ρ T H++Φ)) w){p:Pt}{v:AV}:(aD (abw p) v (y6 G H v)).val ρ=v.val ρ:=by grind [abw,abd]
theorem XT{l:List AV}:(AV.al ρ l).head? =l.head?.map (AV.val ρ):=by cases l <;> simp [AV.al]
theorem Nw{l:List AV}:(AV.al ρ l).tail=AV.al ρ l.tail:=by cases l <;> simp [AV.al]
mutual
theorem Pc(L:Sat (ab ρ T G++(ab ρ T H++Φ)) w):(p:Pt)->(v:AV)->(fx:jB)->(y:Option AV)->(B:w5)->(r:MR)->(N:List Nm)->mt G H p v fx y B=some r->NB ρ B N->(∀q,fx=some q->q.1.val ρ=v.val ρ)->
  ∃F I,Sem p (v.val ρ) (iK ρ fx) (y.map (AV.val ρ)) N r.D I (fw ρ r.X) F/\NB ρ r.B F/\gB (SI ρ T G H) r.S I
 | .int k,v,fx,y,B,r,N,h,hN,hf=>by
  unfold mt at h;split at h
  next k' x=>obtain ⟨g,i⟩:=aI h;have:=om g;subst this;cases i;exact ⟨N,[],⟨x,by simp only [AV.val],rfl,rfl,rfl,rfl⟩,hN,.nil⟩
  .cases h
 | .bool,v,fx,y,B,r,N,h,hN,hf=>by
  unfold mt at h;split at h
  next x=>cases h;exact ⟨N,[],⟨x,by simp only [AV.val],rfl,rfl,rfl,rfl⟩,hN,.nil⟩
  .cases h
 | .str,v,fx,y,B,r,N,h,hN,hf=>by
  unfold mt at h;split at h
  next x=>cases h;exact ⟨N,[],⟨x,by simp only [AV.val],rfl,rfl,rfl,rfl⟩,hN,.nil⟩
  .cases h
 | .sli t,v,fx,y,B,r,N,h,hN,hf=>by
  unfold mt at h;split at h
  next q K=>cases h;obtain ⟨a,n1,C,A⟩:=Wb L K;exact ⟨N++[a],_,⟨a,q.2.2,C,rfl,rfl,rfl,rfl⟩,hN.append (.cons n1 .nil),.cons ⟨rfl,A⟩ .nil⟩
  .cases h
 | .own t e m,v,fx,y,B,r,N,h,hN,hf=>by
  unfold mt at h;split at h
  next q K=>cases h;obtain ⟨a,n1,C,y1,A⟩:=W9 L K;exact ⟨N++[a],_,⟨a,q.2.2,C,xA hf,rfl,rfl,rfl,rfl,y1⟩,hN.append (.cons n1 .nil),.cons ⟨rfl,A⟩ .nil⟩
  .cases h
 | .slr n,v,fx,y,B,r,N,h,hN,hf=>by
  unfold mt at h;split at h
  next j=>obtain ⟨g,i⟩:=aI h;cases i;obtain ⟨a,z,O,a3⟩:=hN.at_ g;exact ⟨N,[],⟨a,z,by simp only [AV.val];rw [a3],rfl,rfl,rfl,rfl⟩,hN,.nil⟩
  .cases h
 | .bx t off m vs,v,fx,y,B,r,N,h,hN,hf=>by
  unfold mt at h;split at h
  .rename_i j P;obtain ⟨g,i⟩:=aI h;have C:=b0 g;subst C;split at i
   .rename_i s E t' cs J;obtain ⟨h3,Z⟩:=aI i;have e2:=b0 h3;subst e2;split at Z
    next q K=>cases Z;obtain ⟨R,Q⟩:=bZ J;have:E=j:=b0 Q;subst this;obtain ⟨F,I,A,n1,z⟩:=B6 L vs cs [] (Li fx) (B++[some E]) q (N++[ρ E]) K (.inl rfl) (hN.append (.cons ⟨rfl,rfl,rfl⟩ .nil));refine ⟨F,_,⟨ρ E,AV.al ρ cs,I,fw ρ q.X,by simp only [AV.val],xA hf,by rw [adZ];simpa only [AV.al] using A,rfl,?_⟩,n1,.cons ⟨rfl,.inr ⟨_,R,bX.refl,(λh=>by cases h),λ_=>bX.refl⟩⟩ z⟩;rw [<-hN.length];cases m <;> simp [fw]
    .cases Z
   .cases i
  .cases h
 | .ptr n off,v,fx,y,B,r,N,h,hN,hf=>by
  unfold mt at h;split at h
  next j P=>obtain ⟨g,i⟩:=aI h;simp only [au] at g;cases i;have C:=b0 g.1;subst C;obtain ⟨a,z,O,a3⟩:=hN.at_ g.2;exact ⟨N,[],⟨a,z,by simp only [AV.val];rw [O],rfl,rfl,rfl,rfl⟩,hN,.nil⟩
  .cases h
 | .mp k u m,v,fx,y,B,r,N,h,hN,hf=>by
  unfold mt at h;split at h
  .rename_i j;split at h
   .rename_i s E k' u' d J;split at h
    next d' hd=>cases h;have:=cr.Pp hd;cases this;obtain ⟨R,Q⟩:=bZ J;have:E=j:=b0 Q;subst this;exact ⟨N++[ρ E],_,⟨ρ E,d',by simp only [AV.val],xA hf,rfl,rfl,rfl,rfl⟩,hN.append (.cons ⟨rfl,rfl,rfl⟩ .nil),.cons ⟨rfl,.inr ⟨_,R,bX.refl,(λh=>by cases h),λ_=>bX.refl⟩⟩ .nil⟩
    .cases h
   .cases h
  .cases h;exact ⟨N++[dA],_,⟨dA,none,by simp only [AV.val];rfl,xA hf,rfl,rfl,rfl,rfl⟩,hN.append (.cons ⟨rfl,rfl⟩ .nil),.cons ⟨rfl,.inl ⟨rfl,λM w=>te.nil,λr h=>h⟩⟩ .nil⟩
  .cases h
 | .it,v,fx,y,B,r,N,h,hN,hf=>by
  unfold mt at h;split at h
  .rename_i j;split at h
   next s E x p J=>cases h;obtain ⟨R,Q⟩:=bZ J;have:E=j:=b0 Q;subst this;exact ⟨N++[ρ E],_,⟨ρ E,x,p,by simp only [AV.val],xA hf,rfl,rfl,rfl,rfl⟩,hN.append (.cons ⟨rfl,rfl,rfl⟩ .nil),.cons ⟨rfl,.inr ⟨_,R,bX.refl,(λh=>by cases h),λ_=>bX.refl⟩⟩ .nil⟩
   .cases h
  .cases h
 | .agg l,v,fx,y,B,r,N,h,hN,hf=>by
  unfold mt at h;split at h
  next vs=>obtain ⟨_,h⟩:=aI h;obtain ⟨F,I,A,n1,z⟩:=B6 L l vs (aD fx.isSome vs []) [] B r N h (by cases fx <;> first|exact .inl rfl|exact .inr rfl) hN;exact ⟨F,I,⟨AV.al ρ vs,by simp only [AV.val],xA hf,by rw [Vn,<-acM];simpa only [AV.al] using A⟩,n1,z⟩
  .cases h
 | .cU l,v,fx,y,B,r,N,h,hN,hf=>by
  unfold mt at h;split at h
  next vs=>obtain ⟨F,I,A,n1,z⟩:=B6 L l vs [] [] B r N h (.inl rfl) hN;exact ⟨F,I,⟨AV.al ρ vs,by simp only [AV.val],by simpa only [AV.al] using A⟩,n1,z⟩
  .cases h
 | .fn f a b,v,fx,y,B,r,N,h,hN,hf=>by
  unfold mt at h;split at h
  .rename_i f' a' b';obtain ⟨g,i⟩:=aI h;simp only [au] at g;have C:=b0 g.1;subst C;split at i
   .rename_i U Y;split at i
    next V W=>cases i;obtain ⟨N1,I1,A,n1,z⟩:=B6 L a a' [] [] B U N Y (.inl rfl) hN;obtain ⟨N2,I2,s2,n2,O⟩:=B6 L b b' (aD fx.isSome b' []) [] U.B V N1 W (by cases fx <;> first|exact .inl rfl|exact .inr rfl) n1;exact ⟨N2,I1++I2,⟨AV.al ρ a',AV.al ρ b',U.D,V.D,I1,I2,fw ρ U.X,fw ρ V.X,N1,by simp only [AV.val],xA hf,by simpa only [AV.al] using A,by rw [Vn,<-acM];simpa only [AV.al] using s2,rfl,rfl,by simp [fw]⟩,n2,z.append O⟩
    .cases i
   .cases i
  .cases h
 | .ifc t p,v,fx,y,B,r,N,h,hN,hf=>by
  unfold mt at h;split at h
  .rename_i t' u;obtain ⟨g,i⟩:=aI h;simp only [au] at g;have C:=b0 g.1;subst C;obtain ⟨F,I,A,n1,z⟩:=Pc L p u (tn p (aD fx.isSome [u] [])) none B r N i hN (λq K=>by
    cases fx with
    |none=>cases K
    |some f=>
     have K:aD (Zb p) none (some (u,[]))=some q:=K;obtain ⟨_,h3⟩:=OG K;cases h3;rfl)
   refine ⟨F,I,⟨u.val ρ,by simp only [AV.val],xA hf,?_⟩,n1,z⟩;have e2:(aD (iK ρ fx).isSome [u.val ρ] []:zc)=AV.al ρ (aD fx.isSome [u] []):=by
    cases fx
    .show ([]:zc)=AV.al ρ [];simp only [AV.al]
    .show [u.val ρ]=AV.al ρ [u];simp only [AV.al]
   rw [e2,OV];exact A
  .cases h
 | .nU c,v,fx,y,B,r,N,h,hN,hf=>by
  unfold mt at h;obtain ⟨g,i⟩:=aI h;cases i;exact ⟨N,[],⟨⟨AV.Kb c v g,λρ'=>(AV.Kb (ρ':=ρ) (ρ:=ρ') c v g).symm.trans (AV.Kb c v g)⟩,rfl,rfl,rfl,rfl⟩,hN,.nil⟩
 | .dat t o,v,fx,y,B,r,N,h,hN,hf=>by
  unfold mt at h;split at h
  .rename_i cs;split at h
   next x o' B' S hd=>cases h;obtain ⟨us,F,I,C,A,n1,z⟩:=V4 L t cs o B _ N hd hN;simp only [ko] at C;subst C;exact ⟨F,I,⟨_,x,o',by simp only [AV.val],rfl,A,rfl⟩,n1,z⟩
   .cases h
  .cases h
 | .ifn,v,fx,y,B,r,N,h,hN,hf=>by
  unfold mt at h;split at h
  next t=>cases h;exact ⟨N,[],⟨t,by simp only [AV.val,AV.al],rfl,rfl,rfl,rfl⟩,hN,.nil⟩
  .cases h
 | .sfp,v,fx,y,B,r,N,h,hN,hf=>by
  have hl:=hN.length;unfold mt at h;split at h
  .split at h
   next o ho=>cases h;obtain ⟨a,g,_⟩:=hN.get ho;exact ⟨N,[],⟨a,false,by rw [<-hl];exact g,by simp only [AV.val,DI,b7],rfl,rfl,rfl,rfl⟩,hN,.nil⟩
   .cases h
  next j f=>obtain ⟨g,i⟩:=aI h;cases i;obtain ⟨a,z,O,_⟩:=hN.at_ g;exact ⟨N,[],⟨a,f,by rw [<-hl];exact z,by simp only [AV.val];rw [O],rfl,rfl,rfl,rfl⟩,hN,.nil⟩
  next j=>obtain ⟨g,i⟩:=aI h;cases i;obtain ⟨a,z,O,_⟩:=hN.at_ g;exact ⟨N,[],⟨a,true,by rw [<-hl];exact z,by simp only [AV.val,DI,ca];rw [O],rfl,rfl,rfl,rfl⟩,hN,.nil⟩
  .cases h
 | .same,v,fx,y,B,r,N,h,hN,hf=>by
  unfold mt at h;obtain ⟨g,i⟩:=aI h;cases i;refine ⟨N,[],⟨?_,rfl,rfl,rfl,rfl⟩,hN,.nil⟩;unfold nvs at g;split at g
  next q=>exact .inl ⟨_,rfl,(hf q rfl).symm⟩
  .split at g
   .split at g
    .rw [b0 g];exact .inr ⟨rfl,rfl⟩
    .cases g
   .cases g
theorem B6(d:Sat (ab ρ T G++(ab ρ T H++Φ)) w):(l:List Pt)->(vs:List AV)->(a:List AV)->(b:List AV)->(B:w5)->(r:MR)->(N:List Nm)->IL G H l vs a b B=some r->(a=[]\/a=vs)->NB ρ B N->
  ∃N' I,yA l (AV.al ρ vs) (AV.al ρ a) (AV.al ρ b) N r.D I (fw ρ r.X) N'/\NB ρ r.B N'/\gB (SI ρ T G H) r.S I
 |[],vs,a,b,B,r,N,h,hfx,hN=>by
  unfold IL at h;split at h
  .cases h;exact ⟨N,[],⟨by simp [AV.al],rfl,rfl,rfl,rfl⟩,hN,.nil⟩
  .cases h
 |p::l,vs,a,b,B,r,N,h,hfx,hN=>by
  unfold IL at h;split at h
  .rename_i v us;split at h
   .rename_i c g;split at h
    .rename_i e f;cases h;obtain ⟨j,m,n,n1,u⟩:=Pc d p _ (tn p a) b.head? B c N g hN (λq i=>by
      rcases hfx with rfl|rfl
      .cases i
      .obtain ⟨_,s⟩:=OG i;cases s;exact (XD d).symm)
     obtain ⟨N2,k,x,o,t⟩:=B6 d l us a.tail b.tail c.B e j f (by rcases hfx with rfl|rfl <;> first|exact .inl rfl|exact .inr rfl) n1;rw [XD d] at n;refine ⟨N2,m++k,⟨v.val ρ,AV.al ρ us,c.D,e.D,m,k,fw ρ c.X,fw ρ e.X,j,by simp [AV.al],by grind [XT,OV],by grind [Nw],rfl,rfl,by simp ⟩,o,u.append t⟩
    .cases h
   .cases h
  .cases h
end
theorem Vg(m:Sat (ab ρ T G++(ab ρ T H++Φ)) w){z:Nat->Option AV}{fix:Nat->jB}:(l:List (Bool×Nat×Pt))->(B:w5)->(r:MR)->(N:List Nm)->mtV G H z fix l B=some r->NB ρ B N->
  ∃N' I,H2 (λi=>iK ρ (fix i)) (λi=>(z i).map (AV.val ρ)) l N r.D I (fw ρ r.X) N'/\NB ρ r.B N'/\gB (SI ρ T G H) r.S I
 |[],B,r,N,h,hN=>by
  cases h;exact ⟨N,[],⟨rfl,rfl,rfl,rfl⟩,hN,.nil⟩
 |(b,t,p)::l,B,r,N,h,hN=>by
  unfold mtV at h;split at h
  .rename_i v A;split at h
   .rename_i a c;split at h
    .rename_i d e;cases h;cases b
     .obtain ⟨g,k,y,n1,x⟩:=Pc m p v none none B a N c hN (λq s=>by cases s);obtain ⟨N2,j,n,o,u⟩:=Vg m l a.B d g e n1;exact ⟨N2,k++j,⟨v.val ρ,a.D,d.D,k,j,fw ρ a.X,fw ρ d.X,g,by grind,y,n,rfl,rfl,by simp ⟩,o,x.append u⟩
     .cases f:fix t with
      |none=>grind
      |some q=>
       rw [f] at A c;cases A;obtain ⟨g,k,y,n1,x⟩:=Pc m p q.1 (some q) none B a N c hN (λq' s=>by cases s;rfl);obtain ⟨N2,j,n,o,u⟩:=Vg m l a.B d g e n1;exact ⟨N2,k++j,⟨q.1.val ρ,a.D,d.D,k,j,fw ρ a.X,fw ρ d.X,g,by simp only [f];rfl,by grind,n,rfl,rfl,by simp ⟩,o,x.append u⟩
    .cases h
   .cases h
  .cases h
end
variable {A N : List Nm} {a : Nm} {fx : jB}
structure FR where
 v:AV
 R:List (Bool×Row)
 k:Nat
 D:List cr
 X:List (Nat×List AV)
structure FRs where
 vs:List AV
 R:List (Bool×Row)
 k:Nat
 D:List cr
 X:List (Nat×List AV)
def iS(t:Ty)(D:List cr):t.T:=match D with
 |d::_=>(d.as t).getD t.uM
 |[]=>t.uM
theorem uB{t:Ty}{x:t.T}{D:List cr}:iS t (⟨t,x⟩::D)=x:=by simp [iS,cr.apG]
theorem arz{k:IntKind}{x:Int}{D:List cr}:iS (.i k) (⟨.i k,x⟩::D)=x:=uB (t:= .i k)
theorem arp{x:Bool}{D:List cr}:iS .bo (⟨.bo,x⟩::D)=x:=uB (t:= .bo)
theorem akd{x:aE}{D:List cr}:iS .s (⟨.s,x⟩::D)=x:=uB (t:= .s)
theorem aj2{x:Nat}{D:List cr}:iS .n (⟨.n,x⟩::D)=x:=uB (t:= .n)
theorem ajG{t:Ty}{x:List t.T}{D:List cr}:iS (.l t) (⟨.l t,x⟩::D)=x:=uB (t:= .l t)
theorem aoJ{k v:Ty}{x:Option (List (k.T×v.T))}{D:List cr}:iS (.mp k v) (⟨.mp k v,x⟩::D)=x:=uB (t:= .mp k v)
structure LR where
 vs:List AV
 R:List (Bool×Row)
 k:Nat
 o:wi
def jn(nm:Nat->Nat):(t:Ty)->t.T->Nat->wi->LR
 | .i k,x,n,o=>⟨[.int k x],[],n,o⟩
 | .bo,x,n,o=>⟨[.bool x],[],n,o⟩
 | .s,x,n,o=>⟨[.str x],[],n,o⟩
 | .un,_,n,o=>⟨[],[],n,o⟩
 | .p a b,x,n,o=>match jn nm a x.1 n o with
  |⟨u,p,n,o⟩=>match jn nm b x.2 n o with
   |⟨v,q,n,o⟩=>⟨u++v,p++q,n,o⟩
 | .l t,x,n,o=>match o with
  |none::o=>⟨[.sl (nm n)],[(false,.sli none (nm n) t x false)],n+1,o⟩
  |some e::o=>⟨[.sl (nm n)],[(ow e,.own (nm n) t (oe e) x (nm n))],n+1,o⟩
  |[]=>⟨[],[],n,[]⟩
 | .ex,x,n,o=>match o with
  |none::o=>⟨[.int .i64 x.op,.int .i64 x.n,.int .i64 x.at_,.sl (nm n)],[(false,.sli none (nm n) .ex x.l false)],n+1,o⟩
  |some e::o=>⟨[.int .i64 x.op,.int .i64 x.n,.int .i64 x.at_,.sl (nm n)],[(ow e,.own (nm n) .ex (oe e) x.l (nm n))],n+1,o⟩
  |[]=>⟨[],[],n,[]⟩
 |_,_,n,o=>⟨[],[],n,o⟩
def nmS(nm:Nat->Nat)(fx:jB)(n:Nat):Nat:=match fx with
 |some (.sl j,_)=>j
 |_=>nm n
def JO(nm:Nat->Nat)(fx:jB)(n:Nat):Nat:=match fx with
 |some (.ptr j _,_)=>j
 |_=>nm n
def nmM(nm:Nat->Nat)(fx:jB)(n:Nat):Nat:=match fx with
 |some (.mp j,_)=>j
 |_=>nm n
def an9(fx:jB)(sm:Option AV):AV:=match fx with
 |some p=>p.1
 |none=>match sm with
  |some x=>x
  |none=> .bool false
def Z1(id:Nat):List Pt->List AV->List AV
 | .sfp::_,.sfp _ f::us=> .sfp id f::us
 |_,us=>us
mutual
def fill(nm:Nat->Nat):Pt->jB->Option AV->Nat->List cr->FR
 | .int k,_,_,n,D=>⟨.int k (iS (.i k) D),[],n,D.tail,[]⟩
 | .bool,_,_,n,D=>⟨.bool (iS .bo D),[],n,D.tail,[]⟩
 | .str,_,_,n,D=>⟨.str (iS .s D),[],n,D.tail,[]⟩
 | .sli t,_,_,n,D=>⟨.sl (nm n),[(false,.sli none (nm n) t (iS (.l t) D) false)],n+1,D.tail,[]⟩
 | .own t e m,fx,_,n,D=>⟨.sl (nmS nm fx n),[(m,.own (nmS nm fx n) t e (iS (.l t) D) (nm n))],n+1,D.tail,[]⟩
 | .slr k,_,_,n,D=>⟨.sl (nm k),[],n,D,[]⟩
 | .bx t off m vs,fx,_,n,D=>match fA nm vs [] (Li fx) (n+1) D with
  |⟨cs,R,k,D,X⟩=>⟨.ptr (JO nm fx n) off,(m,.box (JO nm fx n) t (Z1 (JO nm fx n) vs cs))::R,k,D,(aD m [(n,Z1 (JO nm fx n) vs cs)] [])++X⟩
 | .ptr k off,_,_,n,D=>⟨.ptr (nm k) off,[],n,D,[]⟩
 | .mp k v m,fx,_,n,D=>⟨.mp (nmM nm fx n),[(m,.mp (nmM nm fx n) k v (iS (.mp k v) D))],n+1,D.tail,[]⟩
 | .it,fx,_,n,D=>⟨.ptr (JO nm fx n) 0,[(true,.it (JO nm fx n) (iS .s D) (iS .n D.tail))],n+1,D.tail.tail,[]⟩
 | .agg l,fx,_,n,D=>match fA nm l (jj fx) [] n D with
  |⟨cs,R,k,D,X⟩=>⟨.agg cs,R,k,D,X⟩
 | .cU l,_,_,n,D=>match fA nm l [] [] n D with
  |⟨cs,R,k,D,X⟩=>⟨.tuple cs,R,k,D,X⟩
 | .fn f a b,fx,_,n,D=>match fA nm a [] [] n D with
  |⟨cs,R,k,D,X⟩=>match fA nm b (jj fx) [] k D with
   |⟨cs',R',k,D,X'⟩=>⟨.fn f cs cs',R++R',k,D,X++X'⟩
 | .ifc t p,fx,_,n,D=>match fill nm p (tn p (jj fx)) none n D with
  |⟨v,R,k,D,X⟩=>⟨.ifc t v,R,k,D,X⟩
 | .nU v,_,_,n,D=>⟨v,[],n,D,[]⟩
 | .dat t o,_,_,n,D=>match jn nm t (iS t D) n o with
  |⟨cs,R,k,_⟩=>⟨.agg cs,R,k,D.tail,[]⟩
 | .ifn,_,_,n,D=>⟨.ifc (iS .n D) (.agg []),[],n,D.tail,[]⟩
 | .sfp,_,_,n,D=>⟨.sfp (nm (n-1)) (iS .bo D),[],n,D.tail,[]⟩
 | .same,fx,sm,n,D=>⟨an9 fx sm,[],n,D,[]⟩
def fA(nm:Nat->Nat):List Pt->List AV->List AV->Nat->List cr->FRs
 |[],_,_,n,D=>⟨[],[],n,D,[]⟩
 |p::l,fxs,sms,n,D=>match fill nm p (tn p fxs) sms.head? n D with
  |⟨v,R,k,D,X⟩=>match fA nm l fxs.tail sms.tail k D with
   |⟨vs,R',k,D,X'⟩=>⟨v::vs,R++R',k,D,X++X'⟩
end
structure FV where
 E:aF
 R:List (Bool×Row)
 k:Nat
 D:List cr
def gJ(nm:Nat->Nat)(fix:Nat->jB):List (Bool×Nat×Pt)->Nat->List cr->FV
 |[],n,D=>⟨[],[],n,D⟩
 |x::l,n,D=>match fill nm x.2.2 (aD x.1 (fix x.2.1) none) none n D with
  |⟨v,R,k,D,_⟩=>match gJ nm fix l k D with
   |⟨E,R',k,D⟩=>⟨aD x.1 E ((x.2.1,none,v)::E),R++R',k,D⟩
def y4(N N':List Nm):Prop:= ∃E,N'=N++E
theorem y4.refl:y4 N N:=⟨[],by simp⟩
theorem y4.trans{B C:List Nm}(h:y4 A B)(k:y4 B C):y4 A C:=by obtain ⟨E,rfl⟩:=h;obtain ⟨F,rfl⟩:=k;exact ⟨E++F,by simp⟩
theorem y4.one:y4 N (N++[a]):=⟨[a],rfl⟩
theorem y4.len{B:List Nm}(h:y4 A B):A.length<=B.length:=by obtain ⟨E,rfl⟩:=h;simp
theorem y4.at_{B:List Nm}(h:y4 A B){i:Nat}{a:Nm}(ha:A[i]? =some a):B[i]? =some a:=by obtain ⟨E,rfl⟩:=h;rw [ec (List.getElem?_eq_some_iff.1 ha).1];exact ha
theorem Ft:(t:Ty)->(x:t.T)->(cs:zc)->(o:wi)->(N:List Nm)->(I:gf)->(c:List Nm)->(d:wi)->QJ t x cs o N I c d->y4 N c
 | .i _,_,_,_,_,_,_,_,h|.bo,_,_,_,_,_,_,_,h|.s,_,_,_,_,_,_,_,h|.un,_,_,_,_,_,_,_,h=>by obtain ⟨_,_,rfl,_⟩:=h;exact .refl
 | .n,_,_,_,_,_,_,_,h|.mp _ _,_,_,_,_,_,_,_,h=>h.elim
 | .p a b,x,cs,o,N,I,c,d,h=>by
  obtain ⟨c1,j,k,q,m,g,f,e,_⟩:=h;exact (Ft a _ _ _ _ _ _ _ f).trans (Ft b _ _ _ _ _ _ _ e)
 | .l t,x,cs,o,N,I,c,d,h=>by obtain ⟨a,_,rfl,_⟩:=h;exact .one
 | .ex,x,cs,o,N,I,c,d,h=>by obtain ⟨a,_,rfl,_⟩:=h;exact .one
mutual
theorem AI:(p:Pt)->(v:Value)->(fx:Fx)->(i:Option Value)->(N:List Nm)->(D:List cr)->(I:gf)->(X:lT)->(g:List Nm)->Sem p v fx i N D I X g->y4 N g
 | .int _,v,fx,i,N,D,I,X,g,h|.bool,v,fx,i,N,D,I,X,g,h|.str,v,fx,i,N,D,I,X,g,h=>by obtain ⟨_,_,_,_,_,rfl⟩:=h;exact .refl
 | .sli t,v,fx,i,N,D,I,X,g,h=>by obtain ⟨a,l,_,_,_,_,rfl⟩:=h;exact .one
 | .own t e m,v,fx,i,N,D,I,X,g,h=>by obtain ⟨a,l,_,_,_,_,_,rfl,_⟩:=h;exact .one
 | .slr n,v,fx,i,N,D,I,X,g,h|.ptr n _,v,fx,i,N,D,I,X,g,h=>by obtain ⟨a,_,_,_,_,_,rfl⟩:=h;exact .refl
 | .bx t off m vs,v,fx,i,N,D,I,X,g,h=>by
  obtain ⟨a,cs,E,z,_,_,j,_⟩:=h;exact y4.one.trans (pC vs _ _ _ _ _ _ _ _ j)
 | .mp k u m,v,fx,i,N,D,I,X,g,h=>by obtain ⟨a,d,_,_,_,_,_,rfl⟩:=h;exact .one
 | .it,v,fx,i,N,D,I,X,g,h=>by obtain ⟨a,s,p,_,_,_,_,_,rfl⟩:=h;exact .one
 | .agg l,v,fx,i,N,D,I,X,g,h=>by obtain ⟨cs,_,_,j⟩:=h;exact pC l _ _ _ _ _ _ _ _ j
 | .cU l,v,fx,i,N,D,I,X,g,h=>by obtain ⟨cs,_,j⟩:=h;exact pC l _ _ _ _ _ _ _ _ j
 | .fn f a b,v,fx,i,N,D,I,X,g,h=>by
  obtain ⟨us,vs,G,F,C,B,y,w,A,_,_,j,q,_⟩:=h;exact (pC a _ _ _ _ _ _ _ _ j).trans (pC b _ _ _ _ _ _ _ _ q)
 | .ifc t p,v,fx,i,N,D,I,X,g,h=>by obtain ⟨u,_,_,j⟩:=h;exact AI p _ _ _ _ _ _ _ _ j
 | .nU c,v,fx,i,N,D,I,X,g,h=>by obtain ⟨_,_,_,_,rfl⟩:=h;exact .refl
 | .dat t o,v,fx,i,N,D,I,X,g,h=>by obtain ⟨cs,x,r,_,_,j,_⟩:=h;exact Ft t _ _ _ _ _ _ _ j
 | .ifn,v,fx,i,N,D,I,X,g,h=>by obtain ⟨_,_,_,_,_,rfl⟩:=h;exact .refl
 | .sfp,v,fx,i,N,D,I,X,g,h=>by obtain ⟨_,_,_,_,_,_,_,rfl⟩:=h;exact .refl
 | .same,v,fx,i,N,D,I,X,g,h=>by obtain ⟨_,_,_,_,rfl⟩:=h;exact .refl
theorem pC:(l:List Pt)->(vs:zc)->(b:zc)->(a:zc)->(N:List Nm)->(D:List cr)->(I:gf)->(X:lT)->(c:List Nm)->yA l vs b a N D I X c->y4 N c
 |[],vs,b,a,N,D,I,X,c,h=>by obtain ⟨_,_,_,_,rfl⟩:=h;exact .refl
 |p::l,vs,b,a,N,D,I,X,c,h=>by obtain ⟨v,d,o,n,m,k,i,g,j,_,f,e,_⟩:=h;exact (AI p _ _ _ _ _ _ _ _ f).trans (pC l _ _ _ _ _ _ _ _ e)
end
theorem QE{fix:Nat->Fx}{val:Nat->Option Value}:(l:List (Bool×Nat×Pt))->(N:List Nm)->(D:List cr)->(I:gf)->(X:lT)->(a:List Nm)->H2 fix val l N D I X a->y4 N a
 |[],N,D,I,X,a,h=>by obtain ⟨_,_,_,rfl⟩:=h;exact .refl
 |x::l,N,D,I,X,a,h=>by obtain ⟨v,k,j,i,g,e,d,f,_,c,b,_⟩:=h;exact (AI _ _ _ _ _ _ _ _ _ c).trans (QE l _ _ _ _ _ b)
def RwI(ρ:ay)(T:aB)(a:Bool×Row)(b:Bool×Item):Prop:=a.1=b.1/\bX b.2 (a.2.item ρ T)/\bX (a.2.item ρ T) b.2
section
variable {ρ : ay} {T : aB} {nm : Nat -> Nat} {n0 : Nat}
theorem apt{id:Nat}{vs:List Pt}{us:List AV}{cs d:zc}{q:List Nm}{D:List cr}{I:gf}{X:lT}(h:yA vs cs [] d (N++[a]) D I X q)(k:(ρ id).b=a.b)(c:AV.al ρ us=cs):AV.al ρ (Z1 id vs us)=cs:=by
 unfold Z1;split
 .rename_i l j f i;obtain ⟨v,g,y,x,w,u,s,r,t,rfl,n,_⟩:=h;obtain ⟨p,o,ha,rfl,_⟩:=n;have e:p=a:=by simpa using ha.symm
  subst e;simp only [AV.al,AV.val,qa] at c ⊢;refine ⟨?_,c.2⟩;rw [k];have m:=c.1;cases f <;> cases o <;> simp [DI] at m ⊢
 .exact c
def yn(ρ:ay)(nm:Nat->Nat)(n0:Nat)(N:List Nm):Prop:= ∀i a,N[i]? =some a->(ρ (nm i)).b=a.b/\(ρ (nm i)).v=a.v/\(ρ (nm i)).m=a.m/\(n0<=i->(ρ (nm i)).y=a.y)
theorem yn.pre{A B:List Nm}(h:yn ρ nm n0 B)(k:y4 A B):yn ρ nm n0 A:=λi a ha=>h i a (k.at_ ha)
theorem yn.last(h:yn ρ nm n0 (A++[a])):(ρ (nm A.length)).b=a.b/\(ρ (nm A.length)).v=a.v/\(ρ (nm A.length)).m=a.m/\(n0<=A.length->(ρ (nm A.length)).y=a.y):=h _ _ (by simp)
theorem aca{t:Ty}{l:List t.T}{j:Nat}(h:(ρ j).v=a.v):bX (Od true t.rep a.v l false) ((Row.sli none j t l false).item ρ T)/\bX ((Row.sli none j t l false).item ρ T) (Od true t.rep a.v l false):=by simp only [Row.item,h];exact ⟨⟨λ_ h=>h,λM w h _=>h rfl⟩,⟨λ_ h=>h,λM w h _=>h aB.get_none⟩⟩
theorem ZZ{t:Ty}{e:TypeId}{l:List t.T}{j b:Nat}(h:(ρ j).v=a.v)(c:(ρ b).y=⟨.l t,l⟩):bX (uf t.rep e a.v l True) ((Row.own j t e l b).item ρ T)/\bX ((Row.own j t e l b).item ρ T) (uf t.rep e a.v l True):=by simp only [Row.item,h];exact ⟨⟨λ_ h=>h,λM w h=>⟨h.1,c⟩⟩,⟨λ_ h=>h,λM w h=>⟨h.1,trivial⟩⟩⟩
theorem VF:(t:Ty)->(x:t.T)->(cs:zc)->(o:wi)->(N:List Nm)->(I:gf)->(c:List Nm)->(d:wi)->QJ t x cs o N I c d->yn ρ nm n0 c->n0<=N.length->
  AV.al ρ (jn nm t x N.length o).vs=cs/\(jn nm t x N.length o).k=c.length/\(jn nm t x N.length o).o=d/\gB (RwI ρ T) (jn nm t x N.length o).R I
 | .i k,x,cs,o,N,I,c,d,h,hn,hle=>by
  obtain ⟨rfl,rfl,rfl,rfl⟩:=h;exact ⟨by simp only [jn,AV.al,AV.val],rfl,rfl,.nil⟩
 | .bo,x,cs,o,N,I,c,d,h,hn,hle=>by
  obtain ⟨rfl,rfl,rfl,rfl⟩:=h;exact ⟨by simp only [jn,AV.al,AV.val],rfl,rfl,.nil⟩
 | .s,x,cs,o,N,I,c,d,h,hn,hle=>by
  obtain ⟨rfl,rfl,rfl,rfl⟩:=h;exact ⟨by simp only [jn,AV.al,AV.val],rfl,rfl,.nil⟩
 | .un,x,cs,o,N,I,c,d,h,hn,hle=>by
  obtain ⟨rfl,rfl,rfl,rfl⟩:=h;exact ⟨by simp only [jn,AV.al],rfl,rfl,.nil⟩
 | .n,x,cs,o,N,I,c,d,h,hn,hle=>h.elim
 | .mp _ _,x,cs,o,N,I,c,d,h,hn,hle=>h.elim
 | .p a b,x,cs,o,N,I,c,d,h,hn,hle=>by
  obtain ⟨c1,F,z,K,J,A,C,B,rfl,rfl⟩:=h;have p2:=Ft b _ _ _ _ _ _ _ B;obtain ⟨y,w,v,r⟩:=VF a x.1 c1 o N K z A C (hn.pre p2) hle;obtain ⟨q,m,j,g⟩:=VF b x.2 F A z J c d B hn (dx hle (Ft a _ _ _ _ _ _ _ C).len);unfold jn;generalize jn nm a x.1 N.length o=H at y w v r;obtain ⟨u,p,n,E⟩:=H;simp only at y w v r;subst w;subst v;dsimp only;generalize jn nm b x.2 z.length E=G at q m j g;obtain ⟨L,p2,M,D⟩:=G;simp only at q m j g;dsimp only;exact ⟨by rw [dw,y,q],m,j,r.append g⟩
 | .l t,x,cs,o,N,I,c,d,h,hn,hle=>by
  obtain ⟨a,rfl,rfl,h⟩:=h;have hl:=hn.last;rcases h with ⟨rfl,rfl⟩|⟨e,rfl,rfl,f⟩
  .exact ⟨by simp only [jn,AV.al,AV.val,hl.2.1],by simp [jn],rfl,.cons ⟨rfl,aca hl.2.1⟩ .nil⟩
  .exact ⟨by simp only [jn,AV.al,AV.val,hl.2.1],by simp [jn],rfl,.cons ⟨rfl,ZZ hl.2.1 (by rw [hl.2.2.2 hle];exact f)⟩ .nil⟩
 | .ex,x,cs,o,N,I,c,d,h,hn,hle=>by
  obtain ⟨a,rfl,rfl,h⟩:=h;have hl:=hn.last;rcases h with ⟨rfl,rfl⟩|⟨e,rfl,rfl,f⟩
  .exact ⟨by simp only [jn,AV.al,AV.val,hl.2.1],by simp [jn],rfl,.cons ⟨rfl,aca (t:= .ex) hl.2.1⟩ .nil⟩
  .exact ⟨by simp only [jn,AV.al,AV.val,hl.2.1],by simp [jn],rfl,.cons ⟨rfl,ZZ (t:= .ex) hl.2.1 (by rw [hl.2.2.2 hle];exact f)⟩ .nil⟩
theorem asx{p q:jU}(h:sl p=sl q):p=q:=by obtain ⟨a,b,c⟩:=p;obtain ⟨f,e,d⟩:=q;simp only [sl,Value.slice.injEq] at h;rw [h.1,h.2.1,h.2.2]
theorem arI(hn:yn ρ nm n0 (N++[a]))(b:yc (iK ρ fx) (sl a.v)):(ρ (nmS nm fx N.length)).v=a.v:=by
 unfold nmS;split
 .have:=b _ rfl;simp only [AV.val] at this;exact (asx this).symm
 .rw [hn.last.2.1]
theorem aip{c:Nat}(hn:(ρ (nm N.length)).b=a.b)(d:yc (iK ρ fx) (.pointer (some ⟨a.b,c,none⟩))):(ρ (JO nm fx N.length)).b=a.b:=by
 unfold JO;split
 .have:=d _ rfl;simp only [AV.val,Value.pointer.injEq,ej,Addr.mk.injEq] at this;exact this.1.symm
 .rw [hn]
theorem arB(hn:yn ρ nm n0 (N++[a]))(b:yc (iK ρ fx) (.map a.m)):(ρ (nmM nm fx N.length)).m=a.m:=by
 unfold nmM;split
 .have:=b _ rfl;simp only [AV.val,Value.map.injEq] at this;exact this.symm
 .rw [hn.last.2.2.1]
theorem HS(p:Pt):uN p none=true:=by cases p <;> rfl
theorem abt(p:Pt)(a:List AV):uN p (tn p a)=true:=by
 unfold tn;cases a with
 |nil=>exact HS p
 |cons u us=>cases p <;> rfl
theorem ak3{l:List Pt}{cs:zc}(a:uN (.agg l) fx=true)(b:yc (iK ρ fx) (.agg cs.toArray)):AV.al ρ (jj fx)=aD (iK ρ fx).isSome cs []:=by
 cases fx with
 |none=>rfl
 |some q=>
  obtain ⟨v,d⟩:=q;cases v <;> first|(cases a;done)|skip;have:=b _ rfl;simp only [AV.val,Value.agg.injEq] at this;show AV.al ρ (jj (some (_,_)))=cs;simpa [jj] using this.symm
theorem apD{f:FuncId}{a b:List Pt}{us vs:zc}(c:uN (.fn f a b) fx=true)(e:yc (iK ρ fx) (.func (.func f) us.toArray vs.toArray)):AV.al ρ (jj fx)=aD (iK ρ fx).isSome vs []:=by
 cases fx with
 |none=>rfl
 |some q=>
  obtain ⟨v,d⟩:=q;cases v <;> first|(cases c;done)|skip;have:=e _ rfl;simp only [AV.val,Value.func.injEq] at this;show AV.al ρ (jj (some (_,_)))=vs;simpa [jj] using this.2.2.symm
theorem akQ{t:TypeId}{p:Pt}{u:Value}(a:uN (.ifc t p) fx=true)(b:yc (iK ρ fx) (.iface t u)):AV.al ρ (jj fx)=aD (iK ρ fx).isSome [u] []:=by
 cases fx with
 |none=>rfl
 |some q=>
  obtain ⟨v,d⟩:=q;cases v <;> first|(cases a;done)|skip;have:=b _ rfl;simp only [AV.val,Value.iface.injEq] at this;show AV.al ρ (jj (some (_,_)))=[u];simp [jj,AV.al,this.2]
mutual
theorem IK:(p:Pt)->(v:Value)->(fx:jB)->(j:Option AV)->(N:List Nm)->(D:List cr)->(I:gf)->(X:lT)->(i:List Nm)->Sem p v (iK ρ fx) (j.map (AV.val ρ)) N D I X i->uN p fx=true->yn ρ nm n0 i->n0<=N.length->(g:List cr)->
  (fill nm p fx j N.length (D++g)).v.val ρ=v/\(fill nm p fx j N.length (D++g)).k=i.length/\(fill nm p fx j N.length (D++g)).D=g/\X=fw ρ (fill nm p fx j N.length (D++g)).X/\gB (RwI ρ T) (fill nm p fx j N.length (D++g)).R I
 | .int k,v,fx,j,N,D,I,X,i,h,hg,hn,hle,g=>by
  obtain ⟨x,rfl,rfl,rfl,rfl,rfl⟩:=h;exact ⟨by simp only [fill,qJ,arz,AV.val],rfl,rfl,rfl,.nil⟩
 | .bool,v,fx,j,N,D,I,X,i,h,hg,hn,hle,g=>by
  obtain ⟨x,rfl,rfl,rfl,rfl,rfl⟩:=h;exact ⟨by simp only [fill,qJ,arp,AV.val],rfl,rfl,rfl,.nil⟩
 | .str,v,fx,j,N,D,I,X,i,h,hg,hn,hle,g=>by
  obtain ⟨x,rfl,rfl,rfl,rfl,rfl⟩:=h;exact ⟨by simp only [fill,qJ,akd,AV.val],rfl,rfl,rfl,.nil⟩
 | .sli t,v,fx,j,N,D,I,X,i,h,hg,hn,hle,g=>by
  obtain ⟨a,l,rfl,rfl,rfl,rfl,rfl⟩:=h;have hl:=hn.last;refine ⟨by simp only [fill,AV.val,hl.2.1],by simp [fill],rfl,rfl,.cons ⟨rfl,?_⟩ .nil⟩;show bX _ ((Row.sli none (nm N.length) t (iS (.l t) (⟨.l t,l⟩::g)) false).item ρ T)/\bX ((Row.sli none (nm N.length) t (iS (.l t) (⟨.l t,l⟩::g)) false).item ρ T) _;rw [ajG];exact aca hl.2.1
 | .own t e m,v,fx,j,N,D,I,X,i,h,hg,hn,hle,g=>by
  obtain ⟨a,l,rfl,E,rfl,rfl,rfl,rfl,hy⟩:=h;have hS:=arI hn E;refine ⟨by simp only [fill,AV.val,hS],by simp [fill],rfl,rfl,.cons ⟨rfl,?_⟩ .nil⟩;show bX _ ((Row.own (nmS nm fx N.length) t e (iS (.l t) (⟨.l t,l⟩::g)) (nm N.length)).item ρ T)/\bX ((Row.own (nmS nm fx N.length) t e (iS (.l t) (⟨.l t,l⟩::g)) (nm N.length)).item ρ T) _;rw [ajG];exact ZZ hS (by rw [hn.last.2.2.2 hle];exact hy)
 | .slr n,v,fx,j,N,D,I,X,i,h,hg,hn,hle,g=>by
  obtain ⟨a,ha,rfl,rfl,rfl,rfl,rfl⟩:=h;exact ⟨by simp only [fill,AV.val,(hn _ _ ha).2.1],rfl,rfl,rfl,.nil⟩
 | .bx t off m vs,v,fx,j,N,D,I,X,i,h,hg,hn,hle,g=>by
  obtain ⟨a,cs,I',X',rfl,E,A,rfl,rfl⟩:=h;rw [adZ] at A;have p1:=pC vs _ _ _ _ _ _ _ _ A;have hl:=hn.pre p1;have F:=aip hl.last.1 E;have G:(N++[a]).length=N.length+1:=by simp
  obtain ⟨z,w,B,C,r⟩:=wR vs cs [] (Li fx) (N++[a]) D I' X' i (by simpa only [AV.al] using A) hn (by simp;omega) g;rw [G] at z w B C r;unfold fill;generalize fA nm vs [] (Li fx) (N.length+1) (D++g)=L at z w B C r;obtain ⟨us,R,k,J,H⟩:=L;simp only at z w B C r;dsimp only;have Y:AV.al ρ (Z1 (JO nm fx N.length) vs us)=cs:=apt A F z;refine ⟨by simp only [AV.val,F],w,B,?_,.cons ⟨rfl,?_⟩ r⟩
  .rw [C];cases m <;> simp [fw,Y]
  .simp only [Row.item,F,Y];exact ⟨bX.refl,bX.refl⟩
 | .ptr n off,v,fx,j,N,D,I,X,i,h,hg,hn,hle,g=>by
  obtain ⟨a,ha,rfl,rfl,rfl,rfl,rfl⟩:=h;exact ⟨by simp only [fill,AV.val,(hn _ _ ha).1],rfl,rfl,rfl,.nil⟩
 | .mp k u m,v,fx,j,N,D,I,X,i,h,hg,hn,hle,g=>by
  obtain ⟨a,d,rfl,E,rfl,rfl,rfl,rfl⟩:=h;have V:=arB hn E;refine ⟨by simp only [fill,AV.val,V],by simp [fill],rfl,rfl,.cons ⟨rfl,?_⟩ .nil⟩;show bX _ ((Row.mp (nmM nm fx N.length) k u (iS (.mp k u) (⟨.mp k u,d⟩::g))).item ρ T)/\bX ((Row.mp (nmM nm fx N.length) k u (iS (.mp k u) (⟨.mp k u,d⟩::g))).item ρ T) _;rw [aoJ];simp only [Row.item,V];exact ⟨bX.refl,bX.refl⟩
 | .it,v,fx,j,N,D,I,X,i,h,hg,hn,hle,g=>by
  obtain ⟨a,s,p,rfl,E,rfl,rfl,rfl,rfl⟩:=h;have F:=aip hn.last.1 E;refine ⟨by simp only [fill,AV.val,F],by simp [fill],rfl,rfl,.cons ⟨rfl,?_⟩ .nil⟩;show bX _ ((Row.it (JO nm fx N.length) (iS .s (⟨.s,s⟩::⟨.n,p⟩::g)) (iS .n (⟨.n,p⟩::g))).item ρ T)/\bX ((Row.it (JO nm fx N.length) (iS .s (⟨.s,s⟩::⟨.n,p⟩::g)) (iS .n (⟨.n,p⟩::g))).item ρ T) _;rw [akd,aj2];simp only [Row.item,F];exact ⟨bX.refl,bX.refl⟩
 | .agg l,v,fx,j,N,D,I,X,i,h,hg,hn,hle,g=>by
  obtain ⟨cs,rfl,E,A⟩:=h;obtain ⟨z,w,B,C,r⟩:=wR l cs (jj fx) [] N D I X i (by rw [ak3 hg E];simpa only [AV.al] using A) hn hle g;unfold fill;generalize fA nm l (jj fx) [] N.length (D++g)=L at z w B C r;obtain ⟨us,R,k,J,H⟩:=L;simp only at z w B C r;dsimp only;exact ⟨by simp only [AV.val,z],w,B,C,r⟩
 | .cU l,v,fx,j,N,D,I,X,i,h,hg,hn,hle,g=>by
  obtain ⟨cs,rfl,A⟩:=h;obtain ⟨z,w,B,C,r⟩:=wR l cs [] [] N D I X i (by simpa only [AV.al] using A) hn hle g;unfold fill;generalize fA nm l [] [] N.length (D++g)=L at z w B C r;obtain ⟨us,R,k,J,H⟩:=L;simp only at z w B C r;dsimp only;exact ⟨by simp only [AV.val,z],w,B,C,r⟩
 | .fn f a b,v,fx,j,N,D,I,X,i,h,hg,hn,hle,g=>by
  obtain ⟨us,vs,Z,K,I1,I2,X1,X2,U,rfl,E,A,W,rfl,rfl,rfl⟩:=h;have p2:=pC b _ _ _ _ _ _ _ _ W;obtain ⟨z,w,B,C,r⟩:=wR a us [] [] N Z I1 X1 U (by simpa only [AV.al] using A) (hn.pre p2) hle (K++g);obtain ⟨c1,S,Q,P,O⟩:=wR b vs (jj fx) [] U K I2 X2 i (by rw [apD hg E];simpa only [AV.al] using W) hn (dx hle (pC a _ _ _ _ _ _ _ _ A).len) g;unfold fill;rw [cx];generalize fA nm a [] [] N.length (Z++(K++g))=L at z w B C r;obtain ⟨us',R,k,J,H⟩:=L;simp only at z w B C r;subst w;subst B;dsimp only;generalize fA nm b (jj fx) [] U.length (K++g)=L at c1 S Q P O;obtain ⟨us2,R2,k2,DD2,XX2⟩:=L;simp only at c1 S Q P O;dsimp only;exact ⟨by simp only [AV.val,z,c1],S,Q,by rw [C,P];simp [fw],r.append O⟩
 | .ifc t p,v,fx,j,N,D,I,X,i,h,hg,hn,hle,g=>by
  obtain ⟨u,rfl,E,A⟩:=h;rw [<-akQ hg E,OV] at A;obtain ⟨z,w,B,C,r⟩:=IK p u (tn p (jj fx)) none N D I X i A (abt p _) hn hle g;unfold fill;generalize fill nm p (tn p (jj fx)) none N.length (D++g)=L at z w B C r;obtain ⟨us,R,k,J,H⟩:=L;simp only at z w B C r;dsimp only;exact ⟨by simp only [AV.val,z],w,B,C,r⟩
 | .nU c,v,fx,j,N,D,I,X,i,h,hg,hn,hle,g=>by
  obtain ⟨⟨A,h0⟩,rfl,rfl,rfl,rfl⟩:=h;exact ⟨by rw [A];exact h0 ρ,rfl,rfl,rfl,.nil⟩
 | .dat t o,v,fx,j,N,D,I,X,i,h,hg,hn,hle,g=>by
  obtain ⟨cs,x,o',rfl,rfl,A,rfl⟩:=h;obtain ⟨z,w,B,r⟩:=VF (T:=T) t x cs o N I i o' A hn hle;unfold fill;rw [qJ,uB];generalize jn nm t x N.length o=L at z w B r;obtain ⟨us,R,k,oo⟩:=L;simp only at z w B r;dsimp only;exact ⟨by simp only [AV.val,z],w,rfl,rfl,r⟩
 | .ifn,v,fx,j,N,D,I,X,i,h,hg,hn,hle,g=>by
  obtain ⟨x,rfl,rfl,rfl,rfl,rfl⟩:=h;exact ⟨by simp only [fill,qJ,aj2,AV.val,AV.al],rfl,rfl,rfl,.nil⟩
 | .sfp,v,fx,j,N,D,I,X,i,h,hg,hn,hle,g=>by
  obtain ⟨a,f,ha,rfl,rfl,rfl,rfl,rfl⟩:=h;refine ⟨?_,rfl,rfl,rfl,.nil⟩;simp only [fill,AV.val,(hn _ _ ha).1,qJ];rfl
 | .same,v,fx,j,N,D,I,X,i,h,hg,hn,hle,g=>by
  obtain ⟨A,rfl,rfl,rfl,rfl⟩:=h;refine ⟨?_,rfl,rfl,rfl,.nil⟩;simp only [fill,an9];rcases A with ⟨p,hp,rfl⟩|⟨M,A⟩
  .cases fx with
   |none=>cases hp
   |some q=>cases hp;rfl
  .cases fx with
   |some q=>cases M
   |none=>
    cases j with
    |none=>cases A
    |some y=>cases A;rfl
theorem wR:(l:List Pt)->(vs:zc)->(a:List AV)->(b:List AV)->(N:List Nm)->(D:List cr)->(I:gf)->(X:lT)->(d:List Nm)->yA l vs (AV.al ρ a) (AV.al ρ b) N D I X d->yn ρ nm n0 d->n0<=N.length->(c:List cr)->
  AV.al ρ (fA nm l a b N.length (D++c)).vs=vs/\(fA nm l a b N.length (D++c)).k=d.length/\(fA nm l a b N.length (D++c)).D=c/\X=fw ρ (fA nm l a b N.length (D++c)).X/\gB (RwI ρ T) (fA nm l a b N.length (D++c)).R I
 |[],vs,a,b,N,D,I,X,d,h,hn,hle,c=>by
  obtain ⟨rfl,rfl,rfl,rfl,rfl⟩:=h;exact ⟨by simp only [fA,AV.al],rfl,rfl,rfl,.nil⟩
 |p::l,vs,a,b,N,D,I,X,d,h,hn,hle,c=>by obtain ⟨v,f,x,e,F,E,C,B,w,rfl,i,g,rfl,rfl,rfl⟩:=h;rw [XT,OV] at i;rw [Nw,Nw] at g;have p2:=pC l _ _ _ _ _ _ _ _ g;obtain ⟨u,t,s,r,q⟩:=IK p v (tn p a) b.head? N x F C w i (abt p a) (hn.pre p2) hle (e++c);obtain ⟨c1,o,n,m,j⟩:=wR l f a.tail b.tail w e E B d g hn (dx hle (AI p _ _ _ _ _ _ _ _ i).len) c;unfold fA;rw [cx];generalize fill nm p (tn p a) b.head? N.length (x++(e++c))=L at u t s r q;obtain ⟨z,R,k,M,J⟩:=L;simp only at u t s r q;subst t;subst s;dsimp only;generalize fA nm l a.tail b.tail w.length (e++c)=L at c1 o n m j;obtain ⟨y,K,H,G,A⟩:=L;simp only at c1 o n m j;dsimp only;exact ⟨by simp only [AV.al,u,c1],o,n,by rw [r,m];simp [fw],q.append j⟩
end
theorem QM{fix:Nat->jB}{g:Nat->Option Value}:(l:List (Bool×Nat×Pt))->(N:List Nm)->(D:List cr)->(I:gf)->(X:lT)->(d:List Nm)->H2 (λi=>iK ρ (fix i)) g l N D I X d->uV fix l=true->yn ρ nm n0 d->n0<=N.length->(a:List cr)->
  (∀t p,look (aF.env ρ [] (gJ nm fix l N.length (D++a)).E) t=some p->p.1=true/\g t=some p.2)/\(gJ nm fix l N.length (D++a)).k=d.length/\(gJ nm fix l N.length (D++a)).D=a/\gB (RwI ρ T) (gJ nm fix l N.length (D++a)).R I
 |[],N,D,I,X,d,h,hg,hn,hle,a=>by
  obtain ⟨rfl,rfl,rfl,rfl⟩:=h;exact ⟨(λt p h=>by cases h),rfl,rfl,.nil⟩
 |(b,t,p)::l,N,D,I,X,d,h,hg,hn,hle,a=>by
  simp only [uV,au] at hg;obtain ⟨v,y,f,F,K,C,J,e,H,A,z,rfl,rfl,rfl⟩:=h;have p2:=QE l _ _ _ _ _ z;have m:Sem p v (iK ρ (aD b (fix t) none)) ((none:Option AV).map (AV.val ρ)) N y F C e:=by cases b <;> exact A
  obtain ⟨x,w,u,B,s⟩:=IK (T:=T) p v _ none N y F C e m hg.1 (hn.pre p2) hle (f++a);obtain ⟨c1,r,o,n⟩:=QM l e f K J d z hg.2 hn (dx hle (AI p _ _ _ _ _ _ _ _ A).len) a;unfold gJ;rw [cx];dsimp only;generalize fill nm p (aD b (fix t) none) none N.length (y++(f++a))=L at x w u B s;obtain ⟨G,R,k,U,P⟩:=L;simp only at x w u B s;subst w;subst u;dsimp only;generalize gJ nm fix l e.length (f++a)=L at c1 r o n;obtain ⟨S,Q,O,M⟩:=L;simp only at c1 r o n;dsimp only;refine ⟨λt' q c=>?_,r,o,s.append n⟩;cases b
  .simp only [aF.env,look] at c;cases hb:Nat.beq t t'
   .rw [hb] at c;exact c1 t' q c
   .rw [hb] at c;simp only [ca,ej] at c;subst c;have:=b0 hb;subst this;refine ⟨aB.get_none,?_⟩;have j:g t=some v:=H;rw [j,x]
  .exact c1 t' q c
end
section
variable {Γ Γ' : Ctx} {w : World}
theorem Sat.CZ(h:Sat Γ w)(q:Nat->Nat->Prop)(g:∀(j:Nat) (a:Item),Γ'[j]? =some a->(a.own=[]/\∀M w,a.P M w)\/∃(i:Nat) (it:Item),q j i/\Γ[i]? =some it/\bX it a)
  (t:∀(j k i:Nat),j≠k->q j i->q k i->False):Sat Γ' w:=by
 have mv:Mv Γ.M w (Ctx.M Γ') w:=Mv.weaken w λb hb=>by
  obtain ⟨it,hi,hb⟩:=hb;obtain ⟨k,hk⟩:=List.mem_iff_getElem?.1 hi;rcases g k it hk with ⟨c,_⟩|⟨i,a,_,f,d⟩
  .rw [c] at hb;cases hb
  .exact Ctx.lh f (d.1 b hb)
 refine ⟨λa m=>?_,λj k a kt m hk s b hb n=>?_⟩
 .obtain ⟨k,hk⟩:=List.mem_iff_getElem?.1 m;rcases g k a hk with ⟨_,c⟩|⟨i,it,_,f,d⟩
  .exact c _ _
  .exact d.2 _ _ (it.da (h.at_ f) mv (λ_ _=>rfl) (jc.refl w))
 .rcases g j a m with ⟨c,_⟩|⟨i,it,r1,f,d⟩
  .rw [c] at hb;cases hb
  .rcases g k kt hk with ⟨c,_⟩|⟨r,l,r2,p,o⟩
   .grind
   .by_cases e:i=r
    .grind
    .exact h.sep i r it l f p e b (d.1 b hb) (o.1 b n)
def jH:Item:=Zi True
theorem Sat.pull(h:Sat Γ w){i:Nat}{it b:Item}(hi:Γ[i]? =some it)(hl:bX it b):Sat (b::Γ.set i jH) w:=by
 refine h.CZ (λj k=>(j=0/\k=i)\/(j=k+1/\k≠i)) (λj kt a=>?_) (λj k q c f d=>by omega);cases j with
 |zero=>grind
 |succ j=>
  simp at a;by_cases e:j=i
  .subst e;rw [sj (List.getElem?_eq_some_iff.1 hi).1] at a;cases a;exact .inl ⟨rfl,λ_ _=>trivial⟩
  .rw [qN (λh=>e h.symm)] at a;exact .inr ⟨j,kt,.inr ⟨rfl,e⟩,a,bX.refl⟩
theorem Sat.DL{A B:Ctx}{x:Item}(h:Sat (A++x::B) w):Sat (A++B) w:=by
 refine h.CZ (λj k=>(j<A.length/\k=j)\/(A.length<=j/\k=j+1)) (λj a c=>?_) (λj k q b f d=>by omega);by_cases e:j<A.length
 .exact .inr ⟨j,a,.inl ⟨e,rfl⟩,by grind,bX.refl⟩
 .have e':A.length<=j:=by omega
  refine .inr ⟨j+1,a,.inr ⟨e',rfl⟩,?_,bX.refl⟩;grind
theorem Sat.aqv{A B:Ctx}{x a:Item}{k:Nat}(h:Sat (A++x::B.set k jH) w)(hk:B[k]? =some a)(hl:bX x a):Sat (A++B) w:=by
 refine h.CZ (λj q=>(j<A.length/\q=j)\/(j=A.length+k/\q=A.length)\/(A.length<=j/\j≠A.length+k/\q=j+1)) (λj kt d=>?_) (λj k q b g f=>by omega);by_cases e:j<A.length
 .exact .inr ⟨j,kt,.inl ⟨e,rfl⟩,by grind,bX.refl⟩
 .have e':A.length<=j:=by omega
  by_cases c:j=A.length+k
  .grind
  .refine .inr ⟨j+1,kt,.inr (.inr ⟨e',c,rfl⟩),?_,bX.refl⟩;grind
theorem Sat.Hl{A B:Ctx}{x y:Item}(h:Sat (A++x::B) w)(hl:bX x y):Sat (A++y::B) w:=by
 refine h.CZ (λj k=>j=k) (λj a c=>?_) (λj k q b f d=>by omega);by_cases e:j<A.length
 .exact .inr ⟨j,a,rfl,by grind,bX.refl⟩
 .by_cases g:j=A.length
  .grind
  .refine .inr ⟨j,a,rfl,?_,bX.refl⟩;grind
theorem Sat.leL{A B C:Ctx}(h:Sat (A++(B++C)) w){c:Ctx}(hl:gB bX B c):Sat (A++(c++C)) w:=by
 induction hl generalizing A with
 |nil=>exact h
 | @cons a b l m h1 _ ih=>
  have d  :=h.Hl h1;have e:Sat ((A++[b])++(l++C)) w:=by simpa using d
  grind
def lB:w5->Ctx->Ctx
 |[],Γ=>Γ
 |none::l,Γ=>lB l Γ
 |some i::l,Γ=>(lB l Γ).set i jH
def Ndp:w5->Prop
 |[]=>True
 |none::l=>Ndp l
 |some i::l=>some i∉l/\Ndp l
theorem WA:∀{l:w5} {Γ:Ctx},(lB l Γ).length=Γ.length
 |[],_=>rfl
 |none::l,Γ=>WA (l:=l)
 |some j::l,Γ=>by show ((lB l Γ).set j jH).length=_;rw [qM,WA]
theorem DX:∀{l:w5} {Γ:Ctx} {i:Nat},some i∉l->(lB l Γ)[i]? =Γ[i]?
 |[],_,_,_=>rfl
 |none::l,Γ,i,h=>DX (l:=l) (λa=>h (cp _ a))
 |some j::l,Γ,i,h=>by have e:j≠i:=λe=>h (by grind);show ((lB l Γ).set j jH)[i]? =_;rw [qN e];exact DX (λa=>h (cp _ a))
theorem KG{x:Item}:∀{l:w5} {Γ:Ctx} {i:Nat},some i∉l->(lB l Γ).set i x=lB l (Γ.set i x)
 |[],_,_,_=>rfl
 |none::l,Γ,i,h=>KG (l:=l) (λa=>h (cp _ a))
 |some j::l,Γ,i,h=>by have e:j≠i:=λe=>h (by grind);show ((lB l Γ).set j jH).set i x=(lB l (Γ.set i x)).set j jH;rw [List.set_comm _ _ e,KG (λa=>h (cp _ a))]
def PI(Γ:Ctx)(w:World)(o:ze)(x:Bool×Item):Prop:=match o with
 |some i=>∃jt,Γ[i]? =some jt/\bX jt x.2
 |none=>x.2.own=[]/\x.2.P Γ.M w
abbrev dH(I:gf):Ctx:=I.map (·.2)
def iI(I:gf):Ctx:=I.map λx=>aD x.1 jH x.2
theorem Bm(h:Sat Γ w):∀{L:w5} {I:gf},gB (PI Γ w) L I->Ndp L->Sat (dH I++lB L Γ) w/\∀b,Ctx.M (dH I++lB L Γ) b->Γ.M b
 |_,_,.nil,_=>⟨h,λ_ h=>h⟩
 |_,_,.cons (a:=none) (b:=x) h1 hr,hd=>by
  obtain ⟨ih,c⟩:=Bm h hr hd;refine ⟨ih.add h1.1 (x.2.da h1.2 (Mv.weaken w c) (λ_ _=>rfl) (jc.refl w)),λb hb=>?_⟩;rcases Ctx.Fk.1 hb with hb|hb
  .rw [h1.1] at hb;cases hb
  .exact c b hb
 |_,_,.cons (a:=some i) (l:=l) (m:=m) h1 hr,hd=>by
  obtain ⟨ih,c⟩:=Bm h hr hd.2;obtain ⟨j,f,hl⟩:=h1;have hi:(dH m++lB l Γ)[(dH m).length+i]? =some j:=by rw [de (by omega),show (dH m).length+i-(dH m).length=i by omega,DX hd.1];exact f
  have g:=ih.pull hi hl;rw [sv _ _ (by omega),show (dH m).length+i-(dH m).length=i by omega] at g;refine ⟨g,λb hb=>?_⟩;rcases Ctx.Fk.1 hb with hb|hb
  .exact Ctx.lh f (hl.1 b hb)
  .obtain ⟨it,d,e⟩:=hb;refine c b ?_;rcases List.mem_append.1 d with d|d
   .exact ⟨it,qA _ d,e⟩
   .rcases List.mem_or_eq_of_mem_set d with d|d
    .exact ⟨it,gy _ d,e⟩
    .subst d;cases e
def B8:w5->gf->w5
 |o::L,x::I=>(aD x.1 o none)::B8 L I
 |_,_=>[]
def FB(Γ:Ctx)(o:ze)(x:Bool×Item):Prop:=match o with
 |some i=>∃jt,Γ[i]? =some jt/\(x.1=false->bX x.2 jt)
 |none=>True
theorem FB.set{Γ:Ctx}{i:Nat}{y:Item}:∀{L:w5} {I:gf},gB (FB Γ) L I->some i∉L->gB (FB (Γ.set i y)) L I
 |_,_,.nil,_=> .nil
 |_,_,.cons (a:=none) h1 hr,hn=> .cons trivial (FB.set hr (λh=>hn (cp _ h)))
 |_,_,.cons (a:=some j) h1 hr,hn=>by obtain ⟨b,c,hl⟩:=h1;exact .cons ⟨b,by grind,hl⟩ (FB.set hr (λh=>hn (cp _ h)))
theorem S5{i:Nat}:∀{L:w5} {I:gf},some i∈B8 L I->some i∈L
 |[],_,h=>by cases h
 |o::L,[],h=>by cases h
 |o::L,x::I,h=>by
  rcases List.mem_cons.1 h with h|h
  .grind
  .exact cp _ (S5 h)
theorem IJ{A:Ctx}:∀{L:w5} {I:gf} {Γ:Ctx},gB (FB Γ) L I->Ndp L->Sat (A++(iI I++lB L Γ)) w->Sat (A++lB (B8 L I) Γ) w
 |_,_,_,.nil,_,h=>h
 |_,_,_,.cons (a:=none) h1 hr,hd,h=>by
  have c  :=Sat.DL h;have:=IJ hr hd c;grind [B8,lB]
 |_,_,Γ,.cons (a:=some i) (b:=x) (l:=l) (m:=m) h1 hr,hd,h=>by
  obtain ⟨f,e,hl⟩:=h1;cases hx:x.1
  .have d:iI (x::m)++lB (some i::l) Γ=x.2::(iI m++lB l Γ).set (m.length+i) jH:=by simp_all [iI,lB,set]
   rw [d] at h;have c:=h.aqv (by
    rw [de (by simp [iI])];have:m.length+i-(iI m).length=i:=by simp [iI]
    rw [this,DX hd.1];exact e) (hl hx)
   have:=IJ hr hd.2 c;grind [B8,lB]
  .have d:iI (x::m)++lB (some i::l) Γ=jH::(iI m++lB l (Γ.set i jH)):=by show (aD x.1 jH x.2)::(iI m++(lB l Γ).set i jH)=_;rw [hx,KG hd.1]
   rw [d] at h;have c:=Sat.DL h;have:=IJ (FB.set hr hd.1) hd.2 c;rw [<-KG (λh=>hd.1 (S5 h))] at this;grind [B8,lB]
end
def dG(G H:List Row)(s:Src):ze:=match s with
 | .top i=>(match G[i]? with
  |some r=>aD r.cO none (some i)
  |none=>none)
 | .cB i=>(match H[i]? with
  |some r=>aD r.cO none (some (G.length+i))
  |none=>none)
 |_=>none
def nE(n:Nat):w5->Bool
 |[]=>false
 |o::l=>(match o with
  |some m=>Nat.beq n m
  |none=>false)||nE n l
theorem RY{n:Nat}:{l:w5}->(nE n l=true↔some n∈l)
 |[]=>by simp [nE]
 |none::l=>by simp [nE,RY]
 |some m::l=>by simp only [nE,eZ,qe,ej];rw [RY,Nat.beq_eq]
def Iw:w5->Bool
 |[]=>true
 |o::l=>(match o with
  |some i=> !(nE i l)
  |none=>true)&&Iw l
theorem Bi:{l:w5}->Iw l=true->Ndp l
 |[],_=>trivial
 |none::l,h=>by
  exact Bi (l:=l) h
 |some i::l,h=>by simp [Iw,au] at h;exact ⟨(λa=>by grind [RY]),Bi h.2⟩
section
variable {ρ : ay} {T : aB} {G H : List Row} {Φ : Ctx} {w : World}
theorem Src.pos{s:Src}{r:Row}(h:s.at_ G H r)(hp:r.cO=false):∃i,dG G H s=some i/\(ab ρ T G++(ab ρ T H++Φ))[i]? =some (r.item ρ T):=by
 cases s with
 |top i=>
  have h:G[i]? =some r:=h;simp_all [dG,iR]
 |cB i=>
  have h:H[i]? =some r:=h;simp_all [dG,XN]
 |nilI=>exact h.elim
 |nilO=>exact h.elim
 |nilM=>exact h.elim
theorem Src.atP{s:Src}{r:Row}(h:s.at_ G H r)(hp:r.cO=true):dG G H s=none:=by
 cases s with
 |top i=>
  have h:G[i]? =some r:=h;grind [dG]
 |cB i=>
  have h:H[i]? =some r:=h;grind [dG]
 |nilI=>exact h.elim
 |nilO=>exact h.elim
 |nilM=>exact h.elim
theorem Src.atO{s:Src}(h:∀r,¬s.at_ G H r):dG G H s=none:=by
 cases s with
 |top i=>
  cases a:G[i]? with
  |none=>simp [dG,a]
  |some r=>exact (h r a).elim
 |cB i=>
  cases a:H[i]? with
  |none=>simp [dG,a]
  |some r=>exact (h r a).elim
 |nilI=>rfl
 |nilO=>rfl
 |nilM=>rfl
theorem OU(j:Sat (ab ρ T G++(ab ρ T H++Φ)) w):∀{S:List (Bool×Src)} {I:gf},gB (SI ρ T G H) S I->gB (PI (ab ρ T G++(ab ρ T H++Φ)) w) (S.map λx=>dG G H x.2) I/\gB (FB (ab ρ T G++(ab ρ T H++Φ))) (S.map λx=>dG G H x.2) I
 |_,_,.nil=>⟨.nil,.nil⟩
 |_,_,.cons (a:=a) (b:=x) h1 hr=>by
  obtain ⟨h,g⟩:=OU j hr;obtain ⟨e,k⟩:=h1;rcases k with ⟨k1,d,f⟩|⟨r,k1,d,f,l⟩
  .have hp:=Src.atO f;refine ⟨.cons ?_ h,.cons ?_ g⟩
   .show PI _ _ (dG G H a.2) x;rw [hp];exact ⟨k1,d _ _⟩
   grind [FB,dG]
  .cases c:r.cO
   .obtain ⟨i,p1,p2⟩:=Src.pos k1 c;refine ⟨.cons ?_ h,.cons ?_ g⟩
    .show PI _ _ (dG G H a.2) x;rw [p1];exact ⟨_,p2,d⟩
    grind [FB,dG]
   .have hp:=Src.atP k1 c;refine ⟨.cons ?_ h,.cons ?_ g⟩
    .show PI _ _ (dG G H a.2) x;rw [hp];exact ⟨f c,d.2 _ _ (Src.holds j k1)⟩
    grind [FB,dG]
def vl(is:w5):Nat->List Row->List Row
 |_,[]=>[]
 |k,r::G=>(aD (nE k is) .gone r)::vl is (k+1) G
def mW:List Row->List Row
 |[]=>[]
 |r::G=>(match r with
  | .gone=>mW G
  |r=>r::mW G)
theorem GJ{B:Ctx}:∀{G:List Row} {A:Ctx},Sat (A++(ab ρ T G++B)) w->Sat (A++(ab ρ T (mW G)++B)) w
 |[],_,h=>h
 |r::G,A,h=>by
  unfold mW;split
  .exact GJ (Sat.DL h)
  .have a:Sat ((A++[r.item ρ T])++(ab ρ T G++B)) w:=by simpa [ab] using h
   have:=GJ a;grind
theorem P6{L:w5}:∀{G:List Row} {k:Nat},ab ρ T (vl L k G)=(ab ρ T G).mapIdx λi it=>aD (nE (k+i) L) jH it
 |[],_=>rfl
 |r::G,k=>by
  simp only [vl,e9,List.mapIdx_cons];have:=P6 (L:=L) (G:=G) (k:=k+1);congr 1
  .cases nE k L <;> rfl
  grind
theorem aaq:∀{L:w5} {Γ:Ctx} {j:Nat},(lB L Γ)[j]? =(Γ[j]?).map λit=>aD (nE j L) jH it
 |[],Γ,j=>by
  show Γ[j]? =_;cases Γ[j]? <;> rfl
 |none::l,Γ,j=>aaq (L:=l)
 |some i::l,Γ,j=>by
  show ((lB l Γ).set i jH)[j]? =_;by_cases e:i=j
  .have hl:(lB l Γ).length=Γ.length:=WA;have a:nE i (some i::l)=true:=by simp [nE]
   grind
  .rw [qN e,aaq];grind [Nat.beq,absurd,Nat.eq_of_beq_eq_true,nE]
end
structure aA where
 f:FuncId
 ps:List Pt
 r:Pt
 os:List (Bool×Nat×Pt)
 m:fS (sG ps)->Option (fS (rT r++jo os))
def am9:Ty->wi->Nat×wi
 | .p a b,o=>match am9 a o with
  |(n,o)=>match am9 b o with
   |(m,o)=>(n+m,o)
 | .l _,o=>(1,o.tail)
 | .ex,o=>(1,o.tail)
 |_,o=>(0,o)
mutual
def anK:Pt->Nat
 | .sli _|.own _ _ _|.mp _ _ _|.it=>1
 | .bx _ _ _ vs=>SM vs+1
 | .agg l|.cU l=>SM l
 | .fn _ a b=>SM a+SM b
 | .ifc _ p=>anK p
 | .dat t o=>(am9 t o).1
 |_=>0
def SM:List Pt->Nat
 |[]=>0
 |p::l=>anK p+SM l
end
def ixN:List Pt->Nat->Nat
 |p::l,i+1=>anK p+ixN l i
 |_,_=>0
def Uv(X:lT)(n:Nat):zc:=match X with
 |[]=>[]
 |x::X=>aD (Nat.beq x.1 n) x.2 (Uv X n)
def MK(X:List (Nat×List AV))(n:Nat):List AV:=match X with
 |[]=>[]
 |x::X=>aD (Nat.beq x.1 n) x.2 (MK X n)
theorem Yi{ρ:ay}{n:Nat}:{X:List (Nat×List AV)}->Uv (fw ρ X) n=AV.al ρ (MK X n)
 |[]=>by simp [Uv,MK,AV.al]
 |x::X=>by
  show (aD (Nat.beq x.1 n) (AV.al ρ x.2) (Uv (fw ρ X) n))=AV.al ρ (aD (Nat.beq x.1 n) x.2 (MK X n));cases Nat.beq x.1 n
  .exact Yi
  .rfl
def SD(ps:List Pt)(vs:zc)(X:lT)(i:Nat):Fx:=(vs[i]?).map λv=>(v,Uv X (ixN ps i))
def Ax(ps:List Pt)(vs:List AV)(X:List (Nat×List AV))(i:Nat):jB:=match vs[i]? with
 |some v=>some (v,MK X (ixN ps i))
 |none=>none
theorem VY{ρ:ay}:{l:List AV}->{i:Nat}->(AV.al ρ l)[i]? =(l[i]?).map (AV.val ρ)
 |[],i=>by simp [AV.al]
 |v::l,0=>by simp [AV.al]
 |v::l,i+1=>by simp only [AV.al,hU];exact VY
theorem adS{ρ:ay}{ps:List Pt}{vs:List AV}{X:List (Nat×List AV)}{i:Nat}:SD ps (AV.al ρ vs) (fw ρ X) i=iK ρ (Ax ps vs X i):=by
 unfold SD Ax;rw [VY];cases vs[i]? with
 |none=>rfl
 |some v=>simp [Yi]
def aA.Ok(P:Program)(Γg:Ctx)(e:aA):Prop:=Enters P e.f/\∀s r,e.m s=some r->∀(vs:zc) (N:List Nm) (I:gf) (X:lT) (Φ:Ctx) (w:World),
 yA e.ps vs [] [] [] (jb _ s) I X N->Sat (dH I++Φ) w->(∀it∈Γg,it∈Φ)->
 jJ P e.f vs w λv w'=>∃(N1 N2:List Nm) (D1 D2:List cr) (I1 I2:gf) (X1 X2:lT),Sem e.r v none none N D1 I1 X1 N1/\H2 (SD e.ps vs X) (λi=>vs[i]?) e.os N1 D2 I2 X2 N2/\D1++D2=jb _ r/\
  Sat ((dH I1++dH I2)++(iI I++Φ)) w'
def cellsOf(G H:List Row)(j:Nat):List AV:=match eM G H (Bv j) with
 |some (_,.box _ _ cs)=>cs
 |_=>[]
def anl:(t:Ty)->List AV->wi->zm×List AV×wi
 | .i _,vs,o|.bo,vs,o|.s,vs,o=>([],vs.tail,o)
 | .p a b,vs,o=>match anl a vs o with
  |(i,vs,o)=>match anl b vs o with
   |(j,vs,o)=>(i++j,vs,o)
 | .l _,vs,o=>(match o with
  |none::_=>(match vs with
   |v::_=>v.fJ
   |[]=>[])
  |_=>[],vs.tail,o.tail)
 | .ex,vs,o=>(match o with
  |none::_=>(match vs with
   |_::_::_::v::_=>v.fJ
   |_=>[])
  |_=>[],vs.drop 4,o.tail)
 |_,vs,o=>([],vs,o)
mutual
def yf(G H:List Row):Pt->AV->zm
 | .sli _,v=>v.fJ
 | .bx _ _ _ vs,v=>(match v with
  | .ptr j _=>fg G H vs (cellsOf G H j)
  |_=>[])
 | .agg l,v=>(match v with
  | .agg vs=>fg G H l vs
  |_=>[])
 | .cU l,v=>(match v with
  | .tuple vs=>fg G H l vs
  |_=>[])
 | .fn _ a b,v=>(match v with
  | .fn _ a' b'=>fg G H a a'++fg G H b b'
  |_=>[])
 | .ifc _ p,v=>(match v with
  | .ifc _ u=>yf G H p u
  |_=>[])
 | .dat t o,v=>(match v with
  | .agg cs=>(anl t cs o).1
  |_=>[])
 |_,_=>[]
def fg(G H:List Row):List Pt->List AV->zm
 |[],_=>[]
 |p::l,vs=>(match vs with
  |v::vs=>yf G H p (y6 G H v)++fg G H l vs
  |[]=>[])
end
def Ak(T:aB)(g:GK):List Row->List Row
 |[]=>[]
 |r::G=>(match r with
  | .sli (some k) id t l b=> .sli (aD (T.imp g (some k)) none (some k)) id t l b
  |r=>r)::Ak T g G
def Dl(g:GK)(r:Row):Row:=match g with
 |none=>r
 |some g=>(match r with
  | .sli none id t l b=> .sli (some g) id t l b
  | .own id t _ l _=> .sli (some g) id t l false
  |r=>r)
def slB:Row->Bool
 | .sli none _ _ _ _|.own .. =>true
 |_=>false
def WM:List (Bool×Row)->Bool
 |[]=>true
 |x::l=>slB x.2&&WM l
def vU(B:w5)(c:Nat)(n:Nat):Nat:=match B[n]? with
 |some (some j)=>j
 |_=>c+n
def Yc(c:Nat):w5->Bool
 |[]=>true
 |o::l=>(match o with
  |some j=>Nat.blt j c
  |none=>true)&&Yc c l
def Sa(c:Nat):List (Nat×List AV)->Bool
 |[]=>true
 |x::l=>AV.cq c x.2&&Sa c l
def CB(G H:List Row):List (Bool×Src)->w5
 |[]=>[]
 |x::S=>(aD x.1 (dG G H x.2) none)::CB G H S
def Qz(n:Nat):w5->Bool
 |[]=>true
 |o::l=>(match o with
  |some i=>Nat.blt i n
  |none=>true)&&Qz n l
def Ve:w5->Bool
 |[]=>true
 |o::l=>(match o with
  |some _=>false
  |none=>true)&&Ve l
def Pk{R:Type}(_fr:Fr)(st:aC)(g:GK)(d:zf)(args:List AV)(e:aA)(mr:MR)(G1:List Row)(K:cL R)(r:fS (rT e.r++jo e.os)):Option R:=
 match fill (vU mr.B st.c) e.r none none mr.B.length (jb _ r) with
 |⟨v,R1,k,D,_⟩=>match gJ (vU mr.B st.c) (Ax e.ps args mr.X) e.os k D with
  |⟨_,R2,k,_⟩=>aD (match g with|none=>true|some _=>WM R1) (K { st with c:=st.c+k,E:=cM d g v st.E,G:=(R1++R2).map (λx=>Dl g x.2)++G1 }) none
def agS{R:Type}(T:aB)(fr:Fr)(st:aC)(g:GK)(d:zf)(args:List AV)(e:aA)(K:cL R):Option (Option R):=
 match g with
 |none=>(match IL (cB (fg st.G fr.H e.ps args) st.G) fr.H e.ps args [] [] [] with
  |some mr=>aD (Iw (mr.S.map λx=>dG (cB (fg st.G fr.H e.ps args) st.G) fr.H x.2)&&Qz (cB (fg st.G fr.H e.ps args) st.G).length (CB (cB (fg st.G fr.H e.ps args) st.G) fr.H mr.S)&&Yc st.c mr.B&&AV.cq st.c args&&Sa st.c mr.X&&uV (Ax e.ps args mr.X) e.os) (match cU (sG e.ps) mr.D with
   |some s=>some ((e.m s).bind (Pk fr st none d args e mr (mW (vl (CB (cB (fg st.G fr.H e.ps args) st.G) fr.H mr.S) 0 (cB (fg st.G fr.H e.ps args) st.G))) K))
   |none=>none) none
  |none=>none)
 |some gk=>(match IL (Ak T (some gk) (cB (fg st.G fr.H e.ps args) st.G)) (Ak T (some gk) fr.H) e.ps args [] [] [] with
  |some mr=>aD (Iw (mr.S.map λx=>dG (Ak T (some gk) (cB (fg st.G fr.H e.ps args) st.G)) (Ak T (some gk) fr.H) x.2)&&Ve (CB (Ak T (some gk) (cB (fg st.G fr.H e.ps args) st.G)) (Ak T (some gk) fr.H) mr.S)&&e.os.isEmpty&&Yc st.c mr.B&&AV.cq st.c args&&Sa st.c mr.X&&uV (Ax e.ps args mr.X) e.os) (match cU (sG e.ps) mr.D with
   |some s=>some (bm (T.get (some gk)) (ahd _) (e.m s) (Pk fr st (some gk) d args e mr (cB (fg st.G fr.H e.ps args) st.G) K))
   |none=>none) none
  |none=>none)
def yo{R:Type}(T:aB)(fr:Fr)(st:aC)(g:GK)(d:zf)(f:FuncId)(args:List AV)(K:cL R):List aA->Option R
 |[]=>none
 |e::tb=>aD (Nat.beq e.f f) (match agS T fr st g d args e K with
   |some r=>r
   |none=>yo T fr st g d f args K tb) (yo T fr st g d f args K tb)
section
variable {ρ : ay} {T : aB} {G H : List Row} {Φ : Ctx} {w : World}
theorem QH{s:Src}{i:Nat}(h:dG G H s=some i):i<G.length+H.length:=by
 cases s with
 |top j=>
  simp only [dG] at h;split at h
  next r a=>obtain ⟨_,b⟩:=OG h;cases b;have:=(List.getElem?_eq_some_iff.1 a).1;omega
  .cases h
 |cB j=>
  simp only [dG] at h;split at h
  next r a=>obtain ⟨_,b⟩:=OG h;cases b;have:=(List.getElem?_eq_some_iff.1 a).1;omega
  .cases h
 |nilI=>cases h
 |nilO=>cases h
 |nilM=>cases h
theorem Rz:∀{S:List (Bool×Src)} {I:gf},gB (SI ρ T G H) S I->B8 (S.map λx=>dG G H x.2) I=CB G H S
 |_,_,.nil=>rfl
 |_,_,.cons (a:=a) (b:=x) h1 hr=>by show (aD x.1 (dG G H a.2) none)::B8 _ _=(aD a.1 (dG G H a.2) none)::_;rw [Rz hr,h1.1]
theorem VH{n:Nat}:∀{L:w5} {j:Nat},Qz n L=true->nE j L=true->j<n
 |[],j,h,a=>by cases a
 |none::l,j,h,a=>by
  simp only [Qz,fj] at h;simp only [nE,mE] at a;exact VH h a
 |some i::l,j,h,a=>by
  simp only [Qz,au,j5] at h;simp only [nE,eZ] at a;rcases a with a|a
  .rw [b0 a];exact h.1
  .exact VH h.2 a
theorem Fz{L:w5}{Δ:Ctx}(h:Qz G.length L=true):lB L (ab ρ T G++Δ)=ab ρ T (vl L 0 G)++Δ:=by
 apply mm;intro j;rw [aaq,P6];by_cases a:j<G.length
 .rw [ec (by simpa [ab] using a),ec (by simpa [ab] using a),List.getElem?_mapIdx];simp
 .have e:nE j L=false:=by
   cases hm:nE j L
   .rfl
   .exact absurd (VH h hm) a
  rw [de (by simp [ab];omega),de (by simp [ab];omega),e];have b:(ab ρ T G).length=((ab ρ T G).mapIdx λi it=>aD (nE (0+i) L) jH it).length:=by simp
  rw [<-b];cases Δ[j-(ab ρ T G).length]? <;> rfl
theorem aaR:∀{L:w5} {Γ:Ctx},Ve L=true->lB L Γ=Γ
 |[],_,_=>rfl
 |none::l,Γ,h=>by
  simp only [Ve,fj] at h;exact aaR (L:=l) h
 |some i::l,Γ,h=>by simp [Ve] at h
theorem Sb{g:GK}(c:T.get g=true){B:Ctx}:∀{G:List Row} {A:Ctx},Sat (A++(ab ρ T G++B)) w->Sat (A++(ab ρ T (Ak T g G)++B)) w
 |[],_,h=>h
 |r::G,A,h=>by
  have step:∀a:Row,bX (r.item ρ T) (a.item ρ T)->Sat (A++(ab ρ T (a::Ak T g G)++B)) w:=λa hl=>by
   have d:Sat (A++a.item ρ T::(ab ρ T G++B)) w:=Sat.Hl h hl;have e:Sat ((A++[a.item ρ T])++(ab ρ T G++B)) w:=by simpa [ab] using d
   have:=Sb c (G:=G) e;simpa [ab] using this
  unfold Ak;split
  .rename_i k id t l b;refine step _ ?_;cases hi:T.imp g (some k)
   .exact bX.refl
   .refine ⟨λ_ h=>h,λM w h _=>h (aB.np hi c)⟩
  .exact step _ bX.refl
theorem VT{g:GK}:∀{G:List Row},gB bX (ab ρ T (Ak T g G)) (ab ρ T G)
 |[]=> .nil
 |r::G=>by
  show gB bX (ab ρ T (Ak T g (r::G))) (r.item ρ T::ab ρ T G);unfold Ak;refine .cons ?_ VT;split
  .rename_i k id t l b;cases hi:T.imp g (some k)
   .exact bX.refl
   .exact ⟨λ_ h=>h,λM w h _=>h aB.get_none⟩
  .exact bX.refl
theorem aa2{g:Nat×Bool}{B:Ctx}:∀{R:List (Bool×Row)} {A:Ctx},WM R=true->Sat (A++(ab ρ T (R.map (·.2))++B)) w->Sat (A++(ab ρ T (R.map λx=>Dl (some g) x.2)++B)) w
 |[],_,_,h=>h
 |(m,r)::R,A,hb,h=>by
  simp only [WM,au] at hb;have step:Sat (A++(Dl (some g) r).item ρ T::(ab ρ T (R.map (·.2))++B)) w:=by
   have c:Sat (A++r.item ρ T::(ab ρ T (R.map (·.2))++B)) w:=h;cases r with
   |sli k id t l b=>
    cases k with
    |none=>exact c.Hl ⟨λ_ h=>h,λM w h _=>h aB.get_none⟩
    |some k=>simp [slB] at hb
   |own id t e l a=>
    have hi:(A++(Row.own id t e l a).item ρ T::(ab ρ T (R.map (·.2))++B))[A.length]? =some (uf t.rep e (ρ id).v l ((ρ a).y=⟨.l t,l⟩)):=by simp [Row.item]
    have d:=c.mM hi (new:=(Dl (some g) (Row.own id t e l a)).item ρ T) ((Ext.refl w).xt _) (λb hb=>by cases hb) (λM' m hn=>λ_=>⟨(c.at_ hi).1.freeze (λb hb=>hn b hb (λhb=>by cases hb)) m,λhb=>by cases hb⟩);simpa using d
   |_=>simp [slB] at hb
  have f:Sat ((A++[(Dl (some g) r).item ρ T])++(ab ρ T (R.map (·.2))++B)) w:=by simpa using step
  have:=aa2 (g:=g) hb.2 f;simpa [ab] using this
theorem K9{g:Nat×Bool}(a:T.get (some g)=false):∀{R:List (Bool×Row)},WM R=true->∀it∈ab ρ T (R.map λx=>Dl (some g) x.2),it.cO=true/\∀M w,it.P M w
 |[],_,it,h=>by cases h
 |(m,r)::R,hb,it,h=>by
  simp only [WM,au] at hb;rw [e9,ab,e9] at h;rcases List.mem_cons.1 h with rfl|h
  .cases r with
   |sli k id t l b=>
    cases k with
    |none=>exact ⟨rfl,λM w h=>by rw [a] at h;cases h⟩
    |some k=>simp [slB] at hb
   |own id t e l c=>exact ⟨rfl,λM w h=>by rw [a] at h;cases h⟩
   |_=>simp [slB] at hb
  .exact K9 a hb.2 it h
theorem gB.rw{R:List (Bool×Row)}{I:gf}(h:gB (RwI ρ T) R I):gB bX (dH I) (ab ρ T (R.map (·.2))):=by
 induction h with
 |nil=>exact .nil
 |cons a _ ih=>exact .cons a.2.1 ih
theorem U5{R:List (Bool×Row)}:(R.map λx=>Dl none x.2)=R.map (·.2):=rfl
theorem Xr{N2:List Nm}{B:w5}{c:Nat}(hN:NB ρ B N)(hp:y4 N N2)(p:Yc c B=true):
  yn (λi=>aD (Nat.blt i c) (ρ i) ((N2[i-c]?).getD dA)) (vU B c) B.length N2:=by
 intro i a ha;have e:∀n,(aD (Nat.blt (c+n) c) (ρ (c+n)) ((N2[c+n-c]?).getD dA))=(N2[n]?).getD dA:=λn=>by
  have:Nat.blt (c+n) c=false:=by
   cases hb:Nat.blt (c+n) c
   .rfl
   .simp only [j5] at hb;omega
  rw [this,show c+n-c=n by omega]
 unfold vU;split
 .rename_i j d;obtain ⟨r,q,f⟩:=hN.get d;have k:=hp.at_ q;rw [ha] at k;cases k;have b:Nat.blt j c=true:=by
   have key:∀(B:w5) (i:Nat),Yc c B=true->B[i]? =some (some j)->Nat.blt j c=true:=λB=>by
    induction B with
    |nil=>intro i _ h;simp at h
    |cons o l ih=>
     intro i h g;simp only [Yc,au] at h;cases i with
     |zero=>simp at g;subst g;exact h.1
     |succ i=>exact ih i h.2 (by simpa using g)
   exact key B i p d
  simp only [b];refine ⟨f.1.symm,f.2.1.symm,f.2.2.symm,λm=>?_⟩;have:=(List.getElem?_eq_some_iff.1 d).1;omega
 .simp only [e,ha,qG];exact ⟨trivial,trivial,trivial,λ_=>trivial⟩
theorem ZI{ρ':ay}{c:Nat}(ha:aS c ρ ρ'):{X:List (Nat×List AV)}->Sa c X=true->fw ρ' X=fw ρ X
 |[],_=>rfl
 |x::X,h=>by simp only [Sa,au] at h;show (x.1,AV.al ρ' x.2)::fw ρ' X=(x.1,AV.al ρ x.2)::fw ρ X;rw [AV.cd ha _ h.1,ZI ha h.2]
end
section
variable {P : Program} {R : Type} {r : R} {K : cL R} {T : aB} {fr : Fr} {st : aC} {g : GK} {d : zf} {ρ : ay} {Φ Γg : Ctx} {w : World} {ty : TypeId} {pos : String} {af : zh} {gd : w4}
theorem Nc{e:aA}{args:List AV}{a:MR}{l:List Row}{q:fS (rT e.r++jo e.os)}{v:Value}{w':World}{p N2:List Nm}{F s:List cr}{E n:gf}{X1 V:lT}
  (hl:st.low fr=true) (I:bD st.c l=true) (hN:NB ρ a.B N) (hB:Yc st.c a.B=true) (hA:AV.cq st.c args=true) (hX:Sa st.c a.X=true) (hF:uV (Ax e.ps args a.X) e.os=true)
  (Z:Sem e.r v none none N F E X1 p) (z:H2 (SD e.ps (AV.al ρ args) (fw ρ a.X)) (λi=>(AV.al ρ args)[i]?) e.os p s n V N2) (hD:F++s=jb _ q)
  (hg:T.get g=true) (hs:Sat ((dH E++dH n)++(ab ρ T l++(ab ρ T fr.H++Φ))) w') (b:g=none\/e.os=[]) (h:Pk fr st g d args e a l K q=some r):aU r K T fr st g d ρ Φ v w':=by
 have w:=AI _ _ _ _ _ _ _ _ _ Z;have u:=QE _ _ _ _ _ _ z;have m:=Xr (N2:=N2) hN (w.trans u) hB;have f:aS st.c ρ (λi=>aD (Nat.blt i st.c) (ρ i) ((N2[i-st.c]?).getD dA)):=λj hj=>by
  have:Nat.blt j st.c=true:=by simpa using hj
  simp only [this]
 generalize hρ:(λi=>aD (Nat.blt i st.c) (ρ i) ((N2[i-st.c]?).getD dA))=ρ' at m f;have y:a.B.length=N.length:=hN.length;obtain ⟨U,S,Q,a4,P⟩:=IK (T:=T) e.r v none none N F E X1 p Z (HS _) (m.pre u) (by omega) s;have J:H2 (λi=>iK ρ' (Ax e.ps args a.X i)) (λi=>(AV.al ρ args)[i]?) e.os p s n V N2:=by
  have e1:(λi=>iK ρ' (Ax e.ps args a.X i))=SD e.ps (AV.al ρ args) (fw ρ a.X):=by
   funext i
   rw [<-AV.cd f _ hA,<-ZI f hX,adS]
  rw [e1];exact z
 obtain ⟨b1,O,M,o⟩:=QM (T:=T) e.os p s n V N2 J hF m (dx (by omega) w.len) [];unfold Pk at h;rw [<-hD,y] at h;generalize fill (vU a.B st.c) e.r none none N.length (F++s)=L at U S Q a4 P h;obtain ⟨v',D,k,DD,XX⟩:=L;simp only at U S Q a4 P;subst S;subst Q;dsimp only at h;rw [ko] at b1 O M o;generalize gJ (vU a.B st.c) (Ax e.ps args a.X) e.os p.length DD=L at b1 O M o h;obtain ⟨E2,W,Y,DD2⟩:=L;simp only at O M o;dsimp only at h;obtain ⟨c1,c2⟩:=aI h;refine aU.new (ρ':=ρ') hl c2 f (by simp) rfl U ?_;have t:Sat ((ab ρ' T (D.map (·.2))++ab ρ' T (W.map (·.2)))++(ab ρ T l++(ab ρ T fr.H++Φ))) w':=by have k1:=Sat.leL (A:=[]) (B:=dH E) (C:=dH n++(ab ρ T l++(ab ρ T fr.H++Φ))) (by simpa using hs) P.rw;have Y:=Sat.leL (A:=ab ρ' T (D.map (·.2))) (B:=dH n) (C:=ab ρ T l++(ab ρ T fr.H++Φ)) k1 o.rw;simpa using Y
 have e3:=ba (T:=T) f I;show Sat (ab ρ' T ((D++W).map (λx=>Dl g x.2)++l)++(ab ρ T fr.H++Φ)) w';rw [bg,e3,rJ,bg];cases g with
 |none=>
  rw [U5,U5];simpa using t
 |some gk=>
  rcases b with b|b
  .cases b
  .have G:W=[]:=by
    have hI:n=[]:=by rw [b] at z;exact z.2.1
    rw [hI] at o;cases o;rfl
   subst G;have k3:=aa2 (g:=gk) (A:=[]) (R:=D) (B:=ab ρ T l++(ab ρ T fr.H++Φ)) c1 (by simpa using t);simpa using k3
theorem aic{e:aA}{op:Op}{args:List AV}(hl:st.low fr=true)(p:Sat (ab ρ T st.G++(ab ρ T fr.H++Φ)) w)(he:e.Ok P Γg)(hΓ:∀it∈Γg,it∈Φ)
  (ent:T.get g=true->∀n j,Fits n (az ρ T st.E fr.F) j->(execOp j.eval ⟨d,op,ty,pos,af,gd⟩).run P w= .ok (.enter e.f (AV.al ρ args).toArray) w) (h:agS T fr st g d args e K=some (some r)):
  ny P T g (az ρ T st.E fr.F) ⟨d,op,ty,pos,af,gd⟩ w (aU r K T fr st g d ρ Φ):=by
 have Z:=uX (ids:=fg st.G fr.H e.ps args) (aC.cJ.1 hl).2.2.1;replace p:=lQ (ids:=fg st.G fr.H e.ps args) p
 -- what is lent, taken and handed back
 have key:∀(o l:List Row) (a:MR) (s:fS (sG e.ps)) (q:fS (rT e.r++jo e.os)),Sat (ab ρ T o++(ab ρ T l++Φ)) w->IL o l e.ps args [] [] []=some a->Iw (a.S.map λx=>dG o l x.2)=true->
   cU (sG e.ps) a.D=some s->e.m s=some q->jJ P e.f (AV.al ρ args) w λv w'=>∃(N J N2:List Nm) (R Q:List cr) (O M:gf) (X1 X2:lT),NB ρ a.B N/\Sem e.r v none none N R O X1 J/\
    H2 (SD e.ps (AV.al ρ args) (fw ρ a.X)) (λi=>(AV.al ρ args)[i]?) e.os J Q M X2 N2/\R++Q=jb _ q/\Sat ((dH O++dH M)++lB (CB o l a.S) (ab ρ T o++(ab ρ T l++Φ))) w':=λo l a s q p hm hnd b hq=>by
  obtain ⟨N,I,s1,n1,a1⟩:=B6 p e.ps args [] [] [] a [] hm (.inl rfl) .nil;rw [<-DQ _ b] at s1;obtain ⟨p1,p2⟩:=OU p a1;have y:=Bi hnd;obtain ⟨q1,_⟩:=Bm p p1 y;refine (he.2 s q hq (AV.al ρ args) N I (fw ρ a.X) _ w (by simpa only [AV.al] using s1) q1 (λit bI=>?_)).mono ?_
  .obtain ⟨k,hk⟩:=List.mem_iff_getElem?.1 (hΓ it bI);have hk2:(ab ρ T o++(ab ρ T l++Φ))[o.length+l.length+k]? =some it:=by
    rw [de (by simp [ab];omega),de (by simp [ab];omega)];have:o.length+l.length+k-(ab ρ T o).length-(ab ρ T l).length=k:=by simp [ab];omega
    rw [this];exact hk
   refine fm (i:=o.length+l.length+k) ?_;rw [DX,hk2];intro Y;obtain ⟨x,_,hx⟩:=List.mem_map.1 Y;have:=QH hx;omega
  .intro v w' V;obtain ⟨J,N2,R,Q,O,M,X1,X2,c1,c2,c3,C⟩:=V;have z:=IJ p2 y C;rw [Rz a1] at z;exact ⟨N,J,N2,R,Q,O,M,X1,X2,n1,c1,c2,c3,z⟩
 unfold agS at h;cases g with
 |none=>
  dsimp only at h;split at h
  .rename_i a hm;obtain ⟨h1,u⟩:=aI h;simp only [au] at h1;obtain ⟨⟨⟨⟨⟨h3,h4⟩,h5⟩,h6⟩,h7⟩,h9⟩:=h1;split at u
   .rename_i s b;simp only [ej] at u;obtain ⟨q,hq,hk⟩:=iJ u;refine .none_ (λn j hf=> .inr (.inr ⟨e.f,AV.al ρ args,ent aB.get_none n j hf,(key _ _ a s q p hm h3 b hq).mono λv w' V=>?_⟩));obtain ⟨N,J,N2,R,Q,O,M,X1,X2,n1,c1,c2,c3,C⟩:=V;rw [Fz h4] at C;have z:=GJ C;refine Nc hl ?_ n1 h5 h6 h7 h9 c1 c2 c3 aB.get_none z (.inl rfl) hk;have U:∀(L:w5) (G:List Row) (k:Nat),bD st.c G=true->bD st.c (mW (vl L k G))=true:=λL G=>by
     induction G with
     |nil=>intro k _;rfl
     |cons r G ih=>
      intro k hG;simp only [bD,au] at hG;show bD st.c (mW ((aD (nE k L) .gone r)::vl L (k+1) G))=true;cases nE k L
      .cases r <;> first|exact ih (k+1) hG.2|(simp only [mW,bD,au];exact ⟨hG.1,ih (k+1) hG.2⟩)
      .exact ih (k+1) hG.2
    exact U _ _ _ Z
   .cases u
  .cases h
 |some gk=>
  dsimp only at h;split at h
  .rename_i a hm;obtain ⟨h1,u⟩:=aI h;simp only [au] at h1;obtain ⟨⟨⟨⟨⟨⟨h3,h4⟩,h8⟩,h5⟩,h6⟩,h7⟩,h9⟩:=h1;have W:e.os=[]:=by simpa using h8
   split at u
   .rename_i s b;simp only [ej] at u;obtain ⟨q,hq1,hq0,hk⟩:=Vd u;refine ⟨λt=>λn j hf=> .inr (.inr ⟨e.f,AV.al ρ args,ent t n j hf,(key _ _ a s q (Sb (A:=ab ρ T (Ak T (some gk) (cB (fg st.G fr.H e.ps args) st.G))) t (Sb (A:=[]) t p)) hm h3 b (hq1 t)).mono λv w' V=>?_⟩),λt=>?_⟩
    .obtain ⟨N,J,N2,R,Q,O,M,X1,X2,n1,c1,c2,c3,C⟩:=V;rw [aaR h4] at C;have z:=Sat.leL C VT;rw [<-cx] at z;have c6:=Sat.leL z VT;rw [cx] at c6;exact Nc hl Z n1 h5 h6 h7 h9 c1 c2 c3 t c6 (.inr W) hk
    .have e0:=hq0 t;subst e0;unfold Pk at hk;generalize fill (vU a.B st.c) e.r none none a.B.length (jb _ (ahd _))=L at hk;obtain ⟨v',R1,k,DD,XX⟩:=L;dsimp only at hk;have e2:gJ (vU a.B st.c) (Ax e.ps args a.X) e.os k DD=⟨[],[],k,DD⟩:=by rw [W];rfl
     rw [e2] at hk;dsimp only at hk;obtain ⟨d1,d2⟩:=aI hk;refine ⟨_,aU.lC d2 (by simp) rfl rfl ?_⟩;show Sat (ab ρ T ((R1++[]).map (λx:Bool×Row=>Dl (some gk) x.2)++_)++_) w;rw [ko,bg,cx];exact Fe p _ (λit bI=>⟨(K9 t d1 it bI).1,(K9 t d1 it bI).2 _ _⟩)
   .cases u
  .cases h
end
def SH:(t:Ty)->List t.T->Option zc
 | .s,xs=>some (xs.map S)
 | .i k,xs=>some (xs.map (.int k))
 |_,_=>none
def glI(p:Nat×Nat×cr):Item:=match p.2.2 with
 |⟨.l t,xs⟩=>(match SH t xs with
  |some cs=>gl p.1 cs
  |none=>jH)
 |_=>jH
def Cx.Γ(X:Cx):Ctx:=X.gls.map glI
def Zj:List (Nat×Nat×cr)->Nat->Option cr
 |[],_=>none
 |p::l,b=>aD (Nat.beq p.1 b) (some p.2.2) (Zj l b)
theorem Z9:{l:List (Nat×Nat×cr)}->{b:Nat}->{d:cr}->Zj l b=some d->∃p,p∈l/\p.1=b/\p.2.2=d
 |[],_,_,h=>by cases h
 |p::l,b,d,h=>by
  unfold Zj at h;rcases eo h with ⟨f,a⟩|⟨_,a⟩
  .cases a;exact ⟨p,c8 .., b0 f,rfl⟩
  .obtain ⟨q,e,c⟩:=Z9 a;exact ⟨q,cp _ e,c⟩
theorem aie{M:Nat->Prop}{w:World}:{t:Ty}->{xs:List t.T}->{cs:zc}->SH t xs=some cs->cV t.rep M w cs xs
 | .s,xs,_,h=>by cases h;exact abF xs
 | .i k,xs,_,h=>by cases h;exact Yk xs
 | .bo,_,_,h|.un,_,_,h|.n,_,_,h|.p _ _,_,_,h|.l _,_,_,h|.mp _ _,_,_,h|.ex,_,_,h=>by cases h
structure GA where
 n:Nat
 e:TypeId
 b:Nat
 t:Ty
 xs:List t.T
 m:Nat
def gaA(X:Cx)(T:aB)(fr:Fr)(st:aC)(g:GK)(t:TypeId)(x:Operand):Option GA:=match X.P.underlying t with
 |some (.array n e)=>(match pL X.P e with
  |some z=>(match bw T st.E fr.F g x with
   |some (.gp b)=>(match Zj X.gls b with
    |some ⟨.l u,xs⟩=>aD ((SH u xs).isSome&&Nat.beq z.1 u.n'&&Nat.beq n xs.length&&Nat.blt 0 n) (some ⟨n,e,b,u,xs,z.1⟩) none
    |_=>none)
   |_=>none)
  |none=>none)
 |_=>none
section
variable {X : Cx} {R : Type} {r : R} {K : cL R} {T : aB} {fr : Fr} {st : aC} {g : GK} {d : Tmp} {ρ : ay} {Φ : Ctx} {w : World} {ty : TypeId} {pos : String} {af : zh} {gd : w4}
theorem aiB{t:TypeId}{x:Operand}{q:GA}(f:∀it∈X.Γ,it∈Φ)(A:Sat (ab ρ T st.G++(ab ρ T fr.H++Φ)) w)(h:gaA X T fr st g t x=some q):
  X.P.underlying t=some (.array q.n q.e)/\(∃bytes z,TI X.P q.e q.m bytes z)/\ar (az ρ T st.E fr.F) (T.get g) x (.pointer (some ⟨q.b,0,none⟩))/\q.m=q.t.rep.n/\q.n=q.xs.length/\Nat.blt 0 q.n=true/\
   bT q.t.rep (Ctx.M (ab ρ T st.G++(ab ρ T fr.H++Φ))) w (sl (some ⟨q.b,0,none⟩,q.xs.length,q.xs.length)) q.xs:=by
 unfold gaA at h;split at h
 .rename_i n e ht;split at h
  .rename_i z y;obtain ⟨m,bytes,z⟩:=z;split at h
   .rename_i b hx;split at h
    .rename_i u xs B;obtain ⟨s,J⟩:=aI h;cases J;simp only [au] at s;obtain ⟨⟨⟨r,I⟩,D⟩,C⟩:=s;have c:=aP (ρ:=ρ) hx;simp only [AV.val] at c;obtain ⟨p,p1,p2,o⟩:=Z9 B;obtain ⟨k,v,N⟩:=p;simp only at p2 o;subst p2;subst o;cases j:SH u xs with
     |none=>rw [j] at r;cases r
     |some cs=>
      have d:gl k cs∈Φ:=by have:=f (glI (k,v,⟨.l u,xs⟩)) (List.mem_map.2 ⟨_,p1,rfl⟩);unfold glI at this;simp only [j] at this;exact this
      have a:gl k cs∈ab ρ T st.G++(ab ρ T fr.H++Φ):=gy _ (gy _ d);obtain ⟨i,hi⟩:=List.mem_iff_getElem?.1 a;obtain ⟨L,K⟩:=A.gl hi;exact ⟨ht,⟨bytes,z,cT y⟩,c,(b0 I).trans u.Ee.symm,b0 D,C,as1 L K (aie j)⟩
    .cases h
   .cases h
  .cases h
 .cases h
def Zf(X:Cx)(T:aB)(fr:Fr)(st:aC)(g:GK)(d:Tmp)(t:TypeId)(x y:Operand)(K:cL R):Option R:=match gaA X T fr st g t x with
 |some q=>(match bw T st.E fr.F g y with
  |some (.int _ i)=>aro T g st d q.t q.xs i K
  |_=>none)
 |none=>none
theorem acz{N:TypeId}{x y:Operand}(hl:st.low fr=true)(O:∀it∈X.Γ,it∈Φ)(U:Sat (ab ρ T st.G++(ab ρ T fr.H++Φ)) w)(h:Zf X T fr st g d N x y K=some r):
  Qa X.P T g (az ρ T st.E fr.F) ⟨some d,.indexAddr N x y,ty,pos,af,gd⟩ w (aU r K T fr st g (some d) ρ Φ):=by
 unfold Zf at h;split at h
 .rename_i q hq;obtain ⟨ht,⟨bytes,z,C⟩,B,hm,hn,_,hS⟩:=aiB O U hq;obtain ⟨n,e,b,t,l,m⟩:=q;simp only at ht C B hm hn hS h;split at h
  .rename_i k i hy;have A:=aP (ρ:=ρ) hy;simp only [AV.val] at A;obtain ⟨u,V,b2⟩:=DJ h;have key:∃(p:Addr) (f:ay),aS st.c ρ f/\(f st.c).a=p/\(T.get g=true->Cz (sl (some ⟨b,0,none⟩,l.length,l.length)) i m p)/\
     ∀it∈ab f T (.elm g st.c (ew t u (st.c+1)).1::((ew t u (st.c+1)).2.1.map (yp g))),it.cO=true/\it.P (Ctx.M (ab ρ T st.G++(ab ρ T fr.H++Φ))) w:=by
    cases s:T.get g
    .refine ⟨⟨0,0,none⟩,ρ.set st.c dA,ay.aX,by rw [ay.bJ];rfl,(λh=>by cases h),λit bI=>?_⟩;rw [ab,e9] at bI;rcases List.mem_cons.1 bI with rfl|bI
     .exact ⟨rfl,λh=>by rw [s] at h;cases h⟩
     .obtain ⟨r1,v,rfl⟩:=List.mem_map.1 bI;obtain ⟨r2,j,rfl⟩:=List.mem_map.1 v;obtain ⟨j1,t1,l1,rfl⟩:=NF _ _ _ _ j;exact xI (λh=>by rw [s] at h;cases h)
    .obtain ⟨L,vs,S,e3,e4⟩:=hS.atA (V s);obtain ⟨f,m1⟩:=JA (T:=T) t u (st.c+1) vs e3 (ρ.set st.c { dA with a:=vq (sl (some ⟨b,0,none⟩,l.length,l.length)) i t.rep.n });have J:(f st.c).a=vq (sl (some ⟨b,0,none⟩,l.length,l.length)) i t.rep.n:=by rw [m1.ag _ (l7 _),ay.bJ]
     refine ⟨vq (sl (some ⟨b,0,none⟩,l.length,l.length)) i t.rep.n,f,ay.aX.trans m1.ag (j6 _),J,λ_=>by rw [hm];exact L,λit bI=>?_⟩;rw [ab,e9] at bI;rcases List.mem_cons.1 bI with rfl|bI
     .refine ⟨rfl,λ_=>?_⟩;show ¬Ctx.M _ (f st.c).a.block/\bN w (f st.c).a _;rw [J,m1.eq];exact ⟨e4,S⟩
     .obtain ⟨r1,v,rfl⟩:=List.mem_map.1 bI;obtain ⟨r2,j,rfl⟩:=List.mem_map.1 v;have R:=m1.rp _ j;obtain ⟨j1,t1,l1,rfl⟩:=m1.rs _ j;exact xI (λ_=>R)
   obtain ⟨p,f,k1,Z,Y,W⟩:=key;have Q:=Fe U _ W;have eG:=ba (T:=T) k1 (aC.cJ.1 hl).2.2.1
   -- what stands there where g does not hold does not count
   have D:∀w',bc X.P (az ρ T st.E fr.F) (T.get g) ⟨some d,.indexAddr N x y,ty,pos,af,gd⟩ w' (.pointer (some ((⟨b,0,none⟩:Addr).add (i.toNat*m)))):=λw'=>
    C9 ht C B A (λs=>apJ (V s) hn.symm)
   have o:aU r K T fr st g (some d) ρ Φ (.pointer (some p)) w:=by
    refine aU.new (ρ':=f) hl b2 k1 (dx (j6 _) (ND _ _ _)) rfl (by simp only [AV.val,Z];simp [Addr.add]) ?_;show Sat (ab f T (Row.elm g st.c _::(_++st.G))++_) w;have e8:ab f T (Row.elm g st.c (ew t u (st.c+1)).1::((ew t u (st.c+1)).2.1.map (yp g)++st.G))=ab f T (.elm g st.c (ew t u (st.c+1)).1::((ew t u (st.c+1)).2.1.map (yp g)))++ab f T st.G:=by simp [ab]
    rw [e8,eG,cx];exact Q
   cases s:T.get g
   .exact ⟨_,λw'=>λn a hf I=>(by rw [s] at I;cases I),o⟩
   .obtain ⟨a,len,cap,L,_,_,S⟩:=Y s;have e3:p=(⟨b,0,none⟩:Addr).add (i.toNat*m):=by
     injection L with L _ _
     cases L;exact S
    subst e3;exact ⟨_,D,o⟩
  .cases h
 .cases h
def alW(X:Cx)(T:aB)(fr:Fr)(st:aC)(d:Tmp)(t:TypeId)(x:Operand)(lo hi mx:Option Operand)(K:cL R):Option R:=match lo,hi,mx with
 |none,none,none=>(match gaA X T fr st none t x with
  |some q=>K { st with c:=st.c+1,E:=cM (some d) none (.sl st.c) st.E,G:= .sli none st.c q.t q.xs false::st.G }
  |none=>none)
 |_,_,_=>none
theorem aqy{t:TypeId}{x:Operand}{lo hi g:Option Operand}(hl:st.low fr=true)(e:∀it∈X.Γ,it∈Φ)(i:Sat (ab ρ T st.G++(ab ρ T fr.H++Φ)) w)(h:alW X T fr st d t x lo hi g K=some r):
  ny X.P T none (az ρ T st.E fr.F) ⟨some d,.slice t x lo hi g,ty,pos,af,gd⟩ w (aU r K T fr st none (some d) ρ Φ):=by
 unfold alW at h;split at h
 .split at h
  next q j=>obtain ⟨ht,⟨bytes,z,f⟩,a,hm,hn,c,hS⟩:=aiB e i j;rw [aB.get_none] at a;refine .none_ (bL.gd (bL.run (ahN ht f c a) ?_));refine aU.push (x:={ dA with v:=(some ⟨q.b,0,none⟩,q.n,q.n) }) hl h (by simp only [AV.val,ay.bJ];rfl) (i.add rfl ?_);intro _;rw [ay.bJ];exact ⟨by rw [hn];exact hS,λh=>by cases h⟩
  .cases h
 .cases h
end
variable {cv : za × AV}
def sEq(P:Program)(t:TypeId)(a b:AV):za:=match P.underlying t with
 |some (.int _)=>(match a,b with
  | .int k x,.int k' y=>aD (j3 k k') (some (x==y)) none
  |_,_=>none)
 |some .bool=>(match a,b with
  | .bool x,.bool y=>some (x==y)
  |_,_=>none)
 |some .string=>(match a,b with
  | .str x,.str y=>some (x==y)
  |_,_=>none)
 |_=>none
def fEq(P:Program):List Field->Nat->List AV->List AV->Option zk
 |[],_,l1,l2=>aD (l1.isEmpty&&l2.isEmpty) (some []) none
 |f::fs,k,l1,l2=>(match l1,l2 with
  |a::l1,b::l2=>aD (f.name != "_" &&Nat.beq f.offset k) (match sEq P f.type a b with
   |some r=>(match fEq P fs (k+1) l1 l2 with
    |some l=>some (r::l)
    |none=>none)
   |none=>none) none
  |_,_=>none)
def acb:Bool->zk->Bool
 |b,[]=>b
 |b,c::l=>acb (b&&c) l
def eqL:zk->Bool
 |[]=>true
 |b::l=>acb b l
theorem aeg:∀{l:zk} {b:Bool},acb b l=(b&&l.foldr (· && ·) true)
 |[],b=>by simp [acb]
 |c::l,b=>by simp only [acb,aeg,List.foldr_cons,Bool.and_assoc]
theorem asc:∀{l:zk},eqL l=l.foldr (· && ·) true
 |[]=>rfl
 |b::l=>by simp only [eqL,aeg,List.foldr_cons]
def al0(X:Cx)(T:aB)(E F:aF)(g:GK):Op->CV
 | .binOp op t x y _=>(match bw T E F g x with
  |some (.agg l1)=>(match bw T E F g y with
   |some (.agg l2)=>(match X.P.underlying t with
    |some (.struct fs)=>aD (!(X.P.eqGuardType X.P.depth t)&& !(X.P.stoodInHeld t)) (match fEq X.P fs.toList 0 l1 l2 with
     |some bs=>(match op with
      | .eql=>pv (.bool (eqL bs))
      | .neq=>pv (.bool (!(eqL bs)))
      |_=>none)
     |none=>none) none
    |_=>none)
   |_=>none)
  |_=>none)
 |_=>none
def anB(X:Cx)(T:aB)(E F:aF)(g:GK):Op->CV
 | .typeAssert x _ t true=>(match X.P.underlying t with
  |some dd=>aD (!(iY dd)) (match bw T E F g x with
   |some (.ifc t' v)=>aD (Nat.beq t' t) (pv (.tuple [v,.bool true])) (match pL X.P t with
    |some z=>pv (.tuple [.raw z.2.2,.bool false])
    |none=>none)
   |some (.raw .nilIface)=>(match pL X.P t with
    |some z=>pv (.tuple [.raw z.2.2,.bool false])
    |none=>none)
   |_=>none) none
  |none=>none)
 |_=>none
def ahU(X:Cx)(T:aB)(E F:aF)(g:GK):Op->CV
 | .indexAddr t x (.const (.int _ (.ofNat j)))=>(match X.P.underlying t with
  |some (.array n e)=>(match pL X.P e with
   |some z=>(match bw T E F g x with
    |some (.ptr id off)=>aD (Nat.blt j n) (pv (.ptr id (off+j*z.1))) none
    |_=>none)
   |none=>none)
  |_=>none)
 |_=>none
def amQ(X:Cx)(T:aB)(E F:aF)(g:GK)(op:Op):CV:=match alA X T E F g op with
 |some cv=>some cv
 |none=>(match al0 X T E F g op with
  |some cv=>some cv
  |none=>(match anB X T E F g op with
   |some cv=>some cv
   |none=>ahU X T E F g op))
section
variable {X : Cx} {T : aB} {E F : aF} {g : GK} {ρ : ay} {w : World} {dst : zf} {ty : TypeId} {pos : String} {af : zh} {gd : w4}
theorem art{P:Program}{t:TypeId}{a b:AV}{r:Bool}(d:Nat)(h:sEq P t a b=some r):(∃td,P.underlying t=some td/\nD td=false)/\(Op.equalIn (d+1) t (a.val ρ) (b.val ρ)).run P w= .ok r w:=by
 unfold sEq at h;split at h
 .rename_i g ht;split at h
  next k x i y=>obtain ⟨f,c⟩:=aI h;cases c;have e:=om f;subst e;exact ⟨⟨_,ht,rfl⟩,by simp only [AV.val];exact run_equalIn_int w d t _ _ _ _ ht⟩
  .cases h
 .rename_i ht;split at h
  .cases h;exact ⟨⟨_,ht,rfl⟩,by simp only [AV.val];exact run_equalIn_bool' w d t _ _ ht⟩
  .cases h
 .rename_i ht;split at h
  .cases h;exact ⟨⟨_,ht,rfl⟩,by simp only [AV.val];exact YL _ w d t _ _ ht⟩
  .cases h
 .cases h
theorem ajK{P:Program}{xs ys:zc}(d:Nat):∀{j:List Field} {k:Nat} {l1 e:List AV} {g:zk},fEq P j k l1 e=some g->xs.drop k=AV.al ρ l1->ys.drop k=AV.al ρ e->
  (Op.eqFields (d+1) xs.toArray ys.toArray j).run P w= .ok (g.foldr (· && ·) true) w
 |[],k,l1,e,g,h,_,_=>by
  unfold fEq at h;obtain ⟨_,c⟩:=aI h;cases c;exact aoN
 |f::j,k,l1,e,g,h,hx,hy=>by
  unfold fEq at h;split at h
  .rename_i a l1 b e;obtain ⟨i,c⟩:=aI h;simp only [au] at i;have m:=b0 i.2;split at c
   .rename_i r o;split at c
    .rename_i l hl;cases c;obtain ⟨⟨s,t1,t2⟩,n⟩:=art (ρ:=ρ) (w:=w) d o;simp only [AV.al] at hx hy;have q:xs[k]? =some (a.val ρ):=by rw [<-List.head?_drop,hx];rfl
     have p:ys[k]? =some (b.val ρ):=by rw [<-List.head?_drop,hy];rfl
     refine amZ i.1 (agI t1 t2 (by rw [m];exact q)) (agI t1 t2 (by rw [m];exact p)) n ?_;refine ajK d hl ?_ ?_
     .rw [<-qz,hx];rfl
     .rw [<-qz,hy];rfl
    .cases c
   .cases c
  .cases h
theorem alv{op:Op}(h:al0 X T E F g op=some cv):rm X.P (az ρ T E F) ρ (T.get g) ⟨dst,op,ty,pos,af,gd⟩ w cv:=by
 unfold al0 at h;split at h
 .rename_i m t x y t';split at h
  .rename_i l1 hx;split at h
   .rename_i i j;split at h
    .rename_i k ht;obtain ⟨d,c⟩:=aI h;simp only [au,l9] at d;split at c
     .rename_i l e;have b:=aP (ρ:=ρ) hx;have a:=aP (ρ:=ρ) j;simp only [AV.val] at b a;have f:X.P.fieldsOf t=k:=by simp [Program.fieldsOf,ht]
      have key:(Op.equalIn 10000 t (.agg (AV.al ρ l1).toArray) (.agg (AV.al ρ i).toArray)).run X.P w= .ok (eqL l) w:=by rw [run_equalIn_struct w 9999 t _ _ (by rw [f];exact ht) d.2,f,asc];exact ajK 9998 e rfl rfl
      split at c
      .refine .pv c (cD b a ?_);rw [Sem.run_bind,run_eqGuard_agg w _ _ _ _ _ _ d.1,Result.andThen_ok,run_eql_struct,key];simp only [AV.val,Result.andThen_ok]
      .refine .pv c (cD b a ?_);rw [Sem.run_bind,run_eqGuard_agg w _ _ _ _ _ _ d.1,Result.andThen_ok,run_neq_struct,key];simp only [AV.val,Result.andThen_ok]
      .cases c
     .cases c
    .cases h
   .cases h
  .cases h
 .cases h
theorem amy{op:Op}(h:anB X T E F g op=some cv):rm X.P (az ρ T E F) ρ (T.get g) ⟨dst,op,ty,pos,af,gd⟩ w cv:=by
 unfold anB at h;split at h
 .rename_i x s t;split at h
  .rename_i dd ht;obtain ⟨i,b⟩:=aI h;have hd:iY dd=false:=by simpa using i
   split at b
   .rename_i t' v hx;have a:=aP (ρ:=ρ) hx;simp only [AV.val] at a;rcases eo b with ⟨f,c⟩|⟨f,c⟩
    .have:=b0 f;subst this;refine .pv c ?_;simp only [AV.val,AV.al];exact Yu ht hd a
    .split at c
     next z d=>obtain ⟨n,bytes,z⟩:=z;refine .pv c ?_;simp only [AV.val,AV.al];exact Yt (λe=>by subst e;simp at f) ht hd (cT d) a
     .cases c
   .rename_i hx;split at b
    next z d=>obtain ⟨n,bytes,z⟩:=z;have a:=aP (ρ:=ρ) hx;simp only [AV.val] at a;refine .pv b ?_;simp only [AV.val,AV.al];exact Y2 ht hd (cT d) a
    .cases b
   .cases b
  .cases h
 .cases h
theorem air{op:Op}(h:ahU X T E F g op=some cv):rm X.P (az ρ T E F) ρ (T.get g) ⟨dst,op,ty,pos,af,gd⟩ w cv:=by
 unfold ahU at h;split at h
 .rename_i t x k j;split at h
  .rename_i n e ht;split at h
   .rename_i z l;obtain ⟨m,bytes,z⟩:=z;split at h
    .rename_i id d hx;obtain ⟨i,o⟩:=aI h;have f:=aP (ρ:=ρ) hx;simp only [AV.val] at f;refine .pv o ?_;have a:=C9 (P:=X.P) (w:=w) (dst:=dst) (ty:=ty) (pos:=pos) (af:=af) (gd:=gd) (y:= .const (.int k (.ofNat j))) ht (cT l) f ar.c (by intro _;rw [j5] at i;exact ou.2 ⟨Int.natCast_nonneg j,by simpa using i⟩)
     have p:((⟨(ρ id).b,d,none⟩:Addr).add ((Int.ofNat j).toNat*m))=⟨(ρ id).b,d+j*m,none⟩:=by rw [add_plain];rfl
     rw [p] at a;simpa only [AV.val] using a
    .cases h
   .cases h
  .cases h
 .cases h
theorem alO{op:Op}(c:gq T E F)(h:amQ X T E F g op=some cv):rm X.P (az ρ T E F) ρ (T.get g) ⟨dst,op,ty,pos,af,gd⟩ w cv:=by
 unfold amQ at h;split at h
 next b a=>cases h;exact amr c a
 .split at h
  next b a=>cases h;exact alv a
  .split at h
   next b a=>cases h;exact amy a
   .exact air h
end
variable {d : TypeDesc} {x : Operand}
def yz{α:Type}(xs ys:List α):List α:=ys.take xs.length++xs.drop ys.length
section
variable {P : Program} {E : Env} {w : World} {g : Bool}
variable {dst : zf} {ty : TypeId} {pos : String} {af : zh} {gd : w4}
theorem ant{α:Type}{A:fp α}{M:Nat->Prop}{v u:Value}{t ty e:TypeId}{bytes:Nat}{z:Value}{R:zm}(ht:P.underlying t=some (.slice e))(B:TI P e A.n bytes z)
  {xs ys:List α} (N:cj A e M w v xs R) (y:bT A M w u ys) (_hM:∀b∈R,M b):
  ∃w',(Builtin.copy_ #[t,t] ty #[v,u]).run P w= .ok (.int .i64 ((Nat.min ys.length xs.length:Nat):Int)) w'/\mO R w w'/\w'.heap.size=w.heap.size/\∀M',Mv M w M' w'->cj A e M' w' v (yz xs ys) R:=by
 obtain ⟨i,hi,hs,_,_⟩:=B.out;by_cases g:xs=[]\/ys=[]
 .have hc:yz xs ys=xs:=by unfold yz;rcases g with g|g <;> subst g <;> simp
  have hn:Nat.min ys.length xs.length=0:=by rcases g with g|g <;> subst g <;> simp
  obtain ⟨p,c,rfl,_⟩:=N.shape;obtain ⟨a,c2,rfl⟩:=y.len;refine ⟨w,?_,(Ext.refl w).xt _,rfl,λM' m=>?_⟩
  .have hl:∀a:Addr,(loadCells a 0).run P w= .ok #[] w:=λa=>run_loadCells_list (P:=P) w a [] (λj v Y=>by simp at Y);rw [hn];cases a <;> cases p <;> simp [Builtin.copy_,run_underlying ht,sizeOf,typeInfo,hi,Builtin.lenOf,Builtin.firstCells,hn,hl,storeCells,goInt]
  .rw [hc];exact N.da (λb hb=>rfl) m
 .have hx:xs≠[]:=λh=>g (.inl h);have W:ys≠[]:=λh=>g (.inr h);obtain ⟨b,c,cur,rfl,rfl,T,r,F,K,L⟩:=N.row hx;rcases y with ⟨_,I⟩|⟨b2,k,H,G,e2,fr2,rfl,U,S,Z,X,l⟩
  .exact absurd I W
  have O:((G.toList.drop k).take (ys.length*A.n)).length=ys.length*A.n:=l.1;generalize Q:(G.toList.drop k).take (ys.length*A.n)=x at l O;have E:Nat.min ys.length xs.length<=ys.length:=Nat.min_le_left _ _;have D:Nat.min ys.length xs.length<=xs.length:=Nat.min_le_right _ _;generalize hn:Nat.min ys.length xs.length=n at E D;have m1:n*A.n<=ys.length*A.n:=hV _ E;have V:n*A.n<=xs.length*A.n:=hV _ D;have m3:xs.length*A.n<=c*A.n:=hV _ r;have d:(x.take (n*A.n)).length=n*A.n:=by rw [dq];omega
  have s:cur.toList.length=c*A.n:=by simpa using K
  have run:=wq (P:=P) (w:=w) (ty:=ty) ht B (b:=b) (o:=0) (dl:=xs.length) (dc:=c) (cur:=cur) (e':=e) (a:=⟨b2,k,none⟩) (ls:=ys.length) (sc:=H) (cs:=x.take (n*A.n))
   (by rw [d,hn]) (cell_of_heap S k _ (by rw [d,<-Q,qH,iQ m1])) T (by rw [d];omega) (λv J=>l.DY v (qX J))
  refine ⟨_,by rw [run,hn];rfl,yt b _,by simp,λM' m=>?_⟩;have hd:yz xs ys=ys.take n++xs.drop n:=by
   unfold yz;have q:min ys.length xs.length=n:=hn;clear hn;rcases Nat.le_total ys.length xs.length with h|h
   .rw [iQ h] at q;subst q;rw [fb h,fb (cK _)]
   .rw [Nat.min_eq_right h] at q;subst q;rw [qg h,qg (cK _)]
  have f:(yz xs ys).length=xs.length:=by rw [hd,eF,dq,j0];omega
  have key:=(((l.take n).mv m).append ((L.drop n).mv m));have C:=setRow_heap w b cur (cur.toList.take 0++x.take (n*A.n)++cur.toList.drop (0+(x.take (n*A.n)).length)).toArray e (0,0) T;have J:Value.slice (some ⟨b,0,none⟩) xs.length c=Value.slice (some ⟨b,0,none⟩) (yz xs ys).length c:=by rw [f]
  rw [J];refine cj.mk_ C (by rw [f];exact r) F ?_ ?_
  .simp only [ua,p5,mN,qi,eF,d,j0,s];omega
  .rw [f,hd];simp only [ua,p5,mN,d];have e1:((x.take (n*A.n))++cur.toList.drop (n*A.n)).take (xs.length*A.n)=x.take (n*A.n)++(cur.toList.take (xs.length*A.n)).drop (n*A.n):=by rw [uc,d,qH,Nat.min_eq_right V,qy]
   rw [e1];simpa only [ua,p5,mN,d] using key
theorem aht{x y:Operand}{t e:TypeId}{n m bytes:Nat}{z v:Value}{d:TypeDesc}{cs:zc}{i:Int}{k:IntKind}(ht:P.underlying t=some (.array n e))(hd:P.underlying e=some d)(b:TI P e m bytes z)
  (hx:ar E g x (.agg cs.toArray)) (h:ar E g y (.int k i)) (p:0<=i) (o:i<(n:Nat)) (j:(if nD d then some (.agg ((cs.drop (i.toNat*m)).take m).toArray) else cs[i.toNat*m]?)=some v):
  bc P E g ⟨dst,.index t x y,ty,pos,af,gd⟩ w v:=
 λn' a f c=>by have hp:=acP (w:=w) hd b j;obtain ⟨q,hi,l,_,_⟩:=b.out;simp [execOp,hx n' a f c,h n' a f c,Instr.index,asIntOf,run_underlying ht,sizeOf,typeInfo,hi,l,p,o,hp]
theorem adi{x y h:Operand}{p:Addr}{len m bytes:Nat}{z:Value}{t e:TypeId}{k i:IntKind}(ht:P.underlying t=some (.array len e))(b:TI P e m bytes z)(hx:ar E g x (.pointer (some p)))(j:ar E g y (.int k (len:Nat)))(l:ar E g h (.int i (len:Nat))):
  bc P E g ⟨dst,.slice t x none (some y) (some h),ty,pos,af,gd⟩ w (.slice (some p) len len):=
 λn' a f d=>by obtain ⟨n,c,o,_,_⟩:=b.out;simp [execOp,hx n' a f d,j n' a f d,l n' a f d,Instr.sliceAt,run_underlying ht,Instr.sureAddr,Instr.sliceBounds,run_sliceBound,sizeOf,typeInfo,c,Addr.add]
theorem agd{y:Operand}{t t' u:TypeId}{v:Value}(ht:P.underlying t=some d)(hd:iY d=true)(hx:ar E g x (.iface u v))(a:ar E g y .nilIface):
  bc P E g ⟨dst,.binOp .neq t x y t',ty,pos,af,gd⟩ w (.bool true):=
 cD (P:=P) hx a (by
  rw [Sem.run_bind,gX rfl,Result.andThen_ok];have h:∀k:Nat,(Op.equalIn (k+1) t (.iface u v) .nilIface).run P w= .ok false w:=λk=>by cases d <;> first|(cases hd;done)|simp [Op.equalIn,run_underlying ht]
  simp only [binOp];simp [Op.equal,Op.maxDepth,h 9999])
theorem adw{t t':TypeId}(ht:P.underlying t=some d)(hd:iY d=true)(hx:ar E g x .nilIface):
  bc P E g ⟨dst,.binOp .neq t x (.const .nilIface) t',ty,pos,af,gd⟩ w (.bool false):=
 cD (P:=P) hx (y:= .const .nilIface) (v:= .nilIface) (λ_ _ _ _=>rfl) (by
  have h:∀k:Nat,(Op.equalIn (k+1) t .nilIface .nilIface).run P w= .ok true w:=λk=>by cases d <;> first|(cases hd;done)|simp [Op.equalIn,run_underlying ht]
  have a:(eqGuard .neq t x (.const .nilIface) .nilIface .nilIface).run P w= .ok () w:=by unfold eqGuard;simp
  rw [Sem.run_bind,a,Result.andThen_ok];simp only [binOp];simp [Op.equal,Op.maxDepth,h 9999])
theorem Reach.val{t:TypeId}{u:Value}{a:String}{f:FuncId}(h:Oj P t a f false)(ht:P.underlying t=some d)(hd:∀e,d≠ .pointer e):Reach P w t u a f u:=λk=>by obtain ⟨i,m,hi,hm,hp,b⟩:=h.out;unfold method;simp only [typeInfo,hi,hm,hp,b,follow,Sem.run_bind,Sem.run_pure,Result.andThen_ok,run_program];cases d <;> first|exact absurd rfl (hd _)|simp [receiverAt,run_underlying ht,Place.get]
theorem adl{n:Nat}{g:Bool}{f:FuncId}{r:Operand}{it t:TypeId}{d:TypeDesc}{u u':Value}{b:String}{vs:zc}{xs:y2}{tys:Array TypeId}{dst:zf}{gd:Option (Nat×Bool)}
  (k:Enters P f) (j:ar E g r (.func (.methodOf it b) #[] #[])) (bI:P.underlying it=some d) (hd:iY d=true) (hm:g=true->Reach P w t u b f u') (c:kr E g xs (.iface t u::vs)) {a:Act} (h:Fits n E a) (e:g=true):
  (execOp a.eval ⟨dst,.call ⟨.value r,xs.toArray,tys⟩,ty,pos,af,gd⟩).run P w= .ok (.enter f (u'::vs).toArray) w:=by
 have p:(Array.map a.eval xs.toArray)=(Value.iface t u::vs).toArray:=by simp [c.map h e]
 have l:=k (u'::vs).toArray w;have i:=hm e (P.types.size+99);have o:P.types.size+99+1=P.types.size+Made.depth:=rfl;rw [o] at i;have e3:((Value.iface t u::vs).toArray)[0]? =some (Value.iface t u):=by simp
 have e4:((Value.iface t u::vs).toArray).extract 1 ((Value.iface t u::vs).toArray).size=vs.toArray:=by simp
 have m:(#[u']++vs.toArray)=(u'::vs).toArray:=by simp
 cases d <;> first|(cases hd;done)|skip;simp only [execOp,resolve,j n a h e,Deferred.ofValue,p,Sem.run_bind,Sem.run_pure,Result.andThen_ok];simp only [tx,invoke,e3,e4,Sem.run_bind,run_underlying bI,Result.andThen_ok,callMethod,run_program,i,m,l]
end
def anX(X:Cx)(T:aB)(E F:aF)(g:GK):Op->CV
 | .index t x y=>(match X.P.underlying t with
  |some (.array n e)=>(match pL X.P e with
   |some z=>(match bw T E F g x with
    |some (.agg cs)=>(match bw T E F g y with
     |some (.int _ i)=>aD (decide (0<=i)&&decide (i<(n:Int))) (match od X.P e (cs.drop (i.toNat*z.1)) with
      |some v=>pv v
      |none=>none) none
     |_=>none)
    |_=>none)
   |none=>none)
  |_=>none)
 | .binOp .neq t x (.const .nilIface) _=>(match X.P.underlying t with
  |some d=>aD (iY d) (match bw T E F g x with
   |some (.ifc _ _)=>pv (.bool true)
   |some (.raw .nilIface)=>pv (.bool false)
   |_=>none) none
  |none=>none)
 | .makeFunc (.methodOf t nm) ⟨[]⟩ ⟨[]⟩=>pv (.raw (.func (.methodOf t nm) #[] #[]))
 |_=>none
section
variable {X : Cx} {ρ : ay} {T : aB} {E F : aF} {g : GK} {w : World} {dst : zf} {ty : TypeId} {pos : String} {af : zh} {gd : w4}
theorem anm{op:Op}(h:anX X T E F g op=some cv):rm X.P (az ρ T E F) ρ (T.get g) ⟨dst,op,ty,pos,af,gd⟩ w cv:=by
 unfold anX at h;split at h
 .rename_i t x y;split at h
  .rename_i n e ht;split at h
   .rename_i z q;obtain ⟨m,bytes,z⟩:=z;split at h
    .rename_i cs hx;split at h
     .rename_i k i r;obtain ⟨f,b⟩:=aI h;simp only [au,er] at f;split at b
      .rename_i v s;obtain ⟨d,n',p,C,c1,B,o⟩:=sE (ρ:=ρ) s;have a:=aP (ρ:=ρ) hx;have j:=aP (ρ:=ρ) r;simp only [AV.val] at a j;have c:=cT q;refine .pv b (aht ht c1 c a j f.1 f.2 ?_);cases hd:nD d
       .rw [hd] at o;exact o
       .rw [hd] at o;have l:=B hd;unfold TI at l c;rw [c] at l;simp only [ej,q7] at l;have A:m=n':=l.1;subst A;exact o
      .cases b
     .cases h
    .cases h
   .cases h
  .cases h
 .split at h
  .rename_i d ht;obtain ⟨f,b⟩:=aI h;split at b
   next u v hx=>have a:=aP (ρ:=ρ) hx;simp only [AV.val] at a;exact .pv b (agd ht f a (λ_ _ _ _=>rfl))
   next hx=>have a:=aP (ρ:=ρ) hx;simp only [AV.val] at a;exact .pv b (adw ht f a)
   .cases b
  .cases h
 .exact .pv h (MG (first:=[]) (cap:=[]) .nil .nil)
 .cases h
end
def amR(X:Cx)(T:aB)(E F:aF)(g:GK):Op->CV
 | .binOp .eql t x y _=>(match X.P.underlying t with
  |some (.pointer _)=>(match bw T E F g x with
   |some (.sfp _ f)=>(match bw T E F g y with
    |some (.raw (.pointer none))=>pv (.bool (!f))
    |_=>none)
   |_=>none)
  |_=>none)
 | .binOp .neq t x y _=>(match X.P.underlying t with
  |some (.pointer e)=>(match pL X.P e with
   |some _=>(match bw T E F g x with
    |some (.sfp j f)=>(match bw T E F g y with
     |some (.ptr j' 0)=>aD (Nat.beq j j') (pv (.bool (!f))) none
     |_=>none)
    |_=>none)
   |none=>none)
  |_=>none)
 | .call ⟨.value (.func f),⟨[x]⟩,_⟩=>aD (wQ f X.ids) (match bw T E F g x with
  |some v=>pv v
  |none=>none) none
 |_=>none
def alr(X:Cx)(T:aB)(E F:aF)(G H:List Row)(g:GK):Op->CV
 | .convert s d x=>(match bw T E F g x with
  |some (.ptr j 0)=>(match eM G H (Bv j) with
   |some (_,.box _ e' cs)=>(match X.P.underlying s with
    |some (.pointer e)=>(match X.P.underlying d with
     |some .unsafePointer=>(match pL X.P e with
      |some z=>aD (Nat.blt 0 z.1&&Nat.blt 0 cs.length) (pv (.ptr j 0)) none
      |none=>none)
     |_=>none)
    |some .unsafePointer=>(match X.P.underlying d with
     |some (.pointer e)=>(match pL X.P e with
      |some _=>aD (liesAt X.P X.P.depth e' (cs.length/X.P.cellsOf e') 0 e 1) (pv (.ptr j 0)) none
      |none=>none)
     |_=>none)
    |_=>none)
   |_=>none)
  |_=>none)
 |_=>none
def ahD(X:Cx)(T:aB)(E F:aF)(g:GK)(op:Op):CV:=match amQ X T E F g op with
 |some cv=>some cv
 |none=>(match anX X T E F g op with
  |some cv=>some cv
  |none=>amR X T E F g op)
def agm(X:Cx)(T:aB)(E F:aF)(G H:List Row)(g:GK)(op:Op):CV:=match akT X T E F G H g op with
 |some cv=>some cv
 |none=>alr X T E F G H g op
abbrev arx(xs ys:zl):zl:=xs++ys
def afx{R:Type}(X:Cx)(T:aB)(fr:Fr)(st:aC)(d:Tmp)(t u:TypeId)(x y:Operand)(K:cL R):Option R:=match jK X.P t with
 |some e=>(match pL X.P e with
  |some (1,1,.int .u8 (.ofNat 0))=>aD (isStr X.P u) (match bw T st.E fr.F none y with
   |some (.str s)=>(match bw T st.E fr.F none x with
    |some (.sl id)=>(match eM st.G fr.H (rn id) with
     |some (.top j,.own _ u' e' xs _)=>aD (Nat.beq e e') (match vN.cr.asL (.i .u8) ⟨.l u',xs⟩ with
      |some xs=>aN (aH (List.length xs+s.length) 1) (K { st with c:=st.c+1,E:=cM (some d) none (.sl st.c) st.E,G:=st.G.set j (.own st.c (.i .u8) e (arx xs (aQ s)) st.c) })
      |none=>none) none
     |_=>none)
    |some (.raw (.slice none 0 0))=>aN (aH (([]:zl).length+s.length) 1) (K { st with c:=st.c+1,E:=cM (some d) none (.sl st.c) st.E,G:= .own st.c (.i .u8) e (([]:zl)++aQ s) st.c::st.G })
    |_=>none)
   |_=>none) none
  |_=>none)
 |none=>none
section
variable {X : Cx} {T : aB} {E F : aF} {G H : List Row} {g : GK} {ρ : ay} {w : World} {dst : zf} {ty : TypeId} {pos : String} {af : zh} {gd : w4} {Φ : Ctx}
theorem amx{op:Op}(h:amR X T E F g op=some cv):rm X.P (az ρ T E F) ρ (T.get g) ⟨dst,op,ty,pos,af,gd⟩ w cv:=by
 unfold amR at h;split at h
 .rename_i t x y s;split at h
  .rename_i e ht;split at h
   .rename_i j f hx;split at h
    next d=>have b:=aP (ρ:=ρ) hx;have a:=aP (ρ:=ρ) d;simp only [AV.val] at b a;exact .pv h (agx ht b a)
    .cases h
   .cases h
  .cases h
 .rename_i t x y s;split at h
  .rename_i e ht;split at h
   .rename_i z k;obtain ⟨n,bytes,z⟩:=z;split at h
    .rename_i j f hx;split at h
     next l d=>obtain ⟨i,c⟩:=aI h;have:=b0 i;subst this;have b:=aP (ρ:=ρ) hx;have a:=aP (ρ:=ρ) d;simp only [AV.val] at b a;exact .pv c (af0 ht (cT k) b a)
     .cases h
    .cases h
   .cases h
  .cases h
 .rename_i f x tys;obtain ⟨i,c⟩:=aI h;split at c
  next v hx=>exact .pv c (alI (X.idsOk f (aa8.1 i)) (aP (ρ:=ρ) hx))
  .cases c
 .cases h
theorem anc{op:Op}(o:Sat (ab ρ T G++(ab ρ T H++Φ)) w)(h:alr X T E F G H g op=some cv):rm X.P (az ρ T E F) ρ (T.get g) ⟨dst,op,ty,pos,af,gd⟩ w cv:=by
 unfold alr at h;split at h
 .rename_i s d x;split at h
  .rename_i j hx;split at h
   .rename_i t m e' cs p;obtain ⟨r,q⟩:=bZ p;have:m=j:=b0 q;subst this;have hb:gI w (ρ m).b e' (AV.al ρ cs):=Src.holds o r;have a:=aP (ρ:=ρ) hx;simp only [AV.val] at a;split at h
    .rename_i e c;split at h
     .rename_i f;split at h
      next z k=>obtain ⟨n,bytes,z⟩:=z;obtain ⟨i,l⟩:=aI h;simp only [au] at i;refine .pv l ?_;simp only [AV.val];exact ZE c f (cT k) i.1 a hb (by rw [AV.bF];exact i.2)
      .cases h
     .cases h
    .rename_i c;split at h
     .rename_i e f;split at h
      next z k=>obtain ⟨n,bytes,z⟩:=z;obtain ⟨i,l⟩:=aI h;refine .pv l ?_;simp only [AV.val];exact Vu c f (cT k) a hb (by rw [AV.bF];exact i)
      .cases h
     .cases h
    .cases h
   .cases h
  .cases h
 .cases h
theorem acw{op:Op}(c:gq T E F)(h:ahD X T E F g op=some cv):rm X.P (az ρ T E F) ρ (T.get g) ⟨dst,op,ty,pos,af,gd⟩ w cv:=by
 unfold ahD at h;split at h
 next b a=>cases h;exact alO c a
 .split at h
  next b a=>cases h;exact anm a
  .exact amx h
theorem acA{op:Op}(b:Sat (ab ρ T G++(ab ρ T H++Φ)) w)(h:agm X T E F G H g op=some cv):rm X.P (az ρ T E F) ρ (T.get g) ⟨dst,op,ty,pos,af,gd⟩ w cv:=by
 unfold agm at h;split at h
 next c a=>cases h;exact anf b a
 .exact anc b h
end
section
variable {X : Cx} {R : Type} {r : R} {K : cL R} {T : aB} {fr : Fr} {st : aC} {d : Tmp} {ρ : ay} {Φ : Ctx} {w : World} {ty : TypeId} {pos : String} {af : zh} {gd : w4}
theorem M6{P:Program}{E:Env}{M:Nat->Prop}{v:Value}{y:Operand}{t u e:TypeId}{R:zm}{xs:zl}{s:aE}(ht:P.underlying t=some (.slice e))(n:P.underlying u=some .string)(h:TI P e 1 1 (.int .u8 0))(hx:ar E true x v)(k:ar E true y (S s))
  (j:cj (RI .u8) e M w v xs R) (r:∀b∈R,M b) (c:aH (xs.length+s.length) 1=true):
  ∃f R' w',pr P E ⟨some d,.call ⟨.builtin .append,#[x,y],#[t,u]⟩,ty,pos,af,gd⟩ w f w'/\mO R w w'/\(∀b∈R',b<w'.heap.size/\(b∈R\/w.heap.size<=b))/\∀M',Mv M w M' w'->cj (RI .u8) e M' w' f (xs++aQ s) R':=by
 rcases j with ⟨rfl,p⟩|⟨rfl,rfl,⟨a0,rfl⟩,l⟩
 .obtain ⟨f,w',i,hC,q,j⟩:=yH t u ty e ht n h p r c;exact ⟨f,dW f,w',(λn' a g=>by simp [execOp,resolve,invoke,builtin,hx n' a g rfl,k n' a g rfl,i]),hC,q,λM' m=>cj.of (j M' m)⟩
 .rcases CP (M:=M) (w:=w) t u ty e ht n h (a0:=a0) (s:=s) (by simpa using c) with ⟨i,rfl⟩|⟨f,w',i,z,o,j⟩
  .exact ⟨.slice a0 0 0,[],w,(λn' a g=>by simp [execOp,resolve,invoke,builtin,hx n' a g rfl,k n' a g rfl,i]),(Ext.refl w).xt _,(λb hb=>by cases hb),λM' m=>by simpa [aQ] using cj.empty (e:=e) (l.mv m)⟩
  .exact ⟨f,dW f,w',(λn' a g=>by simp [execOp,resolve,invoke,builtin,hx n' a g rfl,k n' a g rfl,i]),z.xt _,(λb hb=>⟨(o b hb).1,.inr (o b hb).2⟩),λM' m=>cj.of (by simpa using j M' m)⟩
theorem alR{t u:TypeId}{y:Operand}(hl:st.low fr=true)(N:Sat (ab ρ T st.G++(ab ρ T fr.H++Φ)) w)(h:afx X T fr st d t u x y K=some r):
  ny X.P T none (az ρ T st.E fr.F) ⟨some d,.call ⟨.builtin .append,#[x,y],#[t,u]⟩,ty,pos,af,gd⟩ w (aU r K T fr st none (some d) ρ Φ):=by
 have B:=(aC.cJ.1 hl).2.2.1;unfold afx at h;split at h
 .rename_i e V;split at h
  .rename_i hz;have z:TI X.P e 1 1 (.int .u8 0):=cT hz;obtain ⟨hu,h⟩:=aI h;have q:=tZ hu;split at h
   .rename_i s hy;have k:=bK (ρ:=ρ) hy;simp only [AV.val] at k;split at h
    .rename_i id hx;have g:=bK (ρ:=ρ) hx;simp only [AV.val] at g;split at h
     .rename_i j J u' e' C Z hf;obtain ⟨h3,U⟩:=aI h;have:=b0 h3;subst this;split at U
      .rename_i xs L;obtain ⟨eu,ex⟩:=um L;subst eu;simp only at ex;subst ex;obtain ⟨S,R⟩:=jz U;obtain ⟨Y,f2⟩:=bZ hf;have:J=id:=b0 f2;subst this;have hi:=iR (ρ:=ρ) (T:=T) (Φ:=ab ρ T fr.H++Φ) Y;obtain ⟨hO,_⟩:=N.at_ hi;obtain ⟨D,R',w',O,hC,Q,A⟩:=M6 (P:=X.P) (E:=az ρ T st.E fr.F) (w:=w) (d:=d) (ty:=ty) (pos:=pos) (af:=af) (gd:=none) (cw V) q z g k hO (λb hb=>Ctx.lh hi hb) S;have I:Mv (Ctx.M (ab ρ T st.G++(ab ρ T fr.H++Φ))) w (Ctx.M (ab ρ T st.G++(ab ρ T fr.H++Φ))) w':=⟨hC.size,λb hb hn=>⟨hn,hC.block b hb (λhc=>hn (Ctx.lh hi hc))⟩⟩;have f:=A _ I;have n:∃p:jU,D=sl p:=by obtain ⟨a,cap,n⟩:=f.len;exact ⟨(a,_,cap),n⟩
       obtain ⟨p,rfl⟩:=n;have hj:j<st.G.length:=(List.getElem?_eq_some_iff.1 Y).1;refine .none_ (bL.gd (bL.tl O (aU.new (ρ':=ρ.set st.c { dA with v:=p,y:=⟨.l (.i .u8),arx C (aQ s)⟩ }) hl R ay.aX (j6 _) rfl (by simp only [AV.val,ay.bJ]) ?_)));show Sat (ab _ T (st.G.set j _)++_) _;rw [gG hj,ba ay.aX B];refine N.mM hi hC (λb hb=>?_) (λM' m _=>?_)
       .simp only [Row.item,ay.bJ] at hb;exact Q b (f.canon.1 b hb)
       .simp only [Row.item,ay.bJ];exact ⟨f.canon.2 _ _ (A M' m),trivial⟩
      .cases U
     .cases h
    .rename_i hx;have g:=bK (ρ:=ρ) hx;simp only [AV.val] at g;obtain ⟨S,R⟩:=jz h;obtain ⟨D,R',w',O,hC,Q,A⟩:=M6 (P:=X.P) (E:=az ρ T st.E fr.F) (w:=w) (d:=d) (ty:=ty) (pos:=pos) (af:=af) (gd:=none) (M:=Ctx.M (ab ρ T st.G++(ab ρ T fr.H++Φ))) (xs:=([]:zl)) (cw V) q z g k cj.nil (λb hb=>by cases hb) S;have W:Ext w w':=⟨hC.os,hC.tape,hC.output,hC.size,λb hb=>hC.block b hb (λh=>by cases h)⟩;have f:=A _ (W.mv _);have n:∃p:jU,D=sl p:=by obtain ⟨a,cap,n⟩:=f.len;exact ⟨(a,_,cap),n⟩
     obtain ⟨p,rfl⟩:=n;refine .none_ (bL.gd (bL.tl O ?_));exact AT (d:=d) (t:= .i .u8) (e:=e) (p:=p) hl B N W (λb hb=>by
      obtain ⟨q1,o⟩:=Q b (f.canon.1 b hb);rcases o with o|o
      .cases o
      .exact ⟨q1,o⟩) (λM' m=>f.canon.2 _ _ (A M' m)) rfl R
    .cases h
   .cases h
  .cases h
 .cases h
def Zp{R:Type}(T:aB)(fr:Fr)(st:aC)(d:Tmp)(x:Operand)(K:cL R):Option R:=match bw T st.E fr.F none x with
 |some (.sl id)=>(match eM st.G fr.H (rn id) with
  |some (_,.own _ t _ l ver)=>ase T none st d id ver t l 0 K
  |_=>none)
 |_=>none
def aha{R:Type}(X:Cx)(T:aB)(fr:Fr)(st:aC)(d:Tmp)(pt:TypeId)(x y:Operand)(K:cL R):Option R:=match X.P.underlying pt with
 |some (.pointer e)=>aD (Nat.beq (X.P.cellsOf e) 1) (match bw T st.E fr.F none x with
  |some (.adr q 0)=>(match bw T st.E fr.F none y with
   |some (.int .i64 m)=>(match eM st.G fr.H (Rm q) with
    |some (_,.kn none _ id ver _ i _)=>(match eM st.G fr.H (rn id) with
     |some (.top j,.own _ u e' xs ver')=>aD (Nat.beq ver ver'&&Nat.beq e e') (match vN.cr.asL (.i .u8) ⟨.l u,xs⟩ with
      |some xs=>aN (decide (i=0)&&decide (m=(List.length xs:Int))) (K { st with E:=cM (some d) none (.str (strOf xs)) st.E,G:=st.G.set j (.sli none id (.i .u8) xs false) })
      |none=>none) none
     |_=>none)
    |_=>none)
   |_=>none)
  |_=>none) none
 |_=>none
theorem cj.ai1{α:Type}{A:fp α}{e:TypeId}{M:Nat->Prop}{w:World}{v:Value}{xs:List α}{R:zm}(h:cj A e M w v xs R)(a:xs≠[]):Roomy v:=by
 rcases h with ⟨_,cells,c,_⟩|⟨_,rfl,_⟩
 .rcases c.2 with ⟨_,b⟩|⟨g,cap,cur,rfl,_,_,d,_⟩
  .exact absurd (et b) a
  .obtain ⟨k,rfl⟩:∃k,cap=k+1:=⟨cap-1,by have:=List.length_pos_iff.2 a;omega⟩;exact ⟨g,_,k,rfl⟩
 .exact absurd rfl a
theorem X7{v:jU}{n:Nat}(h:Roomy (sl v)):v.1=some (vq (sl v) 0 n):=by obtain ⟨b,len,cap,e⟩:=h;obtain ⟨d,c,a⟩:=v;simp only [sl,Value.slice.injEq] at e;obtain ⟨rfl,rfl,rfl⟩:=e;simp [sl,vq,Addr.add]
theorem ajJ{α:Type}{l:List α}{i:Int}{x:α}(h:idx l i=some x):l≠[]:=λe=>by subst e;unfold idx at h;split at h <;> cases h
theorem abG{y:Array TypeId}(hl:st.low fr=true)(q:Sat (ab ρ T st.G++(ab ρ T fr.H++Φ)) w)(h:Zp T fr st d x K=some r):
  Qa X.P T none (az ρ T st.E fr.F) ⟨some d,.call ⟨.builtin .unsafeSliceData,#[x],y⟩,ty,pos,af,gd⟩ w (aU r K T fr st none (some d) ρ Φ):=by
 unfold Zp at h;split at h
 .rename_i id hx;have i:=bK (ρ:=ρ) hx;simp only [AV.val] at i;split at h
  .rename_i s b t e' l f z;obtain ⟨m,B⟩:=bZ z;have:b=id:=b0 B;subst this;obtain ⟨D,o,C⟩:=DJ h;have o:=o aB.get_none;obtain ⟨A,p⟩:=Src.holds q m;have e:b<st.c/\f<st.c:=by
    have:(Row.own b t e' l f).low st.c=true:=by
     cases s with
     |top j=>exact vj (aC.cJ.1 hl).2.2.1 m
     |cB j=>exact vj (aC.cJ.1 hl).2.2.2 m
     |_=>exact m.elim
    simpa only [Row.low,au,j5] using this
   have u:=A.ai1 (ajJ o);have k:aU r K T fr st none (some d) ρ Φ (.pointer (some (vq (sl (ρ b).v) 0 t.rep.n))) w:=by refine aU.push (x:={ dA with a:=vq (sl (ρ b).v) 0 t.rep.n }) hl C (by simp only [AV.val,ay.bJ];simp [Addr.add]) (q.add rfl ?_);intro I;rw [ay.aX _ e.1,ay.aX _ e.2,ay.bJ];exact ⟨l,p,o,rfl⟩
   refine ⟨_,λw'=>?_,k⟩;rw [<-X7 u];rw [aB.get_none];exact ajT (g:=true) i (λ_=>u)
  .cases h
 .cases h
theorem ak4{P:Program}{E:Env}{v:jU}{y:Operand}{C it e:TypeId}{M:Nat->Prop}{R:zm}{xs:zl}(Z:cj (RI .u8) e M w (sl v) xs R)(hp:P.underlying C=some (.pointer e))(O:P.cellsOf e=1)
  (hx:ar E true x (.pointer v.1)) (V:ar E true y (.int .i64 (xs.length:Int))) (T:xs≠[]):
  ∃w',pr P E ⟨some d,.call ⟨.builtin .unsafeString,#[x,y],#[C,it]⟩,ty,pos,af,gd⟩ w (S (strOf xs)) w'/\mO R w w'/\∀M',Mv M w M' w'->(∀b∈R,¬M' b)->bT (RI .u8) M' w' (sl v) xs:=by
 have f:xs.length≠0:=λe=>T (et e);rcases Z with ⟨Y,cells,⟨h1,h2⟩,L⟩|⟨_,rfl,_⟩
 .rcases h2 with ⟨_,U⟩|⟨g,cap,cur,Q,hg,H,h,hm,z,p⟩
  .exact absurd U f
  .obtain ⟨v1,v2,K⟩:=v;simp only [sl,Value.slice.injEq] at Q;obtain ⟨rfl,rfl,rfl⟩:=Q;have D:(RI .u8).n=1:=rfl;have t:cur.size=K:=by simpa [D] using z
   have sK:w.shape? g=some (e,cur.size):=by unfold World.shape?;rw [H]
   have o:∀(j:Nat) (a:Int),xs[j]? =some a->w.cell? ((⟨g,0,none⟩:Addr).add j)=some (.int .u8 a):=λj a k=>by
    have G:=(List.getElem?_eq_some_iff.1 k).1;have hA:=L.2 j G;have ha:xs[j]=a:=(List.getElem?_eq_some_iff.1 k).2;have I:cells[j]? =some (.int .u8 a):=by
     have e1:(cells.drop (j*1)).take 1=[.int .u8 a]:=by rw [<-ha];exact hA
     have e2:=congrArg (λl=>l[0]?) e1;simpa using e2
    have key:bN w ⟨g,0,none⟩ cells:=⟨rfl,cur,e,(0,0),H,λj u k=>by
     rw [<-p,qk] at k;split at k
     .simpa using k
     .cases k⟩
    exact key.cell I
   have X:xs.length<=9223372036854775807:=by unfold maxLen at hm;omega
   have q:(Builtin.unsafeString_ #[C,it] ty #[.pointer (some ⟨g,0,none⟩),.int .i64 xs.length]).run P w= .ok (S (strOf xs)) (w.freeze ⟨g,0,none⟩ xs.length):=by
    have F:=JF (P:=P) (w:=w) xs ⟨g,0,none⟩ .empty o;have i:=Lib.liesAt_bytes (P:=P) O (cur.size/P.cellsOf e) xs.length (by rw [O,t];simpa using h);have B:¬(9223372036854775807:Int)<(xs.length:Int):=by omega
    have s:i64.max=9223372036854775807:=rfl;have r:¬(xs.length:Int)<0:=by omega
    refine (Sem.run_bind (P:=P) (w:=w) (asInt (.int .i64 xs.length)) _).trans ?_;simp [asInt,asIntOf,s,B,r,f,variablesAt,sK,elemOf,run_underlying hp,i,F,S]
   have W:(w.freeze ⟨g,0,none⟩ xs.length).heap[g]? =some (.cells cur e (0,xs.length)):=by unfold World.freeze;rw [dk f];simp [vc,H]
   have A:R=[g]:=by rw [Y];simp [dW,Value.ownBlock,sl]
   refine ⟨w.freeze ⟨g,0,none⟩ xs.length,λn' a N=>by simp [execOp,resolve,invoke,builtin,hx n' a N rfl,V n' a N rfl,q],?_,λM' m hb=>?_⟩
   .rw [A];unfold World.freeze;rw [dk f];refine ⟨rfl,rfl,rfl,by simp,λc _ J=>?_⟩;have:g≠c:=λe=>J (by simp [e]);simp [vc,this]
   .refine .inr ⟨g,0,K,cur,e,_,rfl,hb g (by rw [A];simp),W,h,by rw [mN];exact Nat.le_of_eq z.symm,?_⟩;rw [n9,p];exact L.mv m
 .exact absurd rfl T
theorem alL{y:Operand}{I it:TypeId}(_hl:st.low fr=true)(s:Sat (ab ρ T st.G++(ab ρ T fr.H++Φ)) w)(h:aha X T fr st d I x y K=some r):
  ny X.P T none (az ρ T st.E fr.F) ⟨some d,.call ⟨.builtin .unsafeString,#[x,y],#[I,it]⟩,ty,pos,af,gd⟩ w (aU r K T fr st none (some d) ρ Φ):=by
 unfold aha at h;split at h
 .rename_i e hp;obtain ⟨z,h⟩:=aI h;have z:=b0 z;split at h
  .rename_i q hx;have f:=bK (ρ:=ρ) hx;simp only [AV.val] at f;split at h
   .rename_i m Q;have c:=bK (ρ:=ρ) Q;simp only [AV.val] at c;split at h
    .rename_i s1 q' id O u1 i xe t;obtain ⟨f1,f2⟩:=bZ t;have:q'=q:=b0 f2;subst this;have W:=Src.holds s f1;split at h
     .rename_i j a u e' N D U;obtain ⟨M,Z⟩:=bZ U;have:a=id:=b0 Z;subst this;obtain ⟨C,B⟩:=aI h;simp only [au] at C;have e1:=b0 C.1;have e2:=b0 C.2;subst e1;subst e2;split at B
      .rename_i xs o;obtain ⟨eu,ex⟩:=um o;subst eu;subst ex;obtain ⟨L,Y⟩:=jz B;simp only [au,er] at L;obtain ⟨rfl,rfl⟩:=L;have hi:=iR (ρ:=ρ) (T:=T) (Φ:=ab ρ T fr.H++Φ) M;obtain ⟨J,l⟩:=s.at_ hi;obtain ⟨l0,b1,b2,b3⟩:=W aB.get_none;obtain ⟨e4,e5⟩:=O9 b1 l;cases e4;cases e5;have k:=ajJ b2;have R:=J.ai1 k;have p:ar (az ρ T st.E fr.F) true x (.pointer (ρ a).v.1):=by rw [X7 (n:=(Ty.i .u8).rep.n) R,<-b3];simpa [Addr.add] using f
       obtain ⟨w',g,hC,V⟩:=ak4 (P:=X.P) (d:=d) (ty:=ty) (pos:=pos) (af:=af) (gd:=gd) (it:=it) J hp z p c k;have S:j<st.G.length:=(List.getElem?_eq_some_iff.1 M).1;refine .none_ (bL.gd (bL.tl g (aU.lC Y (cK _) rfl rfl ?_)));show Sat (ab _ T (st.G.set j _)++_) _;rw [gG S];exact s.mM hi hC (λb hb=>by cases hb) (λM' m hb _=>⟨V M' m (λb A=>hb b A (λh=>by cases h)),λh=>by cases h⟩)
      .cases B
     .cases h
    .cases h
   .cases h
  .cases h
 .cases h
def ahQ{R:Type}(X:Cx)(T:aB)(fr:Fr)(st:aC)(g:GK)(d:Tmp)(t:TypeId)(x:Operand)(K:cL R):Option R:=match jK X.P t with
 |some _=>(match bw T st.E fr.F g x with
  |some (.sl id)=>(match XM st.G fr.H id with
   |some s=>aD (T.imp g s.g) (K { st with E:=cM (some d) g (.int .i64 (s.l.length:Int)) st.E }) none
   |none=>none)
  |_=>none)
 |none=>none
theorem ank{g:GK}{t:TypeId}(c:Sat (ab ρ T st.G++(ab ρ T fr.H++Φ)) w)(h:ahQ X T fr st g d t x K=some r):
  Qa X.P T g (az ρ T st.E fr.F) ⟨some d,.call ⟨.builtin .len,#[x],#[t]⟩,ty,pos,af,gd⟩ w (aU r K T fr st g (some d) ρ Φ):=by
 unfold ahQ at h;split at h
 .rename_i e i;split at h
  .rename_i id hx;have a:=aP (ρ:=ρ) hx;simp only [AV.val] at a;split at h
   next s b=>obtain ⟨k,j⟩:=aI h;exact ⟨_,λw'=>sg (cw i) a (λf=>VI c b (aB.np k f)),aU.lC j (cK _) rfl rfl c⟩
   .cases h
  .cases h
 .cases h
end
abbrev gone{R:Type}(g:GK)(k:Option R):Option R:=match g with
 |none=>k
 |some _=>none
theorem dJ{R:Type}{r:R}{g:GK}{k:Option R}(h:gone g k=some r):g=none/\k=some r:=by
 cases g with
 |none=>exact ⟨rfl,h⟩
 |some _=>cases h
def afO{R:Type}(X:Cx)(T:aB)(fr:Fr)(st:aC)(d:zf)(t:TypeId)(x y:Operand)(K:cL R):Option R:=match jK X.P t with
 |some e=>(match Dk X.tys e with
  |some u=>(match pL X.P e with
   |some z=>(match bw T st.E fr.F none x with
    |some (.sl id)=>(match bw T st.E fr.F none y with
     |some b=>aD (Nat.beq z.1 u.n') (match vN (cB b.fJ st.G) fr.H u b with
      |some ys=>(match eM (cB b.fJ st.G) fr.H (rn id) with
       |some (.top j,.own _ u' e' xs _)=>aD (Nat.beq e e') (match vN.cr.asL u ⟨.l u',xs⟩ with
        |some xs=>K { st with c:=st.c+1,E:=cM d none (.int .i64 ((Nat.min ys.length xs.length:Nat):Int)) st.E,G:=(cB b.fJ st.G).set j (.own id u e (yz xs ys) st.c) }
        |none=>none) none
       |_=>none)
      |none=>none) none
     |none=>none)
    |_=>none)
   |none=>none)
  |none=>none)
 |none=>none
def inO(n d:Nat):List (Nat×Nat)->Bool
 |[]=>false
 |x::l=>(Nat.beq x.1 n&&Nat.beq x.2 d)||inO n d l
def ahY{R:Type}(X:Cx)(T:aB)(fr:Fr)(st:aC)(d:Tmp)(t:TypeId)(x:Operand)(hi:Option Operand)(K:cL R):Option R:=match jK X.P t with
 |some e=>(match pL X.P e with
  |some z=>(match bw T st.E fr.F none x with
   |some (.sl id)=>(match P4 T st.E fr.F none hi with
    |some j=>(match eM st.G fr.H (rn id) with
     |some (.top k,.own _ u e' xs _)=>aD (Nat.beq z.1 u.n') (aN (db 0 (j.getD (xs.length:Int)) xs.length) (K { st with c:=st.c+1,E:=cM (some d) none (.sl st.c) st.E,G:=st.G.set k (.own st.c u e' (aV xs 0 (j.getD (xs.length:Int))) st.c) })) none
     |_=>none)
    |none=>none)
   |_=>none)
  |none=>none)
 |none=>none
def al5{R:Type}(X:Cx)(T:aB)(fr:Fr)(st:aC)(d:Tmp)(t:TypeId)(x:Operand)(lo hi mx:Option Operand)(K:cL R):Option R:=match lo,hi,mx with
 |none,some y,some y3=>(match X.P.underlying t with
  |some (.array n e)=>(match Dk X.tys e with
   |some u=>(match pL X.P e with
    |some z=>(match bw T st.E fr.F none x with
     |some (.ptr id 0)=>(match bw T st.E fr.F none y with
      |some (.int _ h)=>(match bw T st.E fr.F none y3 with
       |some (.int _ m)=>(match tE (Bv id) st.G with
        |some (j,.box _ _ cs)=>aD ((h==(n:Int))&&(m==(n:Int))&&Nat.beq z.1 u.n') (match rdL st.G fr.H u n cs with
         |some xs=>K { st with c:=st.c+1,E:=cM (some d) none (.sl st.c) st.E,G:=st.G.set j (.sli none st.c u xs true) }
         |none=>none) none
        |_=>none)
       |_=>none)
      |_=>none)
     |_=>none)
    |none=>none)
   |none=>none)
  |_=>none)
 |_,_,_=>none
def ahO(X:Cx)(T:aB)(fr:Fr)(st:aC)(d:Tmp)(t:TypeId)(x y:Operand){R:Type}(K:cL R):Option R:=match X.P.underlying t with
 |some (.array n e)=>(match pL X.P e with
  |some z=>(match bw T st.E fr.F none x with
   |some (.adr id off)=>(match bw T st.E fr.F none y with
    |some (.int _ i)=>ag8 i z.1 (λk=>K { st with E:=cM (some d) none (.adr id (off+k)) st.E }) n 0
    |_=>none)
   |some (.ptr id off)=>(match bw T st.E fr.F none y with
    |some (.int _ i)=>ag8 i z.1 (λk=>K { st with E:=cM (some d) none (.ptr id (off+k)) st.E }) n 0
    |_=>none)
   |_=>none)
  |none=>none)
 |_=>none
def agD(P:Program)(t:TypeId)(nm:String):Option (FuncId×Bool):=match P.info? t with
 |some i=>(match i.methods.find? (·.name==nm) with
  |some m=>(match m.path.toList with
   |[]=>m.func
   |_=>none)
  |none=>none)
 |none=>none
def arE:TypeDesc->Bool
 | .pointer _=>true
 |_=>false
def K5(X:Cx)(T:aB)(fr:Fr)(st:aC)(g:GK)(t:TypeId)(u:AV)(nm:String):Option (FuncId×AV):=match agD X.P t nm with
 |some (f,true)=>(match X.P.underlying t with
  |some (.pointer _)=>some (f,u)
  |_=>none)
 |some (f,false)=>(match X.P.underlying t with
  |some (.pointer e)=>(match B9 T st.G fr.H g u with
   |some cs=>(match od X.P e cs with
    |some v=>some (f,v)
    |none=>none)
   |none=>none)
  |some d=>aD (arE d) none (some (f,u))
  |none=>none)
 |none=>none
def Zm:List XC->FuncId->Option XC
 |[],_=>none
 |i::l,f=>match Nat.beq i.f f with
  |true=>some i
  |false=>Zm l f
def amU{R:Type}(X:Cx)(T:aB)(fr:Fr)(st:aC)(g:GK)(d:zf)(f:FuncId)(args:List AV)(K:cL R)(els:Option R):Option R:=match Zm X.inl f with
 |none=>els
 |some i=>(match T with
  |[]=>gone g (i.run args fr.H st (λav st'=>K { st' with E:=cM d none av st.E,h:=st.h }))
  |_::_=>none)
def byT{R:Type}(k:TypeId->Option R)(t:TypeId):List TypeId->Option R
 |[]=>none
 |c::cs=>cond (Nat.beq t c) (k c) (byT k t cs)
section
variable {X : Cx} {R : Type} {r : R} {K : cL R} {T : aB} {fr : Fr} {st : aC} {g : GK} {ρ : ay} {Φ : Ctx} {w : World} {ty : TypeId} {pos : String} {af : zh} {gd : w4}
theorem aag:{l:List XC}->{f:FuncId}->{i:XC}->Zm l f=some i->i∈l/\i.f=f
 |[],_,_,h=>by cases h
 |j::l,f,i,h=>by
  unfold Zm at h;split at h
  next c=>cases h;exact ⟨c8 .., b0 c⟩
  .obtain ⟨b,a⟩:=aag h;exact ⟨cp _ b,a⟩
theorem apP{d:zf}{op:Op}{f:FuncId}{args:List AV}{c:Option R}(hl:st.low fr=true)(s:Sat (ab ρ T st.G++(ab ρ T fr.H++Φ)) w)
  (e:Enters X.P f->T.get g=true->∀n a,Fits n (az ρ T st.E fr.F) a->(execOp a.eval ⟨d,op,ty,pos,af,gd⟩).run X.P w= .ok (.enter f (AV.al ρ args).toArray) w) (h:amU X T fr st g d f args K c=some r) (b:c=some r->ny X.P T g (az ρ T st.E fr.F) ⟨d,op,ty,pos,af,gd⟩ w (aU r K T fr st g d ρ Φ)):
  ny X.P T g (az ρ T st.E fr.F) ⟨d,op,ty,pos,af,gd⟩ w (aU r K T fr st g d ρ Φ):=by
 unfold amU at h;split at h
 .exact b h
 .rename_i i hi;obtain ⟨p,o⟩:=aag hi;subst o;obtain ⟨y,x⟩:=X.inlOk i p;split at h
  .obtain ⟨rfl,u⟩:=dJ h;refine .none_ (λn a t=> .inr (.inr ⟨i.f,AV.al ρ args,e y aB.get_none n a t,(x r args fr.H st _ ρ Φ w s u).mono λv w' q=>?_⟩));obtain ⟨ρ',st',av,k1,j,m,l,k⟩:=q;have e3:=ba (T:=[]) j (aC.cJ.1 hl).2.2.2;exact aU.new (ρ':=ρ') (st':={ st' with E:=cM d none av st.E,h:=st.h }) hl k1 j m rfl l (by rw [<-e3];exact k)
  .cases h
theorem abo{k:TypeId->Option R}{t:TypeId}:∀{cs:List TypeId},byT k t cs=some r->k t=some r
 |[],h=>by cases h
 |c::cs,h=>by
  unfold byT at h;rcases wK h with ⟨b,a⟩|⟨_,a⟩
  .rw [b0 b];exact a
  .exact abo a
theorem aaP{P:Program}{t:TypeId}{nm:String}{q:FuncId×Bool}(h:agD P t nm=some q):Oj P t nm q.1 q.2:=by
 unfold agD at h;split at h
 .rename_i i hi;split at h
  .rename_i m hm;split at h
   next hp=>unfold Oj;rw [hi];simp only [Option.bind_some];rw [hm];simp [hp,h]
   .cases h
  .cases h
 .cases h
theorem akS{t:TypeId}{u v:AV}{cs:List AV}{G H:List Row}(f:Sat (ab ρ T G++(ab ρ T H++Φ)) w)(a:B9 T G H g u=some cs)(h:od X.P t cs=some v)(j:T.get g=true):
  ∃p,u.val ρ= .pointer (some p)/\(loadVar t p).run X.P w= .ok (v.val ρ) w:=by
 obtain ⟨p,hp,a⟩:=Nl f a j;refine ⟨p,hp,?_⟩;have m:od X.P t (cs.drop 0)=some v:=by simpa using h
 obtain ⟨d,n,bytes,z,c1,o,c⟩:=sE (ρ:=ρ) m;cases hd:nD d
 .rw [hd] at c;simp only [eT,qn] at c;exact NM c1 hd (a.cell0 c)
 .unfold od at h;rw [c1] at h;rcases eo h with ⟨_,b⟩|⟨e,_⟩
  .split at b
   .rename_i q i;obtain ⟨n,bytes,z⟩:=q;obtain ⟨l,k⟩:=aI b;cases k;have hl:n<=cs.length:=ei l;simp only [AV.val];refine NI c1 hd (cT i) (vs:=AV.al ρ (cs.take n)) ?_ ?_
    .have:=a.sub (us:=AV.al ρ (cs.take n)) 0 (by rw [AV.mK,n9,dq,AV.bF,iQ hl])
     simpa [Addr.add] using this
    .rw [AV.bF,dq,iQ hl]
   .cases b
  .rw [hd] at e;cases e
theorem acn{t:TypeId}{u:AV}{nm:String}{q:FuncId×AV}(c:Sat (ab ρ T st.G++(ab ρ T fr.H++Φ)) w)(h:K5 X T fr st g t u nm=some q):T.get g=true->Reach X.P w t (u.val ρ) nm q.1 (q.2.val ρ):=by
 unfold K5 at h;split at h
 .rename_i f a;have hm:=aaP a;split at h
  next e ht=>cases h;exact λ_=>Reach.ptr hm ht
  .cases h
 .rename_i f a;have hm:=aaP a;split at h
  .rename_i e ht;split at h
   .rename_i cs k;split at h
    next v b=>cases h;intro i;obtain ⟨p,hp,hl⟩:=akS c k b i;rw [hp];exact Reach.load hm ht hl
    .cases h
   .cases h
  next d ht=>obtain ⟨m,l⟩:=OG h;cases l;exact λ_=>Reach.val hm ht (λe j=>by subst j;cases m)
  .cases h
 .cases h
theorem aeW{d:Tmp}{t:TypeId}{y:Operand}(s:Sat (ab ρ T st.G++(ab ρ T fr.H++Φ)) w)(h:ahO X T fr st d t x y K=some r):
  Qa X.P T none (az ρ T st.E fr.F) ⟨some d,.indexAddr t x y,ty,pos,af,gd⟩ w (aU r K T fr st none (some d) ρ Φ):=by
 unfold ahO at h;split at h
 .rename_i n e ht;split at h
  .rename_i z p;obtain ⟨m,bytes,z⟩:=z;split at h
   .rename_i id c hx;split at h
    .rename_i k i o;obtain ⟨q,_,u,j,l⟩:=ME h;have g:=bK (ρ:=ρ) hx;have f:=bK (ρ:=ρ) o;simp only [AV.val] at g f;refine ⟨.pointer (some (((ρ id).a.add c).add (i.toNat*m))),λw'=>?_,?_⟩
     .rw [aB.get_none];exact C9 (P:=X.P) (w:=w') (dst:=some d) (ty:=ty) (pos:=pos) (af:=af) (gd:=gd) ht (cT p) g f (by
       intro _;subst j;exact ou.2 ⟨by omega,by omega⟩)
     .refine aU.lC (av:= .adr id (c+q*m)) l (cK _) rfl ?_ s;simp only [AV.val];rw [add_add,j];rfl
    .cases h
   .rename_i id c hx;split at h
    .rename_i k i o;obtain ⟨q,_,u,j,l⟩:=ME h;have g:=bK (ρ:=ρ) hx;have f:=bK (ρ:=ρ) o;simp only [AV.val] at g f;refine ⟨.pointer (some ((⟨(ρ id).b,c,none⟩:Addr).add (i.toNat*m))),λw'=>?_,?_⟩
     .rw [aB.get_none];exact C9 (P:=X.P) (w:=w') (dst:=some d) (ty:=ty) (pos:=pos) (af:=af) (gd:=gd) ht (cT p) g f (by
       intro _;subst j;exact ou.2 ⟨by omega,by omega⟩)
     .refine aU.lC (av:= .ptr id (c+q*m)) l (cK _) rfl ?_ s;simp only [AV.val];rw [add_plain,j];rfl
    .cases h
   .cases h
  .cases h
 .cases h
theorem am7{d:zf}{t:TypeId}{y:Operand}(hl:st.low fr=true)(g:Sat (ab ρ T st.G++(ab ρ T fr.H++Φ)) w)(h:afO X T fr st d t x y K=some r):
  ny X.P T none (az ρ T st.E fr.F) ⟨d,.call ⟨.builtin .copy,#[x,y],#[t,t]⟩,ty,pos,af,gd⟩ w (aU r K T fr st none d ρ Φ):=by
 unfold afO at h;split at h
 .rename_i e S;split at h
  .rename_i u hu;split at h
   .rename_i z M;obtain ⟨n,bytes,z⟩:=z;split at h
    .rename_i id hx;split at h
     .rename_i b N;obtain ⟨W,i⟩:=aI h;have hn:n=u.rep.n:=(b0 W).trans u.Ee.symm;have B:=cT M;subst hn;have f:=uX (ids:=b.fJ) (aC.cJ.1 hl).2.2.1;replace g:=lQ (ids:=b.fJ) g;generalize cB b.fJ st.G=G at i f g;have o:=bK (ρ:=ρ) hx;have v:=bK (ρ:=ρ) N;simp only [AV.val] at o;split at i
      .rename_i ys q;have s:=Pn g q;split at i
       .rename_i j p u' e' k L R;obtain ⟨V,D⟩:=aI i;have:=b0 V;subst this;split at D
        .rename_i xs A;obtain ⟨Z,ex⟩:=um A;subst Z;simp only at ex;subst ex;obtain ⟨I,Y⟩:=bZ R;have:p=id:=b0 Y;subst this;have hi:=iR (ρ:=ρ) (T:=T) (Φ:=ab ρ T fr.H++Φ) I;obtain ⟨J,_⟩:=g.at_ hi;obtain ⟨w',O,hC,C,U⟩:=ant (P:=X.P) (ty:=ty) (w:=w) (t:=t) (cw S) B J s (λb hb=>Ctx.lh hi hb);have Q:j<G.length:=(List.getElem?_eq_some_iff.1 I).1;have a:=vj f I;simp only [Row.low,au,j5] at a;refine .none_ (bL.gd (bL.tl (BT o v O) (aU.new (ρ':=ρ.set st.c { dA with y:=⟨.l u',yz k ys⟩ }) (av:= .int .i64 ((Nat.min ys.length k.length:Nat):Int)) hl D ay.aX (j6 _) rfl (by simp only [AV.val]) ?_)));show Sat (ab _ T (G.set j _)++_) _;rw [gG Q,ba ay.aX f];refine g.mM hi hC (λb hb=>?_) (λM' m _=>?_)
         .simp only [Row.item,ay.aX _ a.1] at hb;exact ⟨by rw [C];exact J.lt b hb,.inl hb⟩
         .simp only [Row.item,ay.aX _ a.1,ay.bJ];exact ⟨U M' m,trivial⟩
        .cases D
       .cases i
      .cases i
     .cases h
    .cases h
   .cases h
  .cases h
 .cases h
theorem als{d:Tmp}{t:TypeId}{hi:Option Operand}(hl:st.low fr=true)(A:Sat (ab ρ T st.G++(ab ρ T fr.H++Φ)) w)(h:ahY X T fr st d t x hi K=some r):
  ny X.P T none (az ρ T st.E fr.F) ⟨some d,.slice t x none hi none,ty,pos,af,gd⟩ w (aU r K T fr st none (some d) ρ Φ):=by
 have s:=(aC.cJ.1 hl).2.2.1;unfold ahY at h;split at h
 .rename_i e M;split at h
  .rename_i z I;obtain ⟨n,bytes,z⟩:=z;split at h
   .rename_i id hx;split at h
    .rename_i j J;split at h
     .rename_i k o u e' xs D L;obtain ⟨R,Q⟩:=aI h;obtain ⟨O,N⟩:=jz Q;have hn:n=u.rep.n:=(b0 R).trans u.Ee.symm;have q:=cT I;subst hn;obtain ⟨C,S⟩:=bZ L;have:o=id:=b0 S;subst this;have a:=bK (ρ:=ρ) hx;simp only [AV.val] at a;have f:=iR (ρ:=ρ) (T:=T) (Φ:=ab ρ T fr.H++Φ) C;obtain ⟨B,_⟩:=A.at_ f;obtain ⟨p,k1,i⟩:=B.asC O;have hk:k<st.G.length:=(List.getElem?_eq_some_iff.1 C).1;have g:=Vf (ρ:=ρ) (len:=xs.length) J;rw [aB.get_none] at g;refine .none_ (bL.gd (bL.run (He (lo:=none) (hi:=hi) (cw M) q a (λ_=>B.len) rfl g (λ_=>k1)) (aU.new (ρ':=ρ.set st.c { dA with v:=p,y:=⟨.l u,aV xs 0 (j.getD (xs.length:Int))⟩ }) hl N ay.aX (j6 _) rfl (by simp only [AV.val,ay.bJ]) ?_)));show Sat (ab _ T (st.G.set k _)++_) _;rw [gG hk,ba ay.aX s];refine A.mM f ((Ext.refl w).xt _) (λb hb=>?_) (λM' m _=>?_)
      .simp only [Row.item,ay.bJ] at hb;have:=i.canon.1 b hb;exact ⟨i.lt b this,.inl this⟩
      .simp only [Row.item,ay.bJ];exact ⟨i.canon.2 _ _ (i.da (λ_ _=>rfl) m),trivial⟩
     .cases h
    .cases h
   .cases h
  .cases h
 .cases h
theorem aqG{d:Tmp}{t:TypeId}{lo hi q:Option Operand}(hl:st.low fr=true)(o:Sat (ab ρ T st.G++(ab ρ T fr.H++Φ)) w)(h:al5 X T fr st d t x lo hi q K=some r):
  ny X.P T none (az ρ T st.E fr.F) ⟨some d,.slice t x lo hi q,ty,pos,af,gd⟩ w (aU r K T fr st none (some d) ρ Φ):=by
 have L:=(aC.cJ.1 hl).2.2.1;unfold al5 at h;split at h
 .rename_i y N;split at h
  .rename_i n e ht;split at h
   .rename_i u R;split at h
    .rename_i z C;obtain ⟨O,bytes,z⟩:=z;split at h
     .rename_i id hx;split at h
      .rename_i k S D;split at h
       .rename_i Q m i;split at h
        .rename_i j c bt cs J;obtain ⟨s,p⟩:=aI h;simp only [au,n6] at s;obtain ⟨⟨rfl,rfl⟩,U⟩:=s;split at p
         next xs l=>obtain ⟨A,M⟩:=pI J;have:c=id:=b0 M;subst this;have g:=bK (ρ:=ρ) hx;have f:=bK (ρ:=ρ) D;have a:=bK (ρ:=ρ) i;simp only [AV.val] at g f a;have hi:=iR (ρ:=ρ) (T:=T) (Φ:=ab ρ T fr.H++Φ) A;have hb:gI w (ρ c).b bt (AV.al ρ cs):=o.at_ hi;obtain ⟨l1,B⟩:=UZ o n cs xs l;have I:j<st.G.length:=(List.getElem?_eq_some_iff.1 A).1;refine .none_ (bL.gd (bL.run (adi ht (cT C) g f a) (aU.mM (x:={ dA with v:=(some ⟨(ρ c).b,0,none⟩,n,n) }) hl I p (by simp only [AV.val,ay.bJ];rfl) ?_)));refine o.mM hi ((Ext.refl w).xt _) (λb hb=>by cases hb) (λM' m hn=>?_);simp only [Row.item,ay.bJ];exact λ_=>⟨bT.fresh hb (hn _ (by simp [Row.item,box]) (λhb=>by cases hb)) l1 (B.mv m),λ_=>l1.symm⟩
         .cases p
        .cases h
       .cases h
      .cases h
     .cases h
    .cases h
   .cases h
  .cases h
 .cases h
end
variable {d : zf} {tys : Array TypeId}
def ai0{R:Type}(X:Cx)(T:aB)(fr:Fr)(st:aC)(t:TypeId)(x y:Operand)(K:cL R):Option R:=match bw T st.E fr.F none x with
 |some (.ptr id off)=>(match bw T st.E fr.F none y with
  |some v=>aat X.P st t id off v K
  |none=>none)
 |some (.adr q off)=>(match bw T st.E fr.F none y with
  |some v=>aah X.P fr st t q off v K
  |none=>none)
 |_=>none
def an5{R:Type}(X:Cx)(T:aB)(fr:Fr)(st:aC)(g:GK)(d:Tmp)(t:TypeId)(x:Operand)(K:cL R):Option R:=match bw T st.E fr.F g x with
 |some (.adr q off)=>S2 X T fr st g d t q off K
 |_=>none
def asp{R:Type}(X:Cx)(T:aB)(fr:Fr)(st:aC)(g:GK)(b:Builtin)(d:zf)(xs:y2)(ts:List TypeId)(K:cL R):Option R:=match b,xs,ts,d with
 | .append,[x,y],[t,u],some d=>gone g (aD (Nat.beq t u) (alq X T fr st d t x y K) (afx X T fr st d t u x y K))
 | .unsafeSliceData,[x],_,some d=>gone g (Zp T fr st d x K)
 | .unsafeString,[x,y],[pt,_],some d=>gone g (aha X T fr st d pt x y K)
 | .copy,[x,y],[t,u],d=>gone g (aD (Nat.beq t u) (afO X T fr st d t x y K) none)
 |_,_,_,_=>none
def al1{R:Type}(X:Cx)(tb:List aA)(T:aB)(fr:Fr)(st:aC)(g:GK)(d:zf)(c:Callee)(xs:y2)(ts:List TypeId)(K:cL R):Option R:=match c with
 | .builtin b=>asp X T fr st g b d xs ts K
 | .value fo=>(match bw T st.E fr.F g fo with
  |some (.fn f a b)=>(match vG T st.E fr.F g xs with
   |some vs=>amU X T fr st g d f (a++vs++b) K (yo T fr st g d f (a++vs++b) K tb)
   |none=>none)
  |some (.raw (.func (.methodOf it nm) ⟨[]⟩ ⟨[]⟩))=>(match X.P.underlying it with
   |some dI=>aD (iY dI) (match vG T st.E fr.F g xs with
    |some (.ifc t u::vs)=>byT (λc=>match K5 X T fr st g c u nm with
     |some q=>yo T fr st g d q.1 (q.2::vs) K tb
     |none=>none) t X.ks
    |_=>none) none
   |none=>none)
  |_=>none)
 | .invoke rc nm=>(match bw T st.E fr.F g rc with
  |some (.ifc t u)=>(match vG T st.E fr.F g xs with
   |some vs=>(match u with
    | .agg []=>byT (λc=>match K5 X T fr st g c u nm with
     |some q=>yo T fr st g d q.1 (q.2::vs) K tb
     |none=>none) t X.ks
    |_=>(match K5 X T fr st g t u nm with
     |some q=>yo T fr st g d q.1 (q.2::vs) K tb
     |none=>none))
   |none=>none)
  |_=>none)
noncomputable def opN{R:Type}(X:Cx)(tb:List aA)(T:aB)(fr:Fr)(st:aC)(g:GK)(op:Op)(dst:zf)(K:cL R):Option R:=match op,dst with
 | .indexAddr t x y,some d=>(match jK X.P t with
  |some _=>agi X T fr st g d t x y K
  |none=>(match bw T st.E fr.F g x with
   |some (.gp _)=>Zf X T fr st g d t x y K
   |_=>gone g (ahO X T fr st d t x y K)))
 | .slice t x lo hi mx,some d=>(match jK X.P t with
  |some _=>(match lo,mx with
   |none,none=>aD (inO fr.n d X.oc) (gone g (ahY X T fr st d t x hi K)) (acS X T fr st g d t x none hi none K)
   |lo,mx=>acS X T fr st g d t x lo hi mx K)
  |none=>(match bw T st.E fr.F g x with
   |some (.gp _)=>gone g (alW X T fr st d t x lo hi mx K)
   |_=>gone g (al5 X T fr st d t x lo hi mx K)))
 | .alloc t,some d=>gone g (aaZ X st d t K)
 | .box t x,some d=>gone g (akU T fr st d t x K)
 | .store t x y,none=>gone g (ai0 X T fr st t x y K)
 | .load t x,some d=>an5 X T fr st g d t x K
 | .buildSlice t n ps,some d=>alw X T fr st g d t n ps.toList K
 | .makeSlice t x y,some d=>gone g (agG X T fr st d t x y K)
 | .makeMap t none,some d=>gone g (ahw X st d t K)
 | .mapUpdate t x y z,none=>gone g (ahL X T fr st t x y z K)
 | .range t x,some d=>gone g (ald X T fr st d t x K)
 | .next x true,some d=>gone g (ang T fr st d x K)
 | .convert s dt x,some d=>anZ X T fr st g d s dt x K
 | .binOp op t x y _,some d=>gone g (anP X T fr st d op t x y K)
 | .call c,d=>al1 X tb T fr st g d c.callee c.args.toList c.argTypes.toList K
 |_,_=>none
noncomputable def opD{R:Type}(X:Cx)(tb:List aA)(T:aB)(fr:Fr)(st:aC)(g:GK)(o:Oper)(K:cL R):Option R:=
 match ahD X T st.E fr.F g o.op with
 |some cv=>JX cv.1 (g.map λ_=>T.get g) (K { st with E:=cM o.dst g cv.2 st.E })
 |none=>match agm X T st.E fr.F st.G fr.H g o.op with
  |some cv=>JX cv.1 (g.map λ_=>T.get g) (K { st with E:=cM o.dst g cv.2 st.E })
  |none=>aD (st.low fr) (opN X tb T fr st g o.op o.dst K) none
section
variable {X : Cx} {tb : List aA} {R : Type} {r : R} {K : cL R} {T : aB} {fr : Fr} {st : aC} {g : GK} {ρ : ay} {Φ : Ctx} {w : World} {ty : TypeId} {pos : String} {af : zh} {gd : w4}
theorem BX{d:zf}{op:Op}{f:FuncId}{args:List AV}(hl:st.low fr=true)(j:Sat (ab ρ T st.G++(ab ρ T fr.H++Φ)) w)(a:∀it∈X.Γ,it∈Φ)
  (b:Enters X.P f->T.get g=true->∀n act,Fits n (az ρ T st.E fr.F) act->(execOp act.eval ⟨d,op,ty,pos,af,gd⟩).run X.P w= .ok (.enter f (AV.al ρ args).toArray) w):∀{tb:List aA},(∀e∈tb,e.Ok X.P X.Γ)->yo T fr st g d f args K tb=some r->
  ny X.P T g (az ρ T st.E fr.F) ⟨d,op,ty,pos,af,gd⟩ w (aU r K T fr st g d ρ Φ)
 |[],_,h=>by cases h
 |e::tb,htb,h=>by
  unfold yo at h;rcases eo h with ⟨l,i⟩|⟨_,i⟩
  .split at i
   next m k=>subst i;have:=b0 l;subst this;have c:=htb e (c8 ..);exact aic hl j c a (b c.1) k
   .exact BX hl j a b (λe c=>htb e (cp _ c)) i
  .exact BX hl j a b (λe c=>htb e (cp _ c)) i
theorem anI{f:FuncId}{fo:Operand}{xs:y2}{a b vs:List AV}(hl:st.low fr=true)(o:Sat (ab ρ T st.G++(ab ρ T fr.H++Φ)) w)(j:∀it∈X.Γ,it∈Φ)
  (m:bw T st.E fr.F g fo=some (.fn f a b)) (k:vG T st.E fr.F g xs=some vs) {tb:List aA} (l:∀e∈tb,e.Ok X.P X.Γ) (h:yo T fr st g d f (a++vs++b) K tb=some r):
  ny X.P T g (az ρ T st.E fr.F) ⟨d,.call ⟨.value fo,xs.toArray,tys⟩,ty,pos,af,gd⟩ w (aU r K T fr st g d ρ Φ):=by
 have c:=aP (ρ:=ρ) m;have i:=jX (ρ:=ρ) k;simp only [AV.val] at c;refine BX hl o j (λs p n t q=>?_) l h;rw [dw,dw];exact GY s c i q p
theorem abc{k:Operand}{nm:String}{xs:y2}{t:TypeId}{u:AV}{vs:List AV}{q:FuncId×AV}(hl:st.low fr=true)(l:Sat (ab ρ T st.G++(ab ρ T fr.H++Φ)) w)(c:∀it∈X.Γ,it∈Φ)
  (j:bw T st.E fr.F g k=some (.ifc t u)) (f:vG T st.E fr.F g xs=some vs) (m:K5 X T fr st g t u nm=some q) {tb:List aA} (i:∀e∈tb,e.Ok X.P X.Γ) (h:yo T fr st g d q.1 (q.2::vs) K tb=some r):
  ny X.P T g (az ρ T st.E fr.F) ⟨d,.call ⟨.invoke k nm,xs.toArray,tys⟩,ty,pos,af,gd⟩ w (aU r K T fr st g d ρ Φ):=by
 have a:=aP (ρ:=ρ) j;have b:=jX (ρ:=ρ) f;simp only [AV.val] at a;exact BX hl l c (λs o n v p=>amC s a (acn l m) b p o) i h
theorem ala{fo:Operand}{it:TypeId}{l:TypeDesc}{nm:String}{xs:y2}{t:TypeId}{u:AV}{vs:List AV}{q:FuncId×AV}(hl:st.low fr=true)(k:Sat (ab ρ T st.G++(ab ρ T fr.H++Φ)) w)(c:∀it∈X.Γ,it∈Φ)
  (j:bw T st.E fr.F g fo=some (.raw (.func (.methodOf it nm) #[] #[]))) (bI:X.P.underlying it=some l) (hd:iY l=true) (f:vG T st.E fr.F g xs=some (.ifc t u::vs)) (m:K5 X T fr st g t u nm=some q) {tb:List aA} (i:∀e∈tb,e.Ok X.P X.Γ) (h:yo T fr st g d q.1 (q.2::vs) K tb=some r):
  ny X.P T g (az ρ T st.E fr.F) ⟨d,.call ⟨.value fo,xs.toArray,tys⟩,ty,pos,af,gd⟩ w (aU r K T fr st g d ρ Φ):=by
 have b:=aP (ρ:=ρ) j;have a:=jX (ρ:=ρ) f;simp only [AV.val,AV.al] at b a;exact BX hl k c (λs o n v p=>adl s b bI hd (acn k m) a p o) i h
theorem aoU{c:Callee}{xs:Array Operand}{I:Array TypeId}(hl:st.low fr=true)(l:Sat (ab ρ T st.G++(ab ρ T fr.H++Φ)) w)(m:∀it∈X.Γ,it∈Φ)(o:∀e∈tb,e.Ok X.P X.Γ)
  (h:al1 X tb T fr st g d c xs.toList I.toList K=some r):ny X.P T g (az ρ T st.E fr.F) ⟨d,.call ⟨c,xs,I⟩,ty,pos,af,gd⟩ w (aU r K T fr st g d ρ Φ):=by
 obtain ⟨xs⟩:=xs;obtain ⟨I⟩:=I;unfold al1 at h;split at h
 .unfold asp at h;split at h
  .rename_i x y t u J k z;simp only at k z;subst k;subst z;obtain ⟨rfl,s⟩:=dJ h;rcases eo s with ⟨A,j⟩|⟨_,j⟩
   .have:=b0 A;subst this;exact apF hl l j
   .exact alR hl l j
  next x J k=>simp only at k;subst k;obtain ⟨rfl,s⟩:=dJ h;exact (abG hl l s).ok2
  next x y Q it J k z=>simp only at k z;subst k;subst z;obtain ⟨rfl,s⟩:=dJ h;exact alL hl l s
  next x y t u k z=>simp only at k z;subst k;subst z;obtain ⟨rfl,s⟩:=dJ h;obtain ⟨A,j⟩:=aI s;have:=b0 A;subst this;exact am7 hl l j
  .cases h
 .split at h
  .rename_i f a b p;split at h
   next vs i=>refine apP hl l (λN L n O M=>?_) h (λh=>anI hl l m p i o h);have v:=aP (ρ:=ρ) p;have B:=jX (ρ:=ρ) i;simp only [AV.val] at v;rw [dw,dw];exact GY N v B M L
   .cases h
  .rename_i it nm p;split at h
   .rename_i R bI;obtain ⟨s,A⟩:=aI h;split at A
    .rename_i t u vs i;have j:=abo A;split at j
     next q D=>exact ala hl l m p bI s i D o j
     .cases j
    .cases A
   .cases h
  .cases h
 .split at h
  .rename_i t u C;split at h
   .rename_i vs i;split at h
    .have j:=abo h;split at j
     next q D=>exact abc hl l m C i D o j
     .cases j
    .split at h
     next q D=>exact abc hl l m C i D o h
     .cases h
   .cases h
  .cases h
theorem ass{op:Op}{dst:zf}(hl:st.low fr=true)(b:Sat (ab ρ T st.G++(ab ρ T fr.H++Φ)) w)(c:∀it∈X.Γ,it∈Φ)(i:∀e∈tb,e.Ok X.P X.Γ)
  (h:opN X tb T fr st g op dst K=some r):ny X.P T g (az ρ T st.E fr.F) ⟨dst,op,ty,pos,af,gd⟩ w (aU r K T fr st g dst ρ Φ):=by
 unfold opN at h;split at h
 .split at h
  .exact (adY hl b h).ok2
  .split at h
   .exact (acz hl c b h).ok2
   .obtain ⟨rfl,a⟩:=dJ h;exact (aeW b a).ok2
 .split at h
  .split at h
   .rcases eo h with ⟨_,j⟩|⟨_,j⟩
    .obtain ⟨rfl,k⟩:=dJ j;exact als hl b k
    .exact (Wy hl b j).ok2
   .exact (Wy hl b h).ok2
  .split at h
   .obtain ⟨rfl,a⟩:=dJ h;exact aqy hl c b a
   .obtain ⟨rfl,a⟩:=dJ h;exact aqG hl b a
 .obtain ⟨rfl,a⟩:=dJ h;exact ah9 hl b a
 .obtain ⟨rfl,a⟩:=dJ h;exact aqD hl b a
 .obtain ⟨rfl,a⟩:=dJ h;unfold ai0 at a;split at a
  .rename_i id d hx;split at a
   next v f=>exact .none_ (aio b hx f a)
   .cases a
  .rename_i id d hx;split at a
   next v f=>exact .none_ (aiz hl b hx f a)
   .cases a
  .cases a
 .unfold an5 at h;split at h
  next q d hx=>exact alX hl b hx h
  .cases h
 .exact aph hl b h
 .obtain ⟨rfl,a⟩:=dJ h;exact amz hl b a
 .obtain ⟨rfl,a⟩:=dJ h;exact anC hl b a
 .obtain ⟨rfl,a⟩:=dJ h;exact am4 b a
 .obtain ⟨rfl,a⟩:=dJ h;exact aqi hl b a
 .obtain ⟨rfl,a⟩:=dJ h;exact apQ b a
 .exact apK hl b h
 .obtain ⟨rfl,a⟩:=dJ h;exact aqk b a
 .exact aoU hl b c i h
 .cases h
theorem asB{o:Oper}(m:gq T st.E fr.F)(f:Sat (ab ρ T st.G++(ab ρ T fr.H++Φ)) w)(i:∀it∈X.Γ,it∈Φ)(j:∀e∈tb,e.Ok X.P X.Γ)
  (h:opD X tb T fr st g o K=some r):ny X.P T g (az ρ T st.E fr.F) o w (aU r K T fr st g o.dst ρ Φ):=by
 obtain ⟨dst,op,ty,pos,af,gd⟩:=o;unfold opD at h;simp only at h;split at h
 next cv b=>obtain ⟨d,c⟩:=tR h;exact Qa.ok2 ⟨_,λw'=>acw m b d,aU.lC c (cK _) rfl rfl f⟩
 .split at h
  next cv b=>obtain ⟨d,c⟩:=tR h;have k:=acA (dst:=dst) (ty:=ty) (pos:=pos) (af:=af) (gd:=gd) f b d;have a:aU r K T fr st g dst ρ Φ (cv.2.val ρ) w:=aU.lC c (cK _) rfl rfl f;exact ⟨λl=>bL.run (by rwa [l] at k) a,λ_=>⟨_,a⟩⟩
  .obtain ⟨d,c⟩:=aI h;exact ass d f i j c
end
def Row.gd:Row->GK
 | .sli g _ _ _ _|.elm g _ _|.kn g _ _ _ _ _ _=>g
 |_=>none
theorem Row.FL{ρ:ay}{T T':aB}{r:Row}(h:T'.get r.gd=T.get r.gd):r.item ρ T'=r.item ρ T:=by cases r <;> simp only [Row.gd] at h <;> simp only [Row.item,h]
def Eb(k:Nat×Bool)(g:GK):Bool:= !(GK.eq (some k) g)
def Ld(k:Nat×Bool):aF->Bool
 |[]=>true
 |x::E=>Eb k x.2.1&&Ld k E
def QL(k:Nat×Bool):List Row->Bool
 |[]=>true
 |r::G=>Eb k r.gd&&QL k G
def ahM(k:Nat×Bool):aB->Bool
 |[]=>true
 |x::T=>Eb k (some x.1)&&Eb k x.2.1&&ahM k T
theorem Bk{k:Nat×Bool}{par:GK}{rj:Nat}{b:Bool}{T:aB}{g:GK}(h:Eb k g=true):aB.get ((k,par,rj,b)::T) g=T.get g:=aB.Rd h
theorem Rs{ρ:ay}{k:Nat×Bool}{par:GK}{rj:Nat}{b:Bool}{T:aB}:{E:aF}->Ld k E=true->aF.env ρ ((k,par,rj,b)::T) E=aF.env ρ T E
 |[],_=>rfl
 |(t,g,v)::E,h=>by simp only [Ld,au] at h;simp only [aF.env];rw [Bk h.1,Rs h.2]
theorem Lp{ρ:ay}{k:Nat×Bool}{par:GK}{rj:Nat}{b:Bool}{T:aB}:{G:List Row}->QL k G=true->ab ρ ((k,par,rj,b)::T) G=ab ρ T G
 |[],_=>rfl
 |r::G,h=>by simp only [QL,au] at h;simp only [ab,e9];rw [Row.FL (Bk h.1)];have:=Lp (ρ:=ρ) (par:=par) (rj:=rj) (b:=b) (T:=T) h.2;simp only [ab] at this;rw [this]
theorem Ni{k:Nat×Bool}:{E:aF}->Ld k E=true->{t:Nat}->{x:GK×AV}->bC E t=some x->Eb k x.1=true
 |[],_,_,_,h=>by cases h
 |(r,g,v)::E,h,t,x,hx=>by
  simp only [Ld,au] at h;unfold bC at hx;rcases eo hx with ⟨_,a⟩|⟨_,a⟩
  .cases a;exact h.1
  .exact Ni h.2 a
def QO(k:Nat×Bool):aB->Bool
 |[]=>false
 |x::T=>GK.eq (some k) (some x.1)||QO k T
def sa(d:zf):aB->Bool
 |[]=>true
 |x::T=>(match d with
  |none=>true
  |some d=> !(Nat.beq d x.2.2.1))&&sa d T
def sI(ops:zj)(n:Nat)(T:aB):Prop:= ∀x,x∈T->(ops[x.1.1]?).bind (·.dst)=some x.2.2.1/\Nat.blt x.2.2.1 n=true
def FT(T:aB)(fr:Fr):Prop:=(∀x,x∈fr.F->T.get x.2.1=aB.get [] x.2.1)/\∀r,r∈fr.H->T.get r.gd=aB.get [] r.gd
def stepG{R:Type}(ops:zj)(T:aB)(fr:Fr)(st:aC)(o:Oper)(run:aB->GK->Option R):Option R:=
 aD (kg o&&Nj fr.n o.dst) (match o.guard with
 |none=>aD ( sa o.dst T ) ( run T none ) none
 |some k=>aD ( QO k T ) ( aD ( sa o.dst T ) ( run T (some k) ) none )<|match ops[k.1]? with
  |some oj=>(match oj.dst with
   |some rj=>(match ez st.E fr.F rj with
    |some (par,.bool b)=>aD ( Nat.blt rj fr.n&&Ld k st.E&&Ld k fr.F&&QL k st.G&&QL k fr.H&&ahM k T&&sa o.dst ((k,par,rj,b)::T) ) ( run ((k,par,rj,b)::T) (some k) ) none
    |_=>none)
   |none=>none)
  |none=>none) none
structure ajI(ops:zj)(fr0 fr:Fr)(st:aC)(ρ:ay)(o:Oper)(T T':aB)(g:GK):Prop where
 pl:kg o=true
 ds:Nj fr.n o.dst=true
 t1:gq T' st.E fr.F
 t2:sI ops fr.n T'
 ft:FT T' fr0
 ak:sa o.dst T'=true
 ee:aF.env ρ T' st.E=aF.env ρ T st.E
 ef:aF.env ρ T' fr.F=aF.env ρ T fr.F
 eg:ab ρ T' st.G=ab ρ T st.G
 eh:ab ρ T' fr.H=ab ρ T fr.H
 gg:o.guard=g
 gk:∀k,g=some k->∃rj par b,(ops[k.1]?).bind (·.dst)=some rj/\look (az ρ T' st.E fr.F) rj=some (T'.get par,.bool b)/\Nat.blt rj fr.n=true/\(T'.get par&&(b==k.2))=T'.get g
theorem afn{k:Nat×Bool}:{T:aB}->QO k T=true->∃x,x∈T/\x.1=k
 |[],h=>by cases h
 |x::T,h=>by
  simp only [QO,eZ] at h;rcases h with h|h
  .have:=GK.eq_eq h;cases this;exact ⟨x,c8 .., rfl⟩
  .obtain ⟨y,b,a⟩:=afn h;exact ⟨y,cp _ b,a⟩
theorem aeP{k:Nat×Bool}:{T:aB}->ahM k T=true->∀x,x∈T->Eb k (some x.1)=true/\Eb k x.2.1=true
 |[],_,x,h=>by cases h
 |y::T,h,x,hx=>by
  simp only [ahM,au] at h;rcases List.mem_cons.1 hx with rfl|hx
  .exact h.1
  .exact aeP h.2 x hx
theorem ad3{k:Nat×Bool}:{E:aF}->Ld k E=true->∀x,x∈E->Eb k x.2.1=true
 |[],_,x,h=>by cases h
 |y::T,h,x,hx=>by
  simp only [Ld,au] at h;rcases List.mem_cons.1 hx with rfl|hx
  .exact h.1
  .exact ad3 h.2 x hx
theorem aeV{k:Nat×Bool}:{E:List Row}->QL k E=true->∀x,x∈E->Eb k x.gd=true
 |[],_,x,h=>by cases h
 |y::T,h,x,hx=>by
  simp only [QL,au] at h;rcases List.mem_cons.1 hx with rfl|hx
  .exact h.1
  .exact aeV h.2 x hx
theorem Z3{R:Type}{r:R}{ops:zj}{T:aB}{fr0 fr:Fr}{st:aC}{o:Oper}{run:aB->GK->Option R}{ρ:ay}(u:gq T st.E fr.F)(t:sI ops fr.n T)(w:fr0.F=fr.F)(v:∀r,r∈fr0.H->r∈fr.H)(p:FT T fr0)(h:stepG ops T fr st o run=some r):
  ∃T' g,run T' g=some r/\ajI ops fr0 fr st ρ o T T' g:=by
 unfold stepG at h;obtain ⟨f,z⟩:=aI h;simp only [au] at f;have lC:∀k x,x∈T->x.1=k->∃rj par b,(ops[k.1]?).bind (·.dst)=some rj/\look (az ρ T st.E fr.F) rj=some (T.get par,.bool b)/\Nat.blt rj fr.n=true/\(T.get par&&(b==k.2))=T.get (some k):=λk x hx hk=>by subst hk;obtain ⟨G,D⟩:=u x hx;obtain ⟨C,B⟩:=t x hx;exact ⟨x.2.2.1,x.2.1,x.2.2.2,C,by rw [iW,G];simp [AV.val],B,by rw [D,Pm]⟩
 split at z
 next m=>obtain ⟨s,d⟩:=aI z;exact ⟨T,none,d,⟨f.1,f.2,u,t,p,s,rfl,rfl,rfl,rfl,m,λk hk=>by cases hk⟩⟩
 .rename_i k m;rcases eo z with ⟨s,d⟩|⟨s,d⟩
  .obtain ⟨q,y⟩:=aI d;obtain ⟨x,hx,hk⟩:=afn s;exact ⟨T,some k,y,⟨f.1,f.2,u,t,p,q,rfl,rfl,rfl,rfl,m,λL e=>by cases e;exact lC k x hx hk⟩⟩
  .split at d
   .rename_i oj l;split at d
    .rename_i rj i;split at d
     .rename_i par b a;obtain ⟨q,y⟩:=aI d;simp only [au] at q;obtain ⟨⟨⟨⟨⟨⟨K,J⟩,A⟩,O⟩,I⟩,N⟩,M⟩:=q;have j:Eb k par=true:=by
       unfold ez at a;split at a
       next x hx=>cases a;exact Ni J hx
       .exact Ni A a
      have c:aB.get ((k,par,rj,b)::T) (some k)=(aB.get ((k,par,rj,b)::T) par&&AS k.2 b):=by rw [aB.amI,Bk j]
      have ee:=Rs (ρ:=ρ) (par:=par) (rj:=rj) (b:=b) (T:=T) J;have ef:=Rs (ρ:=ρ) (par:=par) (rj:=rj) (b:=b) (T:=T) A;refine ⟨(k,par,rj,b)::T,some k,y,⟨f.1,f.2,λx hx=>?_,λx hx=>?_,⟨λx hx=>?_,λx hx=>?_⟩,M,ee,ef,Lp O,Lp I,m,λL e=>?_⟩⟩
      .rcases List.mem_cons.1 hx with rfl|hx
       .exact ⟨a,c⟩
       .obtain ⟨G,D⟩:=u x hx;obtain ⟨C,B⟩:=aeP N x hx;exact ⟨G,by rw [Bk C,Bk B];exact D⟩
      .rcases List.mem_cons.1 hx with rfl|hx
       .exact ⟨by simp [l,i],K⟩
       .exact t x hx
      .rw [Bk (ad3 A x (w▸hx))];exact p.1 x hx
      .rw [Bk (aeV I x (v x hx))];exact p.2 x hx
      .cases e;refine ⟨rj,par,b,by simp [l,i],?_,K,by rw [c,Pm]⟩;rw [iW,a];simp [AV.val]
     .cases d
    .cases d
   .cases d
theorem XB{d:zf}:{T:aB}->sa d T=true->∀x,x∈T->∀(g:GK) (v:AV) (E F:aF),ez (cM d g v E) F x.2.2.1=ez E F x.2.2.1
 |[],_,x,h=>by cases h
 |y::T,h,x,hx=>λg v E F=>by
  simp only [sa,au] at h;rcases List.mem_cons.1 hx with rfl|hx
  .cases d with
   |none=>rfl
   |some d=>
    have a:=h.1;simp only [l9] at a;unfold ez;simp only [cM,bC,a]
  .exact XB h.2 x hx g v E F
theorem gq.out{T:aB}{E F:aF}(h:gq T E F){d:zf}(ha:sa d T=true)(g:GK)(v:AV):gq T (cM d g v E) F:=λx hx=>by rw [XB ha x hx];exact h x hx
theorem xr{ρ:ay}{T:aB}{g:GK}{v:AV}{E F:aF}:az ρ T (cM d g v E) F=uP d (T.get g) (v.val ρ) (az ρ T E F):=by cases d <;> rfl
section
variable {X : Cx} {tb : List aA} {σ : ze} {Q : bh} {D : x3} {ops : zj} {rest : zj} {R : Type} {r : R} {T : aB} {fr : Fr} {st : aC} {ρ : ay} {Φ : Ctx} {w : World}
theorem aaF{fr0:Fr}{o:Oper}{K:aB->cL R}(L:gq T st.E fr.F)(J:sI ops fr.n T)(p:fr0.F=fr.F)(m:∀r,r∈fr0.H->r∈fr.H)(C:FT T fr0)(B:Sat (ab ρ T st.G++(ab ρ T fr.H++Φ)) w)(f:∀it∈X.Γ,it∈Φ)(i:∀e∈tb,e.Ok X.P X.Γ)
  (h:stepG ops T fr st o (λT g=>opD X tb T fr st g o (K T))=some r)
  (next:∀T' st' ρ' w',gq T' st'.E fr.F->sI ops fr.n T'->FT T' fr0->aS st.c ρ ρ'->st.c<=st'.c->K T' st'=some r->ab ρ' T' fr.H=ab ρ T fr.H->Sat (ab ρ' T' st'.G++(ab ρ' T' fr.H++Φ)) w'->WL X.P σ ops.toArray Q fr.n D rest (az ρ' T' st'.E fr.F) w'):
  WL X.P σ ops.toArray Q fr.n D (o::rest) (az ρ T st.E fr.F) w:=by
 obtain ⟨T',g,hk,a⟩:=Z3 (ρ:=ρ) L J p m C h;have j:Sat (ab ρ T' st.G++(ab ρ T' fr.H++Φ)) w:=by rw [a.eg,a.eh];exact B
 have I:az ρ T st.E fr.F=az ρ T' st.E fr.F:=by rw [az,az,a.ee,a.ef]
 rw [I];have d:=asB a.t1 j f i hk;have fin:∀v w',aU r (K T') T' fr st g o.dst ρ Φ v w'->WL X.P σ ops.toArray Q fr.n D rest (uP o.dst (T'.get g) v (az ρ T' st.E fr.F)) w':=λv w' A=>by obtain ⟨ρ',st',av,k1,z,y,q,x,u,t,s⟩:=A;have:=next T' st' ρ' w' (by rw [q];exact a.t1.out a.ak g av) a.t2 a.ft z y k1 (t.trans a.eh) s;rw [q,xr,x,u] at this;exact this
 cases l:g with
 |none=>
  subst l;have:=fin;rw [aB.get_none] at this;exact aqb (d.1 aB.get_none) a.pl a.gg a.ds this
 |some k=>
  obtain ⟨rj,par,b,S,O,N,M⟩:=a.gk k l;subst l;exact alN d.1 d.2 a.pl a.gg (by simpa using S) O N M a.ds fin
end
def uU{α:Type}:Option α->Bool
 |none=>true
 |some _=>false
def rK(E0:aF):aF->aF
 |[]=>[]
 |x::E=>(match bC E0 x.1 with
  |some (none,_)=>aD (uU x.2.1) (x::rK E0 E) (rK E0 E)
  |_=>rK E0 E)
def oL:List Row->List Row
 |[]=>[]
 |r::G=>aD (uU r.gd) (r::oL G) (oL G)
def BK(T:aB)(st:aC):aC:=match T with
 |[]=>st
 |_::_=>{ st with E:=rK st.E st.E,G:=oL st.G }
theorem oR{t' t:Nat}{g:GK}{v:AV}{E:aF}(h:Nat.beq t' t=true):bC ((t',g,v)::E) t=some (g,v):=by simp only [bC,h]
theorem jx{t' t:Nat}{g:GK}{v:AV}{E:aF}(h:Nat.beq t' t=false):bC ((t',g,v)::E) t=bC E t:=by simp only [bC,h]
theorem Hy{d:aF}{t:Nat}:{E:aF}->{x:GK×AV}->bC (rK d E) t=some x->x.1=none/\(∃v,bC d t=some (none,v))/\((∃v,bC E t=some (none,v))->bC E t=some x)
 |[],x,h=>by cases h
 |(t',g',v')::E,x,h=>by
  unfold rK at h;have da:bC (rK d E) t=some x->(∀v,Nat.beq t' t=true->bC d t'≠some (none,v)\/g'≠none)->x.1=none/\(∃v,bC d t=some (none,v))/\((∃v,bC ((t',g',v')::E) t=some (none,v))->bC ((t',g',v')::E) t=some x):=λm hn=>by
   obtain ⟨a,c,l⟩:=Hy m;refine ⟨a,c,λf=>?_⟩;cases hb:Nat.beq t' t
   .rw [jx hb] at f ⊢; exact l f
   .exfalso;obtain ⟨j,i⟩:=c;obtain ⟨n,b⟩:=f;rw [oR hb] at b;simp only [ej,q7] at b;have e:=b0 hb;rcases hn j hb with g|g
    .rw [e] at g;exact g i
    .exact g b.1
  dsimp only at h;split at h
  .rename_i v f;cases a:uU g'
   .rw [a] at h;exact da h (λv _=> .inr (λe=>by rw [e] at a;cases a))
   .rw [a] at h;have c:bC ((t',g',v')::rK d E) t=some x:=h;cases hb:Nat.beq t' t
    .rw [jx hb] at c ⊢;exact Hy (E:=E) c
    .rw [oR hb] at c ⊢;cases c;have e:=b0 hb;refine ⟨?_,⟨v,by rw [<-e];exact f⟩,λ_=>rfl⟩;cases k:g' with
     |none=>rfl
     |some _=>rw [k] at a;cases a
  next hn=>exact da h (λv hb=> .inl (λe=>hn v e))
theorem PV{a:aF}{t:Nat}{c:AV}(b:bC a t=some (none,c)):{E:aF}->{v:AV}->bC E t=some (none,v)->bC (rK a E) t=some (none,v)
 |[],v,h=>by cases h
 |(t',g',v')::E,v,h=>by
  unfold rK;cases hb:Nat.beq t' t
  .rw [jx hb] at h;have ih:=PV b h;dsimp only;split
   .cases uU g'
    .exact ih
    .show bC ((t',g',v')::rK a E) t=_;rw [jx hb];exact ih
   .exact ih
  .rw [oR hb] at h;cases h;have e:=b0 hb;subst e;dsimp only;rw [b];exact oR hb
def Zl(F E0:aF):aF->Bool
 |[]=>true
 |x::E=>(match bC E0 x.1 with
  |some (none,_)=>true
  |_=>uU (bC F x.1))&&Zl F E0 E
theorem ZN{F c:aF}{t:Nat}:{E:aF}->{x:GK×AV}->Zl F c E=true->bC E t=some x->(∃v,bC c t=some (none,v))\/bC F t=none
 |[],x,_,h=>by cases h
 |(t',g',v')::E,x,hb,h=>by
  simp only [Zl,au] at hb;cases b:Nat.beq t' t
  .rw [jx b] at h;exact ZN hb.2 h
  .have e:=b0 b;subst e;have a:=hb.1;split at a
   next v d=>exact .inl ⟨v,d⟩
   .cases f:bC F t' with
    |none=>exact .inr rfl
    |some y=>rw [f] at a;cases a
def EU(T:aB)(fr:Fr)(st:aC):Bool:=match T with
 |[]=>true
 |_::_=>Zl fr.F st.E st.E
theorem anR{ρ:ay}{T:aB}{E:aF}(h:∀x,x∈E->T.get x.2.1=aB.get [] x.2.1):aF.env ρ T E=aF.env ρ [] E:=by
 induction E with
 |nil=>rfl
 |cons x E ih=>
  obtain ⟨t,g,v⟩:=x;simp only [aF.env];rw [h _ (c8 ..),ih (λx hx=>h x (cp _ hx))]
theorem Vl{ρ:ay}{T:aB}{G:List Row}(h:∀r,r∈G->T.get r.gd=aB.get [] r.gd):ab ρ T G=ab ρ [] G:=
 qQ λr a=>Row.FL (h r a)
theorem BH:{G:List Row}->∀r,r∈oL G->r.gd=none
 |[],r,h=>by cases h
 |y::G,r,h=>by
  unfold oL at h;cases a:uU y.gd
  .rw [a] at h;exact BH r h
  .rw [a] at h;rcases List.mem_cons.1 h with rfl|h
   .cases b:r.gd with
    |none=>rfl
    |some _=>rw [b] at a;cases a
   .exact BH r h
theorem Dw{ρ:ay}{T:aB}{w:World}{B:Ctx}:∀{G:List Row} {A:Ctx},Sat (A++(ab ρ T G++B)) w->Sat (A++(ab ρ T (oL G)++B)) w
 |[],_,h=>h
 |r::G,A,h=>by
  unfold oL;cases uU r.gd
  .exact Dw (G:=G) (Sat.DL h)
  .have a:Sat ((A++[r.item ρ T])++(ab ρ T G++B)) w:=by simpa [ab] using h
   have:=Dw (G:=G) a;simpa [ab] using this
theorem KM{ρ:ay}{T:aB}{fr:Fr}{st:aC}{Φ:Ctx}{w:World}(j:EU T fr st=true)(f:FT T fr)(e:Sat (ab ρ T st.G++(ab ρ T fr.H++Φ)) w):
  (BK T st).c=st.c/\lM (az ρ [] (BK T st).E fr.F) (az ρ T st.E fr.F)/\Sat (ab ρ [] (BK T st).G++(ab ρ [] fr.H++Φ)) w:=by
 cases T with
 |nil=>exact ⟨rfl,lM.refl,e⟩
 |cons x T=>
  refine ⟨rfl,λt p hp=>?_,?_⟩
  .have n:aF.env ρ (x::T) fr.F=aF.env ρ [] fr.F:=anR f.1;rw [az,HL] at hp ⊢;rw [n];cases hl:look (aF.env ρ [] (BK (x::T) st).E) t with
   |none=>
    rw [hl] at hp
    -- nothing kept: nothing told, or under a guard
    have:look (aF.env ρ (x::T) st.E) t=none:=by
     rw [A5] at hl hp ⊢;cases i:bC st.E t with
     |none=>rfl
     |some y=>
      exfalso;have hk:bC (rK st.E st.E) t=none:=by
       cases hk:bC (rK st.E st.E) t with
       |none=>rfl
       |some z=>
        have:bC (BK (x::T) st).E t=some z:=hk;rw [this] at hl;cases hl
      rcases ZN j i with ⟨v,d⟩|h
      .rw [PV d d] at hk;cases hk
      .rw [h] at hp;cases hp
    rw [this];exact hp
   |some q=>
    rw [hl] at hp;cases hp;rw [A5] at hl;cases hk:bC (BK (x::T) st).E t with
    |none=>rw [hk] at hl;cases hl
    |some y=>
     rw [hk] at hl;obtain ⟨b,m,l⟩:=Hy hk;have k:=l m;rw [A5,k];simp only [mj,ej] at hl ⊢;rw [<-hl,b,aB.get_none,aB.get_none]
  .have b:=Dw (A:=[]) e;have s:ab ρ (x::T) (oL st.G)=ab ρ [] (oL st.G):=Vl λr g=>by rw [BH r g,aB.get_none,aB.get_none]
   have o:ab ρ (x::T) fr.H=ab ρ [] fr.H:=Vl f.2;rw [p5,s,o] at b;exact b
def vn:Bool->Pt->List (Bool×Nat×Pt)->Type
 |true,_,_=>Empty
 |false,r,os=>fS (rT r++jo os)
abbrev arH{R:Type}:(nv:Bool)->(r:Pt)->(os:List (Bool×Nat×Pt))->vn nv r os->(fS (rT r++jo os)->Option R)->Option R
 |true,_,_,x,_=>Empty.elim x
 |false,_,_,x,K=>K x
def isOk:(nv:Bool)->(r:Pt)->(os:List (Bool×Nat×Pt))->vn nv r os->fS (rT r++jo os)->Prop
 |true,_,_,_,_=>False
 |false,_,_,x,q=>x=q
theorem ap9{R:Type}{a:R}:{nv:Bool}->{r:Pt}->{os:List (Bool×Nat×Pt)}->{x:vn nv r os}->{q:fS (rT r++jo os)}->{K:fS (rT r++jo os)->Option R}->isOk nv r os x q->arH nv r os x K=some a->K q=some a
 |true,_,_,_,_,_,h,_=>h.elim
 |false,_,_,_,_,_,rfl,h=>h
abbrev S6(p:Pt):Option Pt->Type
 |none=>fS (rT p)
 |some q=>fS (rT p) ⊕ fS (rT q)
abbrev abl{A B R:Type}(x:A ⊕ B)(f:A->R)(g:B->R):R:=match x with
 | .inl a=>f a
 | .inr b=>g b
def alV(pp:Pt):(pq:Option Pt)->S6 pp pq->Value->gf->lT->List Nm->Prop
 |none,p,v,I,X,N=>Sem pp v none none [] (jb _ p) I X N
 |some _,.inl p,v,I,X,N=>Sem pp v none none [] (jb _ p) I X N
 |some q,.inr p,v,I,X,N=>Sem q v none none [] (jb _ p) I X N
structure bY where
 f:FuncId
 ps:List Pt
 pp:Pt
 pq:Option Pt
 nv:Bool
 lp:Bool
 r:Pt
 os:List (Bool×Nat×Pt)
 m:fS (sG ps)->Option (Except (S6 pp pq) (vn nv r os))
def bY.oe(e:bY):aA:=⟨e.f,e.ps,e.r,e.os,λ_=>none⟩
def bY.S(e:bY)(vs:zc)(N:List Nm)(I:gf)(X:lT)(Φ:Ctx)(r:Except (S6 e.pp e.pq) (vn e.nv e.r e.os))(v:Value)(w':World):Prop:=
 ∃x q,r= .ok x/\isOk e.nv e.r e.os x q/\∃(N1 N2:List Nm) (D1 D2:List cr) (I1 I2:gf) (X1 X2:lT),Sem e.r v none none N D1 I1 X1 N1/\H2 (SD e.ps vs X) (λi=>vs[i]?) e.os N1 D2 I2 X2 N2/\D1++D2=jb _ q/\
  Sat ((dH I1++dH I2)++(iI I++Φ)) w'
def bY.Sp(e:bY)(I:gf)(Φ:Ctx)(r:Except (S6 e.pp e.pq) (vn e.nv e.r e.os))(c:xa)(w':World):Prop:=
 ∃p,r= .error p/\∃(v:Value) (N1:List Nm) (I1:gf) (X1:lT),c=kh v/\alV e.pp e.pq p v I1 X1 N1/\Sat (dH I1++(aD e.lp [] (iI I)++Φ)) w'
def bY.Ok(P:Program)(Γg:Ctx)(e:bY):Prop:=Enters P e.f/\∀s r,e.m s=some r->∀(vs:zc) (N:List Nm) (I:gf) (X:lT) (Φ:Ctx) (w:World),
 yA e.ps vs [] [] [] (jb _ s) I X N->Sat (dH I++Φ) w->(∀it∈Γg,it∈Φ)->o8 P e.f vs w (e.S vs N I X Φ r) (e.Sp I Φ r)
theorem Sat.move{A B C:Ctx}{x:Item}{w:World}(h:Sat (A++x::(B++C)) w):Sat (A++(B++x::C)) w:=by
 refine h.CZ (λj k=>(j<A.length/\k=j)\/(A.length<=j/\j<A.length+B.length/\k=j+1)\/(j=A.length+B.length/\k=A.length)\/(A.length+B.length<j/\k=j)) (λj b a=>?_) (λj k q c l i=>by omega);by_cases e:j<A.length
 .rw [ec e] at a;exact .inr ⟨j,b,.inl ⟨e,rfl⟩,by rw [ec e];exact a,bX.refl⟩
 .rw [de (by omega)] at a;by_cases g:j<A.length+B.length
  .rw [ec (by omega)] at a;refine .inr ⟨j+1,b,.inr (.inl ⟨by omega,g,rfl⟩),?_,bX.refl⟩;rw [de (by omega)];have:j+1-A.length=(j-A.length)+1:=by omega
   rw [this,hU,ec (by omega)];exact a
  .rw [de (by omega)] at a;by_cases e3:j=A.length+B.length
   .subst e3;rw [show A.length+B.length-A.length-B.length=0 by omega] at a;simp at a;subst a;exact .inr ⟨A.length,x,.inr (.inr (.inl ⟨rfl,rfl⟩)),by simp,bX.refl⟩
   .refine .inr ⟨j,b,.inr (.inr (.inr ⟨by omega,rfl⟩)),?_,bX.refl⟩;rw [de (by omega)];have e4:j-A.length-B.length=(j-A.length-B.length-1)+1:=by omega
    rw [e4,hU] at a;have f:j-A.length=(j-A.length-1)+1:=by omega
    rw [f,hU,de (by omega)];have d:j-A.length-1-B.length=j-A.length-B.length-1:=by omega
    rw [d];exact a
theorem Sat.swp{w:World}{B C:Ctx}:∀{A P:Ctx},Sat (P++(A++(B++C))) w->Sat (P++(B++(A++C))) w
 |[],_,h=>h
 |x::A,P,h=>by
  have c:Sat ((P++[x])++(A++(B++C))) w:=by simpa using h
  have b:=Sat.swp (A:=A) c;have a:Sat (P++x::(B++(A++C))) w:=by simpa using b
  exact a.move
def dB:List Row->List Row
 |[]=>[]
 |r::G=>aD r.cO (r::dB G) (dB G)
abbrev JC(b:Bool)(H:List Row):List Row:=aD b (dB H) H
theorem G8{c:Nat}:{G:List Row}->bD c G=true->bD c (dB G)=true
 |[],_=>rfl
 |r::G,h=>by
  simp only [bD,au] at h;unfold dB;cases r.cO
  .exact G8 h.2
  .show bD c (r::dB G)=true;simp only [bD,au];exact ⟨h.1,G8 h.2⟩
theorem aoQ{c:Nat}{b:Bool}{G:List Row}(h:bD c G=true):bD c (JC b G)=true:=by
 cases b
 .exact h
 .exact G8 h
theorem uK{r:Row}:{G:List Row}->r∈dB G->r∈G/\r.cO=true
 |[],h=>by cases h
 |x::G,h=>by
  unfold dB at h;cases hx:x.cO <;> rw [hx] at h
  .exact ⟨cp _ (uK h).1,(uK h).2⟩
  .rcases List.mem_cons.1 h with rfl|h
   .exact ⟨c8 .., hx⟩
   .exact ⟨cp _ (uK h).1,(uK h).2⟩
theorem N4{G H:List Row}:dB (G++H)=dB G++dB H:=by
 induction G with
 |nil=>rfl
 |cons r G ih=>
  show aD r.cO (r::dB (G++H)) (dB (G++H))=aD r.cO (r::dB G) (dB G)++dB H;rw [ih];cases r.cO <;> rfl
theorem akk{ρ:ay}{T:aB}{w:World}{Γ:Ctx}(h:Sat Γ w){H:List Row}(b:∀r∈H,r.item ρ T∈Γ):Sat (ab ρ T (dB H)++Γ) w:=by
 refine h.akJ _ (List.all_eq_true.2 λit bI=>?_) ?_
 .obtain ⟨r,a,rfl⟩:=List.mem_map.1 bI;exact Row.ajz (uK a).2
 .have:∀l:List Item,(∀it∈l,it.P Γ.M w)->agU Γ.M w l:=λl=>by
   induction l with
   |nil=>intro _;trivial
   |cons x l ih=>intro hl;exact ⟨hl x (c8 ..),ih λit bI=>hl it (cp _ bI)⟩
  refine this _ λit bI=>?_;obtain ⟨r,a,rfl⟩:=List.mem_map.1 bI;exact h.all _ (b r (uK a).1)
theorem apc{L:w5}{A B:Ctx}(h:∀i,some i∈L->i<A.length):∃a,lB L (A++B)=a++B/\a.length=A.length:=by
 induction L with
 |nil=>exact ⟨A,rfl,rfl⟩
 |cons o L ih=>
  obtain ⟨a,c,b⟩:=ih (λi hi=>h i (cp _ hi));cases o with
  |none=>exact ⟨a,c,b⟩
  |some i=>
   refine ⟨a.set i jH,?_,by rw [qM,b]⟩;show (lB L (A++B)).set i jH=_;have:=h i (c8 ..);rw [c,List.set_append_left _ _ (by omega)]
theorem Sat.NJ{w:World}{B C:Ctx}:∀{A:Ctx},Sat (B++(A++C)) w->Sat (B++C) w
 |[],h=>h
 |_x::A,h=>Sat.NJ (A:=A) (Sat.DL h)
def MC{R:Type}(st:aC)(pp:Pt)(G1:List Row)(KP:AV->aC->Option R)(p:fS (rT pp)):Option R:=
 match fill (vU [] st.c) pp none none 0 (jb _ p) with
 |⟨v,R1,k,_,_⟩=>KP v { st with c:=st.c+k,G:=R1.map (·.2)++G1 }
abbrev aiq{R:Type}(st:aC)(pp:Pt):(pq:Option Pt)->(G1:List Row)->(KP:AV->aC->Option R)->S6 pp pq->Option R
 |none,G1,KP,p=>MC st pp G1 KP p
 |some q,G1,KP,p=>abl p (MC st pp G1 KP) (MC st q G1 KP)
def Z0{R:Type}(fr:Fr)(st:aC)(d:zf)(args:List AV)(e:bY)(KP:Bool->AV->aC->Option R)(K:cL R):Option (Option R):=
 match IL (cB (fg st.G fr.H e.ps args) st.G) fr.H e.ps args [] [] [] with
  |some mr=>aD (Iw (mr.S.map λx=>dG (cB (fg st.G fr.H e.ps args) st.G) fr.H x.2)&&Qz (cB (fg st.G fr.H e.ps args) st.G).length (CB (cB (fg st.G fr.H e.ps args) st.G) fr.H mr.S)&&Yc st.c mr.B&&AV.cq st.c args&&Sa st.c mr.X&&uV (Ax e.ps args mr.X) e.os) (match cU (sG e.ps) mr.D with
   |some s=>some (gH (e.m s) (aiq st e.pp e.pq (aD e.lp (dB (cB (fg st.G fr.H e.ps args) st.G)) (mW (vl (CB (cB (fg st.G fr.H e.ps args) st.G) fr.H mr.S) 0 (cB (fg st.G fr.H e.ps args) st.G)))) (KP e.lp))
     (λx=>arH e.nv e.r e.os x (Pk fr st none d args e.oe mr (mW (vl (CB (cB (fg st.G fr.H e.ps args) st.G) fr.H mr.S) 0 (cB (fg st.G fr.H e.ps args) st.G))) K)))
   |none=>none) none
  |none=>none
def ML{R:Type}(fr:Fr)(st:aC)(d:zf)(f:FuncId)(args:List AV)(KP:Bool->AV->aC->Option R)(K:cL R):List bY->Option (Option R)
 |[]=>none
 |e::tp=>aD (Nat.beq e.f f) (match Z0 fr st d args e KP K with
   |some r=>some r
   |none=>ML fr st d f args KP K tp) (ML fr st d f args KP K tp)
def agE{R:Type}(tp:List bY)(T:aB)(fr:Fr)(st:aC)(o:Oper)(KP:Bool->AV->aC->Option R)(K:cL R):Option (Option R):=match o.guard with
 |some _=>none
 |none=>(match o.op with
  | .panic x=>(match bw T st.E fr.F none x with
   |some (.ifc t v)=>some (KP false (.ifc t v) st)
   |_=>none)
  | .call c=>(match c.callee with
   | .value fo=>(match bw T st.E fr.F none fo with
    |some (.fn f a b)=>(match vG T st.E fr.F none c.args.toList with
     |some vs=>aD (sa o.dst T&&Nj fr.n o.dst&&st.low fr) (ML fr st o.dst f (a++vs++b) KP K tp) none
     |none=>none)
    |_=>none)
   |_=>none)
  |_=>none)
section
variable {P : Program} {R : Type} {r : R} {K : cL R} {KP : Bool -> AV -> aC -> Option R} {b : Bool} {T : aB} {fr : Fr} {st : aC} {d : zf} {ρ : ay} {Φ Γg : Ctx} {w : World}
def ZB(r:R)(KP:Bool->AV->aC->Option R)(T:aB)(fr:Fr)(st:aC)(ρ:ay)(Φ:Ctx)(v:Value)(w':World):Prop:=
 ∃(b:Bool) (ρ':ay) (st':aC) (av:AV),KP b av st'=some r/\aS st.c ρ ρ'/\st.c<=st'.c/\st'.E=st.E/\av.val ρ'=v/\Sat (ab ρ' T st'.G++(ab ρ' T (JC b fr.H)++Φ)) w'/\az ρ' T st.E fr.F=az ρ T st.E fr.F
theorem KB{pp:Pt}{f:List Row}{p:fS (rT pp)}{v:Value}{w':World}{e:List Nm}{m:gf}{w:lT}
  (hl:st.low fr=true) (o:bD st.c f=true) (u:Sem pp v none none [] (jb _ p) m w e)
  (z:Sat (dH m++(ab ρ T f++(ab ρ T (JC b fr.H)++Φ))) w') (h:MC st pp f (KP b) p=some r):ZB r KP T fr st ρ Φ v w':=by
 have n:=AI _ _ _ _ _ _ _ _ _ u;have d:=Xr (ρ:=ρ) (c:=st.c) (N:=[]) (B:=[]) (N2:=e) .nil n rfl;have a:aS st.c ρ (λi=>aD (Nat.blt i st.c) (ρ i) ((e[i-st.c]?).getD dA)):=λj D=>by
  have:Nat.blt j st.c=true:=by simpa using D
  simp only [this]
 generalize y:(λi=>aD (Nat.blt i st.c) (ρ i) ((e[i-st.c]?).getD dA))=ρ' at d a;obtain ⟨l,t,s,q,g⟩:=IK (T:=T) pp v none none [] (jb _ p) m w e u (HS _) d (by simp) [];rw [ko,qf] at l t s q g;unfold MC at h;generalize fill (vU [] st.c) pp none none 0 (jb _ p)=L at l t s q g h;obtain ⟨x,E,k,G,F⟩:=L;simp only at l t s q g;dsimp only at h;have e3:=ba (T:=T) a o;have e4:=ba (T:=T) a (aoQ (b:=b) (aC.cJ.1 hl).2.2.2);refine ⟨b,ρ',_,x,h,a,qS _ _,rfl,l,?_,sd hl a⟩;show Sat (ab ρ' T (E.map (·.2)++f)++(ab ρ' T (JC b fr.H)++Φ)) w';rw [bg,e3,e4,cx];exact Sat.leL (A:=[]) (B:=dH m) (C:=ab ρ T f++(ab ρ T (JC b fr.H)++Φ)) (by simpa using z) g.rw
theorem SE{pp:Pt}:{pq:Option Pt}->{a:List Row}->{p:S6 pp pq}->{v:Value}->{w':World}->{f:List Nm}->{d:gf}->{e:lT}->
  st.low fr=true->bD st.c a=true->alV pp pq p v d e f->Sat (dH d++(ab ρ T a++(ab ρ T (JC b fr.H)++Φ))) w'->aiq st pp pq a (KP b) p=some r->ZB r KP T fr st ρ Φ v w'
 |none,_,_,_,_,_,_,_,hl,hG,h1,hs,h=>KB hl hG h1 hs h
 |some _,_,.inl _,_,_,_,_,_,hl,hG,h1,hs,h=>KB hl hG h1 hs h
 |some _,_,.inr _,_,_,_,_,_,hl,hG,h1,hs,h=>KB hl hG h1 hs h
theorem aky{e:bY}{args:List AV}(hl:st.low fr=true)(n:Sat (ab ρ T st.G++(ab ρ T fr.H++Φ)) w)(he:e.Ok P Γg)(l:∀it∈Γg,it∈Φ)(h:Z0 fr st d args e KP K=some (some r)):
  o8 P e.f (AV.al ρ args) w (aU r K T fr st none d ρ Φ) (λc w'=>∃v,c=kh v/\ZB r KP T fr st ρ Φ v w'):=by
 have D:=uX (ids:=fg st.G fr.H e.ps args) (aC.cJ.1 hl).2.2.1;replace n:=lQ (ids:=fg st.G fr.H e.ps args) n;unfold Z0 at h;generalize cB (fg st.G fr.H e.ps args) st.G=a at D n h;have hd:=akk n (H:=a++fr.H) (λr hr=>List.mem_append.2 ((List.mem_append.1 hr).imp (λh=>List.mem_map_of_mem h) (λh=>qA _ (List.mem_map_of_mem h))));replace hd:Sat (ab ρ T a++(ab ρ T fr.H++(ab ρ T (dB (a++fr.H))++Φ))) w:=by exact Sat.swp (P:=ab ρ T a) (Sat.swp (P:=[]) hd)
 have M:=l;replace l:∀it∈Γg,it∈ab ρ T (dB (a++fr.H))++Φ:=λit bI=>gy _ (M it bI);generalize J:ab ρ T (dB (a++fr.H))++Φ=g at hd l;have hdr:∀{A:Ctx} {w':World},Sat (A++g) w'->Sat (A++Φ) w':=λ{A w'} h=>by rw [<-J] at h;exact Sat.NJ h
 replace n:=hd;split at h
 .rename_i m hm;obtain ⟨h1,Y⟩:=aI h;simp only [au] at h1;obtain ⟨⟨⟨⟨⟨h3,h4⟩,h5⟩,h6⟩,h7⟩,h9⟩:=h1;split at Y
  .rename_i s O;simp only [ej] at Y;obtain ⟨N,I,s1,n1,a1⟩:=B6 n e.ps args [] [] [] m [] hm (.inl rfl) .nil;rw [<-DQ _ O] at s1;obtain ⟨p1,p2⟩:=OU n a1;have o:=Bi h3;obtain ⟨q1,_⟩:=Bm n p1 o;have F:∀(L:w5) (G:List Row) (k:Nat),bD st.c G=true->bD st.c (mW (vl L k G))=true:=λL G=>by
    induction G with
    |nil=>intro k _;rfl
    |cons r G ih=>
     intro k V;simp only [bD,au] at V;show bD st.c (mW ((aD (nE k L) .gone r)::vl L (k+1) G))=true;cases nE k L
     .cases r <;> first|exact ih (k+1) V.2|(simp only [mW,bD,au];exact ⟨V.1,ih (k+1) V.2⟩)
     .exact ih (k+1) V.2
   have t:=F (CB a fr.H m.S) a 0 D;have Q:∀it∈Γg,it∈lB (m.S.map λx=>dG a fr.H x.2) (ab ρ T a++(ab ρ T fr.H++g)):=λit bI=>by
    obtain ⟨k,hk⟩:=List.mem_iff_getElem?.1 (l it bI);have hk2:(ab ρ T a++(ab ρ T fr.H++g))[a.length+fr.H.length+k]? =some it:=by
     rw [de (by simp [ab];omega),de (by simp [ab];omega)];have:a.length+fr.H.length+k-(ab ρ T a).length-(ab ρ T fr.H).length=k:=by simp [ab];omega
     rw [this];exact hk
    refine fm (i:=a.length+fr.H.length+k) ?_;rw [DX,hk2];intro R;obtain ⟨x,_,hx⟩:=List.mem_map.1 R;have:=QH hx;omega
   have u:=λrr hr=>he.2 s rr hr (AV.al ρ args) N I (fw ρ m.X) _ w (by simpa only [AV.al] using s1) q1 Q;have j:∀{A:Ctx} {w':World},Sat (A++(iI I++lB (m.S.map λx=>dG a fr.H x.2) (ab ρ T a++(ab ρ T fr.H++g)))) w'->Sat (A++(ab ρ T (mW (vl (CB a fr.H m.S) 0 a))++(ab ρ T fr.H++Φ))) w':=λ{A w'} c4=>by have W:=IJ p2 o c4;rw [Rz a1,Fz h4] at W;have c6:=GJ W;rw [<-cx (ab ρ T (mW (vl (CB a fr.H m.S) 0 a))),<-cx A] at c6;have c7:=hdr c6;rwa [cx A,cx] at c7
   rcases ahj Y with ⟨p,hq,hk⟩|⟨q,hq,hk⟩
   .refine (u _ hq).mono (λv w' y=>?_) (λc w' y=>?_)
    .obtain ⟨x',q',z,_⟩:=y;cases z
    .obtain ⟨p',C,v,N1,I1,X1,c1,Z,E⟩:=y;cases C;refine ⟨v,c1,?_⟩;cases U:e.lp with
     |false=>rw [U] at E hk;exact SE (b:=false) hl t Z (j E) hk
     |true=>
      rw [U] at E hk;obtain ⟨A',e1,_⟩:=apc (L:=m.S.map λx=>dG a fr.H x.2) (A:=ab ρ T a++ab ρ T fr.H) (B:=g) (λi hi=>by obtain ⟨x,_,hx⟩:=List.mem_map.1 hi;have:=QH hx;simp only [ab,eF,nI];omega)
      rw [cx] at e1;rw [e1] at E;have W:Sat (dH I1++g) w':=Sat.NJ (A:=A') E;rw [<-J,N4,bg,cx] at W;exact SE (b:=true) hl (G8 D) Z W hk
   .refine (u _ hq).mono (λv w' y=>?_) (λc w' y=>?_)
    .obtain ⟨x',q',z,hi,N1,N2,D1,D2,I1,I2,X1,X2,c1,Z,E,c4⟩:=y;cases z;exact Nc (e:=e.oe) hl t n1 h5 h6 h7 h9 c1 Z E aB.get_none (j c4) (.inl rfl) (ap9 hi hk)
    .obtain ⟨p',C,_⟩:=y;cases C
  .cases Y
 .cases h
theorem M7{f:FuncId}{args:List AV}(hl:st.low fr=true)(g:Sat (ab ρ T st.G++(ab ρ T fr.H++Φ)) w)(a:∀it∈Γg,it∈Φ):∀{tp:List bY},(∀e∈tp,e.Ok P Γg)->ML fr st d f args KP K tp=some (some r)->
  Enters P f/\o8 P f (AV.al ρ args) w (aU r K T fr st none d ρ Φ) (λc w'=>∃v,c=kh v/\ZB r KP T fr st ρ Φ v w')
 |[],_,h=>by cases h
 |e::tp,htp,h=>by
  unfold ML at h;rcases eo h with ⟨k,b⟩|⟨_,b⟩
  .split at b
   next l i=>cases b;have:=b0 k;subst this;exact ⟨(htp e (c8 ..)).1,aky hl g (htp e (c8 ..)) a i⟩
   .exact M7 hl g a (λe j=>htp e (cp _ j)) b
  .exact M7 hl g a (λe j=>htp e (cp _ j)) b
variable {σ : ze} {Q : bh} {D : x3} {ops rest : zj} {tp : List bY}
theorem aok{o:Oper}(Y:gq T st.E fr.F)(R:Sat (ab ρ T st.G++(ab ρ T fr.H++Φ)) w)(I:∀it∈Γg,it∈Φ)(M:∀e∈tp,e.Ok P Γg)
  (h:agE tp T fr st o KP K=some (some r))
  (next:∀st' ρ' w',gq T st'.E fr.F->aS st.c ρ ρ'->st.c<=st'.c->K st'=some r->ab ρ' T fr.H=ab ρ T fr.H->Sat (ab ρ' T st'.G++(ab ρ' T fr.H++Φ)) w'->WL P σ ops.toArray Q fr.n D rest (az ρ' T st'.E fr.F) w')
  (g:∀b v st' ρ' w',aS st.c ρ ρ'->st.c<=st'.c->KP b v st'=some r->st'.E=st.E->az ρ' T st.E fr.F=az ρ T st.E fr.F->Sat (ab ρ' T st'.G++(ab ρ' T (JC b fr.H)++Φ)) w'->At Q (.panic (kh (v.val ρ'))) fr.n D (az ρ' T st'.E fr.F) w'):
  WL P σ ops.toArray Q fr.n D (o::rest) (az ρ T st.E fr.F) w:=by
 obtain ⟨dst,op,ty,pos,af,gd⟩:=o;unfold agE at h;split at h
 .cases h
 rename_i q;simp only at q;subst q;split at h
 .rename_i x j;simp only at j;subst j;split at h
  next t v hx=>have hk:=gj h;have m:=aP (ρ:=ρ) hx;rw [aB.get_none] at m;simp only [AV.val] at m;refine amH m ?_;have:=g false (.ifc t v) st ρ w .refl (cK _) hk rfl rfl R;simp only [AV.val] at this;exact this
  .cases h
 .rename_i c j;simp only at j;subst j;obtain ⟨y,xs,tys⟩:=c;obtain ⟨xs⟩:=xs;simp only at h;split at h
  .rename_i fo;split at h
   .rename_i f a b N;split at h
    .rename_i vs J;obtain ⟨U,X⟩:=aI h;simp only [au] at U;obtain ⟨⟨O,hd⟩,hl⟩:=U;obtain ⟨s,S⟩:=M7 hl R I M X;have d:=aP (ρ:=ρ) N;have i:=jX (ρ:=ρ) J;rw [aB.get_none] at d i;simp only [AV.val] at d;have k:AV.al ρ (a++vs++b)=AV.al ρ a++AV.al ρ vs++AV.al ρ b:=by rw [dw,dw]
     have fin:∀v w',aU r K T fr st none dst ρ Φ v w'->WL P σ ops.toArray Q fr.n D rest (uP dst true v (az ρ T st.E fr.F)) w':=λv w' L=>by obtain ⟨ρ',st',av,k1,C,B,p,A,z,u,W⟩:=L;have:=next st' ρ' w' (by rw [p];exact Y.out O none av) C B k1 u W;rw [p,xr,A,z,aB.get_none] at this;exact this
     have l:∀c w',(∃v,c=kh v/\ZB r KP T fr st ρ Φ v w')->At Q (.panic c) fr.n D (az ρ T st.E fr.F) w':=λc w' L=>by obtain ⟨v,rfl,V,ρ',st',av,k1,C,B,p,A,z,u⟩:=L;have:=g V av st' ρ' w' C B k1 p u z;rw [A,p,u] at this;exact this
     cases dst with
     |none=>exact aiW s d i k S fin l
     |some dd=>exact abL s d i k hd S fin l
    .cases h
   .cases h
  .cases h
 .cases h
end
theorem Sat.alP{A B:Ctx}{x:Item}{w:World}(h:Sat (A++x::B) w):Sat (x::(A++B)) w:=by
 refine h.CZ (λj k=>(j=0/\k=A.length)\/(0<j/\j<=A.length/\k+1=j)\/(A.length<j/\k=j)) (λj b a=>?_) (λj k q c f d=>by omega);cases j with
 |zero=>
  simp only [ql,ej] at a;subst a;exact .inr ⟨A.length,x,.inl ⟨rfl,rfl⟩,by simp,bX.refl⟩
 |succ j=>
  simp only [hU] at a;by_cases e:j<A.length
  .rw [ec e] at a;exact .inr ⟨j,b,.inr (.inl ⟨by omega,by omega,rfl⟩),by rw [ec e];exact a,bX.refl⟩
  .rw [de (by omega)] at a;refine .inr ⟨j+1,b,.inr (.inr ⟨by omega,rfl⟩),?_,bX.refl⟩;rw [de (by omega)];have:j+1-A.length=(j-A.length)+1:=by omega
   rw [this,hU];exact a
theorem Sat.as9{Γ:Ctx}{it new:Item}{w:World}(h:Sat (it::Γ) w)(a:∀b∈new.own,b∈it.own)(c:∀M',Mv (Ctx.M (it::Γ)) w M' w->new.P M' w):Sat (new::Γ) w:=by have:=h.mM (i:=0) (it:=it) (new:=new) (w':=w) rfl ⟨rfl,rfl,rfl,cK _,λ_ _ _=>rfl⟩ (λb hb=>⟨h.lt (Ctx.Fk.2 (.inl (a b hb))),.inl (a b hb)⟩) (λM' m _=>c M' m);simpa using this
def K8(X:Cx)(T:aB)(fr:Fr)(st:aC)(o:Oper):Option (TypeId×List AV×List AV):=match o.op,o.guard with
 | .alloc t,none=>(match Za X.P t with
  |some cs=>some (t,[],cs)
  |none=>none)
 | .buildSlice t len ps,none=>(match jK X.P t with
  |some e=>(match pL X.P e with
   |some z=>(match vG T st.E fr.F none (ps.toList.map (·.2)) with
    |some vs=>(match Hi (λi=>some (i*z.1,z.1)) ((ps.toList.map (·.1)).zip vs) (acT len (z.2.2.cells.toList.map nU)) with
     |some cs=>aD ( Nat.beq z.2.2.cells.size z.1&&Nat.ble (len*z.1) 16777216&&(Nat.blt 0 (len*z.1)||Nat.beq len 0&&ps.toList.isEmpty) ) (some (e,vs,cs)) none
     |none=>none)
    |none=>none)
   |none=>none)
  |none=>none)
 |_,_=>none
theorem Z2{X:Cx}{T:aB}{fr:Fr}{st:aC}{ρ:ay}{o:Oper}{e:TypeId}{vs cs:List AV}(h:K8 X T fr st o=some (e,vs,cs))(w:World):
  pr X.P (az ρ T st.E fr.F) o w (HW o w.heap.size) (w.alloc (.cells (AV.al ρ cs).toArray e)):=by
 obtain ⟨dst,op,ty,pos,af,gd⟩:=o;unfold K8 at h;simp only at h;split at h
 .rename_i t;split at h
  .rename_i p a;cases h;unfold Za at a;split at a
   next z k=>cases a;obtain ⟨n,b,z⟩:=z;have:=LA (P:=X.P) (E:=az ρ T st.E fr.F) (w:=w) (dst:=dst) (ty:=ty) (pos:=pos) (af:=af) (zs:=z.cells.toList) (cT k) (by simp);rw [sf];exact this
   .cases a
  .cases h
 .rename_i t len ps;obtain ⟨ps⟩:=ps;split at h
  .rename_i e' q;split at h
   .rename_i z k;obtain ⟨n,bytes,z⟩:=z;split at h
    .rename_i s m;split at h
     .rename_i p a;obtain ⟨r,v⟩:=aI h;cases v;simp only [au,eZ] at r;obtain ⟨⟨A,y⟩,g⟩:=r;have f:z.cells.size=n:=b0 A;have d:=jX (ρ:=ρ) m;rw [aB.get_none] at d;have c:=Fa (ρ:=ρ) a;rw [Ll,acQ,sf] at c;rcases g with g|⟨g,u⟩
      .have i:0<n:=by
        have:0<len*n:=by simpa using g
        exact Nat.pos_of_ne_zero (λe=>by simp [e] at this)
       have j:AN n len z.cells.toList ((ps.map (·.1)).zip (AV.al ρ vs))=some (AV.al ρ cs).toArray:=by unfold AN;have l:=Np z.cells.toList (by simp [f];exact i) len;simp only [fi,f] at l;simp only [fi,f];rw [<-c,<-l]
       exact yd (P:=X.P) (w:=w) (dst:=dst) (ty:=ty) (pos:=pos) (af:=af) (cw q) (cT k) (zs:=z.cells.toList) (by simp) g y d j
      .have x:len=0:=b0 g;subst x;have l:ps=[]:=by simpa using u
       subst l;have:cs=[]:=by simp only [List.map_nil,List.zip_nil_left,acT,List.replicate_zero,List.flatten_nil,Hi,ej] at a;exact a.symm
       subst this;exact wL (P:=X.P) (E:=az ρ T st.E fr.F) (w:=w) (dst:=dst) (ty:=ty) (pos:=pos) (af:=af) (cw q) (cT k)
     .cases h
    .cases h
   .cases h
  .cases h
 .cases h
def am1{R:Type}(X:Cx)(T:aB)(fr:Fr)(st:aC)(o:Oper)(K:cL R):Option R:=match K8 X T fr st o,o.dst with
 |some p,some d=>(match o.op with
  | .buildSlice _ len _=>(match Dk X.tys p.1 with
   |some u=>(match rdL (cB (AV.fJ (.agg p.2.1)++(p.2.1.map AV.fJ).flatten) st.G) fr.H u len p.2.2 with
    |some xs=>aD (st.low fr&&Nat.ble len 9223372036854775807) (K { st with c:=st.c+1,E:=cM (some d) none (.sl st.c) st.E,G:= .own st.c u p.1 xs st.c::cB (AV.fJ (.agg p.2.1)++(p.2.1.map AV.fJ).flatten) st.G }) none
    |none=>none)
   |none=>none)
  |_=>aD (st.low fr&&AV.cq st.c p.2.2) (ahJ st d p.1 p.2.2 K) none)
 |_,_=>none
section
variable {X : Cx} {R : Type} {r : R} {K : cL R} {T : aB} {fr : Fr} {st : aC} {ρ : ay} {Φ : Ctx} {w : World}
theorem aoL{o:Oper}{b:Nat}{e':TypeId}{k:zc}(g:Sat (ab ρ T st.G++(ab ρ T fr.H++(box b e' k::Φ))) w)
  (I:∀e vs cs,K8 X T fr st o=some (e,vs,cs)->e'=e/\k=AV.al ρ cs) (h:am1 X T fr st o K=some r):
  aU r K T fr st none o.dst ρ Φ (HW o b) w:=by
 obtain ⟨dst,op,ty,pos,af,gd⟩:=o;unfold am1 at h;simp only at h;split at h
 .rename_i p d hp;obtain ⟨e,vs,cs⟩:=p;obtain ⟨rfl,rfl⟩:=I _ _ _ hp;split at h
  .rename_i t len ps;split at h
   .rename_i u L;split at h
    .rename_i xs n;obtain ⟨A,z⟩:=aI h;simp only [au] at A;obtain ⟨hl,J⟩:=A;have s:=uX (ids:=AV.fJ (.agg vs)++(vs.map AV.fJ).flatten) (aC.cJ.1 hl).2.2.1;replace g:=lQ (ids:=AV.fJ (.agg vs)++(vs.map AV.fJ).flatten) g;simp only at z;generalize cB (AV.fJ (.agg vs)++(vs.map AV.fJ).flatten) st.G=G at z s g n;obtain ⟨k1,F⟩:=UZ (ρ:=ρ) (T:=T) g _ _ _ n;have f:Sat ((ab ρ T G++ab ρ T fr.H)++box b e' (AV.al ρ cs)::Φ) w:=by rw [cx];exact g
     have a:=f.alP;have mv:Mv (Ctx.M (ab ρ T G++(ab ρ T fr.H++(box b e' (AV.al ρ cs)::Φ)))) w (Ctx.M (box b e' (AV.al ρ cs)::((ab ρ T G++ab ρ T fr.H)++Φ))) w:=Mv.weaken w λc B=>by
      obtain ⟨it,hi,hb⟩:=B;refine ⟨it,?_,hb⟩;simp only [qe,List.mem_append] at hi ⊢;rcases hi with h|(h|h)|h
      .exact .inr (.inr (.inl h))
      .exact .inl h
      .exact .inr (.inl h)
      .exact .inr (.inr (.inr h))
     refine aU.new (ρ':=ρ.set st.c { dA with v:=(some ⟨b,0,none⟩,len,len),y:=⟨.l u,xs⟩ }) (av:= .sl st.c) hl z ay.aX (j6 _) rfl (by simp only [AV.val,ay.bJ];rfl) ?_;show Sat (ab _ T (_::G)++_) w;have e:=ba (T:=T) (ay.aX (ρ:=ρ) (j:=st.c) (x:={ dA with v:=(some ⟨b,0,none⟩,len,len),y:=⟨.l u,xs⟩ })) s;rw [ab,e9];rw [ab] at e;rw [e];have hb:gI w b e' (AV.al ρ cs):=a.at_ (i:=0) rfl;have q:Sat ((Row.own st.c u e' xs st.c).item (ρ.set st.c { dA with v:=(some ⟨b,0,none⟩,len,len),y:=⟨.l u,xs⟩ }) T::((ab ρ T G++ab ρ T fr.H)++Φ)) w:=by
      refine a.as9 (λc B=>?_) (λM' m=>?_)
      .simp only [Row.item,ay.bJ] at B;exact Jy B
      .simp only [Row.item,ay.bJ];exact ⟨(cj.of (kD.fresh hb k1 J (F.mv (mv.trans m)))).M9,trivial⟩
     rw [cx] at q;exact q
    .cases h
   .cases h
  .rename_i C;obtain ⟨A,z⟩:=aI h;simp only [au] at A;obtain ⟨hl,E⟩:=A;have f:Sat ((ab ρ T st.G++ab ρ T fr.H)++box b e' (AV.al ρ cs)::Φ) w:=by rw [cx];exact g
   have a:=f.alP;rw [cx] at a;have ev:HW ⟨some d,op,ty,pos,af,gd⟩ b= .pointer (some ⟨b,0,none⟩):=by
    unfold HW;split
    next D=>exact (C _ _ _ D).elim
    .rfl
   rw [ev];refine aU.new (ρ':=ρ.set st.c { dA with b:=b }) (av:= .ptr st.c 0) hl z ay.aX (j6 _) rfl (by simp only [AV.val,ay.bJ]) ?_;show Sat (ab _ T (_::st.G)++_) w;have e:=ba (T:=T) (ay.aX (ρ:=ρ) (j:=st.c) (x:={ dA with b:=b })) (aC.cJ.1 hl).2.2.1;rw [ab,e9];rw [ab] at e;rw [e];simp only [Row.item,ay.bJ];rw [AV.cd ay.aX _ E];exact a
 .cases h
end
end Go.Proofs.YtcgihjbfppkcfaaGreatDoor
