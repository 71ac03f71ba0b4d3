/- Own texts for CheckFormula, cut and joined by a program. -/
import Derived.Test.YthhmkmmmbcjghaaGreatDoorCheckFormulaB
set_option linter.all false
namespace Go.Proofs.YthhmkmmmbcjghaaGreatDoor
open IntKind (i64)
noncomputable section
open Go.Lib
section
variable {X : Cx} {R : Type} {r : R} {K : cT R} {T : aE} {fr : Fr} {st : aG} {g : GK} {d : Tmp} {ρ : aB} {Φ : Ctx} {w : World} {ty : TypeId} {pos : String} {af : zd} {gd : xa}
def ac6:Operand->Operand->Bool
 | .tmp a,.tmp b=>Nat.beq a b
 | .const (.int .i64 a),.const (.int .i64 b)=>decide (a=b)
 |_,_=>false
theorem afg{x y:Operand}(h:ac6 x y=true):x=y:=by
 unfold ac6 at h;split at h
 .rw [aS h]
 .rw [qG h]
 .cases h
def alo(_T:aE)(g:GK)(st:aG)(d:Tmp)(G:List Row)(t:Ty)(l:List t.T)(i j:Int)(clip:Bool)(K:cT R):Option R:=
 K { st with c:=st.c+1,E:=cN (some d) g (.sl st.c) st.E,G:= .sli g st.c t (bN l i j) clip::G }
def agH(X:Cx)(T:aE)(fr:Fr)(st:aG)(g:GK)(d:Tmp)(t:TypeId)(x:Operand)(lo hi mx:Option Operand)(K:cT R):Option R:=match fR X.P t with
 |some e=>(match lJ X.P e with
  |some z=>(match bE T st.E fr.F g x with
   |some (.sl id)=>(match loA T st.E fr.F g lo with
    |some i=>(match hiA T st.E fr.F g hi with
     |some j=>(match eI (cJ [id] st.G) fr.H (nI id) with
      |some (_,.sli g' _ u l _)=>aC ( T.imp g g'&&Nat.beq z.1 u.n' ) ( match mx with
       |none=>L7 (some (dV i (j.getD (l.length:Int)) l.length)) (g.map λ_=>T.get g) (alo T g st d (cJ [id] st.G) u l i (j.getD (l.length:Int)) false K)
       |some y=>(match hi with
        |some h=>(match bE T st.E fr.F g y with
         |some (.int _ m)=>aC (ac6 h y) ( L7 (some (lG i m m l.length)) (g.map λ_=>T.get g) (alo T g st d (cJ [id] st.G) u l i m true K) )
          ( L7 (some (lG i m m l.length&&(j.getD (l.length:Int)==m))) (g.map λ_=>T.get g) (alo T g st d (cJ [id] st.G) u l i m true K) )
         |_=>none)
        |none=>none) ) none
      |_=>none)
     |none=>none)
    |none=>none)
   |_=>none)
  |none=>none)
 |none=>none
theorem UO{G:List Row}{t:Ty}{l:List t.T}{i j:Int}{a:Bool}{p:gV}(hl:st.low fr=true)(b:bJ st.c G=true)(f:Sat (ab ρ T G++(ab ρ T fr.H++Φ)) w)
  (hp:T.get g=true->ca t.rep (Ctx.M (ab ρ T G++(ab ρ T fr.H++Φ))) w (sl p) (bN l i j)/\(a=true->p.2.2=(bN l i j).length)) (h:alo T g st d G t l i j a K=some r):
  bc r K T fr st g (some d) ρ Φ (sl p) w:=by
 refine bc.new (ρ':=ρ.set st.c { dB with v:=p }) hl h aB.bg (jm _) rfl (by simp only [AV.val,aB.bM]) ?_;show Sat (ab _ T (_::G)++_) w;have e:=bm (T:=T) (aB.bg (ρ:=ρ) (j:=st.c) (x:={ dB with v:=p })) b;rw [ab,et];rw [ab] at e;rw [e];refine f.add rfl ?_;simp only [Row.item,aB.bM];exact hp
theorem Z1{t:TypeId}{x:Operand}{lo hi mx:Option Operand}(hl:st.low fr=true)(I:Sat (ab ρ T st.G++(ab ρ T fr.H++Φ)) w)(h:agH X T fr st g d t x lo hi mx K=some r):
  Ub X.P T g (az ρ T st.E fr.F) ⟨some d,.slice t x lo hi mx,ty,pos,af,gd⟩ w (bc r K T fr st g (some d) ρ Φ):=by
 unfold agH at h;split at h
 .rename_i e Z;split at h
  .rename_i z hz;obtain ⟨n,bytes,z⟩:=z;split at h
   .rename_i id hx;split at h
    .rename_i i hi;split at h
     .rename_i j hj;replace I:=ka (ids:=[id]) I;have C:=s9 (ids:=[id]) (aG.cS.1 hl).2.2.1;have A:=aW (ρ:=ρ) hx;simp only [AV.val] at A;split at h
      .rename_i s g' o u l b Y;obtain ⟨h1,D⟩:=aK h;simp only [ar] at h1;have hn:n=u.rep.n:=(aS h1.2).trans u.EJ.symm;obtain ⟨f1,f2⟩:=cp Y;have:o=id:=aS f2;subst this;have hT:=Src.holds I f1;have J:T.get g=true->ca u.rep _ w (sl (ρ o).v) l:=λc=>(hT (aE.kZ h1.1 c)).1;have B:=cU hz;rw [hn] at B;split at D
       .obtain ⟨R,O⟩:=sx D;obtain ⟨p,N,L⟩:=ca.avD J (λc=>R _ rfl c);have f:=UO (p:=p) hl C I (λc=>⟨L c,λhb=>by cases hb⟩) O;exact ⟨_,λw'=>GO (cm Z) B A (λc=>(J c).len) (NZ hi) (W6 hj) N,f⟩
       .rename_i y;split at D
        .rename_i S;split at D
         .rename_i k m hy;have q:=aW (ρ:=ρ) hy;simp only [AV.val] at q;rcases eb D with ⟨h5,h6⟩|⟨_,h6⟩
          .have:=afg h5;subst this;obtain ⟨R,O⟩:=sx h6;have key:∃p:gV,(T.get g=true->Qj (sl (ρ o).v) i m m u.rep.n (sl p))/\(T.get g=true->ca u.rep (Ctx.M (ab ρ T (cJ [o] st.G)++(ab ρ T fr.H++Φ))) w (sl p) (bN l i m)/\(true=true->p.2.2=(bN l i m).length)):=by
            cases c:T.get g
            .exact ⟨(none,0,0),(λh=>by cases h),(λh=>by cases h)⟩
            .obtain ⟨p,V,U⟩:=ca.aqD (J c) (R _ rfl c);exact ⟨_,λ_=>V,λ_=>⟨U,λ_=>rfl⟩⟩
           obtain ⟨p,N,L⟩:=key;have f:=UO (p:=p) hl C I L O;exact ⟨_,λw'=>Xx (lo:=lo) (hi:=some S) (cm Z) B A (λc=>(J c).len) (NZ hi) ⟨k,q⟩ q N,f⟩
          .obtain ⟨R,O⟩:=sx h6;have Q:T.get g=true->lG i m m l.length=true/\j.getD (l.length:Int)=m:=λc=>by have:=R _ rfl c;simp only [ar,eT] at this;exact this
           have key:∃p:gV,(T.get g=true->Qj (sl (ρ o).v) i m m u.rep.n (sl p))/\(T.get g=true->ca u.rep (Ctx.M (ab ρ T (cJ [o] st.G)++(ab ρ T fr.H++Φ))) w (sl p) (bN l i m)/\(true=true->p.2.2=(bN l i m).length)):=by
            cases c:T.get g
            .exact ⟨(none,0,0),(λh=>by cases h),(λh=>by cases h)⟩
            .obtain ⟨p,V,U⟩:=ca.aqD (J c) (Q c).1;exact ⟨_,λ_=>V,λ_=>⟨U,λ_=>rfl⟩⟩
           obtain ⟨p,N,L⟩:=key;have f:=UO (p:=p) hl C I L O;have W:∃k,au (az ρ T st.E fr.F) (T.get g) S (.int k m):=by obtain ⟨k,hk⟩:∃k,au (az ρ T st.E fr.F) (T.get g) S (.int k (j.getD (l.length:Int))):=W6 (ρ:=ρ) (len:=l.length) hj;exact ⟨k,λn a Y c=>by rw [hk n a Y c,(Q c).2]⟩
           exact ⟨_,λw'=>Xx (lo:=lo) (hi:=some S) (cm Z) B A (λc=>(J c).len) (NZ hi) W q N,f⟩
         .cases D
        .cases D
      .cases h
     .cases h
    .cases h
   .cases h
  .cases h
 .cases h
def aaB(len:Nat)(z:List AV):List AV:=(List.replicate len z).flatten
theorem Va{len:Nat}{z:List AV}:AV.ao ρ (aaB len z)=(List.replicate len (AV.ao ρ z)).flatten:=by
 unfold aaB
 induction len with
 |zero=>simp [AV.ao]
 |succ n ih=>simp only [qU,List.flatten_cons,dJ,ih]
def unR(T:aE)(g:GK):List Row->List Row
 |[]=>[]
 |r::G=>(match r with
  | .sli g' id t l c=>aC (T.imp g g') (.sli none id t l c) (.sli g' id t l c)
  |r=>r)::unR T g G
def unG(T:aE)(g:GK)(G:List Row):List Row:=match g with
 |none=>G
 |some _=>unR T g G
theorem abg{ρ:aB}{T:aE}{g:GK}(a:T.get g=true):{G:List Row}->ab ρ T (unR T g G)=ab ρ T G
 |[]=>rfl
 |r::G=>by
  have ih:=abg (ρ:=ρ) a (G:=G);unfold unR;simp only [ab,et] at ih ⊢;rw [ih];congr 1;cases r with
  |sli g' id t l c=>
   show Row.item ρ T (aC (T.imp g g') (.sli none id t l c) (.sli g' id t l c))=_;cases h:T.imp g g' with
   |false=>rfl
   |true=>
    show Row.item ρ T (.sli none id t l c)=_;simp only [Row.item,aE.get_none,aE.kZ h a]
  |_=>rfl
theorem Gq{ρ:aB}{T:aE}{g:GK}(a:T.get g=true){G:List Row}:ab ρ T (unG T g G)=ab ρ T G:=by
 cases g with
 |none=>rfl
 |some k=>exact abg a
def aoC(X:Cx)(T:aE)(fr:Fr)(st:aG)(g:GK)(d:Tmp)(t:TypeId)(len:Nat)(ps:List (Nat×Operand))(K:cT R):Option R:=match fR X.P t with
 |some e=>(match CQ X.tys e with
  |some u=>(match lJ X.P e with
   |some z=>(match rW T st.E fr.F g (ps.map (·.2)) with
    |some vs=>(match Cy (λi=>some (i*z.1,z.1)) ((ps.map (·.1)).zip vs) (aaB len (z.2.2.cells.toList.map kr)) with
     |some cs=>(match rdL (unG T g (cJ (AV.fq (.agg vs)++(vs.map AV.fq).flatten) st.G)) (unG T g fr.H) u len cs with
      |some xs=>aC ( Nat.beq z.1 u.n'&&Nat.beq z.2.2.cells.size z.1&&Nat.ble (len*z.1) 16777216 ) ( match g with
       |none=>aC ( Nat.blt 0 (len*z.1)||Nat.beq len 0&&ps.isEmpty ) ( K { st with c:=st.c+1,E:=cN (some d) none (.sl st.c) st.E,G:= .own st.c u e xs st.c::cJ (AV.fq (.agg vs)++(vs.map AV.fq).flatten) st.G } ) none
       |some _=>aC ( Nat.blt 0 (len*z.1)||Nat.beq len 0&&ps.isEmpty ) ( K { st with c:=st.c+1,E:=cN (some d) g (.sl st.c) st.E,G:= .sli g st.c u xs false::cJ (AV.fq (.agg vs)++(vs.map AV.fq).flatten) st.G } ) none ) none
      |none=>none)
     |none=>none)
    |none=>none)
   |none=>none)
  |none=>none)
 |none=>none
theorem yR{t:Ty}{e:TypeId}{p:gV}{l:List t.T}{G:List Row}{w':World}{st':aG}(hl:st.low fr=true)(f:bJ st.c G=true)(g:Sat (ab ρ T G++(ab ρ T fr.H++Φ)) w)(k:Ext w w')
  (h:∀b∈vH p,b<w'.heap.size/\w.heap.size<=b) (i:∀M',Mv (Ctx.M (ab ρ T G++(ab ρ T fr.H++Φ))) w M' w'->bU t.rep e M' w' (sl p) l (vH p))
  (a:st'={ st with c:=st.c+1,E:=cN (some d) none (.sl st.c) st.E,G:= .own st.c t e l st.c::G }) (hK:K st'=some r):bc r K T fr st none (some d) ρ Φ (sl p) w':=by
 subst a;refine bc.new (ρ':=ρ.set st.c { dB with v:=p,y:=⟨.l t,l⟩ }) hl hK aB.bg (jm _) rfl (by simp only [AV.val,aB.bM]) ?_;show Sat (ab _ T (_::G)++_) w';have e:=bm (T:=T) (aB.bg (ρ:=ρ) (j:=st.c) (x:={ dB with v:=p,y:=⟨.l t,l⟩ })) f;rw [ab,et];rw [ab] at e;rw [e];refine g.push k (λb hb=>?_) (λM' m=>?_)
 .simp only [Row.item,aB.bM] at hb;exact h b hb
 .simp only [Row.item,aB.bM];exact ⟨i M' m,trivial⟩
theorem Gm{b n c:Nat}:eA (sl (some ⟨b,0,none⟩,n,c))=[b]:=rfl
theorem Df{p:gV}{b:Nat}(h:b∈vH p):b∈eA (sl p):=by
 unfold vH at h;split at h
 .cases h
 .exact h
theorem arP{t:TypeId}{len:Nat}{ps:Array (Nat×Operand)}(hl:st.low fr=true)(y:Sat (ab ρ T st.G++(ab ρ T fr.H++Φ)) w)(h:aoC X T fr st g d t len ps.toList K=some r):
  jU X.P T g (az ρ T st.E fr.F) ⟨some d,.buildSlice t len ps,ty,pos,af,gd⟩ w (bc r K T fr st g (some d) ρ Φ):=by
 obtain ⟨ps⟩:=ps;simp only at h;unfold aoC at h;split at h
 .rename_i e O;split at h
  .rename_i u hu;split at h
   .rename_i z hz;obtain ⟨n,bytes,z⟩:=z;split at h
    .rename_i vs S;split at h
     .rename_i cs U;have q:=s9 (ids:=AV.fq (.agg vs)++(vs.map AV.fq).flatten) (aG.cS.1 hl).2.2.1;replace y:=ka (ids:=AV.fq (.agg vs)++(vs.map AV.fq).flatten) y;generalize cJ (AV.fq (.agg vs)++(vs.map AV.fq).flatten) st.G=G at h q y;split at h
      .rename_i xs R;obtain ⟨Q,h2⟩:=aK h;simp only [ar] at Q;obtain ⟨⟨a1,a2⟩,Y⟩:=Q;have hn:n=u.rep.n:=(aS a1).trans u.EJ.symm;have C:z.cells.size=n:=aS a2;have hk:T.get g=true->xs.length=len/\dh u.rep (Ctx.M (ab ρ T G++(ab ρ T fr.H++Φ))) w (AV.ao ρ cs) xs:=λA=>by have:=YM (ρ:=ρ) (T:=T) (Φ:=Φ) (w:=w) (by rw [Gq A,Gq A];exact y) _ _ _ R;rwa [Gq A,Gq A] at this
       have s:=cU hz;have o:=yX (ρ:=ρ) U;rw [Eu,Va,mH] at o;have B:0<n->sn n len z.cells.toList ((ps.map (·.1)).zip (AV.ao ρ vs))=some (AV.ao ρ cs).toArray:=λa=>by unfold sn;have I:=GI z.cells.toList (by simp [C];exact a) len;simp only [de,C] at I;simp only [de,C];rw [<-o,<-I]
       have i:=gW (ρ:=ρ) S;subst hn;cases g with
       |none=>
        obtain ⟨L,J⟩:=hk aE.get_none;obtain ⟨l,N⟩:=aK h2;simp only [dk,ar] at l;have i:iM (az ρ T st.E fr.F) true (ps.map (·.2)) (AV.ao ρ vs):=by simpa using i
        rcases l with l|⟨l,V⟩
        .have a:0<u.rep.n:=by
          have:0<len*u.rep.n:=by simpa using l
          exact s7 (λe=>by simp [e] at this)
         have f:=p7 (P:=X.P) (w:=w) (dst:=some d) (ty:=ty) (pos:=pos) (af:=af) (cm O) s (zs:=z.cells.toList) (by simp) l Y i (B a);have Z:len*1<=len*u.rep.n:=Nat.mul_le_mul_left _ a;have h9:=c5 Y;have h8:Nat.ble len 9223372036854775807=true:=qw (by omega);refine .none_ (bL.gd (bL.oZ f ?_));have:=yR (d:=d) (t:=u) (e:=e) (p:=(some ⟨w.heap.size,0,none⟩,len,len)) hl q y (fp w (.cells (AV.ao ρ cs).toArray e)) (λb hb=>by have:=Df hb;rw [Gm] at this;simp only [nt] at this;subst this;simp) (λM' m=>(bU.of (iI.fresh (heap_alloc_new w _) L h8 (J.mv m))).Eg) rfl N
         exact this
        .have W:len=0:=aS l;subst W;have I:ps=[]:=by simpa using V
         subst I;have D:xs=[]:=c8 L;subst D;have f:=uW (P:=X.P) (E:=az ρ T st.E fr.F) (w:=w) (dst:=some d) (ty:=ty) (pos:=pos) (af:=af) (cm O) s;refine .none_ (bL.gd (bL.oZ f ?_));have:=yR (d:=d) (t:=u) (e:=e) (p:=(some ⟨w.heap.size,0,none⟩,0,0)) hl q y (fp w (.cells ([]:yp).toArray e)) (λb hb=>by have:=Df hb;rw [Gm] at this;simp only [nt] at this;subst this;simp) (λM' m=>(bU.of (iI.fresh (heap_alloc_new w _) rfl rfl dh.nil)).Eg) rfl N
         exact this
       |some k=>
        obtain ⟨l,N⟩:=aK h2;simp only [dk,ar] at l;refine ⟨λA=>?_,λA=>?_⟩
        .obtain ⟨L,J⟩:=hk A;rw [A] at i;have key:∃cells:yp,na X.P (az ρ T st.E fr.F) ⟨some d,.buildSlice t len ⟨ps⟩,ty,pos,af,none⟩ w (.slice (some ⟨w.heap.size,0,none⟩) len len) (w.alloc (.cells cells.toArray e))/\dh u.rep (Ctx.M (ab ρ T G++(ab ρ T fr.H++Φ))) w cells xs:=by
          rcases l with l|⟨l,V⟩
          .have a:0<u.rep.n:=by
            have:0<len*u.rep.n:=by simpa using l
            exact s7 (λe=>by simp [e] at this)
           exact ⟨AV.ao ρ cs,p7 (P:=X.P) (w:=w) (dst:=some d) (ty:=ty) (pos:=pos) (af:=af) (cm O) s (zs:=z.cells.toList) (by simp) l Y i (B a),J⟩
          .have W:len=0:=aS l;subst W;have I:ps=[]:=by simpa using V
           subst I;have D:xs=[]:=c8 L;subst D;exact ⟨[],uW (P:=X.P) (E:=az ρ T st.E fr.F) (w:=w) (dst:=some d) (ty:=ty) (pos:=pos) (af:=af) (cm O) s,dh.nil⟩
         obtain ⟨cells,f,J⟩:=key;refine bL.gd (bL.oZ f ?_);have Q:=y.ext (fp w (.cells cells.toArray e));have hf:ca u.rep (Ctx.M (ab ρ T G++(ab ρ T fr.H++Φ))) (w.alloc (.cells cells.toArray e)) (sl (some ⟨w.heap.size,0,none⟩,len,len)) xs:=
          ca.fresh (heap_alloc_new w _) (λhm=>by have:=y.lt hm;omega) L (J.mv ((fp w _).mv _))
         refine bc.new (ρ':=ρ.set st.c { dB with v:=(some ⟨w.heap.size,0,none⟩,len,len) }) (av:= .sl st.c) hl N aB.bg (jm _) rfl (by simp only [AV.val,aB.bM];rfl) ?_;show Sat (ab _ T (_::G)++_) _;have e:=bm (T:=T) (aB.bg (ρ:=ρ) (j:=st.c) (x:={ dB with v:=(some ⟨w.heap.size,0,none⟩,len,len) })) q;rw [ab,et];rw [ab] at e;rw [e];refine Q.add rfl ?_;simp only [Row.item,aB.bM];exact λ_=>⟨hf,λhb=>by cases hb⟩
        .refine ⟨_,bc.new (ρ':=ρ.set st.c dB) (av:= .sl st.c) hl N aB.bg (jm _) rfl rfl ?_⟩;show Sat (ab _ T (_::G)++_) _;have e:=bm (T:=T) (aB.bg (ρ:=ρ) (j:=st.c) (x:=dB)) q;rw [ab,et];rw [ab] at e;rw [e];refine y.add rfl ?_;exact λh=>by rw [A] at h;cases h
      .cases h
     .cases h
    .cases h
   .cases h
  .cases h
 .cases h
end
section
variable {X : Cx} {R : Type} {r : R} {K : cT R} {T : aE} {fr : Fr} {st : aG} {g : GK} {d : Tmp} {ρ : aB} {Φ : Ctx} {w : World} {ty : TypeId} {pos : String} {af : zd} {gd : xa}
def alE(X:Cx)(T:aE)(fr:Fr)(st:aG)(d:Tmp)(t:TypeId)(x y:Operand)(K:cT R):Option R:=match fR X.P t with
 |some e=>(match CQ X.tys e with
  |some u=>(match lJ X.P e with
   |some z=>(match bE T st.E fr.F none x with
    |some (.int _ l)=>aC ( ac6 x y&&Nat.beq z.1 u.n'&&Nat.beq z.2.2.cells.size z.1&&Nat.blt 0 z.1 ) (
     match rd1 [] [] u (z.2.2.cells.toList.map kr) with
     |some zx=>aM (decide (0<=l)) (aM (aI l.toNat z.2.1) (K { st with c:=st.c+1,E:=cN (some d) none (.sl st.c) st.E,G:= .own st.c u e (List.replicate l.toNat zx) st.c::st.G }))
     |none=>none ) none
    |_=>none)
   |none=>none)
  |none=>none)
 |none=>none
theorem adD{t:Ty}{v:AV}{l:List t.T}(h:tE [] [] t v=some l):∀(M:Nat->Prop) (w:World),ca t.rep M w (v.val ρ) l:=by
 unfold tE at h;split at h
 .rename_i j;split at h
  next a=>simp [eI,ob] at a
  .cases h
 .cases h;intro M w;simp only [AV.val];exact ca.nil
 .cases h
theorem Zv:(t:Ty)->(vs:List AV)->(x:t.T×List AV)->rn [] [] t vs=some x->∃us,vs=us++x.2/\∀(M:Nat->Prop) (w:World),t.rep.rd M w (AV.ao ρ us) x.1
 | .i k,vs,x,h=>by
  unfold rn at h;split at h
  next q y us=>obtain ⟨f,e⟩:=aK h;have:=iE f;subst this;cases e;exact ⟨[.int k y],rfl,λM w=>by simp only [AV.ao,AV.val];rfl⟩
  .cases h
 | .bo,vs,x,h=>by
  unfold rn at h;split at h
  next y us=>cases h;exact ⟨[.bool y],rfl,λM w=>by simp only [AV.ao,AV.val];rfl⟩
  .cases h
 | .s,vs,x,h=>by
  unfold rn at h;split at h
  next y us=>cases h;exact ⟨[.str y],rfl,λM w=>by simp only [AV.ao,AV.val];rfl⟩
  .cases h
 | .un,vs,x,h=>by
  unfold rn at h;cases h;exact ⟨[],rfl,λM w=>by simp only [AV.ao];rfl⟩
 | .n,vs,x,h=>by
  unfold rn at h;split at h
  next t us=>cases h;exact ⟨[.ifc t (.agg [])],rfl,λM w=>by simp only [AV.ao,AV.val];rfl⟩
  .cases h
 | .mp _ _,vs,x,h=>by unfold rn at h;cases h
 | .p a b,vs,x,h=>by
  unfold rn at h;split at h
  .rename_i y j;split at h
   next z g=>cases h;obtain ⟨us,o,f⟩:=Zv a vs y j;obtain ⟨d,m,e⟩:=Zv b y.2 z g;refine ⟨us++d,by rw [o,m,bb],λM w=>?_⟩;rw [dJ];exact ⟨_,_,rfl,f M w,e M w⟩
   .cases h
  .cases h
 | .l t,vs,x,h=>by
  unfold rn at h;split at h
  .rename_i v us;split at h
   next l hl=>cases h;refine ⟨[v],rfl,λM w=>?_⟩;simp only [AV.ao];exact (adD hl M w).rsl
   .cases h
  .cases h
 | .ex,vs,x,h=>by
  unfold rn at h;split at h
  .rename_i a b c v us;split at h
   next l hl=>cases h;refine ⟨[.int .i64 a,.int .i64 b,.int .i64 c,v],rfl,λM w=>?_⟩;simp only [AV.ao,AV.val];exact Sf (adD hl M w).rsl
   .cases h
  .cases h
theorem aqm{t:TypeId}{x y:Operand}(hl:st.low fr=true)(C:Sat (ab ρ T st.G++(ab ρ T fr.H++Φ)) w)(h:alE X T fr st d t x y K=some r):
  jU X.P T none (az ρ T st.E fr.F) ⟨some d,.makeSlice t x y,ty,pos,af,gd⟩ w (bc r K T fr st none (some d) ρ Φ):=by
 unfold alE at h;split at h
 .rename_i e I;split at h
  .rename_i u hu;split at h
   .rename_i z B;obtain ⟨n,bytes,z⟩:=z;split at h
    .rename_i k l hx;obtain ⟨s,q⟩:=aK h;simp only [ar] at s;obtain ⟨⟨⟨Y,W⟩,V⟩,U⟩:=s;have:=afg Y;subst this;have hn:n=u.rep.n:=(aS W).trans u.EJ.symm;have f:z.cells.size=n:=aS V;split at q
     .rename_i A a;obtain ⟨S,Q⟩:=gz q;obtain ⟨R,O⟩:=gz Q;have c:=bK (ρ:=ρ) hx;simp only [AV.val] at c;have j:=cU B;subst hn;have g:∀(M:Nat->Prop) (w:World),u.rep.rd M w z.cells.toList A:=by
       unfold rd1 at a;split at a
       next Z i=>cases a;obtain ⟨us,v,N⟩:=Zv (ρ:=ρ) u _ _ i;simp only [l5] at v;intro M w;have:=N M w;rw [<-v,mH] at this;exact this
       .cases a
      obtain ⟨w',D,L,o,J⟩:=amx (P:=X.P) (E:=az ρ T st.E fr.F) (w:=w) (dst:=some d) (ty:=ty) (pos:=pos) (af:=af) (cm I) j (zs:=z.cells.toList) (by simp) (by simpa using f) (by simpa using U) c c S R g;refine .none_ (bL.gd (bL.oZ D ?_));exact yR (d:=d) (t:=u) (e:=e) (p:=(some ⟨w.heap.size,0,none⟩,l.toNat,l.toNat)) hl (aG.cS.1 hl).2.2.1 C L (λb hb=>by
       have:=Df hb;rw [Gm] at this;simp only [nt] at this;subst this;exact ⟨o,ch _⟩) (λM' m=>(bU.of (J M')).Eg) rfl O
     .cases q
    .cases h
   .cases h
  .cases h
 .cases h
def aoJ(X:Cx)(T:aE)(fr:Fr)(st:aG)(d:Tmp)(t:TypeId)(x y:Operand)(K:cT R):Option R:=match fR X.P t with
 |some e=>(match CQ X.tys e with
  |some u=>(match lJ X.P e with
   |some z=>(match bE T st.E fr.F none x with
    |some a=>(match bE T st.E fr.F none y with
     |some b=>aC ( Nat.beq z.1 u.n'&&Nat.beq z.2.2.cells.size z.1&&Nat.blt 0 z.1 ) ( match tE (cJ b.fq st.G) fr.H u b with
      |some ys=>(match a with
       | .sl id=>(match eI (cJ b.fq st.G) fr.H (nI id) with
        |some (.top j,.own _ u' e' xs _)=>aC ( Nat.beq e e' ) ( match tE.cD.asL u ⟨.l u',xs⟩ with
         |some xs=>aM (aI (xs.length+ys.length) z.2.1) (K { st with c:=st.c+1,E:=cN (some d) none (.sl st.c) st.E,G:=(cJ b.fq st.G).set j (.own st.c u e (xs++ys) st.c) })
         |none=>none ) none
        |some (_,.sli none _ u' xs true)=>(match tE.cD.asL u ⟨.l u',xs⟩ with
         |some xs=>(match ys with
          |y::ys=>aM (aI (xs.length+(y::ys).length) z.2.1) (K { st with c:=st.c+1,E:=cN (some d) none (.sl st.c) st.E,G:= .own st.c u e (xs++y::ys) st.c::cJ b.fq st.G })
          |[]=>none)
         |none=>none)
        |_=>none)
       | .raw (.slice none 0 0)=>aM (aI (([]:List u.T).length+ys.length) z.2.1) (K { st with c:=st.c+1,E:=cN (some d) none (.sl st.c) st.E,G:= .own st.c u e ([]++ys) st.c::cJ b.fq st.G })
       |_=>none)
      |none=>none ) none
     |none=>none)
    |none=>none)
   |none=>none)
  |none=>none)
 |none=>none
theorem arU{t:TypeId}{x y:Operand}(hl:st.low fr=true)(s:Sat (ab ρ T st.G++(ab ρ T fr.H++Φ)) w)(h:aoJ X T fr st d t x y K=some r):
  jU X.P T none (az ρ T st.E fr.F) ⟨some d,.call ⟨.builtin .append,#[x,y],#[t,t]⟩,ty,pos,af,gd⟩ w (bc r K T fr st none (some d) ρ Φ):=by
 unfold aoJ at h;split at h
 .rename_i e he;split at h
  .rename_i u hu;split at h
   .rename_i z hz;obtain ⟨n,bytes,z⟩:=z;split at h
    .rename_i a hx;split at h
     .rename_i b hy;obtain ⟨h1,g⟩:=aK h;simp only [ar] at h1;obtain ⟨⟨a1,a2⟩,a3⟩:=h1;have hn:n=u.rep.n:=(aS a1).trans u.EJ.symm;have J:z.cells.size=n:=aS a2;have Q:=cU hz;subst hn;have A:=s9 (ids:=b.fq) (aG.cS.1 hl).2.2.1;replace s:=ka (ids:=b.fq) s;generalize cJ b.fq st.G=G at g A s;have o:=bK (ρ:=ρ) hx;have N:=bK (ρ:=ρ) hy;have C:0<u.rep.n:=by simpa using a3
      split at g
      .rename_i ys hys;have L:=Qv s hys;split at g
       .rename_i id;simp only [AV.val] at o;split at g
        .rename_i j k u' e' i ver S;obtain ⟨h3,h4⟩:=aK g;have:=aS h3;subst this;split at h4
         .rename_i xs O;obtain ⟨eu,ex⟩:=sL O;subst eu;simp only at ex;subst ex;obtain ⟨h5,h6⟩:=gz h4;obtain ⟨f1,f2⟩:=cp S;have:k=id:=aS f2;subst this;have hi:=gw (ρ:=ρ) (T:=T) (Φ:=ab ρ T fr.H++Φ) f1;obtain ⟨hO,_⟩:=s.at_ hi;obtain ⟨U,R',w',Z,B,hR,I⟩:=HK (P:=X.P) (E:=az ρ T st.E fr.F) (w:=w) (dst:=some d) (ty:=ty) (pos:=pos) (af:=af) (cm he) Q J C o N hO L (λb hb=>Ctx.jV hi hb) h5;have mv0:Mv (Ctx.M (ab ρ T G++(ab ρ T fr.H++Φ))) w (Ctx.M (ab ρ T G++(ab ρ T fr.H++Φ))) w':=⟨B.size,λb hb hn=>⟨hn,B.block b hb (λhc=>hn (Ctx.jV hi hc))⟩⟩;have f:=I _ mv0;have q:∃p:gV,U=sl p:=by obtain ⟨a,cap,q⟩:=f.len;exact ⟨(a,_,cap),q⟩
          obtain ⟨p,rfl⟩:=q;have hj:j<G.length:=(List.getElem?_eq_some_iff.1 f1).1;refine .none_ (bL.gd (bL.oZ Z (bc.new (ρ':=ρ.set st.c { dB with v:=p,y:=⟨.l u',i++ys⟩ }) hl h6 aB.bg (jm _) rfl (by simp only [AV.val,aB.bM]) ?_)));show Sat (ab _ T (G.set j _)++_) _;rw [fV hj,bm aB.bg A];refine s.ra hi B (λb hb=>?_) (λM' m _=>?_)
          .simp only [Row.item,aB.bM] at hb;exact hR b (f.canon.1 b hb)
          .simp only [Row.item,aB.bM];exact ⟨f.canon.2 _ _ (I M' m),trivial⟩
         .cases h4
        .rename_i s' k u' i S;split at g
         .rename_i xs O;obtain ⟨eu,ex⟩:=sL O;subst eu;simp only at ex;subst ex;split at g
          .rename_i y0 ys0;obtain ⟨h5,h6⟩:=gz g;obtain ⟨f1,f2⟩:=cp S;have:k=id:=aS f2;subst this;obtain ⟨hS,R⟩:=(Src.holds s f1) aE.get_none;have R:=R rfl;obtain ⟨ad,cap,D⟩:=hS.len;have ep:(ρ k).v=((ρ k).v.1,i.length,i.length):=by
            simp only [sl,Value.slice.injEq] at D
            ext1
            .rfl
            .ext1
             .exact D.2.1
             .exact R
           rw [ep] at hS o;obtain ⟨i',hi',W,hby,hzz⟩:=Q.out;subst hby
           obtain ⟨U,w',Z,hE,hB,I⟩:=Yl t ty e i' z (cm he) hi' hzz W J hS L (List.cons_ne_nil _ _) h5;have f:=bU.of (I _ (hE.mv _));have q:∃p:gV,U=sl p:=by obtain ⟨a,cap,q⟩:=f.len;exact ⟨(a,_,cap),q⟩
           obtain ⟨p,rfl⟩:=q;have Y:na X.P (az ρ T st.E fr.F) ⟨some d,.call ⟨.builtin .append,#[x,y],#[t,t]⟩,ty,pos,af,none⟩ w (sl p) w':=λn' a S=>by simp [execOp,resolve,invoke,builtin,o n' a S rfl,N n' a S rfl,show (Builtin.append_ #[t,t] ty #[sl ((ρ k).v.1,i.length,i.length),AV.val ρ b]).run X.P w=_ from Z]
           refine .none_ (bL.gd (bL.oZ Y ?_));exact yR (d:=d) (t:=u') (e:=e) (p:=p) hl A s hE (λb hb=>hB b (Df hb)) (λM' m=>(bU.of (I M' m)).Eg) rfl h6
          .cases g
         .cases g
        .cases g
       .simp only [AV.val] at o;obtain ⟨h5,h6⟩:=gz g;obtain ⟨U,R',w',Z,B,hR,I⟩:=HK (P:=X.P) (E:=az ρ T st.E fr.F) (w:=w) (dst:=some d) (ty:=ty) (pos:=pos) (af:=af) (xs:=([]:List u.T)) (cm he) Q J C o N bU.nil L (λb hb=>by cases hb) h5;have hE:Ext w w':=⟨B.os,B.tape,B.output,B.size,λb hb=>B.block b hb (λh=>by cases h)⟩;have f:=I _ (hE.mv _);have q:∃p:gV,U=sl p:=by obtain ⟨a,cap,q⟩:=f.len;exact ⟨(a,_,cap),q⟩
        obtain ⟨p,rfl⟩:=q;refine .none_ (bL.gd (bL.oZ Z ?_));exact yR (d:=d) (t:=u) (e:=e) (p:=p) hl A s hE (λb hb=>by
         obtain ⟨q1,V⟩:=hR b (f.canon.1 b hb);rcases V with V|V
         .cases V
         .exact ⟨q1,V⟩) (λM' m=>f.canon.2 _ _ (I M' m)) rfl h6
       .cases g
      .cases g
     .cases h
    .cases h
   .cases h
  .cases h
 .cases h
end
variable {x : Operand}
def both{R:Type}(a b:Option R):Option R:=open Classical in if a=b then a else none
theorem aa4{R:Type}{a b:Option R}{r:R}(h:both a b=some r):a=some r/\b=some r:=by
 unfold both at h;split at h
 next e=>exact ⟨h,e▸h⟩
 .cases h
inductive Sh where
 |l
 |b (x y:Sh)
def aN:Sh->(R:Type)->Option R->Option R
 | .l,_,a=>a
 | .b x y,R,a=>both (aN x R a) (aN y R a)
theorem agb{R:Type}{a:Option R}:(s:Sh)->aN s R a=a
 | .l=>rfl
 | .b x y=>by show both (aN x R a) (aN y R a)=a;rw [agb x,agb y];unfold both;simp
theorem aO:aN=λ_ _ a=>a:=funext λs=>funext λ_=>funext λ_=>agb s
def yK{α R:Type}(l:List α)(k1 k0:Option R):Option R:=match l with
 |[]=>both k1 k0
 |_::_=>k0
theorem abk{α R:Type}{l:List α}{a b:Option R}{r:R}(h:yK l a b=some r):b=some r/\(l=[]->a=some r):=by
 unfold yK at h;split at h
 .obtain ⟨d,c⟩:=aa4 h;exact ⟨c,λ_=>d⟩
 .exact ⟨h,λe=>by cases e⟩
theorem mo{α:Type}{l:List α}{b:Nat}:yK l (some []) (aM (aI (List.length ([]:List α)+List.length l) b)<|some (([]:List α)++l))=aM (aI (List.length l) b) (some l):=by
 cases l with
 |nil=>
  have:aI 0 b=true:=by unfold aI;simp
  show both (some []) (aM (aI 0 b) (some []))=aM (aI 0 b) (some []);rw [this];unfold both;simp [aM]
 |cons x l=>show aM (aI (0+(l.length+1)) b) _=_;rw [j0];rfl
section
variable {X : Cx} {R : Type} {r : R} {K : cT R} {T : aE} {fr : Fr} {st : aG} {g : GK} {d : Tmp} {ρ : aB} {Φ : Ctx} {w : World} {ty : TypeId} {pos : String} {af : zd} {gd : xa}
def aky(X:Cx)(st:aG)(d:Tmp)(t:TypeId)(K:cT R):Option R:=match aaM X.P t with
 |some p=>(match CQ X.tys p.1 with
  |some k=>(match CQ X.tys p.2 with
   |some v=>K { st with c:=st.c+1,E:=cN (some d) none (.mp st.c) st.E,G:= .mp st.c k v (some [])::st.G }
   |none=>none)
  |none=>none)
 |none=>none
theorem apo{t:TypeId}(hl:st.low fr=true)(e:Sat (ab ρ T st.G++(ab ρ T fr.H++Φ)) w)(h:aky X st d t K=some r):
  jU X.P T none (az ρ T st.E fr.F) ⟨some d,.makeMap t none,ty,pos,af,gd⟩ w (bc r K T fr st none (some d) ρ Φ):=by
 unfold aky at h;split at h
 .rename_i p hp;split at h
  .rename_i k hk;split at h
   .rename_i v f;have c:na X.P (az ρ T st.E fr.F) ⟨some d,.makeMap t none,ty,pos,af,none⟩ w (.map (some w.heap.size)) (w.alloc (.map #[] 0)):=λn a g=>by simp [execOp,Instr.makeMap]
    refine .none_ (bL.gd (bL.oZ c (bc.push (x:={ dB with m:=some w.heap.size }) hl h (by simp only [AV.val,aB.bM]) ?_)));simp only [Row.item,aB.bM];exact e.push (fp _ _) (λb hb=>by
     have:b=w.heap.size:=by simpa [omap,KU] using hb
     subst this;exact ⟨by show _<(w.heap.push _).size;simp,ch _⟩) (λM' m=> .inr ⟨_,#[],0,[],rfl,rfl,by show (w.heap.push _)[w.heap.size]? =_;simp,rfl⟩)
   .cases h
  .cases h
 .cases h
def akM(X:Cx)(T:aE)(fr:Fr)(st:aG)(t:TypeId)(x y z:Operand)(K:cT R):Option R:=match aaM X.P t with
 |some p=>(match bE T st.E fr.F none x with
  |some (.mp id)=>(match ob (akj id) st.G with
   |some (j,.mp _ k v md)=>(match bE T st.E fr.F none y with
    |some kv=>(match bE T st.E fr.F none z with
     |some vv=>(match afl k kv with
      |some key=>(match afl v vv with
       |some val=>aC ( aka X.P p.1 k ) ( md.bind λl=>K { st with G:=st.G.set j (.mp id k v (some (nQ l key val))) } ) none
       |none=>none)
      |none=>none)
     |none=>none)
    |none=>none)
   |_=>none)
  |_=>none)
 |none=>none
theorem aoa{t:TypeId}{y z:Operand}(n:Sat (ab ρ T st.G++(ab ρ T fr.H++Φ)) w)(h:akM X T fr st t x y z K=some r):
  jU X.P T none (az ρ T st.E fr.F) ⟨none,.mapUpdate t x y z,ty,pos,af,gd⟩ w (bc r K T fr st none none ρ Φ):=by
 unfold akM at h;split at h
 .rename_i p hp;split at h
  .rename_i id hx;split at h
   .rename_i j g k v md D;split at h
    .rename_i Q u;split at h
     .rename_i O s;split at h
      .rename_i key f;split at h
       next val e=>obtain ⟨M,L⟩:=aK h;obtain ⟨l,i,J⟩:=C1 L;subst i;obtain ⟨q,N⟩:=mY D;have:g=id:=aS N;subst this;have d:=bK (ρ:=ρ) hx;have c:=bK (ρ:=ρ) u;have a:=bK (ρ:=ρ) s;simp only [AV.val] at d;rw [ZK f] at c;rw [ZK e] at a;have hi:=gw (ρ:=ρ) (T:=T) (Φ:=ab ρ T fr.H++Φ) q;obtain ⟨w',B,I,A,o⟩:=Zs (P:=X.P) (E:=az ρ T st.E fr.F) (w:=w) (ty:=ty) (pos:=pos) (af:=af) (ZD M) (yM hp) d c a (n.omap hi);refine .none_ (bL.gd (bL.alG B (bc.jw (av:= .raw undef) J (ch _) rfl (by simp only [AV.val]) ?_)));have C:j<st.G.length:=(List.getElem?_eq_some_iff.1 q).1;show Sat (ab ρ T (st.G.set j _)++_) _;rw [fV C];exact n.ra hi I (λb hb=>⟨o.lt b hb,.inl hb⟩) (λM' m _=>o)
       .cases h
      .cases h
     .cases h
    .cases h
   .cases h
  .cases h
 .cases h
def aql(X:Cx)(T:aE)(fr:Fr)(st:aG)(d:Tmp)(t:TypeId)(x:Operand)(K:cT R):Option R:=match bE T st.E fr.F none x with
 |some (.str s)=>aC ( isStr X.P t ) ( K { st with c:=st.c+1,E:=cN (some d) none (.ptr st.c 0) st.E,G:= .it st.c s 0::st.G } ) none
 |_=>none
theorem arO{t:TypeId}(hl:st.low fr=true)(f:Sat (ab ρ T st.G++(ab ρ T fr.H++Φ)) w)(h:aql X T fr st d t x K=some r):
  jU X.P T none (az ρ T st.E fr.F) ⟨some d,.range t x,ty,pos,af,gd⟩ w (bc r K T fr st none (some d) ρ Φ):=by
 unfold aql at h;split at h
 .rename_i s hx;obtain ⟨j,i⟩:=aK h;have c:=bK (ρ:=ρ) hx;simp only [AV.val] at c;have e:na X.P (az ρ T st.E fr.F) ⟨some d,.range t x,ty,pos,af,none⟩ w (.pointer (some ⟨w.heap.size,0,none⟩)) (w.alloc (.stringIter ⟨s.toArray⟩ 0)):=λn' a g=>by simp [execOp,c n' a g rfl,Instr.range,run_underlying (rY j),S]
  refine .none_ (bL.gd (bL.oZ e (bc.push (x:={ dB with b:=w.heap.size }) hl i (by simp only [AV.val,aB.bM]) ?_)));simp only [Row.item,aB.bM];exact f.push (fp _ _) (λb hb=>by
   have:b=w.heap.size:=by simpa [iter] using hb
   subst this;simp) (λ_ _=>heap_alloc_new w _)
 .cases h
def apy(T:aE)(fr:Fr)(st:aG)(d:Tmp)(x:Operand)(K:cT R):Option R:=match bE T st.E fr.F none x with
 |some (.ptr id 0)=>(match ob (atm id) st.G with
  |some (j,.it _ s p)=>cond (decide (p<s.length)) (K { st with E:=cN (some d) none (.tuple [.bool true,.int .i64 (p:Int),.int .i32 (ue s p)]) st.E,G:=st.G.set j (.it id s (lY s p)) })
   (K { st with E:=cN (some d) none (.tuple [.bool false]) st.E })
  |_=>none)
 |_=>none
theorem asi(o:Sat (ab ρ T st.G++(ab ρ T fr.H++Φ)) w)(h:apy T fr st d x K=some r):
  jU X.P T none (az ρ T st.E fr.F) ⟨some d,.next x true,ty,pos,af,gd⟩ w (bc r K T fr st none (some d) ρ Φ):=by
 unfold apy at h;split at h
 .rename_i id hx;split at h
  .rename_i j e s p m;obtain ⟨B,J⟩:=mY m;have:e=id:=aS J;subst this;have g:=bK (ρ:=ρ) hx;simp only [AV.val] at g;have hi:=gw (ρ:=ρ) (T:=T) (Φ:=ab ρ T fr.H++Φ) B;have y:YF w (ρ e).b s p:=o.iter hi;have A:(getObj (ρ e).b).run X.P w= .ok (.stringIter ⟨s.toArray⟩ p) w:=by simp only [getObj,Sem.run];rw [y]
   rcases uR h with ⟨q,z⟩|⟨q,z⟩
   .have k:p<s.length:=by simpa using q
    have u:=(Array.getElem?_eq_some_iff.1 y).1;have n:YF { w with heap:=w.heap.setIfInBounds (ρ e).b (.stringIter ⟨s.toArray⟩ (lY s p)) } (ρ e).b s (lY s p):=by show (w.heap.setIfInBounds (ρ e).b _)[(ρ e).b]? =_;rw [si u]
    have I:kQ [(ρ e).b] w { w with heap:=w.heap.setIfInBounds (ρ e).b (.stringIter ⟨s.toArray⟩ (lY s p)) }:=⟨rfl,rfl,rfl,by show w.heap.size<=(w.heap.setIfInBounds (ρ e).b _).size;simp,λc _ v=>by
     show (w.heap.setIfInBounds (ρ e).b _)[c]? =_;have t:c≠(ρ e).b:=by simpa using v
     rw [qA (Ne.symm t)]⟩
    have l:(setObj (ρ e).b (.stringIter ⟨s.toArray⟩ (lY s p))).run X.P w= .ok () { w with heap:=w.heap.setIfInBounds (ρ e).b (.stringIter ⟨s.toArray⟩ (lY s p)) }:=by simp only [setObj,Sem.run];rw [y]
    have i:p<(⟨s.toArray⟩:ByteArray).size:=by rw [my];exact k
    have L:lY s p=p+(Utf8.decode ⟨s.toArray⟩ p).2:=rfl;have f:na X.P (az ρ T st.E fr.F) ⟨some d,.next x true,ty,pos,af,none⟩ w (.tuple #[.bool true,.int .i64 (p:Int),.int .i32 (ue s p)]) { w with heap:=w.heap.setIfInBounds (ρ e).b (.stringIter ⟨s.toArray⟩ (lY s p)) }:=λn' a m=>by rw [L] at l ⊢;simp only [execOp,g n' a m rfl,Instr.next,Sem.run_bind,A,Result.andThen_ok,pa i,Sem.run_pure,l,goInt];rfl
    refine .none_ (bL.gd (bL.oZ f (bc.jw (av:= .tuple [.bool true,.int .i64 (p:Int),.int .i32 (ue s p)]) z (ch _) rfl (by simp only [AV.val,AV.ao]) ?_)));have C:j<st.G.length:=(List.getElem?_eq_some_iff.1 B).1;show Sat (ab ρ T (st.G.set j _)++_) _;rw [fV C];exact o.ra hi I (λc D=>by
     have:c=(ρ e).b:=by simpa [Row.item,Go.Proofs.YthhmkmmmbcjghaaGreatDoor.iter] using D
     subst this;exact ⟨(Array.getElem?_eq_some_iff.1 n).1,.inl (by simp [Row.item,Go.Proofs.YthhmkmmmbcjghaaGreatDoor.iter])⟩) (λ_ _ _=>n)
   .have k:¬p<s.length:=by simpa using q
    have f:na X.P (az ρ T st.E fr.F) ⟨some d,.next x true,ty,pos,af,none⟩ w (.tuple #[.bool false]) w:=λn' a m=>by
     have i:¬p<(⟨s.toArray⟩:ByteArray).size:=by rw [my];exact k
     simp only [execOp,g n' a m rfl,Instr.next,Sem.run_bind,A,Result.andThen_ok,n7 i,Sem.run_pure]
    exact .none_ (bL.gd (bL.oZ f (bc.jw (av:= .tuple [.bool false]) z (ch _) rfl (by simp only [AV.val,AV.ao]) o)))
  .cases h
 .cases h
def aox(X:Cx)(T:aE)(fr:Fr)(st:aG)(g:GK)(d:Tmp)(s dt:TypeId)(x:Operand)(K:cT R):Option R:=match bE T st.E fr.F g x with
 |some (.str l)=>aC ( isStr X.P s ) ( match fR X.P dt with
  |some e=>(match tyK X.P e with
   |some .u8=>K { st with c:=st.c+1,E:=cN (some d) g (.sl st.c) st.E,G:= .sli g st.c (.i .u8) (bV l) false::st.G }
   |_=>none)
  |none=>none ) none
 |_=>none
theorem ar7{s j:TypeId}(hl:st.low fr=true)(c:Sat (ab ρ T st.G++(ab ρ T fr.H++Φ)) w)(h:aox X T fr st g d s j x K=some r):
  jU X.P T g (az ρ T st.E fr.F) ⟨some d,.convert s j x,ty,pos,af,gd⟩ w (bc r K T fr st g (some d) ρ Φ):=by
 unfold aox at h;split at h
 .rename_i l hx;obtain ⟨u,b⟩:=aK h;split at b
  .rename_i e o;split at b
   .rename_i hk;have a:=aW (ρ:=ρ) hx;simp only [AV.val] at a;refine ⟨λf=>?_,λf=>?_⟩
    .rw [f] at a;obtain ⟨y,w',k,t,n,q⟩:=aqg (P:=X.P) (E:=az ρ T st.E fr.F) (w:=w) (dst:=some d) (ty:=ty) (pos:=pos) (af:=af) (rY u) (cm o) (JM hk) a;have i:=q (Ctx.M (ab ρ T st.G++(ab ρ T fr.H++Φ))) (λm=>by have:=c.lt m;omega);obtain ⟨p,rfl⟩:=i.nI;refine bL.gd (bL.oZ k (bc.push (x:={ dB with v:=p }) hl b (by simp only [AV.val,aB.bM]) ((c.ext t).add rfl ?_)));simp only [Row.item,aB.bM];exact λ_=>⟨i,λhb=>by cases hb⟩
    .exact ⟨_,bc.push (x:=dB) hl b rfl (c.add rfl λh=>by rw [f] at h;cases h)⟩
   .cases b
  .cases b
 .cases h
def apP(X:Cx)(T:aE)(fr:Fr)(st:aG)(d:Tmp)(op:BinOp)(t:TypeId)(x y:Operand)(K:cT R):Option R:=match fR X.P t with
 |some _=>(match bE T st.E fr.F none x with
  |some (.sl id)=>(match bE T st.E fr.F none y with
   |some (.raw (.slice none 0 0))=>(match slA st.G fr.H id with
    |some ⟨none,_,l⟩=>(match op with
     | .eql=>yK l (K { st with E:=cN (some d) none (.bool true) st.E }) (K { st with E:=cN (some d) none (.bool false) st.E })
     | .neq=>yK l (K { st with E:=cN (some d) none (.bool false) st.E }) (K { st with E:=cN (some d) none (.bool true) st.E })
     |_=>none)
    |_=>none)
   |_=>none)
  |_=>none)
 |none=>none
theorem ar9{op:BinOp}{t t':TypeId}{y:Operand}(m:Sat (ab ρ T st.G++(ab ρ T fr.H++Φ)) w)(h:apP X T fr st d op t x y K=some r):
  jU X.P T none (az ρ T st.E fr.F) ⟨some d,.binOp op t x y t',ty,pos,af,gd⟩ w (bc r K T fr st none (some d) ρ Φ):=by
 unfold apP at h;split at h
 .rename_i e p;split at h
  .rename_i id hx;split at h
   .rename_i q;split at h
    .rename_i u l i;have g:=bK (ρ:=ρ) hx;have f:=bK (ρ:=ρ) q;simp only [AV.val] at g f;have c:=Z2 m i aE.get_none;have a:(As (sl (ρ id).v)=true/\l=[])\/As (sl (ρ id).v)=false:=by
      rcases agl m i aE.get_none with s|⟨e',z⟩
      .rcases agV s with ⟨n,A⟩|n
       .exact .inl ⟨by rw [n];rfl,A⟩
       .exact .inr n
      .exact aho z
     have mk:∀b:Bool,K { st with E:=cN (some d) none (.bool b) st.E }=some r->bc r K T fr st none (some d) ρ Φ (.bool b) w:=λb hb=>bc.jw (av:= .bool b) hb (ch _) rfl (by simp only [AV.val]) m;split at h
     .obtain ⟨k,j⟩:=abk h;refine .none_ (bL.gd (bL.run (ahm (cm p) g c f) ?_));rcases a with ⟨c1,o⟩|c1
      .rw [c1];exact mk _ (j o)
      .rw [c1];exact mk _ k
     .obtain ⟨k,j⟩:=abk h;refine .none_ (bL.gd (bL.run (ahF (cm p) g c f) ?_));rcases a with ⟨c1,o⟩|c1
      .rw [c1];exact mk _ (j o)
      .rw [c1];exact mk _ k
     .cases h
    .cases h
   .cases h
  .cases h
 .cases h
def aap(i:Int)(m:Nat)(k:Nat->Option R):Nat->Nat->Option R
 |0,_=>none
 |n+1,j=>cond (i==(j:Int)) (k (j*m)) (aap i m k n (j+1))
theorem G3{i:Int}{m:Nat}{k:Nat->Option R}:∀{n j:Nat},aap i m k n j=some r->∃q,j<=q/\q<j+n/\i=(q:Int)/\k (q*m)=some r
 |0,j,h=>by cases h
 |n+1,j,h=>by
  unfold aap at h;rcases uR h with ⟨d,a⟩|⟨_,a⟩
  .exact ⟨j,ch _,by omega,by simpa using d,a⟩
  .obtain ⟨q,f,e,c,b⟩:=G3 a;exact ⟨q,by omega,by omega,c,b⟩
end
def fy:List Ty->Type
 |[]=>Unit
 |[t]=>t.T
 |t::u::ts=>t.T×fy (u::ts)
def ic:(ts:List Ty)->fy ts->List cD
 |[],_=>[]
 |[t],x=>[⟨t,x⟩]
 |t::u::ts,x=>⟨t,x.1⟩::ic (u::ts) x.2
def cQ:(ts:List Ty)->List cD->Option (fy ts)
 |[],D=>(match D with
  |[]=>some ()
  |_=>none)
 |[t],D=>(match D with
  |[d]=>d.as t
  |_=>none)
 |t::u::ts,D=>(match D with
  |d::D=>(match d.as t with
   |some x=>(match cQ (u::ts) D with
    |some y=>some (x,y)
    |none=>none)
   |none=>none)
  |_=>none)
theorem C9:(a:List Ty)->{D:List cD}->{s:fy a}->cQ a D=some s->ic a s=D
 |[],D,s,h=>by
  unfold cQ at h;split at h
  .rfl
  .cases h
 |[t],D,s,h=>by
  match D,h with
  |[d],h=>rw [cD.P0 (t:=t) (d:=d) (x:=s) h];rfl
  |[],h=>cases h
  |_::_::_,h=>cases h
 |t::u::a,D,s,h=>by
  unfold cQ at h;split at h
  .rename_i d c;split at h
   .rename_i x hx;split at h
    next y b=>cases h;show ⟨t,x⟩::ic (u::a) y=_;rw [C9 (u::a) b,cD.P0 hx]
    .cases h
   .cases h
  .cases h
def ajz:(ts:List Ty)->fy ts
 |[]=>()
 |[t]=>t.sB
 |t::u::ts=>(t.sB,ajz (u::ts))
mutual
def nC:Pt->List Ty
 | .int k=>[.i k]
 | .bool=>[.bo]
 | .str=>[.s]
 | .sli t=>[.l t]
 | .own t _ _=>[.l t]
 | .bx _ _ _ vs=>oN vs
 | .mp k v _=>[.mp k v]
 | .it=>[.s,.n]
 | .agg l=>oN l
 | .cQ l=>oN l
 | .fn _ a b=>oN a++oN b
 | .ifc _ p=>nC p
 | .dat t _=>[t]
 | .ifn=>[.n]
 | .sfp=>[.bo]
 | .sty p=>nC p
 |_=>[]
def oN:List Pt->List Ty
 |[]=>[]
 |p::l=>nC p++oN l
end
def iB:List (Bool×Nat×Pt)->List Ty
 |[]=>[]
 |x::l=>nC x.2.2++iB l
abbrev Fx:=Option (Value×yp)
def xg(fx:Fx)(v:Value):Prop:= ∀p,fx=some p->v=p.1
def fxC(fx:Fx):yp:=match fx with
 |some p=>p.2
 |none=>[]
def P1:Pt->Bool
 | .agg _=>true
 | .fn _ _ _=>true
 | .ifc _ _=>true
 |_=>false
def fx1(p:Pt)(fxs:yp):Fx:=match fxs with
 |[]=>none
 |u::_=>aC (P1 p) none (some (u,[]))
abbrev fF:=List (Bool×Item)
abbrev kq:=List (Nat×yp)
def oe(e:Nat):Nat:=e/2
def ow(e:Nat):Bool:=Nat.beq (e%2) 1
def Vx:(t:Ty)->t.T->yp->w5->List Nm->fF->List Nm->w5->Prop
 | .i k,x,cs,o,N,I,N',o'=>cs=[.int k x]/\I=[]/\N'=N/\o'=o
 | .bo,x,cs,o,N,I,N',o'=>cs=[.bool x]/\I=[]/\N'=N/\o'=o
 | .s,x,cs,o,N,I,N',o'=>cs=[S x]/\I=[]/\N'=N/\o'=o
 | .un,_,cs,o,N,I,N',o'=>cs=[]/\I=[]/\N'=N/\o'=o
 | .p a b,x,cs,o,N,I,N',o'=>∃c1 c2 N1 I1 I2 o1,Vx a x.1 c1 o N I1 N1 o1/\Vx b x.2 c2 o1 N1 I2 N' o'/\cs=c1++c2/\I=I1++I2
 | .l t,x,cs,o,N,I,N',o'=>∃a:Nm,cs=[sl a.v]/\N'=N++[a]/\((o=none::o'/\I=[(false,Pk true t.rep a.v x false)])\/∃e,o=some e::o'/\I=[(ow e,oa t.rep (oe e) a.v x True)]/\a.y=⟨.l t,x⟩)
 | .ex,x,cs,o,N,I,N',o'=>∃a:Nm,cs=[.int .i64 x.op,.int .i64 x.n,.int .i64 x.at_,sl a.v]/\N'=N++[a]/\((o=none::o'/\I=[(false,Pk true J9 a.v x.l false)])\/∃e,o=some e::o'/\I=[(ow e,oa J9 (oe e) a.v x.l True)]/\a.y=⟨.l .ex,x.l⟩)
 |_,_,_,_,_,_,_,_=>False
mutual
def Sem:Pt->Value->Fx->Option Value->List Nm->List cD->fF->kq->List Nm->Prop
 | .int k,v,_,_,N,D,I,X,N'=>∃x,v= .int k x/\D=[⟨.i k,x⟩]/\I=[]/\X=[]/\N'=N
 | .bool,v,_,_,N,D,I,X,N'=>∃x,v= .bool x/\D=[⟨.bo,x⟩]/\I=[]/\X=[]/\N'=N
 | .str,v,_,_,N,D,I,X,N'=>∃x,v=S x/\D=[⟨.s,x⟩]/\I=[]/\X=[]/\N'=N
 | .sli t,v,_,_,N,D,I,X,N'=>∃(a:Nm) (l:List t.T),v=sl a.v/\D=[⟨.l t,l⟩]/\I=[(false,Pk true t.rep a.v l false)]/\X=[]/\N'=N++[a]
 | .own t e m,v,fx,_,N,D,I,X,N'=>∃(a:Nm) (l:List t.T),v=sl a.v/\xg fx v/\D=[⟨.l t,l⟩]/\I=[(m,oa t.rep e a.v l True)]/\X=[]/\N'=N++[a]/\a.y=⟨.l t,l⟩
 | .slr n,v,_,_,N,D,I,X,N'=>∃a:Nm,N[n]? =some a/\v=sl a.v/\D=[]/\I=[]/\X=[]/\N'=N
 | .bx t off m vs,v,fx,_,N,D,I,X,N'=>∃(a:Nm) (cs:yp) (I':fF) (X':kq),v= .pointer (some ⟨a.b,off,none⟩)/\xg fx v/\wB vs cs [] (fxC fx) (N++[a]) D I' X' N'/\I=(m,box a.b t cs)::I'/\X=(aC m [(N.length,cs)] [])++X'
 | .ptr n off,v,_,_,N,D,I,X,N'=>∃a:Nm,N[n]? =some a/\v= .pointer (some ⟨a.b,off,none⟩)/\D=[]/\I=[]/\X=[]/\N'=N
 | .mp k u m,v,fx,_,N,D,I,X,N'=>∃(a:Nm) (d:Option (List (k.T×u.T))),v= .map a.m/\xg fx v/\D=[⟨.mp k u,d⟩]/\I=[(m,omap (HW k) (HW u) (.map a.m) d)]/\X=[]/\N'=N++[a]
 | .it,v,fx,_,N,D,I,X,N'=>∃(a:Nm) (s:aD) (p:Nat),v= .pointer (some ⟨a.b,0,none⟩)/\xg fx v/\D=[⟨.s,s⟩,⟨.n,p⟩]/\I=[(true,iter a.b s p)]/\X=[]/\N'=N++[a]
 | .agg l,v,fx,_,N,D,I,X,N'=>∃cs:yp,v= .agg cs.toArray/\xg fx v/\wB l cs (aC fx.isSome cs []) [] N D I X N'
 | .cQ l,v,_,_,N,D,I,X,N'=>∃cs:yp,v= .tuple cs.toArray/\wB l cs [] [] N D I X N'
 | .fn f a b,v,fx,_,N,D,I,X,N'=>∃(us vs:yp) (D1 D2:List cD) (I1 I2:fF) (X1 X2:kq) (N1:List Nm),v= .func (.func f) us.toArray vs.toArray/\xg fx v/\wB a us [] [] N D1 I1 X1 N1/\wB b vs (aC fx.isSome vs []) [] N1 D2 I2 X2 N'/\D=D1++D2/\I=I1++I2/\X=X1++X2
 | .ifc t p,v,fx,_,N,D,I,X,N'=>∃u,v= .iface t u/\xg fx v/\Sem p u (fx1 p (aC fx.isSome [u] [])) none N D I X N'
 | .kr c,v,_,_,N,D,I,X,N'=>(v=c.val (λ_=>dB)/\∀ρ,c.val ρ=c.val (λ_=>dB))/\D=[]/\I=[]/\X=[]/\N'=N
 | .dat t o,v,_,_,N,D,I,X,N'=>∃(cs:yp) (x:t.T) (o':w5),v= .agg cs.toArray/\D=[⟨t,x⟩]/\Vx t x cs o N I N' o'/\X=[]
 | .ifn,v,_,_,N,D,I,X,N'=>∃x:Nat,v= .iface x (.agg #[])/\D=[⟨.n,x⟩]/\I=[]/\X=[]/\N'=N
 | .sfp,v,_,_,N,D,I,X,N'=>∃(a:Nm) (f:Bool),N[N.length-1]? =some a/\v=Cu f a.b/\D=[⟨.bo,f⟩]/\I=[]/\X=[]/\N'=N
 | .sty p,v,fx,sm,N,D,I,X,N'=>fx=none/\sm=some v/\P1 p=false/\Sem p v (some (v,[])) none N D I X N'
 | .same,v,fx,sm,N,D,I,X,N'=>((∃p,fx=some p/\v=p.1)\/(fx=none/\sm=some v))/\D=[]/\I=[]/\X=[]/\N'=N
def wB:List Pt->yp->yp->yp->List Nm->List cD->fF->kq->List Nm->Prop
 |[],vs,_,_,N,D,I,X,N'=>vs=[]/\D=[]/\I=[]/\X=[]/\N'=N
 |p::l,vs,fxs,sms,N,D,I,X,N'=>∃(v:Value) (vs':yp) (D1 D2:List cD) (I1 I2:fF) (X1 X2:kq) (N1:List Nm),vs=v::vs'/\Sem p v (fx1 p fxs) sms.head? N D1 I1 X1 N1/\wB l vs' fxs.tail sms.tail N1 D2 I2 X2 N'/\D=D1++D2/\I=I1++I2/\X=X1++X2
end
def Ij(fix:Nat->Fx)(val:Nat->Option Value):List (Bool×Nat×Pt)->List Nm->List cD->fF->kq->List Nm->Prop
 |[],N,D,I,X,N'=>D=[]/\I=[]/\X=[]/\N'=N
 |x::l,N,D,I,X,N'=>∃(v:Value) (D1 D2:List cD) (I1 I2:fF) (X1 X2:kq) (N1:List Nm),(aC x.1 ((fix x.2.1).map (·.1)) (val x.2.1))=some v/\Sem x.2.2 v (aC x.1 (fix x.2.1) none) none N D1 I1 X1 N1/\Ij fix val l N1 D2 I2 X2 N'/\D=D1++D2/\I=I1++I2/\X=X1++X2
mutual
def AV.same:AV->AV->Bool
 | .fn f a b,v=>(match v with
  | .fn f' a' b'=>Nat.beq f f'&&AV.Qm a a'&&AV.Qm b b'
  |_=>false)
 | .tuple l,v=>(match l with
  |[]=>(match v with
   | .tuple l=>l.isEmpty
   |_=>false)
  |_=>false)
 | .int k x,v=>(match v with
  | .int k' x'=>gG k k'&&(x==x')
  |_=>false)
 | .raw u,v=>(match v with
  | .raw u'=>(match u,u' with
   | .slice none m n,.slice none m' n'=>Nat.beq m m'&&Nat.beq n n'
   | .pointer none,.pointer none=>true
   | .nilFunc,.nilFunc=>true
   | .nilIface,.nilIface=>true
   | .map none,.map none=>true
   |_,_=>false)
  |_=>false)
 |_,_=>false
def AV.Qm:List AV->List AV->Bool
 |[],l'=>l'.isEmpty
 |v::l,l'=>(match l' with
  |v'::l'=>AV.same v v'&&AV.Qm l l'
  |[]=>false)
end
mutual
theorem AV.Ks{ρ ρ':aB}:(v:AV)->(c:AV)->AV.same v c=true->c.val ρ'=v.val ρ
 | .fn f a b,c,h=>by
  unfold AV.same at h;split at h
  next g e d=>simp only [ar] at h;simp only [AV.val];rw [aS h.1.1,AV.NN a e h.1.2,AV.NN b d h.2]
  .cases h
 | .tuple l,c,h=>by
  unfold AV.same at h;split at h
  .split at h
   .rename_i l';have:l'=[]:=by simpa using h
    subst this;simp only [AV.val,AV.ao]
   .cases h
  .cases h
 | .raw u,c,h=>by
  unfold AV.same at h;split at h
  .rename_i u';split at h
   .simp only [ar] at h;simp only [AV.val];rw [aS h.1,aS h.2]
   .simp only [AV.val]
   .simp only [AV.val]
   .simp only [AV.val]
   .simp only [AV.val]
   .cases h
  .cases h
 | .int k x,c,h=>by
  unfold AV.same at h;split at h
  .simp only [ar] at h;simp only [AV.val];rw [iE h.1,eq_of_beq h.2]
  .cases h
 | .bool _,c,h|.str _,c,h|.agg _,c,h|.ptr _ _,c,h|.sl _,c,h|.adr _ _,c,h|.ifc _ _,c,h|.mp _,c,h|.gp _,c,h|.nv _,c,h|.sfp _ _,c,h|.bs _ _,c,h=>by unfold AV.same at h;cases h
theorem AV.NN{ρ ρ':aB}:(l:List AV)->(l':List AV)->AV.Qm l l'=true->AV.ao ρ' l'=AV.ao ρ l
 |[],l',h=>by
  unfold AV.Qm at h;have:l'=[]:=by simpa using h
  subst this;rfl
 |v::l,l',h=>by
  unfold AV.Qm at h;split at h
  next a l'=>simp only [ar] at h;simp only [AV.ao];rw [AV.Ks v a h.1,AV.NN l l' h.2]
  .cases h
end
structure MR where
 B:xb
 S:List (Bool×Src)
 D:List cD
 X:List (Nat×List AV)
def aeS(G H:List Row)(t:Ty)(v:AV):Option (za×Src×List t.T):=match v with
 | .sl j=>(match eI G H (nI j) with
  |some (s,.sli none _ t' l _)=>(match tE.cD.asL t ⟨.l t',l⟩ with
   |some l=>some (some j,s,l)
   |none=>none)
  |_=>none)
 | .raw (.slice none 0 0)=>some (none,.nilI t,[])
 |_=>none
def afw(G H:List Row)(t:Ty)(e:TypeId)(v:AV):Option (za×Src×List t.T):=match v with
 | .sl j=>(match eI G H (nI j) with
  |some (s,.own _ t' e' l _)=>aC ( Nat.beq e e' ) ( match tE.cD.asL t ⟨.l t',l⟩ with
   |some l=>some (some j,s,l)
   |none=>none
   ) none
  |_=>none)
 | .raw (.slice none 0 0)=>some (none,.nilO t e,[])
 |_=>none
structure DR(t:Ty) where
 x:t.T
 vs:List AV
 o:w5
 B:xb
 S:List (Bool×Src)
def yS(G H:List Row):(t:Ty)->List AV->w5->xb->Option (DR t)
 | .i k,vs,o,B=>(match vs with
  | .int k' x::vs=>aC ( gG k k' ) ( some ⟨x,vs,o,B,[]⟩ ) none
  |_=>none)
 | .bo,vs,o,B=>(match vs with
  | .bool x::vs=>some ⟨x,vs,o,B,[]⟩
  |_=>none)
 | .s,vs,o,B=>(match vs with
  | .str x::vs=>some ⟨x,vs,o,B,[]⟩
  |_=>none)
 | .un,vs,o,B=>some ⟨(),vs,o,B,[]⟩
 | .p a b,vs,o,B=>(match yS G H a vs o B with
  |some d=>(match yS G H b d.vs d.o d.B with
   |some e=>some ⟨(d.x,e.x),e.vs,e.o,e.B,d.S++e.S⟩
   |none=>none)
  |none=>none)
 | .l t,vs,o,B=>(match vs with
  |v::vs=>(match o with
   |none::o=>(match aeS G H t v with
    |some q=>some ⟨q.2.2,vs,o,B++[q.1],[(false,q.2.1)]⟩
    |none=>none)
   |some e::o=>(match afw G H t (oe e) v with
    |some q=>some ⟨q.2.2,vs,o,B++[q.1],[(ow e,q.2.1)]⟩
    |none=>none)
   |[]=>none)
  |[]=>none)
 | .ex,vs,o,B=>(match vs with
  | .int .i64 a:: .int .i64 b:: .int .i64 c::v::vs=>(match o with
   |none::o=>(match aeS G H .ex v with
    |some q=>some ⟨Ex.mk a b c q.2.2,vs,o,B++[q.1],[(false,q.2.1)]⟩
    |none=>none)
   |some e::o=>(match afw G H .ex (oe e) v with
    |some q=>some ⟨Ex.mk a b c q.2.2,vs,o,B++[q.1],[(ow e,q.2.1)]⟩
    |none=>none)
   |[]=>none)
  |_=>none)
 |_,_,_,_=>none
def VF:za->za->Bool
 |some a,some b=>Nat.beq a b
 |none,none=>true
 |_,_=>false
theorem arF{a b:za}(h:VF a b=true):a=b:=by
 unfold VF at h;split at h
 .rw [aS h]
 .rfl
 .cases h
abbrev iD:=Option (AV×List AV)
def oL(p:Pt)(fxs:List AV):iD:=match fxs with
 |[]=>none
 |u::_=>aC (P1 p) none (some (u,[]))
def pk(p:Pt)(fx:iD):Bool:=match p with
 | .agg _=>(match fx with
  |some (.agg _,_)=>true
  |some _=>false
  |none=>true)
 | .fn _ _ _=>(match fx with
  |some (.fn _ _ _,_)=>true
  |some _=>false
  |none=>true)
 | .ifc _ _=>(match fx with
  |some (.ifc _ _,_)=>true
  |some _=>false
  |none=>true)
 |_=>true
def ij(fx:iD):List AV:=match fx with
 |some (.agg us,_)=>us
 |some (.fn _ _ b,_)=>b
 |some (.ifc _ u,_)=>[u]
 |_=>[]
def K4(fx:iD):List AV:=match fx with
 |some p=>p.2
 |none=>[]
def nvs(v:AV)(fx:iD)(sm:Option AV):Bool:=match fx with
 |some _=>true
 |none=>(match sm with
  |some (.nv u)=>(match v with
   | .nv w=>Nat.beq u w
   |_=>false)
  |_=>false)
def aoy:AV->AV->Bool
 | .ptr a b,.ptr c d=>Nat.beq a c&&Nat.beq b d
 |_,_=>false
theorem asG{u v:AV}(h:aoy u v=true):u=v:=by
 unfold aoy at h;split at h
 .simp only [ar] at h;rw [aS h.1,aS h.2]
 .cases h
def aeW:Pt->Bool
 | .same=>true
 |_=>false
mutual
def mt(G H:List Row):Pt->AV->iD->Option AV->xb->Option MR
 | .int k,v,_,_,B=>(match v with
  | .int k' x=>aC (gG k k') (some ⟨B,[],[⟨.i k,x⟩],[]⟩) none
  |_=>none)
 | .bool,v,_,_,B=>(match v with
  | .bool x=>some ⟨B,[],[⟨.bo,x⟩],[]⟩
  |_=>none)
 | .str,v,_,_,B=>(match v with
  | .str x=>some ⟨B,[],[⟨.s,x⟩],[]⟩
  |_=>none)
 | .sli t,v,_,_,B=>(match aeS G H t v with
  |some q=>some ⟨B++[q.1],[(false,q.2.1)],[⟨.l t,q.2.2⟩],[]⟩
  |none=>none)
 | .own t e m,v,_,_,B=>(match afw G H t e v with
  |some q=>some ⟨B++[q.1],[(m,q.2.1)],[⟨.l t,q.2.2⟩],[]⟩
  |none=>none)
 | .slr n,v,_,_,B=>(match v with
  | .sl j=>aC (VF ((B[n]?).getD none) (some j)) (some ⟨B,[],[],[]⟩) none
  |_=>none)
 | .bx t off m vs,v,fx,_,B=>(match v with
  | .ptr j off'=>aC (Nat.beq off off') (match eI G H (Ar j) with
   |some (s,.box _ t' cs)=>aC (Nat.beq t t') (match Jt G H vs cs [] (K4 fx) (B++[some j]) with
     |some r=>some ⟨r.B,(m,s)::r.S,r.D,(aC m [(B.length,cs)] [])++r.X⟩
     |none=>none) none
   |_=>none) none
  |_=>none)
 | .ptr n off,v,_,_,B=>(match v with
  | .ptr j off'=>aC (Nat.beq off off'&&VF ((B[n]?).getD none) (some j)) (some ⟨B,[],[],[]⟩) none
  |_=>none)
 | .mp k u m,v,_,_,B=>(match v with
  | .mp j=>(match eI G H (akj j) with
   |some (s,.mp _ k' u' d)=>(match cD.as (.mp k u) ⟨.mp k' u',d⟩ with
    |some d=>some ⟨B++[some j],[(m,s)],[⟨.mp k u,d⟩],[]⟩
    |none=>none)
   |_=>none)
  | .raw (.map none)=>some ⟨B++[none],[(m,.nilM k u)],[⟨.mp k u,(none:Option (List (k.T×u.T)))⟩],[]⟩
  |_=>none)
 | .it,v,_,_,B=>(match v with
  | .ptr j 0=>(match eI G H (atm j) with
   |some (s,.it _ x p)=>some ⟨B++[some j],[(true,s)],[⟨.s,x⟩,⟨.n,p⟩],[]⟩
   |_=>none)
  |_=>none)
 | .agg l,v,fx,_,B=>(match v with
  | .agg vs=>aC (pk (.agg l) fx) (Jt G H l vs (aC fx.isSome vs []) [] B) none
  |_=>none)
 | .cQ l,v,_,_,B=>(match v with
  | .tuple vs=>Jt G H l vs [] [] B
  |_=>none)
 | .fn f a b,v,fx,_,B=>(match v with
  | .fn f' a' b'=>aC (Nat.beq f f'&&pk (.fn f a b) fx) (match Jt G H a a' [] [] B with
   |some r=>(match Jt G H b b' (aC fx.isSome b' []) [] r.B with
    |some q=>some ⟨q.B,r.S++q.S,r.D++q.D,r.X++q.X⟩
    |none=>none)
   |none=>none) none
  |_=>none)
 | .ifc t p,v,fx,_,B=>(match v with
  | .ifc t' u=>aC (Nat.beq t t'&&pk (.ifc t p) fx) (mt G H p u (oL p (aC fx.isSome [u] [])) none B) none
  |_=>none)
 | .kr c,v,_,_,B=>aC (AV.same c v) (some ⟨B,[],[],[]⟩) none
 | .dat t o,v,_,_,B=>(match v with
  | .agg cs=>(match yS G H t cs o B with
   |some ⟨x,[],_,B',S⟩=>some ⟨B',S,[⟨t,x⟩],[]⟩
   |_=>none)
  |_=>none)
 | .ifn,v,_,_,B=>(match v with
  | .ifc t (.agg [])=>some ⟨B,[],[⟨.n,t⟩],[]⟩
  |_=>none)
 | .sfp,v,_,_,B=>(match v with
  | .raw (.pointer none)=>(match B[B.length-1]? with
   |some _=>some ⟨B,[],[⟨.bo,false⟩],[]⟩
   |none=>none)
  | .sfp j f=>aC (VF ((B[B.length-1]?).getD none) (some j)) (some ⟨B,[],[⟨.bo,f⟩],[]⟩) none
  | .ptr j 0=>aC (VF ((B[B.length-1]?).getD none) (some j)) (some ⟨B,[],[⟨.bo,true⟩],[]⟩) none
  |_=>none)
 | .sty p,v,fx,sm,B=>(match fx with
  |some _=>none
  |none=>(match sm with
   |some u=>aC (aoy (uN G H u) v&& !(P1 p)) (mt G H p v (some (v,[])) none B) none
   |none=>none))
 | .same,v,fx,sm,B=>aC (nvs v fx sm) (some ⟨B,[],[],[]⟩) none
def Jt(G H:List Row):List Pt->List AV->List AV->List AV->xb->Option MR
 |[],vs,_,_,B=>(match vs with
  |[]=>some ⟨B,[],[],[]⟩
  |_=>none)
 |p::l,vs,fxs,sms,B=>(match vs with
  |v::vs=>(match mt G H p (aC (aeW p) v (uN G H v)) (oL p fxs) sms.head? B with
   |some r=>(match Jt G H l vs fxs.tail sms.tail r.B with
    |some q=>some ⟨q.B,r.S++q.S,r.D++q.D,r.X++q.X⟩
    |none=>none)
   |none=>none)
  |[]=>none)
end
def tf(fix:Nat->iD):List (Bool×Nat×Pt)->Bool
 |[]=>true
 |x::l=>pk x.2.2 (aC x.1 (fix x.2.1) none)&&tf fix l
theorem arI{G H:List Row}{p:Pt}{v:AV}{fx:iD}{a:Option AV}{B:xb}{r:MR}(h:mt G H p v fx a B=some r):pk p fx=true:=by
 cases p <;> first|rfl|skip
 .unfold mt at h;split at h
  .exact (aK h).1
  .cases h
 .unfold mt at h;split at h
  .have:=(aK h).1;simp only [ar] at this;exact this.2
  .cases h
 .unfold mt at h;split at h
  .have:=(aK h).1;simp only [ar] at this;exact this.2
  .cases h
def mtV(G H:List Row)(look:Nat->Option AV)(fix:Nat->iD):List (Bool×Nat×Pt)->xb->Option MR
 |[],B=>some ⟨B,[],[],[]⟩
 |x::l,B=>(match (aC x.1 ((fix x.2.1).map (·.1)) (look x.2.1)) with
  |some v=>(match mt G H x.2.2 v (aC x.1 (fix x.2.1) none) none B with
   |some r=>(match mtV G H look fix l r.B with
    |some q=>some ⟨q.B,r.S++q.S,r.D++q.D,r.X++q.X⟩
    |none=>none)
   |none=>none)
  |none=>none)
theorem afU{G H:List Row}{b:Nat->Option AV}{fix:Nat->iD}:{l:List (Bool×Nat×Pt)}->{B:xb}->{r:MR}->mtV G H b fix l B=some r->tf fix l=true
 |[],_,_,_=>rfl
 |x::l,B,r,h=>by
  unfold mtV at h;split at h
  .split at h
   .rename_i q c;split at h
    next d a=>simp only [tf,ar];exact ⟨arI c,afU a⟩
    .cases h
   .cases h
  .cases h
def ck(a b:Item):Prop:=(∀x,x∈b.own->x∈a.own)/\∀M w,a.P M w->b.P M w
theorem ck.refl{a:Item}:ck a a:=⟨λ_ h=>h,λ_ _ h=>h⟩
def ajL(ρ:aB)(T:aE)(G H:List Row)(s:Src)(it:Item):Prop:=
 (it.own=[]/\(∀M w,it.P M w)/\∀r,¬s.at_ G H r)\/∃r,s.at_ G H r/\ck (r.item ρ T) it/\(r.cW=true->it.own=[])/\(r.cW=false->ck it (r.item ρ T))
def SI(ρ:aB)(T:aE)(G H:List Row)(a:Bool×Src)(b:Bool×Item):Prop:=a.1=b.1/\ajL ρ T G H a.2 b.2
inductive fQ{α β:Type}(R:α->β->Prop):List α->List β->Prop
 |nil:fQ R [] []
 |cons {a b l m}:R a b->fQ R l m->fQ R (a::l) (b::m)
theorem fQ.length{α β:Type}{R:α->β->Prop}{l:List α}{m:List β}(h:fQ R l m):l.length=m.length:=by
 induction h with
 |nil=>rfl
 |cons _ _ ih=>simp [ih]
theorem fQ.append{α β:Type}{R:α->β->Prop}{l l':List α}{m a:List β}(h:fQ R l m)(k:fQ R l' a):fQ R (l++l') (m++a):=by
 induction h with
 |nil=>exact k
 |cons b _ ih=>exact .cons b ih
theorem fQ.get{α β:Type}{R:α->β->Prop}{l:List α}{m:List β}(h:fQ R l m):∀{i:Nat} {a:α},l[i]? =some a->∃b,m[i]? =some b/\R a b:=by
 induction h with
 |nil=>intro i a h;simp at h
 |cons c _ ih=>
  intro i a h;cases i with
  |zero=>simp at h;subst h;exact ⟨_,rfl,c⟩
  |succ i=>exact ih (by simpa using h)
def NBr(ρ:aB)(o:za)(a:Nm):Prop:=match o with
 |some j=>a.b=(ρ j).b/\a.v=(ρ j).v/\a.m=(ρ j).m
 |none=>a.b=0/\a.v=(none,0,0)/\a.m=none
abbrev NB(ρ:aB)(B:xb)(N:List Nm):Prop:=fQ (NBr ρ) B N
theorem NB.at_{ρ:aB}{B:xb}{N:List Nm}(h:NB ρ B N){n j:Nat}(hb:VF ((B[n]?).getD none) (some j)=true):∃a,N[n]? =some a/\a.b=(ρ j).b/\a.v=(ρ j).v:=by
 have e:=arF hb;cases hn:B[n]? with
 |none=>rw [hn] at e;cases e
 |some o=>
  rw [hn] at e;simp only [qg] at e;subst e;obtain ⟨a,d,c⟩:=h.get hn;exact ⟨a,d,c.1,c.2.1⟩
section
variable {ρ : aB} {T : aE} {G H : List Row} {Φ : Ctx} {w : World}
theorem ZU(g:Sat (ab ρ T G++(ab ρ T H++Φ)) w){t:Ty}{v:AV}{q:za×Src×List t.T}(h:aeS G H t v=some q):∃a:Nm,NBr ρ q.1 a/\v.val ρ=sl a.v/\ajL ρ T G H q.2.1 (Pk true t.rep a.v q.2.2 false):=by
 unfold aeS at h;split at h
 .rename_i j;split at h
  .rename_i s c t' l b d;split at h
   next l' hl=>cases h;obtain ⟨rfl,rfl⟩:=sL hl;obtain ⟨f,e⟩:=cp d;have:c=j:=aS e;subst this;refine ⟨ρ c,⟨rfl,rfl,rfl⟩,by simp only [AV.val],.inr ⟨_,f,⟨λ_ h=>h,λM w h _=>⟨(h aE.get_none).1,λhb=>by cases hb⟩⟩,λ_=>rfl,λh=>by cases h⟩⟩
   .cases h
  .cases h
 .cases h;exact ⟨dB,⟨rfl,rfl,rfl⟩,by simp only [AV.val];rfl,.inl ⟨rfl,λM w _=>⟨ca.nil,λhb=>by cases hb⟩,λr h=>h⟩⟩
 .cases h
theorem ZP(i:Sat (ab ρ T G++(ab ρ T H++Φ)) w){t:Ty}{e:TypeId}{v:AV}{q:za×Src×List t.T}(h:afw G H t e v=some q):∃a:Nm,NBr ρ q.1 a/\v.val ρ=sl a.v/\a.y=⟨.l t,q.2.2⟩/\ajL ρ T G H q.2.1 (oa t.rep e a.v q.2.2 True):=by
 unfold afw at h;split at h
 .rename_i j;split at h
  .rename_i s d t' e' l g k;obtain ⟨m,c⟩:=aK h;have o:=aS m;subst o;split at c
   next l' hl=>cases c;obtain ⟨rfl,rfl⟩:=sL hl;obtain ⟨f,n⟩:=cp k;have:d=j:=aS n;subst this;have b:=(Src.holds i f).2;refine ⟨{ ρ d with y:=⟨.l t',l⟩ },⟨rfl,rfl,rfl⟩,by simp only [AV.val],rfl,.inr ⟨_,f,⟨λ_ h=>h,λM w h=>⟨h.1,trivial⟩⟩,λh=>(by cases h),λ_=>⟨λ_ h=>h,λM w h=>⟨h.1,b⟩⟩⟩⟩
   .cases c
  .cases h
 .cases h;exact ⟨{ dB with y:=⟨.l t,([]:List t.T)⟩ },⟨rfl,rfl,rfl⟩,by simp only [AV.val];rfl,rfl,.inl ⟨rfl,λM w=>⟨bU.nil,trivial⟩,λr h=>h⟩⟩
 .cases h
theorem Zy(m:Sat (ab ρ T G++(ab ρ T H++Φ)) w):(t:Ty)->(vs:List AV)->(o:w5)->(B:xb)->(d:DR t)->(N:List Nm)->yS G H t vs o B=some d->NB ρ B N->
  ∃us N' I,vs=us++d.vs/\Vx t d.x (AV.ao ρ us) o N I N' d.o/\NB ρ d.B N'/\fQ (SI ρ T G H) d.S I
 | .i k,vs,o,B,d,N,h,hN=>by
  unfold yS at h;split at h
  next V x us=>obtain ⟨D,C⟩:=aK h;have:=iE D;subst this;cases C;exact ⟨[.int k x],N,[],rfl,⟨by simp only [AV.ao,AV.val],rfl,rfl,rfl⟩,hN,.nil⟩
  .cases h
 | .bo,vs,o,B,d,N,h,hN=>by
  unfold yS at h;split at h
  next x us=>cases h;exact ⟨[.bool x],N,[],rfl,⟨by simp only [AV.ao,AV.val],rfl,rfl,rfl⟩,hN,.nil⟩
  .cases h
 | .s,vs,o,B,d,N,h,hN=>by
  unfold yS at h;split at h
  next x us=>cases h;exact ⟨[.str x],N,[],rfl,⟨by simp only [AV.ao,AV.val],rfl,rfl,rfl⟩,hN,.nil⟩
  .cases h
 | .un,vs,o,B,d,N,h,hN=>by
  unfold yS at h;cases h;exact ⟨[],N,[],rfl,⟨by simp only [AV.ao],rfl,rfl,rfl⟩,hN,.nil⟩
 | .n,vs,o,B,d,N,h,hN=>by unfold yS at h;cases h
 | .mp _ _,vs,o,B,d,N,h,hN=>by unfold yS at h;cases h
 | .p a b,vs,o,B,d,N,h,hN=>by
  unfold yS at h;split at h
  .rename_i r D;split at h
   next d2 C=>cases h;obtain ⟨z,K,M,g,c,f,U⟩:=Zy m a vs o B r N D hN;obtain ⟨y,N2,L,Q,O,P,R⟩:=Zy m b r.vs r.o r.B d2 K C f;refine ⟨z++y,N2,M++L,by rw [g,Q,bb],?_,P,U.append R⟩;rw [dJ];exact ⟨_,_,K,M,L,r.o,c,O,rfl,rfl⟩
   .cases h
  .cases h
 | .l t,vs,o,B,d,N,h,hN=>by
  unfold yS at h;split at h
  .rename_i v us;split at h
   .rename_i A;split at h
    next q j=>cases h;obtain ⟨a,f,g,c⟩:=ZU m j;refine ⟨[v],N++[a],_,rfl,⟨a,by simp only [AV.ao];rw [g],rfl,.inl ⟨rfl,rfl⟩⟩,hN.append (.cons f .nil),.cons ⟨rfl,c⟩ .nil⟩
    .cases h
   .rename_i e A;split at h
    next q j=>cases h;obtain ⟨a,f,g,u,c⟩:=ZP m j;refine ⟨[v],N++[a],_,rfl,⟨a,by simp only [AV.ao];rw [g],rfl,.inr ⟨e,rfl,rfl,u⟩⟩,hN.append (.cons f .nil),.cons ⟨rfl,c⟩ .nil⟩
    .cases h
   .cases h
  .cases h
 | .ex,vs,o,B,d,N,h,hN=>by
  unfold yS at h;split at h
  .rename_i J F E v us;split at h
   .rename_i A;split at h
    next q j=>cases h;obtain ⟨a,f,g,c⟩:=ZU m j;refine ⟨[.int .i64 J,.int .i64 F,.int .i64 E,v],N++[a],_,rfl,⟨a,by simp only [AV.ao,AV.val];rw [g];rfl,rfl,.inl ⟨rfl,rfl⟩⟩,hN.append (.cons f .nil),.cons ⟨rfl,c⟩ .nil⟩
    .cases h
   .rename_i e A;split at h
    next q j=>cases h;obtain ⟨a,f,g,u,c⟩:=ZP m j;refine ⟨[.int .i64 J,.int .i64 F,.int .i64 E,v],N++[a],_,rfl,⟨a,by simp only [AV.ao,AV.val];rw [g];rfl,rfl,.inr ⟨e,rfl,rfl,u⟩⟩,hN.append (.cons f .nil),.cons ⟨rfl,c⟩ .nil⟩
    .cases h
   .cases h
  .cases h
abbrev eB(ρ:aB)(X:List (Nat×List AV)):kq:=X.map λx=>(x.1,AV.ao ρ x.2)
abbrev fY(ρ:aB)(fx:iD):Fx:=fx.map λq=>(q.1.val ρ,AV.ao ρ q.2)
theorem aiA{fx:iD}:fxC (fY ρ fx)=AV.ao ρ (K4 fx):=by
 cases fx with
 |none=>simp [fxC,K4,AV.ao]
 |some q=>rfl
theorem P5{p:Pt}{a:List AV}:fx1 p (AV.ao ρ a)=fY ρ (oL p a):=by
 cases a with
 |nil=>rfl
 |cons u us=>
  unfold fx1 oL;simp only [AV.ao];cases P1 p <;> simp [aC,AV.ao]
theorem afX{b:Bool}{x:List AV}:AV.ao ρ (aC b x [])=aC b (AV.ao ρ x) []:=by
 cases b
 .show AV.ao ρ []=[];simp only [AV.ao]
 .rfl
theorem YN{fx:iD}:(fY ρ fx).isSome=fx.isSome:=by cases fx <;> rfl
theorem vO{fx:iD}{v:AV}(h:∀q,fx=some q->q.1.val ρ=v.val ρ):xg (fY ρ fx) (v.val ρ):=by
 intro p hp;cases fx with
 |none=>cases hp
 |some q=>cases hp;exact (h q rfl).symm
theorem aa6(a:Sat (ab ρ T G++(ab ρ T H++Φ)) w){p:Pt}{v:AV}:(aC (aeW p) v (uN G H v)).val ρ=v.val ρ:=by
 cases aeW p
 .exact Wf a
 .rfl
theorem abj{l:List AV}:(AV.ao ρ l).head? =l.head?.map (AV.val ρ):=by cases l <;> simp [AV.ao]
theorem Gn{l:List AV}:(AV.ao ρ l).tail=AV.ao ρ l.tail:=by cases l <;> simp [AV.ao]
mutual
theorem Lg(L:Sat (ab ρ T G++(ab ρ T H++Φ)) w):(p:Pt)->(v:AV)->(fx:iD)->(y:Option AV)->(B:xb)->(r:MR)->(N:List Nm)->mt G H p v fx y B=some r->NB ρ B N->(∀q,fx=some q->q.1.val ρ=v.val ρ)->
  ∃F I,Sem p (v.val ρ) (fY ρ fx) (y.map (AV.val ρ)) N r.D I (eB ρ r.X) F/\NB ρ r.B F/\fQ (SI ρ T G H) r.S I
 | .int k,v,fx,y,B,r,N,h,hN,hf=>by
  unfold mt at h;split at h
  next k' x=>obtain ⟨g,i⟩:=aK h;have:=iE g;subst this;cases i;exact ⟨N,[],⟨x,by simp only [AV.val],rfl,rfl,rfl,rfl⟩,hN,.nil⟩
  .cases h
 | .bool,v,fx,y,B,r,N,h,hN,hf=>by
  unfold mt at h;split at h
  next x=>cases h;exact ⟨N,[],⟨x,by simp only [AV.val],rfl,rfl,rfl,rfl⟩,hN,.nil⟩
  .cases h
 | .str,v,fx,y,B,r,N,h,hN,hf=>by
  unfold mt at h;split at h
  next x=>cases h;exact ⟨N,[],⟨x,by simp only [AV.val],rfl,rfl,rfl,rfl⟩,hN,.nil⟩
  .cases h
 | .sli t,v,fx,y,B,r,N,h,hN,hf=>by
  unfold mt at h;split at h
  next q K=>cases h;obtain ⟨a,C,E,A⟩:=ZU L K;exact ⟨N++[a],_,⟨a,q.2.2,E,rfl,rfl,rfl,rfl⟩,hN.append (.cons C .nil),.cons ⟨rfl,A⟩ .nil⟩
  .cases h
 | .own t e m,v,fx,y,B,r,N,h,hN,hf=>by
  unfold mt at h;split at h
  next q K=>cases h;obtain ⟨a,C,E,y1,A⟩:=ZP L K;exact ⟨N++[a],_,⟨a,q.2.2,E,vO hf,rfl,rfl,rfl,rfl,y1⟩,hN.append (.cons C .nil),.cons ⟨rfl,A⟩ .nil⟩
  .cases h
 | .slr n,v,fx,y,B,r,N,h,hN,hf=>by
  unfold mt at h;split at h
  next j=>obtain ⟨g,i⟩:=aK h;cases i;obtain ⟨a,z,P,a3⟩:=hN.at_ g;exact ⟨N,[],⟨a,z,by simp only [AV.val];rw [a3],rfl,rfl,rfl,rfl⟩,hN,.nil⟩
  .cases h
 | .bx t off m vs,v,fx,y,B,r,N,h,hN,hf=>by
  unfold mt at h;split at h
  .rename_i j Q;obtain ⟨g,i⟩:=aK h;have E:=aS g;subst E;split at i
   .rename_i s J t' cs O;obtain ⟨h3,h4⟩:=aK i;have V:=aS h3;subst V;split at h4
    next q K=>cases h4;obtain ⟨U,R⟩:=cp O;have:J=j:=aS R;subst this;obtain ⟨F,I,A,C,z⟩:=A5 L vs cs [] (K4 fx) (B++[some J]) q (N++[ρ J]) K (.inl rfl) (hN.append (.cons ⟨rfl,rfl,rfl⟩ .nil));refine ⟨F,_,⟨ρ J,AV.ao ρ cs,I,eB ρ q.X,by simp only [AV.val],vO hf,by rw [aiA];simpa only [AV.ao] using A,rfl,?_⟩,C,.cons ⟨rfl,.inr ⟨_,U,ck.refl,(λh=>by cases h),λ_=>ck.refl⟩⟩ z⟩;rw [<-hN.length];cases m <;> simp [eB]
    .cases h4
   .cases i
  .cases h
 | .ptr n off,v,fx,y,B,r,N,h,hN,hf=>by
  unfold mt at h;split at h
  next j Q=>obtain ⟨g,i⟩:=aK h;simp only [ar] at g;cases i;have E:=aS g.1;subst E;obtain ⟨a,z,P,a3⟩:=hN.at_ g.2;exact ⟨N,[],⟨a,z,by simp only [AV.val];rw [P],rfl,rfl,rfl,rfl⟩,hN,.nil⟩
  .cases h
 | .mp k u m,v,fx,y,B,r,N,h,hN,hf=>by
  unfold mt at h;split at h
  .rename_i j;split at h
   .rename_i s J k' u' d O;split at h
    next d' hd=>cases h;have:=cD.P0 hd;cases this;obtain ⟨U,R⟩:=cp O;have:J=j:=aS R;subst this;exact ⟨N++[ρ J],_,⟨ρ J,d',by simp only [AV.val],vO hf,rfl,rfl,rfl,rfl⟩,hN.append (.cons ⟨rfl,rfl,rfl⟩ .nil),.cons ⟨rfl,.inr ⟨_,U,ck.refl,(λh=>by cases h),λ_=>ck.refl⟩⟩ .nil⟩
    .cases h
   .cases h
  .cases h;exact ⟨N++[dB],_,⟨dB,none,by simp only [AV.val];rfl,vO hf,rfl,rfl,rfl,rfl⟩,hN.append (.cons ⟨rfl,rfl,rfl⟩ .nil),.cons ⟨rfl,.inl ⟨rfl,λM w=>pB.nil,λr h=>h⟩⟩ .nil⟩
  .cases h
 | .it,v,fx,y,B,r,N,h,hN,hf=>by
  unfold mt at h;split at h
  .rename_i j;split at h
   next s J x p O=>cases h;obtain ⟨U,R⟩:=cp O;have:J=j:=aS R;subst this;exact ⟨N++[ρ J],_,⟨ρ J,x,p,by simp only [AV.val],vO hf,rfl,rfl,rfl,rfl⟩,hN.append (.cons ⟨rfl,rfl,rfl⟩ .nil),.cons ⟨rfl,.inr ⟨_,U,ck.refl,(λh=>by cases h),λ_=>ck.refl⟩⟩ .nil⟩
   .cases h
  .cases h
 | .agg l,v,fx,y,B,r,N,h,hN,hf=>by
  unfold mt at h;split at h
  next vs=>obtain ⟨_,h⟩:=aK h;obtain ⟨F,I,A,C,z⟩:=A5 L l vs (aC fx.isSome vs []) [] B r N h (by cases fx <;> first|exact .inl rfl|exact .inr rfl) hN;exact ⟨F,I,⟨AV.ao ρ vs,by simp only [AV.val],vO hf,by rw [YN,<-afX];simpa only [AV.ao] using A⟩,C,z⟩
  .cases h
 | .cQ l,v,fx,y,B,r,N,h,hN,hf=>by
  unfold mt at h;split at h
  next vs=>obtain ⟨F,I,A,C,z⟩:=A5 L l vs [] [] B r N h (.inl rfl) hN;exact ⟨F,I,⟨AV.ao ρ vs,by simp only [AV.val],by simpa only [AV.ao] using A⟩,C,z⟩
  .cases h
 | .fn f a b,v,fx,y,B,r,N,h,hN,hf=>by
  unfold mt at h;split at h
  .rename_i f' a' b';obtain ⟨g,i⟩:=aK h;simp only [ar] at g;have E:=aS g.1;subst E;split at i
   .rename_i W hq1;split at i
    next Y Z=>cases i;obtain ⟨N1,I1,A,C,z⟩:=A5 L a a' [] [] B W N hq1 (.inl rfl) hN;obtain ⟨N2,I2,s2,n2,P⟩:=A5 L b b' (aC fx.isSome b' []) [] W.B Y N1 Z (by cases fx <;> first|exact .inl rfl|exact .inr rfl) C;exact ⟨N2,I1++I2,⟨AV.ao ρ a',AV.ao ρ b',W.D,Y.D,I1,I2,eB ρ W.X,eB ρ Y.X,N1,by simp only [AV.val],vO hf,by simpa only [AV.ao] using A,by rw [YN,<-afX];simpa only [AV.ao] using s2,rfl,rfl,by simp [eB]⟩,n2,z.append P⟩
    .cases i
   .cases i
  .cases h
 | .ifc t p,v,fx,y,B,r,N,h,hN,hf=>by
  unfold mt at h;split at h
  .rename_i t' u;obtain ⟨g,i⟩:=aK h;simp only [ar] at g;have E:=aS g.1;subst E;obtain ⟨F,I,A,C,z⟩:=Lg L p u (oL p (aC fx.isSome [u] [])) none B r N i hN (λq K=>by
    cases fx with
    |none=>cases K
    |some f=>
     have K:aC (P1 p) none (some (u,[]))=some q:=K;obtain ⟨_,h3⟩:=Qy K;cases h3;rfl)
   refine ⟨F,I,⟨u.val ρ,by simp only [AV.val],vO hf,?_⟩,C,z⟩;have V:(aC (fY ρ fx).isSome [u.val ρ] []:yp)=AV.ao ρ (aC fx.isSome [u] []):=by
    cases fx
    .show ([]:yp)=AV.ao ρ [];simp only [AV.ao]
    .show [u.val ρ]=AV.ao ρ [u];simp only [AV.ao]
   rw [V,P5];exact A
  .cases h
 | .kr c,v,fx,y,B,r,N,h,hN,hf=>by
  unfold mt at h;obtain ⟨g,i⟩:=aK h;cases i;exact ⟨N,[],⟨⟨AV.Ks c v g,λρ'=>(AV.Ks (ρ':=ρ) (ρ:=ρ') c v g).symm.trans (AV.Ks c v g)⟩,rfl,rfl,rfl,rfl⟩,hN,.nil⟩
 | .dat t o,v,fx,y,B,r,N,h,hN,hf=>by
  unfold mt at h;split at h
  .rename_i cs;split at h
   next x o' B' S hd=>cases h;obtain ⟨us,F,I,E,A,C,z⟩:=Zy L t cs o B _ N hd hN;simp only [l5] at E;subst E;exact ⟨F,I,⟨_,x,o',by simp only [AV.val],rfl,A,rfl⟩,C,z⟩
   .cases h
  .cases h
 | .ifn,v,fx,y,B,r,N,h,hN,hf=>by
  unfold mt at h;split at h
  next t=>cases h;exact ⟨N,[],⟨t,by simp only [AV.val,AV.ao],rfl,rfl,rfl,rfl⟩,hN,.nil⟩
  .cases h
 | .sfp,v,fx,y,B,r,N,h,hN,hf=>by
  have hl:=hN.length;unfold mt at h;split at h
  .split at h
   next o ho=>cases h;obtain ⟨a,g,_⟩:=hN.get ho;exact ⟨N,[],⟨a,false,by rw [<-hl];exact g,by simp only [AV.val,Cu,bd],rfl,rfl,rfl,rfl⟩,hN,.nil⟩
   .cases h
  next j f=>obtain ⟨g,i⟩:=aK h;cases i;obtain ⟨a,z,P,_⟩:=hN.at_ g;exact ⟨N,[],⟨a,f,by rw [<-hl];exact z,by simp only [AV.val];rw [P],rfl,rfl,rfl,rfl⟩,hN,.nil⟩
  next j=>obtain ⟨g,i⟩:=aK h;cases i;obtain ⟨a,z,P,_⟩:=hN.at_ g;exact ⟨N,[],⟨a,true,by rw [<-hl];exact z,by simp only [AV.val,Cu,cw];rw [P],rfl,rfl,rfl,rfl⟩,hN,.nil⟩
  .cases h
 | .sty p,v,fx,y,B,r,N,h,hN,hf=>by
  unfold mt at h;split at h
  .cases h
  .split at h
   .rename_i u;obtain ⟨g,i⟩:=aK h;simp only [ar,eF] at g;have E:=asG g.1;have V:u.val ρ=v.val ρ:=by rw [<-E];exact (Wf L).symm
    obtain ⟨F,I,A,C,z⟩:=Lg L p v (some (v,[])) none B r N i hN (λq K=>by cases K;rfl);refine ⟨F,I,⟨rfl,by show some (u.val ρ)=some (v.val ρ);rw [V],g.2,?_⟩,C,z⟩;have e3:fY ρ (some (v,[]))=some (v.val ρ,[]):=by simp [AV.ao]
    rw [e3] at A;exact A
   .cases h
 | .same,v,fx,y,B,r,N,h,hN,hf=>by
  unfold mt at h;obtain ⟨g,i⟩:=aK h;cases i;refine ⟨N,[],⟨?_,rfl,rfl,rfl,rfl⟩,hN,.nil⟩;unfold nvs at g;split at g
  next q=>exact .inl ⟨_,rfl,(hf q rfl).symm⟩
  .split at g
   .split at g
    next u u'=>rw [aS g];exact .inr ⟨rfl,rfl⟩
    .cases g
   .cases g
theorem A5(d:Sat (ab ρ T G++(ab ρ T H++Φ)) w):(l:List Pt)->(vs:List AV)->(a:List AV)->(b:List AV)->(B:xb)->(r:MR)->(N:List Nm)->Jt G H l vs a b B=some r->(a=[]\/a=vs)->NB ρ B N->
  ∃N' I,wB l (AV.ao ρ vs) (AV.ao ρ a) (AV.ao ρ b) N r.D I (eB ρ r.X) N'/\NB ρ r.B N'/\fQ (SI ρ T G H) r.S I
 |[],vs,a,b,B,r,N,h,hfx,hN=>by
  unfold Jt at h;split at h
  .cases h;exact ⟨N,[],⟨by simp only [AV.ao],rfl,rfl,rfl,rfl⟩,hN,.nil⟩
  .cases h
 |p::l,vs,a,b,B,r,N,h,hfx,hN=>by
  unfold Jt at h;split at h
  .rename_i v us;split at h
   .rename_i c i;split at h
    .rename_i f g;cases h;obtain ⟨k,n,j,t,y⟩:=Lg d p _ (oL p a) b.head? B c N i hN (λq e=>by
      rcases hfx with rfl|rfl
      .cases e
      .unfold oL at e;dsimp only at e;obtain ⟨_,u⟩:=Qy e;cases u;exact (aa6 d).symm)
     obtain ⟨N2,m,o,s,x⟩:=A5 d l us a.tail b.tail c.B f k g (by rcases hfx with rfl|rfl <;> first|exact .inl rfl|exact .inr rfl) t;rw [aa6 d] at j;refine ⟨N2,n++m,⟨v.val ρ,AV.ao ρ us,c.D,f.D,n,m,eB ρ c.X,eB ρ f.X,k,by simp only [AV.ao],by rw [abj,P5];exact j,by rw [Gn,Gn];exact o,rfl,rfl,by simp [eB]⟩,s,y.append x⟩
    .cases h
   .cases h
  .cases h
end
theorem W4(n:Sat (ab ρ T G++(ab ρ T H++Φ)) w){C:Nat->Option AV}{fix:Nat->iD}:(l:List (Bool×Nat×Pt))->(B:xb)->(r:MR)->(N:List Nm)->mtV G H C fix l B=some r->NB ρ B N->
  ∃N' I,Ij (λi=>fY ρ (fix i)) (λi=>(C i).map (AV.val ρ)) l N r.D I (eB ρ r.X) N'/\NB ρ r.B N'/\fQ (SI ρ T G H) r.S I
 |[],B,r,N,h,hN=>by
  unfold mtV at h;cases h;exact ⟨N,[],⟨rfl,rfl,rfl,rfl⟩,hN,.nil⟩
 |(b,t,p)::l,B,r,N,h,hN=>by
  unfold mtV at h;split at h
  .rename_i v e;split at h
   .rename_i d a;split at h
    .rename_i f g;cases h;cases b
     .simp only at e a;obtain ⟨j,m,s,x,A⟩:=Lg n p v none none B d N a hN (λq y=>by cases y);obtain ⟨N2,k,o,u,z⟩:=W4 n l d.B f j g x;exact ⟨N2,m++k,⟨v.val ρ,d.D,f.D,m,k,eB ρ d.X,eB ρ f.X,j,by simp only [e,lk],s,o,rfl,rfl,by simp [eB]⟩,u,A.append z⟩
     .simp only at e a;cases c:fix t with
      |none=>rw [c] at e;cases e
      |some q=>
       rw [c] at e a;cases e;obtain ⟨j,m,s,x,A⟩:=Lg n p q.1 (some q) none B d N a hN (λq' y=>by cases y;rfl);obtain ⟨N2,k,o,u,z⟩:=W4 n l d.B f j g x;exact ⟨N2,m++k,⟨q.1.val ρ,d.D,f.D,m,k,eB ρ d.X,eB ρ f.X,j,by simp only [c];rfl,by simp only [c];exact s,o,rfl,rfl,by simp [eB]⟩,u,A.append z⟩
    .cases h
   .cases h
  .cases h
end
variable {A : List Nm} {D : List cD} {N : List Nm} {a : Nm} {fx : iD}
structure FR where
 v:AV
 R:List (Bool×Row)
 k:Nat
 D:List cD
 X:List (Nat×List AV)
structure FRs where
 vs:List AV
 R:List (Bool×Row)
 k:Nat
 D:List cD
 X:List (Nat×List AV)
def gQ(t:Ty)(D:List cD):t.T:=match D with
 |d::_=>(d.as t).getD t.sB
 |[]=>t.sB
theorem sk{t:Ty}{x:t.T}:gQ t (⟨t,x⟩::D)=x:=by simp [gQ,cD.asy]
theorem at5{k:IntKind}{x:Int}:gQ (.i k) (⟨.i k,x⟩::D)=x:=sk (t:= .i k)
theorem atz{x:Bool}:gQ .bo (⟨.bo,x⟩::D)=x:=sk (t:= .bo)
theorem ame{x:aD}:gQ .s (⟨.s,x⟩::D)=x:=sk (t:= .s)
theorem anE{x:Nat}:gQ .n (⟨.n,x⟩::D)=x:=sk (t:= .n)
theorem amF{t:Ty}{x:List t.T}:gQ (.l t) (⟨.l t,x⟩::D)=x:=sk (t:= .l t)
theorem arS{k v:Ty}{x:Option (List (k.T×v.T))}:gQ (.mp k v) (⟨.mp k v,x⟩::D)=x:=sk (t:= .mp k v)
structure LR where
 vs:List AV
 R:List (Bool×Row)
 k:Nat
 o:w5
def im(nm:Nat->Nat):(t:Ty)->t.T->Nat->w5->LR
 | .i k,x,n,o=>⟨[.int k x],[],n,o⟩
 | .bo,x,n,o=>⟨[.bool x],[],n,o⟩
 | .s,x,n,o=>⟨[.str x],[],n,o⟩
 | .un,_,n,o=>⟨[],[],n,o⟩
 | .p a b,x,n,o=>match im nm a x.1 n o with
  |⟨u,p,n,o⟩=>match im nm b x.2 n o with
   |⟨v,q,n,o⟩=>⟨u++v,p++q,n,o⟩
 | .l t,x,n,o=>match o with
  |none::o=>⟨[.sl (nm n)],[(false,.sli none (nm n) t x false)],n+1,o⟩
  |some e::o=>⟨[.sl (nm n)],[(ow e,.own (nm n) t (oe e) x (nm n))],n+1,o⟩
  |[]=>⟨[],[],n,[]⟩
 | .ex,x,n,o=>match o with
  |none::o=>⟨[.int .i64 x.op,.int .i64 x.n,.int .i64 x.at_,.sl (nm n)],[(false,.sli none (nm n) .ex x.l false)],n+1,o⟩
  |some e::o=>⟨[.int .i64 x.op,.int .i64 x.n,.int .i64 x.at_,.sl (nm n)],[(ow e,.own (nm n) .ex (oe e) x.l (nm n))],n+1,o⟩
  |[]=>⟨[],[],n,[]⟩
 |_,_,n,o=>⟨[],[],n,o⟩
def nmS(nm:Nat->Nat)(fx:iD)(n:Nat):Nat:=match fx with
 |some (.sl j,_)=>j
 |_=>nm n
def JS(nm:Nat->Nat)(fx:iD)(n:Nat):Nat:=match fx with
 |some (.ptr j _,_)=>j
 |_=>nm n
def nmM(nm:Nat->Nat)(fx:iD)(n:Nat):Nat:=match fx with
 |some (.mp j,_)=>j
 |_=>nm n
def arj(fx:iD)(sm:Option AV):AV:=match fx with
 |some p=>p.1
 |none=>match sm with
  |some x=>x
  |none=> .bool false
def reS(id:Nat):List Pt->List AV->List AV
 | .sfp::_,.sfp _ f::us=> .sfp id f::us
 |_,us=>us
mutual
def fill(nm:Nat->Nat):Pt->iD->Option AV->Nat->List cD->FR
 | .int k,_,_,n,D=>⟨.int k (gQ (.i k) D),[],n,D.tail,[]⟩
 | .bool,_,_,n,D=>⟨.bool (gQ .bo D),[],n,D.tail,[]⟩
 | .str,_,_,n,D=>⟨.str (gQ .s D),[],n,D.tail,[]⟩
 | .sli t,_,_,n,D=>⟨.sl (nm n),[(false,.sli none (nm n) t (gQ (.l t) D) false)],n+1,D.tail,[]⟩
 | .own t e m,fx,_,n,D=>⟨.sl (nmS nm fx n),[(m,.own (nmS nm fx n) t e (gQ (.l t) D) (nm n))],n+1,D.tail,[]⟩
 | .slr k,_,_,n,D=>⟨.sl (nm k),[],n,D,[]⟩
 | .bx t off m vs,fx,_,n,D=>match fg nm vs [] (K4 fx) (n+1) D with
  |⟨cs,R,k,D,X⟩=>⟨.ptr (JS nm fx n) off,(m,.box (JS nm fx n) t (reS (JS nm fx n) vs cs))::R,k,D,(aC m [(n,reS (JS nm fx n) vs cs)] [])++X⟩
 | .ptr k off,_,_,n,D=>⟨.ptr (nm k) off,[],n,D,[]⟩
 | .mp k v m,fx,_,n,D=>⟨.mp (nmM nm fx n),[(m,.mp (nmM nm fx n) k v (gQ (.mp k v) D))],n+1,D.tail,[]⟩
 | .it,fx,_,n,D=>⟨.ptr (JS nm fx n) 0,[(true,.it (JS nm fx n) (gQ .s D) (gQ .n D.tail))],n+1,D.tail.tail,[]⟩
 | .agg l,fx,_,n,D=>match fg nm l (ij fx) [] n D with
  |⟨cs,R,k,D,X⟩=>⟨.agg cs,R,k,D,X⟩
 | .cQ l,_,_,n,D=>match fg nm l [] [] n D with
  |⟨cs,R,k,D,X⟩=>⟨.tuple cs,R,k,D,X⟩
 | .fn f a b,fx,_,n,D=>match fg nm a [] [] n D with
  |⟨cs,R,k,D,X⟩=>match fg nm b (ij fx) [] k D with
   |⟨cs',R',k,D,X'⟩=>⟨.fn f cs cs',R++R',k,D,X++X'⟩
 | .ifc t p,fx,_,n,D=>match fill nm p (oL p (ij fx)) none n D with
  |⟨v,R,k,D,X⟩=>⟨.ifc t v,R,k,D,X⟩
 | .kr v,_,_,n,D=>⟨v,[],n,D,[]⟩
 | .dat t o,_,_,n,D=>match im nm t (gQ t D) n o with
  |⟨cs,R,k,_⟩=>⟨.agg cs,R,k,D.tail,[]⟩
 | .ifn,_,_,n,D=>⟨.ifc (gQ .n D) (.agg []),[],n,D.tail,[]⟩
 | .sfp,_,_,n,D=>⟨.sfp (nm (n-1)) (gQ .bo D),[],n,D.tail,[]⟩
 | .sty p,_,sm,n,D=>fill nm p (sm.map λu=>(u,[])) none n D
 | .same,fx,sm,n,D=>⟨arj fx sm,[],n,D,[]⟩
def fg(nm:Nat->Nat):List Pt->List AV->List AV->Nat->List cD->FRs
 |[],_,_,n,D=>⟨[],[],n,D,[]⟩
 |p::l,fxs,sms,n,D=>match fill nm p (oL p fxs) sms.head? n D with
  |⟨v,R,k,D,X⟩=>match fg nm l fxs.tail sms.tail k D with
   |⟨vs,R',k,D,X'⟩=>⟨v::vs,R++R',k,D,X++X'⟩
end
structure FV where
 E:aH
 R:List (Bool×Row)
 k:Nat
 D:List cD
def fZ(nm:Nat->Nat)(fix:Nat->iD):List (Bool×Nat×Pt)->Nat->List cD->FV
 |[],n,D=>⟨[],[],n,D⟩
 |x::l,n,D=>match fill nm x.2.2 (aC x.1 (fix x.2.1) none) none n D with
  |⟨v,R,k,D,_⟩=>match fZ nm fix l k D with
   |⟨E,R',k,D⟩=>⟨aC x.1 E ((x.2.1,none,v)::E),R++R',k,D⟩
def xF(N N':List Nm):Prop:= ∃E,N'=N++E
theorem xF.refl:xF N N:=⟨[],by simp⟩
theorem xF.trans{B C:List Nm}(h:xF A B)(k:xF B C):xF A C:=by obtain ⟨E,rfl⟩:=h;obtain ⟨F,rfl⟩:=k;exact ⟨E++F,by simp⟩
theorem xF.one:xF N (N++[a]):=⟨[a],rfl⟩
theorem xF.len{B:List Nm}(h:xF A B):A.length<=B.length:=by obtain ⟨E,rfl⟩:=h;simp
theorem xF.at_{B:List Nm}(h:xF A B){i:Nat}{a:Nm}(b:A[i]? =some a):B[i]? =some a:=by obtain ⟨E,rfl⟩:=h;rw [cG (List.getElem?_eq_some_iff.1 b).1];exact b
theorem Fb:(t:Ty)->(x:t.T)->(cs:yp)->(o:w5)->(N:List Nm)->(I:fF)->(c:List Nm)->(d:w5)->Vx t x cs o N I c d->xF N c
 | .i _,_,_,_,_,_,_,_,h|.bo,_,_,_,_,_,_,_,h|.s,_,_,_,_,_,_,_,h|.un,_,_,_,_,_,_,_,h=>by obtain ⟨_,_,rfl,_⟩:=h;exact .refl
 | .n,_,_,_,_,_,_,_,h|.mp _ _,_,_,_,_,_,_,_,h=>h.elim
 | .p a b,x,cs,o,N,I,c,d,h=>by
  obtain ⟨c1,j,k,q,m,g,f,e,_⟩:=h;exact (Fb a _ _ _ _ _ _ _ f).trans (Fb b _ _ _ _ _ _ _ e)
 | .l t,x,cs,o,N,I,c,d,h=>by obtain ⟨a,_,rfl,_⟩:=h;exact .one
 | .ex,x,cs,o,N,I,c,d,h=>by obtain ⟨a,_,rfl,_⟩:=h;exact .one
mutual
theorem vK:(p:Pt)->(v:Value)->(fx:Fx)->(i:Option Value)->(N:List Nm)->(D:List cD)->(I:fF)->(X:kq)->(g:List Nm)->Sem p v fx i N D I X g->xF N g
 | .int _,v,fx,i,N,D,I,X,g,h|.bool,v,fx,i,N,D,I,X,g,h|.str,v,fx,i,N,D,I,X,g,h=>by obtain ⟨_,_,_,_,_,rfl⟩:=h;exact .refl
 | .sli t,v,fx,i,N,D,I,X,g,h=>by obtain ⟨a,l,_,_,_,_,rfl⟩:=h;exact .one
 | .own t e m,v,fx,i,N,D,I,X,g,h=>by obtain ⟨a,l,_,_,_,_,_,rfl,_⟩:=h;exact .one
 | .slr n,v,fx,i,N,D,I,X,g,h|.ptr n _,v,fx,i,N,D,I,X,g,h=>by obtain ⟨a,_,_,_,_,_,rfl⟩:=h;exact .refl
 | .bx t off m vs,v,fx,i,N,D,I,X,g,h=>by
  obtain ⟨a,cs,E,z,_,_,j,_⟩:=h;exact xF.one.trans (mT vs _ _ _ _ _ _ _ _ j)
 | .mp k u m,v,fx,i,N,D,I,X,g,h=>by obtain ⟨a,d,_,_,_,_,_,rfl⟩:=h;exact .one
 | .it,v,fx,i,N,D,I,X,g,h=>by obtain ⟨a,s,p,_,_,_,_,_,rfl⟩:=h;exact .one
 | .agg l,v,fx,i,N,D,I,X,g,h=>by obtain ⟨cs,_,_,j⟩:=h;exact mT l _ _ _ _ _ _ _ _ j
 | .cQ l,v,fx,i,N,D,I,X,g,h=>by obtain ⟨cs,_,j⟩:=h;exact mT l _ _ _ _ _ _ _ _ j
 | .fn f a b,v,fx,i,N,D,I,X,g,h=>by
  obtain ⟨us,vs,G,F,C,B,y,w,A,_,_,j,q,_⟩:=h;exact (mT a _ _ _ _ _ _ _ _ j).trans (mT b _ _ _ _ _ _ _ _ q)
 | .ifc t p,v,fx,i,N,D,I,X,g,h=>by obtain ⟨u,_,_,j⟩:=h;exact vK p _ _ _ _ _ _ _ _ j
 | .kr c,v,fx,i,N,D,I,X,g,h=>by obtain ⟨_,_,_,_,rfl⟩:=h;exact .refl
 | .dat t o,v,fx,i,N,D,I,X,g,h=>by obtain ⟨cs,x,r,_,_,j,_⟩:=h;exact Fb t _ _ _ _ _ _ _ j
 | .ifn,v,fx,i,N,D,I,X,g,h=>by obtain ⟨_,_,_,_,_,rfl⟩:=h;exact .refl
 | .sfp,v,fx,i,N,D,I,X,g,h=>by obtain ⟨_,_,_,_,_,_,_,rfl⟩:=h;exact .refl
 | .sty p,v,fx,i,N,D,I,X,g,h=>by obtain ⟨_,_,_,j⟩:=h;exact vK p _ _ _ _ _ _ _ _ j
 | .same,v,fx,i,N,D,I,X,g,h=>by obtain ⟨_,_,_,_,rfl⟩:=h;exact .refl
theorem mT:(l:List Pt)->(vs:yp)->(b:yp)->(a:yp)->(N:List Nm)->(D:List cD)->(I:fF)->(X:kq)->(c:List Nm)->wB l vs b a N D I X c->xF N c
 |[],vs,b,a,N,D,I,X,c,h=>by obtain ⟨_,_,_,_,rfl⟩:=h;exact .refl
 |p::l,vs,b,a,N,D,I,X,c,h=>by obtain ⟨v,d,o,n,m,k,i,g,j,_,f,e,_⟩:=h;exact (vK p _ _ _ _ _ _ _ _ f).trans (mT l _ _ _ _ _ _ _ _ e)
end
theorem VQ{fix:Nat->Fx}{val:Nat->Option Value}:(l:List (Bool×Nat×Pt))->(N:List Nm)->(D:List cD)->(I:fF)->(X:kq)->(a:List Nm)->Ij fix val l N D I X a->xF N a
 |[],N,D,I,X,a,h=>by obtain ⟨_,_,_,rfl⟩:=h;exact .refl
 |x::l,N,D,I,X,a,h=>by obtain ⟨v,k,j,i,g,e,d,f,_,c,b,_⟩:=h;exact (vK _ _ _ _ _ _ _ _ _ c).trans (VQ l _ _ _ _ _ b)
def RwI(ρ:aB)(T:aE)(a:Bool×Row)(b:Bool×Item):Prop:=a.1=b.1/\ck b.2 (a.2.item ρ T)/\ck (a.2.item ρ T) b.2
section
variable {ρ : aB} {T : aE} {nm : Nat -> Nat} {n0 : Nat}
theorem ar8{id:Nat}{vs:List Pt}{us:List AV}{cs d:yp}{r:List Nm}{I:fF}{X:kq}(h:wB vs cs [] d (N++[a]) D I X r)(m:(ρ id).b=a.b)(c:AV.ao ρ us=cs):AV.ao ρ (reS id vs us)=cs:=by
 unfold reS;split
 .rename_i l j f i;obtain ⟨v,g,z,y,x,w,t,s,u,rfl,o,_⟩:=h;obtain ⟨q,p,k,rfl,_⟩:=o;have e:q=a:=by simpa using k.symm
  subst e;simp only [AV.ao,AV.val,qm] at c ⊢;refine ⟨?_,c.2⟩;rw [m];have n:=c.1;cases f <;> cases p <;> simp [Cu] at n ⊢
 .exact c
def w6(ρ:aB)(nm:Nat->Nat)(n0:Nat)(N:List Nm):Prop:= ∀i a,N[i]? =some a->(ρ (nm i)).b=a.b/\(ρ (nm i)).v=a.v/\(ρ (nm i)).m=a.m/\(n0<=i->(ρ (nm i)).y=a.y)
theorem w6.pre{A B:List Nm}(h:w6 ρ nm n0 B)(k:xF A B):w6 ρ nm n0 A:=λi a b=>h i a (k.at_ b)
theorem w6.last(h:w6 ρ nm n0 (A++[a])):(ρ (nm A.length)).b=a.b/\(ρ (nm A.length)).v=a.v/\(ρ (nm A.length)).m=a.m/\(n0<=A.length->(ρ (nm A.length)).y=a.y):=h _ _ (by simp)
theorem agz{t:Ty}{l:List t.T}{j:Nat}(h:(ρ j).v=a.v):ck (Pk true t.rep a.v l false) ((Row.sli none j t l false).item ρ T)/\ck ((Row.sli none j t l false).item ρ T) (Pk true t.rep a.v l false):=by simp only [Row.item,h];exact ⟨⟨λ_ h=>h,λM w h _=>h rfl⟩,⟨λ_ h=>h,λM w h _=>h aE.get_none⟩⟩
theorem ae8{t:Ty}{e:TypeId}{l:List t.T}{j b:Nat}(h:(ρ j).v=a.v)(c:(ρ b).y=⟨.l t,l⟩):ck (oa t.rep e a.v l True) ((Row.own j t e l b).item ρ T)/\ck ((Row.own j t e l b).item ρ T) (oa t.rep e a.v l True):=by simp only [Row.item,h];exact ⟨⟨λ_ h=>h,λM w h=>⟨h.1,c⟩⟩,⟨λ_ h=>h,λM w h=>⟨h.1,trivial⟩⟩⟩
theorem Y8:(t:Ty)->(x:t.T)->(cs:yp)->(o:w5)->(N:List Nm)->(I:fF)->(c:List Nm)->(d:w5)->Vx t x cs o N I c d->w6 ρ nm n0 c->n0<=N.length->
  AV.ao ρ (im nm t x N.length o).vs=cs/\(im nm t x N.length o).k=c.length/\(im nm t x N.length o).o=d/\fQ (RwI ρ T) (im nm t x N.length o).R I
 | .i k,x,cs,o,N,I,c,d,h,hn,hle=>by
  obtain ⟨rfl,rfl,rfl,rfl⟩:=h;exact ⟨by simp only [im,AV.ao,AV.val],rfl,rfl,.nil⟩
 | .bo,x,cs,o,N,I,c,d,h,hn,hle=>by
  obtain ⟨rfl,rfl,rfl,rfl⟩:=h;exact ⟨by simp only [im,AV.ao,AV.val],rfl,rfl,.nil⟩
 | .s,x,cs,o,N,I,c,d,h,hn,hle=>by
  obtain ⟨rfl,rfl,rfl,rfl⟩:=h;exact ⟨by simp only [im,AV.ao,AV.val],rfl,rfl,.nil⟩
 | .un,x,cs,o,N,I,c,d,h,hn,hle=>by
  obtain ⟨rfl,rfl,rfl,rfl⟩:=h;exact ⟨by simp only [im,AV.ao],rfl,rfl,.nil⟩
 | .n,x,cs,o,N,I,c,d,h,hn,hle=>h.elim
 | .mp _ _,x,cs,o,N,I,c,d,h,hn,hle=>h.elim
 | .p a b,x,cs,o,N,I,c,d,h,hn,hle=>by
  obtain ⟨c1,G,z,L,K,B,D,C,rfl,rfl⟩:=h;have A:=Fb b _ _ _ _ _ _ _ C;obtain ⟨y,w,v,r⟩:=Y8 a x.1 c1 o N L z B D (hn.pre A) hle;obtain ⟨q,m,j,g⟩:=Y8 b x.2 G B z K c d C hn (cK hle (Fb a _ _ _ _ _ _ _ D).len);unfold im;generalize im nm a x.1 N.length o=J at y w v r;obtain ⟨u,p,n,F⟩:=J;simp only at y w v r;subst w;subst v;dsimp only;generalize im nm b x.2 z.length F=H at q m j g;obtain ⟨M,A,O,E⟩:=H;simp only at q m j g;dsimp only;exact ⟨by rw [dJ,y,q],m,j,r.append g⟩
 | .l t,x,cs,o,N,I,c,d,h,hn,hle=>by
  obtain ⟨a,rfl,rfl,h⟩:=h;have hl:=hn.last;rcases h with ⟨rfl,rfl⟩|⟨e,rfl,rfl,f⟩
  .exact ⟨by simp only [im,AV.ao,AV.val,hl.2.1],by simp [im],rfl,.cons ⟨rfl,agz hl.2.1⟩ .nil⟩
  .exact ⟨by simp only [im,AV.ao,AV.val,hl.2.1],by simp [im],rfl,.cons ⟨rfl,ae8 hl.2.1 (by rw [hl.2.2.2 hle];exact f)⟩ .nil⟩
 | .ex,x,cs,o,N,I,c,d,h,hn,hle=>by
  obtain ⟨a,rfl,rfl,h⟩:=h;have hl:=hn.last;rcases h with ⟨rfl,rfl⟩|⟨e,rfl,rfl,f⟩
  .exact ⟨by simp only [im,AV.ao,AV.val,hl.2.1],by simp [im],rfl,.cons ⟨rfl,agz (t:= .ex) hl.2.1⟩ .nil⟩
  .exact ⟨by simp only [im,AV.ao,AV.val,hl.2.1],by simp [im],rfl,.cons ⟨rfl,ae8 (t:= .ex) hl.2.1 (by rw [hl.2.2.2 hle];exact f)⟩ .nil⟩
theorem atw{p q:gV}(h:sl p=sl q):p=q:=by obtain ⟨a,b,c⟩:=p;obtain ⟨f,e,d⟩:=q;simp only [sl,Value.slice.injEq] at h;rw [h.1,h.2.1,h.2.2]
theorem aui(hn:w6 ρ nm n0 (N++[a]))(b:xg (fY ρ fx) (sl a.v)):(ρ (nmS nm fx N.length)).v=a.v:=by
 unfold nmS;split
 .have:=b _ rfl;simp only [AV.val] at this;exact (atw this).symm
 .rw [hn.last.2.1]
theorem amn{off:Nat}(hn:(ρ (nm N.length)).b=a.b)(c:xg (fY ρ fx) (.pointer (some ⟨a.b,off,none⟩))):(ρ (JS nm fx N.length)).b=a.b:=by
 unfold JS;split
 .have:=c _ rfl;simp only [AV.val,Value.pointer.injEq,cC,Addr.mk.injEq] at this;exact this.1.symm
 .rw [hn]
theorem aul(hn:w6 ρ nm n0 (N++[a]))(b:xg (fY ρ fx) (.map a.m)):(ρ (nmM nm fx N.length)).m=a.m:=by
 unfold nmM;split
 .have:=b _ rfl;simp only [AV.val,Value.map.injEq] at this;exact this.symm
 .rw [hn.last.2.2.1]
theorem H7(p:Pt):pk p none=true:=by cases p <;> rfl
theorem aga(p:Pt)(a:List AV):pk p (oL p a)=true:=by
 unfold oL;cases a with
 |nil=>exact H7 p
 |cons u us=>cases p <;> rfl
theorem apF{l:List Pt}{cs:yp}(a:pk (.agg l) fx=true)(b:xg (fY ρ fx) (.agg cs.toArray)):AV.ao ρ (ij fx)=aC (fY ρ fx).isSome cs []:=by
 cases fx with
 |none=>rfl
 |some q=>
  obtain ⟨v,d⟩:=q;cases v <;> first|(cases a;done)|skip;have:=b _ rfl;simp only [AV.val,Value.agg.injEq] at this;show AV.ao ρ (ij (some (_,_)))=cs;simpa [ij] using this.symm
theorem asj{f:FuncId}{a b:List Pt}{us vs:yp}(c:pk (.fn f a b) fx=true)(e:xg (fY ρ fx) (.func (.func f) us.toArray vs.toArray)):AV.ao ρ (ij fx)=aC (fY ρ fx).isSome vs []:=by
 cases fx with
 |none=>rfl
 |some q=>
  obtain ⟨v,d⟩:=q;cases v <;> first|(cases c;done)|skip;have:=e _ rfl;simp only [AV.val,Value.func.injEq] at this;show AV.ao ρ (ij (some (_,_)))=vs;simpa [ij] using this.2.2.symm
theorem aol{t:TypeId}{p:Pt}{u:Value}(a:pk (.ifc t p) fx=true)(b:xg (fY ρ fx) (.iface t u)):AV.ao ρ (ij fx)=aC (fY ρ fx).isSome [u] []:=by
 cases fx with
 |none=>rfl
 |some q=>
  obtain ⟨v,d⟩:=q;cases v <;> first|(cases a;done)|skip;have:=b _ rfl;simp only [AV.val,Value.iface.injEq] at this;show AV.ao ρ (ij (some (_,_)))=[u];simp [ij,AV.ao,this.2]
mutual
theorem Dg:(p:Pt)->(v:Value)->(fx:iD)->(j:Option AV)->(N:List Nm)->(D:List cD)->(I:fF)->(X:kq)->(i:List Nm)->Sem p v (fY ρ fx) (j.map (AV.val ρ)) N D I X i->pk p fx=true->w6 ρ nm n0 i->n0<=N.length->(g:List cD)->
  (fill nm p fx j N.length (D++g)).v.val ρ=v/\(fill nm p fx j N.length (D++g)).k=i.length/\(fill nm p fx j N.length (D++g)).D=g/\X=eB ρ (fill nm p fx j N.length (D++g)).X/\fQ (RwI ρ T) (fill nm p fx j N.length (D++g)).R I
 | .int k,v,fx,j,N,D,I,X,i,h,hg,hn,hle,g=>by
  obtain ⟨x,rfl,rfl,rfl,rfl,rfl⟩:=h;exact ⟨by simp only [fill,qx,at5,AV.val],rfl,rfl,rfl,.nil⟩
 | .bool,v,fx,j,N,D,I,X,i,h,hg,hn,hle,g=>by
  obtain ⟨x,rfl,rfl,rfl,rfl,rfl⟩:=h;exact ⟨by simp only [fill,qx,atz,AV.val],rfl,rfl,rfl,.nil⟩
 | .str,v,fx,j,N,D,I,X,i,h,hg,hn,hle,g=>by
  obtain ⟨x,rfl,rfl,rfl,rfl,rfl⟩:=h;exact ⟨by simp only [fill,qx,ame,AV.val],rfl,rfl,rfl,.nil⟩
 | .sli t,v,fx,j,N,D,I,X,i,h,hg,hn,hle,g=>by
  obtain ⟨a,l,rfl,rfl,rfl,rfl,rfl⟩:=h;have hl:=hn.last;refine ⟨by simp only [fill,AV.val,hl.2.1],by simp [fill],rfl,rfl,.cons ⟨rfl,?_⟩ .nil⟩;show ck _ ((Row.sli none (nm N.length) t (gQ (.l t) (⟨.l t,l⟩::g)) false).item ρ T)/\ck ((Row.sli none (nm N.length) t (gQ (.l t) (⟨.l t,l⟩::g)) false).item ρ T) _;rw [amF];exact agz hl.2.1
 | .own t e m,v,fx,j,N,D,I,X,i,h,hg,hn,hle,g=>by
  obtain ⟨a,l,rfl,E,rfl,rfl,rfl,rfl,hy⟩:=h;have Z:=aui hn E;refine ⟨by simp only [fill,AV.val,Z],by simp [fill],rfl,rfl,.cons ⟨rfl,?_⟩ .nil⟩;show ck _ ((Row.own (nmS nm fx N.length) t e (gQ (.l t) (⟨.l t,l⟩::g)) (nm N.length)).item ρ T)/\ck ((Row.own (nmS nm fx N.length) t e (gQ (.l t) (⟨.l t,l⟩::g)) (nm N.length)).item ρ T) _;rw [amF];exact ae8 Z (by rw [hn.last.2.2.2 hle];exact hy)
 | .slr n,v,fx,j,N,D,I,X,i,h,hg,hn,hle,g=>by
  obtain ⟨a,H,rfl,rfl,rfl,rfl,rfl⟩:=h;exact ⟨by simp only [fill,AV.val,(hn _ _ H).2.1],rfl,rfl,rfl,.nil⟩
 | .bx t off m vs,v,fx,j,N,D,I,X,i,h,hg,hn,hle,g=>by
  obtain ⟨a,cs,I',X',rfl,E,r,rfl,rfl⟩:=h;rw [aiA] at r;have p1:=mT vs _ _ _ _ _ _ _ _ r;have hl:=hn.pre p1;have F:=amn hl.last.1 E;have G:(N++[a]).length=N.length+1:=by simp
  obtain ⟨A,z,B,C,w⟩:=vk vs cs [] (K4 fx) (N++[a]) D I' X' i (by simpa only [AV.ao] using r) hn (by simp;omega) g;rw [G] at A z B C w;unfold fill;generalize fg nm vs [] (K4 fx) (N.length+1) (D++g)=L at A z B C w;obtain ⟨us,R,k,O,M⟩:=L;simp only at A z B C w;dsimp only;have b6:AV.ao ρ (reS (JS nm fx N.length) vs us)=cs:=ar8 r F A;refine ⟨by simp only [AV.val,F],z,B,?_,.cons ⟨rfl,?_⟩ w⟩
  .rw [C];cases m <;> simp [eB,b6]
  .simp only [Row.item,F,b6];exact ⟨ck.refl,ck.refl⟩
 | .ptr n off,v,fx,j,N,D,I,X,i,h,hg,hn,hle,g=>by
  obtain ⟨a,H,rfl,rfl,rfl,rfl,rfl⟩:=h;exact ⟨by simp only [fill,AV.val,(hn _ _ H).1],rfl,rfl,rfl,.nil⟩
 | .mp k u m,v,fx,j,N,D,I,X,i,h,hg,hn,hle,g=>by
  obtain ⟨a,d,rfl,E,rfl,rfl,rfl,rfl⟩:=h;have hM:=aul hn E;refine ⟨by simp only [fill,AV.val,hM],by simp [fill],rfl,rfl,.cons ⟨rfl,?_⟩ .nil⟩;show ck _ ((Row.mp (nmM nm fx N.length) k u (gQ (.mp k u) (⟨.mp k u,d⟩::g))).item ρ T)/\ck ((Row.mp (nmM nm fx N.length) k u (gQ (.mp k u) (⟨.mp k u,d⟩::g))).item ρ T) _;rw [arS];simp only [Row.item,hM];exact ⟨ck.refl,ck.refl⟩
 | .it,v,fx,j,N,D,I,X,i,h,hg,hn,hle,g=>by
  obtain ⟨a,s,p,rfl,E,rfl,rfl,rfl,rfl⟩:=h;have F:=amn hn.last.1 E;refine ⟨by simp only [fill,AV.val,F],by simp [fill],rfl,rfl,.cons ⟨rfl,?_⟩ .nil⟩;show ck _ ((Row.it (JS nm fx N.length) (gQ .s (⟨.s,s⟩::⟨.n,p⟩::g)) (gQ .n (⟨.n,p⟩::g))).item ρ T)/\ck ((Row.it (JS nm fx N.length) (gQ .s (⟨.s,s⟩::⟨.n,p⟩::g)) (gQ .n (⟨.n,p⟩::g))).item ρ T) _;rw [ame,anE];simp only [Row.item,F];exact ⟨ck.refl,ck.refl⟩
 | .agg l,v,fx,j,N,D,I,X,i,h,hg,hn,hle,g=>by
  obtain ⟨cs,rfl,E,r⟩:=h;obtain ⟨A,z,B,C,w⟩:=vk l cs (ij fx) [] N D I X i (by rw [apF hg E];simpa only [AV.ao] using r) hn hle g;unfold fill;generalize fg nm l (ij fx) [] N.length (D++g)=L at A z B C w;obtain ⟨us,R,k,O,M⟩:=L;simp only at A z B C w;dsimp only;exact ⟨by simp only [AV.val,A],z,B,C,w⟩
 | .cQ l,v,fx,j,N,D,I,X,i,h,hg,hn,hle,g=>by
  obtain ⟨cs,rfl,r⟩:=h;obtain ⟨A,z,B,C,w⟩:=vk l cs [] [] N D I X i (by simpa only [AV.ao] using r) hn hle g;unfold fill;generalize fg nm l [] [] N.length (D++g)=L at A z B C w;obtain ⟨us,R,k,O,M⟩:=L;simp only at A z B C w;dsimp only;exact ⟨by simp only [AV.val,A],z,B,C,w⟩
 | .fn f a b,v,fx,j,N,D,I,X,i,h,hg,hn,hle,g=>by
  obtain ⟨us,vs,D1,P,I1,I2,X1,X2,Y,rfl,E,r,J,rfl,rfl,rfl⟩:=h;have p2:=mT b _ _ _ _ _ _ _ _ J;obtain ⟨A,z,B,C,w⟩:=vk a us [] [] N D1 I1 X1 Y (by simpa only [AV.ao] using r) (hn.pre p2) hle (P++g);obtain ⟨c1,W,V,U,S⟩:=vk b vs (ij fx) [] Y P I2 X2 i (by rw [asj hg E];simpa only [AV.ao] using J) hn (cK hle (mT a _ _ _ _ _ _ _ _ r).len) g;unfold fill;rw [bb];generalize fg nm a [] [] N.length (D1++(P++g))=L at A z B C w;obtain ⟨us',R,k,O,M⟩:=L;simp only at A z B C w;subst z;subst B;dsimp only;generalize fg nm b (ij fx) [] Y.length (P++g)=L at c1 W V U S;obtain ⟨us2,R2,k2,DD2,XX2⟩:=L;simp only at c1 W V U S;dsimp only;exact ⟨by simp only [AV.val,A,c1],W,V,by rw [C,U];simp [eB],w.append S⟩
 | .ifc t p,v,fx,j,N,D,I,X,i,h,hg,hn,hle,g=>by
  obtain ⟨u,rfl,E,r⟩:=h;rw [<-aol hg E,P5] at r;obtain ⟨A,z,B,C,w⟩:=Dg p u (oL p (ij fx)) none N D I X i r (aga p _) hn hle g;unfold fill;generalize fill nm p (oL p (ij fx)) none N.length (D++g)=L at A z B C w;obtain ⟨us,R,k,O,M⟩:=L;simp only at A z B C w;dsimp only;exact ⟨by simp only [AV.val,A],z,B,C,w⟩
 | .kr c,v,fx,j,N,D,I,X,i,h,hg,hn,hle,g=>by
  obtain ⟨⟨r,K⟩,rfl,rfl,rfl,rfl⟩:=h;exact ⟨by rw [r];exact K ρ,rfl,rfl,rfl,.nil⟩
 | .dat t o,v,fx,j,N,D,I,X,i,h,hg,hn,hle,g=>by
  obtain ⟨cs,x,o',rfl,rfl,r,rfl⟩:=h;obtain ⟨A,z,B,w⟩:=Y8 (T:=T) t x cs o N I i o' r hn hle;unfold fill;rw [qx,sk];generalize im nm t x N.length o=L at A z B w;obtain ⟨us,R,k,oo⟩:=L;simp only at A z B w;dsimp only;exact ⟨by simp only [AV.val,A],z,rfl,rfl,w⟩
 | .ifn,v,fx,j,N,D,I,X,i,h,hg,hn,hle,g=>by
  obtain ⟨x,rfl,rfl,rfl,rfl,rfl⟩:=h;exact ⟨by simp only [fill,qx,anE,AV.val,AV.ao],rfl,rfl,rfl,.nil⟩
 | .sfp,v,fx,j,N,D,I,X,i,h,hg,hn,hle,g=>by
  obtain ⟨a,f,H,rfl,rfl,rfl,rfl,rfl⟩:=h;refine ⟨?_,rfl,rfl,rfl,.nil⟩;simp only [fill,AV.val,(hn _ _ H).1,qx];rfl
 | .sty p,v,fx,j,N,D,I,X,i,h,hg,hn,hle,g=>by
  obtain ⟨_,K,r,J⟩:=h;cases j with
  |none=>cases K
  |some u=>
   have e:u.val ρ=v:=by simpa using K
   subst e;have e3:fY ρ (some (u,[]))=some (u.val ρ,[]):=by simp [AV.ao]
   rw [<-e3] at J;have hp:pk p (some (u,[]))=true:=by cases p <;> first|rfl|cases r
   have:=Dg p (u.val ρ) (some (u,[])) none N D I X i J hp hn hle g;unfold fill;exact this
 | .same,v,fx,j,N,D,I,X,i,h,hg,hn,hle,g=>by
  obtain ⟨r,rfl,rfl,rfl,rfl⟩:=h;refine ⟨?_,rfl,rfl,rfl,.nil⟩;simp only [fill,arj];rcases r with ⟨p,hp,rfl⟩|⟨Q,r⟩
  .cases fx with
   |none=>cases hp
   |some q=>cases hp;rfl
  .cases fx with
   |some q=>cases Q
   |none=>
    cases j with
    |none=>cases r
    |some y=>cases r;rfl
theorem vk:(l:List Pt)->(vs:yp)->(a:List AV)->(b:List AV)->(N:List Nm)->(D:List cD)->(I:fF)->(X:kq)->(d:List Nm)->wB l vs (AV.ao ρ a) (AV.ao ρ b) N D I X d->w6 ρ nm n0 d->n0<=N.length->(c:List cD)->
  AV.ao ρ (fg nm l a b N.length (D++c)).vs=vs/\(fg nm l a b N.length (D++c)).k=d.length/\(fg nm l a b N.length (D++c)).D=c/\X=eB ρ (fg nm l a b N.length (D++c)).X/\fQ (RwI ρ T) (fg nm l a b N.length (D++c)).R I
 |[],vs,a,b,N,D,I,X,d,h,hn,hle,c=>by
  obtain ⟨rfl,rfl,rfl,rfl,rfl⟩:=h;exact ⟨by simp only [fg,AV.ao],rfl,rfl,rfl,.nil⟩
 |p::l,vs,a,b,N,D,I,X,d,h,hn,hle,c=>by obtain ⟨v,f,x,e,G,F,E,C,w,rfl,i,g,rfl,rfl,rfl⟩:=h;rw [abj,P5] at i;rw [Gn,Gn] at g;have A:=mT l _ _ _ _ _ _ _ _ g;obtain ⟨u,t,s,r,q⟩:=Dg p v (oL p a) b.head? N x G E w i (aga p a) (hn.pre A) hle (e++c);obtain ⟨c1,o,n,m,j⟩:=vk l f a.tail b.tail w e F C d g hn (cK hle (vK p _ _ _ _ _ _ _ _ i).len) c;unfold fg;rw [bb];generalize fill nm p (oL p a) b.head? N.length (x++(e++c))=L at u t s r q;obtain ⟨z,R,k,O,K⟩:=L;simp only at u t s r q;subst t;subst s;dsimp only;generalize fg nm l a.tail b.tail w.length (e++c)=L at c1 o n m j;obtain ⟨y,M,J,H,B⟩:=L;simp only at c1 o n m j;dsimp only;exact ⟨by simp only [AV.ao,u,c1],o,n,by rw [r,m];simp [eB],q.append j⟩
end
theorem Vf{fix:Nat->iD}{g:Nat->Option Value}:(l:List (Bool×Nat×Pt))->(N:List Nm)->(D:List cD)->(I:fF)->(X:kq)->(d:List Nm)->Ij (λi=>fY ρ (fix i)) g l N D I X d->tf fix l=true->w6 ρ nm n0 d->n0<=N.length->(a:List cD)->
  (∀t p,look (aH.env ρ [] (fZ nm fix l N.length (D++a)).E) t=some p->p.1=true/\g t=some p.2)/\(fZ nm fix l N.length (D++a)).k=d.length/\(fZ nm fix l N.length (D++a)).D=a/\fQ (RwI ρ T) (fZ nm fix l N.length (D++a)).R I
 |[],N,D,I,X,d,h,hg,hn,hle,a=>by
  obtain ⟨rfl,rfl,rfl,rfl⟩:=h;exact ⟨(λt p h=>by cases h),rfl,rfl,.nil⟩
 |(b,t,p)::l,N,D,I,X,d,h,hg,hn,hle,a=>by
  simp only [tf,ar] at hg;obtain ⟨v,y,f,F,M,C,K,e,J,A,z,rfl,rfl,rfl⟩:=h;have H:=VQ l _ _ _ _ _ z;have m:Sem p v (fY ρ (aC b (fix t) none)) ((none:Option AV).map (AV.val ρ)) N y F C e:=by cases b <;> exact A
  obtain ⟨x,w,u,B,s⟩:=Dg (T:=T) p v _ none N y F C e m hg.1 (hn.pre H) hle (f++a);obtain ⟨c1,r,o,n⟩:=Vf l e f M K d z hg.2 hn (cK hle (vK p _ _ _ _ _ _ _ _ A).len) a;unfold fZ;rw [bb];dsimp only;generalize fill nm p (aC b (fix t) none) none N.length (y++(f++a))=L at x w u B s;obtain ⟨G,R,k,V,Q⟩:=L;simp only at x w u B s;subst w;subst u;dsimp only;generalize fZ nm fix l e.length (f++a)=L at c1 r o n;obtain ⟨U,S,P,O⟩:=L;simp only at c1 r o n;dsimp only;refine ⟨λt' q c=>?_,r,o,s.append n⟩;cases b
  .simp only [aH.env,look] at c;cases hb:Nat.beq t t'
   .rw [hb] at c;exact c1 t' q c
   .rw [hb] at c;simp only [cw,cC] at c;subst c;have:=aS hb;subst this;refine ⟨aE.get_none,?_⟩;have j:g t=some v:=J;rw [j,x]
  .exact c1 t' q c
end
section
variable {Γ Γ' : Ctx} {w : World}
theorem Sat.Cz(h:Sat Γ w)(q:Nat->Nat->Prop)(g:∀(j:Nat) (jt:Item),Γ'[j]? =some jt->(jt.own=[]/\∀M w,jt.P M w)\/∃(i:Nat) (it:Item),q j i/\Γ[i]? =some it/\ck it jt)
  (u:∀(j k i:Nat),j≠k->q j i->q k i->False):Sat Γ' w:=by
 have mv:Mv Γ.M w (Ctx.M Γ') w:=Mv.weaken w λb hb=>by
  obtain ⟨it,hi,hb⟩:=hb;obtain ⟨k,hk⟩:=List.mem_iff_getElem?.1 hi;rcases g k it hk with ⟨c,_⟩|⟨i,jt,_,f,d⟩
  .rw [c] at hb;cases hb
  .exact Ctx.jV f (d.1 b hb)
 refine ⟨λjt n=>?_,λj k jt kt n hk m b hb a=>?_⟩
 .obtain ⟨k,hk⟩:=List.mem_iff_getElem?.1 n;rcases g k jt hk with ⟨_,c⟩|⟨i,it,_,f,d⟩
  .exact c _ _
  .exact d.2 _ _ (it.dm (h.at_ f) mv (λ_ _=>rfl) (gY.refl w))
 .rcases g j jt n with ⟨c,_⟩|⟨i,it,t,f,d⟩
  .rw [c] at hb;cases hb
  .rcases g k kt hk with ⟨c,_⟩|⟨r,l,s,p,o⟩
   .rw [c] at a;cases a
   .by_cases e:i=r
    .subst e;exact u j k i m t s
    .exact h.sep i r it l f p e b (d.1 b hb) (o.1 b a)
def gT:Item:=ads True
theorem Sat.pull(h:Sat Γ w){i:Nat}{it jt:Item}(hi:Γ[i]? =some it)(hl:ck it jt):Sat (jt::Γ.set i gT) w:=by
 refine h.Cz (λj k=>(j=0/\k=i)\/(j=k+1/\k≠i)) (λj kt a=>?_) (λj k q b d c=>by omega);cases j with
 |zero=>simp at a;subst a;exact .inr ⟨i,it,.inl ⟨rfl,rfl⟩,hi,hl⟩
 |succ j=>
  simp only [cH] at a;by_cases e:j=i
  .subst e;rw [qL (List.getElem?_eq_some_iff.1 hi).1] at a;cases a;exact .inl ⟨rfl,λ_ _=>trivial⟩
  .rw [qD (λh=>e h.symm)] at a;exact .inr ⟨j,kt,.inr ⟨rfl,e⟩,a,ck.refl⟩
theorem Sat.C0{A B:Ctx}{x:Item}(h:Sat (A++x::B) w):Sat (A++B) w:=by
 refine h.Cz (λj k=>(j<A.length/\k=j)\/(A.length<=j/\k=j+1)) (λj jt a=>?_) (λj k q b d c=>by omega);by_cases e:j<A.length
 .rw [cG e] at a;exact .inr ⟨j,jt,.inl ⟨e,rfl⟩,by rw [cG e];exact a,ck.refl⟩
 .have e':A.length<=j:=by omega
  rw [cy e'] at a;refine .inr ⟨j+1,jt,.inr ⟨e',rfl⟩,?_,ck.refl⟩;rw [cy (by omega)];have:j+1-A.length=(j-A.length)+1:=by omega
  rw [this];simpa using a
theorem Sat.asv{A B:Ctx}{x jt:Item}{k:Nat}(h:Sat (A++x::B.set k gT) w)(hk:B[k]? =some jt)(hl:ck x jt):Sat (A++B) w:=by
 have c:=(List.getElem?_eq_some_iff.1 hk).1;refine h.Cz (λj q=>(j<A.length/\q=j)\/(j=A.length+k/\q=A.length)\/(A.length<=j/\j≠A.length+k/\q=j+1)) (λj kt a=>?_) (λj k q d g f=>by omega);by_cases e:j<A.length
 .rw [cG e] at a;exact .inr ⟨j,kt,.inl ⟨e,rfl⟩,by rw [cG e];exact a,ck.refl⟩
 .have e':A.length<=j:=by omega
  rw [cy e'] at a;by_cases b:j=A.length+k
  .subst b;rw [show A.length+k-A.length=k by omega,hk] at a;cases a;exact .inr ⟨A.length,x,.inr (.inl ⟨rfl,rfl⟩),by simp,hl⟩
  .refine .inr ⟨j+1,kt,.inr (.inr ⟨e',b,rfl⟩),?_,ck.refl⟩;rw [cy (by omega)];have:j+1-A.length=(j-A.length)+1:=by omega
   rw [this,cH,qD (by omega)];exact a
theorem Sat.GV{A B:Ctx}{x y:Item}(h:Sat (A++x::B) w)(hl:ck x y):Sat (A++y::B) w:=by
 refine h.Cz (λj k=>j=k) (λj jt a=>?_) (λj k q b f d=>by omega);by_cases e:j<A.length
 .rw [cG e] at a;exact .inr ⟨j,jt,rfl,by rw [cG e];exact a,ck.refl⟩
 .have e':A.length<=j:=by omega
  rw [cy e'] at a;by_cases c:j=A.length
  .subst c;simp at a;subst a;exact .inr ⟨A.length,x,rfl,by simp,hl⟩
  .refine .inr ⟨j,jt,rfl,?_,ck.refl⟩;rw [cy e'];have:j-A.length=(j-A.length-1)+1:=by omega
   rw [this,cH] at a ⊢;exact a
theorem Sat.leL{A B C:Ctx}(h:Sat (A++(B++C)) w){c:Ctx}(hl:fQ ck B c):Sat (A++(c++C)) w:=by
 induction hl generalizing A with
 |nil=>exact h
 | @cons a b l m h1 _ ih=>
  have e:Sat (A++b::(l++C)) w:=h.GV h1;have d:Sat ((A++[b])++(l++C)) w:=by simpa using e
  have:=ih d;simpa using this
def jD:xb->Ctx->Ctx
 |[],Γ=>Γ
 |none::l,Γ=>jD l Γ
 |some i::l,Γ=>(jD l Γ).set i gT
def Ndp:xb->Prop
 |[]=>True
 |none::l=>Ndp l
 |some i::l=>some i∉l/\Ndp l
theorem aaq:∀{l:xb} {Γ:Ctx},(jD l Γ).length=Γ.length
 |[],_=>rfl
 |none::l,Γ=>aaq (l:=l)
 |some j::l,Γ=>by show ((jD l Γ).set j gT).length=_;rw [v7,aaq]
theorem Da:∀{l:xb} {Γ:Ctx} {i:Nat},some i∉l->(jD l Γ)[i]? =Γ[i]?
 |[],_,_,_=>rfl
 |none::l,Γ,i,h=>Da (l:=l) (λa=>h (cb _ a))
 |some j::l,Γ,i,h=>by have e:j≠i:=λe=>h (by rw [e];exact cz ..);show ((jD l Γ).set j gT)[i]? =_;rw [qD e];exact Da (λa=>h (cb _ a))
theorem Ll{x:Item}:∀{l:xb} {Γ:Ctx} {i:Nat},some i∉l->(jD l Γ).set i x=jD l (Γ.set i x)
 |[],_,_,_=>rfl
 |none::l,Γ,i,h=>Ll (l:=l) (λa=>h (cb _ a))
 |some j::l,Γ,i,h=>by have e:j≠i:=λe=>h (by rw [e];exact cz ..);show ((jD l Γ).set j gT).set i x=(jD l (Γ.set i x)).set j gT;rw [List.set_comm _ _ e,Ll (λa=>h (cb _ a))]
def PI(Γ:Ctx)(w:World)(o:za)(x:Bool×Item):Prop:=match o with
 |some i=>∃jt,Γ[i]? =some jt/\ck jt x.2
 |none=>x.2.own=[]/\x.2.P Γ.M w
abbrev dP(I:fF):Ctx:=I.map (·.2)
def fK(I:fF):Ctx:=I.map λx=>aC x.1 gT x.2
theorem Ah(h:Sat Γ w):∀{L:xb} {I:fF},fQ (PI Γ w) L I->Ndp L->Sat (dP I++jD L Γ) w/\∀b,Ctx.M (dP I++jD L Γ) b->Γ.M b
 |_,_,.nil,_=>⟨h,λ_ h=>h⟩
 |_,_,.cons (a:=none) (b:=x) h1 hr,hd=>by
  obtain ⟨ih,c⟩:=Ah h hr hd;refine ⟨ih.add h1.1 (x.2.dm h1.2 (Mv.weaken w c) (λ_ _=>rfl) (gY.refl w)),λb hb=>?_⟩;rcases Ctx.DZ.1 hb with hb|hb
  .rw [h1.1] at hb;cases hb
  .exact c b hb
 |_,_,.cons (a:=some i) (b:=x) (l:=l) (m:=m) h1 hr,hd=>by
  obtain ⟨ih,c⟩:=Ah h hr hd.2;obtain ⟨jt,f,hl⟩:=h1;have hi:(dP m++jD l Γ)[(dP m).length+i]? =some jt:=by rw [cy (by omega),show (dP m).length+i-(dP m).length=i by omega,Da hd.1];exact f
  have g:=ih.pull hi hl;rw [q4 _ _ (by omega),show (dP m).length+i-(dP m).length=i by omega] at g;refine ⟨g,λb hb=>?_⟩;rcases Ctx.DZ.1 hb with hb|hb
  .exact Ctx.jV f (hl.1 b hb)
  .obtain ⟨it,d,e⟩:=hb;refine c b ?_;rcases List.mem_append.1 d with d|d
   .exact ⟨it,qR _ d,e⟩
   .rcases List.mem_or_eq_of_mem_set d with d|d
    .exact ⟨it,gj _ d,e⟩
    .subst d;cases e
def Bp:xb->fF->xb
 |o::L,x::I=>(aC x.1 o none)::Bp L I
 |_,_=>[]
def Dq(Γ:Ctx)(o:za)(x:Bool×Item):Prop:=match o with
 |some i=>∃jt,Γ[i]? =some jt/\(x.1=false->ck x.2 jt)
 |none=>True
theorem Dq.set{Γ:Ctx}{i:Nat}{y:Item}:∀{L:xb} {I:fF},fQ (Dq Γ) L I->some i∉L->fQ (Dq (Γ.set i y)) L I
 |_,_,.nil,_=> .nil
 |_,_,.cons (a:=none) h1 hr,hn=> .cons trivial (Dq.set hr (λh=>hn (cb _ h)))
 |_,_,.cons (a:=some j) h1 hr,hn=>by obtain ⟨jt,b,hl⟩:=h1;have e:i≠j:=λe=>hn (by rw [e];exact cz ..);exact .cons ⟨jt,by rw [qD e];exact b,hl⟩ (Dq.set hr (λh=>hn (cb _ h)))
theorem YU{i:Nat}:∀{L:xb} {I:fF},some i∈Bp L I->some i∈L
 |[],_,h=>by cases h
 |o::L,[],h=>by cases h
 |o::L,x::I,h=>by
  rcases List.mem_cons.1 h with h|h
  .cases hx:x.1
   .rw [hx] at h;cases h
   .rw [hx] at h;exact h▸cz ..
  .exact cb _ (YU h)
theorem JF{A:Ctx}:∀{L:xb} {I:fF} {Γ:Ctx},fQ (Dq Γ) L I->Ndp L->Sat (A++(fK I++jD L Γ)) w->Sat (A++jD (Bp L I) Γ) w
 |_,_,_,.nil,_,h=>h
 |_,_,_,.cons (a:=none) (b:=x) (l:=l) (m:=m) h1 hr,hd,h=>by
  have c:Sat (A++(fK m++jD l _)) w:=Sat.C0 h;have:=JF hr hd c;cases hx:x.1 <;> simpa [Bp,hx,jD] using this
 |_,_,Γ,.cons (a:=some i) (b:=x) (l:=l) (m:=m) h1 hr,hd,h=>by
  obtain ⟨jt,e,hl⟩:=h1;cases hx:x.1
  .have d:fK (x::m)++jD (some i::l) Γ=x.2::(fK m++jD l Γ).set (m.length+i) gT:=by show (aC x.1 gT x.2)::(fK m++(jD l Γ).set i gT)=_;rw [hx,q4 _ _ (by simp [fK])];simp [fK]
   rw [d] at h;have c:=h.asv (jt:=jt) (by
    rw [cy (by simp [fK])];have:m.length+i-(fK m).length=i:=by simp [fK]
    rw [this,Da hd.1];exact e) (hl hx)
   have:=JF hr hd.2 c;simpa [Bp,hx,jD] using this
  .have d:fK (x::m)++jD (some i::l) Γ=gT::(fK m++jD l (Γ.set i gT)):=by show (aC x.1 gT x.2)::(fK m++(jD l Γ).set i gT)=_;rw [hx,Ll hd.1]
   rw [d] at h;have c:=Sat.C0 h;have:=JF (Dq.set hr hd.1) hd.2 c;rw [<-Ll (λh=>hd.1 (YU h))] at this;simpa [Bp,hx,jD] using this
end
def dQ(G H:List Row)(s:Src):za:=match s with
 | .top i=>(match G[i]? with
  |some r=>aC r.cW none (some i)
  |none=>none)
 | .cJ i=>(match H[i]? with
  |some r=>aC r.cW none (some (G.length+i))
  |none=>none)
 |_=>none
def ld(n:Nat):xb->Bool
 |[]=>false
 |o::l=>(match o with
  |some m=>Nat.beq n m
  |none=>false)||ld n l
theorem VE{n:Nat}:{l:xb}->(ld n l=true↔some n∈l)
 |[]=>by simp [ld]
 |none::l=>by simp [ld,VE]
 |some m::l=>by simp only [ld,dk,qi,cC];rw [VE,Nat.beq_eq]
def EW:xb->Bool
 |[]=>true
 |o::l=>(match o with
  |some i=> !(ld i l)
  |none=>true)&&EW l
theorem Ao:{l:xb}->EW l=true->Ndp l
 |[],_=>trivial
 |none::l,h=>by
  simp only [EW,j2] at h;exact Ao (l:=l) h
 |some i::l,h=>by simp only [EW,ar,eF] at h;exact ⟨(λa=>by rw [VE.2 a] at h;cases h.1),Ao h.2⟩
section
variable {ρ : aB} {T : aE} {G H : List Row} {Φ : Ctx} {w : World}
theorem Src.pos{s:Src}{r:Row}(h:s.at_ G H r)(hp:r.cW=false):∃i,dQ G H s=some i/\(ab ρ T G++(ab ρ T H++Φ))[i]? =some (r.item ρ T):=by
 cases s with
 |top i=>
  have h:G[i]? =some r:=h;exact ⟨i,by simp only [dQ,h,hp],gw h⟩
 |cJ i=>
  have h:H[i]? =some r:=h;exact ⟨G.length+i,by simp only [dQ,h,hp],abq h⟩
 |nilI=>exact h.elim
 |nilO=>exact h.elim
 |nilM=>exact h.elim
theorem Src.au4{s:Src}{r:Row}(h:s.at_ G H r)(hp:r.cW=true):dQ G H s=none:=by
 cases s with
 |top i=>
  have h:G[i]? =some r:=h;simp only [dQ,h,hp]
 |cJ i=>
  have h:H[i]? =some r:=h;simp only [dQ,h,hp]
 |nilI=>exact h.elim
 |nilO=>exact h.elim
 |nilM=>exact h.elim
theorem Src.avw{s:Src}(h:∀r,¬s.at_ G H r):dQ G H s=none:=by
 cases s with
 |top i=>
  cases a:G[i]? with
  |none=>simp only [dQ,a]
  |some r=>exact (h r a).elim
 |cJ i=>
  cases a:H[i]? with
  |none=>simp only [dQ,a]
  |some r=>exact (h r a).elim
 |nilI=>rfl
 |nilO=>rfl
 |nilM=>rfl
theorem P8(m:Sat (ab ρ T G++(ab ρ T H++Φ)) w):∀{S:List (Bool×Src)} {I:fF},fQ (SI ρ T G H) S I->fQ (PI (ab ρ T G++(ab ρ T H++Φ)) w) (S.map λx=>dQ G H x.2) I/\fQ (Dq (ab ρ T G++(ab ρ T H++Φ))) (S.map λx=>dQ G H x.2) I
 |_,_,.nil=>⟨.nil,.nil⟩
 |_,_,.cons (a:=a) (b:=x) h1 hr=>by
  obtain ⟨j,h⟩:=P8 m hr;obtain ⟨e,o⟩:=h1;rcases o with ⟨d,f,g⟩|⟨r,d,f,g,n⟩
  .have hp:=Src.avw g;refine ⟨.cons ?_ j,.cons ?_ h⟩
   .show PI _ _ (dQ G H a.2) x;rw [hp];exact ⟨d,f _ _⟩
   .show Dq _ (dQ G H a.2) x;rw [hp];trivial
  .cases c:r.cW
   .obtain ⟨i,l,k⟩:=Src.pos (ρ:=ρ) (T:=T) (Φ:=Φ) d c;refine ⟨.cons ?_ j,.cons ?_ h⟩
    .show PI _ _ (dQ G H a.2) x;rw [l];exact ⟨_,k,f⟩
    .show Dq _ (dQ G H a.2) x;rw [l];exact ⟨_,k,λ_=>n c⟩
   .have hp:=Src.au4 d c;refine ⟨.cons ?_ j,.cons ?_ h⟩
    .show PI _ _ (dQ G H a.2) x;rw [hp];exact ⟨g c,f.2 _ _ (Src.holds m d)⟩
    .show Dq _ (dQ G H a.2) x;rw [hp];trivial
def sV(is:xb):Nat->List Row->List Row
 |_,[]=>[]
 |k,r::G=>(aC (ld k is) .gone r)::sV is (k+1) G
def ll:List Row->List Row
 |[]=>[]
 |r::G=>(match r with
  | .gone=>ll G
  |r=>r::ll G)
theorem F9{B:Ctx}:∀{G:List Row} {A:Ctx},Sat (A++(ab ρ T G++B)) w->Sat (A++(ab ρ T (ll G)++B)) w
 |[],_,h=>h
 |r::G,A,h=>by
  unfold ll;split
  .exact F9 (G:=G) (Sat.C0 h)
  .have a:Sat ((A++[r.item ρ T])++(ab ρ T G++B)) w:=by simpa [ab] using h
   have:=F9 (G:=G) a;simpa [ab] using this
theorem SY{L:xb}:∀{G:List Row} {k:Nat},ab ρ T (sV L k G)=(ab ρ T G).mapIdx λi it=>aC (ld (k+i) L) gT it
 |[],_=>rfl
 |r::G,k=>by
  simp only [sV,ab,et,List.mapIdx_cons];have:=SY (L:=L) (G:=G) (k:=k+1);simp only [ab] at this;rw [this];congr 1
  .simp only [qn];cases ld k L <;> rfl
  .congr 1
   funext i it
   rw [Nat.add_right_comm,qH]
theorem adN:∀{L:xb} {Γ:Ctx} {j:Nat},(jD L Γ)[j]? =(Γ[j]?).map λit=>aC (ld j L) gT it
 |[],Γ,j=>by
  show Γ[j]? =_;cases Γ[j]? <;> rfl
 |none::l,Γ,j=>adN (L:=l)
 |some i::l,Γ,j=>by
  show ((jD l Γ).set i gT)[j]? =_;by_cases e:i=j
  .subst e;rw [tt];have hl:(jD l Γ).length=Γ.length:=aaq;have b:ld i (some i::l)=true:=by simp [ld]
   rw [b];simp only [oi,hl];by_cases hi:i<Γ.length
   .rw [cB hi];simp [hi]
   .rw [j6 (by omega)];simp [hi]
  .rw [qD e,adN (L:=l)];have a:Nat.beq j i=false:=by
    cases hb:Nat.beq j i
    .rfl
    .exact absurd (aS hb).symm e
   simp [ld,a]
end
structure aq where
 f:FuncId
 ps:List Pt
 r:Pt
 os:List (Bool×Nat×Pt)
 m:fy (oN ps)->Option (fy (nC r++iB os))
def aqb:Ty->w5->Nat×w5
 | .p a b,o=>match aqb a o with
  |(n,o)=>match aqb b o with
   |(m,o)=>(n+m,o)
 | .l _,o=>(1,o.tail)
 | .ex,o=>(1,o.tail)
 |_,o=>(0,o)
mutual
def akk:Pt->Nat
 | .sli _|.own _ _ _|.mp _ _ _|.it=>1
 | .bx _ _ _ vs=>Yj vs+1
 | .agg l|.cQ l=>Yj l
 | .fn _ a b=>Yj a+Yj b
 | .ifc _ p=>akk p
 | .sty p=>akk p
 | .dat t o=>(aqb t o).1
 |_=>0
def Yj:List Pt->Nat
 |[]=>0
 |p::l=>akk p+Yj l
end
def ixN:List Pt->Nat->Nat
 |p::l,i+1=>akk p+ixN l i
 |_,_=>0
def PZ(X:kq)(n:Nat):yp:=match X with
 |[]=>[]
 |x::X=>aC (Nat.beq x.1 n) x.2 (PZ X n)
def DN(X:List (Nat×List AV))(n:Nat):List AV:=match X with
 |[]=>[]
 |x::X=>aC (Nat.beq x.1 n) x.2 (DN X n)
theorem GJ{ρ:aB}{n:Nat}:{X:List (Nat×List AV)}->PZ (eB ρ X) n=AV.ao ρ (DN X n)
 |[]=>by simp [PZ,DN,AV.ao]
 |x::X=>by
  show (aC (Nat.beq x.1 n) (AV.ao ρ x.2) (PZ (eB ρ X) n))=AV.ao ρ (aC (Nat.beq x.1 n) x.2 (DN X n));cases Nat.beq x.1 n
  .exact GJ
  .rfl
def WJ(N:List Nm)(ps:List Pt)(vs:yp)(X:kq)(i:Nat):Fx:=aC (Nat.ble 1000 i) ((N[i-1000]?).map λa=>(.pointer (some ⟨a.b,0,none⟩),PZ X (i-1000))) ((vs[i]?).map λv=>(v,PZ X (ixN ps i)))
def yy(B:xb)(ps:List Pt)(vs:List AV)(X:List (Nat×List AV))(i:Nat):iD:=aC (Nat.ble 1000 i) (match B[i-1000]? with
 |some (some j)=>some (.ptr j 0,DN X (i-1000))
 |some none=>some (.gp 0,DN X (i-1000))
 |none=>none) (match vs[i]? with
 |some v=>some (v,DN X (ixN ps i))
 |none=>none)
theorem Zn{ρ:aB}:{l:List AV}->{i:Nat}->(AV.ao ρ l)[i]? =(l[i]?).map (AV.val ρ)
 |[],i=>by simp [AV.ao]
 |v::l,0=>by simp [AV.ao]
 |v::l,i+1=>by simp only [AV.ao,cH];exact Zn
theorem ajo{ρ:aB}{B:xb}(c:NB ρ B N){ps:List Pt}{vs:List AV}{X:List (Nat×List AV)}{i:Nat}:WJ N ps (AV.ao ρ vs) (eB ρ X) i=fY ρ (yy B ps vs X i):=by
 unfold WJ yy;cases Nat.ble 1000 i
 .simp only [aC];rw [Zn];cases vs[i]? with
  |none=>rfl
  |some v=>simp [GJ]
 .simp only [aC];cases hb:B[i-1000]? with
  |none=>
   have:N[i-1000]? =none:=by rw [List.getElem?_eq_none_iff] at hb ⊢;rw [<-c.length];exact hb
   rw [this];rfl
  |some o=>
   obtain ⟨a,e,d⟩:=c.get hb;rw [e];cases o with
   |none=>
    have:a.b=0:=d.1;simp [GJ,AV.val,this]
   |some j=>
    have:a.b=(ρ j).b:=d.1;simp [GJ,AV.val,this]
def aq.Ok(P:Program)(Γg:Ctx)(e:aq):Prop:=Enters P e.f/\∀s r,e.m s=some r->∀(vs:yp) (N:List Nm) (I:fF) (X:kq) (Φ:Ctx) (w:World),
 wB e.ps vs [] [] [] (ic _ s) I X N->Sat (dP I++Φ) w->(∀it∈Γg,it∈Φ)->
 gE P e.f vs w λv w'=>∃(N1 N2:List Nm) (D1 D2:List cD) (I1 I2:fF) (X1 X2:kq),Sem e.r v none none N D1 I1 X1 N1/\Ij (WJ N e.ps vs X) (λi=>vs[i]?) e.os N1 D2 I2 X2 N2/\D1++D2=ic _ r/\
  Sat ((dP I1++dP I2)++(fK I++Φ)) w'
def cellsOf(G H:List Row)(j:Nat):List AV:=match eI G H (Ar j) with
 |some (_,.box _ _ cs)=>cs
 |_=>[]
def aon:(t:Ty)->List AV->w5->zh×List AV×w5
 | .i _,vs,o|.bo,vs,o|.s,vs,o=>([],vs.tail,o)
 | .p a b,vs,o=>match aon a vs o with
  |(i,vs,o)=>match aon b vs o with
   |(j,vs,o)=>(i++j,vs,o)
 | .l _,vs,o=>(match o with
  |none::_=>(match vs with
   |v::_=>v.fq
   |[]=>[])
  |_=>[],vs.tail,o.tail)
 | .ex,vs,o=>(match o with
  |none::_=>(match vs with
   |_::_::_::v::_=>v.fq
   |_=>[])
  |_=>[],vs.drop 4,o.tail)
 |_,vs,o=>([],vs,o)
mutual
def uA(G H:List Row):Pt->AV->zh
 | .sli _,v=>v.fq
 | .bx _ _ _ vs,v=>(match v with
  | .ptr j _=>eV G H vs (cellsOf G H j)
  |_=>[])
 | .agg l,v=>(match v with
  | .agg vs=>eV G H l vs
  |_=>[])
 | .cQ l,v=>(match v with
  | .tuple vs=>eV G H l vs
  |_=>[])
 | .fn _ a b,v=>(match v with
  | .fn _ a' b'=>eV G H a a'++eV G H b b'
  |_=>[])
 | .sty p,v=>uA G H p v
 | .ifc _ p,v=>(match v with
  | .ifc _ u=>uA G H p u
  |_=>[])
 | .dat t o,v=>(match v with
  | .agg cs=>(aon t cs o).1
  |_=>[])
 |_,_=>[]
def eV(G H:List Row):List Pt->List AV->zh
 |[],_=>[]
 |p::l,vs=>(match vs with
  |v::vs=>uA G H p (uN G H v)++eV G H l vs
  |[]=>[])
end
def xC(T:aE)(g:GK):List Row->List Row
 |[]=>[]
 |r::G=>(match r with
  | .sli (some k) id t l b=> .sli (aC (T.imp g (some k)) none (some k)) id t l b
  |r=>r)::xC T g G
def C5(g:GK)(r:Row):Row:=match g with
 |none=>r
 |some g=>(match r with
  | .sli none id t l b=> .sli (some g) id t l b
  | .own id t _ l _=> .sli (some g) id t l false
  |r=>r)
def slB:Row->Bool
 | .sli none _ _ _ _|.own .. =>true
 |_=>false
def ZB:List (Bool×Row)->Bool
 |[]=>true
 |x::l=>slB x.2&&ZB l
def ux(B:xb)(c:Nat)(n:Nat):Nat:=match B[n]? with
 |some (some j)=>j
 |_=>c+n
def R9(c:Nat):xb->Bool
 |[]=>true
 |o::l=>(match o with
  |some j=>Nat.blt j c
  |none=>true)&&R9 c l
theorem agF{ρ ρ':aB}{c:Nat}(a:aZ c ρ ρ'):{B:xb}->{N:List Nm}->R9 c B=true->NB ρ B N->NB ρ' B N
 |[],_,_,h=>by cases h;exact .nil
 |o::B,_,hB,h=>by
  cases h with
  |cons b f=>
   simp only [R9,ar] at hB;refine .cons ?_ (agF a hB.2 f);cases o with
   |none=>exact b
   |some j=>
    have d:j<c:=by simpa using hB.1
    have e:=a j d;show _/\_/\_;rw [e];exact b
def Uv(c:Nat):List (Nat×List AV)->Bool
 |[]=>true
 |x::l=>AV.cr c x.2&&Uv c l
def BR(G H:List Row):List (Bool×Src)->xb
 |[]=>[]
 |x::S=>(aC x.1 (dQ G H x.2) none)::BR G H S
def SJ(n:Nat):xb->Bool
 |[]=>true
 |o::l=>(match o with
  |some i=>Nat.blt i n
  |none=>true)&&SJ n l
def XC:xb->Bool
 |[]=>true
 |o::l=>(match o with
  |some _=>false
  |none=>true)&&XC l
def P2{R:Type}(_fr:Fr)(st:aG)(g:GK)(d:zb)(args:List AV)(e:aq)(mr:MR)(G1:List Row)(K:cT R)(r:fy (nC e.r++iB e.os)):Option R:=
 match fill (ux mr.B st.c) e.r none none mr.B.length (ic _ r) with
 |⟨v,R1,k,D,_⟩=>match fZ (ux mr.B st.c) (yy mr.B e.ps args mr.X) e.os k D with
  |⟨_,R2,k,_⟩=>aC (match g with|none=>true|some _=>ZB R1) (K { st with c:=st.c+k,E:=cN d g v st.E,G:=(R1++R2).map (λx=>C5 g x.2)++G1 }) none
def ajO{R:Type}(T:aE)(fr:Fr)(st:aG)(g:GK)(d:zb)(args:List AV)(e:aq)(K:cT R):Option (Option R):=
 match g with
 |none=>(match Jt (cJ (eV st.G fr.H e.ps args) st.G) fr.H e.ps args [] [] [] with
  |some mr=>aC (EW (mr.S.map λx=>dQ (cJ (eV st.G fr.H e.ps args) st.G) fr.H x.2)&&SJ (cJ (eV st.G fr.H e.ps args) st.G).length (BR (cJ (eV st.G fr.H e.ps args) st.G) fr.H mr.S)&&R9 st.c mr.B&&AV.cr st.c args&&Uv st.c mr.X&&tf (yy mr.B e.ps args mr.X) e.os) (match cQ (oN e.ps) mr.D with
   |some s=>some ((e.m s).bind (P2 fr st none d args e mr (ll (sV (BR (cJ (eV st.G fr.H e.ps args) st.G) fr.H mr.S) 0 (cJ (eV st.G fr.H e.ps args) st.G))) K))
   |none=>none) none
  |none=>none)
 |some gk=>(match Jt (xC T (some gk) (cJ (eV st.G fr.H e.ps args) st.G)) (xC T (some gk) fr.H) e.ps args [] [] [] with
  |some mr=>aC (EW (mr.S.map λx=>dQ (xC T (some gk) (cJ (eV st.G fr.H e.ps args) st.G)) (xC T (some gk) fr.H) x.2)&&XC (BR (xC T (some gk) (cJ (eV st.G fr.H e.ps args) st.G)) (xC T (some gk) fr.H) mr.S)&&e.os.isEmpty&&R9 st.c mr.B&&AV.cr st.c args&&Uv st.c mr.X&&tf (yy mr.B e.ps args mr.X) e.os) (match cQ (oN e.ps) mr.D with
   |some s=>some (bl (T.get (some gk)) (ajz _) (e.m s) (P2 fr st (some gk) d args e mr (cJ (eV st.G fr.H e.ps args) st.G) K))
   |none=>none) none
  |none=>none)
def xH{R:Type}(T:aE)(fr:Fr)(st:aG)(g:GK)(d:zb)(f:FuncId)(args:List AV)(K:cT R):List aq->Option R
 |[]=>none
 |e::tb=>aC (Nat.beq e.f f) (match ajO T fr st g d args e K with
   |some r=>r
   |none=>xH T fr st g d f args K tb) (xH T fr st g d f args K tb)
section
variable {ρ : aB} {T : aE} {G H : List Row} {Φ : Ctx} {w : World}
theorem VB{s:Src}{i:Nat}(h:dQ G H s=some i):i<G.length+H.length:=by
 cases s with
 |top j=>
  simp only [dQ] at h;split at h
  next r a=>obtain ⟨_,b⟩:=Qy h;cases b;have:=(List.getElem?_eq_some_iff.1 a).1;omega
  .cases h
 |cJ j=>
  simp only [dQ] at h;split at h
  next r a=>obtain ⟨_,b⟩:=Qy h;cases b;have:=(List.getElem?_eq_some_iff.1 a).1;omega
  .cases h
 |nilI=>cases h
 |nilO=>cases h
 |nilM=>cases h
theorem VY:∀{S:List (Bool×Src)} {I:fF},fQ (SI ρ T G H) S I->Bp (S.map λx=>dQ G H x.2) I=BR G H S
 |_,_,.nil=>rfl
 |_,_,.cons (a:=a) (b:=x) h1 hr=>by show (aC x.1 (dQ G H a.2) none)::Bp _ _=(aC a.1 (dQ G H a.2) none)::_;rw [VY hr,h1.1]
theorem ZH{n:Nat}:∀{L:xb} {j:Nat},SJ n L=true->ld j L=true->j<n
 |[],j,h,a=>by cases a
 |none::l,j,h,a=>by
  simp only [SJ,j2] at h;simp only [ld,qs] at a;exact ZH h a
 |some i::l,j,h,a=>by
  simp only [SJ,ar,hW] at h;simp only [ld,dk] at a;rcases a with a|a
  .rw [aS a];exact h.1
  .exact ZH h.2 a
theorem E5{L:xb}{Δ:Ctx}(h:SJ G.length L=true):jD L (ab ρ T G++Δ)=ab ρ T (sV L 0 G)++Δ:=by
 apply qF;intro j;rw [adN,SY];by_cases a:j<G.length
 .rw [cG (by simpa [ab] using a),cG (by simpa [ab] using a),List.getElem?_mapIdx];simp
 .have e:ld j L=false:=by
   cases b:ld j L
   .rfl
   .exact absurd (ZH h b) a
  rw [cy (by simp [ab];omega),cy (by simp [ab];omega),e];have c:(ab ρ T G).length=((ab ρ T G).mapIdx λi it=>aC (ld (0+i) L) gT it).length:=by simp
  rw [<-c];cases Δ[j-(ab ρ T G).length]? <;> rfl
theorem afZ:∀{L:xb} {Γ:Ctx},XC L=true->jD L Γ=Γ
 |[],_,_=>rfl
 |none::l,Γ,h=>by
  simp only [XC,j2] at h;exact afZ (L:=l) h
 |some i::l,Γ,h=>by simp [XC] at h
theorem Wd{g:GK}(c:T.get g=true){B:Ctx}:∀{G:List Row} {A:Ctx},Sat (A++(ab ρ T G++B)) w->Sat (A++(ab ρ T (xC T g G)++B)) w
 |[],_,h=>h
 |r::G,A,h=>by
  have step:∀a:Row,ck (r.item ρ T) (a.item ρ T)->Sat (A++(ab ρ T (a::xC T g G)++B)) w:=λa hl=>by
   have d:Sat (A++a.item ρ T::(ab ρ T G++B)) w:=Sat.GV h hl;have e:Sat ((A++[a.item ρ T])++(ab ρ T G++B)) w:=by simpa [ab] using d
   have:=Wd c (G:=G) e;simpa [ab] using this
  unfold xC;split
  .rename_i k id t l b;refine step _ ?_;cases hi:T.imp g (some k)
   .exact ck.refl
   .refine ⟨λ_ h=>h,λM w h _=>h (aE.kZ hi c)⟩
  .exact step _ ck.refl
theorem ZR{g:GK}:∀{G:List Row},fQ ck (ab ρ T (xC T g G)) (ab ρ T G)
 |[]=> .nil
 |r::G=>by
  show fQ ck (ab ρ T (xC T g (r::G))) (r.item ρ T::ab ρ T G);unfold xC;refine .cons ?_ ZR;split
  .rename_i k id t l b;cases hi:T.imp g (some k)
   .exact ck.refl
   .exact ⟨λ_ h=>h,λM w h _=>h aE.get_none⟩
  .exact ck.refl
theorem afC{g:Nat×Bool}{B:Ctx}:∀{R:List (Bool×Row)} {A:Ctx},ZB R=true->Sat (A++(ab ρ T (R.map (·.2))++B)) w->Sat (A++(ab ρ T (R.map λx=>C5 (some g) x.2)++B)) w
 |[],_,_,h=>h
 |(m,r)::R,A,hb,h=>by
  simp only [ZB,ar] at hb;have step:Sat (A++(C5 (some g) r).item ρ T::(ab ρ T (R.map (·.2))++B)) w:=by
   have c:Sat (A++r.item ρ T::(ab ρ T (R.map (·.2))++B)) w:=h;cases r with
   |sli k id t l b=>
    cases k with
    |none=>exact c.GV ⟨λ_ h=>h,λM w h _=>h aE.get_none⟩
    |some k=>simp [slB] at hb
   |own id t e l a=>
    have hi:(A++(Row.own id t e l a).item ρ T::(ab ρ T (R.map (·.2))++B))[A.length]? =some (oa t.rep e (ρ id).v l ((ρ a).y=⟨.l t,l⟩)):=by simp [Row.item]
    have d:=c.ra hi (new:=(C5 (some g) (Row.own id t e l a)).item ρ T) ((Ext.refl w).vS _) (λb hb=>by cases hb) (λM' m hn=>λ_=>⟨(c.at_ hi).1.freeze (λb hb=>hn b hb (λhb=>by cases hb)) m,λhb=>by cases hb⟩);simpa using d
   |_=>simp [slB] at hb
  have f:Sat ((A++[(C5 (some g) r).item ρ T])++(ab ρ T (R.map (·.2))++B)) w:=by simpa using step
  have:=afC (g:=g) hb.2 f;simpa [ab] using this
theorem KZ{g:Nat×Bool}(a:T.get (some g)=false):∀{R:List (Bool×Row)},ZB R=true->∀it∈ab ρ T (R.map λx=>C5 (some g) x.2),it.cW=true/\∀M w,it.P M w
 |[],_,it,h=>by cases h
 |(m,r)::R,hb,it,h=>by
  simp only [ZB,ar] at hb;rw [et,ab,et] at h;rcases List.mem_cons.1 h with rfl|h
  .cases r with
   |sli k id t l b=>
    cases k with
    |none=>exact ⟨rfl,λM w h=>by rw [a] at h;cases h⟩
    |some k=>simp [slB] at hb
   |own id t e l c=>exact ⟨rfl,λM w h=>by rw [a] at h;cases h⟩
   |_=>simp [slB] at hb
  .exact KZ a hb.2 it h
theorem fQ.rw{R:List (Bool×Row)}{I:fF}(h:fQ (RwI ρ T) R I):fQ ck (dP I) (ab ρ T (R.map (·.2))):=by
 induction h with
 |nil=>exact .nil
 |cons a _ ih=>exact .cons a.2.1 ih
theorem YB{R:List (Bool×Row)}:(R.map λx=>C5 none x.2)=R.map (·.2):=rfl
theorem aaR{N2:List Nm}{B:xb}{c:Nat}(q:NB ρ B N)(hp:xF N N2)(r:R9 c B=true):
  w6 (λi=>aC (Nat.blt i c) (ρ i) ((N2[i-c]?).getD dB)) (ux B c) B.length N2:=by
 intro i a k;have e:∀n,(aC (Nat.blt (c+n) c) (ρ (c+n)) ((N2[c+n-c]?).getD dB))=(N2[n]?).getD dB:=λn=>by
  have:Nat.blt (c+n) c=false:=by
   cases hb:Nat.blt (c+n) c
   .rfl
   .simp only [hW] at hb;omega
  rw [this,show c+n-c=n by omega]
 unfold ux;split
 .rename_i j d;obtain ⟨t,s,f⟩:=q.get d;have m:=hp.at_ s;rw [k] at m;cases m;have b:Nat.blt j c=true:=by
   have key:∀(B:xb) (i:Nat),R9 c B=true->B[i]? =some (some j)->Nat.blt j c=true:=λB=>by
    induction B with
    |nil=>intro i _ h;simp at h
    |cons o l ih=>
     intro i h g;simp only [R9,ar] at h;cases i with
     |zero=>simp at g;subst g;exact h.1
     |succ i=>exact ih i h.2 (by simpa using g)
   exact key B i r d
  simp only [b];refine ⟨f.1.symm,f.2.1.symm,f.2.2.symm,λp=>?_⟩;have:=(List.getElem?_eq_some_iff.1 d).1;omega
 .simp only [e,k,qg];exact ⟨trivial,trivial,trivial,λ_=>trivial⟩
theorem agh{ρ':aB}{c:Nat}(a:aZ c ρ ρ'):{X:List (Nat×List AV)}->Uv c X=true->eB ρ' X=eB ρ X
 |[],_=>rfl
 |x::X,h=>by simp only [Uv,ar] at h;show (x.1,AV.ao ρ' x.2)::eB ρ' X=(x.1,AV.ao ρ x.2)::eB ρ X;rw [AV.cn a _ h.1,agh a h.2]
end
section
variable {P : Program} {R : Type} {r : R} {K : cT R} {T : aE} {fr : Fr} {st : aG} {g : GK} {d : zb} {ρ : aB} {Φ Γg : Ctx} {w : World} {ty : TypeId} {pos : String} {af : zd} {gd : xa}
theorem Oc{e:aq}{args:List AV}{a:MR}{l:List Row}{q:fy (nC e.r++iB e.os)}{v:Value}{w':World}{p N2:List Nm}{F s:List cD}{E n:fF}{X1 W:kq}
  (hl:st.low fr=true) (J:bJ st.c l=true) (I:NB ρ a.B N) (hB:R9 st.c a.B=true) (hA:AV.cr st.c args=true) (hX:Uv st.c a.X=true) (hF:tf (yy a.B e.ps args a.X) e.os=true)
  (h1:Sem e.r v none none N F E X1 p) (z:Ij (WJ N e.ps (AV.ao ρ args) (eB ρ a.X)) (λi=>(AV.ao ρ args)[i]?) e.os p s n W N2) (hD:F++s=ic _ q)
  (hg:T.get g=true) (hs:Sat ((dP E++dP n)++(ab ρ T l++(ab ρ T fr.H++Φ))) w') (f:g=none\/e.os=[]) (h:P2 fr st g d args e a l K q=some r):bc r K T fr st g d ρ Φ v w':=by
 have w:=vK _ _ _ _ _ _ _ _ _ h1;have u:=VQ _ _ _ _ _ _ z;have m:=aaR (N2:=N2) I (w.trans u) hB;have b:aZ st.c ρ (λi=>aC (Nat.blt i st.c) (ρ i) ((N2[i-st.c]?).getD dB)):=λj hj=>by
  have:Nat.blt j st.c=true:=by simpa using hj
  simp only [this]
 generalize hρ:(λi=>aC (Nat.blt i st.c) (ρ i) ((N2[i-st.c]?).getD dB))=ρ' at m b;have y:a.B.length=N.length:=I.length;obtain ⟨V,U,S,a4,Q⟩:=Dg (T:=T) e.r v none none N F E X1 p h1 (H7 _) (m.pre u) (by omega) s;have M:Ij (λi=>fY ρ' (yy a.B e.ps args a.X i)) (λi=>(AV.ao ρ args)[i]?) e.os p s n W N2:=by
  have e1:(λi=>fY ρ' (yy a.B e.ps args a.X i))=WJ N e.ps (AV.ao ρ args) (eB ρ a.X):=by
   funext i
   rw [<-AV.cn b _ hA,<-agh b hX,ajo (agF b hB I)]
  rw [e1];exact z
 obtain ⟨b1,P,O,o⟩:=Vf (T:=T) e.os p s n W N2 M hF m (cK (by omega) w.len) [];unfold P2 at h;rw [<-hD,y] at h;generalize fill (ux a.B st.c) e.r none none N.length (F++s)=L at V U S a4 Q h;obtain ⟨v',D,k,DD,XX⟩:=L;simp only at V U S a4 Q;subst U;subst S;dsimp only at h;rw [l5] at b1 P O o;generalize fZ (ux a.B st.c) (yy a.B e.ps args a.X) e.os p.length DD=L at b1 P O o h;obtain ⟨E2,Y,Z,DD2⟩:=L;simp only at P O o;dsimp only at h;obtain ⟨c1,c2⟩:=aK h;refine bc.new (ρ':=ρ') hl c2 b (by simp) rfl V ?_;have t:Sat ((ab ρ' T (D.map (·.2))++ab ρ' T (Y.map (·.2)))++(ab ρ T l++(ab ρ T fr.H++Φ))) w':=by have k1:=Sat.leL (A:=[]) (B:=dP E) (C:=dP n++(ab ρ T l++(ab ρ T fr.H++Φ))) (by simpa using hs) Q.rw;have Z:=Sat.leL (A:=ab ρ' T (D.map (·.2))) (B:=dP n) (C:=ab ρ T l++(ab ρ T fr.H++Φ)) k1 o.rw;simpa using Z
 have e3:=bm (T:=T) b J;show Sat (ab ρ' T ((D++Y).map (λx=>C5 g x.2)++l)++(ab ρ T fr.H++Φ)) w';rw [bu,e3,wb,bu];cases g with
 |none=>
  rw [YB,YB];simpa using t
 |some gk=>
  rcases f with f|f
  .cases f
  .have G:Y=[]:=by
    have hI:n=[]:=by rw [f] at z;exact z.2.1
    rw [hI] at o;cases o;rfl
   subst G;have k3:=afC (g:=gk) (A:=[]) (R:=D) (B:=ab ρ T l++(ab ρ T fr.H++Φ)) c1 (by simpa using t);simpa using k3
theorem amb{e:aq}{op:Op}{args:List AV}(hl:st.low fr=true)(p:Sat (ab ρ T st.G++(ab ρ T fr.H++Φ)) w)(he:e.Ok P Γg)(hΓ:∀it∈Γg,it∈Φ)
  (ent:T.get g=true->∀n j,Fits n (az ρ T st.E fr.F) j->(execOp j.eval ⟨d,op,ty,pos,af,gd⟩).run P w= .ok (.enter e.f (AV.ao ρ args).toArray) w) (h:ajO T fr st g d args e K=some (some r)):
  jU P T g (az ρ T st.E fr.F) ⟨d,op,ty,pos,af,gd⟩ w (bc r K T fr st g d ρ Φ):=by
 have hGl:=s9 (ids:=eV st.G fr.H e.ps args) (aG.cS.1 hl).2.2.1;replace p:=ka (ids:=eV st.G fr.H e.ps args) p
 -- what is lent, taken and handed back
 have key:∀(o l:List Row) (a:MR) (s:fy (oN e.ps)) (q:fy (nC e.r++iB e.os)),Sat (ab ρ T o++(ab ρ T l++Φ)) w->Jt o l e.ps args [] [] []=some a->EW (a.S.map λx=>dQ o l x.2)=true->
   cQ (oN e.ps) a.D=some s->e.m s=some q->gE P e.f (AV.ao ρ args) w λv w'=>∃(N J N2:List Nm) (R Q:List cD) (O M:fF) (X1 X2:kq),NB ρ a.B N/\Sem e.r v none none N R O X1 J/\
    Ij (WJ N e.ps (AV.ao ρ args) (eB ρ a.X)) (λi=>(AV.ao ρ args)[i]?) e.os J Q M X2 N2/\R++Q=ic _ q/\Sat ((dP O++dP M)++jD (BR o l a.S) (ab ρ T o++(ab ρ T l++Φ))) w':=λo l a s q p hm hnd b hq=>by
  obtain ⟨N,I,s1,U,a1⟩:=A5 p e.ps args [] [] [] a [] hm (.inl rfl) .nil;rw [<-C9 _ b] at s1;obtain ⟨p1,p2⟩:=P8 p a1;have y:=Ao hnd;obtain ⟨q1,_⟩:=Ah p p1 y;refine (he.2 s q hq (AV.ao ρ args) N I (eB ρ a.X) _ w (by simpa only [AV.ao] using s1) q1 (λit bQ=>?_)).mono ?_
  .obtain ⟨k,hk⟩:=List.mem_iff_getElem?.1 (hΓ it bQ);have hk2:(ab ρ T o++(ab ρ T l++Φ))[o.length+l.length+k]? =some it:=by
    rw [cy (by simp [ab];omega),cy (by simp [ab];omega)];have:o.length+l.length+k-(ab ρ T o).length-(ab ρ T l).length=k:=by simp [ab];omega
    rw [this];exact hk
   refine qf (i:=o.length+l.length+k) ?_;rw [Da,hk2];intro Z;obtain ⟨x,_,hx⟩:=List.mem_map.1 Z;have:=VB hx;omega
  .intro v w' W;obtain ⟨J,N2,R,Q,O,M,X1,X2,c1,c2,c3,C⟩:=W;have z:=JF p2 y C;rw [VY a1] at z;exact ⟨N,J,N2,R,Q,O,M,X1,X2,U,c1,c2,c3,z⟩
 unfold ajO at h;cases g with
 |none=>
  dsimp only at h;split at h
  .rename_i a hm;obtain ⟨h1,u⟩:=aK h;simp only [ar] at h1;obtain ⟨⟨⟨⟨⟨h3,h4⟩,h5⟩,h6⟩,h7⟩,h9⟩:=h1;split at u
   .rename_i s b;simp only [cC] at u;obtain ⟨q,hq,hk⟩:=C1 u;refine .none_ (λn j hf=> .inr (.inr ⟨e.f,AV.ao ρ args,ent aE.get_none n j hf,(key _ _ a s q p hm h3 b hq).mono λv w' W=>?_⟩));obtain ⟨N,J,N2,R,Q,O,M,X1,X2,U,c1,c2,c3,C⟩:=W;rw [E5 h4] at C;have z:=F9 C;refine Oc hl ?_ U h5 h6 h7 h9 c1 c2 c3 aE.get_none z (.inl rfl) hk;have V:∀(L:xb) (G:List Row) (k:Nat),bJ st.c G=true->bJ st.c (ll (sV L k G))=true:=λL G=>by
     induction G with
     |nil=>intro k _;rfl
     |cons r G ih=>
      intro k hG;simp only [bJ,ar] at hG;show bJ st.c (ll ((aC (ld k L) .gone r)::sV L (k+1) G))=true;cases ld k L
      .cases r <;> first|exact ih (k+1) hG.2|(simp only [ll,bJ,ar];exact ⟨hG.1,ih (k+1) hG.2⟩)
      .exact ih (k+1) hG.2
    exact V _ _ _ hGl
   .cases u
  .cases h
 |some gk=>
  dsimp only at h;split at h
  .rename_i a hm;obtain ⟨h1,u⟩:=aK h;simp only [ar] at h1;obtain ⟨⟨⟨⟨⟨⟨h3,h4⟩,h8⟩,h5⟩,h6⟩,h7⟩,h9⟩:=h1;have Y:e.os=[]:=by simpa using h8
   split at u
   .rename_i s b;simp only [cC] at u;obtain ⟨q,hq1,hq0,hk⟩:=XT u;refine ⟨λt=>λn j hf=> .inr (.inr ⟨e.f,AV.ao ρ args,ent t n j hf,(key _ _ a s q (Wd (A:=ab ρ T (xC T (some gk) (cJ (eV st.G fr.H e.ps args) st.G))) t (Wd (A:=[]) t p)) hm h3 b (hq1 t)).mono λv w' W=>?_⟩),λt=>?_⟩
    .obtain ⟨N,J,N2,R,Q,O,M,X1,X2,U,c1,c2,c3,C⟩:=W;rw [afZ h4] at C;have z:=Sat.leL C ZR;rw [<-bb] at z;have c6:=Sat.leL z ZR;rw [bb] at c6;exact Oc hl hGl U h5 h6 h7 h9 c1 c2 c3 t c6 (.inr Y) hk
    .have e0:=hq0 t;subst e0;unfold P2 at hk;generalize fill (ux a.B st.c) e.r none none a.B.length (ic _ (ajz _))=L at hk;obtain ⟨v',R1,k,DD,XX⟩:=L;dsimp only at hk;have e2:fZ (ux a.B st.c) (yy a.B e.ps args a.X) e.os k DD=⟨[],[],k,DD⟩:=by rw [Y];rfl
     rw [e2] at hk;dsimp only at hk;obtain ⟨d1,d2⟩:=aK hk;refine ⟨_,bc.jw d2 (by simp) rfl rfl ?_⟩;show Sat (ab ρ T ((R1++[]).map (λx:Bool×Row=>C5 (some gk) x.2)++_)++_) w;rw [l5,bu,bb];exact DB p _ (λit bQ=>⟨(KZ t d1 it bQ).1,(KZ t d1 it bQ).2 _ _⟩)
   .cases u
  .cases h
end
def WY:(t:Ty)->List t.T->Option yp
 | .s,xs=>some (xs.map S)
 | .i k,xs=>some (xs.map (.int k))
 |_,_=>none
def glI(p:Nat×Nat×cD):Item:=match p.2.2 with
 |⟨.l t,xs⟩=>(match WY t xs with
  |some cs=>gl p.1 cs
  |none=>gT)
 |_=>gT
def Cx.Γ(X:Cx):Ctx:=X.gls.map glI
def adh:List (Nat×Nat×cD)->Nat->Option cD
 |[],_=>none
 |p::l,b=>aC (Nat.beq p.1 b) (some p.2.2) (adh l b)
theorem adC:{l:List (Nat×Nat×cD)}->{b:Nat}->{d:cD}->adh l b=some d->∃p,p∈l/\p.1=b/\p.2.2=d
 |[],_,_,h=>by cases h
 |p::l,b,d,h=>by
  unfold adh at h;rcases eb h with ⟨f,a⟩|⟨_,a⟩
  .cases a;exact ⟨p,cz .., aS f,rfl⟩
  .obtain ⟨q,e,c⟩:=adC a;exact ⟨q,cb _ e,c⟩
theorem anq{M:Nat->Prop}{w:World}:{t:Ty}->{xs:List t.T}->{cs:yp}->WY t xs=some cs->dh t.rep M w cs xs
 | .s,xs,_,h=>by cases h;exact afY xs
 | .i k,xs,_,h=>by cases h;exact aaX xs
 | .bo,_,_,h|.un,_,_,h|.n,_,_,h|.p _ _,_,_,h|.l _,_,_,h|.mp _ _,_,_,h|.ex,_,_,h=>by cases h
structure GA where
 n:Nat
 e:TypeId
 b:Nat
 t:Ty
 xs:List t.T
 m:Nat
def gaA(X:Cx)(T:aE)(fr:Fr)(st:aG)(g:GK)(t:TypeId)(x:Operand):Option GA:=match X.P.underlying t with
 |some (.array n e)=>(match lJ X.P e with
  |some z=>(match bE T st.E fr.F g x with
   |some (.gp b)=>(match adh X.gls b with
    |some ⟨.l u,xs⟩=>aC ((WY u xs).isSome&&Nat.beq z.1 u.n'&&Nat.beq n xs.length&&Nat.blt 0 n) (some ⟨n,e,b,u,xs,z.1⟩) none
    |_=>none)
   |_=>none)
  |none=>none)
 |_=>none
section
variable {X : Cx} {R : Type} {r : R} {K : cT R} {T : aE} {fr : Fr} {st : aG} {g : GK} {d : Tmp} {ρ : aB} {Φ : Ctx} {w : World} {ty : TypeId} {pos : String} {af : zd} {gd : xa}
theorem alW{t:TypeId}{q:GA}(f:∀it∈X.Γ,it∈Φ)(D:Sat (ab ρ T st.G++(ab ρ T fr.H++Φ)) w)(h:gaA X T fr st g t x=some q):
  X.P.underlying t=some (.array q.n q.e)/\(∃bytes z,TI X.P q.e q.m bytes z)/\au (az ρ T st.E fr.F) (T.get g) x (.pointer (some ⟨q.b,0,none⟩))/\q.m=q.t.rep.n/\q.n=q.xs.length/\Nat.blt 0 q.n=true/\
   ca q.t.rep (Ctx.M (ab ρ T st.G++(ab ρ T fr.H++Φ))) w (sl (some ⟨q.b,0,none⟩,q.xs.length,q.xs.length)) q.xs:=by
 unfold gaA at h;split at h
 .rename_i n e C;split at h
  .rename_i z B;obtain ⟨m,bytes,z⟩:=z;split at h
   .rename_i b hx;split at h
    .rename_i u xs I;obtain ⟨v,N⟩:=aK h;cases N;simp only [ar] at v;obtain ⟨⟨⟨s,L⟩,K⟩,J⟩:=v;have c:=aW (ρ:=ρ) hx;simp only [AV.val] at c;obtain ⟨p,y,r,o⟩:=adC I;obtain ⟨k,A,R⟩:=p;simp only at r o;subst r;subst o;cases j:WY u xs with
     |none=>rw [j] at s;cases s
     |some cs=>
      have d:gl k cs∈Φ:=by have:=f (glI (k,A,⟨.l u,xs⟩)) (List.mem_map.2 ⟨_,y,rfl⟩);unfold glI at this;simp only [j] at this;exact this
      have a:gl k cs∈ab ρ T st.G++(ab ρ T fr.H++Φ):=gj _ (gj _ d);obtain ⟨i,hi⟩:=List.mem_iff_getElem?.1 a;obtain ⟨Q,O⟩:=D.gl hi;exact ⟨C,⟨bytes,z,cU B⟩,c,(aS L).trans u.EJ.symm,aS K,J,auD Q O (anq j)⟩
    .cases h
   .cases h
  .cases h
 .cases h
def adf(X:Cx)(T:aE)(fr:Fr)(st:aG)(g:GK)(d:Tmp)(t:TypeId)(x y:Operand)(K:cT R):Option R:=match gaA X T fr st g t x with
 |some q=>(match bE T st.E fr.F g y with
  |some (.int _ i)=>atc T g st d q.t q.xs i K
  |_=>none)
 |none=>none
theorem agk{O:TypeId}{y:Operand}(hl:st.low fr=true)(Q:∀it∈X.Γ,it∈Φ)(Z:Sat (ab ρ T st.G++(ab ρ T fr.H++Φ)) w)(h:adf X T fr st g d O x y K=some r):
  Ub X.P T g (az ρ T st.E fr.F) ⟨some d,.indexAddr O x y,ty,pos,af,gd⟩ w (bc r K T fr st g (some d) ρ Φ):=by
 unfold adf at h;split at h
 .rename_i q hq;obtain ⟨Y,⟨bytes,z,D⟩,C,hm,hn,_,hS⟩:=alW Q Z hq;obtain ⟨n,e,b,t,l,m⟩:=q;simp only at Y D C hm hn hS h;split at h
  .rename_i k i hy;have B:=aW (ρ:=ρ) hy;simp only [AV.val] at B;obtain ⟨u,b1,b2⟩:=CR h;have key:∃(p:Addr) (f:aB),aZ st.c ρ f/\(f st.c).a=p/\(T.get g=true->B1 (sl (some ⟨b,0,none⟩,l.length,l.length)) i m p)/\
     ∀it∈ab f T (.elm g st.c (ek t u (st.c+1)).1::((ek t u (st.c+1)).2.1.map (xn g))),it.cW=true/\it.P (Ctx.M (ab ρ T st.G++(ab ρ T fr.H++Φ))) w:=by
    cases s:T.get g
    .refine ⟨⟨0,0,none⟩,ρ.set st.c dB,aB.bg,by rw [aB.bM];rfl,(λh=>by cases h),λit bQ=>?_⟩;rw [ab,et] at bQ;rcases List.mem_cons.1 bQ with rfl|bQ
     .exact ⟨rfl,λh=>by rw [s] at h;cases h⟩
     .obtain ⟨r1,v,rfl⟩:=List.mem_map.1 bQ;obtain ⟨r2,j,rfl⟩:=List.mem_map.1 v;obtain ⟨j1,t1,l1,rfl⟩:=Of _ _ _ _ j;exact vV (λh=>by rw [s] at h;cases h)
    .obtain ⟨N,vs,V,U,e4⟩:=hS.atA (b1 s);obtain ⟨f,A⟩:=Jn (T:=T) t u (st.c+1) vs U (ρ.set st.c { dB with a:=tu (sl (some ⟨b,0,none⟩,l.length,l.length)) i t.rep.n });have L:(f st.c).a=tu (sl (some ⟨b,0,none⟩,l.length,l.length)) i t.rep.n:=by rw [A.ag _ (mV _),aB.bM]
     refine ⟨tu (sl (some ⟨b,0,none⟩,l.length,l.length)) i t.rep.n,f,aB.bg.trans A.ag (jm _),L,λ_=>by rw [hm];exact N,λit bQ=>?_⟩;rw [ab,et] at bQ;rcases List.mem_cons.1 bQ with rfl|bQ
     .refine ⟨rfl,λ_=>?_⟩;show ¬Ctx.M _ (f st.c).a.block/\bW w (f st.c).a _;rw [L,A.eq];exact ⟨e4,V⟩
     .obtain ⟨r1,v,rfl⟩:=List.mem_map.1 bQ;obtain ⟨r2,j,rfl⟩:=List.mem_map.1 v;have S:=A.rp _ j;obtain ⟨j1,t1,l1,rfl⟩:=A.rs _ j;exact vV (λ_=>S)
   obtain ⟨p,f,W,k2,k3,k4⟩:=key;have R:=DB Z _ k4;have eG:=bm (T:=T) W (aG.cS.1 hl).2.2.1
   -- what stands there where g does not hold does not count
   have I:∀w',bq X.P (az ρ T st.E fr.F) (T.get g) ⟨some d,.indexAddr O x y,ty,pos,af,gd⟩ w' (.pointer (some ((⟨b,0,none⟩:Addr).add (i.toNat*m)))):=λw'=>
    Co Y D C B (λs=>arX (b1 s) hn.symm)
   have o:bc r K T fr st g (some d) ρ Φ (.pointer (some p)) w:=by
    refine bc.new (ρ':=f) hl b2 W (cK (jm _) (OS _ _ _)) rfl (by simp only [AV.val,k2];simp [Addr.add]) ?_;show Sat (ab f T (Row.elm g st.c _::(_++st.G))++_) w;have e8:ab f T (Row.elm g st.c (ek t u (st.c+1)).1::((ek t u (st.c+1)).2.1.map (xn g)++st.G))=ab f T (.elm g st.c (ek t u (st.c+1)).1::((ek t u (st.c+1)).2.1.map (xn g)))++ab f T st.G:=by simp [ab]
    rw [e8,eG,bb];exact R
   cases s:T.get g
   .exact ⟨_,λw'=>λn a hf J=>(by rw [s] at J;cases J),o⟩
   .obtain ⟨a,len,cap,N,_,_,V⟩:=k3 s;have U:p=(⟨b,0,none⟩:Addr).add (i.toNat*m):=by
     injection N with N _ _
     cases N;exact V
    subst U;exact ⟨_,I,o⟩
  .cases h
 .cases h
def ao1(X:Cx)(T:aE)(fr:Fr)(st:aG)(d:Tmp)(t:TypeId)(x:Operand)(lo hi mx:Option Operand)(K:cT R):Option R:=match lo,hi,mx with
 |none,none,none=>(match gaA X T fr st none t x with
  |some q=>K { st with c:=st.c+1,E:=cN (some d) none (.sl st.c) st.E,G:= .sli none st.c q.t q.xs false::st.G }
  |none=>none)
 |_,_,_=>none
theorem arz{t:TypeId}{lo hi g:Option Operand}(hl:st.low fr=true)(e:∀it∈X.Γ,it∈Φ)(i:Sat (ab ρ T st.G++(ab ρ T fr.H++Φ)) w)(h:ao1 X T fr st d t x lo hi g K=some r):
  jU X.P T none (az ρ T st.E fr.F) ⟨some d,.slice t x lo hi g,ty,pos,af,gd⟩ w (bc r K T fr st none (some d) ρ Φ):=by
 unfold ao1 at h;split at h
 .split at h
  next q k=>obtain ⟨j,⟨bytes,z,f⟩,a,m,hn,c,l⟩:=alW e i k;rw [aE.get_none] at a;refine .none_ (bL.gd (bL.run (akD j f c a) ?_));refine bc.push (x:={ dB with v:=(some ⟨q.b,0,none⟩,q.n,q.n) }) hl h (by simp only [AV.val,aB.bM];rfl) (i.add rfl ?_);intro _;rw [aB.bM];exact ⟨by rw [hn];exact l,λh=>by cases h⟩
  .cases h
 .cases h
end
variable {cv : x6 × AV}
def sEq(P:Program)(t:TypeId)(a b:AV):x6:=match P.underlying t with
 |some (.int _)=>(match a,b with
  | .int k x,.int k' y=>aC (gG k k') (some (x==y)) none
  |_,_=>none)
 |some .bool=>(match a,b with
  | .bool x,.bool y=>some (x==y)
  |_,_=>none)
 |some .string=>(match a,b with
  | .str x,.str y=>some (x==y)
  |_,_=>none)
 |_=>none
def fEq(P:Program):List Field->Nat->List AV->List AV->Option (List Bool)
 |[],_,l1,l2=>aC (l1.isEmpty&&l2.isEmpty) (some []) none
 |f::fs,k,l1,l2=>(match l1,l2 with
  |a::l1,b::l2=>aC (f.name != "_" &&Nat.beq f.offset k) (match sEq P f.type a b with
   |some r=>(match fEq P fs (k+1) l1 l2 with
    |some l=>some (r::l)
    |none=>none)
   |none=>none) none
  |_,_=>none)
def adz:Bool->List Bool->Bool
 |b,[]=>b
 |b,c::l=>adz (b&&c) l
def eqL:List Bool->Bool
 |[]=>true
 |b::l=>adz b l
theorem aje:∀{l:List Bool} {b:Bool},adz b l=(b&&l.foldr (· && ·) true)
 |[],b=>by simp [adz]
 |c::l,b=>by simp only [adz,aje,List.foldr_cons,Bool.and_assoc]
theorem atC:∀{l:List Bool},eqL l=l.foldr (· && ·) true
 |[]=>rfl
 |b::l=>by simp only [eqL,aje,List.foldr_cons]
def apX(X:Cx)(T:aE)(E F:aH)(g:GK):Op->CV
 | .binOp op t x y _=>(match bE T E F g x with
  |some (.agg l1)=>(match bE T E F g y with
   |some (.agg l2)=>(match X.P.underlying t with
    |some (.struct fs)=>aC (!(X.P.eqGuardType X.P.depth t)&& !(X.P.stoodInHeld t)) (match fEq X.P fs.toList 0 l1 l2 with
     |some bs=>(match op with
      | .eql=>pv (.bool (eqL bs))
      | .neq=>pv (.bool (!(eqL bs)))
      |_=>none)
     |none=>none) none
    |_=>none)
   |_=>none)
  |_=>none)
 |_=>none
def aoH(X:Cx)(T:aE)(E F:aH)(g:GK):Op->CV
 | .typeAssert x _ t true=>(match X.P.underlying t with
  |some dd=>aC (!(ig dd)) (match bE T E F g x with
   |some (.ifc t' v)=>aC (Nat.beq t' t) (pv (.tuple [v,.bool true])) (match lJ X.P t with
    |some z=>pv (.tuple [.raw z.2.2,.bool false])
    |none=>none)
   |some (.raw .nilIface)=>(match lJ X.P t with
    |some z=>pv (.tuple [.raw z.2.2,.bool false])
    |none=>none)
   |_=>none) none
  |none=>none)
 |_=>none
def akI(X:Cx)(T:aE)(E F:aH)(g:GK):Op->CV
 | .indexAddr t x (.const (.int _ (.ofNat j)))=>(match X.P.underlying t with
  |some (.array n e)=>(match lJ X.P e with
   |some z=>(match bE T E F g x with
    |some (.ptr id off)=>aC (Nat.blt j n) (pv (.ptr id (off+j*z.1))) none
    |_=>none)
   |none=>none)
  |_=>none)
 |_=>none
def ap6(X:Cx)(T:aE)(E F:aH)(g:GK)(op:Op):CV:=match aod X T E F g op with
 |some cv=>some cv
 |none=>(match apX X T E F g op with
  |some cv=>some cv
  |none=>(match aoH X T E F g op with
   |some cv=>some cv
   |none=>akI X T E F g op))
section
variable {X : Cx} {T : aE} {E F : aH} {g : GK} {ρ : aB} {w : World} {dst : zb} {ty : TypeId} {pos : String} {af : zd} {gd : xa}
theorem att{P:Program}{t:TypeId}{a b:AV}{r:Bool}(d:Nat)(h:sEq P t a b=some r):(∃td,P.underlying t=some td/\kJ td=false)/\(Op.equalIn (d+1) t (a.val ρ) (b.val ρ)).run P w= .ok r w:=by
 unfold sEq at h;split at h
 .rename_i i c;split at h
  next k x j y=>obtain ⟨g,f⟩:=aK h;cases f;have e:=iE g;subst e;exact ⟨⟨_,c,rfl⟩,by simp only [AV.val];exact run_equalIn_int w d t _ _ _ _ c⟩
  .cases h
 .rename_i c;split at h
  .cases h;exact ⟨⟨_,c,rfl⟩,by simp only [AV.val];exact run_equalIn_bool' w d t _ _ c⟩
  .cases h
 .rename_i c;split at h
  .cases h;exact ⟨⟨_,c,rfl⟩,by simp only [AV.val];exact abP _ w d t _ _ c⟩
  .cases h
 .cases h
theorem ans{P:Program}{xs ys:yp}(d:Nat):∀{m:List Field} {k:Nat} {g e:List AV} {i:List Bool},fEq P m k g e=some i->xs.drop k=AV.ao ρ g->ys.drop k=AV.ao ρ e->
  (Op.eqFields (d+1) xs.toArray ys.toArray m).run P w= .ok (i.foldr (· && ·) true) w
 |[],k,g,e,i,h,_,_=>by
  unfold fEq at h;obtain ⟨_,c⟩:=aK h;cases c;exact asA
 |f::m,k,g,e,i,h,hx,hy=>by
  unfold fEq at h;split at h
  .rename_i a g b e;obtain ⟨j,c⟩:=aK h;simp only [ar] at j;have n:=aS j.2;split at c
   .rename_i r p;split at c
    .rename_i l hl;cases c;obtain ⟨⟨t,t1,t2⟩,o⟩:=att (ρ:=ρ) (w:=w) d p;simp only [AV.ao] at hx hy;have s:xs[k]? =some (a.val ρ):=by rw [<-List.head?_drop,hx];rfl
     have q:ys[k]? =some (b.val ρ):=by rw [<-List.head?_drop,hy];rfl
     refine aph j.1 (ajM t1 t2 (by rw [n];exact s)) (ajM t1 t2 (by rw [n];exact q)) o ?_;refine ans d hl ?_ ?_
     .rw [<-l7,hx];rfl
     .rw [<-l7,hy];rfl
    .cases c
   .cases c
  .cases h
theorem apY{op:Op}(h:apX X T E F g op=some cv):nO X.P (az ρ T E F) ρ (T.get g) ⟨dst,op,ty,pos,af,gd⟩ w cv:=by
 unfold apX at h;split at h
 .rename_i o t x y t';split at h
  .rename_i k hx;split at h
   .rename_i j l;split at h
    .rename_i m f;obtain ⟨d,c⟩:=aK h;simp only [ar,eF] at d;split at c
     .rename_i n e;have b:=aW (ρ:=ρ) hx;have a:=aW (ρ:=ρ) l;simp only [AV.val] at b a;have i:X.P.fieldsOf t=m:=by simp [Program.fieldsOf,f]
      have key:(Op.equalIn 10000 t (.agg (AV.ao ρ k).toArray) (.agg (AV.ao ρ j).toArray)).run X.P w= .ok (eqL n) w:=by rw [run_equalIn_struct w 9999 t _ _ (by rw [i];exact f) d.2,i,atC];exact ans 9998 e rfl rfl
      split at c
      .refine .pv c (cP b a ?_);rw [Sem.run_bind,run_eqGuard_agg w _ _ _ _ _ _ d.1,Result.andThen_ok,run_eql_struct,key];simp only [AV.val,Result.andThen_ok]
      .refine .pv c (cP b a ?_);rw [Sem.run_bind,run_eqGuard_agg w _ _ _ _ _ _ d.1,Result.andThen_ok,run_neq_struct,key];simp only [AV.val,Result.andThen_ok]
      .cases c
     .cases c
    .cases h
   .cases h
  .cases h
 .cases h
theorem ao0{op:Op}(h:aoH X T E F g op=some cv):nO X.P (az ρ T E F) ρ (T.get g) ⟨dst,op,ty,pos,af,gd⟩ w cv:=by
 unfold aoH at h;split at h
 .rename_i x s t;split at h
  .rename_i dd f;obtain ⟨j,b⟩:=aK h;have hd:ig dd=false:=by simpa using j
   split at b
   .rename_i t' v hx;have a:=aW (ρ:=ρ) hx;simp only [AV.val] at a;rcases eb b with ⟨i,c⟩|⟨i,c⟩
    .have:=aS i;subst this;refine .pv c ?_;simp only [AV.val,AV.ao];exact acn f hd a
    .split at c
     next z d=>obtain ⟨n,bytes,z⟩:=z;refine .pv c ?_;simp only [AV.val,AV.ao];exact acb (λe=>by subst e;simp at i) f hd (cU d) a
     .cases c
   .rename_i hx;split at b
    next z d=>obtain ⟨n,bytes,z⟩:=z;have a:=aW (ρ:=ρ) hx;simp only [AV.val] at a;refine .pv b ?_;simp only [AV.val,AV.ao];exact ace f hd (cU d) a
    .cases b
   .cases b
  .cases h
 .cases h
theorem alT{op:Op}(h:akI X T E F g op=some cv):nO X.P (az ρ T E F) ρ (T.get g) ⟨dst,op,ty,pos,af,gd⟩ w cv:=by
 unfold akI at h;split at h
 .rename_i t x k j;split at h
  .rename_i n e l;split at h
   .rename_i z i;obtain ⟨m,bytes,z⟩:=z;split at h
    .rename_i id off hx;obtain ⟨f,o⟩:=aK h;have d:=aW (ρ:=ρ) hx;simp only [AV.val] at d;refine .pv o ?_;have a:=Co (P:=X.P) (w:=w) (dst:=dst) (ty:=ty) (pos:=pos) (af:=af) (gd:=gd) (y:= .const (.int k (.ofNat j))) l (cU i) d au.c (by intro _;rw [hW] at f;exact Ac.2 ⟨Int.natCast_nonneg j,by simpa using f⟩)
     have p:((⟨(ρ id).b,off,none⟩:Addr).add ((Int.ofNat j).toNat*m))=⟨(ρ id).b,off+j*m,none⟩:=by rw [add_plain];rfl
     rw [p] at a;simpa only [AV.val] using a
    .cases h
   .cases h
  .cases h
 .cases h
theorem apO{op:Op}(c:fJ T E F)(h:ap6 X T E F g op=some cv):nO X.P (az ρ T E F) ρ (T.get g) ⟨dst,op,ty,pos,af,gd⟩ w cv:=by
 unfold ap6 at h;split at h
 next b a=>cases h;exact aqf c a
 .split at h
  next b a=>cases h;exact apY a
  .split at h
   next b a=>cases h;exact ao0 a
   .exact alT h
end
variable {d : TypeDesc}
def AE{α:Type}(xs ys:List α):List α:=ys.take xs.length++xs.drop ys.length
section
variable {P : Program} {E : Env} {w : World} {g : Bool}
variable {dst : zb} {ty : TypeId} {pos : String} {af : zd} {gd : xa}
theorem apQ{α:Type}{A:eD α}{M:Nat->Prop}{v u:Value}{t ty e:TypeId}{bytes:Nat}{z:Value}{R:zh}(S:P.underlying t=some (.slice e))(y:TI P e A.n bytes z)
  {xs ys:List α} (L:bU A e M w v xs R) (x:ca A M w u ys) (_hM:∀b∈R,M b):
  ∃w',(Builtin.copy_ #[t,t] ty #[v,u]).run P w= .ok (.int .i64 ((Nat.min ys.length xs.length:Nat):Int)) w'/\kQ R w w'/\w'.heap.size=w.heap.size/\∀M',Mv M w M' w'->bU A e M' w' v (AE xs ys) R:=by
 obtain ⟨i,hi,hs,_,_⟩:=y.out;by_cases k:xs=[]\/ys=[]
 .have hc:AE xs ys=xs:=by unfold AE;rcases k with k|k <;> subst k <;> simp
  have hn:Nat.min ys.length xs.length=0:=by rcases k with k|k <;> subst k <;> simp
  obtain ⟨p,c,rfl,_⟩:=L.shape;obtain ⟨a,c2,rfl⟩:=x.len;refine ⟨w,?_,(Ext.refl w).vS _,rfl,λM' m=>?_⟩
  .have hl:∀a:Addr,(loadCells a 0).run P w= .ok #[] w:=λa=>run_loadCells_list (P:=P) w a [] (λj v hj=>by simp at hj);rw [hn];cases a <;> cases p <;> simp [Builtin.copy_,run_underlying S,sizeOf,typeInfo,hi,Builtin.lenOf,Builtin.firstCells,hn,hl,storeCells,goInt]
  .rw [hc];exact L.dm (λb hb=>rfl) m
 .have hx:xs≠[]:=λh=>k (.inl h);have Y:ys≠[]:=λh=>k (.inr h);obtain ⟨b,o,c,cur,rfl,rfl,U,r,F,B,K⟩:=L.row hx;rcases x with ⟨_,I⟩|⟨b2,off,H,G,e2,fr2,rfl,V,Q,hc2,Z,l⟩
  .exact absurd I Y
  have N:((G.toList.drop off).take (ys.length*A.n)).length=ys.length*A.n:=l.1;generalize O:(G.toList.drop off).take (ys.length*A.n)=g at l N;have E:Nat.min ys.length xs.length<=ys.length:=Nat.min_le_left _ _;have D:Nat.min ys.length xs.length<=xs.length:=Nat.min_le_right _ _;generalize hn:Nat.min ys.length xs.length=n at E D;have X:n*A.n<=ys.length*A.n:=gy _ E;have W:n*A.n<=xs.length*A.n:=gy _ D;have m3:xs.length*A.n<=c*A.n:=gy _ r;have d:(g.take (n*A.n)).length=n*A.n:=by rw [cx];omega
  have s:cur.toList.length=cur.size:=de;have T:=B.1;have run:=tZ (P:=P) (w:=w) (ty:=ty) S y (b:=b) (o:=o) (dl:=xs.length) (dc:=c) (cur:=cur) (e':=e) (a:=⟨b2,off,none⟩) (ls:=ys.length) (sc:=H) (cs:=g.take (n*A.n))
   (by rw [d,hn]) (cell_of_heap Q off _ (by rw [d,<-O,pc,ed X])) U (by rw [d];omega) (λv J=>l.Dd v (List.mem_of_mem_take J))
  refine ⟨_,by rw [run,hn];rfl,xy b _,by simp,λM' m=>?_⟩;have hd:AE xs ys=ys.take n++xs.drop n:=by
   unfold AE;have q:min ys.length xs.length=n:=hn;clear hn;rcases Nat.le_total ys.length xs.length with h|h
   .rw [ed h] at q;subst q;rw [hV h,hV (ch _)]
   .rw [vb h] at q;subst q;rw [qM h,qM (ch _)]
  have f:(AE xs ys).length=xs.length:=by rw [hd,du,cx,cO];omega
  have key:=(((l.take n).mv m).append ((K.drop n).mv m));have C:=setRow_heap w b cur (cur.toList.take o++g.take (n*A.n)++cur.toList.drop (o+(g.take (n*A.n)).length)).toArray e (0,0) U;have J:Value.slice (some ⟨b,o,none⟩) xs.length c=Value.slice (some ⟨b,o,none⟩) (AE xs ys).length c:=by rw [f]
  rw [J];refine bU.mk_ C (by rw [f];exact r) F ⟨?_,B.2⟩ ?_
  .simp only [n9,du,cx,d,cO,s];omega
  .rw [f,hd];have e7:(cur.toList.take o).length=o:=by rw [cx];omega
   have e8:(cur.toList.take o++g.take (n*A.n)++cur.toList.drop (o+(g.take (n*A.n)).length)).drop o=g.take (n*A.n)++(cur.toList.drop o).drop (n*A.n):=by have:=List.drop_left (l₁:=cur.toList.take o) (l₂:=g.take (n*A.n)++cur.toList.drop (o+(g.take (n*A.n)).length));rw [e7,<-bb] at this;rw [this,d,l7]
   simp only [e8];have e1:((g.take (n*A.n))++(cur.toList.drop o).drop (n*A.n)).take (xs.length*A.n)=g.take (n*A.n)++((cur.toList.drop o).take (xs.length*A.n)).drop (n*A.n):=by rw [q8,d,pc,vb W,qj]
   rw [e1];exact key
theorem akr{x y:Operand}{t e:TypeId}{n m bytes:Nat}{z v:Value}{d:TypeDesc}{cs:yp}{i:Int}{k:IntKind}(l:P.underlying t=some (.array n e))(hd:P.underlying e=some d)(b:TI P e m bytes z)
  (hx:au E g x (.agg cs.toArray)) (h:au E g y (.int k i)) (q:0<=i) (p:i<(n:Nat)) (j:(if kJ d then some (.agg ((cs.drop (i.toNat*m)).take m).toArray) else cs[i.toNat*m]?)=some v):
  bq P E g ⟨dst,.index t x y,ty,pos,af,gd⟩ w v:=
 λn' a f c=>by have hp:=adJ (w:=w) hd b j;obtain ⟨r,hi,o,_,_⟩:=b.out;simp [execOp,hx n' a f c,h n' a f c,Instr.index,asIntOf,run_underlying l,sizeOf,typeInfo,hi,o,q,p,hp]
theorem agQ{x y h:Operand}{p:Addr}{len m bytes:Nat}{z:Value}{t e:TypeId}{k i:IntKind}(l:P.underlying t=some (.array len e))(b:TI P e m bytes z)(hx:au E g x (.pointer (some p)))(j:au E g y (.int k (len:Nat)))(n:au E g h (.int i (len:Nat))):
  bq P E g ⟨dst,.slice t x none (some y) (some h),ty,pos,af,gd⟩ w (.slice (some p) len len):=
 λn' a f d=>by obtain ⟨o,c,q,_,_⟩:=b.out;simp [execOp,hx n' a f d,j n' a f d,n n' a f d,Instr.sliceAt,run_underlying l,Instr.sureAddr,Instr.sliceBounds,run_sliceBound,sizeOf,typeInfo,c,Addr.add]
theorem ajH{y:Operand}{t t' u:TypeId}{v:Value}(b:P.underlying t=some d)(hd:ig d=true)(hx:au E g x (.iface u v))(a:au E g y .nilIface):
  bq P E g ⟨dst,.binOp .neq t x y t',ty,pos,af,gd⟩ w (.bool true):=
 cP (P:=P) hx a (by
  rw [Sem.run_bind,er rfl,Result.andThen_ok];have h:∀k:Nat,(Op.equalIn (k+1) t (.iface u v) .nilIface).run P w= .ok false w:=λk=>by cases d <;> first|(cases hd;done)|simp [Op.equalIn,run_underlying b]
  simp only [binOp];simp [Op.equal,Op.maxDepth,h 9999])
theorem ahq{t t':TypeId}(a:P.underlying t=some d)(hd:ig d=true)(hx:au E g x .nilIface):
  bq P E g ⟨dst,.binOp .neq t x (.const .nilIface) t',ty,pos,af,gd⟩ w (.bool false):=
 cP (P:=P) hx (y:= .const .nilIface) (v:= .nilIface) (λ_ _ _ _=>rfl) (by
  have h:∀k:Nat,(Op.equalIn (k+1) t .nilIface .nilIface).run P w= .ok true w:=λk=>by cases d <;> first|(cases hd;done)|simp [Op.equalIn,run_underlying a]
  have b:(eqGuard .neq t x (.const .nilIface) .nilIface .nilIface).run P w= .ok () w:=by unfold eqGuard;simp
  rw [Sem.run_bind,b,Result.andThen_ok];simp only [binOp];simp [Op.equal,Op.maxDepth,h 9999])
theorem Reach.val{t:TypeId}{u:Value}{a:String}{f:FuncId}(h:Pu P t a f false)(b:P.underlying t=some d)(hd:∀e,d≠ .pointer e):Reach P w t u a f u:=λk=>by obtain ⟨i,m,hi,c,hp,g⟩:=h.out;unfold method;simp only [typeInfo,hi,c,hp,g,follow,Sem.run_bind,Sem.run_pure,Result.andThen_ok,run_program];cases d <;> first|exact absurd rfl (hd _)|simp [receiverAt,run_underlying b,Place.get]
theorem ahh{n:Nat}{g:Bool}{f:FuncId}{r:Operand}{it t:TypeId}{d:TypeDesc}{u u':Value}{b:String}{vs:yp}{xs:x4}{tys:Array TypeId}{dst:zb}{gd:Option (Nat×Bool)}
  (l:Enters P f) (j:au E g r (.func (.methodOf it b) #[] #[])) (bQ:P.underlying it=some d) (hd:ig d=true) (k:g=true->Reach P w t u b f u') (c:iM E g xs (.iface t u::vs)) {a:Act} (h:Fits n E a) (e:g=true):
  (execOp a.eval ⟨dst,.call ⟨.value r,xs.toArray,tys⟩,ty,pos,af,gd⟩).run P w= .ok (.enter f (u'::vs).toArray) w:=by
 have v:(Array.map a.eval xs.toArray)=(Value.iface t u::vs).toArray:=by simp [c.map h e]
 have m:=l (u'::vs).toArray w;have i:=k e (P.types.size+99);have s:P.types.size+99+1=P.types.size+Made.depth:=rfl;rw [s] at i;have q:((Value.iface t u::vs).toArray)[0]? =some (Value.iface t u):=by simp
 have p:((Value.iface t u::vs).toArray).extract 1 ((Value.iface t u::vs).toArray).size=vs.toArray:=by simp
 have o:(#[u']++vs.toArray)=(u'::vs).toArray:=by simp
 cases d <;> first|(cases hd;done)|skip;simp only [execOp,resolve,j n a h e,Deferred.ofValue,v,Sem.run_bind,Sem.run_pure,Result.andThen_ok];simp only [s6,invoke,q,p,Sem.run_bind,run_underlying bQ,Result.andThen_ok,callMethod,run_program,i,o,m]
end
def apb(X:Cx)(T:aE)(E F:aH)(g:GK):Op->CV
 | .index t x y=>(match X.P.underlying t with
  |some (.array n e)=>(match lJ X.P e with
   |some z=>(match bE T E F g x with
    |some (.agg cs)=>(match bE T E F g y with
     |some (.int _ i)=>aC (decide (0<=i)&&decide (i<(n:Int))) (match lQ X.P e (cs.drop (i.toNat*z.1)) with
      |some v=>pv v
      |none=>none) none
     |_=>none)
    |_=>none)
   |none=>none)
  |_=>none)
 | .binOp .neq t x (.const .nilIface) _=>(match X.P.underlying t with
  |some d=>aC (ig d) (match bE T E F g x with
   |some (.ifc _ _)=>pv (.bool true)
   |some (.raw .nilIface)=>pv (.bool false)
   |_=>none) none
  |none=>none)
 | .makeFunc (.methodOf t nm) ⟨[]⟩ ⟨[]⟩=>pv (.raw (.func (.methodOf t nm) #[] #[]))
 |_=>none
section
variable {X : Cx} {ρ : aB} {T : aE} {E F : aH} {g : GK} {w : World} {dst : zb} {ty : TypeId} {pos : String} {af : zd} {gd : xa}
theorem aou{op:Op}(h:apb X T E F g op=some cv):nO X.P (az ρ T E F) ρ (T.get g) ⟨dst,op,ty,pos,af,gd⟩ w cv:=by
 unfold apb at h;split at h
 .rename_i t x y;split at h
  .rename_i n e l;split at h
   .rename_i z r;obtain ⟨m,bytes,z⟩:=z;split at h
    .rename_i cs hx;split at h
     .rename_i k i s;obtain ⟨f,b⟩:=aK h;simp only [ar,mZ] at f;split at b
      .rename_i v A;obtain ⟨d,n',q,D,c1,C,p⟩:=oS (ρ:=ρ) A;have a:=aW (ρ:=ρ) hx;have j:=aW (ρ:=ρ) s;simp only [AV.val] at a j;have c:=cU r;refine .pv b (akr l c1 c a j f.1 f.2 ?_);cases hd:kJ d
       .rw [hd] at p;exact p
       .rw [hd] at p;have o:=C hd;unfold TI at o c;rw [c] at o;simp only [cC,qc] at o;have B:m=n':=o.1;subst B;exact p
      .cases b
     .cases h
    .cases h
   .cases h
  .cases h
 .split at h
  .rename_i d l;obtain ⟨f,b⟩:=aK h;split at b
   next u v hx=>have a:=aW (ρ:=ρ) hx;simp only [AV.val] at a;exact .pv b (ajH l f a (λ_ _ _ _=>rfl))
   next hx=>have a:=aW (ρ:=ρ) hx;simp only [AV.val] at a;exact .pv b (ahq l f a)
   .cases b
  .cases h
 .exact .pv h (O0 (first:=[]) (cap:=[]) .nil .nil)
 .cases h
end
variable {e : TypeId}
def apJ(X:Cx)(T:aE)(E F:aH)(g:GK):Op->CV
 | .binOp .eql t x y _=>(match X.P.underlying t with
  |some (.pointer _)=>(match bE T E F g x with
   |some (.sfp _ f)=>(match bE T E F g y with
    |some (.raw (.pointer none))=>pv (.bool (!f))
    |_=>none)
   |_=>none)
  |_=>none)
 | .binOp .neq t x y _=>(match X.P.underlying t with
  |some (.pointer e)=>(match lJ X.P e with
   |some _=>(match bE T E F g x with
    |some (.sfp j f)=>(match bE T E F g y with
     |some (.ptr j' 0)=>aC (Nat.beq j j') (pv (.bool (!f))) none
     |_=>none)
    |_=>none)
   |none=>none)
  |_=>none)
 | .call ⟨.value (.func f),⟨[x]⟩,_⟩=>aC (uL f X.ids) (match bE T E F g x with
  |some v=>pv v
  |none=>none) none
 | .call ⟨.builtin .len,⟨[x]⟩,⟨[t]⟩⟩=>(match fR X.P t with
  |some _=>(match bE T E F g x with
   |some (.bs _ n)=>pv (.int .i64 (n:Int))
   |_=>none)
  |none=>none)
 |_=>none
def aoD(X:Cx)(T:aE)(E F:aH)(G H:List Row)(g:GK):Op->CV
 | .convert s d x=>(match bE T E F g x with
  |some (.ptr j 0)=>(match eI G H (Ar j) with
   |some (_,.box _ e' cs)=>(match X.P.underlying s with
    |some (.pointer e)=>(match X.P.underlying d with
     |some .unsafePointer=>(match lJ X.P e with
      |some z=>aC (Nat.blt 0 z.1&&Nat.blt 0 cs.length) (pv (.ptr j 0)) none
      |none=>none)
     |_=>none)
    |some .unsafePointer=>(match X.P.underlying d with
     |some (.pointer e)=>(match lJ X.P e with
      |some _=>aC (liesAt X.P X.P.depth e' (cs.length/X.P.cellsOf e') 0 e 1) (pv (.ptr j 0)) none
      |none=>none)
     |_=>none)
    |_=>none)
   |_=>none)
  |_=>none)
 |_=>none
def akY(X:Cx)(T:aE)(E F:aH)(g:GK)(op:Op):CV:=match ap6 X T E F g op with
 |some cv=>some cv
 |none=>(match apb X T E F g op with
  |some cv=>some cv
  |none=>apJ X T E F g op)
def ajJ(X:Cx)(T:aE)(E F:aH)(G H:List Row)(g:GK)(op:Op):CV:=match apM X T E F G H g op with
 |some cv=>some cv
 |none=>aoD X T E F G H g op
abbrev asZ(xs ys:zg):zg:=xs++ys
def aks{R:Type}(X:Cx)(T:aE)(fr:Fr)(st:aG)(d:Tmp)(t u:TypeId)(x y:Operand)(K:cT R):Option R:=match fR X.P t with
 |some e=>(match lJ X.P e with
  |some (1,1,.int .u8 (.ofNat 0))=>aC (isStr X.P u) (match bE T st.E fr.F none y with
   |some (.str s)=>(match bE T st.E fr.F none x with
    |some (.sl id)=>(match eI st.G fr.H (nI id) with
     |some (.top j,.own _ u' e' xs _)=>aC (Nat.beq e e') (match tE.cD.asL (.i .u8) ⟨.l u',xs⟩ with
      |some xs=>aM (aI (List.length xs+s.length) 1) (K { st with c:=st.c+1,E:=cN (some d) none (.sl st.c) st.E,G:=st.G.set j (.own st.c (.i .u8) e (asZ xs (bV s)) st.c) })
      |none=>none) none
     |_=>none)
    |some (.raw (.slice none 0 0))=>aM (aI (([]:zg).length+s.length) 1) (K { st with c:=st.c+1,E:=cN (some d) none (.sl st.c) st.E,G:= .own st.c (.i .u8) e (([]:zg)++bV s) st.c::st.G })
    |_=>none)
   |_=>none) none
  |_=>none)
 |none=>none
section
variable {X : Cx} {T : aE} {E F : aH} {G H : List Row} {g : GK} {ρ : aB} {w : World} {dst : zb} {ty : TypeId} {pos : String} {af : zd} {gd : xa} {Φ : Ctx}
theorem api{op:Op}(h:apJ X T E F g op=some cv):nO X.P (az ρ T E F) ρ (T.get g) ⟨dst,op,ty,pos,af,gd⟩ w cv:=by
 unfold apJ at h;split at h
 .rename_i t x y s;split at h
  .rename_i e i;split at h
   .rename_i j f hx;split at h
    next d=>have b:=aW (ρ:=ρ) hx;have a:=aW (ρ:=ρ) d;simp only [AV.val] at b a;exact .pv h (aly i b a)
    .cases h
   .cases h
  .cases h
 .rename_i t x y s;split at h
  .rename_i e i;split at h
   .rename_i z l;obtain ⟨n,bytes,z⟩:=z;split at h
    .rename_i j f hx;split at h
     next p d=>obtain ⟨k,c⟩:=aK h;have:=aS k;subst this;have b:=aW (ρ:=ρ) hx;have a:=aW (ρ:=ρ) d;simp only [AV.val] at b a;exact .pv c (alC i (cU l) b a)
     .cases h
    .cases h
   .cases h
  .cases h
 .rename_i f x tys;obtain ⟨k,c⟩:=aK h;split at c
  next v hx=>exact .pv c (apx (X.idsOk f (agq.1 k)) (aW (ρ:=ρ) hx))
  .cases c
 .split at h
  .rename_i e o;split at h
   next id m hx=>exact .pv h (GP (cm o) (aW (ρ:=ρ) hx) ⟨_,_,rfl⟩)
   .cases h
  .cases h
 .cases h
theorem ap0{op:Op}(o:Sat (ab ρ T G++(ab ρ T H++Φ)) w)(h:aoD X T E F G H g op=some cv):nO X.P (az ρ T E F) ρ (T.get g) ⟨dst,op,ty,pos,af,gd⟩ w cv:=by
 unfold aoD at h;split at h
 .rename_i s d x;split at h
  .rename_i j hx;split at h
   .rename_i t m e' cs p;obtain ⟨r,q⟩:=cp p;have:m=j:=aS q;subst this;have hb:fM w (ρ m).b e' (AV.ao ρ cs):=Src.holds o r;have a:=aW (ρ:=ρ) hx;simp only [AV.val] at a;split at h
    .rename_i e c;split at h
     .rename_i f;split at h
      next z k=>obtain ⟨n,bytes,z⟩:=z;obtain ⟨i,l⟩:=aK h;simp only [ar] at i;refine .pv l ?_;simp only [AV.val];exact adS c f (cU k) i.1 a hb (by rw [AV.bw];exact i.2)
      .cases h
     .cases h
    .rename_i c;split at h
     .rename_i e f;split at h
      next z k=>obtain ⟨n,bytes,z⟩:=z;obtain ⟨i,l⟩:=aK h;refine .pv l ?_;simp only [AV.val];exact aas c f (cU k) a hb (by rw [AV.bw];exact i)
      .cases h
     .cases h
    .cases h
   .cases h
  .cases h
 .cases h
theorem ad7{op:Op}(c:fJ T E F)(h:akY X T E F g op=some cv):nO X.P (az ρ T E F) ρ (T.get g) ⟨dst,op,ty,pos,af,gd⟩ w cv:=by
 unfold akY at h;split at h
 next b a=>cases h;exact apO c a
 .split at h
  next b a=>cases h;exact aou a
  .exact api h
theorem agw{op:Op}(b:Sat (ab ρ T G++(ab ρ T H++Φ)) w)(h:ajJ X T E F G H g op=some cv):nO X.P (az ρ T E F) ρ (T.get g) ⟨dst,op,ty,pos,af,gd⟩ w cv:=by
 unfold ajJ at h;split at h
 next c a=>cases h;exact aps b a
 .exact ap0 b h
end
section
variable {X : Cx} {R : Type} {r : R} {K : cT R} {T : aE} {fr : Fr} {st : aG} {d : Tmp} {ρ : aB} {Φ : Ctx} {w : World} {ty : TypeId} {pos : String} {af : zd} {gd : xa}
theorem Nx{P:Program}{E:Env}{M:Nat->Prop}{v:Value}{y:Operand}{t u:TypeId}{R:zh}{xs:zg}{s:aD}(o:P.underlying t=some (.slice e))(n:P.underlying u=some .string)(h:TI P e 1 1 (.int .u8 0))(hx:au E true x v)(k:au E true y (S s))
  (j:bU (RI .u8) e M w v xs R) (z:∀b∈R,M b) (c:aI (xs.length+s.length) 1=true):
  ∃f R' w',na P E ⟨some d,.call ⟨.builtin .append,#[x,y],#[t,u]⟩,ty,pos,af,gd⟩ w f w'/\kQ R w w'/\(∀b∈R',b<w'.heap.size/\(b∈R\/w.heap.size<=b))/\∀M',Mv M w M' w'->bU (RI .u8) e M' w' f (xs++bV s) R':=by
 rcases j with ⟨rfl,q⟩|⟨rfl,rfl,⟨a0,rfl⟩,l⟩
 .obtain ⟨f,w',i,B,r,j⟩:=xQ t u ty e o n h q z c;exact ⟨f,eA f,w',(λn' a g=>by simp [execOp,resolve,invoke,builtin,hx n' a g rfl,k n' a g rfl,i]),B,r,λM' m=>bU.of (j M' m)⟩
 .rcases Cl (M:=M) (w:=w) t u ty e o n h (a0:=a0) (s:=s) (by simpa using c) with ⟨i,rfl⟩|⟨f,w',i,A,p,j⟩
  .exact ⟨.slice a0 0 0,[],w,(λn' a g=>by simp [execOp,resolve,invoke,builtin,hx n' a g rfl,k n' a g rfl,i]),(Ext.refl w).vS _,(λb hb=>by cases hb),λM' m=>by simpa [bV] using bU.empty (e:=e) (l.mv m)⟩
  .exact ⟨f,eA f,w',(λn' a g=>by simp [execOp,resolve,invoke,builtin,hx n' a g rfl,k n' a g rfl,i]),A.vS _,(λb hb=>⟨(p b hb).1,.inr (p b hb).2⟩),λM' m=>bU.of (by simpa using j M' m)⟩
theorem aob{t u:TypeId}{y:Operand}(hl:st.low fr=true)(O:Sat (ab ρ T st.G++(ab ρ T fr.H++Φ)) w)(h:aks X T fr st d t u x y K=some r):
  jU X.P T none (az ρ T st.E fr.F) ⟨some d,.call ⟨.builtin .append,#[x,y],#[t,u]⟩,ty,pos,af,gd⟩ w (bc r K T fr st none (some d) ρ Φ):=by
 have C:=(aG.cS.1 hl).2.2.1;unfold aks at h;split at h
 .rename_i e W;split at h
  .rename_i hz;have A:TI X.P e 1 1 (.int .u8 0):=cU hz;obtain ⟨hu,h⟩:=aK h;have z:=rY hu;split at h
   .rename_i s hy;have n:=bK (ρ:=ρ) hy;simp only [AV.val] at n;split at h
    .rename_i id hx;have g:=bK (ρ:=ρ) hx;simp only [AV.val] at g;split at h
     .rename_i j L u' e' D ver hf;obtain ⟨h3,V⟩:=aK h;have:=aS h3;subst this;split at V
      .rename_i xs N;obtain ⟨eu,ex⟩:=sL N;subst eu;simp only at ex;subst ex;obtain ⟨U,S⟩:=gz V;obtain ⟨Z,f2⟩:=cp hf;have:L=id:=aS f2;subst this;have hi:=gw (ρ:=ρ) (T:=T) (Φ:=ab ρ T fr.H++Φ) Z;obtain ⟨hO,_⟩:=O.at_ hi;obtain ⟨I,R',w',Q,k,R,B⟩:=Nx (P:=X.P) (E:=az ρ T st.E fr.F) (w:=w) (d:=d) (ty:=ty) (pos:=pos) (af:=af) (gd:=none) (cm W) z A g n hO (λb hb=>Ctx.jV hi hb) U;have J:Mv (Ctx.M (ab ρ T st.G++(ab ρ T fr.H++Φ))) w (Ctx.M (ab ρ T st.G++(ab ρ T fr.H++Φ))) w':=⟨k.size,λb hb hn=>⟨hn,k.block b hb (λhc=>hn (Ctx.jV hi hc))⟩⟩;have f:=B _ J;have o:∃p:gV,I=sl p:=by obtain ⟨a,cap,o⟩:=f.len;exact ⟨(a,_,cap),o⟩
       obtain ⟨p,rfl⟩:=o;have hj:j<st.G.length:=(List.getElem?_eq_some_iff.1 Z).1;refine .none_ (bL.gd (bL.oZ Q (bc.new (ρ':=ρ.set st.c { dB with v:=p,y:=⟨.l (.i .u8),asZ D (bV s)⟩ }) hl S aB.bg (jm _) rfl (by simp only [AV.val,aB.bM]) ?_)));show Sat (ab _ T (st.G.set j _)++_) _;rw [fV hj,bm aB.bg C];refine O.ra hi k (λb hb=>?_) (λM' m _=>?_)
       .simp only [Row.item,aB.bM] at hb;exact R b (f.canon.1 b hb)
       .simp only [Row.item,aB.bM];exact ⟨f.canon.2 _ _ (B M' m),trivial⟩
      .cases V
     .cases h
    .rename_i hx;have g:=bK (ρ:=ρ) hx;simp only [AV.val] at g;obtain ⟨U,S⟩:=gz h;obtain ⟨I,R',w',Q,k,R,B⟩:=Nx (P:=X.P) (E:=az ρ T st.E fr.F) (w:=w) (d:=d) (ty:=ty) (pos:=pos) (af:=af) (gd:=none) (M:=Ctx.M (ab ρ T st.G++(ab ρ T fr.H++Φ))) (xs:=([]:zg)) (cm W) z A g n bU.nil (λb hb=>by cases hb) U;have Y:Ext w w':=⟨k.os,k.tape,k.output,k.size,λb hb=>k.block b hb (λh=>by cases h)⟩;have f:=B _ (Y.mv _);have o:∃p:gV,I=sl p:=by obtain ⟨a,cap,o⟩:=f.len;exact ⟨(a,_,cap),o⟩
     obtain ⟨p,rfl⟩:=o;refine .none_ (bL.gd (bL.oZ Q ?_));exact yR (d:=d) (t:= .i .u8) (e:=e) (p:=p) hl C O Y (λb hb=>by
      obtain ⟨q1,q⟩:=R b (f.canon.1 b hb);rcases q with q|q
      .cases q
      .exact ⟨q1,q⟩) (λM' m=>f.canon.2 _ _ (B M' m)) rfl S
    .cases h
   .cases h
  .cases h
 .cases h
def adn{R:Type}(T:aE)(fr:Fr)(st:aG)(d:Tmp)(x:Operand)(K:cT R):Option R:=match bE T st.E fr.F none x with
 |some (.sl id)=>(match eI st.G fr.H (nI id) with
  |some (_,.own _ t _ l ver)=>atJ T none st d id ver t l 0 K
  |_=>none)
 |_=>none
def alh{R:Type}(X:Cx)(T:aE)(fr:Fr)(st:aG)(d:Tmp)(pt:TypeId)(x y:Operand)(K:cT R):Option R:=match X.P.underlying pt with
 |some (.pointer e)=>aC (Nat.beq (X.P.cellsOf e) 1) (match bE T st.E fr.F none x with
  |some (.adr q 0)=>(match bE T st.E fr.F none y with
   |some (.int .i64 m)=>(match eI st.G fr.H (VL q) with
    |some (_,.kn none _ id ver _ i _)=>(match eI st.G fr.H (nI id) with
     |some (.top j,.own _ u e' xs ver')=>aC (Nat.beq ver ver'&&Nat.beq e e') (match tE.cD.asL (.i .u8) ⟨.l u,xs⟩ with
      |some xs=>aM (decide (i=0)&&decide (m=(List.length xs:Int))) (K { st with E:=cN (some d) none (.str (strOf xs)) st.E,G:=st.G.set j (.sli none id (.i .u8) xs false) })
      |none=>none) none
     |_=>none)
    |_=>none)
   |_=>none)
  |_=>none) none
 |_=>none
theorem bU.amp{α:Type}{A:eD α}{M:Nat->Prop}{w:World}{v:Value}{xs:List α}{R:zh}(h:bU A e M w v xs R)(a:xs≠[]):Roomy v:=by
 rcases h with ⟨_,cells,c,_⟩|⟨_,rfl,_⟩
 .rcases c.2 with ⟨_,b⟩|⟨g,off,cap,cur,rfl,_,d,_⟩
  .exact absurd (c8 b) a
  .obtain ⟨k,rfl⟩:∃k,cap=k+1:=⟨cap-1,by have:=List.length_pos_iff.2 a;omega⟩;exact ⟨g,off,_,k,rfl⟩
 .exact absurd rfl a
theorem abB{v:gV}{n:Nat}(h:Roomy (sl v)):v.1=some (tu (sl v) 0 n):=by obtain ⟨b,off,len,cap,e⟩:=h;obtain ⟨d,c,a⟩:=v;simp only [sl,Value.slice.injEq] at e;obtain ⟨rfl,rfl,rfl⟩:=e;simp [sl,tu,Addr.add]
theorem anS{α:Type}{l:List α}{i:Int}{x:α}(h:idx l i=some x):l≠[]:=λe=>by subst e;unfold idx at h;split at h <;> cases h
theorem agc{y:Array TypeId}(hl:st.low fr=true)(q:Sat (ab ρ T st.G++(ab ρ T fr.H++Φ)) w)(h:adn T fr st d x K=some r):
  Ub X.P T none (az ρ T st.E fr.F) ⟨some d,.call ⟨.builtin .unsafeSliceData,#[x],y⟩,ty,pos,af,gd⟩ w (bc r K T fr st none (some d) ρ Φ):=by
 unfold adn at h;split at h
 .rename_i id hx;have i:=bK (ρ:=ρ) hx;simp only [AV.val] at i;split at h
  .rename_i s b t e' l f z;obtain ⟨m,B⟩:=cp z;have:b=id:=aS B;subst this;obtain ⟨D,o,C⟩:=CR h;have o:=o aE.get_none;obtain ⟨A,p⟩:=Src.holds q m;have e:b<st.c/\f<st.c:=by
    have:(Row.own b t e' l f).low st.c=true:=by
     cases s with
     |top j=>exact sP (aG.cS.1 hl).2.2.1 m
     |cJ j=>exact sP (aG.cS.1 hl).2.2.2 m
     |_=>exact m.elim
    simpa only [Row.low,ar,hW] using this
   have u:=A.amp (anS o);have k:bc r K T fr st none (some d) ρ Φ (.pointer (some (tu (sl (ρ b).v) 0 t.rep.n))) w:=by refine bc.push (x:={ dB with a:=tu (sl (ρ b).v) 0 t.rep.n }) hl C (by simp only [AV.val,aB.bM];simp [Addr.add]) (q.add rfl ?_);intro I;rw [aB.bg _ e.1,aB.bg _ e.2,aB.bM];exact ⟨l,p,o,rfl⟩
   refine ⟨_,λw'=>?_,k⟩;rw [<-abB u];rw [aE.get_none];exact amj (g:=true) i (λ_=>u)
  .cases h
 .cases h
theorem ali{P:Program}(b:P.cellsOf e=1)(a off n:Nat)(hn:off+n<=a):liesAt P P.depth e a off e n=true:=by have hd:P.depth=(2*(P.types.size+Made.depth)+1)+1:=rfl;rw [hd];simp only [liesAt,dk];left;rw [hd];simp [rowAt,b,hn,sameLayout,Nat.mod_one]
theorem an1{P:Program}{E:Env}{v:gV}{y:Operand}{z it:TypeId}{M:Nat->Prop}{R:zh}{xs:zg}(hO:bU (RI .u8) e M w (sl v) xs R)(hp:P.underlying z=some (.pointer e))(O:P.cellsOf e=1)
  (hx:au E true x (.pointer v.1)) (V:au E true y (.int .i64 (xs.length:Int))) (T:xs≠[]):
  ∃w',na P E ⟨some d,.call ⟨.builtin .unsafeString,#[x,y],#[z,it]⟩,ty,pos,af,gd⟩ w (S (strOf xs)) w'/\kQ R w w'/\∀M',Mv M w M' w'->(∀b∈R,¬M' b)->ca (RI .u8) M' w' (sl v) xs:=by
 have f:xs.length≠0:=λe=>T (c8 e);rcases hO with ⟨hR,cells,⟨h1,h2⟩,J⟩|⟨_,rfl,_⟩
 .rcases h2 with ⟨_,U⟩|⟨g,off,cap,cur,Q,F,s,Y,r,k⟩
  .exact absurd U f
  .obtain ⟨v1,v2,I⟩:=v;simp only [sl,Value.slice.injEq] at Q;obtain ⟨rfl,rfl,rfl⟩:=Q;have B:(RI .u8).n=1:=rfl;have N:off+I=cur.size:=by simpa [B] using r.1
   have A:w.shape? g=some (e,cur.size):=by unfold World.shape?;rw [F]
   have i:∀(j:Nat) (a:Int),xs[j]? =some a->w.cell? ((⟨g,off,none⟩:Addr).add j)=some (.int .u8 a):=λj a K=>by
    have D:=(List.getElem?_eq_some_iff.1 K).1;have hA:=J.2 j D;have Z:xs[j]=a:=(List.getElem?_eq_some_iff.1 K).2;have G:cells[j]? =some (.int .u8 a):=by
     have e1:(cells.drop (j*1)).take 1=[.int .u8 a]:=by rw [<-Z];exact hA
     have e2:=congrArg (λl=>l[0]?) e1;simpa using e2
    exact (G0 F k).cell G
   have X:xs.length<=9223372036854775807:=by unfold maxLen at Y;omega
   have o:(Builtin.unsafeString_ #[z,it] ty #[.pointer (some ⟨g,off,none⟩),.int .i64 xs.length]).run P w= .ok (S (strOf xs)) (w.freeze ⟨g,off,none⟩ xs.length):=by
    have C:=Jc (P:=P) (w:=w) xs ⟨g,off,none⟩ .empty i;have h:=ali (P:=P) O (cur.size/P.cellsOf e) off xs.length (by rw [O,Nat.div_one];omega);have u:¬(9223372036854775807:Int)<(xs.length:Int):=by omega
    have q:i64.max=9223372036854775807:=rfl;have p:¬(xs.length:Int)<0:=by omega
    refine (Sem.run_bind (P:=P) (w:=w) (asInt (.int .i64 xs.length)) _).trans ?_;simp [asInt,asIntOf,q,u,p,f,variablesAt,A,elemOf,run_underlying hp,h,C,S]
   have W:(w.freeze ⟨g,off,none⟩ xs.length).heap[g]? =some (.cells cur e (off,off+xs.length)):=by unfold World.freeze;rw [n7 f];simp [vy,F]
   have t:R=[g]:=by rw [hR];simp [eA,Value.ownBlock,sl]
   refine ⟨w.freeze ⟨g,off,none⟩ xs.length,λn' a L=>by simp [execOp,resolve,invoke,builtin,hx n' a L rfl,V n' a L rfl,o],?_,λM' m hb=>?_⟩
   .rw [t];unfold World.freeze;rw [n7 f];refine ⟨rfl,rfl,rfl,by simp,λc _ H=>?_⟩;have:g≠c:=λe=>H (by simp [e]);simp [vy,this]
   .refine .inr ⟨g,off,I,cur,e,_,rfl,hb g (by rw [t];simp),W,s,Nat.le_of_eq r.1,?_⟩;rw [k];exact J.mv m
 .exact absurd rfl T
theorem aqu{y:Operand}{I it:TypeId}(_hl:st.low fr=true)(s:Sat (ab ρ T st.G++(ab ρ T fr.H++Φ)) w)(h:alh X T fr st d I x y K=some r):
  jU X.P T none (az ρ T st.E fr.F) ⟨some d,.call ⟨.builtin .unsafeString,#[x,y],#[I,it]⟩,ty,pos,af,gd⟩ w (bc r K T fr st none (some d) ρ Φ):=by
 unfold alh at h;split at h
 .rename_i e hp;obtain ⟨z,h⟩:=aK h;have z:=aS z;split at h
  .rename_i q hx;have f:=bK (ρ:=ρ) hx;simp only [AV.val] at f;split at h
   .rename_i m Q;have c:=bK (ρ:=ρ) Q;simp only [AV.val] at c;split at h
    .rename_i s1 q' id O u1 i xe t;obtain ⟨f1,f2⟩:=cp t;have:q'=q:=aS f2;subst this;have W:=Src.holds s f1;split at h
     .rename_i j a u e' N D U;obtain ⟨M,f4⟩:=cp U;have:a=id:=aS f4;subst this;obtain ⟨C,B⟩:=aK h;simp only [ar] at C;have e1:=aS C.1;have e2:=aS C.2;subst e1;subst e2;split at B
      .rename_i xs o;obtain ⟨eu,ex⟩:=sL o;subst eu;subst ex;obtain ⟨L,Z⟩:=gz B;simp only [ar,mZ] at L;obtain ⟨rfl,rfl⟩:=L;have hi:=gw (ρ:=ρ) (T:=T) (Φ:=ab ρ T fr.H++Φ) M;obtain ⟨J,l⟩:=s.at_ hi;obtain ⟨l0,b1,b2,b3⟩:=W aE.get_none;obtain ⟨e4,e5⟩:=QA b1 l;cases e4;cases e5;have k:=anS b2;have R:=J.amp k;have p:au (az ρ T st.E fr.F) true x (.pointer (ρ a).v.1):=by rw [abB (n:=(Ty.i .u8).rep.n) R,<-b3];simpa [Addr.add] using f
       obtain ⟨w',g,Y,V⟩:=an1 (P:=X.P) (d:=d) (ty:=ty) (pos:=pos) (af:=af) (gd:=gd) (it:=it) J hp z p c k;have S:j<st.G.length:=(List.getElem?_eq_some_iff.1 M).1;refine .none_ (bL.gd (bL.oZ g (bc.jw Z (ch _) rfl rfl ?_)));show Sat (ab _ T (st.G.set j _)++_) _;rw [fV S];exact s.ra hi Y (λb hb=>by cases hb) (λM' m hb _=>⟨V M' m (λb A=>hb b A (λh=>by cases h)),λh=>by cases h⟩)
      .cases B
     .cases h
    .cases h
   .cases h
  .cases h
 .cases h
def akA{R:Type}(X:Cx)(T:aE)(fr:Fr)(st:aG)(g:GK)(d:Tmp)(t:TypeId)(x:Operand)(K:cT R):Option R:=match fR X.P t with
 |some _=>(match bE T st.E fr.F g x with
  |some (.sl id)=>(match slA st.G fr.H id with
   |some s=>aC (T.imp g s.g) (K { st with E:=cN (some d) g (.int .i64 (s.l.length:Int)) st.E }) none
   |none=>none)
  |_=>none)
 |none=>none
theorem ao9{g:GK}{t:TypeId}(c:Sat (ab ρ T st.G++(ab ρ T fr.H++Φ)) w)(h:akA X T fr st g d t x K=some r):
  Ub X.P T g (az ρ T st.E fr.F) ⟨some d,.call ⟨.builtin .len,#[x],#[t]⟩,ty,pos,af,gd⟩ w (bc r K T fr st g (some d) ρ Φ):=by
 unfold akA at h;split at h
 .rename_i e i;split at h
  .rename_i id hx;have a:=aW (ρ:=ρ) hx;simp only [AV.val] at a;split at h
   next s b=>obtain ⟨k,j⟩:=aK h;exact ⟨_,λw'=>oJ (cm i) a (λf=>Z2 c b (aE.kZ k f)),bc.jw j (ch _) rfl rfl c⟩
   .cases h
  .cases h
 .cases h
end
end
end Go.Proofs.YthhmkmmmbcjghaaGreatDoor
