/- Own texts for TopStores, cut and joined by a program. -/
import Derived.Test.YtdolcddlmodkkaaGreatDoorTopStoresB
set_option linter.all false
namespace Go.Proofs.YtdolcddlmodkkaaGreatDoor
open IntKind (i64)
noncomputable section
open Go.Lib
section
variable {X : Cx} {R : Type} {r : R} {K : cT R} {T : aD} {fr : Fr} {st : aE} {g : GK} {d : Tmp} {ρ : aB} {Φ : Ctx} {w : World} {ty : TypeId} {pos : String} {af : zw} {gd : zg}
def adz:Operand->Operand->Bool
 | .tmp a,.tmp b=>Nat.beq a b
 | .const (.int .i64 a),.const (.int .i64 b)=>decide (a=b)
 |_,_=>false
theorem aeN{x y:Operand}(h:adz x y=true):x=y:=by
 unfold adz at h;split at h
 .rw [ai h]
 .rw [qp h]
 .cases h
def alb(_T:aD)(g:GK)(st:aE)(d:Tmp)(G:List Row)(t:Ty)(l:List t.T)(i j:Int)(clip:Bool)(K:cT R):Option R:=
 K { st with c:=st.c+1,E:=cL (some d) g (.sl st.c) st.E,G:= .sli g st.c t (br l i j) clip::G }
def adW(X:Cx)(T:aD)(fr:Fr)(st:aE)(g:GK)(d:Tmp)(t:TypeId)(x:Operand)(lo hi mx:Option Operand)(K:cT R):Option R:=match fR X.P t with
 |some e=>(match lK X.P e with
  |some z=>(match bC T st.E fr.F g x with
   |some (.sl id)=>(match loA T st.E fr.F g lo with
    |some i=>(match SX T st.E fr.F g hi with
     |some j=>(match eK (cP [id] st.G) fr.H (ox id) with
      |some (_,.sli g' _ u l _)=>aC ( T.imp g g'&&Nat.beq z.1 u.n' ) ( match mx with
       |none=>Kd (some (dW i (j.getD (l.length:Int)) l.length)) (g.map λ_=>T.get g) (alb T g st d (cP [id] st.G) u l i (j.getD (l.length:Int)) false K)
       |some y=>(match hi with
        |some h=>(match bC T st.E fr.F g y with
         |some (.int _ m)=>aC (adz h y) ( Kd (some (jT i m m l.length)) (g.map λ_=>T.get g) (alb T g st d (cP [id] st.G) u l i m true K) )
          ( Kd (some (jT i m m l.length&&(j.getD (l.length:Int)==m))) (g.map λ_=>T.get g) (alb T g st d (cP [id] st.G) u l i m true K) )
         |_=>none)
        |none=>none) ) none
      |_=>none)
     |none=>none)
    |none=>none)
   |_=>none)
  |none=>none)
 |none=>none
theorem V5{G:List Row}{t:Ty}{l:List t.T}{i j:Int}{a:Bool}{p:gP}(k:st.low fr=true)(b:bI st.c G=true)(f:Sat (ab ρ T G++(ab ρ T fr.H++Φ)) w)
  (hp:T.get g=true->bW t.rep (Ctx.M (ab ρ T G++(ab ρ T fr.H++Φ))) w (sl p) (br l i j)/\(a=true->p.2.2=(br l i j).length)) (h:alb T g st d G t l i j a K=some r):
  aY r K T fr st g (some d) ρ Φ (sl p) w:=by
 refine aY.new (ρ':=ρ.set st.c { df with v:=p }) k h aB.bd (mi _) rfl (by simp only [AV.val,aB.bH]) ?_;show Sat (ab _ T (_::G)++_) w;have e:=bh (T:=T) (aB.bd (ρ:=ρ) (j:=st.c) (x:={ df with v:=p })) b;rw [ab,er];rw [ab] at e;rw [e];refine f.add rfl ?_;simp only [Row.item,aB.bH];exact hp
theorem Zl{t:TypeId}{x:Operand}{lo hi mx:Option Operand}(S:st.low fr=true)(I:Sat (ab ρ T st.G++(ab ρ T fr.H++Φ)) w)(h:adW X T fr st g d t x lo hi mx K=some r):
  Nw X.P T g (az ρ T st.E fr.F) ⟨some d,.slice t x lo hi mx,ty,pos,af,gd⟩ w (aY r K T fr st g (some d) ρ Φ):=by
 unfold adW at h;split at h
 .rename_i e he;split at h
  .rename_i z hz;obtain ⟨n,bytes,z⟩:=z;split at h
   .rename_i id hx;split at h
    .rename_i i hi;split at h
     .rename_i j hj;replace I:=kh (ids:=[id]) I;have C:=tq (ids:=[id]) (aE.cS.1 S).2.2.1;have A:=aV (ρ:=ρ) hx;simp only [AV.val] at A;split at h
      .rename_i s g' o u l b Z;obtain ⟨h1,D⟩:=aI h;simp only [ah] at h1;have hn:n=u.rep.n:=(ai h1.2).trans u.Er.symm;obtain ⟨f1,f2⟩:=ck Z;have:o=id:=ai f2;subst this;have hT:=Src.holds I f1;have J:T.get g=true->bW u.rep _ w (sl (ρ o).v) l:=λc=>(hT (aD.kT h1.1 c)).1;have B:=cW hz;rw [hn] at B;split at D
       .obtain ⟨R,O⟩:=sP D;obtain ⟨p,N,L⟩:=bW.av5 J (λc=>R _ rfl c);have f:=V5 (p:=p) S C I (λc=>⟨L c,λhb=>by cases hb⟩) O;exact ⟨_,λw'=>G4 (cf he) B A (λc=>(J c).len) (Nr hi) (Wl hj) N,f⟩
       .rename_i y;split at D
        .rename_i U;split at D
         .rename_i k m hy;have q:=aV (ρ:=ρ) hy;simp only [AV.val] at q;rcases dT D with ⟨h5,h6⟩|⟨_,h6⟩
          .have:=aeN h5;subst this;obtain ⟨R,O⟩:=sP h6;have key:∃p:gP,(T.get g=true->Qx (sl (ρ o).v) i m m u.rep.n (sl p))/\(T.get g=true->bW u.rep (Ctx.M (ab ρ T (cP [o] st.G)++(ab ρ T fr.H++Φ))) w (sl p) (br l i m)/\(true=true->p.2.2=(br l i m).length)):=by
            cases c:T.get g
            .exact ⟨(none,0,0),(λh=>by cases h),(λh=>by cases h)⟩
            .obtain ⟨p,W,V⟩:=bW.arK (J c) (R _ rfl c);exact ⟨_,λ_=>W,λ_=>⟨V,λ_=>rfl⟩⟩
           obtain ⟨p,N,L⟩:=key;have f:=V5 (p:=p) S C I L O;exact ⟨_,λw'=>XG (lo:=lo) (hi:=some U) (cf he) B A (λc=>(J c).len) (Nr hi) ⟨k,q⟩ q N,f⟩
          .obtain ⟨R,O⟩:=sP h6;have Q:T.get g=true->jT i m m l.length=true/\j.getD (l.length:Int)=m:=λc=>by have:=R _ rfl c;simp only [ah,kR] at this;exact this
           have key:∃p:gP,(T.get g=true->Qx (sl (ρ o).v) i m m u.rep.n (sl p))/\(T.get g=true->bW u.rep (Ctx.M (ab ρ T (cP [o] st.G)++(ab ρ T fr.H++Φ))) w (sl p) (br l i m)/\(true=true->p.2.2=(br l i m).length)):=by
            cases c:T.get g
            .exact ⟨(none,0,0),(λh=>by cases h),(λh=>by cases h)⟩
            .obtain ⟨p,W,V⟩:=bW.arK (J c) (Q c).1;exact ⟨_,λ_=>W,λ_=>⟨V,λ_=>rfl⟩⟩
           obtain ⟨p,N,L⟩:=key;have f:=V5 (p:=p) S C I L O;have Y:∃k,aw (az ρ T st.E fr.F) (T.get g) U (.int k m):=by obtain ⟨k,hk⟩:∃k,aw (az ρ T st.E fr.F) (T.get g) U (.int k (j.getD (l.length:Int))):=Wl (ρ:=ρ) (len:=l.length) hj;exact ⟨k,λn a Z c=>by rw [hk n a Z c,(Q c).2]⟩
           exact ⟨_,λw'=>XG (lo:=lo) (hi:=some U) (cf he) B A (λc=>(J c).len) (Nr hi) Y q N,f⟩
         .cases D
        .cases D
      .cases h
     .cases h
    .cases h
   .cases h
  .cases h
 .cases h
def Zq(len:Nat)(z:List AV):List AV:=(List.replicate len z).flatten
theorem UZ{len:Nat}{z:List AV}:AV.ar ρ (Zq len z)=(List.replicate len (AV.ar ρ z)).flatten:=by
 unfold Zq
 induction len with
 |zero=>simp [AV.ar]
 |succ n ih=>simp only [qM,List.flatten_cons,dA,ih]
def unR(T:aD)(g:GK):List Row->List Row
 |[]=>[]
 |r::G=>(match r with
  | .sli g' id t l c=>aC (T.imp g g') (.sli none id t l c) (.sli g' id t l c)
  |r=>r)::unR T g G
def unG(T:aD)(g:GK)(G:List Row):List Row:=match g with
 |none=>G
 |some _=>unR T g G
theorem abf{ρ:aB}{T:aD}{g:GK}(a:T.get g=true):{G:List Row}->ab ρ T (unR T g G)=ab ρ T G
 |[]=>rfl
 |r::G=>by
  have ih:=abf (ρ:=ρ) a (G:=G);unfold unR;simp only [ab,er] at ih ⊢;rw [ih];congr 1;cases r with
  |sli g' id t l c=>
   show Row.item ρ T (aC (T.imp g g') (.sli none id t l c) (.sli g' id t l c))=_;cases h:T.imp g g' with
   |false=>rfl
   |true=>
    show Row.item ρ T (.sli none id t l c)=_;simp only [Row.item,aD.get_none,aD.kT h a]
  |_=>rfl
theorem Gr{ρ:aB}{T:aD}{g:GK}(a:T.get g=true){G:List Row}:ab ρ T (unG T g G)=ab ρ T G:=by
 cases g with
 |none=>rfl
 |some k=>exact abf a
def aqO(X:Cx)(T:aD)(fr:Fr)(st:aE)(g:GK)(d:Tmp)(t:TypeId)(len:Nat)(ps:List (Nat×Operand))(K:cT R):Option R:=match fR X.P t with
 |some e=>(match C2 X.tys e with
  |some u=>(match lK X.P e with
   |some z=>(match sy T st.E fr.F g (ps.map (·.2)) with
    |some vs=>(match Da (λi=>some (i*z.1,z.1)) ((ps.map (·.1)).zip vs) (Zq len (z.2.2.cells.toList.map kB)) with
     |some cs=>(match rdL (unG T g (cP (AV.fg (.agg vs)++(vs.map AV.fg).flatten) st.G)) (unG T g fr.H) u len cs with
      |some xs=>aC ( Nat.beq z.1 u.n'&&Nat.beq z.2.2.cells.size z.1&&Nat.ble (len*z.1) 16777216 ) ( match g with
       |none=>aC ( Nat.blt 0 (len*z.1)||Nat.beq len 0&&ps.isEmpty ) ( K { st with c:=st.c+1,E:=cL (some d) none (.sl st.c) st.E,G:= .own st.c u e xs st.c::cP (AV.fg (.agg vs)++(vs.map AV.fg).flatten) st.G } ) none
       |some _=>aC ( Nat.blt 0 (len*z.1)||Nat.beq len 0&&ps.isEmpty ) ( K { st with c:=st.c+1,E:=cL (some d) g (.sl st.c) st.E,G:= .sli g st.c u xs false::cP (AV.fg (.agg vs)++(vs.map AV.fg).flatten) st.G } ) none ) none
      |none=>none)
     |none=>none)
    |none=>none)
   |none=>none)
  |none=>none)
 |none=>none
theorem Am{t:Ty}{e:TypeId}{p:gP}{l:List t.T}{G:List Row}{w':World}{st':aE}(g:st.low fr=true)(a:bI st.c G=true)(f:Sat (ab ρ T G++(ab ρ T fr.H++Φ)) w)(k:Ext w w')
  (h:∀b∈wg p,b<w'.heap.size/\w.heap.size<=b) (i:∀M',Mv (Ctx.M (ab ρ T G++(ab ρ T fr.H++Φ))) w M' w'->bR t.rep e M' w' (sl p) l (wg p))
  (tT:st'={ st with c:=st.c+1,E:=cL (some d) none (.sl st.c) st.E,G:= .own st.c t e l st.c::G }) (hK:K st'=some r):aY r K T fr st none (some d) ρ Φ (sl p) w':=by
 subst tT;refine aY.new (ρ':=ρ.set st.c { df with v:=p,y:=⟨.l t,l⟩ }) g hK aB.bd (mi _) rfl (by simp only [AV.val,aB.bH]) ?_;show Sat (ab _ T (_::G)++_) w';have e:=bh (T:=T) (aB.bd (ρ:=ρ) (j:=st.c) (x:={ df with v:=p,y:=⟨.l t,l⟩ })) a;rw [ab,er];rw [ab] at e;rw [e];refine f.push k (λb hb=>?_) (λM' m=>?_)
 .simp only [Row.item,aB.bH] at hb;exact h b hb
 .simp only [Row.item,aB.bH];exact ⟨i M' m,trivial⟩
theorem Gd{b n c:Nat}:dV (sl (some ⟨b,0,none⟩,n,c))=[b]:=rfl
theorem Dr{p:gP}{b:Nat}(h:b∈wg p):b∈dV (sl p):=by
 unfold wg at h;split at h
 .cases h
 .exact h
theorem atp{t:TypeId}{len:Nat}{ps:Array (Nat×Operand)}(L:st.low fr=true)(y:Sat (ab ρ T st.G++(ab ρ T fr.H++Φ)) w)(h:aqO X T fr st g d t len ps.toList K=some r):
  jX X.P T g (az ρ T st.E fr.F) ⟨some d,.buildSlice t len ps,ty,pos,af,gd⟩ w (aY r K T fr st g (some d) ρ Φ):=by
 obtain ⟨ps⟩:=ps;simp only at h;unfold aqO at h;split at h
 .rename_i e O;split at h
  .rename_i u hu;split at h
   .rename_i z hz;obtain ⟨n,bytes,z⟩:=z;split at h
    .rename_i vs S;split at h
     .rename_i cs U;have q:=tq (ids:=AV.fg (.agg vs)++(vs.map AV.fg).flatten) (aE.cS.1 L).2.2.1;replace y:=kh (ids:=AV.fg (.agg vs)++(vs.map AV.fg).flatten) y;generalize cP (AV.fg (.agg vs)++(vs.map AV.fg).flatten) st.G=G at h q y;split at h
      .rename_i xs R;obtain ⟨Q,h2⟩:=aI h;simp only [ah] at Q;obtain ⟨⟨a1,a2⟩,Y⟩:=Q;have hn:n=u.rep.n:=(ai a1).trans u.Er.symm;have C:z.cells.size=n:=ai a2;have hk:T.get g=true->xs.length=len/\db u.rep (Ctx.M (ab ρ T G++(ab ρ T fr.H++Φ))) w (AV.ar ρ cs) xs:=λA=>by have:=Wn (ρ:=ρ) (T:=T) (Φ:=Φ) (w:=w) (by rw [Gr A,Gr A];exact y) _ _ _ R;rwa [Gr A,Gr A] at this
       have s:=cW hz;have o:=y9 (ρ:=ρ) U;rw [E7,UZ,nk] at o;have B:0<n->sI n len z.cells.toList ((ps.map (·.1)).zip (AV.ar ρ vs))=some (AV.ar ρ cs).toArray:=λa=>by unfold sI;have e1:=Gj z.cells.toList (by simp [C];exact a) len;simp only [de,C] at e1;simp only [de,C];rw [<-o,<-e1]
       have i:=ie (ρ:=ρ) S;subst hn;cases g with
       |none=>
        obtain ⟨J,I⟩:=hk aD.get_none;obtain ⟨l,N⟩:=aI h2;simp only [eF,ah] at l;have i:iQ (az ρ T st.E fr.F) true (ps.map (·.2)) (AV.ar ρ vs):=by simpa using i
        rcases l with l|⟨l,V⟩
        .have a:0<u.rep.n:=by
          have:0<len*u.rep.n:=by simpa using l
          exact vy (λe=>by simp [e] at this)
         have f:=rQ (P:=X.P) (w:=w) (dst:=some d) (ty:=ty) (pos:=pos) (af:=af) (cf O) s (zs:=z.cells.toList) (by simp) l Y i (B a);have Z:len*1<=len*u.rep.n:=Nat.mul_le_mul_left _ a;have h9:=dk Y;have h8:Nat.ble len 9223372036854775807=true:=qc (by omega);refine .none_ (bK.gd (bK.oS f ?_));have:=Am (d:=d) (t:=u) (e:=e) (p:=(some ⟨w.heap.size,0,none⟩,len,len)) L q y (fi w (.cells (AV.ar ρ cs).toArray e)) (λb hb=>by have:=Dr hb;rw [Gd] at this;simp only [l5] at this;subst this;simp) (λM' m=>(bR.of (iv.fresh (heap_alloc_new w _) J h8 (I.mv m))).D9) rfl N
         exact this
        .have W:len=0:=ai l;subst W;have e1:ps=[]:=by simpa using V
         subst e1;have D:xs=[]:=eb J;subst D;have f:=vr (P:=X.P) (E:=az ρ T st.E fr.F) (w:=w) (dst:=some d) (ty:=ty) (pos:=pos) (af:=af) (cf O) s;refine .none_ (bK.gd (bK.oS f ?_));have:=Am (d:=d) (t:=u) (e:=e) (p:=(some ⟨w.heap.size,0,none⟩,0,0)) L q y (fi w (.cells ([]:zq).toArray e)) (λb hb=>by have:=Dr hb;rw [Gd] at this;simp only [l5] at this;subst this;simp) (λM' m=>(bR.of (iv.fresh (heap_alloc_new w _) rfl rfl db.nil)).D9) rfl N
         exact this
       |some k=>
        obtain ⟨l,N⟩:=aI h2;simp only [eF,ah] at l;refine ⟨λA=>?_,λA=>?_⟩
        .obtain ⟨J,I⟩:=hk A;rw [A] at i;have key:∃cells:zq,ny X.P (az ρ T st.E fr.F) ⟨some d,.buildSlice t len ⟨ps⟩,ty,pos,af,none⟩ w (.slice (some ⟨w.heap.size,0,none⟩) len len) (w.alloc (.cells cells.toArray e))/\db u.rep (Ctx.M (ab ρ T G++(ab ρ T fr.H++Φ))) w cells xs:=by
          rcases l with l|⟨l,V⟩
          .have a:0<u.rep.n:=by
            have:0<len*u.rep.n:=by simpa using l
            exact vy (λe=>by simp [e] at this)
           exact ⟨AV.ar ρ cs,rQ (P:=X.P) (w:=w) (dst:=some d) (ty:=ty) (pos:=pos) (af:=af) (cf O) s (zs:=z.cells.toList) (by simp) l Y i (B a),I⟩
          .have W:len=0:=ai l;subst W;have e1:ps=[]:=by simpa using V
           subst e1;have D:xs=[]:=eb J;subst D;exact ⟨[],vr (P:=X.P) (E:=az ρ T st.E fr.F) (w:=w) (dst:=some d) (ty:=ty) (pos:=pos) (af:=af) (cf O) s,db.nil⟩
         obtain ⟨cells,f,I⟩:=key;refine bK.gd (bK.oS f ?_);have Q:=y.ext (fi w (.cells cells.toArray e));have hf:bW u.rep (Ctx.M (ab ρ T G++(ab ρ T fr.H++Φ))) (w.alloc (.cells cells.toArray e)) (sl (some ⟨w.heap.size,0,none⟩,len,len)) xs:=
          bW.fresh (heap_alloc_new w _) (λhm=>by have:=y.lt hm;omega) J (I.mv ((fi w _).mv _))
         refine aY.new (ρ':=ρ.set st.c { df with v:=(some ⟨w.heap.size,0,none⟩,len,len) }) (av:= .sl st.c) L N aB.bd (mi _) rfl (by simp only [AV.val,aB.bH];rfl) ?_;show Sat (ab _ T (_::G)++_) _;have e:=bh (T:=T) (aB.bd (ρ:=ρ) (j:=st.c) (x:={ df with v:=(some ⟨w.heap.size,0,none⟩,len,len) })) q;rw [ab,er];rw [ab] at e;rw [e];refine Q.add rfl ?_;simp only [Row.item,aB.bH];exact λ_=>⟨hf,λhb=>by cases hb⟩
        .refine ⟨_,aY.new (ρ':=ρ.set st.c df) (av:= .sl st.c) L N aB.bd (mi _) rfl rfl ?_⟩;show Sat (ab _ T (_::G)++_) _;have e:=bh (T:=T) (aB.bd (ρ:=ρ) (j:=st.c) (x:=df)) q;rw [ab,er];rw [ab] at e;rw [e];refine y.add rfl ?_;exact λh=>by rw [A] at h;cases h
      .cases h
     .cases h
    .cases h
   .cases h
  .cases h
 .cases h
end
section
variable {X : Cx} {R : Type} {r : R} {K : cT R} {T : aD} {fr : Fr} {st : aE} {g : GK} {d : Tmp} {ρ : aB} {Φ : Ctx} {w : World} {ty : TypeId} {pos : String} {af : zw} {gd : zg}
def al9(X:Cx)(T:aD)(fr:Fr)(st:aE)(d:Tmp)(t:TypeId)(x y:Operand)(K:cT R):Option R:=match fR X.P t with
 |some e=>(match C2 X.tys e with
  |some u=>(match lK X.P e with
   |some z=>(match bC T st.E fr.F none x with
    |some (.int _ l)=>aC ( adz x y&&Nat.beq z.1 u.n'&&Nat.beq z.2.2.cells.size z.1&&Nat.blt 0 z.1 ) (
     match rd1 [] [] u (z.2.2.cells.toList.map kB) with
     |some zx=>aJ (decide (0<=l)) (aJ (aH l.toNat z.2.1) (K { st with c:=st.c+1,E:=cL (some d) none (.sl st.c) st.E,G:= .own st.c u e (List.replicate l.toNat zx) st.c::st.G }))
     |none=>none ) none
    |_=>none)
   |none=>none)
  |none=>none)
 |none=>none
theorem ag1{t:Ty}{v:AV}{l:List t.T}(h:ui [] [] t v=some l):∀(M:Nat->Prop) (w:World),bW t.rep M w (v.val ρ) l:=by
 unfold ui at h;split at h
 .rename_i j;split at h
  next a=>simp [eK,pz] at a
  .cases h
 .cases h;intro M w;simp only [AV.val];exact bW.nil
 .cases h
theorem Zn:(t:Ty)->(vs:List AV)->(x:t.T×List AV)->rL [] [] t vs=some x->∃us,vs=us++x.2/\∀(M:Nat->Prop) (w:World),t.rep.rd M w (AV.ar ρ us) x.1
 | .i k,vs,x,h=>by
  unfold rL at h;split at h
  next o y us=>obtain ⟨g,f⟩:=aI h;have:=iI g;subst this;cases f;exact ⟨[.int k y],rfl,λM w=>by simp only [AV.ar,AV.val];rfl⟩
  .cases h
 | .bo,vs,x,h=>by
  unfold rL at h;split at h
  next y us=>cases h;exact ⟨[.bool y],rfl,λM w=>by simp only [AV.ar,AV.val];rfl⟩
  .cases h
 | .s,vs,x,h=>by
  unfold rL at h;split at h
  next y us=>cases h;exact ⟨[.str y],rfl,λM w=>by simp only [AV.ar,AV.val];rfl⟩
  .cases h
 | .un,vs,x,h=>by
  unfold rL at h;cases h;exact ⟨[],rfl,λM w=>by simp only [AV.ar];rfl⟩
 | .n,vs,x,h=>by
  unfold rL at h;split at h
  next t us=>cases h;exact ⟨[.ifc t (.agg [])],rfl,λM w=>by simp only [AV.ar,AV.val];rfl⟩
  .cases h
 | .mp _ _,vs,x,h=>by unfold rL at h;cases h
 | .p a b,vs,x,h=>by
  unfold rL at h;split at h
  .rename_i y m;split at h
   next z j=>cases h;obtain ⟨us,e1,g⟩:=Zn a vs y m;obtain ⟨d,e2,f⟩:=Zn b y.2 z j;refine ⟨us++d,by rw [e1,e2,b0],λM w=>?_⟩;rw [dA];exact ⟨_,_,rfl,g M w,f M w⟩
   .cases h
  .cases h
 | .l t,vs,x,h=>by
  unfold rL at h;split at h
  .rename_i v us;split at h
   next l e=>cases h;refine ⟨[v],rfl,λM w=>?_⟩;simp only [AV.ar];exact (ag1 e M w).rsl
   .cases h
  .cases h
 | .ex,vs,x,h=>by
  unfold rL at h;split at h
  .rename_i a b c v us;split at h
   next l e=>cases h;refine ⟨[.int .i64 a,.int .i64 b,.int .i64 c,v],rfl,λM w=>?_⟩;simp only [AV.ar,AV.val];exact Sj (ag1 e M w).rsl
   .cases h
  .cases h
theorem aq2{t:TypeId}{x y:Operand}(s:st.low fr=true)(C:Sat (ab ρ T st.G++(ab ρ T fr.H++Φ)) w)(h:al9 X T fr st d t x y K=some r):
  jX X.P T none (az ρ T st.E fr.F) ⟨some d,.makeSlice t x y,ty,pos,af,gd⟩ w (aY r K T fr st none (some d) ρ Φ):=by
 unfold al9 at h;split at h
 .rename_i e J;split at h
  .rename_i u hu;split at h
   .rename_i z B;obtain ⟨n,bytes,z⟩:=z;split at h
    .rename_i k l hx;obtain ⟨v,q⟩:=aI h;simp only [ah] at v;obtain ⟨⟨⟨Z,Y⟩,W⟩,V⟩:=v;have:=aeN Z;subst this;have I:n=u.rep.n:=(ai Y).trans u.Er.symm;have f:z.cells.size=n:=ai W;split at q
     .rename_i A a;obtain ⟨U,R⟩:=fj q;obtain ⟨S,Q⟩:=fj R;have c:=bL (ρ:=ρ) hx;simp only [AV.val] at c;have j:=cW B;subst I;have g:∀(M:Nat->Prop) (w:World),u.rep.rd M w z.cells.toList A:=by
       unfold rd1 at a;split at a
       next y' i=>cases a;obtain ⟨us,e1,O⟩:=Zn (ρ:=ρ) u _ _ i;simp only [hV] at e1;intro M w;have:=O M w;rw [<-e1,nk] at this;exact this
       .cases a
      obtain ⟨w',D,N,o,L⟩:=aoc (P:=X.P) (E:=az ρ T st.E fr.F) (w:=w) (dst:=some d) (ty:=ty) (pos:=pos) (af:=af) (cf J) j (zs:=z.cells.toList) (by simp) (by simpa using f) (by simpa using V) c c U S g;refine .none_ (bK.gd (bK.oS D ?_));exact Am (d:=d) (t:=u) (e:=e) (p:=(some ⟨w.heap.size,0,none⟩,l.toNat,l.toNat)) s (aE.cS.1 s).2.2.1 C N (λb hb=>by
       have:=Dr hb;rw [Gd] at this;simp only [l5] at this;subst this;exact ⟨o,b7 _⟩) (λM' m=>(bR.of (L M')).D9) rfl Q
     .cases q
    .cases h
   .cases h
  .cases h
 .cases h
def aqE(X:Cx)(T:aD)(fr:Fr)(st:aE)(d:Tmp)(t:TypeId)(x y:Operand)(K:cT R):Option R:=match fR X.P t with
 |some e=>(match C2 X.tys e with
  |some u=>(match lK X.P e with
   |some z=>(match bC T st.E fr.F none x with
    |some a=>(match bC T st.E fr.F none y with
     |some b=>aC ( Nat.beq z.1 u.n'&&Nat.beq z.2.2.cells.size z.1&&Nat.blt 0 z.1 ) ( match ui (cP b.fg st.G) fr.H u b with
      |some ys=>(match a with
       | .sl id=>(match eK (cP b.fg st.G) fr.H (ox id) with
        |some (.top j,.own _ u' e' xs _)=>aC ( Nat.beq e e' ) ( match ui.cn.asL u ⟨.l u',xs⟩ with
         |some xs=>aJ (aH (xs.length+ys.length) z.2.1) (K { st with c:=st.c+1,E:=cL (some d) none (.sl st.c) st.E,G:=(cP b.fg st.G).set j (.own st.c u e (xs++ys) st.c) })
         |none=>none ) none
        |some (_,.sli none _ u' xs true)=>(match ui.cn.asL u ⟨.l u',xs⟩ with
         |some xs=>(match ys with
          |y::ys=>aJ (aH (xs.length+(y::ys).length) z.2.1) (K { st with c:=st.c+1,E:=cL (some d) none (.sl st.c) st.E,G:= .own st.c u e (xs++y::ys) st.c::cP b.fg st.G })
          |[]=>none)
         |none=>none)
        |_=>none)
       | .raw (.slice none 0 0)=>aJ (aH (([]:List u.T).length+ys.length) z.2.1) (K { st with c:=st.c+1,E:=cL (some d) none (.sl st.c) st.E,G:= .own st.c u e ([]++ys) st.c::cP b.fg st.G })
       |_=>none)
      |none=>none ) none
     |none=>none)
    |none=>none)
   |none=>none)
  |none=>none)
 |none=>none
theorem asE{t:TypeId}{x y:Operand}(hl:st.low fr=true)(s:Sat (ab ρ T st.G++(ab ρ T fr.H++Φ)) w)(h:aqE X T fr st d t x y K=some r):
  jX X.P T none (az ρ T st.E fr.F) ⟨some d,.call ⟨.builtin .append,#[x,y],#[t,t]⟩,ty,pos,af,gd⟩ w (aY r K T fr st none (some d) ρ Φ):=by
 unfold aqE at h;split at h
 .rename_i e he;split at h
  .rename_i u hu;split at h
   .rename_i z hz;obtain ⟨n,bytes,z⟩:=z;split at h
    .rename_i a hx;split at h
     .rename_i b hy;obtain ⟨h1,g⟩:=aI h;simp only [ah] at h1;obtain ⟨⟨a1,a2⟩,a3⟩:=h1;have hn:n=u.rep.n:=(ai a1).trans u.Er.symm;have J:z.cells.size=n:=ai a2;have Q:=cW hz;subst hn;have A:=tq (ids:=b.fg) (aE.cS.1 hl).2.2.1;replace s:=kh (ids:=b.fg) s;generalize cP b.fg st.G=G at g A s;have o:=bL (ρ:=ρ) hx;have N:=bL (ρ:=ρ) hy;have C:0<u.rep.n:=by simpa using a3
      split at g
      .rename_i ys hys;have L:=P9 s hys;split at g
       .rename_i id;simp only [AV.val] at o;split at g
        .rename_i j k u' e' i ver S;obtain ⟨h3,h4⟩:=aI g;have:=ai h3;subst this;split at h4
         .rename_i xs O;obtain ⟨eu,ex⟩:=sR O;subst eu;simp only at ex;subst ex;obtain ⟨h5,h6⟩:=fj h4;obtain ⟨f1,f2⟩:=ck S;have:k=id:=ai f2;subst this;have hi:=gm (ρ:=ρ) (T:=T) (Φ:=ab ρ T fr.H++Φ) f1;obtain ⟨hO,_⟩:=s.at_ hi;obtain ⟨v',R',w',Y,B,hR,I⟩:=Ip (P:=X.P) (E:=az ρ T st.E fr.F) (w:=w) (dst:=some d) (ty:=ty) (pos:=pos) (af:=af) (cf he) Q J C o N hO L (λb hb=>Ctx.j7 hi hb) h5;have mv0:Mv (Ctx.M (ab ρ T G++(ab ρ T fr.H++Φ))) w (Ctx.M (ab ρ T G++(ab ρ T fr.H++Φ))) w':=⟨B.size,λb hb hn=>⟨hn,B.block b hb (λhc=>hn (Ctx.j7 hi hc))⟩⟩;have f:=I _ mv0;have q:∃p:gP,v'=sl p:=by obtain ⟨a,cap,q⟩:=f.len;exact ⟨(a,_,cap),q⟩
          obtain ⟨p,rfl⟩:=q;have hj:j<G.length:=(List.getElem?_eq_some_iff.1 f1).1;refine .none_ (bK.gd (bK.oS Y (aY.new (ρ':=ρ.set st.c { df with v:=p,y:=⟨.l u',i++ys⟩ }) hl h6 aB.bd (mi _) rfl (by simp only [AV.val,aB.bH]) ?_)));show Sat (ab _ T (G.set j _)++_) _;rw [fT hj,bh aB.bd A];refine s.iP hi B (λb hb=>?_) (λM' m _=>?_)
          .simp only [Row.item,aB.bH] at hb;exact hR b (f.canon.1 b hb)
          .simp only [Row.item,aB.bH];exact ⟨f.canon.2 _ _ (I M' m),trivial⟩
         .cases h4
        .rename_i s' k u' i S;split at g
         .rename_i xs O;obtain ⟨eu,ex⟩:=sR O;subst eu;simp only at ex;subst ex;split at g
          .rename_i y0 ys0;obtain ⟨h5,h6⟩:=fj g;obtain ⟨f1,f2⟩:=ck S;have:k=id:=ai f2;subst this;obtain ⟨hS,R⟩:=(Src.holds s f1) aD.get_none;have R:=R rfl;obtain ⟨ad,cap,D⟩:=hS.len;have ep:(ρ k).v=((ρ k).v.1,i.length,i.length):=by
            simp only [sl,Value.slice.injEq] at D
            ext1
            .rfl
            .ext1
             .exact D.2.1
             .exact R
           rw [ep] at hS o;obtain ⟨i',hi',V,hby,hzz⟩:=Q.out;subst hby
           obtain ⟨v',w',Y,Z,hB,I⟩:=Xo t ty e i' z (cf he) hi' hzz V J hS L (List.cons_ne_nil _ _) h5;have f:=bR.of (I _ (Z.mv _));have q:∃p:gP,v'=sl p:=by obtain ⟨a,cap,q⟩:=f.len;exact ⟨(a,_,cap),q⟩
           obtain ⟨p,rfl⟩:=q;have W:ny X.P (az ρ T st.E fr.F) ⟨some d,.call ⟨.builtin .append,#[x,y],#[t,t]⟩,ty,pos,af,none⟩ w (sl p) w':=λn' a S=>by simp [execOp,resolve,invoke,builtin,o n' a S rfl,N n' a S rfl,show (Builtin.append_ #[t,t] ty #[sl ((ρ k).v.1,i.length,i.length),AV.val ρ b]).run X.P w=_ from Y]
           refine .none_ (bK.gd (bK.oS W ?_));exact Am (d:=d) (t:=u') (e:=e) (p:=p) hl A s Z (λb hb=>hB b (Dr hb)) (λM' m=>(bR.of (I M' m)).D9) rfl h6
          .cases g
         .cases g
        .cases g
       .simp only [AV.val] at o;obtain ⟨h5,h6⟩:=fj g;obtain ⟨v',R',w',Y,B,hR,I⟩:=Ip (P:=X.P) (E:=az ρ T st.E fr.F) (w:=w) (dst:=some d) (ty:=ty) (pos:=pos) (af:=af) (xs:=([]:List u.T)) (cf he) Q J C o N bR.nil L (λb hb=>by cases hb) h5;have Z:Ext w w':=⟨B.os,B.tape,B.output,B.size,λb hb=>B.block b hb (λh=>by cases h)⟩;have f:=I _ (Z.mv _);have q:∃p:gP,v'=sl p:=by obtain ⟨a,cap,q⟩:=f.len;exact ⟨(a,_,cap),q⟩
        obtain ⟨p,rfl⟩:=q;refine .none_ (bK.gd (bK.oS Y ?_));exact Am (d:=d) (t:=u) (e:=e) (p:=p) hl A s Z (λb hb=>by
         obtain ⟨q1,U⟩:=hR b (f.canon.1 b hb);rcases U with U|U
         .cases U
         .exact ⟨q1,U⟩) (λM' m=>f.canon.2 _ _ (I M' m)) rfl h6
       .cases g
      .cases g
     .cases h
    .cases h
   .cases h
  .cases h
 .cases h
end
variable {x : Operand}
def both{R:Type}(a b:Option R):Option R:=open Classical in if a=b then a else none
theorem aa1{R:Type}{a b:Option R}{r:R}(h:both a b=some r):a=some r/\b=some r:=by
 unfold both at h;split at h
 next e=>exact ⟨h,e▸h⟩
 .cases h
inductive Sh where
 |l
 |b (x y:Sh)
def aN:Sh->(R:Type)->Option R->Option R
 | .l,_,a=>a
 | .b x y,R,a=>both (aN x R a) (aN y R a)
theorem ae0{R:Type}{a:Option R}:(s:Sh)->aN s R a=a
 | .l=>rfl
 | .b x y=>by show both (aN x R a) (aN y R a)=a;rw [ae0 x,ae0 y];unfold both;simp
theorem aQ:aN=λ_ _ a=>a:=funext λs=>funext λ_=>funext λ_=>ae0 s
def yV{α R:Type}(l:List α)(k1 k0:Option R):Option R:=match l with
 |[]=>both k1 k0
 |_::_=>k0
theorem ab0{α R:Type}{l:List α}{a b:Option R}{r:R}(h:yV l a b=some r):b=some r/\(l=[]->a=some r):=by
 unfold yV at h;split at h
 .obtain ⟨d,c⟩:=aa1 h;exact ⟨c,λ_=>d⟩
 .exact ⟨h,λe=>by cases e⟩
theorem mC{α:Type}{l:List α}{b:Nat}:yV l (some []) (aJ (aH (List.length ([]:List α)+List.length l) b)<|some (([]:List α)++l))=aJ (aH (List.length l) b) (some l):=by
 cases l with
 |nil=>
  have:aH 0 b=true:=by unfold aH;simp
  show both (some []) (aJ (aH 0 b) (some []))=aJ (aH 0 b) (some []);rw [this];unfold both;simp [aJ]
 |cons x l=>show aJ (aH (0+(l.length+1)) b) _=_;rw [l7];rfl
section
variable {X : Cx} {R : Type} {r : R} {K : cT R} {T : aD} {fr : Fr} {st : aE} {g : GK} {d : Tmp} {ρ : aB} {Φ : Ctx} {w : World} {ty : TypeId} {pos : String} {af : zw} {gd : zg}
def aj8(X:Cx)(st:aE)(d:Tmp)(t:TypeId)(K:cT R):Option R:=match Z6 X.P t with
 |some p=>(match C2 X.tys p.1 with
  |some k=>(match C2 X.tys p.2 with
   |some v=>K { st with c:=st.c+1,E:=cL (some d) none (.mp st.c) st.E,G:= .mp st.c k v (some [])::st.G }
   |none=>none)
  |none=>none)
 |none=>none
theorem aoE{t:TypeId}(f:st.low fr=true)(e:Sat (ab ρ T st.G++(ab ρ T fr.H++Φ)) w)(h:aj8 X st d t K=some r):
  jX X.P T none (az ρ T st.E fr.F) ⟨some d,.makeMap t none,ty,pos,af,gd⟩ w (aY r K T fr st none (some d) ρ Φ):=by
 unfold aj8 at h;split at h
 .rename_i p hp;split at h
  .rename_i k i;split at h
   .rename_i v g;have c:ny X.P (az ρ T st.E fr.F) ⟨some d,.makeMap t none,ty,pos,af,none⟩ w (.map (some w.heap.size)) (w.alloc (.map #[] 0)):=λn a j=>by simp [execOp,Instr.makeMap]
    refine .none_ (bK.gd (bK.oS c (aY.push (x:={ df with m:=some w.heap.size }) f h (by simp only [AV.val,aB.bH]) ?_)));simp only [Row.item,aB.bH];exact e.push (fi _ _) (λb hb=>by
     have:b=w.heap.size:=by simpa [omap,Kl] using hb
     subst this;exact ⟨by show _<(w.heap.push _).size;simp,b7 _⟩) (λM' m=> .inr ⟨_,#[],0,[],rfl,rfl,by show (w.heap.push _)[w.heap.size]? =_;simp,rfl⟩)
   .cases h
  .cases h
 .cases h
def alD(X:Cx)(T:aD)(fr:Fr)(st:aE)(t:TypeId)(x y z:Operand)(K:cT R):Option R:=match Z6 X.P t with
 |some p=>(match bC T st.E fr.F none x with
  |some (.mp id)=>(match pz (alJ id) st.G with
   |some (j,.mp _ k v md)=>(match bC T st.E fr.F none y with
    |some kv=>(match bC T st.E fr.F none z with
     |some vv=>(match ag0 k kv with
      |some key=>(match ag0 v vv with
       |some val=>aC ( alN X.P p.1 k ) ( md.bind λl=>K { st with G:=st.G.set j (.mp id k v (some (iR l key val))) } ) none
       |none=>none)
      |none=>none)
     |none=>none)
    |none=>none)
   |_=>none)
  |_=>none)
 |none=>none
theorem apZ{t:TypeId}{y z:Operand}(n:Sat (ab ρ T st.G++(ab ρ T fr.H++Φ)) w)(h:alD X T fr st t x y z K=some r):
  jX X.P T none (az ρ T st.E fr.F) ⟨none,.mapUpdate t x y z,ty,pos,af,gd⟩ w (aY r K T fr st none none ρ Φ):=by
 unfold alD at h;split at h
 .rename_i p hp;split at h
  .rename_i id hx;split at h
   .rename_i j g k v md D;split at h
    .rename_i Q u;split at h
     .rename_i O s;split at h
      .rename_i key f;split at h
       next val e=>obtain ⟨M,L⟩:=aI h;obtain ⟨l,i,J⟩:=iy L;subst i;obtain ⟨q,N⟩:=mZ D;have:g=id:=ai N;subst this;have d:=bL (ρ:=ρ) hx;have c:=bL (ρ:=ρ) u;have a:=bL (ρ:=ρ) s;simp only [AV.val] at d;rw [aao f] at c;rw [aao e] at a;have hi:=gm (ρ:=ρ) (T:=T) (Φ:=ab ρ T fr.H++Φ) q;obtain ⟨w',B,I,A,o⟩:=ZV (P:=X.P) (E:=az ρ T st.E fr.F) (w:=w) (ty:=ty) (pos:=pos) (af:=af) (aaX M) (Ak hp) d c a (n.omap hi);refine .none_ (bK.gd (bK.amp B (aY.jP (av:= .raw undef) J (b7 _) rfl (by simp only [AV.val]) ?_)));have C:j<st.G.length:=(List.getElem?_eq_some_iff.1 q).1;show Sat (ab ρ T (st.G.set j _)++_) _;rw [fT C];exact n.iP hi I (λb hb=>⟨o.lt b hb,.inl hb⟩) (λM' m _=>o)
       .cases h
      .cases h
     .cases h
    .cases h
   .cases h
  .cases h
 .cases h
def aq5(X:Cx)(T:aD)(fr:Fr)(st:aE)(d:Tmp)(t:TypeId)(x:Operand)(K:cT R):Option R:=match bC T st.E fr.F none x with
 |some (.str s)=>aC ( isStr X.P t ) ( K { st with c:=st.c+1,E:=cL (some d) none (.ptr st.c 0) st.E,G:= .it st.c s 0::st.G } ) none
 |_=>none
theorem asH{t:TypeId}(g:st.low fr=true)(f:Sat (ab ρ T st.G++(ab ρ T fr.H++Φ)) w)(h:aq5 X T fr st d t x K=some r):
  jX X.P T none (az ρ T st.E fr.F) ⟨some d,.range t x,ty,pos,af,gd⟩ w (aY r K T fr st none (some d) ρ Φ):=by
 unfold aq5 at h;split at h
 .rename_i s hx;obtain ⟨k,j⟩:=aI h;have c:=bL (ρ:=ρ) hx;simp only [AV.val] at c;have e:ny X.P (az ρ T st.E fr.F) ⟨some d,.range t x,ty,pos,af,none⟩ w (.pointer (some ⟨w.heap.size,0,none⟩)) (w.alloc (.stringIter ⟨s.toArray⟩ 0)):=λn' a i=>by simp [execOp,c n' a i rfl,Instr.range,run_underlying (sN k),S]
  refine .none_ (bK.gd (bK.oS e (aY.push (x:={ df with b:=w.heap.size }) g j (by simp only [AV.val,aB.bH]) ?_)));simp only [Row.item,aB.bH];exact f.push (fi _ _) (λb hb=>by
   have:b=w.heap.size:=by simpa [iter] using hb
   subst this;simp) (λ_ _=>heap_alloc_new w _)
 .cases h
def ap9(T:aD)(fr:Fr)(st:aE)(d:Tmp)(x:Operand)(K:cT R):Option R:=match bC T st.E fr.F none x with
 |some (.ptr id 0)=>(match pz (atE id) st.G with
  |some (j,.it _ s p)=>cond (decide (p<s.length)) (K { st with E:=cL (some d) none (.tuple [.bool true,.int .i64 (p:Int),.int .i32 (DQ s p)]) st.E,G:=st.G.set j (.it id s (pV s p)) })
   (K { st with E:=cL (some d) none (.tuple [.bool false]) st.E })
  |_=>none)
 |_=>none
theorem as2(n:Sat (ab ρ T st.G++(ab ρ T fr.H++Φ)) w)(h:ap9 T fr st d x K=some r):
  jX X.P T none (az ρ T st.E fr.F) ⟨some d,.next x true,ty,pos,af,gd⟩ w (aY r K T fr st none (some d) ρ Φ):=by
 unfold ap9 at h;split at h
 .rename_i id hx;split at h
  .rename_i j e s p l;obtain ⟨A,I⟩:=mZ l;have:e=id:=ai I;subst this;have g:=bL (ρ:=ρ) hx;simp only [AV.val] at g;have hi:=gm (ρ:=ρ) (T:=T) (Φ:=ab ρ T fr.H++Φ) A;have v:Xg w (ρ e).b s p:=n.iter hi;have z:(getObj (ρ e).b).run X.P w= .ok (.stringIter ⟨s.toArray⟩ p) w:=by simp only [getObj,Sem.run];rw [v]
   rcases vL h with ⟨o,y⟩|⟨o,y⟩
   .have k:p<s.length:=by simpa using o
    have t:=(Array.getElem?_eq_some_iff.1 v).1;have m:Xg { w with heap:=w.heap.setIfInBounds (ρ e).b (.stringIter ⟨s.toArray⟩ (pV s p)) } (ρ e).b s (pV s p):=by show (w.heap.setIfInBounds (ρ e).b _)[(ρ e).b]? =_;rw [sv t]
    have D:kP [(ρ e).b] w { w with heap:=w.heap.setIfInBounds (ρ e).b (.stringIter ⟨s.toArray⟩ (pV s p)) }:=⟨rfl,rfl,rfl,by show w.heap.size<=(w.heap.setIfInBounds (ρ e).b _).size;simp,λc _ u=>by
     show (w.heap.setIfInBounds (ρ e).b _)[c]? =_;have q:c≠(ρ e).b:=by simpa using u
     rw [qH (Ne.symm q)]⟩
    have tT:(setObj (ρ e).b (.stringIter ⟨s.toArray⟩ (pV s p))).run X.P w= .ok () { w with heap:=w.heap.setIfInBounds (ρ e).b (.stringIter ⟨s.toArray⟩ (pV s p)) }:=by simp only [setObj,Sem.run];rw [v]
    have i:p<(⟨s.toArray⟩:ByteArray).size:=by rw [mz];exact k
    have e1:pV s p=p+(Utf8.decode ⟨s.toArray⟩ p).2:=rfl;have f:ny X.P (az ρ T st.E fr.F) ⟨some d,.next x true,ty,pos,af,none⟩ w (.tuple #[.bool true,.int .i64 (p:Int),.int .i32 (DQ s p)]) { w with heap:=w.heap.setIfInBounds (ρ e).b (.stringIter ⟨s.toArray⟩ (pV s p)) }:=λn' a l=>by rw [e1] at tT ⊢;simp only [execOp,g n' a l rfl,Instr.next,Sem.run_bind,z,Result.andThen_ok,cN i,Sem.run_pure,tT,goInt];rfl
    refine .none_ (bK.gd (bK.oS f (aY.jP (av:= .tuple [.bool true,.int .i64 (p:Int),.int .i32 (DQ s p)]) y (b7 _) rfl (by simp only [AV.val,AV.ar]) ?_)));have B:j<st.G.length:=(List.getElem?_eq_some_iff.1 A).1;show Sat (ab ρ T (st.G.set j _)++_) _;rw [fT B];exact n.iP hi D (λc C=>by
     have:c=(ρ e).b:=by simpa [Row.item,Go.Proofs.YtdolcddlmodkkaaGreatDoor.iter] using C
     subst this;exact ⟨(Array.getElem?_eq_some_iff.1 m).1,.inl (by simp [Row.item,Go.Proofs.YtdolcddlmodkkaaGreatDoor.iter])⟩) (λ_ _ _=>m)
   .have k:¬p<s.length:=by simpa using o
    have f:ny X.P (az ρ T st.E fr.F) ⟨some d,.next x true,ty,pos,af,none⟩ w (.tuple #[.bool false]) w:=λn' a l=>by
     have i:¬p<(⟨s.toArray⟩:ByteArray).size:=by rw [mz];exact k
     simp only [execOp,g n' a l rfl,Instr.next,Sem.run_bind,z,Result.andThen_ok,cx i,Sem.run_pure]
    exact .none_ (bK.gd (bK.oS f (aY.jP (av:= .tuple [.bool false]) y (b7 _) rfl (by simp only [AV.val,AV.ar]) n)))
  .cases h
 .cases h
def apL(X:Cx)(T:aD)(fr:Fr)(st:aE)(g:GK)(d:Tmp)(s dt:TypeId)(x:Operand)(K:cT R):Option R:=match bC T st.E fr.F g x with
 |some (.str l)=>aC ( isStr X.P s ) ( match fR X.P dt with
  |some e=>(match tyK X.P e with
   |some .u8=>K { st with c:=st.c+1,E:=cL (some d) g (.sl st.c) st.E,G:= .sli g st.c (.i .u8) (bS l) false::st.G }
   |_=>none)
  |none=>none ) none
 |_=>none
theorem asR{s k:TypeId}(i:st.low fr=true)(c:Sat (ab ρ T st.G++(ab ρ T fr.H++Φ)) w)(h:apL X T fr st g d s k x K=some r):
  jX X.P T g (az ρ T st.E fr.F) ⟨some d,.convert s k x,ty,pos,af,gd⟩ w (aY r K T fr st g (some d) ρ Φ):=by
 unfold apL at h;split at h
 .rename_i l hx;obtain ⟨z,b⟩:=aI h;split at b
  .rename_i e t;split at b
   .rename_i q;have a:=aV (ρ:=ρ) hx;simp only [AV.val] at a;refine ⟨λf=>?_,λf=>?_⟩
    .rw [f] at a;obtain ⟨v',w',m,y,o,u⟩:=apz (P:=X.P) (E:=az ρ T st.E fr.F) (w:=w) (dst:=some d) (ty:=ty) (pos:=pos) (af:=af) (sN z) (cf t) (JL q) a;have j:=u (Ctx.M (ab ρ T st.G++(ab ρ T fr.H++Φ))) (λn=>by have:=c.lt n;omega);obtain ⟨p,rfl⟩:=j.ox;refine bK.gd (bK.oS m (aY.push (x:={ df with v:=p }) i b (by simp only [AV.val,aB.bH]) ((c.ext y).add rfl ?_)));simp only [Row.item,aB.bH];exact λ_=>⟨j,λhb=>by cases hb⟩
    .exact ⟨_,aY.push (x:=df) i b rfl (c.add rfl λh=>by rw [f] at h;cases h)⟩
   .cases b
  .cases b
 .cases h
def apF(X:Cx)(T:aD)(fr:Fr)(st:aE)(d:Tmp)(op:BinOp)(t:TypeId)(x y:Operand)(K:cT R):Option R:=match fR X.P t with
 |some _=>(match bC T st.E fr.F none x with
  |some (.sl id)=>(match bC T st.E fr.F none y with
   |some (.raw (.slice none 0 0))=>(match slA st.G fr.H id with
    |some ⟨none,_,l⟩=>(match op with
     | .eql=>yV l (K { st with E:=cL (some d) none (.bool true) st.E }) (K { st with E:=cL (some d) none (.bool false) st.E })
     | .neq=>yV l (K { st with E:=cL (some d) none (.bool false) st.E }) (K { st with E:=cL (some d) none (.bool true) st.E })
     |_=>none)
    |_=>none)
   |_=>none)
  |_=>none)
 |none=>none
theorem asl{op:BinOp}{t t':TypeId}{y:Operand}(m:Sat (ab ρ T st.G++(ab ρ T fr.H++Φ)) w)(h:apF X T fr st d op t x y K=some r):
  jX X.P T none (az ρ T st.E fr.F) ⟨some d,.binOp op t x y t',ty,pos,af,gd⟩ w (aY r K T fr st none (some d) ρ Φ):=by
 unfold apF at h;split at h
 .rename_i e p;split at h
  .rename_i id hx;split at h
   .rename_i q;split at h
    .rename_i u l i;have g:=bL (ρ:=ρ) hx;have f:=bL (ρ:=ρ) q;simp only [AV.val] at g f;have c:=aaz m i aD.get_none;have a:(AR (sl (ρ id).v)=true/\l=[])\/AR (sl (ρ id).v)=false:=by
      rcases aeF m i aD.get_none with s|⟨e',z⟩
      .rcases aib s with ⟨n,A⟩|n
       .exact .inl ⟨by rw [n];rfl,A⟩
       .exact .inr n
      .exact aip z
     have mk:∀b:Bool,K { st with E:=cL (some d) none (.bool b) st.E }=some r->aY r K T fr st none (some d) ρ Φ (.bool b) w:=λb hb=>aY.jP (av:= .bool b) hb (b7 _) rfl (by simp only [AV.val]) m;split at h
     .obtain ⟨k,j⟩:=ab0 h;refine .none_ (bK.gd (bK.run (ahP (cf p) g c f) ?_));rcases a with ⟨c1,o⟩|c1
      .rw [c1];exact mk _ (j o)
      .rw [c1];exact mk _ k
     .obtain ⟨k,j⟩:=ab0 h;refine .none_ (bK.gd (bK.run (air (cf p) g c f) ?_));rcases a with ⟨c1,o⟩|c1
      .rw [c1];exact mk _ (j o)
      .rw [c1];exact mk _ k
     .cases h
    .cases h
   .cases h
  .cases h
 .cases h
def aaC(i:Int)(m:Nat)(k:Nat->Option R):Nat->Nat->Option R
 |0,_=>none
 |n+1,j=>cond (i==(j:Int)) (k (j*m)) (aaC i m k n (j+1))
theorem Gi{i:Int}{m:Nat}{k:Nat->Option R}:∀{n j:Nat},aaC i m k n j=some r->∃q,j<=q/\q<j+n/\i=(q:Int)/\k (q*m)=some r
 |0,j,h=>by cases h
 |n+1,j,h=>by
  unfold aaC at h;rcases vL h with ⟨d,a⟩|⟨_,a⟩
  .exact ⟨j,b7 _,by omega,by simpa using d,a⟩
  .obtain ⟨q,f,e,c,b⟩:=Gi a;exact ⟨q,by omega,by omega,c,b⟩
end
def fA:List Ty->Type
 |[]=>Unit
 |[t]=>t.T
 |t::u::ts=>t.T×fA (u::ts)
def ic:(ts:List Ty)->fA ts->List cn
 |[],_=>[]
 |[t],x=>[⟨t,x⟩]
 |t::u::ts,x=>⟨t,x.1⟩::ic (u::ts) x.2
def cB:(ts:List Ty)->List cn->Option (fA ts)
 |[],D=>(match D with
  |[]=>some ()
  |_=>none)
 |[t],D=>(match D with
  |[d]=>d.as t
  |_=>none)
 |t::u::ts,D=>(match D with
  |d::D=>(match d.as t with
   |some x=>(match cB (u::ts) D with
    |some y=>some (x,y)
    |none=>none)
   |none=>none)
  |_=>none)
theorem Di:(a:List Ty)->{D:List cn}->{s:fA a}->cB a D=some s->ic a s=D
 |[],D,s,h=>by
  unfold cB at h;split at h
  .rfl
  .cases h
 |[t],D,s,h=>by
  match D,h with
  |[d],h=>rw [cn.QH (t:=t) (d:=d) (x:=s) h];rfl
  |[],h=>cases h
  |_::_::_,h=>cases h
 |t::u::a,D,s,h=>by
  unfold cB at h;split at h
  .rename_i d c;split at h
   .rename_i x hx;split at h
    next y b=>cases h;show ⟨t,x⟩::ic (u::a) y=_;rw [Di (u::a) b,cn.QH hx]
    .cases h
   .cases h
  .cases h
def alE:(ts:List Ty)->fA ts
 |[]=>()
 |[t]=>t.sD
 |t::u::ts=>(t.sD,alE (u::ts))
mutual
def og:Pt->List Ty
 | .int k=>[.i k]
 | .bool=>[.bo]
 | .str=>[.s]
 | .sli t=>[.l t]
 | .own t _ _=>[.l t]
 | .bx _ _ _ vs=>oL vs
 | .mp k v _=>[.mp k v]
 | .it=>[.s,.n]
 | .agg l=>oL l
 | .cB l=>oL l
 | .fn _ a b=>oL a++oL b
 | .ifc _ p=>og p
 | .dat t _=>[t]
 | .ifn=>[.n]
 | .sfp=>[.bo]
 | .sty p=>og p
 |_=>[]
def oL:List Pt->List Ty
 |[]=>[]
 |p::l=>og p++oL l
end
def iG:List (Bool×Nat×Pt)->List Ty
 |[]=>[]
 |x::l=>og x.2.2++iG l
abbrev Fx:=Option (Value×zq)
def xt(fx:Fx)(v:Value):Prop:= ∀p,fx=some p->v=p.1
def fxC(fx:Fx):zq:=match fx with
 |some p=>p.2
 |none=>[]
def PZ:Pt->Bool
 | .agg _=>true
 | .fn _ _ _=>true
 | .ifc _ _=>true
 |_=>false
def fx1(p:Pt)(fxs:zq):Fx:=match fxs with
 |[]=>none
 |u::_=>aC (PZ p) none (some (u,[]))
abbrev fJ:=List (Bool×Item)
abbrev kr:=List (Nat×zq)
def oe(e:Nat):Nat:=e/2
def ow(e:Nat):Bool:=Nat.beq (e%2) 1
def VB:(t:Ty)->t.T->zq->zf->List Nm->fJ->List Nm->zf->Prop
 | .i k,x,cs,o,N,I,N',o'=>cs=[.int k x]/\I=[]/\N'=N/\o'=o
 | .bo,x,cs,o,N,I,N',o'=>cs=[.bool x]/\I=[]/\N'=N/\o'=o
 | .s,x,cs,o,N,I,N',o'=>cs=[S x]/\I=[]/\N'=N/\o'=o
 | .un,_,cs,o,N,I,N',o'=>cs=[]/\I=[]/\N'=N/\o'=o
 | .p a b,x,cs,o,N,I,N',o'=>∃c1 c2 N1 I1 I2 o1,VB a x.1 c1 o N I1 N1 o1/\VB b x.2 c2 o1 N1 I2 N' o'/\cs=c1++c2/\I=I1++I2
 | .l t,x,cs,o,N,I,N',o'=>∃a:Nm,cs=[sl a.v]/\N'=N++[a]/\((o=none::o'/\I=[(false,Is true t.rep a.v x false)])\/∃e,o=some e::o'/\I=[(ow e,pw t.rep (oe e) a.v x True)]/\a.y=⟨.l t,x⟩)
 | .ex,x,cs,o,N,I,N',o'=>∃a:Nm,cs=[.int .i64 x.op,.int .i64 x.n,.int .i64 x.at_,sl a.v]/\N'=N++[a]/\((o=none::o'/\I=[(false,Is true J7 a.v x.l false)])\/∃e,o=some e::o'/\I=[(ow e,pw J7 (oe e) a.v x.l True)]/\a.y=⟨.l .ex,x.l⟩)
 |_,_,_,_,_,_,_,_=>False
mutual
def Sem:Pt->Value->Fx->Option Value->List Nm->List cn->fJ->kr->List Nm->Prop
 | .int k,v,_,_,N,D,I,X,N'=>∃x,v= .int k x/\D=[⟨.i k,x⟩]/\I=[]/\X=[]/\N'=N
 | .bool,v,_,_,N,D,I,X,N'=>∃x,v= .bool x/\D=[⟨.bo,x⟩]/\I=[]/\X=[]/\N'=N
 | .str,v,_,_,N,D,I,X,N'=>∃x,v=S x/\D=[⟨.s,x⟩]/\I=[]/\X=[]/\N'=N
 | .sli t,v,_,_,N,D,I,X,N'=>∃(a:Nm) (l:List t.T),v=sl a.v/\D=[⟨.l t,l⟩]/\I=[(false,Is true t.rep a.v l false)]/\X=[]/\N'=N++[a]
 | .own t e m,v,fx,_,N,D,I,X,N'=>∃(a:Nm) (l:List t.T),v=sl a.v/\xt fx v/\D=[⟨.l t,l⟩]/\I=[(m,pw t.rep e a.v l True)]/\X=[]/\N'=N++[a]/\a.y=⟨.l t,l⟩
 | .slr n,v,_,_,N,D,I,X,N'=>∃a:Nm,N[n]? =some a/\v=sl a.v/\D=[]/\I=[]/\X=[]/\N'=N
 | .bx t off m vs,v,fx,_,N,D,I,X,N'=>∃(a:Nm) (cs:zq) (I':fJ) (X':kr),v= .pointer (some ⟨a.b,off,none⟩)/\xt fx v/\xA vs cs [] (fxC fx) (N++[a]) D I' X' N'/\I=(m,box a.b t cs)::I'/\X=(aC m [(N.length,cs)] [])++X'
 | .ptr n off,v,_,_,N,D,I,X,N'=>∃a:Nm,N[n]? =some a/\v= .pointer (some ⟨a.b,off,none⟩)/\D=[]/\I=[]/\X=[]/\N'=N
 | .mp k u m,v,fx,_,N,D,I,X,N'=>∃(a:Nm) (d:Option (List (k.T×u.T))),v= .map a.m/\xt fx v/\D=[⟨.mp k u,d⟩]/\I=[(m,omap (Hy k) (Hy u) (.map a.m) d)]/\X=[]/\N'=N++[a]
 | .it,v,fx,_,N,D,I,X,N'=>∃(a:Nm) (s:aS) (p:Nat),v= .pointer (some ⟨a.b,0,none⟩)/\xt fx v/\D=[⟨.s,s⟩,⟨.n,p⟩]/\I=[(true,iter a.b s p)]/\X=[]/\N'=N++[a]
 | .agg l,v,fx,_,N,D,I,X,N'=>∃cs:zq,v= .agg cs.toArray/\xt fx v/\xA l cs (aC fx.isSome cs []) [] N D I X N'
 | .cB l,v,_,_,N,D,I,X,N'=>∃cs:zq,v= .tuple cs.toArray/\xA l cs [] [] N D I X N'
 | .fn f a b,v,fx,_,N,D,I,X,N'=>∃(us vs:zq) (D1 D2:List cn) (I1 I2:fJ) (X1 X2:kr) (N1:List Nm),v= .func (.func f) us.toArray vs.toArray/\xt fx v/\xA a us [] [] N D1 I1 X1 N1/\xA b vs (aC fx.isSome vs []) [] N1 D2 I2 X2 N'/\D=D1++D2/\I=I1++I2/\X=X1++X2
 | .ifc t p,v,fx,_,N,D,I,X,N'=>∃u,v= .iface t u/\xt fx v/\Sem p u (fx1 p (aC fx.isSome [u] [])) none N D I X N'
 | .kB c,v,_,_,N,D,I,X,N'=>(v=c.val (λ_=>df)/\∀ρ,c.val ρ=c.val (λ_=>df))/\D=[]/\I=[]/\X=[]/\N'=N
 | .dat t o,v,_,_,N,D,I,X,N'=>∃(cs:zq) (x:t.T) (o':zf),v= .agg cs.toArray/\D=[⟨t,x⟩]/\VB t x cs o N I N' o'/\X=[]
 | .ifn,v,_,_,N,D,I,X,N'=>∃x:Nat,v= .iface x (.agg #[])/\D=[⟨.n,x⟩]/\I=[]/\X=[]/\N'=N
 | .sfp,v,_,_,N,D,I,X,N'=>∃(a:Nm) (f:Bool),N[N.length-1]? =some a/\v=Dd f a.b/\D=[⟨.bo,f⟩]/\I=[]/\X=[]/\N'=N
 | .sty p,v,fx,sm,N,D,I,X,N'=>fx=none/\sm=some v/\PZ p=false/\Sem p v (some (v,[])) none N D I X N'
 | .same,v,fx,sm,N,D,I,X,N'=>((∃p,fx=some p/\v=p.1)\/(fx=none/\sm=some v))/\D=[]/\I=[]/\X=[]/\N'=N
def xA:List Pt->zq->zq->zq->List Nm->List cn->fJ->kr->List Nm->Prop
 |[],vs,_,_,N,D,I,X,N'=>vs=[]/\D=[]/\I=[]/\X=[]/\N'=N
 |p::l,vs,fxs,sms,N,D,I,X,N'=>∃(v:Value) (vs':zq) (D1 D2:List cn) (I1 I2:fJ) (X1 X2:kr) (N1:List Nm),vs=v::vs'/\Sem p v (fx1 p fxs) sms.head? N D1 I1 X1 N1/\xA l vs' fxs.tail sms.tail N1 D2 I2 X2 N'/\D=D1++D2/\I=I1++I2/\X=X1++X2
end
def HZ(fix:Nat->Fx)(val:Nat->Option Value):List (Bool×Nat×Pt)->List Nm->List cn->fJ->kr->List Nm->Prop
 |[],N,D,I,X,N'=>D=[]/\I=[]/\X=[]/\N'=N
 |x::l,N,D,I,X,N'=>∃(v:Value) (D1 D2:List cn) (I1 I2:fJ) (X1 X2:kr) (N1:List Nm),(aC x.1 ((fix x.2.1).map (·.1)) (val x.2.1))=some v/\Sem x.2.2 v (aC x.1 (fix x.2.1) none) none N D1 I1 X1 N1/\HZ fix val l N1 D2 I2 X2 N'/\D=D1++D2/\I=I1++I2/\X=X1++X2
mutual
def AV.same:AV->AV->Bool
 | .fn f a b,v=>(match v with
  | .fn f' a' b'=>Nat.beq f f'&&AV.Qs a a'&&AV.Qs b b'
  |_=>false)
 | .tuple l,v=>(match l with
  |[]=>(match v with
   | .tuple l=>l.isEmpty
   |_=>false)
  |_=>false)
 | .int k x,v=>(match v with
  | .int k' x'=>gF k k'&&(x==x')
  |_=>false)
 | .raw u,v=>(match v with
  | .raw u'=>(match u,u' with
   | .slice none m n,.slice none m' n'=>Nat.beq m m'&&Nat.beq n n'
   | .pointer none,.pointer none=>true
   | .nilFunc,.nilFunc=>true
   | .nilIface,.nilIface=>true
   | .map none,.map none=>true
   |_,_=>false)
  |_=>false)
 |_,_=>false
def AV.Qs:List AV->List AV->Bool
 |[],l'=>l'.isEmpty
 |v::l,l'=>(match l' with
  |v'::l'=>AV.same v v'&&AV.Qs l l'
  |[]=>false)
end
mutual
theorem AV.LK{ρ ρ':aB}:(v:AV)->(v':AV)->AV.same v v'=true->v'.val ρ'=v.val ρ
 | .fn f a b,v',h=>by
  unfold AV.same at h;split at h
  next e d c=>simp only [ah] at h;simp only [AV.val];rw [ai h.1.1,AV.PB a d h.1.2,AV.PB b c h.2]
  .cases h
 | .tuple l,v',h=>by
  unfold AV.same at h;split at h
  .split at h
   .rename_i l';have:l'=[]:=by simpa using h
    subst this;simp only [AV.val,AV.ar]
   .cases h
  .cases h
 | .raw u,v',h=>by
  unfold AV.same at h;split at h
  .rename_i u';split at h
   .simp only [ah] at h;simp only [AV.val];rw [ai h.1,ai h.2]
   .simp only [AV.val]
   .simp only [AV.val]
   .simp only [AV.val]
   .simp only [AV.val]
   .cases h
  .cases h
 | .int k x,v',h=>by
  unfold AV.same at h;split at h
  .simp only [ah] at h;simp only [AV.val];rw [iI h.1,eq_of_beq h.2]
  .cases h
 | .bool _,v',h|.str _,v',h|.agg _,v',h|.ptr _ _,v',h|.sl _,v',h|.adr _ _,v',h|.ifc _ _,v',h|.mp _,v',h|.gp _,v',h|.nv _,v',h|.sfp _ _,v',h|.bs _ _,v',h=>by unfold AV.same at h;cases h
theorem AV.PB{ρ ρ':aB}:(l:List AV)->(l':List AV)->AV.Qs l l'=true->AV.ar ρ' l'=AV.ar ρ l
 |[],l',h=>by
  unfold AV.Qs at h;have:l'=[]:=by simpa using h
  subst this;rfl
 |v::l,l',h=>by
  unfold AV.Qs at h;split at h
  next v' l'=>simp only [ah] at h;simp only [AV.ar];rw [AV.LK v v' h.1,AV.PB l l' h.2]
  .cases h
end
structure MR where
 B:zh
 S:List (Bool×Src)
 D:List cn
 X:List (Nat×List AV)
def age(G H:List Row)(t:Ty)(v:AV):Option (zt×Src×List t.T):=match v with
 | .sl j=>(match eK G H (ox j) with
  |some (s,.sli none _ t' l _)=>(match ui.cn.asL t ⟨.l t',l⟩ with
   |some l=>some (some j,s,l)
   |none=>none)
  |_=>none)
 | .raw (.slice none 0 0)=>some (none,.nilI t,[])
 |_=>none
def ag4(G H:List Row)(t:Ty)(e:TypeId)(v:AV):Option (zt×Src×List t.T):=match v with
 | .sl j=>(match eK G H (ox j) with
  |some (s,.own _ t' e' l _)=>aC ( Nat.beq e e' ) ( match ui.cn.asL t ⟨.l t',l⟩ with
   |some l=>some (some j,s,l)
   |none=>none
   ) none
  |_=>none)
 | .raw (.slice none 0 0)=>some (none,.nilO t e,[])
 |_=>none
structure DR(t:Ty) where
 x:t.T
 vs:List AV
 o:zf
 B:zh
 S:List (Bool×Src)
def Ar(G H:List Row):(t:Ty)->List AV->zf->zh->Option (DR t)
 | .i k,vs,o,B=>(match vs with
  | .int k' x::vs=>aC ( gF k k' ) ( some ⟨x,vs,o,B,[]⟩ ) none
  |_=>none)
 | .bo,vs,o,B=>(match vs with
  | .bool x::vs=>some ⟨x,vs,o,B,[]⟩
  |_=>none)
 | .s,vs,o,B=>(match vs with
  | .str x::vs=>some ⟨x,vs,o,B,[]⟩
  |_=>none)
 | .un,vs,o,B=>some ⟨(),vs,o,B,[]⟩
 | .p a b,vs,o,B=>(match Ar G H a vs o B with
  |some d=>(match Ar G H b d.vs d.o d.B with
   |some e=>some ⟨(d.x,e.x),e.vs,e.o,e.B,d.S++e.S⟩
   |none=>none)
  |none=>none)
 | .l t,vs,o,B=>(match vs with
  |v::vs=>(match o with
   |none::o=>(match age G H t v with
    |some q=>some ⟨q.2.2,vs,o,B++[q.1],[(false,q.2.1)]⟩
    |none=>none)
   |some e::o=>(match ag4 G H t (oe e) v with
    |some q=>some ⟨q.2.2,vs,o,B++[q.1],[(ow e,q.2.1)]⟩
    |none=>none)
   |[]=>none)
  |[]=>none)
 | .ex,vs,o,B=>(match vs with
  | .int .i64 a:: .int .i64 b:: .int .i64 c::v::vs=>(match o with
   |none::o=>(match age G H .ex v with
    |some q=>some ⟨Ex.mk a b c q.2.2,vs,o,B++[q.1],[(false,q.2.1)]⟩
    |none=>none)
   |some e::o=>(match ag4 G H .ex (oe e) v with
    |some q=>some ⟨Ex.mk a b c q.2.2,vs,o,B++[q.1],[(ow e,q.2.1)]⟩
    |none=>none)
   |[]=>none)
  |_=>none)
 |_,_,_,_=>none
def Uv:zt->zt->Bool
 |some a,some b=>Nat.beq a b
 |none,none=>true
 |_,_=>false
theorem asf{a b:zt}(h:Uv a b=true):a=b:=by
 unfold Uv at h;split at h
 .rw [ai h]
 .rfl
 .cases h
abbrev ix:=Option (AV×List AV)
def oT(p:Pt)(fxs:List AV):ix:=match fxs with
 |[]=>none
 |u::_=>aC (PZ p) none (some (u,[]))
def pL(p:Pt)(fx:ix):Bool:=match p with
 | .agg _=>(match fx with
  |some (.agg _,_)=>true
  |some _=>false
  |none=>true)
 | .fn _ _ _=>(match fx with
  |some (.fn _ _ _,_)=>true
  |some _=>false
  |none=>true)
 | .ifc _ _=>(match fx with
  |some (.ifc _ _,_)=>true
  |some _=>false
  |none=>true)
 |_=>true
def ik(fx:ix):List AV:=match fx with
 |some (.agg us,_)=>us
 |some (.fn _ _ b,_)=>b
 |some (.ifc _ u,_)=>[u]
 |_=>[]
def Kp(fx:ix):List AV:=match fx with
 |some p=>p.2
 |none=>[]
def nvs(v:AV)(fx:ix)(sm:Option AV):Bool:=match fx with
 |some _=>true
 |none=>(match sm with
  |some (.nv u)=>(match v with
   | .nv w=>Nat.beq u w
   |_=>false)
  |_=>false)
def ap0:AV->AV->Bool
 | .ptr a b,.ptr c d=>Nat.beq a c&&Nat.beq b d
 |_,_=>false
theorem atd{u v:AV}(h:ap0 u v=true):u=v:=by
 unfold ap0 at h;split at h
 .simp only [ah] at h;rw [ai h.1,ai h.2]
 .cases h
def afH:Pt->Bool
 | .same=>true
 |_=>false
mutual
def mt(G H:List Row):Pt->AV->ix->Option AV->zh->Option MR
 | .int k,v,_,_,B=>(match v with
  | .int k' x=>aC (gF k k') (some ⟨B,[],[⟨.i k,x⟩],[]⟩) none
  |_=>none)
 | .bool,v,_,_,B=>(match v with
  | .bool x=>some ⟨B,[],[⟨.bo,x⟩],[]⟩
  |_=>none)
 | .str,v,_,_,B=>(match v with
  | .str x=>some ⟨B,[],[⟨.s,x⟩],[]⟩
  |_=>none)
 | .sli t,v,_,_,B=>(match age G H t v with
  |some q=>some ⟨B++[q.1],[(false,q.2.1)],[⟨.l t,q.2.2⟩],[]⟩
  |none=>none)
 | .own t e m,v,_,_,B=>(match ag4 G H t e v with
  |some q=>some ⟨B++[q.1],[(m,q.2.1)],[⟨.l t,q.2.2⟩],[]⟩
  |none=>none)
 | .slr n,v,_,_,B=>(match v with
  | .sl j=>aC (Uv ((B[n]?).getD none) (some j)) (some ⟨B,[],[],[]⟩) none
  |_=>none)
 | .bx t off m vs,v,fx,_,B=>(match v with
  | .ptr j off'=>aC (Nat.beq off off') (match eK G H (A4 j) with
   |some (s,.box _ t' cs)=>aC (Nat.beq t t') (match JA G H vs cs [] (Kp fx) (B++[some j]) with
     |some r=>some ⟨r.B,(m,s)::r.S,r.D,(aC m [(B.length,cs)] [])++r.X⟩
     |none=>none) none
   |_=>none) none
  |_=>none)
 | .ptr n off,v,_,_,B=>(match v with
  | .ptr j off'=>aC (Nat.beq off off'&&Uv ((B[n]?).getD none) (some j)) (some ⟨B,[],[],[]⟩) none
  |_=>none)
 | .mp k u m,v,_,_,B=>(match v with
  | .mp j=>(match eK G H (alJ j) with
   |some (s,.mp _ k' u' d)=>(match cn.as (.mp k u) ⟨.mp k' u',d⟩ with
    |some d=>some ⟨B++[some j],[(m,s)],[⟨.mp k u,d⟩],[]⟩
    |none=>none)
   |_=>none)
  | .raw (.map none)=>some ⟨B++[none],[(m,.nilM k u)],[⟨.mp k u,(none:Option (List (k.T×u.T)))⟩],[]⟩
  |_=>none)
 | .it,v,_,_,B=>(match v with
  | .ptr j 0=>(match eK G H (atE j) with
   |some (s,.it _ x p)=>some ⟨B++[some j],[(true,s)],[⟨.s,x⟩,⟨.n,p⟩],[]⟩
   |_=>none)
  |_=>none)
 | .agg l,v,fx,_,B=>(match v with
  | .agg vs=>aC (pL (.agg l) fx) (JA G H l vs (aC fx.isSome vs []) [] B) none
  |_=>none)
 | .cB l,v,_,_,B=>(match v with
  | .tuple vs=>JA G H l vs [] [] B
  |_=>none)
 | .fn f a b,v,fx,_,B=>(match v with
  | .fn f' a' b'=>aC (Nat.beq f f'&&pL (.fn f a b) fx) (match JA G H a a' [] [] B with
   |some r=>(match JA G H b b' (aC fx.isSome b' []) [] r.B with
    |some q=>some ⟨q.B,r.S++q.S,r.D++q.D,r.X++q.X⟩
    |none=>none)
   |none=>none) none
  |_=>none)
 | .ifc t p,v,fx,_,B=>(match v with
  | .ifc t' u=>aC (Nat.beq t t'&&pL (.ifc t p) fx) (mt G H p u (oT p (aC fx.isSome [u] [])) none B) none
  |_=>none)
 | .kB c,v,_,_,B=>aC (AV.same c v) (some ⟨B,[],[],[]⟩) none
 | .dat t o,v,_,_,B=>(match v with
  | .agg cs=>(match Ar G H t cs o B with
   |some ⟨x,[],_,B',S⟩=>some ⟨B',S,[⟨t,x⟩],[]⟩
   |_=>none)
  |_=>none)
 | .ifn,v,_,_,B=>(match v with
  | .ifc t (.agg [])=>some ⟨B,[],[⟨.n,t⟩],[]⟩
  |_=>none)
 | .sfp,v,_,_,B=>(match v with
  | .raw (.pointer none)=>(match B[B.length-1]? with
   |some _=>some ⟨B,[],[⟨.bo,false⟩],[]⟩
   |none=>none)
  | .sfp j f=>aC (Uv ((B[B.length-1]?).getD none) (some j)) (some ⟨B,[],[⟨.bo,f⟩],[]⟩) none
  | .ptr j 0=>aC (Uv ((B[B.length-1]?).getD none) (some j)) (some ⟨B,[],[⟨.bo,true⟩],[]⟩) none
  |_=>none)
 | .sty p,v,fx,sm,B=>(match fx with
  |some _=>none
  |none=>(match sm with
   |some u=>aC (ap0 (va G H u) v&& !(PZ p)) (mt G H p v (some (v,[])) none B) none
   |none=>none))
 | .same,v,fx,sm,B=>aC (nvs v fx sm) (some ⟨B,[],[],[]⟩) none
def JA(G H:List Row):List Pt->List AV->List AV->List AV->zh->Option MR
 |[],vs,_,_,B=>(match vs with
  |[]=>some ⟨B,[],[],[]⟩
  |_=>none)
 |p::l,vs,fxs,sms,B=>(match vs with
  |v::vs=>(match mt G H p (aC (afH p) v (va G H v)) (oT p fxs) sms.head? B with
   |some r=>(match JA G H l vs fxs.tail sms.tail r.B with
    |some q=>some ⟨q.B,r.S++q.S,r.D++q.D,r.X++q.X⟩
    |none=>none)
   |none=>none)
  |[]=>none)
end
def tH(fix:Nat->ix):List (Bool×Nat×Pt)->Bool
 |[]=>true
 |x::l=>pL x.2.2 (aC x.1 (fix x.2.1) none)&&tH fix l
theorem asG{G H:List Row}{p:Pt}{v:AV}{fx:ix}{a:Option AV}{B:zh}{r:MR}(h:mt G H p v fx a B=some r):pL p fx=true:=by
 cases p <;> first|rfl|skip
 .unfold mt at h;split at h
  .exact (aI h).1
  .cases h
 .unfold mt at h;split at h
  .have:=(aI h).1;simp only [ah] at this;exact this.2
  .cases h
 .unfold mt at h;split at h
  .have:=(aI h).1;simp only [ah] at this;exact this.2
  .cases h
def mtV(G H:List Row)(look:Nat->Option AV)(fix:Nat->ix):List (Bool×Nat×Pt)->zh->Option MR
 |[],B=>some ⟨B,[],[],[]⟩
 |x::l,B=>(match (aC x.1 ((fix x.2.1).map (·.1)) (look x.2.1)) with
  |some v=>(match mt G H x.2.2 v (aC x.1 (fix x.2.1) none) none B with
   |some r=>(match mtV G H look fix l r.B with
    |some q=>some ⟨q.B,r.S++q.S,r.D++q.D,r.X++q.X⟩
    |none=>none)
   |none=>none)
  |none=>none)
theorem agk{G H:List Row}{b:Nat->Option AV}{fix:Nat->ix}:{l:List (Bool×Nat×Pt)}->{B:zh}->{r:MR}->mtV G H b fix l B=some r->tH fix l=true
 |[],_,_,_=>rfl
 |x::l,B,r,h=>by
  unfold mtV at h;split at h
  .split at h
   .rename_i q c;split at h
    next d a=>simp only [tH,ah];exact ⟨asG c,agk a⟩
    .cases h
   .cases h
  .cases h
def cd(a b:Item):Prop:=(∀x,x∈b.own->x∈a.own)/\∀M w,a.P M w->b.P M w
theorem cd.refl{a:Item}:cd a a:=⟨λ_ h=>h,λ_ _ h=>h⟩
def akK(ρ:aB)(T:aD)(G H:List Row)(s:Src)(it:Item):Prop:=
 (it.own=[]/\(∀M w,it.P M w)/\∀r,¬s.at_ G H r)\/∃r,s.at_ G H r/\cd (r.item ρ T) it/\(r.cV=true->it.own=[])/\(r.cV=false->cd it (r.item ρ T))
def SI(ρ:aB)(T:aD)(G H:List Row)(a:Bool×Src)(b:Bool×Item):Prop:=a.1=b.1/\akK ρ T G H a.2 b.2
inductive fO{α β:Type}(R:α->β->Prop):List α->List β->Prop
 |nil:fO R [] []
 |cons {a b l m}:R a b->fO R l m->fO R (a::l) (b::m)
theorem fO.length{α β:Type}{R:α->β->Prop}{l:List α}{m:List β}(h:fO R l m):l.length=m.length:=by
 induction h with
 |nil=>rfl
 |cons _ _ ih=>simp [ih]
theorem fO.append{α β:Type}{R:α->β->Prop}{l l':List α}{m a:List β}(h:fO R l m)(k:fO R l' a):fO R (l++l') (m++a):=by
 induction h with
 |nil=>exact k
 |cons b _ ih=>exact .cons b ih
theorem fO.get{α β:Type}{R:α->β->Prop}{l:List α}{m:List β}(h:fO R l m):∀{i:Nat} {a:α},l[i]? =some a->∃b,m[i]? =some b/\R a b:=by
 induction h with
 |nil=>intro i a h;simp at h
 |cons c _ ih=>
  intro i a h;cases i with
  |zero=>simp at h;subst h;exact ⟨_,rfl,c⟩
  |succ i=>exact ih (by simpa using h)
def NBr(ρ:aB)(o:zt)(a:Nm):Prop:=match o with
 |some j=>a.b=(ρ j).b/\a.v=(ρ j).v/\a.m=(ρ j).m
 |none=>a.b=0/\a.v=(none,0,0)/\a.m=none
abbrev NB(ρ:aB)(B:zh)(N:List Nm):Prop:=fO (NBr ρ) B N
theorem NB.at_{ρ:aB}{B:zh}{N:List Nm}(h:NB ρ B N){n j:Nat}(hb:Uv ((B[n]?).getD none) (some j)=true):∃a,N[n]? =some a/\a.b=(ρ j).b/\a.v=(ρ j).v:=by
 have e:=asf hb;cases c:B[n]? with
 |none=>rw [c] at e;cases e
 |some o=>
  rw [c] at e;simp only [qD] at e;subst e;obtain ⟨a,f,d⟩:=h.get c;exact ⟨a,f,d.1,d.2.1⟩
section
variable {ρ : aB} {T : aD} {G H : List Row} {Φ : Ctx} {w : World}
theorem Zj(i:Sat (ab ρ T G++(ab ρ T H++Φ)) w){t:Ty}{v:AV}{q:zt×Src×List t.T}(h:age G H t v=some q):∃a:Nm,NBr ρ q.1 a/\v.val ρ=sl a.v/\akK ρ T G H q.2.1 (Is true t.rep a.v q.2.2 false):=by
 unfold age at h;split at h
 .rename_i j;split at h
  .rename_i s c t' l b e;split at h
   next l' d=>cases h;obtain ⟨rfl,rfl⟩:=sR d;obtain ⟨g,f⟩:=ck e;have:c=j:=ai f;subst this;refine ⟨ρ c,⟨rfl,rfl,rfl⟩,by simp only [AV.val],.inr ⟨_,g,⟨λ_ h=>h,λM w h _=>⟨(h aD.get_none).1,λhb=>by cases hb⟩⟩,λ_=>rfl,λh=>by cases h⟩⟩
   .cases h
  .cases h
 .cases h;exact ⟨df,⟨rfl,rfl,rfl⟩,by simp only [AV.val];rfl,.inl ⟨rfl,λM w _=>⟨bW.nil,λhb=>by cases hb⟩,λr h=>h⟩⟩
 .cases h
theorem aaP(i:Sat (ab ρ T G++(ab ρ T H++Φ)) w){t:Ty}{e:TypeId}{v:AV}{q:zt×Src×List t.T}(h:ag4 G H t e v=some q):∃a:Nm,NBr ρ q.1 a/\v.val ρ=sl a.v/\a.y=⟨.l t,q.2.2⟩/\akK ρ T G H q.2.1 (pw t.rep e a.v q.2.2 True):=by
 unfold ag4 at h;split at h
 .rename_i j;split at h
  .rename_i s d t' e' l g m;obtain ⟨n,c⟩:=aI h;have e1:=ai n;subst e1;split at c
   next l' k=>cases c;obtain ⟨rfl,rfl⟩:=sR k;obtain ⟨f,o⟩:=ck m;have:d=j:=ai o;subst this;have b:=(Src.holds i f).2;refine ⟨{ ρ d with y:=⟨.l t',l⟩ },⟨rfl,rfl,rfl⟩,by simp only [AV.val],rfl,.inr ⟨_,f,⟨λ_ h=>h,λM w h=>⟨h.1,trivial⟩⟩,λh=>(by cases h),λ_=>⟨λ_ h=>h,λM w h=>⟨h.1,b⟩⟩⟩⟩
   .cases c
  .cases h
 .cases h;exact ⟨{ df with y:=⟨.l t,([]:List t.T)⟩ },⟨rfl,rfl,rfl⟩,by simp only [AV.val];rfl,rfl,.inl ⟨rfl,λM w=>⟨bR.nil,trivial⟩,λr h=>h⟩⟩
 .cases h
theorem ZU(j:Sat (ab ρ T G++(ab ρ T H++Φ)) w):(t:Ty)->(vs:List AV)->(o:zf)->(B:zh)->(d:DR t)->(N:List Nm)->Ar G H t vs o B=some d->NB ρ B N->
  ∃us N' I,vs=us++d.vs/\VB t d.x (AV.ar ρ us) o N I N' d.o/\NB ρ d.B N'/\fO (SI ρ T G H) d.S I
 | .i k,vs,o,B,d,N,h,hN=>by
  unfold Ar at h;split at h
  next Q x us=>obtain ⟨A,z⟩:=aI h;have:=iI A;subst this;cases z;exact ⟨[.int k x],N,[],rfl,⟨by simp only [AV.ar,AV.val],rfl,rfl,rfl⟩,hN,.nil⟩
  .cases h
 | .bo,vs,o,B,d,N,h,hN=>by
  unfold Ar at h;split at h
  next x us=>cases h;exact ⟨[.bool x],N,[],rfl,⟨by simp only [AV.ar,AV.val],rfl,rfl,rfl⟩,hN,.nil⟩
  .cases h
 | .s,vs,o,B,d,N,h,hN=>by
  unfold Ar at h;split at h
  next x us=>cases h;exact ⟨[.str x],N,[],rfl,⟨by simp only [AV.ar,AV.val],rfl,rfl,rfl⟩,hN,.nil⟩
  .cases h
 | .un,vs,o,B,d,N,h,hN=>by
  unfold Ar at h;cases h;exact ⟨[],N,[],rfl,⟨by simp only [AV.ar],rfl,rfl,rfl⟩,hN,.nil⟩
 | .n,vs,o,B,d,N,h,hN=>by unfold Ar at h;cases h
 | .mp _ _,vs,o,B,d,N,h,hN=>by unfold Ar at h;cases h
 | .p a b,vs,o,B,d,N,h,hN=>by
  unfold Ar at h;split at h
  .rename_i d1 A;split at h
   next d2 z=>cases h;obtain ⟨u,F,K,e1,c,f,P⟩:=ZU j a vs o B d1 N A hN;obtain ⟨r,N2,J,e2,L,M,O⟩:=ZU j b d1.vs d1.o d1.B d2 F z f;refine ⟨u++r,N2,K++J,by rw [e1,e2,b0],?_,M,P.append O⟩;rw [dA];exact ⟨_,_,F,K,J,d1.o,c,L,rfl,rfl⟩
   .cases h
  .cases h
 | .l t,vs,o,B,d,N,h,hN=>by
  unfold Ar at h;split at h
  .rename_i v us;split at h
   .rename_i y;split at h
    next q g=>cases h;obtain ⟨a,f,e1,c⟩:=Zj j g;refine ⟨[v],N++[a],_,rfl,⟨a,by simp only [AV.ar];rw [e1],rfl,.inl ⟨rfl,rfl⟩⟩,hN.append (.cons f .nil),.cons ⟨rfl,c⟩ .nil⟩
    .cases h
   .rename_i e y;split at h
    next q g=>cases h;obtain ⟨a,f,e1,m,c⟩:=aaP j g;refine ⟨[v],N++[a],_,rfl,⟨a,by simp only [AV.ar];rw [e1],rfl,.inr ⟨e,rfl,rfl,m⟩⟩,hN.append (.cons f .nil),.cons ⟨rfl,c⟩ .nil⟩
    .cases h
   .cases h
  .cases h
 | .ex,vs,o,B,d,N,h,hN=>by
  unfold Ar at h;split at h
  .rename_i E D C v us;split at h
   .rename_i y;split at h
    next q g=>cases h;obtain ⟨a,f,e1,c⟩:=Zj j g;refine ⟨[.int .i64 E,.int .i64 D,.int .i64 C,v],N++[a],_,rfl,⟨a,by simp only [AV.ar,AV.val];rw [e1];rfl,rfl,.inl ⟨rfl,rfl⟩⟩,hN.append (.cons f .nil),.cons ⟨rfl,c⟩ .nil⟩
    .cases h
   .rename_i e y;split at h
    next q g=>cases h;obtain ⟨a,f,e1,m,c⟩:=aaP j g;refine ⟨[.int .i64 E,.int .i64 D,.int .i64 C,v],N++[a],_,rfl,⟨a,by simp only [AV.ar,AV.val];rw [e1];rfl,rfl,.inr ⟨e,rfl,rfl,m⟩⟩,hN.append (.cons f .nil),.cons ⟨rfl,c⟩ .nil⟩
    .cases h
   .cases h
  .cases h
abbrev eA(ρ:aB)(X:List (Nat×List AV)):kr:=X.map λx=>(x.1,AV.ar ρ x.2)
abbrev fX(ρ:aB)(fx:ix):Fx:=fx.map λq=>(q.1.val ρ,AV.ar ρ q.2)
theorem ajP{fx:ix}:fxC (fX ρ fx)=AV.ar ρ (Kp fx):=by
 cases fx with
 |none=>simp [fxC,Kp,AV.ar]
 |some q=>rfl
theorem Qp{p:Pt}{a:List AV}:fx1 p (AV.ar ρ a)=fX ρ (oT p a):=by
 cases a with
 |nil=>rfl
 |cons u us=>
  unfold fx1 oT;simp only [AV.ar];cases PZ p <;> simp [aC,AV.ar]
theorem agI{b:Bool}{x:List AV}:AV.ar ρ (aC b x [])=aC b (AV.ar ρ x) []:=by
 cases b
 .show AV.ar ρ []=[];simp only [AV.ar]
 .rfl
theorem XN{fx:ix}:(fX ρ fx).isSome=fx.isSome:=by cases fx <;> rfl
theorem vY{fx:ix}{v:AV}(h:∀q,fx=some q->q.1.val ρ=v.val ρ):xt (fX ρ fx) (v.val ρ):=by
 intro p hp;cases fx with
 |none=>cases hp
 |some q=>cases hp;exact (h q rfl).symm
theorem abj(a:Sat (ab ρ T G++(ab ρ T H++Φ)) w){p:Pt}{v:AV}:(aC (afH p) v (va G H v)).val ρ=v.val ρ:=by
 cases afH p
 .exact VZ a
 .rfl
theorem aa9{l:List AV}:(AV.ar ρ l).head? =l.head?.map (AV.val ρ):=by cases l <;> simp [AV.ar]
theorem GZ{l:List AV}:(AV.ar ρ l).tail=AV.ar ρ l.tail:=by cases l <;> simp [AV.ar]
mutual
theorem Ll(J:Sat (ab ρ T G++(ab ρ T H++Φ)) w):(p:Pt)->(v:AV)->(fx:ix)->(y:Option AV)->(B:zh)->(r:MR)->(N:List Nm)->mt G H p v fx y B=some r->NB ρ B N->(∀q,fx=some q->q.1.val ρ=v.val ρ)->
  ∃N' I,Sem p (v.val ρ) (fX ρ fx) (y.map (AV.val ρ)) N r.D I (eA ρ r.X) N'/\NB ρ r.B N'/\fO (SI ρ T G H) r.S I
 | .int k,v,fx,y,B,r,N,h,hN,hf=>by
  unfold mt at h;split at h
  next k' x=>obtain ⟨g,i⟩:=aI h;have:=iI g;subst this;cases i;exact ⟨N,[],⟨x,by simp only [AV.val],rfl,rfl,rfl,rfl⟩,hN,.nil⟩
  .cases h
 | .bool,v,fx,y,B,r,N,h,hN,hf=>by
  unfold mt at h;split at h
  next x=>cases h;exact ⟨N,[],⟨x,by simp only [AV.val],rfl,rfl,rfl,rfl⟩,hN,.nil⟩
  .cases h
 | .str,v,fx,y,B,r,N,h,hN,hf=>by
  unfold mt at h;split at h
  next x=>cases h;exact ⟨N,[],⟨x,by simp only [AV.val],rfl,rfl,rfl,rfl⟩,hN,.nil⟩
  .cases h
 | .sli t,v,fx,y,B,r,N,h,hN,hf=>by
  unfold mt at h;split at h
  next q F=>cases h;obtain ⟨a,C,e1,A⟩:=Zj J F;exact ⟨N++[a],_,⟨a,q.2.2,e1,rfl,rfl,rfl,rfl⟩,hN.append (.cons C .nil),.cons ⟨rfl,A⟩ .nil⟩
  .cases h
 | .own t e m,v,fx,y,B,r,N,h,hN,hf=>by
  unfold mt at h;split at h
  next q F=>cases h;obtain ⟨a,C,e1,y1,A⟩:=aaP J F;exact ⟨N++[a],_,⟨a,q.2.2,e1,vY hf,rfl,rfl,rfl,rfl,y1⟩,hN.append (.cons C .nil),.cons ⟨rfl,A⟩ .nil⟩
  .cases h
 | .slr n,v,fx,y,B,r,N,h,hN,hf=>by
  unfold mt at h;split at h
  next j=>obtain ⟨g,i⟩:=aI h;cases i;obtain ⟨a,z,L,a3⟩:=hN.at_ g;exact ⟨N,[],⟨a,z,by simp only [AV.val];rw [a3],rfl,rfl,rfl,rfl⟩,hN,.nil⟩
  .cases h
 | .bx t off m vs,v,fx,y,B,r,N,h,hN,hf=>by
  unfold mt at h;split at h
  .rename_i j O;obtain ⟨g,i⟩:=aI h;have e1:=ai g;subst e1;split at i
   .rename_i s E t' cs K;obtain ⟨h3,h4⟩:=aI i;have e2:=ai h3;subst e2;split at h4
    next q F=>cases h4;obtain ⟨Q,P⟩:=ck K;have:E=j:=ai P;subst this;obtain ⟨N',I,A,C,z⟩:=BA J vs cs [] (Kp fx) (B++[some E]) q (N++[ρ E]) F (.inl rfl) (hN.append (.cons ⟨rfl,rfl,rfl⟩ .nil));refine ⟨N',_,⟨ρ E,AV.ar ρ cs,I,eA ρ q.X,by simp only [AV.val],vY hf,by rw [ajP];simpa only [AV.ar] using A,rfl,?_⟩,C,.cons ⟨rfl,.inr ⟨_,Q,cd.refl,(λh=>by cases h),λ_=>cd.refl⟩⟩ z⟩;rw [<-hN.length];cases m <;> simp [eA]
    .cases h4
   .cases i
  .cases h
 | .ptr n off,v,fx,y,B,r,N,h,hN,hf=>by
  unfold mt at h;split at h
  next j O=>obtain ⟨g,i⟩:=aI h;simp only [ah] at g;cases i;have e1:=ai g.1;subst e1;obtain ⟨a,z,L,a3⟩:=hN.at_ g.2;exact ⟨N,[],⟨a,z,by simp only [AV.val];rw [L],rfl,rfl,rfl,rfl⟩,hN,.nil⟩
  .cases h
 | .mp k u m,v,fx,y,B,r,N,h,hN,hf=>by
  unfold mt at h;split at h
  .rename_i j;split at h
   .rename_i s E k' u' d K;split at h
    next d' Z=>cases h;have:=cn.QH Z;cases this;obtain ⟨Q,P⟩:=ck K;have:E=j:=ai P;subst this;exact ⟨N++[ρ E],_,⟨ρ E,d',by simp only [AV.val],vY hf,rfl,rfl,rfl,rfl⟩,hN.append (.cons ⟨rfl,rfl,rfl⟩ .nil),.cons ⟨rfl,.inr ⟨_,Q,cd.refl,(λh=>by cases h),λ_=>cd.refl⟩⟩ .nil⟩
    .cases h
   .cases h
  .cases h;exact ⟨N++[df],_,⟨df,none,by simp only [AV.val];rfl,vY hf,rfl,rfl,rfl,rfl⟩,hN.append (.cons ⟨rfl,rfl,rfl⟩ .nil),.cons ⟨rfl,.inl ⟨rfl,λM w=>rE.nil,λr h=>h⟩⟩ .nil⟩
  .cases h
 | .it,v,fx,y,B,r,N,h,hN,hf=>by
  unfold mt at h;split at h
  .rename_i j;split at h
   next s E x p K=>cases h;obtain ⟨Q,P⟩:=ck K;have:E=j:=ai P;subst this;exact ⟨N++[ρ E],_,⟨ρ E,x,p,by simp only [AV.val],vY hf,rfl,rfl,rfl,rfl⟩,hN.append (.cons ⟨rfl,rfl,rfl⟩ .nil),.cons ⟨rfl,.inr ⟨_,Q,cd.refl,(λh=>by cases h),λ_=>cd.refl⟩⟩ .nil⟩
   .cases h
  .cases h
 | .agg l,v,fx,y,B,r,N,h,hN,hf=>by
  unfold mt at h;split at h
  next vs=>obtain ⟨_,h⟩:=aI h;obtain ⟨N',I,A,C,z⟩:=BA J l vs (aC fx.isSome vs []) [] B r N h (by cases fx <;> first|exact .inl rfl|exact .inr rfl) hN;exact ⟨N',I,⟨AV.ar ρ vs,by simp only [AV.val],vY hf,by rw [XN,<-agI];simpa only [AV.ar] using A⟩,C,z⟩
  .cases h
 | .cB l,v,fx,y,B,r,N,h,hN,hf=>by
  unfold mt at h;split at h
  next vs=>obtain ⟨N',I,A,C,z⟩:=BA J l vs [] [] B r N h (.inl rfl) hN;exact ⟨N',I,⟨AV.ar ρ vs,by simp only [AV.val],by simpa only [AV.ar] using A⟩,C,z⟩
  .cases h
 | .fn f a b,v,fx,y,B,r,N,h,hN,hf=>by
  unfold mt at h;split at h
  .rename_i f' a' b';obtain ⟨g,i⟩:=aI h;simp only [ah] at g;have e1:=ai g.1;subst e1;split at i
   .rename_i R W;split at i
    next U V=>cases i;obtain ⟨N1,I1,A,C,z⟩:=BA J a a' [] [] B R N W (.inl rfl) hN;obtain ⟨N2,I2,s2,n2,L⟩:=BA J b b' (aC fx.isSome b' []) [] R.B U N1 V (by cases fx <;> first|exact .inl rfl|exact .inr rfl) C;exact ⟨N2,I1++I2,⟨AV.ar ρ a',AV.ar ρ b',R.D,U.D,I1,I2,eA ρ R.X,eA ρ U.X,N1,by simp only [AV.val],vY hf,by simpa only [AV.ar] using A,by rw [XN,<-agI];simpa only [AV.ar] using s2,rfl,rfl,by simp [eA]⟩,n2,z.append L⟩
    .cases i
   .cases i
  .cases h
 | .ifc t p,v,fx,y,B,r,N,h,hN,hf=>by
  unfold mt at h;split at h
  .rename_i t' u;obtain ⟨g,i⟩:=aI h;simp only [ah] at g;have e1:=ai g.1;subst e1;obtain ⟨N',I,A,C,z⟩:=Ll J p u (oT p (aC fx.isSome [u] [])) none B r N i hN (λq F=>by
    cases fx with
    |none=>cases F
    |some f=>
     have F:aC (PZ p) none (some (u,[]))=some q:=F;obtain ⟨_,h3⟩:=QL F;cases h3;rfl)
   refine ⟨N',I,⟨u.val ρ,by simp only [AV.val],vY hf,?_⟩,C,z⟩;have e2:(aC (fX ρ fx).isSome [u.val ρ] []:zq)=AV.ar ρ (aC fx.isSome [u] []):=by
    cases fx
    .show ([]:zq)=AV.ar ρ [];simp only [AV.ar]
    .show [u.val ρ]=AV.ar ρ [u];simp only [AV.ar]
   rw [e2,Qp];exact A
  .cases h
 | .kB c,v,fx,y,B,r,N,h,hN,hf=>by
  unfold mt at h;obtain ⟨g,i⟩:=aI h;cases i;exact ⟨N,[],⟨⟨AV.LK c v g,λρ'=>(AV.LK (ρ':=ρ) (ρ:=ρ') c v g).symm.trans (AV.LK c v g)⟩,rfl,rfl,rfl,rfl⟩,hN,.nil⟩
 | .dat t o,v,fx,y,B,r,N,h,hN,hf=>by
  unfold mt at h;split at h
  .rename_i cs;split at h
   next x o' B' S Z=>cases h;obtain ⟨us,N',I,e1,A,C,z⟩:=ZU J t cs o B _ N Z hN;simp only [hV] at e1;subst e1;exact ⟨N',I,⟨_,x,o',by simp only [AV.val],rfl,A,rfl⟩,C,z⟩
   .cases h
  .cases h
 | .ifn,v,fx,y,B,r,N,h,hN,hf=>by
  unfold mt at h;split at h
  next t=>cases h;exact ⟨N,[],⟨t,by simp only [AV.val,AV.ar],rfl,rfl,rfl,rfl⟩,hN,.nil⟩
  .cases h
 | .sfp,v,fx,y,B,r,N,h,hN,hf=>by
  have Y:=hN.length;unfold mt at h;split at h
  .split at h
   next o ho=>cases h;obtain ⟨a,g,_⟩:=hN.get ho;exact ⟨N,[],⟨a,false,by rw [<-Y];exact g,by simp only [AV.val,Dd,aZ],rfl,rfl,rfl,rfl⟩,hN,.nil⟩
   .cases h
  next j f=>obtain ⟨g,i⟩:=aI h;cases i;obtain ⟨a,z,L,_⟩:=hN.at_ g;exact ⟨N,[],⟨a,f,by rw [<-Y];exact z,by simp only [AV.val];rw [L],rfl,rfl,rfl,rfl⟩,hN,.nil⟩
  next j=>obtain ⟨g,i⟩:=aI h;cases i;obtain ⟨a,z,L,_⟩:=hN.at_ g;exact ⟨N,[],⟨a,true,by rw [<-Y];exact z,by simp only [AV.val,Dd,cr];rw [L],rfl,rfl,rfl,rfl⟩,hN,.nil⟩
  .cases h
 | .sty p,v,fx,y,B,r,N,h,hN,hf=>by
  unfold mt at h;split at h
  .cases h
  .split at h
   .rename_i u;obtain ⟨g,i⟩:=aI h;simp only [ah,gj] at g;have e1:=atd g.1;have e2:u.val ρ=v.val ρ:=by rw [<-e1];exact (VZ J).symm
    obtain ⟨N',I,A,C,z⟩:=Ll J p v (some (v,[])) none B r N i hN (λq F=>by cases F;rfl);refine ⟨N',I,⟨rfl,by show some (u.val ρ)=some (v.val ρ);rw [e2],g.2,?_⟩,C,z⟩;have e3:fX ρ (some (v,[]))=some (v.val ρ,[]):=by simp [AV.ar]
    rw [e3] at A;exact A
   .cases h
 | .same,v,fx,y,B,r,N,h,hN,hf=>by
  unfold mt at h;obtain ⟨g,i⟩:=aI h;cases i;refine ⟨N,[],⟨?_,rfl,rfl,rfl,rfl⟩,hN,.nil⟩;unfold nvs at g;split at g
  next q=>exact .inl ⟨_,rfl,(hf q rfl).symm⟩
  .split at g
   .split at g
    next u u'=>rw [ai g];exact .inr ⟨rfl,rfl⟩
    .cases g
   .cases g
theorem BA(d:Sat (ab ρ T G++(ab ρ T H++Φ)) w):(l:List Pt)->(vs:List AV)->(a:List AV)->(b:List AV)->(B:zh)->(r:MR)->(N:List Nm)->JA G H l vs a b B=some r->(a=[]\/a=vs)->NB ρ B N->
  ∃N' I,xA l (AV.ar ρ vs) (AV.ar ρ a) (AV.ar ρ b) N r.D I (eA ρ r.X) N'/\NB ρ r.B N'/\fO (SI ρ T G H) r.S I
 |[],vs,a,b,B,r,N,h,hfx,hN=>by
  unfold JA at h;split at h
  .cases h;exact ⟨N,[],⟨by simp only [AV.ar],rfl,rfl,rfl,rfl⟩,hN,.nil⟩
  .cases h
 |p::l,vs,a,b,B,r,N,h,hfx,hN=>by
  unfold JA at h;split at h
  .rename_i v us;split at h
   .rename_i c i;split at h
    .rename_i f g;cases h;obtain ⟨k,n,j,t,y⟩:=Ll d p _ (oT p a) b.head? B c N i hN (λq e=>by
      rcases hfx with rfl|rfl
      .cases e
      .unfold oT at e;dsimp only at e;obtain ⟨_,u⟩:=QL e;cases u;exact (abj d).symm)
     obtain ⟨N2,m,o,s,x⟩:=BA d l us a.tail b.tail c.B f k g (by rcases hfx with rfl|rfl <;> first|exact .inl rfl|exact .inr rfl) t;rw [abj d] at j;refine ⟨N2,n++m,⟨v.val ρ,AV.ar ρ us,c.D,f.D,n,m,eA ρ c.X,eA ρ f.X,k,by simp only [AV.ar],by rw [aa9,Qp];exact j,by rw [GZ,GZ];exact o,rfl,rfl,by simp [eA]⟩,s,y.append x⟩
    .cases h
   .cases h
  .cases h
end
theorem YM(n:Sat (ab ρ T G++(ab ρ T H++Φ)) w){C:Nat->Option AV}{fix:Nat->ix}:(l:List (Bool×Nat×Pt))->(B:zh)->(r:MR)->(N:List Nm)->mtV G H C fix l B=some r->NB ρ B N->
  ∃N' I,HZ (λi=>fX ρ (fix i)) (λi=>(C i).map (AV.val ρ)) l N r.D I (eA ρ r.X) N'/\NB ρ r.B N'/\fO (SI ρ T G H) r.S I
 |[],B,r,N,h,hN=>by
  unfold mtV at h;cases h;exact ⟨N,[],⟨rfl,rfl,rfl,rfl⟩,hN,.nil⟩
 |(b,t,p)::l,B,r,N,h,hN=>by
  unfold mtV at h;split at h
  .rename_i v e;split at h
   .rename_i d a;split at h
    .rename_i f g;cases h;cases b
     .simp only at e a;obtain ⟨j,m,s,x,A⟩:=Ll n p v none none B d N a hN (λq y=>by cases y);obtain ⟨N2,k,o,u,z⟩:=YM n l d.B f j g x;exact ⟨N2,m++k,⟨v.val ρ,d.D,f.D,m,k,eA ρ d.X,eA ρ f.X,j,by simp only [e,mj],s,o,rfl,rfl,by simp [eA]⟩,u,A.append z⟩
     .simp only at e a;cases c:fix t with
      |none=>rw [c] at e;cases e
      |some q=>
       rw [c] at e a;cases e;obtain ⟨j,m,s,x,A⟩:=Ll n p q.1 (some q) none B d N a hN (λq' y=>by cases y;rfl);obtain ⟨N2,k,o,u,z⟩:=YM n l d.B f j g x;exact ⟨N2,m++k,⟨q.1.val ρ,d.D,f.D,m,k,eA ρ d.X,eA ρ f.X,j,by simp only [c];rfl,by simp only [c];exact s,o,rfl,rfl,by simp [eA]⟩,u,A.append z⟩
    .cases h
   .cases h
  .cases h
end
variable {A N : List Nm} {a : Nm} {fx : ix}
structure FR where
 v:AV
 R:List (Bool×Row)
 k:Nat
 D:List cn
 X:List (Nat×List AV)
structure FRs where
 vs:List AV
 R:List (Bool×Row)
 k:Nat
 D:List cn
 X:List (Nat×List AV)
def gV(t:Ty)(D:List cn):t.T:=match D with
 |d::_=>(d.as t).getD t.sD
 |[]=>t.sD
theorem sd{t:Ty}{x:t.T}{D:List cn}:gV t (⟨t,x⟩::D)=x:=by simp [gV,cn.atb]
theorem at1{k:IntKind}{x:Int}{D:List cn}:gV (.i k) (⟨.i k,x⟩::D)=x:=sd (t:= .i k)
theorem auv{x:Bool}{D:List cn}:gV .bo (⟨.bo,x⟩::D)=x:=sd (t:= .bo)
theorem anx{x:aS}{D:List cn}:gV .s (⟨.s,x⟩::D)=x:=sd (t:= .s)
theorem anK{x:Nat}{D:List cn}:gV .n (⟨.n,x⟩::D)=x:=sd (t:= .n)
theorem amQ{t:Ty}{x:List t.T}{D:List cn}:gV (.l t) (⟨.l t,x⟩::D)=x:=sd (t:= .l t)
theorem asn{k v:Ty}{x:Option (List (k.T×v.T))}{D:List cn}:gV (.mp k v) (⟨.mp k v,x⟩::D)=x:=sd (t:= .mp k v)
structure LR where
 vs:List AV
 R:List (Bool×Row)
 k:Nat
 o:zf
def ir(nm:Nat->Nat):(t:Ty)->t.T->Nat->zf->LR
 | .i k,x,n,o=>⟨[.int k x],[],n,o⟩
 | .bo,x,n,o=>⟨[.bool x],[],n,o⟩
 | .s,x,n,o=>⟨[.str x],[],n,o⟩
 | .un,_,n,o=>⟨[],[],n,o⟩
 | .p a b,x,n,o=>match ir nm a x.1 n o with
  |⟨u,p,n,o⟩=>match ir nm b x.2 n o with
   |⟨v,q,n,o⟩=>⟨u++v,p++q,n,o⟩
 | .l t,x,n,o=>match o with
  |none::o=>⟨[.sl (nm n)],[(false,.sli none (nm n) t x false)],n+1,o⟩
  |some e::o=>⟨[.sl (nm n)],[(ow e,.own (nm n) t (oe e) x (nm n))],n+1,o⟩
  |[]=>⟨[],[],n,[]⟩
 | .ex,x,n,o=>match o with
  |none::o=>⟨[.int .i64 x.op,.int .i64 x.n,.int .i64 x.at_,.sl (nm n)],[(false,.sli none (nm n) .ex x.l false)],n+1,o⟩
  |some e::o=>⟨[.int .i64 x.op,.int .i64 x.n,.int .i64 x.at_,.sl (nm n)],[(ow e,.own (nm n) .ex (oe e) x.l (nm n))],n+1,o⟩
  |[]=>⟨[],[],n,[]⟩
 |_,_,n,o=>⟨[],[],n,o⟩
def nmS(nm:Nat->Nat)(fx:ix)(n:Nat):Nat:=match fx with
 |some (.sl j,_)=>j
 |_=>nm n
def I0(nm:Nat->Nat)(fx:ix)(n:Nat):Nat:=match fx with
 |some (.ptr j _,_)=>j
 |_=>nm n
def nmM(nm:Nat->Nat)(fx:ix)(n:Nat):Nat:=match fx with
 |some (.mp j,_)=>j
 |_=>nm n
def arV(fx:ix)(sm:Option AV):AV:=match fx with
 |some p=>p.1
 |none=>match sm with
  |some x=>x
  |none=> .bool false
def reS(id:Nat):List Pt->List AV->List AV
 | .sfp::_,.sfp _ f::us=> .sfp id f::us
 |_,us=>us
mutual
def fill(nm:Nat->Nat):Pt->ix->Option AV->Nat->List cn->FR
 | .int k,_,_,n,D=>⟨.int k (gV (.i k) D),[],n,D.tail,[]⟩
 | .bool,_,_,n,D=>⟨.bool (gV .bo D),[],n,D.tail,[]⟩
 | .str,_,_,n,D=>⟨.str (gV .s D),[],n,D.tail,[]⟩
 | .sli t,_,_,n,D=>⟨.sl (nm n),[(false,.sli none (nm n) t (gV (.l t) D) false)],n+1,D.tail,[]⟩
 | .own t e m,fx,_,n,D=>⟨.sl (nmS nm fx n),[(m,.own (nmS nm fx n) t e (gV (.l t) D) (nm n))],n+1,D.tail,[]⟩
 | .slr k,_,_,n,D=>⟨.sl (nm k),[],n,D,[]⟩
 | .bx t off m vs,fx,_,n,D=>match eX nm vs [] (Kp fx) (n+1) D with
  |⟨cs,R,k,D,X⟩=>⟨.ptr (I0 nm fx n) off,(m,.box (I0 nm fx n) t (reS (I0 nm fx n) vs cs))::R,k,D,(aC m [(n,reS (I0 nm fx n) vs cs)] [])++X⟩
 | .ptr k off,_,_,n,D=>⟨.ptr (nm k) off,[],n,D,[]⟩
 | .mp k v m,fx,_,n,D=>⟨.mp (nmM nm fx n),[(m,.mp (nmM nm fx n) k v (gV (.mp k v) D))],n+1,D.tail,[]⟩
 | .it,fx,_,n,D=>⟨.ptr (I0 nm fx n) 0,[(true,.it (I0 nm fx n) (gV .s D) (gV .n D.tail))],n+1,D.tail.tail,[]⟩
 | .agg l,fx,_,n,D=>match eX nm l (ik fx) [] n D with
  |⟨cs,R,k,D,X⟩=>⟨.agg cs,R,k,D,X⟩
 | .cB l,_,_,n,D=>match eX nm l [] [] n D with
  |⟨cs,R,k,D,X⟩=>⟨.tuple cs,R,k,D,X⟩
 | .fn f a b,fx,_,n,D=>match eX nm a [] [] n D with
  |⟨cs,R,k,D,X⟩=>match eX nm b (ik fx) [] k D with
   |⟨cs',R',k,D,X'⟩=>⟨.fn f cs cs',R++R',k,D,X++X'⟩
 | .ifc t p,fx,_,n,D=>match fill nm p (oT p (ik fx)) none n D with
  |⟨v,R,k,D,X⟩=>⟨.ifc t v,R,k,D,X⟩
 | .kB v,_,_,n,D=>⟨v,[],n,D,[]⟩
 | .dat t o,_,_,n,D=>match ir nm t (gV t D) n o with
  |⟨cs,R,k,_⟩=>⟨.agg cs,R,k,D.tail,[]⟩
 | .ifn,_,_,n,D=>⟨.ifc (gV .n D) (.agg []),[],n,D.tail,[]⟩
 | .sfp,_,_,n,D=>⟨.sfp (nm (n-1)) (gV .bo D),[],n,D.tail,[]⟩
 | .sty p,_,sm,n,D=>fill nm p (sm.map λu=>(u,[])) none n D
 | .same,fx,sm,n,D=>⟨arV fx sm,[],n,D,[]⟩
def eX(nm:Nat->Nat):List Pt->List AV->List AV->Nat->List cn->FRs
 |[],_,_,n,D=>⟨[],[],n,D,[]⟩
 |p::l,fxs,sms,n,D=>match fill nm p (oT p fxs) sms.head? n D with
  |⟨v,R,k,D,X⟩=>match eX nm l fxs.tail sms.tail k D with
   |⟨vs,R',k,D,X'⟩=>⟨v::vs,R++R',k,D,X++X'⟩
end
structure FV where
 E:aG
 R:List (Bool×Row)
 k:Nat
 D:List cn
def fZ(nm:Nat->Nat)(fix:Nat->ix):List (Bool×Nat×Pt)->Nat->List cn->FV
 |[],n,D=>⟨[],[],n,D⟩
 |x::l,n,D=>match fill nm x.2.2 (aC x.1 (fix x.2.1) none) none n D with
  |⟨v,R,k,D,_⟩=>match fZ nm fix l k D with
   |⟨E,R',k,D⟩=>⟨aC x.1 E ((x.2.1,none,v)::E),R++R',k,D⟩
def xD(N N':List Nm):Prop:= ∃E,N'=N++E
theorem xD.refl:xD N N:=⟨[],by simp⟩
theorem xD.trans{B C:List Nm}(h:xD A B)(k:xD B C):xD A C:=by obtain ⟨E,rfl⟩:=h;obtain ⟨F,rfl⟩:=k;exact ⟨E++F,by simp⟩
theorem xD.one:xD N (N++[a]):=⟨[a],rfl⟩
theorem xD.len{B:List Nm}(h:xD A B):A.length<=B.length:=by obtain ⟨E,rfl⟩:=h;simp
theorem xD.at_{B:List Nm}(h:xD A B){i:Nat}{a:Nm}(b:A[i]? =some a):B[i]? =some a:=by obtain ⟨E,rfl⟩:=h;rw [cy (List.getElem?_eq_some_iff.1 b).1];exact b
theorem Ec:(t:Ty)->(x:t.T)->(cs:zq)->(o:zf)->(N:List Nm)->(I:fJ)->(N':List Nm)->(c:zf)->VB t x cs o N I N' c->xD N N'
 | .i _,_,_,_,_,_,_,_,h|.bo,_,_,_,_,_,_,_,h|.s,_,_,_,_,_,_,_,h|.un,_,_,_,_,_,_,_,h=>by obtain ⟨_,_,rfl,_⟩:=h;exact .refl
 | .n,_,_,_,_,_,_,_,h|.mp _ _,_,_,_,_,_,_,_,h=>h.elim
 | .p a b,x,cs,o,N,I,N',c,h=>by
  obtain ⟨c1,g,j,m,k,f,e,d,_⟩:=h;exact (Ec a _ _ _ _ _ _ _ e).trans (Ec b _ _ _ _ _ _ _ d)
 | .l t,x,cs,o,N,I,N',c,h=>by obtain ⟨a,_,rfl,_⟩:=h;exact .one
 | .ex,x,cs,o,N,I,N',c,h=>by obtain ⟨a,_,rfl,_⟩:=h;exact .one
mutual
theorem wI:(p:Pt)->(v:Value)->(fx:Fx)->(g:Option Value)->(N:List Nm)->(D:List cn)->(I:fJ)->(X:kr)->(N':List Nm)->Sem p v fx g N D I X N'->xD N N'
 | .int _,v,fx,g,N,D,I,X,N',h|.bool,v,fx,g,N,D,I,X,N',h|.str,v,fx,g,N,D,I,X,N',h=>by obtain ⟨_,_,_,_,_,rfl⟩:=h;exact .refl
 | .sli t,v,fx,g,N,D,I,X,N',h=>by obtain ⟨a,l,_,_,_,_,rfl⟩:=h;exact .one
 | .own t e m,v,fx,g,N,D,I,X,N',h=>by obtain ⟨a,l,_,_,_,_,_,rfl,_⟩:=h;exact .one
 | .slr n,v,fx,g,N,D,I,X,N',h|.ptr n _,v,fx,g,N,D,I,X,N',h=>by obtain ⟨a,_,_,_,_,_,rfl⟩:=h;exact .refl
 | .bx t off m vs,v,fx,g,N,D,I,X,N',h=>by
  obtain ⟨a,cs,C,y,_,_,i,_⟩:=h;exact xD.one.trans (nz vs _ _ _ _ _ _ _ _ i)
 | .mp k u m,v,fx,g,N,D,I,X,N',h=>by obtain ⟨a,d,_,_,_,_,_,rfl⟩:=h;exact .one
 | .it,v,fx,g,N,D,I,X,N',h=>by obtain ⟨a,s,p,_,_,_,_,_,rfl⟩:=h;exact .one
 | .agg l,v,fx,g,N,D,I,X,N',h=>by obtain ⟨cs,_,_,i⟩:=h;exact nz l _ _ _ _ _ _ _ _ i
 | .cB l,v,fx,g,N,D,I,X,N',h=>by obtain ⟨cs,_,i⟩:=h;exact nz l _ _ _ _ _ _ _ _ i
 | .fn f a b,v,fx,g,N,D,I,X,N',h=>by
  obtain ⟨us,vs,F,E,B,A,w,r,z,_,_,i,j,_⟩:=h;exact (nz a _ _ _ _ _ _ _ _ i).trans (nz b _ _ _ _ _ _ _ _ j)
 | .ifc t p,v,fx,g,N,D,I,X,N',h=>by obtain ⟨u,_,_,i⟩:=h;exact wI p _ _ _ _ _ _ _ _ i
 | .kB c,v,fx,g,N,D,I,X,N',h=>by obtain ⟨_,_,_,_,rfl⟩:=h;exact .refl
 | .dat t o,v,fx,g,N,D,I,X,N',h=>by obtain ⟨cs,x,q,_,_,i,_⟩:=h;exact Ec t _ _ _ _ _ _ _ i
 | .ifn,v,fx,g,N,D,I,X,N',h=>by obtain ⟨_,_,_,_,_,rfl⟩:=h;exact .refl
 | .sfp,v,fx,g,N,D,I,X,N',h=>by obtain ⟨_,_,_,_,_,_,_,rfl⟩:=h;exact .refl
 | .sty p,v,fx,g,N,D,I,X,N',h=>by obtain ⟨_,_,_,i⟩:=h;exact wI p _ _ _ _ _ _ _ _ i
 | .same,v,fx,g,N,D,I,X,N',h=>by obtain ⟨_,_,_,_,rfl⟩:=h;exact .refl
theorem nz:(l:List Pt)->(vs:zq)->(b:zq)->(a:zq)->(N:List Nm)->(D:List cn)->(I:fJ)->(X:kr)->(N':List Nm)->xA l vs b a N D I X N'->xD N N'
 |[],vs,b,a,N,D,I,X,N',h=>by obtain ⟨_,_,_,_,rfl⟩:=h;exact .refl
 |p::l,vs,b,a,N,D,I,X,N',h=>by obtain ⟨v,c,n,m,k,j,g,f,i,_,e,d,_⟩:=h;exact (wI p _ _ _ _ _ _ _ _ e).trans (nz l _ _ _ _ _ _ _ _ d)
end
theorem UJ{fix:Nat->Fx}{val:Nat->Option Value}:(l:List (Bool×Nat×Pt))->(N:List Nm)->(D:List cn)->(I:fJ)->(X:kr)->(N':List Nm)->HZ fix val l N D I X N'->xD N N'
 |[],N,D,I,X,N',h=>by obtain ⟨_,_,_,rfl⟩:=h;exact .refl
 |x::l,N,D,I,X,N',h=>by obtain ⟨v,j,i,g,f,d,c,e,_,b,a,_⟩:=h;exact (wI _ _ _ _ _ _ _ _ _ b).trans (UJ l _ _ _ _ _ a)
def RwI(ρ:aB)(T:aD)(a:Bool×Row)(b:Bool×Item):Prop:=a.1=b.1/\cd b.2 (a.2.item ρ T)/\cd (a.2.item ρ T) b.2
section
variable {ρ : aB} {T : aD} {nm : Nat -> Nat} {n0 : Nat}
theorem asu{id:Nat}{vs:List Pt}{us:List AV}{cs d:zq}{N':List Nm}{D:List cn}{I:fJ}{X:kr}(h:xA vs cs [] d (N++[a]) D I X N')(m:(ρ id).b=a.b)(c:AV.ar ρ us=cs):AV.ar ρ (reS id vs us)=cs:=by
 unfold reS;split
 .rename_i l j f i;obtain ⟨v,g,y,x,w,u,s,r,t,rfl,o,_⟩:=h;obtain ⟨q,p,k,rfl,_⟩:=o;have e:q=a:=by simpa using k.symm
  subst e;simp only [AV.ar,AV.val,nI] at c ⊢;refine ⟨?_,c.2⟩;rw [m];have n:=c.1;cases f <;> cases p <;> simp [Dd] at n ⊢
 .exact c
def xY(ρ:aB)(nm:Nat->Nat)(n0:Nat)(N:List Nm):Prop:= ∀i a,N[i]? =some a->(ρ (nm i)).b=a.b/\(ρ (nm i)).v=a.v/\(ρ (nm i)).m=a.m/\(n0<=i->(ρ (nm i)).y=a.y)
theorem xY.pre{B:List Nm}(h:xY ρ nm n0 B)(k:xD A B):xY ρ nm n0 A:=λi a b=>h i a (k.at_ b)
theorem xY.last(h:xY ρ nm n0 (A++[a])):(ρ (nm A.length)).b=a.b/\(ρ (nm A.length)).v=a.v/\(ρ (nm A.length)).m=a.m/\(n0<=A.length->(ρ (nm A.length)).y=a.y):=h _ _ (by simp)
theorem ad3{t:Ty}{l:List t.T}{j:Nat}(h:(ρ j).v=a.v):cd (Is true t.rep a.v l false) ((Row.sli none j t l false).item ρ T)/\cd ((Row.sli none j t l false).item ρ T) (Is true t.rep a.v l false):=by simp only [Row.item,h];exact ⟨⟨λ_ h=>h,λM w h _=>h rfl⟩,⟨λ_ h=>h,λM w h _=>h aD.get_none⟩⟩
theorem afo{t:Ty}{e:TypeId}{l:List t.T}{j b:Nat}(h:(ρ j).v=a.v)(c:(ρ b).y=⟨.l t,l⟩):cd (pw t.rep e a.v l True) ((Row.own j t e l b).item ρ T)/\cd ((Row.own j t e l b).item ρ T) (pw t.rep e a.v l True):=by simp only [Row.item,h];exact ⟨⟨λ_ h=>h,λM w h=>⟨h.1,c⟩⟩,⟨λ_ h=>h,λM w h=>⟨h.1,trivial⟩⟩⟩
theorem ZZ:(t:Ty)->(x:t.T)->(cs:zq)->(o:zf)->(N:List Nm)->(I:fJ)->(N':List Nm)->(c:zf)->VB t x cs o N I N' c->xY ρ nm n0 N'->n0<=N.length->
  AV.ar ρ (ir nm t x N.length o).vs=cs/\(ir nm t x N.length o).k=N'.length/\(ir nm t x N.length o).o=c/\fO (RwI ρ T) (ir nm t x N.length o).R I
 | .i k,x,cs,o,N,I,N',c,h,hn,hle=>by
  obtain ⟨rfl,rfl,rfl,rfl⟩:=h;exact ⟨by simp only [ir,AV.ar,AV.val],rfl,rfl,.nil⟩
 | .bo,x,cs,o,N,I,N',c,h,hn,hle=>by
  obtain ⟨rfl,rfl,rfl,rfl⟩:=h;exact ⟨by simp only [ir,AV.ar,AV.val],rfl,rfl,.nil⟩
 | .s,x,cs,o,N,I,N',c,h,hn,hle=>by
  obtain ⟨rfl,rfl,rfl,rfl⟩:=h;exact ⟨by simp only [ir,AV.ar,AV.val],rfl,rfl,.nil⟩
 | .un,x,cs,o,N,I,N',c,h,hn,hle=>by
  obtain ⟨rfl,rfl,rfl,rfl⟩:=h;exact ⟨by simp only [ir,AV.ar],rfl,rfl,.nil⟩
 | .n,x,cs,o,N,I,N',c,h,hn,hle=>h.elim
 | .mp _ _,x,cs,o,N,I,N',c,h,hn,hle=>h.elim
 | .p a b,x,cs,o,N,I,N',c,h,hn,hle=>by
  obtain ⟨c1,G,z,L,K,B,D,C,rfl,rfl⟩:=h;have A:=Ec b _ _ _ _ _ _ _ C;obtain ⟨y,w,v,r⟩:=ZZ a x.1 c1 o N L z B D (hn.pre A) hle;obtain ⟨q,m,j,g⟩:=ZZ b x.2 G B z K N' c C hn (c9 hle (Ec a _ _ _ _ _ _ _ D).len);unfold ir;generalize ir nm a x.1 N.length o=J at y w v r;obtain ⟨u,p,n,F⟩:=J;simp only at y w v r;subst w;subst v;dsimp only;generalize ir nm b x.2 z.length F=H at q m j g;obtain ⟨M,A,O,E⟩:=H;simp only at q m j g;dsimp only;exact ⟨by rw [dA,y,q],m,j,r.append g⟩
 | .l t,x,cs,o,N,I,N',c,h,hn,hle=>by
  obtain ⟨a,rfl,rfl,h⟩:=h;have d:=hn.last;rcases h with ⟨rfl,rfl⟩|⟨e,rfl,rfl,f⟩
  .exact ⟨by simp only [ir,AV.ar,AV.val,d.2.1],by simp [ir],rfl,.cons ⟨rfl,ad3 d.2.1⟩ .nil⟩
  .exact ⟨by simp only [ir,AV.ar,AV.val,d.2.1],by simp [ir],rfl,.cons ⟨rfl,afo d.2.1 (by rw [d.2.2.2 hle];exact f)⟩ .nil⟩
 | .ex,x,cs,o,N,I,N',c,h,hn,hle=>by
  obtain ⟨a,rfl,rfl,h⟩:=h;have d:=hn.last;rcases h with ⟨rfl,rfl⟩|⟨e,rfl,rfl,f⟩
  .exact ⟨by simp only [ir,AV.ar,AV.val,d.2.1],by simp [ir],rfl,.cons ⟨rfl,ad3 (t:= .ex) d.2.1⟩ .nil⟩
  .exact ⟨by simp only [ir,AV.ar,AV.val,d.2.1],by simp [ir],rfl,.cons ⟨rfl,afo (t:= .ex) d.2.1 (by rw [d.2.2.2 hle];exact f)⟩ .nil⟩
theorem at5{p q:gP}(h:sl p=sl q):p=q:=by obtain ⟨a,b,c⟩:=p;obtain ⟨f,e,d⟩:=q;simp only [sl,Value.slice.injEq] at h;rw [h.1,h.2.1,h.2.2]
theorem avc(b:xY ρ nm n0 (N++[a]))(c:xt (fX ρ fx) (sl a.v)):(ρ (nmS nm fx N.length)).v=a.v:=by
 unfold nmS;split
 .have:=c _ rfl;simp only [AV.val] at this;exact (at5 this).symm
 .rw [b.last.2.1]
theorem anr{off:Nat}(c:(ρ (nm N.length)).b=a.b)(d:xt (fX ρ fx) (.pointer (some ⟨a.b,off,none⟩))):(ρ (I0 nm fx N.length)).b=a.b:=by
 unfold I0;split
 .have:=d _ rfl;simp only [AV.val,Value.pointer.injEq,cH,Addr.mk.injEq] at this;exact this.1.symm
 .rw [c]
theorem au6(b:xY ρ nm n0 (N++[a]))(c:xt (fX ρ fx) (.map a.m)):(ρ (nmM nm fx N.length)).m=a.m:=by
 unfold nmM;split
 .have:=c _ rfl;simp only [AV.val,Value.map.injEq] at this;exact this.symm
 .rw [b.last.2.2.1]
theorem Ho(p:Pt):pL p none=true:=by cases p <;> rfl
theorem aeD(p:Pt)(a:List AV):pL p (oT p a)=true:=by
 unfold oT;cases a with
 |nil=>exact Ho p
 |cons u us=>cases p <;> rfl
theorem apv{l:List Pt}{cs:zq}(a:pL (.agg l) fx=true)(b:xt (fX ρ fx) (.agg cs.toArray)):AV.ar ρ (ik fx)=aC (fX ρ fx).isSome cs []:=by
 cases fx with
 |none=>rfl
 |some q=>
  obtain ⟨v,d⟩:=q;cases v <;> first|(cases a;done)|skip;have:=b _ rfl;simp only [AV.val,Value.agg.injEq] at this;show AV.ar ρ (ik (some (_,_)))=cs;simpa [ik] using this.symm
theorem atj{f:FuncId}{a b:List Pt}{us vs:zq}(c:pL (.fn f a b) fx=true)(e:xt (fX ρ fx) (.func (.func f) us.toArray vs.toArray)):AV.ar ρ (ik fx)=aC (fX ρ fx).isSome vs []:=by
 cases fx with
 |none=>rfl
 |some q=>
  obtain ⟨v,d⟩:=q;cases v <;> first|(cases c;done)|skip;have:=e _ rfl;simp only [AV.val,Value.func.injEq] at this;show AV.ar ρ (ik (some (_,_)))=vs;simpa [ik] using this.2.2.symm
theorem apj{t:TypeId}{p:Pt}{u:Value}(a:pL (.ifc t p) fx=true)(b:xt (fX ρ fx) (.iface t u)):AV.ar ρ (ik fx)=aC (fX ρ fx).isSome [u] []:=by
 cases fx with
 |none=>rfl
 |some q=>
  obtain ⟨v,d⟩:=q;cases v <;> first|(cases a;done)|skip;have:=b _ rfl;simp only [AV.val,Value.iface.injEq] at this;show AV.ar ρ (ik (some (_,_)))=[u];simp [ik,AV.ar,this.2]
mutual
theorem Dl:(p:Pt)->(v:Value)->(fx:ix)->(i:Option AV)->(N:List Nm)->(D:List cn)->(I:fJ)->(X:kr)->(N':List Nm)->Sem p v (fX ρ fx) (i.map (AV.val ρ)) N D I X N'->pL p fx=true->xY ρ nm n0 N'->n0<=N.length->(g:List cn)->
  (fill nm p fx i N.length (D++g)).v.val ρ=v/\(fill nm p fx i N.length (D++g)).k=N'.length/\(fill nm p fx i N.length (D++g)).D=g/\X=eA ρ (fill nm p fx i N.length (D++g)).X/\fO (RwI ρ T) (fill nm p fx i N.length (D++g)).R I
 | .int k,v,fx,i,N,D,I,X,N',h,hg,hn,hle,g=>by
  obtain ⟨x,rfl,rfl,rfl,rfl,rfl⟩:=h;exact ⟨by simp only [fill,qF,at1,AV.val],rfl,rfl,rfl,.nil⟩
 | .bool,v,fx,i,N,D,I,X,N',h,hg,hn,hle,g=>by
  obtain ⟨x,rfl,rfl,rfl,rfl,rfl⟩:=h;exact ⟨by simp only [fill,qF,auv,AV.val],rfl,rfl,rfl,.nil⟩
 | .str,v,fx,i,N,D,I,X,N',h,hg,hn,hle,g=>by
  obtain ⟨x,rfl,rfl,rfl,rfl,rfl⟩:=h;exact ⟨by simp only [fill,qF,anx,AV.val],rfl,rfl,rfl,.nil⟩
 | .sli t,v,fx,i,N,D,I,X,N',h,hg,hn,hle,g=>by
  obtain ⟨a,l,rfl,rfl,rfl,rfl,rfl⟩:=h;have J:=hn.last;refine ⟨by simp only [fill,AV.val,J.2.1],by simp [fill],rfl,rfl,.cons ⟨rfl,?_⟩ .nil⟩;show cd _ ((Row.sli none (nm N.length) t (gV (.l t) (⟨.l t,l⟩::g)) false).item ρ T)/\cd ((Row.sli none (nm N.length) t (gV (.l t) (⟨.l t,l⟩::g)) false).item ρ T) _;rw [amQ];exact ad3 J.2.1
 | .own t e m,v,fx,i,N,D,I,X,N',h,hg,hn,hle,g=>by
  obtain ⟨a,l,rfl,C,rfl,rfl,rfl,rfl,hy⟩:=h;have Z:=avc hn C;refine ⟨by simp only [fill,AV.val,Z],by simp [fill],rfl,rfl,.cons ⟨rfl,?_⟩ .nil⟩;show cd _ ((Row.own (nmS nm fx N.length) t e (gV (.l t) (⟨.l t,l⟩::g)) (nm N.length)).item ρ T)/\cd ((Row.own (nmS nm fx N.length) t e (gV (.l t) (⟨.l t,l⟩::g)) (nm N.length)).item ρ T) _;rw [amQ];exact afo Z (by rw [hn.last.2.2.2 hle];exact hy)
 | .slr n,v,fx,i,N,D,I,X,N',h,hg,hn,hle,g=>by
  obtain ⟨a,G,rfl,rfl,rfl,rfl,rfl⟩:=h;exact ⟨by simp only [fill,AV.val,(hn _ _ G).2.1],rfl,rfl,rfl,.nil⟩
 | .bx t off m vs,v,fx,i,N,D,I,X,N',h,hg,hn,hle,g=>by
  obtain ⟨a,cs,I',X',rfl,C,j,rfl,rfl⟩:=h;rw [ajP] at j;have p1:=nz vs _ _ _ _ _ _ _ _ j;have J:=hn.pre p1;have E:=anr J.last.1 C;have F:(N++[a]).length=N.length+1:=by simp
  obtain ⟨z,w,A,B,r⟩:=vH vs cs [] (Kp fx) (N++[a]) D I' X' N' (by simpa only [AV.ar] using j) hn (by simp;omega) g;rw [F] at z w A B r;unfold fill;generalize eX nm vs [] (Kp fx) (N.length+1) (D++g)=L at z w A B r;obtain ⟨us,R,k,O,M⟩:=L;simp only at z w A B r;dsimp only;have b6:AV.ar ρ (reS (I0 nm fx N.length) vs us)=cs:=asu j E z;refine ⟨by simp only [AV.val,E],w,A,?_,.cons ⟨rfl,?_⟩ r⟩
  .rw [B];cases m <;> simp [eA,b6]
  .simp only [Row.item,E,b6];exact ⟨cd.refl,cd.refl⟩
 | .ptr n off,v,fx,i,N,D,I,X,N',h,hg,hn,hle,g=>by
  obtain ⟨a,G,rfl,rfl,rfl,rfl,rfl⟩:=h;exact ⟨by simp only [fill,AV.val,(hn _ _ G).1],rfl,rfl,rfl,.nil⟩
 | .mp k u m,v,fx,i,N,D,I,X,N',h,hg,hn,hle,g=>by
  obtain ⟨a,d,rfl,C,rfl,rfl,rfl,rfl⟩:=h;have hM:=au6 hn C;refine ⟨by simp only [fill,AV.val,hM],by simp [fill],rfl,rfl,.cons ⟨rfl,?_⟩ .nil⟩;show cd _ ((Row.mp (nmM nm fx N.length) k u (gV (.mp k u) (⟨.mp k u,d⟩::g))).item ρ T)/\cd ((Row.mp (nmM nm fx N.length) k u (gV (.mp k u) (⟨.mp k u,d⟩::g))).item ρ T) _;rw [asn];simp only [Row.item,hM];exact ⟨cd.refl,cd.refl⟩
 | .it,v,fx,i,N,D,I,X,N',h,hg,hn,hle,g=>by
  obtain ⟨a,s,p,rfl,C,rfl,rfl,rfl,rfl⟩:=h;have E:=anr hn.last.1 C;refine ⟨by simp only [fill,AV.val,E],by simp [fill],rfl,rfl,.cons ⟨rfl,?_⟩ .nil⟩;show cd _ ((Row.it (I0 nm fx N.length) (gV .s (⟨.s,s⟩::⟨.n,p⟩::g)) (gV .n (⟨.n,p⟩::g))).item ρ T)/\cd ((Row.it (I0 nm fx N.length) (gV .s (⟨.s,s⟩::⟨.n,p⟩::g)) (gV .n (⟨.n,p⟩::g))).item ρ T) _;rw [anx,anK];simp only [Row.item,E];exact ⟨cd.refl,cd.refl⟩
 | .agg l,v,fx,i,N,D,I,X,N',h,hg,hn,hle,g=>by
  obtain ⟨cs,rfl,C,j⟩:=h;obtain ⟨z,w,A,B,r⟩:=vH l cs (ik fx) [] N D I X N' (by rw [apv hg C];simpa only [AV.ar] using j) hn hle g;unfold fill;generalize eX nm l (ik fx) [] N.length (D++g)=L at z w A B r;obtain ⟨us,R,k,O,M⟩:=L;simp only at z w A B r;dsimp only;exact ⟨by simp only [AV.val,z],w,A,B,r⟩
 | .cB l,v,fx,i,N,D,I,X,N',h,hg,hn,hle,g=>by
  obtain ⟨cs,rfl,j⟩:=h;obtain ⟨z,w,A,B,r⟩:=vH l cs [] [] N D I X N' (by simpa only [AV.ar] using j) hn hle g;unfold fill;generalize eX nm l [] [] N.length (D++g)=L at z w A B r;obtain ⟨us,R,k,O,M⟩:=L;simp only at z w A B r;dsimp only;exact ⟨by simp only [AV.val,z],w,A,B,r⟩
 | .fn f a b,v,fx,i,N,D,I,X,N',h,hg,hn,hle,g=>by
  obtain ⟨us,vs,D1,P,I1,I2,X1,X2,Y,rfl,C,j,H,rfl,rfl,rfl⟩:=h;have p2:=nz b _ _ _ _ _ _ _ _ H;obtain ⟨z,w,A,B,r⟩:=vH a us [] [] N D1 I1 X1 Y (by simpa only [AV.ar] using j) (hn.pre p2) hle (P++g);obtain ⟨c1,W,V,U,S⟩:=vH b vs (ik fx) [] Y P I2 X2 N' (by rw [atj hg C];simpa only [AV.ar] using H) hn (c9 hle (nz a _ _ _ _ _ _ _ _ j).len) g;unfold fill;rw [b0];generalize eX nm a [] [] N.length (D1++(P++g))=L at z w A B r;obtain ⟨us',R,k,O,M⟩:=L;simp only at z w A B r;subst w;subst A;dsimp only;generalize eX nm b (ik fx) [] Y.length (P++g)=L at c1 W V U S;obtain ⟨us2,R2,k2,DD2,XX2⟩:=L;simp only at c1 W V U S;dsimp only;exact ⟨by simp only [AV.val,z,c1],W,V,by rw [B,U];simp [eA],r.append S⟩
 | .ifc t p,v,fx,i,N,D,I,X,N',h,hg,hn,hle,g=>by
  obtain ⟨u,rfl,C,j⟩:=h;rw [<-apj hg C,Qp] at j;obtain ⟨z,w,A,B,r⟩:=Dl p u (oT p (ik fx)) none N D I X N' j (aeD p _) hn hle g;unfold fill;generalize fill nm p (oT p (ik fx)) none N.length (D++g)=L at z w A B r;obtain ⟨us,R,k,O,M⟩:=L;simp only at z w A B r;dsimp only;exact ⟨by simp only [AV.val,z],w,A,B,r⟩
 | .kB c,v,fx,i,N,D,I,X,N',h,hg,hn,hle,g=>by
  obtain ⟨⟨j,K⟩,rfl,rfl,rfl,rfl⟩:=h;exact ⟨by rw [j];exact K ρ,rfl,rfl,rfl,.nil⟩
 | .dat t o,v,fx,i,N,D,I,X,N',h,hg,hn,hle,g=>by
  obtain ⟨cs,x,o',rfl,rfl,j,rfl⟩:=h;obtain ⟨z,w,A,r⟩:=ZZ (T:=T) t x cs o N I N' o' j hn hle;unfold fill;rw [qF,sd];generalize ir nm t x N.length o=L at z w A r;obtain ⟨us,R,k,oo⟩:=L;simp only at z w A r;dsimp only;exact ⟨by simp only [AV.val,z],w,rfl,rfl,r⟩
 | .ifn,v,fx,i,N,D,I,X,N',h,hg,hn,hle,g=>by
  obtain ⟨x,rfl,rfl,rfl,rfl,rfl⟩:=h;exact ⟨by simp only [fill,qF,anK,AV.val,AV.ar],rfl,rfl,rfl,.nil⟩
 | .sfp,v,fx,i,N,D,I,X,N',h,hg,hn,hle,g=>by
  obtain ⟨a,f,G,rfl,rfl,rfl,rfl,rfl⟩:=h;refine ⟨?_,rfl,rfl,rfl,.nil⟩;simp only [fill,AV.val,(hn _ _ G).1,qF];rfl
 | .sty p,v,fx,i,N,D,I,X,N',h,hg,hn,hle,g=>by
  obtain ⟨_,K,j,H⟩:=h;cases i with
  |none=>cases K
  |some u=>
   have e:u.val ρ=v:=by simpa using K
   subst e;have e3:fX ρ (some (u,[]))=some (u.val ρ,[]):=by simp [AV.ar]
   rw [<-e3] at H;have hp:pL p (some (u,[]))=true:=by cases p <;> first|rfl|cases j
   have:=Dl p (u.val ρ) (some (u,[])) none N D I X N' H hp hn hle g;unfold fill;exact this
 | .same,v,fx,i,N,D,I,X,N',h,hg,hn,hle,g=>by
  obtain ⟨j,rfl,rfl,rfl,rfl⟩:=h;refine ⟨?_,rfl,rfl,rfl,.nil⟩;simp only [fill,arV];rcases j with ⟨p,hp,rfl⟩|⟨Q,j⟩
  .cases fx with
   |none=>cases hp
   |some q=>cases hp;rfl
  .cases fx with
   |some q=>cases Q
   |none=>
    cases i with
    |none=>cases j
    |some y=>cases j;rfl
theorem vH:(l:List Pt)->(vs:zq)->(a:List AV)->(b:List AV)->(N:List Nm)->(D:List cn)->(I:fJ)->(X:kr)->(N':List Nm)->xA l vs (AV.ar ρ a) (AV.ar ρ b) N D I X N'->xY ρ nm n0 N'->n0<=N.length->(c:List cn)->
  AV.ar ρ (eX nm l a b N.length (D++c)).vs=vs/\(eX nm l a b N.length (D++c)).k=N'.length/\(eX nm l a b N.length (D++c)).D=c/\X=eA ρ (eX nm l a b N.length (D++c)).X/\fO (RwI ρ T) (eX nm l a b N.length (D++c)).R I
 |[],vs,a,b,N,D,I,X,N',h,hn,hle,c=>by
  obtain ⟨rfl,rfl,rfl,rfl,rfl⟩:=h;exact ⟨by simp only [eX,AV.ar],rfl,rfl,rfl,.nil⟩
 |p::l,vs,a,b,N,D,I,X,N',h,hn,hle,c=>by obtain ⟨v,e,w,d,F,E,C,B,u,rfl,g,f,rfl,rfl,rfl⟩:=h;rw [aa9,Qp] at g;rw [GZ,GZ] at f;have z:=nz l _ _ _ _ _ _ _ _ f;obtain ⟨t,s,r,q,o⟩:=Dl p v (oT p a) b.head? N w F C u g (aeD p a) (hn.pre z) hle (d++c);obtain ⟨c1,n,m,j,i⟩:=vH l e a.tail b.tail u d E B N' f hn (c9 hle (wI p _ _ _ _ _ _ _ _ g).len) c;unfold eX;rw [b0];generalize fill nm p (oT p a) b.head? N.length (w++(d++c))=L at t s r q o;obtain ⟨y,R,k,M,J⟩:=L;simp only at t s r q o;subst s;subst r;dsimp only;generalize eX nm l a.tail b.tail u.length (d++c)=L at c1 n m j i;obtain ⟨x,K,H,G,A⟩:=L;simp only at c1 n m j i;dsimp only;exact ⟨by simp only [AV.ar,t,c1],n,m,by rw [q,j];simp [eA],o.append i⟩
end
theorem Uy{fix:Nat->ix}{f:Nat->Option Value}:(l:List (Bool×Nat×Pt))->(N:List Nm)->(D:List cn)->(I:fJ)->(X:kr)->(N':List Nm)->HZ (λi=>fX ρ (fix i)) f l N D I X N'->tH fix l=true->xY ρ nm n0 N'->n0<=N.length->(a:List cn)->
  (∀t p,look (aG.env ρ [] (fZ nm fix l N.length (D++a)).E) t=some p->p.1=true/\f t=some p.2)/\(fZ nm fix l N.length (D++a)).k=N'.length/\(fZ nm fix l N.length (D++a)).D=a/\fO (RwI ρ T) (fZ nm fix l N.length (D++a)).R I
 |[],N,D,I,X,N',h,hg,hn,hle,a=>by
  obtain ⟨rfl,rfl,rfl,rfl⟩:=h;exact ⟨(λt p h=>by cases h),rfl,rfl,.nil⟩
 |(b,t,p)::l,N,D,I,X,N',h,hg,hn,hle,a=>by
  simp only [tH,ah] at hg;obtain ⟨v,x,e,C,K,B,J,d,H,z,y,rfl,rfl,rfl⟩:=h;have G:=UJ l _ _ _ _ _ y;have j:Sem p v (fX ρ (aC b (fix t) none)) ((none:Option AV).map (AV.val ρ)) N x C B d:=by cases b <;> exact z
  obtain ⟨w,u,s,A,r⟩:=Dl (T:=T) p v _ none N x C B d j hg.1 (hn.pre G) hle (e++a);obtain ⟨c1,o,n,m⟩:=Uy l d e K J N' y hg.2 hn (c9 hle (wI p _ _ _ _ _ _ _ _ z).len) a;unfold fZ;rw [b0];dsimp only;generalize fill nm p (aC b (fix t) none) none N.length (x++(e++a))=L at w u s A r;obtain ⟨F,R,k,U,P⟩:=L;simp only at w u s A r;subst u;subst s;dsimp only;generalize fZ nm fix l d.length (e++a)=L at c1 o n m;obtain ⟨S,Q,O,M⟩:=L;simp only at c1 o n m;dsimp only;refine ⟨λt' q c=>?_,o,n,r.append m⟩;cases b
  .simp only [aG.env,look] at c;cases hb:Nat.beq t t'
   .rw [hb] at c;exact c1 t' q c
   .rw [hb] at c;simp only [cr,cH] at c;subst c;have:=ai hb;subst this;refine ⟨aD.get_none,?_⟩;have g:f t=some v:=H;rw [g,w]
  .exact c1 t' q c
end
section
variable {Γ Γ' : Ctx} {w : World}
theorem Sat.C5(h:Sat Γ w)(r:Nat->Nat->Prop)(l:∀(j:Nat) (jt:Item),Γ'[j]? =some jt->(jt.own=[]/\∀M w,jt.P M w)\/∃(i:Nat) (it:Item),r j i/\Γ[i]? =some it/\cd it jt)
  (v:∀(j k i:Nat),j≠k->r j i->r k i->False):Sat Γ' w:=by
 have mv:Mv Γ.M w (Ctx.M Γ') w:=Mv.weaken w λb hb=>by
  obtain ⟨it,hi,hb⟩:=hb;obtain ⟨k,d⟩:=List.mem_iff_getElem?.1 hi;rcases l k it d with ⟨c,_⟩|⟨i,jt,_,g,f⟩
  .rw [c] at hb;cases hb
  .exact Ctx.j7 g (f.1 b hb)
 refine ⟨λjt o=>?_,λj k jt kt o d n b hb a=>?_⟩
 .obtain ⟨k,d⟩:=List.mem_iff_getElem?.1 o;rcases l k jt d with ⟨_,c⟩|⟨i,it,_,g,f⟩
  .exact c _ _
  .exact f.2 _ _ (it.cE (h.at_ g) mv (λ_ _=>rfl) (hU.refl w))
 .rcases l j jt o with ⟨c,_⟩|⟨i,it,u,g,f⟩
  .rw [c] at hb;cases hb
  .rcases l k kt d with ⟨c,_⟩|⟨s,m,t,q,p⟩
   .rw [c] at a;cases a
   .by_cases e:i=s
    .subst e;exact v j k i n u t
    .exact h.sep i s it m g q e b (f.1 b hb) (p.1 b a)
def gS:Item:=adK True
theorem Sat.pull(h:Sat Γ w){i:Nat}{it jt:Item}(hi:Γ[i]? =some it)(b:cd it jt):Sat (jt::Γ.set i gS) w:=by
 refine h.C5 (λj k=>(j=0/\k=i)\/(j=k+1/\k≠i)) (λj kt a=>?_) (λj k q c f d=>by omega);cases j with
 |zero=>simp at a;subst a;exact .inr ⟨i,it,.inl ⟨rfl,rfl⟩,hi,b⟩
 |succ j=>
  simp only [c8] at a;by_cases e:j=i
  .subst e;rw [qP (List.getElem?_eq_some_iff.1 hi).1] at a;cases a;exact .inl ⟨rfl,λ_ _=>trivial⟩
  .rw [qj (λh=>e h.symm)] at a;exact .inr ⟨j,kt,.inr ⟨rfl,e⟩,a,cd.refl⟩
theorem Sat.Dc{A B:Ctx}{x:Item}(h:Sat (A++x::B) w):Sat (A++B) w:=by
 refine h.C5 (λj k=>(j<A.length/\k=j)\/(A.length<=j/\k=j+1)) (λj jt a=>?_) (λj k q b d c=>by omega);by_cases e:j<A.length
 .rw [cy e] at a;exact .inr ⟨j,jt,.inl ⟨e,rfl⟩,by rw [cy e];exact a,cd.refl⟩
 .have e':A.length<=j:=by omega
  rw [ca e'] at a;refine .inr ⟨j+1,jt,.inr ⟨e',rfl⟩,?_,cd.refl⟩;rw [ca (by omega)];have:j+1-A.length=(j-A.length)+1:=by omega
  rw [this];simpa using a
theorem Sat.asw{A B:Ctx}{x jt:Item}{k:Nat}(h:Sat (A++x::B.set k gS) w)(b:B[k]? =some jt)(d:cd x jt):Sat (A++B) w:=by
 have c:=(List.getElem?_eq_some_iff.1 b).1;refine h.C5 (λj q=>(j<A.length/\q=j)\/(j=A.length+k/\q=A.length)\/(A.length<=j/\j≠A.length+k/\q=j+1)) (λj kt a=>?_) (λj k q f i g=>by omega);by_cases e:j<A.length
 .rw [cy e] at a;exact .inr ⟨j,kt,.inl ⟨e,rfl⟩,by rw [cy e];exact a,cd.refl⟩
 .have e':A.length<=j:=by omega
  rw [ca e'] at a;by_cases e2:j=A.length+k
  .subst e2;rw [show A.length+k-A.length=k by omega,b] at a;cases a;exact .inr ⟨A.length,x,.inr (.inl ⟨rfl,rfl⟩),by simp,d⟩
  .refine .inr ⟨j+1,kt,.inr (.inr ⟨e',e2,rfl⟩),?_,cd.refl⟩;rw [ca (by omega)];have:j+1-A.length=(j-A.length)+1:=by omega
   rw [this,c8,qj (by omega)];exact a
theorem Sat.Ge{A B:Ctx}{x y:Item}(h:Sat (A++x::B) w)(b:cd x y):Sat (A++y::B) w:=by
 refine h.C5 (λj k=>j=k) (λj jt a=>?_) (λj k q c f d=>by omega);by_cases e:j<A.length
 .rw [cy e] at a;exact .inr ⟨j,jt,rfl,by rw [cy e];exact a,cd.refl⟩
 .have e':A.length<=j:=by omega
  rw [ca e'] at a;by_cases e2:j=A.length
  .subst e2;simp at a;subst a;exact .inr ⟨A.length,x,rfl,by simp,b⟩
  .refine .inr ⟨j,jt,rfl,?_,cd.refl⟩;rw [ca e'];have:j-A.length=(j-A.length-1)+1:=by omega
   rw [this,c8] at a ⊢;exact a
theorem Sat.leL{A B C:Ctx}(h:Sat (A++(B++C)) w){c:Ctx}(d:fO cd B c):Sat (A++(c++C)) w:=by
 induction d generalizing A with
 |nil=>exact h
 | @cons a b l m h1 _ ih=>
  have f:Sat (A++b::(l++C)) w:=h.Ge h1;have e:Sat ((A++[b])++(l++C)) w:=by simpa using f
  have:=ih e;simpa using this
def jJ:zh->Ctx->Ctx
 |[],Γ=>Γ
 |none::l,Γ=>jJ l Γ
 |some i::l,Γ=>(jJ l Γ).set i gS
def Ndp:zh->Prop
 |[]=>True
 |none::l=>Ndp l
 |some i::l=>some i∉l/\Ndp l
theorem Zh:∀{l:zh} {Γ:Ctx},(jJ l Γ).length=Γ.length
 |[],_=>rfl
 |none::l,Γ=>Zh (l:=l)
 |some j::l,Γ=>by show ((jJ l Γ).set j gS).length=_;rw [oi,Zh]
theorem Dk:∀{l:zh} {Γ:Ctx} {i:Nat},some i∉l->(jJ l Γ)[i]? =Γ[i]?
 |[],_,_,_=>rfl
 |none::l,Γ,i,h=>Dk (l:=l) (λa=>h (cb _ a))
 |some j::l,Γ,i,h=>by have e:j≠i:=λe=>h (by rw [e];exact ct ..);show ((jJ l Γ).set j gS)[i]? =_;rw [qj e];exact Dk (λa=>h (cb _ a))
theorem Kc{x:Item}:∀{l:zh} {Γ:Ctx} {i:Nat},some i∉l->(jJ l Γ).set i x=jJ l (Γ.set i x)
 |[],_,_,_=>rfl
 |none::l,Γ,i,h=>Kc (l:=l) (λa=>h (cb _ a))
 |some j::l,Γ,i,h=>by have e:j≠i:=λe=>h (by rw [e];exact ct ..);show ((jJ l Γ).set j gS).set i x=(jJ l (Γ.set i x)).set j gS;rw [List.set_comm _ _ e,Kc (λa=>h (cb _ a))]
def PI(Γ:Ctx)(w:World)(o:zt)(x:Bool×Item):Prop:=match o with
 |some i=>∃jt,Γ[i]? =some jt/\cd jt x.2
 |none=>x.2.own=[]/\x.2.P Γ.M w
abbrev dM(I:fJ):Ctx:=I.map (·.2)
def fK(I:fJ):Ctx:=I.map λx=>aC x.1 gS x.2
theorem y8(h:Sat Γ w):∀{L:zh} {I:fJ},fO (PI Γ w) L I->Ndp L->Sat (dM I++jJ L Γ) w/\∀b,Ctx.M (dM I++jJ L Γ) b->Γ.M b
 |_,_,.nil,_=>⟨h,λ_ h=>h⟩
 |_,_,.cons (a:=none) (b:=x) h1 hr,hd=>by
  obtain ⟨ih,c⟩:=y8 h hr hd;refine ⟨ih.add h1.1 (x.2.cE h1.2 (Mv.weaken w c) (λ_ _=>rfl) (hU.refl w)),λb hb=>?_⟩;rcases Ctx.EY.1 hb with hb|hb
  .rw [h1.1] at hb;cases hb
  .exact c b hb
 |_,_,.cons (a:=some i) (b:=x) (l:=l) (m:=m) h1 hr,hd=>by
  obtain ⟨ih,c⟩:=y8 h hr hd.2;obtain ⟨jt,g,f⟩:=h1;have hi:(dM m++jJ l Γ)[(dM m).length+i]? =some jt:=by rw [ca (by omega),show (dM m).length+i-(dM m).length=i by omega,Dk hd.1];exact g
  have j:=ih.pull hi f;rw [qR _ _ (by omega),show (dM m).length+i-(dM m).length=i by omega] at j;refine ⟨j,λb hb=>?_⟩;rcases Ctx.EY.1 hb with hb|hb
  .exact Ctx.j7 g (f.1 b hb)
  .obtain ⟨it,d,e⟩:=hb;refine c b ?_;rcases List.mem_append.1 d with d|d
   .exact ⟨it,qk _ d,e⟩
   .rcases List.mem_or_eq_of_mem_set d with d|d
    .exact ⟨it,gx _ d,e⟩
    .subst d;cases e
def Be:zh->fJ->zh
 |o::L,x::I=>(aC x.1 o none)::Be L I
 |_,_=>[]
def Ef(Γ:Ctx)(o:zt)(x:Bool×Item):Prop:=match o with
 |some i=>∃jt,Γ[i]? =some jt/\(x.1=false->cd x.2 jt)
 |none=>True
theorem Ef.set{Γ:Ctx}{i:Nat}{y:Item}:∀{L:zh} {I:fJ},fO (Ef Γ) L I->some i∉L->fO (Ef (Γ.set i y)) L I
 |_,_,.nil,_=> .nil
 |_,_,.cons (a:=none) h1 hr,hn=> .cons trivial (Ef.set hr (λh=>hn (cb _ h)))
 |_,_,.cons (a:=some j) h1 hr,hn=>by obtain ⟨jt,c,b⟩:=h1;have e:i≠j:=λe=>hn (by rw [e];exact ct ..);exact .cons ⟨jt,by rw [qj e];exact c,b⟩ (Ef.set hr (λh=>hn (cb _ h)))
theorem WJ{i:Nat}:∀{L:zh} {I:fJ},some i∈Be L I->some i∈L
 |[],_,h=>by cases h
 |o::L,[],h=>by cases h
 |o::L,x::I,h=>by
  rcases List.mem_cons.1 h with h|h
  .cases hx:x.1
   .rw [hx] at h;cases h
   .rw [hx] at h;exact h▸ct ..
  .exact cb _ (WJ h)
theorem JQ{A:Ctx}:∀{L:zh} {I:fJ} {Γ:Ctx},fO (Ef Γ) L I->Ndp L->Sat (A++(fK I++jJ L Γ)) w->Sat (A++jJ (Be L I) Γ) w
 |_,_,_,.nil,_,h=>h
 |_,_,_,.cons (a:=none) (b:=x) (l:=l) (m:=m) h1 hr,hd,h=>by
  have c:Sat (A++(fK m++jJ l _)) w:=Sat.Dc h;have:=JQ hr hd c;cases hx:x.1 <;> simpa [Be,hx,jJ] using this
 |_,_,Γ,.cons (a:=some i) (b:=x) (l:=l) (m:=m) h1 hr,hd,h=>by
  obtain ⟨jt,e,d⟩:=h1;cases hx:x.1
  .have e1:fK (x::m)++jJ (some i::l) Γ=x.2::(fK m++jJ l Γ).set (m.length+i) gS:=by show (aC x.1 gS x.2)::(fK m++(jJ l Γ).set i gS)=_;rw [hx,qR _ _ (by simp [fK])];simp [fK]
   rw [e1] at h;have c:=h.asw (jt:=jt) (by
    rw [ca (by simp [fK])];have:m.length+i-(fK m).length=i:=by simp [fK]
    rw [this,Dk hd.1];exact e) (d hx)
   have:=JQ hr hd.2 c;simpa [Be,hx,jJ] using this
  .have e1:fK (x::m)++jJ (some i::l) Γ=gS::(fK m++jJ l (Γ.set i gS)):=by show (aC x.1 gS x.2)::(fK m++(jJ l Γ).set i gS)=_;rw [hx,Kc hd.1]
   rw [e1] at h;have c:=Sat.Dc h;have:=JQ (Ef.set hr hd.1) hd.2 c;rw [<-Kc (λh=>hd.1 (WJ h))] at this;simpa [Be,hx,jJ] using this
end
def dL(G H:List Row)(s:Src):zt:=match s with
 | .top i=>(match G[i]? with
  |some r=>aC r.cV none (some i)
  |none=>none)
 | .cP i=>(match H[i]? with
  |some r=>aC r.cV none (some (G.length+i))
  |none=>none)
 |_=>none
def la(n:Nat):zh->Bool
 |[]=>false
 |o::l=>(match o with
  |some m=>Nat.beq n m
  |none=>false)||la n l
theorem VG{n:Nat}:{l:zh}->(la n l=true↔some n∈l)
 |[]=>by simp [la]
 |none::l=>by simp [la,VG]
 |some m::l=>by simp only [la,eF,pa,cH];rw [VG,Nat.beq_eq]
def Ew:zh->Bool
 |[]=>true
 |o::l=>(match o with
  |some i=> !(la i l)
  |none=>true)&&Ew l
theorem AD:{l:zh}->Ew l=true->Ndp l
 |[],_=>trivial
 |none::l,h=>by
  simp only [Ew,qm] at h;exact AD (l:=l) h
 |some i::l,h=>by simp only [Ew,ah,gj] at h;exact ⟨(λa=>by rw [VG.2 a] at h;cases h.1),AD h.2⟩
section
variable {ρ : aB} {T : aD} {G H : List Row} {Φ : Ctx} {w : World}
theorem Src.pos{s:Src}{r:Row}(h:s.at_ G H r)(hp:r.cV=false):∃i,dL G H s=some i/\(ab ρ T G++(ab ρ T H++Φ))[i]? =some (r.item ρ T):=by
 cases s with
 |top i=>
  have h:G[i]? =some r:=h;exact ⟨i,by simp only [dL,h,hp],gm h⟩
 |cP i=>
  have h:H[i]? =some r:=h;exact ⟨G.length+i,by simp only [dL,h,hp],abV h⟩
 |nilI=>exact h.elim
 |nilO=>exact h.elim
 |nilM=>exact h.elim
theorem Src.av9{s:Src}{r:Row}(h:s.at_ G H r)(hp:r.cV=true):dL G H s=none:=by
 cases s with
 |top i=>
  have h:G[i]? =some r:=h;simp only [dL,h,hp]
 |cP i=>
  have h:H[i]? =some r:=h;simp only [dL,h,hp]
 |nilI=>exact h.elim
 |nilO=>exact h.elim
 |nilM=>exact h.elim
theorem Src.av0{s:Src}(h:∀r,¬s.at_ G H r):dL G H s=none:=by
 cases s with
 |top i=>
  cases a:G[i]? with
  |none=>simp only [dL,a]
  |some r=>exact (h r a).elim
 |cP i=>
  cases a:H[i]? with
  |none=>simp only [dL,a]
  |some r=>exact (h r a).elim
 |nilI=>rfl
 |nilO=>rfl
 |nilM=>rfl
theorem Qi(m:Sat (ab ρ T G++(ab ρ T H++Φ)) w):∀{S:List (Bool×Src)} {I:fJ},fO (SI ρ T G H) S I->fO (PI (ab ρ T G++(ab ρ T H++Φ)) w) (S.map λx=>dL G H x.2) I/\fO (Ef (ab ρ T G++(ab ρ T H++Φ))) (S.map λx=>dL G H x.2) I
 |_,_,.nil=>⟨.nil,.nil⟩
 |_,_,.cons (a:=a) (b:=x) h1 hr=>by
  obtain ⟨j,h⟩:=Qi m hr;obtain ⟨e,o⟩:=h1;rcases o with ⟨d,f,g⟩|⟨r,d,f,g,n⟩
  .have hp:=Src.av0 g;refine ⟨.cons ?_ j,.cons ?_ h⟩
   .show PI _ _ (dL G H a.2) x;rw [hp];exact ⟨d,f _ _⟩
   .show Ef _ (dL G H a.2) x;rw [hp];trivial
  .cases c:r.cV
   .obtain ⟨i,l,k⟩:=Src.pos (ρ:=ρ) (T:=T) (Φ:=Φ) d c;refine ⟨.cons ?_ j,.cons ?_ h⟩
    .show PI _ _ (dL G H a.2) x;rw [l];exact ⟨_,k,f⟩
    .show Ef _ (dL G H a.2) x;rw [l];exact ⟨_,k,λ_=>n c⟩
   .have hp:=Src.av9 d c;refine ⟨.cons ?_ j,.cons ?_ h⟩
    .show PI _ _ (dL G H a.2) x;rw [hp];exact ⟨g c,f.2 _ _ (Src.holds m d)⟩
    .show Ef _ (dL G H a.2) x;rw [hp];trivial
def tQ(is:zh):Nat->List Row->List Row
 |_,[]=>[]
 |k,r::G=>(aC (la k is) .gone r)::tQ is (k+1) G
def lj:List Row->List Row
 |[]=>[]
 |r::G=>(match r with
  | .gone=>lj G
  |r=>r::lj G)
theorem GH{B:Ctx}:∀{G:List Row} {A:Ctx},Sat (A++(ab ρ T G++B)) w->Sat (A++(ab ρ T (lj G)++B)) w
 |[],_,h=>h
 |r::G,A,h=>by
  unfold lj;split
  .exact GH (G:=G) (Sat.Dc h)
  .have a:Sat ((A++[r.item ρ T])++(ab ρ T G++B)) w:=by simpa [ab] using h
   have:=GH (G:=G) a;simpa [ab] using this
theorem S9{L:zh}:∀{G:List Row} {k:Nat},ab ρ T (tQ L k G)=(ab ρ T G).mapIdx λi it=>aC (la (k+i) L) gS it
 |[],_=>rfl
 |r::G,k=>by
  simp only [tQ,ab,er,List.mapIdx_cons];have:=S9 (L:=L) (G:=G) (k:=k+1);simp only [ab] at this;rw [this];congr 1
  .simp only [qu];cases la k L <;> rfl
  .congr 1
   funext i it
   rw [Nat.add_right_comm,qC]
theorem ad7:∀{L:zh} {Γ:Ctx} {j:Nat},(jJ L Γ)[j]? =(Γ[j]?).map λit=>aC (la j L) gS it
 |[],Γ,j=>by
  show Γ[j]? =_;cases Γ[j]? <;> rfl
 |none::l,Γ,j=>ad7 (L:=l)
 |some i::l,Γ,j=>by
  show ((jJ l Γ).set i gS)[j]? =_;by_cases e:i=j
  .subst e;rw [qK];have a:(jJ l Γ).length=Γ.length:=Zh;have e1:la i (some i::l)=true:=by simp [la]
   rw [e1];simp only [qQ,a];by_cases hi:i<Γ.length
   .rw [aT hi];simp [hi]
   .rw [cw (by omega)];simp [hi]
  .rw [qj e,ad7 (L:=l)];have e2:Nat.beq j i=false:=by
    cases hb:Nat.beq j i
    .rfl
    .exact absurd (ai hb).symm e
   simp [la,e2]
end
structure au where
 f:FuncId
 ps:List Pt
 r:Pt
 os:List (Bool×Nat×Pt)
 m:fA (oL ps)->Option (fA (og r++iG os))
def aqp:Ty->zf->Nat×zf
 | .p a b,o=>match aqp a o with
  |(n,o)=>match aqp b o with
   |(m,o)=>(n+m,o)
 | .l _,o=>(1,o.tail)
 | .ex,o=>(1,o.tail)
 |_,o=>(0,o)
mutual
def alq:Pt->Nat
 | .sli _|.own _ _ _|.mp _ _ _|.it=>1
 | .bx _ _ _ vs=>WX vs+1
 | .agg l|.cB l=>WX l
 | .fn _ a b=>WX a+WX b
 | .ifc _ p=>alq p
 | .sty p=>alq p
 | .dat t o=>(aqp t o).1
 |_=>0
def WX:List Pt->Nat
 |[]=>0
 |p::l=>alq p+WX l
end
def ixN:List Pt->Nat->Nat
 |p::l,i+1=>alq p+ixN l i
 |_,_=>0
def QG(X:kr)(n:Nat):zq:=match X with
 |[]=>[]
 |x::X=>aC (Nat.beq x.1 n) x.2 (QG X n)
def DI(X:List (Nat×List AV))(n:Nat):List AV:=match X with
 |[]=>[]
 |x::X=>aC (Nat.beq x.1 n) x.2 (DI X n)
theorem GB{ρ:aB}{n:Nat}:{X:List (Nat×List AV)}->QG (eA ρ X) n=AV.ar ρ (DI X n)
 |[]=>by simp [QG,DI,AV.ar]
 |x::X=>by
  show (aC (Nat.beq x.1 n) (AV.ar ρ x.2) (QG (eA ρ X) n))=AV.ar ρ (aC (Nat.beq x.1 n) x.2 (DI X n));cases Nat.beq x.1 n
  .exact GB
  .rfl
def Yj(N:List Nm)(ps:List Pt)(vs:zq)(X:kr)(i:Nat):Fx:=aC (Nat.ble 1000 i) ((N[i-1000]?).map λa=>(.pointer (some ⟨a.b,0,none⟩),QG X (i-1000))) ((vs[i]?).map λv=>(v,QG X (ixN ps i)))
def yH(B:zh)(ps:List Pt)(vs:List AV)(X:List (Nat×List AV))(i:Nat):ix:=aC (Nat.ble 1000 i) (match B[i-1000]? with
 |some (some j)=>some (.ptr j 0,DI X (i-1000))
 |some none=>some (.gp 0,DI X (i-1000))
 |none=>none) (match vs[i]? with
 |some v=>some (v,DI X (ixN ps i))
 |none=>none)
theorem aaN{ρ:aB}:{l:List AV}->{i:Nat}->(AV.ar ρ l)[i]? =(l[i]?).map (AV.val ρ)
 |[],i=>by simp [AV.ar]
 |v::l,0=>by simp [AV.ar]
 |v::l,i+1=>by simp only [AV.ar,c8];exact aaN
theorem ai4{ρ:aB}{B:zh}(c:NB ρ B N){ps:List Pt}{vs:List AV}{X:List (Nat×List AV)}{i:Nat}:Yj N ps (AV.ar ρ vs) (eA ρ X) i=fX ρ (yH B ps vs X i):=by
 unfold Yj yH;cases Nat.ble 1000 i
 .simp only [aC];rw [aaN];cases vs[i]? with
  |none=>rfl
  |some v=>simp [GB]
 .simp only [aC];cases hb:B[i-1000]? with
  |none=>
   have:N[i-1000]? =none:=by rw [List.getElem?_eq_none_iff] at hb ⊢;rw [<-c.length];exact hb
   rw [this];rfl
  |some o=>
   obtain ⟨a,e,d⟩:=c.get hb;rw [e];cases o with
   |none=>
    have:a.b=0:=d.1;simp [GB,AV.val,this]
   |some j=>
    have:a.b=(ρ j).b:=d.1;simp [GB,AV.val,this]
def au.Ok(P:Program)(Γg:Ctx)(e:au):Prop:=Enters P e.f/\∀s r,e.m s=some r->∀(vs:zq) (N:List Nm) (I:fJ) (X:kr) (Φ:Ctx) (w:World),
 xA e.ps vs [] [] [] (ic _ s) I X N->Sat (dM I++Φ) w->(∀it∈Γg,it∈Φ)->
 gK P e.f vs w λv w'=>∃(N1 N2:List Nm) (D1 D2:List cn) (I1 I2:fJ) (X1 X2:kr),Sem e.r v none none N D1 I1 X1 N1/\HZ (Yj N e.ps vs X) (λi=>vs[i]?) e.os N1 D2 I2 X2 N2/\D1++D2=ic _ r/\
  Sat ((dM I1++dM I2)++(fK I++Φ)) w'
def cellsOf(G H:List Row)(j:Nat):List AV:=match eK G H (A4 j) with
 |some (_,.box _ _ cs)=>cs
 |_=>[]
def aqZ:(t:Ty)->List AV->zf->zC×List AV×zf
 | .i _,vs,o|.bo,vs,o|.s,vs,o=>([],vs.tail,o)
 | .p a b,vs,o=>match aqZ a vs o with
  |(i,vs,o)=>match aqZ b vs o with
   |(j,vs,o)=>(i++j,vs,o)
 | .l _,vs,o=>(match o with
  |none::_=>(match vs with
   |v::_=>v.fg
   |[]=>[])
  |_=>[],vs.tail,o.tail)
 | .ex,vs,o=>(match o with
  |none::_=>(match vs with
   |_::_::_::v::_=>v.fg
   |_=>[])
  |_=>[],vs.drop 4,o.tail)
 |_,vs,o=>([],vs,o)
mutual
def uX(G H:List Row):Pt->AV->zC
 | .sli _,v=>v.fg
 | .bx _ _ _ vs,v=>(match v with
  | .ptr j _=>eQ G H vs (cellsOf G H j)
  |_=>[])
 | .agg l,v=>(match v with
  | .agg vs=>eQ G H l vs
  |_=>[])
 | .cB l,v=>(match v with
  | .tuple vs=>eQ G H l vs
  |_=>[])
 | .fn _ a b,v=>(match v with
  | .fn _ a' b'=>eQ G H a a'++eQ G H b b'
  |_=>[])
 | .sty p,v=>uX G H p v
 | .ifc _ p,v=>(match v with
  | .ifc _ u=>uX G H p u
  |_=>[])
 | .dat t o,v=>(match v with
  | .agg cs=>(aqZ t cs o).1
  |_=>[])
 |_,_=>[]
def eQ(G H:List Row):List Pt->List AV->zC
 |[],_=>[]
 |p::l,vs=>(match vs with
  |v::vs=>uX G H p (va G H v)++eQ G H l vs
  |[]=>[])
end
def xO(T:aD)(g:GK):List Row->List Row
 |[]=>[]
 |r::G=>(match r with
  | .sli (some k) id t l b=> .sli (aC (T.imp g (some k)) none (some k)) id t l b
  |r=>r)::xO T g G
def C1(g:GK)(r:Row):Row:=match g with
 |none=>r
 |some g=>(match r with
  | .sli none id t l b=> .sli (some g) id t l b
  | .own id t _ l _=> .sli (some g) id t l false
  |r=>r)
def slB:Row->Bool
 | .sli none _ _ _ _|.own .. =>true
 |_=>false
def Zz:List (Bool×Row)->Bool
 |[]=>true
 |x::l=>slB x.2&&Zz l
def uN(B:zh)(c:Nat)(n:Nat):Nat:=match B[n]? with
 |some (some j)=>j
 |_=>c+n
def SO(c:Nat):zh->Bool
 |[]=>true
 |o::l=>(match o with
  |some j=>Nat.blt j c
  |none=>true)&&SO c l
theorem ad6{ρ ρ':aB}{c:Nat}(a:aW c ρ ρ'):{B:zh}->{N:List Nm}->SO c B=true->NB ρ B N->NB ρ' B N
 |[],_,_,h=>by cases h;exact .nil
 |o::B,_,hB,h=>by
  cases h with
  |cons b f=>
   simp only [SO,ah] at hB;refine .cons ?_ (ad6 a hB.2 f);cases o with
   |none=>exact b
   |some j=>
    have d:j<c:=by simpa using hB.1
    have e:=a j d;show _/\_/\_;rw [e];exact b
def VJ(c:Nat):List (Nat×List AV)->Bool
 |[]=>true
 |x::l=>AV.cm c x.2&&VJ c l
def B0(G H:List Row):List (Bool×Src)->zh
 |[]=>[]
 |x::S=>(aC x.1 (dL G H x.2) none)::B0 G H S
def Sm(n:Nat):zh->Bool
 |[]=>true
 |o::l=>(match o with
  |some i=>Nat.blt i n
  |none=>true)&&Sm n l
def XI:zh->Bool
 |[]=>true
 |o::l=>(match o with
  |some _=>false
  |none=>true)&&XI l
def Qe{R:Type}(_fr:Fr)(st:aE)(g:GK)(d:zu)(args:List AV)(e:au)(mr:MR)(G1:List Row)(K:cT R)(r:fA (og e.r++iG e.os)):Option R:=
 match fill (uN mr.B st.c) e.r none none mr.B.length (ic _ r) with
 |⟨v,R1,k,D,_⟩=>match fZ (uN mr.B st.c) (yH mr.B e.ps args mr.X) e.os k D with
  |⟨_,R2,k,_⟩=>aC (match g with|none=>true|some _=>Zz R1) (K { st with c:=st.c+k,E:=cL d g v st.E,G:=(R1++R2).map (λx=>C1 g x.2)++G1 }) none
def amc{R:Type}(T:aD)(fr:Fr)(st:aE)(g:GK)(d:zu)(args:List AV)(e:au)(K:cT R):Option (Option R):=
 match g with
 |none=>(match JA (cP (eQ st.G fr.H e.ps args) st.G) fr.H e.ps args [] [] [] with
  |some mr=>aC (Ew (mr.S.map λx=>dL (cP (eQ st.G fr.H e.ps args) st.G) fr.H x.2)&&Sm (cP (eQ st.G fr.H e.ps args) st.G).length (B0 (cP (eQ st.G fr.H e.ps args) st.G) fr.H mr.S)&&SO st.c mr.B&&AV.cm st.c args&&VJ st.c mr.X&&tH (yH mr.B e.ps args mr.X) e.os) (match cB (oL e.ps) mr.D with
   |some s=>some ((e.m s).bind (Qe fr st none d args e mr (lj (tQ (B0 (cP (eQ st.G fr.H e.ps args) st.G) fr.H mr.S) 0 (cP (eQ st.G fr.H e.ps args) st.G))) K))
   |none=>none) none
  |none=>none)
 |some gk=>(match JA (xO T (some gk) (cP (eQ st.G fr.H e.ps args) st.G)) (xO T (some gk) fr.H) e.ps args [] [] [] with
  |some mr=>aC (Ew (mr.S.map λx=>dL (xO T (some gk) (cP (eQ st.G fr.H e.ps args) st.G)) (xO T (some gk) fr.H) x.2)&&XI (B0 (xO T (some gk) (cP (eQ st.G fr.H e.ps args) st.G)) (xO T (some gk) fr.H) mr.S)&&e.os.isEmpty&&SO st.c mr.B&&AV.cm st.c args&&VJ st.c mr.X&&tH (yH mr.B e.ps args mr.X) e.os) (match cB (oL e.ps) mr.D with
   |some s=>some (bm (T.get (some gk)) (alE _) (e.m s) (Qe fr st (some gk) d args e mr (cP (eQ st.G fr.H e.ps args) st.G) K))
   |none=>none) none
  |none=>none)
def yo{R:Type}(T:aD)(fr:Fr)(st:aE)(g:GK)(d:zu)(f:FuncId)(args:List AV)(K:cT R):List au->Option R
 |[]=>none
 |e::tb=>aC (Nat.beq e.f f) (match amc T fr st g d args e K with
   |some r=>r
   |none=>yo T fr st g d f args K tb) (yo T fr st g d f args K tb)
section
variable {ρ : aB} {T : aD} {G H : List Row} {Φ : Ctx} {w : World}
theorem VI{s:Src}{i:Nat}(h:dL G H s=some i):i<G.length+H.length:=by
 cases s with
 |top j=>
  simp only [dL] at h;split at h
  next r a=>obtain ⟨_,b⟩:=QL h;cases b;have:=(List.getElem?_eq_some_iff.1 a).1;omega
  .cases h
 |cP j=>
  simp only [dL] at h;split at h
  next r a=>obtain ⟨_,b⟩:=QL h;cases b;have:=(List.getElem?_eq_some_iff.1 a).1;omega
  .cases h
 |nilI=>cases h
 |nilO=>cases h
 |nilM=>cases h
theorem VD:∀{S:List (Bool×Src)} {I:fJ},fO (SI ρ T G H) S I->Be (S.map λx=>dL G H x.2) I=B0 G H S
 |_,_,.nil=>rfl
 |_,_,.cons (a:=a) (b:=x) h1 hr=>by show (aC x.1 (dL G H a.2) none)::Be _ _=(aC a.1 (dL G H a.2) none)::_;rw [VD hr,h1.1]
theorem Y5{n:Nat}:∀{L:zh} {j:Nat},Sm n L=true->la j L=true->j<n
 |[],j,h,a=>by cases a
 |none::l,j,h,a=>by
  simp only [Sm,qm] at h;simp only [la,n3] at a;exact Y5 h a
 |some i::l,j,h,a=>by
  simp only [Sm,ah,j5] at h;simp only [la,eF] at a;rcases a with a|a
  .rw [ai a];exact h.1
  .exact Y5 h.2 a
theorem Dx{L:zh}{Δ:Ctx}(h:Sm G.length L=true):jJ L (ab ρ T G++Δ)=ab ρ T (tQ L 0 G)++Δ:=by
 apply nc;intro j;rw [ad7,S9];by_cases a:j<G.length
 .rw [cy (by simpa [ab] using a),cy (by simpa [ab] using a),List.getElem?_mapIdx];simp
 .have e:la j L=false:=by
   cases b:la j L
   .rfl
   .exact absurd (Y5 h b) a
  rw [ca (by simp [ab];omega),ca (by simp [ab];omega),e];have e2:(ab ρ T G).length=((ab ρ T G).mapIdx λi it=>aC (la (0+i) L) gS it).length:=by simp
  rw [<-e2];cases Δ[j-(ab ρ T G).length]? <;> rfl
theorem afU:∀{L:zh} {Γ:Ctx},XI L=true->jJ L Γ=Γ
 |[],_,_=>rfl
 |none::l,Γ,h=>by
  simp only [XI,qm] at h;exact afU (L:=l) h
 |some i::l,Γ,h=>by simp [XI] at h
theorem Uh{g:GK}(d:T.get g=true){B:Ctx}:∀{G:List Row} {A:Ctx},Sat (A++(ab ρ T G++B)) w->Sat (A++(ab ρ T (xO T g G)++B)) w
 |[],_,h=>h
 |r::G,A,h=>by
  have a:∀c:Row,cd (r.item ρ T) (c.item ρ T)->Sat (A++(ab ρ T (c::xO T g G)++B)) w:=λc e=>by
   have f:Sat (A++c.item ρ T::(ab ρ T G++B)) w:=Sat.Ge h e;have i:Sat ((A++[c.item ρ T])++(ab ρ T G++B)) w:=by simpa [ab] using f
   have:=Uh d (G:=G) i;simpa [ab] using this
  unfold xO;split
  .rename_i k id t l b;refine a _ ?_;cases hi:T.imp g (some k)
   .exact cd.refl
   .refine ⟨λ_ h=>h,λM w h _=>h (aD.kT hi d)⟩
  .exact a _ cd.refl
theorem ZN{g:GK}:∀{G:List Row},fO cd (ab ρ T (xO T g G)) (ab ρ T G)
 |[]=> .nil
 |r::G=>by
  show fO cd (ab ρ T (xO T g (r::G))) (r.item ρ T::ab ρ T G);unfold xO;refine .cons ?_ ZN;split
  .rename_i k id t l b;cases hi:T.imp g (some k)
   .exact cd.refl
   .exact ⟨λ_ h=>h,λM w h _=>h aD.get_none⟩
  .exact cd.refl
theorem ag7{g:Nat×Bool}{B:Ctx}:∀{R:List (Bool×Row)} {A:Ctx},Zz R=true->Sat (A++(ab ρ T (R.map (·.2))++B)) w->Sat (A++(ab ρ T (R.map λx=>C1 (some g) x.2)++B)) w
 |[],_,_,h=>h
 |(m,r)::R,A,hb,h=>by
  simp only [Zz,ah] at hb;have c:Sat (A++(C1 (some g) r).item ρ T::(ab ρ T (R.map (·.2))++B)) w:=by
   have d:Sat (A++r.item ρ T::(ab ρ T (R.map (·.2))++B)) w:=h;cases r with
   |sli k id t l b=>
    cases k with
    |none=>exact d.Ge ⟨λ_ h=>h,λM w h _=>h aD.get_none⟩
    |some k=>simp [slB] at hb
   |own id t e l a=>
    have hi:(A++(Row.own id t e l a).item ρ T::(ab ρ T (R.map (·.2))++B))[A.length]? =some (pw t.rep e (ρ id).v l ((ρ a).y=⟨.l t,l⟩)):=by simp [Row.item]
    have i:=d.iP hi (new:=(C1 (some g) (Row.own id t e l a)).item ρ T) ((Ext.refl w).uP _) (λb hb=>by cases hb) (λM' m f=>λ_=>⟨(d.at_ hi).1.freeze (λb hb=>f b hb (λhb=>by cases hb)) m,λhb=>by cases hb⟩);simpa using i
   |_=>simp [slB] at hb
  have j:Sat ((A++[(C1 (some g) r).item ρ T])++(ab ρ T (R.map (·.2))++B)) w:=by simpa using c
  have:=ag7 (g:=g) hb.2 j;simpa [ab] using this
theorem LS{g:Nat×Bool}(a:T.get (some g)=false):∀{R:List (Bool×Row)},Zz R=true->∀it∈ab ρ T (R.map λx=>C1 (some g) x.2),it.cV=true/\∀M w,it.P M w
 |[],_,it,h=>by cases h
 |(m,r)::R,hb,it,h=>by
  simp only [Zz,ah] at hb;rw [er,ab,er] at h;rcases List.mem_cons.1 h with rfl|h
  .cases r with
   |sli k id t l b=>
    cases k with
    |none=>exact ⟨rfl,λM w h=>by rw [a] at h;cases h⟩
    |some k=>simp [slB] at hb
   |own id t e l c=>exact ⟨rfl,λM w h=>by rw [a] at h;cases h⟩
   |_=>simp [slB] at hb
  .exact LS a hb.2 it h
theorem fO.rw{R:List (Bool×Row)}{I:fJ}(h:fO (RwI ρ T) R I):fO cd (dM I) (ab ρ T (R.map (·.2))):=by
 induction h with
 |nil=>exact .nil
 |cons a _ ih=>exact .cons a.2.1 ih
theorem Xi{R:List (Bool×Row)}:(R.map λx=>C1 none x.2)=R.map (·.2):=rfl
theorem abh{N2:List Nm}{B:zh}{c:Nat}(p:NB ρ B N)(hp:xD N N2)(q:SO c B=true):
  xY (λi=>aC (Nat.blt i c) (ρ i) ((N2[i-c]?).getD df)) (uN B c) B.length N2:=by
 intro i a k;have e:∀n,(aC (Nat.blt (c+n) c) (ρ (c+n)) ((N2[c+n-c]?).getD df))=(N2[n]?).getD df:=λn=>by
  have:Nat.blt (c+n) c=false:=by
   cases hb:Nat.blt (c+n) c
   .rfl
   .simp only [j5] at hb;omega
  rw [this,show c+n-c=n by omega]
 unfold uN;split
 .rename_i j d;obtain ⟨s,r,f⟩:=p.get d;have e1:=hp.at_ r;rw [k] at e1;cases e1;have b:Nat.blt j c=true:=by
   have key:∀(B:zh) (i:Nat),SO c B=true->B[i]? =some (some j)->Nat.blt j c=true:=λB=>by
    induction B with
    |nil=>intro i _ h;simp at h
    |cons o l ih=>
     intro i h g;simp only [SO,ah] at h;cases i with
     |zero=>simp at g;subst g;exact h.1
     |succ i=>exact ih i h.2 (by simpa using g)
   exact key B i q d
  simp only [b];refine ⟨f.1.symm,f.2.1.symm,f.2.2.symm,λm=>?_⟩;have:=(List.getElem?_eq_some_iff.1 d).1;omega
 .simp only [e,k,qD];exact ⟨trivial,trivial,trivial,λ_=>trivial⟩
theorem afC{ρ':aB}{c:Nat}(a:aW c ρ ρ'):{X:List (Nat×List AV)}->VJ c X=true->eA ρ' X=eA ρ X
 |[],_=>rfl
 |x::X,h=>by simp only [VJ,ah] at h;show (x.1,AV.ar ρ' x.2)::eA ρ' X=(x.1,AV.ar ρ x.2)::eA ρ X;rw [AV.cj a _ h.1,afC a h.2]
end
section
variable {P : Program} {R : Type} {r : R} {K : cT R} {T : aD} {fr : Fr} {st : aE} {g : GK} {d : zu} {ρ : aB} {Φ Γg : Ctx} {w : World} {ty : TypeId} {pos : String} {af : zw} {gd : zg}
theorem PN{e:au}{args:List AV}{a:MR}{l:List Row}{q:fA (og e.r++iG e.os)}{v:Value}{w':World}{p N2:List Nm}{F s:List cn}{E n:fJ}{X1 W:kr}
  (hl:st.low fr=true) (J:bI st.c l=true) (I:NB ρ a.B N) (hB:SO st.c a.B=true) (hA:AV.cm st.c args=true) (hX:VJ st.c a.X=true) (hF:tH (yH a.B e.ps args a.X) e.os=true)
  (h1:Sem e.r v none none N F E X1 p) (z:HZ (Yj N e.ps (AV.ar ρ args) (eA ρ a.X)) (λi=>(AV.ar ρ args)[i]?) e.os p s n W N2) (hD:F++s=ic _ q)
  (hg:T.get g=true) (hs:Sat ((dM E++dM n)++(ab ρ T l++(ab ρ T fr.H++Φ))) w') (f:g=none\/e.os=[]) (h:Qe fr st g d args e a l K q=some r):aY r K T fr st g d ρ Φ v w':=by
 have w:=wI _ _ _ _ _ _ _ _ _ h1;have u:=UJ _ _ _ _ _ _ z;have m:=abh (N2:=N2) I (w.trans u) hB;have b:aW st.c ρ (λi=>aC (Nat.blt i st.c) (ρ i) ((N2[i-st.c]?).getD df)):=λj hj=>by
  have:Nat.blt j st.c=true:=by simpa using hj
  simp only [this]
 generalize hρ:(λi=>aC (Nat.blt i st.c) (ρ i) ((N2[i-st.c]?).getD df))=ρ' at m b;have y:a.B.length=N.length:=I.length;obtain ⟨V,U,S,a4,Q⟩:=Dl (T:=T) e.r v none none N F E X1 p h1 (Ho _) (m.pre u) (by omega) s;have M:HZ (λi=>fX ρ' (yH a.B e.ps args a.X i)) (λi=>(AV.ar ρ args)[i]?) e.os p s n W N2:=by
  have e1:(λi=>fX ρ' (yH a.B e.ps args a.X i))=Yj N e.ps (AV.ar ρ args) (eA ρ a.X):=by
   funext i
   rw [<-AV.cj b _ hA,<-afC b hX,ai4 (ad6 b hB I)]
  rw [e1];exact z
 obtain ⟨b1,P,O,o⟩:=Uy (T:=T) e.os p s n W N2 M hF m (c9 (by omega) w.len) [];unfold Qe at h;rw [<-hD,y] at h;generalize fill (uN a.B st.c) e.r none none N.length (F++s)=L at V U S a4 Q h;obtain ⟨v',D,k,DD,XX⟩:=L;simp only at V U S a4 Q;subst U;subst S;dsimp only at h;rw [hV] at b1 P O o;generalize fZ (uN a.B st.c) (yH a.B e.ps args a.X) e.os p.length DD=L at b1 P O o h;obtain ⟨E2,Y,Z,DD2⟩:=L;simp only at P O o;dsimp only at h;obtain ⟨c1,c2⟩:=aI h;refine aY.new (ρ':=ρ') hl c2 b (by simp) rfl V ?_;have t:Sat ((ab ρ' T (D.map (·.2))++ab ρ' T (Y.map (·.2)))++(ab ρ T l++(ab ρ T fr.H++Φ))) w':=by have k1:=Sat.leL (A:=[]) (B:=dM E) (C:=dM n++(ab ρ T l++(ab ρ T fr.H++Φ))) (by simpa using hs) Q.rw;have Z:=Sat.leL (A:=ab ρ' T (D.map (·.2))) (B:=dM n) (C:=ab ρ T l++(ab ρ T fr.H++Φ)) k1 o.rw;simpa using Z
 have e3:=bh (T:=T) b J;show Sat (ab ρ' T ((D++Y).map (λx=>C1 g x.2)++l)++(ab ρ T fr.H++Φ)) w';rw [bp,e3,q0,bp];cases g with
 |none=>
  rw [Xi,Xi];simpa using t
 |some gk=>
  rcases f with f|f
  .cases f
  .have G:Y=[]:=by
    have hI:n=[]:=by rw [f] at z;exact z.2.1
    rw [hI] at o;cases o;rfl
   subst G;have k3:=ag7 (g:=gk) (A:=[]) (R:=D) (B:=ab ρ T l++(ab ρ T fr.H++Φ)) c1 (by simpa using t);simpa using k3
theorem aol{e:au}{op:Op}{args:List AV}(hl:st.low fr=true)(t:Sat (ab ρ T st.G++(ab ρ T fr.H++Φ)) w)(he:e.Ok P Γg)(hΓ:∀it∈Γg,it∈Φ)
  (ent:T.get g=true->∀n j,Fits n (az ρ T st.E fr.F) j->(execOp j.eval ⟨d,op,ty,pos,af,gd⟩).run P w= .ok (.enter e.f (AV.ar ρ args).toArray) w) (h:amc T fr st g d args e K=some (some r)):
  jX P T g (az ρ T st.E fr.F) ⟨d,op,ty,pos,af,gd⟩ w (aY r K T fr st g d ρ Φ):=by
 have hGl:=tq (ids:=eQ st.G fr.H e.ps args) (aE.cS.1 hl).2.2.1;replace t:=kh (ids:=eQ st.G fr.H e.ps args) t
 -- what is lent, taken and handed back
 have key:∀(p o:List Row) (a:MR) (s:fA (oL e.ps)) (q:fA (og e.r++iG e.os)),Sat (ab ρ T p++(ab ρ T o++Φ)) w->JA p o e.ps args [] [] []=some a->Ew (a.S.map λx=>dL p o x.2)=true->
   cB (oL e.ps) a.D=some s->e.m s=some q->gK P e.f (AV.ar ρ args) w λv w'=>∃(N O N2:List Nm) (V U:List cn) (R Q:fJ) (X1 X2:kr),NB ρ a.B N/\Sem e.r v none none N V R X1 O/\
    HZ (Yj N e.ps (AV.ar ρ args) (eA ρ a.X)) (λi=>(AV.ar ρ args)[i]?) e.os O U Q X2 N2/\V++U=ic _ q/\Sat ((dM R++dM Q)++jJ (B0 p o a.S) (ab ρ T p++(ab ρ T o++Φ))) w':=λp o a s q t hm hnd b hq=>by
  obtain ⟨N,I,s1,W,a1⟩:=BA t e.ps args [] [] [] a [] hm (.inl rfl) .nil;rw [<-Di _ b] at s1;obtain ⟨p1,p2⟩:=Qi t a1;have C:=AD hnd;obtain ⟨q1,_⟩:=y8 t p1 C;refine (he.2 s q hq (AV.ar ρ args) N I (eA ρ a.X) _ w (by simpa only [AV.ar] using s1) q1 (λit u=>?_)).mono ?_
  .obtain ⟨k,l⟩:=List.mem_iff_getElem?.1 (hΓ it u);have hk2:(ab ρ T p++(ab ρ T o++Φ))[p.length+o.length+k]? =some it:=by
    rw [ca (by simp [ab];omega),ca (by simp [ab];omega)];have:p.length+o.length+k-(ab ρ T p).length-(ab ρ T o).length=k:=by simp [ab];omega
    rw [this];exact l
   refine ej (i:=p.length+o.length+k) ?_;rw [Dk,hk2];intro hmem;obtain ⟨x,_,hx⟩:=List.mem_map.1 hmem;have:=VI hx;omega
  .intro v w' Z;obtain ⟨O,N2,V,U,R,Q,X1,X2,c1,c2,c3,M⟩:=Z;have J:=JQ p2 C M;rw [VD a1] at J;exact ⟨N,O,N2,V,U,R,Q,X1,X2,W,c1,c2,c3,J⟩
 unfold amc at h;cases g with
 |none=>
  dsimp only at h;split at h
  .rename_i a hm;obtain ⟨h1,z⟩:=aI h;simp only [ah] at h1;obtain ⟨⟨⟨⟨⟨h3,h4⟩,h5⟩,h6⟩,h7⟩,h9⟩:=h1;split at z
   .rename_i s b;simp only [cH] at z;obtain ⟨q,hq,l⟩:=iy z;refine .none_ (λn j hf=> .inr (.inr ⟨e.f,AV.ar ρ args,ent aD.get_none n j hf,(key _ _ a s q t hm h3 b hq).mono λv w' Z=>?_⟩));obtain ⟨N,O,N2,V,U,R,Q,X1,X2,W,c1,c2,c3,M⟩:=Z;rw [Dx h4] at M;have J:=GH M;refine PN hl ?_ W h5 h6 h7 h9 c1 c2 c3 aD.get_none J (.inl rfl) l;have Y:∀(L:zh) (G:List Row) (k:Nat),bI st.c G=true->bI st.c (lj (tQ L k G))=true:=λL G=>by
     induction G with
     |nil=>intro k _;rfl
     |cons r G ih=>
      intro k hG;simp only [bI,ah] at hG;show bI st.c (lj ((aC (la k L) .gone r)::tQ L (k+1) G))=true;cases la k L
      .cases r <;> first|exact ih (k+1) hG.2|(simp only [lj,bI,ah];exact ⟨hG.1,ih (k+1) hG.2⟩)
      .exact ih (k+1) hG.2
    exact Y _ _ _ hGl
   .cases z
  .cases h
 |some gk=>
  dsimp only at h;split at h
  .rename_i a hm;obtain ⟨h1,z⟩:=aI h;simp only [ah] at h1;obtain ⟨⟨⟨⟨⟨⟨h3,h4⟩,h8⟩,h5⟩,h6⟩,h7⟩,h9⟩:=h1;have hos:e.os=[]:=by simpa using h8
   split at z
   .rename_i s b;simp only [cH] at z;obtain ⟨q,hq1,hq0,l⟩:=WE z;refine ⟨λy=>λn j hf=> .inr (.inr ⟨e.f,AV.ar ρ args,ent y n j hf,(key _ _ a s q (Uh (A:=ab ρ T (xO T (some gk) (cP (eQ st.G fr.H e.ps args) st.G))) y (Uh (A:=[]) y t)) hm h3 b (hq1 y)).mono λv w' Z=>?_⟩),λy=>?_⟩
    .obtain ⟨N,O,N2,V,U,R,Q,X1,X2,W,c1,c2,c3,M⟩:=Z;rw [afU h4] at M;have J:=Sat.leL M ZN;rw [<-b0] at J;have c6:=Sat.leL J ZN;rw [b0] at c6;exact PN hl hGl W h5 h6 h7 h9 c1 c2 c3 y c6 (.inr hos) l
    .have e0:=hq0 y;subst e0;unfold Qe at l;generalize fill (uN a.B st.c) e.r none none a.B.length (ic _ (alE _))=L at l;obtain ⟨v',R1,k,DD,XX⟩:=L;dsimp only at l;have e2:fZ (uN a.B st.c) (yH a.B e.ps args a.X) e.os k DD=⟨[],[],k,DD⟩:=by rw [hos];rfl
     rw [e2] at l;dsimp only at l;obtain ⟨d1,d2⟩:=aI l;refine ⟨_,aY.jP d2 (by simp) rfl rfl ?_⟩;show Sat (ab ρ T ((R1++[]).map (λx:Bool×Row=>C1 (some gk) x.2)++_)++_) w;rw [hV,bp,b0];exact DA t _ (λit u=>⟨(LS y d1 it u).1,(LS y d1 it u).2 _ _⟩)
   .cases z
  .cases h
end
def Yk:(t:Ty)->List t.T->Option zq
 | .s,xs=>some (xs.map S)
 | .i k,xs=>some (xs.map (.int k))
 |_,_=>none
def glx(b:Nat):Item where
 own:=[]
 P M w:= ¬M b/\∃m:Int,w.cell? ⟨b,0,none⟩=some (.int .i64 m)
 lt _ b hb:=by cases hb
 cE {M M' w w'} h m _ _:=by
  obtain ⟨h1,x,hx⟩:=h;have hlt:b<w.heap.size:=by
   rcases ql b w.heap.size with h|h
   .exact h
   .simp [World.cell?,Array.getElem?_eq_none h] at hx
  obtain ⟨h2,h3⟩:=m.2 _ hlt h1;exact ⟨h2,x,by unfold World.cell? at hx ⊢; rw [h3];exact hx⟩
 cV:=true
 hp _:=rfl
def glI(p:Nat×Nat×cn):Item:=match p.2.2 with
 |⟨.l t,xs⟩=>(match Yk t xs with
  |some cs=>gl p.1 cs
  |none=>gS)
 |⟨.un,_⟩=>glx p.1
 |_=>gS
def Cx.Γ(X:Cx):Ctx:=X.gls.map glI
def adG:List (Nat×Nat×cn)->Nat->Option cn
 |[],_=>none
 |p::l,b=>aC (Nat.beq p.1 b) (some p.2.2) (adG l b)
theorem ad2:{l:List (Nat×Nat×cn)}->{b:Nat}->{d:cn}->adG l b=some d->∃p,p∈l/\p.1=b/\p.2.2=d
 |[],_,_,h=>by cases h
 |p::l,b,d,h=>by
  unfold adG at h;rcases dT h with ⟨f,a⟩|⟨_,a⟩
  .cases a;exact ⟨p,ct .., ai f,rfl⟩
  .obtain ⟨q,e,c⟩:=ad2 a;exact ⟨q,cb _ e,c⟩
theorem an4{M:Nat->Prop}{w:World}:{t:Ty}->{xs:List t.T}->{cs:zq}->Yk t xs=some cs->db t.rep M w cs xs
 | .s,xs,_,h=>by cases h;exact UD xs
 | .i k,xs,_,h=>by cases h;exact abS xs
 | .bo,_,_,h|.un,_,_,h|.n,_,_,h|.p _ _,_,_,h|.l _,_,_,h|.mp _ _,_,_,h|.ex,_,_,h=>by cases h
structure GA where
 n:Nat
 e:TypeId
 b:Nat
 t:Ty
 xs:List t.T
 m:Nat
def gaA(X:Cx)(T:aD)(fr:Fr)(st:aE)(g:GK)(t:TypeId)(x:Operand):Option GA:=match X.P.underlying t with
 |some (.array n e)=>(match lK X.P e with
  |some z=>(match bC T st.E fr.F g x with
   |some (.gp b)=>(match adG X.gls b with
    |some ⟨.l u,xs⟩=>aC ((Yk u xs).isSome&&Nat.beq z.1 u.n'&&Nat.beq n xs.length&&Nat.blt 0 n) (some ⟨n,e,b,u,xs,z.1⟩) none
    |_=>none)
   |_=>none)
  |none=>none)
 |_=>none
section
variable {X : Cx} {R : Type} {r : R} {K : cT R} {T : aD} {fr : Fr} {st : aE} {g : GK} {d : Tmp} {ρ : aB} {Φ : Ctx} {w : World} {ty : TypeId} {pos : String} {af : zw} {gd : zg}
theorem aej{t:TypeId}{q:GA}(f:∀it∈X.Γ,it∈Φ)(D:Sat (ab ρ T st.G++(ab ρ T fr.H++Φ)) w)(h:gaA X T fr st g t x=some q):
  X.P.underlying t=some (.array q.n q.e)/\(∃bytes z,TI X.P q.e q.m bytes z)/\aw (az ρ T st.E fr.F) (T.get g) x (.pointer (some ⟨q.b,0,none⟩))/\q.m=q.t.rep.n/\q.n=q.xs.length/\Nat.blt 0 q.n=true/\
   bW q.t.rep (Ctx.M (ab ρ T st.G++(ab ρ T fr.H++Φ))) w (sl (some ⟨q.b,0,none⟩,q.xs.length,q.xs.length)) q.xs:=by
 unfold gaA at h;split at h
 .rename_i n e C;split at h
  .rename_i z B;obtain ⟨m,bytes,z⟩:=z;split at h
   .rename_i b hx;split at h
    .rename_i u xs I;obtain ⟨v,N⟩:=aI h;cases N;simp only [ah] at v;obtain ⟨⟨⟨s,L⟩,K⟩,J⟩:=v;have c:=aV (ρ:=ρ) hx;simp only [AV.val] at c;obtain ⟨p,y,r,o⟩:=ad2 I;obtain ⟨k,A,R⟩:=p;simp only at r o;subst r;subst o;cases j:Yk u xs with
     |none=>rw [j] at s;cases s
     |some cs=>
      have d:gl k cs∈Φ:=by have:=f (glI (k,A,⟨.l u,xs⟩)) (List.mem_map.2 ⟨_,y,rfl⟩);unfold glI at this;simp only [j] at this;exact this
      have a:gl k cs∈ab ρ T st.G++(ab ρ T fr.H++Φ):=gx _ (gx _ d);obtain ⟨i,hi⟩:=List.mem_iff_getElem?.1 a;obtain ⟨Q,O⟩:=D.gl hi;exact ⟨C,⟨bytes,z,cW B⟩,c,(ai L).trans u.Er.symm,ai K,J,avE Q O (an4 j)⟩
    .cases h
   .cases h
  .cases h
 .cases h
def adL(X:Cx)(T:aD)(fr:Fr)(st:aE)(g:GK)(d:Tmp)(t:TypeId)(x y:Operand)(K:cT R):Option R:=match gaA X T fr st g t x with
 |some q=>(match bC T st.E fr.F g y with
  |some (.int _ i)=>aur T g st d q.t q.xs i K
  |_=>none)
 |none=>none
theorem aeZ{O:TypeId}{y:Operand}(hl:st.low fr=true)(Q:∀it∈X.Γ,it∈Φ)(W:Sat (ab ρ T st.G++(ab ρ T fr.H++Φ)) w)(h:adL X T fr st g d O x y K=some r):
  Nw X.P T g (az ρ T st.E fr.F) ⟨some d,.indexAddr O x y,ty,pos,af,gd⟩ w (aY r K T fr st g (some d) ρ Φ):=by
 unfold adL at h;split at h
 .rename_i q hq;obtain ⟨V,⟨bytes,z,I⟩,D,Z,Y,_,hS⟩:=aej Q W hq;obtain ⟨n,e,b,t,l,m⟩:=q;simp only at V I D Z Y hS h;split at h
  .rename_i k i hy;have C:=aV (ρ:=ρ) hy;simp only [AV.val] at C;obtain ⟨v,b1,b2⟩:=CW h;have key:∃(p:Addr) (f:aB),aW st.c ρ f/\(f st.c).a=p/\(T.get g=true->BR (sl (some ⟨b,0,none⟩,l.length,l.length)) i m p)/\
     ∀it∈ab f T (.elm g st.c (dZ t v (st.c+1)).1::((dZ t v (st.c+1)).2.1.map (xS g))),it.cV=true/\it.P (Ctx.M (ab ρ T st.G++(ab ρ T fr.H++Φ))) w:=by
    cases u:T.get g
    .refine ⟨⟨0,0,none⟩,ρ.set st.c df,aB.bd,by rw [aB.bH];rfl,(λh=>by cases h),λit j=>?_⟩;rw [ab,er] at j;rcases List.mem_cons.1 j with rfl|j
     .exact ⟨rfl,λh=>by rw [u] at h;cases h⟩
     .obtain ⟨r1,A,rfl⟩:=List.mem_map.1 j;obtain ⟨r2,o,rfl⟩:=List.mem_map.1 A;obtain ⟨j1,t1,l1,rfl⟩:=Pj _ _ _ _ o;exact wu (λh=>by rw [u] at h;cases h)
    .obtain ⟨e1,vs,e2,e3,e4⟩:=hS.atA (b1 u);obtain ⟨f,B⟩:=Jb (T:=T) t v (st.c+1) vs e3 (ρ.set st.c { df with a:=tW (sl (some ⟨b,0,none⟩,l.length,l.length)) i t.rep.n });have N:(f st.c).a=tW (sl (some ⟨b,0,none⟩,l.length,l.length)) i t.rep.n:=by rw [B.ag _ (qx _),aB.bH]
     refine ⟨tW (sl (some ⟨b,0,none⟩,l.length,l.length)) i t.rep.n,f,aB.bd.trans B.ag (mi _),N,λ_=>by rw [Z];exact e1,λit j=>?_⟩;rw [ab,er] at j;rcases List.mem_cons.1 j with rfl|j
     .refine ⟨rfl,λ_=>?_⟩;show ¬Ctx.M _ (f st.c).a.block/\bT w (f st.c).a _;rw [N,B.eq];exact ⟨e4,e2⟩
     .obtain ⟨r1,A,rfl⟩:=List.mem_map.1 j;obtain ⟨r2,o,rfl⟩:=List.mem_map.1 A;have S:=B.rp _ o;obtain ⟨j1,t1,l1,rfl⟩:=B.rs _ o;exact wu (λ_=>S)
   obtain ⟨p,f,U,k2,k3,k4⟩:=key;have R:=DA W _ k4;have eG:=bh (T:=T) U (aE.cS.1 hl).2.2.1
   -- what stands there where g does not hold does not count
   have J:∀w',bk X.P (az ρ T st.E fr.F) (T.get g) ⟨some d,.indexAddr O x y,ty,pos,af,gd⟩ w' (.pointer (some ((⟨b,0,none⟩:Addr).add (i.toNat*m)))):=λw'=>
    CN V I D C (λu=>as4 (b1 u) Y.symm)
   have s:aY r K T fr st g (some d) ρ Φ (.pointer (some p)) w:=by
    refine aY.new (ρ':=f) hl b2 U (c9 (mi _) (Pw _ _ _)) rfl (by simp only [AV.val,k2];simp [Addr.add]) ?_;show Sat (ab f T (Row.elm g st.c _::(_++st.G))++_) w;have e8:ab f T (Row.elm g st.c (dZ t v (st.c+1)).1::((dZ t v (st.c+1)).2.1.map (xS g)++st.G))=ab f T (.elm g st.c (dZ t v (st.c+1)).1::((dZ t v (st.c+1)).2.1.map (xS g)))++ab f T st.G:=by simp [ab]
    rw [e8,eG,b0];exact R
   cases u:T.get g
   .exact ⟨_,λw'=>λn a hf L=>(by rw [u] at L;cases L),s⟩
   .obtain ⟨a,len,cap,e1,_,_,e2⟩:=k3 u;have e3:p=(⟨b,0,none⟩:Addr).add (i.toNat*m):=by
     injection e1 with e1 _ _
     cases e1;exact e2
    subst e3;exact ⟨_,J,s⟩
  .cases h
 .cases h
def aaa(X:Cx)(T:aD)(fr:Fr)(st:aE)(d:Tmp)(t:TypeId)(x:Operand)(lo hi mx:Option Operand)(K:cT R):Option R:=match lo,hi,mx with
 |none,none,none=>(match gaA X T fr st none t x with
  |some q=>K { st with c:=st.c+1,E:=cL (some d) none (.sl st.c) st.E,G:= .sli none st.c q.t q.xs false::st.G }
  |none=>none)
 |_,_,_=>none
theorem asp{t:TypeId}{lo hi g:Option Operand}(m:st.low fr=true)(e:∀it∈X.Γ,it∈Φ)(i:Sat (ab ρ T st.G++(ab ρ T fr.H++Φ)) w)(h:aaa X T fr st d t x lo hi g K=some r):
  jX X.P T none (az ρ T st.E fr.F) ⟨some d,.slice t x lo hi g,ty,pos,af,gd⟩ w (aY r K T fr st none (some d) ρ Φ):=by
 unfold aaa at h;split at h
 .split at h
  next q k=>obtain ⟨j,⟨bytes,z,f⟩,a,p,l,c,o⟩:=aej e i k;rw [aD.get_none] at a;refine .none_ (bK.gd (bK.run (X8 j f c a) ?_));refine aY.push (x:={ df with v:=(some ⟨q.b,0,none⟩,q.n,q.n) }) m h (by simp only [AV.val,aB.bH];rfl) (i.add rfl ?_);intro _;rw [aB.bH];exact ⟨by rw [l];exact o,λh=>by cases h⟩
  .cases h
 .cases h
theorem asx{t:TypeId}{lo hi g:Option Operand}(m:st.low fr=true)(c:∀it∈X.Γ,it∈Φ)(i:Sat (ab ρ T st.G++(ab ρ T fr.H++Φ)) w)(h:aaa X T fr st d t x lo hi g K=some r):
  Nw X.P T none (az ρ T st.E fr.F) ⟨some d,.slice t x lo hi g,ty,pos,af,gd⟩ w (aY r K T fr st none (some d) ρ Φ):=by
 unfold aaa at h;split at h
 .split at h
  next q k=>obtain ⟨j,⟨bytes,z,f⟩,e,p,l,a,o⟩:=aej c i k;refine ⟨_,λw'=>X8 j f a e,?_⟩;refine aY.push (x:={ df with v:=(some ⟨q.b,0,none⟩,q.n,q.n) }) m h (by simp only [AV.val,aB.bH];rfl) (i.add rfl ?_);intro _;rw [aB.bH];exact ⟨by rw [l];exact o,λh=>by cases h⟩
  .cases h
 .cases h
end
variable {cv : zo × AV}
def sEq(P:Program)(t:TypeId)(a b:AV):zo:=match P.underlying t with
 |some (.int _)=>(match a,b with
  | .int k x,.int k' y=>aC (gF k k') (some (x==y)) none
  |_,_=>none)
 |some .bool=>(match a,b with
  | .bool x,.bool y=>some (x==y)
  |_,_=>none)
 |some .string=>(match a,b with
  | .str x,.str y=>some (x==y)
  |_,_=>none)
 |_=>none
def fEq(P:Program):List Field->Nat->List AV->List AV->Option zA
 |[],_,l1,l2=>aC (l1.isEmpty&&l2.isEmpty) (some []) none
 |f::fs,k,l1,l2=>(match l1,l2 with
  |a::l1,b::l2=>aC (f.name != "_" &&Nat.beq f.offset k) (match sEq P f.type a b with
   |some r=>(match fEq P fs (k+1) l1 l2 with
    |some l=>some (r::l)
    |none=>none)
   |none=>none) none
  |_,_=>none)
def agz:Bool->zA->Bool
 |b,[]=>b
 |b,c::l=>agz (b&&c) l
def eqL:zA->Bool
 |[]=>true
 |b::l=>agz b l
theorem aiP:∀{l:zA} {b:Bool},agz b l=(b&&l.foldr (· && ·) true)
 |[],b=>by simp [agz]
 |c::l,b=>by simp only [agz,aiP,List.foldr_cons,Bool.and_assoc]
theorem auL:∀{l:zA},eqL l=l.foldr (· && ·) true
 |[]=>rfl
 |b::l=>by simp only [eqL,aiP,List.foldr_cons]
def aqa(X:Cx)(T:aD)(E F:aG)(g:GK):Op->CV
 | .binOp op t x y _=>(match bC T E F g x with
  |some (.agg l1)=>(match bC T E F g y with
   |some (.agg l2)=>(match X.P.underlying t with
    |some (.struct fs)=>aC (!(X.P.eqGuardType X.P.depth t)&& !(X.P.stoodInHeld t)) (match fEq X.P fs.toList 0 l1 l2 with
     |some bs=>(match op with
      | .eql=>pv (.bool (eqL bs))
      | .neq=>pv (.bool (!(eqL bs)))
      |_=>none)
     |none=>none) none
    |_=>none)
   |_=>none)
  |_=>none)
 |_=>none
def ap4(X:Cx)(T:aD)(E F:aG)(g:GK):Op->CV
 | .typeAssert x _ t true=>(match X.P.underlying t with
  |some dd=>aC (!(gY dd)) (match bC T E F g x with
   |some (.ifc t' v)=>aC (Nat.beq t' t) (pv (.tuple [v,.bool true])) (match lK X.P t with
    |some z=>pv (.tuple [.raw z.2.2,.bool false])
    |none=>none)
   |some (.raw .nilIface)=>(match lK X.P t with
    |some z=>pv (.tuple [.raw z.2.2,.bool false])
    |none=>none)
   |_=>none) none
  |none=>none)
 |_=>none
def akb(X:Cx)(T:aD)(E F:aG)(g:GK):Op->CV
 | .indexAddr t x (.const (.int _ (.ofNat j)))=>(match X.P.underlying t with
  |some (.array n e)=>(match lK X.P e with
   |some z=>(match bC T E F g x with
    |some (.ptr id off)=>aC (Nat.blt j n) (pv (.ptr id (off+j*z.1))) none
    |_=>none)
   |none=>none)
  |_=>none)
 |_=>none
def apW(X:Cx)(T:aD)(E F:aG)(g:GK)(op:Op):CV:=match apk X T E F g op with
 |some cv=>some cv
 |none=>(match aqa X T E F g op with
  |some cv=>some cv
  |none=>(match ap4 X T E F g op with
   |some cv=>some cv
   |none=>akb X T E F g op))
section
variable {X : Cx} {T : aD} {E F : aG} {g : GK} {ρ : aB} {w : World} {dst : zu} {ty : TypeId} {pos : String} {af : zw} {gd : zg}
theorem auq{P:Program}{t:TypeId}{a b:AV}{r:Bool}(d:Nat)(h:sEq P t a b=some r):(∃td,P.underlying t=some td/\kI td=false)/\(Op.equalIn (d+1) t (a.val ρ) (b.val ρ)).run P w= .ok r w:=by
 unfold sEq at h;split at h
 .rename_i i c;split at h
  next k x j y=>obtain ⟨g,f⟩:=aI h;cases f;have e:=iI g;subst e;exact ⟨⟨_,c,rfl⟩,by simp only [AV.val];exact run_equalIn_int w d t _ _ _ _ c⟩
  .cases h
 .rename_i c;split at h
  .cases h;exact ⟨⟨_,c,rfl⟩,by simp only [AV.val];exact run_equalIn_bool' w d t _ _ c⟩
  .cases h
 .rename_i c;split at h
  .cases h;exact ⟨⟨_,c,rfl⟩,by simp only [AV.val];exact acb _ w d t _ _ c⟩
  .cases h
 .cases h
theorem amD{P:Program}{xs ys:zq}(d:Nat):∀{m:List Field} {k:Nat} {g e:List AV} {i:zA},fEq P m k g e=some i->xs.drop k=AV.ar ρ g->ys.drop k=AV.ar ρ e->
  (Op.eqFields (d+1) xs.toArray ys.toArray m).run P w= .ok (i.foldr (· && ·) true) w
 |[],k,g,e,i,h,_,_=>by
  unfold fEq at h;obtain ⟨_,c⟩:=aI h;cases c;exact asm
 |f::m,k,g,e,i,h,hx,hy=>by
  unfold fEq at h;split at h
  .rename_i a g b e;obtain ⟨j,c⟩:=aI h;simp only [ah] at j;have n:=ai j.2;split at c
   .rename_i r p;split at c
    .rename_i l q;cases c;obtain ⟨⟨u,t1,t2⟩,o⟩:=auq (ρ:=ρ) (w:=w) d p;simp only [AV.ar] at hx hy;have t:xs[k]? =some (a.val ρ):=by rw [<-List.head?_drop,hx];rfl
     have s:ys[k]? =some (b.val ρ):=by rw [<-List.head?_drop,hy];rfl
     refine aq6 j.1 (amk t1 t2 (by rw [n];exact t)) (amk t1 t2 (by rw [n];exact s)) o ?_;refine amD d q ?_ ?_
     .rw [<-n9,hx];rfl
     .rw [<-n9,hy];rfl
    .cases c
   .cases c
  .cases h
theorem aqX{op:Op}(h:aqa X T E F g op=some cv):nY X.P (az ρ T E F) ρ (T.get g) ⟨dst,op,ty,pos,af,gd⟩ w cv:=by
 unfold aqa at h;split at h
 .rename_i o t x y t';split at h
  .rename_i k hx;split at h
   .rename_i j l;split at h
    .rename_i m f;obtain ⟨d,c⟩:=aI h;simp only [ah,gj] at d;split at c
     .rename_i n e;have b:=aV (ρ:=ρ) hx;have a:=aV (ρ:=ρ) l;simp only [AV.val] at b a;have i:X.P.fieldsOf t=m:=by simp [Program.fieldsOf,f]
      have key:(Op.equalIn 10000 t (.agg (AV.ar ρ k).toArray) (.agg (AV.ar ρ j).toArray)).run X.P w= .ok (eqL n) w:=by rw [run_equalIn_struct w 9999 t _ _ (by rw [i];exact f) d.2,i,auL];exact amD 9998 e rfl rfl
      split at c
      .refine .pv c (cQ b a ?_);rw [Sem.run_bind,run_eqGuard_agg w _ _ _ _ _ _ d.1,Result.andThen_ok,run_eql_struct,key];simp only [AV.val,Result.andThen_ok]
      .refine .pv c (cQ b a ?_);rw [Sem.run_bind,run_eqGuard_agg w _ _ _ _ _ _ d.1,Result.andThen_ok,run_neq_struct,key];simp only [AV.val,Result.andThen_ok]
      .cases c
     .cases c
    .cases h
   .cases h
  .cases h
 .cases h
theorem apS{op:Op}(h:ap4 X T E F g op=some cv):nY X.P (az ρ T E F) ρ (T.get g) ⟨dst,op,ty,pos,af,gd⟩ w cv:=by
 unfold ap4 at h;split at h
 .rename_i x s t;split at h
  .rename_i dd f;obtain ⟨k,b⟩:=aI h;have i:gY dd=false:=by simpa using k
   split at b
   .rename_i t' v hx;have a:=aV (ρ:=ρ) hx;simp only [AV.val] at a;rcases dT b with ⟨j,c⟩|⟨j,c⟩
    .have:=ai j;subst this;refine .pv c ?_;simp only [AV.val,AV.ar];exact acF f i a
    .split at c
     next z d=>obtain ⟨n,bytes,z⟩:=z;refine .pv c ?_;simp only [AV.val,AV.ar];exact acd (λe=>by subst e;simp at j) f i (cW d) a
     .cases c
   .rename_i hx;split at b
    next z d=>obtain ⟨n,bytes,z⟩:=z;have a:=aV (ρ:=ρ) hx;simp only [AV.val] at a;refine .pv b ?_;simp only [AV.val,AV.ar];exact acO f i (cW d) a
    .cases b
   .cases b
  .cases h
 .cases h
theorem amL{op:Op}(h:akb X T E F g op=some cv):nY X.P (az ρ T E F) ρ (T.get g) ⟨dst,op,ty,pos,af,gd⟩ w cv:=by
 unfold akb at h;split at h
 .rename_i t x k j;split at h
  .rename_i n e l;split at h
   .rename_i z i;obtain ⟨m,bytes,z⟩:=z;split at h
    .rename_i id off hx;obtain ⟨f,o⟩:=aI h;have d:=aV (ρ:=ρ) hx;simp only [AV.val] at d;refine .pv o ?_;have a:=CN (P:=X.P) (w:=w) (dst:=dst) (ty:=ty) (pos:=pos) (af:=af) (gd:=gd) (y:= .const (.int k (.ofNat j))) l (cW i) d aw.c (by intro _;rw [j5] at f;exact pR.2 ⟨Int.natCast_nonneg j,by simpa using f⟩)
     have e1:((⟨(ρ id).b,off,none⟩:Addr).add ((Int.ofNat j).toNat*m))=⟨(ρ id).b,off+j*m,none⟩:=by rw [add_plain];rfl
     rw [e1] at a;simpa only [AV.val] using a
    .cases h
   .cases h
  .cases h
 .cases h
theorem aoG{op:Op}(c:fM T E F)(h:apW X T E F g op=some cv):nY X.P (az ρ T E F) ρ (T.get g) ⟨dst,op,ty,pos,af,gd⟩ w cv:=by
 unfold apW at h;split at h
 next b a=>cases h;exact aoK c a
 .split at h
  next b a=>cases h;exact aqX a
  .split at h
   next b a=>cases h;exact apS a
   .exact amL h
end
variable {d : TypeDesc}
def wR{α:Type}(xs ys:List α):List α:=ys.take xs.length++xs.drop ys.length
section
variable {P : Program} {E : Env} {w : World} {g : Bool}
variable {dst : zu} {ty : TypeId} {pos : String} {af : zw} {gd : zg}
theorem aoV{α:Type}{A:eB α}{M:Nat->Prop}{v u:Value}{t ty e:TypeId}{bytes:Nat}{z:Value}{R:zC}(T:P.underlying t=some (.slice e))(B:TI P e A.n bytes z)
  {xs ys:List α} (N:bR A e M w v xs R) (y:bW A M w u ys) (_hM:∀b∈R,M b):
  ∃w',(Builtin.copy_ #[t,t] ty #[v,u]).run P w= .ok (.int .i64 ((Nat.min ys.length xs.length:Nat):Int)) w'/\kP R w w'/\w'.heap.size=w.heap.size/\∀M',Mv M w M' w'->bR A e M' w' v (wR xs ys) R:=by
 obtain ⟨i,hi,hs,_,_⟩:=B.out;by_cases k:xs=[]\/ys=[]
 .have hc:wR xs ys=xs:=by unfold wR;rcases k with k|k <;> subst k <;> simp
  have s:Nat.min ys.length xs.length=0:=by rcases k with k|k <;> subst k <;> simp
  obtain ⟨p,c,rfl,_⟩:=N.shape;obtain ⟨a,c2,rfl⟩:=y.len;refine ⟨w,?_,(Ext.refl w).uP _,rfl,λM' m=>?_⟩
  .have hl:∀a:Addr,(loadCells a 0).run P w= .ok #[] w:=λa=>run_loadCells_list (P:=P) w a [] (λj v hj=>by simp at hj);rw [s];cases a <;> cases p <;> simp [Builtin.copy_,run_underlying T,sizeOf,typeInfo,hi,Builtin.lenOf,Builtin.firstCells,s,hl,storeCells,goInt]
  .rw [hc];exact N.cE (λb hb=>rfl) m
 .have hx:xs≠[]:=λh=>k (.inl h);have hy:ys≠[]:=λh=>k (.inr h);obtain ⟨b,o,c,cur,rfl,rfl,V,r,G,C,L⟩:=N.row hx;rcases y with ⟨_,J⟩|⟨b2,off,I,H,e2,fr2,rfl,X,S,hc2,ho2,l⟩
  .exact absurd J hy
  have O:((H.toList.drop off).take (ys.length*A.n)).length=ys.length*A.n:=l.1;generalize Q:(H.toList.drop off).take (ys.length*A.n)=g at l O;have F:Nat.min ys.length xs.length<=ys.length:=Nat.min_le_left _ _;have E:Nat.min ys.length xs.length<=xs.length:=Nat.min_le_right _ _;generalize s:Nat.min ys.length xs.length=n at F E;have Z:n*A.n<=ys.length*A.n:=jy _ F;have Y:n*A.n<=xs.length*A.n:=jy _ E;have m3:xs.length*A.n<=c*A.n:=jy _ r;have d:(g.take (n*A.n)).length=n*A.n:=by rw [b9];omega
  have x:cur.toList.length=cur.size:=de;have U:=C.1;have run:=uQ (P:=P) (w:=w) (ty:=ty) T B (b:=b) (o:=o) (dl:=xs.length) (dc:=c) (cur:=cur) (e':=e) (a:=⟨b2,off,none⟩) (ls:=ys.length) (sc:=I) (cs:=g.take (n*A.n))
   (by rw [d,s]) (cell_of_heap S off _ (by rw [d,<-Q,pF,et Z])) V (by rw [d];omega) (λv K=>l.Dm v (sj K))
  refine ⟨_,by rw [run,s];rfl,xN b _,by simp,λM' m=>?_⟩;have W:wR xs ys=ys.take n++xs.drop n:=by
   unfold wR;have q:min ys.length xs.length=n:=s;clear s;rcases Nat.le_total ys.length xs.length with h|h
   .rw [et h] at q;subst q;rw [ei h,ei (b7 _)]
   .rw [xb h] at q;subst q;rw [mE h,mE (b7 _)]
  have f:(wR xs ys).length=xs.length:=by rw [W,cO,b9,ec];omega
  have key:=(((l.take n).mv m).append ((L.drop n).mv m));have D:=setRow_heap w b cur (cur.toList.take o++g.take (n*A.n)++cur.toList.drop (o+(g.take (n*A.n)).length)).toArray e (0,0) V;have K:Value.slice (some ⟨b,o,none⟩) xs.length c=Value.slice (some ⟨b,o,none⟩) (wR xs ys).length c:=by rw [f]
  rw [K];refine bR.mk_ D (by rw [f];exact r) G ⟨?_,C.2⟩ ?_
  .simp only [n7,cO,b9,d,ec,x];omega
  .rw [f,W];have e7:(cur.toList.take o).length=o:=by rw [b9];omega
   have e8:(cur.toList.take o++g.take (n*A.n)++cur.toList.drop (o+(g.take (n*A.n)).length)).drop o=g.take (n*A.n)++(cur.toList.drop o).drop (n*A.n):=by have:=List.drop_left (l₁:=cur.toList.take o) (l₂:=g.take (n*A.n)++cur.toList.drop (o+(g.take (n*A.n)).length));rw [e7,<-b0] at this;rw [this,d,n9]
   simp only [e8];have e1:((g.take (n*A.n))++(cur.toList.drop o).drop (n*A.n)).take (xs.length*A.n)=g.take (n*A.n)++((cur.toList.drop o).take (xs.length*A.n)).drop (n*A.n):=by rw [q9,d,pF,xb Y,qn]
   rw [e1];exact key
theorem alk{x y:Operand}{t e:TypeId}{n m bytes:Nat}{z v:Value}{d:TypeDesc}{cs:zq}{i:Int}{k:IntKind}(l:P.underlying t=some (.array n e))(p:P.underlying e=some d)(b:TI P e m bytes z)
  (hx:aw E g x (.agg cs.toArray)) (h:aw E g y (.int k i)) (r:0<=i) (q:i<(n:Nat)) (j:(if kI d then some (.agg ((cs.drop (i.toNat*m)).take m).toArray) else cs[i.toNat*m]?)=some v):
  bk P E g ⟨dst,.index t x y,ty,pos,af,gd⟩ w v:=
 λn' a f c=>by have hp:=afh (w:=w) p b j;obtain ⟨s,hi,o,_,_⟩:=b.out;simp [execOp,hx n' a f c,h n' a f c,Instr.index,asIntOf,run_underlying l,sizeOf,typeInfo,hi,o,r,q,hp]
theorem aiu{x y h:Operand}{p:Addr}{len m bytes:Nat}{z:Value}{t e:TypeId}{k i:IntKind}(l:P.underlying t=some (.array len e))(b:TI P e m bytes z)(hx:aw E g x (.pointer (some p)))(j:aw E g y (.int k (len:Nat)))(n:aw E g h (.int i (len:Nat))):
  bk P E g ⟨dst,.slice t x none (some y) (some h),ty,pos,af,gd⟩ w (.slice (some p) len len):=
 λn' a f d=>by obtain ⟨o,c,q,_,_⟩:=b.out;simp [execOp,hx n' a f d,j n' a f d,n n' a f d,Instr.sliceAt,run_underlying l,Instr.sureAddr,Instr.sliceBounds,run_sliceBound,sizeOf,typeInfo,c,Addr.add]
theorem alp{y:Operand}{t t' u:TypeId}{v:Value}(b:P.underlying t=some d)(c:gY d=true)(hx:aw E g x (.iface u v))(a:aw E g y .nilIface):
  bk P E g ⟨dst,.binOp .neq t x y t',ty,pos,af,gd⟩ w (.bool true):=
 cQ (P:=P) hx a (by
  rw [Sem.run_bind,eo rfl,Result.andThen_ok];have h:∀k:Nat,(Op.equalIn (k+1) t (.iface u v) .nilIface).run P w= .ok false w:=λk=>by cases d <;> first|(cases c;done)|simp [Op.equalIn,run_underlying b]
  simp only [binOp];simp [Op.equal,Op.maxDepth,h 9999])
theorem ahQ{t t':TypeId}(a:P.underlying t=some d)(b:gY d=true)(hx:aw E g x .nilIface):
  bk P E g ⟨dst,.binOp .neq t x (.const .nilIface) t',ty,pos,af,gd⟩ w (.bool false):=
 cQ (P:=P) hx (y:= .const .nilIface) (v:= .nilIface) (λ_ _ _ _=>rfl) (by
  have h:∀k:Nat,(Op.equalIn (k+1) t .nilIface .nilIface).run P w= .ok true w:=λk=>by cases d <;> first|(cases b;done)|simp [Op.equalIn,run_underlying a]
  have c:(eqGuard .neq t x (.const .nilIface) .nilIface .nilIface).run P w= .ok () w:=by unfold eqGuard;simp
  rw [Sem.run_bind,c,Result.andThen_ok];simp only [binOp];simp [Op.equal,Op.maxDepth,h 9999])
theorem Reach.val{t:TypeId}{u:Value}{a:String}{f:FuncId}(h:OL P t a f false)(b:P.underlying t=some d)(j:∀e,d≠ .pointer e):Reach P w t u a f u:=λk=>by obtain ⟨i,m,hi,c,hp,g⟩:=h.out;unfold method;simp only [typeInfo,hi,c,hp,g,follow,Sem.run_bind,Sem.run_pure,Result.andThen_ok,run_program];cases d <;> first|exact absurd rfl (j _)|simp [receiverAt,run_underlying b,Place.get]
theorem ais{n:Nat}{g:Bool}{f:FuncId}{r:Operand}{it t:TypeId}{d:TypeDesc}{u u':Value}{b:String}{vs:zq}{xs:zn}{tys:Array TypeId}{dst:zu}{gd:Option (Nat×Bool)}
  (m:Enters P f) (k:aw E g r (.func (.methodOf it b) #[] #[])) (e:P.underlying it=some d) (o:gY d=true) (l:g=true->Reach P w t u b f u') (c:iQ E g xs (.iface t u::vs)) {a:Act} (i:Fits n E a) (h:g=true):
  (execOp a.eval ⟨dst,.call ⟨.value r,xs.toArray,tys⟩,ty,pos,af,gd⟩).run P w= .ok (.enter f (u'::vs).toArray) w:=by
 have e1:(Array.map a.eval xs.toArray)=(Value.iface t u::vs).toArray:=by simp [c.map i h]
 have p:=m (u'::vs).toArray w;have j:=l h (P.types.size+99);have e2:P.types.size+99+1=P.types.size+Made.depth:=rfl;rw [e2] at j;have e3:((Value.iface t u::vs).toArray)[0]? =some (Value.iface t u):=by simp
 have s:((Value.iface t u::vs).toArray).extract 1 ((Value.iface t u::vs).toArray).size=vs.toArray:=by simp
 have q:(#[u']++vs.toArray)=(u'::vs).toArray:=by simp
 cases d <;> first|(cases o;done)|skip;simp only [execOp,resolve,k n a i h,Deferred.ofValue,e1,Sem.run_bind,Sem.run_pure,Result.andThen_ok];simp only [vc,invoke,e3,s,Sem.run_bind,run_underlying e,Result.andThen_ok,callMethod,run_program,j,q,p]
end
def aqx(X:Cx)(T:aD)(E F:aG)(g:GK):Op->CV
 | .index t x y=>(match X.P.underlying t with
  |some (.array n e)=>(match lK X.P e with
   |some z=>(match bC T E F g x with
    |some (.agg cs)=>(match bC T E F g y with
     |some (.int _ i)=>aC (decide (0<=i)&&decide (i<(n:Int))) (match lN X.P e (cs.drop (i.toNat*z.1)) with
      |some v=>pv v
      |none=>none) none
     |_=>none)
    |_=>none)
   |none=>none)
  |_=>none)
 | .binOp .neq t x (.const .nilIface) _=>(match X.P.underlying t with
  |some d=>aC (gY d) (match bC T E F g x with
   |some (.ifc _ _)=>pv (.bool true)
   |some (.raw .nilIface)=>pv (.bool false)
   |_=>none) none
  |none=>none)
 | .makeFunc (.methodOf t nm) ⟨[]⟩ ⟨[]⟩=>pv (.raw (.func (.methodOf t nm) #[] #[]))
 |_=>none
section
variable {X : Cx} {ρ : aB} {T : aD} {E F : aG} {g : GK} {w : World} {dst : zu} {ty : TypeId} {pos : String} {af : zw} {gd : zg}
theorem aoB{op:Op}(h:aqx X T E F g op=some cv):nY X.P (az ρ T E F) ρ (T.get g) ⟨dst,op,ty,pos,af,gd⟩ w cv:=by
 unfold aqx at h;split at h
 .rename_i t x y;split at h
  .rename_i n e l;split at h
   .rename_i z r;obtain ⟨m,bytes,z⟩:=z;split at h
    .rename_i cs hx;split at h
     .rename_i k i s;obtain ⟨f,b⟩:=aI h;simp only [ah,j6] at f;split at b
      .rename_i v A;obtain ⟨d,n',p,C,c1,B,o⟩:=oM (ρ:=ρ) A;have a:=aV (ρ:=ρ) hx;have j:=aV (ρ:=ρ) s;simp only [AV.val] at a j;have c:=cW r;refine .pv b (alk l c1 c a j f.1 f.2 ?_);cases q:kI d
       .rw [q] at o;exact o
       .rw [q] at o;have e1:=B q;unfold TI at e1 c;rw [c] at e1;simp only [cH,p8] at e1;have e2:m=n':=e1.1;subst e2;exact o
      .cases b
     .cases h
    .cases h
   .cases h
  .cases h
 .split at h
  .rename_i d l;obtain ⟨f,b⟩:=aI h;split at b
   next u v hx=>have a:=aV (ρ:=ρ) hx;simp only [AV.val] at a;exact .pv b (alp l f a (λ_ _ _ _=>rfl))
   next hx=>have a:=aV (ρ:=ρ) hx;simp only [AV.val] at a;exact .pv b (ahQ l f a)
   .cases b
  .cases h
 .exact .pv h (OP (first:=[]) (cap:=[]) .nil .nil)
 .cases h
end
variable {P : Program} {e : TypeId}
def aqR(X:Cx)(T:aD)(E F:aG)(g:GK):Op->CV
 | .binOp .eql t x y _=>(match X.P.underlying t with
  |some (.pointer _)=>(match bC T E F g x with
   |some (.sfp _ f)=>(match bC T E F g y with
    |some (.raw (.pointer none))=>pv (.bool (!f))
    |_=>none)
   |_=>none)
  |_=>none)
 | .binOp .neq t x y _=>(match X.P.underlying t with
  |some (.pointer e)=>(match lK X.P e with
   |some _=>(match bC T E F g x with
    |some (.sfp j f)=>(match bC T E F g y with
     |some (.ptr j' 0)=>aC (Nat.beq j j') (pv (.bool (!f))) none
     |_=>none)
    |_=>none)
   |none=>none)
  |_=>none)
 | .call ⟨.value (.func f),⟨[x]⟩,_⟩=>aC (vf f X.ids) (match bC T E F g x with
  |some v=>pv v
  |none=>none) none
 | .call ⟨.builtin .len,⟨[x]⟩,⟨[t]⟩⟩=>(match fR X.P t with
  |some _=>(match bC T E F g x with
   |some (.bs _ n)=>pv (.int .i64 (n:Int))
   |_=>none)
  |none=>none)
 |_=>none
def aoY(X:Cx)(T:aD)(E F:aG)(G H:List Row)(g:GK):Op->CV
 | .convert s d x=>(match bC T E F g x with
  |some (.ptr j 0)=>(match eK G H (A4 j) with
   |some (_,.box _ e' cs)=>(match X.P.underlying s with
    |some (.pointer e)=>(match X.P.underlying d with
     |some .unsafePointer=>(match lK X.P e with
      |some z=>aC (Nat.blt 0 z.1&&Nat.blt 0 cs.length) (pv (.ptr j 0)) none
      |none=>none)
     |_=>none)
    |some .unsafePointer=>(match X.P.underlying d with
     |some (.pointer e)=>(match lK X.P e with
      |some _=>aC (liesAt X.P X.P.depth e' (cs.length/X.P.cellsOf e') 0 e 1) (pv (.ptr j 0)) none
      |none=>none)
     |_=>none)
    |_=>none)
   |_=>none)
  |_=>none)
 |_=>none
def ak5(X:Cx)(T:aD)(E F:aG)(g:GK)(op:Op):CV:=match apW X T E F g op with
 |some cv=>some cv
 |none=>(match aqx X T E F g op with
  |some cv=>some cv
  |none=>aqR X T E F g op)
def aj5(X:Cx)(T:aD)(E F:aG)(G H:List Row)(g:GK)(op:Op):CV:=match aoA X T E F G H g op with
 |some cv=>some cv
 |none=>aoY X T E F G H g op
abbrev auU(xs ys:zB):zB:=xs++ys
def aky{R:Type}(X:Cx)(T:aD)(fr:Fr)(st:aE)(d:Tmp)(t u:TypeId)(x y:Operand)(K:cT R):Option R:=match fR X.P t with
 |some e=>(match lK X.P e with
  |some (1,1,.int .u8 (.ofNat 0))=>aC (isStr X.P u) (match bC T st.E fr.F none y with
   |some (.str s)=>(match bC T st.E fr.F none x with
    |some (.sl id)=>(match eK st.G fr.H (ox id) with
     |some (.top j,.own _ u' e' xs _)=>aC (Nat.beq e e') (match ui.cn.asL (.i .u8) ⟨.l u',xs⟩ with
      |some xs=>aJ (aH (List.length xs+s.length) 1) (K { st with c:=st.c+1,E:=cL (some d) none (.sl st.c) st.E,G:=st.G.set j (.own st.c (.i .u8) e (auU xs (bS s)) st.c) })
      |none=>none) none
     |_=>none)
    |some (.raw (.slice none 0 0))=>aJ (aH (([]:zB).length+s.length) 1) (K { st with c:=st.c+1,E:=cL (some d) none (.sl st.c) st.E,G:= .own st.c (.i .u8) e (([]:zB)++bS s) st.c::st.G })
    |_=>none)
   |_=>none) none
  |_=>none)
 |none=>none
section
variable {X : Cx} {T : aD} {E F : aG} {G H : List Row} {g : GK} {ρ : aB} {w : World} {dst : zu} {ty : TypeId} {pos : String} {af : zw} {gd : zg} {Φ : Ctx}
theorem apN{op:Op}(h:aqR X T E F g op=some cv):nY X.P (az ρ T E F) ρ (T.get g) ⟨dst,op,ty,pos,af,gd⟩ w cv:=by
 unfold aqR at h;split at h
 .rename_i t x y s;split at h
  .rename_i e i;split at h
   .rename_i j f hx;split at h
    next d=>have b:=aV (ρ:=ρ) hx;have a:=aV (ρ:=ρ) d;simp only [AV.val] at b a;exact .pv h (alO i b a)
    .cases h
   .cases h
  .cases h
 .rename_i t x y s;split at h
  .rename_i e i;split at h
   .rename_i z l;obtain ⟨n,bytes,z⟩:=z;split at h
    .rename_i j f hx;split at h
     next p d=>obtain ⟨k,c⟩:=aI h;have:=ai k;subst this;have b:=aV (ρ:=ρ) hx;have a:=aV (ρ:=ρ) d;simp only [AV.val] at b a;exact .pv c (aj0 i (cW l) b a)
     .cases h
    .cases h
   .cases h
  .cases h
 .rename_i f x tys;obtain ⟨k,c⟩:=aI h;split at c
  next v hx=>exact .pv c (ap3 (X.idsOk f (af0.1 k)) (aV (ρ:=ρ) hx))
  .cases c
 .split at h
  .rename_i e o;split at h
   next id m hx=>exact .pv h (GU (cf o) (aV (ρ:=ρ) hx) ⟨_,_,rfl⟩)
   .cases h
  .cases h
 .cases h
theorem ao0{op:Op}(o:Sat (ab ρ T G++(ab ρ T H++Φ)) w)(h:aoY X T E F G H g op=some cv):nY X.P (az ρ T E F) ρ (T.get g) ⟨dst,op,ty,pos,af,gd⟩ w cv:=by
 unfold aoY at h;split at h
 .rename_i s d x;split at h
  .rename_i j hx;split at h
   .rename_i t m e' cs p;obtain ⟨r,q⟩:=ck p;have:m=j:=ai q;subst this;have hb:fL w (ρ m).b e' (AV.ar ρ cs):=Src.holds o r;have a:=aV (ρ:=ρ) hx;simp only [AV.val] at a;split at h
    .rename_i e c;split at h
     .rename_i f;split at h
      next z k=>obtain ⟨n,bytes,z⟩:=z;obtain ⟨i,l⟩:=aI h;simp only [ah] at i;refine .pv l ?_;simp only [AV.val];exact aeh c f (cW k) i.1 a hb (by rw [AV.bu];exact i.2)
      .cases h
     .cases h
    .rename_i c;split at h
     .rename_i e f;split at h
      next z k=>obtain ⟨n,bytes,z⟩:=z;obtain ⟨i,l⟩:=aI h;refine .pv l ?_;simp only [AV.val];exact ZD c f (cW k) a hb (by rw [AV.bu];exact i)
      .cases h
     .cases h
    .cases h
   .cases h
  .cases h
 .cases h
theorem ag3{op:Op}(c:fM T E F)(h:ak5 X T E F g op=some cv):nY X.P (az ρ T E F) ρ (T.get g) ⟨dst,op,ty,pos,af,gd⟩ w cv:=by
 unfold ak5 at h;split at h
 next b a=>cases h;exact aoG c a
 .split at h
  next b a=>cases h;exact aoB a
  .exact apN h
theorem agM{op:Op}(b:Sat (ab ρ T G++(ab ρ T H++Φ)) w)(h:aj5 X T E F G H g op=some cv):nY X.P (az ρ T E F) ρ (T.get g) ⟨dst,op,ty,pos,af,gd⟩ w cv:=by
 unfold aj5 at h;split at h
 next c a=>cases h;exact aqC b a
 .exact ao0 b h
end
section
variable {X : Cx} {R : Type} {r : R} {K : cT R} {T : aD} {fr : Fr} {st : aE} {d : Tmp} {ρ : aB} {Φ : Ctx} {w : World} {ty : TypeId} {pos : String} {af : zw} {gd : zg}
theorem O3{E:Env}{M:Nat->Prop}{v:Value}{y:Operand}{t u:TypeId}{R:zC}{xs:zB}{s:aS}(n:P.underlying t=some (.slice e))(l:P.underlying u=some .string)(g:TI P e 1 1 (.int .u8 0))(hx:aw E true x v)(j:aw E true y (S s))
  (i:bR (RI .u8) e M w v xs R) (r:∀b∈R,M b) (c:aH (xs.length+s.length) 1=true):
  ∃v' R' w',ny P E ⟨some d,.call ⟨.builtin .append,#[x,y],#[t,u]⟩,ty,pos,af,gd⟩ w v' w'/\kP R w w'/\(∀b∈R',b<w'.heap.size/\(b∈R\/w.heap.size<=b))/\∀M',Mv M w M' w'->bR (RI .u8) e M' w' v' (xs++bS s) R':=by
 rcases i with ⟨rfl,p⟩|⟨rfl,rfl,⟨a0,rfl⟩,k⟩
 .obtain ⟨v',w',h,A,q,i⟩:=xH t u ty e n l g p r c;exact ⟨v',dV v',w',(λn' a f=>by simp [execOp,resolve,invoke,builtin,hx n' a f rfl,j n' a f rfl,h]),A,q,λM' m=>bR.of (i M' m)⟩
 .rcases Cz (M:=M) (w:=w) t u ty e n l g (a0:=a0) (s:=s) (by simpa using c) with ⟨h,rfl⟩|⟨v',w',h,z,o,i⟩
  .exact ⟨.slice a0 0 0,[],w,(λn' a f=>by simp [execOp,resolve,invoke,builtin,hx n' a f rfl,j n' a f rfl,h]),(Ext.refl w).uP _,(λb hb=>by cases hb),λM' m=>by simpa [bS] using bR.empty (e:=e) (k.mv m)⟩
  .exact ⟨v',dV v',w',(λn' a f=>by simp [execOp,resolve,invoke,builtin,hx n' a f rfl,j n' a f rfl,h]),z.uP _,(λb hb=>⟨(o b hb).1,.inr (o b hb).2⟩),λM' m=>bR.of (by simpa using i M' m)⟩
theorem aq0{t u:TypeId}{y:Operand}(Q:st.low fr=true)(N:Sat (ab ρ T st.G++(ab ρ T fr.H++Φ)) w)(h:aky X T fr st d t u x y K=some r):
  jX X.P T none (az ρ T st.E fr.F) ⟨some d,.call ⟨.builtin .append,#[x,y],#[t,u]⟩,ty,pos,af,gd⟩ w (aY r K T fr st none (some d) ρ Φ):=by
 have C:=(aE.cS.1 Q).2.2.1;unfold aky at h;split at h
 .rename_i e Y;split at h
  .rename_i hz;have A:TI X.P e 1 1 (.int .u8 0):=cW hz;obtain ⟨hu,h⟩:=aI h;have z:=sN hu;split at h
   .rename_i s hy;have n:=bL (ρ:=ρ) hy;simp only [AV.val] at n;split at h
    .rename_i id hx;have g:=bL (ρ:=ρ) hx;simp only [AV.val] at g;split at h
     .rename_i j J u' e' D ver hf;obtain ⟨h3,V⟩:=aI h;have:=ai h3;subst this;split at V
      .rename_i xs L;obtain ⟨eu,ex⟩:=sR L;subst eu;simp only at ex;subst ex;obtain ⟨U,S⟩:=fj V;obtain ⟨f1,f2⟩:=ck hf;have:J=id:=ai f2;subst this;have hi:=gm (ρ:=ρ) (T:=T) (Φ:=ab ρ T fr.H++Φ) f1;obtain ⟨hO,_⟩:=N.at_ hi;obtain ⟨v',R',w',O,k,R,B⟩:=O3 (P:=X.P) (E:=az ρ T st.E fr.F) (w:=w) (d:=d) (ty:=ty) (pos:=pos) (af:=af) (gd:=none) (cf Y) z A g n hO (λb hb=>Ctx.j7 hi hb) U;have I:Mv (Ctx.M (ab ρ T st.G++(ab ρ T fr.H++Φ))) w (Ctx.M (ab ρ T st.G++(ab ρ T fr.H++Φ))) w':=⟨k.size,λb hb W=>⟨W,k.block b hb (λhc=>W (Ctx.j7 hi hc))⟩⟩;have f:=B _ I;have o:∃p:gP,v'=sl p:=by obtain ⟨a,cap,o⟩:=f.len;exact ⟨(a,_,cap),o⟩
       obtain ⟨p,rfl⟩:=o;have hj:j<st.G.length:=(List.getElem?_eq_some_iff.1 f1).1;refine .none_ (bK.gd (bK.oS O (aY.new (ρ':=ρ.set st.c { df with v:=p,y:=⟨.l (.i .u8),auU D (bS s)⟩ }) Q S aB.bd (mi _) rfl (by simp only [AV.val,aB.bH]) ?_)));show Sat (ab _ T (st.G.set j _)++_) _;rw [fT hj,bh aB.bd C];refine N.iP hi k (λb hb=>?_) (λM' m _=>?_)
       .simp only [Row.item,aB.bH] at hb;exact R b (f.canon.1 b hb)
       .simp only [Row.item,aB.bH];exact ⟨f.canon.2 _ _ (B M' m),trivial⟩
      .cases V
     .cases h
    .rename_i hx;have g:=bL (ρ:=ρ) hx;simp only [AV.val] at g;obtain ⟨U,S⟩:=fj h;obtain ⟨v',R',w',O,k,R,B⟩:=O3 (P:=X.P) (E:=az ρ T st.E fr.F) (w:=w) (d:=d) (ty:=ty) (pos:=pos) (af:=af) (gd:=none) (M:=Ctx.M (ab ρ T st.G++(ab ρ T fr.H++Φ))) (xs:=([]:zB)) (cf Y) z A g n bR.nil (λb hb=>by cases hb) U;have Z:Ext w w':=⟨k.os,k.tape,k.output,k.size,λb hb=>k.block b hb (λh=>by cases h)⟩;have f:=B _ (Z.mv _);have o:∃p:gP,v'=sl p:=by obtain ⟨a,cap,o⟩:=f.len;exact ⟨(a,_,cap),o⟩
     obtain ⟨p,rfl⟩:=o;refine .none_ (bK.gd (bK.oS O ?_));exact Am (d:=d) (t:= .i .u8) (e:=e) (p:=p) Q C N Z (λb hb=>by
      obtain ⟨q1,q⟩:=R b (f.canon.1 b hb);rcases q with q|q
      .cases q
      .exact ⟨q1,q⟩) (λM' m=>f.canon.2 _ _ (B M' m)) rfl S
    .cases h
   .cases h
  .cases h
 .cases h
def adA{R:Type}(T:aD)(fr:Fr)(st:aE)(d:Tmp)(x:Operand)(K:cT R):Option R:=match bC T st.E fr.F none x with
 |some (.sl id)=>(match eK st.G fr.H (ox id) with
  |some (_,.own _ t _ l ver)=>ave T none st d id ver t l 0 K
  |_=>none)
 |_=>none
def akf{R:Type}(X:Cx)(T:aD)(fr:Fr)(st:aE)(d:Tmp)(pt:TypeId)(x y:Operand)(K:cT R):Option R:=match X.P.underlying pt with
 |some (.pointer e)=>aC (Nat.beq (X.P.cellsOf e) 1) (match bC T st.E fr.F none x with
  |some (.adr q 0)=>(match bC T st.E fr.F none y with
   |some (.int .i64 m)=>(match eK st.G fr.H (UA q) with
    |some (_,.kn none _ id ver _ i _)=>(match eK st.G fr.H (ox id) with
     |some (.top j,.own _ u e' xs ver')=>aC (Nat.beq ver ver'&&Nat.beq e e') (match ui.cn.asL (.i .u8) ⟨.l u,xs⟩ with
      |some xs=>aJ (decide (i=0)&&decide (m=(List.length xs:Int))) (K { st with E:=cL (some d) none (.str (strOf xs)) st.E,G:=st.G.set j (.sli none id (.i .u8) xs false) })
      |none=>none) none
     |_=>none)
    |_=>none)
   |_=>none)
  |_=>none) none
 |_=>none
theorem bR.anH{α:Type}{A:eB α}{M:Nat->Prop}{w:World}{v:Value}{xs:List α}{R:zC}(h:bR A e M w v xs R)(a:xs≠[]):Roomy v:=by
 rcases h with ⟨_,cells,c,_⟩|⟨_,rfl,_⟩
 .rcases c.2 with ⟨_,b⟩|⟨g,off,cap,cur,rfl,_,d,_⟩
  .exact absurd (eb b) a
  .obtain ⟨k,rfl⟩:∃k,cap=k+1:=⟨cap-1,by have:=List.length_pos_iff.2 a;omega⟩;exact ⟨g,off,_,k,rfl⟩
 .exact absurd rfl a
theorem abX{v:gP}{n:Nat}(h:Roomy (sl v)):v.1=some (tW (sl v) 0 n):=by obtain ⟨b,off,len,cap,e⟩:=h;obtain ⟨d,c,a⟩:=v;simp only [sl,Value.slice.injEq] at e;obtain ⟨rfl,rfl,rfl⟩:=e;simp [sl,tW,Addr.add]
theorem anv{α:Type}{l:List α}{i:Int}{x:α}(h:idx l i=some x):l≠[]:=λe=>by subst e;unfold idx at h;split at h <;> cases h
theorem afS{z:Array TypeId}(q:st.low fr=true)(u:Sat (ab ρ T st.G++(ab ρ T fr.H++Φ)) w)(h:adA T fr st d x K=some r):
  Nw X.P T none (az ρ T st.E fr.F) ⟨some d,.call ⟨.builtin .unsafeSliceData,#[x],z⟩,ty,pos,af,gd⟩ w (aY r K T fr st none (some d) ρ Φ):=by
 unfold adA at h;split at h
 .rename_i id hx;have i:=bL (ρ:=ρ) hx;simp only [AV.val] at i;split at h
  .rename_i s b t e' l f A;obtain ⟨m,C⟩:=ck A;have:b=id:=ai C;subst this;obtain ⟨I,o,D⟩:=CW h;have o:=o aD.get_none;obtain ⟨B,p⟩:=Src.holds u m;have e:b<st.c/\f<st.c:=by
    have:(Row.own b t e' l f).low st.c=true:=by
     cases s with
     |top j=>exact tf (aE.cS.1 q).2.2.1 m
     |cP j=>exact tf (aE.cS.1 q).2.2.2 m
     |_=>exact m.elim
    simpa only [Row.low,ah,j5] using this
   have y:=B.anH (anv o);have k:aY r K T fr st none (some d) ρ Φ (.pointer (some (tW (sl (ρ b).v) 0 t.rep.n))) w:=by refine aY.push (x:={ df with a:=tW (sl (ρ b).v) 0 t.rep.n }) q D (by simp only [AV.val,aB.bH];simp [Addr.add]) (u.add rfl ?_);intro J;rw [aB.bd _ e.1,aB.bd _ e.2,aB.bH];exact ⟨l,p,o,rfl⟩
   refine ⟨_,λw'=>?_,k⟩;rw [<-abX y];rw [aD.get_none];exact aok (g:=true) i (λ_=>y)
  .cases h
 .cases h
theorem als(d:P.cellsOf e=1)(a off n:Nat)(c:off+n<=a):liesAt P P.depth e a off e n=true:=by have b:P.depth=(2*(P.types.size+Made.depth)+1)+1:=rfl;rw [b];simp only [liesAt,eF];left;rw [b];simp [rowAt,d,c,sameLayout,Nat.mod_one]
theorem apP{E:Env}{v:gP}{y:Operand}{z it:TypeId}{M:Nat->Prop}{R:zC}{xs:zB}(hO:bR (RI .u8) e M w (sl v) xs R)(hp:P.underlying z=some (.pointer e))(N:P.cellsOf e=1)
  (hx:aw E true x (.pointer v.1)) (U:aw E true y (.int .i64 (xs.length:Int))) (Q:xs≠[]):
  ∃w',ny P E ⟨some d,.call ⟨.builtin .unsafeString,#[x,y],#[z,it]⟩,ty,pos,af,gd⟩ w (S (strOf xs)) w'/\kP R w w'/\∀M',Mv M w M' w'->(∀b∈R,¬M' b)->bW (RI .u8) M' w' (sl v) xs:=by
 have f:xs.length≠0:=λe=>Q (eb e);rcases hO with ⟨Z,cells,⟨h1,h2⟩,I⟩|⟨_,rfl,_⟩
 .rcases h2 with ⟨_,T⟩|⟨g,off,cap,cur,O,D,s,X,r,k⟩
  .exact absurd T f
  .obtain ⟨v1,v2,H⟩:=v;simp only [sl,Value.slice.injEq] at O;obtain ⟨rfl,rfl,rfl⟩:=O;have A:(RI .u8).n=1:=rfl;have L:off+H=cur.size:=by simpa [A] using r.1
   have EK:w.shape? g=some (e,cur.size):=by unfold World.shape?;rw [D]
   have i:∀(j:Nat) (a:Int),xs[j]? =some a->w.cell? ((⟨g,off,none⟩:Addr).add j)=some (.int .u8 a):=λj a J=>by
    have C:=(List.getElem?_eq_some_iff.1 J).1;have hA:=I.2 j C;have Y:xs[j]=a:=(List.getElem?_eq_some_iff.1 J).2;have F:cells[j]? =some (.int .u8 a):=by
     have e1:(cells.drop (j*1)).take 1=[.int .u8 a]:=by rw [<-Y];exact hA
     have e2:=congrArg (λl=>l[0]?) e1;simpa using e2
    exact (Gc D k).cell F
   have W:xs.length<=9223372036854775807:=by unfold maxLen at X;omega
   have o:(Builtin.unsafeString_ #[z,it] ty #[.pointer (some ⟨g,off,none⟩),.int .i64 xs.length]).run P w= .ok (S (strOf xs)) (w.freeze ⟨g,off,none⟩ xs.length):=by
    have B:=J0 (P:=P) (w:=w) xs ⟨g,off,none⟩ .empty i;have h:=als (P:=P) N (cur.size/P.cellsOf e) off xs.length (by rw [N,Nat.div_one];omega);have u:¬(9223372036854775807:Int)<(xs.length:Int):=by omega
    have q:i64.max=9223372036854775807:=rfl;have p:¬(xs.length:Int)<0:=by omega
    refine (Sem.run_bind (P:=P) (w:=w) (asInt (.int .i64 xs.length)) _).trans ?_;simp [asInt,asIntOf,q,u,p,f,variablesAt,EK,elemOf,run_underlying hp,h,B,S]
   have V:(w.freeze ⟨g,off,none⟩ xs.length).heap[g]? =some (.cells cur e (off,off+xs.length)):=by unfold World.freeze;rw [cx f];simp [yK,D]
   have t:R=[g]:=by rw [Z];simp [dV,Value.ownBlock,sl]
   refine ⟨w.freeze ⟨g,off,none⟩ xs.length,λn' a K=>by simp [execOp,resolve,invoke,builtin,hx n' a K rfl,U n' a K rfl,o],?_,λM' m hb=>?_⟩
   .rw [t];unfold World.freeze;rw [cx f];refine ⟨rfl,rfl,rfl,by simp,λc _ G=>?_⟩;have:g≠c:=λe=>G (by simp [e]);simp [yK,this]
   .refine .inr ⟨g,off,H,cur,e,_,rfl,hb g (by rw [t];simp),V,s,Nat.le_of_eq r.1,?_⟩;rw [k];exact I.mv m
 .exact absurd rfl Q
theorem apg{y:Operand}{I it:TypeId}(_hl:st.low fr=true)(s:Sat (ab ρ T st.G++(ab ρ T fr.H++Φ)) w)(h:akf X T fr st d I x y K=some r):
  jX X.P T none (az ρ T st.E fr.F) ⟨some d,.call ⟨.builtin .unsafeString,#[x,y],#[I,it]⟩,ty,pos,af,gd⟩ w (aY r K T fr st none (some d) ρ Φ):=by
 unfold akf at h;split at h
 .rename_i e hp;obtain ⟨z,h⟩:=aI h;have z:=ai z;split at h
  .rename_i q hx;have f:=bL (ρ:=ρ) hx;simp only [AV.val] at f;split at h
   .rename_i m Q;have c:=bL (ρ:=ρ) Q;simp only [AV.val] at c;split at h
    .rename_i s1 q' id O u1 i xe t;obtain ⟨f1,f2⟩:=ck t;have:q'=q:=ai f2;subst this;have W:=Src.holds s f1;split at h
     .rename_i j a u e' N D U;obtain ⟨M,f4⟩:=ck U;have:a=id:=ai f4;subst this;obtain ⟨C,B⟩:=aI h;simp only [ah] at C;have e1:=ai C.1;have e2:=ai C.2;subst e1;subst e2;split at B
      .rename_i xs o;obtain ⟨eu,ex⟩:=sR o;subst eu;subst ex;obtain ⟨L,Z⟩:=fj B;simp only [ah,j6] at L;obtain ⟨rfl,rfl⟩:=L;have hi:=gm (ρ:=ρ) (T:=T) (Φ:=ab ρ T fr.H++Φ) M;obtain ⟨J,l⟩:=s.at_ hi;obtain ⟨l0,b1,b2,b3⟩:=W aD.get_none;obtain ⟨e4,e5⟩:=Qh b1 l;cases e4;cases e5;have k:=anv b2;have R:=J.anH k;have p:aw (az ρ T st.E fr.F) true x (.pointer (ρ a).v.1):=by rw [abX (n:=(Ty.i .u8).rep.n) R,<-b3];simpa [Addr.add] using f
       obtain ⟨w',g,Y,V⟩:=apP (P:=X.P) (d:=d) (ty:=ty) (pos:=pos) (af:=af) (gd:=gd) (it:=it) J hp z p c k;have S:j<st.G.length:=(List.getElem?_eq_some_iff.1 M).1;refine .none_ (bK.gd (bK.oS g (aY.jP Z (b7 _) rfl rfl ?_)));show Sat (ab _ T (st.G.set j _)++_) _;rw [fT S];exact s.iP hi Y (λb hb=>by cases hb) (λM' m hb _=>⟨V M' m (λb A=>hb b A (λh=>by cases h)),λh=>by cases h⟩)
      .cases B
     .cases h
    .cases h
   .cases h
  .cases h
 .cases h
def alV{R:Type}(X:Cx)(T:aD)(fr:Fr)(st:aE)(g:GK)(d:Tmp)(t:TypeId)(x:Operand)(K:cT R):Option R:=match fR X.P t with
 |some _=>(match bC T st.E fr.F g x with
  |some (.sl id)=>(match slA st.G fr.H id with
   |some s=>aC (T.imp g s.g) (K { st with E:=cL (some d) g (.int .i64 (s.l.length:Int)) st.E }) none
   |none=>none)
  |_=>none)
 |none=>none
theorem ap2{g:GK}{t:TypeId}(c:Sat (ab ρ T st.G++(ab ρ T fr.H++Φ)) w)(h:alV X T fr st g d t x K=some r):
  Nw X.P T g (az ρ T st.E fr.F) ⟨some d,.call ⟨.builtin .len,#[x],#[t]⟩,ty,pos,af,gd⟩ w (aY r K T fr st g (some d) ρ Φ):=by
 unfold alV at h;split at h
 .rename_i e i;split at h
  .rename_i id hx;have a:=aV (ρ:=ρ) hx;simp only [AV.val] at a;split at h
   next s b=>obtain ⟨k,j⟩:=aI h;exact ⟨_,λw'=>oE (cf i) a (λf=>aaz c b (aD.kT k f)),aY.jP j (b7 _) rfl rfl c⟩
   .cases h
  .cases h
 .cases h
end
end
end Go.Proofs.YtdolcddlmodkkaaGreatDoor
