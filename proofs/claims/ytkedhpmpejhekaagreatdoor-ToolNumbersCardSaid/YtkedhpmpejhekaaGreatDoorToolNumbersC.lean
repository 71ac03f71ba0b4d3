/- Own texts for ToolNumbers, cut and joined by a program. -/
import Derived.Test.YtkedhpmpejhekaaGreatDoorToolNumbersB
set_option linter.all false
namespace Go.Proofs.YtkedhpmpejhekaaGreatDoor
open IntKind (i64)
noncomputable section
open Go.Lib
section
variable {X : Cx} {R : Type} {r : R} {K : cw R} {T : aA} {fr : Fr} {st : aC} {g : GK} {d : Tmp} {ρ : ax} {Φ : Ctx} {w : World} {ty : TypeId} {pos : String} {af : w4} {gd : s3}
def Zr:Operand->Operand->Bool
 | .tmp a,.tmp b=>Nat.beq a b
 | .const (.int .i64 a),.const (.int .i64 b)=>decide (a=b)
 |_,_=>false
theorem Z3{x y:Operand}(h:Zr x y=true):x=y:=by
 unfold Zr at h;split at h
 .rw [ah h]
 .rw [p5 h]
 .cases h
def agJ(_T:aA)(g:GK)(st:aC)(d:Tmp)(G:List Row)(t:Ty)(l:List t.T)(i j:Int)(clip:Bool)(K:cw R):Option R:=
 K { st with c:=st.c+1,E:=cn (some d) g (.sl st.c) st.E,G:= .sli g st.c t (bB l i j) clip::G }
def abI(X:Cx)(T:aA)(fr:Fr)(st:aC)(g:GK)(d:Tmp)(t:TypeId)(x:Operand)(lo hi mx:Option Operand)(K:cw R):Option R:=match eT X.P t with
 |some e=>(match jI X.P e with
  |some z=>(match bq T st.E fr.F g x with
   |some (.sl id)=>(match loA T st.E fr.F g lo with
    |some i=>(match hiA T st.E fr.F g hi with
     |some j=>(match dE (cm [id] st.G) fr.H (lj id) with
      |some (_,.sli g' _ u l _)=>ay ( T.imp g g'&&Nat.beq z.1 u.n' ) ( match mx with
       |none=>Ik (some (dn i (j.getD (l.length:Int)) l.length)) (g.map λ_=>T.get g) (agJ T g st d (cm [id] st.G) u l i (j.getD (l.length:Int)) false K)
       |some y=>(match hi with
        |some h=>(match bq T st.E fr.F g y with
         |some (.int _ m)=>ay (Zr h y) ( Ik (some (jC i m m l.length)) (g.map λ_=>T.get g) (agJ T g st d (cm [id] st.G) u l i m true K) )
          ( Ik (some (jC i m m l.length&&(j.getD (l.length:Int)==m))) (g.map λ_=>T.get g) (agJ T g st d (cm [id] st.G) u l i m true K) )
         |_=>none)
        |none=>none) ) none
      |_=>none)
     |none=>none)
    |none=>none)
   |_=>none)
  |none=>none)
 |none=>none
theorem PW{G:List Row}{t:Ty}{l:List t.T}{i j:Int}{a:Bool}{p:fy}(k:st.low fr=true)(b:bA st.c G=true)(f:Sat (ab ρ T G++(ab ρ T fr.H++Φ)) w)
  (hp:T.get g=true->bO t.rep (Ctx.M (ab ρ T G++(ab ρ T fr.H++Φ))) w (sl p) (bB l i j)/\(a=true->p.2.2=(bB l i j).length)) (h:agJ T g st d G t l i j a K=some r):
  aV r K T fr st g (some d) ρ Φ (sl p) w:=by
 refine aV.new (ρ':=ρ.set st.c { cO with v:=p }) k h ax.aY (eb _) rfl (by simp only [AV.val,ax.bw]) ?_;show Sat (ab _ T (_::G)++_) w;have e:=bc (T:=T) (ax.aY (ρ:=ρ) (j:=st.c) (x:={ cO with v:=p })) b;rw [ab,cp];rw [ab] at e;rw [e];refine f.add rfl ?_;simp only [Row.item,ax.bw];exact hp
theorem Vp{t:TypeId}{x:Operand}{lo hi mx:Option Operand}(S:st.low fr=true)(I:Sat (ab ρ T st.G++(ab ρ T fr.H++Φ)) w)(h:abI X T fr st g d t x lo hi mx K=some r):
  JW X.P T g (au ρ T st.E fr.F) ⟨some d,.slice t x lo hi mx,ty,pos,af,gd⟩ w (aV r K T fr st g (some d) ρ Φ):=by
 unfold abI at h;split at h
 .rename_i e he;split at h
  .rename_i z hz;obtain ⟨n,bytes,z⟩:=z;split at h
   .rename_i id hx;split at h
    .rename_i i hi;split at h
     .rename_i j hj;replace I:=iH (ids:=[id]) I;have C:=oU (ids:=[id]) (aC.cB.1 S).2.2.1;have A:=aR (ρ:=ρ) hx;simp only [AV.val] at A;split at h
      .rename_i s g' o u l b Z;obtain ⟨h1,D⟩:=aG h;simp only [ae] at h1;have hn:n=u.rep.n:=(ah h1.2).trans u.A5.symm;obtain ⟨f1,f2⟩:=bU Z;have:o=id:=ah f2;subst this;have hT:=Src.holds I f1;have J:T.get g=true->bO u.rep _ w (sl (ρ o).v) l:=λc=>(hT (aA.jm h1.1 c)).1;have B:=cD hz;rw [hn] at B;split at D
       .obtain ⟨R,O⟩:=ox D;obtain ⟨p,N,L⟩:=bO.aqi J (λc=>R _ rfl c);have f:=PW (p:=p) S C I (λc=>⟨L c,λhb=>by cases hb⟩) O;exact ⟨_,λw'=>De (bT he) B A (λc=>(J c).len) (K0 hi) (Uf hj) N,f⟩
       .rename_i y;split at D
        .rename_i U;split at D
         .rename_i k m hy;have q:=aR (ρ:=ρ) hy;simp only [AV.val] at q;rcases dp D with ⟨h5,h6⟩|⟨_,h6⟩
          .have:=Z3 h5;subst this;obtain ⟨R,O⟩:=ox h6;have key:∃p:fy,(T.get g=true->Mq (sl (ρ o).v) i m m u.rep.n (sl p))/\(T.get g=true->bO u.rep (Ctx.M (ab ρ T (cm [o] st.G)++(ab ρ T fr.H++Φ))) w (sl p) (bB l i m)/\(true=true->p.2.2=(bB l i m).length)):=by
            cases c:T.get g
            .exact ⟨(none,0,0),(λh=>by cases h),(λh=>by cases h)⟩
            .obtain ⟨p,W,V⟩:=bO.al7 (J c) (R _ rfl c);exact ⟨_,λ_=>W,λ_=>⟨V,λ_=>rfl⟩⟩
           obtain ⟨p,N,L⟩:=key;have f:=PW (p:=p) S C I L O;exact ⟨_,λw'=>Um (lo:=lo) (hi:=some U) (bT he) B A (λc=>(J c).len) (K0 hi) ⟨k,q⟩ q N,f⟩
          .obtain ⟨R,O⟩:=ox h6;have Q:T.get g=true->jC i m m l.length=true/\j.getD (l.length:Int)=m:=λc=>by have:=R _ rfl c;simp only [ae,j0] at this;exact this
           have key:∃p:fy,(T.get g=true->Mq (sl (ρ o).v) i m m u.rep.n (sl p))/\(T.get g=true->bO u.rep (Ctx.M (ab ρ T (cm [o] st.G)++(ab ρ T fr.H++Φ))) w (sl p) (bB l i m)/\(true=true->p.2.2=(bB l i m).length)):=by
            cases c:T.get g
            .exact ⟨(none,0,0),(λh=>by cases h),(λh=>by cases h)⟩
            .obtain ⟨p,W,V⟩:=bO.al7 (J c) (Q c).1;exact ⟨_,λ_=>W,λ_=>⟨V,λ_=>rfl⟩⟩
           obtain ⟨p,N,L⟩:=key;have f:=PW (p:=p) S C I L O;have Y:∃k,ar (au ρ T st.E fr.F) (T.get g) U (.int k m):=by obtain ⟨k,hk⟩:∃k,ar (au ρ T st.E fr.F) (T.get g) U (.int k (j.getD (l.length:Int))):=Uf (ρ:=ρ) (len:=l.length) hj;exact ⟨k,λn a Z c=>by rw [hk n a Z c,(Q c).2]⟩
           exact ⟨_,λw'=>Um (lo:=lo) (hi:=some U) (bT he) B A (λc=>(J c).len) (K0 hi) Y q N,f⟩
         .cases D
        .cases D
      .cases h
     .cases h
    .cases h
   .cases h
  .cases h
 .cases h
def VL(len:Nat)(z:List AV):List AV:=(List.replicate len z).flatten
theorem QJ{len:Nat}{z:List AV}:AV.ao ρ (VL len z)=(List.replicate len (AV.ao ρ z)).flatten:=by
 unfold VL
 induction len with
 |zero=>simp [AV.ao]
 |succ n ih=>simp only [qf,List.flatten_cons,cX,ih]
def unR(T:aA)(g:GK):List Row->List Row
 |[]=>[]
 |r::G=>(match r with
  | .sli g' id t l c=>ay (T.imp g g') (.sli none id t l c) (.sli g' id t l c)
  |r=>r)::unR T g G
def unG(T:aA)(g:GK)(G:List Row):List Row:=match g with
 |none=>G
 |some _=>unR T g G
theorem Xr{ρ:ax}{T:aA}{g:GK}(a:T.get g=true):{G:List Row}->ab ρ T (unR T g G)=ab ρ T G
 |[]=>rfl
 |r::G=>by
  have ih:=Xr (ρ:=ρ) a (G:=G);unfold unR;simp only [ab,cp] at ih ⊢;rw [ih];congr 1;cases r with
  |sli g' id t l c=>
   show Row.item ρ T (ay (T.imp g g') (.sli none id t l c) (.sli g' id t l c))=_;cases h:T.imp g g' with
   |false=>rfl
   |true=>
    show Row.item ρ T (.sli none id t l c)=_;simp only [Row.item,aA.get_none,aA.jm h a]
  |_=>rfl
theorem CI{ρ:ax}{T:aA}{g:GK}(a:T.get g=true){G:List Row}:ab ρ T (unG T g G)=ab ρ T G:=by
 cases g with
 |none=>rfl
 |some k=>exact Xr a
def ajL(X:Cx)(T:aA)(fr:Fr)(st:aC)(g:GK)(d:Tmp)(t:TypeId)(len:Nat)(ps:List (Nat×Operand))(K:cw R):Option R:=match eT X.P t with
 |some e=>(match yX X.tys e with
  |some u=>(match jI X.P e with
   |some z=>(match oA T st.E fr.F g (ps.map (·.2)) with
    |some vs=>(match yV (λi=>some (i*z.1,z.1)) ((ps.map (·.1)).zip vs) (VL len (z.2.2.cells.toList.map iO)) with
     |some cs=>(match rdL (unG T g (cm (AV.dV (.agg vs)++(vs.map AV.dV).flatten) st.G)) (unG T g fr.H) u len cs with
      |some xs=>ay ( Nat.beq z.1 u.n'&&Nat.beq z.2.2.cells.size z.1&&Nat.ble (len*z.1) 16777216 ) ( match g with
       |none=>ay ( Nat.blt 0 (len*z.1)||Nat.beq len 0&&ps.isEmpty ) ( K { st with c:=st.c+1,E:=cn (some d) none (.sl st.c) st.E,G:= .own st.c u e xs st.c::cm (AV.dV (.agg vs)++(vs.map AV.dV).flatten) st.G } ) none
       |some _=>ay ( Nat.blt 0 (len*z.1)||Nat.beq len 0&&ps.isEmpty ) ( K { st with c:=st.c+1,E:=cn (some d) g (.sl st.c) st.E,G:= .sli g st.c u xs false::cm (AV.dV (.agg vs)++(vs.map AV.dV).flatten) st.G } ) none ) none
      |none=>none)
     |none=>none)
    |none=>none)
   |none=>none)
  |none=>none)
 |none=>none
theorem vT{t:Ty}{e:TypeId}{p:fy}{l:List t.T}{G:List Row}{w':World}{st':aC}(h:st.low fr=true)(f:bA st.c G=true)(g:Sat (ab ρ T G++(ab ρ T fr.H++Φ)) w)(n:Ext w w')
  (i:∀b∈sT p,b<w'.heap.size/\w.heap.size<=b) (k:∀M',Mv (Ctx.M (ab ρ T G++(ab ρ T fr.H++Φ))) w M' w'->bJ t.rep e M' w' (sl p) l (sT p))
  (a:st'={ st with c:=st.c+1,E:=cn (some d) none (.sl st.c) st.E,G:= .own st.c t e l st.c::G }) (hK:K st'=some r):aV r K T fr st none (some d) ρ Φ (sl p) w':=by
 subst a;refine aV.new (ρ':=ρ.set st.c { cO with v:=p,y:=⟨.l t,l⟩ }) h hK ax.aY (eb _) rfl (by simp only [AV.val,ax.bw]) ?_;show Sat (ab _ T (_::G)++_) w';have e:=bc (T:=T) (ax.aY (ρ:=ρ) (j:=st.c) (x:={ cO with v:=p,y:=⟨.l t,l⟩ })) f;rw [ab,cp];rw [ab] at e;rw [e];refine g.push n (λb hb=>?_) (λM' m=>?_)
 .simp only [Row.item,ax.bw] at hb;exact i b hb
 .simp only [Row.item,ax.bw];exact ⟨k M' m,trivial⟩
theorem CD{b n c:Nat}:dq (sl (some ⟨b,0,none⟩,n,c))=[b]:=rfl
theorem An{p:fy}{b:Nat}(h:b∈sT p):b∈dq (sl p):=by
 unfold sT at h;split at h
 .cases h
 .exact h
theorem anN{t:TypeId}{len:Nat}{ps:Array (Nat×Operand)}(N:st.low fr=true)(y:Sat (ab ρ T st.G++(ab ρ T fr.H++Φ)) w)(h:ajL X T fr st g d t len ps.toList K=some r):
  iB X.P T g (au ρ T st.E fr.F) ⟨some d,.buildSlice t len ps,ty,pos,af,gd⟩ w (aV r K T fr st g (some d) ρ Φ):=by
 obtain ⟨ps⟩:=ps;simp only at h;unfold ajL at h;split at h
 .rename_i e Q;split at h
  .rename_i u hu;split at h
   .rename_i z hz;obtain ⟨n,bytes,z⟩:=z;split at h
    .rename_i vs U;split at h
     .rename_i cs V;have q:=oU (ids:=AV.dV (.agg vs)++(vs.map AV.dV).flatten) (aC.cB.1 N).2.2.1;replace y:=iH (ids:=AV.dV (.agg vs)++(vs.map AV.dV).flatten) y;generalize cm (AV.dV (.agg vs)++(vs.map AV.dV).flatten) st.G=G at h q y;split at h
      .rename_i xs S;obtain ⟨R,h2⟩:=aG h;simp only [ae] at R;obtain ⟨⟨a1,a2⟩,Z⟩:=R;have hn:n=u.rep.n:=(ah a1).trans u.A5.symm;have C:z.cells.size=n:=ah a2;have hk:T.get g=true->xs.length=len/\cK u.rep (Ctx.M (ab ρ T G++(ab ρ T fr.H++Φ))) w (AV.ao ρ cs) xs:=λA=>by have:=S2 (ρ:=ρ) (T:=T) (Φ:=Φ) (w:=w) (by rw [CI A,CI A];exact y) _ _ _ S;rwa [CI A,CI A] at this
       have s:=cD hz;have o:=wg (ρ:=ρ) V;rw [Av,QJ,kD] at o;have B:0<n->nP n len z.cells.toList ((ps.map (·.1)).zip (AV.ao ρ vs))=some (AV.ao ρ cs).toArray:=λa=>by unfold nP;have I:=Da z.cells.toList (by simp [C];exact a) len;simp only [cb,C] at I;simp only [cb,C];rw [<-o,<-I]
       have i:=fM (ρ:=ρ) U;subst hn;cases g with
       |none=>
        obtain ⟨L,J⟩:=hk aA.get_none;obtain ⟨l,O⟩:=aG h2;simp only [ck,ae] at l;have i:gw (au ρ T st.E fr.F) true (ps.map (·.2)) (AV.ao ρ vs):=by simpa using i
        rcases l with l|⟨l,W⟩
        .have a:0<u.rep.n:=by
          have:0<len*u.rep.n:=by simpa using l
          exact qV (λe=>by simp [e] at this)
         have f:=nG (P:=X.P) (w:=w) (dst:=some d) (ty:=ty) (pos:=pos) (af:=af) (bT Q) s (zs:=z.cells.toList) (by simp) l Z i (B a);have hlen:len*1<=len*u.rep.n:=Nat.mul_le_mul_left _ a;have h9:=cd Z;have h8:Nat.ble len 9223372036854775807=true:=qu (by omega);refine .none_ (bC.gd (bC.me f ?_));have:=vT (d:=d) (t:=u) (e:=e) (p:=(some ⟨w.heap.size,0,none⟩,len,len)) N q y (dY w (.cells (AV.ao ρ cs).toArray e)) (λb hb=>by have:=An hb;rw [CD] at this;simp only [gy] at this;subst this;simp) (λM' m=>(bJ.of (fU.fresh (heap_alloc_new w _) L h8 (J.mv m))).AZ) rfl O
         exact this
        .have Y:len=0:=ah l;subst Y;have I:ps=[]:=by simpa using W
         subst I;have D:xs=[]:=cf L;subst D;have f:=rJ (P:=X.P) (E:=au ρ T st.E fr.F) (w:=w) (dst:=some d) (ty:=ty) (pos:=pos) (af:=af) (bT Q) s;refine .none_ (bC.gd (bC.me f ?_));have:=vT (d:=d) (t:=u) (e:=e) (p:=(some ⟨w.heap.size,0,none⟩,0,0)) N q y (dY w (.cells ([]:vf).toArray e)) (λb hb=>by have:=An hb;rw [CD] at this;simp only [gy] at this;subst this;simp) (λM' m=>(bJ.of (fU.fresh (heap_alloc_new w _) rfl rfl cK.nil)).AZ) rfl O
         exact this
       |some k=>
        obtain ⟨l,O⟩:=aG h2;simp only [ck,ae] at l;refine ⟨λA=>?_,λA=>?_⟩
        .obtain ⟨L,J⟩:=hk A;rw [A] at i;have key:∃cells:vf,ky X.P (au ρ T st.E fr.F) ⟨some d,.buildSlice t len ⟨ps⟩,ty,pos,af,none⟩ w (.slice (some ⟨w.heap.size,0,none⟩) len len) (w.alloc (.cells cells.toArray e))/\cK u.rep (Ctx.M (ab ρ T G++(ab ρ T fr.H++Φ))) w cells xs:=by
          rcases l with l|⟨l,W⟩
          .have a:0<u.rep.n:=by
            have:0<len*u.rep.n:=by simpa using l
            exact qV (λe=>by simp [e] at this)
           exact ⟨AV.ao ρ cs,nG (P:=X.P) (w:=w) (dst:=some d) (ty:=ty) (pos:=pos) (af:=af) (bT Q) s (zs:=z.cells.toList) (by simp) l Z i (B a),J⟩
          .have Y:len=0:=ah l;subst Y;have I:ps=[]:=by simpa using W
           subst I;have D:xs=[]:=cf L;subst D;exact ⟨[],rJ (P:=X.P) (E:=au ρ T st.E fr.F) (w:=w) (dst:=some d) (ty:=ty) (pos:=pos) (af:=af) (bT Q) s,cK.nil⟩
         obtain ⟨cells,f,J⟩:=key;refine bC.gd (bC.me f ?_);have R:=y.ext (dY w (.cells cells.toArray e));have hf:bO u.rep (Ctx.M (ab ρ T G++(ab ρ T fr.H++Φ))) (w.alloc (.cells cells.toArray e)) (sl (some ⟨w.heap.size,0,none⟩,len,len)) xs:=
          bO.fresh (heap_alloc_new w _) (λhm=>by have:=y.lt hm;omega) L (J.mv ((dY w _).mv _))
         refine aV.new (ρ':=ρ.set st.c { cO with v:=(some ⟨w.heap.size,0,none⟩,len,len) }) (av:= .sl st.c) N O ax.aY (eb _) rfl (by simp only [AV.val,ax.bw];rfl) ?_;show Sat (ab _ T (_::G)++_) _;have e:=bc (T:=T) (ax.aY (ρ:=ρ) (j:=st.c) (x:={ cO with v:=(some ⟨w.heap.size,0,none⟩,len,len) })) q;rw [ab,cp];rw [ab] at e;rw [e];refine R.add rfl ?_;simp only [Row.item,ax.bw];exact λ_=>⟨hf,λhb=>by cases hb⟩
        .refine ⟨_,aV.new (ρ':=ρ.set st.c cO) (av:= .sl st.c) N O ax.aY (eb _) rfl rfl ?_⟩;show Sat (ab _ T (_::G)++_) _;have e:=bc (T:=T) (ax.aY (ρ:=ρ) (j:=st.c) (x:=cO)) q;rw [ab,cp];rw [ab] at e;rw [e];refine y.add rfl ?_;exact λh=>by rw [A] at h;cases h
      .cases h
     .cases h
    .cases h
   .cases h
  .cases h
 .cases h
end
section
variable {X : Cx} {R : Type} {r : R} {K : cw R} {T : aA} {fr : Fr} {st : aC} {g : GK} {d : Tmp} {ρ : ax} {Φ : Ctx} {w : World} {ty : TypeId} {pos : String} {af : w4} {gd : s3}
def ag0(X:Cx)(T:aA)(fr:Fr)(st:aC)(d:Tmp)(t:TypeId)(x y:Operand)(K:cw R):Option R:=match eT X.P t with
 |some e=>(match yX X.tys e with
  |some u=>(match jI X.P e with
   |some z=>(match bq T st.E fr.F none x with
    |some (.int _ l)=>ay ( Zr x y&&Nat.beq z.1 u.n'&&Nat.beq z.2.2.cells.size z.1&&Nat.blt 0 z.1 ) (
     match rd1 [] [] u (z.2.2.cells.toList.map iO) with
     |some zx=>aI (decide (0<=l)) (aI (aH l.toNat z.2.1) (K { st with c:=st.c+1,E:=cn (some d) none (.sl st.c) st.E,G:= .own st.c u e (List.replicate l.toNat zx) st.c::st.G }))
     |none=>none ) none
    |_=>none)
   |none=>none)
  |none=>none)
 |none=>none
theorem aal{t:Ty}{v:AV}{l:List t.T}(h:pV [] [] t v=some l):∀(M:Nat->Prop) (w:World),bO t.rep M w (v.val ρ) l:=by
 unfold pV at h;split at h
 .rename_i j;split at h
  next a=>simp [dE,lQ] at a
  .cases h
 .cases h;intro M w;simp only [AV.val];exact bO.nil
 .cases h
theorem VY:(t:Ty)->(vs:List AV)->(x:t.T×List AV)->nB [] [] t vs=some x->∃us,vs=us++x.2/\∀(M:Nat->Prop) (w:World),t.rep.rd M w (AV.ao ρ us) x.1
 | .i k,vs,x,h=>by
  unfold nB at h;split at h
  next r y us=>obtain ⟨g,f⟩:=aG h;have:=gm g;subst this;cases f;exact ⟨[.int k y],rfl,λM w=>by simp only [AV.ao,AV.val];rfl⟩
  .cases h
 | .bo,vs,x,h=>by
  unfold nB at h;split at h
  next y us=>cases h;exact ⟨[.bool y],rfl,λM w=>by simp only [AV.ao,AV.val];rfl⟩
  .cases h
 | .s,vs,x,h=>by
  unfold nB at h;split at h
  next y us=>cases h;exact ⟨[.str y],rfl,λM w=>by simp only [AV.ao,AV.val];rfl⟩
  .cases h
 | .un,vs,x,h=>by
  unfold nB at h;cases h;exact ⟨[],rfl,λM w=>by simp only [AV.ao];rfl⟩
 | .n,vs,x,h=>by
  unfold nB at h;split at h
  next t us=>cases h;exact ⟨[.ifc t (.agg [])],rfl,λM w=>by simp only [AV.ao,AV.val];rfl⟩
  .cases h
 | .mp _ _,vs,x,h=>by unfold nB at h;cases h
 | .p a b,vs,x,h=>by
  unfold nB at h;split at h
  .rename_i y m;split at h
   next z j=>cases h;obtain ⟨us,q,g⟩:=VY a vs y m;obtain ⟨d,o,f⟩:=VY b y.2 z j;refine ⟨us++d,by rw [q,o,aO],λM w=>?_⟩;rw [cX];exact ⟨_,_,rfl,g M w,f M w⟩
   .cases h
  .cases h
 | .l t,vs,x,h=>by
  unfold nB at h;split at h
  .rename_i v us;split at h
   next l e=>cases h;refine ⟨[v],rfl,λM w=>?_⟩;simp only [AV.ao];exact (aal e M w).rsl
   .cases h
  .cases h
 | .ex,vs,x,h=>by
  unfold nB at h;split at h
  .rename_i a b c v us;split at h
   next l e=>cases h;refine ⟨[.int .i64 a,.int .i64 b,.int .i64 c,v],rfl,λM w=>?_⟩;simp only [AV.ao,AV.val];exact Ob (aal e M w).rsl
   .cases h
  .cases h
theorem ajI{t:TypeId}{x y:Operand}(s:st.low fr=true)(D:Sat (ab ρ T st.G++(ab ρ T fr.H++Φ)) w)(h:ag0 X T fr st d t x y K=some r):
  iB X.P T none (au ρ T st.E fr.F) ⟨some d,.makeSlice t x y,ty,pos,af,gd⟩ w (aV r K T fr st none (some d) ρ Φ):=by
 unfold ag0 at h;split at h
 .rename_i e L;split at h
  .rename_i u hu;split at h
   .rename_i z C;obtain ⟨n,bytes,z⟩:=z;split at h
    .rename_i k l hx;obtain ⟨v,q⟩:=aG h;simp only [ae] at v;obtain ⟨⟨⟨a1,Z⟩,Y⟩,W⟩:=v;have:=Z3 a1;subst this;have J:n=u.rep.n:=(ah Z).trans u.A5.symm;have f:z.cells.size=n:=ah Y;split at q
     .rename_i B a;obtain ⟨V,S⟩:=ej q;obtain ⟨U,R⟩:=ej S;have c:=bE (ρ:=ρ) hx;simp only [AV.val] at c;have j:=cD C;subst J;have g:∀(M:Nat->Prop) (w:World),u.rep.rd M w z.cells.toList B:=by
       unfold rd1 at a;split at a
       next y' i=>cases a;obtain ⟨us,A,Q⟩:=VY (ρ:=ρ) u _ _ i;simp only [eF] at A;intro M w;have:=Q M w;rw [<-A,kD] at this;exact this
       .cases a
      obtain ⟨w',I,O,o,N⟩:=aji (P:=X.P) (E:=au ρ T st.E fr.F) (w:=w) (dst:=some d) (ty:=ty) (pos:=pos) (af:=af) (bT L) j (zs:=z.cells.toList) (by simp) (by simpa using f) (by simpa using W) c c V U g;refine .none_ (bC.gd (bC.me I ?_));exact vT (d:=d) (t:=u) (e:=e) (p:=(some ⟨w.heap.size,0,none⟩,l.toNat,l.toNat)) s (aC.cB.1 s).2.2.1 D O (λb hb=>by
       have:=An hb;rw [CD] at this;simp only [gy] at this;subst this;exact ⟨o,bb _⟩) (λM' m=>(bJ.of (N M')).AZ) rfl R
     .cases q
    .cases h
   .cases h
  .cases h
 .cases h
def alC(X:Cx)(T:aA)(fr:Fr)(st:aC)(d:Tmp)(t:TypeId)(x y:Operand)(K:cw R):Option R:=match eT X.P t with
 |some e=>(match yX X.tys e with
  |some u=>(match jI X.P e with
   |some z=>(match bq T st.E fr.F none x with
    |some a=>(match bq T st.E fr.F none y with
     |some b=>ay ( Nat.beq z.1 u.n'&&Nat.beq z.2.2.cells.size z.1&&Nat.blt 0 z.1 ) ( match pV (cm b.dV st.G) fr.H u b with
      |some ys=>(match a with
       | .sl id=>(match dE (cm b.dV st.G) fr.H (lj id) with
        |some (.top j,.own _ u' e' xs _)=>ay ( Nat.beq e e' ) ( match pV.bX.asL u ⟨.l u',xs⟩ with
         |some xs=>aI (aH (xs.length+ys.length) z.2.1) (K { st with c:=st.c+1,E:=cn (some d) none (.sl st.c) st.E,G:=(cm b.dV st.G).set j (.own st.c u e (xs++ys) st.c) })
         |none=>none ) none
        |some (_,.sli none _ u' xs true)=>(match pV.bX.asL u ⟨.l u',xs⟩ with
         |some xs=>(match ys with
          |y::ys=>aI (aH (xs.length+(y::ys).length) z.2.1) (K { st with c:=st.c+1,E:=cn (some d) none (.sl st.c) st.E,G:= .own st.c u e (xs++y::ys) st.c::cm b.dV st.G })
          |[]=>none)
         |none=>none)
        |_=>none)
       | .raw (.slice none 0 0)=>aI (aH (([]:List u.T).length+ys.length) z.2.1) (K { st with c:=st.c+1,E:=cn (some d) none (.sl st.c) st.E,G:= .own st.c u e ([]++ys) st.c::cm b.dV st.G })
       |_=>none)
      |none=>none ) none
     |none=>none)
    |none=>none)
   |none=>none)
  |none=>none)
 |none=>none
theorem amU{t:TypeId}{x y:Operand}(hl:st.low fr=true)(q:Sat (ab ρ T st.G++(ab ρ T fr.H++Φ)) w)(h:alC X T fr st d t x y K=some r):
  iB X.P T none (au ρ T st.E fr.F) ⟨some d,.call ⟨.builtin .append,#[x,y],#[t,t]⟩,ty,pos,af,gd⟩ w (aV r K T fr st none (some d) ρ Φ):=by
 unfold alC at h;split at h
 .rename_i e he;split at h
  .rename_i u hu;split at h
   .rename_i z hz;obtain ⟨n,bytes,z⟩:=z;split at h
    .rename_i a hx;split at h
     .rename_i b hy;obtain ⟨h1,g⟩:=aG h;simp only [ae] at h1;obtain ⟨⟨a1,a2⟩,a3⟩:=h1;have hn:n=u.rep.n:=(ah a1).trans u.A5.symm;have I:z.cells.size=n:=ah a2;have O:=cD hz;subst hn;have s:=oU (ids:=b.dV) (aC.cB.1 hl).2.2.1;replace q:=iH (ids:=b.dV) q;generalize cm b.dV st.G=G at g s q;have o:=bE (ρ:=ρ) hx;have L:=bE (ρ:=ρ) hy;have B:0<u.rep.n:=by simpa using a3
      split at g
      .rename_i ys hys;have J:=ML q hys;split at g
       .rename_i id;simp only [AV.val] at o;split at g
        .rename_i j k u' e' i ver R;obtain ⟨h3,h4⟩:=aG g;have:=ah h3;subst this;split at h4
         .rename_i xs N;obtain ⟨eu,ex⟩:=oq N;subst eu;simp only at ex;subst ex;obtain ⟨h5,h6⟩:=ej h4;obtain ⟨f1,f2⟩:=bU R;have:k=id:=ah f2;subst this;have hi:=fg (ρ:=ρ) (T:=T) (Φ:=ab ρ T fr.H++Φ) f1;obtain ⟨hO,_⟩:=q.at_ hi;obtain ⟨S,R',w',Y,A,hR,D⟩:=DI (P:=X.P) (E:=au ρ T st.E fr.F) (w:=w) (dst:=some d) (ty:=ty) (pos:=pos) (af:=af) (bT he) O I B o L hO J (λb hb=>Ctx.iy hi hb) h5;have mv0:Mv (Ctx.M (ab ρ T G++(ab ρ T fr.H++Φ))) w (Ctx.M (ab ρ T G++(ab ρ T fr.H++Φ))) w':=⟨A.size,λb hb hn=>⟨hn,A.block b hb (λhc=>hn (Ctx.iy hi hc))⟩⟩;have f:=D _ mv0;have hv:∃p:fy,S=sl p:=by obtain ⟨a,cap,hv⟩:=f.len;exact ⟨(a,_,cap),hv⟩
          obtain ⟨p,rfl⟩:=hv;have hj:j<G.length:=(List.getElem?_eq_some_iff.1 f1).1;refine .none_ (bC.gd (bC.me Y (aV.new (ρ':=ρ.set st.c { cO with v:=p,y:=⟨.l u',i++ys⟩ }) hl h6 ax.aY (eb _) rfl (by simp only [AV.val,ax.bw]) ?_)));show Sat (ab _ T (G.set j _)++_) _;rw [eU hj,bc ax.aY s];refine q.mF hi A (λb hb=>?_) (λM' m _=>?_)
          .simp only [Row.item,ax.bw] at hb;exact hR b (f.canon.1 b hb)
          .simp only [Row.item,ax.bw];exact ⟨f.canon.2 _ _ (D M' m),trivial⟩
         .cases h4
        .rename_i s' k u' i R;split at g
         .rename_i xs N;obtain ⟨eu,ex⟩:=oq N;subst eu;simp only at ex;subst ex;split at g
          .rename_i y0 ys0;obtain ⟨h5,h6⟩:=ej g;obtain ⟨f1,f2⟩:=bU R;have:k=id:=ah f2;subst this;obtain ⟨hS,Q⟩:=(Src.holds q f1) aA.get_none;have Q:=Q rfl;obtain ⟨ad,cap,C⟩:=hS.len;have ep:(ρ k).v=((ρ k).v.1,i.length,i.length):=by
            simp only [sl,Value.slice.injEq] at C
            ext1
            .rfl
            .ext1
             .exact C.2.1
             .exact Q
           rw [ep] at hS o;obtain ⟨i',hi',V,hby,hzz⟩:=O.out;subst hby
           obtain ⟨S,w',Y,Z,hB,D⟩:=SJ t ty e i' z (bT he) hi' hzz V I hS J (List.cons_ne_nil _ _) h5;have f:=bJ.of (D _ (Z.mv _));have hv:∃p:fy,S=sl p:=by obtain ⟨a,cap,hv⟩:=f.len;exact ⟨(a,_,cap),hv⟩
           obtain ⟨p,rfl⟩:=hv;have W:ky X.P (au ρ T st.E fr.F) ⟨some d,.call ⟨.builtin .append,#[x,y],#[t,t]⟩,ty,pos,af,none⟩ w (sl p) w':=λn' a R=>by simp [execOp,resolve,invoke,builtin,o n' a R rfl,L n' a R rfl,show (Builtin.append_ #[t,t] ty #[sl ((ρ k).v.1,i.length,i.length),AV.val ρ b]).run X.P w=_ from Y]
           refine .none_ (bC.gd (bC.me W ?_));exact vT (d:=d) (t:=u') (e:=e) (p:=p) hl s q Z (λb hb=>hB b (An hb)) (λM' m=>(bJ.of (D M' m)).AZ) rfl h6
          .cases g
         .cases g
        .cases g
       .simp only [AV.val] at o;obtain ⟨h5,h6⟩:=ej g;obtain ⟨S,R',w',Y,A,hR,D⟩:=DI (P:=X.P) (E:=au ρ T st.E fr.F) (w:=w) (dst:=some d) (ty:=ty) (pos:=pos) (af:=af) (xs:=([]:List u.T)) (bT he) O I B o L bJ.nil J (λb hb=>by cases hb) h5;have Z:Ext w w':=⟨A.os,A.tape,A.output,A.size,λb hb=>A.block b hb (λh=>by cases h)⟩;have f:=D _ (Z.mv _);have hv:∃p:fy,S=sl p:=by obtain ⟨a,cap,hv⟩:=f.len;exact ⟨(a,_,cap),hv⟩
        obtain ⟨p,rfl⟩:=hv;refine .none_ (bC.gd (bC.me Y ?_));exact vT (d:=d) (t:=u) (e:=e) (p:=p) hl s q Z (λb hb=>by
         obtain ⟨q1,U⟩:=hR b (f.canon.1 b hb);rcases U with U|U
         .cases U
         .exact ⟨q1,U⟩) (λM' m=>f.canon.2 _ _ (D M' m)) rfl h6
       .cases g
      .cases g
     .cases h
    .cases h
   .cases h
  .cases h
 .cases h
end
variable {x : Operand}
def both{R:Type}(a b:Option R):Option R:=open Classical in if a=b then a else none
theorem Xz{R:Type}{a b:Option R}{r:R}(h:both a b=some r):a=some r/\b=some r:=by
 unfold both at h;split at h
 next e=>exact ⟨h,e▸h⟩
 .cases h
inductive Sh where
 |l
 |b (x y:Sh)
def aM:Sh->(R:Type)->Option R->Option R
 | .l,_,a=>a
 | .b x y,R,a=>both (aM x R a) (aM y R a)
theorem abT{R:Type}{a:Option R}:(s:Sh)->aM s R a=a
 | .l=>rfl
 | .b x y=>by show both (aM x R a) (aM y R a)=a;rw [abT x,abT y];unfold both;simp
theorem aN:aM=λ_ _ a=>a:=funext λs=>funext λ_=>funext λ_=>abT s
def vF{α R:Type}(l:List α)(k1 k0:Option R):Option R:=match l with
 |[]=>both k1 k0
 |_::_=>k0
theorem XF{α R:Type}{l:List α}{a b:Option R}{r:R}(h:vF l a b=some r):b=some r/\(l=[]->a=some r):=by
 unfold vF at h;split at h
 .obtain ⟨d,c⟩:=Xz h;exact ⟨c,λ_=>d⟩
 .exact ⟨h,λe=>by cases e⟩
theorem kf{α:Type}{l:List α}{b:Nat}:vF l (some []) (aI (aH (List.length ([]:List α)+List.length l) b)<|some (([]:List α)++l))=aI (aH (List.length l) b) (some l):=by
 cases l with
 |nil=>
  have:aH 0 b=true:=by unfold aH;simp
  show both (some []) (aI (aH 0 b) (some []))=aI (aH 0 b) (some []);rw [this];unfold both;simp [aI]
 |cons x l=>show aI (aH (0+(l.length+1)) b) _=_;rw [ec];rfl
section
variable {X : Cx} {R : Type} {r : R} {K : cw R} {T : aA} {fr : Fr} {st : aC} {g : GK} {d : Tmp} {ρ : ax} {Φ : Ctx} {w : World} {ty : TypeId} {pos : String} {af : w4} {gd : s3}
def ahr(X:Cx)(st:aC)(d:Tmp)(t:TypeId)(K:cw R):Option R:=match Vt X.P t with
 |some p=>(match yX X.tys p.1 with
  |some k=>(match yX X.tys p.2 with
   |some v=>K { st with c:=st.c+1,E:=cn (some d) none (.mp st.c) st.E,G:= .mp st.c k v (some [])::st.G }
   |none=>none)
  |none=>none)
 |none=>none
theorem alP{t:TypeId}(f:st.low fr=true)(e:Sat (ab ρ T st.G++(ab ρ T fr.H++Φ)) w)(h:ahr X st d t K=some r):
  iB X.P T none (au ρ T st.E fr.F) ⟨some d,.makeMap t none,ty,pos,af,gd⟩ w (aV r K T fr st none (some d) ρ Φ):=by
 unfold ahr at h;split at h
 .rename_i p hp;split at h
  .rename_i k g;split at h
   .rename_i v hv;have c:ky X.P (au ρ T st.E fr.F) ⟨some d,.makeMap t none,ty,pos,af,none⟩ w (.map (some w.heap.size)) (w.alloc (.map #[] 0)):=λn a i=>by simp [execOp,Instr.makeMap]
    refine .none_ (bC.gd (bC.me c (aV.push (x:={ cO with m:=some w.heap.size }) f h (by simp only [AV.val,ax.bw]) ?_)));simp only [Row.item,ax.bw];exact e.push (dY _ _) (λb hb=>by
     have:b=w.heap.size:=by simpa [omap,HD] using hb
     subst this;exact ⟨by show _<(w.heap.push _).size;simp,bb _⟩) (λM' m=> .inr ⟨_,#[],0,[],rfl,rfl,by show (w.heap.push _)[w.heap.size]? =_;simp,rfl⟩)
   .cases h
  .cases h
 .cases h
def ahC(X:Cx)(T:aA)(fr:Fr)(st:aC)(t:TypeId)(x y z:Operand)(K:cw R):Option R:=match Vt X.P t with
 |some p=>(match bq T st.E fr.F none x with
  |some (.mp id)=>(match lQ (afu id) st.G with
   |some (j,.mp _ k v md)=>(match bq T st.E fr.F none y with
    |some kv=>(match bq T st.E fr.F none z with
     |some vv=>(match aco k kv with
      |some key=>(match aco v vv with
       |some val=>ay ( af8 X.P p.1 k ) ( md.bind λl=>K { st with G:=st.G.set j (.mp id k v (some (lu l key val))) } ) none
       |none=>none)
      |none=>none)
     |none=>none)
    |none=>none)
   |_=>none)
  |_=>none)
 |none=>none
theorem akr{t:TypeId}{y z:Operand}(n:Sat (ab ρ T st.G++(ab ρ T fr.H++Φ)) w)(h:ahC X T fr st t x y z K=some r):
  iB X.P T none (au ρ T st.E fr.F) ⟨none,.mapUpdate t x y z,ty,pos,af,gd⟩ w (aV r K T fr st none none ρ Φ):=by
 unfold ahC at h;split at h
 .rename_i p hp;split at h
  .rename_i id hx;split at h
   .rename_i j g k v md D;split at h
    .rename_i Q u;split at h
     .rename_i O s;split at h
      .rename_i key f;split at h
       next val e=>obtain ⟨M,L⟩:=aG h;obtain ⟨l,i,J⟩:=yN L;subst i;obtain ⟨q,N⟩:=kI D;have:g=id:=ah N;subst this;have d:=bE (ρ:=ρ) hx;have c:=bE (ρ:=ρ) u;have a:=bE (ρ:=ρ) s;simp only [AV.val] at d;rw [VN f] at c;rw [VN e] at a;have hi:=fg (ρ:=ρ) (T:=T) (Φ:=ab ρ T fr.H++Φ) q;obtain ⟨w',B,I,A,o⟩:=WA (P:=X.P) (E:=au ρ T st.E fr.F) (w:=w) (ty:=ty) (pos:=pos) (af:=af) (VQ M) (wa hp) d c a (n.omap hi);refine .none_ (bC.gd (bC.afT B (aV.ie (av:= .raw undef) J (bb _) rfl (by simp only [AV.val]) ?_)));have C:j<st.G.length:=(List.getElem?_eq_some_iff.1 q).1;show Sat (ab ρ T (st.G.set j _)++_) _;rw [eU C];exact n.mF hi I (λb hb=>⟨o.lt b hb,.inl hb⟩) (λM' m _=>o)
       .cases h
      .cases h
     .cases h
    .cases h
   .cases h
  .cases h
 .cases h
def akN(X:Cx)(T:aA)(fr:Fr)(st:aC)(d:Tmp)(t:TypeId)(x:Operand)(K:cw R):Option R:=match bq T st.E fr.F none x with
 |some (.str s)=>ay ( isStr X.P t ) ( K { st with c:=st.c+1,E:=cn (some d) none (.ptr st.c 0) st.E,G:= .it st.c s 0::st.G } ) none
 |_=>none
theorem ana{t:TypeId}(g:st.low fr=true)(f:Sat (ab ρ T st.G++(ab ρ T fr.H++Φ)) w)(h:akN X T fr st d t x K=some r):
  iB X.P T none (au ρ T st.E fr.F) ⟨some d,.range t x,ty,pos,af,gd⟩ w (aV r K T fr st none (some d) ρ Φ):=by
 unfold akN at h;split at h
 .rename_i s hx;obtain ⟨k,j⟩:=aG h;have c:=bE (ρ:=ρ) hx;simp only [AV.val] at c;have e:ky X.P (au ρ T st.E fr.F) ⟨some d,.range t x,ty,pos,af,none⟩ w (.pointer (some ⟨w.heap.size,0,none⟩)) (w.alloc (.stringIter ⟨s.toArray⟩ 0)):=λn' a i=>by simp [execOp,c n' a i rfl,Instr.range,run_underlying (oR k),S]
  refine .none_ (bC.gd (bC.me e (aV.push (x:={ cO with b:=w.heap.size }) g j (by simp only [AV.val,ax.bw]) ?_)));simp only [Row.item,ax.bw];exact f.push (dY _ _) (λb hb=>by
   have:b=w.heap.size:=by simpa [iter] using hb
   subst this;simp) (λ_ _=>heap_alloc_new w _)
 .cases h
def akG(T:aA)(fr:Fr)(st:aC)(d:Tmp)(x:Operand)(K:cw R):Option R:=match bq T st.E fr.F none x with
 |some (.ptr id 0)=>(match lQ (aov id) st.G with
  |some (j,.it _ s p)=>cond (decide (p<s.length)) (K { st with E:=cn (some d) none (.tuple [.bool true,.int .i64 (p:Int),.int .i32 (BU s p)]) st.E,G:=st.G.set j (.it id s (mS s p)) })
   (K { st with E:=cn (some d) none (.tuple [.bool false]) st.E })
  |_=>none)
 |_=>none
theorem anZ(o:Sat (ab ρ T st.G++(ab ρ T fr.H++Φ)) w)(h:akG T fr st d x K=some r):
  iB X.P T none (au ρ T st.E fr.F) ⟨some d,.next x true,ty,pos,af,gd⟩ w (aV r K T fr st none (some d) ρ Φ):=by
 unfold akG at h;split at h
 .rename_i id hx;split at h
  .rename_i j e s p m;obtain ⟨B,I⟩:=kI m;have:e=id:=ah I;subst this;have g:=bE (ρ:=ρ) hx;simp only [AV.val] at g;have hi:=fg (ρ:=ρ) (T:=T) (Φ:=ab ρ T fr.H++Φ) B;have y:Uy w (ρ e).b s p:=o.iter hi;have A:(getObj (ρ e).b).run X.P w= .ok (.stringIter ⟨s.toArray⟩ p) w:=by simp only [getObj,Sem.run];rw [y]
   rcases rR h with ⟨q,z⟩|⟨q,z⟩
   .have k:p<s.length:=by simpa using q
    have u:=(Array.getElem?_eq_some_iff.1 y).1;have n:Uy { w with heap:=w.heap.setIfInBounds (ρ e).b (.stringIter ⟨s.toArray⟩ (mS s p)) } (ρ e).b s (mS s p):=by show (w.heap.setIfInBounds (ρ e).b _)[(ρ e).b]? =_;rw [qM u]
    have D:jh [(ρ e).b] w { w with heap:=w.heap.setIfInBounds (ρ e).b (.stringIter ⟨s.toArray⟩ (mS s p)) }:=⟨rfl,rfl,rfl,by show w.heap.size<=(w.heap.setIfInBounds (ρ e).b _).size;simp,λc _ v=>by
     show (w.heap.setIfInBounds (ρ e).b _)[c]? =_;have t:c≠(ρ e).b:=by simpa using v
     rw [qj (Ne.symm t)]⟩
    have l:(setObj (ρ e).b (.stringIter ⟨s.toArray⟩ (mS s p))).run X.P w= .ok () { w with heap:=w.heap.setIfInBounds (ρ e).b (.stringIter ⟨s.toArray⟩ (mS s p)) }:=by simp only [setObj,Sem.run];rw [y]
    have i:p<(⟨s.toArray⟩:ByteArray).size:=by rw [j9];exact k
    have J:mS s p=p+(Utf8.decode ⟨s.toArray⟩ p).2:=rfl;have f:ky X.P (au ρ T st.E fr.F) ⟨some d,.next x true,ty,pos,af,none⟩ w (.tuple #[.bool true,.int .i64 (p:Int),.int .i32 (BU s p)]) { w with heap:=w.heap.setIfInBounds (ρ e).b (.stringIter ⟨s.toArray⟩ (mS s p)) }:=λn' a m=>by rw [J] at l ⊢;simp only [execOp,g n' a m rfl,Instr.next,Sem.run_bind,A,Result.andThen_ok,j5 i,Sem.run_pure,l,goInt];rfl
    refine .none_ (bC.gd (bC.me f (aV.ie (av:= .tuple [.bool true,.int .i64 (p:Int),.int .i32 (BU s p)]) z (bb _) rfl (by simp only [AV.val,AV.ao]) ?_)));have C:j<st.G.length:=(List.getElem?_eq_some_iff.1 B).1;show Sat (ab ρ T (st.G.set j _)++_) _;rw [eU C];exact o.mF hi D (λc hc=>by
     have:c=(ρ e).b:=by simpa [Row.item,Go.Proofs.YtkedhpmpejhekaaGreatDoor.iter] using hc
     subst this;exact ⟨(Array.getElem?_eq_some_iff.1 n).1,.inl (by simp [Row.item,Go.Proofs.YtkedhpmpejhekaaGreatDoor.iter])⟩) (λ_ _ _=>n)
   .have k:¬p<s.length:=by simpa using q
    have f:ky X.P (au ρ T st.E fr.F) ⟨some d,.next x true,ty,pos,af,none⟩ w (.tuple #[.bool false]) w:=λn' a m=>by
     have i:¬p<(⟨s.toArray⟩:ByteArray).size:=by rw [j9];exact k
     simp only [execOp,g n' a m rfl,Instr.next,Sem.run_bind,A,Result.andThen_ok,gZ i,Sem.run_pure]
    exact .none_ (bC.gd (bC.me f (aV.ie (av:= .tuple [.bool false]) z (bb _) rfl (by simp only [AV.val,AV.ao]) o)))
  .cases h
 .cases h
def ajQ(X:Cx)(T:aA)(fr:Fr)(st:aC)(g:GK)(d:Tmp)(s dt:TypeId)(x:Operand)(K:cw R):Option R:=match bq T st.E fr.F g x with
 |some (.str l)=>ay ( isStr X.P s ) ( match eT X.P dt with
  |some e=>(match XW X.P e with
   |some .u8=>K { st with c:=st.c+1,E:=cn (some d) g (.sl st.c) st.E,G:= .sli g st.c (.i .u8) (bL l) false::st.G }
   |_=>none)
  |none=>none ) none
 |_=>none
theorem an5{s k:TypeId}(i:st.low fr=true)(c:Sat (ab ρ T st.G++(ab ρ T fr.H++Φ)) w)(h:ajQ X T fr st g d s k x K=some r):
  iB X.P T g (au ρ T st.E fr.F) ⟨some d,.convert s k x,ty,pos,af,gd⟩ w (aV r K T fr st g (some d) ρ Φ):=by
 unfold ajQ at h;split at h
 .rename_i l hx;obtain ⟨z,b⟩:=aG h;split at b
  .rename_i e t;split at b
   .rename_i q;have a:=aR (ρ:=ρ) hx;simp only [AV.val] at a;refine ⟨λf=>?_,λf=>?_⟩
    .rw [f] at a;obtain ⟨A,w',m,y,o,u⟩:=aka (P:=X.P) (E:=au ρ T st.E fr.F) (w:=w) (dst:=some d) (ty:=ty) (pos:=pos) (af:=af) (oR z) (bT t) (Fg q) a;have j:=u (Ctx.M (ab ρ T st.G++(ab ρ T fr.H++Φ))) (λn=>by have:=c.lt n;omega);obtain ⟨p,rfl⟩:=j.lj;refine bC.gd (bC.me m (aV.push (x:={ cO with v:=p }) i b (by simp only [AV.val,ax.bw]) ((c.ext y).add rfl ?_)));simp only [Row.item,ax.bw];exact λ_=>⟨j,λhb=>by cases hb⟩
    .exact ⟨_,aV.push (x:=cO) i b rfl (c.add rfl λh=>by rw [f] at h;cases h)⟩
   .cases b
  .cases b
 .cases h
def ako(X:Cx)(T:aA)(fr:Fr)(st:aC)(d:Tmp)(op:BinOp)(t:TypeId)(x y:Operand)(K:cw R):Option R:=match eT X.P t with
 |some _=>(match bq T st.E fr.F none x with
  |some (.sl id)=>(match bq T st.E fr.F none y with
   |some (.raw (.slice none 0 0))=>(match Xg st.G fr.H id with
    |some ⟨none,_,l⟩=>(match op with
     | .eql=>vF l (K { st with E:=cn (some d) none (.bool true) st.E }) (K { st with E:=cn (some d) none (.bool false) st.E })
     | .neq=>vF l (K { st with E:=cn (some d) none (.bool false) st.E }) (K { st with E:=cn (some d) none (.bool true) st.E })
     |_=>none)
    |_=>none)
   |_=>none)
  |_=>none)
 |none=>none
theorem am5{op:BinOp}{t t':TypeId}{y:Operand}(m:Sat (ab ρ T st.G++(ab ρ T fr.H++Φ)) w)(h:ako X T fr st d op t x y K=some r):
  iB X.P T none (au ρ T st.E fr.F) ⟨some d,.binOp op t x y t',ty,pos,af,gd⟩ w (aV r K T fr st none (some d) ρ Φ):=by
 unfold ako at h;split at h
 .rename_i e p;split at h
  .rename_i id hx;split at h
   .rename_i q;split at h
    .rename_i u l i;have g:=bE (ρ:=ρ) hx;have f:=bE (ρ:=ρ) q;simp only [AV.val] at g f;have c:=UY m i aA.get_none;have a:(wq (sl (ρ id).v)=true/\l=[])\/wq (sl (ρ id).v)=false:=by
      rcases acS m i aA.get_none with s|⟨e',z⟩
      .rcases ad6 s with ⟨n,A⟩|n
       .exact .inl ⟨by rw [n];rfl,A⟩
       .exact .inr n
      .exact ael z
     have mk:∀b:Bool,K { st with E:=cn (some d) none (.bool b) st.E }=some r->aV r K T fr st none (some d) ρ Φ (.bool b) w:=λb hb=>aV.ie (av:= .bool b) hb (bb _) rfl (by simp only [AV.val]) m;split at h
     .obtain ⟨k,j⟩:=XF h;refine .none_ (bC.gd (bC.run (adU (bT p) g c f) ?_));rcases a with ⟨c1,o⟩|c1
      .rw [c1];exact mk _ (j o)
      .rw [c1];exact mk _ k
     .obtain ⟨k,j⟩:=XF h;refine .none_ (bC.gd (bC.run (adE (bT p) g c f) ?_));rcases a with ⟨c1,o⟩|c1
      .rw [c1];exact mk _ (j o)
      .rw [c1];exact mk _ k
     .cases h
    .cases h
   .cases h
  .cases h
 .cases h
def Vs(i:Int)(m:Nat)(k:Nat->Option R):Nat->Nat->Option R
 |0,_=>none
 |n+1,j=>cond (i==(j:Int)) (k (j*m)) (Vs i m k n (j+1))
theorem CZ{i:Int}{m:Nat}{k:Nat->Option R}:∀{n j:Nat},Vs i m k n j=some r->∃q,j<=q/\q<j+n/\i=(q:Int)/\k (q*m)=some r
 |0,j,h=>by cases h
 |n+1,j,h=>by
  unfold Vs at h;rcases rR h with ⟨d,a⟩|⟨_,a⟩
  .exact ⟨j,bb _,by omega,by simpa using d,a⟩
  .obtain ⟨q,f,e,c,b⟩:=CZ a;exact ⟨q,by omega,by omega,c,b⟩
end
def dZ:List Ty->Type
 |[]=>Unit
 |[t]=>t.T
 |t::u::ts=>t.T×dZ (u::ts)
def fK:(ts:List Ty)->dZ ts->List bX
 |[],_=>[]
 |[t],x=>[⟨t,x⟩]
 |t::u::ts,x=>⟨t,x.1⟩::fK (u::ts) x.2
def cC:(ts:List Ty)->List bX->Option (dZ ts)
 |[],D=>(match D with
  |[]=>some ()
  |_=>none)
 |[t],D=>(match D with
  |[d]=>d.as t
  |_=>none)
 |t::u::ts,D=>(match D with
  |d::D=>(match d.as t with
   |some x=>(match cC (u::ts) D with
    |some y=>some (x,y)
    |none=>none)
   |none=>none)
  |_=>none)
theorem Aj:(a:List Ty)->{D:List bX}->{s:dZ a}->cC a D=some s->fK a s=D
 |[],D,s,h=>by
  unfold cC at h;split at h
  .rfl
  .cases h
 |[t],D,s,h=>by
  match D,h with
  |[d],h=>rw [bX.Mi (t:=t) (d:=d) (x:=s) h];rfl
  |[],h=>cases h
  |_::_::_,h=>cases h
 |t::u::a,D,s,h=>by
  unfold cC at h;split at h
  .rename_i d c;split at h
   .rename_i x hx;split at h
    next y b=>cases h;show ⟨t,x⟩::fK (u::a) y=_;rw [Aj (u::a) b,bX.Mi hx]
    .cases h
   .cases h
  .cases h
def ahs:(ts:List Ty)->dZ ts
 |[]=>()
 |[t]=>t.oK
 |t::u::ts=>(t.oK,ahs (u::ts))
mutual
def la:Pt->List Ty
 | .int k=>[.i k]
 | .bool=>[.bo]
 | .str=>[.s]
 | .sli t=>[.l t]
 | .own t _ _=>[.l t]
 | .bx _ _ _ vs=>lx vs
 | .mp k v _=>[.mp k v]
 | .it=>[.s,.n]
 | .agg l=>lx l
 | .cC l=>lx l
 | .fn _ a b=>lx a++lx b
 | .ifc _ p=>la p
 | .dat t _=>[t]
 | .ifn=>[.n]
 | .sfp=>[.bo]
 | .sty p=>la p
 |_=>[]
def lx:List Pt->List Ty
 |[]=>[]
 |p::l=>la p++lx l
end
def ga:List (Bool×Nat×Pt)->List Ty
 |[]=>[]
 |x::l=>la x.2.2++ga l
abbrev Fx:=Option (Value×vf)
def tS(fx:Fx)(v:Value):Prop:= ∀p,fx=some p->v=p.1
def fxC(fx:Fx):vf:=match fx with
 |some p=>p.2
 |none=>[]
def MQ:Pt->Bool
 | .agg _=>true
 | .fn _ _ _=>true
 | .ifc _ _=>true
 |_=>false
def fx1(p:Pt)(fxs:vf):Fx:=match fxs with
 |[]=>none
 |u::_=>ay (MQ p) none (some (u,[]))
abbrev eB:=List (Bool×Item)
abbrev iN:=List (Nat×vf)
def oe(e:Nat):Nat:=e/2
def ow(e:Nat):Bool:=Nat.beq (e%2) 1
def PC:(t:Ty)->t.T->vf->sv->List Nm->eB->List Nm->sv->Prop
 | .i k,x,cs,o,N,I,N',o'=>cs=[.int k x]/\I=[]/\N'=N/\o'=o
 | .bo,x,cs,o,N,I,N',o'=>cs=[.bool x]/\I=[]/\N'=N/\o'=o
 | .s,x,cs,o,N,I,N',o'=>cs=[S x]/\I=[]/\N'=N/\o'=o
 | .un,_,cs,o,N,I,N',o'=>cs=[]/\I=[]/\N'=N/\o'=o
 | .p a b,x,cs,o,N,I,N',o'=>∃c1 c2 N1 I1 I2 o1,PC a x.1 c1 o N I1 N1 o1/\PC b x.2 c2 o1 N1 I2 N' o'/\cs=c1++c2/\I=I1++I2
 | .l t,x,cs,o,N,I,N',o'=>∃a:Nm,cs=[sl a.v]/\N'=N++[a]/\((o=none::o'/\I=[(false,DE true t.rep a.v x false)])\/∃e,o=some e::o'/\I=[(ow e,my t.rep (oe e) a.v x True)]/\a.y=⟨.l t,x⟩)
 | .ex,x,cs,o,N,I,N',o'=>∃a:Nm,cs=[.int .i64 x.op,.int .i64 x.n,.int .i64 x.at_,sl a.v]/\N'=N++[a]/\((o=none::o'/\I=[(false,DE true H6 a.v x.l false)])\/∃e,o=some e::o'/\I=[(ow e,my H6 (oe e) a.v x.l True)]/\a.y=⟨.l .ex,x.l⟩)
 |_,_,_,_,_,_,_,_=>False
mutual
def Sem:Pt->Value->Fx->Option Value->List Nm->List bX->eB->iN->List Nm->Prop
 | .int k,v,_,_,N,D,I,X,N'=>∃x,v= .int k x/\D=[⟨.i k,x⟩]/\I=[]/\X=[]/\N'=N
 | .bool,v,_,_,N,D,I,X,N'=>∃x,v= .bool x/\D=[⟨.bo,x⟩]/\I=[]/\X=[]/\N'=N
 | .str,v,_,_,N,D,I,X,N'=>∃x,v=S x/\D=[⟨.s,x⟩]/\I=[]/\X=[]/\N'=N
 | .sli t,v,_,_,N,D,I,X,N'=>∃(a:Nm) (l:List t.T),v=sl a.v/\D=[⟨.l t,l⟩]/\I=[(false,DE true t.rep a.v l false)]/\X=[]/\N'=N++[a]
 | .own t e m,v,fx,_,N,D,I,X,N'=>∃(a:Nm) (l:List t.T),v=sl a.v/\tS fx v/\D=[⟨.l t,l⟩]/\I=[(m,my t.rep e a.v l True)]/\X=[]/\N'=N++[a]/\a.y=⟨.l t,l⟩
 | .slr n,v,_,_,N,D,I,X,N'=>∃a:Nm,N[n]? =some a/\v=sl a.v/\D=[]/\I=[]/\X=[]/\N'=N
 | .bx t off m vs,v,fx,_,N,D,I,X,N'=>∃(a:Nm) (cs:vf) (I':eB) (X':iN),v= .pointer (some ⟨a.b,off,none⟩)/\tS fx v/\tl vs cs [] (fxC fx) (N++[a]) D I' X' N'/\I=(m,box a.b t cs)::I'/\X=(ay m [(N.length,cs)] [])++X'
 | .ptr n off,v,_,_,N,D,I,X,N'=>∃a:Nm,N[n]? =some a/\v= .pointer (some ⟨a.b,off,none⟩)/\D=[]/\I=[]/\X=[]/\N'=N
 | .mp k u m,v,fx,_,N,D,I,X,N'=>∃(a:Nm) (d:Option (List (k.T×u.T))),v= .map a.m/\tS fx v/\D=[⟨.mp k u,d⟩]/\I=[(m,omap (ES k) (ES u) (.map a.m) d)]/\X=[]/\N'=N++[a]
 | .it,v,fx,_,N,D,I,X,N'=>∃(a:Nm) (s:aF) (p:Nat),v= .pointer (some ⟨a.b,0,none⟩)/\tS fx v/\D=[⟨.s,s⟩,⟨.n,p⟩]/\I=[(true,iter a.b s p)]/\X=[]/\N'=N++[a]
 | .agg l,v,fx,_,N,D,I,X,N'=>∃cs:vf,v= .agg cs.toArray/\tS fx v/\tl l cs (ay fx.isSome cs []) [] N D I X N'
 | .cC l,v,_,_,N,D,I,X,N'=>∃cs:vf,v= .tuple cs.toArray/\tl l cs [] [] N D I X N'
 | .fn f a b,v,fx,_,N,D,I,X,N'=>∃(us vs:vf) (D1 D2:List bX) (I1 I2:eB) (X1 X2:iN) (N1:List Nm),v= .func (.func f) us.toArray vs.toArray/\tS fx v/\tl a us [] [] N D1 I1 X1 N1/\tl b vs (ay fx.isSome vs []) [] N1 D2 I2 X2 N'/\D=D1++D2/\I=I1++I2/\X=X1++X2
 | .ifc t p,v,fx,_,N,D,I,X,N'=>∃u,v= .iface t u/\tS fx v/\Sem p u (fx1 p (ay fx.isSome [u] [])) none N D I X N'
 | .iO c,v,_,_,N,D,I,X,N'=>(v=c.val (λ_=>cO)/\∀ρ,c.val ρ=c.val (λ_=>cO))/\D=[]/\I=[]/\X=[]/\N'=N
 | .dat t o,v,_,_,N,D,I,X,N'=>∃(cs:vf) (x:t.T) (o':sv),v= .agg cs.toArray/\D=[⟨t,x⟩]/\PC t x cs o N I N' o'/\X=[]
 | .ifn,v,_,_,N,D,I,X,N'=>∃x:Nat,v= .iface x (.agg #[])/\D=[⟨.n,x⟩]/\I=[]/\X=[]/\N'=N
 | .sfp,v,_,_,N,D,I,X,N'=>∃(a:Nm) (f:Bool),N[N.length-1]? =some a/\v=yQ f a.b/\D=[⟨.bo,f⟩]/\I=[]/\X=[]/\N'=N
 | .sty p,v,fx,sm,N,D,I,X,N'=>fx=none/\sm=some v/\MQ p=false/\Sem p v (some (v,[])) none N D I X N'
 | .same,v,fx,sm,N,D,I,X,N'=>((∃p,fx=some p/\v=p.1)\/(fx=none/\sm=some v))/\D=[]/\I=[]/\X=[]/\N'=N
def tl:List Pt->vf->vf->vf->List Nm->List bX->eB->iN->List Nm->Prop
 |[],vs,_,_,N,D,I,X,N'=>vs=[]/\D=[]/\I=[]/\X=[]/\N'=N
 |p::l,vs,fxs,sms,N,D,I,X,N'=>∃(v:Value) (vs':vf) (D1 D2:List bX) (I1 I2:eB) (X1 X2:iN) (N1:List Nm),vs=v::vs'/\Sem p v (fx1 p fxs) sms.head? N D1 I1 X1 N1/\tl l vs' fxs.tail sms.tail N1 D2 I2 X2 N'/\D=D1++D2/\I=I1++I2/\X=X1++X2
end
def E6(fix:Nat->Fx)(val:Nat->Option Value):List (Bool×Nat×Pt)->List Nm->List bX->eB->iN->List Nm->Prop
 |[],N,D,I,X,N'=>D=[]/\I=[]/\X=[]/\N'=N
 |x::l,N,D,I,X,N'=>∃(v:Value) (D1 D2:List bX) (I1 I2:eB) (X1 X2:iN) (N1:List Nm),(ay x.1 ((fix x.2.1).map (·.1)) (val x.2.1))=some v/\Sem x.2.2 v (ay x.1 (fix x.2.1) none) none N D1 I1 X1 N1/\E6 fix val l N1 D2 I2 X2 N'/\D=D1++D2/\I=I1++I2/\X=X1++X2
mutual
def AV.same:AV->AV->Bool
 | .fn f a b,v=>(match v with
  | .fn f' a' b'=>Nat.beq f f'&&AV.Mn a a'&&AV.Mn b b'
  |_=>false)
 | .tuple l,v=>(match l with
  |[]=>(match v with
   | .tuple l=>l.isEmpty
   |_=>false)
  |_=>false)
 | .int k x,v=>(match v with
  | .int k' x'=>fu k k'&&(x==x')
  |_=>false)
 | .raw u,v=>(match v with
  | .raw u'=>(match u,u' with
   | .slice none m n,.slice none m' n'=>Nat.beq m m'&&Nat.beq n n'
   | .pointer none,.pointer none=>true
   | .nilFunc,.nilFunc=>true
   | .nilIface,.nilIface=>true
   | .map none,.map none=>true
   |_,_=>false)
  |_=>false)
 |_,_=>false
def AV.Mn:List AV->List AV->Bool
 |[],l'=>l'.isEmpty
 |v::l,l'=>(match l' with
  |v'::l'=>AV.same v v'&&AV.Mn l l'
  |[]=>false)
end
mutual
theorem AV.GR{ρ ρ':ax}:(v:AV)->(c:AV)->AV.same v c=true->c.val ρ'=v.val ρ
 | .fn f a b,c,h=>by
  unfold AV.same at h;split at h
  next g e d=>simp only [ae] at h;simp only [AV.val];rw [ah h.1.1,AV.Lr a e h.1.2,AV.Lr b d h.2]
  .cases h
 | .tuple l,c,h=>by
  unfold AV.same at h;split at h
  .split at h
   .rename_i l';have:l'=[]:=by simpa using h
    subst this;simp only [AV.val,AV.ao]
   .cases h
  .cases h
 | .raw u,c,h=>by
  unfold AV.same at h;split at h
  .rename_i u';split at h
   .simp only [ae] at h;simp only [AV.val];rw [ah h.1,ah h.2]
   .simp only [AV.val]
   .simp only [AV.val]
   .simp only [AV.val]
   .simp only [AV.val]
   .cases h
  .cases h
 | .int k x,c,h=>by
  unfold AV.same at h;split at h
  .simp only [ae] at h;simp only [AV.val];rw [gm h.1,eq_of_beq h.2]
  .cases h
 | .bool _,c,h|.str _,c,h|.agg _,c,h|.ptr _ _,c,h|.sl _,c,h|.adr _ _,c,h|.ifc _ _,c,h|.mp _,c,h|.gp _,c,h|.nv _,c,h|.sfp _ _,c,h|.bs _ _,c,h=>by unfold AV.same at h;cases h
theorem AV.Lr{ρ ρ':ax}:(l:List AV)->(l':List AV)->AV.Mn l l'=true->AV.ao ρ' l'=AV.ao ρ l
 |[],l',h=>by
  unfold AV.Mn at h;have:l'=[]:=by simpa using h
  subst this;rfl
 |v::l,l',h=>by
  unfold AV.Mn at h;split at h
  next a l'=>simp only [ae] at h;simp only [AV.ao];rw [AV.GR v a h.1,AV.Lr l l' h.2]
  .cases h
end
structure MR where
 B:ti
 S:List (Bool×Src)
 D:List bX
 X:List (Nat×List AV)
def abC(G H:List Row)(t:Ty)(v:AV):Option (vA×Src×List t.T):=match v with
 | .sl j=>(match dE G H (lj j) with
  |some (s,.sli none _ t' l _)=>(match pV.bX.asL t ⟨.l t',l⟩ with
   |some l=>some (some j,s,l)
   |none=>none)
  |_=>none)
 | .raw (.slice none 0 0)=>some (none,.nilI t,[])
 |_=>none
def ZS(G H:List Row)(t:Ty)(e:TypeId)(v:AV):Option (vA×Src×List t.T):=match v with
 | .sl j=>(match dE G H (lj j) with
  |some (s,.own _ t' e' l _)=>ay ( Nat.beq e e' ) ( match pV.bX.asL t ⟨.l t',l⟩ with
   |some l=>some (some j,s,l)
   |none=>none
   ) none
  |_=>none)
 | .raw (.slice none 0 0)=>some (none,.nilO t e,[])
 |_=>none
structure DR(t:Ty) where
 x:t.T
 vs:List AV
 o:sv
 B:ti
 S:List (Bool×Src)
def vI(G H:List Row):(t:Ty)->List AV->sv->ti->Option (DR t)
 | .i k,vs,o,B=>(match vs with
  | .int k' x::vs=>ay ( fu k k' ) ( some ⟨x,vs,o,B,[]⟩ ) none
  |_=>none)
 | .bo,vs,o,B=>(match vs with
  | .bool x::vs=>some ⟨x,vs,o,B,[]⟩
  |_=>none)
 | .s,vs,o,B=>(match vs with
  | .str x::vs=>some ⟨x,vs,o,B,[]⟩
  |_=>none)
 | .un,vs,o,B=>some ⟨(),vs,o,B,[]⟩
 | .p a b,vs,o,B=>(match vI G H a vs o B with
  |some d=>(match vI G H b d.vs d.o d.B with
   |some e=>some ⟨(d.x,e.x),e.vs,e.o,e.B,d.S++e.S⟩
   |none=>none)
  |none=>none)
 | .l t,vs,o,B=>(match vs with
  |v::vs=>(match o with
   |none::o=>(match abC G H t v with
    |some q=>some ⟨q.2.2,vs,o,B++[q.1],[(false,q.2.1)]⟩
    |none=>none)
   |some e::o=>(match ZS G H t (oe e) v with
    |some q=>some ⟨q.2.2,vs,o,B++[q.1],[(ow e,q.2.1)]⟩
    |none=>none)
   |[]=>none)
  |[]=>none)
 | .ex,vs,o,B=>(match vs with
  | .int .i64 a:: .int .i64 b:: .int .i64 c::v::vs=>(match o with
   |none::o=>(match abC G H .ex v with
    |some q=>some ⟨Ex.mk a b c q.2.2,vs,o,B++[q.1],[(false,q.2.1)]⟩
    |none=>none)
   |some e::o=>(match ZS G H .ex (oe e) v with
    |some q=>some ⟨Ex.mk a b c q.2.2,vs,o,B++[q.1],[(ow e,q.2.1)]⟩
    |none=>none)
   |[]=>none)
  |_=>none)
 |_,_,_,_=>none
def Qp:vA->vA->Bool
 |some a,some b=>Nat.beq a b
 |none,none=>true
 |_,_=>false
theorem ane{a b:vA}(h:Qp a b=true):a=b:=by
 unfold Qp at h;split at h
 .rw [ah h]
 .rfl
 .cases h
abbrev fZ:=Option (AV×List AV)
def lW(p:Pt)(fxs:List AV):fZ:=match fxs with
 |[]=>none
 |u::_=>ay (MQ p) none (some (u,[]))
def mG(p:Pt)(fx:fZ):Bool:=match p with
 | .agg _=>(match fx with
  |some (.agg _,_)=>true
  |some _=>false
  |none=>true)
 | .fn _ _ _=>(match fx with
  |some (.fn _ _ _,_)=>true
  |some _=>false
  |none=>true)
 | .ifc _ _=>(match fx with
  |some (.ifc _ _,_)=>true
  |some _=>false
  |none=>true)
 |_=>true
def fP(fx:fZ):List AV:=match fx with
 |some (.agg us,_)=>us
 |some (.fn _ _ b,_)=>b
 |some (.ifc _ u,_)=>[u]
 |_=>[]
def GO(fx:fZ):List AV:=match fx with
 |some p=>p.2
 |none=>[]
def nvs(v:AV)(fx:fZ)(sm:Option AV):Bool:=match fx with
 |some _=>true
 |none=>(match sm with
  |some (.nv u)=>(match v with
   | .nv w=>Nat.beq u w
   |_=>false)
  |_=>false)
def akH:AV->AV->Bool
 | .ptr a b,.ptr c d=>Nat.beq a c&&Nat.beq b d
 |_,_=>false
theorem ang{u v:AV}(h:akH u v=true):u=v:=by
 unfold akH at h;split at h
 .simp only [ae] at h;rw [ah h.1,ah h.2]
 .cases h
def aaJ:Pt->Bool
 | .same=>true
 |_=>false
mutual
def mt(G H:List Row):Pt->AV->fZ->Option AV->ti->Option MR
 | .int k,v,_,_,B=>(match v with
  | .int k' x=>ay (fu k k') (some ⟨B,[],[⟨.i k,x⟩],[]⟩) none
  |_=>none)
 | .bool,v,_,_,B=>(match v with
  | .bool x=>some ⟨B,[],[⟨.bo,x⟩],[]⟩
  |_=>none)
 | .str,v,_,_,B=>(match v with
  | .str x=>some ⟨B,[],[⟨.s,x⟩],[]⟩
  |_=>none)
 | .sli t,v,_,_,B=>(match abC G H t v with
  |some q=>some ⟨B++[q.1],[(false,q.2.1)],[⟨.l t,q.2.2⟩],[]⟩
  |none=>none)
 | .own t e m,v,_,_,B=>(match ZS G H t e v with
  |some q=>some ⟨B++[q.1],[(m,q.2.1)],[⟨.l t,q.2.2⟩],[]⟩
  |none=>none)
 | .slr n,v,_,_,B=>(match v with
  | .sl j=>ay (Qp ((B[n]?).getD none) (some j)) (some ⟨B,[],[],[]⟩) none
  |_=>none)
 | .bx t off m vs,v,fx,_,B=>(match v with
  | .ptr j off'=>ay (Nat.beq off off') (match dE G H (wG j) with
   |some (s,.box _ t' cs)=>ay (Nat.beq t t') (match FJ G H vs cs [] (GO fx) (B++[some j]) with
     |some r=>some ⟨r.B,(m,s)::r.S,r.D,(ay m [(B.length,cs)] [])++r.X⟩
     |none=>none) none
   |_=>none) none
  |_=>none)
 | .ptr n off,v,_,_,B=>(match v with
  | .ptr j off'=>ay (Nat.beq off off'&&Qp ((B[n]?).getD none) (some j)) (some ⟨B,[],[],[]⟩) none
  |_=>none)
 | .mp k u m,v,_,_,B=>(match v with
  | .mp j=>(match dE G H (afu j) with
   |some (s,.mp _ k' u' d)=>(match bX.as (.mp k u) ⟨.mp k' u',d⟩ with
    |some d=>some ⟨B++[some j],[(m,s)],[⟨.mp k u,d⟩],[]⟩
    |none=>none)
   |_=>none)
  | .raw (.map none)=>some ⟨B++[none],[(m,.nilM k u)],[⟨.mp k u,(none:Option (List (k.T×u.T)))⟩],[]⟩
  |_=>none)
 | .it,v,_,_,B=>(match v with
  | .ptr j 0=>(match dE G H (aov j) with
   |some (s,.it _ x p)=>some ⟨B++[some j],[(true,s)],[⟨.s,x⟩,⟨.n,p⟩],[]⟩
   |_=>none)
  |_=>none)
 | .agg l,v,fx,_,B=>(match v with
  | .agg vs=>ay (mG (.agg l) fx) (FJ G H l vs (ay fx.isSome vs []) [] B) none
  |_=>none)
 | .cC l,v,_,_,B=>(match v with
  | .tuple vs=>FJ G H l vs [] [] B
  |_=>none)
 | .fn f a b,v,fx,_,B=>(match v with
  | .fn f' a' b'=>ay (Nat.beq f f'&&mG (.fn f a b) fx) (match FJ G H a a' [] [] B with
   |some r=>(match FJ G H b b' (ay fx.isSome b' []) [] r.B with
    |some q=>some ⟨q.B,r.S++q.S,r.D++q.D,r.X++q.X⟩
    |none=>none)
   |none=>none) none
  |_=>none)
 | .ifc t p,v,fx,_,B=>(match v with
  | .ifc t' u=>ay (Nat.beq t t'&&mG (.ifc t p) fx) (mt G H p u (lW p (ay fx.isSome [u] [])) none B) none
  |_=>none)
 | .iO c,v,_,_,B=>ay (AV.same c v) (some ⟨B,[],[],[]⟩) none
 | .dat t o,v,_,_,B=>(match v with
  | .agg cs=>(match vI G H t cs o B with
   |some ⟨x,[],_,B',S⟩=>some ⟨B',S,[⟨t,x⟩],[]⟩
   |_=>none)
  |_=>none)
 | .ifn,v,_,_,B=>(match v with
  | .ifc t (.agg [])=>some ⟨B,[],[⟨.n,t⟩],[]⟩
  |_=>none)
 | .sfp,v,_,_,B=>(match v with
  | .raw (.pointer none)=>(match B[B.length-1]? with
   |some _=>some ⟨B,[],[⟨.bo,false⟩],[]⟩
   |none=>none)
  | .sfp j f=>ay (Qp ((B[B.length-1]?).getD none) (some j)) (some ⟨B,[],[⟨.bo,f⟩],[]⟩) none
  | .ptr j 0=>ay (Qp ((B[B.length-1]?).getD none) (some j)) (some ⟨B,[],[⟨.bo,true⟩],[]⟩) none
  |_=>none)
 | .sty p,v,fx,sm,B=>(match fx with
  |some _=>none
  |none=>(match sm with
   |some u=>ay (akH (rH G H u) v&& !(MQ p)) (mt G H p v (some (v,[])) none B) none
   |none=>none))
 | .same,v,fx,sm,B=>ay (nvs v fx sm) (some ⟨B,[],[],[]⟩) none
def FJ(G H:List Row):List Pt->List AV->List AV->List AV->ti->Option MR
 |[],vs,_,_,B=>(match vs with
  |[]=>some ⟨B,[],[],[]⟩
  |_=>none)
 |p::l,vs,fxs,sms,B=>(match vs with
  |v::vs=>(match mt G H p (ay (aaJ p) v (rH G H v)) (lW p fxs) sms.head? B with
   |some r=>(match FJ G H l vs fxs.tail sms.tail r.B with
    |some q=>some ⟨q.B,r.S++q.S,r.D++q.D,r.X++q.X⟩
    |none=>none)
   |none=>none)
  |[]=>none)
end
def oZ(fix:Nat->fZ):List (Bool×Nat×Pt)->Bool
 |[]=>true
 |x::l=>mG x.2.2 (ay x.1 (fix x.2.1) none)&&oZ fix l
theorem am9{G H:List Row}{p:Pt}{v:AV}{fx:fZ}{a:Option AV}{B:ti}{r:MR}(h:mt G H p v fx a B=some r):mG p fx=true:=by
 cases p <;> first|rfl|skip
 .unfold mt at h;split at h
  .exact (aG h).1
  .cases h
 .unfold mt at h;split at h
  .have:=(aG h).1;simp only [ae] at this;exact this.2
  .cases h
 .unfold mt at h;split at h
  .have:=(aG h).1;simp only [ae] at this;exact this.2
  .cases h
def Xs(G H:List Row)(look:Nat->Option AV)(fix:Nat->fZ):List (Bool×Nat×Pt)->ti->Option MR
 |[],B=>some ⟨B,[],[],[]⟩
 |x::l,B=>(match (ay x.1 ((fix x.2.1).map (·.1)) (look x.2.1)) with
  |some v=>(match mt G H x.2.2 v (ay x.1 (fix x.2.1) none) none B with
   |some r=>(match Xs G H look fix l r.B with
    |some q=>some ⟨q.B,r.S++q.S,r.D++q.D,r.X++q.X⟩
    |none=>none)
   |none=>none)
  |none=>none)
theorem ac1{G H:List Row}{b:Nat->Option AV}{fix:Nat->fZ}:{l:List (Bool×Nat×Pt)}->{B:ti}->{r:MR}->Xs G H b fix l B=some r->oZ fix l=true
 |[],_,_,_=>rfl
 |x::l,B,r,h=>by
  unfold Xs at h;split at h
  .split at h
   .rename_i q c;split at h
    next d a=>simp only [oZ,ae];exact ⟨am9 c,ac1 a⟩
    .cases h
   .cases h
  .cases h
def bQ(a b:Item):Prop:=(∀x,x∈b.own->x∈a.own)/\∀M w,a.P M w->b.P M w
theorem bQ.refl{a:Item}:bQ a a:=⟨λ_ h=>h,λ_ _ h=>h⟩
def aht(ρ:ax)(T:aA)(G H:List Row)(s:Src)(it:Item):Prop:=
 (it.own=[]/\(∀M w,it.P M w)/\∀r,¬s.at_ G H r)\/∃r,s.at_ G H r/\bQ (r.item ρ T) it/\(r.cE=true->it.own=[])/\(r.cE=false->bQ it (r.item ρ T))
def SI(ρ:ax)(T:aA)(G H:List Row)(a:Bool×Src)(b:Bool×Item):Prop:=a.1=b.1/\aht ρ T G H a.2 b.2
inductive eR{α β:Type}(R:α->β->Prop):List α->List β->Prop
 |nil:eR R [] []
 |cons {a b l m}:R a b->eR R l m->eR R (a::l) (b::m)
theorem eR.length{α β:Type}{R:α->β->Prop}{l:List α}{m:List β}(h:eR R l m):l.length=m.length:=by
 induction h with
 |nil=>rfl
 |cons _ _ ih=>simp [ih]
theorem eR.append{α β:Type}{R:α->β->Prop}{l l':List α}{m a:List β}(h:eR R l m)(k:eR R l' a):eR R (l++l') (m++a):=by
 induction h with
 |nil=>exact k
 |cons b _ ih=>exact .cons b ih
theorem eR.get{α β:Type}{R:α->β->Prop}{l:List α}{m:List β}(h:eR R l m):∀{i:Nat} {a:α},l[i]? =some a->∃b,m[i]? =some b/\R a b:=by
 induction h with
 |nil=>intro i a h;simp at h
 |cons c _ ih=>
  intro i a h;cases i with
  |zero=>simp at h;subst h;exact ⟨_,rfl,c⟩
  |succ i=>exact ih (by simpa using h)
def NBr(ρ:ax)(o:vA)(a:Nm):Prop:=match o with
 |some j=>a.b=(ρ j).b/\a.v=(ρ j).v/\a.m=(ρ j).m
 |none=>a.b=0/\a.v=(none,0,0)/\a.m=none
abbrev NB(ρ:ax)(B:ti)(N:List Nm):Prop:=eR (NBr ρ) B N
theorem NB.at_{ρ:ax}{B:ti}{N:List Nm}(h:NB ρ B N){n j:Nat}(hb:Qp ((B[n]?).getD none) (some j)=true):∃a,N[n]? =some a/\a.b=(ρ j).b/\a.v=(ρ j).v:=by
 have e:=ane hb;cases c:B[n]? with
 |none=>rw [c] at e;cases e
 |some o=>
  rw [c] at e;simp only [qq] at e;subst e;obtain ⟨a,f,d⟩:=h.get c;exact ⟨a,f,d.1,d.2.1⟩
section
variable {ρ : ax} {T : aA} {G H : List Row} {Φ : Ctx} {w : World}
theorem Ve(i:Sat (ab ρ T G++(ab ρ T H++Φ)) w){t:Ty}{v:AV}{q:vA×Src×List t.T}(h:abC G H t v=some q):∃a:Nm,NBr ρ q.1 a/\v.val ρ=sl a.v/\aht ρ T G H q.2.1 (DE true t.rep a.v q.2.2 false):=by
 unfold abC at h;split at h
 .rename_i j;split at h
  .rename_i s c t' l b e;split at h
   next l' d=>cases h;obtain ⟨rfl,rfl⟩:=oq d;obtain ⟨g,f⟩:=bU e;have:c=j:=ah f;subst this;refine ⟨ρ c,⟨rfl,rfl,rfl⟩,by simp only [AV.val],.inr ⟨_,g,⟨λ_ h=>h,λM w h _=>⟨(h aA.get_none).1,λhb=>by cases hb⟩⟩,λ_=>rfl,λh=>by cases h⟩⟩
   .cases h
  .cases h
 .cases h;exact ⟨cO,⟨rfl,rfl,rfl⟩,by simp only [AV.val];rfl,.inl ⟨rfl,λM w _=>⟨bO.nil,λhb=>by cases hb⟩,λr h=>h⟩⟩
 .cases h
theorem WK(i:Sat (ab ρ T G++(ab ρ T H++Φ)) w){t:Ty}{e:TypeId}{v:AV}{q:vA×Src×List t.T}(h:ZS G H t e v=some q):∃a:Nm,NBr ρ q.1 a/\v.val ρ=sl a.v/\a.y=⟨.l t,q.2.2⟩/\aht ρ T G H q.2.1 (my t.rep e a.v q.2.2 True):=by
 unfold ZS at h;split at h
 .rename_i j;split at h
  .rename_i s d t' e' l g m;obtain ⟨n,c⟩:=aG h;have p:=ah n;subst p;split at c
   next l' k=>cases c;obtain ⟨rfl,rfl⟩:=oq k;obtain ⟨f,o⟩:=bU m;have:d=j:=ah o;subst this;have b:=(Src.holds i f).2;refine ⟨{ ρ d with y:=⟨.l t',l⟩ },⟨rfl,rfl,rfl⟩,by simp only [AV.val],rfl,.inr ⟨_,f,⟨λ_ h=>h,λM w h=>⟨h.1,trivial⟩⟩,λh=>(by cases h),λ_=>⟨λ_ h=>h,λM w h=>⟨h.1,b⟩⟩⟩⟩
   .cases c
  .cases h
 .cases h;exact ⟨{ cO with y:=⟨.l t,([]:List t.T)⟩ },⟨rfl,rfl,rfl⟩,by simp only [AV.val];rfl,rfl,.inl ⟨rfl,λM w=>⟨bJ.nil,trivial⟩,λr h=>h⟩⟩
 .cases h
theorem Wd(m:Sat (ab ρ T G++(ab ρ T H++Φ)) w):(t:Ty)->(vs:List AV)->(o:sv)->(B:ti)->(d:DR t)->(N:List Nm)->vI G H t vs o B=some d->NB ρ B N->
  ∃us N' I,vs=us++d.vs/\PC t d.x (AV.ao ρ us) o N I N' d.o/\NB ρ d.B N'/\eR (SI ρ T G H) d.S I
 | .i k,vs,o,B,d,N,h,hN=>by
  unfold vI at h;split at h
  next U x us=>obtain ⟨D,C⟩:=aG h;have:=gm D;subst this;cases C;exact ⟨[.int k x],N,[],rfl,⟨by simp only [AV.ao,AV.val],rfl,rfl,rfl⟩,hN,.nil⟩
  .cases h
 | .bo,vs,o,B,d,N,h,hN=>by
  unfold vI at h;split at h
  next x us=>cases h;exact ⟨[.bool x],N,[],rfl,⟨by simp only [AV.ao,AV.val],rfl,rfl,rfl⟩,hN,.nil⟩
  .cases h
 | .s,vs,o,B,d,N,h,hN=>by
  unfold vI at h;split at h
  next x us=>cases h;exact ⟨[.str x],N,[],rfl,⟨by simp only [AV.ao,AV.val],rfl,rfl,rfl⟩,hN,.nil⟩
  .cases h
 | .un,vs,o,B,d,N,h,hN=>by
  unfold vI at h;cases h;exact ⟨[],N,[],rfl,⟨by simp only [AV.ao],rfl,rfl,rfl⟩,hN,.nil⟩
 | .n,vs,o,B,d,N,h,hN=>by unfold vI at h;cases h
 | .mp _ _,vs,o,B,d,N,h,hN=>by unfold vI at h;cases h
 | .p a b,vs,o,B,d,N,h,hN=>by
  unfold vI at h;split at h
  .rename_i r D;split at h
   next d2 C=>cases h;obtain ⟨z,N1,L,g,c,f,R⟩:=Wd m a vs o B r N D hN;obtain ⟨y,N2,K,P,M,O,Q⟩:=Wd m b r.vs r.o r.B d2 N1 C f;refine ⟨z++y,N2,L++K,by rw [g,P,aO],?_,O,R.append Q⟩;rw [cX];exact ⟨_,_,N1,L,K,r.o,c,M,rfl,rfl⟩
   .cases h
  .cases h
 | .l t,vs,o,B,d,N,h,hN=>by
  unfold vI at h;split at h
  .rename_i v us;split at h
   .rename_i A;split at h
    next q j=>cases h;obtain ⟨a,f,g,c⟩:=Ve m j;refine ⟨[v],N++[a],_,rfl,⟨a,by simp only [AV.ao];rw [g],rfl,.inl ⟨rfl,rfl⟩⟩,hN.append (.cons f .nil),.cons ⟨rfl,c⟩ .nil⟩
    .cases h
   .rename_i e A;split at h
    next q j=>cases h;obtain ⟨a,f,g,u,c⟩:=WK m j;refine ⟨[v],N++[a],_,rfl,⟨a,by simp only [AV.ao];rw [g],rfl,.inr ⟨e,rfl,rfl,u⟩⟩,hN.append (.cons f .nil),.cons ⟨rfl,c⟩ .nil⟩
    .cases h
   .cases h
  .cases h
 | .ex,vs,o,B,d,N,h,hN=>by
  unfold vI at h;split at h
  .rename_i J F E v us;split at h
   .rename_i A;split at h
    next q j=>cases h;obtain ⟨a,f,g,c⟩:=Ve m j;refine ⟨[.int .i64 J,.int .i64 F,.int .i64 E,v],N++[a],_,rfl,⟨a,by simp only [AV.ao,AV.val];rw [g];rfl,rfl,.inl ⟨rfl,rfl⟩⟩,hN.append (.cons f .nil),.cons ⟨rfl,c⟩ .nil⟩
    .cases h
   .rename_i e A;split at h
    next q j=>cases h;obtain ⟨a,f,g,u,c⟩:=WK m j;refine ⟨[.int .i64 J,.int .i64 F,.int .i64 E,v],N++[a],_,rfl,⟨a,by simp only [AV.ao,AV.val];rw [g];rfl,rfl,.inr ⟨e,rfl,rfl,u⟩⟩,hN.append (.cons f .nil),.cons ⟨rfl,c⟩ .nil⟩
    .cases h
   .cases h
  .cases h
abbrev dD(ρ:ax)(X:List (Nat×List AV)):iN:=X.map λx=>(x.1,AV.ao ρ x.2)
abbrev eW(ρ:ax)(fx:fZ):Fx:=fx.map λq=>(q.1.val ρ,AV.ao ρ q.2)
theorem aeO{fx:fZ}:fxC (eW ρ fx)=AV.ao ρ (GO fx):=by
 cases fx with
 |none=>simp [fxC,GO,AV.ao]
 |some q=>rfl
theorem MJ{p:Pt}{a:List AV}:fx1 p (AV.ao ρ a)=eW ρ (lW p a):=by
 cases a with
 |nil=>rfl
 |cons u us=>
  unfold fx1 lW;simp only [AV.ao];cases MQ p <;> simp [ay,AV.ao]
theorem aan{b:Bool}{x:List AV}:AV.ao ρ (ay b x [])=ay b (AV.ao ρ x) []:=by
 cases b
 .show AV.ao ρ []=[];simp only [AV.ao]
 .rfl
theorem SB{fx:fZ}:(eW ρ fx).isSome=fx.isSome:=by cases fx <;> rfl
theorem sI{fx:fZ}{v:AV}(h:∀q,fx=some q->q.1.val ρ=v.val ρ):tS (eW ρ fx) (v.val ρ):=by
 intro p hp;cases fx with
 |none=>cases hp
 |some q=>cases hp;exact (h q rfl).symm
theorem XM(a:Sat (ab ρ T G++(ab ρ T H++Φ)) w){p:Pt}{v:AV}:(ay (aaJ p) v (rH G H v)).val ρ=v.val ρ:=by
 cases aaJ p
 .exact PT a
 .rfl
theorem XJ{l:List AV}:(AV.ao ρ l).head? =l.head?.map (AV.val ρ):=by cases l <;> simp [AV.ao]
theorem Dg{l:List AV}:(AV.ao ρ l).tail=AV.ao ρ l.tail:=by cases l <;> simp [AV.ao]
mutual
theorem HL(L:Sat (ab ρ T G++(ab ρ T H++Φ)) w):(p:Pt)->(v:AV)->(fx:fZ)->(y:Option AV)->(B:ti)->(r:MR)->(N:List Nm)->mt G H p v fx y B=some r->NB ρ B N->(∀q,fx=some q->q.1.val ρ=v.val ρ)->
  ∃F I,Sem p (v.val ρ) (eW ρ fx) (y.map (AV.val ρ)) N r.D I (dD ρ r.X) F/\NB ρ r.B F/\eR (SI ρ T G H) r.S I
 | .int k,v,fx,y,B,r,N,h,hN,hf=>by
  unfold mt at h;split at h
  next k' x=>obtain ⟨g,i⟩:=aG h;have:=gm g;subst this;cases i;exact ⟨N,[],⟨x,by simp only [AV.val],rfl,rfl,rfl,rfl⟩,hN,.nil⟩
  .cases h
 | .bool,v,fx,y,B,r,N,h,hN,hf=>by
  unfold mt at h;split at h
  next x=>cases h;exact ⟨N,[],⟨x,by simp only [AV.val],rfl,rfl,rfl,rfl⟩,hN,.nil⟩
  .cases h
 | .str,v,fx,y,B,r,N,h,hN,hf=>by
  unfold mt at h;split at h
  next x=>cases h;exact ⟨N,[],⟨x,by simp only [AV.val],rfl,rfl,rfl,rfl⟩,hN,.nil⟩
  .cases h
 | .sli t,v,fx,y,B,r,N,h,hN,hf=>by
  unfold mt at h;split at h
  next q K=>cases h;obtain ⟨a,C,E,A⟩:=Ve L K;exact ⟨N++[a],_,⟨a,q.2.2,E,rfl,rfl,rfl,rfl⟩,hN.append (.cons C .nil),.cons ⟨rfl,A⟩ .nil⟩
  .cases h
 | .own t e m,v,fx,y,B,r,N,h,hN,hf=>by
  unfold mt at h;split at h
  next q K=>cases h;obtain ⟨a,C,E,y1,A⟩:=WK L K;exact ⟨N++[a],_,⟨a,q.2.2,E,sI hf,rfl,rfl,rfl,rfl,y1⟩,hN.append (.cons C .nil),.cons ⟨rfl,A⟩ .nil⟩
  .cases h
 | .slr n,v,fx,y,B,r,N,h,hN,hf=>by
  unfold mt at h;split at h
  next j=>obtain ⟨g,i⟩:=aG h;cases i;obtain ⟨a,z,P,a3⟩:=hN.at_ g;exact ⟨N,[],⟨a,z,by simp only [AV.val];rw [a3],rfl,rfl,rfl,rfl⟩,hN,.nil⟩
  .cases h
 | .bx t off m vs,v,fx,y,B,r,N,h,hN,hf=>by
  unfold mt at h;split at h
  .rename_i j Q;obtain ⟨g,i⟩:=aG h;have E:=ah g;subst E;split at i
   .rename_i s J t' cs O;obtain ⟨h3,h4⟩:=aG i;have V:=ah h3;subst V;split at h4
    next q K=>cases h4;obtain ⟨U,R⟩:=bU O;have:J=j:=ah R;subst this;obtain ⟨F,I,A,C,z⟩:=wZ L vs cs [] (GO fx) (B++[some J]) q (N++[ρ J]) K (.inl rfl) (hN.append (.cons ⟨rfl,rfl,rfl⟩ .nil));refine ⟨F,_,⟨ρ J,AV.ao ρ cs,I,dD ρ q.X,by simp only [AV.val],sI hf,by rw [aeO];simpa only [AV.ao] using A,rfl,?_⟩,C,.cons ⟨rfl,.inr ⟨_,U,bQ.refl,(λh=>by cases h),λ_=>bQ.refl⟩⟩ z⟩;rw [<-hN.length];cases m <;> simp [dD]
    .cases h4
   .cases i
  .cases h
 | .ptr n off,v,fx,y,B,r,N,h,hN,hf=>by
  unfold mt at h;split at h
  next j Q=>obtain ⟨g,i⟩:=aG h;simp only [ae] at g;cases i;have E:=ah g.1;subst E;obtain ⟨a,z,P,a3⟩:=hN.at_ g.2;exact ⟨N,[],⟨a,z,by simp only [AV.val];rw [P],rfl,rfl,rfl,rfl⟩,hN,.nil⟩
  .cases h
 | .mp k u m,v,fx,y,B,r,N,h,hN,hf=>by
  unfold mt at h;split at h
  .rename_i j;split at h
   .rename_i s J k' u' d O;split at h
    next d' hd=>cases h;have:=bX.Mi hd;cases this;obtain ⟨U,R⟩:=bU O;have:J=j:=ah R;subst this;exact ⟨N++[ρ J],_,⟨ρ J,d',by simp only [AV.val],sI hf,rfl,rfl,rfl,rfl⟩,hN.append (.cons ⟨rfl,rfl,rfl⟩ .nil),.cons ⟨rfl,.inr ⟨_,U,bQ.refl,(λh=>by cases h),λ_=>bQ.refl⟩⟩ .nil⟩
    .cases h
   .cases h
  .cases h;exact ⟨N++[cO],_,⟨cO,none,by simp only [AV.val];rfl,sI hf,rfl,rfl,rfl,rfl⟩,hN.append (.cons ⟨rfl,rfl,rfl⟩ .nil),.cons ⟨rfl,.inl ⟨rfl,λM w=>nc.nil,λr h=>h⟩⟩ .nil⟩
  .cases h
 | .it,v,fx,y,B,r,N,h,hN,hf=>by
  unfold mt at h;split at h
  .rename_i j;split at h
   next s J x p O=>cases h;obtain ⟨U,R⟩:=bU O;have:J=j:=ah R;subst this;exact ⟨N++[ρ J],_,⟨ρ J,x,p,by simp only [AV.val],sI hf,rfl,rfl,rfl,rfl⟩,hN.append (.cons ⟨rfl,rfl,rfl⟩ .nil),.cons ⟨rfl,.inr ⟨_,U,bQ.refl,(λh=>by cases h),λ_=>bQ.refl⟩⟩ .nil⟩
   .cases h
  .cases h
 | .agg l,v,fx,y,B,r,N,h,hN,hf=>by
  unfold mt at h;split at h
  next vs=>obtain ⟨_,h⟩:=aG h;obtain ⟨F,I,A,C,z⟩:=wZ L l vs (ay fx.isSome vs []) [] B r N h (by cases fx <;> first|exact .inl rfl|exact .inr rfl) hN;exact ⟨F,I,⟨AV.ao ρ vs,by simp only [AV.val],sI hf,by rw [SB,<-aan];simpa only [AV.ao] using A⟩,C,z⟩
  .cases h
 | .cC l,v,fx,y,B,r,N,h,hN,hf=>by
  unfold mt at h;split at h
  next vs=>obtain ⟨F,I,A,C,z⟩:=wZ L l vs [] [] B r N h (.inl rfl) hN;exact ⟨F,I,⟨AV.ao ρ vs,by simp only [AV.val],by simpa only [AV.ao] using A⟩,C,z⟩
  .cases h
 | .fn f a b,v,fx,y,B,r,N,h,hN,hf=>by
  unfold mt at h;split at h
  .rename_i f' a' b';obtain ⟨g,i⟩:=aG h;simp only [ae] at g;have E:=ah g.1;subst E;split at i
   .rename_i W hq1;split at i
    next Y Z=>cases i;obtain ⟨N1,I1,A,C,z⟩:=wZ L a a' [] [] B W N hq1 (.inl rfl) hN;obtain ⟨N2,I2,s2,n2,P⟩:=wZ L b b' (ay fx.isSome b' []) [] W.B Y N1 Z (by cases fx <;> first|exact .inl rfl|exact .inr rfl) C;exact ⟨N2,I1++I2,⟨AV.ao ρ a',AV.ao ρ b',W.D,Y.D,I1,I2,dD ρ W.X,dD ρ Y.X,N1,by simp only [AV.val],sI hf,by simpa only [AV.ao] using A,by rw [SB,<-aan];simpa only [AV.ao] using s2,rfl,rfl,by simp [dD]⟩,n2,z.append P⟩
    .cases i
   .cases i
  .cases h
 | .ifc t p,v,fx,y,B,r,N,h,hN,hf=>by
  unfold mt at h;split at h
  .rename_i t' u;obtain ⟨g,i⟩:=aG h;simp only [ae] at g;have E:=ah g.1;subst E;obtain ⟨F,I,A,C,z⟩:=HL L p u (lW p (ay fx.isSome [u] [])) none B r N i hN (λq K=>by
    cases fx with
    |none=>cases K
    |some f=>
     have K:ay (MQ p) none (some (u,[]))=some q:=K;obtain ⟨_,h3⟩:=MC K;cases h3;rfl)
   refine ⟨F,I,⟨u.val ρ,by simp only [AV.val],sI hf,?_⟩,C,z⟩;have V:(ay (eW ρ fx).isSome [u.val ρ] []:vf)=AV.ao ρ (ay fx.isSome [u] []):=by
    cases fx
    .show ([]:vf)=AV.ao ρ [];simp only [AV.ao]
    .show [u.val ρ]=AV.ao ρ [u];simp only [AV.ao]
   rw [V,MJ];exact A
  .cases h
 | .iO c,v,fx,y,B,r,N,h,hN,hf=>by
  unfold mt at h;obtain ⟨g,i⟩:=aG h;cases i;exact ⟨N,[],⟨⟨AV.GR c v g,λρ'=>(AV.GR (ρ':=ρ) (ρ:=ρ') c v g).symm.trans (AV.GR c v g)⟩,rfl,rfl,rfl,rfl⟩,hN,.nil⟩
 | .dat t o,v,fx,y,B,r,N,h,hN,hf=>by
  unfold mt at h;split at h
  .rename_i cs;split at h
   next x o' B' S hd=>cases h;obtain ⟨us,F,I,E,A,C,z⟩:=Wd L t cs o B _ N hd hN;simp only [eF] at E;subst E;exact ⟨F,I,⟨_,x,o',by simp only [AV.val],rfl,A,rfl⟩,C,z⟩
   .cases h
  .cases h
 | .ifn,v,fx,y,B,r,N,h,hN,hf=>by
  unfold mt at h;split at h
  next t=>cases h;exact ⟨N,[],⟨t,by simp only [AV.val,AV.ao],rfl,rfl,rfl,rfl⟩,hN,.nil⟩
  .cases h
 | .sfp,v,fx,y,B,r,N,h,hN,hf=>by
  have hl:=hN.length;unfold mt at h;split at h
  .split at h
   next o ho=>cases h;obtain ⟨a,g,_⟩:=hN.get ho;exact ⟨N,[],⟨a,false,by rw [<-hl];exact g,by simp only [AV.val,yQ,kR],rfl,rfl,rfl,rfl⟩,hN,.nil⟩
   .cases h
  next j f=>obtain ⟨g,i⟩:=aG h;cases i;obtain ⟨a,z,P,_⟩:=hN.at_ g;exact ⟨N,[],⟨a,f,by rw [<-hl];exact z,by simp only [AV.val];rw [P],rfl,rfl,rfl,rfl⟩,hN,.nil⟩
  next j=>obtain ⟨g,i⟩:=aG h;cases i;obtain ⟨a,z,P,_⟩:=hN.at_ g;exact ⟨N,[],⟨a,true,by rw [<-hl];exact z,by simp only [AV.val,yQ,l5];rw [P],rfl,rfl,rfl,rfl⟩,hN,.nil⟩
  .cases h
 | .sty p,v,fx,y,B,r,N,h,hN,hf=>by
  unfold mt at h;split at h
  .cases h
  .split at h
   .rename_i u;obtain ⟨g,i⟩:=aG h;simp only [ae,c9] at g;have E:=ang g.1;have V:u.val ρ=v.val ρ:=by rw [<-E];exact (PT L).symm
    obtain ⟨F,I,A,C,z⟩:=HL L p v (some (v,[])) none B r N i hN (λq K=>by cases K;rfl);refine ⟨F,I,⟨rfl,by show some (u.val ρ)=some (v.val ρ);rw [V],g.2,?_⟩,C,z⟩;have e3:eW ρ (some (v,[]))=some (v.val ρ,[]):=by simp [AV.ao]
    rw [e3] at A;exact A
   .cases h
 | .same,v,fx,y,B,r,N,h,hN,hf=>by
  unfold mt at h;obtain ⟨g,i⟩:=aG h;cases i;refine ⟨N,[],⟨?_,rfl,rfl,rfl,rfl⟩,hN,.nil⟩;unfold nvs at g;split at g
  next q=>exact .inl ⟨_,rfl,(hf q rfl).symm⟩
  .split at g
   .split at g
    next u u'=>rw [ah g];exact .inr ⟨rfl,rfl⟩
    .cases g
   .cases g
theorem wZ(d:Sat (ab ρ T G++(ab ρ T H++Φ)) w):(l:List Pt)->(vs:List AV)->(a:List AV)->(b:List AV)->(B:ti)->(r:MR)->(N:List Nm)->FJ G H l vs a b B=some r->(a=[]\/a=vs)->NB ρ B N->
  ∃N' I,tl l (AV.ao ρ vs) (AV.ao ρ a) (AV.ao ρ b) N r.D I (dD ρ r.X) N'/\NB ρ r.B N'/\eR (SI ρ T G H) r.S I
 |[],vs,a,b,B,r,N,h,hfx,hN=>by
  unfold FJ at h;split at h
  .cases h;exact ⟨N,[],⟨by simp only [AV.ao],rfl,rfl,rfl,rfl⟩,hN,.nil⟩
  .cases h
 |p::l,vs,a,b,B,r,N,h,hfx,hN=>by
  unfold FJ at h;split at h
  .rename_i v us;split at h
   .rename_i c i;split at h
    .rename_i f g;cases h;obtain ⟨N1,m,j,s,x⟩:=HL d p _ (lW p a) b.head? B c N i hN (λq e=>by
      rcases hfx with rfl|rfl
      .cases e
      .unfold lW at e;dsimp only at e;obtain ⟨_,t⟩:=MC e;cases t;exact (XM d).symm)
     obtain ⟨N2,k,n,o,u⟩:=wZ d l us a.tail b.tail c.B f N1 g (by rcases hfx with rfl|rfl <;> first|exact .inl rfl|exact .inr rfl) s;rw [XM d] at j;refine ⟨N2,m++k,⟨v.val ρ,AV.ao ρ us,c.D,f.D,m,k,dD ρ c.X,dD ρ f.X,N1,by simp only [AV.ao],by rw [XJ,MJ];exact j,by rw [Dg,Dg];exact n,rfl,rfl,by simp [dD]⟩,o,x.append u⟩
    .cases h
   .cases h
  .cases h
end
theorem Ur(k:Sat (ab ρ T G++(ab ρ T H++Φ)) w){z:Nat->Option AV}{fix:Nat->fZ}:(l:List (Bool×Nat×Pt))->(B:ti)->(r:MR)->(N:List Nm)->Xs G H z fix l B=some r->NB ρ B N->
  ∃N' I,E6 (λi=>eW ρ (fix i)) (λi=>(z i).map (AV.val ρ)) l N r.D I (dD ρ r.X) N'/\NB ρ r.B N'/\eR (SI ρ T G H) r.S I
 |[],B,r,N,h,hN=>by
  unfold Xs at h;cases h;exact ⟨N,[],⟨rfl,rfl,rfl,rfl⟩,hN,.nil⟩
 |(b,t,p)::l,B,r,N,h,hN=>by
  unfold Xs at h;split at h
  .rename_i v hv;split at h
   .rename_i d a;split at h
    .rename_i e f;cases h;cases b
     .simp only at hv a;obtain ⟨N1,j,n,s,y⟩:=HL k p v none none B d N a hN (λq u=>by cases u);obtain ⟨N2,g,m,o,x⟩:=Ur k l d.B e N1 f s;exact ⟨N2,j++g,⟨v.val ρ,d.D,e.D,j,g,dD ρ d.X,dD ρ e.X,N1,by simp only [hv,hV],n,m,rfl,rfl,by simp [dD]⟩,o,y.append x⟩
     .simp only at hv a;cases c:fix t with
      |none=>rw [c] at hv;cases hv
      |some q=>
       rw [c] at hv a;cases hv;obtain ⟨N1,j,n,s,y⟩:=HL k p q.1 (some q) none B d N a hN (λq' u=>by cases u;rfl);obtain ⟨N2,g,m,o,x⟩:=Ur k l d.B e N1 f s;exact ⟨N2,j++g,⟨q.1.val ρ,d.D,e.D,j,g,dD ρ d.X,dD ρ e.X,N1,by simp only [c];rfl,by simp only [c];exact n,m,rfl,rfl,by simp [dD]⟩,o,y.append x⟩
    .cases h
   .cases h
  .cases h
end
variable {A : List Nm} {D : List bX} {N : List Nm} {a : Nm} {fx : fZ}
structure FR where
 v:AV
 R:List (Bool×Row)
 k:Nat
 D:List bX
 X:List (Nat×List AV)
structure FRs where
 vs:List AV
 R:List (Bool×Row)
 k:Nat
 D:List bX
 X:List (Nat×List AV)
def fB(t:Ty)(D:List bX):t.T:=match D with
 |d::_=>(d.as t).getD t.oK
 |[]=>t.oK
theorem nS{t:Ty}{x:t.T}:fB t (⟨t,x⟩::D)=x:=by simp [fB,bX.anr]
theorem aoD{k:IntKind}{x:Int}:fB (.i k) (⟨.i k,x⟩::D)=x:=nS (t:= .i k)
theorem an8{x:Bool}:fB .bo (⟨.bo,x⟩::D)=x:=nS (t:= .bo)
theorem ajo{x:aF}:fB .s (⟨.s,x⟩::D)=x:=nS (t:= .s)
theorem aih{x:Nat}:fB .n (⟨.n,x⟩::D)=x:=nS (t:= .n)
theorem ah2{t:Ty}{x:List t.T}:fB (.l t) (⟨.l t,x⟩::D)=x:=nS (t:= .l t)
theorem an7{k v:Ty}{x:Option (List (k.T×v.T))}:fB (.mp k v) (⟨.mp k v,x⟩::D)=x:=nS (t:= .mp k v)
structure LR where
 vs:List AV
 R:List (Bool×Row)
 k:Nat
 o:sv
def fR(nm:Nat->Nat):(t:Ty)->t.T->Nat->sv->LR
 | .i k,x,n,o=>⟨[.int k x],[],n,o⟩
 | .bo,x,n,o=>⟨[.bool x],[],n,o⟩
 | .s,x,n,o=>⟨[.str x],[],n,o⟩
 | .un,_,n,o=>⟨[],[],n,o⟩
 | .p a b,x,n,o=>match fR nm a x.1 n o with
  |⟨u,p,n,o⟩=>match fR nm b x.2 n o with
   |⟨v,q,n,o⟩=>⟨u++v,p++q,n,o⟩
 | .l t,x,n,o=>match o with
  |none::o=>⟨[.sl (nm n)],[(false,.sli none (nm n) t x false)],n+1,o⟩
  |some e::o=>⟨[.sl (nm n)],[(ow e,.own (nm n) t (oe e) x (nm n))],n+1,o⟩
  |[]=>⟨[],[],n,[]⟩
 | .ex,x,n,o=>match o with
  |none::o=>⟨[.int .i64 x.op,.int .i64 x.n,.int .i64 x.at_,.sl (nm n)],[(false,.sli none (nm n) .ex x.l false)],n+1,o⟩
  |some e::o=>⟨[.int .i64 x.op,.int .i64 x.n,.int .i64 x.at_,.sl (nm n)],[(ow e,.own (nm n) .ex (oe e) x.l (nm n))],n+1,o⟩
  |[]=>⟨[],[],n,[]⟩
 |_,_,n,o=>⟨[],[],n,o⟩
def nmS(nm:Nat->Nat)(fx:fZ)(n:Nat):Nat:=match fx with
 |some (.sl j,_)=>j
 |_=>nm n
def FA(nm:Nat->Nat)(fx:fZ)(n:Nat):Nat:=match fx with
 |some (.ptr j _,_)=>j
 |_=>nm n
def nmM(nm:Nat->Nat)(fx:fZ)(n:Nat):Nat:=match fx with
 |some (.mp j,_)=>j
 |_=>nm n
def al9(fx:fZ)(sm:Option AV):AV:=match fx with
 |some p=>p.1
 |none=>match sm with
  |some x=>x
  |none=> .bool false
def reS(id:Nat):List Pt->List AV->List AV
 | .sfp::_,.sfp _ f::us=> .sfp id f::us
 |_,us=>us
mutual
def fill(nm:Nat->Nat):Pt->fZ->Option AV->Nat->List bX->FR
 | .int k,_,_,n,D=>⟨.int k (fB (.i k) D),[],n,D.tail,[]⟩
 | .bool,_,_,n,D=>⟨.bool (fB .bo D),[],n,D.tail,[]⟩
 | .str,_,_,n,D=>⟨.str (fB .s D),[],n,D.tail,[]⟩
 | .sli t,_,_,n,D=>⟨.sl (nm n),[(false,.sli none (nm n) t (fB (.l t) D) false)],n+1,D.tail,[]⟩
 | .own t e m,fx,_,n,D=>⟨.sl (nmS nm fx n),[(m,.own (nmS nm fx n) t e (fB (.l t) D) (nm n))],n+1,D.tail,[]⟩
 | .slr k,_,_,n,D=>⟨.sl (nm k),[],n,D,[]⟩
 | .bx t off m vs,fx,_,n,D=>match dR nm vs [] (GO fx) (n+1) D with
  |⟨cs,R,k,D,X⟩=>⟨.ptr (FA nm fx n) off,(m,.box (FA nm fx n) t (reS (FA nm fx n) vs cs))::R,k,D,(ay m [(n,reS (FA nm fx n) vs cs)] [])++X⟩
 | .ptr k off,_,_,n,D=>⟨.ptr (nm k) off,[],n,D,[]⟩
 | .mp k v m,fx,_,n,D=>⟨.mp (nmM nm fx n),[(m,.mp (nmM nm fx n) k v (fB (.mp k v) D))],n+1,D.tail,[]⟩
 | .it,fx,_,n,D=>⟨.ptr (FA nm fx n) 0,[(true,.it (FA nm fx n) (fB .s D) (fB .n D.tail))],n+1,D.tail.tail,[]⟩
 | .agg l,fx,_,n,D=>match dR nm l (fP fx) [] n D with
  |⟨cs,R,k,D,X⟩=>⟨.agg cs,R,k,D,X⟩
 | .cC l,_,_,n,D=>match dR nm l [] [] n D with
  |⟨cs,R,k,D,X⟩=>⟨.tuple cs,R,k,D,X⟩
 | .fn f a b,fx,_,n,D=>match dR nm a [] [] n D with
  |⟨cs,R,k,D,X⟩=>match dR nm b (fP fx) [] k D with
   |⟨cs',R',k,D,X'⟩=>⟨.fn f cs cs',R++R',k,D,X++X'⟩
 | .ifc t p,fx,_,n,D=>match fill nm p (lW p (fP fx)) none n D with
  |⟨v,R,k,D,X⟩=>⟨.ifc t v,R,k,D,X⟩
 | .iO v,_,_,n,D=>⟨v,[],n,D,[]⟩
 | .dat t o,_,_,n,D=>match fR nm t (fB t D) n o with
  |⟨cs,R,k,_⟩=>⟨.agg cs,R,k,D.tail,[]⟩
 | .ifn,_,_,n,D=>⟨.ifc (fB .n D) (.agg []),[],n,D.tail,[]⟩
 | .sfp,_,_,n,D=>⟨.sfp (nm (n-1)) (fB .bo D),[],n,D.tail,[]⟩
 | .sty p,_,sm,n,D=>fill nm p (sm.map λu=>(u,[])) none n D
 | .same,fx,sm,n,D=>⟨al9 fx sm,[],n,D,[]⟩
def dR(nm:Nat->Nat):List Pt->List AV->List AV->Nat->List bX->FRs
 |[],_,_,n,D=>⟨[],[],n,D,[]⟩
 |p::l,fxs,sms,n,D=>match fill nm p (lW p fxs) sms.head? n D with
  |⟨v,R,k,D,X⟩=>match dR nm l fxs.tail sms.tail k D with
   |⟨vs,R',k,D,X'⟩=>⟨v::vs,R++R',k,D,X++X'⟩
end
structure FV where
 E:aE
 R:List (Bool×Row)
 k:Nat
 D:List bX
def eZ(nm:Nat->Nat)(fix:Nat->fZ):List (Bool×Nat×Pt)->Nat->List bX->FV
 |[],n,D=>⟨[],[],n,D⟩
 |x::l,n,D=>match fill nm x.2.2 (ay x.1 (fix x.2.1) none) none n D with
  |⟨v,R,k,D,_⟩=>match eZ nm fix l k D with
   |⟨E,R',k,D⟩=>⟨ay x.1 E ((x.2.1,none,v)::E),R++R',k,D⟩
def tM(N N':List Nm):Prop:= ∃E,N'=N++E
theorem tM.refl:tM N N:=⟨[],by simp⟩
theorem tM.trans{B C:List Nm}(h:tM A B)(k:tM B C):tM A C:=by obtain ⟨E,rfl⟩:=h;obtain ⟨F,rfl⟩:=k;exact ⟨E++F,by simp⟩
theorem tM.one:tM N (N++[a]):=⟨[a],rfl⟩
theorem tM.len{B:List Nm}(h:tM A B):A.length<=B.length:=by obtain ⟨E,rfl⟩:=h;simp
theorem tM.at_{B:List Nm}(h:tM A B){i:Nat}{a:Nm}(ha:A[i]? =some a):B[i]? =some a:=by obtain ⟨E,rfl⟩:=h;rw [b8 (List.getElem?_eq_some_iff.1 ha).1];exact ha
theorem BM:(t:Ty)->(x:t.T)->(cs:vf)->(o:sv)->(N:List Nm)->(I:eB)->(c:List Nm)->(d:sv)->PC t x cs o N I c d->tM N c
 | .i _,_,_,_,_,_,_,_,h|.bo,_,_,_,_,_,_,_,h|.s,_,_,_,_,_,_,_,h|.un,_,_,_,_,_,_,_,h=>by obtain ⟨_,_,rfl,_⟩:=h;exact .refl
 | .n,_,_,_,_,_,_,_,h|.mp _ _,_,_,_,_,_,_,_,h=>h.elim
 | .p a b,x,cs,o,N,I,c,d,h=>by
  obtain ⟨c1,j,N1,m,k,g,f,e,_⟩:=h;exact (BM a _ _ _ _ _ _ _ f).trans (BM b _ _ _ _ _ _ _ e)
 | .l t,x,cs,o,N,I,c,d,h=>by obtain ⟨a,_,rfl,_⟩:=h;exact .one
 | .ex,x,cs,o,N,I,c,d,h=>by obtain ⟨a,_,rfl,_⟩:=h;exact .one
mutual
theorem sY:(p:Pt)->(v:Value)->(fx:Fx)->(i:Option Value)->(N:List Nm)->(D:List bX)->(I:eB)->(X:iN)->(g:List Nm)->Sem p v fx i N D I X g->tM N g
 | .int _,v,fx,i,N,D,I,X,g,h|.bool,v,fx,i,N,D,I,X,g,h|.str,v,fx,i,N,D,I,X,g,h=>by obtain ⟨_,_,_,_,_,rfl⟩:=h;exact .refl
 | .sli t,v,fx,i,N,D,I,X,g,h=>by obtain ⟨a,l,_,_,_,_,rfl⟩:=h;exact .one
 | .own t e m,v,fx,i,N,D,I,X,g,h=>by obtain ⟨a,l,_,_,_,_,_,rfl,_⟩:=h;exact .one
 | .slr n,v,fx,i,N,D,I,X,g,h|.ptr n _,v,fx,i,N,D,I,X,g,h=>by obtain ⟨a,_,_,_,_,_,rfl⟩:=h;exact .refl
 | .bx t off m vs,v,fx,i,N,D,I,X,g,h=>by
  obtain ⟨a,cs,C,z,_,_,j,_⟩:=h;exact tM.one.trans (kK vs _ _ _ _ _ _ _ _ j)
 | .mp k u m,v,fx,i,N,D,I,X,g,h=>by obtain ⟨a,d,_,_,_,_,_,rfl⟩:=h;exact .one
 | .it,v,fx,i,N,D,I,X,g,h=>by obtain ⟨a,s,p,_,_,_,_,_,rfl⟩:=h;exact .one
 | .agg l,v,fx,i,N,D,I,X,g,h=>by obtain ⟨cs,_,_,j⟩:=h;exact kK l _ _ _ _ _ _ _ _ j
 | .cC l,v,fx,i,N,D,I,X,g,h=>by obtain ⟨cs,_,j⟩:=h;exact kK l _ _ _ _ _ _ _ _ j
 | .fn f a b,v,fx,i,N,D,I,X,g,h=>by
  obtain ⟨us,vs,F,E,B,A,y,w,N1,_,_,j,q,_⟩:=h;exact (kK a _ _ _ _ _ _ _ _ j).trans (kK b _ _ _ _ _ _ _ _ q)
 | .ifc t p,v,fx,i,N,D,I,X,g,h=>by obtain ⟨u,_,_,j⟩:=h;exact sY p _ _ _ _ _ _ _ _ j
 | .iO c,v,fx,i,N,D,I,X,g,h=>by obtain ⟨_,_,_,_,rfl⟩:=h;exact .refl
 | .dat t o,v,fx,i,N,D,I,X,g,h=>by obtain ⟨cs,x,r,_,_,j,_⟩:=h;exact BM t _ _ _ _ _ _ _ j
 | .ifn,v,fx,i,N,D,I,X,g,h=>by obtain ⟨_,_,_,_,_,rfl⟩:=h;exact .refl
 | .sfp,v,fx,i,N,D,I,X,g,h=>by obtain ⟨_,_,_,_,_,_,_,rfl⟩:=h;exact .refl
 | .sty p,v,fx,i,N,D,I,X,g,h=>by obtain ⟨_,_,_,j⟩:=h;exact sY p _ _ _ _ _ _ _ _ j
 | .same,v,fx,i,N,D,I,X,g,h=>by obtain ⟨_,_,_,_,rfl⟩:=h;exact .refl
theorem kK:(l:List Pt)->(vs:vf)->(b:vf)->(a:vf)->(N:List Nm)->(D:List bX)->(I:eB)->(X:iN)->(c:List Nm)->tl l vs b a N D I X c->tM N c
 |[],vs,b,a,N,D,I,X,c,h=>by obtain ⟨_,_,_,_,rfl⟩:=h;exact .refl
 |p::l,vs,b,a,N,D,I,X,c,h=>by obtain ⟨v,d,n,m,k,j,i,g,N1,_,f,e,_⟩:=h;exact (sY p _ _ _ _ _ _ _ _ f).trans (kK l _ _ _ _ _ _ _ _ e)
end
theorem QW{fix:Nat->Fx}{val:Nat->Option Value}:(l:List (Bool×Nat×Pt))->(N:List Nm)->(D:List bX)->(I:eB)->(X:iN)->(a:List Nm)->E6 fix val l N D I X a->tM N a
 |[],N,D,I,X,a,h=>by obtain ⟨_,_,_,rfl⟩:=h;exact .refl
 |x::l,N,D,I,X,a,h=>by obtain ⟨v,j,i,g,f,e,d,N1,_,c,b,_⟩:=h;exact (sY _ _ _ _ _ _ _ _ _ c).trans (QW l _ _ _ _ _ b)
def RwI(ρ:ax)(T:aA)(a:Bool×Row)(b:Bool×Item):Prop:=a.1=b.1/\bQ b.2 (a.2.item ρ T)/\bQ (a.2.item ρ T) b.2
section
variable {ρ : ax} {T : aA} {nm : Nat -> Nat} {n0 : Nat}
theorem an4{id:Nat}{vs:List Pt}{us:List AV}{cs c:vf}{p:List Nm}{I:eB}{X:iN}(h:tl vs cs [] c (N++[a]) D I X p)(i:(ρ id).b=a.b)(hv:AV.ao ρ us=cs):AV.ao ρ (reS id vs us)=cs:=by
 unfold reS;split
 .rename_i l j f g;obtain ⟨v,d,w,u,t,s,r,q,N1,rfl,m,_⟩:=h;obtain ⟨o,n,ha,rfl,_⟩:=m;have e:o=a:=by simpa using ha.symm
  subst e;simp only [AV.ao,AV.val,pa] at hv ⊢;refine ⟨?_,hv.2⟩;rw [i];have k:=hv.1;cases f <;> cases n <;> simp [yQ] at k ⊢
 .exact hv
def uz(ρ:ax)(nm:Nat->Nat)(n0:Nat)(N:List Nm):Prop:= ∀i a,N[i]? =some a->(ρ (nm i)).b=a.b/\(ρ (nm i)).v=a.v/\(ρ (nm i)).m=a.m/\(n0<=i->(ρ (nm i)).y=a.y)
theorem uz.pre{B:List Nm}(h:uz ρ nm n0 B)(k:tM A B):uz ρ nm n0 A:=λi a ha=>h i a (k.at_ ha)
theorem uz.last(h:uz ρ nm n0 (A++[a])):(ρ (nm A.length)).b=a.b/\(ρ (nm A.length)).v=a.v/\(ρ (nm A.length)).m=a.m/\(n0<=A.length->(ρ (nm A.length)).y=a.y):=h _ _ (by simp)
theorem aba{t:Ty}{l:List t.T}{j:Nat}(h:(ρ j).v=a.v):bQ (DE true t.rep a.v l false) ((Row.sli none j t l false).item ρ T)/\bQ ((Row.sli none j t l false).item ρ T) (DE true t.rep a.v l false):=by simp only [Row.item,h];exact ⟨⟨λ_ h=>h,λM w h _=>h rfl⟩,⟨λ_ h=>h,λM w h _=>h aA.get_none⟩⟩
theorem abU{t:Ty}{e:TypeId}{l:List t.T}{j b:Nat}(h:(ρ j).v=a.v)(c:(ρ b).y=⟨.l t,l⟩):bQ (my t.rep e a.v l True) ((Row.own j t e l b).item ρ T)/\bQ ((Row.own j t e l b).item ρ T) (my t.rep e a.v l True):=by simp only [Row.item,h];exact ⟨⟨λ_ h=>h,λM w h=>⟨h.1,c⟩⟩,⟨λ_ h=>h,λM w h=>⟨h.1,trivial⟩⟩⟩
theorem V4:(t:Ty)->(x:t.T)->(cs:vf)->(o:sv)->(N:List Nm)->(I:eB)->(c:List Nm)->(d:sv)->PC t x cs o N I c d->uz ρ nm n0 c->n0<=N.length->
  AV.ao ρ (fR nm t x N.length o).vs=cs/\(fR nm t x N.length o).k=c.length/\(fR nm t x N.length o).o=d/\eR (RwI ρ T) (fR nm t x N.length o).R I
 | .i k,x,cs,o,N,I,c,d,h,hn,hle=>by
  obtain ⟨rfl,rfl,rfl,rfl⟩:=h;exact ⟨by simp only [fR,AV.ao,AV.val],rfl,rfl,.nil⟩
 | .bo,x,cs,o,N,I,c,d,h,hn,hle=>by
  obtain ⟨rfl,rfl,rfl,rfl⟩:=h;exact ⟨by simp only [fR,AV.ao,AV.val],rfl,rfl,.nil⟩
 | .s,x,cs,o,N,I,c,d,h,hn,hle=>by
  obtain ⟨rfl,rfl,rfl,rfl⟩:=h;exact ⟨by simp only [fR,AV.ao,AV.val],rfl,rfl,.nil⟩
 | .un,x,cs,o,N,I,c,d,h,hn,hle=>by
  obtain ⟨rfl,rfl,rfl,rfl⟩:=h;exact ⟨by simp only [fR,AV.ao],rfl,rfl,.nil⟩
 | .n,x,cs,o,N,I,c,d,h,hn,hle=>h.elim
 | .mp _ _,x,cs,o,N,I,c,d,h,hn,hle=>h.elim
 | .p a b,x,cs,o,N,I,c,d,h,hn,hle=>by
  obtain ⟨c1,G,N1,L,K,B,D,C,rfl,rfl⟩:=h;have A:=BM b _ _ _ _ _ _ _ C;obtain ⟨z,y,w,v⟩:=V4 a x.1 c1 o N L N1 B D (hn.pre A) hle;obtain ⟨r,q,m,j⟩:=V4 b x.2 G B N1 K c d C hn (ca hle (BM a _ _ _ _ _ _ _ D).len);unfold fR;generalize fR nm a x.1 N.length o=J at z y w v;obtain ⟨u,p,n,F⟩:=J;simp only at z y w v;subst y;subst w;dsimp only;generalize fR nm b x.2 N1.length F=H at r q m j;obtain ⟨M,A,O,E⟩:=H;simp only at r q m j;dsimp only;exact ⟨by rw [cX,z,r],q,m,v.append j⟩
 | .l t,x,cs,o,N,I,c,d,h,hn,hle=>by
  obtain ⟨a,rfl,rfl,h⟩:=h;have f:=hn.last;rcases h with ⟨rfl,rfl⟩|⟨e,rfl,rfl,g⟩
  .exact ⟨by simp only [fR,AV.ao,AV.val,f.2.1],by simp [fR],rfl,.cons ⟨rfl,aba f.2.1⟩ .nil⟩
  .exact ⟨by simp only [fR,AV.ao,AV.val,f.2.1],by simp [fR],rfl,.cons ⟨rfl,abU f.2.1 (by rw [f.2.2.2 hle];exact g)⟩ .nil⟩
 | .ex,x,cs,o,N,I,c,d,h,hn,hle=>by
  obtain ⟨a,rfl,rfl,h⟩:=h;have f:=hn.last;rcases h with ⟨rfl,rfl⟩|⟨e,rfl,rfl,g⟩
  .exact ⟨by simp only [fR,AV.ao,AV.val,f.2.1],by simp [fR],rfl,.cons ⟨rfl,aba (t:= .ex) f.2.1⟩ .nil⟩
  .exact ⟨by simp only [fR,AV.ao,AV.val,f.2.1],by simp [fR],rfl,.cons ⟨rfl,abU (t:= .ex) f.2.1 (by rw [f.2.2.2 hle];exact g)⟩ .nil⟩
theorem aol{p q:fy}(h:sl p=sl q):p=q:=by obtain ⟨a,b,c⟩:=p;obtain ⟨f,e,d⟩:=q;simp only [sl,Value.slice.injEq] at h;rw [h.1,h.2.1,h.2.2]
theorem aoY(b:uz ρ nm n0 (N++[a]))(c:tS (eW ρ fx) (sl a.v)):(ρ (nmS nm fx N.length)).v=a.v:=by
 unfold nmS;split
 .have:=c _ rfl;simp only [AV.val] at this;exact (aol this).symm
 .rw [b.last.2.1]
theorem aiS{off:Nat}(c:(ρ (nm N.length)).b=a.b)(d:tS (eW ρ fx) (.pointer (some ⟨a.b,off,none⟩))):(ρ (FA nm fx N.length)).b=a.b:=by
 unfold FA;split
 .have:=d _ rfl;simp only [AV.val,Value.pointer.injEq,b5,Addr.mk.injEq] at this;exact this.1.symm
 .rw [c]
theorem aoi(b:uz ρ nm n0 (N++[a]))(c:tS (eW ρ fx) (.map a.m)):(ρ (nmM nm fx N.length)).m=a.m:=by
 unfold nmM;split
 .have:=c _ rfl;simp only [AV.val,Value.map.injEq] at this;exact this.symm
 .rw [b.last.2.2.1]
theorem Em(p:Pt):mG p none=true:=by cases p <;> rfl
theorem ac2(p:Pt)(a:List AV):mG p (lW p a)=true:=by
 unfold lW;cases a with
 |nil=>exact Em p
 |cons u us=>cases p <;> rfl
theorem alw{l:List Pt}{cs:vf}(a:mG (.agg l) fx=true)(b:tS (eW ρ fx) (.agg cs.toArray)):AV.ao ρ (fP fx)=ay (eW ρ fx).isSome cs []:=by
 cases fx with
 |none=>rfl
 |some q=>
  obtain ⟨v,d⟩:=q;cases v <;> first|(cases a;done)|skip;have:=b _ rfl;simp only [AV.val,Value.agg.injEq] at this;show AV.ao ρ (fP (some (_,_)))=cs;simpa [fP] using this.symm
theorem amR{f:FuncId}{a b:List Pt}{us vs:vf}(c:mG (.fn f a b) fx=true)(e:tS (eW ρ fx) (.func (.func f) us.toArray vs.toArray)):AV.ao ρ (fP fx)=ay (eW ρ fx).isSome vs []:=by
 cases fx with
 |none=>rfl
 |some q=>
  obtain ⟨v,d⟩:=q;cases v <;> first|(cases c;done)|skip;have:=e _ rfl;simp only [AV.val,Value.func.injEq] at this;show AV.ao ρ (fP (some (_,_)))=vs;simpa [fP] using this.2.2.symm
theorem alr{t:TypeId}{p:Pt}{u:Value}(a:mG (.ifc t p) fx=true)(b:tS (eW ρ fx) (.iface t u)):AV.ao ρ (fP fx)=ay (eW ρ fx).isSome [u] []:=by
 cases fx with
 |none=>rfl
 |some q=>
  obtain ⟨v,d⟩:=q;cases v <;> first|(cases a;done)|skip;have:=b _ rfl;simp only [AV.val,Value.iface.injEq] at this;show AV.ao ρ (fP (some (_,_)))=[u];simp [fP,AV.ao,this.2]
mutual
theorem Am:(p:Pt)->(v:Value)->(fx:fZ)->(j:Option AV)->(N:List Nm)->(D:List bX)->(I:eB)->(X:iN)->(i:List Nm)->Sem p v (eW ρ fx) (j.map (AV.val ρ)) N D I X i->mG p fx=true->uz ρ nm n0 i->n0<=N.length->(g:List bX)->
  (fill nm p fx j N.length (D++g)).v.val ρ=v/\(fill nm p fx j N.length (D++g)).k=i.length/\(fill nm p fx j N.length (D++g)).D=g/\X=dD ρ (fill nm p fx j N.length (D++g)).X/\eR (RwI ρ T) (fill nm p fx j N.length (D++g)).R I
 | .int k,v,fx,j,N,D,I,X,i,h,hg,hn,hle,g=>by
  obtain ⟨x,rfl,rfl,rfl,rfl,rfl⟩:=h;exact ⟨by simp only [fill,qa,aoD,AV.val],rfl,rfl,rfl,.nil⟩
 | .bool,v,fx,j,N,D,I,X,i,h,hg,hn,hle,g=>by
  obtain ⟨x,rfl,rfl,rfl,rfl,rfl⟩:=h;exact ⟨by simp only [fill,qa,an8,AV.val],rfl,rfl,rfl,.nil⟩
 | .str,v,fx,j,N,D,I,X,i,h,hg,hn,hle,g=>by
  obtain ⟨x,rfl,rfl,rfl,rfl,rfl⟩:=h;exact ⟨by simp only [fill,qa,ajo,AV.val],rfl,rfl,rfl,.nil⟩
 | .sli t,v,fx,j,N,D,I,X,i,h,hg,hn,hle,g=>by
  obtain ⟨a,l,rfl,rfl,rfl,rfl,rfl⟩:=h;have J:=hn.last;refine ⟨by simp only [fill,AV.val,J.2.1],by simp [fill],rfl,rfl,.cons ⟨rfl,?_⟩ .nil⟩;show bQ _ ((Row.sli none (nm N.length) t (fB (.l t) (⟨.l t,l⟩::g)) false).item ρ T)/\bQ ((Row.sli none (nm N.length) t (fB (.l t) (⟨.l t,l⟩::g)) false).item ρ T) _;rw [ah2];exact aba J.2.1
 | .own t e m,v,fx,j,N,D,I,X,i,h,hg,hn,hle,g=>by
  obtain ⟨a,l,rfl,E,rfl,rfl,rfl,rfl,hy⟩:=h;have Y:=aoY hn E;refine ⟨by simp only [fill,AV.val,Y],by simp [fill],rfl,rfl,.cons ⟨rfl,?_⟩ .nil⟩;show bQ _ ((Row.own (nmS nm fx N.length) t e (fB (.l t) (⟨.l t,l⟩::g)) (nm N.length)).item ρ T)/\bQ ((Row.own (nmS nm fx N.length) t e (fB (.l t) (⟨.l t,l⟩::g)) (nm N.length)).item ρ T) _;rw [ah2];exact abU Y (by rw [hn.last.2.2.2 hle];exact hy)
 | .slr n,v,fx,j,N,D,I,X,i,h,hg,hn,hle,g=>by
  obtain ⟨a,ha,rfl,rfl,rfl,rfl,rfl⟩:=h;exact ⟨by simp only [fill,AV.val,(hn _ _ ha).2.1],rfl,rfl,rfl,.nil⟩
 | .bx t off m vs,v,fx,j,N,D,I,X,i,h,hg,hn,hle,g=>by
  obtain ⟨a,cs,I',X',rfl,E,r,rfl,rfl⟩:=h;rw [aeO] at r;have p1:=kK vs _ _ _ _ _ _ _ _ r;have J:=hn.pre p1;have F:=aiS J.last.1 E;have G:(N++[a]).length=N.length+1:=by simp
  obtain ⟨A,z,B,C,w⟩:=sf vs cs [] (GO fx) (N++[a]) D I' X' i (by simpa only [AV.ao] using r) hn (by simp;omega) g;rw [G] at A z B C w;unfold fill;generalize dR nm vs [] (GO fx) (N.length+1) (D++g)=L at A z B C w;obtain ⟨us,R,k,O,M⟩:=L;simp only at A z B C w;dsimp only;have b6:AV.ao ρ (reS (FA nm fx N.length) vs us)=cs:=an4 r F A;refine ⟨by simp only [AV.val,F],z,B,?_,.cons ⟨rfl,?_⟩ w⟩
  .rw [C];cases m <;> simp [dD,b6]
  .simp only [Row.item,F,b6];exact ⟨bQ.refl,bQ.refl⟩
 | .ptr n off,v,fx,j,N,D,I,X,i,h,hg,hn,hle,g=>by
  obtain ⟨a,ha,rfl,rfl,rfl,rfl,rfl⟩:=h;exact ⟨by simp only [fill,AV.val,(hn _ _ ha).1],rfl,rfl,rfl,.nil⟩
 | .mp k u m,v,fx,j,N,D,I,X,i,h,hg,hn,hle,g=>by
  obtain ⟨a,d,rfl,E,rfl,rfl,rfl,rfl⟩:=h;have Z:=aoi hn E;refine ⟨by simp only [fill,AV.val,Z],by simp [fill],rfl,rfl,.cons ⟨rfl,?_⟩ .nil⟩;show bQ _ ((Row.mp (nmM nm fx N.length) k u (fB (.mp k u) (⟨.mp k u,d⟩::g))).item ρ T)/\bQ ((Row.mp (nmM nm fx N.length) k u (fB (.mp k u) (⟨.mp k u,d⟩::g))).item ρ T) _;rw [an7];simp only [Row.item,Z];exact ⟨bQ.refl,bQ.refl⟩
 | .it,v,fx,j,N,D,I,X,i,h,hg,hn,hle,g=>by
  obtain ⟨a,s,p,rfl,E,rfl,rfl,rfl,rfl⟩:=h;have F:=aiS hn.last.1 E;refine ⟨by simp only [fill,AV.val,F],by simp [fill],rfl,rfl,.cons ⟨rfl,?_⟩ .nil⟩;show bQ _ ((Row.it (FA nm fx N.length) (fB .s (⟨.s,s⟩::⟨.n,p⟩::g)) (fB .n (⟨.n,p⟩::g))).item ρ T)/\bQ ((Row.it (FA nm fx N.length) (fB .s (⟨.s,s⟩::⟨.n,p⟩::g)) (fB .n (⟨.n,p⟩::g))).item ρ T) _;rw [ajo,aih];simp only [Row.item,F];exact ⟨bQ.refl,bQ.refl⟩
 | .agg l,v,fx,j,N,D,I,X,i,h,hg,hn,hle,g=>by
  obtain ⟨cs,rfl,E,r⟩:=h;obtain ⟨A,z,B,C,w⟩:=sf l cs (fP fx) [] N D I X i (by rw [alw hg E];simpa only [AV.ao] using r) hn hle g;unfold fill;generalize dR nm l (fP fx) [] N.length (D++g)=L at A z B C w;obtain ⟨us,R,k,O,M⟩:=L;simp only at A z B C w;dsimp only;exact ⟨by simp only [AV.val,A],z,B,C,w⟩
 | .cC l,v,fx,j,N,D,I,X,i,h,hg,hn,hle,g=>by
  obtain ⟨cs,rfl,r⟩:=h;obtain ⟨A,z,B,C,w⟩:=sf l cs [] [] N D I X i (by simpa only [AV.ao] using r) hn hle g;unfold fill;generalize dR nm l [] [] N.length (D++g)=L at A z B C w;obtain ⟨us,R,k,O,M⟩:=L;simp only at A z B C w;dsimp only;exact ⟨by simp only [AV.val,A],z,B,C,w⟩
 | .fn f a b,v,fx,j,N,D,I,X,i,h,hg,hn,hle,g=>by
  obtain ⟨us,vs,D1,P,I1,I2,X1,X2,N1,rfl,E,r,H,rfl,rfl,rfl⟩:=h;have p2:=kK b _ _ _ _ _ _ _ _ H;obtain ⟨A,z,B,C,w⟩:=sf a us [] [] N D1 I1 X1 N1 (by simpa only [AV.ao] using r) (hn.pre p2) hle (P++g);obtain ⟨c1,W,V,U,S⟩:=sf b vs (fP fx) [] N1 P I2 X2 i (by rw [amR hg E];simpa only [AV.ao] using H) hn (ca hle (kK a _ _ _ _ _ _ _ _ r).len) g;unfold fill;rw [aO];generalize dR nm a [] [] N.length (D1++(P++g))=L at A z B C w;obtain ⟨us',R,k,O,M⟩:=L;simp only at A z B C w;subst z;subst B;dsimp only;generalize dR nm b (fP fx) [] N1.length (P++g)=L at c1 W V U S;obtain ⟨us2,R2,k2,DD2,XX2⟩:=L;simp only at c1 W V U S;dsimp only;exact ⟨by simp only [AV.val,A,c1],W,V,by rw [C,U];simp [dD],w.append S⟩
 | .ifc t p,v,fx,j,N,D,I,X,i,h,hg,hn,hle,g=>by
  obtain ⟨u,rfl,E,r⟩:=h;rw [<-alr hg E,MJ] at r;obtain ⟨A,z,B,C,w⟩:=Am p u (lW p (fP fx)) none N D I X i r (ac2 p _) hn hle g;unfold fill;generalize fill nm p (lW p (fP fx)) none N.length (D++g)=L at A z B C w;obtain ⟨us,R,k,O,M⟩:=L;simp only at A z B C w;dsimp only;exact ⟨by simp only [AV.val,A],z,B,C,w⟩
 | .iO c,v,fx,j,N,D,I,X,i,h,hg,hn,hle,g=>by
  obtain ⟨⟨r,K⟩,rfl,rfl,rfl,rfl⟩:=h;exact ⟨by rw [r];exact K ρ,rfl,rfl,rfl,.nil⟩
 | .dat t o,v,fx,j,N,D,I,X,i,h,hg,hn,hle,g=>by
  obtain ⟨cs,x,o',rfl,rfl,r,rfl⟩:=h;obtain ⟨A,z,B,w⟩:=V4 (T:=T) t x cs o N I i o' r hn hle;unfold fill;rw [qa,nS];generalize fR nm t x N.length o=L at A z B w;obtain ⟨us,R,k,oo⟩:=L;simp only at A z B w;dsimp only;exact ⟨by simp only [AV.val,A],z,rfl,rfl,w⟩
 | .ifn,v,fx,j,N,D,I,X,i,h,hg,hn,hle,g=>by
  obtain ⟨x,rfl,rfl,rfl,rfl,rfl⟩:=h;exact ⟨by simp only [fill,qa,aih,AV.val,AV.ao],rfl,rfl,rfl,.nil⟩
 | .sfp,v,fx,j,N,D,I,X,i,h,hg,hn,hle,g=>by
  obtain ⟨a,f,ha,rfl,rfl,rfl,rfl,rfl⟩:=h;refine ⟨?_,rfl,rfl,rfl,.nil⟩;simp only [fill,AV.val,(hn _ _ ha).1,qa];rfl
 | .sty p,v,fx,j,N,D,I,X,i,h,hg,hn,hle,g=>by
  obtain ⟨_,K,r,H⟩:=h;cases j with
  |none=>cases K
  |some u=>
   have e:u.val ρ=v:=by simpa using K
   subst e;have e3:eW ρ (some (u,[]))=some (u.val ρ,[]):=by simp [AV.ao]
   rw [<-e3] at H;have hp:mG p (some (u,[]))=true:=by cases p <;> first|rfl|cases r
   have:=Am p (u.val ρ) (some (u,[])) none N D I X i H hp hn hle g;unfold fill;exact this
 | .same,v,fx,j,N,D,I,X,i,h,hg,hn,hle,g=>by
  obtain ⟨r,rfl,rfl,rfl,rfl⟩:=h;refine ⟨?_,rfl,rfl,rfl,.nil⟩;simp only [fill,al9];rcases r with ⟨p,hp,rfl⟩|⟨Q,r⟩
  .cases fx with
   |none=>cases hp
   |some q=>cases hp;rfl
  .cases fx with
   |some q=>cases Q
   |none=>
    cases j with
    |none=>cases r
    |some y=>cases r;rfl
theorem sf:(l:List Pt)->(vs:vf)->(a:List AV)->(b:List AV)->(N:List Nm)->(D:List bX)->(I:eB)->(X:iN)->(d:List Nm)->tl l vs (AV.ao ρ a) (AV.ao ρ b) N D I X d->uz ρ nm n0 d->n0<=N.length->(c:List bX)->
  AV.ao ρ (dR nm l a b N.length (D++c)).vs=vs/\(dR nm l a b N.length (D++c)).k=d.length/\(dR nm l a b N.length (D++c)).D=c/\X=dD ρ (dR nm l a b N.length (D++c)).X/\eR (RwI ρ T) (dR nm l a b N.length (D++c)).R I
 |[],vs,a,b,N,D,I,X,d,h,hn,hle,c=>by
  obtain ⟨rfl,rfl,rfl,rfl,rfl⟩:=h;exact ⟨by simp only [dR,AV.ao],rfl,rfl,rfl,.nil⟩
 |p::l,vs,a,b,N,D,I,X,d,h,hn,hle,c=>by obtain ⟨v,f,w,e,F,E,C,B,N1,rfl,i,g,rfl,rfl,rfl⟩:=h;rw [XJ,MJ] at i;rw [Dg,Dg] at g;have z:=kK l _ _ _ _ _ _ _ _ g;obtain ⟨u,t,s,r,q⟩:=Am p v (lW p a) b.head? N w F C N1 i (ac2 p a) (hn.pre z) hle (e++c);obtain ⟨c1,o,n,m,j⟩:=sf l f a.tail b.tail N1 e E B d g hn (ca hle (sY p _ _ _ _ _ _ _ _ i).len) c;unfold dR;rw [aO];generalize fill nm p (lW p a) b.head? N.length (w++(e++c))=L at u t s r q;obtain ⟨y,R,k,M,J⟩:=L;simp only at u t s r q;subst t;subst s;dsimp only;generalize dR nm l a.tail b.tail N1.length (e++c)=L at c1 o n m j;obtain ⟨x,K,H,G,A⟩:=L;simp only at c1 o n m j;dsimp only;exact ⟨by simp only [AV.ao,u,c1],o,n,by rw [r,m];simp [dD],q.append j⟩
end
theorem PQ{fix:Nat->fZ}{f:Nat->Option Value}:(l:List (Bool×Nat×Pt))->(N:List Nm)->(D:List bX)->(I:eB)->(X:iN)->(d:List Nm)->E6 (λi=>eW ρ (fix i)) f l N D I X d->oZ fix l=true->uz ρ nm n0 d->n0<=N.length->(a:List bX)->
  (∀t p,look (aE.env ρ [] (eZ nm fix l N.length (D++a)).E) t=some p->p.1=true/\f t=some p.2)/\(eZ nm fix l N.length (D++a)).k=d.length/\(eZ nm fix l N.length (D++a)).D=a/\eR (RwI ρ T) (eZ nm fix l N.length (D++a)).R I
 |[],N,D,I,X,d,h,hg,hn,hle,a=>by
  obtain ⟨rfl,rfl,rfl,rfl⟩:=h;exact ⟨(λt p h=>by cases h),rfl,rfl,.nil⟩
 |(b,t,p)::l,N,D,I,X,d,h,hg,hn,hle,a=>by
  simp only [oZ,ae] at hg;obtain ⟨v,x,e,C,J,B,H,N1,hv,z,y,rfl,rfl,rfl⟩:=h;have G:=QW l _ _ _ _ _ y;have j:Sem p v (eW ρ (ay b (fix t) none)) ((none:Option AV).map (AV.val ρ)) N x C B N1:=by cases b <;> exact z
  obtain ⟨w,u,s,A,r⟩:=Am (T:=T) p v _ none N x C B N1 j hg.1 (hn.pre G) hle (e++a);obtain ⟨c1,o,n,m⟩:=PQ l N1 e J H d y hg.2 hn (ca hle (sY p _ _ _ _ _ _ _ _ z).len) a;unfold eZ;rw [aO];dsimp only;generalize fill nm p (ay b (fix t) none) none N.length (x++(e++a))=L at w u s A r;obtain ⟨F,R,k,S,O⟩:=L;simp only at w u s A r;subst u;subst s;dsimp only;generalize eZ nm fix l N1.length (e++a)=L at c1 o n m;obtain ⟨Q,P,M,K⟩:=L;simp only at c1 o n m;dsimp only;refine ⟨λt' q c=>?_,o,n,r.append m⟩;cases b
  .simp only [aE.env,look] at c;cases hb:Nat.beq t t'
   .rw [hb] at c;exact c1 t' q c
   .rw [hb] at c;simp only [l5,b5] at c;subst c;have:=ah hb;subst this;refine ⟨aA.get_none,?_⟩;have g:f t=some v:=hv;rw [g,w]
  .exact c1 t' q c
end
section
variable {Γ Γ' : Ctx} {w : World}
theorem Sat.yR(h:Sat Γ w)(r:Nat->Nat->Prop)(l:∀(j:Nat) (jt:Item),Γ'[j]? =some jt->(jt.own=[]/\∀M w,jt.P M w)\/∃(i:Nat) (it:Item),r j i/\Γ[i]? =some it/\bQ it jt)
  (v:∀(j k i:Nat),j≠k->r j i->r k i->False):Sat Γ' w:=by
 have mv:Mv Γ.M w (Ctx.M Γ') w:=Mv.weaken w λb hb=>by
  obtain ⟨it,hi,hb⟩:=hb;obtain ⟨k,d⟩:=List.mem_iff_getElem?.1 hi;rcases l k it d with ⟨c,_⟩|⟨i,jt,_,g,f⟩
  .rw [c] at hb;cases hb
  .exact Ctx.iy g (f.1 b hb)
 refine ⟨λjt o=>?_,λj k jt kt o d n b hb a=>?_⟩
 .obtain ⟨k,d⟩:=List.mem_iff_getElem?.1 o;rcases l k jt d with ⟨_,c⟩|⟨i,it,_,g,f⟩
  .exact c _ _
  .exact f.2 _ _ (it.cJ (h.at_ g) mv (λ_ _=>rfl) (fL.refl w))
 .rcases l j jt o with ⟨c,_⟩|⟨i,it,u,g,f⟩
  .rw [c] at hb;cases hb
  .rcases l k kt d with ⟨c,_⟩|⟨s,m,t,q,p⟩
   .rw [c] at a;cases a
   .by_cases e:i=s
    .subst e;exact v j k i n u t
    .exact h.sep i s it m g q e b (f.1 b hb) (p.1 b a)
def fF:Item:=ZF True
theorem Sat.pull(h:Sat Γ w){i:Nat}{it jt:Item}(hi:Γ[i]? =some it)(b:bQ it jt):Sat (jt::Γ.set i fF) w:=by
 refine h.yR (λj k=>(j=0/\k=i)\/(j=k+1/\k≠i)) (λj kt a=>?_) (λj k q c f d=>by omega);cases j with
 |zero=>simp at a;subst a;exact .inr ⟨i,it,.inl ⟨rfl,rfl⟩,hi,b⟩
 |succ j=>
  simp only [b9] at a;by_cases e:j=i
  .subst e;rw [qt (List.getElem?_eq_some_iff.1 hi).1] at a;cases a;exact .inl ⟨rfl,λ_ _=>trivial⟩
  .rw [qk (λh=>e h.symm)] at a;exact .inr ⟨j,kt,.inr ⟨rfl,e⟩,a,bQ.refl⟩
theorem Sat.Ag{A B:Ctx}{x:Item}(h:Sat (A++x::B) w):Sat (A++B) w:=by
 refine h.yR (λj k=>(j<A.length/\k=j)\/(A.length<=j/\k=j+1)) (λj jt a=>?_) (λj k q b d c=>by omega);by_cases e:j<A.length
 .rw [b8 e] at a;exact .inr ⟨j,jt,.inl ⟨e,rfl⟩,by rw [b8 e];exact a,bQ.refl⟩
 .have e':A.length<=j:=by omega
  rw [bZ e'] at a;refine .inr ⟨j+1,jt,.inr ⟨e',rfl⟩,?_,bQ.refl⟩;rw [bZ (by omega)];have:j+1-A.length=(j-A.length)+1:=by omega
  rw [this];simpa using a
theorem Sat.an0{A B:Ctx}{x jt:Item}{k:Nat}(h:Sat (A++x::B.set k fF) w)(b:B[k]? =some jt)(f:bQ x jt):Sat (A++B) w:=by
 have d:=(List.getElem?_eq_some_iff.1 b).1;refine h.yR (λj q=>(j<A.length/\q=j)\/(j=A.length+k/\q=A.length)\/(A.length<=j/\j≠A.length+k/\q=j+1)) (λj kt a=>?_) (λj k q g l i=>by omega);by_cases e:j<A.length
 .rw [b8 e] at a;exact .inr ⟨j,kt,.inl ⟨e,rfl⟩,by rw [b8 e];exact a,bQ.refl⟩
 .have e':A.length<=j:=by omega
  rw [bZ e'] at a;by_cases c:j=A.length+k
  .subst c;rw [show A.length+k-A.length=k by omega,b] at a;cases a;exact .inr ⟨A.length,x,.inr (.inl ⟨rfl,rfl⟩),by simp,f⟩
  .refine .inr ⟨j+1,kt,.inr (.inr ⟨e',c,rfl⟩),?_,bQ.refl⟩;rw [bZ (by omega)];have:j+1-A.length=(j-A.length)+1:=by omega
   rw [this,b9,qk (by omega)];exact a
theorem Sat.Dr{A B:Ctx}{x y:Item}(h:Sat (A++x::B) w)(b:bQ x y):Sat (A++y::B) w:=by
 refine h.yR (λj k=>j=k) (λj jt a=>?_) (λj k q c g f=>by omega);by_cases e:j<A.length
 .rw [b8 e] at a;exact .inr ⟨j,jt,rfl,by rw [b8 e];exact a,bQ.refl⟩
 .have e':A.length<=j:=by omega
  rw [bZ e'] at a;by_cases d:j=A.length
  .subst d;simp at a;subst a;exact .inr ⟨A.length,x,rfl,by simp,b⟩
  .refine .inr ⟨j,jt,rfl,?_,bQ.refl⟩;rw [bZ e'];have:j-A.length=(j-A.length-1)+1:=by omega
   rw [this,b9] at a ⊢;exact a
theorem Sat.leL{A B C:Ctx}(h:Sat (A++(B++C)) w){c:Ctx}(d:eR bQ B c):Sat (A++(c++C)) w:=by
 induction d generalizing A with
 |nil=>exact h
 | @cons a b l m h1 _ ih=>
  have f:Sat (A++b::(l++C)) w:=h.Dr h1;have e:Sat ((A++[b])++(l++C)) w:=by simpa using f
  have:=ih e;simpa using this
def ik:ti->Ctx->Ctx
 |[],Γ=>Γ
 |none::l,Γ=>ik l Γ
 |some i::l,Γ=>(ik l Γ).set i fF
def Ndp:ti->Prop
 |[]=>True
 |none::l=>Ndp l
 |some i::l=>some i∉l/\Ndp l
theorem V8:∀{l:ti} {Γ:Ctx},(ik l Γ).length=Γ.length
 |[],_=>rfl
 |none::l,Γ=>V8 (l:=l)
 |some j::l,Γ=>by show ((ik l Γ).set j fF).length=_;rw [rP,V8]
theorem Al:∀{l:ti} {Γ:Ctx} {i:Nat},some i∉l->(ik l Γ)[i]? =Γ[i]?
 |[],_,_,_=>rfl
 |none::l,Γ,i,h=>Al (l:=l) (λa=>h (aW _ a))
 |some j::l,Γ,i,h=>by have e:j≠i:=λe=>h (by rw [e];exact b0 ..);show ((ik l Γ).set j fF)[i]? =_;rw [qk e];exact Al (λa=>h (aW _ a))
theorem Ia{x:Item}:∀{l:ti} {Γ:Ctx} {i:Nat},some i∉l->(ik l Γ).set i x=ik l (Γ.set i x)
 |[],_,_,_=>rfl
 |none::l,Γ,i,h=>Ia (l:=l) (λa=>h (aW _ a))
 |some j::l,Γ,i,h=>by have e:j≠i:=λe=>h (by rw [e];exact b0 ..);show ((ik l Γ).set j fF).set i x=(ik l (Γ.set i x)).set j fF;rw [List.set_comm _ _ e,Ia (λa=>h (aW _ a))]
def PI(Γ:Ctx)(w:World)(o:vA)(x:Bool×Item):Prop:=match o with
 |some i=>∃jt,Γ[i]? =some jt/\bQ jt x.2
 |none=>x.2.own=[]/\x.2.P Γ.M w
abbrev df(I:eB):Ctx:=I.map (·.2)
def eI(I:eB):Ctx:=I.map λx=>ay x.1 fF x.2
theorem vX(h:Sat Γ w):∀{L:ti} {I:eB},eR (PI Γ w) L I->Ndp L->Sat (df I++ik L Γ) w/\∀b,Ctx.M (df I++ik L Γ) b->Γ.M b
 |_,_,.nil,_=>⟨h,λ_ h=>h⟩
 |_,_,.cons (a:=none) (b:=x) h1 hr,hd=>by
  obtain ⟨ih,c⟩:=vX h hr hd;refine ⟨ih.add h1.1 (x.2.cJ h1.2 (Mv.weaken w c) (λ_ _=>rfl) (fL.refl w)),λb hb=>?_⟩;rcases Ctx.AY.1 hb with hb|hb
  .rw [h1.1] at hb;cases hb
  .exact c b hb
 |_,_,.cons (a:=some i) (b:=x) (l:=l) (m:=m) h1 hr,hd=>by
  obtain ⟨ih,c⟩:=vX h hr hd.2;obtain ⟨jt,g,f⟩:=h1;have hi:(df m++ik l Γ)[(df m).length+i]? =some jt:=by rw [bZ (by omega),show (df m).length+i-(df m).length=i by omega,Al hd.1];exact g
  have j:=ih.pull hi f;rw [qI _ _ (by omega),show (df m).length+i-(df m).length=i by omega] at j;refine ⟨j,λb hb=>?_⟩;rcases Ctx.AY.1 hb with hb|hb
  .exact Ctx.iy g (f.1 b hb)
  .obtain ⟨it,d,e⟩:=hb;refine c b ?_;rcases List.mem_append.1 d with d|d
   .exact ⟨it,qy _ d,e⟩
   .rcases List.mem_or_eq_of_mem_set d with d|d
    .exact ⟨it,cy _ d,e⟩
    .subst d;cases e
def xr:ti->eB->ti
 |o::L,x::I=>(ay x.1 o none)::xr L I
 |_,_=>[]
def AD(Γ:Ctx)(o:vA)(x:Bool×Item):Prop:=match o with
 |some i=>∃jt,Γ[i]? =some jt/\(x.1=false->bQ x.2 jt)
 |none=>True
theorem AD.set{Γ:Ctx}{i:Nat}{y:Item}:∀{L:ti} {I:eB},eR (AD Γ) L I->some i∉L->eR (AD (Γ.set i y)) L I
 |_,_,.nil,_=> .nil
 |_,_,.cons (a:=none) h1 hr,hn=> .cons trivial (AD.set hr (λh=>hn (aW _ h)))
 |_,_,.cons (a:=some j) h1 hr,hn=>by obtain ⟨jt,c,b⟩:=h1;have e:i≠j:=λe=>hn (by rw [e];exact b0 ..);exact .cons ⟨jt,by rw [qk e];exact c,b⟩ (AD.set hr (λh=>hn (aW _ h)))
theorem Sy{i:Nat}:∀{L:ti} {I:eB},some i∈xr L I->some i∈L
 |[],_,h=>by cases h
 |o::L,[],h=>by cases h
 |o::L,x::I,h=>by
  rcases List.mem_cons.1 h with h|h
  .cases hx:x.1
   .rw [hx] at h;cases h
   .rw [hx] at h;exact h▸b0 ..
  .exact aW _ (Sy h)
theorem Fv{A:Ctx}:∀{L:ti} {I:eB} {Γ:Ctx},eR (AD Γ) L I->Ndp L->Sat (A++(eI I++ik L Γ)) w->Sat (A++ik (xr L I) Γ) w
 |_,_,_,.nil,_,h=>h
 |_,_,_,.cons (a:=none) (b:=x) (l:=l) (m:=m) h1 hr,hd,h=>by
  have c:Sat (A++(eI m++ik l _)) w:=Sat.Ag h;have:=Fv hr hd c;cases hx:x.1 <;> simpa [xr,hx,ik] using this
 |_,_,Γ,.cons (a:=some i) (b:=x) (l:=l) (m:=m) h1 hr,hd,h=>by
  obtain ⟨jt,f,e⟩:=h1;cases hx:x.1
  .have d:eI (x::m)++ik (some i::l) Γ=x.2::(eI m++ik l Γ).set (m.length+i) fF:=by show (ay x.1 fF x.2)::(eI m++(ik l Γ).set i fF)=_;rw [hx,qI _ _ (by simp [eI])];simp [eI]
   rw [d] at h;have c:=h.an0 (jt:=jt) (by
    rw [bZ (by simp [eI])];have:m.length+i-(eI m).length=i:=by simp [eI]
    rw [this,Al hd.1];exact f) (e hx)
   have:=Fv hr hd.2 c;simpa [xr,hx,ik] using this
  .have d:eI (x::m)++ik (some i::l) Γ=fF::(eI m++ik l (Γ.set i fF)):=by show (ay x.1 fF x.2)::(eI m++(ik l Γ).set i fF)=_;rw [hx,Ia hd.1]
   rw [d] at h;have c:=Sat.Ag h;have:=Fv (AD.set hr hd.1) hd.2 c;rw [<-Ia (λh=>hd.1 (Sy h))] at this;simpa [xr,hx,ik] using this
end
def dh(G H:List Row)(s:Src):vA:=match s with
 | .top i=>(match G[i]? with
  |some r=>ay r.cE none (some i)
  |none=>none)
 | .cm i=>(match H[i]? with
  |some r=>ay r.cE none (some (G.length+i))
  |none=>none)
 |_=>none
def jy(n:Nat):ti->Bool
 |[]=>false
 |o::l=>(match o with
  |some m=>Nat.beq n m
  |none=>false)||jy n l
theorem PX{n:Nat}:{l:ti}->(jy n l=true↔some n∈l)
 |[]=>by simp [jy]
 |none::l=>by simp [jy,PX]
 |some m::l=>by simp only [jy,ck,qv,b5];rw [PX,Nat.beq_eq]
def Bv:ti->Bool
 |[]=>true
 |o::l=>(match o with
  |some i=> !(jy i l)
  |none=>true)&&Bv l
theorem vK:{l:ti}->Bv l=true->Ndp l
 |[],_=>trivial
 |none::l,h=>by
  simp only [Bv,qL] at h;exact vK (l:=l) h
 |some i::l,h=>by simp only [Bv,ae,c9] at h;exact ⟨(λa=>by rw [PX.2 a] at h;cases h.1),vK h.2⟩
section
variable {ρ : ax} {T : aA} {G H : List Row} {Φ : Ctx} {w : World}
theorem Src.pos{s:Src}{r:Row}(h:s.at_ G H r)(hp:r.cE=false):∃i,dh G H s=some i/\(ab ρ T G++(ab ρ T H++Φ))[i]? =some (r.item ρ T):=by
 cases s with
 |top i=>
  have h:G[i]? =some r:=h;exact ⟨i,by simp only [dh,h,hp],fg h⟩
 |cm i=>
  have h:H[i]? =some r:=h;exact ⟨G.length+i,by simp only [dh,h,hp],W0 h⟩
 |nilI=>exact h.elim
 |nilO=>exact h.elim
 |nilM=>exact h.elim
theorem Src.aqc{s:Src}{r:Row}(h:s.at_ G H r)(hp:r.cE=true):dh G H s=none:=by
 cases s with
 |top i=>
  have h:G[i]? =some r:=h;simp only [dh,h,hp]
 |cm i=>
  have h:H[i]? =some r:=h;simp only [dh,h,hp]
 |nilI=>exact h.elim
 |nilO=>exact h.elim
 |nilM=>exact h.elim
theorem Src.aqe{s:Src}(h:∀r,¬s.at_ G H r):dh G H s=none:=by
 cases s with
 |top i=>
  cases a:G[i]? with
  |none=>simp only [dh,a]
  |some r=>exact (h r a).elim
 |cm i=>
  cases a:H[i]? with
  |none=>simp only [dh,a]
  |some r=>exact (h r a).elim
 |nilI=>rfl
 |nilO=>rfl
 |nilM=>rfl
theorem Mz(m:Sat (ab ρ T G++(ab ρ T H++Φ)) w):∀{S:List (Bool×Src)} {I:eB},eR (SI ρ T G H) S I->eR (PI (ab ρ T G++(ab ρ T H++Φ)) w) (S.map λx=>dh G H x.2) I/\eR (AD (ab ρ T G++(ab ρ T H++Φ))) (S.map λx=>dh G H x.2) I
 |_,_,.nil=>⟨.nil,.nil⟩
 |_,_,.cons (a:=a) (b:=x) h1 hr=>by
  obtain ⟨j,h⟩:=Mz m hr;obtain ⟨e,o⟩:=h1;rcases o with ⟨d,f,g⟩|⟨r,d,f,g,n⟩
  .have hp:=Src.aqe g;refine ⟨.cons ?_ j,.cons ?_ h⟩
   .show PI _ _ (dh G H a.2) x;rw [hp];exact ⟨d,f _ _⟩
   .show AD _ (dh G H a.2) x;rw [hp];trivial
  .cases c:r.cE
   .obtain ⟨i,l,k⟩:=Src.pos (ρ:=ρ) (T:=T) (Φ:=Φ) d c;refine ⟨.cons ?_ j,.cons ?_ h⟩
    .show PI _ _ (dh G H a.2) x;rw [l];exact ⟨_,k,f⟩
    .show AD _ (dh G H a.2) x;rw [l];exact ⟨_,k,λ_=>n c⟩
   .have hp:=Src.aqc d c;refine ⟨.cons ?_ j,.cons ?_ h⟩
    .show PI _ _ (dh G H a.2) x;rw [hp];exact ⟨g c,f.2 _ _ (Src.holds m d)⟩
    .show AD _ (dh G H a.2) x;rw [hp];trivial
def o8(is:ti):Nat->List Row->List Row
 |_,[]=>[]
 |k,r::G=>(ay (jy k is) .gone r)::o8 is (k+1) G
def jn:List Row->List Row
 |[]=>[]
 |r::G=>(match r with
  | .gone=>jn G
  |r=>r::jn G)
theorem CP{B:Ctx}:∀{G:List Row} {A:Ctx},Sat (A++(ab ρ T G++B)) w->Sat (A++(ab ρ T (jn G)++B)) w
 |[],_,h=>h
 |r::G,A,h=>by
  unfold jn;split
  .exact CP (G:=G) (Sat.Ag h)
  .have a:Sat ((A++[r.item ρ T])++(ab ρ T G++B)) w:=by simpa [ab] using h
   have:=CP (G:=G) a;simpa [ab] using this
theorem Oz{L:ti}:∀{G:List Row} {k:Nat},ab ρ T (o8 L k G)=(ab ρ T G).mapIdx λi it=>ay (jy (k+i) L) fF it
 |[],_=>rfl
 |r::G,k=>by
  simp only [o8,ab,cp,List.mapIdx_cons];have:=Oz (L:=L) (G:=G) (k:=k+1);simp only [ab] at this;rw [this];congr 1
  .simp only [qg];cases jy k L <;> rfl
  .congr 1
   funext i it
   rw [Nat.add_right_comm,qo]
theorem ab4:∀{L:ti} {Γ:Ctx} {j:Nat},(ik L Γ)[j]? =(Γ[j]?).map λit=>ay (jy j L) fF it
 |[],Γ,j=>by
  show Γ[j]? =_;cases Γ[j]? <;> rfl
 |none::l,Γ,j=>ab4 (L:=l)
 |some i::l,Γ,j=>by
  show ((ik l Γ).set i fF)[j]? =_;by_cases e:i=j
  .subst e;rw [q0];have a:(ik l Γ).length=Γ.length:=V8;have c:jy i (some i::l)=true:=by simp [jy]
   rw [c];simp only [qp,a];by_cases hi:i<Γ.length
   .rw [b7 hi];simp [hi]
   .rw [e9 (by omega)];simp [hi]
  .rw [qk e,ab4 (L:=l)];have b:Nat.beq j i=false:=by
    cases hb:Nat.beq j i
    .rfl
    .exact absurd (ah hb).symm e
   simp [jy,b]
end
structure aq where
 f:FuncId
 ps:List Pt
 r:Pt
 os:List (Bool×Nat×Pt)
 m:dZ (lx ps)->Option (dZ (la r++ga os))
def aj5:Ty->sv->Nat×sv
 | .p a b,o=>match aj5 a o with
  |(n,o)=>match aj5 b o with
   |(m,o)=>(n+m,o)
 | .l _,o=>(1,o.tail)
 | .ex,o=>(1,o.tail)
 |_,o=>(0,o)
mutual
def ahu:Pt->Nat
 | .sli _|.own _ _ _|.mp _ _ _|.it=>1
 | .bx _ _ _ vs=>Sw vs+1
 | .agg l|.cC l=>Sw l
 | .fn _ a b=>Sw a+Sw b
 | .ifc _ p=>ahu p
 | .sty p=>ahu p
 | .dat t o=>(aj5 t o).1
 |_=>0
def Sw:List Pt->Nat
 |[]=>0
 |p::l=>ahu p+Sw l
end
def ixN:List Pt->Nat->Nat
 |p::l,i+1=>ahu p+ixN l i
 |_,_=>0
def MM(X:iN)(n:Nat):vf:=match X with
 |[]=>[]
 |x::X=>ay (Nat.beq x.1 n) x.2 (MM X n)
def A4(X:List (Nat×List AV))(n:Nat):List AV:=match X with
 |[]=>[]
 |x::X=>ay (Nat.beq x.1 n) x.2 (A4 X n)
theorem C0{ρ:ax}{n:Nat}:{X:List (Nat×List AV)}->MM (dD ρ X) n=AV.ao ρ (A4 X n)
 |[]=>by simp [MM,A4,AV.ao]
 |x::X=>by
  show (ay (Nat.beq x.1 n) (AV.ao ρ x.2) (MM (dD ρ X) n))=AV.ao ρ (ay (Nat.beq x.1 n) x.2 (A4 X n));cases Nat.beq x.1 n
  .exact C0
  .rfl
def Uh(N:List Nm)(ps:List Pt)(vs:vf)(X:iN)(i:Nat):Fx:=ay (Nat.ble 1000 i) ((N[i-1000]?).map λa=>(.pointer (some ⟨a.b,0,none⟩),MM X (i-1000))) ((vs[i]?).map λv=>(v,MM X (ixN ps i)))
def vu(B:ti)(ps:List Pt)(vs:List AV)(X:List (Nat×List AV))(i:Nat):fZ:=ay (Nat.ble 1000 i) (match B[i-1000]? with
 |some (some j)=>some (.ptr j 0,A4 X (i-1000))
 |some none=>some (.gp 0,A4 X (i-1000))
 |none=>none) (match vs[i]? with
 |some v=>some (v,A4 X (ixN ps i))
 |none=>none)
theorem Vm{ρ:ax}:{l:List AV}->{i:Nat}->(AV.ao ρ l)[i]? =(l[i]?).map (AV.val ρ)
 |[],i=>by simp [AV.ao]
 |v::l,0=>by simp [AV.ao]
 |v::l,i+1=>by simp only [AV.ao,b9];exact Vm
theorem aeG{ρ:ax}{B:ti}(c:NB ρ B N){ps:List Pt}{vs:List AV}{X:List (Nat×List AV)}{i:Nat}:Uh N ps (AV.ao ρ vs) (dD ρ X) i=eW ρ (vu B ps vs X i):=by
 unfold Uh vu;cases Nat.ble 1000 i
 .simp only [ay];rw [Vm];cases vs[i]? with
  |none=>rfl
  |some v=>simp [C0]
 .simp only [ay];cases hb:B[i-1000]? with
  |none=>
   have:N[i-1000]? =none:=by rw [List.getElem?_eq_none_iff] at hb ⊢;rw [<-c.length];exact hb
   rw [this];rfl
  |some o=>
   obtain ⟨a,e,d⟩:=c.get hb;rw [e];cases o with
   |none=>
    have:a.b=0:=d.1;simp [C0,AV.val,this]
   |some j=>
    have:a.b=(ρ j).b:=d.1;simp [C0,AV.val,this]
def aq.Ok(P:Program)(Γg:Ctx)(e:aq):Prop:=Enters P e.f/\∀s r,e.m s=some r->∀(vs:vf) (N:List Nm) (I:eB) (X:iN) (Φ:Ctx) (w:World),
 tl e.ps vs [] [] [] (fK _ s) I X N->Sat (df I++Φ) w->(∀it∈Γg,it∈Φ)->
 fp P e.f vs w λv w'=>∃(N1 N2:List Nm) (D1 D2:List bX) (I1 I2:eB) (X1 X2:iN),Sem e.r v none none N D1 I1 X1 N1/\E6 (Uh N e.ps vs X) (λi=>vs[i]?) e.os N1 D2 I2 X2 N2/\D1++D2=fK _ r/\
  Sat ((df I1++df I2)++(eI I++Φ)) w'
def cellsOf(G H:List Row)(j:Nat):List AV:=match dE G H (wG j) with
 |some (_,.box _ _ cs)=>cs
 |_=>[]
def ajF:(t:Ty)->List AV->sv->xc×List AV×sv
 | .i _,vs,o|.bo,vs,o|.s,vs,o=>([],vs.tail,o)
 | .p a b,vs,o=>match ajF a vs o with
  |(i,vs,o)=>match ajF b vs o with
   |(j,vs,o)=>(i++j,vs,o)
 | .l _,vs,o=>(match o with
  |none::_=>(match vs with
   |v::_=>v.dV
   |[]=>[])
  |_=>[],vs.tail,o.tail)
 | .ex,vs,o=>(match o with
  |none::_=>(match vs with
   |_::_::_::v::_=>v.dV
   |_=>[])
  |_=>[],vs.drop 4,o.tail)
 |_,vs,o=>([],vs,o)
mutual
def rA(G H:List Row):Pt->AV->xc
 | .sli _,v=>v.dV
 | .bx _ _ _ vs,v=>(match v with
  | .ptr j _=>dM G H vs (cellsOf G H j)
  |_=>[])
 | .agg l,v=>(match v with
  | .agg vs=>dM G H l vs
  |_=>[])
 | .cC l,v=>(match v with
  | .tuple vs=>dM G H l vs
  |_=>[])
 | .fn _ a b,v=>(match v with
  | .fn _ a' b'=>dM G H a a'++dM G H b b'
  |_=>[])
 | .sty p,v=>rA G H p v
 | .ifc _ p,v=>(match v with
  | .ifc _ u=>rA G H p u
  |_=>[])
 | .dat t o,v=>(match v with
  | .agg cs=>(ajF t cs o).1
  |_=>[])
 |_,_=>[]
def dM(G H:List Row):List Pt->List AV->xc
 |[],_=>[]
 |p::l,vs=>(match vs with
  |v::vs=>rA G H p (rH G H v)++dM G H l vs
  |[]=>[])
end
def tL(T:aA)(g:GK):List Row->List Row
 |[]=>[]
 |r::G=>(match r with
  | .sli (some k) id t l b=> .sli (ay (T.imp g (some k)) none (some k)) id t l b
  |r=>r)::tL T g G
def yY(g:GK)(r:Row):Row:=match g with
 |none=>r
 |some g=>(match r with
  | .sli none id t l b=> .sli (some g) id t l b
  | .own id t _ l _=> .sli (some g) id t l false
  |r=>r)
def slB:Row->Bool
 | .sli none _ _ _ _|.own .. =>true
 |_=>false
def VO:List (Bool×Row)->Bool
 |[]=>true
 |x::l=>slB x.2&&VO l
def pX(B:ti)(c:Nat)(n:Nat):Nat:=match B[n]? with
 |some (some j)=>j
 |_=>c+n
def Oa(c:Nat):ti->Bool
 |[]=>true
 |o::l=>(match o with
  |some j=>Nat.blt j c
  |none=>true)&&Oa c l
theorem aaY{ρ ρ':ax}{c:Nat}(ha:aT c ρ ρ'):{B:ti}->{N:List Nm}->Oa c B=true->NB ρ B N->NB ρ' B N
 |[],_,_,h=>by cases h;exact .nil
 |o::B,_,hB,h=>by
  cases h with
  |cons a d=>
   simp only [Oa,ae] at hB;refine .cons ?_ (aaY ha hB.2 d);cases o with
   |none=>exact a
   |some j=>
    have b:j<c:=by simpa using hB.1
    have e:=ha j b;show _/\_/\_;rw [e];exact a
def QA(c:Nat):List (Nat×List AV)->Bool
 |[]=>true
 |x::l=>AV.bV c x.2&&QA c l
def xz(G H:List Row):List (Bool×Src)->ti
 |[]=>[]
 |x::S=>(ay x.1 (dh G H x.2) none)::xz G H S
def N4(n:Nat):ti->Bool
 |[]=>true
 |o::l=>(match o with
  |some i=>Nat.blt i n
  |none=>true)&&N4 n l
def SF:ti->Bool
 |[]=>true
 |o::l=>(match o with
  |some _=>false
  |none=>true)&&SF l
def Mk{R:Type}(_fr:Fr)(st:aC)(g:GK)(d:v7)(args:List AV)(e:aq)(mr:MR)(G1:List Row)(K:cw R)(r:dZ (la e.r++ga e.os)):Option R:=
 match fill (pX mr.B st.c) e.r none none mr.B.length (fK _ r) with
 |⟨v,R1,k,D,_⟩=>match eZ (pX mr.B st.c) (vu mr.B e.ps args mr.X) e.os k D with
  |⟨_,R2,k,_⟩=>ay (match g with|none=>true|some _=>VO R1) (K { st with c:=st.c+k,E:=cn d g v st.E,G:=(R1++R2).map (λx=>yY g x.2)++G1 }) none
def aha{R:Type}(T:aA)(fr:Fr)(st:aC)(g:GK)(d:v7)(args:List AV)(e:aq)(K:cw R):Option (Option R):=
 match g with
 |none=>(match FJ (cm (dM st.G fr.H e.ps args) st.G) fr.H e.ps args [] [] [] with
  |some mr=>ay (Bv (mr.S.map λx=>dh (cm (dM st.G fr.H e.ps args) st.G) fr.H x.2)&&N4 (cm (dM st.G fr.H e.ps args) st.G).length (xz (cm (dM st.G fr.H e.ps args) st.G) fr.H mr.S)&&Oa st.c mr.B&&AV.bV st.c args&&QA st.c mr.X&&oZ (vu mr.B e.ps args mr.X) e.os) (match cC (lx e.ps) mr.D with
   |some s=>some ((e.m s).bind (Mk fr st none d args e mr (jn (o8 (xz (cm (dM st.G fr.H e.ps args) st.G) fr.H mr.S) 0 (cm (dM st.G fr.H e.ps args) st.G))) K))
   |none=>none) none
  |none=>none)
 |some gk=>(match FJ (tL T (some gk) (cm (dM st.G fr.H e.ps args) st.G)) (tL T (some gk) fr.H) e.ps args [] [] [] with
  |some mr=>ay (Bv (mr.S.map λx=>dh (tL T (some gk) (cm (dM st.G fr.H e.ps args) st.G)) (tL T (some gk) fr.H) x.2)&&SF (xz (tL T (some gk) (cm (dM st.G fr.H e.ps args) st.G)) (tL T (some gk) fr.H) mr.S)&&e.os.isEmpty&&Oa st.c mr.B&&AV.bV st.c args&&QA st.c mr.X&&oZ (vu mr.B e.ps args mr.X) e.os) (match cC (lx e.ps) mr.D with
   |some s=>some (bD (T.get (some gk)) (ahs _) (e.m s) (Mk fr st (some gk) d args e mr (cm (dM st.G fr.H e.ps args) st.G) K))
   |none=>none) none
  |none=>none)
def ur{R:Type}(T:aA)(fr:Fr)(st:aC)(g:GK)(d:v7)(f:FuncId)(args:List AV)(K:cw R):List aq->Option R
 |[]=>none
 |e::tb=>ay (Nat.beq e.f f) (match aha T fr st g d args e K with
   |some r=>r
   |none=>ur T fr st g d f args K tb) (ur T fr st g d f args K tb)
section
variable {ρ : ax} {T : aA} {G H : List Row} {Φ : Ctx} {w : World}
theorem Qa{s:Src}{i:Nat}(h:dh G H s=some i):i<G.length+H.length:=by
 cases s with
 |top j=>
  simp only [dh] at h;split at h
  next r a=>obtain ⟨_,b⟩:=MC h;cases b;have:=(List.getElem?_eq_some_iff.1 a).1;omega
  .cases h
 |cm j=>
  simp only [dh] at h;split at h
  next r a=>obtain ⟨_,b⟩:=MC h;cases b;have:=(List.getElem?_eq_some_iff.1 a).1;omega
  .cases h
 |nilI=>cases h
 |nilO=>cases h
 |nilM=>cases h
theorem QR:∀{S:List (Bool×Src)} {I:eB},eR (SI ρ T G H) S I->xr (S.map λx=>dh G H x.2) I=xz G H S
 |_,_,.nil=>rfl
 |_,_,.cons (a:=a) (b:=x) h1 hr=>by show (ay x.1 (dh G H a.2) none)::xr _ _=(ay a.1 (dh G H a.2) none)::_;rw [QR hr,h1.1]
theorem Vl{n:Nat}:∀{L:ti} {j:Nat},N4 n L=true->jy j L=true->j<n
 |[],j,h,a=>by cases a
 |none::l,j,h,a=>by
  simp only [N4,qL] at h;simp only [jy,qw] at a;exact Vl h a
 |some i::l,j,h,a=>by
  simp only [N4,ae,dk] at h;simp only [jy,ck] at a;rcases a with a|a
  .rw [ah a];exact h.1
  .exact Vl h.2 a
theorem A6{L:ti}{Δ:Ctx}(h:N4 G.length L=true):ik L (ab ρ T G++Δ)=ab ρ T (o8 L 0 G)++Δ:=by
 apply qm;intro j;rw [ab4,Oz];by_cases a:j<G.length
 .rw [b8 (by simpa [ab] using a),b8 (by simpa [ab] using a),List.getElem?_mapIdx];simp
 .have e:jy j L=false:=by
   cases b:jy j L
   .rfl
   .exact absurd (Vl h b) a
  rw [bZ (by simp [ab];omega),bZ (by simp [ab];omega),e];have c:(ab ρ T G).length=((ab ρ T G).mapIdx λi it=>ay (jy (0+i) L) fF it).length:=by simp
  rw [<-c];cases Δ[j-(ab ρ T G).length]? <;> rfl
theorem acY:∀{L:ti} {Γ:Ctx},SF L=true->ik L Γ=Γ
 |[],_,_=>rfl
 |none::l,Γ,h=>by
  simp only [SF,qL] at h;exact acY (L:=l) h
 |some i::l,Γ,h=>by simp [SF] at h
theorem QC{g:GK}(d:T.get g=true){B:Ctx}:∀{G:List Row} {A:Ctx},Sat (A++(ab ρ T G++B)) w->Sat (A++(ab ρ T (tL T g G)++B)) w
 |[],_,h=>h
 |r::G,A,h=>by
  have a:∀c:Row,bQ (r.item ρ T) (c.item ρ T)->Sat (A++(ab ρ T (c::tL T g G)++B)) w:=λc e=>by
   have f:Sat (A++c.item ρ T::(ab ρ T G++B)) w:=Sat.Dr h e;have i:Sat ((A++[c.item ρ T])++(ab ρ T G++B)) w:=by simpa [ab] using f
   have:=QC d (G:=G) i;simpa [ab] using this
  unfold tL;split
  .rename_i k id t l b;refine a _ ?_;cases hi:T.imp g (some k)
   .exact bQ.refl
   .refine ⟨λ_ h=>h,λM w h _=>h (aA.jm hi d)⟩
  .exact a _ bQ.refl
theorem Vw{g:GK}:∀{G:List Row},eR bQ (ab ρ T (tL T g G)) (ab ρ T G)
 |[]=> .nil
 |r::G=>by
  show eR bQ (ab ρ T (tL T g (r::G))) (r.item ρ T::ab ρ T G);unfold tL;refine .cons ?_ Vw;split
  .rename_i k id t l b;cases hi:T.imp g (some k)
   .exact bQ.refl
   .exact ⟨λ_ h=>h,λM w h _=>h aA.get_none⟩
  .exact bQ.refl
theorem acO{g:Nat×Bool}{B:Ctx}:∀{R:List (Bool×Row)} {A:Ctx},VO R=true->Sat (A++(ab ρ T (R.map (·.2))++B)) w->Sat (A++(ab ρ T (R.map λx=>yY (some g) x.2)++B)) w
 |[],_,_,h=>h
 |(m,r)::R,A,hb,h=>by
  simp only [VO,ae] at hb;have c:Sat (A++(yY (some g) r).item ρ T::(ab ρ T (R.map (·.2))++B)) w:=by
   have d:Sat (A++r.item ρ T::(ab ρ T (R.map (·.2))++B)) w:=h;cases r with
   |sli k id t l b=>
    cases k with
    |none=>exact d.Dr ⟨λ_ h=>h,λM w h _=>h aA.get_none⟩
    |some k=>simp [slB] at hb
   |own id t e l a=>
    have hi:(A++(Row.own id t e l a).item ρ T::(ab ρ T (R.map (·.2))++B))[A.length]? =some (my t.rep e (ρ id).v l ((ρ a).y=⟨.l t,l⟩)):=by simp [Row.item]
    have i:=d.mF hi (new:=(yY (some g) (Row.own id t e l a)).item ρ T) ((Ext.refl w).pZ _) (λb hb=>by cases hb) (λM' m f=>λ_=>⟨(d.at_ hi).1.freeze (λb hb=>f b hb (λhb=>by cases hb)) m,λhb=>by cases hb⟩);simpa using i
   |_=>simp [slB] at hb
  have j:Sat ((A++[(yY (some g) r).item ρ T])++(ab ρ T (R.map (·.2))++B)) w:=by simpa using c
  have:=acO (g:=g) hb.2 j;simpa [ab] using this
theorem Hr{g:Nat×Bool}(a:T.get (some g)=false):∀{R:List (Bool×Row)},VO R=true->∀it∈ab ρ T (R.map λx=>yY (some g) x.2),it.cE=true/\∀M w,it.P M w
 |[],_,it,h=>by cases h
 |(m,r)::R,hb,it,h=>by
  simp only [VO,ae] at hb;rw [cp,ab,cp] at h;rcases List.mem_cons.1 h with rfl|h
  .cases r with
   |sli k id t l b=>
    cases k with
    |none=>exact ⟨rfl,λM w h=>by rw [a] at h;cases h⟩
    |some k=>simp [slB] at hb
   |own id t e l c=>exact ⟨rfl,λM w h=>by rw [a] at h;cases h⟩
   |_=>simp [slB] at hb
  .exact Hr a hb.2 it h
theorem eR.rw{R:List (Bool×Row)}{I:eB}(h:eR (RwI ρ T) R I):eR bQ (df I) (ab ρ T (R.map (·.2))):=by
 induction h with
 |nil=>exact .nil
 |cons a _ ih=>exact .cons a.2.1 ih
theorem Uc{R:List (Bool×Row)}:(R.map λx=>yY none x.2)=R.map (·.2):=rfl
theorem XK{N2:List Nm}{B:ti}{c:Nat}(p:NB ρ B N)(hp:tM N N2)(q:Oa c B=true):
  uz (λi=>ay (Nat.blt i c) (ρ i) ((N2[i-c]?).getD cO)) (pX B c) B.length N2:=by
 intro i a ha;have e:∀n,(ay (Nat.blt (c+n) c) (ρ (c+n)) ((N2[c+n-c]?).getD cO))=(N2[n]?).getD cO:=λn=>by
  have:Nat.blt (c+n) c=false:=by
   cases hb:Nat.blt (c+n) c
   .rfl
   .simp only [dk] at hb;omega
  rw [this,show c+n-c=n by omega]
 unfold pX;split
 .rename_i j d;obtain ⟨s,r,f⟩:=p.get d;have k:=hp.at_ r;rw [ha] at k;cases k;have b:Nat.blt j c=true:=by
   have key:∀(B:ti) (i:Nat),Oa c B=true->B[i]? =some (some j)->Nat.blt j c=true:=λB=>by
    induction B with
    |nil=>intro i _ h;simp at h
    |cons o l ih=>
     intro i h g;simp only [Oa,ae] at h;cases i with
     |zero=>simp at g;subst g;exact h.1
     |succ i=>exact ih i h.2 (by simpa using g)
   exact key B i q d
  simp only [b];refine ⟨f.1.symm,f.2.1.symm,f.2.2.symm,λm=>?_⟩;have:=(List.getElem?_eq_some_iff.1 d).1;omega
 .simp only [e,ha,qq];exact ⟨trivial,trivial,trivial,λ_=>trivial⟩
theorem aa9{ρ':ax}{c:Nat}(ha:aT c ρ ρ'):{X:List (Nat×List AV)}->QA c X=true->dD ρ' X=dD ρ X
 |[],_=>rfl
 |x::X,h=>by simp only [QA,ae] at h;show (x.1,AV.ao ρ' x.2)::dD ρ' X=(x.1,AV.ao ρ x.2)::dD ρ X;rw [AV.bS ha _ h.1,aa9 ha h.2]
end
section
variable {P : Program} {R : Type} {r : R} {K : cw R} {T : aA} {fr : Fr} {st : aC} {g : GK} {d : v7} {ρ : ax} {Φ Γg : Ctx} {w : World} {ty : TypeId} {pos : String} {af : w4} {gd : s3}
theorem Ky{e:aq}{args:List AV}{a:MR}{l:List Row}{q:dZ (la e.r++ga e.os)}{v:Value}{w':World}{N1 N2:List Nm}{E p:List bX}{D n:eB}{X1 V:iN}
  (hl:st.low fr=true) (I:bA st.c l=true) (G:NB ρ a.B N) (Z:Oa st.c a.B=true) (hA:AV.bV st.c args=true) (hX:QA st.c a.X=true) (hF:oZ (vu a.B e.ps args a.X) e.os=true)
  (h1:Sem e.r v none none N E D X1 N1) (y:E6 (Uh N e.ps (AV.ao ρ args) (dD ρ a.X)) (λi=>(AV.ao ρ args)[i]?) e.os N1 p n V N2) (hD:E++p=fK _ q)
  (hg:T.get g=true) (hs:Sat ((df D++df n)++(ab ρ T l++(ab ρ T fr.H++Φ))) w') (f:g=none\/e.os=[]) (h:Mk fr st g d args e a l K q=some r):aV r K T fr st g d ρ Φ v w':=by
 have u:=sY _ _ _ _ _ _ _ _ _ h1;have t:=QW _ _ _ _ _ _ y;have m:=XK (N2:=N2) G (u.trans t) Z;have b:aT st.c ρ (λi=>ay (Nat.blt i st.c) (ρ i) ((N2[i-st.c]?).getD cO)):=λj hj=>by
  have:Nat.blt j st.c=true:=by simpa using hj
  simp only [this]
 generalize hρ:(λi=>ay (Nat.blt i st.c) (ρ i) ((N2[i-st.c]?).getD cO))=ρ' at m b;have w:a.B.length=N.length:=G.length;obtain ⟨U,S,Q,a4,P⟩:=Am (T:=T) e.r v none none N E D X1 N1 h1 (Em _) (m.pre t) (by omega) p;have J:E6 (λi=>eW ρ' (vu a.B e.ps args a.X i)) (λi=>(AV.ao ρ args)[i]?) e.os N1 p n V N2:=by
  have e1:(λi=>eW ρ' (vu a.B e.ps args a.X i))=Uh N e.ps (AV.ao ρ args) (dD ρ a.X):=by
   funext i
   rw [<-AV.bS b _ hA,<-aa9 b hX,aeG (aaY b Z G)]
  rw [e1];exact y
 obtain ⟨b1,O,M,o⟩:=PQ (T:=T) e.os N1 p n V N2 J hF m (ca (by omega) u.len) [];unfold Mk at h;rw [<-hD,w] at h;generalize fill (pX a.B st.c) e.r none none N.length (E++p)=L at U S Q a4 P h;obtain ⟨v',z,k,DD,XX⟩:=L;simp only at U S Q a4 P;subst S;subst Q;dsimp only at h;rw [eF] at b1 O M o;generalize eZ (pX a.B st.c) (vu a.B e.ps args a.X) e.os N1.length DD=L at b1 O M o h;obtain ⟨E2,W,Y,DD2⟩:=L;simp only at O M o;dsimp only at h;obtain ⟨c1,c2⟩:=aG h;refine aV.new (ρ':=ρ') hl c2 b (by simp) rfl U ?_;have s:Sat ((ab ρ' T (z.map (·.2))++ab ρ' T (W.map (·.2)))++(ab ρ T l++(ab ρ T fr.H++Φ))) w':=by have k1:=Sat.leL (A:=[]) (B:=df D) (C:=df n++(ab ρ T l++(ab ρ T fr.H++Φ))) (by simpa using hs) P.rw;have Y:=Sat.leL (A:=ab ρ' T (z.map (·.2))) (B:=df n) (C:=ab ρ T l++(ab ρ T fr.H++Φ)) k1 o.rw;simpa using Y
 have e3:=bc (T:=T) b I;show Sat (ab ρ' T ((z++W).map (λx=>yY g x.2)++l)++(ab ρ T fr.H++Φ)) w';rw [bh,e3,qR,bh];cases g with
 |none=>
  rw [Uc,Uc];simpa using s
 |some gk=>
  rcases f with f|f
  .cases f
  .have F:W=[]:=by
    have hI:n=[]:=by rw [f] at y;exact y.2.1
    rw [hI] at o;cases o;rfl
   subst F;have k3:=acO (g:=gk) (A:=[]) (R:=z) (B:=ab ρ T l++(ab ρ T fr.H++Φ)) c1 (by simpa using s);simpa using k3
theorem ajc{e:aq}{op:Op}{args:List AV}(hl:st.low fr=true)(t:Sat (ab ρ T st.G++(ab ρ T fr.H++Φ)) w)(he:e.Ok P Γg)(hΓ:∀it∈Γg,it∈Φ)
  (ent:T.get g=true->∀n j,Fits n (au ρ T st.E fr.F) j->(execOp j.eval ⟨d,op,ty,pos,af,gd⟩).run P w= .ok (.enter e.f (AV.ao ρ args).toArray) w) (h:aha T fr st g d args e K=some (some r)):
  iB P T g (au ρ T st.E fr.F) ⟨d,op,ty,pos,af,gd⟩ w (aV r K T fr st g d ρ Φ):=by
 have hGl:=oU (ids:=dM st.G fr.H e.ps args) (aC.cB.1 hl).2.2.1;replace t:=iH (ids:=dM st.G fr.H e.ps args) t
 -- what is lent, taken and handed back
 have key:∀(p o:List Row) (a:MR) (s:dZ (lx e.ps)) (q:dZ (la e.r++ga e.os)),Sat (ab ρ T p++(ab ρ T o++Φ)) w->FJ p o e.ps args [] [] []=some a->Bv (a.S.map λx=>dh p o x.2)=true->
   cC (lx e.ps) a.D=some s->e.m s=some q->fp P e.f (AV.ao ρ args) w λv w'=>∃(N N1 N2:List Nm) (U R:List bX) (Q O:eB) (X1 X2:iN),NB ρ a.B N/\Sem e.r v none none N U Q X1 N1/\
    E6 (Uh N e.ps (AV.ao ρ args) (dD ρ a.X)) (λi=>(AV.ao ρ args)[i]?) e.os N1 R O X2 N2/\U++R=fK _ q/\Sat ((df Q++df O)++ik (xz p o a.S) (ab ρ T p++(ab ρ T o++Φ))) w':=λp o a s q t hm hnd b hq=>by
  obtain ⟨N,I,s1,V,a1⟩:=wZ t e.ps args [] [] [] a [] hm (.inl rfl) .nil;rw [<-Aj _ b] at s1;obtain ⟨p1,p2⟩:=Mz t a1;have C:=vK hnd;obtain ⟨q1,_⟩:=vX t p1 C;refine (he.2 s q hq (AV.ao ρ args) N I (dD ρ a.X) _ w (by simpa only [AV.ao] using s1) q1 (λit u=>?_)).mono ?_
  .obtain ⟨k,l⟩:=List.mem_iff_getElem?.1 (hΓ it u);have hk2:(ab ρ T p++(ab ρ T o++Φ))[p.length+o.length+k]? =some it:=by
    rw [bZ (by simp [ab];omega),bZ (by simp [ab];omega)];have:p.length+o.length+k-(ab ρ T p).length-(ab ρ T o).length=k:=by simp [ab];omega
    rw [this];exact l
   refine mj (i:=p.length+o.length+k) ?_;rw [Al,hk2];intro Z;obtain ⟨x,_,hx⟩:=List.mem_map.1 Z;have:=Qa hx;omega
  .intro v w' hv;obtain ⟨N1,N2,U,R,Q,O,X1,X2,c1,c2,c3,M⟩:=hv;have J:=Fv p2 C M;rw [QR a1] at J;exact ⟨N,N1,N2,U,R,Q,O,X1,X2,V,c1,c2,c3,J⟩
 unfold aha at h;cases g with
 |none=>
  dsimp only at h;split at h
  .rename_i a hm;obtain ⟨h1,z⟩:=aG h;simp only [ae] at h1;obtain ⟨⟨⟨⟨⟨h3,h4⟩,h5⟩,h6⟩,h7⟩,h9⟩:=h1;split at z
   .rename_i s b;simp only [b5] at z;obtain ⟨q,hq,l⟩:=yN z;refine .none_ (λn j hf=> .inr (.inr ⟨e.f,AV.ao ρ args,ent aA.get_none n j hf,(key _ _ a s q t hm h3 b hq).mono λv w' hv=>?_⟩));obtain ⟨N,N1,N2,U,R,Q,O,X1,X2,V,c1,c2,c3,M⟩:=hv;rw [A6 h4] at M;have J:=CP M;refine Ky hl ?_ V h5 h6 h7 h9 c1 c2 c3 aA.get_none J (.inl rfl) l;have W:∀(L:ti) (G:List Row) (k:Nat),bA st.c G=true->bA st.c (jn (o8 L k G))=true:=λL G=>by
     induction G with
     |nil=>intro k _;rfl
     |cons r G ih=>
      intro k hG;simp only [bA,ae] at hG;show bA st.c (jn ((ay (jy k L) .gone r)::o8 L (k+1) G))=true;cases jy k L
      .cases r <;> first|exact ih (k+1) hG.2|(simp only [jn,bA,ae];exact ⟨hG.1,ih (k+1) hG.2⟩)
      .exact ih (k+1) hG.2
    exact W _ _ _ hGl
   .cases z
  .cases h
 |some gk=>
  dsimp only at h;split at h
  .rename_i a hm;obtain ⟨h1,z⟩:=aG h;simp only [ae] at h1;obtain ⟨⟨⟨⟨⟨⟨h3,h4⟩,h8⟩,h5⟩,h6⟩,h7⟩,h9⟩:=h1;have Y:e.os=[]:=by simpa using h8
   split at z
   .rename_i s b;simp only [b5] at z;obtain ⟨q,hq1,hq0,l⟩:=Uv z;refine ⟨λy=>λn j hf=> .inr (.inr ⟨e.f,AV.ao ρ args,ent y n j hf,(key _ _ a s q (QC (A:=ab ρ T (tL T (some gk) (cm (dM st.G fr.H e.ps args) st.G))) y (QC (A:=[]) y t)) hm h3 b (hq1 y)).mono λv w' hv=>?_⟩),λy=>?_⟩
    .obtain ⟨N,N1,N2,U,R,Q,O,X1,X2,V,c1,c2,c3,M⟩:=hv;rw [acY h4] at M;have J:=Sat.leL M Vw;rw [<-aO] at J;have c6:=Sat.leL J Vw;rw [aO] at c6;exact Ky hl hGl V h5 h6 h7 h9 c1 c2 c3 y c6 (.inr Y) l
    .have e0:=hq0 y;subst e0;unfold Mk at l;generalize fill (pX a.B st.c) e.r none none a.B.length (fK _ (ahs _))=L at l;obtain ⟨v',R1,k,DD,XX⟩:=L;dsimp only at l;have e2:eZ (pX a.B st.c) (vu a.B e.ps args a.X) e.os k DD=⟨[],[],k,DD⟩:=by rw [Y];rfl
     rw [e2] at l;dsimp only at l;obtain ⟨d1,d2⟩:=aG l;refine ⟨_,aV.ie d2 (by simp) rfl rfl ?_⟩;show Sat (ab ρ T ((R1++[]).map (λx:Bool×Row=>yY (some gk) x.2)++_)++_) w;rw [eF,bh,aO];exact A3 t _ (λit u=>⟨(Hr y d1 it u).1,(Hr y d1 it u).2 _ _⟩)
   .cases z
  .cases h
end
def St:(t:Ty)->List t.T->Option vf
 | .s,xs=>some (xs.map S)
 | .i k,xs=>some (xs.map (.int k))
 |_,_=>none
def glx(b:Nat):Item where
 own:=[]
 P M w:= ¬M b/\∃m:Int,w.cell? ⟨b,0,none⟩=some (.int .i64 m)
 lt _ b hb:=by cases hb
 cJ {M M' w w'} h m _ _:=by
  obtain ⟨h1,x,hx⟩:=h;have hlt:b<w.heap.size:=by
   rcases q9 b w.heap.size with h|h
   .exact h
   .simp [World.cell?,Array.getElem?_eq_none h] at hx
  obtain ⟨h2,h3⟩:=m.2 _ hlt h1;exact ⟨h2,x,by unfold World.cell? at hx ⊢; rw [h3];exact hx⟩
 cE:=true
 hp _:=rfl
def glI(p:Nat×Nat×bX):Item:=match p.2.2 with
 |⟨.l t,xs⟩=>(match St t xs with
  |some cs=>gl p.1 cs
  |none=>fF)
 |⟨.un,_⟩=>glx p.1
 |_=>fF
def Cx.Γ(X:Cx):Ctx:=X.gls.map glI
def Zu:List (Nat×Nat×bX)->Nat->Option bX
 |[],_=>none
 |p::l,b=>ay (Nat.beq p.1 b) (some p.2.2) (Zu l b)
theorem Z4:{l:List (Nat×Nat×bX)}->{b:Nat}->{d:bX}->Zu l b=some d->∃p,p∈l/\p.1=b/\p.2.2=d
 |[],_,_,h=>by cases h
 |p::l,b,d,h=>by
  unfold Zu at h;rcases dp h with ⟨f,a⟩|⟨_,a⟩
  .cases a;exact ⟨p,b0 .., ah f,rfl⟩
  .obtain ⟨q,e,c⟩:=Z4 a;exact ⟨q,aW _ e,c⟩
theorem aii{M:Nat->Prop}{w:World}:{t:Ty}->{xs:List t.T}->{cs:vf}->St t xs=some cs->cK t.rep M w cs xs
 | .s,xs,_,h=>by cases h;exact Qh xs
 | .i k,xs,_,h=>by cases h;exact XY xs
 | .bo,_,_,h|.un,_,_,h|.n,_,_,h|.p _ _,_,_,h|.l _,_,_,h|.mp _ _,_,_,h|.ex,_,_,h=>by cases h
structure GA where
 n:Nat
 e:TypeId
 b:Nat
 t:Ty
 xs:List t.T
 m:Nat
def gaA(X:Cx)(T:aA)(fr:Fr)(st:aC)(g:GK)(t:TypeId)(x:Operand):Option GA:=match X.P.underlying t with
 |some (.array n e)=>(match jI X.P e with
  |some z=>(match bq T st.E fr.F g x with
   |some (.gp b)=>(match Zu X.gls b with
    |some ⟨.l u,xs⟩=>ay ((St u xs).isSome&&Nat.beq z.1 u.n'&&Nat.beq n xs.length&&Nat.blt 0 n) (some ⟨n,e,b,u,xs,z.1⟩) none
    |_=>none)
   |_=>none)
  |none=>none)
 |_=>none
section
variable {X : Cx} {R : Type} {r : R} {K : cw R} {T : aA} {fr : Fr} {st : aC} {g : GK} {d : Tmp} {ρ : ax} {Φ : Ctx} {w : World} {ty : TypeId} {pos : String} {af : w4} {gd : s3}
theorem acU{t:TypeId}{q:GA}(f:∀it∈X.Γ,it∈Φ)(C:Sat (ab ρ T st.G++(ab ρ T fr.H++Φ)) w)(h:gaA X T fr st g t x=some q):
  X.P.underlying t=some (.array q.n q.e)/\(∃bytes z,TI X.P q.e q.m bytes z)/\ar (au ρ T st.E fr.F) (T.get g) x (.pointer (some ⟨q.b,0,none⟩))/\q.m=q.t.rep.n/\q.n=q.xs.length/\Nat.blt 0 q.n=true/\
   bO q.t.rep (Ctx.M (ab ρ T st.G++(ab ρ T fr.H++Φ))) w (sl (some ⟨q.b,0,none⟩,q.xs.length,q.xs.length)) q.xs:=by
 unfold gaA at h;split at h
 .rename_i n e B;split at h
  .rename_i z A;obtain ⟨m,bytes,z⟩:=z;split at h
   .rename_i b hx;split at h
    .rename_i u xs D;obtain ⟨s,L⟩:=aG h;cases L;simp only [ae] at s;obtain ⟨⟨⟨r,K⟩,J⟩,I⟩:=s;have c:=aR (ρ:=ρ) hx;simp only [AV.val] at c;obtain ⟨p,v,o,k⟩:=Z4 D;obtain ⟨j,y,Q⟩:=p;simp only at o k;subst o;subst k;cases hc:St u xs with
     |none=>rw [hc] at r;cases r
     |some cs=>
      have d:gl j cs∈Φ:=by have:=f (glI (j,y,⟨.l u,xs⟩)) (List.mem_map.2 ⟨_,v,rfl⟩);unfold glI at this;simp only [hc] at this;exact this
      have a:gl j cs∈ab ρ T st.G++(ab ρ T fr.H++Φ):=cy _ (cy _ d);obtain ⟨i,hi⟩:=List.mem_iff_getElem?.1 a;obtain ⟨O,N⟩:=C.gl hi;exact ⟨B,⟨bytes,z,cD A⟩,c,(ah K).trans u.A5.symm,ah J,I,apJ O N (aii hc)⟩
    .cases h
   .cases h
  .cases h
 .cases h
def Zt(X:Cx)(T:aA)(fr:Fr)(st:aC)(g:GK)(d:Tmp)(t:TypeId)(x y:Operand)(K:cw R):Option R:=match gaA X T fr st g t x with
 |some q=>(match bq T st.E fr.F g y with
  |some (.int _ i)=>aoK T g st d q.t q.xs i K
  |_=>none)
 |none=>none
theorem acI{Q:TypeId}{y:Operand}(hl:st.low fr=true)(R:∀it∈X.Γ,it∈Φ)(hs:Sat (ab ρ T st.G++(ab ρ T fr.H++Φ)) w)(h:Zt X T fr st g d Q x y K=some r):
  JW X.P T g (au ρ T st.E fr.F) ⟨some d,.indexAddr Q x y,ty,pos,af,gd⟩ w (aV r K T fr st g (some d) ρ Φ):=by
 unfold Zt at h;split at h
 .rename_i q hq;obtain ⟨Z,⟨bytes,z,I⟩,D,hm,hn,_,hS⟩:=acU R hs hq;obtain ⟨n,e,b,t,l,m⟩:=q;simp only at Z I D hm hn hS h;split at h
  .rename_i k i hy;have C:=aR (ρ:=ρ) hy;simp only [AV.val] at C;obtain ⟨v,b1,b2⟩:=yI h;have key:∃(p:Addr) (f:ax),aT st.c ρ f/\(f st.c).a=p/\(T.get g=true->xX (sl (some ⟨b,0,none⟩,l.length,l.length)) i m p)/\
     ∀it∈ab f T (.elm g st.c (dy t v (st.c+1)).1::((dy t v (st.c+1)).2.1.map (s9 g))),it.cE=true/\it.P (Ctx.M (ab ρ T st.G++(ab ρ T fr.H++Φ))) w:=by
    cases u:T.get g
    .refine ⟨⟨0,0,none⟩,ρ.set st.c cO,ax.aY,by rw [ax.bw];rfl,(λh=>by cases h),λit j=>?_⟩;rw [ab,cp] at j;rcases List.mem_cons.1 j with rfl|j
     .exact ⟨rfl,λh=>by rw [u] at h;cases h⟩
     .obtain ⟨r1,A,rfl⟩:=List.mem_map.1 j;obtain ⟨r2,o,rfl⟩:=List.mem_map.1 A;obtain ⟨j1,t1,l1,rfl⟩:=Kx _ _ _ _ o;exact sD (λh=>by rw [u] at h;cases h)
    .obtain ⟨O,vs,W,V,e4⟩:=hS.atA (b1 u);obtain ⟨f,B⟩:=FX (T:=T) t v (st.c+1) vs V (ρ.set st.c { cO with a:=pk (sl (some ⟨b,0,none⟩,l.length,l.length)) i t.rep.n });have N:(f st.c).a=pk (sl (some ⟨b,0,none⟩,l.length,l.length)) i t.rep.n:=by rw [B.ag _ (qd _),ax.bw]
     refine ⟨pk (sl (some ⟨b,0,none⟩,l.length,l.length)) i t.rep.n,f,ax.aY.trans B.ag (eb _),N,λ_=>by rw [hm];exact O,λit j=>?_⟩;rw [ab,cp] at j;rcases List.mem_cons.1 j with rfl|j
     .refine ⟨rfl,λ_=>?_⟩;show ¬Ctx.M _ (f st.c).a.block/\bK w (f st.c).a _;rw [N,B.eq];exact ⟨e4,W⟩
     .obtain ⟨r1,A,rfl⟩:=List.mem_map.1 j;obtain ⟨r2,o,rfl⟩:=List.mem_map.1 A;have U:=B.rp _ o;obtain ⟨j1,t1,l1,rfl⟩:=B.rs _ o;exact sD (λ_=>U)
   obtain ⟨p,f,Y,k2,k3,k4⟩:=key;have S:=A3 hs _ k4;have eG:=bc (T:=T) Y (aC.cB.1 hl).2.2.1
   -- what stands there where g does not hold does not count
   have J:∀w',bf X.P (au ρ T st.E fr.F) (T.get g) ⟨some d,.indexAddr Q x y,ty,pos,af,gd⟩ w' (.pointer (some ((⟨b,0,none⟩:Addr).add (i.toNat*m)))):=λw'=>
    yD Z I D C (λu=>amP (b1 u) hn.symm)
   have s:aV r K T fr st g (some d) ρ Φ (.pointer (some p)) w:=by
    refine aV.new (ρ':=f) hl b2 Y (ca (eb _) (Ma _ _ _)) rfl (by simp only [AV.val,k2];simp [Addr.add]) ?_;show Sat (ab f T (Row.elm g st.c _::(_++st.G))++_) w;have e8:ab f T (Row.elm g st.c (dy t v (st.c+1)).1::((dy t v (st.c+1)).2.1.map (s9 g)++st.G))=ab f T (.elm g st.c (dy t v (st.c+1)).1::((dy t v (st.c+1)).2.1.map (s9 g)))++ab f T st.G:=by simp [ab]
    rw [e8,eG,aO];exact S
   cases u:T.get g
   .exact ⟨_,λw'=>λn a hf L=>(by rw [u] at L;cases L),s⟩
   .obtain ⟨a,len,cap,O,_,_,W⟩:=k3 u;have V:p=(⟨b,0,none⟩:Addr).add (i.toNat*m):=by
     injection O with O _ _
     cases O;exact W
    subst V;exact ⟨_,J,s⟩
  .cases h
 .cases h
def WU(X:Cx)(T:aA)(fr:Fr)(st:aC)(d:Tmp)(t:TypeId)(x:Operand)(lo hi mx:Option Operand)(K:cw R):Option R:=match lo,hi,mx with
 |none,none,none=>(match gaA X T fr st none t x with
  |some q=>K { st with c:=st.c+1,E:=cn (some d) none (.sl st.c) st.E,G:= .sli none st.c q.t q.xs false::st.G }
  |none=>none)
 |_,_,_=>none
theorem anp{t:TypeId}{lo hi g:Option Operand}(m:st.low fr=true)(e:∀it∈X.Γ,it∈Φ)(i:Sat (ab ρ T st.G++(ab ρ T fr.H++Φ)) w)(h:WU X T fr st d t x lo hi g K=some r):
  iB X.P T none (au ρ T st.E fr.F) ⟨some d,.slice t x lo hi g,ty,pos,af,gd⟩ w (aV r K T fr st none (some d) ρ Φ):=by
 unfold WU at h;split at h
 .split at h
  next q k=>obtain ⟨j,⟨bytes,z,f⟩,a,p,l,c,o⟩:=acU e i k;rw [aA.get_none] at a;refine .none_ (bC.gd (bC.run (SY j f c a) ?_));refine aV.push (x:={ cO with v:=(some ⟨q.b,0,none⟩,q.n,q.n) }) m h (by simp only [AV.val,ax.bw];rfl) (i.add rfl ?_);intro _;rw [ax.bw];exact ⟨by rw [l];exact o,λh=>by cases h⟩
  .cases h
 .cases h
theorem ani{t:TypeId}{lo hi g:Option Operand}(m:st.low fr=true)(c:∀it∈X.Γ,it∈Φ)(i:Sat (ab ρ T st.G++(ab ρ T fr.H++Φ)) w)(h:WU X T fr st d t x lo hi g K=some r):
  JW X.P T none (au ρ T st.E fr.F) ⟨some d,.slice t x lo hi g,ty,pos,af,gd⟩ w (aV r K T fr st none (some d) ρ Φ):=by
 unfold WU at h;split at h
 .split at h
  next q k=>obtain ⟨j,⟨bytes,z,f⟩,e,p,l,a,o⟩:=acU c i k;refine ⟨_,λw'=>SY j f a e,?_⟩;refine aV.push (x:={ cO with v:=(some ⟨q.b,0,none⟩,q.n,q.n) }) m h (by simp only [AV.val,ax.bw];rfl) (i.add rfl ?_);intro _;rw [ax.bw];exact ⟨by rw [l];exact o,λh=>by cases h⟩
  .cases h
 .cases h
end
variable {cv : vb × AV}
def sEq(P:Program)(t:TypeId)(a b:AV):vb:=match P.underlying t with
 |some (.int _)=>(match a,b with
  | .int k x,.int k' y=>ay (fu k k') (some (x==y)) none
  |_,_=>none)
 |some .bool=>(match a,b with
  | .bool x,.bool y=>some (x==y)
  |_,_=>none)
 |some .string=>(match a,b with
  | .str x,.str y=>some (x==y)
  |_,_=>none)
 |_=>none
def fEq(P:Program):List Field->Nat->List AV->List AV->Option (List Bool)
 |[],_,l1,l2=>ay (l1.isEmpty&&l2.isEmpty) (some []) none
 |f::fs,k,l1,l2=>(match l1,l2 with
  |a::l1,b::l2=>ay (f.name != "_" &&Nat.beq f.offset k) (match sEq P f.type a b with
   |some r=>(match fEq P fs (k+1) l1 l2 with
    |some l=>some (r::l)
    |none=>none)
   |none=>none) none
  |_,_=>none)
def aat:Bool->List Bool->Bool
 |b,[]=>b
 |b,c::l=>aat (b&&c) l
def eqL:List Bool->Bool
 |[]=>true
 |b::l=>aat b l
theorem aeW:∀{l:List Bool} {b:Bool},aat b l=(b&&l.foldr (· && ·) true)
 |[],b=>by simp [aat]
 |c::l,b=>by simp only [aat,aeW,List.foldr_cons,Bool.and_assoc]
theorem aou:∀{l:List Bool},eqL l=l.foldr (· && ·) true
 |[]=>rfl
 |b::l=>by simp only [eqL,aeW,List.foldr_cons]
def als(X:Cx)(T:aA)(E F:aE)(g:GK):Op->CV
 | .binOp op t x y _=>(match bq T E F g x with
  |some (.agg l1)=>(match bq T E F g y with
   |some (.agg l2)=>(match X.P.underlying t with
    |some (.struct fs)=>ay (!(X.P.eqGuardType X.P.depth t)&& !(X.P.stoodInHeld t)) (match fEq X.P fs.toList 0 l1 l2 with
     |some bs=>(match op with
      | .eql=>pv (.bool (eqL bs))
      | .neq=>pv (.bool (!(eqL bs)))
      |_=>none)
     |none=>none) none
    |_=>none)
   |_=>none)
  |_=>none)
 |_=>none
def akX(X:Cx)(T:aA)(E F:aE)(g:GK):Op->CV
 | .typeAssert x _ t true=>(match X.P.underlying t with
  |some dd=>ay (!(fH dd)) (match bq T E F g x with
   |some (.ifc t' v)=>ay (Nat.beq t' t) (pv (.tuple [v,.bool true])) (match jI X.P t with
    |some z=>pv (.tuple [.raw z.2.2,.bool false])
    |none=>none)
   |some (.raw .nilIface)=>(match jI X.P t with
    |some z=>pv (.tuple [.raw z.2.2,.bool false])
    |none=>none)
   |_=>none) none
  |none=>none)
 |_=>none
def agG(X:Cx)(T:aA)(E F:aE)(g:GK):Op->CV
 | .indexAddr t x (.const (.int _ (.ofNat j)))=>(match X.P.underlying t with
  |some (.array n e)=>(match jI X.P e with
   |some z=>(match bq T E F g x with
    |some (.ptr id off)=>ay (Nat.blt j n) (pv (.ptr id (off+j*z.1))) none
    |_=>none)
   |none=>none)
  |_=>none)
 |_=>none
def ak0(X:Cx)(T:aA)(E F:aE)(g:GK)(op:Op):CV:=match ajz X T E F g op with
 |some cv=>some cv
 |none=>(match als X T E F g op with
  |some cv=>some cv
  |none=>(match akX X T E F g op with
   |some cv=>some cv
   |none=>agG X T E F g op))
section
variable {X : Cx} {T : aA} {E F : aE} {g : GK} {ρ : ax} {w : World} {dst : v7} {ty : TypeId} {pos : String} {af : w4} {gd : s3}
theorem aoI{P:Program}{t:TypeId}{a b:AV}{r:Bool}(d:Nat)(h:sEq P t a b=some r):(∃td,P.underlying t=some td/\jb td=false)/\(Op.equalIn (d+1) t (a.val ρ) (b.val ρ)).run P w= .ok r w:=by
 unfold sEq at h;split at h
 .rename_i i c;split at h
  next k x j y=>obtain ⟨g,f⟩:=aG h;cases f;have e:=gm g;subst e;exact ⟨⟨_,c,rfl⟩,by simp only [AV.val];exact run_equalIn_int w d t _ _ _ _ c⟩
  .cases h
 .rename_i c;split at h
  .cases h;exact ⟨⟨_,c,rfl⟩,by simp only [AV.val];exact run_equalIn_bool' w d t _ _ c⟩
  .cases h
 .rename_i c;split at h
  .cases h;exact ⟨⟨_,c,rfl⟩,by simp only [AV.val];exact X9 _ w d t _ _ c⟩
  .cases h
 .cases h
theorem aid{P:Program}{xs ys:vf}(d:Nat):∀{m:List Field} {k:Nat} {g e:List AV} {i:List Bool},fEq P m k g e=some i->xs.drop k=AV.ao ρ g->ys.drop k=AV.ao ρ e->
  (Op.eqFields (d+1) xs.toArray ys.toArray m).run P w= .ok (i.foldr (· && ·) true) w
 |[],k,g,e,i,h,_,_=>by
  unfold fEq at h;obtain ⟨_,c⟩:=aG h;cases c;exact anl
 |f::m,k,g,e,i,h,hx,hy=>by
  unfold fEq at h;split at h
  .rename_i a g b e;obtain ⟨j,c⟩:=aG h;simp only [ae] at j;have n:=ah j.2;split at c
   .rename_i r p;split at c
    .rename_i l q;cases c;obtain ⟨⟨u,t1,t2⟩,o⟩:=aoI (ρ:=ρ) (w:=w) d p;simp only [AV.ao] at hx hy;have t:xs[k]? =some (a.val ρ):=by rw [<-List.head?_drop,hx];rfl
     have s:ys[k]? =some (b.val ρ):=by rw [<-List.head?_drop,hy];rfl
     refine alX j.1 (afH t1 t2 (by rw [n];exact t)) (afH t1 t2 (by rw [n];exact s)) o ?_;refine aid d q ?_ ?_
     .rw [<-j6,hx];rfl
     .rw [<-j6,hy];rfl
    .cases c
   .cases c
  .cases h
theorem aj8{op:Op}(h:als X T E F g op=some cv):lC X.P (au ρ T E F) ρ (T.get g) ⟨dst,op,ty,pos,af,gd⟩ w cv:=by
 unfold als at h;split at h
 .rename_i o t x y t';split at h
  .rename_i k hx;split at h
   .rename_i j l;split at h
    .rename_i m f;obtain ⟨d,c⟩:=aG h;simp only [ae,c9] at d;split at c
     .rename_i n e;have b:=aR (ρ:=ρ) hx;have a:=aR (ρ:=ρ) l;simp only [AV.val] at b a;have i:X.P.fieldsOf t=m:=by simp [Program.fieldsOf,f]
      have key:(Op.equalIn 10000 t (.agg (AV.ao ρ k).toArray) (.agg (AV.ao ρ j).toArray)).run X.P w= .ok (eqL n) w:=by rw [run_equalIn_struct w 9999 t _ _ (by rw [i];exact f) d.2,i,aou];exact aid 9998 e rfl rfl
      split at c
      .refine .pv c (ct b a ?_);rw [Sem.run_bind,run_eqGuard_agg w _ _ _ _ _ _ d.1,Result.andThen_ok,run_eql_struct,key];simp only [AV.val,Result.andThen_ok]
      .refine .pv c (ct b a ?_);rw [Sem.run_bind,run_eqGuard_agg w _ _ _ _ _ _ d.1,Result.andThen_ok,run_neq_struct,key];simp only [AV.val,Result.andThen_ok]
      .cases c
     .cases c
    .cases h
   .cases h
  .cases h
 .cases h
theorem akg{op:Op}(h:akX X T E F g op=some cv):lC X.P (au ρ T E F) ρ (T.get g) ⟨dst,op,ty,pos,af,gd⟩ w cv:=by
 unfold akX at h;split at h
 .rename_i x s t;split at h
  .rename_i dd f;obtain ⟨j,b⟩:=aG h;have hd:fH dd=false:=by simpa using j
   split at b
   .rename_i t' v hx;have a:=aR (ρ:=ρ) hx;simp only [AV.val] at a;rcases dp b with ⟨i,c⟩|⟨i,c⟩
    .have:=ah i;subst this;refine .pv c ?_;simp only [AV.val,AV.ao];exact Zl f hd a
    .split at c
     next z d=>obtain ⟨n,bytes,z⟩:=z;refine .pv c ?_;simp only [AV.val,AV.ao];exact Y0 (λe=>by subst e;simp at i) f hd (cD d) a
     .cases c
   .rename_i hx;split at b
    next z d=>obtain ⟨n,bytes,z⟩:=z;have a:=aR (ρ:=ρ) hx;simp only [AV.val] at a;refine .pv b ?_;simp only [AV.val,AV.ao];exact Yh f hd (cD d) a
    .cases b
   .cases b
  .cases h
 .cases h
theorem ajh{op:Op}(h:agG X T E F g op=some cv):lC X.P (au ρ T E F) ρ (T.get g) ⟨dst,op,ty,pos,af,gd⟩ w cv:=by
 unfold agG at h;split at h
 .rename_i t x k j;split at h
  .rename_i n e l;split at h
   .rename_i z i;obtain ⟨m,bytes,z⟩:=z;split at h
    .rename_i id off hx;obtain ⟨f,o⟩:=aG h;have d:=aR (ρ:=ρ) hx;simp only [AV.val] at d;refine .pv o ?_;have a:=yD (P:=X.P) (w:=w) (dst:=dst) (ty:=ty) (pos:=pos) (af:=af) (gd:=gd) (y:= .const (.int k (.ofNat j))) l (cD i) d ar.c (by intro _;rw [dk] at f;exact v8.2 ⟨Int.natCast_nonneg j,by simpa using f⟩)
     have p:((⟨(ρ id).b,off,none⟩:Addr).add ((Int.ofNat j).toNat*m))=⟨(ρ id).b,off+j*m,none⟩:=by rw [add_plain];rfl
     rw [p] at a;simpa only [AV.val] using a
    .cases h
   .cases h
  .cases h
 .cases h
theorem akk{op:Op}(c:eK T E F)(h:ak0 X T E F g op=some cv):lC X.P (au ρ T E F) ρ (T.get g) ⟨dst,op,ty,pos,af,gd⟩ w cv:=by
 unfold ak0 at h;split at h
 next b a=>cases h;exact akc c a
 .split at h
  next b a=>cases h;exact aj8 a
  .split at h
   next b a=>cases h;exact akg a
   .exact ajh h
end
variable {d : TypeDesc}
def wk{α:Type}(xs ys:List α):List α:=ys.take xs.length++xs.drop ys.length
section
variable {P : Program} {E : Env} {w : World} {g : Bool}
variable {dst : v7} {ty : TypeId} {pos : String} {af : w4} {gd : s3}
theorem ak7{α:Type}{A:dB α}{M:Nat->Prop}{v u:Value}{t ty e:TypeId}{bytes:Nat}{z:Value}{R:xc}(S:P.underlying t=some (.slice e))(B:TI P e A.n bytes z)
  {xs ys:List α} (L:bJ A e M w v xs R) (y:bO A M w u ys) (_hM:∀b∈R,M b):
  ∃w',(Builtin.copy_ #[t,t] ty #[v,u]).run P w= .ok (.int .i64 ((Nat.min ys.length xs.length:Nat):Int)) w'/\jh R w w'/\w'.heap.size=w.heap.size/\∀M',Mv M w M' w'->bJ A e M' w' v (wk xs ys) R:=by
 obtain ⟨i,hi,hs,_,_⟩:=B.out;by_cases k:xs=[]\/ys=[]
 .have hc:wk xs ys=xs:=by unfold wk;rcases k with k|k <;> subst k <;> simp
  have s:Nat.min ys.length xs.length=0:=by rcases k with k|k <;> subst k <;> simp
  obtain ⟨p,c,rfl,_⟩:=L.shape;obtain ⟨a,c2,rfl⟩:=y.len;refine ⟨w,?_,(Ext.refl w).pZ _,rfl,λM' m=>?_⟩
  .have hl:∀a:Addr,(loadCells a 0).run P w= .ok #[] w:=λa=>run_loadCells_list (P:=P) w a [] (λj v hj=>by simp at hj);rw [s];cases a <;> cases p <;> simp [Builtin.copy_,run_underlying S,sizeOf,typeInfo,hi,Builtin.lenOf,Builtin.firstCells,s,hl,storeCells,goInt]
  .rw [hc];exact L.cJ (λb hb=>rfl) m
 .have hx:xs≠[]:=λh=>k (.inl h);have Y:ys≠[]:=λh=>k (.inr h);obtain ⟨b,o,c,cur,rfl,rfl,U,r,G,C,K⟩:=L.row hx;rcases y with ⟨_,J⟩|⟨b2,off,I,H,e2,fr2,rfl,V,Q,hc2,Z,l⟩
  .exact absurd J Y
  have N:((H.toList.drop off).take (ys.length*A.n)).length=ys.length*A.n:=l.1;generalize O:(H.toList.drop off).take (ys.length*A.n)=g at l N;have F:Nat.min ys.length xs.length<=ys.length:=Nat.min_le_left _ _;have E:Nat.min ys.length xs.length<=xs.length:=Nat.min_le_right _ _;generalize s:Nat.min ys.length xs.length=n at F E;have X:n*A.n<=ys.length*A.n:=c8 _ F;have W:n*A.n<=xs.length*A.n:=c8 _ E;have m3:xs.length*A.n<=c*A.n:=c8 _ r;have d:(g.take (n*A.n)).length=n*A.n:=by rw [bj];omega
  have x:cur.toList.length=cur.size:=cb;have T:=C.1;have run:=p9 (P:=P) (w:=w) (ty:=ty) S B (b:=b) (o:=o) (dl:=xs.length) (dc:=c) (cur:=cur) (e':=e) (a:=⟨b2,off,none⟩) (ls:=ys.length) (sc:=I) (cs:=g.take (n*A.n))
   (by rw [d,s]) (cell_of_heap Q off _ (by rw [d,<-O,lk,cq X])) U (by rw [d];omega) (λv hv=>l.Ak v (List.mem_of_mem_take hv))
  refine ⟨_,by rw [run,s];rfl,uj b _,by simp,λM' m=>?_⟩;have hd:wk xs ys=ys.take n++xs.drop n:=by
   unfold wk;have q:min ys.length xs.length=n:=s;clear s;rcases Nat.le_total ys.length xs.length with h|h
   .rw [cq h] at q;subst q;rw [ed h,ed (bb _)]
   .rw [q7 h] at q;subst q;rw [mo h,mo (bb _)]
  have f:(wk xs ys).length=xs.length:=by rw [hd,cj,bj,ch];omega
  have key:=(((l.take n).mv m).append ((K.drop n).mv m));have D:=setRow_heap w b cur (cur.toList.take o++g.take (n*A.n)++cur.toList.drop (o+(g.take (n*A.n)).length)).toArray e (0,0) U;have hv:Value.slice (some ⟨b,o,none⟩) xs.length c=Value.slice (some ⟨b,o,none⟩) (wk xs ys).length c:=by rw [f]
  rw [hv];refine bJ.mk_ D (by rw [f];exact r) G ⟨?_,C.2⟩ ?_
  .simp only [hW,cj,bj,d,ch,x];omega
  .rw [f,hd];have e7:(cur.toList.take o).length=o:=by rw [bj];omega
   have e8:(cur.toList.take o++g.take (n*A.n)++cur.toList.drop (o+(g.take (n*A.n)).length)).drop o=g.take (n*A.n)++(cur.toList.drop o).drop (n*A.n):=by have:=List.drop_left (l₁:=cur.toList.take o) (l₂:=g.take (n*A.n)++cur.toList.drop (o+(g.take (n*A.n)).length));rw [e7,<-aO] at this;rw [this,d,j6]
   simp only [e8];have e1:((g.take (n*A.n))++(cur.toList.drop o).drop (n*A.n)).take (xs.length*A.n)=g.take (n*A.n)++((cur.toList.drop o).take (xs.length*A.n)).drop (n*A.n):=by rw [qJ,d,lk,q7 W,pc]
   rw [e1];exact key
theorem ahF{x y:Operand}{t e:TypeId}{n m bytes:Nat}{z v:Value}{d:TypeDesc}{cs:vf}{i:Int}{k:IntKind}(j:P.underlying t=some (.array n e))(hd:P.underlying e=some d)(b:TI P e m bytes z)
  (hx:ar E g x (.agg cs.toArray)) (h:ar E g y (.int k i)) (p:0<=i) (o:i<(n:Nat)) (hv:(if jb d then some (.agg ((cs.drop (i.toNat*m)).take m).toArray) else cs[i.toNat*m]?)=some v):
  bf P E g ⟨dst,.index t x y,ty,pos,af,gd⟩ w v:=
 λn' a f c=>by have hp:=Z6 (w:=w) hd b hv;obtain ⟨q,hi,l,_,_⟩:=b.out;simp [execOp,hx n' a f c,h n' a f c,Instr.index,asIntOf,run_underlying j,sizeOf,typeInfo,hi,l,p,o,hp]
theorem adA{x y h:Operand}{p:Addr}{len m bytes:Nat}{z:Value}{t e:TypeId}{k i:IntKind}(l:P.underlying t=some (.array len e))(b:TI P e m bytes z)(hx:ar E g x (.pointer (some p)))(j:ar E g y (.int k (len:Nat)))(n:ar E g h (.int i (len:Nat))):
  bf P E g ⟨dst,.slice t x none (some y) (some h),ty,pos,af,gd⟩ w (.slice (some p) len len):=
 λn' a f d=>by obtain ⟨o,c,q,_,_⟩:=b.out;simp [execOp,hx n' a f d,j n' a f d,n n' a f d,Instr.sliceAt,run_underlying l,Instr.sureAddr,Instr.sliceBounds,run_sliceBound,sizeOf,typeInfo,c,Addr.add]
theorem ahi{y:Operand}{t t' u:TypeId}{v:Value}(b:P.underlying t=some d)(hd:fH d=true)(hx:ar E g x (.iface u v))(a:ar E g y .nilIface):
  bf P E g ⟨dst,.binOp .neq t x y t',ty,pos,af,gd⟩ w (.bool true):=
 ct (P:=P) hx a (by
  rw [Sem.run_bind,dA rfl,Result.andThen_ok];have h:∀k:Nat,(Op.equalIn (k+1) t (.iface u v) .nilIface).run P w= .ok false w:=λk=>by cases d <;> first|(cases hd;done)|simp [Op.equalIn,run_underlying b]
  simp only [binOp];simp [Op.equal,Op.maxDepth,h 9999])
theorem adC{t t':TypeId}(a:P.underlying t=some d)(hd:fH d=true)(hx:ar E g x .nilIface):
  bf P E g ⟨dst,.binOp .neq t x (.const .nilIface) t',ty,pos,af,gd⟩ w (.bool false):=
 ct (P:=P) hx (y:= .const .nilIface) (v:= .nilIface) (λ_ _ _ _=>rfl) (by
  have h:∀k:Nat,(Op.equalIn (k+1) t .nilIface .nilIface).run P w= .ok true w:=λk=>by cases d <;> first|(cases hd;done)|simp [Op.equalIn,run_underlying a]
  have b:(eqGuard .neq t x (.const .nilIface) .nilIface .nilIface).run P w= .ok () w:=by unfold eqGuard;simp
  rw [Sem.run_bind,b,Result.andThen_ok];simp only [binOp];simp [Op.equal,Op.maxDepth,h 9999])
theorem Reach.val{t:TypeId}{u:Value}{a:String}{f:FuncId}(h:Kl P t a f false)(b:P.underlying t=some d)(hd:∀e,d≠ .pointer e):Reach P w t u a f u:=λk=>by obtain ⟨i,m,hi,c,hp,g⟩:=h.out;unfold method;simp only [typeInfo,hi,c,hp,g,follow,Sem.run_bind,Sem.run_pure,Result.andThen_ok,run_program];cases d <;> first|exact absurd rfl (hd _)|simp [receiverAt,run_underlying b,Place.get]
theorem aed{n:Nat}{g:Bool}{f:FuncId}{r:Operand}{it t:TypeId}{d:TypeDesc}{u u':Value}{b:String}{vs:vf}{xs:u9}{tys:Array TypeId}{dst:v7}{gd:Option (Nat×Bool)}
  (m:Enters P f) (k:ar E g r (.func (.methodOf it b) #[] #[])) (e:P.underlying it=some d) (hd:fH d=true) (l:g=true->Reach P w t u b f u') (c:gw E g xs (.iface t u::vs)) {a:Act} (i:Fits n E a) (h:g=true):
  (execOp a.eval ⟨dst,.call ⟨.value r,xs.toArray,tys⟩,ty,pos,af,gd⟩).run P w= .ok (.enter f (u'::vs).toArray) w:=by
 have x:(Array.map a.eval xs.toArray)=(Value.iface t u::vs).toArray:=by simp [c.map i h]
 have o:=m (u'::vs).toArray w;have j:=l h (P.types.size+99);have v:P.types.size+99+1=P.types.size+Made.depth:=rfl;rw [v] at j;have s:((Value.iface t u::vs).toArray)[0]? =some (Value.iface t u):=by simp
 have q:((Value.iface t u::vs).toArray).extract 1 ((Value.iface t u::vs).toArray).size=vs.toArray:=by simp
 have p:(#[u']++vs.toArray)=(u'::vs).toArray:=by simp
 cases d <;> first|(cases hd;done)|skip;simp only [execOp,resolve,k n a i h,Deferred.ofValue,x,Sem.run_bind,Sem.run_pure,Result.andThen_ok];simp only [qU,invoke,s,q,Sem.run_bind,run_underlying e,Result.andThen_ok,callMethod,run_program,j,p,o]
end
def ajD(X:Cx)(T:aA)(E F:aE)(g:GK):Op->CV
 | .index t x y=>(match X.P.underlying t with
  |some (.array n e)=>(match jI X.P e with
   |some z=>(match bq T E F g x with
    |some (.agg cs)=>(match bq T E F g y with
     |some (.int _ i)=>ay (decide (0<=i)&&decide (i<(n:Int))) (match jL X.P e (cs.drop (i.toNat*z.1)) with
      |some v=>pv v
      |none=>none) none
     |_=>none)
    |_=>none)
   |none=>none)
  |_=>none)
 | .binOp .neq t x (.const .nilIface) _=>(match X.P.underlying t with
  |some d=>ay (fH d) (match bq T E F g x with
   |some (.ifc _ _)=>pv (.bool true)
   |some (.raw .nilIface)=>pv (.bool false)
   |_=>none) none
  |none=>none)
 | .makeFunc (.methodOf t nm) ⟨[]⟩ ⟨[]⟩=>pv (.raw (.func (.methodOf t nm) #[] #[]))
 |_=>none
section
variable {X : Cx} {ρ : ax} {T : aA} {E F : aE} {g : GK} {w : World} {dst : v7} {ty : TypeId} {pos : String} {af : w4} {gd : s3}
theorem aj0{op:Op}(h:ajD X T E F g op=some cv):lC X.P (au ρ T E F) ρ (T.get g) ⟨dst,op,ty,pos,af,gd⟩ w cv:=by
 unfold ajD at h;split at h
 .rename_i t x y;split at h
  .rename_i n e l;split at h
   .rename_i z r;obtain ⟨m,bytes,z⟩:=z;split at h
    .rename_i cs hx;split at h
     .rename_i k i s;obtain ⟨f,b⟩:=aG h;simp only [ae,kz] at f;split at b
      .rename_i v hv;obtain ⟨d,n',q,C,c1,B,p⟩:=mD (ρ:=ρ) hv;have a:=aR (ρ:=ρ) hx;have j:=aR (ρ:=ρ) s;simp only [AV.val] at a j;have c:=cD r;refine .pv b (ahF l c1 c a j f.1 f.2 ?_);cases hd:jb d
       .rw [hd] at p;exact p
       .rw [hd] at p;have o:=B hd;unfold TI at o c;rw [c] at o;simp only [b5,n5] at o;have A:m=n':=o.1;subst A;exact p
      .cases b
     .cases h
    .cases h
   .cases h
  .cases h
 .split at h
  .rename_i d l;obtain ⟨f,b⟩:=aG h;split at b
   next u v hx=>have a:=aR (ρ:=ρ) hx;simp only [AV.val] at a;exact .pv b (ahi l f a (λ_ _ _ _=>rfl))
   next hx=>have a:=aR (ρ:=ρ) hx;simp only [AV.val] at a;exact .pv b (adC l f a)
   .cases b
  .cases h
 .exact .pv h (KH (first:=[]) (cap:=[]) .nil .nil)
 .cases h
end
variable {P : Program} {e : TypeId}
def alO(X:Cx)(T:aA)(E F:aE)(g:GK):Op->CV
 | .binOp .eql t x y _=>(match X.P.underlying t with
  |some (.pointer _)=>(match bq T E F g x with
   |some (.sfp _ f)=>(match bq T E F g y with
    |some (.raw (.pointer none))=>pv (.bool (!f))
    |_=>none)
   |_=>none)
  |_=>none)
 | .binOp .neq t x y _=>(match X.P.underlying t with
  |some (.pointer e)=>(match jI X.P e with
   |some _=>(match bq T E F g x with
    |some (.sfp j f)=>(match bq T E F g y with
     |some (.ptr j' 0)=>ay (Nat.beq j j') (pv (.bool (!f))) none
     |_=>none)
    |_=>none)
   |none=>none)
  |_=>none)
 | .call ⟨.value (.func f),⟨[x]⟩,_⟩=>ay (rG f X.ids) (match bq T E F g x with
  |some v=>pv v
  |none=>none) none
 | .call ⟨.builtin .len,⟨[x]⟩,⟨[t]⟩⟩=>(match eT X.P t with
  |some _=>(match bq T E F g x with
   |some (.bs _ n)=>pv (.int .i64 (n:Int))
   |_=>none)
  |none=>none)
 |_=>none
def alx(X:Cx)(T:aA)(E F:aE)(G H:List Row)(g:GK):Op->CV
 | .convert s d x=>(match bq T E F g x with
  |some (.ptr j 0)=>(match dE G H (wG j) with
   |some (_,.box _ e' cs)=>(match X.P.underlying s with
    |some (.pointer e)=>(match X.P.underlying d with
     |some .unsafePointer=>(match jI X.P e with
      |some z=>ay (Nat.blt 0 z.1&&Nat.blt 0 cs.length) (pv (.ptr j 0)) none
      |none=>none)
     |_=>none)
    |some .unsafePointer=>(match X.P.underlying d with
     |some (.pointer e)=>(match jI X.P e with
      |some _=>ay (liesAt X.P X.P.depth e' (cs.length/X.P.cellsOf e') 0 e 1) (pv (.ptr j 0)) none
      |none=>none)
     |_=>none)
    |_=>none)
   |_=>none)
  |_=>none)
 |_=>none
def afM(X:Cx)(T:aA)(E F:aE)(g:GK)(op:Op):CV:=match ak0 X T E F g op with
 |some cv=>some cv
 |none=>(match ajD X T E F g op with
  |some cv=>some cv
  |none=>alO X T E F g op)
def ahE(X:Cx)(T:aA)(E F:aE)(G H:List Row)(g:GK)(op:Op):CV:=match akB X T E F G H g op with
 |some cv=>some cv
 |none=>alx X T E F G H g op
abbrev aoh(xs ys:xb):xb:=xs++ys
def ahm{R:Type}(X:Cx)(T:aA)(fr:Fr)(st:aC)(d:Tmp)(t u:TypeId)(x y:Operand)(K:cw R):Option R:=match eT X.P t with
 |some e=>(match jI X.P e with
  |some (1,1,.int .u8 (.ofNat 0))=>ay (isStr X.P u) (match bq T st.E fr.F none y with
   |some (.str s)=>(match bq T st.E fr.F none x with
    |some (.sl id)=>(match dE st.G fr.H (lj id) with
     |some (.top j,.own _ u' e' xs _)=>ay (Nat.beq e e') (match pV.bX.asL (.i .u8) ⟨.l u',xs⟩ with
      |some xs=>aI (aH (List.length xs+s.length) 1) (K { st with c:=st.c+1,E:=cn (some d) none (.sl st.c) st.E,G:=st.G.set j (.own st.c (.i .u8) e (aoh xs (bL s)) st.c) })
      |none=>none) none
     |_=>none)
    |some (.raw (.slice none 0 0))=>aI (aH (([]:xb).length+s.length) 1) (K { st with c:=st.c+1,E:=cn (some d) none (.sl st.c) st.E,G:= .own st.c (.i .u8) e (([]:xb)++bL s) st.c::st.G })
    |_=>none)
   |_=>none) none
  |_=>none)
 |none=>none
section
variable {X : Cx} {T : aA} {E F : aE} {G H : List Row} {g : GK} {ρ : ax} {w : World} {dst : v7} {ty : TypeId} {pos : String} {af : w4} {gd : s3} {Φ : Ctx}
theorem alN{op:Op}(h:alO X T E F g op=some cv):lC X.P (au ρ T E F) ρ (T.get g) ⟨dst,op,ty,pos,af,gd⟩ w cv:=by
 unfold alO at h;split at h
 .rename_i t x y s;split at h
  .rename_i e i;split at h
   .rename_i j f hx;split at h
    next d=>have b:=aR (ρ:=ρ) hx;have a:=aR (ρ:=ρ) d;simp only [AV.val] at b a;exact .pv h (af1 i b a)
    .cases h
   .cases h
  .cases h
 .rename_i t x y s;split at h
  .rename_i e i;split at h
   .rename_i z l;obtain ⟨n,bytes,z⟩:=z;split at h
    .rename_i j f hx;split at h
     next p d=>obtain ⟨k,c⟩:=aG h;have:=ah k;subst this;have b:=aR (ρ:=ρ) hx;have a:=aR (ρ:=ρ) d;simp only [AV.val] at b a;exact .pv c (afP i (cD l) b a)
     .cases h
    .cases h
   .cases h
  .cases h
 .rename_i f x tys;obtain ⟨k,c⟩:=aG h;split at c
  next v hx=>exact .pv c (akb (X.idsOk f (aaS.1 k)) (aR (ρ:=ρ) hx))
  .cases c
 .split at h
  .rename_i e o;split at h
   next id m hx=>exact .pv h (Dn (bT o) (aR (ρ:=ρ) hx) ⟨_,_,rfl⟩)
   .cases h
  .cases h
 .cases h
theorem akI{op:Op}(o:Sat (ab ρ T G++(ab ρ T H++Φ)) w)(h:alx X T E F G H g op=some cv):lC X.P (au ρ T E F) ρ (T.get g) ⟨dst,op,ty,pos,af,gd⟩ w cv:=by
 unfold alx at h;split at h
 .rename_i s d x;split at h
  .rename_i j hx;split at h
   .rename_i t m e' cs p;obtain ⟨r,q⟩:=bU p;have:m=j:=ah q;subst this;have hb:eD w (ρ m).b e' (AV.ao ρ cs):=Src.holds o r;have a:=aR (ρ:=ρ) hx;simp only [AV.val] at a;split at h
    .rename_i e c;split at h
     .rename_i f;split at h
      next z k=>obtain ⟨n,bytes,z⟩:=z;obtain ⟨i,l⟩:=aG h;simp only [ae] at i;refine .pv l ?_;simp only [AV.val];exact ach c f (cD k) i.1 a hb (by rw [AV.bl];exact i.2)
      .cases h
     .cases h
    .rename_i c;split at h
     .rename_i e f;split at h
      next z k=>obtain ⟨n,bytes,z⟩:=z;obtain ⟨i,l⟩:=aG h;refine .pv l ?_;simp only [AV.val];exact VB c f (cD k) a hb (by rw [AV.bl];exact i)
      .cases h
     .cases h
    .cases h
   .cases h
  .cases h
 .cases h
theorem abL{op:Op}(c:eK T E F)(h:afM X T E F g op=some cv):lC X.P (au ρ T E F) ρ (T.get g) ⟨dst,op,ty,pos,af,gd⟩ w cv:=by
 unfold afM at h;split at h
 next b a=>cases h;exact akk c a
 .split at h
  next b a=>cases h;exact aj0 a
  .exact alN h
theorem aau{op:Op}(b:Sat (ab ρ T G++(ab ρ T H++Φ)) w)(h:ahE X T E F G H g op=some cv):lC X.P (au ρ T E F) ρ (T.get g) ⟨dst,op,ty,pos,af,gd⟩ w cv:=by
 unfold ahE at h;split at h
 next c a=>cases h;exact ajA b a
 .exact akI b h
end
section
variable {X : Cx} {R : Type} {r : R} {K : cw R} {T : aA} {fr : Fr} {st : aC} {d : Tmp} {ρ : ax} {Φ : Ctx} {w : World} {ty : TypeId} {pos : String} {af : w4} {gd : s3}
theorem Ku{E:Env}{M:Nat->Prop}{v:Value}{y:Operand}{t u:TypeId}{R:xc}{xs:xb}{s:aF}(o:P.underlying t=some (.slice e))(n:P.underlying u=some .string)(h:TI P e 1 1 (.int .u8 0))(hx:ar E true x v)(k:ar E true y (S s))
  (j:bJ (RI .u8) e M w v xs R) (z:∀b∈R,M b) (c:aH (xs.length+s.length) 1=true):
  ∃f R' w',ky P E ⟨some d,.call ⟨.builtin .append,#[x,y],#[t,u]⟩,ty,pos,af,gd⟩ w f w'/\jh R w w'/\(∀b∈R',b<w'.heap.size/\(b∈R\/w.heap.size<=b))/\∀M',Mv M w M' w'->bJ (RI .u8) e M' w' f (xs++bL s) R':=by
 rcases j with ⟨rfl,q⟩|⟨rfl,rfl,⟨a0,rfl⟩,l⟩
 .obtain ⟨f,w',i,B,r,j⟩:=tP t u ty e o n h q z c;exact ⟨f,dq f,w',(λn' a g=>by simp [execOp,resolve,invoke,builtin,hx n' a g rfl,k n' a g rfl,i]),B,r,λM' m=>bJ.of (j M' m)⟩
 .rcases yz (M:=M) (w:=w) t u ty e o n h (a0:=a0) (s:=s) (by simpa using c) with ⟨i,rfl⟩|⟨f,w',i,A,p,j⟩
  .exact ⟨.slice a0 0 0,[],w,(λn' a g=>by simp [execOp,resolve,invoke,builtin,hx n' a g rfl,k n' a g rfl,i]),(Ext.refl w).pZ _,(λb hb=>by cases hb),λM' m=>by simpa [bL] using bJ.empty (e:=e) (l.mv m)⟩
  .exact ⟨f,dq f,w',(λn' a g=>by simp [execOp,resolve,invoke,builtin,hx n' a g rfl,k n' a g rfl,i]),A.pZ _,(λb hb=>⟨(p b hb).1,.inr (p b hb).2⟩),λM' m=>bJ.of (by simpa using j M' m)⟩
theorem aj6{t u:TypeId}{y:Operand}(Q:st.low fr=true)(N:Sat (ab ρ T st.G++(ab ρ T fr.H++Φ)) w)(h:ahm X T fr st d t u x y K=some r):
  iB X.P T none (au ρ T st.E fr.F) ⟨some d,.call ⟨.builtin .append,#[x,y],#[t,u]⟩,ty,pos,af,gd⟩ w (aV r K T fr st none (some d) ρ Φ):=by
 have B:=(aC.cB.1 Q).2.2.1;unfold ahm at h;split at h
 .rename_i e Y;split at h
  .rename_i hz;have z:TI X.P e 1 1 (.int .u8 0):=cD hz;obtain ⟨hu,h⟩:=aG h;have q:=oR hu;split at h
   .rename_i s hy;have n:=bE (ρ:=ρ) hy;simp only [AV.val] at n;split at h
    .rename_i id hx;have g:=bE (ρ:=ρ) hx;simp only [AV.val] at g;split at h
     .rename_i j J u' e' C ver hf;obtain ⟨h3,V⟩:=aG h;have:=ah h3;subst this;split at V
      .rename_i xs L;obtain ⟨eu,ex⟩:=oq L;subst eu;simp only at ex;subst ex;obtain ⟨U,S⟩:=ej V;obtain ⟨f1,f2⟩:=bU hf;have:J=id:=ah f2;subst this;have hi:=fg (ρ:=ρ) (T:=T) (Φ:=ab ρ T fr.H++Φ) f1;obtain ⟨hO,_⟩:=N.at_ hi;obtain ⟨D,R',w',O,k,R,A⟩:=Ku (P:=X.P) (E:=au ρ T st.E fr.F) (w:=w) (d:=d) (ty:=ty) (pos:=pos) (af:=af) (gd:=none) (bT Y) q z g n hO (λb hb=>Ctx.iy hi hb) U;have I:Mv (Ctx.M (ab ρ T st.G++(ab ρ T fr.H++Φ))) w (Ctx.M (ab ρ T st.G++(ab ρ T fr.H++Φ))) w':=⟨k.size,λb hb W=>⟨W,k.block b hb (λhc=>W (Ctx.iy hi hc))⟩⟩;have f:=A _ I;have hv:∃p:fy,D=sl p:=by obtain ⟨a,cap,hv⟩:=f.len;exact ⟨(a,_,cap),hv⟩
       obtain ⟨p,rfl⟩:=hv;have hj:j<st.G.length:=(List.getElem?_eq_some_iff.1 f1).1;refine .none_ (bC.gd (bC.me O (aV.new (ρ':=ρ.set st.c { cO with v:=p,y:=⟨.l (.i .u8),aoh C (bL s)⟩ }) Q S ax.aY (eb _) rfl (by simp only [AV.val,ax.bw]) ?_)));show Sat (ab _ T (st.G.set j _)++_) _;rw [eU hj,bc ax.aY B];refine N.mF hi k (λb hb=>?_) (λM' m _=>?_)
       .simp only [Row.item,ax.bw] at hb;exact R b (f.canon.1 b hb)
       .simp only [Row.item,ax.bw];exact ⟨f.canon.2 _ _ (A M' m),trivial⟩
      .cases V
     .cases h
    .rename_i hx;have g:=bE (ρ:=ρ) hx;simp only [AV.val] at g;obtain ⟨U,S⟩:=ej h;obtain ⟨D,R',w',O,k,R,A⟩:=Ku (P:=X.P) (E:=au ρ T st.E fr.F) (w:=w) (d:=d) (ty:=ty) (pos:=pos) (af:=af) (gd:=none) (M:=Ctx.M (ab ρ T st.G++(ab ρ T fr.H++Φ))) (xs:=([]:xb)) (bT Y) q z g n bJ.nil (λb hb=>by cases hb) U;have Z:Ext w w':=⟨k.os,k.tape,k.output,k.size,λb hb=>k.block b hb (λh=>by cases h)⟩;have f:=A _ (Z.mv _);have hv:∃p:fy,D=sl p:=by obtain ⟨a,cap,hv⟩:=f.len;exact ⟨(a,_,cap),hv⟩
     obtain ⟨p,rfl⟩:=hv;refine .none_ (bC.gd (bC.me O ?_));exact vT (d:=d) (t:= .i .u8) (e:=e) (p:=p) Q B N Z (λb hb=>by
      obtain ⟨q1,o⟩:=R b (f.canon.1 b hb);rcases o with o|o
      .cases o
      .exact ⟨q1,o⟩) (λM' m=>f.canon.2 _ _ (A M' m)) rfl S
    .cases h
   .cases h
  .cases h
 .cases h
def Zx{R:Type}(T:aA)(fr:Fr)(st:aC)(d:Tmp)(x:Operand)(K:cw R):Option R:=match bq T st.E fr.F none x with
 |some (.sl id)=>(match dE st.G fr.H (lj id) with
  |some (_,.own _ t _ l ver)=>aok T none st d id ver t l 0 K
  |_=>none)
 |_=>none
def afx{R:Type}(X:Cx)(T:aA)(fr:Fr)(st:aC)(d:Tmp)(pt:TypeId)(x y:Operand)(K:cw R):Option R:=match X.P.underlying pt with
 |some (.pointer e)=>ay (Nat.beq (X.P.cellsOf e) 1) (match bq T st.E fr.F none x with
  |some (.adr q 0)=>(match bq T st.E fr.F none y with
   |some (.int .i64 m)=>(match dE st.G fr.H (QY q) with
    |some (_,.kn none _ id ver _ i _)=>(match dE st.G fr.H (lj id) with
     |some (.top j,.own _ u e' xs ver')=>ay (Nat.beq ver ver'&&Nat.beq e e') (match pV.bX.asL (.i .u8) ⟨.l u,xs⟩ with
      |some xs=>aI (decide (i=0)&&decide (m=(List.length xs:Int))) (K { st with E:=cn (some d) none (.str (strOf xs)) st.E,G:=st.G.set j (.sli none id (.i .u8) xs false) })
      |none=>none) none
     |_=>none)
    |_=>none)
   |_=>none)
  |_=>none) none
 |_=>none
theorem bJ.aiw{α:Type}{A:dB α}{M:Nat->Prop}{w:World}{v:Value}{xs:List α}{R:xc}(h:bJ A e M w v xs R)(a:xs≠[]):Roomy v:=by
 rcases h with ⟨_,cells,c,_⟩|⟨_,rfl,_⟩
 .rcases c.2 with ⟨_,b⟩|⟨g,off,cap,cur,rfl,_,hc,_⟩
  .exact absurd (cf b) a
  .obtain ⟨k,rfl⟩:∃k,cap=k+1:=⟨cap-1,by have:=List.length_pos_iff.2 a;omega⟩;exact ⟨g,off,_,k,rfl⟩
 .exact absurd rfl a
theorem Xt{v:fy}{n:Nat}(h:Roomy (sl v)):v.1=some (pk (sl v) 0 n):=by obtain ⟨b,off,len,cap,e⟩:=h;obtain ⟨d,c,a⟩:=v;simp only [sl,Value.slice.injEq] at e;obtain ⟨rfl,rfl,rfl⟩:=e;simp [sl,pk,Addr.add]
theorem aij{α:Type}{l:List α}{i:Int}{x:α}(h:idx l i=some x):l≠[]:=λe=>by subst e;unfold idx at h;split at h <;> cases h
theorem aaK{z:Array TypeId}(q:st.low fr=true)(u:Sat (ab ρ T st.G++(ab ρ T fr.H++Φ)) w)(h:Zx T fr st d x K=some r):
  JW X.P T none (au ρ T st.E fr.F) ⟨some d,.call ⟨.builtin .unsafeSliceData,#[x],z⟩,ty,pos,af,gd⟩ w (aV r K T fr st none (some d) ρ Φ):=by
 unfold Zx at h;split at h
 .rename_i id hx;have i:=bE (ρ:=ρ) hx;simp only [AV.val] at i;split at h
  .rename_i s b t e' l f A;obtain ⟨m,C⟩:=bU A;have:b=id:=ah C;subst this;obtain ⟨I,o,D⟩:=yI h;have o:=o aA.get_none;obtain ⟨B,p⟩:=Src.holds u m;have e:b<st.c/\f<st.c:=by
    have:(Row.own b t e' l f).low st.c=true:=by
     cases s with
     |top j=>exact oY (aC.cB.1 q).2.2.1 m
     |cm j=>exact oY (aC.cB.1 q).2.2.2 m
     |_=>exact m.elim
    simpa only [Row.low,ae,dk] using this
   have y:=B.aiw (aij o);have k:aV r K T fr st none (some d) ρ Φ (.pointer (some (pk (sl (ρ b).v) 0 t.rep.n))) w:=by refine aV.push (x:={ cO with a:=pk (sl (ρ b).v) 0 t.rep.n }) q D (by simp only [AV.val,ax.bw];simp [Addr.add]) (u.add rfl ?_);intro J;rw [ax.aY _ e.1,ax.aY _ e.2,ax.bw];exact ⟨l,p,o,rfl⟩
   refine ⟨_,λw'=>?_,k⟩;rw [<-Xt y];rw [aA.get_none];exact ahO (g:=true) i (λ_=>y)
  .cases h
 .cases h
theorem afw(hc:P.cellsOf e=1)(a off n:Nat)(b:off+n<=a):liesAt P P.depth e a off e n=true:=by have hd:P.depth=(2*(P.types.size+Made.depth)+1)+1:=rfl;rw [hd];simp only [liesAt,ck];left;rw [hd];simp [rowAt,hc,b,sameLayout,Nat.mod_one]
theorem alE{E:Env}{v:fy}{y:Operand}{z it:TypeId}{M:Nat->Prop}{R:xc}{xs:xb}(Z:bJ (RI .u8) e M w (sl v) xs R)(hp:P.underlying z=some (.pointer e))(hc:P.cellsOf e=1)
  (hx:ar E true x (.pointer v.1)) (U:ar E true y (.int .i64 (xs.length:Int))) (Q:xs≠[]):
  ∃w',ky P E ⟨some d,.call ⟨.builtin .unsafeString,#[x,y],#[z,it]⟩,ty,pos,af,gd⟩ w (S (strOf xs)) w'/\jh R w w'/\∀M',Mv M w M' w'->(∀b∈R,¬M' b)->bO (RI .u8) M' w' (sl v) xs:=by
 have f:xs.length≠0:=λe=>Q (cf e);rcases Z with ⟨Y,cells,⟨h1,h2⟩,J⟩|⟨_,rfl,_⟩
 .rcases h2 with ⟨_,T⟩|⟨g,off,cap,cur,O,F,s,X,r,k⟩
  .exact absurd T f
  .obtain ⟨v1,v2,I⟩:=v;simp only [sl,Value.slice.injEq] at O;obtain ⟨rfl,rfl,rfl⟩:=O;have B:(RI .u8).n=1:=rfl;have N:off+I=cur.size:=by simpa [B] using r.1
   have A:w.shape? g=some (e,cur.size):=by unfold World.shape?;rw [F]
   have i:∀(j:Nat) (a:Int),xs[j]? =some a->w.cell? ((⟨g,off,none⟩:Addr).add j)=some (.int .u8 a):=λj a K=>by
    have D:=(List.getElem?_eq_some_iff.1 K).1;have hA:=J.2 j D;have ha:xs[j]=a:=(List.getElem?_eq_some_iff.1 K).2;have G:cells[j]? =some (.int .u8 a):=by
     have e1:(cells.drop (j*1)).take 1=[.int .u8 a]:=by rw [<-ha];exact hA
     have e2:=congrArg (λl=>l[0]?) e1;simpa using e2
    exact (CM F k).cell G
   have W:xs.length<=9223372036854775807:=by unfold maxLen at X;omega
   have o:(Builtin.unsafeString_ #[z,it] ty #[.pointer (some ⟨g,off,none⟩),.int .i64 xs.length]).run P w= .ok (S (strOf xs)) (w.freeze ⟨g,off,none⟩ xs.length):=by
    have C:=Gm (P:=P) (w:=w) xs ⟨g,off,none⟩ .empty i;have h:=afw (P:=P) hc (cur.size/P.cellsOf e) off xs.length (by rw [hc,Nat.div_one];omega);have u:¬(9223372036854775807:Int)<(xs.length:Int):=by omega
    have q:i64.max=9223372036854775807:=rfl;have p:¬(xs.length:Int)<0:=by omega
    refine (Sem.run_bind (P:=P) (w:=w) (asInt (.int .i64 xs.length)) _).trans ?_;simp [asInt,asIntOf,q,u,p,f,variablesAt,A,elemOf,run_underlying hp,h,C,S]
   have V:(w.freeze ⟨g,off,none⟩ xs.length).heap[g]? =some (.cells cur e (off,off+xs.length)):=by unfold World.freeze;rw [gZ f];simp [q8,F]
   have t:R=[g]:=by rw [Y];simp [dq,Value.ownBlock,sl]
   refine ⟨w.freeze ⟨g,off,none⟩ xs.length,λn' a L=>by simp [execOp,resolve,invoke,builtin,hx n' a L rfl,U n' a L rfl,o],?_,λM' m hb=>?_⟩
   .rw [t];unfold World.freeze;rw [gZ f];refine ⟨rfl,rfl,rfl,by simp,λc _ H=>?_⟩;have:g≠c:=λe=>H (by simp [e]);simp [q8,this]
   .refine .inr ⟨g,off,I,cur,e,_,rfl,hb g (by rw [t];simp),V,s,Nat.le_of_eq r.1,?_⟩;rw [k];exact J.mv m
 .exact absurd rfl Q
theorem akF{y:Operand}{D it:TypeId}(_hl:st.low fr=true)(s:Sat (ab ρ T st.G++(ab ρ T fr.H++Φ)) w)(h:afx X T fr st d D x y K=some r):
  iB X.P T none (au ρ T st.E fr.F) ⟨some d,.call ⟨.builtin .unsafeString,#[x,y],#[D,it]⟩,ty,pos,af,gd⟩ w (aV r K T fr st none (some d) ρ Φ):=by
 unfold afx at h;split at h
 .rename_i e hp;obtain ⟨hc,h⟩:=aG h;have hc:=ah hc;split at h
  .rename_i q hx;have f:=bE (ρ:=ρ) hx;simp only [AV.val] at f;split at h
   .rename_i m O;have c:=bE (ρ:=ρ) O;simp only [AV.val] at c;split at h
    .rename_i s1 q' id N u1 i xe t;obtain ⟨f1,f2⟩:=bU t;have:q'=q:=ah f2;subst this;have V:=Src.holds s f1;split at h
     .rename_i j a u e' M C S;obtain ⟨L,Z⟩:=bU S;have:a=id:=ah Z;subst this;obtain ⟨B,A⟩:=aG h;simp only [ae] at B;have e1:=ah B.1;have e2:=ah B.2;subst e1;subst e2;split at A
      .rename_i xs o;obtain ⟨eu,ex⟩:=oq o;subst eu;subst ex;obtain ⟨J,Y⟩:=ej A;simp only [ae,kz] at J;obtain ⟨rfl,rfl⟩:=J;have hi:=fg (ρ:=ρ) (T:=T) (Φ:=ab ρ T fr.H++Φ) L;obtain ⟨I,l⟩:=s.at_ hi;obtain ⟨l0,b1,b2,b3⟩:=V aA.get_none;obtain ⟨e4,e5⟩:=Ms b1 l;cases e4;cases e5;have k:=aij b2;have Q:=I.aiw k;have p:ar (au ρ T st.E fr.F) true x (.pointer (ρ a).v.1):=by rw [Xt (n:=(Ty.i .u8).rep.n) Q,<-b3];simpa [Addr.add] using f
       obtain ⟨w',g,W,U⟩:=alE (P:=X.P) (d:=d) (ty:=ty) (pos:=pos) (af:=af) (gd:=gd) (it:=it) I hp hc p c k;have R:j<st.G.length:=(List.getElem?_eq_some_iff.1 L).1;refine .none_ (bC.gd (bC.me g (aV.ie Y (bb _) rfl rfl ?_)));show Sat (ab _ T (st.G.set j _)++_) _;rw [eU R];exact s.mF hi W (λb hb=>by cases hb) (λM' m hb _=>⟨U M' m (λb z=>hb b z (λh=>by cases h)),λh=>by cases h⟩)
      .cases A
     .cases h
    .cases h
   .cases h
  .cases h
 .cases h
def ahy{R:Type}(X:Cx)(T:aA)(fr:Fr)(st:aC)(g:GK)(d:Tmp)(t:TypeId)(x:Operand)(K:cw R):Option R:=match eT X.P t with
 |some _=>(match bq T st.E fr.F g x with
  |some (.sl id)=>(match Xg st.G fr.H id with
   |some s=>ay (T.imp g s.g) (K { st with E:=cn (some d) g (.int .i64 (s.l.length:Int)) st.E }) none
   |none=>none)
  |_=>none)
 |none=>none
theorem alf{g:GK}{t:TypeId}(c:Sat (ab ρ T st.G++(ab ρ T fr.H++Φ)) w)(h:ahy X T fr st g d t x K=some r):
  JW X.P T g (au ρ T st.E fr.F) ⟨some d,.call ⟨.builtin .len,#[x],#[t]⟩,ty,pos,af,gd⟩ w (aV r K T fr st g (some d) ρ Φ):=by
 unfold ahy at h;split at h
 .rename_i e i;split at h
  .rename_i id hx;have a:=aR (ρ:=ρ) hx;simp only [AV.val] at a;split at h
   next s b=>obtain ⟨k,j⟩:=aG h;exact ⟨_,λw'=>lT (bT i) a (λf=>UY c b (aA.jm k f)),aV.ie j (bb _) rfl rfl c⟩
   .cases h
  .cases h
 .cases h
end
end
end Go.Proofs.YtkedhpmpejhekaaGreatDoor
