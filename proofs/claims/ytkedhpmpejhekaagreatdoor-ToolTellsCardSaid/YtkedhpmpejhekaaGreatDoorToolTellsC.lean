/- Own texts for ToolTells, cut and joined by a program. -/
import Derived.Test.YtkedhpmpejhekaaGreatDoorToolTellsB
set_option linter.all false
namespace Go.Proofs.YtkedhpmpejhekaaGreatDoor
open IntKind (i64)
noncomputable section
open Go.Lib
section
variable {X : Cx} {R : Type} {r : R} {K : cC R} {T : aC} {fr : Fr} {st : aD} {g : GK} {d : Tmp} {ρ : ay} {Φ : Ctx} {w : World} {ty : TypeId} {pos : String} {af : x8} {gd : v7}
def aai:Operand->Operand->Bool
 | .tmp a,.tmp b=>Nat.beq a b
 | .const (.int .i64 a),.const (.int .i64 b)=>decide (a=b)
 |_,_=>false
theorem acv{x y:Operand}(h:aai x y=true):x=y:=by
 unfold aai at h;split at h
 .rw [ah h]
 .rw [qe h]
 .cases h
def ahS(_T:aC)(g:GK)(st:aD)(d:Tmp)(G:List Row)(t:Ty)(l:List t.T)(i j:Int)(clip:Bool)(K:cC R):Option R:=
 K { st with c:=st.c+1,E:=ct (some d) g (.sl st.c) st.E,G:= .sli g st.c t (bD l i j) clip::G }
def ab3(X:Cx)(T:aC)(fr:Fr)(st:aD)(g:GK)(d:Tmp)(t:TypeId)(x:Operand)(lo hi mx:Option Operand)(K:cC R):Option R:=match eR X.P t with
 |some e=>(match jW X.P e with
  |some z=>(match br T st.E fr.F g x with
   |some (.sl id)=>(match loA T st.E fr.F g lo with
    |some i=>(match hiA T st.E fr.F g hi with
     |some j=>(match dJ (cu [id] st.G) fr.H (lC id) with
      |some (_,.sli g' _ u l _)=>aA ( T.imp g g'&&Nat.beq z.1 u.n' ) ( match mx with
       |none=>HK (some (dp i (j.getD (l.length:Int)) l.length)) (g.map λ_=>T.get g) (ahS T g st d (cu [id] st.G) u l i (j.getD (l.length:Int)) false K)
       |some y=>(match hi with
        |some h=>(match br T st.E fr.F g y with
         |some (.int _ m)=>aA (aai h y) ( HK (some (jR i m m l.length)) (g.map λ_=>T.get g) (ahS T g st d (cu [id] st.G) u l i m true K) )
          ( HK (some (jR i m m l.length&&(j.getD (l.length:Int)==m))) (g.map λ_=>T.get g) (ahS T g st d (cu [id] st.G) u l i m true K) )
         |_=>none)
        |none=>none) ) none
      |_=>none)
     |none=>none)
    |none=>none)
   |_=>none)
  |none=>none)
 |none=>none
theorem RF{G:List Row}{t:Ty}{l:List t.T}{i j:Int}{a:Bool}{p:fE}(k:st.low fr=true)(b:bC st.c G=true)(f:Sat (ab ρ T G++(ab ρ T fr.H++Φ)) w)
  (hp:T.get g=true->bP t.rep (Ctx.M (ab ρ T G++(ab ρ T fr.H++Φ))) w (sl p) (bD l i j)/\(a=true->p.2.2=(bD l i j).length)) (h:ahS T g st d G t l i j a K=some r):
  aV r K T fr st g (some d) ρ Φ (sl p) w:=by
 refine aV.new (ρ':=ρ.set st.c { cO with v:=p }) k h ay.aZ (hV _) rfl (by simp only [AV.val,ay.bA]) ?_;show Sat (ab _ T (_::G)++_) w;have e:=bf (T:=T) (ay.aZ (ρ:=ρ) (j:=st.c) (x:={ cO with v:=p })) b;rw [ab,c5];rw [ab] at e;rw [e];refine f.add rfl ?_;simp only [Row.item,ay.bA];exact hp
theorem WQ{t:TypeId}{x:Operand}{lo hi mx:Option Operand}(S:st.low fr=true)(I:Sat (ab ρ T st.G++(ab ρ T fr.H++Φ)) w)(h:ab3 X T fr st g d t x lo hi mx K=some r):
  Lk X.P T g (au ρ T st.E fr.F) ⟨some d,.slice t x lo hi mx,ty,pos,af,gd⟩ w (aV r K T fr st g (some d) ρ Φ):=by
 unfold ab3 at h;split at h
 .rename_i e he;split at h
  .rename_i z hz;obtain ⟨n,bytes,z⟩:=z;split at h
   .rename_i id hx;split at h
    .rename_i i hi;split at h
     .rename_i j hj;replace I:=iR (ids:=[id]) I;have C:=pC (ids:=[id]) (aD.cD.1 S).2.2.1;have A:=aR (ρ:=ρ) hx;simp only [AV.val] at A;split at h
      .rename_i s g' o u l b Z;obtain ⟨h1,D⟩:=aI h;simp only [ae] at h1;have hn:n=u.rep.n:=(ah h1.2).trans u.BM.symm;obtain ⟨f1,f2⟩:=bV Z;have:o=id:=ah f2;subst this;have hT:=Src.holds I f1;have J:T.get g=true->bP u.rep _ w (sl (ρ o).v) l:=λc=>(hT (aC.jK h1.1 c)).1;have B:=cF hz;rw [hn] at B;split at D
       .obtain ⟨R,O⟩:=oB D;obtain ⟨p,N,L⟩:=bP.arv J (λc=>R _ rfl c);have f:=RF (p:=p) S C I (λc=>⟨L c,λhb=>by cases hb⟩) O;exact ⟨_,λw'=>C8 (bT he) B A (λc=>(J c).len) (KB hi) (Ur hj) N,f⟩
       .rename_i y;split at D
        .rename_i U;split at D
         .rename_i k m hy;have q:=aR (ρ:=ρ) hy;simp only [AV.val] at q;rcases dq D with ⟨h5,h6⟩|⟨_,h6⟩
          .have:=acv h5;subst this;obtain ⟨R,O⟩:=oB h6;have key:∃p:fE,(T.get g=true->MW (sl (ρ o).v) i m m u.rep.n (sl p))/\(T.get g=true->bP u.rep (Ctx.M (ab ρ T (cu [o] st.G)++(ab ρ T fr.H++Φ))) w (sl p) (bD l i m)/\(true=true->p.2.2=(bD l i m).length)):=by
            cases c:T.get g
            .exact ⟨(none,0,0),(λh=>by cases h),(λh=>by cases h)⟩
            .obtain ⟨p,W,V⟩:=bP.anv (J c) (R _ rfl c);exact ⟨_,λ_=>W,λ_=>⟨V,λ_=>rfl⟩⟩
           obtain ⟨p,N,L⟩:=key;have f:=RF (p:=p) S C I L O;exact ⟨_,λw'=>UZ (lo:=lo) (hi:=some U) (bT he) B A (λc=>(J c).len) (KB hi) ⟨k,q⟩ q N,f⟩
          .obtain ⟨R,O⟩:=oB h6;have Q:T.get g=true->jR i m m l.length=true/\j.getD (l.length:Int)=m:=λc=>by have:=R _ rfl c;simp only [ae,kN] at this;exact this
           have key:∃p:fE,(T.get g=true->MW (sl (ρ o).v) i m m u.rep.n (sl p))/\(T.get g=true->bP u.rep (Ctx.M (ab ρ T (cu [o] st.G)++(ab ρ T fr.H++Φ))) w (sl p) (bD l i m)/\(true=true->p.2.2=(bD l i m).length)):=by
            cases c:T.get g
            .exact ⟨(none,0,0),(λh=>by cases h),(λh=>by cases h)⟩
            .obtain ⟨p,W,V⟩:=bP.anv (J c) (Q c).1;exact ⟨_,λ_=>W,λ_=>⟨V,λ_=>rfl⟩⟩
           obtain ⟨p,N,L⟩:=key;have f:=RF (p:=p) S C I L O;have Y:∃k,ar (au ρ T st.E fr.F) (T.get g) U (.int k m):=by obtain ⟨k,hk⟩:∃k,ar (au ρ T st.E fr.F) (T.get g) U (.int k (j.getD (l.length:Int))):=Ur (ρ:=ρ) (len:=l.length) hj;exact ⟨k,λn a Z c=>by rw [hk n a Z c,(Q c).2]⟩
           exact ⟨_,λw'=>UZ (lo:=lo) (hi:=some U) (bT he) B A (λc=>(J c).len) (KB hi) Y q N,f⟩
         .cases D
        .cases D
      .cases h
     .cases h
    .cases h
   .cases h
  .cases h
 .cases h
def Xb(len:Nat)(z:List AV):List AV:=(List.replicate len z).flatten
theorem Qh{len:Nat}{z:List AV}:AV.ao ρ (Xb len z)=(List.replicate len (AV.ao ρ z)).flatten:=by
 unfold Xb
 induction len with
 |zero=>simp [AV.ao]
 |succ n ih=>simp only [qm,List.flatten_cons,cZ,ih]
def unR(T:aC)(g:GK):List Row->List Row
 |[]=>[]
 |r::G=>(match r with
  | .sli g' id t l c=>aA (T.imp g g') (.sli none id t l c) (.sli g' id t l c)
  |r=>r)::unR T g G
def unG(T:aC)(g:GK)(G:List Row):List Row:=match g with
 |none=>G
 |some _=>unR T g G
theorem XU{ρ:ay}{T:aC}{g:GK}(a:T.get g=true):{G:List Row}->ab ρ T (unR T g G)=ab ρ T G
 |[]=>rfl
 |r::G=>by
  have ih:=XU (ρ:=ρ) a (G:=G);unfold unR;simp only [ab,c5] at ih ⊢;rw [ih];congr 1;cases r with
  |sli g' id t l c=>
   show Row.item ρ T (aA (T.imp g g') (.sli none id t l c) (.sli g' id t l c))=_;cases h:T.imp g g' with
   |false=>rfl
   |true=>
    show Row.item ρ T (.sli none id t l c)=_;simp only [Row.item,aC.get_none,aC.jK h a]
  |_=>rfl
theorem Dr{ρ:ay}{T:aC}{g:GK}(a:T.get g=true){G:List Row}:ab ρ T (unG T g G)=ab ρ T G:=by
 cases g with
 |none=>rfl
 |some k=>exact XU a
def ak1(X:Cx)(T:aC)(fr:Fr)(st:aD)(g:GK)(d:Tmp)(t:TypeId)(len:Nat)(ps:List (Nat×Operand))(K:cC R):Option R:=match eR X.P t with
 |some e=>(match AG X.tys e with
  |some u=>(match jW X.P e with
   |some z=>(match ox T st.E fr.F g (ps.map (·.2)) with
    |some vs=>(match y8 (λi=>some (i*z.1,z.1)) ((ps.map (·.1)).zip vs) (Xb len (z.2.2.cells.toList.map jg)) with
     |some cs=>(match rdL (unG T g (cu (AV.ej (.agg vs)++(vs.map AV.ej).flatten) st.G)) (unG T g fr.H) u len cs with
      |some xs=>aA ( Nat.beq z.1 u.n'&&Nat.beq z.2.2.cells.size z.1&&Nat.ble (len*z.1) 16777216 ) ( match g with
       |none=>aA ( Nat.blt 0 (len*z.1)||Nat.beq len 0&&ps.isEmpty ) ( K { st with c:=st.c+1,E:=ct (some d) none (.sl st.c) st.E,G:= .own st.c u e xs st.c::cu (AV.ej (.agg vs)++(vs.map AV.ej).flatten) st.G } ) none
       |some _=>aA ( Nat.blt 0 (len*z.1)||Nat.beq len 0&&ps.isEmpty ) ( K { st with c:=st.c+1,E:=ct (some d) g (.sl st.c) st.E,G:= .sli g st.c u xs false::cu (AV.ej (.agg vs)++(vs.map AV.ej).flatten) st.G } ) none ) none
      |none=>none)
     |none=>none)
    |none=>none)
   |none=>none)
  |none=>none)
 |none=>none
theorem wy{t:Ty}{e:TypeId}{p:fE}{l:List t.T}{G:List Row}{w':World}{st':aD}(h:st.low fr=true)(f:bC st.c G=true)(g:Sat (ab ρ T G++(ab ρ T fr.H++Φ)) w)(n:Ext w w')
  (i:∀b∈s9 p,b<w'.heap.size/\w.heap.size<=b) (k:∀M',Mv (Ctx.M (ab ρ T G++(ab ρ T fr.H++Φ))) w M' w'->bL t.rep e M' w' (sl p) l (s9 p))
  (a:st'={ st with c:=st.c+1,E:=ct (some d) none (.sl st.c) st.E,G:= .own st.c t e l st.c::G }) (hK:K st'=some r):aV r K T fr st none (some d) ρ Φ (sl p) w':=by
 subst a;refine aV.new (ρ':=ρ.set st.c { cO with v:=p,y:=⟨.l t,l⟩ }) h hK ay.aZ (hV _) rfl (by simp only [AV.val,ay.bA]) ?_;show Sat (ab _ T (_::G)++_) w';have e:=bf (T:=T) (ay.aZ (ρ:=ρ) (j:=st.c) (x:={ cO with v:=p,y:=⟨.l t,l⟩ })) f;rw [ab,c5];rw [ab] at e;rw [e];refine g.push n (λb hb=>?_) (λM' m=>?_)
 .simp only [Row.item,ay.bA] at hb;exact i b hb
 .simp only [Row.item,ay.bA];exact ⟨k M' m,trivial⟩
theorem Dh{b n c:Nat}:dv (sl (some ⟨b,0,none⟩,n,c))=[b]:=rfl
theorem AO{p:fE}{b:Nat}(h:b∈s9 p):b∈dv (sl p):=by
 unfold s9 at h;split at h
 .cases h
 .exact h
theorem aot{t:TypeId}{len:Nat}{ps:Array (Nat×Operand)}(N:st.low fr=true)(y:Sat (ab ρ T st.G++(ab ρ T fr.H++Φ)) w)(h:ak1 X T fr st g d t len ps.toList K=some r):
  iI X.P T g (au ρ T st.E fr.F) ⟨some d,.buildSlice t len ps,ty,pos,af,gd⟩ w (aV r K T fr st g (some d) ρ Φ):=by
 obtain ⟨ps⟩:=ps;simp only at h;unfold ak1 at h;split at h
 .rename_i e Q;split at h
  .rename_i u hu;split at h
   .rename_i z hz;obtain ⟨n,bytes,z⟩:=z;split at h
    .rename_i vs U;split at h
     .rename_i cs V;have q:=pC (ids:=AV.ej (.agg vs)++(vs.map AV.ej).flatten) (aD.cD.1 N).2.2.1;replace y:=iR (ids:=AV.ej (.agg vs)++(vs.map AV.ej).flatten) y;generalize cu (AV.ej (.agg vs)++(vs.map AV.ej).flatten) st.G=G at h q y;split at h
      .rename_i xs S;obtain ⟨R,h2⟩:=aI h;simp only [ae] at R;obtain ⟨⟨a1,a2⟩,Z⟩:=R;have hn:n=u.rep.n:=(ah a1).trans u.BM.symm;have C:z.cells.size=n:=ah a2;have hk:T.get g=true->xs.length=len/\cM u.rep (Ctx.M (ab ρ T G++(ab ρ T fr.H++Φ))) w (AV.ao ρ cs) xs:=λA=>by have:=SN (ρ:=ρ) (T:=T) (Φ:=Φ) (w:=w) (by rw [Dr A,Dr A];exact y) _ _ _ S;rwa [Dr A,Dr A] at this
       have s:=cF hz;have o:=wJ (ρ:=ρ) V;rw [BR,Qh,kM] at o;have B:0<n->oy n len z.cells.toList ((ps.map (·.1)).zip (AV.ao ρ vs))=some (AV.ao ρ cs).toArray:=λa=>by unfold oy;have I:=Da z.cells.toList (by simp [C];exact a) len;simp only [ch,C] at I;simp only [ch,C];rw [<-o,<-I]
       have i:=fS (ρ:=ρ) U;subst hn;cases g with
       |none=>
        obtain ⟨L,J⟩:=hk aC.get_none;obtain ⟨l,O⟩:=aI h2;simp only [c9,ae] at l;have i:gJ (au ρ T st.E fr.F) true (ps.map (·.2)) (AV.ao ρ vs):=by simpa using i
        rcases l with l|⟨l,W⟩
        .have a:0<u.rep.n:=by
          have:0<len*u.rep.n:=by simpa using l
          exact q0 (λe=>by simp [e] at this)
         have f:=nW (P:=X.P) (w:=w) (dst:=some d) (ty:=ty) (pos:=pos) (af:=af) (bT Q) s (zs:=z.cells.toList) (by simp) l Z i (B a);have hlen:len*1<=len*u.rep.n:=Nat.mul_le_mul_left _ a;have h9:=cn Z;have h8:Nat.ble len 9223372036854775807=true:=qg (by omega);refine .none_ (bE.gd (bE.mA f ?_));have:=wy (d:=d) (t:=u) (e:=e) (p:=(some ⟨w.heap.size,0,none⟩,len,len)) N q y (ei w (.cells (AV.ao ρ cs).toArray e)) (λb hb=>by have:=AO hb;rw [Dh] at this;simp only [l9] at this;subst this;simp) (λM' m=>(bL.of (gm.fresh (heap_alloc_new w _) L h8 (J.mv m))).Br) rfl O
         exact this
        .have Y:len=0:=ah l;subst Y;have I:ps=[]:=by simpa using W
         subst I;have D:xs=[]:=cf L;subst D;have f:=sF (P:=X.P) (E:=au ρ T st.E fr.F) (w:=w) (dst:=some d) (ty:=ty) (pos:=pos) (af:=af) (bT Q) s;refine .none_ (bE.gd (bE.mA f ?_));have:=wy (d:=d) (t:=u) (e:=e) (p:=(some ⟨w.heap.size,0,none⟩,0,0)) N q y (ei w (.cells ([]:xu).toArray e)) (λb hb=>by have:=AO hb;rw [Dh] at this;simp only [l9] at this;subst this;simp) (λM' m=>(bL.of (gm.fresh (heap_alloc_new w _) rfl rfl cM.nil)).Br) rfl O
         exact this
       |some k=>
        obtain ⟨l,O⟩:=aI h2;simp only [c9,ae] at l;refine ⟨λA=>?_,λA=>?_⟩
        .obtain ⟨L,J⟩:=hk A;rw [A] at i;have key:∃cells:xu,kS X.P (au ρ T st.E fr.F) ⟨some d,.buildSlice t len ⟨ps⟩,ty,pos,af,none⟩ w (.slice (some ⟨w.heap.size,0,none⟩) len len) (w.alloc (.cells cells.toArray e))/\cM u.rep (Ctx.M (ab ρ T G++(ab ρ T fr.H++Φ))) w cells xs:=by
          rcases l with l|⟨l,W⟩
          .have a:0<u.rep.n:=by
            have:0<len*u.rep.n:=by simpa using l
            exact q0 (λe=>by simp [e] at this)
           exact ⟨AV.ao ρ cs,nW (P:=X.P) (w:=w) (dst:=some d) (ty:=ty) (pos:=pos) (af:=af) (bT Q) s (zs:=z.cells.toList) (by simp) l Z i (B a),J⟩
          .have Y:len=0:=ah l;subst Y;have I:ps=[]:=by simpa using W
           subst I;have D:xs=[]:=cf L;subst D;exact ⟨[],sF (P:=X.P) (E:=au ρ T st.E fr.F) (w:=w) (dst:=some d) (ty:=ty) (pos:=pos) (af:=af) (bT Q) s,cM.nil⟩
         obtain ⟨cells,f,J⟩:=key;refine bE.gd (bE.mA f ?_);have R:=y.ext (ei w (.cells cells.toArray e));have hf:bP u.rep (Ctx.M (ab ρ T G++(ab ρ T fr.H++Φ))) (w.alloc (.cells cells.toArray e)) (sl (some ⟨w.heap.size,0,none⟩,len,len)) xs:=
          bP.fresh (heap_alloc_new w _) (λhm=>by have:=y.lt hm;omega) L (J.mv ((ei w _).mv _))
         refine aV.new (ρ':=ρ.set st.c { cO with v:=(some ⟨w.heap.size,0,none⟩,len,len) }) (av:= .sl st.c) N O ay.aZ (hV _) rfl (by simp only [AV.val,ay.bA];rfl) ?_;show Sat (ab _ T (_::G)++_) _;have e:=bf (T:=T) (ay.aZ (ρ:=ρ) (j:=st.c) (x:={ cO with v:=(some ⟨w.heap.size,0,none⟩,len,len) })) q;rw [ab,c5];rw [ab] at e;rw [e];refine R.add rfl ?_;simp only [Row.item,ay.bA];exact λ_=>⟨hf,λhb=>by cases hb⟩
        .refine ⟨_,aV.new (ρ':=ρ.set st.c cO) (av:= .sl st.c) N O ay.aZ (hV _) rfl rfl ?_⟩;show Sat (ab _ T (_::G)++_) _;have e:=bf (T:=T) (ay.aZ (ρ:=ρ) (j:=st.c) (x:=cO)) q;rw [ab,c5];rw [ab] at e;rw [e];refine y.add rfl ?_;exact λh=>by rw [A] at h;cases h
      .cases h
     .cases h
    .cases h
   .cases h
  .cases h
 .cases h
end
section
variable {X : Cx} {R : Type} {r : R} {K : cC R} {T : aC} {fr : Fr} {st : aD} {g : GK} {d : Tmp} {ρ : ay} {Φ : Ctx} {w : World} {ty : TypeId} {pos : String} {af : x8} {gd : v7}
def ah8(X:Cx)(T:aC)(fr:Fr)(st:aD)(d:Tmp)(t:TypeId)(x y:Operand)(K:cC R):Option R:=match eR X.P t with
 |some e=>(match AG X.tys e with
  |some u=>(match jW X.P e with
   |some z=>(match br T st.E fr.F none x with
    |some (.int _ l)=>aA ( aai x y&&Nat.beq z.1 u.n'&&Nat.beq z.2.2.cells.size z.1&&Nat.blt 0 z.1 ) (
     match rd1 [] [] u (z.2.2.cells.toList.map jg) with
     |some zx=>aG (decide (0<=l)) (aG (aH l.toNat z.2.1) (K { st with c:=st.c+1,E:=ct (some d) none (.sl st.c) st.E,G:= .own st.c u e (List.replicate l.toNat zx) st.c::st.G }))
     |none=>none ) none
    |_=>none)
   |none=>none)
  |none=>none)
 |none=>none
theorem aby{t:Ty}{v:AV}{l:List t.T}(h:pP [] [] t v=some l):∀(M:Nat->Prop) (w:World),bP t.rep M w (v.val ρ) l:=by
 unfold pP at h;split at h
 .rename_i j;split at h
  next a=>simp [dJ,mG] at a
  .cases h
 .cases h;intro M w;simp only [AV.val];exact bP.nil
 .cases h
theorem Xq:(t:Ty)->(vs:List AV)->(x:t.T×List AV)->nT [] [] t vs=some x->∃us,vs=us++x.2/\∀(M:Nat->Prop) (w:World),t.rep.rd M w (AV.ao ρ us) x.1
 | .i k,vs,x,h=>by
  unfold nT at h;split at h
  next r y us=>obtain ⟨g,f⟩:=aI h;have:=gB g;subst this;cases f;exact ⟨[.int k y],rfl,λM w=>by simp only [AV.ao,AV.val];rfl⟩
  .cases h
 | .bo,vs,x,h=>by
  unfold nT at h;split at h
  next y us=>cases h;exact ⟨[.bool y],rfl,λM w=>by simp only [AV.ao,AV.val];rfl⟩
  .cases h
 | .s,vs,x,h=>by
  unfold nT at h;split at h
  next y us=>cases h;exact ⟨[.str y],rfl,λM w=>by simp only [AV.ao,AV.val];rfl⟩
  .cases h
 | .un,vs,x,h=>by
  unfold nT at h;cases h;exact ⟨[],rfl,λM w=>by simp only [AV.ao];rfl⟩
 | .n,vs,x,h=>by
  unfold nT at h;split at h
  next t us=>cases h;exact ⟨[.ifc t (.agg [])],rfl,λM w=>by simp only [AV.ao,AV.val];rfl⟩
  .cases h
 | .mp _ _,vs,x,h=>by unfold nT at h;cases h
 | .p a b,vs,x,h=>by
  unfold nT at h;split at h
  .rename_i y m;split at h
   next z j=>cases h;obtain ⟨us,q,g⟩:=Xq a vs y m;obtain ⟨d,o,f⟩:=Xq b y.2 z j;refine ⟨us++d,by rw [q,o,aO],λM w=>?_⟩;rw [cZ];exact ⟨_,_,rfl,g M w,f M w⟩
   .cases h
  .cases h
 | .l t,vs,x,h=>by
  unfold nT at h;split at h
  .rename_i v us;split at h
   next l e=>cases h;refine ⟨[v],rfl,λM w=>?_⟩;simp only [AV.ao];exact (aby e M w).rsl
   .cases h
  .cases h
 | .ex,vs,x,h=>by
  unfold nT at h;split at h
  .rename_i a b c v us;split at h
   next l e=>cases h;refine ⟨[.int .i64 a,.int .i64 b,.int .i64 c,v],rfl,λM w=>?_⟩;simp only [AV.ao,AV.val];exact PD (aby e M w).rsl
   .cases h
  .cases h
theorem amH{t:TypeId}{x y:Operand}(s:st.low fr=true)(D:Sat (ab ρ T st.G++(ab ρ T fr.H++Φ)) w)(h:ah8 X T fr st d t x y K=some r):
  iI X.P T none (au ρ T st.E fr.F) ⟨some d,.makeSlice t x y,ty,pos,af,gd⟩ w (aV r K T fr st none (some d) ρ Φ):=by
 unfold ah8 at h;split at h
 .rename_i e L;split at h
  .rename_i u hu;split at h
   .rename_i z C;obtain ⟨n,bytes,z⟩:=z;split at h
    .rename_i k l hx;obtain ⟨v,q⟩:=aI h;simp only [ae] at v;obtain ⟨⟨⟨a1,Z⟩,Y⟩,W⟩:=v;have:=acv a1;subst this;have J:n=u.rep.n:=(ah Z).trans u.BM.symm;have f:z.cells.size=n:=ah Y;split at q
     .rename_i B a;obtain ⟨V,S⟩:=eo q;obtain ⟨U,R⟩:=eo S;have c:=bF (ρ:=ρ) hx;simp only [AV.val] at c;have j:=cF C;subst J;have g:∀(M:Nat->Prop) (w:World),u.rep.rd M w z.cells.toList B:=by
       unfold rd1 at a;split at a
       next y' i=>cases a;obtain ⟨us,A,Q⟩:=Xq (ρ:=ρ) u _ _ i;simp only [la] at A;intro M w;have:=Q M w;rw [<-A,kM] at this;exact this
       .cases a
      obtain ⟨w',I,O,o,N⟩:=ajn (P:=X.P) (E:=au ρ T st.E fr.F) (w:=w) (dst:=some d) (ty:=ty) (pos:=pos) (af:=af) (bT L) j (zs:=z.cells.toList) (by simp) (by simpa using f) (by simpa using W) c c V U g;refine .none_ (bE.gd (bE.mA I ?_));exact wy (d:=d) (t:=u) (e:=e) (p:=(some ⟨w.heap.size,0,none⟩,l.toNat,l.toNat)) s (aD.cD.1 s).2.2.1 D O (λb hb=>by
       have:=AO hb;rw [Dh] at this;simp only [l9] at this;subst this;exact ⟨o,bb _⟩) (λM' m=>(bL.of (N M')).Br) rfl R
     .cases q
    .cases h
   .cases h
  .cases h
 .cases h
def alT(X:Cx)(T:aC)(fr:Fr)(st:aD)(d:Tmp)(t:TypeId)(x y:Operand)(K:cC R):Option R:=match eR X.P t with
 |some e=>(match AG X.tys e with
  |some u=>(match jW X.P e with
   |some z=>(match br T st.E fr.F none x with
    |some a=>(match br T st.E fr.F none y with
     |some b=>aA ( Nat.beq z.1 u.n'&&Nat.beq z.2.2.cells.size z.1&&Nat.blt 0 z.1 ) ( match pP (cu b.ej st.G) fr.H u b with
      |some ys=>(match a with
       | .sl id=>(match dJ (cu b.ej st.G) fr.H (lC id) with
        |some (.top j,.own _ u' e' xs _)=>aA ( Nat.beq e e' ) ( match pP.bY.asL u ⟨.l u',xs⟩ with
         |some xs=>aG (aH (xs.length+ys.length) z.2.1) (K { st with c:=st.c+1,E:=ct (some d) none (.sl st.c) st.E,G:=(cu b.ej st.G).set j (.own st.c u e (xs++ys) st.c) })
         |none=>none ) none
        |some (_,.sli none _ u' xs true)=>(match pP.bY.asL u ⟨.l u',xs⟩ with
         |some xs=>(match ys with
          |y::ys=>aG (aH (xs.length+(y::ys).length) z.2.1) (K { st with c:=st.c+1,E:=ct (some d) none (.sl st.c) st.E,G:= .own st.c u e (xs++y::ys) st.c::cu b.ej st.G })
          |[]=>none)
         |none=>none)
        |_=>none)
       | .raw (.slice none 0 0)=>aG (aH (([]:List u.T).length+ys.length) z.2.1) (K { st with c:=st.c+1,E:=ct (some d) none (.sl st.c) st.E,G:= .own st.c u e ([]++ys) st.c::cu b.ej st.G })
       |_=>none)
      |none=>none ) none
     |none=>none)
    |none=>none)
   |none=>none)
  |none=>none)
 |none=>none
theorem an6{t:TypeId}{x y:Operand}(hl:st.low fr=true)(q:Sat (ab ρ T st.G++(ab ρ T fr.H++Φ)) w)(h:alT X T fr st d t x y K=some r):
  iI X.P T none (au ρ T st.E fr.F) ⟨some d,.call ⟨.builtin .append,#[x,y],#[t,t]⟩,ty,pos,af,gd⟩ w (aV r K T fr st none (some d) ρ Φ):=by
 unfold alT at h;split at h
 .rename_i e he;split at h
  .rename_i u hu;split at h
   .rename_i z hz;obtain ⟨n,bytes,z⟩:=z;split at h
    .rename_i a hx;split at h
     .rename_i b hy;obtain ⟨h1,g⟩:=aI h;simp only [ae] at h1;obtain ⟨⟨a1,a2⟩,a3⟩:=h1;have hn:n=u.rep.n:=(ah a1).trans u.BM.symm;have I:z.cells.size=n:=ah a2;have O:=cF hz;subst hn;have s:=pC (ids:=b.ej) (aD.cD.1 hl).2.2.1;replace q:=iR (ids:=b.ej) q;generalize cu b.ej st.G=G at g s q;have o:=bF (ρ:=ρ) hx;have L:=bF (ρ:=ρ) hy;have B:0<u.rep.n:=by simpa using a3
      split at g
      .rename_i ys hys;have J:=Nw q hys;split at g
       .rename_i id;simp only [AV.val] at o;split at g
        .rename_i j k u' e' i ver R;obtain ⟨h3,h4⟩:=aI g;have:=ah h3;subst this;split at h4
         .rename_i xs N;obtain ⟨eu,ex⟩:=oY N;subst eu;simp only at ex;subst ex;obtain ⟨h5,h6⟩:=eo h4;obtain ⟨f1,f2⟩:=bV R;have:k=id:=ah f2;subst this;have hi:=fj (ρ:=ρ) (T:=T) (Φ:=ab ρ T fr.H++Φ) f1;obtain ⟨hO,_⟩:=q.at_ hi;obtain ⟨S,R',w',Y,A,hR,D⟩:=FE (P:=X.P) (E:=au ρ T st.E fr.F) (w:=w) (dst:=some d) (ty:=ty) (pos:=pos) (af:=af) (bT he) O I B o L hO J (λb hb=>Ctx.iJ hi hb) h5;have mv0:Mv (Ctx.M (ab ρ T G++(ab ρ T fr.H++Φ))) w (Ctx.M (ab ρ T G++(ab ρ T fr.H++Φ))) w':=⟨A.size,λb hb hn=>⟨hn,A.block b hb (λhc=>hn (Ctx.iJ hi hc))⟩⟩;have f:=D _ mv0;have hv:∃p:fE,S=sl p:=by obtain ⟨a,cap,hv⟩:=f.len;exact ⟨(a,_,cap),hv⟩
          obtain ⟨p,rfl⟩:=hv;have hj:j<G.length:=(List.getElem?_eq_some_iff.1 f1).1;refine .none_ (bE.gd (bE.mA Y (aV.new (ρ':=ρ.set st.c { cO with v:=p,y:=⟨.l u',i++ys⟩ }) hl h6 ay.aZ (hV _) rfl (by simp only [AV.val,ay.bA]) ?_)));show Sat (ab _ T (G.set j _)++_) _;rw [eV hj,bf ay.aZ s];refine q.ng hi A (λb hb=>?_) (λM' m _=>?_)
          .simp only [Row.item,ay.bA] at hb;exact hR b (f.canon.1 b hb)
          .simp only [Row.item,ay.bA];exact ⟨f.canon.2 _ _ (D M' m),trivial⟩
         .cases h4
        .rename_i s' k u' i R;split at g
         .rename_i xs N;obtain ⟨eu,ex⟩:=oY N;subst eu;simp only at ex;subst ex;split at g
          .rename_i y0 ys0;obtain ⟨h5,h6⟩:=eo g;obtain ⟨f1,f2⟩:=bV R;have:k=id:=ah f2;subst this;obtain ⟨hS,Q⟩:=(Src.holds q f1) aC.get_none;have Q:=Q rfl;obtain ⟨ad,cap,C⟩:=hS.len;have ep:(ρ k).v=((ρ k).v.1,i.length,i.length):=by
            simp only [sl,Value.slice.injEq] at C
            ext1
            .rfl
            .ext1
             .exact C.2.1
             .exact Q
           rw [ep] at hS o;obtain ⟨i',hi',V,hby,hzz⟩:=O.out;subst hby
           obtain ⟨S,w',Y,Z,hB,D⟩:=UL t ty e i' z (bT he) hi' hzz V I hS J (List.cons_ne_nil _ _) h5;have f:=bL.of (D _ (Z.mv _));have hv:∃p:fE,S=sl p:=by obtain ⟨a,cap,hv⟩:=f.len;exact ⟨(a,_,cap),hv⟩
           obtain ⟨p,rfl⟩:=hv;have W:kS X.P (au ρ T st.E fr.F) ⟨some d,.call ⟨.builtin .append,#[x,y],#[t,t]⟩,ty,pos,af,none⟩ w (sl p) w':=λn' a R=>by simp [execOp,resolve,invoke,builtin,o n' a R rfl,L n' a R rfl,show (Builtin.append_ #[t,t] ty #[sl ((ρ k).v.1,i.length,i.length),AV.val ρ b]).run X.P w=_ from Y]
           refine .none_ (bE.gd (bE.mA W ?_));exact wy (d:=d) (t:=u') (e:=e) (p:=p) hl s q Z (λb hb=>hB b (AO hb)) (λM' m=>(bL.of (D M' m)).Br) rfl h6
          .cases g
         .cases g
        .cases g
       .simp only [AV.val] at o;obtain ⟨h5,h6⟩:=eo g;obtain ⟨S,R',w',Y,A,hR,D⟩:=FE (P:=X.P) (E:=au ρ T st.E fr.F) (w:=w) (dst:=some d) (ty:=ty) (pos:=pos) (af:=af) (xs:=([]:List u.T)) (bT he) O I B o L bL.nil J (λb hb=>by cases hb) h5;have Z:Ext w w':=⟨A.os,A.tape,A.output,A.size,λb hb=>A.block b hb (λh=>by cases h)⟩;have f:=D _ (Z.mv _);have hv:∃p:fE,S=sl p:=by obtain ⟨a,cap,hv⟩:=f.len;exact ⟨(a,_,cap),hv⟩
        obtain ⟨p,rfl⟩:=hv;refine .none_ (bE.gd (bE.mA Y ?_));exact wy (d:=d) (t:=u) (e:=e) (p:=p) hl s q Z (λb hb=>by
         obtain ⟨q1,U⟩:=hR b (f.canon.1 b hb);rcases U with U|U
         .cases U
         .exact ⟨q1,U⟩) (λM' m=>f.canon.2 _ _ (D M' m)) rfl h6
       .cases g
      .cases g
     .cases h
    .cases h
   .cases h
  .cases h
 .cases h
end
variable {x : Operand}
def both{R:Type}(a b:Option R):Option R:=open Classical in if a=b then a else none
theorem Yx{R:Type}{a b:Option R}{r:R}(h:both a b=some r):a=some r/\b=some r:=by
 unfold both at h;split at h
 next e=>exact ⟨h,e▸h⟩
 .cases h
inductive Sh where
 |l
 |b (x y:Sh)
def aM:Sh->(R:Type)->Option R->Option R
 | .l,_,a=>a
 | .b x y,R,a=>both (aM x R a) (aM y R a)
theorem abH{R:Type}{a:Option R}:(s:Sh)->aM s R a=a
 | .l=>rfl
 | .b x y=>by show both (aM x R a) (aM y R a)=a;rw [abH x,abH y];unfold both;simp
theorem aN:aM=λ_ _ a=>a:=funext λs=>funext λ_=>funext λ_=>abH s
def wK{α R:Type}(l:List α)(k1 k0:Option R):Option R:=match l with
 |[]=>both k1 k0
 |_::_=>k0
theorem X8{α R:Type}{l:List α}{a b:Option R}{r:R}(h:wK l a b=some r):b=some r/\(l=[]->a=some r):=by
 unfold wK at h;split at h
 .obtain ⟨d,c⟩:=Yx h;exact ⟨c,λ_=>d⟩
 .exact ⟨h,λe=>by cases e⟩
theorem kl{α:Type}{l:List α}{b:Nat}:wK l (some []) (aG (aH (List.length ([]:List α)+List.length l) b)<|some (([]:List α)++l))=aG (aH (List.length l) b) (some l):=by
 cases l with
 |nil=>
  have:aH 0 b=true:=by unfold aH;simp
  show both (some []) (aG (aH 0 b) (some []))=aG (aH 0 b) (some []);rw [this];unfold both;simp [aG]
 |cons x l=>show aG (aH (0+(l.length+1)) b) _=_;rw [ig];rfl
section
variable {X : Cx} {R : Type} {r : R} {K : cC R} {T : aC} {fr : Fr} {st : aD} {g : GK} {d : Tmp} {ρ : ay} {Φ : Ctx} {w : World} {ty : TypeId} {pos : String} {af : x8} {gd : v7}
def ahG(X:Cx)(st:aD)(d:Tmp)(t:TypeId)(K:cC R):Option R:=match Xm X.P t with
 |some p=>(match AG X.tys p.1 with
  |some k=>(match AG X.tys p.2 with
   |some v=>K { st with c:=st.c+1,E:=ct (some d) none (.mp st.c) st.E,G:= .mp st.c k v (some [])::st.G }
   |none=>none)
  |none=>none)
 |none=>none
theorem amC{t:TypeId}(f:st.low fr=true)(e:Sat (ab ρ T st.G++(ab ρ T fr.H++Φ)) w)(h:ahG X st d t K=some r):
  iI X.P T none (au ρ T st.E fr.F) ⟨some d,.makeMap t none,ty,pos,af,gd⟩ w (aV r K T fr st none (some d) ρ Φ):=by
 unfold ahG at h;split at h
 .rename_i p hp;split at h
  .rename_i k g;split at h
   .rename_i v hv;have c:kS X.P (au ρ T st.E fr.F) ⟨some d,.makeMap t none,ty,pos,af,none⟩ w (.map (some w.heap.size)) (w.alloc (.map #[] 0)):=λn a i=>by simp [execOp,Instr.makeMap]
    refine .none_ (bE.gd (bE.mA c (aV.push (x:={ cO with m:=some w.heap.size }) f h (by simp only [AV.val,ay.bA]) ?_)));simp only [Row.item,ay.bA];exact e.push (ei _ _) (λb hb=>by
     have:b=w.heap.size:=by simpa [omap,HS] using hb
     subst this;exact ⟨by show _<(w.heap.push _).size;simp,bb _⟩) (λM' m=> .inr ⟨_,#[],0,[],rfl,rfl,by show (w.heap.push _)[w.heap.size]? =_;simp,rfl⟩)
   .cases h
  .cases h
 .cases h
def agS(X:Cx)(T:aC)(fr:Fr)(st:aD)(t:TypeId)(x y z:Operand)(K:cC R):Option R:=match Xm X.P t with
 |some p=>(match br T st.E fr.F none x with
  |some (.mp id)=>(match mG (ahb id) st.G with
   |some (j,.mp _ k v md)=>(match br T st.E fr.F none y with
    |some kv=>(match br T st.E fr.F none z with
     |some vv=>(match ady k kv with
      |some key=>(match ady v vv with
       |some val=>aA ( aiw X.P p.1 k ) ( md.bind λl=>K { st with G:=st.G.set j (.mp id k v (some (lR l key val))) } ) none
       |none=>none)
      |none=>none)
     |none=>none)
    |none=>none)
   |_=>none)
  |_=>none)
 |none=>none
theorem al6{t:TypeId}{y z:Operand}(n:Sat (ab ρ T st.G++(ab ρ T fr.H++Φ)) w)(h:agS X T fr st t x y z K=some r):
  iI X.P T none (au ρ T st.E fr.F) ⟨none,.mapUpdate t x y z,ty,pos,af,gd⟩ w (aV r K T fr st none none ρ Φ):=by
 unfold agS at h;split at h
 .rename_i p hp;split at h
  .rename_i id hx;split at h
   .rename_i j g k v md D;split at h
    .rename_i Q u;split at h
     .rename_i O s;split at h
      .rename_i key f;split at h
       next val e=>obtain ⟨M,L⟩:=aI h;obtain ⟨l,i,J⟩:=Ac L;subst i;obtain ⟨q,N⟩:=kO D;have:g=id:=ah N;subst this;have d:=bF (ρ:=ρ) hx;have c:=bF (ρ:=ρ) u;have a:=bF (ρ:=ρ) s;simp only [AV.val] at d;rw [Xi f] at c;rw [Xi e] at a;have hi:=fj (ρ:=ρ) (T:=T) (Φ:=ab ρ T fr.H++Φ) q;obtain ⟨w',B,I,A,o⟩:=Wv (P:=X.P) (E:=au ρ T st.E fr.F) (w:=w) (ty:=ty) (pos:=pos) (af:=af) (WS M) (wi hp) d c a (n.omap hi);refine .none_ (bE.gd (bE.aiC B (aV.iB (av:= .raw undef) J (bb _) rfl (by simp only [AV.val]) ?_)));have C:j<st.G.length:=(List.getElem?_eq_some_iff.1 q).1;show Sat (ab ρ T (st.G.set j _)++_) _;rw [eV C];exact n.ng hi I (λb hb=>⟨o.lt b hb,.inl hb⟩) (λM' m _=>o)
       .cases h
      .cases h
     .cases h
    .cases h
   .cases h
  .cases h
 .cases h
def amK(X:Cx)(T:aC)(fr:Fr)(st:aD)(d:Tmp)(t:TypeId)(x:Operand)(K:cC R):Option R:=match br T st.E fr.F none x with
 |some (.str s)=>aA ( isStr X.P t ) ( K { st with c:=st.c+1,E:=ct (some d) none (.ptr st.c 0) st.E,G:= .it st.c s 0::st.G } ) none
 |_=>none
theorem aoe{t:TypeId}(g:st.low fr=true)(f:Sat (ab ρ T st.G++(ab ρ T fr.H++Φ)) w)(h:amK X T fr st d t x K=some r):
  iI X.P T none (au ρ T st.E fr.F) ⟨some d,.range t x,ty,pos,af,gd⟩ w (aV r K T fr st none (some d) ρ Φ):=by
 unfold amK at h;split at h
 .rename_i s hx;obtain ⟨k,j⟩:=aI h;have c:=bF (ρ:=ρ) hx;simp only [AV.val] at c;have e:kS X.P (au ρ T st.E fr.F) ⟨some d,.range t x,ty,pos,af,none⟩ w (.pointer (some ⟨w.heap.size,0,none⟩)) (w.alloc (.stringIter ⟨s.toArray⟩ 0)):=λn' a i=>by simp [execOp,c n' a i rfl,Instr.range,run_underlying (ou k),S]
  refine .none_ (bE.gd (bE.mA e (aV.push (x:={ cO with b:=w.heap.size }) g j (by simp only [AV.val,ay.bA]) ?_)));simp only [Row.item,ay.bA];exact f.push (ei _ _) (λb hb=>by
   have:b=w.heap.size:=by simpa [iter] using hb
   subst this;simp) (λ_ _=>heap_alloc_new w _)
 .cases h
def ams(T:aC)(fr:Fr)(st:aD)(d:Tmp)(x:Operand)(K:cC R):Option R:=match br T st.E fr.F none x with
 |some (.ptr id 0)=>(match mG (apK id) st.G with
  |some (j,.it _ s p)=>cond (decide (p<s.length)) (K { st with E:=ct (some d) none (.tuple [.bool true,.int .i64 (p:Int),.int .i32 (B2 s p)]) st.E,G:=st.G.set j (.it id s (nk s p)) })
   (K { st with E:=ct (some d) none (.tuple [.bool false]) st.E })
  |_=>none)
 |_=>none
theorem aoN(o:Sat (ab ρ T st.G++(ab ρ T fr.H++Φ)) w)(h:ams T fr st d x K=some r):
  iI X.P T none (au ρ T st.E fr.F) ⟨some d,.next x true,ty,pos,af,gd⟩ w (aV r K T fr st none (some d) ρ Φ):=by
 unfold ams at h;split at h
 .rename_i id hx;split at h
  .rename_i j e s p m;obtain ⟨B,I⟩:=kO m;have:e=id:=ah I;subst this;have g:=bF (ρ:=ρ) hx;simp only [AV.val] at g;have hi:=fj (ρ:=ρ) (T:=T) (Φ:=ab ρ T fr.H++Φ) B;have y:Um w (ρ e).b s p:=o.iter hi;have A:(getObj (ρ e).b).run X.P w= .ok (.stringIter ⟨s.toArray⟩ p) w:=by simp only [getObj,Sem.run];rw [y]
   rcases su h with ⟨q,z⟩|⟨q,z⟩
   .have k:p<s.length:=by simpa using q
    have u:=(Array.getElem?_eq_some_iff.1 y).1;have n:Um { w with heap:=w.heap.setIfInBounds (ρ e).b (.stringIter ⟨s.toArray⟩ (nk s p)) } (ρ e).b s (nk s p):=by show (w.heap.setIfInBounds (ρ e).b _)[(ρ e).b]? =_;rw [qR u]
    have D:jw [(ρ e).b] w { w with heap:=w.heap.setIfInBounds (ρ e).b (.stringIter ⟨s.toArray⟩ (nk s p)) }:=⟨rfl,rfl,rfl,by show w.heap.size<=(w.heap.setIfInBounds (ρ e).b _).size;simp,λc _ v=>by
     show (w.heap.setIfInBounds (ρ e).b _)[c]? =_;have t:c≠(ρ e).b:=by simpa using v
     rw [qq (Ne.symm t)]⟩
    have l:(setObj (ρ e).b (.stringIter ⟨s.toArray⟩ (nk s p))).run X.P w= .ok () { w with heap:=w.heap.setIfInBounds (ρ e).b (.stringIter ⟨s.toArray⟩ (nk s p)) }:=by simp only [setObj,Sem.run];rw [y]
    have i:p<(⟨s.toArray⟩:ByteArray).size:=by rw [kA];exact k
    have J:nk s p=p+(Utf8.decode ⟨s.toArray⟩ p).2:=rfl;have f:kS X.P (au ρ T st.E fr.F) ⟨some d,.next x true,ty,pos,af,none⟩ w (.tuple #[.bool true,.int .i64 (p:Int),.int .i32 (B2 s p)]) { w with heap:=w.heap.setIfInBounds (ρ e).b (.stringIter ⟨s.toArray⟩ (nk s p)) }:=λn' a m=>by rw [J] at l ⊢;simp only [execOp,g n' a m rfl,Instr.next,Sem.run_bind,A,Result.andThen_ok,hW i,Sem.run_pure,l,goInt];rfl
    refine .none_ (bE.gd (bE.mA f (aV.iB (av:= .tuple [.bool true,.int .i64 (p:Int),.int .i32 (B2 s p)]) z (bb _) rfl (by simp only [AV.val,AV.ao]) ?_)));have C:j<st.G.length:=(List.getElem?_eq_some_iff.1 B).1;show Sat (ab ρ T (st.G.set j _)++_) _;rw [eV C];exact o.ng hi D (λc hc=>by
     have:c=(ρ e).b:=by simpa [Row.item,Go.Proofs.YtkedhpmpejhekaaGreatDoor.iter] using hc
     subst this;exact ⟨(Array.getElem?_eq_some_iff.1 n).1,.inl (by simp [Row.item,Go.Proofs.YtkedhpmpejhekaaGreatDoor.iter])⟩) (λ_ _ _=>n)
   .have k:¬p<s.length:=by simpa using q
    have f:kS X.P (au ρ T st.E fr.F) ⟨some d,.next x true,ty,pos,af,none⟩ w (.tuple #[.bool false]) w:=λn' a m=>by
     have i:¬p<(⟨s.toArray⟩:ByteArray).size:=by rw [kA];exact k
     simp only [execOp,g n' a m rfl,Instr.next,Sem.run_bind,A,Result.andThen_ok,gx i,Sem.run_pure]
    exact .none_ (bE.gd (bE.mA f (aV.iB (av:= .tuple [.bool false]) z (bb _) rfl (by simp only [AV.val,AV.ao]) o)))
  .cases h
 .cases h
def ame(X:Cx)(T:aC)(fr:Fr)(st:aD)(g:GK)(d:Tmp)(s dt:TypeId)(x:Operand)(K:cC R):Option R:=match br T st.E fr.F g x with
 |some (.str l)=>aA ( isStr X.P s ) ( match eR X.P dt with
  |some e=>(match Yu X.P e with
   |some .u8=>K { st with c:=st.c+1,E:=ct (some d) g (.sl st.c) st.E,G:= .sli g st.c (.i .u8) (ba l) false::st.G }
   |_=>none)
  |none=>none ) none
 |_=>none
theorem aop{s k:TypeId}(i:st.low fr=true)(c:Sat (ab ρ T st.G++(ab ρ T fr.H++Φ)) w)(h:ame X T fr st g d s k x K=some r):
  iI X.P T g (au ρ T st.E fr.F) ⟨some d,.convert s k x,ty,pos,af,gd⟩ w (aV r K T fr st g (some d) ρ Φ):=by
 unfold ame at h;split at h
 .rename_i l hx;obtain ⟨z,b⟩:=aI h;split at b
  .rename_i e t;split at b
   .rename_i q;have a:=aR (ρ:=ρ) hx;simp only [AV.val] at a;refine ⟨λf=>?_,λf=>?_⟩
    .rw [f] at a;obtain ⟨A,w',m,y,o,u⟩:=alR (P:=X.P) (E:=au ρ T st.E fr.F) (w:=w) (dst:=some d) (ty:=ty) (pos:=pos) (af:=af) (ou z) (bT t) (GB q) a;have j:=u (Ctx.M (ab ρ T st.G++(ab ρ T fr.H++Φ))) (λn=>by have:=c.lt n;omega);obtain ⟨p,rfl⟩:=j.lC;refine bE.gd (bE.mA m (aV.push (x:={ cO with v:=p }) i b (by simp only [AV.val,ay.bA]) ((c.ext y).add rfl ?_)));simp only [Row.item,ay.bA];exact λ_=>⟨j,λhb=>by cases hb⟩
    .exact ⟨_,aV.push (x:=cO) i b rfl (c.add rfl λh=>by rw [f] at h;cases h)⟩
   .cases b
  .cases b
 .cases h
def amf(X:Cx)(T:aC)(fr:Fr)(st:aD)(d:Tmp)(op:BinOp)(t:TypeId)(x y:Operand)(K:cC R):Option R:=match eR X.P t with
 |some _=>(match br T st.E fr.F none x with
  |some (.sl id)=>(match br T st.E fr.F none y with
   |some (.raw (.slice none 0 0))=>(match Ya st.G fr.H id with
    |some ⟨none,_,l⟩=>(match op with
     | .eql=>wK l (K { st with E:=ct (some d) none (.bool true) st.E }) (K { st with E:=ct (some d) none (.bool false) st.E })
     | .neq=>wK l (K { st with E:=ct (some d) none (.bool false) st.E }) (K { st with E:=ct (some d) none (.bool true) st.E })
     |_=>none)
    |_=>none)
   |_=>none)
  |_=>none)
 |none=>none
theorem aoQ{op:BinOp}{t t':TypeId}{y:Operand}(m:Sat (ab ρ T st.G++(ab ρ T fr.H++Φ)) w)(h:amf X T fr st d op t x y K=some r):
  iI X.P T none (au ρ T st.E fr.F) ⟨some d,.binOp op t x y t',ty,pos,af,gd⟩ w (aV r K T fr st none (some d) ρ Φ):=by
 unfold amf at h;split at h
 .rename_i e p;split at h
  .rename_i id hx;split at h
   .rename_i q;split at h
    .rename_i u l i;have g:=bF (ρ:=ρ) hx;have f:=bF (ρ:=ρ) q;simp only [AV.val] at g f;have c:=V0 m i aC.get_none;have a:(wP (sl (ρ id).v)=true/\l=[])\/wP (sl (ρ id).v)=false:=by
      rcases aa1 m i aC.get_none with s|⟨e',z⟩
      .rcases aeK s with ⟨n,A⟩|n
       .exact .inl ⟨by rw [n];rfl,A⟩
       .exact .inr n
      .exact ad1 z
     have mk:∀b:Bool,K { st with E:=ct (some d) none (.bool b) st.E }=some r->aV r K T fr st none (some d) ρ Φ (.bool b) w:=λb hb=>aV.iB (av:= .bool b) hb (bb _) rfl (by simp only [AV.val]) m;split at h
     .obtain ⟨k,j⟩:=X8 h;refine .none_ (bE.gd (bE.run (aeq (bT p) g c f) ?_));rcases a with ⟨c1,o⟩|c1
      .rw [c1];exact mk _ (j o)
      .rw [c1];exact mk _ k
     .obtain ⟨k,j⟩:=X8 h;refine .none_ (bE.gd (bE.run (aed (bT p) g c f) ?_));rcases a with ⟨c1,o⟩|c1
      .rw [c1];exact mk _ (j o)
      .rw [c1];exact mk _ k
     .cases h
    .cases h
   .cases h
  .cases h
 .cases h
def Wd(i:Int)(m:Nat)(k:Nat->Option R):Nat->Nat->Option R
 |0,_=>none
 |n+1,j=>cond (i==(j:Int)) (k (j*m)) (Wd i m k n (j+1))
theorem Du{i:Int}{m:Nat}{k:Nat->Option R}:∀{n j:Nat},Wd i m k n j=some r->∃q,j<=q/\q<j+n/\i=(q:Int)/\k (q*m)=some r
 |0,j,h=>by cases h
 |n+1,j,h=>by
  unfold Wd at h;rcases su h with ⟨d,a⟩|⟨_,a⟩
  .exact ⟨j,bb _,by omega,by simpa using d,a⟩
  .obtain ⟨q,f,e,c,b⟩:=Du a;exact ⟨q,by omega,by omega,c,b⟩
end
def ew:List Ty->Type
 |[]=>Unit
 |[t]=>t.T
 |t::u::ts=>t.T×ew (u::ts)
def fM:(ts:List Ty)->ew ts->List bY
 |[],_=>[]
 |[t],x=>[⟨t,x⟩]
 |t::u::ts,x=>⟨t,x.1⟩::fM (u::ts) x.2
def cB:(ts:List Ty)->List bY->Option (ew ts)
 |[],D=>(match D with
  |[]=>some ()
  |_=>none)
 |[t],D=>(match D with
  |[d]=>d.as t
  |_=>none)
 |t::u::ts,D=>(match D with
  |d::D=>(match d.as t with
   |some x=>(match cB (u::ts) D with
    |some y=>some (x,y)
    |none=>none)
   |none=>none)
  |_=>none)
theorem AL:(a:List Ty)->{D:List bY}->{s:ew a}->cB a D=some s->fM a s=D
 |[],D,s,h=>by
  unfold cB at h;split at h
  .rfl
  .cases h
 |[t],D,s,h=>by
  match D,h with
  |[d],h=>rw [bY.No (t:=t) (d:=d) (x:=s) h];rfl
  |[],h=>cases h
  |_::_::_,h=>cases h
 |t::u::a,D,s,h=>by
  unfold cB at h;split at h
  .rename_i d c;split at h
   .rename_i x hx;split at h
    next y b=>cases h;show ⟨t,x⟩::fM (u::a) y=_;rw [AL (u::a) b,bY.No hx]
    .cases h
   .cases h
  .cases h
def ahf:(ts:List Ty)->ew ts
 |[]=>()
 |[t]=>t.oG
 |t::u::ts=>(t.oG,ahf (u::ts))
mutual
def lQ:Pt->List Ty
 | .int k=>[.i k]
 | .bool=>[.bo]
 | .str=>[.s]
 | .sli t=>[.l t]
 | .own t _ _=>[.l t]
 | .bx _ _ _ vs=>my vs
 | .mp k v _=>[.mp k v]
 | .it=>[.s,.n]
 | .agg l=>my l
 | .cB l=>my l
 | .fn _ a b=>my a++my b
 | .ifc _ p=>lQ p
 | .dat t _=>[t]
 | .ifn=>[.n]
 | .sfp=>[.bo]
 | .sty p=>lQ p
 |_=>[]
def my:List Pt->List Ty
 |[]=>[]
 |p::l=>lQ p++my l
end
def gr:List (Bool×Nat×Pt)->List Ty
 |[]=>[]
 |x::l=>lQ x.2.2++gr l
abbrev Fx:=Option (Value×xu)
def vg(fx:Fx)(v:Value):Prop:= ∀p,fx=some p->v=p.1
def fxC(fx:Fx):xu:=match fx with
 |some p=>p.2
 |none=>[]
def M5:Pt->Bool
 | .agg _=>true
 | .fn _ _ _=>true
 | .ifc _ _=>true
 |_=>false
def fx1(p:Pt)(fxs:xu):Fx:=match fxs with
 |[]=>none
 |u::_=>aA (M5 p) none (some (u,[]))
abbrev eI:=List (Bool×Item)
abbrev jh:=List (Nat×xu)
def oe(e:Nat):Nat:=e/2
def ow(e:Nat):Bool:=Nat.beq (e%2) 1
def Sd:(t:Ty)->t.T->xu->vB->List Nm->eI->List Nm->vB->Prop
 | .i k,x,cs,o,N,I,N',o'=>cs=[.int k x]/\I=[]/\N'=N/\o'=o
 | .bo,x,cs,o,N,I,N',o'=>cs=[.bool x]/\I=[]/\N'=N/\o'=o
 | .s,x,cs,o,N,I,N',o'=>cs=[S x]/\I=[]/\N'=N/\o'=o
 | .un,_,cs,o,N,I,N',o'=>cs=[]/\I=[]/\N'=N/\o'=o
 | .p a b,x,cs,o,N,I,N',o'=>∃c1 c2 N1 I1 I2 o1,Sd a x.1 c1 o N I1 N1 o1/\Sd b x.2 c2 o1 N1 I2 N' o'/\cs=c1++c2/\I=I1++I2
 | .l t,x,cs,o,N,I,N',o'=>∃a:Nm,cs=[sl a.v]/\N'=N++[a]/\((o=none::o'/\I=[(false,Fk true t.rep a.v x false)])\/∃e,o=some e::o'/\I=[(ow e,mQ t.rep (oe e) a.v x True)]/\a.y=⟨.l t,x⟩)
 | .ex,x,cs,o,N,I,N',o'=>∃a:Nm,cs=[.int .i64 x.op,.int .i64 x.n,.int .i64 x.at_,sl a.v]/\N'=N++[a]/\((o=none::o'/\I=[(false,Fk true IK a.v x.l false)])\/∃e,o=some e::o'/\I=[(ow e,mQ IK (oe e) a.v x.l True)]/\a.y=⟨.l .ex,x.l⟩)
 |_,_,_,_,_,_,_,_=>False
mutual
def Sem:Pt->Value->Fx->Option Value->List Nm->List bY->eI->jh->List Nm->Prop
 | .int k,v,_,_,N,D,I,X,N'=>∃x,v= .int k x/\D=[⟨.i k,x⟩]/\I=[]/\X=[]/\N'=N
 | .bool,v,_,_,N,D,I,X,N'=>∃x,v= .bool x/\D=[⟨.bo,x⟩]/\I=[]/\X=[]/\N'=N
 | .str,v,_,_,N,D,I,X,N'=>∃x,v=S x/\D=[⟨.s,x⟩]/\I=[]/\X=[]/\N'=N
 | .sli t,v,_,_,N,D,I,X,N'=>∃(a:Nm) (l:List t.T),v=sl a.v/\D=[⟨.l t,l⟩]/\I=[(false,Fk true t.rep a.v l false)]/\X=[]/\N'=N++[a]
 | .own t e m,v,fx,_,N,D,I,X,N'=>∃(a:Nm) (l:List t.T),v=sl a.v/\vg fx v/\D=[⟨.l t,l⟩]/\I=[(m,mQ t.rep e a.v l True)]/\X=[]/\N'=N++[a]/\a.y=⟨.l t,l⟩
 | .slr n,v,_,_,N,D,I,X,N'=>∃a:Nm,N[n]? =some a/\v=sl a.v/\D=[]/\I=[]/\X=[]/\N'=N
 | .bx t off m vs,v,fx,_,N,D,I,X,N'=>∃(a:Nm) (cs:xu) (I':eI) (X':jh),v= .pointer (some ⟨a.b,off,none⟩)/\vg fx v/\tT vs cs [] (fxC fx) (N++[a]) D I' X' N'/\I=(m,box a.b t cs)::I'/\X=(aA m [(N.length,cs)] [])++X'
 | .ptr n off,v,_,_,N,D,I,X,N'=>∃a:Nm,N[n]? =some a/\v= .pointer (some ⟨a.b,off,none⟩)/\D=[]/\I=[]/\X=[]/\N'=N
 | .mp k u m,v,fx,_,N,D,I,X,N'=>∃(a:Nm) (d:Option (List (k.T×u.T))),v= .map a.m/\vg fx v/\D=[⟨.mp k u,d⟩]/\I=[(m,omap (Fs k) (Fs u) (.map a.m) d)]/\X=[]/\N'=N++[a]
 | .it,v,fx,_,N,D,I,X,N'=>∃(a:Nm) (s:aB) (p:Nat),v= .pointer (some ⟨a.b,0,none⟩)/\vg fx v/\D=[⟨.s,s⟩,⟨.n,p⟩]/\I=[(true,iter a.b s p)]/\X=[]/\N'=N++[a]
 | .agg l,v,fx,_,N,D,I,X,N'=>∃cs:xu,v= .agg cs.toArray/\vg fx v/\tT l cs (aA fx.isSome cs []) [] N D I X N'
 | .cB l,v,_,_,N,D,I,X,N'=>∃cs:xu,v= .tuple cs.toArray/\tT l cs [] [] N D I X N'
 | .fn f a b,v,fx,_,N,D,I,X,N'=>∃(us vs:xu) (D1 D2:List bY) (I1 I2:eI) (X1 X2:jh) (N1:List Nm),v= .func (.func f) us.toArray vs.toArray/\vg fx v/\tT a us [] [] N D1 I1 X1 N1/\tT b vs (aA fx.isSome vs []) [] N1 D2 I2 X2 N'/\D=D1++D2/\I=I1++I2/\X=X1++X2
 | .ifc t p,v,fx,_,N,D,I,X,N'=>∃u,v= .iface t u/\vg fx v/\Sem p u (fx1 p (aA fx.isSome [u] [])) none N D I X N'
 | .jg c,v,_,_,N,D,I,X,N'=>(v=c.val (λ_=>cO)/\∀ρ,c.val ρ=c.val (λ_=>cO))/\D=[]/\I=[]/\X=[]/\N'=N
 | .dat t o,v,_,_,N,D,I,X,N'=>∃(cs:xu) (x:t.T) (o':vB),v= .agg cs.toArray/\D=[⟨t,x⟩]/\Sd t x cs o N I N' o'/\X=[]
 | .ifn,v,_,_,N,D,I,X,N'=>∃x:Nat,v= .iface x (.agg #[])/\D=[⟨.n,x⟩]/\I=[]/\X=[]/\N'=N
 | .sfp,v,_,_,N,D,I,X,N'=>∃(a:Nm) (f:Bool),N[N.length-1]? =some a/\v=AD f a.b/\D=[⟨.bo,f⟩]/\I=[]/\X=[]/\N'=N
 | .sty p,v,fx,sm,N,D,I,X,N'=>fx=none/\sm=some v/\M5 p=false/\Sem p v (some (v,[])) none N D I X N'
 | .same,v,fx,sm,N,D,I,X,N'=>((∃p,fx=some p/\v=p.1)\/(fx=none/\sm=some v))/\D=[]/\I=[]/\X=[]/\N'=N
def tT:List Pt->xu->xu->xu->List Nm->List bY->eI->jh->List Nm->Prop
 |[],vs,_,_,N,D,I,X,N'=>vs=[]/\D=[]/\I=[]/\X=[]/\N'=N
 |p::l,vs,fxs,sms,N,D,I,X,N'=>∃(v:Value) (vs':xu) (D1 D2:List bY) (I1 I2:eI) (X1 X2:jh) (N1:List Nm),vs=v::vs'/\Sem p v (fx1 p fxs) sms.head? N D1 I1 X1 N1/\tT l vs' fxs.tail sms.tail N1 D2 I2 X2 N'/\D=D1++D2/\I=I1++I2/\X=X1++X2
end
def EH(fix:Nat->Fx)(val:Nat->Option Value):List (Bool×Nat×Pt)->List Nm->List bY->eI->jh->List Nm->Prop
 |[],N,D,I,X,N'=>D=[]/\I=[]/\X=[]/\N'=N
 |x::l,N,D,I,X,N'=>∃(v:Value) (D1 D2:List bY) (I1 I2:eI) (X1 X2:jh) (N1:List Nm),(aA x.1 ((fix x.2.1).map (·.1)) (val x.2.1))=some v/\Sem x.2.2 v (aA x.1 (fix x.2.1) none) none N D1 I1 X1 N1/\EH fix val l N1 D2 I2 X2 N'/\D=D1++D2/\I=I1++I2/\X=X1++X2
mutual
def AV.same:AV->AV->Bool
 | .fn f a b,v=>(match v with
  | .fn f' a' b'=>Nat.beq f f'&&AV.M3 a a'&&AV.M3 b b'
  |_=>false)
 | .tuple l,v=>(match l with
  |[]=>(match v with
   | .tuple l=>l.isEmpty
   |_=>false)
  |_=>false)
 | .int k x,v=>(match v with
  | .int k' x'=>fy k k'&&(x==x')
  |_=>false)
 | .raw u,v=>(match v with
  | .raw u'=>(match u,u' with
   | .slice none m n,.slice none m' n'=>Nat.beq m m'&&Nat.beq n n'
   | .pointer none,.pointer none=>true
   | .nilFunc,.nilFunc=>true
   | .nilIface,.nilIface=>true
   | .map none,.map none=>true
   |_,_=>false)
  |_=>false)
 |_,_=>false
def AV.M3:List AV->List AV->Bool
 |[],l'=>l'.isEmpty
 |v::l,l'=>(match l' with
  |v'::l'=>AV.same v v'&&AV.M3 l l'
  |[]=>false)
end
mutual
theorem AV.Hq{ρ ρ':ay}:(v:AV)->(c:AV)->AV.same v c=true->c.val ρ'=v.val ρ
 | .fn f a b,c,h=>by
  unfold AV.same at h;split at h
  next g e d=>simp only [ae] at h;simp only [AV.val];rw [ah h.1.1,AV.LU a e h.1.2,AV.LU b d h.2]
  .cases h
 | .tuple l,c,h=>by
  unfold AV.same at h;split at h
  .split at h
   .rename_i l';have:l'=[]:=by simpa using h
    subst this;simp only [AV.val,AV.ao]
   .cases h
  .cases h
 | .raw u,c,h=>by
  unfold AV.same at h;split at h
  .rename_i u';split at h
   .simp only [ae] at h;simp only [AV.val];rw [ah h.1,ah h.2]
   .simp only [AV.val]
   .simp only [AV.val]
   .simp only [AV.val]
   .simp only [AV.val]
   .cases h
  .cases h
 | .int k x,c,h=>by
  unfold AV.same at h;split at h
  .simp only [ae] at h;simp only [AV.val];rw [gB h.1,eq_of_beq h.2]
  .cases h
 | .bool _,c,h|.str _,c,h|.agg _,c,h|.ptr _ _,c,h|.sl _,c,h|.adr _ _,c,h|.ifc _ _,c,h|.mp _,c,h|.gp _,c,h|.nv _,c,h|.sfp _ _,c,h|.bs _ _,c,h=>by unfold AV.same at h;cases h
theorem AV.LU{ρ ρ':ay}:(l:List AV)->(l':List AV)->AV.M3 l l'=true->AV.ao ρ' l'=AV.ao ρ l
 |[],l',h=>by
  unfold AV.M3 at h;have:l'=[]:=by simpa using h
  subst this;rfl
 |v::l,l',h=>by
  unfold AV.M3 at h;split at h
  next a l'=>simp only [ae] at h;simp only [AV.ao];rw [AV.Hq v a h.1,AV.LU l l' h.2]
  .cases h
end
structure MR where
 B:wv
 S:List (Bool×Src)
 D:List bY
 X:List (Nat×List AV)
def adJ(G H:List Row)(t:Ty)(v:AV):Option (x4×Src×List t.T):=match v with
 | .sl j=>(match dJ G H (lC j) with
  |some (s,.sli none _ t' l _)=>(match pP.bY.asL t ⟨.l t',l⟩ with
   |some l=>some (some j,s,l)
   |none=>none)
  |_=>none)
 | .raw (.slice none 0 0)=>some (none,.nilI t,[])
 |_=>none
def acQ(G H:List Row)(t:Ty)(e:TypeId)(v:AV):Option (x4×Src×List t.T):=match v with
 | .sl j=>(match dJ G H (lC j) with
  |some (s,.own _ t' e' l _)=>aA ( Nat.beq e e' ) ( match pP.bY.asL t ⟨.l t',l⟩ with
   |some l=>some (some j,s,l)
   |none=>none
   ) none
  |_=>none)
 | .raw (.slice none 0 0)=>some (none,.nilO t e,[])
 |_=>none
structure DR(t:Ty) where
 x:t.T
 vs:List AV
 o:vB
 B:wv
 S:List (Bool×Src)
def wg(G H:List Row):(t:Ty)->List AV->vB->wv->Option (DR t)
 | .i k,vs,o,B=>(match vs with
  | .int k' x::vs=>aA ( fy k k' ) ( some ⟨x,vs,o,B,[]⟩ ) none
  |_=>none)
 | .bo,vs,o,B=>(match vs with
  | .bool x::vs=>some ⟨x,vs,o,B,[]⟩
  |_=>none)
 | .s,vs,o,B=>(match vs with
  | .str x::vs=>some ⟨x,vs,o,B,[]⟩
  |_=>none)
 | .un,vs,o,B=>some ⟨(),vs,o,B,[]⟩
 | .p a b,vs,o,B=>(match wg G H a vs o B with
  |some d=>(match wg G H b d.vs d.o d.B with
   |some e=>some ⟨(d.x,e.x),e.vs,e.o,e.B,d.S++e.S⟩
   |none=>none)
  |none=>none)
 | .l t,vs,o,B=>(match vs with
  |v::vs=>(match o with
   |none::o=>(match adJ G H t v with
    |some q=>some ⟨q.2.2,vs,o,B++[q.1],[(false,q.2.1)]⟩
    |none=>none)
   |some e::o=>(match acQ G H t (oe e) v with
    |some q=>some ⟨q.2.2,vs,o,B++[q.1],[(ow e,q.2.1)]⟩
    |none=>none)
   |[]=>none)
  |[]=>none)
 | .ex,vs,o,B=>(match vs with
  | .int .i64 a:: .int .i64 b:: .int .i64 c::v::vs=>(match o with
   |none::o=>(match adJ G H .ex v with
    |some q=>some ⟨Ex.mk a b c q.2.2,vs,o,B++[q.1],[(false,q.2.1)]⟩
    |none=>none)
   |some e::o=>(match acQ G H .ex (oe e) v with
    |some q=>some ⟨Ex.mk a b c q.2.2,vs,o,B++[q.1],[(ow e,q.2.1)]⟩
    |none=>none)
   |[]=>none)
  |_=>none)
 |_,_,_,_=>none
def QU:x4->x4->Bool
 |some a,some b=>Nat.beq a b
 |none,none=>true
 |_,_=>false
theorem an7{a b:x4}(h:QU a b=true):a=b:=by
 unfold QU at h;split at h
 .rw [ah h]
 .rfl
 .cases h
abbrev gz:=Option (AV×List AV)
def mf(p:Pt)(fxs:List AV):gz:=match fxs with
 |[]=>none
 |u::_=>aA (M5 p) none (some (u,[]))
def mX(p:Pt)(fx:gz):Bool:=match p with
 | .agg _=>(match fx with
  |some (.agg _,_)=>true
  |some _=>false
  |none=>true)
 | .fn _ _ _=>(match fx with
  |some (.fn _ _ _,_)=>true
  |some _=>false
  |none=>true)
 | .ifc _ _=>(match fx with
  |some (.ifc _ _,_)=>true
  |some _=>false
  |none=>true)
 |_=>true
def fW(fx:gz):List AV:=match fx with
 |some (.agg us,_)=>us
 |some (.fn _ _ b,_)=>b
 |some (.ifc _ u,_)=>[u]
 |_=>[]
def HD(fx:gz):List AV:=match fx with
 |some p=>p.2
 |none=>[]
def nvs(v:AV)(fx:gz)(sm:Option AV):Bool:=match fx with
 |some _=>true
 |none=>(match sm with
  |some (.nv u)=>(match v with
   | .nv w=>Nat.beq u w
   |_=>false)
  |_=>false)
def ak6:AV->AV->Bool
 | .ptr a b,.ptr c d=>Nat.beq a c&&Nat.beq b d
 |_,_=>false
theorem aoT{u v:AV}(h:ak6 u v=true):u=v:=by
 unfold ak6 at h;split at h
 .simp only [ae] at h;rw [ah h.1,ah h.2]
 .cases h
def ab7:Pt->Bool
 | .same=>true
 |_=>false
mutual
def mt(G H:List Row):Pt->AV->gz->Option AV->wv->Option MR
 | .int k,v,_,_,B=>(match v with
  | .int k' x=>aA (fy k k') (some ⟨B,[],[⟨.i k,x⟩],[]⟩) none
  |_=>none)
 | .bool,v,_,_,B=>(match v with
  | .bool x=>some ⟨B,[],[⟨.bo,x⟩],[]⟩
  |_=>none)
 | .str,v,_,_,B=>(match v with
  | .str x=>some ⟨B,[],[⟨.s,x⟩],[]⟩
  |_=>none)
 | .sli t,v,_,_,B=>(match adJ G H t v with
  |some q=>some ⟨B++[q.1],[(false,q.2.1)],[⟨.l t,q.2.2⟩],[]⟩
  |none=>none)
 | .own t e m,v,_,_,B=>(match acQ G H t e v with
  |some q=>some ⟨B++[q.1],[(m,q.2.1)],[⟨.l t,q.2.2⟩],[]⟩
  |none=>none)
 | .slr n,v,_,_,B=>(match v with
  | .sl j=>aA (QU ((B[n]?).getD none) (some j)) (some ⟨B,[],[],[]⟩) none
  |_=>none)
 | .bx t off m vs,v,fx,_,B=>(match v with
  | .ptr j off'=>aA (Nat.beq off off') (match dJ G H (wZ j) with
   |some (s,.box _ t' cs)=>aA (Nat.beq t t') (match GQ G H vs cs [] (HD fx) (B++[some j]) with
     |some r=>some ⟨r.B,(m,s)::r.S,r.D,(aA m [(B.length,cs)] [])++r.X⟩
     |none=>none) none
   |_=>none) none
  |_=>none)
 | .ptr n off,v,_,_,B=>(match v with
  | .ptr j off'=>aA (Nat.beq off off'&&QU ((B[n]?).getD none) (some j)) (some ⟨B,[],[],[]⟩) none
  |_=>none)
 | .mp k u m,v,_,_,B=>(match v with
  | .mp j=>(match dJ G H (ahb j) with
   |some (s,.mp _ k' u' d)=>(match bY.as (.mp k u) ⟨.mp k' u',d⟩ with
    |some d=>some ⟨B++[some j],[(m,s)],[⟨.mp k u,d⟩],[]⟩
    |none=>none)
   |_=>none)
  | .raw (.map none)=>some ⟨B++[none],[(m,.nilM k u)],[⟨.mp k u,(none:Option (List (k.T×u.T)))⟩],[]⟩
  |_=>none)
 | .it,v,_,_,B=>(match v with
  | .ptr j 0=>(match dJ G H (apK j) with
   |some (s,.it _ x p)=>some ⟨B++[some j],[(true,s)],[⟨.s,x⟩,⟨.n,p⟩],[]⟩
   |_=>none)
  |_=>none)
 | .agg l,v,fx,_,B=>(match v with
  | .agg vs=>aA (mX (.agg l) fx) (GQ G H l vs (aA fx.isSome vs []) [] B) none
  |_=>none)
 | .cB l,v,_,_,B=>(match v with
  | .tuple vs=>GQ G H l vs [] [] B
  |_=>none)
 | .fn f a b,v,fx,_,B=>(match v with
  | .fn f' a' b'=>aA (Nat.beq f f'&&mX (.fn f a b) fx) (match GQ G H a a' [] [] B with
   |some r=>(match GQ G H b b' (aA fx.isSome b' []) [] r.B with
    |some q=>some ⟨q.B,r.S++q.S,r.D++q.D,r.X++q.X⟩
    |none=>none)
   |none=>none) none
  |_=>none)
 | .ifc t p,v,fx,_,B=>(match v with
  | .ifc t' u=>aA (Nat.beq t t'&&mX (.ifc t p) fx) (mt G H p u (mf p (aA fx.isSome [u] [])) none B) none
  |_=>none)
 | .jg c,v,_,_,B=>aA (AV.same c v) (some ⟨B,[],[],[]⟩) none
 | .dat t o,v,_,_,B=>(match v with
  | .agg cs=>(match wg G H t cs o B with
   |some ⟨x,[],_,B',S⟩=>some ⟨B',S,[⟨t,x⟩],[]⟩
   |_=>none)
  |_=>none)
 | .ifn,v,_,_,B=>(match v with
  | .ifc t (.agg [])=>some ⟨B,[],[⟨.n,t⟩],[]⟩
  |_=>none)
 | .sfp,v,_,_,B=>(match v with
  | .raw (.pointer none)=>(match B[B.length-1]? with
   |some _=>some ⟨B,[],[⟨.bo,false⟩],[]⟩
   |none=>none)
  | .sfp j f=>aA (QU ((B[B.length-1]?).getD none) (some j)) (some ⟨B,[],[⟨.bo,f⟩],[]⟩) none
  | .ptr j 0=>aA (QU ((B[B.length-1]?).getD none) (some j)) (some ⟨B,[],[⟨.bo,true⟩],[]⟩) none
  |_=>none)
 | .sty p,v,fx,sm,B=>(match fx with
  |some _=>none
  |none=>(match sm with
   |some u=>aA (ak6 (sf G H u) v&& !(M5 p)) (mt G H p v (some (v,[])) none B) none
   |none=>none))
 | .same,v,fx,sm,B=>aA (nvs v fx sm) (some ⟨B,[],[],[]⟩) none
def GQ(G H:List Row):List Pt->List AV->List AV->List AV->wv->Option MR
 |[],vs,_,_,B=>(match vs with
  |[]=>some ⟨B,[],[],[]⟩
  |_=>none)
 |p::l,vs,fxs,sms,B=>(match vs with
  |v::vs=>(match mt G H p (aA (ab7 p) v (sf G H v)) (mf p fxs) sms.head? B with
   |some r=>(match GQ G H l vs fxs.tail sms.tail r.B with
    |some q=>some ⟨q.B,r.S++q.S,r.D++q.D,r.X++q.X⟩
    |none=>none)
   |none=>none)
  |[]=>none)
end
def pr(fix:Nat->gz):List (Bool×Nat×Pt)->Bool
 |[]=>true
 |x::l=>mX x.2.2 (aA x.1 (fix x.2.1) none)&&pr fix l
theorem anY{G H:List Row}{p:Pt}{v:AV}{fx:gz}{a:Option AV}{B:wv}{r:MR}(h:mt G H p v fx a B=some r):mX p fx=true:=by
 cases p <;> first|rfl|skip
 .unfold mt at h;split at h
  .exact (aI h).1
  .cases h
 .unfold mt at h;split at h
  .have:=(aI h).1;simp only [ae] at this;exact this.2
  .cases h
 .unfold mt at h;split at h
  .have:=(aI h).1;simp only [ae] at this;exact this.2
  .cases h
def YA(G H:List Row)(look:Nat->Option AV)(fix:Nat->gz):List (Bool×Nat×Pt)->wv->Option MR
 |[],B=>some ⟨B,[],[],[]⟩
 |x::l,B=>(match (aA x.1 ((fix x.2.1).map (·.1)) (look x.2.1)) with
  |some v=>(match mt G H x.2.2 v (aA x.1 (fix x.2.1) none) none B with
   |some r=>(match YA G H look fix l r.B with
    |some q=>some ⟨q.B,r.S++q.S,r.D++q.D,r.X++q.X⟩
    |none=>none)
   |none=>none)
  |none=>none)
theorem abj{G H:List Row}{b:Nat->Option AV}{fix:Nat->gz}:{l:List (Bool×Nat×Pt)}->{B:wv}->{r:MR}->YA G H b fix l B=some r->pr fix l=true
 |[],_,_,_=>rfl
 |x::l,B,r,h=>by
  unfold YA at h;split at h
  .split at h
   .rename_i q c;split at h
    next d a=>simp only [pr,ae];exact ⟨anY c,abj a⟩
    .cases h
   .cases h
  .cases h
def bR(a b:Item):Prop:=(∀x,x∈b.own->x∈a.own)/\∀M w,a.P M w->b.P M w
theorem bR.refl{a:Item}:bR a a:=⟨λ_ h=>h,λ_ _ h=>h⟩
def ahr(ρ:ay)(T:aC)(G H:List Row)(s:Src)(it:Item):Prop:=
 (it.own=[]/\(∀M w,it.P M w)/\∀r,¬s.at_ G H r)\/∃r,s.at_ G H r/\bR (r.item ρ T) it/\(r.cG=true->it.own=[])/\(r.cG=false->bR it (r.item ρ T))
def SI(ρ:ay)(T:aC)(G H:List Row)(a:Bool×Src)(b:Bool×Item):Prop:=a.1=b.1/\ahr ρ T G H a.2 b.2
inductive eQ{α β:Type}(R:α->β->Prop):List α->List β->Prop
 |nil:eQ R [] []
 |cons {a b l m}:R a b->eQ R l m->eQ R (a::l) (b::m)
theorem eQ.length{α β:Type}{R:α->β->Prop}{l:List α}{m:List β}(h:eQ R l m):l.length=m.length:=by
 induction h with
 |nil=>rfl
 |cons _ _ ih=>simp [ih]
theorem eQ.append{α β:Type}{R:α->β->Prop}{l l':List α}{m a:List β}(h:eQ R l m)(k:eQ R l' a):eQ R (l++l') (m++a):=by
 induction h with
 |nil=>exact k
 |cons b _ ih=>exact .cons b ih
theorem eQ.get{α β:Type}{R:α->β->Prop}{l:List α}{m:List β}(h:eQ R l m):∀{i:Nat} {a:α},l[i]? =some a->∃b,m[i]? =some b/\R a b:=by
 induction h with
 |nil=>intro i a h;simp at h
 |cons c _ ih=>
  intro i a h;cases i with
  |zero=>simp at h;subst h;exact ⟨_,rfl,c⟩
  |succ i=>exact ih (by simpa using h)
def NBr(ρ:ay)(o:x4)(a:Nm):Prop:=match o with
 |some j=>a.b=(ρ j).b/\a.v=(ρ j).v/\a.m=(ρ j).m
 |none=>a.b=0/\a.v=(none,0,0)/\a.m=none
abbrev NB(ρ:ay)(B:wv)(N:List Nm):Prop:=eQ (NBr ρ) B N
theorem NB.at_{ρ:ay}{B:wv}{N:List Nm}(h:NB ρ B N){n j:Nat}(hb:QU ((B[n]?).getD none) (some j)=true):∃a,N[n]? =some a/\a.b=(ρ j).b/\a.v=(ρ j).v:=by
 have e:=an7 hb;cases c:B[n]? with
 |none=>rw [c] at e;cases e
 |some o=>
  rw [c] at e;simp only [qA] at e;subst e;obtain ⟨a,f,d⟩:=h.get c;exact ⟨a,f,d.1,d.2.1⟩
section
variable {ρ : ay} {T : aC} {G H : List Row} {Φ : Ctx} {w : World}
theorem Wr(i:Sat (ab ρ T G++(ab ρ T H++Φ)) w){t:Ty}{v:AV}{q:x4×Src×List t.T}(h:adJ G H t v=some q):∃a:Nm,NBr ρ q.1 a/\v.val ρ=sl a.v/\ahr ρ T G H q.2.1 (Fk true t.rep a.v q.2.2 false):=by
 unfold adJ at h;split at h
 .rename_i j;split at h
  .rename_i s c t' l b e;split at h
   next l' d=>cases h;obtain ⟨rfl,rfl⟩:=oY d;obtain ⟨g,f⟩:=bV e;have:c=j:=ah f;subst this;refine ⟨ρ c,⟨rfl,rfl,rfl⟩,by simp only [AV.val],.inr ⟨_,g,⟨λ_ h=>h,λM w h _=>⟨(h aC.get_none).1,λhb=>by cases hb⟩⟩,λ_=>rfl,λh=>by cases h⟩⟩
   .cases h
  .cases h
 .cases h;exact ⟨cO,⟨rfl,rfl,rfl⟩,by simp only [AV.val];rfl,.inl ⟨rfl,λM w _=>⟨bP.nil,λhb=>by cases hb⟩,λr h=>h⟩⟩
 .cases h
theorem Xr(i:Sat (ab ρ T G++(ab ρ T H++Φ)) w){t:Ty}{e:TypeId}{v:AV}{q:x4×Src×List t.T}(h:acQ G H t e v=some q):∃a:Nm,NBr ρ q.1 a/\v.val ρ=sl a.v/\a.y=⟨.l t,q.2.2⟩/\ahr ρ T G H q.2.1 (mQ t.rep e a.v q.2.2 True):=by
 unfold acQ at h;split at h
 .rename_i j;split at h
  .rename_i s d t' e' l g m;obtain ⟨n,c⟩:=aI h;have p:=ah n;subst p;split at c
   next l' k=>cases c;obtain ⟨rfl,rfl⟩:=oY k;obtain ⟨f,o⟩:=bV m;have:d=j:=ah o;subst this;have b:=(Src.holds i f).2;refine ⟨{ ρ d with y:=⟨.l t',l⟩ },⟨rfl,rfl,rfl⟩,by simp only [AV.val],rfl,.inr ⟨_,f,⟨λ_ h=>h,λM w h=>⟨h.1,trivial⟩⟩,λh=>(by cases h),λ_=>⟨λ_ h=>h,λM w h=>⟨h.1,b⟩⟩⟩⟩
   .cases c
  .cases h
 .cases h;exact ⟨{ cO with y:=⟨.l t,([]:List t.T)⟩ },⟨rfl,rfl,rfl⟩,by simp only [AV.val];rfl,rfl,.inl ⟨rfl,λM w=>⟨bL.nil,trivial⟩,λr h=>h⟩⟩
 .cases h
theorem XF(m:Sat (ab ρ T G++(ab ρ T H++Φ)) w):(t:Ty)->(vs:List AV)->(o:vB)->(B:wv)->(d:DR t)->(N:List Nm)->wg G H t vs o B=some d->NB ρ B N->
  ∃us N' I,vs=us++d.vs/\Sd t d.x (AV.ao ρ us) o N I N' d.o/\NB ρ d.B N'/\eQ (SI ρ T G H) d.S I
 | .i k,vs,o,B,d,N,h,hN=>by
  unfold wg at h;split at h
  next U x us=>obtain ⟨D,C⟩:=aI h;have:=gB D;subst this;cases C;exact ⟨[.int k x],N,[],rfl,⟨by simp only [AV.ao,AV.val],rfl,rfl,rfl⟩,hN,.nil⟩
  .cases h
 | .bo,vs,o,B,d,N,h,hN=>by
  unfold wg at h;split at h
  next x us=>cases h;exact ⟨[.bool x],N,[],rfl,⟨by simp only [AV.ao,AV.val],rfl,rfl,rfl⟩,hN,.nil⟩
  .cases h
 | .s,vs,o,B,d,N,h,hN=>by
  unfold wg at h;split at h
  next x us=>cases h;exact ⟨[.str x],N,[],rfl,⟨by simp only [AV.ao,AV.val],rfl,rfl,rfl⟩,hN,.nil⟩
  .cases h
 | .un,vs,o,B,d,N,h,hN=>by
  unfold wg at h;cases h;exact ⟨[],N,[],rfl,⟨by simp only [AV.ao],rfl,rfl,rfl⟩,hN,.nil⟩
 | .n,vs,o,B,d,N,h,hN=>by unfold wg at h;cases h
 | .mp _ _,vs,o,B,d,N,h,hN=>by unfold wg at h;cases h
 | .p a b,vs,o,B,d,N,h,hN=>by
  unfold wg at h;split at h
  .rename_i r D;split at h
   next d2 C=>cases h;obtain ⟨z,N1,L,g,c,f,R⟩:=XF m a vs o B r N D hN;obtain ⟨y,N2,K,P,M,O,Q⟩:=XF m b r.vs r.o r.B d2 N1 C f;refine ⟨z++y,N2,L++K,by rw [g,P,aO],?_,O,R.append Q⟩;rw [cZ];exact ⟨_,_,N1,L,K,r.o,c,M,rfl,rfl⟩
   .cases h
  .cases h
 | .l t,vs,o,B,d,N,h,hN=>by
  unfold wg at h;split at h
  .rename_i v us;split at h
   .rename_i A;split at h
    next q j=>cases h;obtain ⟨a,f,g,c⟩:=Wr m j;refine ⟨[v],N++[a],_,rfl,⟨a,by simp only [AV.ao];rw [g],rfl,.inl ⟨rfl,rfl⟩⟩,hN.append (.cons f .nil),.cons ⟨rfl,c⟩ .nil⟩
    .cases h
   .rename_i e A;split at h
    next q j=>cases h;obtain ⟨a,f,g,u,c⟩:=Xr m j;refine ⟨[v],N++[a],_,rfl,⟨a,by simp only [AV.ao];rw [g],rfl,.inr ⟨e,rfl,rfl,u⟩⟩,hN.append (.cons f .nil),.cons ⟨rfl,c⟩ .nil⟩
    .cases h
   .cases h
  .cases h
 | .ex,vs,o,B,d,N,h,hN=>by
  unfold wg at h;split at h
  .rename_i J F E v us;split at h
   .rename_i A;split at h
    next q j=>cases h;obtain ⟨a,f,g,c⟩:=Wr m j;refine ⟨[.int .i64 J,.int .i64 F,.int .i64 E,v],N++[a],_,rfl,⟨a,by simp only [AV.ao,AV.val];rw [g];rfl,rfl,.inl ⟨rfl,rfl⟩⟩,hN.append (.cons f .nil),.cons ⟨rfl,c⟩ .nil⟩
    .cases h
   .rename_i e A;split at h
    next q j=>cases h;obtain ⟨a,f,g,u,c⟩:=Xr m j;refine ⟨[.int .i64 J,.int .i64 F,.int .i64 E,v],N++[a],_,rfl,⟨a,by simp only [AV.ao,AV.val];rw [g];rfl,rfl,.inr ⟨e,rfl,rfl,u⟩⟩,hN.append (.cons f .nil),.cons ⟨rfl,c⟩ .nil⟩
    .cases h
   .cases h
  .cases h
abbrev dF(ρ:ay)(X:List (Nat×List AV)):jh:=X.map λx=>(x.1,AV.ao ρ x.2)
abbrev eZ(ρ:ay)(fx:gz):Fx:=fx.map λq=>(q.1.val ρ,AV.ao ρ q.2)
theorem agd{fx:gz}:fxC (eZ ρ fx)=AV.ao ρ (HD fx):=by
 cases fx with
 |none=>simp [fxC,HD,AV.ao]
 |some q=>rfl
theorem Np{p:Pt}{a:List AV}:fx1 p (AV.ao ρ a)=eZ ρ (mf p a):=by
 cases a with
 |nil=>rfl
 |cons u us=>
  unfold fx1 mf;simp only [AV.ao];cases M5 p <;> simp [aA,AV.ao]
theorem abv{b:Bool}{x:List AV}:AV.ao ρ (aA b x [])=aA b (AV.ao ρ x) []:=by
 cases b
 .show AV.ao ρ []=[];simp only [AV.ao]
 .rfl
theorem Ul{fx:gz}:(eZ ρ fx).isSome=fx.isSome:=by cases fx <;> rfl
theorem tB{fx:gz}{v:AV}(h:∀q,fx=some q->q.1.val ρ=v.val ρ):vg (eZ ρ fx) (v.val ρ):=by
 intro p hp;cases fx with
 |none=>cases hp
 |some q=>cases hp;exact (h q rfl).symm
theorem YK(a:Sat (ab ρ T G++(ab ρ T H++Φ)) w){p:Pt}{v:AV}:(aA (ab7 p) v (sf G H v)).val ρ=v.val ρ:=by
 cases ab7 p
 .exact R8 a
 .rfl
theorem YM{l:List AV}:(AV.ao ρ l).head? =l.head?.map (AV.val ρ):=by cases l <;> simp [AV.ao]
theorem Dp{l:List AV}:(AV.ao ρ l).tail=AV.ao ρ l.tail:=by cases l <;> simp [AV.ao]
mutual
theorem II(L:Sat (ab ρ T G++(ab ρ T H++Φ)) w):(p:Pt)->(v:AV)->(fx:gz)->(y:Option AV)->(B:wv)->(r:MR)->(N:List Nm)->mt G H p v fx y B=some r->NB ρ B N->(∀q,fx=some q->q.1.val ρ=v.val ρ)->
  ∃F I,Sem p (v.val ρ) (eZ ρ fx) (y.map (AV.val ρ)) N r.D I (dF ρ r.X) F/\NB ρ r.B F/\eQ (SI ρ T G H) r.S I
 | .int k,v,fx,y,B,r,N,h,hN,hf=>by
  unfold mt at h;split at h
  next k' x=>obtain ⟨g,i⟩:=aI h;have:=gB g;subst this;cases i;exact ⟨N,[],⟨x,by simp only [AV.val],rfl,rfl,rfl,rfl⟩,hN,.nil⟩
  .cases h
 | .bool,v,fx,y,B,r,N,h,hN,hf=>by
  unfold mt at h;split at h
  next x=>cases h;exact ⟨N,[],⟨x,by simp only [AV.val],rfl,rfl,rfl,rfl⟩,hN,.nil⟩
  .cases h
 | .str,v,fx,y,B,r,N,h,hN,hf=>by
  unfold mt at h;split at h
  next x=>cases h;exact ⟨N,[],⟨x,by simp only [AV.val],rfl,rfl,rfl,rfl⟩,hN,.nil⟩
  .cases h
 | .sli t,v,fx,y,B,r,N,h,hN,hf=>by
  unfold mt at h;split at h
  next q K=>cases h;obtain ⟨a,C,E,A⟩:=Wr L K;exact ⟨N++[a],_,⟨a,q.2.2,E,rfl,rfl,rfl,rfl⟩,hN.append (.cons C .nil),.cons ⟨rfl,A⟩ .nil⟩
  .cases h
 | .own t e m,v,fx,y,B,r,N,h,hN,hf=>by
  unfold mt at h;split at h
  next q K=>cases h;obtain ⟨a,C,E,y1,A⟩:=Xr L K;exact ⟨N++[a],_,⟨a,q.2.2,E,tB hf,rfl,rfl,rfl,rfl,y1⟩,hN.append (.cons C .nil),.cons ⟨rfl,A⟩ .nil⟩
  .cases h
 | .slr n,v,fx,y,B,r,N,h,hN,hf=>by
  unfold mt at h;split at h
  next j=>obtain ⟨g,i⟩:=aI h;cases i;obtain ⟨a,z,P,a3⟩:=hN.at_ g;exact ⟨N,[],⟨a,z,by simp only [AV.val];rw [a3],rfl,rfl,rfl,rfl⟩,hN,.nil⟩
  .cases h
 | .bx t off m vs,v,fx,y,B,r,N,h,hN,hf=>by
  unfold mt at h;split at h
  .rename_i j Q;obtain ⟨g,i⟩:=aI h;have E:=ah g;subst E;split at i
   .rename_i s J t' cs O;obtain ⟨h3,h4⟩:=aI i;have V:=ah h3;subst V;split at h4
    next q K=>cases h4;obtain ⟨U,R⟩:=bV O;have:J=j:=ah R;subst this;obtain ⟨F,I,A,C,z⟩:=xl L vs cs [] (HD fx) (B++[some J]) q (N++[ρ J]) K (.inl rfl) (hN.append (.cons ⟨rfl,rfl,rfl⟩ .nil));refine ⟨F,_,⟨ρ J,AV.ao ρ cs,I,dF ρ q.X,by simp only [AV.val],tB hf,by rw [agd];simpa only [AV.ao] using A,rfl,?_⟩,C,.cons ⟨rfl,.inr ⟨_,U,bR.refl,(λh=>by cases h),λ_=>bR.refl⟩⟩ z⟩;rw [<-hN.length];cases m <;> simp [dF]
    .cases h4
   .cases i
  .cases h
 | .ptr n off,v,fx,y,B,r,N,h,hN,hf=>by
  unfold mt at h;split at h
  next j Q=>obtain ⟨g,i⟩:=aI h;simp only [ae] at g;cases i;have E:=ah g.1;subst E;obtain ⟨a,z,P,a3⟩:=hN.at_ g.2;exact ⟨N,[],⟨a,z,by simp only [AV.val];rw [P],rfl,rfl,rfl,rfl⟩,hN,.nil⟩
  .cases h
 | .mp k u m,v,fx,y,B,r,N,h,hN,hf=>by
  unfold mt at h;split at h
  .rename_i j;split at h
   .rename_i s J k' u' d O;split at h
    next d' hd=>cases h;have:=bY.No hd;cases this;obtain ⟨U,R⟩:=bV O;have:J=j:=ah R;subst this;exact ⟨N++[ρ J],_,⟨ρ J,d',by simp only [AV.val],tB hf,rfl,rfl,rfl,rfl⟩,hN.append (.cons ⟨rfl,rfl,rfl⟩ .nil),.cons ⟨rfl,.inr ⟨_,U,bR.refl,(λh=>by cases h),λ_=>bR.refl⟩⟩ .nil⟩
    .cases h
   .cases h
  .cases h;exact ⟨N++[cO],_,⟨cO,none,by simp only [AV.val];rfl,tB hf,rfl,rfl,rfl,rfl⟩,hN.append (.cons ⟨rfl,rfl,rfl⟩ .nil),.cons ⟨rfl,.inl ⟨rfl,λM w=>nG.nil,λr h=>h⟩⟩ .nil⟩
  .cases h
 | .it,v,fx,y,B,r,N,h,hN,hf=>by
  unfold mt at h;split at h
  .rename_i j;split at h
   next s J x p O=>cases h;obtain ⟨U,R⟩:=bV O;have:J=j:=ah R;subst this;exact ⟨N++[ρ J],_,⟨ρ J,x,p,by simp only [AV.val],tB hf,rfl,rfl,rfl,rfl⟩,hN.append (.cons ⟨rfl,rfl,rfl⟩ .nil),.cons ⟨rfl,.inr ⟨_,U,bR.refl,(λh=>by cases h),λ_=>bR.refl⟩⟩ .nil⟩
   .cases h
  .cases h
 | .agg l,v,fx,y,B,r,N,h,hN,hf=>by
  unfold mt at h;split at h
  next vs=>obtain ⟨_,h⟩:=aI h;obtain ⟨F,I,A,C,z⟩:=xl L l vs (aA fx.isSome vs []) [] B r N h (by cases fx <;> first|exact .inl rfl|exact .inr rfl) hN;exact ⟨F,I,⟨AV.ao ρ vs,by simp only [AV.val],tB hf,by rw [Ul,<-abv];simpa only [AV.ao] using A⟩,C,z⟩
  .cases h
 | .cB l,v,fx,y,B,r,N,h,hN,hf=>by
  unfold mt at h;split at h
  next vs=>obtain ⟨F,I,A,C,z⟩:=xl L l vs [] [] B r N h (.inl rfl) hN;exact ⟨F,I,⟨AV.ao ρ vs,by simp only [AV.val],by simpa only [AV.ao] using A⟩,C,z⟩
  .cases h
 | .fn f a b,v,fx,y,B,r,N,h,hN,hf=>by
  unfold mt at h;split at h
  .rename_i f' a' b';obtain ⟨g,i⟩:=aI h;simp only [ae] at g;have E:=ah g.1;subst E;split at i
   .rename_i W hq1;split at i
    next Y Z=>cases i;obtain ⟨N1,I1,A,C,z⟩:=xl L a a' [] [] B W N hq1 (.inl rfl) hN;obtain ⟨N2,I2,s2,n2,P⟩:=xl L b b' (aA fx.isSome b' []) [] W.B Y N1 Z (by cases fx <;> first|exact .inl rfl|exact .inr rfl) C;exact ⟨N2,I1++I2,⟨AV.ao ρ a',AV.ao ρ b',W.D,Y.D,I1,I2,dF ρ W.X,dF ρ Y.X,N1,by simp only [AV.val],tB hf,by simpa only [AV.ao] using A,by rw [Ul,<-abv];simpa only [AV.ao] using s2,rfl,rfl,by simp [dF]⟩,n2,z.append P⟩
    .cases i
   .cases i
  .cases h
 | .ifc t p,v,fx,y,B,r,N,h,hN,hf=>by
  unfold mt at h;split at h
  .rename_i t' u;obtain ⟨g,i⟩:=aI h;simp only [ae] at g;have E:=ah g.1;subst E;obtain ⟨F,I,A,C,z⟩:=II L p u (mf p (aA fx.isSome [u] [])) none B r N i hN (λq K=>by
    cases fx with
    |none=>cases K
    |some f=>
     have K:aA (M5 p) none (some (u,[]))=some q:=K;obtain ⟨_,h3⟩:=Nb K;cases h3;rfl)
   refine ⟨F,I,⟨u.val ρ,by simp only [AV.val],tB hf,?_⟩,C,z⟩;have V:(aA (eZ ρ fx).isSome [u.val ρ] []:xu)=AV.ao ρ (aA fx.isSome [u] []):=by
    cases fx
    .show ([]:xu)=AV.ao ρ [];simp only [AV.ao]
    .show [u.val ρ]=AV.ao ρ [u];simp only [AV.ao]
   rw [V,Np];exact A
  .cases h
 | .jg c,v,fx,y,B,r,N,h,hN,hf=>by
  unfold mt at h;obtain ⟨g,i⟩:=aI h;cases i;exact ⟨N,[],⟨⟨AV.Hq c v g,λρ'=>(AV.Hq (ρ':=ρ) (ρ:=ρ') c v g).symm.trans (AV.Hq c v g)⟩,rfl,rfl,rfl,rfl⟩,hN,.nil⟩
 | .dat t o,v,fx,y,B,r,N,h,hN,hf=>by
  unfold mt at h;split at h
  .rename_i cs;split at h
   next x o' B' S hd=>cases h;obtain ⟨us,F,I,E,A,C,z⟩:=XF L t cs o B _ N hd hN;simp only [la] at E;subst E;exact ⟨F,I,⟨_,x,o',by simp only [AV.val],rfl,A,rfl⟩,C,z⟩
   .cases h
  .cases h
 | .ifn,v,fx,y,B,r,N,h,hN,hf=>by
  unfold mt at h;split at h
  next t=>cases h;exact ⟨N,[],⟨t,by simp only [AV.val,AV.ao],rfl,rfl,rfl,rfl⟩,hN,.nil⟩
  .cases h
 | .sfp,v,fx,y,B,r,N,h,hN,hf=>by
  have hl:=hN.length;unfold mt at h;split at h
  .split at h
   next o ho=>cases h;obtain ⟨a,g,_⟩:=hN.get ho;exact ⟨N,[],⟨a,false,by rw [<-hl];exact g,by simp only [AV.val,AD,cy],rfl,rfl,rfl,rfl⟩,hN,.nil⟩
   .cases h
  next j f=>obtain ⟨g,i⟩:=aI h;cases i;obtain ⟨a,z,P,_⟩:=hN.at_ g;exact ⟨N,[],⟨a,f,by rw [<-hl];exact z,by simp only [AV.val];rw [P],rfl,rfl,rfl,rfl⟩,hN,.nil⟩
  next j=>obtain ⟨g,i⟩:=aI h;cases i;obtain ⟨a,z,P,_⟩:=hN.at_ g;exact ⟨N,[],⟨a,true,by rw [<-hl];exact z,by simp only [AV.val,AD,c8];rw [P],rfl,rfl,rfl,rfl⟩,hN,.nil⟩
  .cases h
 | .sty p,v,fx,y,B,r,N,h,hN,hf=>by
  unfold mt at h;split at h
  .cases h
  .split at h
   .rename_i u;obtain ⟨g,i⟩:=aI h;simp only [ae,gj] at g;have E:=aoT g.1;have V:u.val ρ=v.val ρ:=by rw [<-E];exact (R8 L).symm
    obtain ⟨F,I,A,C,z⟩:=II L p v (some (v,[])) none B r N i hN (λq K=>by cases K;rfl);refine ⟨F,I,⟨rfl,by show some (u.val ρ)=some (v.val ρ);rw [V],g.2,?_⟩,C,z⟩;have e3:eZ ρ (some (v,[]))=some (v.val ρ,[]):=by simp [AV.ao]
    rw [e3] at A;exact A
   .cases h
 | .same,v,fx,y,B,r,N,h,hN,hf=>by
  unfold mt at h;obtain ⟨g,i⟩:=aI h;cases i;refine ⟨N,[],⟨?_,rfl,rfl,rfl,rfl⟩,hN,.nil⟩;unfold nvs at g;split at g
  next q=>exact .inl ⟨_,rfl,(hf q rfl).symm⟩
  .split at g
   .split at g
    next u u'=>rw [ah g];exact .inr ⟨rfl,rfl⟩
    .cases g
   .cases g
theorem xl(d:Sat (ab ρ T G++(ab ρ T H++Φ)) w):(l:List Pt)->(vs:List AV)->(a:List AV)->(b:List AV)->(B:wv)->(r:MR)->(N:List Nm)->GQ G H l vs a b B=some r->(a=[]\/a=vs)->NB ρ B N->
  ∃N' I,tT l (AV.ao ρ vs) (AV.ao ρ a) (AV.ao ρ b) N r.D I (dF ρ r.X) N'/\NB ρ r.B N'/\eQ (SI ρ T G H) r.S I
 |[],vs,a,b,B,r,N,h,hfx,hN=>by
  unfold GQ at h;split at h
  .cases h;exact ⟨N,[],⟨by simp only [AV.ao],rfl,rfl,rfl,rfl⟩,hN,.nil⟩
  .cases h
 |p::l,vs,a,b,B,r,N,h,hfx,hN=>by
  unfold GQ at h;split at h
  .rename_i v us;split at h
   .rename_i c i;split at h
    .rename_i f g;cases h;obtain ⟨N1,m,j,s,x⟩:=II d p _ (mf p a) b.head? B c N i hN (λq e=>by
      rcases hfx with rfl|rfl
      .cases e
      .unfold mf at e;dsimp only at e;obtain ⟨_,t⟩:=Nb e;cases t;exact (YK d).symm)
     obtain ⟨N2,k,n,o,u⟩:=xl d l us a.tail b.tail c.B f N1 g (by rcases hfx with rfl|rfl <;> first|exact .inl rfl|exact .inr rfl) s;rw [YK d] at j;refine ⟨N2,m++k,⟨v.val ρ,AV.ao ρ us,c.D,f.D,m,k,dF ρ c.X,dF ρ f.X,N1,by simp only [AV.ao],by rw [YM,Np];exact j,by rw [Dp,Dp];exact n,rfl,rfl,by simp [dF]⟩,o,x.append u⟩
    .cases h
   .cases h
  .cases h
end
theorem SM(k:Sat (ab ρ T G++(ab ρ T H++Φ)) w){z:Nat->Option AV}{fix:Nat->gz}:(l:List (Bool×Nat×Pt))->(B:wv)->(r:MR)->(N:List Nm)->YA G H z fix l B=some r->NB ρ B N->
  ∃N' I,EH (λi=>eZ ρ (fix i)) (λi=>(z i).map (AV.val ρ)) l N r.D I (dF ρ r.X) N'/\NB ρ r.B N'/\eQ (SI ρ T G H) r.S I
 |[],B,r,N,h,hN=>by
  unfold YA at h;cases h;exact ⟨N,[],⟨rfl,rfl,rfl,rfl⟩,hN,.nil⟩
 |(b,t,p)::l,B,r,N,h,hN=>by
  unfold YA at h;split at h
  .rename_i v hv;split at h
   .rename_i d a;split at h
    .rename_i e f;cases h;cases b
     .simp only at hv a;obtain ⟨N1,j,n,s,y⟩:=II k p v none none B d N a hN (λq u=>by cases u);obtain ⟨N2,g,m,o,x⟩:=SM k l d.B e N1 f s;exact ⟨N2,j++g,⟨v.val ρ,d.D,e.D,j,g,dF ρ d.X,dF ρ e.X,N1,by simp only [hv,mi],n,m,rfl,rfl,by simp [dF]⟩,o,y.append x⟩
     .simp only at hv a;cases c:fix t with
      |none=>rw [c] at hv;cases hv
      |some q=>
       rw [c] at hv a;cases hv;obtain ⟨N1,j,n,s,y⟩:=II k p q.1 (some q) none B d N a hN (λq' u=>by cases u;rfl);obtain ⟨N2,g,m,o,x⟩:=SM k l d.B e N1 f s;exact ⟨N2,j++g,⟨q.1.val ρ,d.D,e.D,j,g,dF ρ d.X,dF ρ e.X,N1,by simp only [c];rfl,by simp only [c];exact n,m,rfl,rfl,by simp [dF]⟩,o,y.append x⟩
    .cases h
   .cases h
  .cases h
end
variable {A : List Nm} {D : List bY} {N : List Nm} {a : Nm} {fx : gz}
structure FR where
 v:AV
 R:List (Bool×Row)
 k:Nat
 D:List bY
 X:List (Nat×List AV)
structure FRs where
 vs:List AV
 R:List (Bool×Row)
 k:Nat
 D:List bY
 X:List (Nat×List AV)
def fH(t:Ty)(D:List bY):t.T:=match D with
 |d::_=>(d.as t).getD t.oG
 |[]=>t.oG
theorem oS{t:Ty}{x:t.T}:fH t (⟨t,x⟩::D)=x:=by simp [fH,bY.aoV]
theorem aqb{k:IntKind}{x:Int}:fH (.i k) (⟨.i k,x⟩::D)=x:=oS (t:= .i k)
theorem ap6{x:Bool}:fH .bo (⟨.bo,x⟩::D)=x:=oS (t:= .bo)
theorem akm{x:aB}:fH .s (⟨.s,x⟩::D)=x:=oS (t:= .s)
theorem aj9{x:Nat}:fH .n (⟨.n,x⟩::D)=x:=oS (t:= .n)
theorem ai9{t:Ty}{x:List t.T}:fH (.l t) (⟨.l t,x⟩::D)=x:=oS (t:= .l t)
theorem aod{k v:Ty}{x:Option (List (k.T×v.T))}:fH (.mp k v) (⟨.mp k v,x⟩::D)=x:=oS (t:= .mp k v)
structure LR where
 vs:List AV
 R:List (Bool×Row)
 k:Nat
 o:vB
def fZ(nm:Nat->Nat):(t:Ty)->t.T->Nat->vB->LR
 | .i k,x,n,o=>⟨[.int k x],[],n,o⟩
 | .bo,x,n,o=>⟨[.bool x],[],n,o⟩
 | .s,x,n,o=>⟨[.str x],[],n,o⟩
 | .un,_,n,o=>⟨[],[],n,o⟩
 | .p a b,x,n,o=>match fZ nm a x.1 n o with
  |⟨u,p,n,o⟩=>match fZ nm b x.2 n o with
   |⟨v,q,n,o⟩=>⟨u++v,p++q,n,o⟩
 | .l t,x,n,o=>match o with
  |none::o=>⟨[.sl (nm n)],[(false,.sli none (nm n) t x false)],n+1,o⟩
  |some e::o=>⟨[.sl (nm n)],[(ow e,.own (nm n) t (oe e) x (nm n))],n+1,o⟩
  |[]=>⟨[],[],n,[]⟩
 | .ex,x,n,o=>match o with
  |none::o=>⟨[.int .i64 x.op,.int .i64 x.n,.int .i64 x.at_,.sl (nm n)],[(false,.sli none (nm n) .ex x.l false)],n+1,o⟩
  |some e::o=>⟨[.int .i64 x.op,.int .i64 x.n,.int .i64 x.at_,.sl (nm n)],[(ow e,.own (nm n) .ex (oe e) x.l (nm n))],n+1,o⟩
  |[]=>⟨[],[],n,[]⟩
 |_,_,n,o=>⟨[],[],n,o⟩
def nmS(nm:Nat->Nat)(fx:gz)(n:Nat):Nat:=match fx with
 |some (.sl j,_)=>j
 |_=>nm n
def Gg(nm:Nat->Nat)(fx:gz)(n:Nat):Nat:=match fx with
 |some (.ptr j _,_)=>j
 |_=>nm n
def nmM(nm:Nat->Nat)(fx:gz)(n:Nat):Nat:=match fx with
 |some (.mp j,_)=>j
 |_=>nm n
def ans(fx:gz)(sm:Option AV):AV:=match fx with
 |some p=>p.1
 |none=>match sm with
  |some x=>x
  |none=> .bool false
def reS(id:Nat):List Pt->List AV->List AV
 | .sfp::_,.sfp _ f::us=> .sfp id f::us
 |_,us=>us
mutual
def fill(nm:Nat->Nat):Pt->gz->Option AV->Nat->List bY->FR
 | .int k,_,_,n,D=>⟨.int k (fH (.i k) D),[],n,D.tail,[]⟩
 | .bool,_,_,n,D=>⟨.bool (fH .bo D),[],n,D.tail,[]⟩
 | .str,_,_,n,D=>⟨.str (fH .s D),[],n,D.tail,[]⟩
 | .sli t,_,_,n,D=>⟨.sl (nm n),[(false,.sli none (nm n) t (fH (.l t) D) false)],n+1,D.tail,[]⟩
 | .own t e m,fx,_,n,D=>⟨.sl (nmS nm fx n),[(m,.own (nmS nm fx n) t e (fH (.l t) D) (nm n))],n+1,D.tail,[]⟩
 | .slr k,_,_,n,D=>⟨.sl (nm k),[],n,D,[]⟩
 | .bx t off m vs,fx,_,n,D=>match dU nm vs [] (HD fx) (n+1) D with
  |⟨cs,R,k,D,X⟩=>⟨.ptr (Gg nm fx n) off,(m,.box (Gg nm fx n) t (reS (Gg nm fx n) vs cs))::R,k,D,(aA m [(n,reS (Gg nm fx n) vs cs)] [])++X⟩
 | .ptr k off,_,_,n,D=>⟨.ptr (nm k) off,[],n,D,[]⟩
 | .mp k v m,fx,_,n,D=>⟨.mp (nmM nm fx n),[(m,.mp (nmM nm fx n) k v (fH (.mp k v) D))],n+1,D.tail,[]⟩
 | .it,fx,_,n,D=>⟨.ptr (Gg nm fx n) 0,[(true,.it (Gg nm fx n) (fH .s D) (fH .n D.tail))],n+1,D.tail.tail,[]⟩
 | .agg l,fx,_,n,D=>match dU nm l (fW fx) [] n D with
  |⟨cs,R,k,D,X⟩=>⟨.agg cs,R,k,D,X⟩
 | .cB l,_,_,n,D=>match dU nm l [] [] n D with
  |⟨cs,R,k,D,X⟩=>⟨.tuple cs,R,k,D,X⟩
 | .fn f a b,fx,_,n,D=>match dU nm a [] [] n D with
  |⟨cs,R,k,D,X⟩=>match dU nm b (fW fx) [] k D with
   |⟨cs',R',k,D,X'⟩=>⟨.fn f cs cs',R++R',k,D,X++X'⟩
 | .ifc t p,fx,_,n,D=>match fill nm p (mf p (fW fx)) none n D with
  |⟨v,R,k,D,X⟩=>⟨.ifc t v,R,k,D,X⟩
 | .jg v,_,_,n,D=>⟨v,[],n,D,[]⟩
 | .dat t o,_,_,n,D=>match fZ nm t (fH t D) n o with
  |⟨cs,R,k,_⟩=>⟨.agg cs,R,k,D.tail,[]⟩
 | .ifn,_,_,n,D=>⟨.ifc (fH .n D) (.agg []),[],n,D.tail,[]⟩
 | .sfp,_,_,n,D=>⟨.sfp (nm (n-1)) (fH .bo D),[],n,D.tail,[]⟩
 | .sty p,_,sm,n,D=>fill nm p (sm.map λu=>(u,[])) none n D
 | .same,fx,sm,n,D=>⟨ans fx sm,[],n,D,[]⟩
def dU(nm:Nat->Nat):List Pt->List AV->List AV->Nat->List bY->FRs
 |[],_,_,n,D=>⟨[],[],n,D,[]⟩
 |p::l,fxs,sms,n,D=>match fill nm p (mf p fxs) sms.head? n D with
  |⟨v,R,k,D,X⟩=>match dU nm l fxs.tail sms.tail k D with
   |⟨vs,R',k,D,X'⟩=>⟨v::vs,R++R',k,D,X++X'⟩
end
structure FV where
 E:aF
 R:List (Bool×Row)
 k:Nat
 D:List bY
def eY(nm:Nat->Nat)(fix:Nat->gz):List (Bool×Nat×Pt)->Nat->List bY->FV
 |[],n,D=>⟨[],[],n,D⟩
 |x::l,n,D=>match fill nm x.2.2 (aA x.1 (fix x.2.1) none) none n D with
  |⟨v,R,k,D,_⟩=>match eY nm fix l k D with
   |⟨E,R',k,D⟩=>⟨aA x.1 E ((x.2.1,none,v)::E),R++R',k,D⟩
def vj(N N':List Nm):Prop:= ∃E,N'=N++E
theorem vj.refl:vj N N:=⟨[],by simp⟩
theorem vj.trans{B C:List Nm}(h:vj A B)(k:vj B C):vj A C:=by obtain ⟨E,rfl⟩:=h;obtain ⟨F,rfl⟩:=k;exact ⟨E++F,by simp⟩
theorem vj.one:vj N (N++[a]):=⟨[a],rfl⟩
theorem vj.len{B:List Nm}(h:vj A B):A.length<=B.length:=by obtain ⟨E,rfl⟩:=h;simp
theorem vj.at_{B:List Nm}(h:vj A B){i:Nat}{a:Nm}(ha:A[i]? =some a):B[i]? =some a:=by obtain ⟨E,rfl⟩:=h;rw [cb (List.getElem?_eq_some_iff.1 ha).1];exact ha
theorem BW:(t:Ty)->(x:t.T)->(cs:xu)->(o:vB)->(N:List Nm)->(I:eI)->(c:List Nm)->(d:vB)->Sd t x cs o N I c d->vj N c
 | .i _,_,_,_,_,_,_,_,h|.bo,_,_,_,_,_,_,_,h|.s,_,_,_,_,_,_,_,h|.un,_,_,_,_,_,_,_,h=>by obtain ⟨_,_,rfl,_⟩:=h;exact .refl
 | .n,_,_,_,_,_,_,_,h|.mp _ _,_,_,_,_,_,_,_,h=>h.elim
 | .p a b,x,cs,o,N,I,c,d,h=>by
  obtain ⟨c1,j,N1,m,k,g,f,e,_⟩:=h;exact (BW a _ _ _ _ _ _ _ f).trans (BW b _ _ _ _ _ _ _ e)
 | .l t,x,cs,o,N,I,c,d,h=>by obtain ⟨a,_,rfl,_⟩:=h;exact .one
 | .ex,x,cs,o,N,I,c,d,h=>by obtain ⟨a,_,rfl,_⟩:=h;exact .one
mutual
theorem s4:(p:Pt)->(v:Value)->(fx:Fx)->(i:Option Value)->(N:List Nm)->(D:List bY)->(I:eI)->(X:jh)->(g:List Nm)->Sem p v fx i N D I X g->vj N g
 | .int _,v,fx,i,N,D,I,X,g,h|.bool,v,fx,i,N,D,I,X,g,h|.str,v,fx,i,N,D,I,X,g,h=>by obtain ⟨_,_,_,_,_,rfl⟩:=h;exact .refl
 | .sli t,v,fx,i,N,D,I,X,g,h=>by obtain ⟨a,l,_,_,_,_,rfl⟩:=h;exact .one
 | .own t e m,v,fx,i,N,D,I,X,g,h=>by obtain ⟨a,l,_,_,_,_,_,rfl,_⟩:=h;exact .one
 | .slr n,v,fx,i,N,D,I,X,g,h|.ptr n _,v,fx,i,N,D,I,X,g,h=>by obtain ⟨a,_,_,_,_,_,rfl⟩:=h;exact .refl
 | .bx t off m vs,v,fx,i,N,D,I,X,g,h=>by
  obtain ⟨a,cs,C,z,_,_,j,_⟩:=h;exact vj.one.trans (kZ vs _ _ _ _ _ _ _ _ j)
 | .mp k u m,v,fx,i,N,D,I,X,g,h=>by obtain ⟨a,d,_,_,_,_,_,rfl⟩:=h;exact .one
 | .it,v,fx,i,N,D,I,X,g,h=>by obtain ⟨a,s,p,_,_,_,_,_,rfl⟩:=h;exact .one
 | .agg l,v,fx,i,N,D,I,X,g,h=>by obtain ⟨cs,_,_,j⟩:=h;exact kZ l _ _ _ _ _ _ _ _ j
 | .cB l,v,fx,i,N,D,I,X,g,h=>by obtain ⟨cs,_,j⟩:=h;exact kZ l _ _ _ _ _ _ _ _ j
 | .fn f a b,v,fx,i,N,D,I,X,g,h=>by
  obtain ⟨us,vs,F,E,B,A,y,w,N1,_,_,j,q,_⟩:=h;exact (kZ a _ _ _ _ _ _ _ _ j).trans (kZ b _ _ _ _ _ _ _ _ q)
 | .ifc t p,v,fx,i,N,D,I,X,g,h=>by obtain ⟨u,_,_,j⟩:=h;exact s4 p _ _ _ _ _ _ _ _ j
 | .jg c,v,fx,i,N,D,I,X,g,h=>by obtain ⟨_,_,_,_,rfl⟩:=h;exact .refl
 | .dat t o,v,fx,i,N,D,I,X,g,h=>by obtain ⟨cs,x,r,_,_,j,_⟩:=h;exact BW t _ _ _ _ _ _ _ j
 | .ifn,v,fx,i,N,D,I,X,g,h=>by obtain ⟨_,_,_,_,_,rfl⟩:=h;exact .refl
 | .sfp,v,fx,i,N,D,I,X,g,h=>by obtain ⟨_,_,_,_,_,_,_,rfl⟩:=h;exact .refl
 | .sty p,v,fx,i,N,D,I,X,g,h=>by obtain ⟨_,_,_,j⟩:=h;exact s4 p _ _ _ _ _ _ _ _ j
 | .same,v,fx,i,N,D,I,X,g,h=>by obtain ⟨_,_,_,_,rfl⟩:=h;exact .refl
theorem kZ:(l:List Pt)->(vs:xu)->(b:xu)->(a:xu)->(N:List Nm)->(D:List bY)->(I:eI)->(X:jh)->(c:List Nm)->tT l vs b a N D I X c->vj N c
 |[],vs,b,a,N,D,I,X,c,h=>by obtain ⟨_,_,_,_,rfl⟩:=h;exact .refl
 |p::l,vs,b,a,N,D,I,X,c,h=>by obtain ⟨v,d,n,m,k,j,i,g,N1,_,f,e,_⟩:=h;exact (s4 p _ _ _ _ _ _ _ _ f).trans (kZ l _ _ _ _ _ _ _ _ e)
end
theorem Qi{fix:Nat->Fx}{val:Nat->Option Value}:(l:List (Bool×Nat×Pt))->(N:List Nm)->(D:List bY)->(I:eI)->(X:jh)->(a:List Nm)->EH fix val l N D I X a->vj N a
 |[],N,D,I,X,a,h=>by obtain ⟨_,_,_,rfl⟩:=h;exact .refl
 |x::l,N,D,I,X,a,h=>by obtain ⟨v,j,i,g,f,e,d,N1,_,c,b,_⟩:=h;exact (s4 _ _ _ _ _ _ _ _ _ c).trans (Qi l _ _ _ _ _ b)
def RwI(ρ:ay)(T:aC)(a:Bool×Row)(b:Bool×Item):Prop:=a.1=b.1/\bR b.2 (a.2.item ρ T)/\bR (a.2.item ρ T) b.2
section
variable {ρ : ay} {T : aC} {nm : Nat -> Nat} {n0 : Nat}
theorem anZ{id:Nat}{vs:List Pt}{us:List AV}{cs c:xu}{p:List Nm}{I:eI}{X:jh}(h:tT vs cs [] c (N++[a]) D I X p)(i:(ρ id).b=a.b)(hv:AV.ao ρ us=cs):AV.ao ρ (reS id vs us)=cs:=by
 unfold reS;split
 .rename_i l j f g;obtain ⟨v,d,w,u,t,s,r,q,N1,rfl,m,_⟩:=h;obtain ⟨o,n,ha,rfl,_⟩:=m;have e:o=a:=by simpa using ha.symm
  subst e;simp only [AV.ao,AV.val,qa] at hv ⊢;refine ⟨?_,hv.2⟩;rw [i];have k:=hv.1;cases f <;> cases n <;> simp [AD] at k ⊢
 .exact hv
def vh(ρ:ay)(nm:Nat->Nat)(n0:Nat)(N:List Nm):Prop:= ∀i a,N[i]? =some a->(ρ (nm i)).b=a.b/\(ρ (nm i)).v=a.v/\(ρ (nm i)).m=a.m/\(n0<=i->(ρ (nm i)).y=a.y)
theorem vh.pre{B:List Nm}(h:vh ρ nm n0 B)(k:vj A B):vh ρ nm n0 A:=λi a ha=>h i a (k.at_ ha)
theorem vh.last(h:vh ρ nm n0 (A++[a])):(ρ (nm A.length)).b=a.b/\(ρ (nm A.length)).v=a.v/\(ρ (nm A.length)).m=a.m/\(n0<=A.length->(ρ (nm A.length)).y=a.y):=h _ _ (by simp)
theorem acd{t:Ty}{l:List t.T}{j:Nat}(h:(ρ j).v=a.v):bR (Fk true t.rep a.v l false) ((Row.sli none j t l false).item ρ T)/\bR ((Row.sli none j t l false).item ρ T) (Fk true t.rep a.v l false):=by simp only [Row.item,h];exact ⟨⟨λ_ h=>h,λM w h _=>h rfl⟩,⟨λ_ h=>h,λM w h _=>h aC.get_none⟩⟩
theorem aa3{t:Ty}{e:TypeId}{l:List t.T}{j b:Nat}(h:(ρ j).v=a.v)(c:(ρ b).y=⟨.l t,l⟩):bR (mQ t.rep e a.v l True) ((Row.own j t e l b).item ρ T)/\bR ((Row.own j t e l b).item ρ T) (mQ t.rep e a.v l True):=by simp only [Row.item,h];exact ⟨⟨λ_ h=>h,λM w h=>⟨h.1,c⟩⟩,⟨λ_ h=>h,λM w h=>⟨h.1,trivial⟩⟩⟩
theorem WM:(t:Ty)->(x:t.T)->(cs:xu)->(o:vB)->(N:List Nm)->(I:eI)->(c:List Nm)->(d:vB)->Sd t x cs o N I c d->vh ρ nm n0 c->n0<=N.length->
  AV.ao ρ (fZ nm t x N.length o).vs=cs/\(fZ nm t x N.length o).k=c.length/\(fZ nm t x N.length o).o=d/\eQ (RwI ρ T) (fZ nm t x N.length o).R I
 | .i k,x,cs,o,N,I,c,d,h,hn,hle=>by
  obtain ⟨rfl,rfl,rfl,rfl⟩:=h;exact ⟨by simp only [fZ,AV.ao,AV.val],rfl,rfl,.nil⟩
 | .bo,x,cs,o,N,I,c,d,h,hn,hle=>by
  obtain ⟨rfl,rfl,rfl,rfl⟩:=h;exact ⟨by simp only [fZ,AV.ao,AV.val],rfl,rfl,.nil⟩
 | .s,x,cs,o,N,I,c,d,h,hn,hle=>by
  obtain ⟨rfl,rfl,rfl,rfl⟩:=h;exact ⟨by simp only [fZ,AV.ao,AV.val],rfl,rfl,.nil⟩
 | .un,x,cs,o,N,I,c,d,h,hn,hle=>by
  obtain ⟨rfl,rfl,rfl,rfl⟩:=h;exact ⟨by simp only [fZ,AV.ao],rfl,rfl,.nil⟩
 | .n,x,cs,o,N,I,c,d,h,hn,hle=>h.elim
 | .mp _ _,x,cs,o,N,I,c,d,h,hn,hle=>h.elim
 | .p a b,x,cs,o,N,I,c,d,h,hn,hle=>by
  obtain ⟨c1,G,N1,L,K,B,D,C,rfl,rfl⟩:=h;have A:=BW b _ _ _ _ _ _ _ C;obtain ⟨z,y,w,v⟩:=WM a x.1 c1 o N L N1 B D (hn.pre A) hle;obtain ⟨r,q,m,j⟩:=WM b x.2 G B N1 K c d C hn (cg hle (BW a _ _ _ _ _ _ _ D).len);unfold fZ;generalize fZ nm a x.1 N.length o=J at z y w v;obtain ⟨u,p,n,F⟩:=J;simp only at z y w v;subst y;subst w;dsimp only;generalize fZ nm b x.2 N1.length F=H at r q m j;obtain ⟨M,A,O,E⟩:=H;simp only at r q m j;dsimp only;exact ⟨by rw [cZ,z,r],q,m,v.append j⟩
 | .l t,x,cs,o,N,I,c,d,h,hn,hle=>by
  obtain ⟨a,rfl,rfl,h⟩:=h;have f:=hn.last;rcases h with ⟨rfl,rfl⟩|⟨e,rfl,rfl,g⟩
  .exact ⟨by simp only [fZ,AV.ao,AV.val,f.2.1],by simp [fZ],rfl,.cons ⟨rfl,acd f.2.1⟩ .nil⟩
  .exact ⟨by simp only [fZ,AV.ao,AV.val,f.2.1],by simp [fZ],rfl,.cons ⟨rfl,aa3 f.2.1 (by rw [f.2.2.2 hle];exact g)⟩ .nil⟩
 | .ex,x,cs,o,N,I,c,d,h,hn,hle=>by
  obtain ⟨a,rfl,rfl,h⟩:=h;have f:=hn.last;rcases h with ⟨rfl,rfl⟩|⟨e,rfl,rfl,g⟩
  .exact ⟨by simp only [fZ,AV.ao,AV.val,f.2.1],by simp [fZ],rfl,.cons ⟨rfl,acd (t:= .ex) f.2.1⟩ .nil⟩
  .exact ⟨by simp only [fZ,AV.ao,AV.val,f.2.1],by simp [fZ],rfl,.cons ⟨rfl,aa3 (t:= .ex) f.2.1 (by rw [f.2.2.2 hle];exact g)⟩ .nil⟩
theorem aqt{p q:fE}(h:sl p=sl q):p=q:=by obtain ⟨a,b,c⟩:=p;obtain ⟨f,e,d⟩:=q;simp only [sl,Value.slice.injEq] at h;rw [h.1,h.2.1,h.2.2]
theorem ap0(b:vh ρ nm n0 (N++[a]))(c:vg (eZ ρ fx) (sl a.v)):(ρ (nmS nm fx N.length)).v=a.v:=by
 unfold nmS;split
 .have:=c _ rfl;simp only [AV.val] at this;exact (aqt this).symm
 .rw [b.last.2.1]
theorem ajd{off:Nat}(c:(ρ (nm N.length)).b=a.b)(d:vg (eZ ρ fx) (.pointer (some ⟨a.b,off,none⟩))):(ρ (Gg nm fx N.length)).b=a.b:=by
 unfold Gg;split
 .have:=d _ rfl;simp only [AV.val,Value.pointer.injEq,b8,Addr.mk.injEq] at this;exact this.1.symm
 .rw [c]
theorem ap2(b:vh ρ nm n0 (N++[a]))(c:vg (eZ ρ fx) (.map a.m)):(ρ (nmM nm fx N.length)).m=a.m:=by
 unfold nmM;split
 .have:=c _ rfl;simp only [AV.val,Value.map.injEq] at this;exact this.symm
 .rw [b.last.2.2.1]
theorem Fe(p:Pt):mX p none=true:=by cases p <;> rfl
theorem adK(p:Pt)(a:List AV):mX p (mf p a)=true:=by
 unfold mf;cases a with
 |nil=>exact Fe p
 |cons u us=>cases p <;> rfl
theorem amm{l:List Pt}{cs:xu}(a:mX (.agg l) fx=true)(b:vg (eZ ρ fx) (.agg cs.toArray)):AV.ao ρ (fW fx)=aA (eZ ρ fx).isSome cs []:=by
 cases fx with
 |none=>rfl
 |some q=>
  obtain ⟨v,d⟩:=q;cases v <;> first|(cases a;done)|skip;have:=b _ rfl;simp only [AV.val,Value.agg.injEq] at this;show AV.ao ρ (fW (some (_,_)))=cs;simpa [fW] using this.symm
theorem aoB{f:FuncId}{a b:List Pt}{us vs:xu}(c:mX (.fn f a b) fx=true)(e:vg (eZ ρ fx) (.func (.func f) us.toArray vs.toArray)):AV.ao ρ (fW fx)=aA (eZ ρ fx).isSome vs []:=by
 cases fx with
 |none=>rfl
 |some q=>
  obtain ⟨v,d⟩:=q;cases v <;> first|(cases c;done)|skip;have:=e _ rfl;simp only [AV.val,Value.func.injEq] at this;show AV.ao ρ (fW (some (_,_)))=vs;simpa [fW] using this.2.2.symm
theorem amA{t:TypeId}{p:Pt}{u:Value}(a:mX (.ifc t p) fx=true)(b:vg (eZ ρ fx) (.iface t u)):AV.ao ρ (fW fx)=aA (eZ ρ fx).isSome [u] []:=by
 cases fx with
 |none=>rfl
 |some q=>
  obtain ⟨v,d⟩:=q;cases v <;> first|(cases a;done)|skip;have:=b _ rfl;simp only [AV.val,Value.iface.injEq] at this;show AV.ao ρ (fW (some (_,_)))=[u];simp [fW,AV.ao,this.2]
mutual
theorem AK:(p:Pt)->(v:Value)->(fx:gz)->(j:Option AV)->(N:List Nm)->(D:List bY)->(I:eI)->(X:jh)->(i:List Nm)->Sem p v (eZ ρ fx) (j.map (AV.val ρ)) N D I X i->mX p fx=true->vh ρ nm n0 i->n0<=N.length->(g:List bY)->
  (fill nm p fx j N.length (D++g)).v.val ρ=v/\(fill nm p fx j N.length (D++g)).k=i.length/\(fill nm p fx j N.length (D++g)).D=g/\X=dF ρ (fill nm p fx j N.length (D++g)).X/\eQ (RwI ρ T) (fill nm p fx j N.length (D++g)).R I
 | .int k,v,fx,j,N,D,I,X,i,h,hg,hn,hle,g=>by
  obtain ⟨x,rfl,rfl,rfl,rfl,rfl⟩:=h;exact ⟨by simp only [fill,qh,aqb,AV.val],rfl,rfl,rfl,.nil⟩
 | .bool,v,fx,j,N,D,I,X,i,h,hg,hn,hle,g=>by
  obtain ⟨x,rfl,rfl,rfl,rfl,rfl⟩:=h;exact ⟨by simp only [fill,qh,ap6,AV.val],rfl,rfl,rfl,.nil⟩
 | .str,v,fx,j,N,D,I,X,i,h,hg,hn,hle,g=>by
  obtain ⟨x,rfl,rfl,rfl,rfl,rfl⟩:=h;exact ⟨by simp only [fill,qh,akm,AV.val],rfl,rfl,rfl,.nil⟩
 | .sli t,v,fx,j,N,D,I,X,i,h,hg,hn,hle,g=>by
  obtain ⟨a,l,rfl,rfl,rfl,rfl,rfl⟩:=h;have J:=hn.last;refine ⟨by simp only [fill,AV.val,J.2.1],by simp [fill],rfl,rfl,.cons ⟨rfl,?_⟩ .nil⟩;show bR _ ((Row.sli none (nm N.length) t (fH (.l t) (⟨.l t,l⟩::g)) false).item ρ T)/\bR ((Row.sli none (nm N.length) t (fH (.l t) (⟨.l t,l⟩::g)) false).item ρ T) _;rw [ai9];exact acd J.2.1
 | .own t e m,v,fx,j,N,D,I,X,i,h,hg,hn,hle,g=>by
  obtain ⟨a,l,rfl,E,rfl,rfl,rfl,rfl,hy⟩:=h;have Y:=ap0 hn E;refine ⟨by simp only [fill,AV.val,Y],by simp [fill],rfl,rfl,.cons ⟨rfl,?_⟩ .nil⟩;show bR _ ((Row.own (nmS nm fx N.length) t e (fH (.l t) (⟨.l t,l⟩::g)) (nm N.length)).item ρ T)/\bR ((Row.own (nmS nm fx N.length) t e (fH (.l t) (⟨.l t,l⟩::g)) (nm N.length)).item ρ T) _;rw [ai9];exact aa3 Y (by rw [hn.last.2.2.2 hle];exact hy)
 | .slr n,v,fx,j,N,D,I,X,i,h,hg,hn,hle,g=>by
  obtain ⟨a,ha,rfl,rfl,rfl,rfl,rfl⟩:=h;exact ⟨by simp only [fill,AV.val,(hn _ _ ha).2.1],rfl,rfl,rfl,.nil⟩
 | .bx t off m vs,v,fx,j,N,D,I,X,i,h,hg,hn,hle,g=>by
  obtain ⟨a,cs,I',X',rfl,E,r,rfl,rfl⟩:=h;rw [agd] at r;have p1:=kZ vs _ _ _ _ _ _ _ _ r;have J:=hn.pre p1;have F:=ajd J.last.1 E;have G:(N++[a]).length=N.length+1:=by simp
  obtain ⟨A,z,B,C,w⟩:=sJ vs cs [] (HD fx) (N++[a]) D I' X' i (by simpa only [AV.ao] using r) hn (by simp;omega) g;rw [G] at A z B C w;unfold fill;generalize dU nm vs [] (HD fx) (N.length+1) (D++g)=L at A z B C w;obtain ⟨us,R,k,O,M⟩:=L;simp only at A z B C w;dsimp only;have b6:AV.ao ρ (reS (Gg nm fx N.length) vs us)=cs:=anZ r F A;refine ⟨by simp only [AV.val,F],z,B,?_,.cons ⟨rfl,?_⟩ w⟩
  .rw [C];cases m <;> simp [dF,b6]
  .simp only [Row.item,F,b6];exact ⟨bR.refl,bR.refl⟩
 | .ptr n off,v,fx,j,N,D,I,X,i,h,hg,hn,hle,g=>by
  obtain ⟨a,ha,rfl,rfl,rfl,rfl,rfl⟩:=h;exact ⟨by simp only [fill,AV.val,(hn _ _ ha).1],rfl,rfl,rfl,.nil⟩
 | .mp k u m,v,fx,j,N,D,I,X,i,h,hg,hn,hle,g=>by
  obtain ⟨a,d,rfl,E,rfl,rfl,rfl,rfl⟩:=h;have Z:=ap2 hn E;refine ⟨by simp only [fill,AV.val,Z],by simp [fill],rfl,rfl,.cons ⟨rfl,?_⟩ .nil⟩;show bR _ ((Row.mp (nmM nm fx N.length) k u (fH (.mp k u) (⟨.mp k u,d⟩::g))).item ρ T)/\bR ((Row.mp (nmM nm fx N.length) k u (fH (.mp k u) (⟨.mp k u,d⟩::g))).item ρ T) _;rw [aod];simp only [Row.item,Z];exact ⟨bR.refl,bR.refl⟩
 | .it,v,fx,j,N,D,I,X,i,h,hg,hn,hle,g=>by
  obtain ⟨a,s,p,rfl,E,rfl,rfl,rfl,rfl⟩:=h;have F:=ajd hn.last.1 E;refine ⟨by simp only [fill,AV.val,F],by simp [fill],rfl,rfl,.cons ⟨rfl,?_⟩ .nil⟩;show bR _ ((Row.it (Gg nm fx N.length) (fH .s (⟨.s,s⟩::⟨.n,p⟩::g)) (fH .n (⟨.n,p⟩::g))).item ρ T)/\bR ((Row.it (Gg nm fx N.length) (fH .s (⟨.s,s⟩::⟨.n,p⟩::g)) (fH .n (⟨.n,p⟩::g))).item ρ T) _;rw [akm,aj9];simp only [Row.item,F];exact ⟨bR.refl,bR.refl⟩
 | .agg l,v,fx,j,N,D,I,X,i,h,hg,hn,hle,g=>by
  obtain ⟨cs,rfl,E,r⟩:=h;obtain ⟨A,z,B,C,w⟩:=sJ l cs (fW fx) [] N D I X i (by rw [amm hg E];simpa only [AV.ao] using r) hn hle g;unfold fill;generalize dU nm l (fW fx) [] N.length (D++g)=L at A z B C w;obtain ⟨us,R,k,O,M⟩:=L;simp only at A z B C w;dsimp only;exact ⟨by simp only [AV.val,A],z,B,C,w⟩
 | .cB l,v,fx,j,N,D,I,X,i,h,hg,hn,hle,g=>by
  obtain ⟨cs,rfl,r⟩:=h;obtain ⟨A,z,B,C,w⟩:=sJ l cs [] [] N D I X i (by simpa only [AV.ao] using r) hn hle g;unfold fill;generalize dU nm l [] [] N.length (D++g)=L at A z B C w;obtain ⟨us,R,k,O,M⟩:=L;simp only at A z B C w;dsimp only;exact ⟨by simp only [AV.val,A],z,B,C,w⟩
 | .fn f a b,v,fx,j,N,D,I,X,i,h,hg,hn,hle,g=>by
  obtain ⟨us,vs,D1,P,I1,I2,X1,X2,N1,rfl,E,r,H,rfl,rfl,rfl⟩:=h;have p2:=kZ b _ _ _ _ _ _ _ _ H;obtain ⟨A,z,B,C,w⟩:=sJ a us [] [] N D1 I1 X1 N1 (by simpa only [AV.ao] using r) (hn.pre p2) hle (P++g);obtain ⟨c1,W,V,U,S⟩:=sJ b vs (fW fx) [] N1 P I2 X2 i (by rw [aoB hg E];simpa only [AV.ao] using H) hn (cg hle (kZ a _ _ _ _ _ _ _ _ r).len) g;unfold fill;rw [aO];generalize dU nm a [] [] N.length (D1++(P++g))=L at A z B C w;obtain ⟨us',R,k,O,M⟩:=L;simp only at A z B C w;subst z;subst B;dsimp only;generalize dU nm b (fW fx) [] N1.length (P++g)=L at c1 W V U S;obtain ⟨us2,R2,k2,DD2,XX2⟩:=L;simp only at c1 W V U S;dsimp only;exact ⟨by simp only [AV.val,A,c1],W,V,by rw [C,U];simp [dF],w.append S⟩
 | .ifc t p,v,fx,j,N,D,I,X,i,h,hg,hn,hle,g=>by
  obtain ⟨u,rfl,E,r⟩:=h;rw [<-amA hg E,Np] at r;obtain ⟨A,z,B,C,w⟩:=AK p u (mf p (fW fx)) none N D I X i r (adK p _) hn hle g;unfold fill;generalize fill nm p (mf p (fW fx)) none N.length (D++g)=L at A z B C w;obtain ⟨us,R,k,O,M⟩:=L;simp only at A z B C w;dsimp only;exact ⟨by simp only [AV.val,A],z,B,C,w⟩
 | .jg c,v,fx,j,N,D,I,X,i,h,hg,hn,hle,g=>by
  obtain ⟨⟨r,K⟩,rfl,rfl,rfl,rfl⟩:=h;exact ⟨by rw [r];exact K ρ,rfl,rfl,rfl,.nil⟩
 | .dat t o,v,fx,j,N,D,I,X,i,h,hg,hn,hle,g=>by
  obtain ⟨cs,x,o',rfl,rfl,r,rfl⟩:=h;obtain ⟨A,z,B,w⟩:=WM (T:=T) t x cs o N I i o' r hn hle;unfold fill;rw [qh,oS];generalize fZ nm t x N.length o=L at A z B w;obtain ⟨us,R,k,oo⟩:=L;simp only at A z B w;dsimp only;exact ⟨by simp only [AV.val,A],z,rfl,rfl,w⟩
 | .ifn,v,fx,j,N,D,I,X,i,h,hg,hn,hle,g=>by
  obtain ⟨x,rfl,rfl,rfl,rfl,rfl⟩:=h;exact ⟨by simp only [fill,qh,aj9,AV.val,AV.ao],rfl,rfl,rfl,.nil⟩
 | .sfp,v,fx,j,N,D,I,X,i,h,hg,hn,hle,g=>by
  obtain ⟨a,f,ha,rfl,rfl,rfl,rfl,rfl⟩:=h;refine ⟨?_,rfl,rfl,rfl,.nil⟩;simp only [fill,AV.val,(hn _ _ ha).1,qh];rfl
 | .sty p,v,fx,j,N,D,I,X,i,h,hg,hn,hle,g=>by
  obtain ⟨_,K,r,H⟩:=h;cases j with
  |none=>cases K
  |some u=>
   have e:u.val ρ=v:=by simpa using K
   subst e;have e3:eZ ρ (some (u,[]))=some (u.val ρ,[]):=by simp [AV.ao]
   rw [<-e3] at H;have hp:mX p (some (u,[]))=true:=by cases p <;> first|rfl|cases r
   have:=AK p (u.val ρ) (some (u,[])) none N D I X i H hp hn hle g;unfold fill;exact this
 | .same,v,fx,j,N,D,I,X,i,h,hg,hn,hle,g=>by
  obtain ⟨r,rfl,rfl,rfl,rfl⟩:=h;refine ⟨?_,rfl,rfl,rfl,.nil⟩;simp only [fill,ans];rcases r with ⟨p,hp,rfl⟩|⟨Q,r⟩
  .cases fx with
   |none=>cases hp
   |some q=>cases hp;rfl
  .cases fx with
   |some q=>cases Q
   |none=>
    cases j with
    |none=>cases r
    |some y=>cases r;rfl
theorem sJ:(l:List Pt)->(vs:xu)->(a:List AV)->(b:List AV)->(N:List Nm)->(D:List bY)->(I:eI)->(X:jh)->(d:List Nm)->tT l vs (AV.ao ρ a) (AV.ao ρ b) N D I X d->vh ρ nm n0 d->n0<=N.length->(c:List bY)->
  AV.ao ρ (dU nm l a b N.length (D++c)).vs=vs/\(dU nm l a b N.length (D++c)).k=d.length/\(dU nm l a b N.length (D++c)).D=c/\X=dF ρ (dU nm l a b N.length (D++c)).X/\eQ (RwI ρ T) (dU nm l a b N.length (D++c)).R I
 |[],vs,a,b,N,D,I,X,d,h,hn,hle,c=>by
  obtain ⟨rfl,rfl,rfl,rfl,rfl⟩:=h;exact ⟨by simp only [dU,AV.ao],rfl,rfl,rfl,.nil⟩
 |p::l,vs,a,b,N,D,I,X,d,h,hn,hle,c=>by obtain ⟨v,f,w,e,F,E,C,B,N1,rfl,i,g,rfl,rfl,rfl⟩:=h;rw [YM,Np] at i;rw [Dp,Dp] at g;have z:=kZ l _ _ _ _ _ _ _ _ g;obtain ⟨u,t,s,r,q⟩:=AK p v (mf p a) b.head? N w F C N1 i (adK p a) (hn.pre z) hle (e++c);obtain ⟨c1,o,n,m,j⟩:=sJ l f a.tail b.tail N1 e E B d g hn (cg hle (s4 p _ _ _ _ _ _ _ _ i).len) c;unfold dU;rw [aO];generalize fill nm p (mf p a) b.head? N.length (w++(e++c))=L at u t s r q;obtain ⟨y,R,k,M,J⟩:=L;simp only at u t s r q;subst t;subst s;dsimp only;generalize dU nm l a.tail b.tail N1.length (e++c)=L at c1 o n m j;obtain ⟨x,K,H,G,A⟩:=L;simp only at c1 o n m j;dsimp only;exact ⟨by simp only [AV.ao,u,c1],o,n,by rw [r,m];simp [dF],q.append j⟩
end
theorem QP{fix:Nat->gz}{f:Nat->Option Value}:(l:List (Bool×Nat×Pt))->(N:List Nm)->(D:List bY)->(I:eI)->(X:jh)->(d:List Nm)->EH (λi=>eZ ρ (fix i)) f l N D I X d->pr fix l=true->vh ρ nm n0 d->n0<=N.length->(a:List bY)->
  (∀t p,look (aF.env ρ [] (eY nm fix l N.length (D++a)).E) t=some p->p.1=true/\f t=some p.2)/\(eY nm fix l N.length (D++a)).k=d.length/\(eY nm fix l N.length (D++a)).D=a/\eQ (RwI ρ T) (eY nm fix l N.length (D++a)).R I
 |[],N,D,I,X,d,h,hg,hn,hle,a=>by
  obtain ⟨rfl,rfl,rfl,rfl⟩:=h;exact ⟨(λt p h=>by cases h),rfl,rfl,.nil⟩
 |(b,t,p)::l,N,D,I,X,d,h,hg,hn,hle,a=>by
  simp only [pr,ae] at hg;obtain ⟨v,x,e,C,J,B,H,N1,hv,z,y,rfl,rfl,rfl⟩:=h;have G:=Qi l _ _ _ _ _ y;have j:Sem p v (eZ ρ (aA b (fix t) none)) ((none:Option AV).map (AV.val ρ)) N x C B N1:=by cases b <;> exact z
  obtain ⟨w,u,s,A,r⟩:=AK (T:=T) p v _ none N x C B N1 j hg.1 (hn.pre G) hle (e++a);obtain ⟨c1,o,n,m⟩:=QP l N1 e J H d y hg.2 hn (cg hle (s4 p _ _ _ _ _ _ _ _ z).len) a;unfold eY;rw [aO];dsimp only;generalize fill nm p (aA b (fix t) none) none N.length (x++(e++a))=L at w u s A r;obtain ⟨F,R,k,S,O⟩:=L;simp only at w u s A r;subst u;subst s;dsimp only;generalize eY nm fix l N1.length (e++a)=L at c1 o n m;obtain ⟨Q,P,M,K⟩:=L;simp only at c1 o n m;dsimp only;refine ⟨λt' q c=>?_,o,n,r.append m⟩;cases b
  .simp only [aF.env,look] at c;cases hb:Nat.beq t t'
   .rw [hb] at c;exact c1 t' q c
   .rw [hb] at c;simp only [c8,b8] at c;subst c;have:=ah hb;subst this;refine ⟨aC.get_none,?_⟩;have g:f t=some v:=hv;rw [g,w]
  .exact c1 t' q c
end
section
variable {Γ Γ' : Ctx} {w : World}
theorem Sat.Az(h:Sat Γ w)(r:Nat->Nat->Prop)(l:∀(j:Nat) (jt:Item),Γ'[j]? =some jt->(jt.own=[]/\∀M w,jt.P M w)\/∃(i:Nat) (it:Item),r j i/\Γ[i]? =some it/\bR it jt)
  (v:∀(j k i:Nat),j≠k->r j i->r k i->False):Sat Γ' w:=by
 have mv:Mv Γ.M w (Ctx.M Γ') w:=Mv.weaken w λb hb=>by
  obtain ⟨it,hi,hb⟩:=hb;obtain ⟨k,d⟩:=List.mem_iff_getElem?.1 hi;rcases l k it d with ⟨c,_⟩|⟨i,jt,_,g,f⟩
  .rw [c] at hb;cases hb
  .exact Ctx.iJ g (f.1 b hb)
 refine ⟨λjt o=>?_,λj k jt kt o d n b hb a=>?_⟩
 .obtain ⟨k,d⟩:=List.mem_iff_getElem?.1 o;rcases l k jt d with ⟨_,c⟩|⟨i,it,_,g,f⟩
  .exact c _ _
  .exact f.2 _ _ (it.cL (h.at_ g) mv (λ_ _=>rfl) (fO.refl w))
 .rcases l j jt o with ⟨c,_⟩|⟨i,it,u,g,f⟩
  .rw [c] at hb;cases hb
  .rcases l k kt d with ⟨c,_⟩|⟨s,m,t,q,p⟩
   .rw [c] at a;cases a
   .by_cases e:i=s
    .subst e;exact v j k i n u t
    .exact h.sep i s it m g q e b (f.1 b hb) (p.1 b a)
def fG:Item:=aaF True
theorem Sat.pull(h:Sat Γ w){i:Nat}{it jt:Item}(hi:Γ[i]? =some it)(b:bR it jt):Sat (jt::Γ.set i fG) w:=by
 refine h.Az (λj k=>(j=0/\k=i)\/(j=k+1/\k≠i)) (λj kt a=>?_) (λj k q c f d=>by omega);cases j with
 |zero=>simp at a;subst a;exact .inr ⟨i,it,.inl ⟨rfl,rfl⟩,hi,b⟩
 |succ j=>
  simp only [cd] at a;by_cases e:j=i
  .subst e;rw [qD (List.getElem?_eq_some_iff.1 hi).1] at a;cases a;exact .inl ⟨rfl,λ_ _=>trivial⟩
  .rw [qs (λh=>e h.symm)] at a;exact .inr ⟨j,kt,.inr ⟨rfl,e⟩,a,bR.refl⟩
theorem Sat.As{A B:Ctx}{x:Item}(h:Sat (A++x::B) w):Sat (A++B) w:=by
 refine h.Az (λj k=>(j<A.length/\k=j)\/(A.length<=j/\k=j+1)) (λj jt a=>?_) (λj k q b d c=>by omega);by_cases e:j<A.length
 .rw [cb e] at a;exact .inr ⟨j,jt,.inl ⟨e,rfl⟩,by rw [cb e];exact a,bR.refl⟩
 .have e':A.length<=j:=by omega
  rw [b7 e'] at a;refine .inr ⟨j+1,jt,.inr ⟨e',rfl⟩,?_,bR.refl⟩;rw [b7 (by omega)];have:j+1-A.length=(j-A.length)+1:=by omega
  rw [this];simpa using a
theorem Sat.anQ{A B:Ctx}{x jt:Item}{k:Nat}(h:Sat (A++x::B.set k fG) w)(b:B[k]? =some jt)(f:bR x jt):Sat (A++B) w:=by
 have d:=(List.getElem?_eq_some_iff.1 b).1;refine h.Az (λj q=>(j<A.length/\q=j)\/(j=A.length+k/\q=A.length)\/(A.length<=j/\j≠A.length+k/\q=j+1)) (λj kt a=>?_) (λj k q g l i=>by omega);by_cases e:j<A.length
 .rw [cb e] at a;exact .inr ⟨j,kt,.inl ⟨e,rfl⟩,by rw [cb e];exact a,bR.refl⟩
 .have e':A.length<=j:=by omega
  rw [b7 e'] at a;by_cases c:j=A.length+k
  .subst c;rw [show A.length+k-A.length=k by omega,b] at a;cases a;exact .inr ⟨A.length,x,.inr (.inl ⟨rfl,rfl⟩),by simp,f⟩
  .refine .inr ⟨j+1,kt,.inr (.inr ⟨e',c,rfl⟩),?_,bR.refl⟩;rw [b7 (by omega)];have:j+1-A.length=(j-A.length)+1:=by omega
   rw [this,cd,qs (by omega)];exact a
theorem Sat.Dx{A B:Ctx}{x y:Item}(h:Sat (A++x::B) w)(b:bR x y):Sat (A++y::B) w:=by
 refine h.Az (λj k=>j=k) (λj jt a=>?_) (λj k q c g f=>by omega);by_cases e:j<A.length
 .rw [cb e] at a;exact .inr ⟨j,jt,rfl,by rw [cb e];exact a,bR.refl⟩
 .have e':A.length<=j:=by omega
  rw [b7 e'] at a;by_cases d:j=A.length
  .subst d;simp at a;subst a;exact .inr ⟨A.length,x,rfl,by simp,b⟩
  .refine .inr ⟨j,jt,rfl,?_,bR.refl⟩;rw [b7 e'];have:j-A.length=(j-A.length-1)+1:=by omega
   rw [this,cd] at a ⊢;exact a
theorem Sat.leL{A B C:Ctx}(h:Sat (A++(B++C)) w){c:Ctx}(d:eQ bR B c):Sat (A++(c++C)) w:=by
 induction d generalizing A with
 |nil=>exact h
 | @cons a b l m h1 _ ih=>
  have f:Sat (A++b::(l++C)) w:=h.Dx h1;have e:Sat ((A++[b])++(l++C)) w:=by simpa using f
  have:=ih e;simpa using this
def iz:wv->Ctx->Ctx
 |[],Γ=>Γ
 |none::l,Γ=>iz l Γ
 |some i::l,Γ=>(iz l Γ).set i fG
def Ndp:wv->Prop
 |[]=>True
 |none::l=>Ndp l
 |some i::l=>some i∉l/\Ndp l
theorem Wj:∀{l:wv} {Γ:Ctx},(iz l Γ).length=Γ.length
 |[],_=>rfl
 |none::l,Γ=>Wj (l:=l)
 |some j::l,Γ=>by show ((iz l Γ).set j fG).length=_;rw [tj,Wj]
theorem AN:∀{l:wv} {Γ:Ctx} {i:Nat},some i∉l->(iz l Γ)[i]? =Γ[i]?
 |[],_,_,_=>rfl
 |none::l,Γ,i,h=>AN (l:=l) (λa=>h (aW _ a))
 |some j::l,Γ,i,h=>by have e:j≠i:=λe=>h (by rw [e];exact b5 ..);show ((iz l Γ).set j fG)[i]? =_;rw [qs e];exact AN (λa=>h (aW _ a))
theorem Jf{x:Item}:∀{l:wv} {Γ:Ctx} {i:Nat},some i∉l->(iz l Γ).set i x=iz l (Γ.set i x)
 |[],_,_,_=>rfl
 |none::l,Γ,i,h=>Jf (l:=l) (λa=>h (aW _ a))
 |some j::l,Γ,i,h=>by have e:j≠i:=λe=>h (by rw [e];exact b5 ..);show ((iz l Γ).set j fG).set i x=(iz l (Γ.set i x)).set j fG;rw [List.set_comm _ _ e,Jf (λa=>h (aW _ a))]
def PI(Γ:Ctx)(w:World)(o:x4)(x:Bool×Item):Prop:=match o with
 |some i=>∃jt,Γ[i]? =some jt/\bR jt x.2
 |none=>x.2.own=[]/\x.2.P Γ.M w
abbrev dh(I:eI):Ctx:=I.map (·.2)
def eM(I:eI):Ctx:=I.map λx=>aA x.1 fG x.2
theorem vX(h:Sat Γ w):∀{L:wv} {I:eI},eQ (PI Γ w) L I->Ndp L->Sat (dh I++iz L Γ) w/\∀b,Ctx.M (dh I++iz L Γ) b->Γ.M b
 |_,_,.nil,_=>⟨h,λ_ h=>h⟩
 |_,_,.cons (a:=none) (b:=x) h1 hr,hd=>by
  obtain ⟨ih,c⟩:=vX h hr hd;refine ⟨ih.add h1.1 (x.2.cL h1.2 (Mv.weaken w c) (λ_ _=>rfl) (fO.refl w)),λb hb=>?_⟩;rcases Ctx.BY.1 hb with hb|hb
  .rw [h1.1] at hb;cases hb
  .exact c b hb
 |_,_,.cons (a:=some i) (b:=x) (l:=l) (m:=m) h1 hr,hd=>by
  obtain ⟨ih,c⟩:=vX h hr hd.2;obtain ⟨jt,g,f⟩:=h1;have hi:(dh m++iz l Γ)[(dh m).length+i]? =some jt:=by rw [b7 (by omega),show (dh m).length+i-(dh m).length=i by omega,AN hd.1];exact g
  have j:=ih.pull hi f;rw [qN _ _ (by omega),show (dh m).length+i-(dh m).length=i by omega] at j;refine ⟨j,λb hb=>?_⟩;rcases Ctx.BY.1 hb with hb|hb
  .exact Ctx.iJ g (f.1 b hb)
  .obtain ⟨it,d,e⟩:=hb;refine c b ?_;rcases List.mem_append.1 d with d|d
   .exact ⟨it,qH _ d,e⟩
   .rcases List.mem_or_eq_of_mem_set d with d|d
    .exact ⟨it,ed _ d,e⟩
    .subst d;cases e
def xk:wv->eI->wv
 |o::L,x::I=>(aA x.1 o none)::xk L I
 |_,_=>[]
def Bo(Γ:Ctx)(o:x4)(x:Bool×Item):Prop:=match o with
 |some i=>∃jt,Γ[i]? =some jt/\(x.1=false->bR x.2 jt)
 |none=>True
theorem Bo.set{Γ:Ctx}{i:Nat}{y:Item}:∀{L:wv} {I:eI},eQ (Bo Γ) L I->some i∉L->eQ (Bo (Γ.set i y)) L I
 |_,_,.nil,_=> .nil
 |_,_,.cons (a:=none) h1 hr,hn=> .cons trivial (Bo.set hr (λh=>hn (aW _ h)))
 |_,_,.cons (a:=some j) h1 hr,hn=>by obtain ⟨jt,c,b⟩:=h1;have e:i≠j:=λe=>hn (by rw [e];exact b5 ..);exact .cons ⟨jt,by rw [qs e];exact c,b⟩ (Bo.set hr (λh=>hn (aW _ h)))
theorem Uu{i:Nat}:∀{L:wv} {I:eI},some i∈xk L I->some i∈L
 |[],_,h=>by cases h
 |o::L,[],h=>by cases h
 |o::L,x::I,h=>by
  rcases List.mem_cons.1 h with h|h
  .cases hx:x.1
   .rw [hx] at h;cases h
   .rw [hx] at h;exact h▸b5 ..
  .exact aW _ (Uu h)
theorem Gm{A:Ctx}:∀{L:wv} {I:eI} {Γ:Ctx},eQ (Bo Γ) L I->Ndp L->Sat (A++(eM I++iz L Γ)) w->Sat (A++iz (xk L I) Γ) w
 |_,_,_,.nil,_,h=>h
 |_,_,_,.cons (a:=none) (b:=x) (l:=l) (m:=m) h1 hr,hd,h=>by
  have c:Sat (A++(eM m++iz l _)) w:=Sat.As h;have:=Gm hr hd c;cases hx:x.1 <;> simpa [xk,hx,iz] using this
 |_,_,Γ,.cons (a:=some i) (b:=x) (l:=l) (m:=m) h1 hr,hd,h=>by
  obtain ⟨jt,f,e⟩:=h1;cases hx:x.1
  .have d:eM (x::m)++iz (some i::l) Γ=x.2::(eM m++iz l Γ).set (m.length+i) fG:=by show (aA x.1 fG x.2)::(eM m++(iz l Γ).set i fG)=_;rw [hx,qN _ _ (by simp [eM])];simp [eM]
   rw [d] at h;have c:=h.anQ (jt:=jt) (by
    rw [b7 (by simp [eM])];have:m.length+i-(eM m).length=i:=by simp [eM]
    rw [this,AN hd.1];exact f) (e hx)
   have:=Gm hr hd.2 c;simpa [xk,hx,iz] using this
  .have d:eM (x::m)++iz (some i::l) Γ=fG::(eM m++iz l (Γ.set i fG)):=by show (aA x.1 fG x.2)::(eM m++(iz l Γ).set i fG)=_;rw [hx,Jf hd.1]
   rw [d] at h;have c:=Sat.As h;have:=Gm (Bo.set hr hd.1) hd.2 c;rw [<-Jf (λh=>hd.1 (Uu h))] at this;simpa [xk,hx,iz] using this
end
def di(G H:List Row)(s:Src):x4:=match s with
 | .top i=>(match G[i]? with
  |some r=>aA r.cG none (some i)
  |none=>none)
 | .cu i=>(match H[i]? with
  |some r=>aA r.cG none (some (G.length+i))
  |none=>none)
 |_=>none
def jB(n:Nat):wv->Bool
 |[]=>false
 |o::l=>(match o with
  |some m=>Nat.beq n m
  |none=>false)||jB n l
theorem RA{n:Nat}:{l:wv}->(jB n l=true↔some n∈l)
 |[]=>by simp [jB]
 |none::l=>by simp [jB,RA]
 |some m::l=>by simp only [jB,c9,qF,b8];rw [RA,Nat.beq_eq]
def A6:wv->Bool
 |[]=>true
 |o::l=>(match o with
  |some i=> !(jB i l)
  |none=>true)&&A6 l
theorem wF:{l:wv}->A6 l=true->Ndp l
 |[],_=>trivial
 |none::l,h=>by
  simp only [A6,qk] at h;exact wF (l:=l) h
 |some i::l,h=>by simp only [A6,ae,gj] at h;exact ⟨(λa=>by rw [RA.2 a] at h;cases h.1),wF h.2⟩
section
variable {ρ : ay} {T : aC} {G H : List Row} {Φ : Ctx} {w : World}
theorem Src.pos{s:Src}{r:Row}(h:s.at_ G H r)(hp:r.cG=false):∃i,di G H s=some i/\(ab ρ T G++(ab ρ T H++Φ))[i]? =some (r.item ρ T):=by
 cases s with
 |top i=>
  have h:G[i]? =some r:=h;exact ⟨i,by simp only [di,h,hp],fj h⟩
 |cu i=>
  have h:H[i]? =some r:=h;exact ⟨G.length+i,by simp only [di,h,hp],YH h⟩
 |nilI=>exact h.elim
 |nilO=>exact h.elim
 |nilM=>exact h.elim
theorem Src.arh{s:Src}{r:Row}(h:s.at_ G H r)(hp:r.cG=true):di G H s=none:=by
 cases s with
 |top i=>
  have h:G[i]? =some r:=h;simp only [di,h,hp]
 |cu i=>
  have h:H[i]? =some r:=h;simp only [di,h,hp]
 |nilI=>exact h.elim
 |nilO=>exact h.elim
 |nilM=>exact h.elim
theorem Src.aro{s:Src}(h:∀r,¬s.at_ G H r):di G H s=none:=by
 cases s with
 |top i=>
  cases a:G[i]? with
  |none=>simp only [di,a]
  |some r=>exact (h r a).elim
 |cu i=>
  cases a:H[i]? with
  |none=>simp only [di,a]
  |some r=>exact (h r a).elim
 |nilI=>rfl
 |nilO=>rfl
 |nilM=>rfl
theorem Nn(m:Sat (ab ρ T G++(ab ρ T H++Φ)) w):∀{S:List (Bool×Src)} {I:eI},eQ (SI ρ T G H) S I->eQ (PI (ab ρ T G++(ab ρ T H++Φ)) w) (S.map λx=>di G H x.2) I/\eQ (Bo (ab ρ T G++(ab ρ T H++Φ))) (S.map λx=>di G H x.2) I
 |_,_,.nil=>⟨.nil,.nil⟩
 |_,_,.cons (a:=a) (b:=x) h1 hr=>by
  obtain ⟨j,h⟩:=Nn m hr;obtain ⟨e,o⟩:=h1;rcases o with ⟨d,f,g⟩|⟨r,d,f,g,n⟩
  .have hp:=Src.aro g;refine ⟨.cons ?_ j,.cons ?_ h⟩
   .show PI _ _ (di G H a.2) x;rw [hp];exact ⟨d,f _ _⟩
   .show Bo _ (di G H a.2) x;rw [hp];trivial
  .cases c:r.cG
   .obtain ⟨i,l,k⟩:=Src.pos (ρ:=ρ) (T:=T) (Φ:=Φ) d c;refine ⟨.cons ?_ j,.cons ?_ h⟩
    .show PI _ _ (di G H a.2) x;rw [l];exact ⟨_,k,f⟩
    .show Bo _ (di G H a.2) x;rw [l];exact ⟨_,k,λ_=>n c⟩
   .have hp:=Src.arh d c;refine ⟨.cons ?_ j,.cons ?_ h⟩
    .show PI _ _ (di G H a.2) x;rw [hp];exact ⟨g c,f.2 _ _ (Src.holds m d)⟩
    .show Bo _ (di G H a.2) x;rw [hp];trivial
def pz(is:wv):Nat->List Row->List Row
 |_,[]=>[]
 |k,r::G=>(aA (jB k is) .gone r)::pz is (k+1) G
def jP:List Row->List Row
 |[]=>[]
 |r::G=>(match r with
  | .gone=>jP G
  |r=>r::jP G)
theorem DH{B:Ctx}:∀{G:List Row} {A:Ctx},Sat (A++(ab ρ T G++B)) w->Sat (A++(ab ρ T (jP G)++B)) w
 |[],_,h=>h
 |r::G,A,h=>by
  unfold jP;split
  .exact DH (G:=G) (Sat.As h)
  .have a:Sat ((A++[r.item ρ T])++(ab ρ T G++B)) w:=by simpa [ab] using h
   have:=DH (G:=G) a;simpa [ab] using this
theorem PN{L:wv}:∀{G:List Row} {k:Nat},ab ρ T (pz L k G)=(ab ρ T G).mapIdx λi it=>aA (jB (k+i) L) fG it
 |[],_=>rfl
 |r::G,k=>by
  simp only [pz,ab,c5,List.mapIdx_cons];have:=PN (L:=L) (G:=G) (k:=k+1);simp only [ab] at this;rw [this];congr 1
  .simp only [qn];cases jB k L <;> rfl
  .congr 1
   funext i it
   rw [Nat.add_right_comm,qx]
theorem acL:∀{L:wv} {Γ:Ctx} {j:Nat},(iz L Γ)[j]? =(Γ[j]?).map λit=>aA (jB j L) fG it
 |[],Γ,j=>by
  show Γ[j]? =_;cases Γ[j]? <;> rfl
 |none::l,Γ,j=>acL (L:=l)
 |some i::l,Γ,j=>by
  show ((iz l Γ).set i fG)[j]? =_;by_cases e:i=j
  .subst e;rw [q7];have a:(iz l Γ).length=Γ.length:=Wj;have c:jB i (some i::l)=true:=by simp [jB]
   rw [c];simp only [qt,a];by_cases hi:i<Γ.length
   .rw [b9 hi];simp [hi]
   .rw [lk (by omega)];simp [hi]
  .rw [qs e,acL (L:=l)];have b:Nat.beq j i=false:=by
    cases hb:Nat.beq j i
    .rfl
    .exact absurd (ah hb).symm e
   simp [jB,b]
end
structure aq where
 f:FuncId
 ps:List Pt
 r:Pt
 os:List (Bool×Nat×Pt)
 m:ew (my ps)->Option (ew (lQ r++gr os))
def am1:Ty->vB->Nat×vB
 | .p a b,o=>match am1 a o with
  |(n,o)=>match am1 b o with
   |(m,o)=>(n+m,o)
 | .l _,o=>(1,o.tail)
 | .ex,o=>(1,o.tail)
 |_,o=>(0,o)
mutual
def agP:Pt->Nat
 | .sli _|.own _ _ _|.mp _ _ _|.it=>1
 | .bx _ _ _ vs=>Sg vs+1
 | .agg l|.cB l=>Sg l
 | .fn _ a b=>Sg a+Sg b
 | .ifc _ p=>agP p
 | .sty p=>agP p
 | .dat t o=>(am1 t o).1
 |_=>0
def Sg:List Pt->Nat
 |[]=>0
 |p::l=>agP p+Sg l
end
def ixN:List Pt->Nat->Nat
 |p::l,i+1=>agP p+ixN l i
 |_,_=>0
def Ns(X:jh)(n:Nat):xu:=match X with
 |[]=>[]
 |x::X=>aA (Nat.beq x.1 n) x.2 (Ns X n)
def Cl(X:List (Nat×List AV))(n:Nat):List AV:=match X with
 |[]=>[]
 |x::X=>aA (Nat.beq x.1 n) x.2 (Cl X n)
theorem Ec{ρ:ay}{n:Nat}:{X:List (Nat×List AV)}->Ns (dF ρ X) n=AV.ao ρ (Cl X n)
 |[]=>by simp [Ns,Cl,AV.ao]
 |x::X=>by
  show (aA (Nat.beq x.1 n) (AV.ao ρ x.2) (Ns (dF ρ X) n))=AV.ao ρ (aA (Nat.beq x.1 n) x.2 (Cl X n));cases Nat.beq x.1 n
  .exact Ec
  .rfl
def Vj(N:List Nm)(ps:List Pt)(vs:xu)(X:jh)(i:Nat):Fx:=aA (Nat.ble 1000 i) ((N[i-1000]?).map λa=>(.pointer (some ⟨a.b,0,none⟩),Ns X (i-1000))) ((vs[i]?).map λv=>(v,Ns X (ixN ps i)))
def vM(B:wv)(ps:List Pt)(vs:List AV)(X:List (Nat×List AV))(i:Nat):gz:=aA (Nat.ble 1000 i) (match B[i-1000]? with
 |some (some j)=>some (.ptr j 0,Cl X (i-1000))
 |some none=>some (.gp 0,Cl X (i-1000))
 |none=>none) (match vs[i]? with
 |some v=>some (v,Cl X (ixN ps i))
 |none=>none)
theorem V2{ρ:ay}:{l:List AV}->{i:Nat}->(AV.ao ρ l)[i]? =(l[i]?).map (AV.val ρ)
 |[],i=>by simp [AV.ao]
 |v::l,0=>by simp [AV.ao]
 |v::l,i+1=>by simp only [AV.ao,cd];exact V2
theorem afD{ρ:ay}{B:wv}(c:NB ρ B N){ps:List Pt}{vs:List AV}{X:List (Nat×List AV)}{i:Nat}:Vj N ps (AV.ao ρ vs) (dF ρ X) i=eZ ρ (vM B ps vs X i):=by
 unfold Vj vM;cases Nat.ble 1000 i
 .simp only [aA];rw [V2];cases vs[i]? with
  |none=>rfl
  |some v=>simp [Ec]
 .simp only [aA];cases hb:B[i-1000]? with
  |none=>
   have:N[i-1000]? =none:=by rw [List.getElem?_eq_none_iff] at hb ⊢;rw [<-c.length];exact hb
   rw [this];rfl
  |some o=>
   obtain ⟨a,e,d⟩:=c.get hb;rw [e];cases o with
   |none=>
    have:a.b=0:=d.1;simp [Ec,AV.val,this]
   |some j=>
    have:a.b=(ρ j).b:=d.1;simp [Ec,AV.val,this]
def aq.Ok(P:Program)(Γg:Ctx)(e:aq):Prop:=Enters P e.f/\∀s r,e.m s=some r->∀(vs:xu) (N:List Nm) (I:eI) (X:jh) (Φ:Ctx) (w:World),
 tT e.ps vs [] [] [] (fM _ s) I X N->Sat (dh I++Φ) w->(∀it∈Γg,it∈Φ)->
 fB P e.f vs w λv w'=>∃(N1 N2:List Nm) (D1 D2:List bY) (I1 I2:eI) (X1 X2:jh),Sem e.r v none none N D1 I1 X1 N1/\EH (Vj N e.ps vs X) (λi=>vs[i]?) e.os N1 D2 I2 X2 N2/\D1++D2=fM _ r/\
  Sat ((dh I1++dh I2)++(eM I++Φ)) w'
def cellsOf(G H:List Row)(j:Nat):List AV:=match dJ G H (wZ j) with
 |some (_,.box _ _ cs)=>cs
 |_=>[]
def al8:(t:Ty)->List AV->vB->za×List AV×vB
 | .i _,vs,o|.bo,vs,o|.s,vs,o=>([],vs.tail,o)
 | .p a b,vs,o=>match al8 a vs o with
  |(i,vs,o)=>match al8 b vs o with
   |(j,vs,o)=>(i++j,vs,o)
 | .l _,vs,o=>(match o with
  |none::_=>(match vs with
   |v::_=>v.ej
   |[]=>[])
  |_=>[],vs.tail,o.tail)
 | .ex,vs,o=>(match o with
  |none::_=>(match vs with
   |_::_::_::v::_=>v.ej
   |_=>[])
  |_=>[],vs.drop 4,o.tail)
 |_,vs,o=>([],vs,o)
mutual
def rP(G H:List Row):Pt->AV->za
 | .sli _,v=>v.ej
 | .bx _ _ _ vs,v=>(match v with
  | .ptr j _=>dP G H vs (cellsOf G H j)
  |_=>[])
 | .agg l,v=>(match v with
  | .agg vs=>dP G H l vs
  |_=>[])
 | .cB l,v=>(match v with
  | .tuple vs=>dP G H l vs
  |_=>[])
 | .fn _ a b,v=>(match v with
  | .fn _ a' b'=>dP G H a a'++dP G H b b'
  |_=>[])
 | .sty p,v=>rP G H p v
 | .ifc _ p,v=>(match v with
  | .ifc _ u=>rP G H p u
  |_=>[])
 | .dat t o,v=>(match v with
  | .agg cs=>(al8 t cs o).1
  |_=>[])
 |_,_=>[]
def dP(G H:List Row):List Pt->List AV->za
 |[],_=>[]
 |p::l,vs=>(match vs with
  |v::vs=>rP G H p (sf G H v)++dP G H l vs
  |[]=>[])
end
def uQ(T:aC)(g:GK):List Row->List Row
 |[]=>[]
 |r::G=>(match r with
  | .sli (some k) id t l b=> .sli (aA (T.imp g (some k)) none (some k)) id t l b
  |r=>r)::uQ T g G
def Aa(g:GK)(r:Row):Row:=match g with
 |none=>r
 |some g=>(match r with
  | .sli none id t l b=> .sli (some g) id t l b
  | .own id t _ l _=> .sli (some g) id t l false
  |r=>r)
def slB:Row->Bool
 | .sli none _ _ _ _|.own .. =>true
 |_=>false
def V7:List (Bool×Row)->Bool
 |[]=>true
 |x::l=>slB x.2&&V7 l
def rL(B:wv)(c:Nat)(n:Nat):Nat:=match B[n]? with
 |some (some j)=>j
 |_=>c+n
def Pz(c:Nat):wv->Bool
 |[]=>true
 |o::l=>(match o with
  |some j=>Nat.blt j c
  |none=>true)&&Pz c l
theorem acz{ρ ρ':ay}{c:Nat}(ha:aT c ρ ρ'):{B:wv}->{N:List Nm}->Pz c B=true->NB ρ B N->NB ρ' B N
 |[],_,_,h=>by cases h;exact .nil
 |o::B,_,hB,h=>by
  cases h with
  |cons a d=>
   simp only [Pz,ae] at hB;refine .cons ?_ (acz ha hB.2 d);cases o with
   |none=>exact a
   |some j=>
    have b:j<c:=by simpa using hB.1
    have e:=ha j b;show _/\_/\_;rw [e];exact a
def R3(c:Nat):List (Nat×List AV)->Bool
 |[]=>true
 |x::l=>AV.bW c x.2&&R3 c l
def xQ(G H:List Row):List (Bool×Src)->wv
 |[]=>[]
 |x::S=>(aA x.1 (di G H x.2) none)::xQ G H S
def OK(n:Nat):wv->Bool
 |[]=>true
 |o::l=>(match o with
  |some i=>Nat.blt i n
  |none=>true)&&OK n l
def SJ:wv->Bool
 |[]=>true
 |o::l=>(match o with
  |some _=>false
  |none=>true)&&SJ l
def Nt{R:Type}(_fr:Fr)(st:aD)(g:GK)(d:x5)(args:List AV)(e:aq)(mr:MR)(G1:List Row)(K:cC R)(r:ew (lQ e.r++gr e.os)):Option R:=
 match fill (rL mr.B st.c) e.r none none mr.B.length (fM _ r) with
 |⟨v,R1,k,D,_⟩=>match eY (rL mr.B st.c) (vM mr.B e.ps args mr.X) e.os k D with
  |⟨_,R2,k,_⟩=>aA (match g with|none=>true|some _=>V7 R1) (K { st with c:=st.c+k,E:=ct d g v st.E,G:=(R1++R2).map (λx=>Aa g x.2)++G1 }) none
def ag4{R:Type}(T:aC)(fr:Fr)(st:aD)(g:GK)(d:x5)(args:List AV)(e:aq)(K:cC R):Option (Option R):=
 match g with
 |none=>(match GQ (cu (dP st.G fr.H e.ps args) st.G) fr.H e.ps args [] [] [] with
  |some mr=>aA (A6 (mr.S.map λx=>di (cu (dP st.G fr.H e.ps args) st.G) fr.H x.2)&&OK (cu (dP st.G fr.H e.ps args) st.G).length (xQ (cu (dP st.G fr.H e.ps args) st.G) fr.H mr.S)&&Pz st.c mr.B&&AV.bW st.c args&&R3 st.c mr.X&&pr (vM mr.B e.ps args mr.X) e.os) (match cB (my e.ps) mr.D with
   |some s=>some ((e.m s).bind (Nt fr st none d args e mr (jP (pz (xQ (cu (dP st.G fr.H e.ps args) st.G) fr.H mr.S) 0 (cu (dP st.G fr.H e.ps args) st.G))) K))
   |none=>none) none
  |none=>none)
 |some gk=>(match GQ (uQ T (some gk) (cu (dP st.G fr.H e.ps args) st.G)) (uQ T (some gk) fr.H) e.ps args [] [] [] with
  |some mr=>aA (A6 (mr.S.map λx=>di (uQ T (some gk) (cu (dP st.G fr.H e.ps args) st.G)) (uQ T (some gk) fr.H) x.2)&&SJ (xQ (uQ T (some gk) (cu (dP st.G fr.H e.ps args) st.G)) (uQ T (some gk) fr.H) mr.S)&&e.os.isEmpty&&Pz st.c mr.B&&AV.bW st.c args&&R3 st.c mr.X&&pr (vM mr.B e.ps args mr.X) e.os) (match cB (my e.ps) mr.D with
   |some s=>some (bw (T.get (some gk)) (ahf _) (e.m s) (Nt fr st (some gk) d args e mr (cu (dP st.G fr.H e.ps args) st.G) K))
   |none=>none) none
  |none=>none)
def vn{R:Type}(T:aC)(fr:Fr)(st:aD)(g:GK)(d:x5)(f:FuncId)(args:List AV)(K:cC R):List aq->Option R
 |[]=>none
 |e::tb=>aA (Nat.beq e.f f) (match ag4 T fr st g d args e K with
   |some r=>r
   |none=>vn T fr st g d f args K tb) (vn T fr st g d f args K tb)
section
variable {ρ : ay} {T : aC} {G H : List Row} {Φ : Ctx} {w : World}
theorem QE{s:Src}{i:Nat}(h:di G H s=some i):i<G.length+H.length:=by
 cases s with
 |top j=>
  simp only [di] at h;split at h
  next r a=>obtain ⟨_,b⟩:=Nb h;cases b;have:=(List.getElem?_eq_some_iff.1 a).1;omega
  .cases h
 |cu j=>
  simp only [di] at h;split at h
  next r a=>obtain ⟨_,b⟩:=Nb h;cases b;have:=(List.getElem?_eq_some_iff.1 a).1;omega
  .cases h
 |nilI=>cases h
 |nilO=>cases h
 |nilM=>cases h
theorem Ra:∀{S:List (Bool×Src)} {I:eI},eQ (SI ρ T G H) S I->xk (S.map λx=>di G H x.2) I=xQ G H S
 |_,_,.nil=>rfl
 |_,_,.cons (a:=a) (b:=x) h1 hr=>by show (aA x.1 (di G H a.2) none)::xk _ _=(aA a.1 (di G H a.2) none)::_;rw [Ra hr,h1.1]
theorem W6{n:Nat}:∀{L:wv} {j:Nat},OK n L=true->jB j L=true->j<n
 |[],j,h,a=>by cases a
 |none::l,j,h,a=>by
  simp only [OK,qk] at h;simp only [jB,ql] at a;exact W6 h a
 |some i::l,j,h,a=>by
  simp only [OK,ae,gy] at h;simp only [jB,c9] at a;rcases a with a|a
  .rw [ah a];exact h.1
  .exact W6 h.2 a
theorem Ca{L:wv}{Δ:Ctx}(h:OK G.length L=true):iz L (ab ρ T G++Δ)=ab ρ T (pz L 0 G)++Δ:=by
 apply qv;intro j;rw [acL,PN];by_cases a:j<G.length
 .rw [cb (by simpa [ab] using a),cb (by simpa [ab] using a),List.getElem?_mapIdx];simp
 .have e:jB j L=false:=by
   cases b:jB j L
   .rfl
   .exact absurd (W6 h b) a
  rw [b7 (by simp [ab];omega),b7 (by simp [ab];omega),e];have c:(ab ρ T G).length=((ab ρ T G).mapIdx λi it=>aA (jB (0+i) L) fG it).length:=by simp
  rw [<-c];cases Δ[j-(ab ρ T G).length]? <;> rfl
theorem abP:∀{L:wv} {Γ:Ctx},SJ L=true->iz L Γ=Γ
 |[],_,_=>rfl
 |none::l,Γ,h=>by
  simp only [SJ,qk] at h;exact abP (L:=l) h
 |some i::l,Γ,h=>by simp [SJ] at h
theorem RD{g:GK}(d:T.get g=true){B:Ctx}:∀{G:List Row} {A:Ctx},Sat (A++(ab ρ T G++B)) w->Sat (A++(ab ρ T (uQ T g G)++B)) w
 |[],_,h=>h
 |r::G,A,h=>by
  have a:∀c:Row,bR (r.item ρ T) (c.item ρ T)->Sat (A++(ab ρ T (c::uQ T g G)++B)) w:=λc e=>by
   have f:Sat (A++c.item ρ T::(ab ρ T G++B)) w:=Sat.Dx h e;have i:Sat ((A++[c.item ρ T])++(ab ρ T G++B)) w:=by simpa [ab] using f
   have:=RD d (G:=G) i;simpa [ab] using this
  unfold uQ;split
  .rename_i k id t l b;refine a _ ?_;cases hi:T.imp g (some k)
   .exact bR.refl
   .refine ⟨λ_ h=>h,λM w h _=>h (aC.jK hi d)⟩
  .exact a _ bR.refl
theorem We{g:GK}:∀{G:List Row},eQ bR (ab ρ T (uQ T g G)) (ab ρ T G)
 |[]=> .nil
 |r::G=>by
  show eQ bR (ab ρ T (uQ T g (r::G))) (r.item ρ T::ab ρ T G);unfold uQ;refine .cons ?_ We;split
  .rename_i k id t l b;cases hi:T.imp g (some k)
   .exact bR.refl
   .exact ⟨λ_ h=>h,λM w h _=>h aC.get_none⟩
  .exact bR.refl
theorem acD{g:Nat×Bool}{B:Ctx}:∀{R:List (Bool×Row)} {A:Ctx},V7 R=true->Sat (A++(ab ρ T (R.map (·.2))++B)) w->Sat (A++(ab ρ T (R.map λx=>Aa (some g) x.2)++B)) w
 |[],_,_,h=>h
 |(m,r)::R,A,hb,h=>by
  simp only [V7,ae] at hb;have c:Sat (A++(Aa (some g) r).item ρ T::(ab ρ T (R.map (·.2))++B)) w:=by
   have d:Sat (A++r.item ρ T::(ab ρ T (R.map (·.2))++B)) w:=h;cases r with
   |sli k id t l b=>
    cases k with
    |none=>exact d.Dx ⟨λ_ h=>h,λM w h _=>h aC.get_none⟩
    |some k=>simp [slB] at hb
   |own id t e l a=>
    have hi:(A++(Row.own id t e l a).item ρ T::(ab ρ T (R.map (·.2))++B))[A.length]? =some (mQ t.rep e (ρ id).v l ((ρ a).y=⟨.l t,l⟩)):=by simp [Row.item]
    have i:=d.ng hi (new:=(Aa (some g) (Row.own id t e l a)).item ρ T) ((Ext.refl w).rK _) (λb hb=>by cases hb) (λM' m f=>λ_=>⟨(d.at_ hi).1.freeze (λb hb=>f b hb (λhb=>by cases hb)) m,λhb=>by cases hb⟩);simpa using i
   |_=>simp [slB] at hb
  have j:Sat ((A++[(Aa (some g) r).item ρ T])++(ab ρ T (R.map (·.2))++B)) w:=by simpa using c
  have:=acD (g:=g) hb.2 j;simpa [ab] using this
theorem Im{g:Nat×Bool}(a:T.get (some g)=false):∀{R:List (Bool×Row)},V7 R=true->∀it∈ab ρ T (R.map λx=>Aa (some g) x.2),it.cG=true/\∀M w,it.P M w
 |[],_,it,h=>by cases h
 |(m,r)::R,hb,it,h=>by
  simp only [V7,ae] at hb;rw [c5,ab,c5] at h;rcases List.mem_cons.1 h with rfl|h
  .cases r with
   |sli k id t l b=>
    cases k with
    |none=>exact ⟨rfl,λM w h=>by rw [a] at h;cases h⟩
    |some k=>simp [slB] at hb
   |own id t e l c=>exact ⟨rfl,λM w h=>by rw [a] at h;cases h⟩
   |_=>simp [slB] at hb
  .exact Im a hb.2 it h
theorem eQ.rw{R:List (Bool×Row)}{I:eI}(h:eQ (RwI ρ T) R I):eQ bR (dh I) (ab ρ T (R.map (·.2))):=by
 induction h with
 |nil=>exact .nil
 |cons a _ ih=>exact .cons a.2.1 ih
theorem US{R:List (Bool×Row)}:(R.map λx=>Aa none x.2)=R.map (·.2):=rfl
theorem YT{N2:List Nm}{B:wv}{c:Nat}(p:NB ρ B N)(hp:vj N N2)(q:Pz c B=true):
  vh (λi=>aA (Nat.blt i c) (ρ i) ((N2[i-c]?).getD cO)) (rL B c) B.length N2:=by
 intro i a ha;have e:∀n,(aA (Nat.blt (c+n) c) (ρ (c+n)) ((N2[c+n-c]?).getD cO))=(N2[n]?).getD cO:=λn=>by
  have:Nat.blt (c+n) c=false:=by
   cases hb:Nat.blt (c+n) c
   .rfl
   .simp only [gy] at hb;omega
  rw [this,show c+n-c=n by omega]
 unfold rL;split
 .rename_i j d;obtain ⟨s,r,f⟩:=p.get d;have k:=hp.at_ r;rw [ha] at k;cases k;have b:Nat.blt j c=true:=by
   have key:∀(B:wv) (i:Nat),Pz c B=true->B[i]? =some (some j)->Nat.blt j c=true:=λB=>by
    induction B with
    |nil=>intro i _ h;simp at h
    |cons o l ih=>
     intro i h g;simp only [Pz,ae] at h;cases i with
     |zero=>simp at g;subst g;exact h.1
     |succ i=>exact ih i h.2 (by simpa using g)
   exact key B i q d
  simp only [b];refine ⟨f.1.symm,f.2.1.symm,f.2.2.symm,λm=>?_⟩;have:=(List.getElem?_eq_some_iff.1 d).1;omega
 .simp only [e,ha,qA];exact ⟨trivial,trivial,trivial,λ_=>trivial⟩
theorem abg{ρ':ay}{c:Nat}(ha:aT c ρ ρ'):{X:List (Nat×List AV)}->R3 c X=true->dF ρ' X=dF ρ X
 |[],_=>rfl
 |x::X,h=>by simp only [R3,ae] at h;show (x.1,AV.ao ρ' x.2)::dF ρ' X=(x.1,AV.ao ρ x.2)::dF ρ X;rw [AV.bS ha _ h.1,abg ha h.2]
end
section
variable {P : Program} {R : Type} {r : R} {K : cC R} {T : aC} {fr : Fr} {st : aD} {g : GK} {d : x5} {ρ : ay} {Φ Γg : Ctx} {w : World} {ty : TypeId} {pos : String} {af : x8} {gd : v7}
theorem KZ{e:aq}{args:List AV}{a:MR}{l:List Row}{q:ew (lQ e.r++gr e.os)}{v:Value}{w':World}{N1 N2:List Nm}{E p:List bY}{D n:eI}{X1 V:jh}
  (hl:st.low fr=true) (I:bC st.c l=true) (G:NB ρ a.B N) (Z:Pz st.c a.B=true) (hA:AV.bW st.c args=true) (hX:R3 st.c a.X=true) (hF:pr (vM a.B e.ps args a.X) e.os=true)
  (h1:Sem e.r v none none N E D X1 N1) (y:EH (Vj N e.ps (AV.ao ρ args) (dF ρ a.X)) (λi=>(AV.ao ρ args)[i]?) e.os N1 p n V N2) (hD:E++p=fM _ q)
  (hg:T.get g=true) (hs:Sat ((dh D++dh n)++(ab ρ T l++(ab ρ T fr.H++Φ))) w') (f:g=none\/e.os=[]) (h:Nt fr st g d args e a l K q=some r):aV r K T fr st g d ρ Φ v w':=by
 have u:=s4 _ _ _ _ _ _ _ _ _ h1;have t:=Qi _ _ _ _ _ _ y;have m:=YT (N2:=N2) G (u.trans t) Z;have b:aT st.c ρ (λi=>aA (Nat.blt i st.c) (ρ i) ((N2[i-st.c]?).getD cO)):=λj hj=>by
  have:Nat.blt j st.c=true:=by simpa using hj
  simp only [this]
 generalize hρ:(λi=>aA (Nat.blt i st.c) (ρ i) ((N2[i-st.c]?).getD cO))=ρ' at m b;have w:a.B.length=N.length:=G.length;obtain ⟨U,S,Q,a4,P⟩:=AK (T:=T) e.r v none none N E D X1 N1 h1 (Fe _) (m.pre t) (by omega) p;have J:EH (λi=>eZ ρ' (vM a.B e.ps args a.X i)) (λi=>(AV.ao ρ args)[i]?) e.os N1 p n V N2:=by
  have e1:(λi=>eZ ρ' (vM a.B e.ps args a.X i))=Vj N e.ps (AV.ao ρ args) (dF ρ a.X):=by
   funext i
   rw [<-AV.bS b _ hA,<-abg b hX,afD (acz b Z G)]
  rw [e1];exact y
 obtain ⟨b1,O,M,o⟩:=QP (T:=T) e.os N1 p n V N2 J hF m (cg (by omega) u.len) [];unfold Nt at h;rw [<-hD,w] at h;generalize fill (rL a.B st.c) e.r none none N.length (E++p)=L at U S Q a4 P h;obtain ⟨v',z,k,DD,XX⟩:=L;simp only at U S Q a4 P;subst S;subst Q;dsimp only at h;rw [la] at b1 O M o;generalize eY (rL a.B st.c) (vM a.B e.ps args a.X) e.os N1.length DD=L at b1 O M o h;obtain ⟨E2,W,Y,DD2⟩:=L;simp only at O M o;dsimp only at h;obtain ⟨c1,c2⟩:=aI h;refine aV.new (ρ':=ρ') hl c2 b (by simp) rfl U ?_;have s:Sat ((ab ρ' T (z.map (·.2))++ab ρ' T (W.map (·.2)))++(ab ρ T l++(ab ρ T fr.H++Φ))) w':=by have k1:=Sat.leL (A:=[]) (B:=dh D) (C:=dh n++(ab ρ T l++(ab ρ T fr.H++Φ))) (by simpa using hs) P.rw;have Y:=Sat.leL (A:=ab ρ' T (z.map (·.2))) (B:=dh n) (C:=ab ρ T l++(ab ρ T fr.H++Φ)) k1 o.rw;simpa using Y
 have e3:=bf (T:=T) b I;show Sat (ab ρ' T ((z++W).map (λx=>Aa g x.2)++l)++(ab ρ T fr.H++Φ)) w';rw [bk,e3,qV,bk];cases g with
 |none=>
  rw [US,US];simpa using s
 |some gk=>
  rcases f with f|f
  .cases f
  .have F:W=[]:=by
    have hI:n=[]:=by rw [f] at y;exact y.2.1
    rw [hI] at o;cases o;rfl
   subst F;have k3:=acD (g:=gk) (A:=[]) (R:=z) (B:=ab ρ T l++(ab ρ T fr.H++Φ)) c1 (by simpa using s);simpa using k3
theorem ajf{e:aq}{op:Op}{args:List AV}(hl:st.low fr=true)(t:Sat (ab ρ T st.G++(ab ρ T fr.H++Φ)) w)(he:e.Ok P Γg)(hΓ:∀it∈Γg,it∈Φ)
  (ent:T.get g=true->∀n j,Fits n (au ρ T st.E fr.F) j->(execOp j.eval ⟨d,op,ty,pos,af,gd⟩).run P w= .ok (.enter e.f (AV.ao ρ args).toArray) w) (h:ag4 T fr st g d args e K=some (some r)):
  iI P T g (au ρ T st.E fr.F) ⟨d,op,ty,pos,af,gd⟩ w (aV r K T fr st g d ρ Φ):=by
 have hGl:=pC (ids:=dP st.G fr.H e.ps args) (aD.cD.1 hl).2.2.1;replace t:=iR (ids:=dP st.G fr.H e.ps args) t
 -- what is lent, taken and handed back
 have key:∀(p o:List Row) (a:MR) (s:ew (my e.ps)) (q:ew (lQ e.r++gr e.os)),Sat (ab ρ T p++(ab ρ T o++Φ)) w->GQ p o e.ps args [] [] []=some a->A6 (a.S.map λx=>di p o x.2)=true->
   cB (my e.ps) a.D=some s->e.m s=some q->fB P e.f (AV.ao ρ args) w λv w'=>∃(N N1 N2:List Nm) (U R:List bY) (Q O:eI) (X1 X2:jh),NB ρ a.B N/\Sem e.r v none none N U Q X1 N1/\
    EH (Vj N e.ps (AV.ao ρ args) (dF ρ a.X)) (λi=>(AV.ao ρ args)[i]?) e.os N1 R O X2 N2/\U++R=fM _ q/\Sat ((dh Q++dh O)++iz (xQ p o a.S) (ab ρ T p++(ab ρ T o++Φ))) w':=λp o a s q t hm hnd b hq=>by
  obtain ⟨N,I,s1,V,a1⟩:=xl t e.ps args [] [] [] a [] hm (.inl rfl) .nil;rw [<-AL _ b] at s1;obtain ⟨p1,p2⟩:=Nn t a1;have C:=wF hnd;obtain ⟨q1,_⟩:=vX t p1 C;refine (he.2 s q hq (AV.ao ρ args) N I (dF ρ a.X) _ w (by simpa only [AV.ao] using s1) q1 (λit u=>?_)).mono ?_
  .obtain ⟨k,l⟩:=List.mem_iff_getElem?.1 (hΓ it u);have hk2:(ab ρ T p++(ab ρ T o++Φ))[p.length+o.length+k]? =some it:=by
    rw [b7 (by simp [ab];omega),b7 (by simp [ab];omega)];have:p.length+o.length+k-(ab ρ T p).length-(ab ρ T o).length=k:=by simp [ab];omega
    rw [this];exact l
   refine pa (i:=p.length+o.length+k) ?_;rw [AN,hk2];intro Z;obtain ⟨x,_,hx⟩:=List.mem_map.1 Z;have:=QE hx;omega
  .intro v w' hv;obtain ⟨N1,N2,U,R,Q,O,X1,X2,c1,c2,c3,M⟩:=hv;have J:=Gm p2 C M;rw [Ra a1] at J;exact ⟨N,N1,N2,U,R,Q,O,X1,X2,V,c1,c2,c3,J⟩
 unfold ag4 at h;cases g with
 |none=>
  dsimp only at h;split at h
  .rename_i a hm;obtain ⟨h1,z⟩:=aI h;simp only [ae] at h1;obtain ⟨⟨⟨⟨⟨h3,h4⟩,h5⟩,h6⟩,h7⟩,h9⟩:=h1;split at z
   .rename_i s b;simp only [b8] at z;obtain ⟨q,hq,l⟩:=Ac z;refine .none_ (λn j hf=> .inr (.inr ⟨e.f,AV.ao ρ args,ent aC.get_none n j hf,(key _ _ a s q t hm h3 b hq).mono λv w' hv=>?_⟩));obtain ⟨N,N1,N2,U,R,Q,O,X1,X2,V,c1,c2,c3,M⟩:=hv;rw [Ca h4] at M;have J:=DH M;refine KZ hl ?_ V h5 h6 h7 h9 c1 c2 c3 aC.get_none J (.inl rfl) l;have W:∀(L:wv) (G:List Row) (k:Nat),bC st.c G=true->bC st.c (jP (pz L k G))=true:=λL G=>by
     induction G with
     |nil=>intro k _;rfl
     |cons r G ih=>
      intro k hG;simp only [bC,ae] at hG;show bC st.c (jP ((aA (jB k L) .gone r)::pz L (k+1) G))=true;cases jB k L
      .cases r <;> first|exact ih (k+1) hG.2|(simp only [jP,bC,ae];exact ⟨hG.1,ih (k+1) hG.2⟩)
      .exact ih (k+1) hG.2
    exact W _ _ _ hGl
   .cases z
  .cases h
 |some gk=>
  dsimp only at h;split at h
  .rename_i a hm;obtain ⟨h1,z⟩:=aI h;simp only [ae] at h1;obtain ⟨⟨⟨⟨⟨⟨h3,h4⟩,h8⟩,h5⟩,h6⟩,h7⟩,h9⟩:=h1;have Y:e.os=[]:=by simpa using h8
   split at z
   .rename_i s b;simp only [b8] at z;obtain ⟨q,hq1,hq0,l⟩:=SG z;refine ⟨λy=>λn j hf=> .inr (.inr ⟨e.f,AV.ao ρ args,ent y n j hf,(key _ _ a s q (RD (A:=ab ρ T (uQ T (some gk) (cu (dP st.G fr.H e.ps args) st.G))) y (RD (A:=[]) y t)) hm h3 b (hq1 y)).mono λv w' hv=>?_⟩),λy=>?_⟩
    .obtain ⟨N,N1,N2,U,R,Q,O,X1,X2,V,c1,c2,c3,M⟩:=hv;rw [abP h4] at M;have J:=Sat.leL M We;rw [<-aO] at J;have c6:=Sat.leL J We;rw [aO] at c6;exact KZ hl hGl V h5 h6 h7 h9 c1 c2 c3 y c6 (.inr Y) l
    .have e0:=hq0 y;subst e0;unfold Nt at l;generalize fill (rL a.B st.c) e.r none none a.B.length (fM _ (ahf _))=L at l;obtain ⟨v',R1,k,DD,XX⟩:=L;dsimp only at l;have e2:eY (rL a.B st.c) (vM a.B e.ps args a.X) e.os k DD=⟨[],[],k,DD⟩:=by rw [Y];rfl
     rw [e2] at l;dsimp only at l;obtain ⟨d1,d2⟩:=aI l;refine ⟨_,aV.iB d2 (by simp) rfl rfl ?_⟩;show Sat (ab ρ T ((R1++[]).map (λx:Bool×Row=>Aa (some gk) x.2)++_)++_) w;rw [la,bk,aO];exact AQ t _ (λit u=>⟨(Im y d1 it u).1,(Im y d1 it u).2 _ _⟩)
   .cases z
  .cases h
end
def Uy:(t:Ty)->List t.T->Option xu
 | .s,xs=>some (xs.map S)
 | .i k,xs=>some (xs.map (.int k))
 |_,_=>none
def glx(b:Nat):Item where
 own:=[]
 P M w:= ¬M b/\∃m:Int,w.cell? ⟨b,0,none⟩=some (.int .i64 m)
 lt _ b hb:=by cases hb
 cL {M M' w w'} h m _ _:=by
  obtain ⟨h1,x,hx⟩:=h;have hlt:b<w.heap.size:=by
   rcases s3 b w.heap.size with h|h
   .exact h
   .simp [World.cell?,Array.getElem?_eq_none h] at hx
  obtain ⟨h2,h3⟩:=m.2 _ hlt h1;exact ⟨h2,x,by unfold World.cell? at hx ⊢; rw [h3];exact hx⟩
 cG:=true
 hp _:=rfl
def glI(p:Nat×Nat×bY):Item:=match p.2.2 with
 |⟨.l t,xs⟩=>(match Uy t xs with
  |some cs=>gl p.1 cs
  |none=>fG)
 |⟨.un,_⟩=>glx p.1
 |_=>fG
def Cx.Γ(X:Cx):Ctx:=X.gls.map glI
def aaD:List (Nat×Nat×bY)->Nat->Option bY
 |[],_=>none
 |p::l,b=>aA (Nat.beq p.1 b) (some p.2.2) (aaD l b)
theorem ade:{l:List (Nat×Nat×bY)}->{b:Nat}->{d:bY}->aaD l b=some d->∃p,p∈l/\p.1=b/\p.2.2=d
 |[],_,_,h=>by cases h
 |p::l,b,d,h=>by
  unfold aaD at h;rcases dq h with ⟨f,a⟩|⟨_,a⟩
  .cases a;exact ⟨p,b5 .., ah f,rfl⟩
  .obtain ⟨q,e,c⟩:=ade a;exact ⟨q,aW _ e,c⟩
theorem aji{M:Nat->Prop}{w:World}:{t:Ty}->{xs:List t.T}->{cs:xu}->Uy t xs=some cs->cM t.rep M w cs xs
 | .s,xs,_,h=>by cases h;exact QJ xs
 | .i k,xs,_,h=>by cases h;exact YV xs
 | .bo,_,_,h|.un,_,_,h|.n,_,_,h|.p _ _,_,_,h|.l _,_,_,h|.mp _ _,_,_,h|.ex,_,_,h=>by cases h
structure GA where
 n:Nat
 e:TypeId
 b:Nat
 t:Ty
 xs:List t.T
 m:Nat
def gaA(X:Cx)(T:aC)(fr:Fr)(st:aD)(g:GK)(t:TypeId)(x:Operand):Option GA:=match X.P.underlying t with
 |some (.array n e)=>(match jW X.P e with
  |some z=>(match br T st.E fr.F g x with
   |some (.gp b)=>(match aaD X.gls b with
    |some ⟨.l u,xs⟩=>aA ((Uy u xs).isSome&&Nat.beq z.1 u.n'&&Nat.beq n xs.length&&Nat.blt 0 n) (some ⟨n,e,b,u,xs,z.1⟩) none
    |_=>none)
   |_=>none)
  |none=>none)
 |_=>none
section
variable {X : Cx} {R : Type} {r : R} {K : cC R} {T : aC} {fr : Fr} {st : aD} {g : GK} {d : Tmp} {ρ : ay} {Φ : Ctx} {w : World} {ty : TypeId} {pos : String} {af : x8} {gd : v7}
theorem ac1{t:TypeId}{q:GA}(f:∀it∈X.Γ,it∈Φ)(C:Sat (ab ρ T st.G++(ab ρ T fr.H++Φ)) w)(h:gaA X T fr st g t x=some q):
  X.P.underlying t=some (.array q.n q.e)/\(∃bytes z,TI X.P q.e q.m bytes z)/\ar (au ρ T st.E fr.F) (T.get g) x (.pointer (some ⟨q.b,0,none⟩))/\q.m=q.t.rep.n/\q.n=q.xs.length/\Nat.blt 0 q.n=true/\
   bP q.t.rep (Ctx.M (ab ρ T st.G++(ab ρ T fr.H++Φ))) w (sl (some ⟨q.b,0,none⟩,q.xs.length,q.xs.length)) q.xs:=by
 unfold gaA at h;split at h
 .rename_i n e B;split at h
  .rename_i z A;obtain ⟨m,bytes,z⟩:=z;split at h
   .rename_i b hx;split at h
    .rename_i u xs D;obtain ⟨s,L⟩:=aI h;cases L;simp only [ae] at s;obtain ⟨⟨⟨r,K⟩,J⟩,I⟩:=s;have c:=aR (ρ:=ρ) hx;simp only [AV.val] at c;obtain ⟨p,v,o,k⟩:=ade D;obtain ⟨j,y,Q⟩:=p;simp only at o k;subst o;subst k;cases hc:Uy u xs with
     |none=>rw [hc] at r;cases r
     |some cs=>
      have d:gl j cs∈Φ:=by have:=f (glI (j,y,⟨.l u,xs⟩)) (List.mem_map.2 ⟨_,v,rfl⟩);unfold glI at this;simp only [hc] at this;exact this
      have a:gl j cs∈ab ρ T st.G++(ab ρ T fr.H++Φ):=ed _ (ed _ d);obtain ⟨i,hi⟩:=List.mem_iff_getElem?.1 a;obtain ⟨O,N⟩:=C.gl hi;exact ⟨B,⟨bytes,z,cF A⟩,c,(ah K).trans u.BM.symm,ah J,I,aqD O N (aji hc)⟩
    .cases h
   .cases h
  .cases h
 .cases h
def aaG(X:Cx)(T:aC)(fr:Fr)(st:aD)(g:GK)(d:Tmp)(t:TypeId)(x y:Operand)(K:cC R):Option R:=match gaA X T fr st g t x with
 |some q=>(match br T st.E fr.F g y with
  |some (.int _ i)=>apl T g st d q.t q.xs i K
  |_=>none)
 |none=>none
theorem adN{Q:TypeId}{y:Operand}(hl:st.low fr=true)(R:∀it∈X.Γ,it∈Φ)(hs:Sat (ab ρ T st.G++(ab ρ T fr.H++Φ)) w)(h:aaG X T fr st g d Q x y K=some r):
  Lk X.P T g (au ρ T st.E fr.F) ⟨some d,.indexAddr Q x y,ty,pos,af,gd⟩ w (aV r K T fr st g (some d) ρ Φ):=by
 unfold aaG at h;split at h
 .rename_i q hq;obtain ⟨Z,⟨bytes,z,I⟩,D,hm,hn,_,hS⟩:=ac1 R hs hq;obtain ⟨n,e,b,t,l,m⟩:=q;simp only at Z I D hm hn hS h;split at h
  .rename_i k i hy;have C:=aR (ρ:=ρ) hy;simp only [AV.val] at C;obtain ⟨v,b1,b2⟩:=Ay h;have key:∃(p:Addr) (f:ay),aT st.c ρ f/\(f st.c).a=p/\(T.get g=true->xV (sl (some ⟨b,0,none⟩,l.length,l.length)) i m p)/\
     ∀it∈ab f T (.elm g st.c (dA t v (st.c+1)).1::((dA t v (st.c+1)).2.1.map (uO g))),it.cG=true/\it.P (Ctx.M (ab ρ T st.G++(ab ρ T fr.H++Φ))) w:=by
    cases u:T.get g
    .refine ⟨⟨0,0,none⟩,ρ.set st.c cO,ay.aZ,by rw [ay.bA];rfl,(λh=>by cases h),λit j=>?_⟩;rw [ab,c5] at j;rcases List.mem_cons.1 j with rfl|j
     .exact ⟨rfl,λh=>by rw [u] at h;cases h⟩
     .obtain ⟨r1,A,rfl⟩:=List.mem_map.1 j;obtain ⟨r2,o,rfl⟩:=List.mem_map.1 A;obtain ⟨j1,t1,l1,rfl⟩:=Lm _ _ _ _ o;exact tA (λh=>by rw [u] at h;cases h)
    .obtain ⟨O,vs,W,V,e4⟩:=hS.atA (b1 u);obtain ⟨f,B⟩:=Gl (T:=T) t v (st.c+1) vs V (ρ.set st.c { cO with a:=pJ (sl (some ⟨b,0,none⟩,l.length,l.length)) i t.rep.n });have N:(f st.c).a=pJ (sl (some ⟨b,0,none⟩,l.length,l.length)) i t.rep.n:=by rw [B.ag _ (qj _),ay.bA]
     refine ⟨pJ (sl (some ⟨b,0,none⟩,l.length,l.length)) i t.rep.n,f,ay.aZ.trans B.ag (hV _),N,λ_=>by rw [hm];exact O,λit j=>?_⟩;rw [ab,c5] at j;rcases List.mem_cons.1 j with rfl|j
     .refine ⟨rfl,λ_=>?_⟩;show ¬Ctx.M _ (f st.c).a.block/\bM w (f st.c).a _;rw [N,B.eq];exact ⟨e4,W⟩
     .obtain ⟨r1,A,rfl⟩:=List.mem_map.1 j;obtain ⟨r2,o,rfl⟩:=List.mem_map.1 A;have U:=B.rp _ o;obtain ⟨j1,t1,l1,rfl⟩:=B.rs _ o;exact tA (λ_=>U)
   obtain ⟨p,f,Y,k2,k3,k4⟩:=key;have S:=AQ hs _ k4;have eG:=bf (T:=T) Y (aD.cD.1 hl).2.2.1
   -- what stands there where g does not hold does not count
   have J:∀w',bg X.P (au ρ T st.E fr.F) (T.get g) ⟨some d,.indexAddr Q x y,ty,pos,af,gd⟩ w' (.pointer (some ((⟨b,0,none⟩:Addr).add (i.toNat*m)))):=λw'=>
    Ai Z I D C (λu=>aog (b1 u) hn.symm)
   have s:aV r K T fr st g (some d) ρ Φ (.pointer (some p)) w:=by
    refine aV.new (ρ':=f) hl b2 Y (cg (hV _) (MQ _ _ _)) rfl (by simp only [AV.val,k2];simp [Addr.add]) ?_;show Sat (ab f T (Row.elm g st.c _::(_++st.G))++_) w;have e8:ab f T (Row.elm g st.c (dA t v (st.c+1)).1::((dA t v (st.c+1)).2.1.map (uO g)++st.G))=ab f T (.elm g st.c (dA t v (st.c+1)).1::((dA t v (st.c+1)).2.1.map (uO g)))++ab f T st.G:=by simp [ab]
    rw [e8,eG,aO];exact S
   cases u:T.get g
   .exact ⟨_,λw'=>λn a hf L=>(by rw [u] at L;cases L),s⟩
   .obtain ⟨a,len,cap,O,_,_,W⟩:=k3 u;have V:p=(⟨b,0,none⟩:Addr).add (i.toNat*m):=by
     injection O with O _ _
     cases O;exact W
    subst V;exact ⟨_,J,s⟩
  .cases h
 .cases h
def WX(X:Cx)(T:aC)(fr:Fr)(st:aD)(d:Tmp)(t:TypeId)(x:Operand)(lo hi mx:Option Operand)(K:cC R):Option R:=match lo,hi,mx with
 |none,none,none=>(match gaA X T fr st none t x with
  |some q=>K { st with c:=st.c+1,E:=ct (some d) none (.sl st.c) st.E,G:= .sli none st.c q.t q.xs false::st.G }
  |none=>none)
 |_,_,_=>none
theorem aof{t:TypeId}{lo hi g:Option Operand}(m:st.low fr=true)(e:∀it∈X.Γ,it∈Φ)(i:Sat (ab ρ T st.G++(ab ρ T fr.H++Φ)) w)(h:WX X T fr st d t x lo hi g K=some r):
  iI X.P T none (au ρ T st.E fr.F) ⟨some d,.slice t x lo hi g,ty,pos,af,gd⟩ w (aV r K T fr st none (some d) ρ Φ):=by
 unfold WX at h;split at h
 .split at h
  next q k=>obtain ⟨j,⟨bytes,z,f⟩,a,p,l,c,o⟩:=ac1 e i k;rw [aC.get_none] at a;refine .none_ (bE.gd (bE.run (Vy j f c a) ?_));refine aV.push (x:={ cO with v:=(some ⟨q.b,0,none⟩,q.n,q.n) }) m h (by simp only [AV.val,ay.bA];rfl) (i.add rfl ?_);intro _;rw [ay.bA];exact ⟨by rw [l];exact o,λh=>by cases h⟩
  .cases h
 .cases h
theorem aoi{t:TypeId}{lo hi g:Option Operand}(m:st.low fr=true)(c:∀it∈X.Γ,it∈Φ)(i:Sat (ab ρ T st.G++(ab ρ T fr.H++Φ)) w)(h:WX X T fr st d t x lo hi g K=some r):
  Lk X.P T none (au ρ T st.E fr.F) ⟨some d,.slice t x lo hi g,ty,pos,af,gd⟩ w (aV r K T fr st none (some d) ρ Φ):=by
 unfold WX at h;split at h
 .split at h
  next q k=>obtain ⟨j,⟨bytes,z,f⟩,e,p,l,a,o⟩:=ac1 c i k;refine ⟨_,λw'=>Vy j f a e,?_⟩;refine aV.push (x:={ cO with v:=(some ⟨q.b,0,none⟩,q.n,q.n) }) m h (by simp only [AV.val,ay.bA];rfl) (i.add rfl ?_);intro _;rw [ay.bA];exact ⟨by rw [l];exact o,λh=>by cases h⟩
  .cases h
 .cases h
end
variable {cv : xb × AV}
def sEq(P:Program)(t:TypeId)(a b:AV):xb:=match P.underlying t with
 |some (.int _)=>(match a,b with
  | .int k x,.int k' y=>aA (fy k k') (some (x==y)) none
  |_,_=>none)
 |some .bool=>(match a,b with
  | .bool x,.bool y=>some (x==y)
  |_,_=>none)
 |some .string=>(match a,b with
  | .str x,.str y=>some (x==y)
  |_,_=>none)
 |_=>none
def fEq(P:Program):List Field->Nat->List AV->List AV->Option (List Bool)
 |[],_,l1,l2=>aA (l1.isEmpty&&l2.isEmpty) (some []) none
 |f::fs,k,l1,l2=>(match l1,l2 with
  |a::l1,b::l2=>aA (f.name != "_" &&Nat.beq f.offset k) (match sEq P f.type a b with
   |some r=>(match fEq P fs (k+1) l1 l2 with
    |some l=>some (r::l)
    |none=>none)
   |none=>none) none
  |_,_=>none)
def ac7:Bool->List Bool->Bool
 |b,[]=>b
 |b,c::l=>ac7 (b&&c) l
def eqL:List Bool->Bool
 |[]=>true
 |b::l=>ac7 b l
theorem afy:∀{l:List Bool} {b:Bool},ac7 b l=(b&&l.foldr (· && ·) true)
 |[],b=>by simp [ac7]
 |c::l,b=>by simp only [ac7,afy,List.foldr_cons,Bool.and_assoc]
theorem apb:∀{l:List Bool},eqL l=l.foldr (· && ·) true
 |[]=>rfl
 |b::l=>by simp only [eqL,afy,List.foldr_cons]
def amX(X:Cx)(T:aC)(E F:aF)(g:GK):Op->CV
 | .binOp op t x y _=>(match br T E F g x with
  |some (.agg l1)=>(match br T E F g y with
   |some (.agg l2)=>(match X.P.underlying t with
    |some (.struct fs)=>aA (!(X.P.eqGuardType X.P.depth t)&& !(X.P.stoodInHeld t)) (match fEq X.P fs.toList 0 l1 l2 with
     |some bs=>(match op with
      | .eql=>pv (.bool (eqL bs))
      | .neq=>pv (.bool (!(eqL bs)))
      |_=>none)
     |none=>none) none
    |_=>none)
   |_=>none)
  |_=>none)
 |_=>none
def akA(X:Cx)(T:aC)(E F:aF)(g:GK):Op->CV
 | .typeAssert x _ t true=>(match X.P.underlying t with
  |some dd=>aA (!(fP dd)) (match br T E F g x with
   |some (.ifc t' v)=>aA (Nat.beq t' t) (pv (.tuple [v,.bool true])) (match jW X.P t with
    |some z=>pv (.tuple [.raw z.2.2,.bool false])
    |none=>none)
   |some (.raw .nilIface)=>(match jW X.P t with
    |some z=>pv (.tuple [.raw z.2.2,.bool false])
    |none=>none)
   |_=>none) none
  |none=>none)
 |_=>none
def ain(X:Cx)(T:aC)(E F:aF)(g:GK):Op->CV
 | .indexAddr t x (.const (.int _ (.ofNat j)))=>(match X.P.underlying t with
  |some (.array n e)=>(match jW X.P e with
   |some z=>(match br T E F g x with
    |some (.ptr id off)=>aA (Nat.blt j n) (pv (.ptr id (off+j*z.1))) none
    |_=>none)
   |none=>none)
  |_=>none)
 |_=>none
def akY(X:Cx)(T:aC)(E F:aF)(g:GK)(op:Op):CV:=match amd X T E F g op with
 |some cv=>some cv
 |none=>(match amX X T E F g op with
  |some cv=>some cv
  |none=>(match akA X T E F g op with
   |some cv=>some cv
   |none=>ain X T E F g op))
section
variable {X : Cx} {T : aC} {E F : aF} {g : GK} {ρ : ay} {w : World} {dst : x5} {ty : TypeId} {pos : String} {af : x8} {gd : v7}
theorem apT{P:Program}{t:TypeId}{a b:AV}{r:Bool}(d:Nat)(h:sEq P t a b=some r):(∃td,P.underlying t=some td/\jn td=false)/\(Op.equalIn (d+1) t (a.val ρ) (b.val ρ)).run P w= .ok r w:=by
 unfold sEq at h;split at h
 .rename_i i c;split at h
  next k x j y=>obtain ⟨g,f⟩:=aI h;cases f;have e:=gB g;subst e;exact ⟨⟨_,c,rfl⟩,by simp only [AV.val];exact run_equalIn_int w d t _ _ _ _ c⟩
  .cases h
 .rename_i c;split at h
  .cases h;exact ⟨⟨_,c,rfl⟩,by simp only [AV.val];exact run_equalIn_bool' w d t _ _ c⟩
  .cases h
 .rename_i c;split at h
  .cases h;exact ⟨⟨_,c,rfl⟩,by simp only [AV.val];exact Y0 _ w d t _ _ c⟩
  .cases h
 .cases h
theorem aiO{P:Program}{xs ys:xu}(d:Nat):∀{m:List Field} {k:Nat} {g e:List AV} {i:List Bool},fEq P m k g e=some i->xs.drop k=AV.ao ρ g->ys.drop k=AV.ao ρ e->
  (Op.eqFields (d+1) xs.toArray ys.toArray m).run P w= .ok (i.foldr (· && ·) true) w
 |[],k,g,e,i,h,_,_=>by
  unfold fEq at h;obtain ⟨_,c⟩:=aI h;cases c;exact aoR
 |f::m,k,g,e,i,h,hx,hy=>by
  unfold fEq at h;split at h
  .rename_i a g b e;obtain ⟨j,c⟩:=aI h;simp only [ae] at j;have n:=ah j.2;split at c
   .rename_i r p;split at c
    .rename_i l q;cases c;obtain ⟨⟨u,t1,t2⟩,o⟩:=apT (ρ:=ρ) (w:=w) d p;simp only [AV.ao] at hx hy;have t:xs[k]? =some (a.val ρ):=by rw [<-List.head?_drop,hx];rfl
     have s:ys[k]? =some (b.val ρ):=by rw [<-List.head?_drop,hy];rfl
     refine am2 j.1 (agQ t1 t2 (by rw [n];exact t)) (agQ t1 t2 (by rw [n];exact s)) o ?_;refine aiO d q ?_ ?_
     .rw [<-n3,hx];rfl
     .rw [<-n3,hy];rfl
    .cases c
   .cases c
  .cases h
theorem akR{op:Op}(h:amX X T E F g op=some cv):lL X.P (au ρ T E F) ρ (T.get g) ⟨dst,op,ty,pos,af,gd⟩ w cv:=by
 unfold amX at h;split at h
 .rename_i o t x y t';split at h
  .rename_i k hx;split at h
   .rename_i j l;split at h
    .rename_i m f;obtain ⟨d,c⟩:=aI h;simp only [ae,gj] at d;split at c
     .rename_i n e;have b:=aR (ρ:=ρ) hx;have a:=aR (ρ:=ρ) l;simp only [AV.val] at b a;have i:X.P.fieldsOf t=m:=by simp [Program.fieldsOf,f]
      have key:(Op.equalIn 10000 t (.agg (AV.ao ρ k).toArray) (.agg (AV.ao ρ j).toArray)).run X.P w= .ok (eqL n) w:=by rw [run_equalIn_struct w 9999 t _ _ (by rw [i];exact f) d.2,i,apb];exact aiO 9998 e rfl rfl
      split at c
      .refine .pv c (cw b a ?_);rw [Sem.run_bind,run_eqGuard_agg w _ _ _ _ _ _ d.1,Result.andThen_ok,run_eql_struct,key];simp only [AV.val,Result.andThen_ok]
      .refine .pv c (cw b a ?_);rw [Sem.run_bind,run_eqGuard_agg w _ _ _ _ _ _ d.1,Result.andThen_ok,run_neq_struct,key];simp only [AV.val,Result.andThen_ok]
      .cases c
     .cases c
    .cases h
   .cases h
  .cases h
 .cases h
theorem amM{op:Op}(h:akA X T E F g op=some cv):lL X.P (au ρ T E F) ρ (T.get g) ⟨dst,op,ty,pos,af,gd⟩ w cv:=by
 unfold akA at h;split at h
 .rename_i x s t;split at h
  .rename_i dd f;obtain ⟨j,b⟩:=aI h;have hd:fP dd=false:=by simpa using j
   split at b
   .rename_i t' v hx;have a:=aR (ρ:=ρ) hx;simp only [AV.val] at a;rcases dq b with ⟨i,c⟩|⟨i,c⟩
    .have:=ah i;subst this;refine .pv c ?_;simp only [AV.val,AV.ao];exact aag f hd a
    .split at c
     next z d=>obtain ⟨n,bytes,z⟩:=z;refine .pv c ?_;simp only [AV.val,AV.ao];exact Zt (λe=>by subst e;simp at i) f hd (cF d) a
     .cases c
   .rename_i hx;split at b
    next z d=>obtain ⟨n,bytes,z⟩:=z;have a:=aR (ρ:=ρ) hx;simp only [AV.val] at a;refine .pv b ?_;simp only [AV.val,AV.ao];exact ZY f hd (cF d) a
    .cases b
   .cases b
  .cases h
 .cases h
theorem ai5{op:Op}(h:ain X T E F g op=some cv):lL X.P (au ρ T E F) ρ (T.get g) ⟨dst,op,ty,pos,af,gd⟩ w cv:=by
 unfold ain at h;split at h
 .rename_i t x k j;split at h
  .rename_i n e l;split at h
   .rename_i z i;obtain ⟨m,bytes,z⟩:=z;split at h
    .rename_i id off hx;obtain ⟨f,o⟩:=aI h;have d:=aR (ρ:=ρ) hx;simp only [AV.val] at d;refine .pv o ?_;have a:=Ai (P:=X.P) (w:=w) (dst:=dst) (ty:=ty) (pos:=pos) (af:=af) (gd:=gd) (y:= .const (.int k (.ofNat j))) l (cF i) d ar.c (by intro _;rw [gy] at f;exact wH.2 ⟨Int.natCast_nonneg j,by simpa using f⟩)
     have p:((⟨(ρ id).b,off,none⟩:Addr).add ((Int.ofNat j).toNat*m))=⟨(ρ id).b,off+j*m,none⟩:=by rw [add_plain];rfl
     rw [p] at a;simpa only [AV.val] using a
    .cases h
   .cases h
  .cases h
 .cases h
theorem al7{op:Op}(c:eK T E F)(h:akY X T E F g op=some cv):lL X.P (au ρ T E F) ρ (T.get g) ⟨dst,op,ty,pos,af,gd⟩ w cv:=by
 unfold akY at h;split at h
 next b a=>cases h;exact amc c a
 .split at h
  next b a=>cases h;exact akR a
  .split at h
   next b a=>cases h;exact amM a
   .exact ai5 h
end
variable {d : TypeDesc}
def wO{α:Type}(xs ys:List α):List α:=ys.take xs.length++xs.drop ys.length
section
variable {P : Program} {E : Env} {w : World} {g : Bool}
variable {dst : x5} {ty : TypeId} {pos : String} {af : x8} {gd : v7}
theorem aml{α:Type}{A:dG α}{M:Nat->Prop}{v u:Value}{t ty e:TypeId}{bytes:Nat}{z:Value}{R:za}(S:P.underlying t=some (.slice e))(B:TI P e A.n bytes z)
  {xs ys:List α} (L:bL A e M w v xs R) (y:bP A M w u ys) (_hM:∀b∈R,M b):
  ∃w',(Builtin.copy_ #[t,t] ty #[v,u]).run P w= .ok (.int .i64 ((Nat.min ys.length xs.length:Nat):Int)) w'/\jw R w w'/\w'.heap.size=w.heap.size/\∀M',Mv M w M' w'->bL A e M' w' v (wO xs ys) R:=by
 obtain ⟨i,hi,hs,_,_⟩:=B.out;by_cases k:xs=[]\/ys=[]
 .have hc:wO xs ys=xs:=by unfold wO;rcases k with k|k <;> subst k <;> simp
  have s:Nat.min ys.length xs.length=0:=by rcases k with k|k <;> subst k <;> simp
  obtain ⟨p,c,rfl,_⟩:=L.shape;obtain ⟨a,c2,rfl⟩:=y.len;refine ⟨w,?_,(Ext.refl w).rK _,rfl,λM' m=>?_⟩
  .have hl:∀a:Addr,(loadCells a 0).run P w= .ok #[] w:=λa=>run_loadCells_list (P:=P) w a [] (λj v hj=>by simp at hj);rw [s];cases a <;> cases p <;> simp [Builtin.copy_,run_underlying S,sizeOf,typeInfo,hi,Builtin.lenOf,Builtin.firstCells,s,hl,storeCells,goInt]
  .rw [hc];exact L.cL (λb hb=>rfl) m
 .have hx:xs≠[]:=λh=>k (.inl h);have Y:ys≠[]:=λh=>k (.inr h);obtain ⟨b,o,c,cur,rfl,rfl,U,r,G,C,K⟩:=L.row hx;rcases y with ⟨_,J⟩|⟨b2,off,I,H,e2,fr2,rfl,V,Q,hc2,Z,l⟩
  .exact absurd J Y
  have N:((H.toList.drop off).take (ys.length*A.n)).length=ys.length*A.n:=l.1;generalize O:(H.toList.drop off).take (ys.length*A.n)=g at l N;have F:Nat.min ys.length xs.length<=ys.length:=Nat.min_le_left _ _;have E:Nat.min ys.length xs.length<=xs.length:=Nat.min_le_right _ _;generalize s:Nat.min ys.length xs.length=n at F E;have X:n*A.n<=ys.length*A.n:=e9 _ F;have W:n*A.n<=xs.length*A.n:=e9 _ E;have m3:xs.length*A.n<=c*A.n:=e9 _ r;have d:(g.take (n*A.n)).length=n*A.n:=by rw [b0];omega
  have x:cur.toList.length=cur.size:=ch;have T:=C.1;have run:=rO (P:=P) (w:=w) (ty:=ty) S B (b:=b) (o:=o) (dl:=xs.length) (dc:=c) (cur:=cur) (e':=e) (a:=⟨b2,off,none⟩) (ls:=ys.length) (sc:=I) (cs:=g.take (n*A.n))
   (by rw [d,s]) (cell_of_heap Q off _ (by rw [d,<-O,n7,du X])) U (by rw [d];omega) (λv hv=>l.AM v (List.mem_of_mem_take hv))
  refine ⟨_,by rw [run,s];rfl,uv b _,by simp,λM' m=>?_⟩;have hd:wO xs ys=ys.take n++xs.drop n:=by
   unfold wO;have q:min ys.length xs.length=n:=s;clear s;rcases Nat.le_total ys.length xs.length with h|h
   .rw [du h] at q;subst q;rw [j0 h,j0 (bb _)]
   .rw [sj h] at q;subst q;rw [de h,de (bb _)]
  have f:(wO xs ys).length=xs.length:=by rw [hd,ca,b0,cr];omega
  have key:=(((l.take n).mv m).append ((K.drop n).mv m));have D:=setRow_heap w b cur (cur.toList.take o++g.take (n*A.n)++cur.toList.drop (o+(g.take (n*A.n)).length)).toArray e (0,0) U;have hv:Value.slice (some ⟨b,o,none⟩) xs.length c=Value.slice (some ⟨b,o,none⟩) (wO xs ys).length c:=by rw [f]
  rw [hv];refine bL.mk_ D (by rw [f];exact r) G ⟨?_,C.2⟩ ?_
  .simp only [mo,ca,b0,d,cr,x];omega
  .rw [f,hd];have e7:(cur.toList.take o).length=o:=by rw [b0];omega
   have e8:(cur.toList.take o++g.take (n*A.n)++cur.toList.drop (o+(g.take (n*A.n)).length)).drop o=g.take (n*A.n)++(cur.toList.drop o).drop (n*A.n):=by have:=List.drop_left (l₁:=cur.toList.take o) (l₂:=g.take (n*A.n)++cur.toList.drop (o+(g.take (n*A.n)).length));rw [e7,<-aO] at this;rw [this,d,n3]
   simp only [e8];have e1:((g.take (n*A.n))++(cur.toList.drop o).drop (n*A.n)).take (xs.length*A.n)=g.take (n*A.n)++((cur.toList.drop o).take (xs.length*A.n)).drop (n*A.n):=by rw [qP,d,n7,sj W,qc]
   rw [e1];exact key
theorem aho{x y:Operand}{t e:TypeId}{n m bytes:Nat}{z v:Value}{d:TypeDesc}{cs:xu}{i:Int}{k:IntKind}(j:P.underlying t=some (.array n e))(hd:P.underlying e=some d)(b:TI P e m bytes z)
  (hx:ar E g x (.agg cs.toArray)) (h:ar E g y (.int k i)) (p:0<=i) (o:i<(n:Nat)) (hv:(if jn d then some (.agg ((cs.drop (i.toNat*m)).take m).toArray) else cs[i.toNat*m]?)=some v):
  bg P E g ⟨dst,.index t x y,ty,pos,af,gd⟩ w v:=
 λn' a f c=>by have hp:=adU (w:=w) hd b hv;obtain ⟨q,hi,l,_,_⟩:=b.out;simp [execOp,hx n' a f c,h n' a f c,Instr.index,asIntOf,run_underlying j,sizeOf,typeInfo,hi,l,p,o,hp]
theorem ad5{x y h:Operand}{p:Addr}{len m bytes:Nat}{z:Value}{t e:TypeId}{k i:IntKind}(l:P.underlying t=some (.array len e))(b:TI P e m bytes z)(hx:ar E g x (.pointer (some p)))(j:ar E g y (.int k (len:Nat)))(n:ar E g h (.int i (len:Nat))):
  bg P E g ⟨dst,.slice t x none (some y) (some h),ty,pos,af,gd⟩ w (.slice (some p) len len):=
 λn' a f d=>by obtain ⟨o,c,q,_,_⟩:=b.out;simp [execOp,hx n' a f d,j n' a f d,n n' a f d,Instr.sliceAt,run_underlying l,Instr.sureAddr,Instr.sliceBounds,run_sliceBound,sizeOf,typeInfo,c,Addr.add]
theorem ahJ{y:Operand}{t t' u:TypeId}{v:Value}(b:P.underlying t=some d)(hd:fP d=true)(hx:ar E g x (.iface u v))(a:ar E g y .nilIface):
  bg P E g ⟨dst,.binOp .neq t x y t',ty,pos,af,gd⟩ w (.bool true):=
 cw (P:=P) hx a (by
  rw [Sem.run_bind,dC rfl,Result.andThen_ok];have h:∀k:Nat,(Op.equalIn (k+1) t (.iface u v) .nilIface).run P w= .ok false w:=λk=>by cases d <;> first|(cases hd;done)|simp [Op.equalIn,run_underlying b]
  simp only [binOp];simp [Op.equal,Op.maxDepth,h 9999])
theorem aeX{t t':TypeId}(a:P.underlying t=some d)(hd:fP d=true)(hx:ar E g x .nilIface):
  bg P E g ⟨dst,.binOp .neq t x (.const .nilIface) t',ty,pos,af,gd⟩ w (.bool false):=
 cw (P:=P) hx (y:= .const .nilIface) (v:= .nilIface) (λ_ _ _ _=>rfl) (by
  have h:∀k:Nat,(Op.equalIn (k+1) t .nilIface .nilIface).run P w= .ok true w:=λk=>by cases d <;> first|(cases hd;done)|simp [Op.equalIn,run_underlying a]
  have b:(eqGuard .neq t x (.const .nilIface) .nilIface .nilIface).run P w= .ok () w:=by unfold eqGuard;simp
  rw [Sem.run_bind,b,Result.andThen_ok];simp only [binOp];simp [Op.equal,Op.maxDepth,h 9999])
theorem Reach.val{t:TypeId}{u:Value}{a:String}{f:FuncId}(h:LH P t a f false)(b:P.underlying t=some d)(hd:∀e,d≠ .pointer e):Reach P w t u a f u:=λk=>by obtain ⟨i,m,hi,c,hp,g⟩:=h.out;unfold method;simp only [typeInfo,hi,c,hp,g,follow,Sem.run_bind,Sem.run_pure,Result.andThen_ok,run_program];cases d <;> first|exact absurd rfl (hd _)|simp [receiverAt,run_underlying b,Place.get]
theorem ad8{n:Nat}{g:Bool}{f:FuncId}{r:Operand}{it t:TypeId}{d:TypeDesc}{u u':Value}{b:String}{vs:xu}{xs:xa}{tys:Array TypeId}{dst:x5}{gd:Option (Nat×Bool)}
  (m:Enters P f) (k:ar E g r (.func (.methodOf it b) #[] #[])) (e:P.underlying it=some d) (hd:fP d=true) (l:g=true->Reach P w t u b f u') (c:gJ E g xs (.iface t u::vs)) {a:Act} (i:Fits n E a) (h:g=true):
  (execOp a.eval ⟨dst,.call ⟨.value r,xs.toArray,tys⟩,ty,pos,af,gd⟩).run P w= .ok (.enter f (u'::vs).toArray) w:=by
 have x:(Array.map a.eval xs.toArray)=(Value.iface t u::vs).toArray:=by simp [c.map i h]
 have o:=m (u'::vs).toArray w;have j:=l h (P.types.size+99);have v:P.types.size+99+1=P.types.size+Made.depth:=rfl;rw [v] at j;have s:((Value.iface t u::vs).toArray)[0]? =some (Value.iface t u):=by simp
 have q:((Value.iface t u::vs).toArray).extract 1 ((Value.iface t u::vs).toArray).size=vs.toArray:=by simp
 have p:(#[u']++vs.toArray)=(u'::vs).toArray:=by simp
 cases d <;> first|(cases hd;done)|skip;simp only [execOp,resolve,k n a i h,Deferred.ofValue,x,Sem.run_bind,Sem.run_pure,Result.andThen_ok];simp only [qZ,invoke,s,q,Sem.run_bind,run_underlying e,Result.andThen_ok,callMethod,run_program,j,p,o]
end
def akw(X:Cx)(T:aC)(E F:aF)(g:GK):Op->CV
 | .index t x y=>(match X.P.underlying t with
  |some (.array n e)=>(match jW X.P e with
   |some z=>(match br T E F g x with
    |some (.agg cs)=>(match br T E F g y with
     |some (.int _ i)=>aA (decide (0<=i)&&decide (i<(n:Int))) (match j2 X.P e (cs.drop (i.toNat*z.1)) with
      |some v=>pv v
      |none=>none) none
     |_=>none)
    |_=>none)
   |none=>none)
  |_=>none)
 | .binOp .neq t x (.const .nilIface) _=>(match X.P.underlying t with
  |some d=>aA (fP d) (match br T E F g x with
   |some (.ifc _ _)=>pv (.bool true)
   |some (.raw .nilIface)=>pv (.bool false)
   |_=>none) none
  |none=>none)
 | .makeFunc (.methodOf t nm) ⟨[]⟩ ⟨[]⟩=>pv (.raw (.func (.methodOf t nm) #[] #[]))
 |_=>none
section
variable {X : Cx} {ρ : ay} {T : aC} {E F : aF} {g : GK} {w : World} {dst : x5} {ty : TypeId} {pos : String} {af : x8} {gd : v7}
theorem ali{op:Op}(h:akw X T E F g op=some cv):lL X.P (au ρ T E F) ρ (T.get g) ⟨dst,op,ty,pos,af,gd⟩ w cv:=by
 unfold akw at h;split at h
 .rename_i t x y;split at h
  .rename_i n e l;split at h
   .rename_i z r;obtain ⟨m,bytes,z⟩:=z;split at h
    .rename_i cs hx;split at h
     .rename_i k i s;obtain ⟨f,b⟩:=aI h;simp only [ae,kR] at f;split at b
      .rename_i v hv;obtain ⟨d,n',q,C,c1,B,p⟩:=me (ρ:=ρ) hv;have a:=aR (ρ:=ρ) hx;have j:=aR (ρ:=ρ) s;simp only [AV.val] at a j;have c:=cF r;refine .pv b (aho l c1 c a j f.1 f.2 ?_);cases hd:jn d
       .rw [hd] at p;exact p
       .rw [hd] at p;have o:=B hd;unfold TI at o c;rw [c] at o;simp only [b8,p0] at o;have A:m=n':=o.1;subst A;exact p
      .cases b
     .cases h
    .cases h
   .cases h
  .cases h
 .split at h
  .rename_i d l;obtain ⟨f,b⟩:=aI h;split at b
   next u v hx=>have a:=aR (ρ:=ρ) hx;simp only [AV.val] at a;exact .pv b (ahJ l f a (λ_ _ _ _=>rfl))
   next hx=>have a:=aR (ρ:=ρ) hx;simp only [AV.val] at a;exact .pv b (aeX l f a)
   .cases b
  .cases h
 .exact .pv h (Kq (first:=[]) (cap:=[]) .nil .nil)
 .cases h
end
variable {P : Program} {e : TypeId}
def amo(X:Cx)(T:aC)(E F:aF)(g:GK):Op->CV
 | .binOp .eql t x y _=>(match X.P.underlying t with
  |some (.pointer _)=>(match br T E F g x with
   |some (.sfp _ f)=>(match br T E F g y with
    |some (.raw (.pointer none))=>pv (.bool (!f))
    |_=>none)
   |_=>none)
  |_=>none)
 | .binOp .neq t x y _=>(match X.P.underlying t with
  |some (.pointer e)=>(match jW X.P e with
   |some _=>(match br T E F g x with
    |some (.sfp j f)=>(match br T E F g y with
     |some (.ptr j' 0)=>aA (Nat.beq j j') (pv (.bool (!f))) none
     |_=>none)
    |_=>none)
   |none=>none)
  |_=>none)
 | .call ⟨.value (.func f),⟨[x]⟩,_⟩=>aA (rW f X.ids) (match br T E F g x with
  |some v=>pv v
  |none=>none) none
 | .call ⟨.builtin .len,⟨[x]⟩,⟨[t]⟩⟩=>(match eR X.P t with
  |some _=>(match br T E F g x with
   |some (.bs _ n)=>pv (.int .i64 (n:Int))
   |_=>none)
  |none=>none)
 |_=>none
def amy(X:Cx)(T:aC)(E F:aF)(G H:List Row)(g:GK):Op->CV
 | .convert s d x=>(match br T E F g x with
  |some (.ptr j 0)=>(match dJ G H (wZ j) with
   |some (_,.box _ e' cs)=>(match X.P.underlying s with
    |some (.pointer e)=>(match X.P.underlying d with
     |some .unsafePointer=>(match jW X.P e with
      |some z=>aA (Nat.blt 0 z.1&&Nat.blt 0 cs.length) (pv (.ptr j 0)) none
      |none=>none)
     |_=>none)
    |some .unsafePointer=>(match X.P.underlying d with
     |some (.pointer e)=>(match jW X.P e with
      |some _=>aA (liesAt X.P X.P.depth e' (cs.length/X.P.cellsOf e') 0 e 1) (pv (.ptr j 0)) none
      |none=>none)
     |_=>none)
    |_=>none)
   |_=>none)
  |_=>none)
 |_=>none
def ag9(X:Cx)(T:aC)(E F:aF)(g:GK)(op:Op):CV:=match akY X T E F g op with
 |some cv=>some cv
 |none=>(match akw X T E F g op with
  |some cv=>some cv
  |none=>amo X T E F g op)
def agy(X:Cx)(T:aC)(E F:aF)(G H:List Row)(g:GK)(op:Op):CV:=match aly X T E F G H g op with
 |some cv=>some cv
 |none=>amy X T E F G H g op
abbrev aqi(xs ys:y5):y5:=xs++ys
def agT{R:Type}(X:Cx)(T:aC)(fr:Fr)(st:aD)(d:Tmp)(t u:TypeId)(x y:Operand)(K:cC R):Option R:=match eR X.P t with
 |some e=>(match jW X.P e with
  |some (1,1,.int .u8 (.ofNat 0))=>aA (isStr X.P u) (match br T st.E fr.F none y with
   |some (.str s)=>(match br T st.E fr.F none x with
    |some (.sl id)=>(match dJ st.G fr.H (lC id) with
     |some (.top j,.own _ u' e' xs _)=>aA (Nat.beq e e') (match pP.bY.asL (.i .u8) ⟨.l u',xs⟩ with
      |some xs=>aG (aH (List.length xs+s.length) 1) (K { st with c:=st.c+1,E:=ct (some d) none (.sl st.c) st.E,G:=st.G.set j (.own st.c (.i .u8) e (aqi xs (ba s)) st.c) })
      |none=>none) none
     |_=>none)
    |some (.raw (.slice none 0 0))=>aG (aH (([]:y5).length+s.length) 1) (K { st with c:=st.c+1,E:=ct (some d) none (.sl st.c) st.E,G:= .own st.c (.i .u8) e (([]:y5)++ba s) st.c::st.G })
    |_=>none)
   |_=>none) none
  |_=>none)
 |none=>none
section
variable {X : Cx} {T : aC} {E F : aF} {G H : List Row} {g : GK} {ρ : ay} {w : World} {dst : x5} {ty : TypeId} {pos : String} {af : x8} {gd : v7} {Φ : Ctx}
theorem aky{op:Op}(h:amo X T E F g op=some cv):lL X.P (au ρ T E F) ρ (T.get g) ⟨dst,op,ty,pos,af,gd⟩ w cv:=by
 unfold amo at h;split at h
 .rename_i t x y s;split at h
  .rename_i e i;split at h
   .rename_i j f hx;split at h
    next d=>have b:=aR (ρ:=ρ) hx;have a:=aR (ρ:=ρ) d;simp only [AV.val] at b a;exact .pv h (aih i b a)
    .cases h
   .cases h
  .cases h
 .rename_i t x y s;split at h
  .rename_i e i;split at h
   .rename_i z l;obtain ⟨n,bytes,z⟩:=z;split at h
    .rename_i j f hx;split at h
     next p d=>obtain ⟨k,c⟩:=aI h;have:=ah k;subst this;have b:=aR (ρ:=ρ) hx;have a:=aR (ρ:=ρ) d;simp only [AV.val] at b a;exact .pv c (ahZ i (cF l) b a)
     .cases h
    .cases h
   .cases h
  .cases h
 .rename_i f x tys;obtain ⟨k,c⟩:=aI h;split at c
  next v hx=>exact .pv c (alv (X.idsOk f (abC.1 k)) (aR (ρ:=ρ) hx))
  .cases c
 .split at h
  .rename_i e o;split at h
   next id m hx=>exact .pv h (DJ (bT o) (aR (ρ:=ρ) hx) ⟨_,_,rfl⟩)
   .cases h
  .cases h
 .cases h
theorem akV{op:Op}(o:Sat (ab ρ T G++(ab ρ T H++Φ)) w)(h:amy X T E F G H g op=some cv):lL X.P (au ρ T E F) ρ (T.get g) ⟨dst,op,ty,pos,af,gd⟩ w cv:=by
 unfold amy at h;split at h
 .rename_i s d x;split at h
  .rename_i j hx;split at h
   .rename_i t m e' cs p;obtain ⟨r,q⟩:=bV p;have:m=j:=ah q;subst this;have hb:eN w (ρ m).b e' (AV.ao ρ cs):=Src.holds o r;have a:=aR (ρ:=ρ) hx;simp only [AV.val] at a;split at h
    .rename_i e c;split at h
     .rename_i f;split at h
      next z k=>obtain ⟨n,bytes,z⟩:=z;obtain ⟨i,l⟩:=aI h;simp only [ae] at i;refine .pv l ?_;simp only [AV.val];exact abc c f (cF k) i.1 a hb (by rw [AV.bm];exact i.2)
      .cases h
     .cases h
    .rename_i c;split at h
     .rename_i e f;split at h
      next z k=>obtain ⟨n,bytes,z⟩:=z;obtain ⟨i,l⟩:=aI h;refine .pv l ?_;simp only [AV.val];exact Xs c f (cF k) a hb (by rw [AV.bm];exact i)
      .cases h
     .cases h
    .cases h
   .cases h
  .cases h
 .cases h
theorem acy{op:Op}(c:eK T E F)(h:ag9 X T E F g op=some cv):lL X.P (au ρ T E F) ρ (T.get g) ⟨dst,op,ty,pos,af,gd⟩ w cv:=by
 unfold ag9 at h;split at h
 next b a=>cases h;exact al7 c a
 .split at h
  next b a=>cases h;exact ali a
  .exact aky h
theorem abU{op:Op}(b:Sat (ab ρ T G++(ab ρ T H++Φ)) w)(h:agy X T E F G H g op=some cv):lL X.P (au ρ T E F) ρ (T.get g) ⟨dst,op,ty,pos,af,gd⟩ w cv:=by
 unfold agy at h;split at h
 next c a=>cases h;exact al1 b a
 .exact akV b h
end
section
variable {X : Cx} {R : Type} {r : R} {K : cC R} {T : aC} {fr : Fr} {st : aD} {d : Tmp} {ρ : ay} {Φ : Ctx} {w : World} {ty : TypeId} {pos : String} {af : x8} {gd : v7}
theorem Kn{E:Env}{M:Nat->Prop}{v:Value}{y:Operand}{t u:TypeId}{R:za}{xs:y5}{s:aB}(o:P.underlying t=some (.slice e))(n:P.underlying u=some .string)(h:TI P e 1 1 (.int .u8 0))(hx:ar E true x v)(k:ar E true y (S s))
  (j:bL (RI .u8) e M w v xs R) (z:∀b∈R,M b) (c:aH (xs.length+s.length) 1=true):
  ∃f R' w',kS P E ⟨some d,.call ⟨.builtin .append,#[x,y],#[t,u]⟩,ty,pos,af,gd⟩ w f w'/\jw R w w'/\(∀b∈R',b<w'.heap.size/\(b∈R\/w.heap.size<=b))/\∀M',Mv M w M' w'->bL (RI .u8) e M' w' f (xs++ba s) R':=by
 rcases j with ⟨rfl,q⟩|⟨rfl,rfl,⟨a0,rfl⟩,l⟩
 .obtain ⟨f,w',i,B,r,j⟩:=uE t u ty e o n h q z c;exact ⟨f,dv f,w',(λn' a g=>by simp [execOp,resolve,invoke,builtin,hx n' a g rfl,k n' a g rfl,i]),B,r,λM' m=>bL.of (j M' m)⟩
 .rcases yQ (M:=M) (w:=w) t u ty e o n h (a0:=a0) (s:=s) (by simpa using c) with ⟨i,rfl⟩|⟨f,w',i,A,p,j⟩
  .exact ⟨.slice a0 0 0,[],w,(λn' a g=>by simp [execOp,resolve,invoke,builtin,hx n' a g rfl,k n' a g rfl,i]),(Ext.refl w).rK _,(λb hb=>by cases hb),λM' m=>by simpa [ba] using bL.empty (e:=e) (l.mv m)⟩
  .exact ⟨f,dv f,w',(λn' a g=>by simp [execOp,resolve,invoke,builtin,hx n' a g rfl,k n' a g rfl,i]),A.rK _,(λb hb=>⟨(p b hb).1,.inr (p b hb).2⟩),λM' m=>bL.of (by simpa using j M' m)⟩
theorem akD{t u:TypeId}{y:Operand}(Q:st.low fr=true)(N:Sat (ab ρ T st.G++(ab ρ T fr.H++Φ)) w)(h:agT X T fr st d t u x y K=some r):
  iI X.P T none (au ρ T st.E fr.F) ⟨some d,.call ⟨.builtin .append,#[x,y],#[t,u]⟩,ty,pos,af,gd⟩ w (aV r K T fr st none (some d) ρ Φ):=by
 have B:=(aD.cD.1 Q).2.2.1;unfold agT at h;split at h
 .rename_i e Y;split at h
  .rename_i hz;have z:TI X.P e 1 1 (.int .u8 0):=cF hz;obtain ⟨hu,h⟩:=aI h;have q:=ou hu;split at h
   .rename_i s hy;have n:=bF (ρ:=ρ) hy;simp only [AV.val] at n;split at h
    .rename_i id hx;have g:=bF (ρ:=ρ) hx;simp only [AV.val] at g;split at h
     .rename_i j J u' e' C ver hf;obtain ⟨h3,V⟩:=aI h;have:=ah h3;subst this;split at V
      .rename_i xs L;obtain ⟨eu,ex⟩:=oY L;subst eu;simp only at ex;subst ex;obtain ⟨U,S⟩:=eo V;obtain ⟨f1,f2⟩:=bV hf;have:J=id:=ah f2;subst this;have hi:=fj (ρ:=ρ) (T:=T) (Φ:=ab ρ T fr.H++Φ) f1;obtain ⟨hO,_⟩:=N.at_ hi;obtain ⟨D,R',w',O,k,R,A⟩:=Kn (P:=X.P) (E:=au ρ T st.E fr.F) (w:=w) (d:=d) (ty:=ty) (pos:=pos) (af:=af) (gd:=none) (bT Y) q z g n hO (λb hb=>Ctx.iJ hi hb) U;have I:Mv (Ctx.M (ab ρ T st.G++(ab ρ T fr.H++Φ))) w (Ctx.M (ab ρ T st.G++(ab ρ T fr.H++Φ))) w':=⟨k.size,λb hb W=>⟨W,k.block b hb (λhc=>W (Ctx.iJ hi hc))⟩⟩;have f:=A _ I;have hv:∃p:fE,D=sl p:=by obtain ⟨a,cap,hv⟩:=f.len;exact ⟨(a,_,cap),hv⟩
       obtain ⟨p,rfl⟩:=hv;have hj:j<st.G.length:=(List.getElem?_eq_some_iff.1 f1).1;refine .none_ (bE.gd (bE.mA O (aV.new (ρ':=ρ.set st.c { cO with v:=p,y:=⟨.l (.i .u8),aqi C (ba s)⟩ }) Q S ay.aZ (hV _) rfl (by simp only [AV.val,ay.bA]) ?_)));show Sat (ab _ T (st.G.set j _)++_) _;rw [eV hj,bf ay.aZ B];refine N.ng hi k (λb hb=>?_) (λM' m _=>?_)
       .simp only [Row.item,ay.bA] at hb;exact R b (f.canon.1 b hb)
       .simp only [Row.item,ay.bA];exact ⟨f.canon.2 _ _ (A M' m),trivial⟩
      .cases V
     .cases h
    .rename_i hx;have g:=bF (ρ:=ρ) hx;simp only [AV.val] at g;obtain ⟨U,S⟩:=eo h;obtain ⟨D,R',w',O,k,R,A⟩:=Kn (P:=X.P) (E:=au ρ T st.E fr.F) (w:=w) (d:=d) (ty:=ty) (pos:=pos) (af:=af) (gd:=none) (M:=Ctx.M (ab ρ T st.G++(ab ρ T fr.H++Φ))) (xs:=([]:y5)) (bT Y) q z g n bL.nil (λb hb=>by cases hb) U;have Z:Ext w w':=⟨k.os,k.tape,k.output,k.size,λb hb=>k.block b hb (λh=>by cases h)⟩;have f:=A _ (Z.mv _);have hv:∃p:fE,D=sl p:=by obtain ⟨a,cap,hv⟩:=f.len;exact ⟨(a,_,cap),hv⟩
     obtain ⟨p,rfl⟩:=hv;refine .none_ (bE.gd (bE.mA O ?_));exact wy (d:=d) (t:= .i .u8) (e:=e) (p:=p) Q B N Z (λb hb=>by
      obtain ⟨q1,o⟩:=R b (f.canon.1 b hb);rcases o with o|o
      .cases o
      .exact ⟨q1,o⟩) (λM' m=>f.canon.2 _ _ (A M' m)) rfl S
    .cases h
   .cases h
  .cases h
 .cases h
def aaw{R:Type}(T:aC)(fr:Fr)(st:aD)(d:Tmp)(x:Operand)(K:cC R):Option R:=match br T st.E fr.F none x with
 |some (.sl id)=>(match dJ st.G fr.H (lC id) with
  |some (_,.own _ t _ l ver)=>aqd T none st d id ver t l 0 K
  |_=>none)
 |_=>none
def ag6{R:Type}(X:Cx)(T:aC)(fr:Fr)(st:aD)(d:Tmp)(pt:TypeId)(x y:Operand)(K:cC R):Option R:=match X.P.underlying pt with
 |some (.pointer e)=>aA (Nat.beq (X.P.cellsOf e) 1) (match br T st.E fr.F none x with
  |some (.adr q 0)=>(match br T st.E fr.F none y with
   |some (.int .i64 m)=>(match dJ st.G fr.H (Rm q) with
    |some (_,.kn none _ id ver _ i _)=>(match dJ st.G fr.H (lC id) with
     |some (.top j,.own _ u e' xs ver')=>aA (Nat.beq ver ver'&&Nat.beq e e') (match pP.bY.asL (.i .u8) ⟨.l u,xs⟩ with
      |some xs=>aG (decide (i=0)&&decide (m=(List.length xs:Int))) (K { st with E:=ct (some d) none (.str (strOf xs)) st.E,G:=st.G.set j (.sli none id (.i .u8) xs false) })
      |none=>none) none
     |_=>none)
    |_=>none)
   |_=>none)
  |_=>none) none
 |_=>none
theorem bL.aka{α:Type}{A:dG α}{M:Nat->Prop}{w:World}{v:Value}{xs:List α}{R:za}(h:bL A e M w v xs R)(a:xs≠[]):Roomy v:=by
 rcases h with ⟨_,cells,c,_⟩|⟨_,rfl,_⟩
 .rcases c.2 with ⟨_,b⟩|⟨g,off,cap,cur,rfl,_,hc,_⟩
  .exact absurd (cf b) a
  .obtain ⟨k,rfl⟩:∃k,cap=k+1:=⟨cap-1,by have:=List.length_pos_iff.2 a;omega⟩;exact ⟨g,off,_,k,rfl⟩
 .exact absurd rfl a
theorem Yf{v:fE}{n:Nat}(h:Roomy (sl v)):v.1=some (pJ (sl v) 0 n):=by obtain ⟨b,off,len,cap,e⟩:=h;obtain ⟨d,c,a⟩:=v;simp only [sl,Value.slice.injEq] at e;obtain ⟨rfl,rfl,rfl⟩:=e;simp [sl,pJ,Addr.add]
theorem ajQ{α:Type}{l:List α}{i:Int}{x:α}(h:idx l i=some x):l≠[]:=λe=>by subst e;unfold idx at h;split at h <;> cases h
theorem aaS{z:Array TypeId}(q:st.low fr=true)(u:Sat (ab ρ T st.G++(ab ρ T fr.H++Φ)) w)(h:aaw T fr st d x K=some r):
  Lk X.P T none (au ρ T st.E fr.F) ⟨some d,.call ⟨.builtin .unsafeSliceData,#[x],z⟩,ty,pos,af,gd⟩ w (aV r K T fr st none (some d) ρ Φ):=by
 unfold aaw at h;split at h
 .rename_i id hx;have i:=bF (ρ:=ρ) hx;simp only [AV.val] at i;split at h
  .rename_i s b t e' l f A;obtain ⟨m,C⟩:=bV A;have:b=id:=ah C;subst this;obtain ⟨I,o,D⟩:=Ay h;have o:=o aC.get_none;obtain ⟨B,p⟩:=Src.holds u m;have e:b<st.c/\f<st.c:=by
    have:(Row.own b t e' l f).low st.c=true:=by
     cases s with
     |top j=>exact pn (aD.cD.1 q).2.2.1 m
     |cu j=>exact pn (aD.cD.1 q).2.2.2 m
     |_=>exact m.elim
    simpa only [Row.low,ae,gy] using this
   have y:=B.aka (ajQ o);have k:aV r K T fr st none (some d) ρ Φ (.pointer (some (pJ (sl (ρ b).v) 0 t.rep.n))) w:=by refine aV.push (x:={ cO with a:=pJ (sl (ρ b).v) 0 t.rep.n }) q D (by simp only [AV.val,ay.bA];simp [Addr.add]) (u.add rfl ?_);intro J;rw [ay.aZ _ e.1,ay.aZ _ e.2,ay.bA];exact ⟨l,p,o,rfl⟩
   refine ⟨_,λw'=>?_,k⟩;rw [<-Yf y];rw [aC.get_none];exact aiQ (g:=true) i (λ_=>y)
  .cases h
 .cases h
theorem ah5(hc:P.cellsOf e=1)(a off n:Nat)(b:off+n<=a):liesAt P P.depth e a off e n=true:=by have hd:P.depth=(2*(P.types.size+Made.depth)+1)+1:=rfl;rw [hd];simp only [liesAt,c9];left;rw [hd];simp [rowAt,hc,b,sameLayout,Nat.mod_one]
theorem amT{E:Env}{v:fE}{y:Operand}{z it:TypeId}{M:Nat->Prop}{R:za}{xs:y5}(Z:bL (RI .u8) e M w (sl v) xs R)(hp:P.underlying z=some (.pointer e))(hc:P.cellsOf e=1)
  (hx:ar E true x (.pointer v.1)) (U:ar E true y (.int .i64 (xs.length:Int))) (Q:xs≠[]):
  ∃w',kS P E ⟨some d,.call ⟨.builtin .unsafeString,#[x,y],#[z,it]⟩,ty,pos,af,gd⟩ w (S (strOf xs)) w'/\jw R w w'/\∀M',Mv M w M' w'->(∀b∈R,¬M' b)->bP (RI .u8) M' w' (sl v) xs:=by
 have f:xs.length≠0:=λe=>Q (cf e);rcases Z with ⟨Y,cells,⟨h1,h2⟩,J⟩|⟨_,rfl,_⟩
 .rcases h2 with ⟨_,T⟩|⟨g,off,cap,cur,O,F,s,X,r,k⟩
  .exact absurd T f
  .obtain ⟨v1,v2,I⟩:=v;simp only [sl,Value.slice.injEq] at O;obtain ⟨rfl,rfl,rfl⟩:=O;have B:(RI .u8).n=1:=rfl;have N:off+I=cur.size:=by simpa [B] using r.1
   have A:w.shape? g=some (e,cur.size):=by unfold World.shape?;rw [F]
   have i:∀(j:Nat) (a:Int),xs[j]? =some a->w.cell? ((⟨g,off,none⟩:Addr).add j)=some (.int .u8 a):=λj a K=>by
    have D:=(List.getElem?_eq_some_iff.1 K).1;have hA:=J.2 j D;have ha:xs[j]=a:=(List.getElem?_eq_some_iff.1 K).2;have G:cells[j]? =some (.int .u8 a):=by
     have e1:(cells.drop (j*1)).take 1=[.int .u8 a]:=by rw [<-ha];exact hA
     have e2:=congrArg (λl=>l[0]?) e1;simpa using e2
    exact (Dv F k).cell G
   have W:xs.length<=9223372036854775807:=by unfold maxLen at X;omega
   have o:(Builtin.unsafeString_ #[z,it] ty #[.pointer (some ⟨g,off,none⟩),.int .i64 xs.length]).run P w= .ok (S (strOf xs)) (w.freeze ⟨g,off,none⟩ xs.length):=by
    have C:=GN (P:=P) (w:=w) xs ⟨g,off,none⟩ .empty i;have h:=ah5 (P:=P) hc (cur.size/P.cellsOf e) off xs.length (by rw [hc,Nat.div_one];omega);have u:¬(9223372036854775807:Int)<(xs.length:Int):=by omega
    have q:i64.max=9223372036854775807:=rfl;have p:¬(xs.length:Int)<0:=by omega
    refine (Sem.run_bind (P:=P) (w:=w) (asInt (.int .i64 xs.length)) _).trans ?_;simp [asInt,asIntOf,q,u,p,f,variablesAt,A,elemOf,run_underlying hp,h,C,S]
   have V:(w.freeze ⟨g,off,none⟩ xs.length).heap[g]? =some (.cells cur e (off,off+xs.length)):=by unfold World.freeze;rw [gx f];simp [sv,F]
   have t:R=[g]:=by rw [Y];simp [dv,Value.ownBlock,sl]
   refine ⟨w.freeze ⟨g,off,none⟩ xs.length,λn' a L=>by simp [execOp,resolve,invoke,builtin,hx n' a L rfl,U n' a L rfl,o],?_,λM' m hb=>?_⟩
   .rw [t];unfold World.freeze;rw [gx f];refine ⟨rfl,rfl,rfl,by simp,λc _ H=>?_⟩;have:g≠c:=λe=>H (by simp [e]);simp [sv,this]
   .refine .inr ⟨g,off,I,cur,e,_,rfl,hb g (by rw [t];simp),V,s,Nat.le_of_eq r.1,?_⟩;rw [k];exact J.mv m
 .exact absurd rfl Q
theorem akv{y:Operand}{D it:TypeId}(_hl:st.low fr=true)(s:Sat (ab ρ T st.G++(ab ρ T fr.H++Φ)) w)(h:ag6 X T fr st d D x y K=some r):
  iI X.P T none (au ρ T st.E fr.F) ⟨some d,.call ⟨.builtin .unsafeString,#[x,y],#[D,it]⟩,ty,pos,af,gd⟩ w (aV r K T fr st none (some d) ρ Φ):=by
 unfold ag6 at h;split at h
 .rename_i e hp;obtain ⟨hc,h⟩:=aI h;have hc:=ah hc;split at h
  .rename_i q hx;have f:=bF (ρ:=ρ) hx;simp only [AV.val] at f;split at h
   .rename_i m O;have c:=bF (ρ:=ρ) O;simp only [AV.val] at c;split at h
    .rename_i s1 q' id N u1 i xe t;obtain ⟨f1,f2⟩:=bV t;have:q'=q:=ah f2;subst this;have V:=Src.holds s f1;split at h
     .rename_i j a u e' M C S;obtain ⟨L,Z⟩:=bV S;have:a=id:=ah Z;subst this;obtain ⟨B,A⟩:=aI h;simp only [ae] at B;have e1:=ah B.1;have e2:=ah B.2;subst e1;subst e2;split at A
      .rename_i xs o;obtain ⟨eu,ex⟩:=oY o;subst eu;subst ex;obtain ⟨J,Y⟩:=eo A;simp only [ae,kR] at J;obtain ⟨rfl,rfl⟩:=J;have hi:=fj (ρ:=ρ) (T:=T) (Φ:=ab ρ T fr.H++Φ) L;obtain ⟨I,l⟩:=s.at_ hi;obtain ⟨l0,b1,b2,b3⟩:=V aC.get_none;obtain ⟨e4,e5⟩:=NF b1 l;cases e4;cases e5;have k:=ajQ b2;have Q:=I.aka k;have p:ar (au ρ T st.E fr.F) true x (.pointer (ρ a).v.1):=by rw [Yf (n:=(Ty.i .u8).rep.n) Q,<-b3];simpa [Addr.add] using f
       obtain ⟨w',g,W,U⟩:=amT (P:=X.P) (d:=d) (ty:=ty) (pos:=pos) (af:=af) (gd:=gd) (it:=it) I hp hc p c k;have R:j<st.G.length:=(List.getElem?_eq_some_iff.1 L).1;refine .none_ (bE.gd (bE.mA g (aV.iB Y (bb _) rfl rfl ?_)));show Sat (ab _ T (st.G.set j _)++_) _;rw [eV R];exact s.ng hi W (λb hb=>by cases hb) (λM' m hb _=>⟨U M' m (λb z=>hb b z (λh=>by cases h)),λh=>by cases h⟩)
      .cases A
     .cases h
    .cases h
   .cases h
  .cases h
 .cases h
def agR{R:Type}(X:Cx)(T:aC)(fr:Fr)(st:aD)(g:GK)(d:Tmp)(t:TypeId)(x:Operand)(K:cC R):Option R:=match eR X.P t with
 |some _=>(match br T st.E fr.F g x with
  |some (.sl id)=>(match Ya st.G fr.H id with
   |some s=>aA (T.imp g s.g) (K { st with E:=ct (some d) g (.int .i64 (s.l.length:Int)) st.E }) none
   |none=>none)
  |_=>none)
 |none=>none
theorem ami{g:GK}{t:TypeId}(c:Sat (ab ρ T st.G++(ab ρ T fr.H++Φ)) w)(h:agR X T fr st g d t x K=some r):
  Lk X.P T g (au ρ T st.E fr.F) ⟨some d,.call ⟨.builtin .len,#[x],#[t]⟩,ty,pos,af,gd⟩ w (aV r K T fr st g (some d) ρ Φ):=by
 unfold agR at h;split at h
 .rename_i e i;split at h
  .rename_i id hx;have a:=aR (ρ:=ρ) hx;simp only [AV.val] at a;split at h
   next s b=>obtain ⟨k,j⟩:=aI h;exact ⟨_,λw'=>mL (bT i) a (λf=>V0 c b (aC.jK k f)),aV.iB j (bb _) rfl rfl c⟩
   .cases h
  .cases h
 .cases h
end
end
end Go.Proofs.YtkedhpmpejhekaaGreatDoor
