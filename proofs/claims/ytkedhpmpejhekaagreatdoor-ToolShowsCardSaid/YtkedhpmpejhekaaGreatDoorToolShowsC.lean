/- Own texts for ToolShows, cut and joined by a program. -/
import Derived.Test.YtkedhpmpejhekaaGreatDoorToolShowsB
set_option linter.all false
namespace Go.Proofs.YtkedhpmpejhekaaGreatDoor
open IntKind (i64)
noncomputable section
open Go.Lib
section
variable {X : Cx} {R : Type} {r : R} {K : cB R} {T : aB} {fr : Fr} {st : aC} {g : GK} {d : Tmp} {ρ : ay} {Φ : Ctx} {w : World} {ty : TypeId} {pos : String} {af : x3} {gd : vb}
def aaq:Operand->Operand->Bool
 | .tmp a,.tmp b=>Nat.beq a b
 | .const (.int .i64 a),.const (.int .i64 b)=>decide (a=b)
 |_,_=>false
theorem acQ{x y:Operand}(h:aaq x y=true):x=y:=by
 unfold aaq at h;split at h
 .rw [ah h]
 .rw [qe h]
 .cases h
def ahe(_T:aB)(g:GK)(st:aC)(d:Tmp)(G:List Row)(t:Ty)(l:List t.T)(i j:Int)(clip:Bool)(K:cB R):Option R:=
 K { st with c:=st.c+1,E:=cu (some d) g (.sl st.c) st.E,G:= .sli g st.c t (bD l i j) clip::G }
def acs(X:Cx)(T:aB)(fr:Fr)(st:aC)(g:GK)(d:Tmp)(t:TypeId)(x:Operand)(lo hi mx:Option Operand)(K:cB R):Option R:=match eT X.P t with
 |some e=>(match jS X.P e with
  |some z=>(match br T st.E fr.F g x with
   |some (.sl id)=>(match loA T st.E fr.F g lo with
    |some i=>(match hiA T st.E fr.F g hi with
     |some j=>(match dH (cm [id] st.G) fr.H (lz id) with
      |some (_,.sli g' _ u l _)=>aA ( T.imp g g'&&Nat.beq z.1 u.n' ) ( match mx with
       |none=>Ih (some (db i (j.getD (l.length:Int)) l.length)) (g.map λ_=>T.get g) (ahe T g st d (cm [id] st.G) u l i (j.getD (l.length:Int)) false K)
       |some y=>(match hi with
        |some h=>(match br T st.E fr.F g y with
         |some (.int _ m)=>aA (aaq h y) ( Ih (some (jO i m m l.length)) (g.map λ_=>T.get g) (ahe T g st d (cm [id] st.G) u l i m true K) )
          ( Ih (some (jO i m m l.length&&(j.getD (l.length:Int)==m))) (g.map λ_=>T.get g) (ahe T g st d (cm [id] st.G) u l i m true K) )
         |_=>none)
        |none=>none) ) none
      |_=>none)
     |none=>none)
    |none=>none)
   |_=>none)
  |none=>none)
 |none=>none
theorem Qm{G:List Row}{t:Ty}{l:List t.T}{i j:Int}{a:Bool}{p:fA}(k:st.low fr=true)(b:bC st.c G=true)(f:Sat (ab ρ T G++(ab ρ T fr.H++Φ)) w)
  (hp:T.get g=true->bQ t.rep (Ctx.M (ab ρ T G++(ab ρ T fr.H++Φ))) w (sl p) (bD l i j)/\(a=true->p.2.2=(bD l i j).length)) (h:ahe T g st d G t l i j a K=some r):
  aV r K T fr st g (some d) ρ Φ (sl p) w:=by
 refine aV.new (ρ':=ρ.set st.c { cM with v:=p }) k h ay.aZ (gy _) rfl (by simp only [AV.val,ay.bB]) ?_;show Sat (ab _ T (_::G)++_) w;have e:=bf (T:=T) (ay.aZ (ρ:=ρ) (j:=st.c) (x:={ cM with v:=p })) b;rw [ab,cx];rw [ab] at e;rw [e];refine f.add rfl ?_;simp only [Row.item,ay.bB];exact hp
theorem VR{t:TypeId}{x:Operand}{lo hi mx:Option Operand}(S:st.low fr=true)(I:Sat (ab ρ T st.G++(ab ρ T fr.H++Φ)) w)(h:acs X T fr st g d t x lo hi mx K=some r):
  KH X.P T g (au ρ T st.E fr.F) ⟨some d,.slice t x lo hi mx,ty,pos,af,gd⟩ w (aV r K T fr st g (some d) ρ Φ):=by
 unfold acs at h;split at h
 .rename_i e he;split at h
  .rename_i z hz;obtain ⟨n,bytes,z⟩:=z;split at h
   .rename_i id hx;split at h
    .rename_i i hi;split at h
     .rename_i j hj;replace I:=iP (ids:=[id]) I;have C:=pB (ids:=[id]) (aC.cC.1 S).2.2.1;have A:=aR (ρ:=ρ) hx;simp only [AV.val] at A;split at h
      .rename_i s g' o u l b Z;obtain ⟨h1,D⟩:=aI h;simp only [ae] at h1;have hn:n=u.rep.n:=(ah h1.2).trans u.BS.symm;obtain ⟨f1,f2⟩:=bW Z;have:o=id:=ah f2;subst this;have hT:=Src.holds I f1;have J:T.get g=true->bQ u.rep _ w (sl (ρ o).v) l:=λc=>(hT (aB.jy h1.1 c)).1;have B:=cE hz;rw [hn] at B;split at D
       .obtain ⟨R,O⟩:=oy D;obtain ⟨p,N,L⟩:=bQ.arj J (λc=>R _ rfl c);have f:=Qm (p:=p) S C I (λc=>⟨L c,λhb=>by cases hb⟩) O;exact ⟨_,λw'=>DG (bV he) B A (λc=>(J c).len) (LH hi) (Vk hj) N,f⟩
       .rename_i y;split at D
        .rename_i U;split at D
         .rename_i k m hy;have q:=aR (ρ:=ρ) hy;simp only [AV.val] at q;rcases dq D with ⟨h5,h6⟩|⟨_,h6⟩
          .have:=acQ h5;subst this;obtain ⟨R,O⟩:=oy h6;have key:∃p:fA,(T.get g=true->MO (sl (ρ o).v) i m m u.rep.n (sl p))/\(T.get g=true->bQ u.rep (Ctx.M (ab ρ T (cm [o] st.G)++(ab ρ T fr.H++Φ))) w (sl p) (bD l i m)/\(true=true->p.2.2=(bD l i m).length)):=by
            cases c:T.get g
            .exact ⟨(none,0,0),(λh=>by cases h),(λh=>by cases h)⟩
            .obtain ⟨p,W,V⟩:=bQ.anF (J c) (R _ rfl c);exact ⟨_,λ_=>W,λ_=>⟨V,λ_=>rfl⟩⟩
           obtain ⟨p,N,L⟩:=key;have f:=Qm (p:=p) S C I L O;exact ⟨_,λw'=>Sd (lo:=lo) (hi:=some U) (bV he) B A (λc=>(J c).len) (LH hi) ⟨k,q⟩ q N,f⟩
          .obtain ⟨R,O⟩:=oy h6;have Q:T.get g=true->jO i m m l.length=true/\j.getD (l.length:Int)=m:=λc=>by have:=R _ rfl c;simp only [ae,kX] at this;exact this
           have key:∃p:fA,(T.get g=true->MO (sl (ρ o).v) i m m u.rep.n (sl p))/\(T.get g=true->bQ u.rep (Ctx.M (ab ρ T (cm [o] st.G)++(ab ρ T fr.H++Φ))) w (sl p) (bD l i m)/\(true=true->p.2.2=(bD l i m).length)):=by
            cases c:T.get g
            .exact ⟨(none,0,0),(λh=>by cases h),(λh=>by cases h)⟩
            .obtain ⟨p,W,V⟩:=bQ.anF (J c) (Q c).1;exact ⟨_,λ_=>W,λ_=>⟨V,λ_=>rfl⟩⟩
           obtain ⟨p,N,L⟩:=key;have f:=Qm (p:=p) S C I L O;have Y:∃k,ar (au ρ T st.E fr.F) (T.get g) U (.int k m):=by obtain ⟨k,hk⟩:∃k,ar (au ρ T st.E fr.F) (T.get g) U (.int k (j.getD (l.length:Int))):=Vk (ρ:=ρ) (len:=l.length) hj;exact ⟨k,λn a Z c=>by rw [hk n a Z c,(Q c).2]⟩
           exact ⟨_,λw'=>Sd (lo:=lo) (hi:=some U) (bV he) B A (λc=>(J c).len) (LH hi) Y q N,f⟩
         .cases D
        .cases D
      .cases h
     .cases h
    .cases h
   .cases h
  .cases h
 .cases h
def W5(len:Nat)(z:List AV):List AV:=(List.replicate len z).flatten
theorem RH{len:Nat}{z:List AV}:AV.ao ρ (W5 len z)=(List.replicate len (AV.ao ρ z)).flatten:=by
 unfold W5
 induction len with
 |zero=>simp [AV.ao]
 |succ n ih=>simp only [qi,List.flatten_cons,cZ,ih]
def unR(T:aB)(g:GK):List Row->List Row
 |[]=>[]
 |r::G=>(match r with
  | .sli g' id t l c=>aA (T.imp g g') (.sli none id t l c) (.sli g' id t l c)
  |r=>r)::unR T g G
def unG(T:aB)(g:GK)(G:List Row):List Row:=match g with
 |none=>G
 |some _=>unR T g G
theorem Yl{ρ:ay}{T:aB}{g:GK}(a:T.get g=true):{G:List Row}->ab ρ T (unR T g G)=ab ρ T G
 |[]=>rfl
 |r::G=>by
  have ih:=Yl (ρ:=ρ) a (G:=G);unfold unR;simp only [ab,cx] at ih ⊢;rw [ih];congr 1;cases r with
  |sli g' id t l c=>
   show Row.item ρ T (aA (T.imp g g') (.sli none id t l c) (.sli g' id t l c))=_;cases h:T.imp g g' with
   |false=>rfl
   |true=>
    show Row.item ρ T (.sli none id t l c)=_;simp only [Row.item,aB.get_none,aB.jy h a]
  |_=>rfl
theorem DL{ρ:ay}{T:aB}{g:GK}(a:T.get g=true){G:List Row}:ab ρ T (unG T g G)=ab ρ T G:=by
 cases g with
 |none=>rfl
 |some k=>exact Yl a
def akx(X:Cx)(T:aB)(fr:Fr)(st:aC)(g:GK)(d:Tmp)(t:TypeId)(len:Nat)(ps:List (Nat×Operand))(K:cB R):Option R:=match eT X.P t with
 |some e=>(match yR X.tys e with
  |some u=>(match jS X.P e with
   |some z=>(match oP T st.E fr.F g (ps.map (·.2)) with
    |some vs=>(match yX (λi=>some (i*z.1,z.1)) ((ps.map (·.1)).zip vs) (W5 len (z.2.2.cells.toList.map iU)) with
     |some cs=>(match rdL (unG T g (cm (AV.dZ (.agg vs)++(vs.map AV.dZ).flatten) st.G)) (unG T g fr.H) u len cs with
      |some xs=>aA ( Nat.beq z.1 u.n'&&Nat.beq z.2.2.cells.size z.1&&Nat.ble (len*z.1) 16777216 ) ( match g with
       |none=>aA ( Nat.blt 0 (len*z.1)||Nat.beq len 0&&ps.isEmpty ) ( K { st with c:=st.c+1,E:=cu (some d) none (.sl st.c) st.E,G:= .own st.c u e xs st.c::cm (AV.dZ (.agg vs)++(vs.map AV.dZ).flatten) st.G } ) none
       |some _=>aA ( Nat.blt 0 (len*z.1)||Nat.beq len 0&&ps.isEmpty ) ( K { st with c:=st.c+1,E:=cu (some d) g (.sl st.c) st.E,G:= .sli g st.c u xs false::cm (AV.dZ (.agg vs)++(vs.map AV.dZ).flatten) st.G } ) none ) none
      |none=>none)
     |none=>none)
    |none=>none)
   |none=>none)
  |none=>none)
 |none=>none
theorem wC{t:Ty}{e:TypeId}{p:fA}{l:List t.T}{G:List Row}{w':World}{st':aC}(h:st.low fr=true)(f:bC st.c G=true)(g:Sat (ab ρ T G++(ab ρ T fr.H++Φ)) w)(n:Ext w w')
  (i:∀b∈tf p,b<w'.heap.size/\w.heap.size<=b) (k:∀M',Mv (Ctx.M (ab ρ T G++(ab ρ T fr.H++Φ))) w M' w'->bK t.rep e M' w' (sl p) l (tf p))
  (a:st'={ st with c:=st.c+1,E:=cu (some d) none (.sl st.c) st.E,G:= .own st.c t e l st.c::G }) (hK:K st'=some r):aV r K T fr st none (some d) ρ Φ (sl p) w':=by
 subst a;refine aV.new (ρ':=ρ.set st.c { cM with v:=p,y:=⟨.l t,l⟩ }) h hK ay.aZ (gy _) rfl (by simp only [AV.val,ay.bB]) ?_;show Sat (ab _ T (_::G)++_) w';have e:=bf (T:=T) (ay.aZ (ρ:=ρ) (j:=st.c) (x:={ cM with v:=p,y:=⟨.l t,l⟩ })) f;rw [ab,cx];rw [ab] at e;rw [e];refine g.push n (λb hb=>?_) (λM' m=>?_)
 .simp only [Row.item,ay.bB] at hb;exact i b hb
 .simp only [Row.item,ay.bB];exact ⟨k M' m,trivial⟩
theorem D8{b n c:Nat}:dv (sl (some ⟨b,0,none⟩,n,c))=[b]:=rfl
theorem AD{p:fA}{b:Nat}(h:b∈tf p):b∈dv (sl p):=by
 unfold tf at h;split at h
 .cases h
 .exact h
theorem aoc{t:TypeId}{len:Nat}{ps:Array (Nat×Operand)}(N:st.low fr=true)(y:Sat (ab ρ T st.G++(ab ρ T fr.H++Φ)) w)(h:akx X T fr st g d t len ps.toList K=some r):
  iN X.P T g (au ρ T st.E fr.F) ⟨some d,.buildSlice t len ps,ty,pos,af,gd⟩ w (aV r K T fr st g (some d) ρ Φ):=by
 obtain ⟨ps⟩:=ps;simp only at h;unfold akx at h;split at h
 .rename_i e Q;split at h
  .rename_i u hu;split at h
   .rename_i z hz;obtain ⟨n,bytes,z⟩:=z;split at h
    .rename_i vs U;split at h
     .rename_i cs V;have q:=pB (ids:=AV.dZ (.agg vs)++(vs.map AV.dZ).flatten) (aC.cC.1 N).2.2.1;replace y:=iP (ids:=AV.dZ (.agg vs)++(vs.map AV.dZ).flatten) y;generalize cm (AV.dZ (.agg vs)++(vs.map AV.dZ).flatten) st.G=G at h q y;split at h
      .rename_i xs S;obtain ⟨R,h2⟩:=aI h;simp only [ae] at R;obtain ⟨⟨a1,a2⟩,Z⟩:=R;have hn:n=u.rep.n:=(ah a1).trans u.BS.symm;have C:z.cells.size=n:=ah a2;have hk:T.get g=true->xs.length=len/\cL u.rep (Ctx.M (ab ρ T G++(ab ρ T fr.H++Φ))) w (AV.ao ρ cs) xs:=λA=>by have:=Um (ρ:=ρ) (T:=T) (Φ:=Φ) (w:=w) (by rw [DL A,DL A];exact y) _ _ _ S;rwa [DL A,DL A] at this
       have s:=cE hz;have o:=we (ρ:=ρ) V;rw [B4,RH,kP] at o;have B:0<n->oR n len z.cells.toList ((ps.map (·.1)).zip (AV.ao ρ vs))=some (AV.ao ρ cs).toArray:=λa=>by unfold oR;have I:=Dn z.cells.toList (by simp [C];exact a) len;simp only [ch,C] at I;simp only [ch,C];rw [<-o,<-I]
       have i:=fN (ρ:=ρ) U;subst hn;cases g with
       |none=>
        obtain ⟨L,J⟩:=hk aB.get_none;obtain ⟨l,O⟩:=aI h2;simp only [c5,ae] at l;have i:gG (au ρ T st.E fr.F) true (ps.map (·.2)) (AV.ao ρ vs):=by simpa using i
        rcases l with l|⟨l,W⟩
        .have a:0<u.rep.n:=by
          have:0<len*u.rep.n:=by simpa using l
          exact qZ (λe=>by simp [e] at this)
         have f:=nT (P:=X.P) (w:=w) (dst:=some d) (ty:=ty) (pos:=pos) (af:=af) (bV Q) s (zs:=z.cells.toList) (by simp) l Z i (B a);have hlen:len*1<=len*u.rep.n:=Nat.mul_le_mul_left _ a;have h9:=cj Z;have h8:Nat.ble len 9223372036854775807=true:=qf (by omega);refine .none_ (bF.gd (bF.mC f ?_));have:=wC (d:=d) (t:=u) (e:=e) (p:=(some ⟨w.heap.size,0,none⟩,len,len)) N q y (dY w (.cells (AV.ao ρ cs).toArray e)) (λb hb=>by have:=AD hb;rw [D8] at this;simp only [l5] at this;subst this;simp) (λM' m=>(bK.of (gb.fresh (heap_alloc_new w _) L h8 (J.mv m))).BA) rfl O
         exact this
        .have Y:len=0:=ah l;subst Y;have I:ps=[]:=by simpa using W
         subst I;have D:xs=[]:=cp L;subst D;have f:=sE (P:=X.P) (E:=au ρ T st.E fr.F) (w:=w) (dst:=some d) (ty:=ty) (pos:=pos) (af:=af) (bV Q) s;refine .none_ (bF.gd (bF.mC f ?_));have:=wC (d:=d) (t:=u) (e:=e) (p:=(some ⟨w.heap.size,0,none⟩,0,0)) N q y (dY w (.cells ([]:w9).toArray e)) (λb hb=>by have:=AD hb;rw [D8] at this;simp only [l5] at this;subst this;simp) (λM' m=>(bK.of (gb.fresh (heap_alloc_new w _) rfl rfl cL.nil)).BA) rfl O
         exact this
       |some k=>
        obtain ⟨l,O⟩:=aI h2;simp only [c5,ae] at l;refine ⟨λA=>?_,λA=>?_⟩
        .obtain ⟨L,J⟩:=hk A;rw [A] at i;have key:∃cells:w9,kM X.P (au ρ T st.E fr.F) ⟨some d,.buildSlice t len ⟨ps⟩,ty,pos,af,none⟩ w (.slice (some ⟨w.heap.size,0,none⟩) len len) (w.alloc (.cells cells.toArray e))/\cL u.rep (Ctx.M (ab ρ T G++(ab ρ T fr.H++Φ))) w cells xs:=by
          rcases l with l|⟨l,W⟩
          .have a:0<u.rep.n:=by
            have:0<len*u.rep.n:=by simpa using l
            exact qZ (λe=>by simp [e] at this)
           exact ⟨AV.ao ρ cs,nT (P:=X.P) (w:=w) (dst:=some d) (ty:=ty) (pos:=pos) (af:=af) (bV Q) s (zs:=z.cells.toList) (by simp) l Z i (B a),J⟩
          .have Y:len=0:=ah l;subst Y;have I:ps=[]:=by simpa using W
           subst I;have D:xs=[]:=cp L;subst D;exact ⟨[],sE (P:=X.P) (E:=au ρ T st.E fr.F) (w:=w) (dst:=some d) (ty:=ty) (pos:=pos) (af:=af) (bV Q) s,cL.nil⟩
         obtain ⟨cells,f,J⟩:=key;refine bF.gd (bF.mC f ?_);have R:=y.ext (dY w (.cells cells.toArray e));have hf:bQ u.rep (Ctx.M (ab ρ T G++(ab ρ T fr.H++Φ))) (w.alloc (.cells cells.toArray e)) (sl (some ⟨w.heap.size,0,none⟩,len,len)) xs:=
          bQ.fresh (heap_alloc_new w _) (λhm=>by have:=y.lt hm;omega) L (J.mv ((dY w _).mv _))
         refine aV.new (ρ':=ρ.set st.c { cM with v:=(some ⟨w.heap.size,0,none⟩,len,len) }) (av:= .sl st.c) N O ay.aZ (gy _) rfl (by simp only [AV.val,ay.bB];rfl) ?_;show Sat (ab _ T (_::G)++_) _;have e:=bf (T:=T) (ay.aZ (ρ:=ρ) (j:=st.c) (x:={ cM with v:=(some ⟨w.heap.size,0,none⟩,len,len) })) q;rw [ab,cx];rw [ab] at e;rw [e];refine R.add rfl ?_;simp only [Row.item,ay.bB];exact λ_=>⟨hf,λhb=>by cases hb⟩
        .refine ⟨_,aV.new (ρ':=ρ.set st.c cM) (av:= .sl st.c) N O ay.aZ (gy _) rfl rfl ?_⟩;show Sat (ab _ T (_::G)++_) _;have e:=bf (T:=T) (ay.aZ (ρ:=ρ) (j:=st.c) (x:=cM)) q;rw [ab,cx];rw [ab] at e;rw [e];refine y.add rfl ?_;exact λh=>by rw [A] at h;cases h
      .cases h
     .cases h
    .cases h
   .cases h
  .cases h
 .cases h
end
section
variable {X : Cx} {R : Type} {r : R} {K : cB R} {T : aB} {fr : Fr} {st : aC} {g : GK} {d : Tmp} {ρ : ay} {Φ : Ctx} {w : World} {ty : TypeId} {pos : String} {af : x3} {gd : vb}
def ago(X:Cx)(T:aB)(fr:Fr)(st:aC)(d:Tmp)(t:TypeId)(x y:Operand)(K:cB R):Option R:=match eT X.P t with
 |some e=>(match yR X.tys e with
  |some u=>(match jS X.P e with
   |some z=>(match br T st.E fr.F none x with
    |some (.int _ l)=>aA ( aaq x y&&Nat.beq z.1 u.n'&&Nat.beq z.2.2.cells.size z.1&&Nat.blt 0 z.1 ) (
     match rd1 [] [] u (z.2.2.cells.toList.map iU) with
     |some zx=>aH (decide (0<=l)) (aH (aG l.toNat z.2.1) (K { st with c:=st.c+1,E:=cu (some d) none (.sl st.c) st.E,G:= .own st.c u e (List.replicate l.toNat zx) st.c::st.G }))
     |none=>none ) none
    |_=>none)
   |none=>none)
  |none=>none)
 |none=>none
theorem ac1{t:Ty}{v:AV}{l:List t.T}(h:pQ [] [] t v=some l):∀(M:Nat->Prop) (w:World),bQ t.rep M w (v.val ρ) l:=by
 unfold pQ at h;split at h
 .rename_i j;split at h
  next a=>simp [dH,mG] at a
  .cases h
 .cases h;intro M w;simp only [AV.val];exact bQ.nil
 .cases h
theorem XK:(t:Ty)->(vs:List AV)->(x:t.T×List AV)->nX [] [] t vs=some x->∃us,vs=us++x.2/\∀(M:Nat->Prop) (w:World),t.rep.rd M w (AV.ao ρ us) x.1
 | .i k,vs,x,h=>by
  unfold nX at h;split at h
  next r y us=>obtain ⟨g,f⟩:=aI h;have:=gw g;subst this;cases f;exact ⟨[.int k y],rfl,λM w=>by simp only [AV.ao,AV.val];rfl⟩
  .cases h
 | .bo,vs,x,h=>by
  unfold nX at h;split at h
  next y us=>cases h;exact ⟨[.bool y],rfl,λM w=>by simp only [AV.ao,AV.val];rfl⟩
  .cases h
 | .s,vs,x,h=>by
  unfold nX at h;split at h
  next y us=>cases h;exact ⟨[.str y],rfl,λM w=>by simp only [AV.ao,AV.val];rfl⟩
  .cases h
 | .un,vs,x,h=>by
  unfold nX at h;cases h;exact ⟨[],rfl,λM w=>by simp only [AV.ao];rfl⟩
 | .n,vs,x,h=>by
  unfold nX at h;split at h
  next t us=>cases h;exact ⟨[.ifc t (.agg [])],rfl,λM w=>by simp only [AV.ao,AV.val];rfl⟩
  .cases h
 | .mp _ _,vs,x,h=>by unfold nX at h;cases h
 | .p a b,vs,x,h=>by
  unfold nX at h;split at h
  .rename_i y m;split at h
   next z j=>cases h;obtain ⟨us,q,g⟩:=XK a vs y m;obtain ⟨d,o,f⟩:=XK b y.2 z j;refine ⟨us++d,by rw [q,o,aO],λM w=>?_⟩;rw [cZ];exact ⟨_,_,rfl,g M w,f M w⟩
   .cases h
  .cases h
 | .l t,vs,x,h=>by
  unfold nX at h;split at h
  .rename_i v us;split at h
   next l e=>cases h;refine ⟨[v],rfl,λM w=>?_⟩;simp only [AV.ao];exact (ac1 e M w).rsl
   .cases h
  .cases h
 | .ex,vs,x,h=>by
  unfold nX at h;split at h
  .rename_i a b c v us;split at h
   next l e=>cases h;refine ⟨[.int .i64 a,.int .i64 b,.int .i64 c,v],rfl,λM w=>?_⟩;simp only [AV.ao,AV.val];exact O1 (ac1 e M w).rsl
   .cases h
  .cases h
theorem aln{t:TypeId}{x y:Operand}(s:st.low fr=true)(D:Sat (ab ρ T st.G++(ab ρ T fr.H++Φ)) w)(h:ago X T fr st d t x y K=some r):
  iN X.P T none (au ρ T st.E fr.F) ⟨some d,.makeSlice t x y,ty,pos,af,gd⟩ w (aV r K T fr st none (some d) ρ Φ):=by
 unfold ago at h;split at h
 .rename_i e L;split at h
  .rename_i u hu;split at h
   .rename_i z C;obtain ⟨n,bytes,z⟩:=z;split at h
    .rename_i k l hx;obtain ⟨v,q⟩:=aI h;simp only [ae] at v;obtain ⟨⟨⟨a1,Z⟩,Y⟩,W⟩:=v;have:=acQ a1;subst this;have J:n=u.rep.n:=(ah Z).trans u.BS.symm;have f:z.cells.size=n:=ah Y;split at q
     .rename_i B a;obtain ⟨V,S⟩:=ek q;obtain ⟨U,R⟩:=ek S;have c:=bE (ρ:=ρ) hx;simp only [AV.val] at c;have j:=cE C;subst J;have g:∀(M:Nat->Prop) (w:World),u.rep.rd M w z.cells.toList B:=by
       unfold rd1 at a;split at a
       next y' i=>cases a;obtain ⟨us,A,Q⟩:=XK (ρ:=ρ) u _ _ i;simp only [iq] at A;intro M w;have:=Q M w;rw [<-A,kP] at this;exact this
       .cases a
      obtain ⟨w',I,O,o,N⟩:=aj4 (P:=X.P) (E:=au ρ T st.E fr.F) (w:=w) (dst:=some d) (ty:=ty) (pos:=pos) (af:=af) (bV L) j (zs:=z.cells.toList) (by simp) (by simpa using f) (by simpa using W) c c V U g;refine .none_ (bF.gd (bF.mC I ?_));exact wC (d:=d) (t:=u) (e:=e) (p:=(some ⟨w.heap.size,0,none⟩,l.toNat,l.toNat)) s (aC.cC.1 s).2.2.1 D O (λb hb=>by
       have:=AD hb;rw [D8] at this;simp only [l5] at this;subst this;exact ⟨o,bb _⟩) (λM' m=>(bK.of (N M')).BA) rfl R
     .cases q
    .cases h
   .cases h
  .cases h
 .cases h
def ak3(X:Cx)(T:aB)(fr:Fr)(st:aC)(d:Tmp)(t:TypeId)(x y:Operand)(K:cB R):Option R:=match eT X.P t with
 |some e=>(match yR X.tys e with
  |some u=>(match jS X.P e with
   |some z=>(match br T st.E fr.F none x with
    |some a=>(match br T st.E fr.F none y with
     |some b=>aA ( Nat.beq z.1 u.n'&&Nat.beq z.2.2.cells.size z.1&&Nat.blt 0 z.1 ) ( match pQ (cm b.dZ st.G) fr.H u b with
      |some ys=>(match a with
       | .sl id=>(match dH (cm b.dZ st.G) fr.H (lz id) with
        |some (.top j,.own _ u' e' xs _)=>aA ( Nat.beq e e' ) ( match pQ.bZ.asL u ⟨.l u',xs⟩ with
         |some xs=>aH (aG (xs.length+ys.length) z.2.1) (K { st with c:=st.c+1,E:=cu (some d) none (.sl st.c) st.E,G:=(cm b.dZ st.G).set j (.own st.c u e (xs++ys) st.c) })
         |none=>none ) none
        |some (_,.sli none _ u' xs true)=>(match pQ.bZ.asL u ⟨.l u',xs⟩ with
         |some xs=>(match ys with
          |y::ys=>aH (aG (xs.length+(y::ys).length) z.2.1) (K { st with c:=st.c+1,E:=cu (some d) none (.sl st.c) st.E,G:= .own st.c u e (xs++y::ys) st.c::cm b.dZ st.G })
          |[]=>none)
         |none=>none)
        |_=>none)
       | .raw (.slice none 0 0)=>aH (aG (([]:List u.T).length+ys.length) z.2.1) (K { st with c:=st.c+1,E:=cu (some d) none (.sl st.c) st.E,G:= .own st.c u e ([]++ys) st.c::cm b.dZ st.G })
       |_=>none)
      |none=>none ) none
     |none=>none)
    |none=>none)
   |none=>none)
  |none=>none)
 |none=>none
theorem ao7{t:TypeId}{x y:Operand}(hl:st.low fr=true)(q:Sat (ab ρ T st.G++(ab ρ T fr.H++Φ)) w)(h:ak3 X T fr st d t x y K=some r):
  iN X.P T none (au ρ T st.E fr.F) ⟨some d,.call ⟨.builtin .append,#[x,y],#[t,t]⟩,ty,pos,af,gd⟩ w (aV r K T fr st none (some d) ρ Φ):=by
 unfold ak3 at h;split at h
 .rename_i e he;split at h
  .rename_i u hu;split at h
   .rename_i z hz;obtain ⟨n,bytes,z⟩:=z;split at h
    .rename_i a hx;split at h
     .rename_i b hy;obtain ⟨h1,g⟩:=aI h;simp only [ae] at h1;obtain ⟨⟨a1,a2⟩,a3⟩:=h1;have hn:n=u.rep.n:=(ah a1).trans u.BS.symm;have I:z.cells.size=n:=ah a2;have O:=cE hz;subst hn;have s:=pB (ids:=b.dZ) (aC.cC.1 hl).2.2.1;replace q:=iP (ids:=b.dZ) q;generalize cm b.dZ st.G=G at g s q;have o:=bE (ρ:=ρ) hx;have L:=bE (ρ:=ρ) hy;have B:0<u.rep.n:=by simpa using a3
      split at g
      .rename_i ys hys;have J:=M9 q hys;split at g
       .rename_i id;simp only [AV.val] at o;split at g
        .rename_i j k u' e' i ver R;obtain ⟨h3,h4⟩:=aI g;have:=ah h3;subst this;split at h4
         .rename_i xs N;obtain ⟨eu,ex⟩:=oH N;subst eu;simp only at ex;subst ex;obtain ⟨h5,h6⟩:=ek h4;obtain ⟨f1,f2⟩:=bW R;have:k=id:=ah f2;subst this;have hi:=fi (ρ:=ρ) (T:=T) (Φ:=ab ρ T fr.H++Φ) f1;obtain ⟨hO,_⟩:=q.at_ hi;obtain ⟨S,R',w',Y,A,hR,D⟩:=Fl (P:=X.P) (E:=au ρ T st.E fr.F) (w:=w) (dst:=some d) (ty:=ty) (pos:=pos) (af:=af) (bV he) O I B o L hO J (λb hb=>Ctx.iH hi hb) h5;have mv0:Mv (Ctx.M (ab ρ T G++(ab ρ T fr.H++Φ))) w (Ctx.M (ab ρ T G++(ab ρ T fr.H++Φ))) w':=⟨A.size,λb hb hn=>⟨hn,A.block b hb (λhc=>hn (Ctx.iH hi hc))⟩⟩;have f:=D _ mv0;have hv:∃p:fA,S=sl p:=by obtain ⟨a,cap,hv⟩:=f.len;exact ⟨(a,_,cap),hv⟩
          obtain ⟨p,rfl⟩:=hv;have hj:j<G.length:=(List.getElem?_eq_some_iff.1 f1).1;refine .none_ (bF.gd (bF.mC Y (aV.new (ρ':=ρ.set st.c { cM with v:=p,y:=⟨.l u',i++ys⟩ }) hl h6 ay.aZ (gy _) rfl (by simp only [AV.val,ay.bB]) ?_)));show Sat (ab _ T (G.set j _)++_) _;rw [eU hj,bf ay.aZ s];refine q.nd hi A (λb hb=>?_) (λM' m _=>?_)
          .simp only [Row.item,ay.bB] at hb;exact hR b (f.canon.1 b hb)
          .simp only [Row.item,ay.bB];exact ⟨f.canon.2 _ _ (D M' m),trivial⟩
         .cases h4
        .rename_i s' k u' i R;split at g
         .rename_i xs N;obtain ⟨eu,ex⟩:=oH N;subst eu;simp only at ex;subst ex;split at g
          .rename_i y0 ys0;obtain ⟨h5,h6⟩:=ek g;obtain ⟨f1,f2⟩:=bW R;have:k=id:=ah f2;subst this;obtain ⟨hS,Q⟩:=(Src.holds q f1) aB.get_none;have Q:=Q rfl;obtain ⟨ad,cap,C⟩:=hS.len;have ep:(ρ k).v=((ρ k).v.1,i.length,i.length):=by
            simp only [sl,Value.slice.injEq] at C
            ext1
            .rfl
            .ext1
             .exact C.2.1
             .exact Q
           rw [ep] at hS o;obtain ⟨i',hi',V,hby,hzz⟩:=O.out;subst hby
           obtain ⟨S,w',Y,Z,hB,D⟩:=SP t ty e i' z (bV he) hi' hzz V I hS J (List.cons_ne_nil _ _) h5;have f:=bK.of (D _ (Z.mv _));have hv:∃p:fA,S=sl p:=by obtain ⟨a,cap,hv⟩:=f.len;exact ⟨(a,_,cap),hv⟩
           obtain ⟨p,rfl⟩:=hv;have W:kM X.P (au ρ T st.E fr.F) ⟨some d,.call ⟨.builtin .append,#[x,y],#[t,t]⟩,ty,pos,af,none⟩ w (sl p) w':=λn' a R=>by simp [execOp,resolve,invoke,builtin,o n' a R rfl,L n' a R rfl,show (Builtin.append_ #[t,t] ty #[sl ((ρ k).v.1,i.length,i.length),AV.val ρ b]).run X.P w=_ from Y]
           refine .none_ (bF.gd (bF.mC W ?_));exact wC (d:=d) (t:=u') (e:=e) (p:=p) hl s q Z (λb hb=>hB b (AD hb)) (λM' m=>(bK.of (D M' m)).BA) rfl h6
          .cases g
         .cases g
        .cases g
       .simp only [AV.val] at o;obtain ⟨h5,h6⟩:=ek g;obtain ⟨S,R',w',Y,A,hR,D⟩:=Fl (P:=X.P) (E:=au ρ T st.E fr.F) (w:=w) (dst:=some d) (ty:=ty) (pos:=pos) (af:=af) (xs:=([]:List u.T)) (bV he) O I B o L bK.nil J (λb hb=>by cases hb) h5;have Z:Ext w w':=⟨A.os,A.tape,A.output,A.size,λb hb=>A.block b hb (λh=>by cases h)⟩;have f:=D _ (Z.mv _);have hv:∃p:fA,S=sl p:=by obtain ⟨a,cap,hv⟩:=f.len;exact ⟨(a,_,cap),hv⟩
        obtain ⟨p,rfl⟩:=hv;refine .none_ (bF.gd (bF.mC Y ?_));exact wC (d:=d) (t:=u) (e:=e) (p:=p) hl s q Z (λb hb=>by
         obtain ⟨q1,U⟩:=hR b (f.canon.1 b hb);rcases U with U|U
         .cases U
         .exact ⟨q1,U⟩) (λM' m=>f.canon.2 _ _ (D M' m)) rfl h6
       .cases g
      .cases g
     .cases h
    .cases h
   .cases h
  .cases h
 .cases h
end
variable {x : Operand}
def both{R:Type}(a b:Option R):Option R:=open Classical in if a=b then a else none
theorem Yy{R:Type}{a b:Option R}{r:R}(h:both a b=some r):a=some r/\b=some r:=by
 unfold both at h;split at h
 next e=>exact ⟨h,e▸h⟩
 .cases h
inductive Sh where
 |l
 |b (x y:Sh)
def aM:Sh->(R:Type)->Option R->Option R
 | .l,_,a=>a
 | .b x y,R,a=>both (aM x R a) (aM y R a)
theorem acO{R:Type}{a:Option R}:(s:Sh)->aM s R a=a
 | .l=>rfl
 | .b x y=>by show both (aM x R a) (aM y R a)=a;rw [acO x,acO y];unfold both;simp
theorem aN:aM=λ_ _ a=>a:=funext λs=>funext λ_=>funext λ_=>acO s
def wg{α R:Type}(l:List α)(k1 k0:Option R):Option R:=match l with
 |[]=>both k1 k0
 |_::_=>k0
theorem Yc{α R:Type}{l:List α}{a b:Option R}{r:R}(h:wg l a b=some r):b=some r/\(l=[]->a=some r):=by
 unfold wg at h;split at h
 .obtain ⟨d,c⟩:=Yy h;exact ⟨c,λ_=>d⟩
 .exact ⟨h,λe=>by cases e⟩
theorem kr{α:Type}{l:List α}{b:Nat}:wg l (some []) (aH (aG (List.length ([]:List α)+List.length l) b)<|some (([]:List α)++l))=aH (aG (List.length l) b) (some l):=by
 cases l with
 |nil=>
  have:aG 0 b=true:=by unfold aG;simp
  show both (some []) (aH (aG 0 b) (some []))=aH (aG 0 b) (some []);rw [this];unfold both;simp [aH]
 |cons x l=>show aH (aG (0+(l.length+1)) b) _=_;rw [hV];rfl
section
variable {X : Cx} {R : Type} {r : R} {K : cB R} {T : aB} {fr : Fr} {st : aC} {g : GK} {d : Tmp} {ρ : ay} {Φ : Ctx} {w : World} {ty : TypeId} {pos : String} {af : x3} {gd : vb}
def air(X:Cx)(st:aC)(d:Tmp)(t:TypeId)(K:cB R):Option R:=match VL X.P t with
 |some p=>(match yR X.tys p.1 with
  |some k=>(match yR X.tys p.2 with
   |some v=>K { st with c:=st.c+1,E:=cu (some d) none (.mp st.c) st.E,G:= .mp st.c k v (some [])::st.G }
   |none=>none)
  |none=>none)
 |none=>none
theorem alA{t:TypeId}(f:st.low fr=true)(e:Sat (ab ρ T st.G++(ab ρ T fr.H++Φ)) w)(h:air X st d t K=some r):
  iN X.P T none (au ρ T st.E fr.F) ⟨some d,.makeMap t none,ty,pos,af,gd⟩ w (aV r K T fr st none (some d) ρ Φ):=by
 unfold air at h;split at h
 .rename_i p hp;split at h
  .rename_i k g;split at h
   .rename_i v hv;have c:kM X.P (au ρ T st.E fr.F) ⟨some d,.makeMap t none,ty,pos,af,none⟩ w (.map (some w.heap.size)) (w.alloc (.map #[] 0)):=λn a i=>by simp [execOp,Instr.makeMap]
    refine .none_ (bF.gd (bF.mC c (aV.push (x:={ cM with m:=some w.heap.size }) f h (by simp only [AV.val,ay.bB]) ?_)));simp only [Row.item,ay.bB];exact e.push (dY _ _) (λb hb=>by
     have:b=w.heap.size:=by simpa [omap,HR] using hb
     subst this;exact ⟨by show _<(w.heap.push _).size;simp,bb _⟩) (λM' m=> .inr ⟨_,#[],0,[],rfl,rfl,by show (w.heap.push _)[w.heap.size]? =_;simp,rfl⟩)
   .cases h
  .cases h
 .cases h
def ahN(X:Cx)(T:aB)(fr:Fr)(st:aC)(t:TypeId)(x y z:Operand)(K:cB R):Option R:=match VL X.P t with
 |some p=>(match br T st.E fr.F none x with
  |some (.mp id)=>(match mG (aid id) st.G with
   |some (j,.mp _ k v md)=>(match br T st.E fr.F none y with
    |some kv=>(match br T st.E fr.F none z with
     |some vv=>(match ac9 k kv with
      |some key=>(match ac9 v vv with
       |some val=>aA ( aiu X.P p.1 k ) ( md.bind λl=>K { st with G:=st.G.set j (.mp id k v (some (lI l key val))) } ) none
       |none=>none)
      |none=>none)
     |none=>none)
    |none=>none)
   |_=>none)
  |_=>none)
 |none=>none
theorem aky{t:TypeId}{y z:Operand}(n:Sat (ab ρ T st.G++(ab ρ T fr.H++Φ)) w)(h:ahN X T fr st t x y z K=some r):
  iN X.P T none (au ρ T st.E fr.F) ⟨none,.mapUpdate t x y z,ty,pos,af,gd⟩ w (aV r K T fr st none none ρ Φ):=by
 unfold ahN at h;split at h
 .rename_i p hp;split at h
  .rename_i id hx;split at h
   .rename_i j g k v md D;split at h
    .rename_i Q u;split at h
     .rename_i O s;split at h
      .rename_i key f;split at h
       next val e=>obtain ⟨M,L⟩:=aI h;obtain ⟨l,i,J⟩:=Ae L;subst i;obtain ⟨q,N⟩:=kL D;have:g=id:=ah N;subst this;have d:=bE (ρ:=ρ) hx;have c:=bE (ρ:=ρ) u;have a:=bE (ρ:=ρ) s;simp only [AV.val] at d;rw [WN f] at c;rw [WN e] at a;have hi:=fi (ρ:=ρ) (T:=T) (Φ:=ab ρ T fr.H++Φ) q;obtain ⟨w',B,I,A,o⟩:=Wv (P:=X.P) (E:=au ρ T st.E fr.F) (w:=w) (ty:=ty) (pos:=pos) (af:=af) (Wm M) (wk hp) d c a (n.omap hi);refine .none_ (bF.gd (bF.agC B (aV.iu (av:= .raw undef) J (bb _) rfl (by simp only [AV.val]) ?_)));have C:j<st.G.length:=(List.getElem?_eq_some_iff.1 q).1;show Sat (ab ρ T (st.G.set j _)++_) _;rw [eU C];exact n.nd hi I (λb hb=>⟨o.lt b hb,.inl hb⟩) (λM' m _=>o)
       .cases h
      .cases h
     .cases h
    .cases h
   .cases h
  .cases h
 .cases h
def ame(X:Cx)(T:aB)(fr:Fr)(st:aC)(d:Tmp)(t:TypeId)(x:Operand)(K:cB R):Option R:=match br T st.E fr.F none x with
 |some (.str s)=>aA ( isStr X.P t ) ( K { st with c:=st.c+1,E:=cu (some d) none (.ptr st.c 0) st.E,G:= .it st.c s 0::st.G } ) none
 |_=>none
theorem anV{t:TypeId}(g:st.low fr=true)(f:Sat (ab ρ T st.G++(ab ρ T fr.H++Φ)) w)(h:ame X T fr st d t x K=some r):
  iN X.P T none (au ρ T st.E fr.F) ⟨some d,.range t x,ty,pos,af,gd⟩ w (aV r K T fr st none (some d) ρ Φ):=by
 unfold ame at h;split at h
 .rename_i s hx;obtain ⟨k,j⟩:=aI h;have c:=bE (ρ:=ρ) hx;simp only [AV.val] at c;have e:kM X.P (au ρ T st.E fr.F) ⟨some d,.range t x,ty,pos,af,none⟩ w (.pointer (some ⟨w.heap.size,0,none⟩)) (w.alloc (.stringIter ⟨s.toArray⟩ 0)):=λn' a i=>by simp [execOp,c n' a i rfl,Instr.range,run_underlying (oQ k),S]
  refine .none_ (bF.gd (bF.mC e (aV.push (x:={ cM with b:=w.heap.size }) g j (by simp only [AV.val,ay.bB]) ?_)));simp only [Row.item,ay.bB];exact f.push (dY _ _) (λb hb=>by
   have:b=w.heap.size:=by simpa [iter] using hb
   subst this;simp) (λ_ _=>heap_alloc_new w _)
 .cases h
def alD(T:aB)(fr:Fr)(st:aC)(d:Tmp)(x:Operand)(K:cB R):Option R:=match br T st.E fr.F none x with
 |some (.ptr id 0)=>(match mG (aqs id) st.G with
  |some (j,.it _ s p)=>cond (decide (p<s.length)) (K { st with E:=cu (some d) none (.tuple [.bool true,.int .i64 (p:Int),.int .i32 (BV s p)]) st.E,G:=st.G.set j (.it id s (nj s p)) })
   (K { st with E:=cu (some d) none (.tuple [.bool false]) st.E })
  |_=>none)
 |_=>none
theorem ao3(o:Sat (ab ρ T st.G++(ab ρ T fr.H++Φ)) w)(h:alD T fr st d x K=some r):
  iN X.P T none (au ρ T st.E fr.F) ⟨some d,.next x true,ty,pos,af,gd⟩ w (aV r K T fr st none (some d) ρ Φ):=by
 unfold alD at h;split at h
 .rename_i id hx;split at h
  .rename_i j e s p m;obtain ⟨B,I⟩:=kL m;have:e=id:=ah I;subst this;have g:=bE (ρ:=ρ) hx;simp only [AV.val] at g;have hi:=fi (ρ:=ρ) (T:=T) (Φ:=ab ρ T fr.H++Φ) B;have y:U1 w (ρ e).b s p:=o.iter hi;have A:(getObj (ρ e).b).run X.P w= .ok (.stringIter ⟨s.toArray⟩ p) w:=by simp only [getObj,Sem.run];rw [y]
   rcases sn h with ⟨q,z⟩|⟨q,z⟩
   .have k:p<s.length:=by simpa using q
    have u:=(Array.getElem?_eq_some_iff.1 y).1;have n:U1 { w with heap:=w.heap.setIfInBounds (ρ e).b (.stringIter ⟨s.toArray⟩ (nj s p)) } (ρ e).b s (nj s p):=by show (w.heap.setIfInBounds (ρ e).b _)[(ρ e).b]? =_;rw [qS u]
    have D:js [(ρ e).b] w { w with heap:=w.heap.setIfInBounds (ρ e).b (.stringIter ⟨s.toArray⟩ (nj s p)) }:=⟨rfl,rfl,rfl,by show w.heap.size<=(w.heap.setIfInBounds (ρ e).b _).size;simp,λc _ v=>by
     show (w.heap.setIfInBounds (ρ e).b _)[c]? =_;have t:c≠(ρ e).b:=by simpa using v
     rw [ql (Ne.symm t)]⟩
    have l:(setObj (ρ e).b (.stringIter ⟨s.toArray⟩ (nj s p))).run X.P w= .ok () { w with heap:=w.heap.setIfInBounds (ρ e).b (.stringIter ⟨s.toArray⟩ (nj s p)) }:=by simp only [setObj,Sem.run];rw [y]
    have i:p<(⟨s.toArray⟩:ByteArray).size:=by rw [ki];exact k
    have J:nj s p=p+(Utf8.decode ⟨s.toArray⟩ p).2:=rfl;have f:kM X.P (au ρ T st.E fr.F) ⟨some d,.next x true,ty,pos,af,none⟩ w (.tuple #[.bool true,.int .i64 (p:Int),.int .i32 (BV s p)]) { w with heap:=w.heap.setIfInBounds (ρ e).b (.stringIter ⟨s.toArray⟩ (nj s p)) }:=λn' a m=>by rw [J] at l ⊢;simp only [execOp,g n' a m rfl,Instr.next,Sem.run_bind,A,Result.andThen_ok,lk i,Sem.run_pure,l,goInt];rfl
    refine .none_ (bF.gd (bF.mC f (aV.iu (av:= .tuple [.bool true,.int .i64 (p:Int),.int .i32 (BV s p)]) z (bb _) rfl (by simp only [AV.val,AV.ao]) ?_)));have C:j<st.G.length:=(List.getElem?_eq_some_iff.1 B).1;show Sat (ab ρ T (st.G.set j _)++_) _;rw [eU C];exact o.nd hi D (λc hc=>by
     have:c=(ρ e).b:=by simpa [Row.item,Go.Proofs.YtkedhpmpejhekaaGreatDoor.iter] using hc
     subst this;exact ⟨(Array.getElem?_eq_some_iff.1 n).1,.inl (by simp [Row.item,Go.Proofs.YtkedhpmpejhekaaGreatDoor.iter])⟩) (λ_ _ _=>n)
   .have k:¬p<s.length:=by simpa using q
    have f:kM X.P (au ρ T st.E fr.F) ⟨some d,.next x true,ty,pos,af,none⟩ w (.tuple #[.bool false]) w:=λn' a m=>by
     have i:¬p<(⟨s.toArray⟩:ByteArray).size:=by rw [ki];exact k
     simp only [execOp,g n' a m rfl,Instr.next,Sem.run_bind,A,Result.andThen_ok,j0 i,Sem.run_pure]
    exact .none_ (bF.gd (bF.mC f (aV.iu (av:= .tuple [.bool false]) z (bb _) rfl (by simp only [AV.val,AV.ao]) o)))
  .cases h
 .cases h
def akS(X:Cx)(T:aB)(fr:Fr)(st:aC)(g:GK)(d:Tmp)(s dt:TypeId)(x:Operand)(K:cB R):Option R:=match br T st.E fr.F g x with
 |some (.str l)=>aA ( isStr X.P s ) ( match eT X.P dt with
  |some e=>(match Yd X.P e with
   |some .u8=>K { st with c:=st.c+1,E:=cu (some d) g (.sl st.c) st.E,G:= .sli g st.c (.i .u8) (ba l) false::st.G }
   |_=>none)
  |none=>none ) none
 |_=>none
theorem anT{s k:TypeId}(i:st.low fr=true)(c:Sat (ab ρ T st.G++(ab ρ T fr.H++Φ)) w)(h:akS X T fr st g d s k x K=some r):
  iN X.P T g (au ρ T st.E fr.F) ⟨some d,.convert s k x,ty,pos,af,gd⟩ w (aV r K T fr st g (some d) ρ Φ):=by
 unfold akS at h;split at h
 .rename_i l hx;obtain ⟨z,b⟩:=aI h;split at b
  .rename_i e t;split at b
   .rename_i q;have a:=aR (ρ:=ρ) hx;simp only [AV.val] at a;refine ⟨λf=>?_,λf=>?_⟩
    .rw [f] at a;obtain ⟨A,w',m,y,o,u⟩:=akn (P:=X.P) (E:=au ρ T st.E fr.F) (w:=w) (dst:=some d) (ty:=ty) (pos:=pos) (af:=af) (oQ z) (bV t) (Ga q) a;have j:=u (Ctx.M (ab ρ T st.G++(ab ρ T fr.H++Φ))) (λn=>by have:=c.lt n;omega);obtain ⟨p,rfl⟩:=j.lz;refine bF.gd (bF.mC m (aV.push (x:={ cM with v:=p }) i b (by simp only [AV.val,ay.bB]) ((c.ext y).add rfl ?_)));simp only [Row.item,ay.bB];exact λ_=>⟨j,λhb=>by cases hb⟩
    .exact ⟨_,aV.push (x:=cM) i b rfl (c.add rfl λh=>by rw [f] at h;cases h)⟩
   .cases b
  .cases b
 .cases h
def amo(X:Cx)(T:aB)(fr:Fr)(st:aC)(d:Tmp)(op:BinOp)(t:TypeId)(x y:Operand)(K:cB R):Option R:=match eT X.P t with
 |some _=>(match br T st.E fr.F none x with
  |some (.sl id)=>(match br T st.E fr.F none y with
   |some (.raw (.slice none 0 0))=>(match Yt st.G fr.H id with
    |some ⟨none,_,l⟩=>(match op with
     | .eql=>wg l (K { st with E:=cu (some d) none (.bool true) st.E }) (K { st with E:=cu (some d) none (.bool false) st.E })
     | .neq=>wg l (K { st with E:=cu (some d) none (.bool false) st.E }) (K { st with E:=cu (some d) none (.bool true) st.E })
     |_=>none)
    |_=>none)
   |_=>none)
  |_=>none)
 |none=>none
theorem aoS{op:BinOp}{t t':TypeId}{y:Operand}(m:Sat (ab ρ T st.G++(ab ρ T fr.H++Φ)) w)(h:amo X T fr st d op t x y K=some r):
  iN X.P T none (au ρ T st.E fr.F) ⟨some d,.binOp op t x y t',ty,pos,af,gd⟩ w (aV r K T fr st none (some d) ρ Φ):=by
 unfold amo at h;split at h
 .rename_i e p;split at h
  .rename_i id hx;split at h
   .rename_i q;split at h
    .rename_i u l i;have g:=bE (ρ:=ρ) hx;have f:=bE (ρ:=ρ) q;simp only [AV.val] at g f;have c:=WX m i aB.get_none;have a:(wW (sl (ρ id).v)=true/\l=[])\/wW (sl (ρ id).v)=false:=by
      rcases abj m i aB.get_none with s|⟨e',z⟩
      .rcases adU s with ⟨n,A⟩|n
       .exact .inl ⟨by rw [n];rfl,A⟩
       .exact .inr n
      .exact adS z
     have mk:∀b:Bool,K { st with E:=cu (some d) none (.bool b) st.E }=some r->aV r K T fr st none (some d) ρ Φ (.bool b) w:=λb hb=>aV.iu (av:= .bool b) hb (bb _) rfl (by simp only [AV.val]) m;split at h
     .obtain ⟨k,j⟩:=Yc h;refine .none_ (bF.gd (bF.run (aeg (bV p) g c f) ?_));rcases a with ⟨c1,o⟩|c1
      .rw [c1];exact mk _ (j o)
      .rw [c1];exact mk _ k
     .obtain ⟨k,j⟩:=Yc h;refine .none_ (bF.gd (bF.run (aeZ (bV p) g c f) ?_));rcases a with ⟨c1,o⟩|c1
      .rw [c1];exact mk _ (j o)
      .rw [c1];exact mk _ k
     .cases h
    .cases h
   .cases h
  .cases h
 .cases h
def WM(i:Int)(m:Nat)(k:Nat->Option R):Nat->Nat->Option R
 |0,_=>none
 |n+1,j=>cond (i==(j:Int)) (k (j*m)) (WM i m k n (j+1))
theorem C4{i:Int}{m:Nat}{k:Nat->Option R}:∀{n j:Nat},WM i m k n j=some r->∃q,j<=q/\q<j+n/\i=(q:Int)/\k (q*m)=some r
 |0,j,h=>by cases h
 |n+1,j,h=>by
  unfold WM at h;rcases sn h with ⟨d,a⟩|⟨_,a⟩
  .exact ⟨j,bb _,by omega,by simpa using d,a⟩
  .obtain ⟨q,f,e,c,b⟩:=C4 a;exact ⟨q,by omega,by omega,c,b⟩
end
def ew:List Ty->Type
 |[]=>Unit
 |[t]=>t.T
 |t::u::ts=>t.T×ew (u::ts)
def fL:(ts:List Ty)->ew ts->List bZ
 |[],_=>[]
 |[t],x=>[⟨t,x⟩]
 |t::u::ts,x=>⟨t,x.1⟩::fL (u::ts) x.2
def cG:(ts:List Ty)->List bZ->Option (ew ts)
 |[],D=>(match D with
  |[]=>some ()
  |_=>none)
 |[t],D=>(match D with
  |[d]=>d.as t
  |_=>none)
 |t::u::ts,D=>(match D with
  |d::D=>(match d.as t with
   |some x=>(match cG (u::ts) D with
    |some y=>some (x,y)
    |none=>none)
   |none=>none)
  |_=>none)
theorem AG:(a:List Ty)->{D:List bZ}->{s:ew a}->cG a D=some s->fL a s=D
 |[],D,s,h=>by
  unfold cG at h;split at h
  .rfl
  .cases h
 |[t],D,s,h=>by
  match D,h with
  |[d],h=>rw [bZ.Ng (t:=t) (d:=d) (x:=s) h];rfl
  |[],h=>cases h
  |_::_::_,h=>cases h
 |t::u::a,D,s,h=>by
  unfold cG at h;split at h
  .rename_i d c;split at h
   .rename_i x hx;split at h
    next y b=>cases h;show ⟨t,x⟩::fL (u::a) y=_;rw [AG (u::a) b,bZ.Ng hx]
    .cases h
   .cases h
  .cases h
def aio:(ts:List Ty)->ew ts
 |[]=>()
 |[t]=>t.oh
 |t::u::ts=>(t.oh,aio (u::ts))
mutual
def lD:Pt->List Ty
 | .int k=>[.i k]
 | .bool=>[.bo]
 | .str=>[.s]
 | .sli t=>[.l t]
 | .own t _ _=>[.l t]
 | .bx _ _ _ vs=>mu vs
 | .mp k v _=>[.mp k v]
 | .it=>[.s,.n]
 | .agg l=>mu l
 | .cG l=>mu l
 | .fn _ a b=>mu a++mu b
 | .ifc _ p=>lD p
 | .dat t _=>[t]
 | .ifn=>[.n]
 | .sfp=>[.bo]
 | .sty p=>lD p
 |_=>[]
def mu:List Pt->List Ty
 |[]=>[]
 |p::l=>lD p++mu l
end
def gi:List (Bool×Nat×Pt)->List Ty
 |[]=>[]
 |x::l=>lD x.2.2++gi l
abbrev Fx:=Option (Value×w9)
def tD(fx:Fx)(v:Value):Prop:= ∀p,fx=some p->v=p.1
def fxC(fx:Fx):w9:=match fx with
 |some p=>p.2
 |none=>[]
def Nu:Pt->Bool
 | .agg _=>true
 | .fn _ _ _=>true
 | .ifc _ _=>true
 |_=>false
def fx1(p:Pt)(fxs:w9):Fx:=match fxs with
 |[]=>none
 |u::_=>aA (Nu p) none (some (u,[]))
abbrev eB:=List (Bool×Item)
abbrev iY:=List (Nat×w9)
def oe(e:Nat):Nat:=e/2
def ow(e:Nat):Bool:=Nat.beq (e%2) 1
def RJ:(t:Ty)->t.T->w9->u9->List Nm->eB->List Nm->u9->Prop
 | .i k,x,cs,o,N,I,N',o'=>cs=[.int k x]/\I=[]/\N'=N/\o'=o
 | .bo,x,cs,o,N,I,N',o'=>cs=[.bool x]/\I=[]/\N'=N/\o'=o
 | .s,x,cs,o,N,I,N',o'=>cs=[S x]/\I=[]/\N'=N/\o'=o
 | .un,_,cs,o,N,I,N',o'=>cs=[]/\I=[]/\N'=N/\o'=o
 | .p a b,x,cs,o,N,I,N',o'=>∃c1 c2 N1 I1 I2 o1,RJ a x.1 c1 o N I1 N1 o1/\RJ b x.2 c2 o1 N1 I2 N' o'/\cs=c1++c2/\I=I1++I2
 | .l t,x,cs,o,N,I,N',o'=>∃a:Nm,cs=[sl a.v]/\N'=N++[a]/\((o=none::o'/\I=[(false,EY true t.rep a.v x false)])\/∃e,o=some e::o'/\I=[(ow e,mJ t.rep (oe e) a.v x True)]/\a.y=⟨.l t,x⟩)
 | .ex,x,cs,o,N,I,N',o'=>∃a:Nm,cs=[.int .i64 x.op,.int .i64 x.n,.int .i64 x.at_,sl a.v]/\N'=N++[a]/\((o=none::o'/\I=[(false,EY true Io a.v x.l false)])\/∃e,o=some e::o'/\I=[(ow e,mJ Io (oe e) a.v x.l True)]/\a.y=⟨.l .ex,x.l⟩)
 |_,_,_,_,_,_,_,_=>False
mutual
def Sem:Pt->Value->Fx->Option Value->List Nm->List bZ->eB->iY->List Nm->Prop
 | .int k,v,_,_,N,D,I,X,N'=>∃x,v= .int k x/\D=[⟨.i k,x⟩]/\I=[]/\X=[]/\N'=N
 | .bool,v,_,_,N,D,I,X,N'=>∃x,v= .bool x/\D=[⟨.bo,x⟩]/\I=[]/\X=[]/\N'=N
 | .str,v,_,_,N,D,I,X,N'=>∃x,v=S x/\D=[⟨.s,x⟩]/\I=[]/\X=[]/\N'=N
 | .sli t,v,_,_,N,D,I,X,N'=>∃(a:Nm) (l:List t.T),v=sl a.v/\D=[⟨.l t,l⟩]/\I=[(false,EY true t.rep a.v l false)]/\X=[]/\N'=N++[a]
 | .own t e m,v,fx,_,N,D,I,X,N'=>∃(a:Nm) (l:List t.T),v=sl a.v/\tD fx v/\D=[⟨.l t,l⟩]/\I=[(m,mJ t.rep e a.v l True)]/\X=[]/\N'=N++[a]/\a.y=⟨.l t,l⟩
 | .slr n,v,_,_,N,D,I,X,N'=>∃a:Nm,N[n]? =some a/\v=sl a.v/\D=[]/\I=[]/\X=[]/\N'=N
 | .bx t off m vs,v,fx,_,N,D,I,X,N'=>∃(a:Nm) (cs:w9) (I':eB) (X':iY),v= .pointer (some ⟨a.b,off,none⟩)/\tD fx v/\u5 vs cs [] (fxC fx) (N++[a]) D I' X' N'/\I=(m,box a.b t cs)::I'/\X=(aA m [(N.length,cs)] [])++X'
 | .ptr n off,v,_,_,N,D,I,X,N'=>∃a:Nm,N[n]? =some a/\v= .pointer (some ⟨a.b,off,none⟩)/\D=[]/\I=[]/\X=[]/\N'=N
 | .mp k u m,v,fx,_,N,D,I,X,N'=>∃(a:Nm) (d:Option (List (k.T×u.T))),v= .map a.m/\tD fx v/\D=[⟨.mp k u,d⟩]/\I=[(m,omap (EM k) (EM u) (.map a.m) d)]/\X=[]/\N'=N++[a]
 | .it,v,fx,_,N,D,I,X,N'=>∃(a:Nm) (s:aE) (p:Nat),v= .pointer (some ⟨a.b,0,none⟩)/\tD fx v/\D=[⟨.s,s⟩,⟨.n,p⟩]/\I=[(true,iter a.b s p)]/\X=[]/\N'=N++[a]
 | .agg l,v,fx,_,N,D,I,X,N'=>∃cs:w9,v= .agg cs.toArray/\tD fx v/\u5 l cs (aA fx.isSome cs []) [] N D I X N'
 | .cG l,v,_,_,N,D,I,X,N'=>∃cs:w9,v= .tuple cs.toArray/\u5 l cs [] [] N D I X N'
 | .fn f a b,v,fx,_,N,D,I,X,N'=>∃(us vs:w9) (D1 D2:List bZ) (I1 I2:eB) (X1 X2:iY) (N1:List Nm),v= .func (.func f) us.toArray vs.toArray/\tD fx v/\u5 a us [] [] N D1 I1 X1 N1/\u5 b vs (aA fx.isSome vs []) [] N1 D2 I2 X2 N'/\D=D1++D2/\I=I1++I2/\X=X1++X2
 | .ifc t p,v,fx,_,N,D,I,X,N'=>∃u,v= .iface t u/\tD fx v/\Sem p u (fx1 p (aA fx.isSome [u] [])) none N D I X N'
 | .iU c,v,_,_,N,D,I,X,N'=>(v=c.val (λ_=>cM)/\∀ρ,c.val ρ=c.val (λ_=>cM))/\D=[]/\I=[]/\X=[]/\N'=N
 | .dat t o,v,_,_,N,D,I,X,N'=>∃(cs:w9) (x:t.T) (o':u9),v= .agg cs.toArray/\D=[⟨t,x⟩]/\RJ t x cs o N I N' o'/\X=[]
 | .ifn,v,_,_,N,D,I,X,N'=>∃x:Nat,v= .iface x (.agg #[])/\D=[⟨.n,x⟩]/\I=[]/\X=[]/\N'=N
 | .sfp,v,_,_,N,D,I,X,N'=>∃(a:Nm) (f:Bool),N[N.length-1]? =some a/\v=As f a.b/\D=[⟨.bo,f⟩]/\I=[]/\X=[]/\N'=N
 | .sty p,v,fx,sm,N,D,I,X,N'=>fx=none/\sm=some v/\Nu p=false/\Sem p v (some (v,[])) none N D I X N'
 | .same,v,fx,sm,N,D,I,X,N'=>((∃p,fx=some p/\v=p.1)\/(fx=none/\sm=some v))/\D=[]/\I=[]/\X=[]/\N'=N
def u5:List Pt->w9->w9->w9->List Nm->List bZ->eB->iY->List Nm->Prop
 |[],vs,_,_,N,D,I,X,N'=>vs=[]/\D=[]/\I=[]/\X=[]/\N'=N
 |p::l,vs,fxs,sms,N,D,I,X,N'=>∃(v:Value) (vs':w9) (D1 D2:List bZ) (I1 I2:eB) (X1 X2:iY) (N1:List Nm),vs=v::vs'/\Sem p v (fx1 p fxs) sms.head? N D1 I1 X1 N1/\u5 l vs' fxs.tail sms.tail N1 D2 I2 X2 N'/\D=D1++D2/\I=I1++I2/\X=X1++X2
end
def Ft(fix:Nat->Fx)(val:Nat->Option Value):List (Bool×Nat×Pt)->List Nm->List bZ->eB->iY->List Nm->Prop
 |[],N,D,I,X,N'=>D=[]/\I=[]/\X=[]/\N'=N
 |x::l,N,D,I,X,N'=>∃(v:Value) (D1 D2:List bZ) (I1 I2:eB) (X1 X2:iY) (N1:List Nm),(aA x.1 ((fix x.2.1).map (·.1)) (val x.2.1))=some v/\Sem x.2.2 v (aA x.1 (fix x.2.1) none) none N D1 I1 X1 N1/\Ft fix val l N1 D2 I2 X2 N'/\D=D1++D2/\I=I1++I2/\X=X1++X2
mutual
def AV.same:AV->AV->Bool
 | .fn f a b,v=>(match v with
  | .fn f' a' b'=>Nat.beq f f'&&AV.M3 a a'&&AV.M3 b b'
  |_=>false)
 | .tuple l,v=>(match l with
  |[]=>(match v with
   | .tuple l=>l.isEmpty
   |_=>false)
  |_=>false)
 | .int k x,v=>(match v with
  | .int k' x'=>fm k k'&&(x==x')
  |_=>false)
 | .raw u,v=>(match v with
  | .raw u'=>(match u,u' with
   | .slice none m n,.slice none m' n'=>Nat.beq m m'&&Nat.beq n n'
   | .pointer none,.pointer none=>true
   | .nilFunc,.nilFunc=>true
   | .nilIface,.nilIface=>true
   | .map none,.map none=>true
   |_,_=>false)
  |_=>false)
 |_,_=>false
def AV.M3:List AV->List AV->Bool
 |[],l'=>l'.isEmpty
 |v::l,l'=>(match l' with
  |v'::l'=>AV.same v v'&&AV.M3 l l'
  |[]=>false)
end
mutual
theorem AV.HX{ρ ρ':ay}:(v:AV)->(c:AV)->AV.same v c=true->c.val ρ'=v.val ρ
 | .fn f a b,c,h=>by
  unfold AV.same at h;split at h
  next g e d=>simp only [ae] at h;simp only [AV.val];rw [ah h.1.1,AV.Ms a e h.1.2,AV.Ms b d h.2]
  .cases h
 | .tuple l,c,h=>by
  unfold AV.same at h;split at h
  .split at h
   .rename_i l';have:l'=[]:=by simpa using h
    subst this;simp only [AV.val,AV.ao]
   .cases h
  .cases h
 | .raw u,c,h=>by
  unfold AV.same at h;split at h
  .rename_i u';split at h
   .simp only [ae] at h;simp only [AV.val];rw [ah h.1,ah h.2]
   .simp only [AV.val]
   .simp only [AV.val]
   .simp only [AV.val]
   .simp only [AV.val]
   .cases h
  .cases h
 | .int k x,c,h=>by
  unfold AV.same at h;split at h
  .simp only [ae] at h;simp only [AV.val];rw [gw h.1,eq_of_beq h.2]
  .cases h
 | .bool _,c,h|.str _,c,h|.agg _,c,h|.ptr _ _,c,h|.sl _,c,h|.adr _ _,c,h|.ifc _ _,c,h|.mp _,c,h|.gp _,c,h|.nv _,c,h|.sfp _ _,c,h|.bs _ _,c,h=>by unfold AV.same at h;cases h
theorem AV.Ms{ρ ρ':ay}:(l:List AV)->(l':List AV)->AV.M3 l l'=true->AV.ao ρ' l'=AV.ao ρ l
 |[],l',h=>by
  unfold AV.M3 at h;have:l'=[]:=by simpa using h
  subst this;rfl
 |v::l,l',h=>by
  unfold AV.M3 at h;split at h
  next a l'=>simp only [ae] at h;simp only [AV.ao];rw [AV.HX v a h.1,AV.Ms l l' h.2]
  .cases h
end
structure MR where
 B:vc
 S:List (Bool×Src)
 D:List bZ
 X:List (Nat×List AV)
def aa4(G H:List Row)(t:Ty)(v:AV):Option (xb×Src×List t.T):=match v with
 | .sl j=>(match dH G H (lz j) with
  |some (s,.sli none _ t' l _)=>(match pQ.bZ.asL t ⟨.l t',l⟩ with
   |some l=>some (some j,s,l)
   |none=>none)
  |_=>none)
 | .raw (.slice none 0 0)=>some (none,.nilI t,[])
 |_=>none
def aba(G H:List Row)(t:Ty)(e:TypeId)(v:AV):Option (xb×Src×List t.T):=match v with
 | .sl j=>(match dH G H (lz j) with
  |some (s,.own _ t' e' l _)=>aA ( Nat.beq e e' ) ( match pQ.bZ.asL t ⟨.l t',l⟩ with
   |some l=>some (some j,s,l)
   |none=>none
   ) none
  |_=>none)
 | .raw (.slice none 0 0)=>some (none,.nilO t e,[])
 |_=>none
structure DR(t:Ty) where
 x:t.T
 vs:List AV
 o:u9
 B:vc
 S:List (Bool×Src)
def vM(G H:List Row):(t:Ty)->List AV->u9->vc->Option (DR t)
 | .i k,vs,o,B=>(match vs with
  | .int k' x::vs=>aA ( fm k k' ) ( some ⟨x,vs,o,B,[]⟩ ) none
  |_=>none)
 | .bo,vs,o,B=>(match vs with
  | .bool x::vs=>some ⟨x,vs,o,B,[]⟩
  |_=>none)
 | .s,vs,o,B=>(match vs with
  | .str x::vs=>some ⟨x,vs,o,B,[]⟩
  |_=>none)
 | .un,vs,o,B=>some ⟨(),vs,o,B,[]⟩
 | .p a b,vs,o,B=>(match vM G H a vs o B with
  |some d=>(match vM G H b d.vs d.o d.B with
   |some e=>some ⟨(d.x,e.x),e.vs,e.o,e.B,d.S++e.S⟩
   |none=>none)
  |none=>none)
 | .l t,vs,o,B=>(match vs with
  |v::vs=>(match o with
   |none::o=>(match aa4 G H t v with
    |some q=>some ⟨q.2.2,vs,o,B++[q.1],[(false,q.2.1)]⟩
    |none=>none)
   |some e::o=>(match aba G H t (oe e) v with
    |some q=>some ⟨q.2.2,vs,o,B++[q.1],[(ow e,q.2.1)]⟩
    |none=>none)
   |[]=>none)
  |[]=>none)
 | .ex,vs,o,B=>(match vs with
  | .int .i64 a:: .int .i64 b:: .int .i64 c::v::vs=>(match o with
   |none::o=>(match aa4 G H .ex v with
    |some q=>some ⟨Ex.mk a b c q.2.2,vs,o,B++[q.1],[(false,q.2.1)]⟩
    |none=>none)
   |some e::o=>(match aba G H .ex (oe e) v with
    |some q=>some ⟨Ex.mk a b c q.2.2,vs,o,B++[q.1],[(ow e,q.2.1)]⟩
    |none=>none)
   |[]=>none)
  |_=>none)
 |_,_,_,_=>none
def Qt:xb->xb->Bool
 |some a,some b=>Nat.beq a b
 |none,none=>true
 |_,_=>false
theorem aox{a b:xb}(h:Qt a b=true):a=b:=by
 unfold Qt at h;split at h
 .rw [ah h]
 .rfl
 .cases h
abbrev fY:=Option (AV×List AV)
def mb(p:Pt)(fxs:List AV):fY:=match fxs with
 |[]=>none
 |u::_=>aA (Nu p) none (some (u,[]))
def mZ(p:Pt)(fx:fY):Bool:=match p with
 | .agg _=>(match fx with
  |some (.agg _,_)=>true
  |some _=>false
  |none=>true)
 | .fn _ _ _=>(match fx with
  |some (.fn _ _ _,_)=>true
  |some _=>false
  |none=>true)
 | .ifc _ _=>(match fx with
  |some (.ifc _ _,_)=>true
  |some _=>false
  |none=>true)
 |_=>true
def fT(fx:fY):List AV:=match fx with
 |some (.agg us,_)=>us
 |some (.fn _ _ b,_)=>b
 |some (.ifc _ u,_)=>[u]
 |_=>[]
def HN(fx:fY):List AV:=match fx with
 |some p=>p.2
 |none=>[]
def nvs(v:AV)(fx:fY)(sm:Option AV):Bool:=match fx with
 |some _=>true
 |none=>(match sm with
  |some (.nv u)=>(match v with
   | .nv w=>Nat.beq u w
   |_=>false)
  |_=>false)
def ami:AV->AV->Bool
 | .ptr a b,.ptr c d=>Nat.beq a c&&Nat.beq b d
 |_,_=>false
theorem aoD{u v:AV}(h:ami u v=true):u=v:=by
 unfold ami at h;split at h
 .simp only [ae] at h;rw [ah h.1,ah h.2]
 .cases h
def aaE:Pt->Bool
 | .same=>true
 |_=>false
mutual
def mt(G H:List Row):Pt->AV->fY->Option AV->vc->Option MR
 | .int k,v,_,_,B=>(match v with
  | .int k' x=>aA (fm k k') (some ⟨B,[],[⟨.i k,x⟩],[]⟩) none
  |_=>none)
 | .bool,v,_,_,B=>(match v with
  | .bool x=>some ⟨B,[],[⟨.bo,x⟩],[]⟩
  |_=>none)
 | .str,v,_,_,B=>(match v with
  | .str x=>some ⟨B,[],[⟨.s,x⟩],[]⟩
  |_=>none)
 | .sli t,v,_,_,B=>(match aa4 G H t v with
  |some q=>some ⟨B++[q.1],[(false,q.2.1)],[⟨.l t,q.2.2⟩],[]⟩
  |none=>none)
 | .own t e m,v,_,_,B=>(match aba G H t e v with
  |some q=>some ⟨B++[q.1],[(m,q.2.1)],[⟨.l t,q.2.2⟩],[]⟩
  |none=>none)
 | .slr n,v,_,_,B=>(match v with
  | .sl j=>aA (Qt ((B[n]?).getD none) (some j)) (some ⟨B,[],[],[]⟩) none
  |_=>none)
 | .bx t off m vs,v,fx,_,B=>(match v with
  | .ptr j off'=>aA (Nat.beq off off') (match dH G H (wO j) with
   |some (s,.box _ t' cs)=>aA (Nat.beq t t') (match Ge G H vs cs [] (HN fx) (B++[some j]) with
     |some r=>some ⟨r.B,(m,s)::r.S,r.D,(aA m [(B.length,cs)] [])++r.X⟩
     |none=>none) none
   |_=>none) none
  |_=>none)
 | .ptr n off,v,_,_,B=>(match v with
  | .ptr j off'=>aA (Nat.beq off off'&&Qt ((B[n]?).getD none) (some j)) (some ⟨B,[],[],[]⟩) none
  |_=>none)
 | .mp k u m,v,_,_,B=>(match v with
  | .mp j=>(match dH G H (aid j) with
   |some (s,.mp _ k' u' d)=>(match bZ.as (.mp k u) ⟨.mp k' u',d⟩ with
    |some d=>some ⟨B++[some j],[(m,s)],[⟨.mp k u,d⟩],[]⟩
    |none=>none)
   |_=>none)
  | .raw (.map none)=>some ⟨B++[none],[(m,.nilM k u)],[⟨.mp k u,(none:Option (List (k.T×u.T)))⟩],[]⟩
  |_=>none)
 | .it,v,_,_,B=>(match v with
  | .ptr j 0=>(match dH G H (aqs j) with
   |some (s,.it _ x p)=>some ⟨B++[some j],[(true,s)],[⟨.s,x⟩,⟨.n,p⟩],[]⟩
   |_=>none)
  |_=>none)
 | .agg l,v,fx,_,B=>(match v with
  | .agg vs=>aA (mZ (.agg l) fx) (Ge G H l vs (aA fx.isSome vs []) [] B) none
  |_=>none)
 | .cG l,v,_,_,B=>(match v with
  | .tuple vs=>Ge G H l vs [] [] B
  |_=>none)
 | .fn f a b,v,fx,_,B=>(match v with
  | .fn f' a' b'=>aA (Nat.beq f f'&&mZ (.fn f a b) fx) (match Ge G H a a' [] [] B with
   |some r=>(match Ge G H b b' (aA fx.isSome b' []) [] r.B with
    |some q=>some ⟨q.B,r.S++q.S,r.D++q.D,r.X++q.X⟩
    |none=>none)
   |none=>none) none
  |_=>none)
 | .ifc t p,v,fx,_,B=>(match v with
  | .ifc t' u=>aA (Nat.beq t t'&&mZ (.ifc t p) fx) (mt G H p u (mb p (aA fx.isSome [u] [])) none B) none
  |_=>none)
 | .iU c,v,_,_,B=>aA (AV.same c v) (some ⟨B,[],[],[]⟩) none
 | .dat t o,v,_,_,B=>(match v with
  | .agg cs=>(match vM G H t cs o B with
   |some ⟨x,[],_,B',S⟩=>some ⟨B',S,[⟨t,x⟩],[]⟩
   |_=>none)
  |_=>none)
 | .ifn,v,_,_,B=>(match v with
  | .ifc t (.agg [])=>some ⟨B,[],[⟨.n,t⟩],[]⟩
  |_=>none)
 | .sfp,v,_,_,B=>(match v with
  | .raw (.pointer none)=>(match B[B.length-1]? with
   |some _=>some ⟨B,[],[⟨.bo,false⟩],[]⟩
   |none=>none)
  | .sfp j f=>aA (Qt ((B[B.length-1]?).getD none) (some j)) (some ⟨B,[],[⟨.bo,f⟩],[]⟩) none
  | .ptr j 0=>aA (Qt ((B[B.length-1]?).getD none) (some j)) (some ⟨B,[],[⟨.bo,true⟩],[]⟩) none
  |_=>none)
 | .sty p,v,fx,sm,B=>(match fx with
  |some _=>none
  |none=>(match sm with
   |some u=>aA (ami (sA G H u) v&& !(Nu p)) (mt G H p v (some (v,[])) none B) none
   |none=>none))
 | .same,v,fx,sm,B=>aA (nvs v fx sm) (some ⟨B,[],[],[]⟩) none
def Ge(G H:List Row):List Pt->List AV->List AV->List AV->vc->Option MR
 |[],vs,_,_,B=>(match vs with
  |[]=>some ⟨B,[],[],[]⟩
  |_=>none)
 |p::l,vs,fxs,sms,B=>(match vs with
  |v::vs=>(match mt G H p (aA (aaE p) v (sA G H v)) (mb p fxs) sms.head? B with
   |some r=>(match Ge G H l vs fxs.tail sms.tail r.B with
    |some q=>some ⟨q.B,r.S++q.S,r.D++q.D,r.X++q.X⟩
    |none=>none)
   |none=>none)
  |[]=>none)
end
def pw(fix:Nat->fY):List (Bool×Nat×Pt)->Bool
 |[]=>true
 |x::l=>mZ x.2.2 (aA x.1 (fix x.2.1) none)&&pw fix l
theorem anY{G H:List Row}{p:Pt}{v:AV}{fx:fY}{a:Option AV}{B:vc}{r:MR}(h:mt G H p v fx a B=some r):mZ p fx=true:=by
 cases p <;> first|rfl|skip
 .unfold mt at h;split at h
  .exact (aI h).1
  .cases h
 .unfold mt at h;split at h
  .have:=(aI h).1;simp only [ae] at this;exact this.2
  .cases h
 .unfold mt at h;split at h
  .have:=(aI h).1;simp only [ae] at this;exact this.2
  .cases h
def XP(G H:List Row)(look:Nat->Option AV)(fix:Nat->fY):List (Bool×Nat×Pt)->vc->Option MR
 |[],B=>some ⟨B,[],[],[]⟩
 |x::l,B=>(match (aA x.1 ((fix x.2.1).map (·.1)) (look x.2.1)) with
  |some v=>(match mt G H x.2.2 v (aA x.1 (fix x.2.1) none) none B with
   |some r=>(match XP G H look fix l r.B with
    |some q=>some ⟨q.B,r.S++q.S,r.D++q.D,r.X++q.X⟩
    |none=>none)
   |none=>none)
  |none=>none)
theorem adH{G H:List Row}{b:Nat->Option AV}{fix:Nat->fY}:{l:List (Bool×Nat×Pt)}->{B:vc}->{r:MR}->XP G H b fix l B=some r->pw fix l=true
 |[],_,_,_=>rfl
 |x::l,B,r,h=>by
  unfold XP at h;split at h
  .split at h
   .rename_i q c;split at h
    next d a=>simp only [pw,ae];exact ⟨anY c,adH a⟩
    .cases h
   .cases h
  .cases h
def bS(a b:Item):Prop:=(∀x,x∈b.own->x∈a.own)/\∀M w,a.P M w->b.P M w
theorem bS.refl{a:Item}:bS a a:=⟨λ_ h=>h,λ_ _ h=>h⟩
def ahZ(ρ:ay)(T:aB)(G H:List Row)(s:Src)(it:Item):Prop:=
 (it.own=[]/\(∀M w,it.P M w)/\∀r,¬s.at_ G H r)\/∃r,s.at_ G H r/\bS (r.item ρ T) it/\(r.cF=true->it.own=[])/\(r.cF=false->bS it (r.item ρ T))
def SI(ρ:ay)(T:aB)(G H:List Row)(a:Bool×Src)(b:Bool×Item):Prop:=a.1=b.1/\ahZ ρ T G H a.2 b.2
inductive eR{α β:Type}(R:α->β->Prop):List α->List β->Prop
 |nil:eR R [] []
 |cons {a b l m}:R a b->eR R l m->eR R (a::l) (b::m)
theorem eR.length{α β:Type}{R:α->β->Prop}{l:List α}{m:List β}(h:eR R l m):l.length=m.length:=by
 induction h with
 |nil=>rfl
 |cons _ _ ih=>simp [ih]
theorem eR.append{α β:Type}{R:α->β->Prop}{l l':List α}{m a:List β}(h:eR R l m)(k:eR R l' a):eR R (l++l') (m++a):=by
 induction h with
 |nil=>exact k
 |cons b _ ih=>exact .cons b ih
theorem eR.get{α β:Type}{R:α->β->Prop}{l:List α}{m:List β}(h:eR R l m):∀{i:Nat} {a:α},l[i]? =some a->∃b,m[i]? =some b/\R a b:=by
 induction h with
 |nil=>intro i a h;simp at h
 |cons c _ ih=>
  intro i a h;cases i with
  |zero=>simp at h;subst h;exact ⟨_,rfl,c⟩
  |succ i=>exact ih (by simpa using h)
def NBr(ρ:ay)(o:xb)(a:Nm):Prop:=match o with
 |some j=>a.b=(ρ j).b/\a.v=(ρ j).v/\a.m=(ρ j).m
 |none=>a.b=0/\a.v=(none,0,0)/\a.m=none
abbrev NB(ρ:ay)(B:vc)(N:List Nm):Prop:=eR (NBr ρ) B N
theorem NB.at_{ρ:ay}{B:vc}{N:List Nm}(h:NB ρ B N){n j:Nat}(hb:Qt ((B[n]?).getD none) (some j)=true):∃a,N[n]? =some a/\a.b=(ρ j).b/\a.v=(ρ j).v:=by
 have e:=aox hb;cases c:B[n]? with
 |none=>rw [c] at e;cases e
 |some o=>
  rw [c] at e;simp only [qx] at e;subst e;obtain ⟨a,f,d⟩:=h.get c;exact ⟨a,f,d.1,d.2.1⟩
section
variable {ρ : ay} {T : aB} {G H : List Row} {Φ : Ctx} {w : World}
theorem Xs(i:Sat (ab ρ T G++(ab ρ T H++Φ)) w){t:Ty}{v:AV}{q:xb×Src×List t.T}(h:aa4 G H t v=some q):∃a:Nm,NBr ρ q.1 a/\v.val ρ=sl a.v/\ahZ ρ T G H q.2.1 (EY true t.rep a.v q.2.2 false):=by
 unfold aa4 at h;split at h
 .rename_i j;split at h
  .rename_i s c t' l b e;split at h
   next l' d=>cases h;obtain ⟨rfl,rfl⟩:=oH d;obtain ⟨g,f⟩:=bW e;have:c=j:=ah f;subst this;refine ⟨ρ c,⟨rfl,rfl,rfl⟩,by simp only [AV.val],.inr ⟨_,g,⟨λ_ h=>h,λM w h _=>⟨(h aB.get_none).1,λhb=>by cases hb⟩⟩,λ_=>rfl,λh=>by cases h⟩⟩
   .cases h
  .cases h
 .cases h;exact ⟨cM,⟨rfl,rfl,rfl⟩,by simp only [AV.val];rfl,.inl ⟨rfl,λM w _=>⟨bQ.nil,λhb=>by cases hb⟩,λr h=>h⟩⟩
 .cases h
theorem Xz(i:Sat (ab ρ T G++(ab ρ T H++Φ)) w){t:Ty}{e:TypeId}{v:AV}{q:xb×Src×List t.T}(h:aba G H t e v=some q):∃a:Nm,NBr ρ q.1 a/\v.val ρ=sl a.v/\a.y=⟨.l t,q.2.2⟩/\ahZ ρ T G H q.2.1 (mJ t.rep e a.v q.2.2 True):=by
 unfold aba at h;split at h
 .rename_i j;split at h
  .rename_i s d t' e' l g m;obtain ⟨n,c⟩:=aI h;have p:=ah n;subst p;split at c
   next l' k=>cases c;obtain ⟨rfl,rfl⟩:=oH k;obtain ⟨f,o⟩:=bW m;have:d=j:=ah o;subst this;have b:=(Src.holds i f).2;refine ⟨{ ρ d with y:=⟨.l t',l⟩ },⟨rfl,rfl,rfl⟩,by simp only [AV.val],rfl,.inr ⟨_,f,⟨λ_ h=>h,λM w h=>⟨h.1,trivial⟩⟩,λh=>(by cases h),λ_=>⟨λ_ h=>h,λM w h=>⟨h.1,b⟩⟩⟩⟩
   .cases c
  .cases h
 .cases h;exact ⟨{ cM with y:=⟨.l t,([]:List t.T)⟩ },⟨rfl,rfl,rfl⟩,by simp only [AV.val];rfl,rfl,.inl ⟨rfl,λM w=>⟨bK.nil,trivial⟩,λr h=>h⟩⟩
 .cases h
theorem VZ(m:Sat (ab ρ T G++(ab ρ T H++Φ)) w):(t:Ty)->(vs:List AV)->(o:u9)->(B:vc)->(d:DR t)->(N:List Nm)->vM G H t vs o B=some d->NB ρ B N->
  ∃us N' I,vs=us++d.vs/\RJ t d.x (AV.ao ρ us) o N I N' d.o/\NB ρ d.B N'/\eR (SI ρ T G H) d.S I
 | .i k,vs,o,B,d,N,h,hN=>by
  unfold vM at h;split at h
  next U x us=>obtain ⟨D,C⟩:=aI h;have:=gw D;subst this;cases C;exact ⟨[.int k x],N,[],rfl,⟨by simp only [AV.ao,AV.val],rfl,rfl,rfl⟩,hN,.nil⟩
  .cases h
 | .bo,vs,o,B,d,N,h,hN=>by
  unfold vM at h;split at h
  next x us=>cases h;exact ⟨[.bool x],N,[],rfl,⟨by simp only [AV.ao,AV.val],rfl,rfl,rfl⟩,hN,.nil⟩
  .cases h
 | .s,vs,o,B,d,N,h,hN=>by
  unfold vM at h;split at h
  next x us=>cases h;exact ⟨[.str x],N,[],rfl,⟨by simp only [AV.ao,AV.val],rfl,rfl,rfl⟩,hN,.nil⟩
  .cases h
 | .un,vs,o,B,d,N,h,hN=>by
  unfold vM at h;cases h;exact ⟨[],N,[],rfl,⟨by simp only [AV.ao],rfl,rfl,rfl⟩,hN,.nil⟩
 | .n,vs,o,B,d,N,h,hN=>by unfold vM at h;cases h
 | .mp _ _,vs,o,B,d,N,h,hN=>by unfold vM at h;cases h
 | .p a b,vs,o,B,d,N,h,hN=>by
  unfold vM at h;split at h
  .rename_i r D;split at h
   next d2 C=>cases h;obtain ⟨z,N1,L,g,c,f,R⟩:=VZ m a vs o B r N D hN;obtain ⟨y,N2,K,P,M,O,Q⟩:=VZ m b r.vs r.o r.B d2 N1 C f;refine ⟨z++y,N2,L++K,by rw [g,P,aO],?_,O,R.append Q⟩;rw [cZ];exact ⟨_,_,N1,L,K,r.o,c,M,rfl,rfl⟩
   .cases h
  .cases h
 | .l t,vs,o,B,d,N,h,hN=>by
  unfold vM at h;split at h
  .rename_i v us;split at h
   .rename_i A;split at h
    next q j=>cases h;obtain ⟨a,f,g,c⟩:=Xs m j;refine ⟨[v],N++[a],_,rfl,⟨a,by simp only [AV.ao];rw [g],rfl,.inl ⟨rfl,rfl⟩⟩,hN.append (.cons f .nil),.cons ⟨rfl,c⟩ .nil⟩
    .cases h
   .rename_i e A;split at h
    next q j=>cases h;obtain ⟨a,f,g,u,c⟩:=Xz m j;refine ⟨[v],N++[a],_,rfl,⟨a,by simp only [AV.ao];rw [g],rfl,.inr ⟨e,rfl,rfl,u⟩⟩,hN.append (.cons f .nil),.cons ⟨rfl,c⟩ .nil⟩
    .cases h
   .cases h
  .cases h
 | .ex,vs,o,B,d,N,h,hN=>by
  unfold vM at h;split at h
  .rename_i J F E v us;split at h
   .rename_i A;split at h
    next q j=>cases h;obtain ⟨a,f,g,c⟩:=Xs m j;refine ⟨[.int .i64 J,.int .i64 F,.int .i64 E,v],N++[a],_,rfl,⟨a,by simp only [AV.ao,AV.val];rw [g];rfl,rfl,.inl ⟨rfl,rfl⟩⟩,hN.append (.cons f .nil),.cons ⟨rfl,c⟩ .nil⟩
    .cases h
   .rename_i e A;split at h
    next q j=>cases h;obtain ⟨a,f,g,u,c⟩:=Xz m j;refine ⟨[.int .i64 J,.int .i64 F,.int .i64 E,v],N++[a],_,rfl,⟨a,by simp only [AV.ao,AV.val];rw [g];rfl,rfl,.inr ⟨e,rfl,rfl,u⟩⟩,hN.append (.cons f .nil),.cons ⟨rfl,c⟩ .nil⟩
    .cases h
   .cases h
  .cases h
abbrev dF(ρ:ay)(X:List (Nat×List AV)):iY:=X.map λx=>(x.1,AV.ao ρ x.2)
abbrev eX(ρ:ay)(fx:fY):Fx:=fx.map λq=>(q.1.val ρ,AV.ao ρ q.2)
theorem afY{fx:fY}:fxC (eX ρ fx)=AV.ao ρ (HN fx):=by
 cases fx with
 |none=>simp [fxC,HN,AV.ao]
 |some q=>rfl
theorem Nf{p:Pt}{a:List AV}:fx1 p (AV.ao ρ a)=eX ρ (mb p a):=by
 cases a with
 |nil=>rfl
 |cons u us=>
  unfold fx1 mb;simp only [AV.ao];cases Nu p <;> simp [aA,AV.ao]
theorem acq{b:Bool}{x:List AV}:AV.ao ρ (aA b x [])=aA b (AV.ao ρ x) []:=by
 cases b
 .show AV.ao ρ []=[];simp only [AV.ao]
 .rfl
theorem SE{fx:fY}:(eX ρ fx).isSome=fx.isSome:=by cases fx <;> rfl
theorem sP{fx:fY}{v:AV}(h:∀q,fx=some q->q.1.val ρ=v.val ρ):tD (eX ρ fx) (v.val ρ):=by
 intro p hp;cases fx with
 |none=>cases hp
 |some q=>cases hp;exact (h q rfl).symm
theorem YD(a:Sat (ab ρ T G++(ab ρ T H++Φ)) w){p:Pt}{v:AV}:(aA (aaE p) v (sA G H v)).val ρ=v.val ρ:=by
 cases aaE p
 .exact Rz a
 .rfl
theorem XU{l:List AV}:(AV.ao ρ l).head? =l.head?.map (AV.val ρ):=by cases l <;> simp [AV.ao]
theorem Da{l:List AV}:(AV.ao ρ l).tail=AV.ao ρ l.tail:=by cases l <;> simp [AV.ao]
mutual
theorem Hy(L:Sat (ab ρ T G++(ab ρ T H++Φ)) w):(p:Pt)->(v:AV)->(fx:fY)->(y:Option AV)->(B:vc)->(r:MR)->(N:List Nm)->mt G H p v fx y B=some r->NB ρ B N->(∀q,fx=some q->q.1.val ρ=v.val ρ)->
  ∃F I,Sem p (v.val ρ) (eX ρ fx) (y.map (AV.val ρ)) N r.D I (dF ρ r.X) F/\NB ρ r.B F/\eR (SI ρ T G H) r.S I
 | .int k,v,fx,y,B,r,N,h,hN,hf=>by
  unfold mt at h;split at h
  next k' x=>obtain ⟨g,i⟩:=aI h;have:=gw g;subst this;cases i;exact ⟨N,[],⟨x,by simp only [AV.val],rfl,rfl,rfl,rfl⟩,hN,.nil⟩
  .cases h
 | .bool,v,fx,y,B,r,N,h,hN,hf=>by
  unfold mt at h;split at h
  next x=>cases h;exact ⟨N,[],⟨x,by simp only [AV.val],rfl,rfl,rfl,rfl⟩,hN,.nil⟩
  .cases h
 | .str,v,fx,y,B,r,N,h,hN,hf=>by
  unfold mt at h;split at h
  next x=>cases h;exact ⟨N,[],⟨x,by simp only [AV.val],rfl,rfl,rfl,rfl⟩,hN,.nil⟩
  .cases h
 | .sli t,v,fx,y,B,r,N,h,hN,hf=>by
  unfold mt at h;split at h
  next q K=>cases h;obtain ⟨a,C,E,A⟩:=Xs L K;exact ⟨N++[a],_,⟨a,q.2.2,E,rfl,rfl,rfl,rfl⟩,hN.append (.cons C .nil),.cons ⟨rfl,A⟩ .nil⟩
  .cases h
 | .own t e m,v,fx,y,B,r,N,h,hN,hf=>by
  unfold mt at h;split at h
  next q K=>cases h;obtain ⟨a,C,E,y1,A⟩:=Xz L K;exact ⟨N++[a],_,⟨a,q.2.2,E,sP hf,rfl,rfl,rfl,rfl,y1⟩,hN.append (.cons C .nil),.cons ⟨rfl,A⟩ .nil⟩
  .cases h
 | .slr n,v,fx,y,B,r,N,h,hN,hf=>by
  unfold mt at h;split at h
  next j=>obtain ⟨g,i⟩:=aI h;cases i;obtain ⟨a,z,P,a3⟩:=hN.at_ g;exact ⟨N,[],⟨a,z,by simp only [AV.val];rw [a3],rfl,rfl,rfl,rfl⟩,hN,.nil⟩
  .cases h
 | .bx t off m vs,v,fx,y,B,r,N,h,hN,hf=>by
  unfold mt at h;split at h
  .rename_i j Q;obtain ⟨g,i⟩:=aI h;have E:=ah g;subst E;split at i
   .rename_i s J t' cs O;obtain ⟨h3,h4⟩:=aI i;have V:=ah h3;subst V;split at h4
    next q K=>cases h4;obtain ⟨U,R⟩:=bW O;have:J=j:=ah R;subst this;obtain ⟨F,I,A,C,z⟩:=w7 L vs cs [] (HN fx) (B++[some J]) q (N++[ρ J]) K (.inl rfl) (hN.append (.cons ⟨rfl,rfl,rfl⟩ .nil));refine ⟨F,_,⟨ρ J,AV.ao ρ cs,I,dF ρ q.X,by simp only [AV.val],sP hf,by rw [afY];simpa only [AV.ao] using A,rfl,?_⟩,C,.cons ⟨rfl,.inr ⟨_,U,bS.refl,(λh=>by cases h),λ_=>bS.refl⟩⟩ z⟩;rw [<-hN.length];cases m <;> simp [dF]
    .cases h4
   .cases i
  .cases h
 | .ptr n off,v,fx,y,B,r,N,h,hN,hf=>by
  unfold mt at h;split at h
  next j Q=>obtain ⟨g,i⟩:=aI h;simp only [ae] at g;cases i;have E:=ah g.1;subst E;obtain ⟨a,z,P,a3⟩:=hN.at_ g.2;exact ⟨N,[],⟨a,z,by simp only [AV.val];rw [P],rfl,rfl,rfl,rfl⟩,hN,.nil⟩
  .cases h
 | .mp k u m,v,fx,y,B,r,N,h,hN,hf=>by
  unfold mt at h;split at h
  .rename_i j;split at h
   .rename_i s J k' u' d O;split at h
    next d' hd=>cases h;have:=bZ.Ng hd;cases this;obtain ⟨U,R⟩:=bW O;have:J=j:=ah R;subst this;exact ⟨N++[ρ J],_,⟨ρ J,d',by simp only [AV.val],sP hf,rfl,rfl,rfl,rfl⟩,hN.append (.cons ⟨rfl,rfl,rfl⟩ .nil),.cons ⟨rfl,.inr ⟨_,U,bS.refl,(λh=>by cases h),λ_=>bS.refl⟩⟩ .nil⟩
    .cases h
   .cases h
  .cases h;exact ⟨N++[cM],_,⟨cM,none,by simp only [AV.val];rfl,sP hf,rfl,rfl,rfl,rfl⟩,hN.append (.cons ⟨rfl,rfl,rfl⟩ .nil),.cons ⟨rfl,.inl ⟨rfl,λM w=>nM.nil,λr h=>h⟩⟩ .nil⟩
  .cases h
 | .it,v,fx,y,B,r,N,h,hN,hf=>by
  unfold mt at h;split at h
  .rename_i j;split at h
   next s J x p O=>cases h;obtain ⟨U,R⟩:=bW O;have:J=j:=ah R;subst this;exact ⟨N++[ρ J],_,⟨ρ J,x,p,by simp only [AV.val],sP hf,rfl,rfl,rfl,rfl⟩,hN.append (.cons ⟨rfl,rfl,rfl⟩ .nil),.cons ⟨rfl,.inr ⟨_,U,bS.refl,(λh=>by cases h),λ_=>bS.refl⟩⟩ .nil⟩
   .cases h
  .cases h
 | .agg l,v,fx,y,B,r,N,h,hN,hf=>by
  unfold mt at h;split at h
  next vs=>obtain ⟨_,h⟩:=aI h;obtain ⟨F,I,A,C,z⟩:=w7 L l vs (aA fx.isSome vs []) [] B r N h (by cases fx <;> first|exact .inl rfl|exact .inr rfl) hN;exact ⟨F,I,⟨AV.ao ρ vs,by simp only [AV.val],sP hf,by rw [SE,<-acq];simpa only [AV.ao] using A⟩,C,z⟩
  .cases h
 | .cG l,v,fx,y,B,r,N,h,hN,hf=>by
  unfold mt at h;split at h
  next vs=>obtain ⟨F,I,A,C,z⟩:=w7 L l vs [] [] B r N h (.inl rfl) hN;exact ⟨F,I,⟨AV.ao ρ vs,by simp only [AV.val],by simpa only [AV.ao] using A⟩,C,z⟩
  .cases h
 | .fn f a b,v,fx,y,B,r,N,h,hN,hf=>by
  unfold mt at h;split at h
  .rename_i f' a' b';obtain ⟨g,i⟩:=aI h;simp only [ae] at g;have E:=ah g.1;subst E;split at i
   .rename_i W hq1;split at i
    next Y Z=>cases i;obtain ⟨N1,I1,A,C,z⟩:=w7 L a a' [] [] B W N hq1 (.inl rfl) hN;obtain ⟨N2,I2,s2,n2,P⟩:=w7 L b b' (aA fx.isSome b' []) [] W.B Y N1 Z (by cases fx <;> first|exact .inl rfl|exact .inr rfl) C;exact ⟨N2,I1++I2,⟨AV.ao ρ a',AV.ao ρ b',W.D,Y.D,I1,I2,dF ρ W.X,dF ρ Y.X,N1,by simp only [AV.val],sP hf,by simpa only [AV.ao] using A,by rw [SE,<-acq];simpa only [AV.ao] using s2,rfl,rfl,by simp [dF]⟩,n2,z.append P⟩
    .cases i
   .cases i
  .cases h
 | .ifc t p,v,fx,y,B,r,N,h,hN,hf=>by
  unfold mt at h;split at h
  .rename_i t' u;obtain ⟨g,i⟩:=aI h;simp only [ae] at g;have E:=ah g.1;subst E;obtain ⟨F,I,A,C,z⟩:=Hy L p u (mb p (aA fx.isSome [u] [])) none B r N i hN (λq K=>by
    cases fx with
    |none=>cases K
    |some f=>
     have K:aA (Nu p) none (some (u,[]))=some q:=K;obtain ⟨_,h3⟩:=Nt K;cases h3;rfl)
   refine ⟨F,I,⟨u.val ρ,by simp only [AV.val],sP hf,?_⟩,C,z⟩;have V:(aA (eX ρ fx).isSome [u.val ρ] []:w9)=AV.ao ρ (aA fx.isSome [u] []):=by
    cases fx
    .show ([]:w9)=AV.ao ρ [];simp only [AV.ao]
    .show [u.val ρ]=AV.ao ρ [u];simp only [AV.ao]
   rw [V,Nf];exact A
  .cases h
 | .iU c,v,fx,y,B,r,N,h,hN,hf=>by
  unfold mt at h;obtain ⟨g,i⟩:=aI h;cases i;exact ⟨N,[],⟨⟨AV.HX c v g,λρ'=>(AV.HX (ρ':=ρ) (ρ:=ρ') c v g).symm.trans (AV.HX c v g)⟩,rfl,rfl,rfl,rfl⟩,hN,.nil⟩
 | .dat t o,v,fx,y,B,r,N,h,hN,hf=>by
  unfold mt at h;split at h
  .rename_i cs;split at h
   next x o' B' S hd=>cases h;obtain ⟨us,F,I,E,A,C,z⟩:=VZ L t cs o B _ N hd hN;simp only [iq] at E;subst E;exact ⟨F,I,⟨_,x,o',by simp only [AV.val],rfl,A,rfl⟩,C,z⟩
   .cases h
  .cases h
 | .ifn,v,fx,y,B,r,N,h,hN,hf=>by
  unfold mt at h;split at h
  next t=>cases h;exact ⟨N,[],⟨t,by simp only [AV.val,AV.ao],rfl,rfl,rfl,rfl⟩,hN,.nil⟩
  .cases h
 | .sfp,v,fx,y,B,r,N,h,hN,hf=>by
  have hl:=hN.length;unfold mt at h;split at h
  .split at h
   next o ho=>cases h;obtain ⟨a,g,_⟩:=hN.get ho;exact ⟨N,[],⟨a,false,by rw [<-hl];exact g,by simp only [AV.val,As,cy],rfl,rfl,rfl,rfl⟩,hN,.nil⟩
   .cases h
  next j f=>obtain ⟨g,i⟩:=aI h;cases i;obtain ⟨a,z,P,_⟩:=hN.at_ g;exact ⟨N,[],⟨a,f,by rw [<-hl];exact z,by simp only [AV.val];rw [P],rfl,rfl,rfl,rfl⟩,hN,.nil⟩
  next j=>obtain ⟨g,i⟩:=aI h;cases i;obtain ⟨a,z,P,_⟩:=hN.at_ g;exact ⟨N,[],⟨a,true,by rw [<-hl];exact z,by simp only [AV.val,As,c9];rw [P],rfl,rfl,rfl,rfl⟩,hN,.nil⟩
  .cases h
 | .sty p,v,fx,y,B,r,N,h,hN,hf=>by
  unfold mt at h;split at h
  .cases h
  .split at h
   .rename_i u;obtain ⟨g,i⟩:=aI h;simp only [ae,et] at g;have E:=aoD g.1;have V:u.val ρ=v.val ρ:=by rw [<-E];exact (Rz L).symm
    obtain ⟨F,I,A,C,z⟩:=Hy L p v (some (v,[])) none B r N i hN (λq K=>by cases K;rfl);refine ⟨F,I,⟨rfl,by show some (u.val ρ)=some (v.val ρ);rw [V],g.2,?_⟩,C,z⟩;have e3:eX ρ (some (v,[]))=some (v.val ρ,[]):=by simp [AV.ao]
    rw [e3] at A;exact A
   .cases h
 | .same,v,fx,y,B,r,N,h,hN,hf=>by
  unfold mt at h;obtain ⟨g,i⟩:=aI h;cases i;refine ⟨N,[],⟨?_,rfl,rfl,rfl,rfl⟩,hN,.nil⟩;unfold nvs at g;split at g
  next q=>exact .inl ⟨_,rfl,(hf q rfl).symm⟩
  .split at g
   .split at g
    next u u'=>rw [ah g];exact .inr ⟨rfl,rfl⟩
    .cases g
   .cases g
theorem w7(d:Sat (ab ρ T G++(ab ρ T H++Φ)) w):(l:List Pt)->(vs:List AV)->(a:List AV)->(b:List AV)->(B:vc)->(r:MR)->(N:List Nm)->Ge G H l vs a b B=some r->(a=[]\/a=vs)->NB ρ B N->
  ∃N' I,u5 l (AV.ao ρ vs) (AV.ao ρ a) (AV.ao ρ b) N r.D I (dF ρ r.X) N'/\NB ρ r.B N'/\eR (SI ρ T G H) r.S I
 |[],vs,a,b,B,r,N,h,hfx,hN=>by
  unfold Ge at h;split at h
  .cases h;exact ⟨N,[],⟨by simp only [AV.ao],rfl,rfl,rfl,rfl⟩,hN,.nil⟩
  .cases h
 |p::l,vs,a,b,B,r,N,h,hfx,hN=>by
  unfold Ge at h;split at h
  .rename_i v us;split at h
   .rename_i c i;split at h
    .rename_i f g;cases h;obtain ⟨N1,m,j,s,x⟩:=Hy d p _ (mb p a) b.head? B c N i hN (λq e=>by
      rcases hfx with rfl|rfl
      .cases e
      .unfold mb at e;dsimp only at e;obtain ⟨_,t⟩:=Nt e;cases t;exact (YD d).symm)
     obtain ⟨N2,k,n,o,u⟩:=w7 d l us a.tail b.tail c.B f N1 g (by rcases hfx with rfl|rfl <;> first|exact .inl rfl|exact .inr rfl) s;rw [YD d] at j;refine ⟨N2,m++k,⟨v.val ρ,AV.ao ρ us,c.D,f.D,m,k,dF ρ c.X,dF ρ f.X,N1,by simp only [AV.ao],by rw [XU,Nf];exact j,by rw [Da,Da];exact n,rfl,rfl,by simp [dF]⟩,o,x.append u⟩
    .cases h
   .cases h
  .cases h
end
theorem UY(k:Sat (ab ρ T G++(ab ρ T H++Φ)) w){z:Nat->Option AV}{fix:Nat->fY}:(l:List (Bool×Nat×Pt))->(B:vc)->(r:MR)->(N:List Nm)->XP G H z fix l B=some r->NB ρ B N->
  ∃N' I,Ft (λi=>eX ρ (fix i)) (λi=>(z i).map (AV.val ρ)) l N r.D I (dF ρ r.X) N'/\NB ρ r.B N'/\eR (SI ρ T G H) r.S I
 |[],B,r,N,h,hN=>by
  unfold XP at h;cases h;exact ⟨N,[],⟨rfl,rfl,rfl,rfl⟩,hN,.nil⟩
 |(b,t,p)::l,B,r,N,h,hN=>by
  unfold XP at h;split at h
  .rename_i v hv;split at h
   .rename_i d a;split at h
    .rename_i e f;cases h;cases b
     .simp only at hv a;obtain ⟨N1,j,n,s,y⟩:=Hy k p v none none B d N a hN (λq u=>by cases u);obtain ⟨N2,g,m,o,x⟩:=UY k l d.B e N1 f s;exact ⟨N2,j++g,⟨v.val ρ,d.D,e.D,j,g,dF ρ d.X,dF ρ e.X,N1,by simp only [hv,l7],n,m,rfl,rfl,by simp [dF]⟩,o,y.append x⟩
     .simp only at hv a;cases c:fix t with
      |none=>rw [c] at hv;cases hv
      |some q=>
       rw [c] at hv a;cases hv;obtain ⟨N1,j,n,s,y⟩:=Hy k p q.1 (some q) none B d N a hN (λq' u=>by cases u;rfl);obtain ⟨N2,g,m,o,x⟩:=UY k l d.B e N1 f s;exact ⟨N2,j++g,⟨q.1.val ρ,d.D,e.D,j,g,dF ρ d.X,dF ρ e.X,N1,by simp only [c];rfl,by simp only [c];exact n,m,rfl,rfl,by simp [dF]⟩,o,y.append x⟩
    .cases h
   .cases h
  .cases h
end
variable {A : List Nm} {D : List bZ} {N : List Nm} {a : Nm} {fx : fY}
structure FR where
 v:AV
 R:List (Bool×Row)
 k:Nat
 D:List bZ
 X:List (Nat×List AV)
structure FRs where
 vs:List AV
 R:List (Bool×Row)
 k:Nat
 D:List bZ
 X:List (Nat×List AV)
def fE(t:Ty)(D:List bZ):t.T:=match D with
 |d::_=>(d.as t).getD t.oh
 |[]=>t.oh
theorem oU{t:Ty}{x:t.T}:fE t (⟨t,x⟩::D)=x:=by simp [fE,bZ.anX]
theorem ap7{k:IntKind}{x:Int}:fE (.i k) (⟨.i k,x⟩::D)=x:=oU (t:= .i k)
theorem aqg{x:Bool}:fE .bo (⟨.bo,x⟩::D)=x:=oU (t:= .bo)
theorem aja{x:aE}:fE .s (⟨.s,x⟩::D)=x:=oU (t:= .s)
theorem aiE{x:Nat}:fE .n (⟨.n,x⟩::D)=x:=oU (t:= .n)
theorem aiX{t:Ty}{x:List t.T}:fE (.l t) (⟨.l t,x⟩::D)=x:=oU (t:= .l t)
theorem aoV{k v:Ty}{x:Option (List (k.T×v.T))}:fE (.mp k v) (⟨.mp k v,x⟩::D)=x:=oU (t:= .mp k v)
structure LR where
 vs:List AV
 R:List (Bool×Row)
 k:Nat
 o:u9
def fW(nm:Nat->Nat):(t:Ty)->t.T->Nat->u9->LR
 | .i k,x,n,o=>⟨[.int k x],[],n,o⟩
 | .bo,x,n,o=>⟨[.bool x],[],n,o⟩
 | .s,x,n,o=>⟨[.str x],[],n,o⟩
 | .un,_,n,o=>⟨[],[],n,o⟩
 | .p a b,x,n,o=>match fW nm a x.1 n o with
  |⟨u,p,n,o⟩=>match fW nm b x.2 n o with
   |⟨v,q,n,o⟩=>⟨u++v,p++q,n,o⟩
 | .l t,x,n,o=>match o with
  |none::o=>⟨[.sl (nm n)],[(false,.sli none (nm n) t x false)],n+1,o⟩
  |some e::o=>⟨[.sl (nm n)],[(ow e,.own (nm n) t (oe e) x (nm n))],n+1,o⟩
  |[]=>⟨[],[],n,[]⟩
 | .ex,x,n,o=>match o with
  |none::o=>⟨[.int .i64 x.op,.int .i64 x.n,.int .i64 x.at_,.sl (nm n)],[(false,.sli none (nm n) .ex x.l false)],n+1,o⟩
  |some e::o=>⟨[.int .i64 x.op,.int .i64 x.n,.int .i64 x.at_,.sl (nm n)],[(ow e,.own (nm n) .ex (oe e) x.l (nm n))],n+1,o⟩
  |[]=>⟨[],[],n,[]⟩
 |_,_,n,o=>⟨[],[],n,o⟩
def nmS(nm:Nat->Nat)(fx:fY)(n:Nat):Nat:=match fx with
 |some (.sl j,_)=>j
 |_=>nm n
def F9(nm:Nat->Nat)(fx:fY)(n:Nat):Nat:=match fx with
 |some (.ptr j _,_)=>j
 |_=>nm n
def nmM(nm:Nat->Nat)(fx:fY)(n:Nat):Nat:=match fx with
 |some (.mp j,_)=>j
 |_=>nm n
def am2(fx:fY)(sm:Option AV):AV:=match fx with
 |some p=>p.1
 |none=>match sm with
  |some x=>x
  |none=> .bool false
def reS(id:Nat):List Pt->List AV->List AV
 | .sfp::_,.sfp _ f::us=> .sfp id f::us
 |_,us=>us
mutual
def fill(nm:Nat->Nat):Pt->fY->Option AV->Nat->List bZ->FR
 | .int k,_,_,n,D=>⟨.int k (fE (.i k) D),[],n,D.tail,[]⟩
 | .bool,_,_,n,D=>⟨.bool (fE .bo D),[],n,D.tail,[]⟩
 | .str,_,_,n,D=>⟨.str (fE .s D),[],n,D.tail,[]⟩
 | .sli t,_,_,n,D=>⟨.sl (nm n),[(false,.sli none (nm n) t (fE (.l t) D) false)],n+1,D.tail,[]⟩
 | .own t e m,fx,_,n,D=>⟨.sl (nmS nm fx n),[(m,.own (nmS nm fx n) t e (fE (.l t) D) (nm n))],n+1,D.tail,[]⟩
 | .slr k,_,_,n,D=>⟨.sl (nm k),[],n,D,[]⟩
 | .bx t off m vs,fx,_,n,D=>match dU nm vs [] (HN fx) (n+1) D with
  |⟨cs,R,k,D,X⟩=>⟨.ptr (F9 nm fx n) off,(m,.box (F9 nm fx n) t (reS (F9 nm fx n) vs cs))::R,k,D,(aA m [(n,reS (F9 nm fx n) vs cs)] [])++X⟩
 | .ptr k off,_,_,n,D=>⟨.ptr (nm k) off,[],n,D,[]⟩
 | .mp k v m,fx,_,n,D=>⟨.mp (nmM nm fx n),[(m,.mp (nmM nm fx n) k v (fE (.mp k v) D))],n+1,D.tail,[]⟩
 | .it,fx,_,n,D=>⟨.ptr (F9 nm fx n) 0,[(true,.it (F9 nm fx n) (fE .s D) (fE .n D.tail))],n+1,D.tail.tail,[]⟩
 | .agg l,fx,_,n,D=>match dU nm l (fT fx) [] n D with
  |⟨cs,R,k,D,X⟩=>⟨.agg cs,R,k,D,X⟩
 | .cG l,_,_,n,D=>match dU nm l [] [] n D with
  |⟨cs,R,k,D,X⟩=>⟨.tuple cs,R,k,D,X⟩
 | .fn f a b,fx,_,n,D=>match dU nm a [] [] n D with
  |⟨cs,R,k,D,X⟩=>match dU nm b (fT fx) [] k D with
   |⟨cs',R',k,D,X'⟩=>⟨.fn f cs cs',R++R',k,D,X++X'⟩
 | .ifc t p,fx,_,n,D=>match fill nm p (mb p (fT fx)) none n D with
  |⟨v,R,k,D,X⟩=>⟨.ifc t v,R,k,D,X⟩
 | .iU v,_,_,n,D=>⟨v,[],n,D,[]⟩
 | .dat t o,_,_,n,D=>match fW nm t (fE t D) n o with
  |⟨cs,R,k,_⟩=>⟨.agg cs,R,k,D.tail,[]⟩
 | .ifn,_,_,n,D=>⟨.ifc (fE .n D) (.agg []),[],n,D.tail,[]⟩
 | .sfp,_,_,n,D=>⟨.sfp (nm (n-1)) (fE .bo D),[],n,D.tail,[]⟩
 | .sty p,_,sm,n,D=>fill nm p (sm.map λu=>(u,[])) none n D
 | .same,fx,sm,n,D=>⟨am2 fx sm,[],n,D,[]⟩
def dU(nm:Nat->Nat):List Pt->List AV->List AV->Nat->List bZ->FRs
 |[],_,_,n,D=>⟨[],[],n,D,[]⟩
 |p::l,fxs,sms,n,D=>match fill nm p (mb p fxs) sms.head? n D with
  |⟨v,R,k,D,X⟩=>match dU nm l fxs.tail sms.tail k D with
   |⟨vs,R',k,D,X'⟩=>⟨v::vs,R++R',k,D,X++X'⟩
end
structure FV where
 E:aF
 R:List (Bool×Row)
 k:Nat
 D:List bZ
def eZ(nm:Nat->Nat)(fix:Nat->fY):List (Bool×Nat×Pt)->Nat->List bZ->FV
 |[],n,D=>⟨[],[],n,D⟩
 |x::l,n,D=>match fill nm x.2.2 (aA x.1 (fix x.2.1) none) none n D with
  |⟨v,R,k,D,_⟩=>match eZ nm fix l k D with
   |⟨E,R',k,D⟩=>⟨aA x.1 E ((x.2.1,none,v)::E),R++R',k,D⟩
def uh(N N':List Nm):Prop:= ∃E,N'=N++E
theorem uh.refl:uh N N:=⟨[],by simp⟩
theorem uh.trans{B C:List Nm}(h:uh A B)(k:uh B C):uh A C:=by obtain ⟨E,rfl⟩:=h;obtain ⟨F,rfl⟩:=k;exact ⟨E++F,by simp⟩
theorem uh.one:uh N (N++[a]):=⟨[a],rfl⟩
theorem uh.len{B:List Nm}(h:uh A B):A.length<=B.length:=by obtain ⟨E,rfl⟩:=h;simp
theorem uh.at_{B:List Nm}(h:uh A B){i:Nat}{a:Nm}(ha:A[i]? =some a):B[i]? =some a:=by obtain ⟨E,rfl⟩:=h;rw [cd (List.getElem?_eq_some_iff.1 ha).1];exact ha
theorem BR:(t:Ty)->(x:t.T)->(cs:w9)->(o:u9)->(N:List Nm)->(I:eB)->(c:List Nm)->(d:u9)->RJ t x cs o N I c d->uh N c
 | .i _,_,_,_,_,_,_,_,h|.bo,_,_,_,_,_,_,_,h|.s,_,_,_,_,_,_,_,h|.un,_,_,_,_,_,_,_,h=>by obtain ⟨_,_,rfl,_⟩:=h;exact .refl
 | .n,_,_,_,_,_,_,_,h|.mp _ _,_,_,_,_,_,_,_,h=>h.elim
 | .p a b,x,cs,o,N,I,c,d,h=>by
  obtain ⟨c1,j,N1,m,k,g,f,e,_⟩:=h;exact (BR a _ _ _ _ _ _ _ f).trans (BR b _ _ _ _ _ _ _ e)
 | .l t,x,cs,o,N,I,c,d,h=>by obtain ⟨a,_,rfl,_⟩:=h;exact .one
 | .ex,x,cs,o,N,I,c,d,h=>by obtain ⟨a,_,rfl,_⟩:=h;exact .one
mutual
theorem sV:(p:Pt)->(v:Value)->(fx:Fx)->(i:Option Value)->(N:List Nm)->(D:List bZ)->(I:eB)->(X:iY)->(g:List Nm)->Sem p v fx i N D I X g->uh N g
 | .int _,v,fx,i,N,D,I,X,g,h|.bool,v,fx,i,N,D,I,X,g,h|.str,v,fx,i,N,D,I,X,g,h=>by obtain ⟨_,_,_,_,_,rfl⟩:=h;exact .refl
 | .sli t,v,fx,i,N,D,I,X,g,h=>by obtain ⟨a,l,_,_,_,_,rfl⟩:=h;exact .one
 | .own t e m,v,fx,i,N,D,I,X,g,h=>by obtain ⟨a,l,_,_,_,_,_,rfl,_⟩:=h;exact .one
 | .slr n,v,fx,i,N,D,I,X,g,h|.ptr n _,v,fx,i,N,D,I,X,g,h=>by obtain ⟨a,_,_,_,_,_,rfl⟩:=h;exact .refl
 | .bx t off m vs,v,fx,i,N,D,I,X,g,h=>by
  obtain ⟨a,cs,C,z,_,_,j,_⟩:=h;exact uh.one.trans (kV vs _ _ _ _ _ _ _ _ j)
 | .mp k u m,v,fx,i,N,D,I,X,g,h=>by obtain ⟨a,d,_,_,_,_,_,rfl⟩:=h;exact .one
 | .it,v,fx,i,N,D,I,X,g,h=>by obtain ⟨a,s,p,_,_,_,_,_,rfl⟩:=h;exact .one
 | .agg l,v,fx,i,N,D,I,X,g,h=>by obtain ⟨cs,_,_,j⟩:=h;exact kV l _ _ _ _ _ _ _ _ j
 | .cG l,v,fx,i,N,D,I,X,g,h=>by obtain ⟨cs,_,j⟩:=h;exact kV l _ _ _ _ _ _ _ _ j
 | .fn f a b,v,fx,i,N,D,I,X,g,h=>by
  obtain ⟨us,vs,F,E,B,A,y,w,N1,_,_,j,q,_⟩:=h;exact (kV a _ _ _ _ _ _ _ _ j).trans (kV b _ _ _ _ _ _ _ _ q)
 | .ifc t p,v,fx,i,N,D,I,X,g,h=>by obtain ⟨u,_,_,j⟩:=h;exact sV p _ _ _ _ _ _ _ _ j
 | .iU c,v,fx,i,N,D,I,X,g,h=>by obtain ⟨_,_,_,_,rfl⟩:=h;exact .refl
 | .dat t o,v,fx,i,N,D,I,X,g,h=>by obtain ⟨cs,x,r,_,_,j,_⟩:=h;exact BR t _ _ _ _ _ _ _ j
 | .ifn,v,fx,i,N,D,I,X,g,h=>by obtain ⟨_,_,_,_,_,rfl⟩:=h;exact .refl
 | .sfp,v,fx,i,N,D,I,X,g,h=>by obtain ⟨_,_,_,_,_,_,_,rfl⟩:=h;exact .refl
 | .sty p,v,fx,i,N,D,I,X,g,h=>by obtain ⟨_,_,_,j⟩:=h;exact sV p _ _ _ _ _ _ _ _ j
 | .same,v,fx,i,N,D,I,X,g,h=>by obtain ⟨_,_,_,_,rfl⟩:=h;exact .refl
theorem kV:(l:List Pt)->(vs:w9)->(b:w9)->(a:w9)->(N:List Nm)->(D:List bZ)->(I:eB)->(X:iY)->(c:List Nm)->u5 l vs b a N D I X c->uh N c
 |[],vs,b,a,N,D,I,X,c,h=>by obtain ⟨_,_,_,_,rfl⟩:=h;exact .refl
 |p::l,vs,b,a,N,D,I,X,c,h=>by obtain ⟨v,d,n,m,k,j,i,g,N1,_,f,e,_⟩:=h;exact (sV p _ _ _ _ _ _ _ _ f).trans (kV l _ _ _ _ _ _ _ _ e)
end
theorem RA{fix:Nat->Fx}{val:Nat->Option Value}:(l:List (Bool×Nat×Pt))->(N:List Nm)->(D:List bZ)->(I:eB)->(X:iY)->(a:List Nm)->Ft fix val l N D I X a->uh N a
 |[],N,D,I,X,a,h=>by obtain ⟨_,_,_,rfl⟩:=h;exact .refl
 |x::l,N,D,I,X,a,h=>by obtain ⟨v,j,i,g,f,e,d,N1,_,c,b,_⟩:=h;exact (sV _ _ _ _ _ _ _ _ _ c).trans (RA l _ _ _ _ _ b)
def RwI(ρ:ay)(T:aB)(a:Bool×Row)(b:Bool×Item):Prop:=a.1=b.1/\bS b.2 (a.2.item ρ T)/\bS (a.2.item ρ T) b.2
section
variable {ρ : ay} {T : aB} {nm : Nat -> Nat} {n0 : Nat}
theorem aoK{id:Nat}{vs:List Pt}{us:List AV}{cs c:w9}{p:List Nm}{I:eB}{X:iY}(h:u5 vs cs [] c (N++[a]) D I X p)(i:(ρ id).b=a.b)(hv:AV.ao ρ us=cs):AV.ao ρ (reS id vs us)=cs:=by
 unfold reS;split
 .rename_i l j f g;obtain ⟨v,d,w,u,t,s,r,q,N1,rfl,m,_⟩:=h;obtain ⟨o,n,ha,rfl,_⟩:=m;have e:o=a:=by simpa using ha.symm
  subst e;simp only [AV.ao,AV.val,qb] at hv ⊢;refine ⟨?_,hv.2⟩;rw [i];have k:=hv.1;cases f <;> cases n <;> simp [As] at k ⊢
 .exact hv
def tF(ρ:ay)(nm:Nat->Nat)(n0:Nat)(N:List Nm):Prop:= ∀i a,N[i]? =some a->(ρ (nm i)).b=a.b/\(ρ (nm i)).v=a.v/\(ρ (nm i)).m=a.m/\(n0<=i->(ρ (nm i)).y=a.y)
theorem tF.pre{B:List Nm}(h:tF ρ nm n0 B)(k:uh A B):tF ρ nm n0 A:=λi a ha=>h i a (k.at_ ha)
theorem tF.last(h:tF ρ nm n0 (A++[a])):(ρ (nm A.length)).b=a.b/\(ρ (nm A.length)).v=a.v/\(ρ (nm A.length)).m=a.m/\(n0<=A.length->(ρ (nm A.length)).y=a.y):=h _ _ (by simp)
theorem abd{t:Ty}{l:List t.T}{j:Nat}(h:(ρ j).v=a.v):bS (EY true t.rep a.v l false) ((Row.sli none j t l false).item ρ T)/\bS ((Row.sli none j t l false).item ρ T) (EY true t.rep a.v l false):=by simp only [Row.item,h];exact ⟨⟨λ_ h=>h,λM w h _=>h rfl⟩,⟨λ_ h=>h,λM w h _=>h aB.get_none⟩⟩
theorem abh{t:Ty}{e:TypeId}{l:List t.T}{j b:Nat}(h:(ρ j).v=a.v)(c:(ρ b).y=⟨.l t,l⟩):bS (mJ t.rep e a.v l True) ((Row.own j t e l b).item ρ T)/\bS ((Row.own j t e l b).item ρ T) (mJ t.rep e a.v l True):=by simp only [Row.item,h];exact ⟨⟨λ_ h=>h,λM w h=>⟨h.1,c⟩⟩,⟨λ_ h=>h,λM w h=>⟨h.1,trivial⟩⟩⟩
theorem Xh:(t:Ty)->(x:t.T)->(cs:w9)->(o:u9)->(N:List Nm)->(I:eB)->(c:List Nm)->(d:u9)->RJ t x cs o N I c d->tF ρ nm n0 c->n0<=N.length->
  AV.ao ρ (fW nm t x N.length o).vs=cs/\(fW nm t x N.length o).k=c.length/\(fW nm t x N.length o).o=d/\eR (RwI ρ T) (fW nm t x N.length o).R I
 | .i k,x,cs,o,N,I,c,d,h,hn,hle=>by
  obtain ⟨rfl,rfl,rfl,rfl⟩:=h;exact ⟨by simp only [fW,AV.ao,AV.val],rfl,rfl,.nil⟩
 | .bo,x,cs,o,N,I,c,d,h,hn,hle=>by
  obtain ⟨rfl,rfl,rfl,rfl⟩:=h;exact ⟨by simp only [fW,AV.ao,AV.val],rfl,rfl,.nil⟩
 | .s,x,cs,o,N,I,c,d,h,hn,hle=>by
  obtain ⟨rfl,rfl,rfl,rfl⟩:=h;exact ⟨by simp only [fW,AV.ao,AV.val],rfl,rfl,.nil⟩
 | .un,x,cs,o,N,I,c,d,h,hn,hle=>by
  obtain ⟨rfl,rfl,rfl,rfl⟩:=h;exact ⟨by simp only [fW,AV.ao],rfl,rfl,.nil⟩
 | .n,x,cs,o,N,I,c,d,h,hn,hle=>h.elim
 | .mp _ _,x,cs,o,N,I,c,d,h,hn,hle=>h.elim
 | .p a b,x,cs,o,N,I,c,d,h,hn,hle=>by
  obtain ⟨c1,G,N1,L,K,B,D,C,rfl,rfl⟩:=h;have A:=BR b _ _ _ _ _ _ _ C;obtain ⟨z,y,w,v⟩:=Xh a x.1 c1 o N L N1 B D (hn.pre A) hle;obtain ⟨r,q,m,j⟩:=Xh b x.2 G B N1 K c d C hn (cg hle (BR a _ _ _ _ _ _ _ D).len);unfold fW;generalize fW nm a x.1 N.length o=J at z y w v;obtain ⟨u,p,n,F⟩:=J;simp only at z y w v;subst y;subst w;dsimp only;generalize fW nm b x.2 N1.length F=H at r q m j;obtain ⟨M,A,O,E⟩:=H;simp only at r q m j;dsimp only;exact ⟨by rw [cZ,z,r],q,m,v.append j⟩
 | .l t,x,cs,o,N,I,c,d,h,hn,hle=>by
  obtain ⟨a,rfl,rfl,h⟩:=h;have f:=hn.last;rcases h with ⟨rfl,rfl⟩|⟨e,rfl,rfl,g⟩
  .exact ⟨by simp only [fW,AV.ao,AV.val,f.2.1],by simp [fW],rfl,.cons ⟨rfl,abd f.2.1⟩ .nil⟩
  .exact ⟨by simp only [fW,AV.ao,AV.val,f.2.1],by simp [fW],rfl,.cons ⟨rfl,abh f.2.1 (by rw [f.2.2.2 hle];exact g)⟩ .nil⟩
 | .ex,x,cs,o,N,I,c,d,h,hn,hle=>by
  obtain ⟨a,rfl,rfl,h⟩:=h;have f:=hn.last;rcases h with ⟨rfl,rfl⟩|⟨e,rfl,rfl,g⟩
  .exact ⟨by simp only [fW,AV.ao,AV.val,f.2.1],by simp [fW],rfl,.cons ⟨rfl,abd (t:= .ex) f.2.1⟩ .nil⟩
  .exact ⟨by simp only [fW,AV.ao,AV.val,f.2.1],by simp [fW],rfl,.cons ⟨rfl,abh (t:= .ex) f.2.1 (by rw [f.2.2.2 hle];exact g)⟩ .nil⟩
theorem apn{p q:fA}(h:sl p=sl q):p=q:=by obtain ⟨a,b,c⟩:=p;obtain ⟨f,e,d⟩:=q;simp only [sl,Value.slice.injEq] at h;rw [h.1,h.2.1,h.2.2]
theorem aqc(b:tF ρ nm n0 (N++[a]))(c:tD (eX ρ fx) (sl a.v)):(ρ (nmS nm fx N.length)).v=a.v:=by
 unfold nmS;split
 .have:=c _ rfl;simp only [AV.val] at this;exact (apn this).symm
 .rw [b.last.2.1]
theorem ajC{off:Nat}(c:(ρ (nm N.length)).b=a.b)(d:tD (eX ρ fx) (.pointer (some ⟨a.b,off,none⟩))):(ρ (F9 nm fx N.length)).b=a.b:=by
 unfold F9;split
 .have:=d _ rfl;simp only [AV.val,Value.pointer.injEq,b8,Addr.mk.injEq] at this;exact this.1.symm
 .rw [c]
theorem apx(b:tF ρ nm n0 (N++[a]))(c:tD (eX ρ fx) (.map a.m)):(ρ (nmM nm fx N.length)).m=a.m:=by
 unfold nmM;split
 .have:=c _ rfl;simp only [AV.val,Value.map.injEq] at this;exact this.symm
 .rw [b.last.2.2.1]
theorem Eo(p:Pt):mZ p none=true:=by cases p <;> rfl
theorem adm(p:Pt)(a:List AV):mZ p (mb p a)=true:=by
 unfold mb;cases a with
 |nil=>exact Eo p
 |cons u us=>cases p <;> rfl
theorem alZ{l:List Pt}{cs:w9}(a:mZ (.agg l) fx=true)(b:tD (eX ρ fx) (.agg cs.toArray)):AV.ao ρ (fT fx)=aA (eX ρ fx).isSome cs []:=by
 cases fx with
 |none=>rfl
 |some q=>
  obtain ⟨v,d⟩:=q;cases v <;> first|(cases a;done)|skip;have:=b _ rfl;simp only [AV.val,Value.agg.injEq] at this;show AV.ao ρ (fT (some (_,_)))=cs;simpa [fT] using this.symm
theorem an5{f:FuncId}{a b:List Pt}{us vs:w9}(c:mZ (.fn f a b) fx=true)(e:tD (eX ρ fx) (.func (.func f) us.toArray vs.toArray)):AV.ao ρ (fT fx)=aA (eX ρ fx).isSome vs []:=by
 cases fx with
 |none=>rfl
 |some q=>
  obtain ⟨v,d⟩:=q;cases v <;> first|(cases c;done)|skip;have:=e _ rfl;simp only [AV.val,Value.func.injEq] at this;show AV.ao ρ (fT (some (_,_)))=vs;simpa [fT] using this.2.2.symm
theorem akH{t:TypeId}{p:Pt}{u:Value}(a:mZ (.ifc t p) fx=true)(b:tD (eX ρ fx) (.iface t u)):AV.ao ρ (fT fx)=aA (eX ρ fx).isSome [u] []:=by
 cases fx with
 |none=>rfl
 |some q=>
  obtain ⟨v,d⟩:=q;cases v <;> first|(cases a;done)|skip;have:=b _ rfl;simp only [AV.val,Value.iface.injEq] at this;show AV.ao ρ (fT (some (_,_)))=[u];simp [fT,AV.ao,this.2]
mutual
theorem AA:(p:Pt)->(v:Value)->(fx:fY)->(j:Option AV)->(N:List Nm)->(D:List bZ)->(I:eB)->(X:iY)->(i:List Nm)->Sem p v (eX ρ fx) (j.map (AV.val ρ)) N D I X i->mZ p fx=true->tF ρ nm n0 i->n0<=N.length->(g:List bZ)->
  (fill nm p fx j N.length (D++g)).v.val ρ=v/\(fill nm p fx j N.length (D++g)).k=i.length/\(fill nm p fx j N.length (D++g)).D=g/\X=dF ρ (fill nm p fx j N.length (D++g)).X/\eR (RwI ρ T) (fill nm p fx j N.length (D++g)).R I
 | .int k,v,fx,j,N,D,I,X,i,h,hg,hn,hle,g=>by
  obtain ⟨x,rfl,rfl,rfl,rfl,rfl⟩:=h;exact ⟨by simp only [fill,p5,ap7,AV.val],rfl,rfl,rfl,.nil⟩
 | .bool,v,fx,j,N,D,I,X,i,h,hg,hn,hle,g=>by
  obtain ⟨x,rfl,rfl,rfl,rfl,rfl⟩:=h;exact ⟨by simp only [fill,p5,aqg,AV.val],rfl,rfl,rfl,.nil⟩
 | .str,v,fx,j,N,D,I,X,i,h,hg,hn,hle,g=>by
  obtain ⟨x,rfl,rfl,rfl,rfl,rfl⟩:=h;exact ⟨by simp only [fill,p5,aja,AV.val],rfl,rfl,rfl,.nil⟩
 | .sli t,v,fx,j,N,D,I,X,i,h,hg,hn,hle,g=>by
  obtain ⟨a,l,rfl,rfl,rfl,rfl,rfl⟩:=h;have J:=hn.last;refine ⟨by simp only [fill,AV.val,J.2.1],by simp [fill],rfl,rfl,.cons ⟨rfl,?_⟩ .nil⟩;show bS _ ((Row.sli none (nm N.length) t (fE (.l t) (⟨.l t,l⟩::g)) false).item ρ T)/\bS ((Row.sli none (nm N.length) t (fE (.l t) (⟨.l t,l⟩::g)) false).item ρ T) _;rw [aiX];exact abd J.2.1
 | .own t e m,v,fx,j,N,D,I,X,i,h,hg,hn,hle,g=>by
  obtain ⟨a,l,rfl,E,rfl,rfl,rfl,rfl,hy⟩:=h;have Y:=aqc hn E;refine ⟨by simp only [fill,AV.val,Y],by simp [fill],rfl,rfl,.cons ⟨rfl,?_⟩ .nil⟩;show bS _ ((Row.own (nmS nm fx N.length) t e (fE (.l t) (⟨.l t,l⟩::g)) (nm N.length)).item ρ T)/\bS ((Row.own (nmS nm fx N.length) t e (fE (.l t) (⟨.l t,l⟩::g)) (nm N.length)).item ρ T) _;rw [aiX];exact abh Y (by rw [hn.last.2.2.2 hle];exact hy)
 | .slr n,v,fx,j,N,D,I,X,i,h,hg,hn,hle,g=>by
  obtain ⟨a,ha,rfl,rfl,rfl,rfl,rfl⟩:=h;exact ⟨by simp only [fill,AV.val,(hn _ _ ha).2.1],rfl,rfl,rfl,.nil⟩
 | .bx t off m vs,v,fx,j,N,D,I,X,i,h,hg,hn,hle,g=>by
  obtain ⟨a,cs,I',X',rfl,E,r,rfl,rfl⟩:=h;rw [afY] at r;have p1:=kV vs _ _ _ _ _ _ _ _ r;have J:=hn.pre p1;have F:=ajC J.last.1 E;have G:(N++[a]).length=N.length+1:=by simp
  obtain ⟨A,z,B,C,w⟩:=su vs cs [] (HN fx) (N++[a]) D I' X' i (by simpa only [AV.ao] using r) hn (by simp;omega) g;rw [G] at A z B C w;unfold fill;generalize dU nm vs [] (HN fx) (N.length+1) (D++g)=L at A z B C w;obtain ⟨us,R,k,O,M⟩:=L;simp only at A z B C w;dsimp only;have b6:AV.ao ρ (reS (F9 nm fx N.length) vs us)=cs:=aoK r F A;refine ⟨by simp only [AV.val,F],z,B,?_,.cons ⟨rfl,?_⟩ w⟩
  .rw [C];cases m <;> simp [dF,b6]
  .simp only [Row.item,F,b6];exact ⟨bS.refl,bS.refl⟩
 | .ptr n off,v,fx,j,N,D,I,X,i,h,hg,hn,hle,g=>by
  obtain ⟨a,ha,rfl,rfl,rfl,rfl,rfl⟩:=h;exact ⟨by simp only [fill,AV.val,(hn _ _ ha).1],rfl,rfl,rfl,.nil⟩
 | .mp k u m,v,fx,j,N,D,I,X,i,h,hg,hn,hle,g=>by
  obtain ⟨a,d,rfl,E,rfl,rfl,rfl,rfl⟩:=h;have Z:=apx hn E;refine ⟨by simp only [fill,AV.val,Z],by simp [fill],rfl,rfl,.cons ⟨rfl,?_⟩ .nil⟩;show bS _ ((Row.mp (nmM nm fx N.length) k u (fE (.mp k u) (⟨.mp k u,d⟩::g))).item ρ T)/\bS ((Row.mp (nmM nm fx N.length) k u (fE (.mp k u) (⟨.mp k u,d⟩::g))).item ρ T) _;rw [aoV];simp only [Row.item,Z];exact ⟨bS.refl,bS.refl⟩
 | .it,v,fx,j,N,D,I,X,i,h,hg,hn,hle,g=>by
  obtain ⟨a,s,p,rfl,E,rfl,rfl,rfl,rfl⟩:=h;have F:=ajC hn.last.1 E;refine ⟨by simp only [fill,AV.val,F],by simp [fill],rfl,rfl,.cons ⟨rfl,?_⟩ .nil⟩;show bS _ ((Row.it (F9 nm fx N.length) (fE .s (⟨.s,s⟩::⟨.n,p⟩::g)) (fE .n (⟨.n,p⟩::g))).item ρ T)/\bS ((Row.it (F9 nm fx N.length) (fE .s (⟨.s,s⟩::⟨.n,p⟩::g)) (fE .n (⟨.n,p⟩::g))).item ρ T) _;rw [aja,aiE];simp only [Row.item,F];exact ⟨bS.refl,bS.refl⟩
 | .agg l,v,fx,j,N,D,I,X,i,h,hg,hn,hle,g=>by
  obtain ⟨cs,rfl,E,r⟩:=h;obtain ⟨A,z,B,C,w⟩:=su l cs (fT fx) [] N D I X i (by rw [alZ hg E];simpa only [AV.ao] using r) hn hle g;unfold fill;generalize dU nm l (fT fx) [] N.length (D++g)=L at A z B C w;obtain ⟨us,R,k,O,M⟩:=L;simp only at A z B C w;dsimp only;exact ⟨by simp only [AV.val,A],z,B,C,w⟩
 | .cG l,v,fx,j,N,D,I,X,i,h,hg,hn,hle,g=>by
  obtain ⟨cs,rfl,r⟩:=h;obtain ⟨A,z,B,C,w⟩:=su l cs [] [] N D I X i (by simpa only [AV.ao] using r) hn hle g;unfold fill;generalize dU nm l [] [] N.length (D++g)=L at A z B C w;obtain ⟨us,R,k,O,M⟩:=L;simp only at A z B C w;dsimp only;exact ⟨by simp only [AV.val,A],z,B,C,w⟩
 | .fn f a b,v,fx,j,N,D,I,X,i,h,hg,hn,hle,g=>by
  obtain ⟨us,vs,D1,P,I1,I2,X1,X2,N1,rfl,E,r,H,rfl,rfl,rfl⟩:=h;have p2:=kV b _ _ _ _ _ _ _ _ H;obtain ⟨A,z,B,C,w⟩:=su a us [] [] N D1 I1 X1 N1 (by simpa only [AV.ao] using r) (hn.pre p2) hle (P++g);obtain ⟨c1,W,V,U,S⟩:=su b vs (fT fx) [] N1 P I2 X2 i (by rw [an5 hg E];simpa only [AV.ao] using H) hn (cg hle (kV a _ _ _ _ _ _ _ _ r).len) g;unfold fill;rw [aO];generalize dU nm a [] [] N.length (D1++(P++g))=L at A z B C w;obtain ⟨us',R,k,O,M⟩:=L;simp only at A z B C w;subst z;subst B;dsimp only;generalize dU nm b (fT fx) [] N1.length (P++g)=L at c1 W V U S;obtain ⟨us2,R2,k2,DD2,XX2⟩:=L;simp only at c1 W V U S;dsimp only;exact ⟨by simp only [AV.val,A,c1],W,V,by rw [C,U];simp [dF],w.append S⟩
 | .ifc t p,v,fx,j,N,D,I,X,i,h,hg,hn,hle,g=>by
  obtain ⟨u,rfl,E,r⟩:=h;rw [<-akH hg E,Nf] at r;obtain ⟨A,z,B,C,w⟩:=AA p u (mb p (fT fx)) none N D I X i r (adm p _) hn hle g;unfold fill;generalize fill nm p (mb p (fT fx)) none N.length (D++g)=L at A z B C w;obtain ⟨us,R,k,O,M⟩:=L;simp only at A z B C w;dsimp only;exact ⟨by simp only [AV.val,A],z,B,C,w⟩
 | .iU c,v,fx,j,N,D,I,X,i,h,hg,hn,hle,g=>by
  obtain ⟨⟨r,K⟩,rfl,rfl,rfl,rfl⟩:=h;exact ⟨by rw [r];exact K ρ,rfl,rfl,rfl,.nil⟩
 | .dat t o,v,fx,j,N,D,I,X,i,h,hg,hn,hle,g=>by
  obtain ⟨cs,x,o',rfl,rfl,r,rfl⟩:=h;obtain ⟨A,z,B,w⟩:=Xh (T:=T) t x cs o N I i o' r hn hle;unfold fill;rw [p5,oU];generalize fW nm t x N.length o=L at A z B w;obtain ⟨us,R,k,oo⟩:=L;simp only at A z B w;dsimp only;exact ⟨by simp only [AV.val,A],z,rfl,rfl,w⟩
 | .ifn,v,fx,j,N,D,I,X,i,h,hg,hn,hle,g=>by
  obtain ⟨x,rfl,rfl,rfl,rfl,rfl⟩:=h;exact ⟨by simp only [fill,p5,aiE,AV.val,AV.ao],rfl,rfl,rfl,.nil⟩
 | .sfp,v,fx,j,N,D,I,X,i,h,hg,hn,hle,g=>by
  obtain ⟨a,f,ha,rfl,rfl,rfl,rfl,rfl⟩:=h;refine ⟨?_,rfl,rfl,rfl,.nil⟩;simp only [fill,AV.val,(hn _ _ ha).1,p5];rfl
 | .sty p,v,fx,j,N,D,I,X,i,h,hg,hn,hle,g=>by
  obtain ⟨_,K,r,H⟩:=h;cases j with
  |none=>cases K
  |some u=>
   have e:u.val ρ=v:=by simpa using K
   subst e;have e3:eX ρ (some (u,[]))=some (u.val ρ,[]):=by simp [AV.ao]
   rw [<-e3] at H;have hp:mZ p (some (u,[]))=true:=by cases p <;> first|rfl|cases r
   have:=AA p (u.val ρ) (some (u,[])) none N D I X i H hp hn hle g;unfold fill;exact this
 | .same,v,fx,j,N,D,I,X,i,h,hg,hn,hle,g=>by
  obtain ⟨r,rfl,rfl,rfl,rfl⟩:=h;refine ⟨?_,rfl,rfl,rfl,.nil⟩;simp only [fill,am2];rcases r with ⟨p,hp,rfl⟩|⟨Q,r⟩
  .cases fx with
   |none=>cases hp
   |some q=>cases hp;rfl
  .cases fx with
   |some q=>cases Q
   |none=>
    cases j with
    |none=>cases r
    |some y=>cases r;rfl
theorem su:(l:List Pt)->(vs:w9)->(a:List AV)->(b:List AV)->(N:List Nm)->(D:List bZ)->(I:eB)->(X:iY)->(d:List Nm)->u5 l vs (AV.ao ρ a) (AV.ao ρ b) N D I X d->tF ρ nm n0 d->n0<=N.length->(c:List bZ)->
  AV.ao ρ (dU nm l a b N.length (D++c)).vs=vs/\(dU nm l a b N.length (D++c)).k=d.length/\(dU nm l a b N.length (D++c)).D=c/\X=dF ρ (dU nm l a b N.length (D++c)).X/\eR (RwI ρ T) (dU nm l a b N.length (D++c)).R I
 |[],vs,a,b,N,D,I,X,d,h,hn,hle,c=>by
  obtain ⟨rfl,rfl,rfl,rfl,rfl⟩:=h;exact ⟨by simp only [dU,AV.ao],rfl,rfl,rfl,.nil⟩
 |p::l,vs,a,b,N,D,I,X,d,h,hn,hle,c=>by obtain ⟨v,f,w,e,F,E,C,B,N1,rfl,i,g,rfl,rfl,rfl⟩:=h;rw [XU,Nf] at i;rw [Da,Da] at g;have z:=kV l _ _ _ _ _ _ _ _ g;obtain ⟨u,t,s,r,q⟩:=AA p v (mb p a) b.head? N w F C N1 i (adm p a) (hn.pre z) hle (e++c);obtain ⟨c1,o,n,m,j⟩:=su l f a.tail b.tail N1 e E B d g hn (cg hle (sV p _ _ _ _ _ _ _ _ i).len) c;unfold dU;rw [aO];generalize fill nm p (mb p a) b.head? N.length (w++(e++c))=L at u t s r q;obtain ⟨y,R,k,M,J⟩:=L;simp only at u t s r q;subst t;subst s;dsimp only;generalize dU nm l a.tail b.tail N1.length (e++c)=L at c1 o n m j;obtain ⟨x,K,H,G,A⟩:=L;simp only at c1 o n m j;dsimp only;exact ⟨by simp only [AV.ao,u,c1],o,n,by rw [r,m];simp [dF],q.append j⟩
end
theorem Qi{fix:Nat->fY}{f:Nat->Option Value}:(l:List (Bool×Nat×Pt))->(N:List Nm)->(D:List bZ)->(I:eB)->(X:iY)->(d:List Nm)->Ft (λi=>eX ρ (fix i)) f l N D I X d->pw fix l=true->tF ρ nm n0 d->n0<=N.length->(a:List bZ)->
  (∀t p,look (aF.env ρ [] (eZ nm fix l N.length (D++a)).E) t=some p->p.1=true/\f t=some p.2)/\(eZ nm fix l N.length (D++a)).k=d.length/\(eZ nm fix l N.length (D++a)).D=a/\eR (RwI ρ T) (eZ nm fix l N.length (D++a)).R I
 |[],N,D,I,X,d,h,hg,hn,hle,a=>by
  obtain ⟨rfl,rfl,rfl,rfl⟩:=h;exact ⟨(λt p h=>by cases h),rfl,rfl,.nil⟩
 |(b,t,p)::l,N,D,I,X,d,h,hg,hn,hle,a=>by
  simp only [pw,ae] at hg;obtain ⟨v,x,e,C,J,B,H,N1,hv,z,y,rfl,rfl,rfl⟩:=h;have G:=RA l _ _ _ _ _ y;have j:Sem p v (eX ρ (aA b (fix t) none)) ((none:Option AV).map (AV.val ρ)) N x C B N1:=by cases b <;> exact z
  obtain ⟨w,u,s,A,r⟩:=AA (T:=T) p v _ none N x C B N1 j hg.1 (hn.pre G) hle (e++a);obtain ⟨c1,o,n,m⟩:=Qi l N1 e J H d y hg.2 hn (cg hle (sV p _ _ _ _ _ _ _ _ z).len) a;unfold eZ;rw [aO];dsimp only;generalize fill nm p (aA b (fix t) none) none N.length (x++(e++a))=L at w u s A r;obtain ⟨F,R,k,S,O⟩:=L;simp only at w u s A r;subst u;subst s;dsimp only;generalize eZ nm fix l N1.length (e++a)=L at c1 o n m;obtain ⟨Q,P,M,K⟩:=L;simp only at c1 o n m;dsimp only;refine ⟨λt' q c=>?_,o,n,r.append m⟩;cases b
  .simp only [aF.env,look] at c;cases hb:Nat.beq t t'
   .rw [hb] at c;exact c1 t' q c
   .rw [hb] at c;simp only [c9,b8] at c;subst c;have:=ah hb;subst this;refine ⟨aB.get_none,?_⟩;have g:f t=some v:=hv;rw [g,w]
  .exact c1 t' q c
end
section
variable {Γ Γ' : Ctx} {w : World}
theorem Sat.Au(h:Sat Γ w)(r:Nat->Nat->Prop)(l:∀(j:Nat) (jt:Item),Γ'[j]? =some jt->(jt.own=[]/\∀M w,jt.P M w)\/∃(i:Nat) (it:Item),r j i/\Γ[i]? =some it/\bS it jt)
  (v:∀(j k i:Nat),j≠k->r j i->r k i->False):Sat Γ' w:=by
 have mv:Mv Γ.M w (Ctx.M Γ') w:=Mv.weaken w λb hb=>by
  obtain ⟨it,hi,hb⟩:=hb;obtain ⟨k,d⟩:=List.mem_iff_getElem?.1 hi;rcases l k it d with ⟨c,_⟩|⟨i,jt,_,g,f⟩
  .rw [c] at hb;cases hb
  .exact Ctx.iH g (f.1 b hb)
 refine ⟨λjt o=>?_,λj k jt kt o d n b hb a=>?_⟩
 .obtain ⟨k,d⟩:=List.mem_iff_getElem?.1 o;rcases l k jt d with ⟨_,c⟩|⟨i,it,_,g,f⟩
  .exact c _ _
  .exact f.2 _ _ (it.cK (h.at_ g) mv (λ_ _=>rfl) (fO.refl w))
 .rcases l j jt o with ⟨c,_⟩|⟨i,it,u,g,f⟩
  .rw [c] at hb;cases hb
  .rcases l k kt d with ⟨c,_⟩|⟨s,m,t,q,p⟩
   .rw [c] at a;cases a
   .by_cases e:i=s
    .subst e;exact v j k i n u t
    .exact h.sep i s it m g q e b (f.1 b hb) (p.1 b a)
def fJ:Item:=aac True
theorem Sat.pull(h:Sat Γ w){i:Nat}{it jt:Item}(hi:Γ[i]? =some it)(b:bS it jt):Sat (jt::Γ.set i fJ) w:=by
 refine h.Au (λj k=>(j=0/\k=i)\/(j=k+1/\k≠i)) (λj kt a=>?_) (λj k q c f d=>by omega);cases j with
 |zero=>simp at a;subst a;exact .inr ⟨i,it,.inl ⟨rfl,rfl⟩,hi,b⟩
 |succ j=>
  simp only [cf] at a;by_cases e:j=i
  .subst e;rw [qA (List.getElem?_eq_some_iff.1 hi).1] at a;cases a;exact .inl ⟨rfl,λ_ _=>trivial⟩
  .rw [qm (λh=>e h.symm)] at a;exact .inr ⟨j,kt,.inr ⟨rfl,e⟩,a,bS.refl⟩
theorem Sat.An{A B:Ctx}{x:Item}(h:Sat (A++x::B) w):Sat (A++B) w:=by
 refine h.Au (λj k=>(j<A.length/\k=j)\/(A.length<=j/\k=j+1)) (λj jt a=>?_) (λj k q b d c=>by omega);by_cases e:j<A.length
 .rw [cd e] at a;exact .inr ⟨j,jt,.inl ⟨e,rfl⟩,by rw [cd e];exact a,bS.refl⟩
 .have e':A.length<=j:=by omega
  rw [b5 e'] at a;refine .inr ⟨j+1,jt,.inr ⟨e',rfl⟩,?_,bS.refl⟩;rw [b5 (by omega)];have:j+1-A.length=(j-A.length)+1:=by omega
  rw [this];simpa using a
theorem Sat.an7{A B:Ctx}{x jt:Item}{k:Nat}(h:Sat (A++x::B.set k fJ) w)(b:B[k]? =some jt)(f:bS x jt):Sat (A++B) w:=by
 have d:=(List.getElem?_eq_some_iff.1 b).1;refine h.Au (λj q=>(j<A.length/\q=j)\/(j=A.length+k/\q=A.length)\/(A.length<=j/\j≠A.length+k/\q=j+1)) (λj kt a=>?_) (λj k q g l i=>by omega);by_cases e:j<A.length
 .rw [cd e] at a;exact .inr ⟨j,kt,.inl ⟨e,rfl⟩,by rw [cd e];exact a,bS.refl⟩
 .have e':A.length<=j:=by omega
  rw [b5 e'] at a;by_cases c:j=A.length+k
  .subst c;rw [show A.length+k-A.length=k by omega,b] at a;cases a;exact .inr ⟨A.length,x,.inr (.inl ⟨rfl,rfl⟩),by simp,f⟩
  .refine .inr ⟨j+1,kt,.inr (.inr ⟨e',c,rfl⟩),?_,bS.refl⟩;rw [b5 (by omega)];have:j+1-A.length=(j-A.length)+1:=by omega
   rw [this,cf,qm (by omega)];exact a
theorem Sat.Dz{A B:Ctx}{x y:Item}(h:Sat (A++x::B) w)(b:bS x y):Sat (A++y::B) w:=by
 refine h.Au (λj k=>j=k) (λj jt a=>?_) (λj k q c g f=>by omega);by_cases e:j<A.length
 .rw [cd e] at a;exact .inr ⟨j,jt,rfl,by rw [cd e];exact a,bS.refl⟩
 .have e':A.length<=j:=by omega
  rw [b5 e'] at a;by_cases d:j=A.length
  .subst d;simp at a;subst a;exact .inr ⟨A.length,x,rfl,by simp,b⟩
  .refine .inr ⟨j,jt,rfl,?_,bS.refl⟩;rw [b5 e'];have:j-A.length=(j-A.length-1)+1:=by omega
   rw [this,cf] at a ⊢;exact a
theorem Sat.leL{A B C:Ctx}(h:Sat (A++(B++C)) w){c:Ctx}(d:eR bS B c):Sat (A++(c++C)) w:=by
 induction d generalizing A with
 |nil=>exact h
 | @cons a b l m h1 _ ih=>
  have f:Sat (A++b::(l++C)) w:=h.Dz h1;have e:Sat ((A++[b])++(l++C)) w:=by simpa using f
  have:=ih e;simpa using this
def iy:vc->Ctx->Ctx
 |[],Γ=>Γ
 |none::l,Γ=>iy l Γ
 |some i::l,Γ=>(iy l Γ).set i fJ
def Ndp:vc->Prop
 |[]=>True
 |none::l=>Ndp l
 |some i::l=>some i∉l/\Ndp l
theorem Wj:∀{l:vc} {Γ:Ctx},(iy l Γ).length=Γ.length
 |[],_=>rfl
 |none::l,Γ=>Wj (l:=l)
 |some j::l,Γ=>by show ((iy l Γ).set j fJ).length=_;rw [s3,Wj]
theorem AB:∀{l:vc} {Γ:Ctx} {i:Nat},some i∉l->(iy l Γ)[i]? =Γ[i]?
 |[],_,_,_=>rfl
 |none::l,Γ,i,h=>AB (l:=l) (λa=>h (aW _ a))
 |some j::l,Γ,i,h=>by have e:j≠i:=λe=>h (by rw [e];exact bj ..);show ((iy l Γ).set j fJ)[i]? =_;rw [qm e];exact AB (λa=>h (aW _ a))
theorem H8{x:Item}:∀{l:vc} {Γ:Ctx} {i:Nat},some i∉l->(iy l Γ).set i x=iy l (Γ.set i x)
 |[],_,_,_=>rfl
 |none::l,Γ,i,h=>H8 (l:=l) (λa=>h (aW _ a))
 |some j::l,Γ,i,h=>by have e:j≠i:=λe=>h (by rw [e];exact bj ..);show ((iy l Γ).set j fJ).set i x=(iy l (Γ.set i x)).set j fJ;rw [List.set_comm _ _ e,H8 (λa=>h (aW _ a))]
def PI(Γ:Ctx)(w:World)(o:xb)(x:Bool×Item):Prop:=match o with
 |some i=>∃jt,Γ[i]? =some jt/\bS jt x.2
 |none=>x.2.own=[]/\x.2.P Γ.M w
abbrev di(I:eB):Ctx:=I.map (·.2)
def eI(I:eB):Ctx:=I.map λx=>aA x.1 fJ x.2
theorem vR(h:Sat Γ w):∀{L:vc} {I:eB},eR (PI Γ w) L I->Ndp L->Sat (di I++iy L Γ) w/\∀b,Ctx.M (di I++iy L Γ) b->Γ.M b
 |_,_,.nil,_=>⟨h,λ_ h=>h⟩
 |_,_,.cons (a:=none) (b:=x) h1 hr,hd=>by
  obtain ⟨ih,c⟩:=vR h hr hd;refine ⟨ih.add h1.1 (x.2.cK h1.2 (Mv.weaken w c) (λ_ _=>rfl) (fO.refl w)),λb hb=>?_⟩;rcases Ctx.AM.1 hb with hb|hb
  .rw [h1.1] at hb;cases hb
  .exact c b hb
 |_,_,.cons (a:=some i) (b:=x) (l:=l) (m:=m) h1 hr,hd=>by
  obtain ⟨ih,c⟩:=vR h hr hd.2;obtain ⟨jt,g,f⟩:=h1;have hi:(di m++iy l Γ)[(di m).length+i]? =some jt:=by rw [b5 (by omega),show (di m).length+i-(di m).length=i by omega,AB hd.1];exact g
  have j:=ih.pull hi f;rw [qP _ _ (by omega),show (di m).length+i-(di m).length=i by omega] at j;refine ⟨j,λb hb=>?_⟩;rcases Ctx.AM.1 hb with hb|hb
  .exact Ctx.iH g (f.1 b hb)
  .obtain ⟨it,d,e⟩:=hb;refine c b ?_;rcases List.mem_append.1 d with d|d
   .exact ⟨it,qE _ d,e⟩
   .rcases List.mem_or_eq_of_mem_set d with d|d
    .exact ⟨it,du _ d,e⟩
    .subst d;cases e
def xh:vc->eB->vc
 |o::L,x::I=>(aA x.1 o none)::xh L I
 |_,_=>[]
def Bf(Γ:Ctx)(o:xb)(x:Bool×Item):Prop:=match o with
 |some i=>∃jt,Γ[i]? =some jt/\(x.1=false->bS x.2 jt)
 |none=>True
theorem Bf.set{Γ:Ctx}{i:Nat}{y:Item}:∀{L:vc} {I:eB},eR (Bf Γ) L I->some i∉L->eR (Bf (Γ.set i y)) L I
 |_,_,.nil,_=> .nil
 |_,_,.cons (a:=none) h1 hr,hn=> .cons trivial (Bf.set hr (λh=>hn (aW _ h)))
 |_,_,.cons (a:=some j) h1 hr,hn=>by obtain ⟨jt,c,b⟩:=h1;have e:i≠j:=λe=>hn (by rw [e];exact bj ..);exact .cons ⟨jt,by rw [qm e];exact c,b⟩ (Bf.set hr (λh=>hn (aW _ h)))
theorem Uz{i:Nat}:∀{L:vc} {I:eB},some i∈xh L I->some i∈L
 |[],_,h=>by cases h
 |o::L,[],h=>by cases h
 |o::L,x::I,h=>by
  rcases List.mem_cons.1 h with h|h
  .cases hx:x.1
   .rw [hx] at h;cases h
   .rw [hx] at h;exact h▸bj ..
  .exact aW _ (Uz h)
theorem F5{A:Ctx}:∀{L:vc} {I:eB} {Γ:Ctx},eR (Bf Γ) L I->Ndp L->Sat (A++(eI I++iy L Γ)) w->Sat (A++iy (xh L I) Γ) w
 |_,_,_,.nil,_,h=>h
 |_,_,_,.cons (a:=none) (b:=x) (l:=l) (m:=m) h1 hr,hd,h=>by
  have c:Sat (A++(eI m++iy l _)) w:=Sat.An h;have:=F5 hr hd c;cases hx:x.1 <;> simpa [xh,hx,iy] using this
 |_,_,Γ,.cons (a:=some i) (b:=x) (l:=l) (m:=m) h1 hr,hd,h=>by
  obtain ⟨jt,f,e⟩:=h1;cases hx:x.1
  .have d:eI (x::m)++iy (some i::l) Γ=x.2::(eI m++iy l Γ).set (m.length+i) fJ:=by show (aA x.1 fJ x.2)::(eI m++(iy l Γ).set i fJ)=_;rw [hx,qP _ _ (by simp [eI])];simp [eI]
   rw [d] at h;have c:=h.an7 (jt:=jt) (by
    rw [b5 (by simp [eI])];have:m.length+i-(eI m).length=i:=by simp [eI]
    rw [this,AB hd.1];exact f) (e hx)
   have:=F5 hr hd.2 c;simpa [xh,hx,iy] using this
  .have d:eI (x::m)++iy (some i::l) Γ=fJ::(eI m++iy l (Γ.set i fJ)):=by show (aA x.1 fJ x.2)::(eI m++(iy l Γ).set i fJ)=_;rw [hx,H8 hd.1]
   rw [d] at h;have c:=Sat.An h;have:=F5 (Bf.set hr hd.1) hd.2 c;rw [<-H8 (λh=>hd.1 (Uz h))] at this;simpa [xh,hx,iy] using this
end
def dj(G H:List Row)(s:Src):xb:=match s with
 | .top i=>(match G[i]? with
  |some r=>aA r.cF none (some i)
  |none=>none)
 | .cm i=>(match H[i]? with
  |some r=>aA r.cF none (some (G.length+i))
  |none=>none)
 |_=>none
def jC(n:Nat):vc->Bool
 |[]=>false
 |o::l=>(match o with
  |some m=>Nat.beq n m
  |none=>false)||jC n l
theorem Qd{n:Nat}:{l:vc}->(jC n l=true↔some n∈l)
 |[]=>by simp [jC]
 |none::l=>by simp [jC,Qd]
 |some m::l=>by simp only [jC,c5,qC,b8];rw [Qd,Nat.beq_eq]
def AW:vc->Bool
 |[]=>true
 |o::l=>(match o with
  |some i=> !(jC i l)
  |none=>true)&&AW l
theorem wv:{l:vc}->AW l=true->Ndp l
 |[],_=>trivial
 |none::l,h=>by
  simp only [AW,qu] at h;exact wv (l:=l) h
 |some i::l,h=>by simp only [AW,ae,et] at h;exact ⟨(λa=>by rw [Qd.2 a] at h;cases h.1),wv h.2⟩
section
variable {ρ : ay} {T : aB} {G H : List Row} {Φ : Ctx} {w : World}
theorem Src.pos{s:Src}{r:Row}(h:s.at_ G H r)(hp:r.cF=false):∃i,dj G H s=some i/\(ab ρ T G++(ab ρ T H++Φ))[i]? =some (r.item ρ T):=by
 cases s with
 |top i=>
  have h:G[i]? =some r:=h;exact ⟨i,by simp only [dj,h,hp],fi h⟩
 |cm i=>
  have h:H[i]? =some r:=h;exact ⟨G.length+i,by simp only [dj,h,hp],Yp h⟩
 |nilI=>exact h.elim
 |nilO=>exact h.elim
 |nilM=>exact h.elim
theorem Src.aq6{s:Src}{r:Row}(h:s.at_ G H r)(hp:r.cF=true):dj G H s=none:=by
 cases s with
 |top i=>
  have h:G[i]? =some r:=h;simp only [dj,h,hp]
 |cm i=>
  have h:H[i]? =some r:=h;simp only [dj,h,hp]
 |nilI=>exact h.elim
 |nilO=>exact h.elim
 |nilM=>exact h.elim
theorem Src.arh{s:Src}(h:∀r,¬s.at_ G H r):dj G H s=none:=by
 cases s with
 |top i=>
  cases a:G[i]? with
  |none=>simp only [dj,a]
  |some r=>exact (h r a).elim
 |cm i=>
  cases a:H[i]? with
  |none=>simp only [dj,a]
  |some r=>exact (h r a).elim
 |nilI=>rfl
 |nilO=>rfl
 |nilM=>rfl
theorem MT(m:Sat (ab ρ T G++(ab ρ T H++Φ)) w):∀{S:List (Bool×Src)} {I:eB},eR (SI ρ T G H) S I->eR (PI (ab ρ T G++(ab ρ T H++Φ)) w) (S.map λx=>dj G H x.2) I/\eR (Bf (ab ρ T G++(ab ρ T H++Φ))) (S.map λx=>dj G H x.2) I
 |_,_,.nil=>⟨.nil,.nil⟩
 |_,_,.cons (a:=a) (b:=x) h1 hr=>by
  obtain ⟨j,h⟩:=MT m hr;obtain ⟨e,o⟩:=h1;rcases o with ⟨d,f,g⟩|⟨r,d,f,g,n⟩
  .have hp:=Src.arh g;refine ⟨.cons ?_ j,.cons ?_ h⟩
   .show PI _ _ (dj G H a.2) x;rw [hp];exact ⟨d,f _ _⟩
   .show Bf _ (dj G H a.2) x;rw [hp];trivial
  .cases c:r.cF
   .obtain ⟨i,l,k⟩:=Src.pos (ρ:=ρ) (T:=T) (Φ:=Φ) d c;refine ⟨.cons ?_ j,.cons ?_ h⟩
    .show PI _ _ (dj G H a.2) x;rw [l];exact ⟨_,k,f⟩
    .show Bf _ (dj G H a.2) x;rw [l];exact ⟨_,k,λ_=>n c⟩
   .have hp:=Src.aq6 d c;refine ⟨.cons ?_ j,.cons ?_ h⟩
    .show PI _ _ (dj G H a.2) x;rw [hp];exact ⟨g c,f.2 _ _ (Src.holds m d)⟩
    .show Bf _ (dj G H a.2) x;rw [hp];trivial
def pj(is:vc):Nat->List Row->List Row
 |_,[]=>[]
 |k,r::G=>(aA (jC k is) .gone r)::pj is (k+1) G
def jA:List Row->List Row
 |[]=>[]
 |r::G=>(match r with
  | .gone=>jA G
  |r=>r::jA G)
theorem Dl{B:Ctx}:∀{G:List Row} {A:Ctx},Sat (A++(ab ρ T G++B)) w->Sat (A++(ab ρ T (jA G)++B)) w
 |[],_,h=>h
 |r::G,A,h=>by
  unfold jA;split
  .exact Dl (G:=G) (Sat.An h)
  .have a:Sat ((A++[r.item ρ T])++(ab ρ T G++B)) w:=by simpa [ab] using h
   have:=Dl (G:=G) a;simpa [ab] using this
theorem OC{L:vc}:∀{G:List Row} {k:Nat},ab ρ T (pj L k G)=(ab ρ T G).mapIdx λi it=>aA (jC (k+i) L) fJ it
 |[],_=>rfl
 |r::G,k=>by
  simp only [pj,ab,cx,List.mapIdx_cons];have:=OC (L:=L) (G:=G) (k:=k+1);simp only [ab] at this;rw [this];congr 1
  .simp only [qj];cases jC k L <;> rfl
  .congr 1
   funext i it
   rw [Nat.add_right_comm,qs]
theorem aaL:∀{L:vc} {Γ:Ctx} {j:Nat},(iy L Γ)[j]? =(Γ[j]?).map λit=>aA (jC j L) fJ it
 |[],Γ,j=>by
  show Γ[j]? =_;cases Γ[j]? <;> rfl
 |none::l,Γ,j=>aaL (L:=l)
 |some i::l,Γ,j=>by
  show ((iy l Γ).set i fJ)[j]? =_;by_cases e:i=j
  .subst e;rw [q6];have a:(iy l Γ).length=Γ.length:=Wj;have c:jC i (some i::l)=true:=by simp [jC]
   rw [c];simp only [qn,a];by_cases hi:i<Γ.length
   .rw [cb hi];simp [hi]
   .rw [j6 (by omega)];simp [hi]
  .rw [qm e,aaL (L:=l)];have b:Nat.beq j i=false:=by
    cases hb:Nat.beq j i
    .rfl
    .exact absurd (ah hb).symm e
   simp [jC,b]
end
structure aq where
 f:FuncId
 ps:List Pt
 r:Pt
 os:List (Bool×Nat×Pt)
 m:ew (mu ps)->Option (ew (lD r++gi os))
def alm:Ty->u9->Nat×u9
 | .p a b,o=>match alm a o with
  |(n,o)=>match alm b o with
   |(m,o)=>(n+m,o)
 | .l _,o=>(1,o.tail)
 | .ex,o=>(1,o.tail)
 |_,o=>(0,o)
mutual
def agO:Pt->Nat
 | .sli _|.own _ _ _|.mp _ _ _|.it=>1
 | .bx _ _ _ vs=>UL vs+1
 | .agg l|.cG l=>UL l
 | .fn _ a b=>UL a+UL b
 | .ifc _ p=>agO p
 | .sty p=>agO p
 | .dat t o=>(alm t o).1
 |_=>0
def UL:List Pt->Nat
 |[]=>0
 |p::l=>agO p+UL l
end
def ixN:List Pt->Nat->Nat
 |p::l,i+1=>agO p+ixN l i
 |_,_=>0
def Nn(X:iY)(n:Nat):w9:=match X with
 |[]=>[]
 |x::X=>aA (Nat.beq x.1 n) x.2 (Nn X n)
def B6(X:List (Nat×List AV))(n:Nat):List AV:=match X with
 |[]=>[]
 |x::X=>aA (Nat.beq x.1 n) x.2 (B6 X n)
theorem Dy{ρ:ay}{n:Nat}:{X:List (Nat×List AV)}->Nn (dF ρ X) n=AV.ao ρ (B6 X n)
 |[]=>by simp [Nn,B6,AV.ao]
 |x::X=>by
  show (aA (Nat.beq x.1 n) (AV.ao ρ x.2) (Nn (dF ρ X) n))=AV.ao ρ (aA (Nat.beq x.1 n) x.2 (B6 X n));cases Nat.beq x.1 n
  .exact Dy
  .rfl
def Ug(N:List Nm)(ps:List Pt)(vs:w9)(X:iY)(i:Nat):Fx:=aA (Nat.ble 1000 i) ((N[i-1000]?).map λa=>(.pointer (some ⟨a.b,0,none⟩),Nn X (i-1000))) ((vs[i]?).map λv=>(v,Nn X (ixN ps i)))
def vJ(B:vc)(ps:List Pt)(vs:List AV)(X:List (Nat×List AV))(i:Nat):fY:=aA (Nat.ble 1000 i) (match B[i-1000]? with
 |some (some j)=>some (.ptr j 0,B6 X (i-1000))
 |some none=>some (.gp 0,B6 X (i-1000))
 |none=>none) (match vs[i]? with
 |some v=>some (v,B6 X (ixN ps i))
 |none=>none)
theorem W2{ρ:ay}:{l:List AV}->{i:Nat}->(AV.ao ρ l)[i]? =(l[i]?).map (AV.val ρ)
 |[],i=>by simp [AV.ao]
 |v::l,0=>by simp [AV.ao]
 |v::l,i+1=>by simp only [AV.ao,cf];exact W2
theorem agb{ρ:ay}{B:vc}(c:NB ρ B N){ps:List Pt}{vs:List AV}{X:List (Nat×List AV)}{i:Nat}:Ug N ps (AV.ao ρ vs) (dF ρ X) i=eX ρ (vJ B ps vs X i):=by
 unfold Ug vJ;cases Nat.ble 1000 i
 .simp only [aA];rw [W2];cases vs[i]? with
  |none=>rfl
  |some v=>simp [Dy]
 .simp only [aA];cases hb:B[i-1000]? with
  |none=>
   have:N[i-1000]? =none:=by rw [List.getElem?_eq_none_iff] at hb ⊢;rw [<-c.length];exact hb
   rw [this];rfl
  |some o=>
   obtain ⟨a,e,d⟩:=c.get hb;rw [e];cases o with
   |none=>
    have:a.b=0:=d.1;simp [Dy,AV.val,this]
   |some j=>
    have:a.b=(ρ j).b:=d.1;simp [Dy,AV.val,this]
def aq.Ok(P:Program)(Γg:Ctx)(e:aq):Prop:=Enters P e.f/\∀s r,e.m s=some r->∀(vs:w9) (N:List Nm) (I:eB) (X:iY) (Φ:Ctx) (w:World),
 u5 e.ps vs [] [] [] (fL _ s) I X N->Sat (di I++Φ) w->(∀it∈Γg,it∈Φ)->
 fq P e.f vs w λv w'=>∃(N1 N2:List Nm) (D1 D2:List bZ) (I1 I2:eB) (X1 X2:iY),Sem e.r v none none N D1 I1 X1 N1/\Ft (Ug N e.ps vs X) (λi=>vs[i]?) e.os N1 D2 I2 X2 N2/\D1++D2=fL _ r/\
  Sat ((di I1++di I2)++(eI I++Φ)) w'
def cellsOf(G H:List Row)(j:Nat):List AV:=match dH G H (wO j) with
 |some (_,.box _ _ cs)=>cs
 |_=>[]
def alE:(t:Ty)->List AV->u9->x8×List AV×u9
 | .i _,vs,o|.bo,vs,o|.s,vs,o=>([],vs.tail,o)
 | .p a b,vs,o=>match alE a vs o with
  |(i,vs,o)=>match alE b vs o with
   |(j,vs,o)=>(i++j,vs,o)
 | .l _,vs,o=>(match o with
  |none::_=>(match vs with
   |v::_=>v.dZ
   |[]=>[])
  |_=>[],vs.tail,o.tail)
 | .ex,vs,o=>(match o with
  |none::_=>(match vs with
   |_::_::_::v::_=>v.dZ
   |_=>[])
  |_=>[],vs.drop 4,o.tail)
 |_,vs,o=>([],vs,o)
mutual
def rQ(G H:List Row):Pt->AV->x8
 | .sli _,v=>v.dZ
 | .bx _ _ _ vs,v=>(match v with
  | .ptr j _=>dO G H vs (cellsOf G H j)
  |_=>[])
 | .agg l,v=>(match v with
  | .agg vs=>dO G H l vs
  |_=>[])
 | .cG l,v=>(match v with
  | .tuple vs=>dO G H l vs
  |_=>[])
 | .fn _ a b,v=>(match v with
  | .fn _ a' b'=>dO G H a a'++dO G H b b'
  |_=>[])
 | .sty p,v=>rQ G H p v
 | .ifc _ p,v=>(match v with
  | .ifc _ u=>rQ G H p u
  |_=>[])
 | .dat t o,v=>(match v with
  | .agg cs=>(alE t cs o).1
  |_=>[])
 |_,_=>[]
def dO(G H:List Row):List Pt->List AV->x8
 |[],_=>[]
 |p::l,vs=>(match vs with
  |v::vs=>rQ G H p (sA G H v)++dO G H l vs
  |[]=>[])
end
def uz(T:aB)(g:GK):List Row->List Row
 |[]=>[]
 |r::G=>(match r with
  | .sli (some k) id t l b=> .sli (aA (T.imp g (some k)) none (some k)) id t l b
  |r=>r)::uz T g G
def Av(g:GK)(r:Row):Row:=match g with
 |none=>r
 |some g=>(match r with
  | .sli none id t l b=> .sli (some g) id t l b
  | .own id t _ l _=> .sli (some g) id t l false
  |r=>r)
def slB:Row->Bool
 | .sli none _ _ _ _|.own .. =>true
 |_=>false
def WJ:List (Bool×Row)->Bool
 |[]=>true
 |x::l=>slB x.2&&WJ l
def rG(B:vc)(c:Nat)(n:Nat):Nat:=match B[n]? with
 |some (some j)=>j
 |_=>c+n
def Pg(c:Nat):vc->Bool
 |[]=>true
 |o::l=>(match o with
  |some j=>Nat.blt j c
  |none=>true)&&Pg c l
theorem acn{ρ ρ':ay}{c:Nat}(ha:aT c ρ ρ'):{B:vc}->{N:List Nm}->Pg c B=true->NB ρ B N->NB ρ' B N
 |[],_,_,h=>by cases h;exact .nil
 |o::B,_,hB,h=>by
  cases h with
  |cons a d=>
   simp only [Pg,ae] at hB;refine .cons ?_ (acn ha hB.2 d);cases o with
   |none=>exact a
   |some j=>
    have b:j<c:=by simpa using hB.1
    have e:=ha j b;show _/\_/\_;rw [e];exact a
def QQ(c:Nat):List (Nat×List AV)->Bool
 |[]=>true
 |x::l=>AV.bX c x.2&&QQ c l
def xW(G H:List Row):List (Bool×Src)->vc
 |[]=>[]
 |x::S=>(aA x.1 (dj G H x.2) none)::xW G H S
def O3(n:Nat):vc->Bool
 |[]=>true
 |o::l=>(match o with
  |some i=>Nat.blt i n
  |none=>true)&&O3 n l
def SF:vc->Bool
 |[]=>true
 |o::l=>(match o with
  |some _=>false
  |none=>true)&&SF l
def Nd{R:Type}(_fr:Fr)(st:aC)(g:GK)(d:xc)(args:List AV)(e:aq)(mr:MR)(G1:List Row)(K:cB R)(r:ew (lD e.r++gi e.os)):Option R:=
 match fill (rG mr.B st.c) e.r none none mr.B.length (fL _ r) with
 |⟨v,R1,k,D,_⟩=>match eZ (rG mr.B st.c) (vJ mr.B e.ps args mr.X) e.os k D with
  |⟨_,R2,k,_⟩=>aA (match g with|none=>true|some _=>WJ R1) (K { st with c:=st.c+k,E:=cu d g v st.E,G:=(R1++R2).map (λx=>Av g x.2)++G1 }) none
def agx{R:Type}(T:aB)(fr:Fr)(st:aC)(g:GK)(d:xc)(args:List AV)(e:aq)(K:cB R):Option (Option R):=
 match g with
 |none=>(match Ge (cm (dO st.G fr.H e.ps args) st.G) fr.H e.ps args [] [] [] with
  |some mr=>aA (AW (mr.S.map λx=>dj (cm (dO st.G fr.H e.ps args) st.G) fr.H x.2)&&O3 (cm (dO st.G fr.H e.ps args) st.G).length (xW (cm (dO st.G fr.H e.ps args) st.G) fr.H mr.S)&&Pg st.c mr.B&&AV.bX st.c args&&QQ st.c mr.X&&pw (vJ mr.B e.ps args mr.X) e.os) (match cG (mu e.ps) mr.D with
   |some s=>some ((e.m s).bind (Nd fr st none d args e mr (jA (pj (xW (cm (dO st.G fr.H e.ps args) st.G) fr.H mr.S) 0 (cm (dO st.G fr.H e.ps args) st.G))) K))
   |none=>none) none
  |none=>none)
 |some gk=>(match Ge (uz T (some gk) (cm (dO st.G fr.H e.ps args) st.G)) (uz T (some gk) fr.H) e.ps args [] [] [] with
  |some mr=>aA (AW (mr.S.map λx=>dj (uz T (some gk) (cm (dO st.G fr.H e.ps args) st.G)) (uz T (some gk) fr.H) x.2)&&SF (xW (uz T (some gk) (cm (dO st.G fr.H e.ps args) st.G)) (uz T (some gk) fr.H) mr.S)&&e.os.isEmpty&&Pg st.c mr.B&&AV.bX st.c args&&QQ st.c mr.X&&pw (vJ mr.B e.ps args mr.X) e.os) (match cG (mu e.ps) mr.D with
   |some s=>some (bz (T.get (some gk)) (aio _) (e.m s) (Nd fr st (some gk) d args e mr (cm (dO st.G fr.H e.ps args) st.G) K))
   |none=>none) none
  |none=>none)
def vg{R:Type}(T:aB)(fr:Fr)(st:aC)(g:GK)(d:xc)(f:FuncId)(args:List AV)(K:cB R):List aq->Option R
 |[]=>none
 |e::tb=>aA (Nat.beq e.f f) (match agx T fr st g d args e K with
   |some r=>r
   |none=>vg T fr st g d f args K tb) (vg T fr st g d f args K tb)
section
variable {ρ : ay} {T : aB} {G H : List Row} {Φ : Ctx} {w : World}
theorem PS{s:Src}{i:Nat}(h:dj G H s=some i):i<G.length+H.length:=by
 cases s with
 |top j=>
  simp only [dj] at h;split at h
  next r a=>obtain ⟨_,b⟩:=Nt h;cases b;have:=(List.getElem?_eq_some_iff.1 a).1;omega
  .cases h
 |cm j=>
  simp only [dj] at h;split at h
  next r a=>obtain ⟨_,b⟩:=Nt h;cases b;have:=(List.getElem?_eq_some_iff.1 a).1;omega
  .cases h
 |nilI=>cases h
 |nilO=>cases h
 |nilM=>cases h
theorem QA:∀{S:List (Bool×Src)} {I:eB},eR (SI ρ T G H) S I->xh (S.map λx=>dj G H x.2) I=xW G H S
 |_,_,.nil=>rfl
 |_,_,.cons (a:=a) (b:=x) h1 hr=>by show (aA x.1 (dj G H a.2) none)::xh _ _=(aA a.1 (dj G H a.2) none)::_;rw [QA hr,h1.1]
theorem WR{n:Nat}:∀{L:vc} {j:Nat},O3 n L=true->jC j L=true->j<n
 |[],j,h,a=>by cases a
 |none::l,j,h,a=>by
  simp only [O3,qu] at h;simp only [jC,qv] at a;exact WR h a
 |some i::l,j,h,a=>by
  simp only [O3,ae,e9] at h;simp only [jC,c5] at a;rcases a with a|a
  .rw [ah a];exact h.1
  .exact WR h.2 a
theorem BO{L:vc}{Δ:Ctx}(h:O3 G.length L=true):iy L (ab ρ T G++Δ)=ab ρ T (pj L 0 G)++Δ:=by
 apply qp;intro j;rw [aaL,OC];by_cases a:j<G.length
 .rw [cd (by simpa [ab] using a),cd (by simpa [ab] using a),List.getElem?_mapIdx];simp
 .have e:jC j L=false:=by
   cases b:jC j L
   .rfl
   .exact absurd (WR h b) a
  rw [b5 (by simp [ab];omega),b5 (by simp [ab];omega),e];have c:(ab ρ T G).length=((ab ρ T G).mapIdx λi it=>aA (jC (0+i) L) fJ it).length:=by simp
  rw [<-c];cases Δ[j-(ab ρ T G).length]? <;> rfl
theorem aa9:∀{L:vc} {Γ:Ctx},SF L=true->iy L Γ=Γ
 |[],_,_=>rfl
 |none::l,Γ,h=>by
  simp only [SF,qu] at h;exact aa9 (L:=l) h
 |some i::l,Γ,h=>by simp [SF] at h
theorem Rj{g:GK}(d:T.get g=true){B:Ctx}:∀{G:List Row} {A:Ctx},Sat (A++(ab ρ T G++B)) w->Sat (A++(ab ρ T (uz T g G)++B)) w
 |[],_,h=>h
 |r::G,A,h=>by
  have a:∀c:Row,bS (r.item ρ T) (c.item ρ T)->Sat (A++(ab ρ T (c::uz T g G)++B)) w:=λc e=>by
   have f:Sat (A++c.item ρ T::(ab ρ T G++B)) w:=Sat.Dz h e;have i:Sat ((A++[c.item ρ T])++(ab ρ T G++B)) w:=by simpa [ab] using f
   have:=Rj d (G:=G) i;simpa [ab] using this
  unfold uz;split
  .rename_i k id t l b;refine a _ ?_;cases hi:T.imp g (some k)
   .exact bS.refl
   .refine ⟨λ_ h=>h,λM w h _=>h (aB.jy hi d)⟩
  .exact a _ bS.refl
theorem Xl{g:GK}:∀{G:List Row},eR bS (ab ρ T (uz T g G)) (ab ρ T G)
 |[]=> .nil
 |r::G=>by
  show eR bS (ab ρ T (uz T g (r::G))) (r.item ρ T::ab ρ T G);unfold uz;refine .cons ?_ Xl;split
  .rename_i k id t l b;cases hi:T.imp g (some k)
   .exact bS.refl
   .exact ⟨λ_ h=>h,λM w h _=>h aB.get_none⟩
  .exact bS.refl
theorem aaG{g:Nat×Bool}{B:Ctx}:∀{R:List (Bool×Row)} {A:Ctx},WJ R=true->Sat (A++(ab ρ T (R.map (·.2))++B)) w->Sat (A++(ab ρ T (R.map λx=>Av (some g) x.2)++B)) w
 |[],_,_,h=>h
 |(m,r)::R,A,hb,h=>by
  simp only [WJ,ae] at hb;have c:Sat (A++(Av (some g) r).item ρ T::(ab ρ T (R.map (·.2))++B)) w:=by
   have d:Sat (A++r.item ρ T::(ab ρ T (R.map (·.2))++B)) w:=h;cases r with
   |sli k id t l b=>
    cases k with
    |none=>exact d.Dz ⟨λ_ h=>h,λM w h _=>h aB.get_none⟩
    |some k=>simp [slB] at hb
   |own id t e l a=>
    have hi:(A++(Row.own id t e l a).item ρ T::(ab ρ T (R.map (·.2))++B))[A.length]? =some (mJ t.rep e (ρ id).v l ((ρ a).y=⟨.l t,l⟩)):=by simp [Row.item]
    have i:=d.nd hi (new:=(Av (some g) (Row.own id t e l a)).item ρ T) ((Ext.refl w).rz _) (λb hb=>by cases hb) (λM' m f=>λ_=>⟨(d.at_ hi).1.freeze (λb hb=>f b hb (λhb=>by cases hb)) m,λhb=>by cases hb⟩);simpa using i
   |_=>simp [slB] at hb
  have j:Sat ((A++[(Av (some g) r).item ρ T])++(ab ρ T (R.map (·.2))++B)) w:=by simpa using c
  have:=aaG (g:=g) hb.2 j;simpa [ab] using this
theorem IG{g:Nat×Bool}(a:T.get (some g)=false):∀{R:List (Bool×Row)},WJ R=true->∀it∈ab ρ T (R.map λx=>Av (some g) x.2),it.cF=true/\∀M w,it.P M w
 |[],_,it,h=>by cases h
 |(m,r)::R,hb,it,h=>by
  simp only [WJ,ae] at hb;rw [cx,ab,cx] at h;rcases List.mem_cons.1 h with rfl|h
  .cases r with
   |sli k id t l b=>
    cases k with
    |none=>exact ⟨rfl,λM w h=>by rw [a] at h;cases h⟩
    |some k=>simp [slB] at hb
   |own id t e l c=>exact ⟨rfl,λM w h=>by rw [a] at h;cases h⟩
   |_=>simp [slB] at hb
  .exact IG a hb.2 it h
theorem eR.rw{R:List (Bool×Row)}{I:eB}(h:eR (RwI ρ T) R I):eR bS (di I) (ab ρ T (R.map (·.2))):=by
 induction h with
 |nil=>exact .nil
 |cons a _ ih=>exact .cons a.2.1 ih
theorem Uh{R:List (Bool×Row)}:(R.map λx=>Av none x.2)=R.map (·.2):=rfl
theorem YG{N2:List Nm}{B:vc}{c:Nat}(p:NB ρ B N)(hp:uh N N2)(q:Pg c B=true):
  tF (λi=>aA (Nat.blt i c) (ρ i) ((N2[i-c]?).getD cM)) (rG B c) B.length N2:=by
 intro i a ha;have e:∀n,(aA (Nat.blt (c+n) c) (ρ (c+n)) ((N2[c+n-c]?).getD cM))=(N2[n]?).getD cM:=λn=>by
  have:Nat.blt (c+n) c=false:=by
   cases hb:Nat.blt (c+n) c
   .rfl
   .simp only [e9] at hb;omega
  rw [this,show c+n-c=n by omega]
 unfold rG;split
 .rename_i j d;obtain ⟨s,r,f⟩:=p.get d;have k:=hp.at_ r;rw [ha] at k;cases k;have b:Nat.blt j c=true:=by
   have key:∀(B:vc) (i:Nat),Pg c B=true->B[i]? =some (some j)->Nat.blt j c=true:=λB=>by
    induction B with
    |nil=>intro i _ h;simp at h
    |cons o l ih=>
     intro i h g;simp only [Pg,ae] at h;cases i with
     |zero=>simp at g;subst g;exact h.1
     |succ i=>exact ih i h.2 (by simpa using g)
   exact key B i q d
  simp only [b];refine ⟨f.1.symm,f.2.1.symm,f.2.2.symm,λm=>?_⟩;have:=(List.getElem?_eq_some_iff.1 d).1;omega
 .simp only [e,ha,qx];exact ⟨trivial,trivial,trivial,λ_=>trivial⟩
theorem acD{ρ':ay}{c:Nat}(ha:aT c ρ ρ'):{X:List (Nat×List AV)}->QQ c X=true->dF ρ' X=dF ρ X
 |[],_=>rfl
 |x::X,h=>by simp only [QQ,ae] at h;show (x.1,AV.ao ρ' x.2)::dF ρ' X=(x.1,AV.ao ρ x.2)::dF ρ X;rw [AV.bU ha _ h.1,acD ha h.2]
end
section
variable {P : Program} {R : Type} {r : R} {K : cB R} {T : aB} {fr : Fr} {st : aC} {g : GK} {d : xc} {ρ : ay} {Φ Γg : Ctx} {w : World} {ty : TypeId} {pos : String} {af : x3} {gd : vb}
theorem Lb{e:aq}{args:List AV}{a:MR}{l:List Row}{q:ew (lD e.r++gi e.os)}{v:Value}{w':World}{N1 N2:List Nm}{E p:List bZ}{D n:eB}{X1 V:iY}
  (hl:st.low fr=true) (I:bC st.c l=true) (G:NB ρ a.B N) (Z:Pg st.c a.B=true) (hA:AV.bX st.c args=true) (hX:QQ st.c a.X=true) (hF:pw (vJ a.B e.ps args a.X) e.os=true)
  (h1:Sem e.r v none none N E D X1 N1) (y:Ft (Ug N e.ps (AV.ao ρ args) (dF ρ a.X)) (λi=>(AV.ao ρ args)[i]?) e.os N1 p n V N2) (hD:E++p=fL _ q)
  (hg:T.get g=true) (hs:Sat ((di D++di n)++(ab ρ T l++(ab ρ T fr.H++Φ))) w') (f:g=none\/e.os=[]) (h:Nd fr st g d args e a l K q=some r):aV r K T fr st g d ρ Φ v w':=by
 have u:=sV _ _ _ _ _ _ _ _ _ h1;have t:=RA _ _ _ _ _ _ y;have m:=YG (N2:=N2) G (u.trans t) Z;have b:aT st.c ρ (λi=>aA (Nat.blt i st.c) (ρ i) ((N2[i-st.c]?).getD cM)):=λj hj=>by
  have:Nat.blt j st.c=true:=by simpa using hj
  simp only [this]
 generalize hρ:(λi=>aA (Nat.blt i st.c) (ρ i) ((N2[i-st.c]?).getD cM))=ρ' at m b;have w:a.B.length=N.length:=G.length;obtain ⟨U,S,Q,a4,P⟩:=AA (T:=T) e.r v none none N E D X1 N1 h1 (Eo _) (m.pre t) (by omega) p;have J:Ft (λi=>eX ρ' (vJ a.B e.ps args a.X i)) (λi=>(AV.ao ρ args)[i]?) e.os N1 p n V N2:=by
  have e1:(λi=>eX ρ' (vJ a.B e.ps args a.X i))=Ug N e.ps (AV.ao ρ args) (dF ρ a.X):=by
   funext i
   rw [<-AV.bU b _ hA,<-acD b hX,agb (acn b Z G)]
  rw [e1];exact y
 obtain ⟨b1,O,M,o⟩:=Qi (T:=T) e.os N1 p n V N2 J hF m (cg (by omega) u.len) [];unfold Nd at h;rw [<-hD,w] at h;generalize fill (rG a.B st.c) e.r none none N.length (E++p)=L at U S Q a4 P h;obtain ⟨v',z,k,DD,XX⟩:=L;simp only at U S Q a4 P;subst S;subst Q;dsimp only at h;rw [iq] at b1 O M o;generalize eZ (rG a.B st.c) (vJ a.B e.ps args a.X) e.os N1.length DD=L at b1 O M o h;obtain ⟨E2,W,Y,DD2⟩:=L;simp only at O M o;dsimp only at h;obtain ⟨c1,c2⟩:=aI h;refine aV.new (ρ':=ρ') hl c2 b (by simp) rfl U ?_;have s:Sat ((ab ρ' T (z.map (·.2))++ab ρ' T (W.map (·.2)))++(ab ρ T l++(ab ρ T fr.H++Φ))) w':=by have k1:=Sat.leL (A:=[]) (B:=di D) (C:=di n++(ab ρ T l++(ab ρ T fr.H++Φ))) (by simpa using hs) P.rw;have Y:=Sat.leL (A:=ab ρ' T (z.map (·.2))) (B:=di n) (C:=ab ρ T l++(ab ρ T fr.H++Φ)) k1 o.rw;simpa using Y
 have e3:=bf (T:=T) b I;show Sat (ab ρ' T ((z++W).map (λx=>Av g x.2)++l)++(ab ρ T fr.H++Φ)) w';rw [bk,e3,qB,bk];cases g with
 |none=>
  rw [Uh,Uh];simpa using s
 |some gk=>
  rcases f with f|f
  .cases f
  .have F:W=[]:=by
    have hI:n=[]:=by rw [f] at y;exact y.2.1
    rw [hI] at o;cases o;rfl
   subst F;have k3:=aaG (g:=gk) (A:=[]) (R:=z) (B:=ab ρ T l++(ab ρ T fr.H++Φ)) c1 (by simpa using s);simpa using k3
theorem ajg{e:aq}{op:Op}{args:List AV}(hl:st.low fr=true)(t:Sat (ab ρ T st.G++(ab ρ T fr.H++Φ)) w)(he:e.Ok P Γg)(hΓ:∀it∈Γg,it∈Φ)
  (ent:T.get g=true->∀n j,Fits n (au ρ T st.E fr.F) j->(execOp j.eval ⟨d,op,ty,pos,af,gd⟩).run P w= .ok (.enter e.f (AV.ao ρ args).toArray) w) (h:agx T fr st g d args e K=some (some r)):
  iN P T g (au ρ T st.E fr.F) ⟨d,op,ty,pos,af,gd⟩ w (aV r K T fr st g d ρ Φ):=by
 have hGl:=pB (ids:=dO st.G fr.H e.ps args) (aC.cC.1 hl).2.2.1;replace t:=iP (ids:=dO st.G fr.H e.ps args) t
 -- what is lent, taken and handed back
 have key:∀(p o:List Row) (a:MR) (s:ew (mu e.ps)) (q:ew (lD e.r++gi e.os)),Sat (ab ρ T p++(ab ρ T o++Φ)) w->Ge p o e.ps args [] [] []=some a->AW (a.S.map λx=>dj p o x.2)=true->
   cG (mu e.ps) a.D=some s->e.m s=some q->fq P e.f (AV.ao ρ args) w λv w'=>∃(N N1 N2:List Nm) (U R:List bZ) (Q O:eB) (X1 X2:iY),NB ρ a.B N/\Sem e.r v none none N U Q X1 N1/\
    Ft (Ug N e.ps (AV.ao ρ args) (dF ρ a.X)) (λi=>(AV.ao ρ args)[i]?) e.os N1 R O X2 N2/\U++R=fL _ q/\Sat ((di Q++di O)++iy (xW p o a.S) (ab ρ T p++(ab ρ T o++Φ))) w':=λp o a s q t hm hnd b hq=>by
  obtain ⟨N,I,s1,V,a1⟩:=w7 t e.ps args [] [] [] a [] hm (.inl rfl) .nil;rw [<-AG _ b] at s1;obtain ⟨p1,p2⟩:=MT t a1;have C:=wv hnd;obtain ⟨q1,_⟩:=vR t p1 C;refine (he.2 s q hq (AV.ao ρ args) N I (dF ρ a.X) _ w (by simpa only [AV.ao] using s1) q1 (λit u=>?_)).mono ?_
  .obtain ⟨k,l⟩:=List.mem_iff_getElem?.1 (hΓ it u);have hk2:(ab ρ T p++(ab ρ T o++Φ))[p.length+o.length+k]? =some it:=by
    rw [b5 (by simp [ab];omega),b5 (by simp [ab];omega)];have:p.length+o.length+k-(ab ρ T p).length-(ab ρ T o).length=k:=by simp [ab];omega
    rw [this];exact l
   refine pa (i:=p.length+o.length+k) ?_;rw [AB,hk2];intro Z;obtain ⟨x,_,hx⟩:=List.mem_map.1 Z;have:=PS hx;omega
  .intro v w' hv;obtain ⟨N1,N2,U,R,Q,O,X1,X2,c1,c2,c3,M⟩:=hv;have J:=F5 p2 C M;rw [QA a1] at J;exact ⟨N,N1,N2,U,R,Q,O,X1,X2,V,c1,c2,c3,J⟩
 unfold agx at h;cases g with
 |none=>
  dsimp only at h;split at h
  .rename_i a hm;obtain ⟨h1,z⟩:=aI h;simp only [ae] at h1;obtain ⟨⟨⟨⟨⟨h3,h4⟩,h5⟩,h6⟩,h7⟩,h9⟩:=h1;split at z
   .rename_i s b;simp only [b8] at z;obtain ⟨q,hq,l⟩:=Ae z;refine .none_ (λn j hf=> .inr (.inr ⟨e.f,AV.ao ρ args,ent aB.get_none n j hf,(key _ _ a s q t hm h3 b hq).mono λv w' hv=>?_⟩));obtain ⟨N,N1,N2,U,R,Q,O,X1,X2,V,c1,c2,c3,M⟩:=hv;rw [BO h4] at M;have J:=Dl M;refine Lb hl ?_ V h5 h6 h7 h9 c1 c2 c3 aB.get_none J (.inl rfl) l;have W:∀(L:vc) (G:List Row) (k:Nat),bC st.c G=true->bC st.c (jA (pj L k G))=true:=λL G=>by
     induction G with
     |nil=>intro k _;rfl
     |cons r G ih=>
      intro k hG;simp only [bC,ae] at hG;show bC st.c (jA ((aA (jC k L) .gone r)::pj L (k+1) G))=true;cases jC k L
      .cases r <;> first|exact ih (k+1) hG.2|(simp only [jA,bC,ae];exact ⟨hG.1,ih (k+1) hG.2⟩)
      .exact ih (k+1) hG.2
    exact W _ _ _ hGl
   .cases z
  .cases h
 |some gk=>
  dsimp only at h;split at h
  .rename_i a hm;obtain ⟨h1,z⟩:=aI h;simp only [ae] at h1;obtain ⟨⟨⟨⟨⟨⟨h3,h4⟩,h8⟩,h5⟩,h6⟩,h7⟩,h9⟩:=h1;have Y:e.os=[]:=by simpa using h8
   split at z
   .rename_i s b;simp only [b8] at z;obtain ⟨q,hq1,hq0,l⟩:=SJ z;refine ⟨λy=>λn j hf=> .inr (.inr ⟨e.f,AV.ao ρ args,ent y n j hf,(key _ _ a s q (Rj (A:=ab ρ T (uz T (some gk) (cm (dO st.G fr.H e.ps args) st.G))) y (Rj (A:=[]) y t)) hm h3 b (hq1 y)).mono λv w' hv=>?_⟩),λy=>?_⟩
    .obtain ⟨N,N1,N2,U,R,Q,O,X1,X2,V,c1,c2,c3,M⟩:=hv;rw [aa9 h4] at M;have J:=Sat.leL M Xl;rw [<-aO] at J;have c6:=Sat.leL J Xl;rw [aO] at c6;exact Lb hl hGl V h5 h6 h7 h9 c1 c2 c3 y c6 (.inr Y) l
    .have e0:=hq0 y;subst e0;unfold Nd at l;generalize fill (rG a.B st.c) e.r none none a.B.length (fL _ (aio _))=L at l;obtain ⟨v',R1,k,DD,XX⟩:=L;dsimp only at l;have e2:eZ (rG a.B st.c) (vJ a.B e.ps args a.X) e.os k DD=⟨[],[],k,DD⟩:=by rw [Y];rfl
     rw [e2] at l;dsimp only at l;obtain ⟨d1,d2⟩:=aI l;refine ⟨_,aV.iu d2 (by simp) rfl rfl ?_⟩;show Sat (ab ρ T ((R1++[]).map (λx:Bool×Row=>Av (some gk) x.2)++_)++_) w;rw [iq,bk,aO];exact Bq t _ (λit u=>⟨(IG y d1 it u).1,(IG y d1 it u).2 _ _⟩)
   .cases z
  .cases h
end
def SA:(t:Ty)->List t.T->Option w9
 | .s,xs=>some (xs.map S)
 | .i k,xs=>some (xs.map (.int k))
 |_,_=>none
def glx(b:Nat):Item where
 own:=[]
 P M w:= ¬M b/\∃m:Int,w.cell? ⟨b,0,none⟩=some (.int .i64 m)
 lt _ b hb:=by cases hb
 cK {M M' w w'} h m _ _:=by
  obtain ⟨h1,x,hx⟩:=h;have hlt:b<w.heap.size:=by
   rcases sq b w.heap.size with h|h
   .exact h
   .simp [World.cell?,Array.getElem?_eq_none h] at hx
  obtain ⟨h2,h3⟩:=m.2 _ hlt h1;exact ⟨h2,x,by unfold World.cell? at hx ⊢; rw [h3];exact hx⟩
 cF:=true
 hp _:=rfl
def glI(p:Nat×Nat×bZ):Item:=match p.2.2 with
 |⟨.l t,xs⟩=>(match SA t xs with
  |some cs=>gl p.1 cs
  |none=>fJ)
 |⟨.un,_⟩=>glx p.1
 |_=>fJ
def Cx.Γ(X:Cx):Ctx:=X.gls.map glI
def aan:List (Nat×Nat×bZ)->Nat->Option bZ
 |[],_=>none
 |p::l,b=>aA (Nat.beq p.1 b) (some p.2.2) (aan l b)
theorem abO:{l:List (Nat×Nat×bZ)}->{b:Nat}->{d:bZ}->aan l b=some d->∃p,p∈l/\p.1=b/\p.2.2=d
 |[],_,_,h=>by cases h
 |p::l,b,d,h=>by
  unfold aan at h;rcases dq h with ⟨f,a⟩|⟨_,a⟩
  .cases a;exact ⟨p,bj .., ah f,rfl⟩
  .obtain ⟨q,e,c⟩:=abO a;exact ⟨q,aW _ e,c⟩
theorem ajT{M:Nat->Prop}{w:World}:{t:Ty}->{xs:List t.T}->{cs:w9}->SA t xs=some cs->cL t.rep M w cs xs
 | .s,xs,_,h=>by cases h;exact Qf xs
 | .i k,xs,_,h=>by cases h;exact Yu xs
 | .bo,_,_,h|.un,_,_,h|.n,_,_,h|.p _ _,_,_,h|.l _,_,_,h|.mp _ _,_,_,h|.ex,_,_,h=>by cases h
structure GA where
 n:Nat
 e:TypeId
 b:Nat
 t:Ty
 xs:List t.T
 m:Nat
def gaA(X:Cx)(T:aB)(fr:Fr)(st:aC)(g:GK)(t:TypeId)(x:Operand):Option GA:=match X.P.underlying t with
 |some (.array n e)=>(match jS X.P e with
  |some z=>(match br T st.E fr.F g x with
   |some (.gp b)=>(match aan X.gls b with
    |some ⟨.l u,xs⟩=>aA ((SA u xs).isSome&&Nat.beq z.1 u.n'&&Nat.beq n xs.length&&Nat.blt 0 n) (some ⟨n,e,b,u,xs,z.1⟩) none
    |_=>none)
   |_=>none)
  |none=>none)
 |_=>none
section
variable {X : Cx} {R : Type} {r : R} {K : cB R} {T : aB} {fr : Fr} {st : aC} {g : GK} {d : Tmp} {ρ : ay} {Φ : Ctx} {w : World} {ty : TypeId} {pos : String} {af : x3} {gd : vb}
theorem abQ{t:TypeId}{q:GA}(f:∀it∈X.Γ,it∈Φ)(C:Sat (ab ρ T st.G++(ab ρ T fr.H++Φ)) w)(h:gaA X T fr st g t x=some q):
  X.P.underlying t=some (.array q.n q.e)/\(∃bytes z,TI X.P q.e q.m bytes z)/\ar (au ρ T st.E fr.F) (T.get g) x (.pointer (some ⟨q.b,0,none⟩))/\q.m=q.t.rep.n/\q.n=q.xs.length/\Nat.blt 0 q.n=true/\
   bQ q.t.rep (Ctx.M (ab ρ T st.G++(ab ρ T fr.H++Φ))) w (sl (some ⟨q.b,0,none⟩,q.xs.length,q.xs.length)) q.xs:=by
 unfold gaA at h;split at h
 .rename_i n e B;split at h
  .rename_i z A;obtain ⟨m,bytes,z⟩:=z;split at h
   .rename_i b hx;split at h
    .rename_i u xs D;obtain ⟨s,L⟩:=aI h;cases L;simp only [ae] at s;obtain ⟨⟨⟨r,K⟩,J⟩,I⟩:=s;have c:=aR (ρ:=ρ) hx;simp only [AV.val] at c;obtain ⟨p,v,o,k⟩:=abO D;obtain ⟨j,y,Q⟩:=p;simp only at o k;subst o;subst k;cases hc:SA u xs with
     |none=>rw [hc] at r;cases r
     |some cs=>
      have d:gl j cs∈Φ:=by have:=f (glI (j,y,⟨.l u,xs⟩)) (List.mem_map.2 ⟨_,v,rfl⟩);unfold glI at this;simp only [hc] at this;exact this
      have a:gl j cs∈ab ρ T st.G++(ab ρ T fr.H++Φ):=du _ (du _ d);obtain ⟨i,hi⟩:=List.mem_iff_getElem?.1 a;obtain ⟨O,N⟩:=C.gl hi;exact ⟨B,⟨bytes,z,cE A⟩,c,(ah K).trans u.BS.symm,ah J,I,aqH O N (ajT hc)⟩
    .cases h
   .cases h
  .cases h
 .cases h
def aaa(X:Cx)(T:aB)(fr:Fr)(st:aC)(g:GK)(d:Tmp)(t:TypeId)(x y:Operand)(K:cB R):Option R:=match gaA X T fr st g t x with
 |some q=>(match br T st.E fr.F g y with
  |some (.int _ i)=>apU T g st d q.t q.xs i K
  |_=>none)
 |none=>none
theorem ab5{Q:TypeId}{y:Operand}(hl:st.low fr=true)(R:∀it∈X.Γ,it∈Φ)(hs:Sat (ab ρ T st.G++(ab ρ T fr.H++Φ)) w)(h:aaa X T fr st g d Q x y K=some r):
  KH X.P T g (au ρ T st.E fr.F) ⟨some d,.indexAddr Q x y,ty,pos,af,gd⟩ w (aV r K T fr st g (some d) ρ Φ):=by
 unfold aaa at h;split at h
 .rename_i q hq;obtain ⟨Z,⟨bytes,z,I⟩,D,hm,hn,_,hS⟩:=abQ R hs hq;obtain ⟨n,e,b,t,l,m⟩:=q;simp only at Z I D hm hn hS h;split at h
  .rename_i k i hy;have C:=aR (ρ:=ρ) hy;simp only [AV.val] at C;obtain ⟨v,b1,b2⟩:=Ag h;have key:∃(p:Addr) (f:ay),aT st.c ρ f/\(f st.c).a=p/\(T.get g=true->x9 (sl (some ⟨b,0,none⟩,l.length,l.length)) i m p)/\
     ∀it∈ab f T (.elm g st.c (dA t v (st.c+1)).1::((dA t v (st.c+1)).2.1.map (uA g))),it.cF=true/\it.P (Ctx.M (ab ρ T st.G++(ab ρ T fr.H++Φ))) w:=by
    cases u:T.get g
    .refine ⟨⟨0,0,none⟩,ρ.set st.c cM,ay.aZ,by rw [ay.bB];rfl,(λh=>by cases h),λit j=>?_⟩;rw [ab,cx] at j;rcases List.mem_cons.1 j with rfl|j
     .exact ⟨rfl,λh=>by rw [u] at h;cases h⟩
     .obtain ⟨r1,A,rfl⟩:=List.mem_map.1 j;obtain ⟨r2,o,rfl⟩:=List.mem_map.1 A;obtain ⟨j1,t1,l1,rfl⟩:=KM _ _ _ _ o;exact tv (λh=>by rw [u] at h;cases h)
    .obtain ⟨O,vs,W,V,e4⟩:=hS.atA (b1 u);obtain ⟨f,B⟩:=FM (T:=T) t v (st.c+1) vs V (ρ.set st.c { cM with a:=pH (sl (some ⟨b,0,none⟩,l.length,l.length)) i t.rep.n });have N:(f st.c).a=pH (sl (some ⟨b,0,none⟩,l.length,l.length)) i t.rep.n:=by rw [B.ag _ (qh _),ay.bB]
     refine ⟨pH (sl (some ⟨b,0,none⟩,l.length,l.length)) i t.rep.n,f,ay.aZ.trans B.ag (gy _),N,λ_=>by rw [hm];exact O,λit j=>?_⟩;rw [ab,cx] at j;rcases List.mem_cons.1 j with rfl|j
     .refine ⟨rfl,λ_=>?_⟩;show ¬Ctx.M _ (f st.c).a.block/\bM w (f st.c).a _;rw [N,B.eq];exact ⟨e4,W⟩
     .obtain ⟨r1,A,rfl⟩:=List.mem_map.1 j;obtain ⟨r2,o,rfl⟩:=List.mem_map.1 A;have U:=B.rp _ o;obtain ⟨j1,t1,l1,rfl⟩:=B.rs _ o;exact tv (λ_=>U)
   obtain ⟨p,f,Y,k2,k3,k4⟩:=key;have S:=Bq hs _ k4;have eG:=bf (T:=T) Y (aC.cC.1 hl).2.2.1
   -- what stands there where g does not hold does not count
   have J:∀w',bg X.P (au ρ T st.E fr.F) (T.get g) ⟨some d,.indexAddr Q x y,ty,pos,af,gd⟩ w' (.pointer (some ((⟨b,0,none⟩:Addr).add (i.toNat*m)))):=λw'=>
    y7 Z I D C (λu=>anK (b1 u) hn.symm)
   have s:aV r K T fr st g (some d) ρ Φ (.pointer (some p)) w:=by
    refine aV.new (ρ':=f) hl b2 Y (cg (gy _) (Mw _ _ _)) rfl (by simp only [AV.val,k2];simp [Addr.add]) ?_;show Sat (ab f T (Row.elm g st.c _::(_++st.G))++_) w;have e8:ab f T (Row.elm g st.c (dA t v (st.c+1)).1::((dA t v (st.c+1)).2.1.map (uA g)++st.G))=ab f T (.elm g st.c (dA t v (st.c+1)).1::((dA t v (st.c+1)).2.1.map (uA g)))++ab f T st.G:=by simp [ab]
    rw [e8,eG,aO];exact S
   cases u:T.get g
   .exact ⟨_,λw'=>λn a hf L=>(by rw [u] at L;cases L),s⟩
   .obtain ⟨a,len,cap,O,_,_,W⟩:=k3 u;have V:p=(⟨b,0,none⟩:Addr).add (i.toNat*m):=by
     injection O with O _ _
     cases O;exact W
    subst V;exact ⟨_,J,s⟩
  .cases h
 .cases h
def XF(X:Cx)(T:aB)(fr:Fr)(st:aC)(d:Tmp)(t:TypeId)(x:Operand)(lo hi mx:Option Operand)(K:cB R):Option R:=match lo,hi,mx with
 |none,none,none=>(match gaA X T fr st none t x with
  |some q=>K { st with c:=st.c+1,E:=cu (some d) none (.sl st.c) st.E,G:= .sli none st.c q.t q.xs false::st.G }
  |none=>none)
 |_,_,_=>none
theorem aoM{t:TypeId}{lo hi g:Option Operand}(m:st.low fr=true)(e:∀it∈X.Γ,it∈Φ)(i:Sat (ab ρ T st.G++(ab ρ T fr.H++Φ)) w)(h:XF X T fr st d t x lo hi g K=some r):
  iN X.P T none (au ρ T st.E fr.F) ⟨some d,.slice t x lo hi g,ty,pos,af,gd⟩ w (aV r K T fr st none (some d) ρ Φ):=by
 unfold XF at h;split at h
 .split at h
  next q k=>obtain ⟨j,⟨bytes,z,f⟩,a,p,l,c,o⟩:=abQ e i k;rw [aB.get_none] at a;refine .none_ (bF.gd (bF.run (Uo j f c a) ?_));refine aV.push (x:={ cM with v:=(some ⟨q.b,0,none⟩,q.n,q.n) }) m h (by simp only [AV.val,ay.bB];rfl) (i.add rfl ?_);intro _;rw [ay.bB];exact ⟨by rw [l];exact o,λh=>by cases h⟩
  .cases h
 .cases h
theorem aoW{t:TypeId}{lo hi g:Option Operand}(m:st.low fr=true)(c:∀it∈X.Γ,it∈Φ)(i:Sat (ab ρ T st.G++(ab ρ T fr.H++Φ)) w)(h:XF X T fr st d t x lo hi g K=some r):
  KH X.P T none (au ρ T st.E fr.F) ⟨some d,.slice t x lo hi g,ty,pos,af,gd⟩ w (aV r K T fr st none (some d) ρ Φ):=by
 unfold XF at h;split at h
 .split at h
  next q k=>obtain ⟨j,⟨bytes,z,f⟩,e,p,l,a,o⟩:=abQ c i k;refine ⟨_,λw'=>Uo j f a e,?_⟩;refine aV.push (x:={ cM with v:=(some ⟨q.b,0,none⟩,q.n,q.n) }) m h (by simp only [AV.val,ay.bB];rfl) (i.add rfl ?_);intro _;rw [ay.bB];exact ⟨by rw [l];exact o,λh=>by cases h⟩
  .cases h
 .cases h
end
variable {cv : w4 × AV}
def sEq(P:Program)(t:TypeId)(a b:AV):w4:=match P.underlying t with
 |some (.int _)=>(match a,b with
  | .int k x,.int k' y=>aA (fm k k') (some (x==y)) none
  |_,_=>none)
 |some .bool=>(match a,b with
  | .bool x,.bool y=>some (x==y)
  |_,_=>none)
 |some .string=>(match a,b with
  | .str x,.str y=>some (x==y)
  |_,_=>none)
 |_=>none
def fEq(P:Program):List Field->Nat->List AV->List AV->Option (List Bool)
 |[],_,l1,l2=>aA (l1.isEmpty&&l2.isEmpty) (some []) none
 |f::fs,k,l1,l2=>(match l1,l2 with
  |a::l1,b::l2=>aA (f.name != "_" &&Nat.beq f.offset k) (match sEq P f.type a b with
   |some r=>(match fEq P fs (k+1) l1 l2 with
    |some l=>some (r::l)
    |none=>none)
   |none=>none) none
  |_,_=>none)
def ac8:Bool->List Bool->Bool
 |b,[]=>b
 |b,c::l=>ac8 (b&&c) l
def eqL:List Bool->Bool
 |[]=>true
 |b::l=>ac8 b l
theorem af4:∀{l:List Bool} {b:Bool},ac8 b l=(b&&l.foldr (· && ·) true)
 |[],b=>by simp [ac8]
 |c::l,b=>by simp only [ac8,af4,List.foldr_cons,Bool.and_assoc]
theorem apE:∀{l:List Bool},eqL l=l.foldr (· && ·) true
 |[]=>rfl
 |b::l=>by simp only [eqL,af4,List.foldr_cons]
def amj(X:Cx)(T:aB)(E F:aF)(g:GK):Op->CV
 | .binOp op t x y _=>(match br T E F g x with
  |some (.agg l1)=>(match br T E F g y with
   |some (.agg l2)=>(match X.P.underlying t with
    |some (.struct fs)=>aA (!(X.P.eqGuardType X.P.depth t)&& !(X.P.stoodInHeld t)) (match fEq X.P fs.toList 0 l1 l2 with
     |some bs=>(match op with
      | .eql=>pv (.bool (eqL bs))
      | .neq=>pv (.bool (!(eqL bs)))
      |_=>none)
     |none=>none) none
    |_=>none)
   |_=>none)
  |_=>none)
 |_=>none
def amQ(X:Cx)(T:aB)(E F:aF)(g:GK):Op->CV
 | .typeAssert x _ t true=>(match X.P.underlying t with
  |some dd=>aA (!(fK dd)) (match br T E F g x with
   |some (.ifc t' v)=>aA (Nat.beq t' t) (pv (.tuple [v,.bool true])) (match jS X.P t with
    |some z=>pv (.tuple [.raw z.2.2,.bool false])
    |none=>none)
   |some (.raw .nilIface)=>(match jS X.P t with
    |some z=>pv (.tuple [.raw z.2.2,.bool false])
    |none=>none)
   |_=>none) none
  |none=>none)
 |_=>none
def agY(X:Cx)(T:aB)(E F:aF)(g:GK):Op->CV
 | .indexAddr t x (.const (.int _ (.ofNat j)))=>(match X.P.underlying t with
  |some (.array n e)=>(match jS X.P e with
   |some z=>(match br T E F g x with
    |some (.ptr id off)=>aA (Nat.blt j n) (pv (.ptr id (off+j*z.1))) none
    |_=>none)
   |none=>none)
  |_=>none)
 |_=>none
def akX(X:Cx)(T:aB)(E F:aF)(g:GK)(op:Op):CV:=match ak1 X T E F g op with
 |some cv=>some cv
 |none=>(match amj X T E F g op with
  |some cv=>some cv
  |none=>(match amQ X T E F g op with
   |some cv=>some cv
   |none=>agY X T E F g op))
section
variable {X : Cx} {T : aB} {E F : aF} {g : GK} {ρ : ay} {w : World} {dst : xc} {ty : TypeId} {pos : String} {af : x3} {gd : vb}
theorem apQ{P:Program}{t:TypeId}{a b:AV}{r:Bool}(d:Nat)(h:sEq P t a b=some r):(∃td,P.underlying t=some td/\jm td=false)/\(Op.equalIn (d+1) t (a.val ρ) (b.val ρ)).run P w= .ok r w:=by
 unfold sEq at h;split at h
 .rename_i i c;split at h
  next k x j y=>obtain ⟨g,f⟩:=aI h;cases f;have e:=gw g;subst e;exact ⟨⟨_,c,rfl⟩,by simp only [AV.val];exact run_equalIn_int w d t _ _ _ _ c⟩
  .cases h
 .rename_i c;split at h
  .cases h;exact ⟨⟨_,c,rfl⟩,by simp only [AV.val];exact run_equalIn_bool' w d t _ _ c⟩
  .cases h
 .rename_i c;split at h
  .cases h;exact ⟨⟨_,c,rfl⟩,by simp only [AV.val];exact Zx _ w d t _ _ c⟩
  .cases h
 .cases h
theorem aiV{P:Program}{xs ys:w9}(d:Nat):∀{m:List Field} {k:Nat} {g e:List AV} {i:List Bool},fEq P m k g e=some i->xs.drop k=AV.ao ρ g->ys.drop k=AV.ao ρ e->
  (Op.eqFields (d+1) xs.toArray ys.toArray m).run P w= .ok (i.foldr (· && ·) true) w
 |[],k,g,e,i,h,_,_=>by
  unfold fEq at h;obtain ⟨_,c⟩:=aI h;cases c;exact aoz
 |f::m,k,g,e,i,h,hx,hy=>by
  unfold fEq at h;split at h
  .rename_i a g b e;obtain ⟨j,c⟩:=aI h;simp only [ae] at j;have n:=ah j.2;split at c
   .rename_i r p;split at c
    .rename_i l q;cases c;obtain ⟨⟨u,t1,t2⟩,o⟩:=apQ (ρ:=ρ) (w:=w) d p;simp only [AV.ao] at hx hy;have t:xs[k]? =some (a.val ρ):=by rw [<-List.head?_drop,hx];rfl
     have s:ys[k]? =some (b.val ρ):=by rw [<-List.head?_drop,hy];rfl
     refine amT j.1 (agk t1 t2 (by rw [n];exact t)) (agk t1 t2 (by rw [n];exact s)) o ?_;refine aiV d q ?_ ?_
     .rw [<-mj,hx];rfl
     .rw [<-mj,hy];rfl
    .cases c
   .cases c
  .cases h
theorem akw{op:Op}(h:amj X T E F g op=some cv):lA X.P (au ρ T E F) ρ (T.get g) ⟨dst,op,ty,pos,af,gd⟩ w cv:=by
 unfold amj at h;split at h
 .rename_i o t x y t';split at h
  .rename_i k hx;split at h
   .rename_i j l;split at h
    .rename_i m f;obtain ⟨d,c⟩:=aI h;simp only [ae,et] at d;split at c
     .rename_i n e;have b:=aR (ρ:=ρ) hx;have a:=aR (ρ:=ρ) l;simp only [AV.val] at b a;have i:X.P.fieldsOf t=m:=by simp [Program.fieldsOf,f]
      have key:(Op.equalIn 10000 t (.agg (AV.ao ρ k).toArray) (.agg (AV.ao ρ j).toArray)).run X.P w= .ok (eqL n) w:=by rw [run_equalIn_struct w 9999 t _ _ (by rw [i];exact f) d.2,i,apE];exact aiV 9998 e rfl rfl
      split at c
      .refine .pv c (cw b a ?_);rw [Sem.run_bind,run_eqGuard_agg w _ _ _ _ _ _ d.1,Result.andThen_ok,run_eql_struct,key];simp only [AV.val,Result.andThen_ok]
      .refine .pv c (cw b a ?_);rw [Sem.run_bind,run_eqGuard_agg w _ _ _ _ _ _ d.1,Result.andThen_ok,run_neq_struct,key];simp only [AV.val,Result.andThen_ok]
      .cases c
     .cases c
    .cases h
   .cases h
  .cases h
 .cases h
theorem al7{op:Op}(h:amQ X T E F g op=some cv):lA X.P (au ρ T E F) ρ (T.get g) ⟨dst,op,ty,pos,af,gd⟩ w cv:=by
 unfold amQ at h;split at h
 .rename_i x s t;split at h
  .rename_i dd f;obtain ⟨j,b⟩:=aI h;have hd:fK dd=false:=by simpa using j
   split at b
   .rename_i t' v hx;have a:=aR (ρ:=ρ) hx;simp only [AV.val] at a;rcases dq b with ⟨i,c⟩|⟨i,c⟩
    .have:=ah i;subst this;refine .pv c ?_;simp only [AV.val,AV.ao];exact YV f hd a
    .split at c
     next z d=>obtain ⟨n,bytes,z⟩:=z;refine .pv c ?_;simp only [AV.val,AV.ao];exact Z0 (λe=>by subst e;simp at i) f hd (cE d) a
     .cases c
   .rename_i hx;split at b
    next z d=>obtain ⟨n,bytes,z⟩:=z;have a:=aR (ρ:=ρ) hx;simp only [AV.val] at a;refine .pv b ?_;simp only [AV.val,AV.ao];exact ZC f hd (cE d) a
    .cases b
   .cases b
  .cases h
 .cases h
theorem ajx{op:Op}(h:agY X T E F g op=some cv):lA X.P (au ρ T E F) ρ (T.get g) ⟨dst,op,ty,pos,af,gd⟩ w cv:=by
 unfold agY at h;split at h
 .rename_i t x k j;split at h
  .rename_i n e l;split at h
   .rename_i z i;obtain ⟨m,bytes,z⟩:=z;split at h
    .rename_i id off hx;obtain ⟨f,o⟩:=aI h;have d:=aR (ρ:=ρ) hx;simp only [AV.val] at d;refine .pv o ?_;have a:=y7 (P:=X.P) (w:=w) (dst:=dst) (ty:=ty) (pos:=pos) (af:=af) (gd:=gd) (y:= .const (.int k (.ofNat j))) l (cE i) d ar.c (by intro _;rw [e9] at f;exact vP.2 ⟨Int.natCast_nonneg j,by simpa using f⟩)
     have p:((⟨(ρ id).b,off,none⟩:Addr).add ((Int.ofNat j).toNat*m))=⟨(ρ id).b,off+j*m,none⟩:=by rw [add_plain];rfl
     rw [p] at a;simpa only [AV.val] using a
    .cases h
   .cases h
  .cases h
 .cases h
theorem amx{op:Op}(c:eK T E F)(h:akX X T E F g op=some cv):lA X.P (au ρ T E F) ρ (T.get g) ⟨dst,op,ty,pos,af,gd⟩ w cv:=by
 unfold akX at h;split at h
 next b a=>cases h;exact akz c a
 .split at h
  next b a=>cases h;exact akw a
  .split at h
   next b a=>cases h;exact al7 a
   .exact ajx h
end
variable {d : TypeDesc}
def wQ{α:Type}(xs ys:List α):List α:=ys.take xs.length++xs.drop ys.length
section
variable {P : Program} {E : Env} {w : World} {g : Bool}
variable {dst : xc} {ty : TypeId} {pos : String} {af : x3} {gd : vb}
theorem amC{α:Type}{A:dD α}{M:Nat->Prop}{v u:Value}{t ty e:TypeId}{bytes:Nat}{z:Value}{R:x8}(S:P.underlying t=some (.slice e))(B:TI P e A.n bytes z)
  {xs ys:List α} (L:bK A e M w v xs R) (y:bQ A M w u ys) (_hM:∀b∈R,M b):
  ∃w',(Builtin.copy_ #[t,t] ty #[v,u]).run P w= .ok (.int .i64 ((Nat.min ys.length xs.length:Nat):Int)) w'/\js R w w'/\w'.heap.size=w.heap.size/\∀M',Mv M w M' w'->bK A e M' w' v (wQ xs ys) R:=by
 obtain ⟨i,hi,hs,_,_⟩:=B.out;by_cases k:xs=[]\/ys=[]
 .have hc:wQ xs ys=xs:=by unfold wQ;rcases k with k|k <;> subst k <;> simp
  have s:Nat.min ys.length xs.length=0:=by rcases k with k|k <;> subst k <;> simp
  obtain ⟨p,c,rfl,_⟩:=L.shape;obtain ⟨a,c2,rfl⟩:=y.len;refine ⟨w,?_,(Ext.refl w).rz _,rfl,λM' m=>?_⟩
  .have hl:∀a:Addr,(loadCells a 0).run P w= .ok #[] w:=λa=>run_loadCells_list (P:=P) w a [] (λj v hj=>by simp at hj);rw [s];cases a <;> cases p <;> simp [Builtin.copy_,run_underlying S,sizeOf,typeInfo,hi,Builtin.lenOf,Builtin.firstCells,s,hl,storeCells,goInt]
  .rw [hc];exact L.cK (λb hb=>rfl) m
 .have hx:xs≠[]:=λh=>k (.inl h);have Y:ys≠[]:=λh=>k (.inr h);obtain ⟨b,o,c,cur,rfl,rfl,U,r,G,C,K⟩:=L.row hx;rcases y with ⟨_,J⟩|⟨b2,off,I,H,e2,fr2,rfl,V,Q,hc2,Z,l⟩
  .exact absurd J Y
  have N:((H.toList.drop off).take (ys.length*A.n)).length=ys.length*A.n:=l.1;generalize O:(H.toList.drop off).take (ys.length*A.n)=g at l N;have F:Nat.min ys.length xs.length<=ys.length:=Nat.min_le_left _ _;have E:Nat.min ys.length xs.length<=xs.length:=Nat.min_le_right _ _;generalize s:Nat.min ys.length xs.length=n at F E;have X:n*A.n<=ys.length*A.n:=ed _ F;have W:n*A.n<=xs.length*A.n:=ed _ E;have m3:xs.length*A.n<=c*A.n:=ed _ r;have d:(g.take (n*A.n)).length=n*A.n:=by rw [b0];omega
  have x:cur.toList.length=cur.size:=ch;have T:=C.1;have run:=rv (P:=P) (w:=w) (ty:=ty) S B (b:=b) (o:=o) (dl:=xs.length) (dc:=c) (cur:=cur) (e':=e) (a:=⟨b2,off,none⟩) (ls:=ys.length) (sc:=I) (cs:=g.take (n*A.n))
   (by rw [d,s]) (cell_of_heap Q off _ (by rw [d,<-O,n7,c8 X])) U (by rw [d];omega) (λv hv=>l.AE v (List.mem_of_mem_take hv))
  refine ⟨_,by rw [run,s];rfl,uO b _,by simp,λM' m=>?_⟩;have hd:wQ xs ys=ys.take n++xs.drop n:=by
   unfold wQ;have q:min ys.length xs.length=n:=s;clear s;rcases Nat.le_total ys.length xs.length with h|h
   .rw [c8 h] at q;subst q;rw [hW h,hW (bb _)]
   .rw [si h] at q;subst q;rw [eF h,eF (bb _)]
  have f:(wQ xs ys).length=xs.length:=by rw [hd,b9,b0,cq];omega
  have key:=(((l.take n).mv m).append ((K.drop n).mv m));have D:=setRow_heap w b cur (cur.toList.take o++g.take (n*A.n)++cur.toList.drop (o+(g.take (n*A.n)).length)).toArray e (0,0) U;have hv:Value.slice (some ⟨b,o,none⟩) xs.length c=Value.slice (some ⟨b,o,none⟩) (wQ xs ys).length c:=by rw [f]
  rw [hv];refine bK.mk_ D (by rw [f];exact r) G ⟨?_,C.2⟩ ?_
  .simp only [mi,b9,b0,d,cq,x];omega
  .rw [f,hd];have e7:(cur.toList.take o).length=o:=by rw [b0];omega
   have e8:(cur.toList.take o++g.take (n*A.n)++cur.toList.drop (o+(g.take (n*A.n)).length)).drop o=g.take (n*A.n)++(cur.toList.drop o).drop (n*A.n):=by have:=List.drop_left (l₁:=cur.toList.take o) (l₂:=g.take (n*A.n)++cur.toList.drop (o+(g.take (n*A.n)).length));rw [e7,<-aO] at this;rw [this,d,mj]
   simp only [e8];have e1:((g.take (n*A.n))++(cur.toList.drop o).drop (n*A.n)).take (xs.length*A.n)=g.take (n*A.n)++((cur.toList.drop o).take (xs.length*A.n)).drop (n*A.n):=by rw [qQ,d,n7,si W,qc]
   rw [e1];exact key
theorem ait{x y:Operand}{t e:TypeId}{n m bytes:Nat}{z v:Value}{d:TypeDesc}{cs:w9}{i:Int}{k:IntKind}(j:P.underlying t=some (.array n e))(hd:P.underlying e=some d)(b:TI P e m bytes z)
  (hx:ar E g x (.agg cs.toArray)) (h:ar E g y (.int k i)) (p:0<=i) (o:i<(n:Nat)) (hv:(if jm d then some (.agg ((cs.drop (i.toNat*m)).take m).toArray) else cs[i.toNat*m]?)=some v):
  bg P E g ⟨dst,.index t x y,ty,pos,af,gd⟩ w v:=
 λn' a f c=>by have hp:=aaw (w:=w) hd b hv;obtain ⟨q,hi,l,_,_⟩:=b.out;simp [execOp,hx n' a f c,h n' a f c,Instr.index,asIntOf,run_underlying j,sizeOf,typeInfo,hi,l,p,o,hp]
theorem aen{x y h:Operand}{p:Addr}{len m bytes:Nat}{z:Value}{t e:TypeId}{k i:IntKind}(l:P.underlying t=some (.array len e))(b:TI P e m bytes z)(hx:ar E g x (.pointer (some p)))(j:ar E g y (.int k (len:Nat)))(n:ar E g h (.int i (len:Nat))):
  bg P E g ⟨dst,.slice t x none (some y) (some h),ty,pos,af,gd⟩ w (.slice (some p) len len):=
 λn' a f d=>by obtain ⟨o,c,q,_,_⟩:=b.out;simp [execOp,hx n' a f d,j n' a f d,n n' a f d,Instr.sliceAt,run_underlying l,Instr.sureAddr,Instr.sliceBounds,run_sliceBound,sizeOf,typeInfo,c,Addr.add]
theorem ag3{y:Operand}{t t' u:TypeId}{v:Value}(b:P.underlying t=some d)(hd:fK d=true)(hx:ar E g x (.iface u v))(a:ar E g y .nilIface):
  bg P E g ⟨dst,.binOp .neq t x y t',ty,pos,af,gd⟩ w (.bool true):=
 cw (P:=P) hx a (by
  rw [Sem.run_bind,dB rfl,Result.andThen_ok];have h:∀k:Nat,(Op.equalIn (k+1) t (.iface u v) .nilIface).run P w= .ok false w:=λk=>by cases d <;> first|(cases hd;done)|simp [Op.equalIn,run_underlying b]
  simp only [binOp];simp [Op.equal,Op.maxDepth,h 9999])
theorem ad2{t t':TypeId}(a:P.underlying t=some d)(hd:fK d=true)(hx:ar E g x .nilIface):
  bg P E g ⟨dst,.binOp .neq t x (.const .nilIface) t',ty,pos,af,gd⟩ w (.bool false):=
 cw (P:=P) hx (y:= .const .nilIface) (v:= .nilIface) (λ_ _ _ _=>rfl) (by
  have h:∀k:Nat,(Op.equalIn (k+1) t .nilIface .nilIface).run P w= .ok true w:=λk=>by cases d <;> first|(cases hd;done)|simp [Op.equalIn,run_underlying a]
  have b:(eqGuard .neq t x (.const .nilIface) .nilIface .nilIface).run P w= .ok () w:=by unfold eqGuard;simp
  rw [Sem.run_bind,b,Result.andThen_ok];simp only [binOp];simp [Op.equal,Op.maxDepth,h 9999])
theorem Reach.val{t:TypeId}{u:Value}{a:String}{f:FuncId}(h:LY P t a f false)(b:P.underlying t=some d)(hd:∀e,d≠ .pointer e):Reach P w t u a f u:=λk=>by obtain ⟨i,m,hi,c,hp,g⟩:=h.out;unfold method;simp only [typeInfo,hi,c,hp,g,follow,Sem.run_bind,Sem.run_pure,Result.andThen_ok,run_program];cases d <;> first|exact absurd rfl (hd _)|simp [receiverAt,run_underlying b,Place.get]
theorem aeU{n:Nat}{g:Bool}{f:FuncId}{r:Operand}{it t:TypeId}{d:TypeDesc}{u u':Value}{b:String}{vs:w9}{xs:wo}{tys:Array TypeId}{dst:xc}{gd:Option (Nat×Bool)}
  (m:Enters P f) (k:ar E g r (.func (.methodOf it b) #[] #[])) (e:P.underlying it=some d) (hd:fK d=true) (l:g=true->Reach P w t u b f u') (c:gG E g xs (.iface t u::vs)) {a:Act} (i:Fits n E a) (h:g=true):
  (execOp a.eval ⟨dst,.call ⟨.value r,xs.toArray,tys⟩,ty,pos,af,gd⟩).run P w= .ok (.enter f (u'::vs).toArray) w:=by
 have x:(Array.map a.eval xs.toArray)=(Value.iface t u::vs).toArray:=by simp [c.map i h]
 have o:=m (u'::vs).toArray w;have j:=l h (P.types.size+99);have v:P.types.size+99+1=P.types.size+Made.depth:=rfl;rw [v] at j;have s:((Value.iface t u::vs).toArray)[0]? =some (Value.iface t u):=by simp
 have q:((Value.iface t u::vs).toArray).extract 1 ((Value.iface t u::vs).toArray).size=vs.toArray:=by simp
 have p:(#[u']++vs.toArray)=(u'::vs).toArray:=by simp
 cases d <;> first|(cases hd;done)|skip;simp only [execOp,resolve,k n a i h,Deferred.ofValue,x,Sem.run_bind,Sem.run_pure,Result.andThen_ok];simp only [qY,invoke,s,q,Sem.run_bind,run_underlying e,Result.andThen_ok,callMethod,run_program,j,p,o]
end
def alU(X:Cx)(T:aB)(E F:aF)(g:GK):Op->CV
 | .index t x y=>(match X.P.underlying t with
  |some (.array n e)=>(match jS X.P e with
   |some z=>(match br T E F g x with
    |some (.agg cs)=>(match br T E F g y with
     |some (.int _ i)=>aA (decide (0<=i)&&decide (i<(n:Int))) (match jY X.P e (cs.drop (i.toNat*z.1)) with
      |some v=>pv v
      |none=>none) none
     |_=>none)
    |_=>none)
   |none=>none)
  |_=>none)
 | .binOp .neq t x (.const .nilIface) _=>(match X.P.underlying t with
  |some d=>aA (fK d) (match br T E F g x with
   |some (.ifc _ _)=>pv (.bool true)
   |some (.raw .nilIface)=>pv (.bool false)
   |_=>none) none
  |none=>none)
 | .makeFunc (.methodOf t nm) ⟨[]⟩ ⟨[]⟩=>pv (.raw (.func (.methodOf t nm) #[] #[]))
 |_=>none
section
variable {X : Cx} {ρ : ay} {T : aB} {E F : aF} {g : GK} {w : World} {dst : xc} {ty : TypeId} {pos : String} {af : x3} {gd : vb}
theorem amb{op:Op}(h:alU X T E F g op=some cv):lA X.P (au ρ T E F) ρ (T.get g) ⟨dst,op,ty,pos,af,gd⟩ w cv:=by
 unfold alU at h;split at h
 .rename_i t x y;split at h
  .rename_i n e l;split at h
   .rename_i z r;obtain ⟨m,bytes,z⟩:=z;split at h
    .rename_i cs hx;split at h
     .rename_i k i s;obtain ⟨f,b⟩:=aI h;simp only [ae,n5] at f;split at b
      .rename_i v hv;obtain ⟨d,n',q,C,c1,B,p⟩:=mm (ρ:=ρ) hv;have a:=aR (ρ:=ρ) hx;have j:=aR (ρ:=ρ) s;simp only [AV.val] at a j;have c:=cE r;refine .pv b (ait l c1 c a j f.1 f.2 ?_);cases hd:jm d
       .rw [hd] at p;exact p
       .rw [hd] at p;have o:=B hd;unfold TI at o c;rw [c] at o;simp only [b8,p0] at o;have A:m=n':=o.1;subst A;exact p
      .cases b
     .cases h
    .cases h
   .cases h
  .cases h
 .split at h
  .rename_i d l;obtain ⟨f,b⟩:=aI h;split at b
   next u v hx=>have a:=aR (ρ:=ρ) hx;simp only [AV.val] at a;exact .pv b (ag3 l f a (λ_ _ _ _=>rfl))
   next hx=>have a:=aR (ρ:=ρ) hx;simp only [AV.val] at a;exact .pv b (ad2 l f a)
   .cases b
  .cases h
 .exact .pv h (Ld (first:=[]) (cap:=[]) .nil .nil)
 .cases h
end
variable {P : Program} {e : TypeId}
def amv(X:Cx)(T:aB)(E F:aF)(g:GK):Op->CV
 | .binOp .eql t x y _=>(match X.P.underlying t with
  |some (.pointer _)=>(match br T E F g x with
   |some (.sfp _ f)=>(match br T E F g y with
    |some (.raw (.pointer none))=>pv (.bool (!f))
    |_=>none)
   |_=>none)
  |_=>none)
 | .binOp .neq t x y _=>(match X.P.underlying t with
  |some (.pointer e)=>(match jS X.P e with
   |some _=>(match br T E F g x with
    |some (.sfp j f)=>(match br T E F g y with
     |some (.ptr j' 0)=>aA (Nat.beq j j') (pv (.bool (!f))) none
     |_=>none)
    |_=>none)
   |none=>none)
  |_=>none)
 | .call ⟨.value (.func f),⟨[x]⟩,_⟩=>aA (se f X.ids) (match br T E F g x with
  |some v=>pv v
  |none=>none) none
 | .call ⟨.builtin .len,⟨[x]⟩,⟨[t]⟩⟩=>(match eT X.P t with
  |some _=>(match br T E F g x with
   |some (.bs _ n)=>pv (.int .i64 (n:Int))
   |_=>none)
  |none=>none)
 |_=>none
def amf(X:Cx)(T:aB)(E F:aF)(G H:List Row)(g:GK):Op->CV
 | .convert s d x=>(match br T E F g x with
  |some (.ptr j 0)=>(match dH G H (wO j) with
   |some (_,.box _ e' cs)=>(match X.P.underlying s with
    |some (.pointer e)=>(match X.P.underlying d with
     |some .unsafePointer=>(match jS X.P e with
      |some z=>aA (Nat.blt 0 z.1&&Nat.blt 0 cs.length) (pv (.ptr j 0)) none
      |none=>none)
     |_=>none)
    |some .unsafePointer=>(match X.P.underlying d with
     |some (.pointer e)=>(match jS X.P e with
      |some _=>aA (liesAt X.P X.P.depth e' (cs.length/X.P.cellsOf e') 0 e 1) (pv (.ptr j 0)) none
      |none=>none)
     |_=>none)
    |_=>none)
   |_=>none)
  |_=>none)
 |_=>none
def agL(X:Cx)(T:aB)(E F:aF)(g:GK)(op:Op):CV:=match akX X T E F g op with
 |some cv=>some cv
 |none=>(match alU X T E F g op with
  |some cv=>some cv
  |none=>amv X T E F g op)
def ahx(X:Cx)(T:aB)(E F:aF)(G H:List Row)(g:GK)(op:Op):CV:=match akZ X T E F G H g op with
 |some cv=>some cv
 |none=>amf X T E F G H g op
abbrev aph(xs ys:x6):x6:=xs++ys
def ag1{R:Type}(X:Cx)(T:aB)(fr:Fr)(st:aC)(d:Tmp)(t u:TypeId)(x y:Operand)(K:cB R):Option R:=match eT X.P t with
 |some e=>(match jS X.P e with
  |some (1,1,.int .u8 (.ofNat 0))=>aA (isStr X.P u) (match br T st.E fr.F none y with
   |some (.str s)=>(match br T st.E fr.F none x with
    |some (.sl id)=>(match dH st.G fr.H (lz id) with
     |some (.top j,.own _ u' e' xs _)=>aA (Nat.beq e e') (match pQ.bZ.asL (.i .u8) ⟨.l u',xs⟩ with
      |some xs=>aH (aG (List.length xs+s.length) 1) (K { st with c:=st.c+1,E:=cu (some d) none (.sl st.c) st.E,G:=st.G.set j (.own st.c (.i .u8) e (aph xs (ba s)) st.c) })
      |none=>none) none
     |_=>none)
    |some (.raw (.slice none 0 0))=>aH (aG (([]:x6).length+s.length) 1) (K { st with c:=st.c+1,E:=cu (some d) none (.sl st.c) st.E,G:= .own st.c (.i .u8) e (([]:x6)++ba s) st.c::st.G })
    |_=>none)
   |_=>none) none
  |_=>none)
 |none=>none
section
variable {X : Cx} {T : aB} {E F : aF} {G H : List Row} {g : GK} {ρ : ay} {w : World} {dst : xc} {ty : TypeId} {pos : String} {af : x3} {gd : vb} {Φ : Ctx}
theorem amU{op:Op}(h:amv X T E F g op=some cv):lA X.P (au ρ T E F) ρ (T.get g) ⟨dst,op,ty,pos,af,gd⟩ w cv:=by
 unfold amv at h;split at h
 .rename_i t x y s;split at h
  .rename_i e i;split at h
   .rename_i j f hx;split at h
    next d=>have b:=aR (ρ:=ρ) hx;have a:=aR (ρ:=ρ) d;simp only [AV.val] at b a;exact .pv h (aiw i b a)
    .cases h
   .cases h
  .cases h
 .rename_i t x y s;split at h
  .rename_i e i;split at h
   .rename_i z l;obtain ⟨n,bytes,z⟩:=z;split at h
    .rename_i j f hx;split at h
     next p d=>obtain ⟨k,c⟩:=aI h;have:=ah k;subst this;have b:=aR (ρ:=ρ) hx;have a:=aR (ρ:=ρ) d;simp only [AV.val] at b a;exact .pv c (agr i (cE l) b a)
     .cases h
    .cases h
   .cases h
  .cases h
 .rename_i f x tys;obtain ⟨k,c⟩:=aI h;split at c
  next v hx=>exact .pv c (alR (X.idsOk f (ab4.1 k)) (aR (ρ:=ρ) hx))
  .cases c
 .split at h
  .rename_i e o;split at h
   next id m hx=>exact .pv h (Dr (bV o) (aR (ρ:=ρ) hx) ⟨_,_,rfl⟩)
   .cases h
  .cases h
 .cases h
theorem akB{op:Op}(o:Sat (ab ρ T G++(ab ρ T H++Φ)) w)(h:amf X T E F G H g op=some cv):lA X.P (au ρ T E F) ρ (T.get g) ⟨dst,op,ty,pos,af,gd⟩ w cv:=by
 unfold amf at h;split at h
 .rename_i s d x;split at h
  .rename_i j hx;split at h
   .rename_i t m e' cs p;obtain ⟨r,q⟩:=bW p;have:m=j:=ah q;subst this;have hb:eM w (ρ m).b e' (AV.ao ρ cs):=Src.holds o r;have a:=aR (ρ:=ρ) hx;simp only [AV.val] at a;split at h
    .rename_i e c;split at h
     .rename_i f;split at h
      next z k=>obtain ⟨n,bytes,z⟩:=z;obtain ⟨i,l⟩:=aI h;simp only [ae] at i;refine .pv l ?_;simp only [AV.val];exact adz c f (cE k) i.1 a hb (by rw [AV.bm];exact i.2)
      .cases h
     .cases h
    .rename_i c;split at h
     .rename_i e f;split at h
      next z k=>obtain ⟨n,bytes,z⟩:=z;obtain ⟨i,l⟩:=aI h;refine .pv l ?_;simp only [AV.val];exact Wh c f (cE k) a hb (by rw [AV.bm];exact i)
      .cases h
     .cases h
    .cases h
   .cases h
  .cases h
 .cases h
theorem abP{op:Op}(c:eK T E F)(h:agL X T E F g op=some cv):lA X.P (au ρ T E F) ρ (T.get g) ⟨dst,op,ty,pos,af,gd⟩ w cv:=by
 unfold agL at h;split at h
 next b a=>cases h;exact amx c a
 .split at h
  next b a=>cases h;exact amb a
  .exact amU h
theorem abN{op:Op}(b:Sat (ab ρ T G++(ab ρ T H++Φ)) w)(h:ahx X T E F G H g op=some cv):lA X.P (au ρ T E F) ρ (T.get g) ⟨dst,op,ty,pos,af,gd⟩ w cv:=by
 unfold ahx at h;split at h
 next c a=>cases h;exact ams b a
 .exact akB b h
end
section
variable {X : Cx} {R : Type} {r : R} {K : cB R} {T : aB} {fr : Fr} {st : aC} {d : Tmp} {ρ : ay} {Φ : Ctx} {w : World} {ty : TypeId} {pos : String} {af : x3} {gd : vb}
theorem Mh{E:Env}{M:Nat->Prop}{v:Value}{y:Operand}{t u:TypeId}{R:x8}{xs:x6}{s:aE}(o:P.underlying t=some (.slice e))(n:P.underlying u=some .string)(h:TI P e 1 1 (.int .u8 0))(hx:ar E true x v)(k:ar E true y (S s))
  (j:bK (RI .u8) e M w v xs R) (z:∀b∈R,M b) (c:aG (xs.length+s.length) 1=true):
  ∃f R' w',kM P E ⟨some d,.call ⟨.builtin .append,#[x,y],#[t,u]⟩,ty,pos,af,gd⟩ w f w'/\js R w w'/\(∀b∈R',b<w'.heap.size/\(b∈R\/w.heap.size<=b))/\∀M',Mv M w M' w'->bK (RI .u8) e M' w' f (xs++ba s) R':=by
 rcases j with ⟨rfl,q⟩|⟨rfl,rfl,⟨a0,rfl⟩,l⟩
 .obtain ⟨f,w',i,B,r,j⟩:=uH t u ty e o n h q z c;exact ⟨f,dv f,w',(λn' a g=>by simp [execOp,resolve,invoke,builtin,hx n' a g rfl,k n' a g rfl,i]),B,r,λM' m=>bK.of (j M' m)⟩
 .rcases yE (M:=M) (w:=w) t u ty e o n h (a0:=a0) (s:=s) (by simpa using c) with ⟨i,rfl⟩|⟨f,w',i,A,p,j⟩
  .exact ⟨.slice a0 0 0,[],w,(λn' a g=>by simp [execOp,resolve,invoke,builtin,hx n' a g rfl,k n' a g rfl,i]),(Ext.refl w).rz _,(λb hb=>by cases hb),λM' m=>by simpa [ba] using bK.empty (e:=e) (l.mv m)⟩
  .exact ⟨f,dv f,w',(λn' a g=>by simp [execOp,resolve,invoke,builtin,hx n' a g rfl,k n' a g rfl,i]),A.rz _,(λb hb=>⟨(p b hb).1,.inr (p b hb).2⟩),λM' m=>bK.of (by simpa using j M' m)⟩
theorem alk{t u:TypeId}{y:Operand}(Q:st.low fr=true)(N:Sat (ab ρ T st.G++(ab ρ T fr.H++Φ)) w)(h:ag1 X T fr st d t u x y K=some r):
  iN X.P T none (au ρ T st.E fr.F) ⟨some d,.call ⟨.builtin .append,#[x,y],#[t,u]⟩,ty,pos,af,gd⟩ w (aV r K T fr st none (some d) ρ Φ):=by
 have B:=(aC.cC.1 Q).2.2.1;unfold ag1 at h;split at h
 .rename_i e Y;split at h
  .rename_i hz;have z:TI X.P e 1 1 (.int .u8 0):=cE hz;obtain ⟨hu,h⟩:=aI h;have q:=oQ hu;split at h
   .rename_i s hy;have n:=bE (ρ:=ρ) hy;simp only [AV.val] at n;split at h
    .rename_i id hx;have g:=bE (ρ:=ρ) hx;simp only [AV.val] at g;split at h
     .rename_i j J u' e' C ver hf;obtain ⟨h3,V⟩:=aI h;have:=ah h3;subst this;split at V
      .rename_i xs L;obtain ⟨eu,ex⟩:=oH L;subst eu;simp only at ex;subst ex;obtain ⟨U,S⟩:=ek V;obtain ⟨f1,f2⟩:=bW hf;have:J=id:=ah f2;subst this;have hi:=fi (ρ:=ρ) (T:=T) (Φ:=ab ρ T fr.H++Φ) f1;obtain ⟨hO,_⟩:=N.at_ hi;obtain ⟨D,R',w',O,k,R,A⟩:=Mh (P:=X.P) (E:=au ρ T st.E fr.F) (w:=w) (d:=d) (ty:=ty) (pos:=pos) (af:=af) (gd:=none) (bV Y) q z g n hO (λb hb=>Ctx.iH hi hb) U;have I:Mv (Ctx.M (ab ρ T st.G++(ab ρ T fr.H++Φ))) w (Ctx.M (ab ρ T st.G++(ab ρ T fr.H++Φ))) w':=⟨k.size,λb hb W=>⟨W,k.block b hb (λhc=>W (Ctx.iH hi hc))⟩⟩;have f:=A _ I;have hv:∃p:fA,D=sl p:=by obtain ⟨a,cap,hv⟩:=f.len;exact ⟨(a,_,cap),hv⟩
       obtain ⟨p,rfl⟩:=hv;have hj:j<st.G.length:=(List.getElem?_eq_some_iff.1 f1).1;refine .none_ (bF.gd (bF.mC O (aV.new (ρ':=ρ.set st.c { cM with v:=p,y:=⟨.l (.i .u8),aph C (ba s)⟩ }) Q S ay.aZ (gy _) rfl (by simp only [AV.val,ay.bB]) ?_)));show Sat (ab _ T (st.G.set j _)++_) _;rw [eU hj,bf ay.aZ B];refine N.nd hi k (λb hb=>?_) (λM' m _=>?_)
       .simp only [Row.item,ay.bB] at hb;exact R b (f.canon.1 b hb)
       .simp only [Row.item,ay.bB];exact ⟨f.canon.2 _ _ (A M' m),trivial⟩
      .cases V
     .cases h
    .rename_i hx;have g:=bE (ρ:=ρ) hx;simp only [AV.val] at g;obtain ⟨U,S⟩:=ek h;obtain ⟨D,R',w',O,k,R,A⟩:=Mh (P:=X.P) (E:=au ρ T st.E fr.F) (w:=w) (d:=d) (ty:=ty) (pos:=pos) (af:=af) (gd:=none) (M:=Ctx.M (ab ρ T st.G++(ab ρ T fr.H++Φ))) (xs:=([]:x6)) (bV Y) q z g n bK.nil (λb hb=>by cases hb) U;have Z:Ext w w':=⟨k.os,k.tape,k.output,k.size,λb hb=>k.block b hb (λh=>by cases h)⟩;have f:=A _ (Z.mv _);have hv:∃p:fA,D=sl p:=by obtain ⟨a,cap,hv⟩:=f.len;exact ⟨(a,_,cap),hv⟩
     obtain ⟨p,rfl⟩:=hv;refine .none_ (bF.gd (bF.mC O ?_));exact wC (d:=d) (t:= .i .u8) (e:=e) (p:=p) Q B N Z (λb hb=>by
      obtain ⟨q1,o⟩:=R b (f.canon.1 b hb);rcases o with o|o
      .cases o
      .exact ⟨q1,o⟩) (λM' m=>f.canon.2 _ _ (A M' m)) rfl S
    .cases h
   .cases h
  .cases h
 .cases h
def aam{R:Type}(T:aB)(fr:Fr)(st:aC)(d:Tmp)(x:Operand)(K:cB R):Option R:=match br T st.E fr.F none x with
 |some (.sl id)=>(match dH st.G fr.H (lz id) with
  |some (_,.own _ t _ l ver)=>aqq T none st d id ver t l 0 K
  |_=>none)
 |_=>none
def ag7{R:Type}(X:Cx)(T:aB)(fr:Fr)(st:aC)(d:Tmp)(pt:TypeId)(x y:Operand)(K:cB R):Option R:=match X.P.underlying pt with
 |some (.pointer e)=>aA (Nat.beq (X.P.cellsOf e) 1) (match br T st.E fr.F none x with
  |some (.adr q 0)=>(match br T st.E fr.F none y with
   |some (.int .i64 m)=>(match dH st.G fr.H (Qs q) with
    |some (_,.kn none _ id ver _ i _)=>(match dH st.G fr.H (lz id) with
     |some (.top j,.own _ u e' xs ver')=>aA (Nat.beq ver ver'&&Nat.beq e e') (match pQ.bZ.asL (.i .u8) ⟨.l u,xs⟩ with
      |some xs=>aH (decide (i=0)&&decide (m=(List.length xs:Int))) (K { st with E:=cu (some d) none (.str (strOf xs)) st.E,G:=st.G.set j (.sli none id (.i .u8) xs false) })
      |none=>none) none
     |_=>none)
    |_=>none)
   |_=>none)
  |_=>none) none
 |_=>none
theorem bK.ajS{α:Type}{A:dD α}{M:Nat->Prop}{w:World}{v:Value}{xs:List α}{R:x8}(h:bK A e M w v xs R)(a:xs≠[]):Roomy v:=by
 rcases h with ⟨_,cells,c,_⟩|⟨_,rfl,_⟩
 .rcases c.2 with ⟨_,b⟩|⟨g,off,cap,cur,rfl,_,hc,_⟩
  .exact absurd (cp b) a
  .obtain ⟨k,rfl⟩:∃k,cap=k+1:=⟨cap-1,by have:=List.length_pos_iff.2 a;omega⟩;exact ⟨g,off,_,k,rfl⟩
 .exact absurd rfl a
theorem YE{v:fA}{n:Nat}(h:Roomy (sl v)):v.1=some (pH (sl v) 0 n):=by obtain ⟨b,off,len,cap,e⟩:=h;obtain ⟨d,c,a⟩:=v;simp only [sl,Value.slice.injEq] at e;obtain ⟨rfl,rfl,rfl⟩:=e;simp [sl,pH,Addr.add]
theorem ai4{α:Type}{l:List α}{i:Int}{x:α}(h:idx l i=some x):l≠[]:=λe=>by subst e;unfold idx at h;split at h <;> cases h
theorem aaA{z:Array TypeId}(q:st.low fr=true)(u:Sat (ab ρ T st.G++(ab ρ T fr.H++Φ)) w)(h:aam T fr st d x K=some r):
  KH X.P T none (au ρ T st.E fr.F) ⟨some d,.call ⟨.builtin .unsafeSliceData,#[x],z⟩,ty,pos,af,gd⟩ w (aV r K T fr st none (some d) ρ Φ):=by
 unfold aam at h;split at h
 .rename_i id hx;have i:=bE (ρ:=ρ) hx;simp only [AV.val] at i;split at h
  .rename_i s b t e' l f A;obtain ⟨m,C⟩:=bW A;have:b=id:=ah C;subst this;obtain ⟨I,o,D⟩:=Ag h;have o:=o aB.get_none;obtain ⟨B,p⟩:=Src.holds u m;have e:b<st.c/\f<st.c:=by
    have:(Row.own b t e' l f).low st.c=true:=by
     cases s with
     |top j=>exact pz (aC.cC.1 q).2.2.1 m
     |cm j=>exact pz (aC.cC.1 q).2.2.2 m
     |_=>exact m.elim
    simpa only [Row.low,ae,e9] using this
   have y:=B.ajS (ai4 o);have k:aV r K T fr st none (some d) ρ Φ (.pointer (some (pH (sl (ρ b).v) 0 t.rep.n))) w:=by refine aV.push (x:={ cM with a:=pH (sl (ρ b).v) 0 t.rep.n }) q D (by simp only [AV.val,ay.bB];simp [Addr.add]) (u.add rfl ?_);intro J;rw [ay.aZ _ e.1,ay.aZ _ e.2,ay.bB];exact ⟨l,p,o,rfl⟩
   refine ⟨_,λw'=>?_,k⟩;rw [<-YE y];rw [aB.get_none];exact ajJ (g:=true) i (λ_=>y)
  .cases h
 .cases h
theorem agj(hc:P.cellsOf e=1)(a off n:Nat)(b:off+n<=a):liesAt P P.depth e a off e n=true:=by have hd:P.depth=(2*(P.types.size+Made.depth)+1)+1:=rfl;rw [hd];simp only [liesAt,c5];left;rw [hd];simp [rowAt,hc,b,sameLayout,Nat.mod_one]
theorem amn{E:Env}{v:fA}{y:Operand}{z it:TypeId}{M:Nat->Prop}{R:x8}{xs:x6}(Z:bK (RI .u8) e M w (sl v) xs R)(hp:P.underlying z=some (.pointer e))(hc:P.cellsOf e=1)
  (hx:ar E true x (.pointer v.1)) (U:ar E true y (.int .i64 (xs.length:Int))) (Q:xs≠[]):
  ∃w',kM P E ⟨some d,.call ⟨.builtin .unsafeString,#[x,y],#[z,it]⟩,ty,pos,af,gd⟩ w (S (strOf xs)) w'/\js R w w'/\∀M',Mv M w M' w'->(∀b∈R,¬M' b)->bQ (RI .u8) M' w' (sl v) xs:=by
 have f:xs.length≠0:=λe=>Q (cp e);rcases Z with ⟨Y,cells,⟨h1,h2⟩,J⟩|⟨_,rfl,_⟩
 .rcases h2 with ⟨_,T⟩|⟨g,off,cap,cur,O,F,s,X,r,k⟩
  .exact absurd T f
  .obtain ⟨v1,v2,I⟩:=v;simp only [sl,Value.slice.injEq] at O;obtain ⟨rfl,rfl,rfl⟩:=O;have B:(RI .u8).n=1:=rfl;have N:off+I=cur.size:=by simpa [B] using r.1
   have A:w.shape? g=some (e,cur.size):=by unfold World.shape?;rw [F]
   have i:∀(j:Nat) (a:Int),xs[j]? =some a->w.cell? ((⟨g,off,none⟩:Addr).add j)=some (.int .u8 a):=λj a K=>by
    have D:=(List.getElem?_eq_some_iff.1 K).1;have hA:=J.2 j D;have ha:xs[j]=a:=(List.getElem?_eq_some_iff.1 K).2;have G:cells[j]? =some (.int .u8 a):=by
     have e1:(cells.drop (j*1)).take 1=[.int .u8 a]:=by rw [<-ha];exact hA
     have e2:=congrArg (λl=>l[0]?) e1;simpa using e2
    exact (DY F k).cell G
   have W:xs.length<=9223372036854775807:=by unfold maxLen at X;omega
   have o:(Builtin.unsafeString_ #[z,it] ty #[.pointer (some ⟨g,off,none⟩),.int .i64 xs.length]).run P w= .ok (S (strOf xs)) (w.freeze ⟨g,off,none⟩ xs.length):=by
    have C:=FD (P:=P) (w:=w) xs ⟨g,off,none⟩ .empty i;have h:=agj (P:=P) hc (cur.size/P.cellsOf e) off xs.length (by rw [hc,Nat.div_one];omega);have u:¬(9223372036854775807:Int)<(xs.length:Int):=by omega
    have q:i64.max=9223372036854775807:=rfl;have p:¬(xs.length:Int)<0:=by omega
    refine (Sem.run_bind (P:=P) (w:=w) (asInt (.int .i64 xs.length)) _).trans ?_;simp [asInt,asIntOf,q,u,p,f,variablesAt,A,elemOf,run_underlying hp,h,C,S]
   have V:(w.freeze ⟨g,off,none⟩ xs.length).heap[g]? =some (.cells cur e (off,off+xs.length)):=by unfold World.freeze;rw [j0 f];simp [sj,F]
   have t:R=[g]:=by rw [Y];simp [dv,Value.ownBlock,sl]
   refine ⟨w.freeze ⟨g,off,none⟩ xs.length,λn' a L=>by simp [execOp,resolve,invoke,builtin,hx n' a L rfl,U n' a L rfl,o],?_,λM' m hb=>?_⟩
   .rw [t];unfold World.freeze;rw [j0 f];refine ⟨rfl,rfl,rfl,by simp,λc _ H=>?_⟩;have:g≠c:=λe=>H (by simp [e]);simp [sj,this]
   .refine .inr ⟨g,off,I,cur,e,_,rfl,hb g (by rw [t];simp),V,s,Nat.le_of_eq r.1,?_⟩;rw [k];exact J.mv m
 .exact absurd rfl Q
theorem alO{y:Operand}{D it:TypeId}(_hl:st.low fr=true)(s:Sat (ab ρ T st.G++(ab ρ T fr.H++Φ)) w)(h:ag7 X T fr st d D x y K=some r):
  iN X.P T none (au ρ T st.E fr.F) ⟨some d,.call ⟨.builtin .unsafeString,#[x,y],#[D,it]⟩,ty,pos,af,gd⟩ w (aV r K T fr st none (some d) ρ Φ):=by
 unfold ag7 at h;split at h
 .rename_i e hp;obtain ⟨hc,h⟩:=aI h;have hc:=ah hc;split at h
  .rename_i q hx;have f:=bE (ρ:=ρ) hx;simp only [AV.val] at f;split at h
   .rename_i m O;have c:=bE (ρ:=ρ) O;simp only [AV.val] at c;split at h
    .rename_i s1 q' id N u1 i xe t;obtain ⟨f1,f2⟩:=bW t;have:q'=q:=ah f2;subst this;have V:=Src.holds s f1;split at h
     .rename_i j a u e' M C S;obtain ⟨L,Z⟩:=bW S;have:a=id:=ah Z;subst this;obtain ⟨B,A⟩:=aI h;simp only [ae] at B;have e1:=ah B.1;have e2:=ah B.2;subst e1;subst e2;split at A
      .rename_i xs o;obtain ⟨eu,ex⟩:=oH o;subst eu;subst ex;obtain ⟨J,Y⟩:=ek A;simp only [ae,n5] at J;obtain ⟨rfl,rfl⟩:=J;have hi:=fi (ρ:=ρ) (T:=T) (Φ:=ab ρ T fr.H++Φ) L;obtain ⟨I,l⟩:=s.at_ hi;obtain ⟨l0,b1,b2,b3⟩:=V aB.get_none;obtain ⟨e4,e5⟩:=No b1 l;cases e4;cases e5;have k:=ai4 b2;have Q:=I.ajS k;have p:ar (au ρ T st.E fr.F) true x (.pointer (ρ a).v.1):=by rw [YE (n:=(Ty.i .u8).rep.n) Q,<-b3];simpa [Addr.add] using f
       obtain ⟨w',g,W,U⟩:=amn (P:=X.P) (d:=d) (ty:=ty) (pos:=pos) (af:=af) (gd:=gd) (it:=it) I hp hc p c k;have R:j<st.G.length:=(List.getElem?_eq_some_iff.1 L).1;refine .none_ (bF.gd (bF.mC g (aV.iu Y (bb _) rfl rfl ?_)));show Sat (ab _ T (st.G.set j _)++_) _;rw [eU R];exact s.nd hi W (λb hb=>by cases hb) (λM' m hb _=>⟨U M' m (λb z=>hb b z (λh=>by cases h)),λh=>by cases h⟩)
      .cases A
     .cases h
    .cases h
   .cases h
  .cases h
 .cases h
def agG{R:Type}(X:Cx)(T:aB)(fr:Fr)(st:aC)(g:GK)(d:Tmp)(t:TypeId)(x:Operand)(K:cB R):Option R:=match eT X.P t with
 |some _=>(match br T st.E fr.F g x with
  |some (.sl id)=>(match Yt st.G fr.H id with
   |some s=>aA (T.imp g s.g) (K { st with E:=cu (some d) g (.int .i64 (s.l.length:Int)) st.E }) none
   |none=>none)
  |_=>none)
 |none=>none
theorem alJ{g:GK}{t:TypeId}(c:Sat (ab ρ T st.G++(ab ρ T fr.H++Φ)) w)(h:agG X T fr st g d t x K=some r):
  KH X.P T g (au ρ T st.E fr.F) ⟨some d,.call ⟨.builtin .len,#[x],#[t]⟩,ty,pos,af,gd⟩ w (aV r K T fr st g (some d) ρ Φ):=by
 unfold agG at h;split at h
 .rename_i e i;split at h
  .rename_i id hx;have a:=aR (ρ:=ρ) hx;simp only [AV.val] at a;split at h
   next s b=>obtain ⟨k,j⟩:=aI h;exact ⟨_,λw'=>mz (bV i) a (λf=>WX c b (aB.jy k f)),aV.iu j (bb _) rfl rfl c⟩
   .cases h
  .cases h
 .cases h
end
end
end Go.Proofs.YtkedhpmpejhekaaGreatDoor
