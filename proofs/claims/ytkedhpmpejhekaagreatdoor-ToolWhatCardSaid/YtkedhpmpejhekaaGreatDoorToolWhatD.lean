/- Own texts for ToolWhat, cut and joined by a program. -/
import Derived.Test.YtkedhpmpejhekaaGreatDoorToolWhatC
set_option linter.all false
namespace Go.Proofs.YtkedhpmpejhekaaGreatDoor
noncomputable section
variable {d : Tmp} {x : Operand}
open Go.Lib
abbrev gone{R:Type}(g:GK)(k:Option R):Option R:=match g with
 |none=>k
 |some _=>none
theorem cL{R:Type}{r:R}{g:GK}{k:Option R}(h:gone g k=some r):g=none/\k=some r:=by
 cases g with
 |none=>exact ⟨rfl,h⟩
 |some _=>cases h
def af3{R:Type}(X:Cx)(T:aA)(fr:Fr)(st:aB)(d:w4)(t:TypeId)(x y:Operand)(K:cB R):Option R:=match eP X.P t with
 |some e=>(match yz X.tys e with
  |some u=>(match jD X.P e with
   |some z=>(match bq T st.E fr.F none x with
    |some (.sl id)=>(match bq T st.E fr.F none y with
     |some b=>ay (Nat.beq z.1 u.n') (match pU (cn b.dY st.G) fr.H u b with
      |some ys=>(match dF (cn b.dY st.G) fr.H (lv id) with
       |some (.top j,.own _ u' e' xs _)=>ay (Nat.beq e e') (match pU.bX.asL u ⟨.l u',xs⟩ with
        |some xs=>K { st with c:=st.c+1,E:=cr d none (.int .i64 ((Nat.min ys.length xs.length:Nat):Int)) st.E,G:=(cn b.dY st.G).set j (.own id u e (wh xs ys) st.c) }
        |none=>none) none
       |_=>none)
      |none=>none) none
     |none=>none)
    |_=>none)
   |none=>none)
  |none=>none)
 |none=>none
def inO(n d:Nat):List (Nat×Nat)->Bool
 |[]=>false
 |x::l=>(Nat.beq x.1 n&&Nat.beq x.2 d)||inO n d l
def agr{R:Type}(X:Cx)(T:aA)(fr:Fr)(st:aB)(d:Tmp)(t:TypeId)(x:Operand)(lo hi:Option Operand)(K:cB R):Option R:=match eP X.P t with
 |some e=>(match jD X.P e with
  |some z=>(match bq T st.E fr.F none x with
   |some (.sl id)=>(match loA T st.E fr.F none lo with
    |some i=>(match hiA T st.E fr.F none hi with
     |some j=>(match dF st.G fr.H (lv id) with
      |some (.top k,.own _ u e' xs _)=>ay (Nat.beq z.1 u.n') (match lo,hi with
       |none,_=>aI (dn 0 (j.getD (xs.length:Int)) xs.length) (K { st with c:=st.c+1,E:=cr (some d) none (.sl st.c) st.E,G:=st.G.set k (.own st.c u e' (bC xs 0 (j.getD (xs.length:Int))) st.c) })
       |some _,none=>ay (Nat.beq z.1 1) (aI (dn i (xs.length:Int) xs.length) (K { st with c:=st.c+1,E:=cr (some d) none (.sl st.c) st.E,G:=st.G.set k (.own st.c u e' (bC xs i (xs.length:Int)) st.c) })) none
       |_,_=>none) none
      |_=>none)
     |none=>none)
    |none=>none)
   |_=>none)
  |none=>none)
 |none=>none
def ak2{R:Type}(X:Cx)(T:aA)(fr:Fr)(st:aB)(d:Tmp)(t:TypeId)(x:Operand)(lo hi mx:Option Operand)(K:cB R):Option R:=match lo,hi,mx with
 |none,some y,some y3=>(match X.P.underlying t with
  |some (.array n e)=>(match yz X.tys e with
   |some u=>(match jD X.P e with
    |some z=>(match bq T st.E fr.F none x with
     |some (.ptr id 0)=>(match bq T st.E fr.F none y with
      |some (.int _ h)=>(match bq T st.E fr.F none y3 with
       |some (.int _ m)=>(match lQ (wg id) st.G with
        |some (j,.box _ _ cs)=>ay ((h==(n:Int))&&(m==(n:Int))&&Nat.beq z.1 u.n') (match rdL st.G fr.H u n cs with
         |some xs=>K { st with c:=st.c+1,E:=cr (some d) none (.sl st.c) st.E,G:=st.G.set j (.sli none st.c u xs true) }
         |none=>none) none
        |_=>none)
       |_=>none)
      |_=>none)
     |_=>none)
    |none=>none)
   |none=>none)
  |_=>none)
 |_,_,_=>none
def aga(X:Cx)(T:aA)(fr:Fr)(st:aB)(d:Tmp)(t:TypeId)(x y:Operand){R:Type}(K:cB R):Option R:=match X.P.underlying t with
 |some (.array n e)=>(match jD X.P e with
  |some z=>(match bq T st.E fr.F none x with
   |some (.adr id off)=>(match bq T st.E fr.F none y with
    |some (.int _ i)=>Vr i z.1 (λk=>K { st with E:=cr (some d) none (.adr id (off+k)) st.E }) n 0
    |_=>none)
   |some (.ptr id off)=>(match bq T st.E fr.F none y with
    |some (.int _ i)=>Vr i z.1 (λk=>K { st with E:=cr (some d) none (.ptr id (off+k)) st.E }) n 0
    |_=>none)
   |_=>none)
  |none=>none)
 |_=>none
def aoo(P:Program)(t:TypeId):Bool:=match P.underlying t with
 |some (.func ..)=>true
 |_=>false
def af9{R:Type}(X:Cx)(T:aA)(fr:Fr)(st:aB)(d:Tmp)(t:TypeId)(len:Nat)(ps:List (Nat×Operand))(K:cB R):Option R:=match eP X.P t with
 |some e=>(match jD X.P e with
  |some z=>(match od T st.E fr.F none (ps.map (·.2)) with
   |some vs=>(match yF (λi=>some (i*z.1,z.1)) ((ps.map (·.1)).zip vs) (WT len (z.2.2.cells.toList.map iO)) with
    |some cs=>ay (aoo X.P e&&Nat.beq z.2.2.cells.size z.1&&Nat.blt 0 (len*z.1)&&Nat.ble (len*z.1) 16777216&&AV.bV st.c cs) (K { st with c:=st.c+1,E:=cr (some d) none (.bs st.c len) st.E,G:= .box st.c e cs::st.G }) none
    |none=>none)
   |none=>none)
  |none=>none)
 |none=>none
def akf{R:Type}(X:Cx)(T:aA)(fr:Fr)(st:aB)(d:Tmp)(t:TypeId)(x y:Operand)(K:cB R):Option R:=match eP X.P t with
 |some e=>(match jD X.P e with
  |some z=>(match bq T st.E fr.F none x with
   |some (.bs id n)=>(match bq T st.E fr.F none y with
    |some (.int _ i)=>Vr i z.1 (λk=>K { st with E:=cr (some d) none (.ptr id k) st.E }) n 0
    |_=>none)
   |_=>none)
  |none=>none)
 |none=>none
def agJ(P:Program)(t:TypeId)(nm:String):Option (FuncId×Bool):=match P.info? t with
 |some i=>(match i.methods.find? (·.name==nm) with
  |some m=>(match m.path.toList with
   |[]=>m.func
   |_=>none)
  |none=>none)
 |none=>none
def aoh:TypeDesc->Bool
 | .pointer _=>true
 |_=>false
def G0(X:Cx)(T:aA)(fr:Fr)(st:aB)(g:GK)(t:TypeId)(u:AV)(nm:String):Option (FuncId×AV):=match agJ X.P t nm with
 |some (f,true)=>(match X.P.underlying t with
  |some (.pointer _)=>some (f,u)
  |_=>none)
 |some (f,false)=>(match X.P.underlying t with
  |some (.pointer e)=>(match wG T st.G fr.H g u with
   |some cs=>(match jG X.P e cs with
    |some v=>some (f,v)
    |none=>none)
   |none=>none)
  |some d=>ay (aoh d) none (some (f,u))
  |none=>none)
 |none=>none
def Zz:List Xe->FuncId->Option Xe
 |[],_=>none
 |i::l,f=>match Nat.beq i.f f with
  |true=>some i
  |false=>Zz l f
def akQ{R:Type}(X:Cx)(T:aA)(fr:Fr)(st:aB)(g:GK)(d:w4)(f:FuncId)(args:List AV)(K:cB R)(els:Option R):Option R:=match Zz X.inl f with
 |none=>els
 |some i=>(match T with
  |[]=>gone g (i.run args fr.H st (λav st'=>K { st' with E:=cr d none av st.E,h:=st.h }))
  |_::_=>none)
def byT{R:Type}(k:TypeId->Option R)(t:TypeId):List TypeId->Option R
 |[]=>none
 |c::cs=>cond (Nat.beq t c) (k c) (byT k t cs)
section
variable {X : Cx} {R : Type} {r : R} {K : cB R} {T : aA} {fr : Fr} {st : aB} {g : GK} {ρ : ax} {Φ : Ctx} {w : World} {ty : TypeId} {pos : String} {af : xa} {gd : ti}
theorem aca:{l:List Xe}->{f:FuncId}->{i:Xe}->Zz l f=some i->i∈l/\i.f=f
 |[],_,_,h=>by cases h
 |j::l,f,i,h=>by
  unfold Zz at h;split at h
  next c=>cases h;exact ⟨bY .., ah c⟩
  .obtain ⟨b,a⟩:=aca h;exact ⟨aW _ b,a⟩
theorem anb{d:w4}{op:Op}{f:FuncId}{args:List AV}{c:Option R}(k:st.low fr=true)(t:Sat (ab ρ T st.G++(ab ρ T fr.H++Φ)) w)
  (e:Enters X.P f->T.get g=true->∀n a,Fits n (au ρ T st.E fr.F) a->(execOp a.eval ⟨d,op,ty,pos,af,gd⟩).run X.P w= .ok (.enter f (AV.ao ρ args).toArray) w) (h:akQ X T fr st g d f args K c=some r) (b:c=some r->iy X.P T g (au ρ T st.E fr.F) ⟨d,op,ty,pos,af,gd⟩ w (aV r K T fr st g d ρ Φ)):
  iy X.P T g (au ρ T st.E fr.F) ⟨d,op,ty,pos,af,gd⟩ w (aV r K T fr st g d ρ Φ):=by
 unfold akQ at h;split at h
 .exact b h
 .rename_i i hi;obtain ⟨s,q⟩:=aca hi;subst q;obtain ⟨A,z⟩:=X.inlOk i s;split at h
  .obtain ⟨rfl,x⟩:=cL h;refine .none_ (λn a u=> .inr (.inr ⟨i.f,AV.ao ρ args,e A aA.get_none n a u,(z r args fr.H st _ ρ Φ w t x).mono λv w' hv=>?_⟩));obtain ⟨ρ',st',av,p,j,o,m,l⟩:=hv;have y:=bc (T:=[]) j (aB.cz.1 k).2.2.2;exact aV.new (ρ':=ρ') (st':={ st' with E:=cr d none av st.E,h:=st.h }) k p j o rfl m (by rw [<-y];exact l)
  .cases h
theorem abN{k:TypeId->Option R}{t:TypeId}:∀{cs:List TypeId},byT k t cs=some r->k t=some r
 |[],h=>by cases h
 |c::cs,h=>by
  unfold byT at h;rcases rT h with ⟨b,a⟩|⟨_,a⟩
  .rw [ah b];exact a
  .exact abN a
theorem abb{P:Program}{t:TypeId}{nm:String}{q:FuncId×Bool}(h:agJ P t nm=some q):Lv P t nm q.1 q.2:=by
 unfold agJ at h;split at h
 .rename_i i hi;split at h
  .rename_i m a;split at h
   next hp=>unfold Lv;rw [hi];simp only [cj];rw [a];simp [hp,h]
   .cases h
  .cases h
 .cases h
theorem alQ{t:TypeId}{u v:AV}{cs:List AV}{G H:List Row}(f:Sat (ab ρ T G++(ab ρ T H++Φ)) w)(hc:wG T G H g u=some cs)(h:jG X.P t cs=some v)(j:T.get g=true):
  ∃p,u.val ρ= .pointer (some p)/\(loadVar t p).run X.P w= .ok (v.val ρ) w:=by
 obtain ⟨p,hp,hc⟩:=JO f hc j;refine ⟨p,hp,?_⟩;have m:jG X.P t (cs.drop 0)=some v:=by simpa using h
 obtain ⟨d,n,bytes,z,c1,o,b⟩:=mm (ρ:=ρ) m;cases hd:iW d
 .rw [hd] at b;simp only [mo,qA] at b;exact Lx c1 hd (hc.cell0 b)
 .unfold jG at h;rw [c1] at h;rcases dp h with ⟨_,a⟩|⟨e,_⟩
  .split at a
   .rename_i q i;obtain ⟨n,bytes,z⟩:=q;obtain ⟨l,k⟩:=aG a;cases k;have c:n<=cs.length:=cb l;simp only [AV.val];refine KU c1 hd (cD i) (vs:=AV.ao ρ (cs.take n)) ?_ ?_
    .have:=hc.sub (us:=AV.ao ρ (cs.take n)) 0 (by rw [AV.jg,mj,bj,AV.bl,cx c])
     simpa [Addr.add] using this
    .rw [AV.bl,bj,cx c]
   .cases a
  .rw [hd] at e;cases e
theorem aa5{t:TypeId}{u:AV}{nm:String}{q:FuncId×AV}(i:Sat (ab ρ T st.G++(ab ρ T fr.H++Φ)) w)(h:G0 X T fr st g t u nm=some q):T.get g=true->Reach X.P w t (u.val ρ) nm q.1 (q.2.val ρ):=by
 unfold G0 at h;split at h
 .rename_i f c;have b:=abb c;split at h
  next e a=>cases h;exact λ_=>Reach.ptr b a
  .cases h
 .rename_i f c;have b:=abb c;split at h
  .rename_i e a;split at h
   .rename_i cs hc;split at h
    next v hv=>cases h;intro k;obtain ⟨p,hp,j⟩:=alQ i hc hv k;rw [hp];exact Reach.load b a j
    .cases h
   .cases h
  next d a=>obtain ⟨n,m⟩:=Mc h;cases m;exact λ_=>Reach.val b a (λe l=>by subst l;cases n)
  .cases h
 .cases h
theorem afg{t:TypeId}{y:Operand}(s:Sat (ab ρ T st.G++(ab ρ T fr.H++Φ)) w)(h:aga X T fr st d t x y K=some r):
  LC X.P T none (au ρ T st.E fr.F) ⟨some d,.indexAddr t x y,ty,pos,af,gd⟩ w (aV r K T fr st none (some d) ρ Φ):=by
 unfold aga at h;split at h
 .rename_i n e p;split at h
  .rename_i z o;obtain ⟨m,bytes,z⟩:=z;split at h
   .rename_i id off hx;split at h
    .rename_i k i l;obtain ⟨q,_,u,g,j⟩:=Cy h;have f:=bD (ρ:=ρ) hx;have c:=bD (ρ:=ρ) l;simp only [AV.val] at f c;refine ⟨.pointer (some (((ρ id).a.add off).add (i.toNat*m))),λw'=>?_,?_⟩
     .rw [aA.get_none];exact yI (P:=X.P) (w:=w') (dst:=some d) (ty:=ty) (pos:=pos) (af:=af) (gd:=gd) p (cD o) f c (by
       intro _;subst g;exact vL.2 ⟨by omega,by omega⟩)
     .refine aV.ic (av:= .adr id (off+q*m)) j (bb _) rfl ?_ s;simp only [AV.val];rw [add_add,g];rfl
    .cases h
   .rename_i id off hx;split at h
    .rename_i k i l;obtain ⟨q,_,u,g,j⟩:=Cy h;have f:=bD (ρ:=ρ) hx;have c:=bD (ρ:=ρ) l;simp only [AV.val] at f c;refine ⟨.pointer (some ((⟨(ρ id).b,off,none⟩:Addr).add (i.toNat*m))),λw'=>?_,?_⟩
     .rw [aA.get_none];exact yI (P:=X.P) (w:=w') (dst:=some d) (ty:=ty) (pos:=pos) (af:=af) (gd:=gd) p (cD o) f c (by
       intro _;subst g;exact vL.2 ⟨by omega,by omega⟩)
     .refine aV.ic (av:= .ptr id (off+q*m)) j (bb _) rfl ?_ s;simp only [AV.val];rw [add_plain,g];rfl
    .cases h
   .cases h
  .cases h
 .cases h
theorem als{d:w4}{t:TypeId}{y:Operand}(J:st.low fr=true)(g:Sat (ab ρ T st.G++(ab ρ T fr.H++Φ)) w)(h:af3 X T fr st d t x y K=some r):
  iy X.P T none (au ρ T st.E fr.F) ⟨d,.call ⟨.builtin .copy,#[x,y],#[t,t]⟩,ty,pos,af,gd⟩ w (aV r K T fr st none d ρ Φ):=by
 unfold af3 at h;split at h
 .rename_i e V;split at h
  .rename_i u hu;split at h
   .rename_i z N;obtain ⟨n,bytes,z⟩:=z;split at h
    .rename_i id hx;split at h
     .rename_i b O;obtain ⟨h1,i⟩:=aG h;have R:n=u.rep.n:=(ah h1).trans u.Bt.symm;have B:=cD N;subst R;have f:=ph (ids:=b.dY) (aB.cz.1 J).2.2.1;replace g:=iG (ids:=b.dY) g;generalize cn b.dY st.G=G at i f g;have o:=bD (ρ:=ρ) hx;have v:=bD (ρ:=ρ) O;simp only [AV.val] at o;split at i
      .rename_i ys q;have s:=MJ g q;split at i
       .rename_i j p u' e' k M U;obtain ⟨Z,D⟩:=aG i;have:=ah Z;subst this;split at D
        .rename_i xs A;obtain ⟨eu,ex⟩:=nW A;subst eu;simp only at ex;subst ex;obtain ⟨I,f2⟩:=bU U;have:p=id:=ah f2;subst this;have hi:=fe (ρ:=ρ) (T:=T) (Φ:=ab ρ T fr.H++Φ) I;obtain ⟨L,_⟩:=g.at_ hi;obtain ⟨w',Q,Y,C,W⟩:=alq (P:=X.P) (ty:=ty) (w:=w) (t:=t) (bT V) B L s (λb hb=>Ctx.iz hi hb);have S:j<G.length:=(List.getElem?_eq_some_iff.1 I).1;have a:=pg f I;simp only [Row.low,ae,du] at a;refine .none_ (bE.gd (bE.lM (xi o v Q) (aV.new (ρ':=ρ.set st.c { cM with y:=⟨.l u',wh k ys⟩ }) (av:= .int .i64 ((Nat.min ys.length k.length:Nat):Int)) J D ax.aY (eb _) rfl (by simp only [AV.val]) ?_)));show Sat (ab _ T (G.set j _)++_) _;rw [eS S,bc ax.aY f];refine g.mD hi Y (λb hb=>?_) (λM' m _=>?_)
         .simp only [Row.item,ax.aY _ a.1] at hb;exact ⟨by rw [C];exact L.lt b hb,.inl hb⟩
         .simp only [Row.item,ax.aY _ a.1,ax.bA];exact ⟨W M' m,trivial⟩
        .cases D
       .cases i
      .cases i
     .cases h
    .cases h
   .cases h
  .cases h
 .cases h
theorem ak1{t:TypeId}{len:Nat}{ps:Array (Nat×Operand)}(v:st.low fr=true)(u:Sat (ab ρ T st.G++(ab ρ T fr.H++Φ)) w)(h:af9 X T fr st d t len ps.toList K=some r):
  iy X.P T none (au ρ T st.E fr.F) ⟨some d,.buildSlice t len ps,ty,pos,af,gd⟩ w (aV r K T fr st none (some d) ρ Φ):=by
 obtain ⟨ps⟩:=ps;simp only at h;unfold af9 at h;split at h
 .rename_i e y;split at h
  .rename_i z s;obtain ⟨n,bytes,z⟩:=z;split at h
   .rename_i vs k;split at h
    .rename_i cs m;obtain ⟨o,A⟩:=aG h;simp only [ae] at o;obtain ⟨⟨⟨⟨_,D⟩,q⟩,C⟩,B⟩:=o;have c:z.cells.size=n:=ah D;have l:=cD s;have a:=vP (ρ:=ρ) m;rw [Ag,Qv,kx] at a;have g:0<n:=by
      have:0<len*n:=by simpa using q
      exact qU (λe=>by simp [e] at this)
     have j:nX n len z.cells.toList ((ps.map (·.1)).zip (AV.ao ρ vs))=some (AV.ao ρ cs).toArray:=by unfold nX;have p:=C4 z.cells.toList (by simp [c];exact g) len;simp only [ca,c] at p;simp only [ca,c];rw [<-a,<-p]
     have i:gr (au ρ T st.E fr.F) true (ps.map (·.2)) (AV.ao ρ vs):=by simpa using fK (ρ:=ρ) k
     have f:=nE (P:=X.P) (w:=w) (dst:=some d) (ty:=ty) (pos:=pos) (af:=af) (bT y) l (zs:=z.cells.toList) (by simp) q C i j;refine .none_ (bE.gd (bE.lM f (aV.push (x:={ cM with b:=w.heap.size }) v A (by simp only [AV.val,ax.bA]) ?_)));simp only [Row.item,ax.bA];rw [AV.bS ax.aY _ B];exact u.push (dX _ _) (λb hb=>by
      have:b=w.heap.size:=by simpa [box] using hb
      subst this;simp) (λ_ _=>heap_alloc_new w _)
    .cases h
   .cases h
  .cases h
 .cases h
theorem am1{t:TypeId}{y:Operand}(A:Sat (ab ρ T st.G++(ab ρ T fr.H++Φ)) w)(h:akf X T fr st d t x y K=some r):
  iy X.P T none (au ρ T st.E fr.F) ⟨some d,.indexAddr t x y,ty,pos,af,gd⟩ w (aV r K T fr st none (some d) ρ Φ):=by
 unfold akf at h;split at h
 .rename_i e B;split at h
  .rename_i z u;obtain ⟨m,bytes,z⟩:=z;split at h
   .rename_i id n hx;split at h
    .rename_i k i v;obtain ⟨q,_,C,s,o⟩:=Cy h;have c:=bD (ρ:=ρ) hx;have a:=bD (ρ:=ρ) v;simp only [AV.val] at c a;have j:aV r K T fr st none (some d) ρ Φ (.pointer (some ⟨(ρ id).b,q*m,none⟩)) w:=aV.ic (av:= .ptr id (q*m)) o (bb _) rfl (by simp only [AV.val]) A;have f:=DX (P:=X.P) (w:=w) (g:=true) (dst:=some d) (ty:=ty) (pos:=pos) (af:=af) (gd:=none) (bT B) (cD u) c a (p:=⟨(ρ id).b,q*m,none⟩) (λ_=>⟨_,_,_,rfl,by omega,by omega,by
      subst s;unfold Addr.add;split
      next l=>simp only [qe] at l;rw [l]
      .simp⟩)
     exact .none_ (bE.gd (bE.run f j))
    .cases h
   .cases h
  .cases h
 .cases h
abbrev Zn(E:Env)(z i:Int)(x:Option Operand):Prop:=match x with
 |none=>i=z
 |some y=>∃k,ar E true y (.int k i)
theorem akE{t:TypeId}{lo hi:Option Operand}(W:st.low fr=true)(V:Sat (ab ρ T st.G++(ab ρ T fr.H++Φ)) w)(h:agr X T fr st d t x lo hi K=some r):
  iy X.P T none (au ρ T st.E fr.F) ⟨some d,.slice t x lo hi none,ty,pos,af,gd⟩ w (aV r K T fr st none (some d) ρ Φ):=by
 have S:=(aB.cz.1 W).2.2.1;unfold agr at h;split at h
 .rename_i e he;split at h
  .rename_i z hz;obtain ⟨n,bytes,z⟩:=z;split at h
   .rename_i id hx;split at h
    .rename_i i Q;split at h
     .rename_i j hj;split at h
      .rename_i k o u e' xs Z hf;obtain ⟨h1,J⟩:=aG h;have hn:n=u.rep.n:=(ah h1).trans u.Bt.symm;have O:=cD hz;subst hn;obtain ⟨Y,f2⟩:=bU hf;have:o=id:=ah f2;subst this;have B:=bD (ρ:=ρ) hx;simp only [AV.val] at B;have C:=fe (ρ:=ρ) (T:=T) (Φ:=ab ρ T fr.H++Φ) Y;obtain ⟨R,_⟩:=V.at_ C;have hk:k<st.G.length:=(List.getElem?_eq_some_iff.1 Y).1;have f:=Ue (ρ:=ρ) (len:=xs.length) hj;have a:=Ku (ρ:=ρ) Q;rw [aA.get_none] at f a;replace f:Zn (au ρ T st.E fr.F) (xs.length:Int) (j.getD (xs.length:Int)) hi:=f;replace a:Zn (au ρ T st.E fr.F) 0 i lo:=a;have I:∀{s q:Int} {p:fw} {L:x3},Zn (au ρ T st.E fr.F) 0 s lo->Zn (au ρ T st.E fr.F) (xs.length:Int) q hi->Qt (sl (ρ o).v) s q u.rep.n (sl p)->(∀b∈L,b∈sw (ρ o).v)->bJ u.rep e' (Ctx.M (ab ρ T st.G++(ab ρ T fr.H++Φ))) w (sl p) (bC xs s q) L->
         K { st with c:=st.c+1,E:=cr (some d) none (.sl st.c) st.E,G:=st.G.set k (.own st.c u e' (bC xs s q) st.c) }=some r->iy X.P T none (au ρ T st.E fr.F) ⟨some d,.slice t x lo hi none,ty,pos,af,gd⟩ w (aV r K T fr st none (some d) ρ Φ):=by
        intro s q p L q1 q2 A N g D;refine .none_ (bE.gd (bE.run (CT (lo:=lo) (hi:=hi) (bT he) O B (λ_=>R.len) q1 q2 (λ_=>A)) (aV.new (ρ':=ρ.set st.c { cM with v:=p,y:=⟨.l u,bC xs s q⟩ }) W D ax.aY (eb _) rfl (by simp only [AV.val,ax.bA]) ?_)));show Sat (ab _ T (st.G.set k _)++_) _;rw [eS hk,bc ax.aY S];refine V.mD C ((Ext.refl w).pZ _) (λb hb=>?_) (λM' m _=>?_)
        .simp only [Row.item,ax.bA] at hb;have:=g.canon.1 b hb;exact ⟨g.lt b this,.inl (N b this)⟩
        .simp only [Row.item,ax.bA];exact ⟨g.canon.2 _ _ (g.cJ (λ_ _=>rfl) m),trivial⟩
       split at J
       .obtain ⟨U,D⟩:=dZ J;obtain ⟨p,A,g⟩:=R.apF U;exact I rfl f A (λb hb=>hb) g D
       .obtain ⟨h5,h6⟩:=aG J;obtain ⟨U,D⟩:=dZ h6;obtain ⟨p,A,L,N,g⟩:=R.apt (ah h5) U;exact I a rfl A N g D
       .cases J
      .cases h
     .cases h
    .cases h
   .cases h
  .cases h
 .cases h
theorem amY{t:TypeId}{lo hi q:Option Operand}(A:st.low fr=true)(o:Sat (ab ρ T st.G++(ab ρ T fr.H++Φ)) w)(h:ak2 X T fr st d t x lo hi q K=some r):
  iy X.P T none (au ρ T st.E fr.F) ⟨some d,.slice t x lo hi q,ty,pos,af,gd⟩ w (aV r K T fr st none (some d) ρ Φ):=by
 have Q:=(aB.cz.1 A).2.2.1;unfold ak2 at h;split at h
 .rename_i y U;split at h
  .rename_i n e L;split at h
   .rename_i u Y;split at h
    .rename_i z I;obtain ⟨V,bytes,z⟩:=z;split at h
     .rename_i id hx;split at h
      .rename_i k Z J;split at h
       .rename_i W m i;split at h
        .rename_i j c S cs O;obtain ⟨B,p⟩:=aG h;simp only [ae,gy] at B;obtain ⟨⟨rfl,rfl⟩,h3⟩:=B;split at p
         next xs l=>obtain ⟨C,R⟩:=kC O;have:c=id:=ah R;subst this;have g:=bD (ρ:=ρ) hx;have f:=bD (ρ:=ρ) J;have a:=bD (ρ:=ρ) i;simp only [AV.val] at g f a;have hi:=fe (ρ:=ρ) (T:=T) (Φ:=ab ρ T fr.H++Φ) C;have hb:eC w (ρ c).b S (AV.ao ρ cs):=o.at_ hi;obtain ⟨s,D⟩:=Ru o n cs xs l;have N:j<st.G.length:=(List.getElem?_eq_some_iff.1 C).1;refine .none_ (bE.gd (bE.run (ac1 L (cD I) g f a) (aV.mD (x:={ cM with v:=(some ⟨(ρ c).b,0,none⟩,n,n) }) A N p (by simp only [AV.val,ax.bA];rfl) ?_)));refine o.mD hi ((Ext.refl w).pZ _) (λb hb=>by cases hb) (λM' m M=>?_);simp only [Row.item,ax.bA];exact λ_=>⟨bO.fresh hb (M _ (by simp [Row.item,box]) (λhb=>by cases hb)) s (D.mv m),λ_=>s.symm⟩
         .cases p
        .cases h
       .cases h
      .cases h
     .cases h
    .cases h
   .cases h
  .cases h
 .cases h
end
variable {d : w4} {tys : Array TypeId}
def ait{R:Type}(X:Cx)(T:aA)(fr:Fr)(st:aB)(t:TypeId)(x y:Operand)(K:cB R):Option R:=match bq T st.E fr.F none x with
 |some (.ptr id off)=>(match bq T st.E fr.F none y with
  |some v=>ab4 X.P st t id off v K
  |none=>none)
 |some (.adr q off)=>(match bq T st.E fr.F none y with
  |some v=>acn X.P fr st t q off v K
  |none=>none)
 |_=>none
def aml{R:Type}(X:Cx)(T:aA)(fr:Fr)(st:aB)(g:GK)(d:Tmp)(t:TypeId)(x:Operand)(K:cB R):Option R:=match bq T st.E fr.F g x with
 |some (.adr q off)=>Ua X T fr st g d t q off K
 |_=>none
def aoO{R:Type}(X:Cx)(T:aA)(fr:Fr)(st:aB)(g:GK)(b:Builtin)(d:w4)(xs:vb)(ts:List TypeId)(K:cB R):Option R:=match b,xs,ts,d with
 | .append,[x,y],[t,u],some d=>gone g (ay (Nat.beq t u) (ajA X T fr st d t x y K) (ahl X T fr st d t u x y K))
 | .unsafeSliceData,[x],_,some d=>gone g (ZF T fr st d x K)
 | .unsafeString,[x,y],[pt,_],some d=>gone g (ahv X T fr st d pt x y K)
 | .copy,[x,y],[t,u],d=>gone g (ay (Nat.beq t u) (af3 X T fr st d t x y K) none)
 |_,_,_,_=>none
def aj2{R:Type}(X:Cx)(tb:List aq)(T:aA)(fr:Fr)(st:aB)(g:GK)(d:w4)(c:Callee)(xs:vb)(ts:List TypeId)(K:cB R):Option R:=match c with
 | .builtin b=>aoO X T fr st g b d xs ts K
 | .value fo=>(match bq T st.E fr.F g fo with
  |some (.fn f a b)=>(match od T st.E fr.F g xs with
   |some vs=>akQ X T fr st g d f (a++vs++b) K (tT T fr st g d f (a++vs++b) K tb)
   |none=>none)
  |some (.raw (.func (.methodOf it nm) ⟨[]⟩ ⟨[]⟩))=>(match X.P.underlying it with
   |some dI=>ay (fF dI) (match od T st.E fr.F g xs with
    |some (.ifc t u::vs)=>byT (λc=>match G0 X T fr st g c u nm with
     |some q=>tT T fr st g d q.1 (q.2::vs) K tb
     |none=>none) t X.ks
    |_=>none) none
   |none=>none)
  |_=>none)
 | .invoke rc nm=>(match bq T st.E fr.F g rc with
  |some (.ifc t u)=>(match od T st.E fr.F g xs with
   |some vs=>(match u with
    | .agg []=>byT (λc=>match G0 X T fr st g c u nm with
     |some q=>tT T fr st g d q.1 (q.2::vs) K tb
     |none=>none) t X.ks
    |_=>(match G0 X T fr st g t u nm with
     |some q=>tT T fr st g d q.1 (q.2::vs) K tb
     |none=>none))
   |none=>none)
  |_=>none)
def opN{R:Type}(X:Cx)(tb:List aq)(T:aA)(fr:Fr)(st:aB)(g:GK)(op:Op)(dst:w4)(K:cB R):Option R:=match op,dst with
 | .indexAddr t x y,some d=>(match eP X.P t with
  |some _=>(match bq T st.E fr.F g x with
   |some (.bs _ _)=>gone g (akf X T fr st d t x y K)
   |_=>ag3 X T fr st g d t x y K)
  |none=>(match bq T st.E fr.F g x with
   |some (.gp _)=>Zu X T fr st g d t x y K
   |_=>gone g (aga X T fr st d t x y K)))
 | .slice t x lo hi mx,some d=>(match eP X.P t with
  |some _=>(match mx with
   |none=>ay (inO fr.n d X.oc) (gone g (agr X T fr st d t x lo hi K)) (acM X T fr st g d t x lo hi none K)
   |mx=>acM X T fr st g d t x lo hi mx K)
  |none=>(match bq T st.E fr.F g x with
   |some (.gp _)=>gone g (Wf X T fr st d t x lo hi mx K)
   |_=>gone g (ak2 X T fr st d t x lo hi mx K)))
 | .alloc t,some d=>gone g (Z5 X st d t K)
 | .box t x,some d=>gone g (ak3 T fr st d t x K)
 | .store t x y,none=>gone g (ait X T fr st t x y K)
 | .load t x,some d=>aml X T fr st g d t x K
 | .buildSlice t n ps,some d=>(match eP X.P t with
  |some e=>ay (aoo X.P e) (gone g (af9 X T fr st d t n ps.toList K)) (ajL X T fr st g d t n ps.toList K)
  |none=>none)
 | .makeSlice t x y,some d=>gone g (af5 X T fr st d t x y K)
 | .makeMap t none,some d=>gone g (agR X st d t K)
 | .mapUpdate t x y z,none=>gone g (afK X T fr st t x y z K)
 | .range t x,some d=>gone g (aj9 X T fr st d t x K)
 | .next x true,some d=>gone g (aj5 T fr st d x K)
 | .convert s dt x,some d=>akD X T fr st g d s dt x K
 | .binOp op t x y _,some d=>gone g (ajC X T fr st d op t x y K)
 | .call c,d=>aj2 X tb T fr st g d c.callee c.args.toList c.argTypes.toList K
 |_,_=>none
def opD{R:Type}(X:Cx)(tb:List aq)(T:aA)(fr:Fr)(st:aB)(g:GK)(o:Oper)(K:cB R):Option R:=
 match agA X T st.E fr.F g o.op with
 |some cv=>HI cv.1 (g.map λ_=>T.get g) (K { st with E:=cr o.dst g cv.2 st.E })
 |none=>match ags X T st.E fr.F st.G fr.H g o.op with
  |some cv=>HI cv.1 (g.map λ_=>T.get g) (K { st with E:=cr o.dst g cv.2 st.E })
  |none=>ay (st.low fr) (opN X tb T fr st g o.op o.dst K) none
section
variable {X : Cx} {tb : List aq} {R : Type} {r : R} {K : cB R} {T : aA} {fr : Fr} {st : aB} {g : GK} {ρ : ax} {Φ : Ctx} {w : World} {ty : TypeId} {pos : String} {af : xa} {gd : ti}
theorem xl{d:w4}{op:Op}{f:FuncId}{args:List AV}(l:st.low fr=true)(j:Sat (ab ρ T st.G++(ab ρ T fr.H++Φ)) w)(a:∀it∈X.Γ,it∈Φ)
  (b:Enters X.P f->T.get g=true->∀n act,Fits n (au ρ T st.E fr.F) act->(execOp act.eval ⟨d,op,ty,pos,af,gd⟩).run X.P w= .ok (.enter f (AV.ao ρ args).toArray) w):∀{tb:List aq},(∀e∈tb,e.Ok X.P X.Γ)->tT T fr st g d f args K tb=some r->
  iy X.P T g (au ρ T st.E fr.F) ⟨d,op,ty,pos,af,gd⟩ w (aV r K T fr st g d ρ Φ)
 |[],_,h=>by cases h
 |e::tb,htb,h=>by
  unfold tT at h;rcases dp h with ⟨m,i⟩|⟨_,i⟩
  .split at i
   next o k=>subst i;have:=ah m;subst this;have c:=htb e (bY ..);exact ahH l j c a (b c.1) k
   .exact xl l j a b (λe c=>htb e (aW _ c)) i
  .exact xl l j a b (λe c=>htb e (aW _ c)) i
theorem akt{f:FuncId}{fo:Operand}{xs:vb}{a b vs:List AV}(p:st.low fr=true)(o:Sat (ab ρ T st.G++(ab ρ T fr.H++Φ)) w)(j:∀it∈X.Γ,it∈Φ)
  (m:bq T st.E fr.F g fo=some (.fn f a b)) (k:od T st.E fr.F g xs=some vs) {tb:List aq} (l:∀e∈tb,e.Ok X.P X.Γ) (h:tT T fr st g d f (a++vs++b) K tb=some r):
  iy X.P T g (au ρ T st.E fr.F) ⟨d,.call ⟨.value fo,xs.toArray,tys⟩,ty,pos,af,gd⟩ w (aV r K T fr st g d ρ Φ):=by
 have c:=aR (ρ:=ρ) m;have i:=fK (ρ:=ρ) k;simp only [AV.val] at c;refine xl p o j (λt q n u s=>?_) l h;rw [cX,cX];exact Da t c i s q
theorem ZQ{k:Operand}{nm:String}{xs:vb}{t:TypeId}{u:AV}{vs:List AV}{q:FuncId×AV}(o:st.low fr=true)(l:Sat (ab ρ T st.G++(ab ρ T fr.H++Φ)) w)(c:∀it∈X.Γ,it∈Φ)
  (j:bq T st.E fr.F g k=some (.ifc t u)) (f:od T st.E fr.F g xs=some vs) (m:G0 X T fr st g t u nm=some q) {tb:List aq} (i:∀e∈tb,e.Ok X.P X.Γ) (h:tT T fr st g d q.1 (q.2::vs) K tb=some r):
  iy X.P T g (au ρ T st.E fr.F) ⟨d,.call ⟨.invoke k nm,xs.toArray,tys⟩,ty,pos,af,gd⟩ w (aV r K T fr st g d ρ Φ):=by
 have a:=aR (ρ:=ρ) j;have b:=fK (ρ:=ρ) f;simp only [AV.val] at a;exact xl o l c (λv p n x s=>aku v a (aa5 l m) b s p) i h
theorem akg{fo:Operand}{it:TypeId}{m:TypeDesc}{nm:String}{xs:vb}{t:TypeId}{u:AV}{vs:List AV}{q:FuncId×AV}(p:st.low fr=true)(l:Sat (ab ρ T st.G++(ab ρ T fr.H++Φ)) w)(c:∀it∈X.Γ,it∈Φ)
  (k:bq T st.E fr.F g fo=some (.raw (.func (.methodOf it nm) #[] #[]))) (j:X.P.underlying it=some m) (hd:fF m=true) (f:od T st.E fr.F g xs=some (.ifc t u::vs)) (o:G0 X T fr st g t u nm=some q) {tb:List aq} (i:∀e∈tb,e.Ok X.P X.Γ) (h:tT T fr st g d q.1 (q.2::vs) K tb=some r):
  iy X.P T g (au ρ T st.E fr.F) ⟨d,.call ⟨.value fo,xs.toArray,tys⟩,ty,pos,af,gd⟩ w (aV r K T fr st g d ρ Φ):=by
 have b:=aR (ρ:=ρ) k;have a:=fK (ρ:=ρ) f;simp only [AV.val,AV.ao] at b a;exact xl p l c (λx s n y v=>aeg x b j hd (aa5 l o) a v s) i h
theorem anG{c:Callee}{xs:Array Operand}{J:Array TypeId}(m:st.low fr=true)(l:Sat (ab ρ T st.G++(ab ρ T fr.H++Φ)) w)(o:∀it∈X.Γ,it∈Φ)(p:∀e∈tb,e.Ok X.P X.Γ)
  (h:aj2 X tb T fr st g d c xs.toList J.toList K=some r):iy X.P T g (au ρ T st.E fr.F) ⟨d,.call ⟨c,xs,J⟩,ty,pos,af,gd⟩ w (aV r K T fr st g d ρ Φ):=by
 obtain ⟨xs⟩:=xs;obtain ⟨J⟩:=J;unfold aj2 at h;split at h
 .unfold aoO at h;split at h
  .rename_i x y t u M k A;simp only at k A;subst k;subst A;obtain ⟨rfl,v⟩:=cL h;rcases dp v with ⟨B,j⟩|⟨_,j⟩
   .have:=ah B;subst this;exact ant m l j
   .exact ale m l j
  next x M k=>simp only at k;subst k;obtain ⟨rfl,v⟩:=cL h;exact (abf m l v).ok2
  next x y S it M k A=>simp only at k A;subst k;subst A;obtain ⟨rfl,v⟩:=cL h;exact ajN m l v
  next x y t u k A=>simp only at k A;subst k;subst A;obtain ⟨rfl,v⟩:=cL h;obtain ⟨B,j⟩:=aG v;have:=ah B;subst this;exact als m l j
  .cases h
 .split at h
  .rename_i f a b s;split at h
   next vs i=>refine anb m l (λQ N n R O=>?_) h (λh=>akt m l o s i p h);have z:=aR (ρ:=ρ) s;have C:=fK (ρ:=ρ) i;simp only [AV.val] at z;rw [cX,cX];exact Da Q z C O N
   .cases h
  .rename_i it nm s;split at h
   .rename_i U L;obtain ⟨v,B⟩:=aG h;split at B
    .rename_i t u vs i;have j:=abN B;split at j
     next q I=>exact akg m l o s L v i I p j
     .cases j
    .cases B
   .cases h
  .cases h
 .split at h
  .rename_i t u D;split at h
   .rename_i vs i;split at h
    .have j:=abN h;split at j
     next q I=>exact ZQ m l o D i I p j
     .cases j
    .split at h
     next q I=>exact ZQ m l o D i I p h
     .cases h
   .cases h
  .cases h
theorem aoM{op:Op}{dst:w4}(c:st.low fr=true)(b:Sat (ab ρ T st.G++(ab ρ T fr.H++Φ)) w)(d:∀it∈X.Γ,it∈Φ)(i:∀e∈tb,e.Ok X.P X.Γ)
  (h:opN X tb T fr st g op dst K=some r):iy X.P T g (au ρ T st.E fr.F) ⟨dst,op,ty,pos,af,gd⟩ w (aV r K T fr st g dst ρ Φ):=by
 unfold opN at h;split at h
 .split at h
  .split at h
   .obtain ⟨rfl,a⟩:=cL h;exact am1 b a
   .exact (afm c b h).ok2
  .split at h
   .exact (ZJ c d b h).ok2
   .obtain ⟨rfl,a⟩:=cL h;exact (afg b a).ok2
 .split at h
  .split at h
   .rcases dp h with ⟨_,f⟩|⟨_,f⟩
    .obtain ⟨rfl,j⟩:=cL f;exact akE c b j
    .exact (V7 c b f).ok2
   .exact (V7 c b h).ok2
  .split at h
   .obtain ⟨rfl,a⟩:=cL h;exact am3 c d b a
   .obtain ⟨rfl,a⟩:=cL h;exact amY c b a
 .obtain ⟨rfl,a⟩:=cL h;exact ahF c b a
 .obtain ⟨rfl,a⟩:=cL h;exact ans c b a
 .obtain ⟨rfl,a⟩:=cL h;unfold ait at a;split at a
  .rename_i id off hx;split at a
   next v hv=>exact .none_ (ais b hx hv a)
   .cases a
  .rename_i id off hx;split at a
   next v hv=>exact .none_ (ajj c b hx hv a)
   .cases a
  .cases a
 .unfold aml at h;split at h
  next q off hx=>exact akw c b hx h
  .cases h
 .split at h
  .rcases dp h with ⟨_,f⟩|⟨_,f⟩
   .obtain ⟨rfl,j⟩:=cL f;exact ak1 c b j
   .exact amT c b f
  .cases h
 .obtain ⟨rfl,a⟩:=cL h;exact akO c b a
 .obtain ⟨rfl,a⟩:=cL h;exact akh c b a
 .obtain ⟨rfl,a⟩:=cL h;exact akm b a
 .obtain ⟨rfl,a⟩:=cL h;exact an3 c b a
 .obtain ⟨rfl,a⟩:=cL h;exact amQ b a
 .exact anH c b h
 .obtain ⟨rfl,a⟩:=cL h;exact anN b a
 .exact anG c b d i h
 .cases h
theorem aoa{o:Oper}(m:eD T st.E fr.F)(f:Sat (ab ρ T st.G++(ab ρ T fr.H++Φ)) w)(i:∀it∈X.Γ,it∈Φ)(j:∀e∈tb,e.Ok X.P X.Γ)
  (h:opD X tb T fr st g o K=some r):iy X.P T g (au ρ T st.E fr.F) o w (aV r K T fr st g o.dst ρ Φ):=by
 obtain ⟨dst,op,ty,pos,af,gd⟩:=o;unfold opD at h;simp only at h;split at h
 next cv b=>obtain ⟨d,c⟩:=oP h;exact LC.ok2 ⟨_,λw'=>Z3 m b d,aV.ic c (bb _) rfl rfl f⟩
 .split at h
  next cv b=>obtain ⟨d,c⟩:=oP h;have k:=acw (dst:=dst) (ty:=ty) (pos:=pos) (af:=af) (gd:=gd) f b d;have a:aV r K T fr st g dst ρ Φ (cv.2.val ρ) w:=aV.ic c (bb _) rfl rfl f;exact ⟨λl=>bE.run (by rwa [l] at k) a,λ_=>⟨_,a⟩⟩
  .obtain ⟨d,c⟩:=aG h;exact aoM d f i j c
end
def Row.gd:Row->GK
 | .sli g _ _ _ _|.elm g _ _|.kn g _ _ _ _ _ _=>g
 |_=>none
theorem Row.Bj{ρ:ax}{T T':aA}{r:Row}(h:T'.get r.gd=T.get r.gd):r.item ρ T'=r.item ρ T:=by cases r <;> simp only [Row.gd] at h <;> simp only [Row.item,h]
def BH(k:Nat×Bool)(g:GK):Bool:= !(GK.eq (some k) g)
def Hx(k:Nat×Bool):aE->Bool
 |[]=>true
 |x::E=>BH k x.2.1&&Hx k E
def QY(k:Nat×Bool):List Row->Bool
 |[]=>true
 |r::G=>BH k r.gd&&QY k G
def afV(k:Nat×Bool):aA->Bool
 |[]=>true
 |x::T=>BH k (some x.1)&&BH k x.2.1&&afV k T
theorem vT{k:Nat×Bool}{par:GK}{rj:Nat}{b:Bool}{T:aA}{g:GK}(h:BH k g=true):aA.get ((k,par,rj,b)::T) g=T.get g:=aA.QV h
theorem P2{ρ:ax}{k:Nat×Bool}{par:GK}{rj:Nat}{b:Bool}{T:aA}:{E:aE}->Hx k E=true->aE.env ρ ((k,par,rj,b)::T) E=aE.env ρ T E
 |[],_=>rfl
 |(t,g,v)::E,h=>by simp only [Hx,ae] at h;simp only [aE.env];rw [vT h.1,P2 h.2]
theorem GI{ρ:ax}{k:Nat×Bool}{par:GK}{rj:Nat}{b:Bool}{T:aA}:{G:List Row}->QY k G=true->ab ρ ((k,par,rj,b)::T) G=ab ρ T G
 |[],_=>rfl
 |r::G,h=>by simp only [QY,ae] at h;simp only [ab,cq];rw [Row.Bj (vT h.1)];have:=GI (ρ:=ρ) (par:=par) (rj:=rj) (b:=b) (T:=T) h.2;simp only [ab] at this;rw [this]
theorem Kv{k:Nat×Bool}:{E:aE}->Hx k E=true->{t:Nat}->{x:GK×AV}->bw E t=some x->BH k x.1=true
 |[],_,_,_,h=>by cases h
 |(r,g,v)::E,h,t,x,hx=>by
  simp only [Hx,ae] at h;unfold bw at hx;rcases dp hx with ⟨_,a⟩|⟨_,a⟩
  .cases a;exact h.1
  .exact Kv h.2 a
def QW(k:Nat×Bool):aA->Bool
 |[]=>false
 |x::T=>GK.eq (some k) (some x.1)||QW k T
def mh(d:w4):aA->Bool
 |[]=>true
 |x::T=>(match d with
  |none=>true
  |some d=> !(Nat.beq d x.2.2.1))&&mh d T
def mF(ops:xc)(n:Nat)(T:aA):Prop:= ∀x,x∈T->(ops[x.1.1]?).bind (·.dst)=some x.2.2.1/\Nat.blt x.2.2.1 n=true
def FT(T:aA)(fr:Fr):Prop:=(∀x,x∈fr.F->T.get x.2.1=aA.get [] x.2.1)/\∀r,r∈fr.H->T.get r.gd=aA.get [] r.gd
def stepG{R:Type}(ops:xc)(T:aA)(fr:Fr)(st:aB)(o:Oper)(run:aA->GK->Option R):Option R:=
 ay (ik o&&Lb fr.n o.dst) (match o.guard with
 |none=>ay ( mh o.dst T ) ( run T none ) none
 |some k=>ay ( QW k T ) ( ay ( mh o.dst T ) ( run T (some k) ) none )<|match ops[k.1]? with
  |some oj=>(match oj.dst with
   |some rj=>(match dy st.E fr.F rj with
    |some (par,.bool b)=>ay ( Nat.blt rj fr.n&&Hx k st.E&&Hx k fr.F&&QY k st.G&&QY k fr.H&&afV k T&&mh o.dst ((k,par,rj,b)::T) ) ( run ((k,par,rj,b)::T) (some k) ) none
    |_=>none)
   |none=>none)
  |none=>none) none
structure ahO(ops:xc)(fr0 fr:Fr)(st:aB)(ρ:ax)(o:Oper)(T T':aA)(g:GK):Prop where
 pl:ik o=true
 ds:Lb fr.n o.dst=true
 t1:eD T' st.E fr.F
 t2:mF ops fr.n T'
 ft:FT T' fr0
 ak:mh o.dst T'=true
 ee:aE.env ρ T' st.E=aE.env ρ T st.E
 ef:aE.env ρ T' fr.F=aE.env ρ T fr.F
 eg:ab ρ T' st.G=ab ρ T st.G
 eh:ab ρ T' fr.H=ab ρ T fr.H
 gg:o.guard=g
 gk:∀k,g=some k->∃rj par b,(ops[k.1]?).bind (·.dst)=some rj/\look (au ρ T' st.E fr.F) rj=some (T'.get par,.bool b)/\Nat.blt rj fr.n=true/\(T'.get par&&(b==k.2))=T'.get g
theorem aen{k:Nat×Bool}:{T:aA}->QW k T=true->∃x,x∈T/\x.1=k
 |[],h=>by cases h
 |x::T,h=>by
  simp only [QW,cp] at h;rcases h with h|h
  .have:=GK.eq_eq h;cases this;exact ⟨x,bY .., rfl⟩
  .obtain ⟨y,b,a⟩:=aen h;exact ⟨y,aW _ b,a⟩
theorem aeX{k:Nat×Bool}:{T:aA}->afV k T=true->∀x,x∈T->BH k (some x.1)=true/\BH k x.2.1=true
 |[],_,x,h=>by cases h
 |y::T,h,x,hx=>by
  simp only [afV,ae] at h;rcases List.mem_cons.1 hx with rfl|hx
  .exact h.1
  .exact aeX h.2 x hx
theorem ae8{k:Nat×Bool}:{E:aE}->Hx k E=true->∀x,x∈E->BH k x.2.1=true
 |[],_,x,h=>by cases h
 |y::T,h,x,hx=>by
  simp only [Hx,ae] at h;rcases List.mem_cons.1 hx with rfl|hx
  .exact h.1
  .exact ae8 h.2 x hx
theorem aeI{k:Nat×Bool}:{E:List Row}->QY k E=true->∀x,x∈E->BH k x.gd=true
 |[],_,x,h=>by cases h
 |y::T,h,x,hx=>by
  simp only [QY,ae] at h;rcases List.mem_cons.1 hx with rfl|hx
  .exact h.1
  .exact aeI h.2 x hx
theorem abt{R:Type}{r:R}{ops:xc}{T:aA}{fr0 fr:Fr}{st:aB}{o:Oper}{run:aA->GK->Option R}{ρ:ax}(v:eD T st.E fr.F)(u:mF ops fr.n T)(y:fr0.F=fr.F)(w:∀r,r∈fr0.H->r∈fr.H)(q:FT T fr0)(h:stepG ops T fr st o run=some r):
  ∃T' g,run T' g=some r/\ahO ops fr0 fr st ρ o T T' g:=by
 unfold stepG at h;obtain ⟨f,A⟩:=aG h;simp only [ae] at f;have ic:∀k x,x∈T->x.1=k->∃rj par b,(ops[k.1]?).bind (·.dst)=some rj/\look (au ρ T st.E fr.F) rj=some (T.get par,.bool b)/\Nat.blt rj fr.n=true/\(T.get par&&(b==k.2))=T.get (some k):=λk x hx m=>by subst m;obtain ⟨I,G⟩:=v x hx;obtain ⟨D,C⟩:=u x hx;exact ⟨x.2.2.1,x.2.1,x.2.2.2,D,by rw [fG,I];simp [AV.val],C,by rw [G,Mg]⟩
 split at A
 next p=>obtain ⟨t,d⟩:=aG A;exact ⟨T,none,d,⟨f.1,f.2,v,u,q,t,rfl,rfl,rfl,rfl,p,λk m=>by cases m⟩⟩
 .rename_i k p;rcases dp A with ⟨t,d⟩|⟨t,d⟩
  .obtain ⟨s,z⟩:=aG d;obtain ⟨x,hx,m⟩:=aen t;exact ⟨T,some k,z,⟨f.1,f.2,v,u,q,s,rfl,rfl,rfl,rfl,p,λM e=>by cases e;exact ic k x hx m⟩⟩
  .split at d
   .rename_i oj l;split at d
    .rename_i rj i;split at d
     .rename_i par b a;obtain ⟨s,z⟩:=aG d;simp only [ae] at s;obtain ⟨⟨⟨⟨⟨⟨L,K⟩,B⟩,P⟩,J⟩,O⟩,N⟩:=s;have j:BH k par=true:=by
       unfold dy at a;split at a
       next x hx=>cases a;exact Kv K hx
       .exact Kv B a
      have c:aA.get ((k,par,rj,b)::T) (some k)=(aA.get ((k,par,rj,b)::T) par&&vC k.2 b):=by rw [aA.ajz,vT j]
      have ee:=P2 (ρ:=ρ) (par:=par) (rj:=rj) (b:=b) (T:=T) K;have ef:=P2 (ρ:=ρ) (par:=par) (rj:=rj) (b:=b) (T:=T) B;refine ⟨(k,par,rj,b)::T,some k,z,⟨f.1,f.2,λx hx=>?_,λx hx=>?_,⟨λx hx=>?_,λx hx=>?_⟩,N,ee,ef,GI P,GI J,p,λM e=>?_⟩⟩
      .rcases List.mem_cons.1 hx with rfl|hx
       .exact ⟨a,c⟩
       .obtain ⟨I,G⟩:=v x hx;obtain ⟨D,C⟩:=aeX O x hx;exact ⟨I,by rw [vT D,vT C];exact G⟩
      .rcases List.mem_cons.1 hx with rfl|hx
       .exact ⟨by simp [l,i],L⟩
       .exact u x hx
      .rw [vT (ae8 B x (y▸hx))];exact q.1 x hx
      .rw [vT (aeI J x (w x hx))];exact q.2 x hx
      .cases e;refine ⟨rj,par,b,by simp [l,i],?_,L,by rw [c,Mg]⟩;rw [fG,a];simp [AV.val]
     .cases d
    .cases d
   .cases d
theorem Xy{d:w4}:{T:aA}->mh d T=true->∀x,x∈T->∀(g:GK) (v:AV) (E F:aE),dy (cr d g v E) F x.2.2.1=dy E F x.2.2.1
 |[],_,x,h=>by cases h
 |y::T,h,x,hx=>λg v E F=>by
  simp only [mh,ae] at h;rcases List.mem_cons.1 hx with rfl|hx
  .cases d with
   |none=>rfl
   |some d=>
    have a:=h.1;simp only [de] at a;unfold dy;simp only [cr,bw,a]
  .exact Xy h.2 x hx g v E F
theorem eD.out{T:aA}{E F:aE}(h:eD T E F){d:w4}(ha:mh d T=true)(g:GK)(v:AV):eD T (cr d g v E) F:=λx hx=>by rw [Xy ha x hx];exact h x hx
theorem sJ{ρ:ax}{T:aA}{g:GK}{v:AV}{E F:aE}:au ρ T (cr d g v E) F=oR d (T.get g) (v.val ρ) (au ρ T E F):=by cases d <;> rfl
section
variable {X : Cx} {tb : List aq} {σ : v7} {Q : br} {D : u9} {ops : xc} {rest : xc} {R : Type} {r : R} {T : aA} {fr : Fr} {st : aB} {ρ : ax} {Φ : Ctx} {w : World}
theorem acT{fr0:Fr}{o:Oper}{K:aA->cB R}(O:eD T st.E fr.F)(N:mF ops fr.n T)(s:fr0.F=fr.F)(q:∀r,r∈fr0.H->r∈fr.H)(L:FT T fr0)(I:Sat (ab ρ T st.G++(ab ρ T fr.H++Φ)) w)(j:∀it∈X.Γ,it∈Φ)(l:∀e∈tb,e.Ok X.P X.Γ)
  (h:stepG ops T fr st o (λT g=>opD X tb T fr st g o (K T))=some r)
  (f:∀T' st' ρ' w',eD T' st'.E fr.F->mF ops fr.n T'->FT T' fr0->aT st.c ρ ρ'->st.c<=st'.c->K T' st'=some r->ab ρ' T' fr.H=ab ρ T fr.H->Sat (ab ρ' T' st'.G++(ab ρ' T' fr.H++Φ)) w'->WL X.P σ ops.toArray Q fr.n D rest (au ρ' T' st'.E fr.F) w'):
  WL X.P σ ops.toArray Q fr.n D (o::rest) (au ρ T st.E fr.F) w:=by
 obtain ⟨T',g,J,a⟩:=abt (ρ:=ρ) O N s q L h;have m:Sat (ab ρ T' st.G++(ab ρ T' fr.H++Φ)) w:=by rw [a.eg,a.eh];exact I
 have M:au ρ T st.E fr.F=au ρ T' st.E fr.F:=by rw [au,au,a.ee,a.ef]
 rw [M];have d:=aoa a.t1 m j l J;have i:∀v w',aV r (K T') T' fr st g o.dst ρ Φ v w'->WL X.P σ ops.toArray Q fr.n D rest (oR o.dst (T'.get g) v (au ρ T' st.E fr.F)) w':=λv w' hv=>by obtain ⟨ρ',st',av,C,B,A,t,z,y,x,u⟩:=hv;have:=f T' st' ρ' w' (by rw [t];exact a.t1.out a.ak g av) a.t2 a.ft B A C (x.trans a.eh) u;rw [t,sJ,z,y] at this;exact this
 cases p:g with
 |none=>
  subst p;have:=i;rw [aA.get_none] at this;exact anm (d.1 aA.get_none) a.pl a.gg a.ds this
 |some k=>
  obtain ⟨rj,par,b,W,V,U,S⟩:=a.gk k p;subst p;exact akU d.1 d.2 a.pl a.gg (by simpa using W) V U S a.ds i
end
def oY{α:Type}:Option α->Bool
 |none=>true
 |some _=>false
def lA(E0:aE):aE->aE
 |[]=>[]
 |x::E=>(match bw E0 x.1 with
  |some (none,_)=>ay (oY x.2.1) (x::lA E0 E) (lA E0 E)
  |_=>lA E0 E)
def j4:List Row->List Row
 |[]=>[]
 |r::G=>ay (oY r.gd) (r::j4 G) (j4 G)
def wv(T:aA)(st:aB):aB:=match T with
 |[]=>st
 |_::_=>{ st with E:=lA st.E st.E,G:=j4 st.G }
theorem gq{t' t:Nat}{g:GK}{v:AV}{E:aE}(h:Nat.beq t' t=true):bw ((t',g,v)::E) t=some (g,v):=by simp only [bw,h]
theorem er{t' t:Nat}{g:GK}{v:AV}{E:aE}(h:Nat.beq t' t=false):bw ((t',g,v)::E) t=bw E t:=by simp only [bw,h]
theorem D8{d:aE}{t:Nat}:{E:aE}->{x:GK×AV}->bw (lA d E) t=some x->x.1=none/\(∃v,bw d t=some (none,v))/\((∃v,bw E t=some (none,v))->bw E t=some x)
 |[],x,h=>by cases h
 |(t',g',v')::E,x,h=>by
  unfold lA at h;have cJ:bw (lA d E) t=some x->(∀v,Nat.beq t' t=true->bw d t'≠some (none,v)\/g'≠none)->x.1=none/\(∃v,bw d t=some (none,v))/\((∃v,bw ((t',g',v')::E) t=some (none,v))->bw ((t',g',v')::E) t=some x):=λm i=>by
   obtain ⟨a,c,l⟩:=D8 m;refine ⟨a,c,λhv=>?_⟩;cases hb:Nat.beq t' t
   .rw [er hb] at hv ⊢; exact l hv
   .exfalso;obtain ⟨j,g⟩:=c;obtain ⟨n,b⟩:=hv;rw [gq hb] at b;simp only [b0,n9] at b;have e:=ah hb;rcases i j hb with f|f
    .rw [e] at f;exact f g
    .exact f b.1
  dsimp only at h;split at h
  .rename_i v hv;cases a:oY g'
   .rw [a] at h;exact cJ h (λv _=> .inr (λe=>by rw [e] at a;cases a))
   .rw [a] at h;have c:bw ((t',g',v')::lA d E) t=some x:=h;cases hb:Nat.beq t' t
    .rw [er hb] at c ⊢;exact D8 (E:=E) c
    .rw [gq hb] at c ⊢;cases c;have e:=ah hb;refine ⟨?_,⟨v,by rw [<-e];exact hv⟩,λ_=>rfl⟩;cases k:g' with
     |none=>rfl
     |some _=>rw [k] at a;cases a
  next i=>exact cJ h (λv hb=> .inl (λe=>i v e))
theorem NO{a:aE}{t:Nat}{c:AV}(b:bw a t=some (none,c)):{E:aE}->{v:AV}->bw E t=some (none,v)->bw (lA a E) t=some (none,v)
 |[],v,h=>by cases h
 |(t',g',v')::E,v,h=>by
  unfold lA;cases hb:Nat.beq t' t
  .rw [er hb] at h;have ih:=NO b h;dsimp only;split
   .cases oY g'
    .exact ih
    .show bw ((t',g',v')::lA a E) t=_;rw [er hb];exact ih
   .exact ih
  .rw [gq hb] at h;cases h;have e:=ah hb;subst e;dsimp only;rw [b];exact gq hb
def ZD(F E0:aE):aE->Bool
 |[]=>true
 |x::E=>(match bw E0 x.1 with
  |some (none,_)=>true
  |_=>oY (bw F x.1))&&ZD F E0 E
theorem aa0{F c:aE}{t:Nat}:{E:aE}->{x:GK×AV}->ZD F c E=true->bw E t=some x->(∃v,bw c t=some (none,v))\/bw F t=none
 |[],x,_,h=>by cases h
 |(t',g',v')::E,x,hb,h=>by
  simp only [ZD,ae] at hb;cases b:Nat.beq t' t
  .rw [er b] at h;exact aa0 hb.2 h
  .have e:=ah b;subst e;have a:=hb.1;split at a
   next v hv=>exact .inl ⟨v,hv⟩
   .cases d:bw F t' with
    |none=>exact .inr rfl
    |some y=>rw [d] at a;cases a
def As(T:aA)(fr:Fr)(st:aB):Bool:=match T with
 |[]=>true
 |_::_=>ZD fr.F st.E st.E
theorem akx{ρ:ax}{T:aA}{E:aE}(h:∀x,x∈E->T.get x.2.1=aA.get [] x.2.1):aE.env ρ T E=aE.env ρ [] E:=by
 induction E with
 |nil=>rfl
 |cons x E ih=>
  obtain ⟨t,g,v⟩:=x;simp only [aE.env];rw [h _ (bY ..),ih (λx hx=>h x (aW _ hx))]
theorem St{ρ:ax}{T:aA}{G:List Row}(h:∀r,r∈G->T.get r.gd=aA.get [] r.gd):ab ρ T G=ab ρ [] G:=
 qD λr a=>Row.Bj (h r a)
theorem wB:{G:List Row}->∀r,r∈j4 G->r.gd=none
 |[],r,h=>by cases h
 |y::G,r,h=>by
  unfold j4 at h;cases a:oY y.gd
  .rw [a] at h;exact wB r h
  .rw [a] at h;rcases List.mem_cons.1 h with rfl|h
   .cases b:r.gd with
    |none=>rfl
    |some _=>rw [b] at a;cases a
   .exact wB r h
theorem yx{ρ:ax}{T:aA}{w:World}{B:Ctx}:∀{G:List Row} {A:Ctx},Sat (A++(ab ρ T G++B)) w->Sat (A++(ab ρ T (j4 G)++B)) w
 |[],_,h=>h
 |r::G,A,h=>by
  unfold j4;cases oY r.gd
  .exact yx (G:=G) (Sat.yB h)
  .have a:Sat ((A++[r.item ρ T])++(ab ρ T G++B)) w:=by simpa [ab] using h
   have:=yx (G:=G) a;simpa [ab] using this
theorem Ho{ρ:ax}{T:aA}{fr:Fr}{st:aB}{Φ:Ctx}{w:World}(k:As T fr st=true)(g:FT T fr)(f:Sat (ab ρ T st.G++(ab ρ T fr.H++Φ)) w):
  (wv T st).c=st.c/\iE (au ρ [] (wv T st).E fr.F) (au ρ T st.E fr.F)/\Sat (ab ρ [] (wv T st).G++(ab ρ [] fr.H++Φ)) w:=by
 cases T with
 |nil=>exact ⟨rfl,iE.refl,f⟩
 |cons x T=>
  refine ⟨rfl,λt p hp=>?_,?_⟩
  .have o:aE.env ρ (x::T) fr.F=aE.env ρ [] fr.F:=akx g.1;rw [au,DL] at hp ⊢;rw [o];cases b:look (aE.env ρ [] (wv (x::T) st).E) t with
   |none=>
    rw [b] at hp
    -- nothing kept: nothing told, or under a guard
    have:look (aE.env ρ (x::T) st.E) t=none:=by
     rw [sq] at b hp ⊢;cases j:bw st.E t with
     |none=>rfl
     |some y=>
      exfalso;have d:bw (lA st.E st.E) t=none:=by
       cases d:bw (lA st.E st.E) t with
       |none=>rfl
       |some z=>
        have:bw (wv (x::T) st).E t=some z:=d;rw [this] at b;cases b
      rcases aa0 k j with ⟨v,hv⟩|i
      .rw [NO hv hv] at d;cases d
      .rw [i] at hp;cases hp
    rw [this];exact hp
   |some q=>
    rw [b] at hp;cases hp;rw [sq] at b;cases d:bw (wv (x::T) st).E t with
    |none=>rw [d] at b;cases b
    |some y=>
     rw [d] at b;obtain ⟨e,n,m⟩:=D8 d;have l:=m n;rw [sq,l];simp only [j5,b0] at b ⊢;rw [<-b,e,aA.get_none,aA.get_none]
  .have e:=yx (A:=[]) f;have u:ab ρ (x::T) (j4 st.G)=ab ρ [] (j4 st.G):=St λr h=>by rw [wB r h,aA.get_none,aA.get_none]
   have s:ab ρ (x::T) fr.H=ab ρ [] fr.H:=St g.2;rw [pc,u,s] at e;exact e
def OO:Bool->Pt->List (Bool×Nat×Pt)->Type
 |true,_,_=>Empty
 |false,r,os=>eo (la r++fZ os)
abbrev aoR{R:Type}:(nv:Bool)->(r:Pt)->(os:List (Bool×Nat×Pt))->OO nv r os->(eo (la r++fZ os)->Option R)->Option R
 |true,_,_,x,_=>Empty.elim x
 |false,_,_,x,K=>K x
def isOk:(nv:Bool)->(r:Pt)->(os:List (Bool×Nat×Pt))->OO nv r os->eo (la r++fZ os)->Prop
 |true,_,_,_,_=>False
 |false,_,_,x,q=>x=q
theorem amI{R:Type}{a:R}:{nv:Bool}->{r:Pt}->{os:List (Bool×Nat×Pt)}->{x:OO nv r os}->{q:eo (la r++fZ os)}->{K:eo (la r++fZ os)->Option R}->isOk nv r os x q->aoR nv r os x K=some a->K q=some a
 |true,_,_,_,_,_,h,_=>h.elim
 |false,_,_,_,_,_,rfl,h=>h
abbrev Ri(p:Pt):Option Pt->Type
 |none=>eo (la p)
 |some q=>eo (la p) ⊕ eo (la q)
abbrev ZN{A B R:Type}(x:A ⊕ B)(f:A->R)(g:B->R):R:=match x with
 | .inl a=>f a
 | .inr b=>g b
def ajD(pp:Pt):(pq:Option Pt)->Ri pp pq->Value->ez->iL->List Nm->Prop
 |none,p,v,I,X,N=>Sem pp v none none [] (fI _ p) I X N
 |some _,.inl p,v,I,X,N=>Sem pp v none none [] (fI _ p) I X N
 |some q,.inr p,v,I,X,N=>Sem q v none none [] (fI _ p) I X N
structure bH where
 f:FuncId
 ps:List Pt
 pp:Pt
 pq:Option Pt
 nv:Bool
 lp:Bool
 r:Pt
 os:List (Bool×Nat×Pt)
 m:eo (lX ps)->Option (Except (Ri pp pq) (OO nv r os))
def bH.oe(e:bH):aq:=⟨e.f,e.ps,e.r,e.os,λ_=>none⟩
def bH.S(e:bH)(vs:vy)(N:List Nm)(I:ez)(X:iL)(Φ:Ctx)(r:Except (Ri e.pp e.pq) (OO e.nv e.r e.os))(v:Value)(w':World):Prop:=
 ∃x q,r= .ok x/\isOk e.nv e.r e.os x q/\∃(N1 N2:List Nm) (D1 D2:List bX) (I1 I2:ez) (X1 X2:iL),Sem e.r v none none N D1 I1 X1 N1/\Dv (SX N e.ps vs X) (λi=>vs[i]?) e.os N1 D2 I2 X2 N2/\D1++D2=fI _ q/\
  Sat ((dh I1++dh I2)++(eI I++Φ)) w'
def bH.Sp(e:bH)(I:ez)(Φ:Ctx)(r:Except (Ri e.pp e.pq) (OO e.nv e.r e.os))(c:tt)(w':World):Prop:=
 ∃p,r= .error p/\∃(v:Value) (N1:List Nm) (I1:ez) (X1:iL),c=gC v/\ajD e.pp e.pq p v I1 X1 N1/\Sat (dh I1++(ay e.lp [] (eI I)++Φ)) w'
def bH.Ok(P:Program)(Γg:Ctx)(e:bH):Prop:=Enters P e.f/\∀s r,e.m s=some r->∀(vs:vy) (N:List Nm) (I:ez) (X:iL) (Φ:Ctx) (w:World),
 tX e.ps vs [] [] [] (fI _ s) I X N->Sat (dh I++Φ) w->(∀it∈Γg,it∈Φ)->jX P e.f vs w (e.S vs N I X Φ r) (e.Sp I Φ r)
theorem Sat.move{A B C:Ctx}{x:Item}{w:World}(h:Sat (A++x::(B++C)) w):Sat (A++(B++x::C)) w:=by
 refine h.yE (λj k=>(j<A.length/\k=j)\/(A.length<=j/\j<A.length+B.length/\k=j+1)\/(j=A.length+B.length/\k=A.length)\/(A.length+B.length<j/\k=j)) (λj jt a=>?_) (λj k q b m l=>by omega);by_cases e:j<A.length
 .rw [b7 e] at a;exact .inr ⟨j,jt,.inl ⟨e,rfl⟩,by rw [b7 e];exact a,bQ.refl⟩
 .rw [bZ (by omega)] at a;by_cases i:j<A.length+B.length
  .rw [b7 (by omega)] at a;refine .inr ⟨j+1,jt,.inr (.inl ⟨by omega,i,rfl⟩),?_,bQ.refl⟩;rw [bZ (by omega)];have:j+1-A.length=(j-A.length)+1:=by omega
   rw [this,b8,b7 (by omega)];exact a
  .rw [bZ (by omega)] at a;by_cases g:j=A.length+B.length
   .subst g;rw [show A.length+B.length-A.length-B.length=0 by omega] at a;simp at a;subst a;exact .inr ⟨A.length,x,.inr (.inr (.inl ⟨rfl,rfl⟩)),by simp,bQ.refl⟩
   .refine .inr ⟨j,jt,.inr (.inr (.inr ⟨by omega,rfl⟩)),?_,bQ.refl⟩;rw [bZ (by omega)];have f:j-A.length-B.length=(j-A.length-B.length-1)+1:=by omega
    rw [f,b8] at a;have d:j-A.length=(j-A.length-1)+1:=by omega
    rw [d,b8,bZ (by omega)];have c:j-A.length-1-B.length=j-A.length-B.length-1:=by omega
    rw [c];exact a
theorem Sat.swp{w:World}{B C:Ctx}:∀{A P:Ctx},Sat (P++(A++(B++C))) w->Sat (P++(B++(A++C))) w
 |[],_,h=>h
 |x::A,P,h=>by
  have c:Sat ((P++[x])++(A++(B++C))) w:=by simpa using h
  have b:=Sat.swp (A:=A) c;have a:Sat (P++x::(B++(A++C))) w:=by simpa using b
  exact a.move
def cZ:List Row->List Row
 |[]=>[]
 |r::G=>ay r.cC (r::cZ G) (cZ G)
abbrev Fs(b:Bool)(H:List Row):List Row:=ay b (cZ H) H
theorem Dt{c:Nat}:{G:List Row}->bB c G=true->bB c (cZ G)=true
 |[],_=>rfl
 |r::G,h=>by
  simp only [bB,ae] at h;unfold cZ;cases r.cC
  .exact Dt h.2
  .show bB c (r::cZ G)=true;simp only [bB,ae];exact ⟨h.1,Dt h.2⟩
theorem anW{c:Nat}{b:Bool}{G:List Row}(h:bB c G=true):bB c (Fs b G)=true:=by
 cases b
 .exact h
 .exact Dt h
theorem ox{r:Row}:{G:List Row}->r∈cZ G->r∈G/\r.cC=true
 |[],h=>by cases h
 |x::G,h=>by
  unfold cZ at h;cases hx:x.cC <;> rw [hx] at h
  .exact ⟨aW _ (ox h).1,(ox h).2⟩
  .rcases List.mem_cons.1 h with rfl|h
   .exact ⟨bY .., hx⟩
   .exact ⟨aW _ (ox h).1,(ox h).2⟩
theorem JM{G H:List Row}:cZ (G++H)=cZ G++cZ H:=by
 induction G with
 |nil=>rfl
 |cons r G ih=>
  show ay r.cC (r::cZ (G++H)) (cZ (G++H))=ay r.cC (r::cZ G) (cZ G)++cZ H;rw [ih];cases r.cC <;> rfl
theorem aid{ρ:ax}{T:aA}{w:World}{Γ:Ctx}(h:Sat Γ w){H:List Row}(d:∀r∈H,r.item ρ T∈Γ):Sat (ab ρ T (cZ H)++Γ) w:=by
 refine h.alP _ (List.all_eq_true.2 λit a=>?_) ?_
 .obtain ⟨r,b,rfl⟩:=List.mem_map.1 a;exact Row.aiH (ox b).2
 .have:∀l:List Item,(∀it∈l,it.P Γ.M w)->agl Γ.M w l:=λl=>by
   induction l with
   |nil=>intro _;trivial
   |cons x l ih=>intro c;exact ⟨c x (bY ..),ih λit a=>c it (aW _ a)⟩
  refine this _ λit a=>?_;obtain ⟨r,b,rfl⟩:=List.mem_map.1 a;exact h.all _ (d r (ox b).1)
theorem anQ{L:tj}{A B:Ctx}(h:∀i,some i∈L->i<A.length):∃a,hU L (A++B)=a++B/\a.length=A.length:=by
 induction L with
 |nil=>exact ⟨A,rfl,rfl⟩
 |cons o L ih=>
  obtain ⟨a,c,b⟩:=ih (λi hi=>h i (aW _ hi));cases o with
  |none=>exact ⟨a,c,b⟩
  |some i=>
   refine ⟨a.set i fE,?_,by rw [si,b]⟩;show (hU L (A++B)).set i fE=_;have:=h i (bY ..);rw [c,List.set_append_left _ _ (by omega)]
theorem Sat.JJ{w:World}{B C:Ctx}:∀{A:Ctx},Sat (B++(A++C)) w->Sat (B++C) w
 |[],h=>h
 |_x::A,h=>Sat.JJ (A:=A) (Sat.yB h)
def Li{R:Type}(st:aB)(pp:Pt)(G1:List Row)(KP:AV->aB->Option R)(p:eo (la pp)):Option R:=
 match fill (rq [] st.c) pp none none 0 (fI _ p) with
 |⟨v,R1,k,_,_⟩=>KP v { st with c:=st.c+k,G:=R1.map (·.2)++G1 }
abbrev aiU{R:Type}(st:aB)(pp:Pt):(pq:Option Pt)->(G1:List Row)->(KP:AV->aB->Option R)->Ri pp pq->Option R
 |none,G1,KP,p=>Li st pp G1 KP p
 |some q,G1,KP,p=>ZN p (Li st pp G1 KP) (Li st q G1 KP)
def aaR{R:Type}(fr:Fr)(st:aB)(d:w4)(args:List AV)(e:bH)(KP:Bool->AV->aB->Option R)(K:cB R):Option (Option R):=
 match Fp (cn (dL st.G fr.H e.ps args) st.G) fr.H e.ps args [] [] [] with
  |some mr=>ay (AI (mr.S.map λx=>df (cn (dL st.G fr.H e.ps args) st.G) fr.H x.2)&&NT (cn (dL st.G fr.H e.ps args) st.G).length (xq (cn (dL st.G fr.H e.ps args) st.G) fr.H mr.S)&&ON st.c mr.B&&AV.bV st.c args&&Pu st.c mr.X&&oV (vj mr.B e.ps args mr.X) e.os) (match cE (lX e.ps) mr.D with
   |some s=>some (kS (e.m s) (aiU st e.pp e.pq (ay e.lp (cZ (cn (dL st.G fr.H e.ps args) st.G)) (jw (pd (xq (cn (dL st.G fr.H e.ps args) st.G) fr.H mr.S) 0 (cn (dL st.G fr.H e.ps args) st.G)))) (KP e.lp))
     (λx=>aoR e.nv e.r e.os x (MA fr st none d args e.oe mr (jw (pd (xq (cn (dL st.G fr.H e.ps args) st.G) fr.H mr.S) 0 (cn (dL st.G fr.H e.ps args) st.G))) K)))
   |none=>none) none
  |none=>none
def JR{R:Type}(fr:Fr)(st:aB)(d:w4)(f:FuncId)(args:List AV)(KP:Bool->AV->aB->Option R)(K:cB R):List bH->Option (Option R)
 |[]=>none
 |e::tp=>ay (Nat.beq e.f f) (match aaR fr st d args e KP K with
   |some r=>some r
   |none=>JR fr st d f args KP K tp) (JR fr st d f args KP K tp)
def afo{R:Type}(tp:List bH)(T:aA)(fr:Fr)(st:aB)(o:Oper)(KP:Bool->AV->aB->Option R)(K:cB R):Option (Option R):=match o.guard with
 |some _=>none
 |none=>(match o.op with
  | .panic x=>(match bq T st.E fr.F none x with
   |some (.ifc t v)=>some (KP false (.ifc t v) st)
   |_=>none)
  | .call c=>(match c.callee with
   | .value fo=>(match bq T st.E fr.F none fo with
    |some (.fn f a b)=>(match od T st.E fr.F none c.args.toList with
     |some vs=>ay (mh o.dst T&&Lb fr.n o.dst&&st.low fr) (JR fr st o.dst f (a++vs++b) KP K tp) none
     |none=>none)
    |_=>none)
   |_=>none)
  |_=>none)
section
variable {P : Program} {R : Type} {r : R} {K : cB R} {KP : Bool -> AV -> aB -> Option R} {b : Bool} {T : aA} {fr : Fr} {st : aB} {d : w4} {ρ : ax} {Φ Γg : Ctx} {w : World}
def abO(r:R)(KP:Bool->AV->aB->Option R)(T:aA)(fr:Fr)(st:aB)(ρ:ax)(Φ:Ctx)(v:Value)(w':World):Prop:=
 ∃(b:Bool) (ρ':ax) (st':aB) (av:AV),KP b av st'=some r/\aT st.c ρ ρ'/\st.c<=st'.c/\st'.E=st.E/\av.val ρ'=v/\Sat (ab ρ' T st'.G++(ab ρ' T (Fs b fr.H)++Φ)) w'/\au ρ' T st.E fr.F=au ρ T st.E fr.F
theorem HW{pp:Pt}{e:List Row}{p:eo (la pp)}{v:Value}{w':World}{N1:List Nm}{l:ez}{w:iL}
  (t:st.low fr=true) (n:bB st.c e=true) (u:Sem pp v none none [] (fI _ p) l w N1)
  (z:Sat (dh l++(ab ρ T e++(ab ρ T (Fs b fr.H)++Φ))) w') (h:Li st pp e (KP b) p=some r):abO r KP T fr st ρ Φ v w':=by
 have m:=sR _ _ _ _ _ _ _ _ _ u;have d:=XB (ρ:=ρ) (c:=st.c) (N:=[]) (B:=[]) (N2:=N1) .nil m rfl;have a:aT st.c ρ (λi=>ay (Nat.blt i st.c) (ρ i) ((N1[i-st.c]?).getD cM)):=λj D=>by
  have:Nat.blt j st.c=true:=by simpa using D
  simp only [this]
 generalize y:(λi=>ay (Nat.blt i st.c) (ρ i) ((N1[i-st.c]?).getD cM))=ρ' at d a;obtain ⟨g,s,q,o,f⟩:=Ad (T:=T) pp v none none [] (fI _ p) l w N1 u (DM _) d (by simp) [];rw [eF,qf] at g s q o f;unfold Li at h;generalize fill (rq [] st.c) pp none none 0 (fI _ p)=L at g s q o f h;obtain ⟨x,G,k,J,I⟩:=L;simp only at g s q o f;dsimp only at h;have F:=bc (T:=T) a n;have E:=bc (T:=T) a (anW (b:=b) (aB.cz.1 t).2.2.2);refine ⟨b,ρ',_,x,h,a,qt _ _,rfl,g,?_,mn t a⟩;show Sat (ab ρ' T (G.map (·.2)++e)++(ab ρ' T (Fs b fr.H)++Φ)) w';rw [bh,F,E,aO];exact Sat.leL (A:=[]) (B:=dh l) (C:=ab ρ T e++(ab ρ T (Fs b fr.H)++Φ)) (by simpa using z) f.rw
theorem Sa{pp:Pt}:{pq:Option Pt}->{a:List Row}->{p:Ri pp pq}->{v:Value}->{w':World}->{N1:List Nm}->{d:ez}->{e:iL}->
  st.low fr=true->bB st.c a=true->ajD pp pq p v d e N1->Sat (dh d++(ab ρ T a++(ab ρ T (Fs b fr.H)++Φ))) w'->aiU st pp pq a (KP b) p=some r->abO r KP T fr st ρ Φ v w'
 |none,_,_,_,_,_,_,_,hl,hG,h1,hs,h=>HW hl hG h1 hs h
 |some _,_,.inl _,_,_,_,_,_,hl,hG,h1,hs,h=>HW hl hG h1 hs h
 |some _,_,.inr _,_,_,_,_,_,hl,hG,h1,hs,h=>HW hl hG h1 hs h
theorem aiB{e:bH}{args:List AV}(Z:st.low fr=true)(n:Sat (ab ρ T st.G++(ab ρ T fr.H++Φ)) w)(he:e.Ok P Γg)(l:∀it∈Γg,it∈Φ)(h:aaR fr st d args e KP K=some (some r)):
  jX P e.f (AV.ao ρ args) w (aV r K T fr st none d ρ Φ) (λc w'=>∃v,c=gC v/\abO r KP T fr st ρ Φ v w'):=by
 have E:=ph (ids:=dL st.G fr.H e.ps args) (aB.cz.1 Z).2.2.1;replace n:=iG (ids:=dL st.G fr.H e.ps args) n;unfold aaR at h;generalize cn (dL st.G fr.H e.ps args) st.G=a at E n h;have hd:=aid n (H:=a++fr.H) (λr hr=>List.mem_append.2 ((List.mem_append.1 hr).imp (λh=>List.mem_map_of_mem h) (λh=>qz _ (List.mem_map_of_mem h))));replace hd:Sat (ab ρ T a++(ab ρ T fr.H++(ab ρ T (cZ (a++fr.H))++Φ))) w:=by exact Sat.swp (P:=ab ρ T a) (Sat.swp (P:=[]) hd)
 have O:=l;replace l:∀it∈Γg,it∈ab ρ T (cZ (a++fr.H))++Φ:=λit D=>c5 _ (O it D);generalize M:ab ρ T (cZ (a++fr.H))++Φ=g at hd l;have hdr:∀{A:Ctx} {w':World},Sat (A++g) w'->Sat (A++Φ) w':=λ{A w'} h=>by rw [<-M] at h;exact Sat.JJ h
 replace n:=hd;split at h
 .rename_i m hm;obtain ⟨h1,h2⟩:=aG h;simp only [ae] at h1;obtain ⟨⟨⟨⟨⟨h3,h4⟩,h5⟩,h6⟩,h7⟩,h9⟩:=h1;split at h2
  .rename_i s Q;simp only [b0] at h2;obtain ⟨N,I,s1,n1,a1⟩:=wS n e.ps args [] [] [] m [] hm (.inl rfl) .nil;rw [<-Aa _ Q] at s1;obtain ⟨p1,p2⟩:=MF n a1;have o:=vU h3;obtain ⟨q1,_⟩:=vw n p1 o;have J:∀(L:tj) (G:List Row) (k:Nat),bB st.c G=true->bB st.c (jw (pd L k G))=true:=λL G=>by
    induction G with
    |nil=>intro k _;rfl
    |cons r G ih=>
     intro k W;simp only [bB,ae] at W;show bB st.c (jw ((ay (ju k L) .gone r)::pd L (k+1) G))=true;cases ju k L
     .cases r <;> first|exact ih (k+1) W.2|(simp only [jw,bB,ae];exact ⟨W.1,ih (k+1) W.2⟩)
     .exact ih (k+1) W.2
   have t:=J (xq a fr.H m.S) a 0 E;have R:∀it∈Γg,it∈hU (m.S.map λx=>df a fr.H x.2) (ab ρ T a++(ab ρ T fr.H++g)):=λit D=>by
    obtain ⟨k,u⟩:=List.mem_iff_getElem?.1 (l it D);have hk2:(ab ρ T a++(ab ρ T fr.H++g))[a.length+fr.H.length+k]? =some it:=by
     rw [bZ (by simp [ab];omega),bZ (by simp [ab];omega)];have:a.length+fr.H.length+k-(ab ρ T a).length-(ab ρ T fr.H).length=k:=by simp [ab];omega
     rw [this];exact u
    refine n3 (i:=a.length+fr.H.length+k) ?_;rw [Ab,hk2];intro U;obtain ⟨x,_,hx⟩:=List.mem_map.1 U;have:=PL hx;omega
   have y:=λrr hr=>he.2 s rr hr (AV.ao ρ args) N I (dB ρ m.X) _ w (by simpa only [AV.ao] using s1) q1 R;have j:∀{A:Ctx} {w':World},Sat (A++(eI I++hU (m.S.map λx=>df a fr.H x.2) (ab ρ T a++(ab ρ T fr.H++g)))) w'->Sat (A++(ab ρ T (jw (pd (xq a fr.H m.S) 0 a))++(ab ρ T fr.H++Φ))) w':=λ{A w'} c4=>by have Y:=Fc p2 o c4;rw [Px a1,Bf h4] at Y;have c6:=Ct Y;rw [<-aO (ab ρ T (jw (pd (xq a fr.H m.S) 0 a))),<-aO A] at c6;have c7:=hdr c6;rwa [aO A,aO] at c7
   rcases agD h2 with ⟨p,hq,u⟩|⟨q,hq,u⟩
   .refine (y _ hq).mono (λv w' hv=>?_) (λc w' hv=>?_)
    .obtain ⟨x',q',z,_⟩:=hv;cases z
    .obtain ⟨p',C,v,N1,I1,X1,c1,c2,F⟩:=hv;cases C;refine ⟨v,c1,?_⟩;cases V:e.lp with
     |false=>rw [V] at F u;exact Sa (b:=false) Z t c2 (j F) u
     |true=>
      rw [V] at F u;obtain ⟨A',e1,_⟩:=anQ (L:=m.S.map λx=>df a fr.H x.2) (A:=ab ρ T a++ab ρ T fr.H) (B:=g) (λi hi=>by obtain ⟨x,_,hx⟩:=List.mem_map.1 hi;have:=PL hx;simp only [ab,cm,List.length_map];omega)
      rw [aO] at e1;rw [e1] at F;have Y:Sat (dh I1++g) w':=Sat.JJ (A:=A') F;rw [<-M,JM,bh,aO] at Y;exact Sa (b:=true) Z (Dt E) c2 Y u
   .refine (y _ hq).mono (λv w' hv=>?_) (λc w' hv=>?_)
    .obtain ⟨x',q',z,hi,N1,N2,D1,D2,I1,I2,X1,X2,c1,c2,F,c4⟩:=hv;cases z;exact LZ (e:=e.oe) Z t n1 h5 h6 h7 h9 c1 c2 F aA.get_none (j c4) (.inl rfl) (amI hi u)
    .obtain ⟨p',C,_⟩:=hv;cases C
  .cases h2
 .cases h
theorem Kl{f:FuncId}{args:List AV}(j:st.low fr=true)(g:Sat (ab ρ T st.G++(ab ρ T fr.H++Φ)) w)(a:∀it∈Γg,it∈Φ):∀{tp:List bH},(∀e∈tp,e.Ok P Γg)->JR fr st d f args KP K tp=some (some r)->
  Enters P f/\jX P f (AV.ao ρ args) w (aV r K T fr st none d ρ Φ) (λc w'=>∃v,c=gC v/\abO r KP T fr st ρ Φ v w')
 |[],_,h=>by cases h
 |e::tp,htp,h=>by
  unfold JR at h;rcases dp h with ⟨l,b⟩|⟨_,b⟩
  .split at b
   next m i=>cases b;have:=ah l;subst this;exact ⟨(htp e (bY ..)).1,aiB j g (htp e (bY ..)) a i⟩
   .exact Kl j g a (λe k=>htp e (aW _ k)) b
  .exact Kl j g a (λe k=>htp e (aW _ k)) b
variable {σ : v7} {Q : br} {D : u9} {ops rest : xc} {tp : List bH}
theorem amq{o:Oper}(h1:eD T st.E fr.F)(U:Sat (ab ρ T st.G++(ab ρ T fr.H++Φ)) w)(M:∀it∈Γg,it∈Φ)(O:∀e∈tp,e.Ok P Γg)
  (h:afo tp T fr st o KP K=some (some r))
  (p:∀st' ρ' w',eD T st'.E fr.F->aT st.c ρ ρ'->st.c<=st'.c->K st'=some r->ab ρ' T fr.H=ab ρ T fr.H->Sat (ab ρ' T st'.G++(ab ρ' T fr.H++Φ)) w'->WL P σ ops.toArray Q fr.n D rest (au ρ' T st'.E fr.F) w')
  (g:∀b v st' ρ' w',aT st.c ρ ρ'->st.c<=st'.c->KP b v st'=some r->st'.E=st.E->au ρ' T st.E fr.F=au ρ T st.E fr.F->Sat (ab ρ' T st'.G++(ab ρ' T (Fs b fr.H)++Φ)) w'->At Q (.panic (gC (v.val ρ'))) fr.n D (au ρ' T st'.E fr.F) w'):
  WL P σ ops.toArray Q fr.n D (o::rest) (au ρ T st.E fr.F) w:=by
 obtain ⟨dst,op,ty,pos,af,gd⟩:=o;unfold afo at h;split at h
 .cases h
 rename_i s;simp only at s;subst s;split at h
 .rename_i x j;simp only at j;subst j;split at h
  next t v hx=>have Z:=pa h;have m:=aR (ρ:=ρ) hx;rw [aA.get_none] at m;simp only [AV.val] at m;refine akS m ?_;have:=g false (.ifc t v) st ρ w .refl (bb _) Z rfl rfl U;simp only [AV.val] at this;exact this
  .cases h
 .rename_i c j;simp only at j;subst j;obtain ⟨A,xs,tys⟩:=c;obtain ⟨xs⟩:=xs;simp only at h;split at h
  .rename_i fo;split at h
   .rename_i f a b R;split at h
    .rename_i vs N;obtain ⟨V,h3⟩:=aG h;simp only [ae] at V;obtain ⟨⟨S,hd⟩,Y⟩:=V;obtain ⟨u,hc⟩:=Kl Y U M O h3;have d:=aR (ρ:=ρ) R;have i:=fK (ρ:=ρ) N;rw [aA.get_none] at d i;simp only [AV.val] at d;have k:AV.ao ρ (a++vs++b)=AV.ao ρ a++AV.ao ρ vs++AV.ao ρ b:=by rw [cX,cX]
     have y:∀v w',aV r K T fr st none dst ρ Φ v w'->WL P σ ops.toArray Q fr.n D rest (oR dst true v (au ρ T st.E fr.F)) w':=λv w' hv=>by obtain ⟨ρ',st',av,L,J,I,q,C,B,z,X⟩:=hv;have:=p st' ρ' w' (by rw [q];exact h1.out S none av) J I L z X;rw [q,sJ,C,B,aA.get_none] at this;exact this
     have l:∀c w',(∃v,c=gC v/\abO r KP T fr st ρ Φ v w')->At Q (.panic c) fr.n D (au ρ T st.E fr.F) w':=λc w' hv=>by obtain ⟨v,rfl,W,ρ',st',av,L,J,I,q,C,B,z⟩:=hv;have:=g W av st' ρ' w' J I L q z B;rw [C,q,z] at this;exact this
     cases dst with
     |none=>exact ai3 u d i k hc y l
     |some dd=>exact acA u d i k hd hc y l
    .cases h
   .cases h
  .cases h
 .cases h
end
theorem Sat.aj3{A B:Ctx}{x:Item}{w:World}(h:Sat (A++x::B) w):Sat (x::(A++B)) w:=by
 refine h.yE (λj k=>(j=0/\k=A.length)\/(0<j/\j<=A.length/\k+1=j)\/(A.length<j/\k=j)) (λj jt a=>?_) (λj k q b d c=>by omega);cases j with
 |zero=>
  simp only [c8,b0] at a;subst a;exact .inr ⟨A.length,x,.inl ⟨rfl,rfl⟩,by simp,bQ.refl⟩
 |succ j=>
  simp only [b8] at a;by_cases e:j<A.length
  .rw [b7 e] at a;exact .inr ⟨j,jt,.inr (.inl ⟨by omega,by omega,rfl⟩),by rw [b7 e];exact a,bQ.refl⟩
  .rw [bZ (by omega)] at a;refine .inr ⟨j+1,jt,.inr (.inr ⟨by omega,rfl⟩),?_,bQ.refl⟩;rw [bZ (by omega)];have:j+1-A.length=(j-A.length)+1:=by omega
   rw [this,b8];exact a
theorem Sat.apJ{Γ:Ctx}{it new:Item}{w:World}(h:Sat (it::Γ) w)(a:∀b∈new.own,b∈it.own)(c:∀M',Mv (Ctx.M (it::Γ)) w M' w->new.P M' w):Sat (new::Γ) w:=by have:=h.mD (i:=0) (it:=it) (new:=new) (w':=w) rfl ⟨rfl,rfl,rfl,bb _,λ_ _ _=>rfl⟩ (λb hb=>⟨h.lt (Ctx.By.2 (.inl (a b hb))),.inl (a b hb)⟩) (λM' m _=>c M' m);simpa using this
def GF(X:Cx)(T:aA)(fr:Fr)(st:aB)(o:Oper):Option (TypeId×List AV×List AV):=match o.op,o.guard with
 | .alloc t,none=>(match Zq X.P t with
  |some cs=>some (t,[],cs)
  |none=>none)
 | .buildSlice t len ps,none=>(match eP X.P t with
  |some e=>(match jD X.P e with
   |some z=>(match od T st.E fr.F none (ps.toList.map (·.2)) with
    |some vs=>(match yF (λi=>some (i*z.1,z.1)) ((ps.toList.map (·.1)).zip vs) (WT len (z.2.2.cells.toList.map iO)) with
     |some cs=>ay ( Nat.beq z.2.2.cells.size z.1&&Nat.ble (len*z.1) 16777216&&(Nat.blt 0 (len*z.1)||Nat.beq len 0&&ps.toList.isEmpty) ) (some (e,vs,cs)) none
     |none=>none)
    |none=>none)
   |none=>none)
  |none=>none)
 |_,_=>none
theorem aae{X:Cx}{T:aA}{fr:Fr}{st:aB}{ρ:ax}{o:Oper}{e:TypeId}{vs cs:List AV}(h:GF X T fr st o=some (e,vs,cs))(w:World):
  kq X.P (au ρ T st.E fr.F) o w (Ey o w.heap.size) (w.alloc (.cells (AV.ao ρ cs).toArray e)):=by
 obtain ⟨dst,op,ty,pos,af,gd⟩:=o;unfold GF at h;simp only at h;split at h
 .rename_i t;split at h
  .rename_i p a;cases h;unfold Zq at a;split at a
   next z k=>cases a;obtain ⟨n,b,z⟩:=z;have:=HK (P:=X.P) (E:=au ρ T st.E fr.F) (w:=w) (dst:=dst) (ty:=ty) (pos:=pos) (af:=af) (zs:=z.cells.toList) (cD k) (by simp);rw [kx];exact this
   .cases a
  .cases h
 .rename_i t len ps;obtain ⟨ps⟩:=ps;split at h
  .rename_i e' q;split at h
   .rename_i z k;obtain ⟨n,bytes,z⟩:=z;split at h
    .rename_i s m;split at h
     .rename_i p a;obtain ⟨r,v⟩:=aG h;cases v;simp only [ae,cp] at r;obtain ⟨⟨A,y⟩,g⟩:=r;have f:z.cells.size=n:=ah A;have d:=fK (ρ:=ρ) m;rw [aA.get_none] at d;have c:=vP (ρ:=ρ) a;rw [Ag,Qv,kx] at c;rcases g with g|⟨g,u⟩
      .have i:0<n:=by
        have:0<len*n:=by simpa using g
        exact qU (λe=>by simp [e] at this)
       have j:nX n len z.cells.toList ((ps.map (·.1)).zip (AV.ao ρ vs))=some (AV.ao ρ cs).toArray:=by unfold nX;have l:=C4 z.cells.toList (by simp [f];exact i) len;simp only [ca,f] at l;simp only [ca,f];rw [<-c,<-l]
       exact nE (P:=X.P) (w:=w) (dst:=dst) (ty:=ty) (pos:=pos) (af:=af) (bT q) (cD k) (zs:=z.cells.toList) (by simp) g y d j
      .have x:len=0:=ah g;subst x;have l:ps=[]:=by simpa using u
       subst l;have:cs=[]:=by simp only [List.map_nil,List.zip_nil_left,WT,List.replicate_zero,List.flatten_nil,yF,b0] at a;exact a.symm
       subst this;exact rL (P:=X.P) (E:=au ρ T st.E fr.F) (w:=w) (dst:=dst) (ty:=ty) (pos:=pos) (af:=af) (bT q) (cD k)
     .cases h
    .cases h
   .cases h
  .cases h
 .cases h
def akA{R:Type}(X:Cx)(T:aA)(fr:Fr)(st:aB)(o:Oper)(K:cB R):Option R:=match GF X T fr st o,o.dst with
 |some p,some d=>(match o.op with
  | .buildSlice _ len _=>(match yz X.tys p.1 with
   |some u=>(match rdL (cn (AV.dY (.agg p.2.1)++(p.2.1.map AV.dY).flatten) st.G) fr.H u len p.2.2 with
    |some xs=>ay (st.low fr&&Nat.ble len 9223372036854775807) (K { st with c:=st.c+1,E:=cr (some d) none (.sl st.c) st.E,G:= .own st.c u p.1 xs st.c::cn (AV.dY (.agg p.2.1)++(p.2.1.map AV.dY).flatten) st.G }) none
    |none=>none)
   |none=>none)
  |_=>ay (st.low fr&&AV.bV st.c p.2.2) (afP st d p.1 p.2.2 K) none)
 |_,_=>none
section
variable {X : Cx} {R : Type} {r : R} {K : cB R} {T : aA} {fr : Fr} {st : aB} {ρ : ax} {Φ : Ctx} {w : World}
theorem anD{o:Oper}{b:Nat}{e':TypeId}{k:vy}(g:Sat (ab ρ T st.G++(ab ρ T fr.H++(box b e' k::Φ))) w)
  (J:∀e vs cs,GF X T fr st o=some (e,vs,cs)->e'=e/\k=AV.ao ρ cs) (h:akA X T fr st o K=some r):
  aV r K T fr st none o.dst ρ Φ (Ey o b) w:=by
 obtain ⟨dst,op,ty,pos,af,gd⟩:=o;unfold akA at h;simp only at h;split at h
 .rename_i p d hp;obtain ⟨e,vs,cs⟩:=p;obtain ⟨rfl,rfl⟩:=J _ _ _ hp;split at h
  .rename_i t len ps;split at h
   .rename_i u O;split at h
    .rename_i xs n;obtain ⟨B,A⟩:=aG h;simp only [ae] at B;obtain ⟨s,L⟩:=B;have z:=ph (ids:=AV.dY (.agg vs)++(vs.map AV.dY).flatten) (aB.cz.1 s).2.2.1;replace g:=iG (ids:=AV.dY (.agg vs)++(vs.map AV.dY).flatten) g;simp only at A;generalize cn (AV.dY (.agg vs)++(vs.map AV.dY).flatten) st.G=G at A z g n;obtain ⟨I,F⟩:=Ru (ρ:=ρ) (T:=T) g _ _ _ n;have f:Sat ((ab ρ T G++ab ρ T fr.H)++box b e' (AV.ao ρ cs)::Φ) w:=by rw [aO];exact g
     have a:=f.aj3;have mv:Mv (Ctx.M (ab ρ T G++(ab ρ T fr.H++(box b e' (AV.ao ρ cs)::Φ)))) w (Ctx.M (box b e' (AV.ao ρ cs)::((ab ρ T G++ab ρ T fr.H)++Φ))) w:=Mv.weaken w λc hc=>by
      obtain ⟨it,hi,hb⟩:=hc;refine ⟨it,?_,hb⟩;simp only [qx,List.mem_append] at hi ⊢;rcases hi with h|(h|h)|h
      .exact .inr (.inr (.inl h))
      .exact .inl h
      .exact .inr (.inl h)
      .exact .inr (.inr (.inr h))
     refine aV.new (ρ':=ρ.set st.c { cM with v:=(some ⟨b,0,none⟩,len,len),y:=⟨.l u,xs⟩ }) (av:= .sl st.c) s A ax.aY (eb _) rfl (by simp only [AV.val,ax.bA];rfl) ?_;show Sat (ab _ T (_::G)++_) w;have e:=bc (T:=T) (ax.aY (ρ:=ρ) (j:=st.c) (x:={ cM with v:=(some ⟨b,0,none⟩,len,len),y:=⟨.l u,xs⟩ })) z;rw [ab,cq];rw [ab] at e;rw [e];have hb:eC w b e' (AV.ao ρ cs):=a.at_ (i:=0) rfl;have q:Sat ((Row.own st.c u e' xs st.c).item (ρ.set st.c { cM with v:=(some ⟨b,0,none⟩,len,len),y:=⟨.l u,xs⟩ }) T::((ab ρ T G++ab ρ T fr.H)++Φ)) w:=by
      refine a.apJ (λc hc=>?_) (λM' m=>?_)
      .simp only [Row.item,ax.bA] at hc;exact Ac hc
      .simp only [Row.item,ax.bA];exact ⟨(bJ.of (fT.fresh hb I L (F.mv (mv.trans m)))).BC,trivial⟩
     rw [aO] at q;exact q
    .cases h
   .cases h
  .rename_i C;obtain ⟨B,A⟩:=aG h;simp only [ae] at B;obtain ⟨s,E⟩:=B;have f:Sat ((ab ρ T st.G++ab ρ T fr.H)++box b e' (AV.ao ρ cs)::Φ) w:=by rw [aO];exact g
   have a:=f.aj3;rw [aO] at a;have N:Ey ⟨some d,op,ty,pos,af,gd⟩ b= .pointer (some ⟨b,0,none⟩):=by
    unfold Ey;split
    next D=>exact (C _ _ _ D).elim
    .rfl
   rw [N];refine aV.new (ρ':=ρ.set st.c { cM with b:=b }) (av:= .ptr st.c 0) s A ax.aY (eb _) rfl (by simp only [AV.val,ax.bA]) ?_;show Sat (ab _ T (_::st.G)++_) w;have e:=bc (T:=T) (ax.aY (ρ:=ρ) (j:=st.c) (x:={ cM with b:=b })) (aB.cz.1 s).2.2.1;rw [ab,cq];rw [ab] at e;rw [e];simp only [Row.item,ax.bA];rw [AV.bS ax.aY _ E];exact a
 .cases h
end
variable {o : Oper}
abbrev ahd{R:Type}(fr:Fr)(KP:AV->aB->Option R)(T:aA)(v:AV)(st:aB):Option R:=ay (As T fr st) (KP v (wv T st)) none
def xp{R:Type}(X:Cx)(tb:List aq)(tp:List bH)(KP:Bool->AV->aB->Option R)(ops:xc)(fr:Fr):xc->aA->aB->cB R->Option R
 |[],T,st,K=>ay (As T fr st) (K (wv T st)) none
 |o::l,T,st,K=>match afo tp T fr st o (λb=>ahd fr (KP b) T) (λst=>xp X tb tp KP ops fr l T st K) with
  |some q=>q
  |none=>stepG ops T fr st o λT g=>opD X tb T fr st g o λst=>xp X tb tp KP ops fr l T st K
section
variable {R : Type} {X : Cx} {tb : List aq} {tp : List bH} {KP : Bool -> AV -> aB -> Option R} {b : Bool} {σ : v7} {Q : br} {D : u9} {ops : xc} {r : R} {fr : Fr} {Φ : Ctx} {K : cB R}
theorem aeq{T:aA}{v:AV}{st:aB}{ρ:ax}{w:World}(d:FT T fr)(h:ahd fr (KP b) T v st=some r)(j:Sat (ab ρ T st.G++(ab ρ T (Fs b fr.H)++Φ)) w):
  ∃st',KP b v st'=some r/\st'.c=st.c/\iE (au ρ [] st'.E fr.F) (au ρ T st.E fr.F)/\Sat (ab ρ [] st'.G++(ab ρ [] (Fs b fr.H)++Φ)) w:=by
 unfold ahd at h;obtain ⟨e,l⟩:=aG h;have k:As T ⟨fr.F,Fs b fr.H,fr.n⟩ st=true:=by unfold As at e ⊢;exact e
 obtain ⟨i,g,f⟩:=Ho (fr:=⟨fr.F,Fs b fr.H,fr.n⟩) k ⟨d.1,λr a=>d.2 r (by
  cases b
  .exact a
  .exact (ox a).1)⟩ j
 exact ⟨_,l,i,g,f⟩
theorem Gx{rest:xc}(g:∀it∈X.Γ,it∈Φ)(m:∀e∈tb,e.Ok X.P X.Γ)(k:∀e∈tp,e.Ok X.P X.Γ):∀{l:xc} {T:aA} {st:aB} {ρ:ax} {w:World},eD T st.E fr.F->mF ops fr.n T->FT T fr->Sat (ab ρ T st.G++(ab ρ T fr.H++Φ)) w->
  xp X tb tp KP ops fr l T st K=some r->
  (∀st' ρ' w',aT st.c ρ ρ'->st.c<=st'.c->K st'=some r->Sat (ab ρ' [] st'.G++(ab ρ' [] fr.H++Φ)) w'->WL X.P σ ops.toArray Q fr.n D rest (au ρ' [] st'.E fr.F) w')->
  (∀b v st' ρ' w',aT st.c ρ ρ'->st.c<=st'.c->KP b v st'=some r->Sat (ab ρ' [] st'.G++(ab ρ' [] (Fs b fr.H)++Φ)) w'->At Q (.panic (gC (v.val ρ'))) fr.n D (au ρ' [] st'.E fr.F) w')->
  WL X.P σ ops.toArray Q fr.n D (l++rest) (au ρ T st.E fr.F) w
 |[],T,st,ρ,w,h1,h2,p,hs,h,next,pnext=>by
  unfold xp at h;obtain ⟨U,S⟩:=aG h;obtain ⟨C,M,B⟩:=Ho U p hs;exact λa p hd=>next _ ρ w .refl (by rw [C];exact bb _) S B a (p.lq M) hd
 |o::l,T,st,ρ,w,h1,h2,p,hs,h,next,pnext=>by
  unfold xp at h;split at h
  .rename_i q R;subst h;refine amq h1 hs g k R (λst' ρ' w' A y i J Y I=>?_) (λz v st' ρ' w' A N L W V y=>?_)
   .exact Gx g m k A h2 p I J (λd f j x u t s=>next d f j (y.trans x i) (b9 i u) t s) (λz v d f j x u t s=>pnext z v d f j (y.trans x i) (b9 i u) t s)
   .obtain ⟨d,C,M,O,B⟩:=aeq p L y;exact (pnext z v d ρ' w' A (by omega) C B).lq _ O
  .exact acT (K:=λT st=>xp X tb tp KP ops fr l T st K) h1 h2 rfl (λ_ h=>h) p hs g m h (λT' st' ρ' w' A N L y i J Y I=>
    Gx g m k A N L I J (λd f j x u t s=>next d f j (y.trans x i) (b9 i u) t s) (λz v d f j x u t s=>pnext z v d f j (y.trans x i) (b9 i u) t s))
theorem Vg(f:∀it∈X.Γ,it∈Φ)(i:∀e∈tb,e.Ok X.P X.Γ)(g:∀e∈tp,e.Ok X.P X.Γ){l:xc}{T:aA}{st:aB}{ρ:ax}{w:World}(o:eD T st.E fr.F)(m:mF ops fr.n T)(k:FT T fr)(j:Sat (ab ρ T st.G++(ab ρ T fr.H++Φ)) w)
  (h:xp X tb tp KP ops fr l T st K=some r)
  (d:∀st' ρ' w',aT st.c ρ ρ'->st.c<=st'.c->K st'=some r->Sat (ab ρ' [] st'.G++(ab ρ' [] fr.H++Φ)) w'->At Q .normal fr.n D (au ρ' [] st'.E fr.F) w')
  (a:∀b v st' ρ' w',aT st.c ρ ρ'->st.c<=st'.c->KP b v st'=some r->Sat (ab ρ' [] st'.G++(ab ρ' [] (Fs b fr.H)++Φ)) w'->At Q (.panic (gC (v.val ρ'))) fr.n D (au ρ' [] st'.E fr.F) w'):
  WL X.P σ ops.toArray Q fr.n D l (au ρ T st.E fr.F) w:=by
 have:=Gx (σ:=σ) (Q:=Q) (D:=D) (rest:=[]) f i g o m k j h (λst' ρ' w' t s q p=>bR (d st' ρ' w' t s q p)) a;rwa [eF] at this
end
def jU(c:Nat):List AV->List AV×List Row×Nat
 |[]=>([],[],c)
 |v::vs=>match v with
  | .nv u=>match jU c vs with
   |(cs,R,c)=>(.nv u::cs,R,c)
  |v=>match jU (c+1) vs with
   |(cs,R,c')=>(.nv c::cs,.eq c v::R,c')
structure amk(c:Nat)(vs:List AV)(ρ ρ':ax)(x:List AV×List Row×Nat):Prop where
 ag:aT c ρ ρ'
 le:c<=x.2.2
 eq:AV.ao ρ' x.1=AV.ao ρ vs
 lw:AV.bV x.2.2 x.1=true
 rl:bB x.2.2 x.2.1=true
 rp:∀r∈x.2.1,(r.item ρ' []).cC=true/\∀M w,(r.item ρ' []).P M w
 rg:∀r∈x.2.1,r.gd=none
theorem wW{c d:Nat}(a:c<=d):{G:List Row}->bB c G=true->bB d G=true
 |[],_=>rfl
 |r::G,h=>by simp only [bB,ae] at h ⊢;exact ⟨Row.fa a h.1,wW a h.2⟩
theorem rm{c:Nat}:{G H:List Row}->bB c G=true->bB c H=true->bB c (G++H)=true
 |[],_,_,h=>h
 |r::G,H,h,k=>by simp only [dk,bB,ae] at h ⊢;exact ⟨h.1,rm h.2 k⟩
theorem Ih:{vs:List AV}->{c:Nat}->{ρ:ax}->AV.bV c vs=true->∃ρ',amk c vs ρ ρ' (jU c vs)
 |[],c,ρ,h=>⟨ρ,.refl,bb _,rfl,rfl,rfl,(λ_ h=>by cases h),λ_ h=>by cases h⟩
 |v::vs,c,ρ,h=>by
  simp only [AV.bV,ae] at h;have a:(∀u,v≠ .nv u)->jU c (v::vs)=(match jU (c+1) vs with|(cs,R,f)=>(.nv c::cs,.eq c v::R,f))->∃ρ',amk c (v::vs) ρ ρ' (jU c (v::vs)):=λ_ e=>by
   have g:aT c ρ (ρ.set c { cM with x:=v.val ρ }):=ax.aY;obtain ⟨ρ',l⟩:=Ih (c:=c+1) (ρ:=ρ.set c { cM with x:=v.val ρ }) (AV.jd (eb c) _ h.2);rw [e];generalize jU (c+1) vs=L at l;obtain ⟨cs,R,f⟩:=L;have d:aT c ρ ρ':=g.trans l.ag (eb _);have hx:(ρ' c).x=v.val ρ:=by rw [l.ag _ (qd _),ax.bA]
   have i:c+1<=f:=l.le;refine ⟨ρ',d,b9 (eb _) l.le,?_,?_,?_,?_,?_⟩
   .simp only [AV.ao,AV.val,hx];rw [l.eq,AV.bS g _ h.2]
   .simp only [AV.bV,AV.low,ae,du];exact ⟨by omega,l.lw⟩
   .simp only [bB,Row.low,ae,du];exact ⟨⟨by omega,AV.fa (by omega) _ h.1⟩,l.rl⟩
   .intro r b;rcases List.mem_cons.1 b with rfl|b
    .exact ⟨rfl,λM w=>by show (ρ' c).x=v.val ρ';rw [hx,AV.j3 d _ h.1]⟩
    .exact l.rp r b
   .intro r b;rcases List.mem_cons.1 b with rfl|b
    .rfl
    .exact l.rg r b
  cases v with
  |nv u=>
   obtain ⟨ρ',l⟩:=Ih (c:=c) (ρ:=ρ) h.2;unfold jU;dsimp only;generalize jU c vs=L at l;obtain ⟨cs,R,f⟩:=L;refine ⟨ρ',l.ag,l.le,?_,?_,l.rl,l.rp,l.rg⟩
   .simp only [AV.ao];rw [l.eq,AV.j3 l.ag _ h.1]
   .simp only [AV.bV,ae];exact ⟨AV.fa l.le _ h.1,l.lw⟩
  |_=>exact a (λu h=>by cases h) rfl
def ahT{R:Type}(X:Cx)(T:aA)(fr:Fr)(st:aB)(g:GK)(op:Op)(dst:w4)(K:cB R):Option R:=match op,dst with
 | .indexAddr t x y,some d=>(match eP X.P t with
  |some _=>ag3 X T fr st g d t x y K
  |none=>(match bq T st.E fr.F g x with
   |some (.gp _)=>Zu X T fr st g d t x y K
   |_=>gone g (aga X T fr st d t x y K)))
 | .slice t x lo hi mx,some d=>(match bq T st.E fr.F g x with
  |some (.gp _)=>gone g (Wf X T fr st d t x lo hi mx K)
  |_=>acM X T fr st g d t x lo hi mx K)
 | .call ⟨.builtin .unsafeSliceData,⟨[x]⟩,_⟩,some d=>gone g (ZF T fr st d x K)
 | .call ⟨.builtin .len,⟨[x]⟩,⟨[t]⟩⟩,some d=>ag4 X T fr st g d t x K
 |_,_=>none
def abh{R:Type}(X:Cx)(T:aA)(fr:Fr)(st:aB)(g:GK)(o:Oper)(K:cB R):Option R:=
 match agA X T st.E fr.F g o.op with
 |some cv=>HI cv.1 (g.map λ_=>T.get g) (K { st with E:=cr o.dst g cv.2 st.E })
 |none=>match ags X T st.E fr.F [] fr.H g o.op with
  |some cv=>HI cv.1 (g.map λ_=>T.get g) (K { st with E:=cr o.dst g cv.2 st.E })
  |none=>ay (st.low fr) (ahT X T fr st g o.op o.dst K) none
def bm(p:Row->Bool):List Row->List Row
 |[]=>[]
 |r::G=>ay (p r) (r::bm p G) (bm p G)
def cQ(r:Row):Bool:= !r.cC
theorem Sat.we{w:World}{B:Ctx}:∀{A:Ctx},Sat (A++B) w->Sat B w
 |[],h=>h
 |_x::A,h=>Sat.we (A:=A) (Sat.yB (A:=[]) h)
section
variable {ρ : ax} {T : aA} {w : World}
theorem oK{p:Row->Bool}{H:List Row}{Φ:Ctx}:∀{G:List Row} {A:Ctx},Sat (A++(ab ρ T G++(ab ρ T H++Φ))) w->Sat (A++(ab ρ T (bm p G)++(ab ρ T (bm (λr=> !(p r)) G++H)++Φ))) w
 |[],_,h=>h
 |r::G,A,h=>by
  unfold bm;cases hp:p r
  .have b:Sat ((A++[r.item ρ T])++(ab ρ T G++(ab ρ T H++Φ))) w:=by simpa [ab] using h
   have a:=oK (p:=p) (G:=G) b;have c:Sat (A++r.item ρ T::(ab ρ T (bm p G)++(ab ρ T (bm (λr=> !(p r)) G++H)++Φ))) w:=by simpa using a
   exact c.move
  .have b:Sat ((A++[r.item ρ T])++(ab ρ T G++(ab ρ T H++Φ))) w:=by simpa [ab] using h
   have a:=oK (p:=p) (G:=G) b;simpa [ab] using a
end
abbrev mI(fr:Fr)(A:List Row)(st:aB):Fr:=⟨fr.F,bm (λr=> !(cQ r)) st.G++(A++fr.H),fr.n⟩
abbrev stM(st:aB):aB:={ st with G:=bm cQ st.G }
abbrev tO:=Nat×Nat×Nat×x3
def Mb:List AV->Option x3
 |[]=>some []
 |v::l=>(match v with
  | .nv u=>(match Mb l with
   |some us=>some (u::us)
   |none=>none)
  |_=>none)
def aaZ:List AV->x3->Bool
 |_,[]=>true
 |l,n::ns=>(match l with
  | .nv u::l=>Nat.beq u n&&aaZ l ns
  |_=>false)
def J0(G:List Row):List tO->Bool
 |[]=>true
 |x::Pd=>(match lQ (wg x.2.1) G with
  |some (_,.box _ _ cs)=> !(Nat.beq x.2.2.1 1000000000)&&aaZ (cs.drop x.2.2.1) x.2.2.2
  |_=>false)&&J0 G Pd
def pdF(G:List Row):List tO->Bool
 |[]=>true
 |x::Pd=>(Nat.beq x.2.2.1 1000000000||(match lQ (wg x.2.1) G with
  |some (_,.box _ _ cs)=> !(Nat.beq x.2.2.1 1000000000)&&aaZ (cs.drop x.2.2.1) x.2.2.2
  |_=>false))&&pdF G Pd
def eR(ops:xc)(k:Nat):List tO->List tO
 |[]=>[]
 |x::Pd=>ay (waits .any ops.toArray k x.1) (eR ops k Pd) (x::eR ops k Pd)
def szA(P:Program)(t:TypeId):v7:=match P.underlying t with
 |some d=>ay (iW d) (match jD P t with
  |some z=>some z.1
  |none=>none) (some 1)
 |none=>none
def ahy{R:Type}(X:Cx)(T:aA)(fr:Fr)(st:aB)(g:GK)(k:Nat)(o:Oper)(K:List Row->tO->aB->Option R):Option (Option R):=match o.op,o.dst with
 | .load t x,some d=>(match bq T st.E fr.F g x with
  |some (.ptr id off)=>(match lQ (wg id) st.G with
   |some (j,.box _ bt cs)=>some (match szA X.P t with
    |some n=>(match jG X.P t ((cs.drop off).map (rD st.G fr.H)) with
     |some v=>(match Mb (jU st.c ((cs.drop off).take n)).1 with
      |some us=>ay (st.low fr&&v.low st.c&&Nat.ble (off+n) cs.length&& !(Nat.beq off 1000000000)) (
        K (jU st.c ((cs.drop off).take n)).2.1 (k,id,off,us) { st with c:=(jU st.c ((cs.drop off).take n)).2.2,E:=cr (some d) g v st.E,G:=st.G.set j (.box id bt (sG cs off (jU st.c ((cs.drop off).take n)).1)) } ) none
      |none=>none)
     |none=>none)
    |none=>none)
   |_=>none)
  |_=>none)
 |_,_=>none
def ams(T:aA)(fr:Fr)(st:aB)(g:GK)(o:Oper):Option (Tmp×TypeId×Nat×Nat):=match o.op,o.dst with
 | .load t x,some d=>(match bq T st.E fr.F g x with
  |some (.adr q off)=>(match wG T [] fr.H g (.adr q off) with
   |some _=>none
   |none=>(match dF st.G fr.H (P9 q) with
    |some _=>some (d,t,q,off)
    |none=>none))
  |_=>none)
 |_,_=>none
def Mj{R:Type}(X:Cx)(tb:List aq)(tp:List bH)(KP:AV->aB->Option R)(ops:xc)(fr:Fr)(A:List Row)(T:aA)(st:aB)(o:Oper)(K:aA->cB R):Option R:=
 match afo tp T (mI fr A st) (stM st) o (λb v st'=>ay b none (ahd fr KP T v { st' with G:=st'.G++(bm (λr=> !(cQ r)) st.G++A) })) (K T) with
 |some q=>q
 |none=>stepG ops T (mI fr A st) (stM st) o λT g=>opD X tb T (mI fr A st) (stM st) g o (K T)
def aoz(X:Cx)(T:aA)(fr:Fr)(st:aB)(ops:xc)(k:Nat)(fl:x3)(rest:OT)(f:Nat):Bool:=(match ops[f]? with
 |some o=>(match GF X T fr st o,o.dst with
  |some _,some d=>ik o&&Nat.blt d fr.n&&(match dy st.E fr.F d with|some _=>false|none=>true)&&(o.looksAt ops.toArray).all (λt=> !(Nat.beq t d))
  |_,_=>false)
 |none=>false)&&(k::rest.ops).all (λj=>nB ops.toArray j f)&&(fl++rest.Rs).all (λj=>Nat.beq j f||nB ops.toArray j f)
def afF{R:Type}(X:Cx)(ops:xc)(fr:Fr)(T:aA):x3->aB->cB R->Option R
 |[],st,K=>K st
 |f::fs,st,K=>(match ops[f]? with
  |some o=>ay (mh o.dst T&& !(db f fs)) (akA X T fr st o λst=>afF X ops fr T fs st K) none
  |none=>none)
abbrev frA(fr:Fr)(A:List Row):Fr:=⟨fr.F,A++fr.H,fr.n⟩
def nu{R:Type}(X:Cx)(tb:List aq)(tp:List bH)(KP:AV->aB->Option R)(ops:xc)(fr:Fr):OT->List Row->List tO->aA->aB->cB R->Option R
 | .nil,A,_,T,st,K=>ay (As T fr { st with G:=st.G++A }) (K (wv T { st with G:=st.G++A })) none
 | .q k _ rest,A,Pd,T,st,K=>(match ops[k]? with
  |some o=>stepG ops T (mI fr A st) (stM st) o λT g=>match ahy X T (mI fr A st) (stM st) g k o (λR p st'=>nu X tb tp KP ops fr rest (R++(bm (λr=> !(cQ r)) st.G++A)) (p::Pd) T st' K) with
   |some q=>q
   |none=>(match ams T (mI fr A st) (stM st) g o with
    |some p=>ay ((stM st).low (mI fr A st)) (Ua X T (mI fr A st) (stM st) g p.1 p.2.1 p.2.2.1 p.2.2.2 λst'=>nu X tb tp KP ops fr rest (bm (λr=> !(cQ r)) st.G++A) ((k,p.2.2.1,1000000000,[])::Pd) T st' K) none
    |none=>abh X T (mI fr A st) (stM st) g o λst'=>nu X tb tp KP ops fr rest (bm (λr=> !(cQ r)) st.G++A) Pd T st' K)
  |none=>none)
 | .l k _ rest,A,Pd,T,st,K=>(match ops[k]? with
  |some o=>Mj X tb tp KP ops fr A T st o λT st'=>ay (J0 st'.G (eR ops k Pd)) (nu X tb tp KP ops fr rest (bm (λr=> !(cQ r)) st.G++A) (eR ops k Pd) T st' K) none
  |none=>none)
 | .l2 _ k₁ r₁ k₂ r₂,A,Pd,T,st,K=>both
  (match ops[k₁]? with
  |some o=>Mj X tb tp KP ops fr A T st o λT st'=>ay (J0 st'.G (eR ops k₁ Pd)) (nu X tb tp KP ops fr r₁ (bm (λr=> !(cQ r)) st.G++A) (eR ops k₁ Pd) T st' K) none
  |none=>none)
  (match ops[k₂]? with
  |some o=>Mj X tb tp KP ops fr A T st o λT st'=>ay (J0 st'.G (eR ops k₂ Pd)) (nu X tb tp KP ops fr r₂ (bm (λr=> !(cQ r)) st.G++A) (eR ops k₂ Pd) T st' K) none
  |none=>none)
 | .f k _ fl fs rest,A,Pd,T,st,K=>ay (fl.all (aoz X T (frA fr A) st ops k fl rest)&&pdF st.G Pd) (afF X ops (frA fr A) T fs st λst=>(match ops[k]? with
  |some o=>Mj X tb tp KP ops fr A T st o λT st'=>ay (J0 st'.G (eR ops k Pd)) (nu X tb tp KP ops fr rest (bm (λr=> !(cQ r)) st.G++A) (eR ops k Pd) T st' K) none
  |none=>none)) none
section
variable {R : Type} {X : Cx} {tb : List aq} {tp : List bH} {KP : AV -> aB -> Option R} {σ : v7} {Q : br} {D : u9} {ops : xc} {r : R} {fr : Fr} {Φ : Ctx} {K : cB R}
theorem ahL{T:aA}{st:aB}{g:GK}{ρ:ax}{w:World}(i:∀it∈X.Γ,it∈Φ)(m:eD T st.E fr.F)(e:Sat (ab ρ T st.G++(ab ρ T fr.H++Φ)) w)(h:abh X T fr st g o K=some r):
  ∃(v:Value) (J:World->Prop),(∀w',(∃c,Sat (ab ρ T fr.H++c) w')->J w')/\(∀w',J w'->bg X.P (au ρ T st.E fr.F) (T.get g) o w' v)/\aV r K T fr st g o.dst ρ Φ v w:=by
 obtain ⟨dst,op,ty,pos,af,gd⟩:=o;unfold abh at h;simp only at h;have b:∀{O:Value->World->Prop},LC X.P T g (au ρ T st.E fr.F) ⟨dst,op,ty,pos,af,gd⟩ w O->∃(v:Value) (J:World->Prop),(∀w',(∃c,Sat (ab ρ T fr.H++c) w')->J w')/\(∀w',J w'->bg X.P (au ρ T st.E fr.F) (T.get g) ⟨dst,op,ty,pos,af,gd⟩ w' v)/\O v w:=λh=>by obtain ⟨v,d,a⟩:=h;exact ⟨v,λ_=>True,λ_ _=>trivial,λw' _=>d w',a⟩
 split at h
 next cv f=>obtain ⟨d,a⟩:=oP h;exact b ⟨_,λw'=>Z3 m f d,aV.ic a (bb _) rfl rfl e⟩
 .split at h
  next cv f=>obtain ⟨d,a⟩:=oP h;refine ⟨_,λw'=>∃c,Sat (ab ρ T fr.H++c) w',λ_ h=>h,λw' l=>?_,aV.ic a (bb _) rfl rfl e⟩;obtain ⟨c,k⟩:=l;exact acw (G:=[]) (Φ:=c) k f d
  .obtain ⟨d,a⟩:=aG h;unfold ahT at a;split at a
   .split at a
    .exact b (afm d e a)
    .split at a
     .exact b (ZJ d i e a)
     .obtain ⟨rfl,j⟩:=cL a;exact b (afg e j)
   .split at a
    .obtain ⟨rfl,j⟩:=cL a;exact b (anU d i e j)
    .exact b (V7 d e a)
   .obtain ⟨rfl,j⟩:=cL a;exact b (abf d e j)
   .exact b (aki e a)
   .cases a
def BF(ρ:ax)(x:tO)(w:World):Prop:=Nat.beq x.2.2.1 1000000000=false/\∃cs t,eC w (ρ x.2.1).b t cs/\(cs.drop x.2.2.1).take x.2.2.2.length=x.2.2.2.map λu=>(ρ u).x
def aha(c:Nat)(Pd:List tO):Prop:= ∀x,x∈Pd->x.2.1<c/\∀u,u∈x.2.2.2->u<c
theorem Ba{ρ ρ':ax}{c:Nat}(ha:aT c ρ ρ'){x:tO}(hx:x.2.1<c/\∀u,u∈x.2.2.2->u<c){w:World}:BF ρ' x w↔BF ρ x w:=by
 unfold BF;rw [ha _ hx.1];have:(x.2.2.2.map λu=>(ρ' u).x)=x.2.2.2.map λu=>(ρ u).x:=qD λu a=>by rw [ha _ (hx.2 u a)]
 rw [this]
theorem Xr{ρ:ax}:∀{l:List AV} {us:x3},aaZ l us=true->(AV.ao ρ l).take us.length=us.map λu=>(ρ u).x
 |l,[],_=>by simp
 |l,n::ns,h=>by
  unfold aaZ at h;split at h
  next u l'=>simp only [ae] at h;have e:=ah h.1;subst e;simp only [AV.ao,AV.val,p5,qO,cq];rw [Xr h.2]
  .cases h
theorem SH{ρ:ax}:∀{l:List AV} {us:x3},Mb l=some us->AV.ao ρ l=us.map (λu=>(ρ u).x)/\us.length=l.length
 |[],us,h=>by cases h;simp [AV.ao]
 |v::l,us,h=>by
  unfold Mb at h;split at h
  .rename_i u;split at h
   next b a=>cases h;obtain ⟨d,c⟩:=SH (ρ:=ρ) a;simp [AV.ao,AV.val,d,c]
   .cases h
  .cases h
theorem Xm{c:Nat}:∀{l:List AV} {us:x3},Mb l=some us->AV.bV c l=true->∀u,u∈us->u<c
 |[],us,h,_,u,a=>by cases h;cases a
 |v::l,us,h,hl,u,a=>by
  unfold Mb at h;split at h
  .rename_i u';split at h
   .rename_i d b;cases h;simp only [AV.bV,AV.low,ae,du] at hl;rcases List.mem_cons.1 a with rfl|a
    .exact hl.1
    .exact Xm b hl.2 u a
   .cases h
  .cases h
theorem Z1{ρ:ax}{T:aA}{G:List Row}{B:Ctx}{w:World}(c:Sat (ab ρ T G++B) w):∀{Pd:List tO},J0 G Pd=true->∀x,x∈Pd->BF ρ x w
 |[],_,x,hx=>by cases hx
 |y::Pd,h,x,hx=>by
  simp only [J0,ae] at h;rcases List.mem_cons.1 hx with rfl|hx
  .have a:=h.1;split at a
   next j id t cs d=>obtain ⟨f,e⟩:=kC d;have:id=x.2.1:=ah e;subst this;have hb:eC w (ρ x.2.1).b t (AV.ao ρ cs):=c.at_ (fe f);simp only [ae] at a;refine ⟨by simpa using a.1,_,t,hb,?_⟩;rw [<-AV.gi];exact Xr a.2
   .cases a
  .exact Z1 c h.2 x hx
theorem ahB{ρ:ax}{T:aA}{G:List Row}{B:Ctx}{w:World}(b:Sat (ab ρ T G++B) w):∀{Pd:List tO},pdF G Pd=true->∀x,x∈Pd->BF ρ x w\/Nat.beq x.2.2.1 1000000000=true
 |[],_,x,hx=>by cases hx
 |y::Pd,h,x,hx=>by
  simp only [pdF,ae,cp] at h;rcases List.mem_cons.1 hx with rfl|hx
  .rcases h.1 with a|a
   .exact .inr a
   .exact .inl (Z1 b (Pd:=[x]) (by simp only [J0,ae];exact ⟨a,trivial⟩) x (bY ..))
  .exact ahB b h.2 x hx
theorem uB{k:Nat}:∀{Pd:List tO} {x:tO},x∈eR ops k Pd↔x∈Pd/\waits .any ops.toArray k x.1=false
 |[],x=>by simp [eR]
 |y::Pd,x=>by
  unfold eR;cases c:waits .any ops.toArray k y.1
  .show x∈y::eR ops k Pd↔_;rw [qx,qx,uB];constructor
   .rintro (rfl|⟨b,a⟩)
    .exact ⟨.inl rfl,c⟩
    .exact ⟨.inr b,a⟩
   .rintro ⟨rfl|b,a⟩
    .exact .inl rfl
    .exact .inr ⟨b,a⟩
  .show x∈eR ops k Pd↔_;rw [qx,uB];constructor
   .rintro ⟨b,a⟩;exact ⟨.inr b,a⟩
   .rintro ⟨rfl|b,a⟩
    .rw [c] at a;cases a
    .exact ⟨b,a⟩
theorem aeN{pend:ej}{w:World}(h:∀p,p∈pend->p.2 w):fQ pend w:=by
 induction pend with
 |nil=>trivial
 |cons p l ih=>exact ⟨h p (bY ..),ih λq a=>h q (aW _ a)⟩
theorem amL{P:Program}{ρ:ax}{Ev:Env}{g:Bool}{t:TypeId}{n:Nat}{l:List AV}{v:AV}{p:Addr}{w:World}{dst:w4}{ty:TypeId}{pos:String}{af:xa}{gd:Option (Nat×Bool)}
  (hx:ar Ev g x (.pointer (some p))) (j:szA P t=some n) (hv:jG P t l=some v) (q:n<=l.length) (hc:bK w p ((AV.ao ρ l).take n)):bg P Ev g ⟨dst,.load t x,ty,pos,af,gd⟩ w (v.val ρ):=by
 have s:jG P t (l.drop 0)=some v:=by simpa using hv
 obtain ⟨d,n',bytes,z,c1,u,b⟩:=mm (X:=⟨P,[],[],[],(λ_ h=>nomatch h),0,[],[],(λ_ h=>nomatch h),[]⟩) (ρ:=ρ) s;have c1:P.underlying t=some d:=c1;unfold szA at j;rw [c1] at j;rcases dp j with ⟨hd,i⟩|⟨hd,i⟩
 .split at i
  .rename_i k c;obtain ⟨m,y,k⟩:=k;cases i;unfold jG at hv;rw [c1] at hv;rcases dp hv with ⟨_,f⟩|⟨f,_⟩
   .rw [c] at f;obtain ⟨_,r⟩:=aG f;cases r;simp only [AV.val,AV.jg];exact Kf c1 hd (cD c) hx (λ_=>hc) (by rw [bj,AV.bl];exact cx q)
   .rw [hd] at f;cases f
  .cases i
 .cases i;rw [hd] at b;simp only [mo,qA] at b;refine KV c1 hd hx (λ_=>?_);have e:(AV.ao ρ l).take 1=[v.val ρ]:=by
   cases o:AV.ao ρ l with
   |nil=>rw [o] at b;cases b
   |cons a l=>rw [o] at b;cases b;rfl
  rw [e] at hc;exact hc
theorem ad2{l:vy}{off n:Nat}(h:off+n<=l.length):mH l off ((l.drop off).take n)=l:=by
 unfold mH;have b:((l.drop off).take n).length=n:=by rw [bj,ch];omega
 rw [b];have a:(l.drop off).take n++l.drop (off+n)=l.drop off:=by rw [<-kr,qI]
 rw [aO,a,qI]
theorem ajK{T:aA}{st:aB}{g:GK}{k:Nat}{ρ:ax}{w:World}{KQ:List Row->tO->aB->Option R}(hs:Sat (ab ρ T st.G++(ab ρ T fr.H++Φ)) w)(h:ahy X T fr st g k o KQ=some (some r)):
  ∃(v:Value) (ρ':ax) (st':aB) (av:AV) (z:List Row) (p:tO),KQ z p st'=some r/\aT st.c ρ ρ'/\st.c<=st'.c/\st'.E=cr o.dst g av st.E/\av.val ρ'=v/\au ρ' T st.E fr.F=au ρ T st.E fr.F/\ab ρ' T fr.H=ab ρ T fr.H/\
   Sat (ab ρ' T st'.G++(ab ρ' T (z++fr.H)++Φ)) w/\p.1=k/\BF ρ' p w/\(p.2.1<st'.c/\∀u,u∈p.2.2.2->u<st'.c)/\(∀w',BF ρ' p w'->bg X.P (au ρ T st.E fr.F) (T.get g) o w' v):=by
 obtain ⟨dst,op,ty,pos,af,gd⟩:=o;unfold ahy at h;simp only at h;split at h
 .rename_i t x d;split at h
  .rename_i id off hx;split at h
   .rename_i j s N cs hf;simp only [b0] at h;split at h
    .rename_i n hn;split at h
     .rename_i v hv;split at h
      .rename_i us I;obtain ⟨Z,h2⟩:=aG h;simp only [ae,Nat.ble_eq] at Z;obtain ⟨⟨⟨hl,hvl⟩,hle⟩,hmk⟩:=Z;obtain ⟨l1,l2,l3,l4⟩:=aB.cz.1 hl;obtain ⟨f1,f2⟩:=kC hf;have:s=id:=ah f2;subst this;have y:j<st.G.length:=(List.getElem?_eq_some_iff.1 f1).1;have f:=pg l3 f1;simp only [Row.low,ae,du] at f;have S:∀{l:List AV} {c m q:Nat},AV.bV c l=true->AV.bV c ((l.drop m).take q)=true:=λ{l c m q} h=>by
        have dr:∀(l:List AV) (m:Nat),AV.bV c l=true->AV.bV c (l.drop m)=true:=λl=>by
         induction l with
         |nil=>intro m h;simp [AV.bV]
         |cons a l ih=>
          intro m h;cases m with
          |zero=>exact h
          |succ m=>simp only [AV.bV,ae] at h;exact ih m h.2
        have tk:∀(l:List AV) (m:Nat),AV.bV c l=true->AV.bV c (l.take m)=true:=λl=>by
         induction l with
         |nil=>intro m h;simp [AV.bV]
         |cons a l ih=>
          intro m h;cases m with
          |zero=>rfl
          |succ m=>simp only [AV.bV,ae,qO] at h ⊢; exact ⟨h.1,ih m h.2⟩
        exact tk _ _ (dr _ _ h)
       obtain ⟨ρ',D⟩:=Ih (ρ:=ρ) (S (m:=off) (q:=n) f.2);obtain ⟨i1,i2⟩:=SH (ρ:=ρ') I;have V:=Xm I D.lw;generalize jU st.c ((cs.drop off).take n)=L at h2 D I i1 i2 V;obtain ⟨ls,z,c'⟩:=L;have Y:st.c<=c':=D.le;have i:aT st.c ρ ρ':=D.ag;have K:AV.ao ρ' ls=AV.ao ρ ((cs.drop off).take n):=D.eq;have hb:eC w (ρ s).b N (AV.ao ρ cs):=hs.at_ (fe f1);have W:AV.ao ρ' cs=AV.ao ρ cs:=AV.bS i _ f.2;have Q:v.val ρ'=v.val ρ:=AV.j3 i _ hvl;have C:us.length=n:=by
        have e1:(AV.ao ρ' ls).length=n:=by rw [K,AV.bl,bj,ch];omega
        rw [i2,<-AV.bl (ρ:=ρ') (l:=ls)];exact e1
       have eG:=bc (T:=T) i l3;have eH:=bc (T:=T) i l4;have e3:(us.map λu=>(ρ' u).x)=((AV.ao ρ cs).drop off).take n:=by rw [<-i1,K,AV.jg,AV.gi]
       refine ⟨v.val ρ,ρ',_,v,z,(k,s,off,us),h2,i,Y,rfl,Q,mn hl i,eH,?_,rfl,⟨by simpa using hmk,AV.ao ρ cs,N,?_,?_⟩,⟨cy f.1 Y,V⟩,λw' hw=>?_⟩
       .show Sat (ab ρ' T (st.G.set j _)++(ab ρ' T (z++fr.H)++Φ)) w;rw [eS y,eG];have e4:(Row.box s N (sG cs off ls)).item ρ' T=(Row.box s N cs).item ρ T:=by simp only [Row.item];rw [i _ f.1,<-wq,W,K,AV.jg,AV.gi,ad2 (by rw [AV.bl];exact hle)]
        have hi:=fe (ρ:=ρ) (T:=T) (Φ:=ab ρ' T (z++fr.H)++Φ) f1;have e5:(ab ρ T st.G++(ab ρ' T (z++fr.H)++Φ)).set j ((Row.box s N (sG cs off ls)).item ρ' T)=ab ρ T st.G++(ab ρ' T (z++fr.H)++Φ):=by
         rw [e4];apply qn;intro q;by_cases hq:q=j
         .subst hq;rw [qu (List.getElem?_eq_some_iff.1 hi).1,hi]
         .rw [ql (λh=>hq h.symm)]
        rw [e5,bh,eH,aO];have ins:∀(L:List Item) (A B:Ctx),Sat (A++B) w->(∀it∈L,it.own=[]/\∀M w,it.P M w)->Sat (A++(L++B)) w:=λL=>by
         induction L with
         |nil=>intro A B h _;exact h
         |cons x L ih=>
          intro A B h hL;have Z:=ih A B h (λit J=>hL it (aW _ J));have hx:=hL x (bY ..);refine Z.yE (λj k=>(j<A.length/\k=j)\/(A.length<j/\k+1=j)) (λj jt y=>?_) (λj k q hjk Z h2=>by omega);by_cases e:j<A.length
          .rw [b7 e] at y;exact .inr ⟨j,jt,.inl ⟨e,rfl⟩,by rw [b7 e];exact y,bQ.refl⟩
          .rw [bZ (by omega)] at y;by_cases e2:j=A.length
           .subst e2;simp at y;subst y;exact .inl hx
           .refine .inr ⟨j-1,jt,.inr ⟨by omega,by omega⟩,?_,bQ.refl⟩;rw [bZ (by omega)];have:j-A.length=(j-1-A.length)+1:=by omega
            rw [this,dk,b8] at y;exact y
        refine ins (ab ρ' T z) (ab ρ T st.G) (ab ρ T fr.H++Φ) hs (λit J=>?_);obtain ⟨IQ,U,rfl⟩:=List.mem_map.1 J;have h9:=D.rp IQ U;have h10:IQ.item ρ' T=IQ.item ρ' []:=by have hgd:IQ.gd=none:=D.rg IQ U;exact Row.Bj (by rw [hgd,aA.get_none,aA.get_none])
        rw [h10];exact ⟨(IQ.item ρ' []).hp h9.1,h9.2⟩
       .show eC w (ρ' s).b N _;rw [i _ f.1];exact hb
       .show ((AV.ao ρ cs).drop off).take us.length=us.map λu=>(ρ' u).x;rw [C,e3]
       .obtain ⟨_,csv,t2,b1,b2⟩:=hw;have b1:eC w' (ρ' s).b t2 csv:=b1;have b2:(csv.drop off).take us.length=us.map λu=>(ρ' u).x:=b2;rw [i _ f.1] at b1;rw [C,e3] at b2;have O:=aR (ρ:=ρ) hx;simp only [AV.val] at O;have e6:AV.ao ρ ((cs.drop off).map (rD st.G fr.H))=(AV.ao ρ cs).drop off:=by rw [Lc hs,AV.gi]
        refine amL O hn hv (by rw [List.length_map,ch];omega) ?_;rw [e6];refine b1.part off ?_;have:(((AV.ao ρ cs).drop off).take n).length=n:=by rw [bj,ch,AV.bl];omega
        rw [this];exact b2
      .cases h
     .cases h
    .cases h
   .cases h
  .cases h
 .cases h
theorem K8{e:OT}{k mk_:Nat}{pend:ej}{EV:List pw}{T T':aA}{g:GK}{fr1:Fr}{st1:aB}{ρ:ax}{w:World}{v:Value}{J:World->Prop}(y:fr1.n=fr.n)(p:ahO ops fr fr1 st1 ρ o T T' g)(B:ops[k]? =some o)(t:∀x∈EV,nB ops.toArray k x.1=true)(i:J w)
  (r:∀w',J w'->bg X.P (au ρ T' st1.E fr1.F) (T'.get g) o w' v) (c:Cz X.P σ ops.toArray Q fr.n D e EV ((k,J)::pend) (oR o.dst (T'.get g) v (au ρ T' st1.E fr1.F)) w):
  Cz X.P σ ops.toArray Q fr.n D (.q k mk_ e) EV pend (au ρ T' st1.E fr1.F) w:=by
 have m:ops.toArray[k]? =some o:=by simpa using B
 have f:=p.ds;rw [y] at f;intro a d u C;have j:∀v,∀x∈EV,ss X.P ops.toArray (a.put o.dst v) x:=λv x hx=>(C x hx).put m (t x hx);simp only [gL,m];cases s:g with
 |none=>
  subst s;rw [aA.get_none] at r c;refine ⟨v,J,i,.inl ⟨by simp [Region.wanted,p.gg],λw' h=>r w' h _ a d rfl⟩,?_⟩;exact c _ (d.oR f) (by rw [gS];exact u) (j _)
 |some gk=>
  obtain ⟨rj,par,b,I,H,A,G⟩:=p.gk gk s;rw [y] at A;subst s;have l:=CL (ops:=ops.toArray) p.gg (by simpa using I) H d A;rw [G] at l;cases z:T'.get (some gk)
  .rw [z] at l c;refine ⟨undef,J,i,.inr ⟨l,rfl⟩,?_⟩;exact c _ (d.oR (g:=false) (v:=v) f) (by rw [gS];exact u) (j _)
  .rw [z] at l r c;refine ⟨v,J,i,.inl ⟨l,λw' h=>r w' h _ a d rfl⟩,?_⟩;exact c _ (d.oR f) (by rw [gS];exact u) (j _)
theorem aoY{G H:List Row}{s:Src}{IQ:Row}{q c:Nat}(h:s.at_ G H IQ)(b:P9 q IQ=true)(j:bB c G=true)(g:bB c H=true):q<c:=by
 have key:∀{L:List Row},bB c L=true->IQ∈L->q<c:=λ{L} d a=>by
  have f:IQ.low c=true:=by
   induction L with
   |nil=>cases a
   |cons x L ih=>
    simp only [bB,ae] at d;rcases List.mem_cons.1 a with rfl|a
    .exact d.1
    .exact ih d.2 a
  unfold P9 at b;split at b
  .have e:=ah b;subst e;simp only [Row.low,ae,du] at f;exact f.1.1
  .cases b
 cases s with
 |top i=>exact key j (n3 h)
 |cn i=>exact key g (n3 h)
 |nilI t=>exact h.elim
 |nilO t e=>exact h.elim
 |nilM k v=>exact h.elim
def HP(ρ:ax)(T:aA)(fr:Fr)(A:List Row)(Pd:List tO)(pend:ej)(w:World):Prop:= ∀p,p∈pend->∀w',(∃Φ',Sat (ab ρ T (A++fr.H)++Φ') w')->(∀x,x∈Pd->x.1=p.1->BF ρ x w'\/(Nat.beq x.2.2.1 1000000000=true/\Ext w w'))->p.2 w'
def eB(EV:List pw):Ctx:=EV.map λx=>box x.2.1 x.2.2.1 x.2.2.2
def WB(ops:xc)(order:OT)(EV:List pw):Prop:= ∀x∈EV,(∀j∈order.ops,nB ops.toArray j x.1=true)/\∀j∈order.Rs,j=x.1\/nB ops.toArray j x.1=true
theorem Hg{B:Ctx}{w:World}{p:pw->Bool}:∀{EV:List pw} {A:Ctx},Sat (A++(eB EV++B)) w->Sat (A++(eB (EV.filter p)++B)) w
 |[],_,h=>h
 |x::EV,A,h=>by
  rw [qc];split
  .have a:Sat ((A++[box x.2.1 x.2.2.1 x.2.2.2])++(eB EV++B)) w:=by simpa [eB] using h
   have:=Hg (p:=p) a;simpa [eB] using this
  .exact Hg (p:=p) (Sat.yB (A:=A) (B:=eB EV++B) h)
theorem QQ{B:Ctx}{w:World}:∀{EV:List pw} {A:Ctx},Sat (A++(eB EV++B)) w->Sat (A++B) w
 |[],_,h=>h
 |_::EV,A,h=>QQ (EV:=EV) (Sat.yB (A:=A) (B:=eB EV++B) h)
theorem Fits.ic{n:Nat}{E:Env}{a:Act}{d:Tmp}{v:Value}(h:Fits n E a)(e:a.tmps.getD d undef=v):Fits n ((d,true,v)::E) a:=by
 refine ⟨h.size,λt g c b=>?_⟩;simp only [look] at b;cases hb:Nat.beq d t
 .rw [hb,gx] at b;exact h.at_ t g c b
 .rw [hb,hW] at b;have:=ah hb;subst this;cases b;exact e
theorem Fits.apK{n:Nat}{E:Env}{a:Act}{d:Tmp}(h:Fits n E a)(hd:look E d=none)(v:Value):Fits n E (a.put (some d) v):=by
 refine ⟨by simp [Act.put,h.size],λt g f b=>?_⟩;have c:d≠t:=λe=>by subst e;rw [hd] at b;cases b
 have:=Act.eval_put (a:=a) (dst:=some d) (v:=v) (x:= .tmp t) (λe i hc=>c (by cases i;cases hc;rfl));exact Eq.trans this (h.at_ t g f b)
theorem anJ{X:Cx}{T:aA}{fr:Fr}{st:aB}{p:TypeId×List AV×List AV}(h:GF X T fr st o=some p):o.guard=none/\∀cs b,o.op≠ .select cs b:=by
 unfold GF at h;split at h
 next c a=>exact ⟨a,λcs b hc=>by rw [c] at hc;cases hc⟩
 next c a=>exact ⟨a,λcs b hc=>by rw [c] at hc;cases hc⟩
 .cases h
theorem ss.same{P:Program}{ops:w5}{a:Act}{x:pw}{X:Cx}{T:aA}{fr:Fr}{st:aB}{ρ:ax}(k:X.P=P)(h:ss P ops a x)(i:ops[x.1]? =some o)(j:Fits fr.n (au ρ T st.E fr.F) a):
  ∀e vs cs,GF X T fr st o=some (e,vs,cs)->x.2.2.1=e/\x.2.2.2=AV.ao ρ cs:=λe vs cs l=>by
 subst k;obtain ⟨q,d,b,g,u,t,s,r,p⟩:=h;rw [i] at g;cases g;have f:=aae (ρ:=ρ) l b _ a j;rw [p] at f;have m:b.alloc (.cells x.2.2.2.toArray x.2.2.1)=b.alloc (.cells (AV.ao ρ cs).toArray e):=by injection f
 have c:(some (Obj.cells x.2.2.2.toArray x.2.2.1):Option Obj)=some (.cells (AV.ao ρ cs).toArray e):=by rw [<-heap_alloc_new b (.cells x.2.2.2.toArray x.2.2.1),<-heap_alloc_new b (.cells (AV.ao ρ cs).toArray e),m]
 simp only [b0,Obj.cells.injEq] at c;exact ⟨c.2.1,by simpa using c.1⟩
theorem aeR{frx:Fr}{T:aA}{w:World}{a:Act}{N:cB R}:∀{k:x3} {EV:List pw} {st:aB} {ρ:ax},eD T st.E frx.F->Sat (ab ρ T st.G++(ab ρ T frx.H++(eB EV++Φ))) w->Fits frx.n (au ρ T st.E frx.F) a->
  (∀x∈EV,ss X.P ops.toArray a x)->(∀f∈k,f∈EV.map (·.1))->afF X ops frx T k st N=some r->
  ∃st' ρ',N st'=some r/\aT st.c ρ ρ'/\st.c<=st'.c/\eD T st'.E frx.F/\Fits frx.n (au ρ' T st'.E frx.F) a/\ab ρ' T frx.H=ab ρ T frx.H/\
   Sat (ab ρ' T st'.G++(ab ρ' T frx.H++(eB (EV.filter λx=> !(db x.1 k))++Φ))) w
 |[],EV,st,ρ,ht,hs,hf,hC,_,h=>by
  refine ⟨st,ρ,h,.refl,bb _,ht,hf,rfl,?_⟩;have e:(EV.filter λx=> !(db x.1 []))=EV:=by rw [List.filter_eq_self];intro x _;rfl
  rw [e];exact hs
 |f::k,EV,st,ρ,ht,hs,hf,hC,hin,h=>by
  unfold afF at h;split at h
  .rename_i o ho;obtain ⟨m,h2⟩:=aG h;simp only [ae,de] at m;obtain ⟨x,hx,v⟩:=List.mem_map.1 (hin f (bY ..));subst v;obtain ⟨i,g,M⟩:=List.append_of_mem hx;have l:ops.toArray[x.1]? =some o:=by simpa using ho
   have D:Sat (((ab ρ T st.G++ab ρ T frx.H)++eB i)++box x.2.1 x.2.2.1 x.2.2.2::(eB g++Φ)) w:=by
    have e:ab ρ T st.G++(ab ρ T frx.H++(eB EV++Φ))=((ab ρ T st.G++ab ρ T frx.H)++eB i)++box x.2.1 x.2.2.1 x.2.2.2::(eB g++Φ):=by rw [M];simp [eB]
    rw [<-e];exact hs
   have C:Sat ([]++box x.2.1 x.2.2.1 x.2.2.2::((ab ρ T st.G++ab ρ T frx.H)++(eB i++(eB g++Φ)))) w:=by have:=D.aj3;simpa using this
   have B:Sat (ab ρ T st.G++(ab ρ T frx.H++(box x.2.1 x.2.2.1 x.2.2.2::(eB i++(eB g++Φ))))) w:=by have:=C.move;simpa using this
   have L:=hC x hx;obtain ⟨o2,d,w0,I,Q,r3,r4,O,r6⟩:=id L;rw [l] at I;cases I;obtain ⟨b,st1,av,k1,k2,K,J,k5,k6,k7,k8⟩:=anD B (ss.same rfl L l hf) h2;have e1:au b T st1.E frx.F=(d,true,Ey o x.2.1)::au ρ T st.E frx.F:=by rw [J,sJ,k5,k6,Q,aA.get_none];rfl
   have A:Sat (ab b T st1.G++(ab b T frx.H++(eB (EV.filter λy=> !(Nat.beq x.1 y.1))++Φ))) w:=by
    have e2:(EV.filter λy=> !(Nat.beq x.1 y.1))=(i++g).filter λy=> !(Nat.beq x.1 y.1):=by rw [M];simp
    rw [e2];have:Sat ((ab b T st1.G++ab b T frx.H)++(eB (i++g)++Φ)) w:=by
     have e3:eB (i++g)=eB i++eB g:=by simp [eB]
     rw [e3];simpa using k8
    have:=Hg (p:=λy=> !(Nat.beq x.1 y.1)) this;simpa using this
   have z:eD T st1.E frx.F:=by rw [J];exact ht.out m.1 none av
   obtain ⟨s,q,q1,Z,Y,W,V,U,S⟩:=aeR z A (by rw [e1];exact hf.ic O) (λy u=>hC y (List.mem_filter.1 u).1) (λf' j=>by obtain ⟨y,u,t⟩:=List.mem_map.1 (hin f' (aW _ j));subst t;refine List.mem_map.2 ⟨y,List.mem_filter.2 ⟨u,?_⟩,rfl⟩;rw [de,l5];intro hb;have:=ah hb;rw [<-this] at j;rw [da.2 j] at m;cases m.2) k1
   refine ⟨s,q,q1,k2.trans Z K,b9 K Y,W,V,U.trans k7,?_⟩;have e4:((EV.filter λy=> !(Nat.beq x.1 y.1)).filter λy=> !(db y.1 k))=EV.filter λy=> !(db y.1 (x.1::k)):=by
    rw [qG];congr 1
    funext y
    simp only [db,Bool.not_or];exact Bool.and_comm ..
   rw [<-e4];exact S
  .cases h
theorem amM(hΓ:∀it∈X.Γ,it∈Φ)(htb:∀e∈tb,e.Ok X.P X.Γ)(htp:∀e∈tp,e.Ok X.P X.Γ):∀{U:OT} {EV:List pw} {A:List Row} {Pd:List tO} {T:aA} {st:aB} {ρ:ax} {w:World} {pend:ej},eD T st.E fr.F->mF ops fr.n T->FT T fr->WB ops U EV->aha st.c Pd->Sat (ab ρ T st.G++(ab ρ T (A++fr.H)++(eB EV++Φ))) w->
  HP ρ T fr A Pd pend w->nu X tb tp KP ops fr U A Pd T st K=some r->
  (∀st' ρ' w',aT st.c ρ ρ'->st.c<=st'.c->K st'=some r->Sat (ab ρ' [] st'.G++(ab ρ' [] fr.H++Φ)) w'->At Q .normal fr.n D (au ρ' [] st'.E fr.F) w')->
  (∀v st' ρ' w',aT st.c ρ ρ'->st.c<=st'.c->KP v st'=some r->Sat (ab ρ' [] st'.G++(ab ρ' [] fr.H++Φ)) w'->A0 Q (gC (v.val ρ')) D w')->
  Cz X.P σ ops.toArray Q fr.n D U EV pend (au ρ T st.E fr.F) w:=by
 intro U
 -- a loud operation, the rest by induction
 have loud:∀(rest:OT) (k mk:Nat),(∀{EV:List pw} {A:List Row} {Pd:List tO} {T:aA} {st:aB} {ρ:ax} {w:World} {pend:ej},eD T st.E fr.F->mF ops fr.n T->FT T fr->WB ops rest EV->aha st.c Pd->Sat (ab ρ T st.G++(ab ρ T (A++fr.H)++(eB EV++Φ))) w->
   HP ρ T fr A Pd pend w->nu X tb tp KP ops fr rest A Pd T st K=some r->
   (∀st' ρ' w',aT st.c ρ ρ'->st.c<=st'.c->K st'=some r->Sat (ab ρ' [] st'.G++(ab ρ' [] fr.H++Φ)) w'->At Q .normal fr.n D (au ρ' [] st'.E fr.F) w')->
   (∀v st' ρ' w',aT st.c ρ ρ'->st.c<=st'.c->KP v st'=some r->Sat (ab ρ' [] st'.G++(ab ρ' [] fr.H++Φ)) w'->A0 Q (gC (v.val ρ')) D w')->
   Cz X.P σ ops.toArray Q fr.n D rest EV pend (au ρ T st.E fr.F) w)->
   ∀{EV:List pw} {A:List Row} {Pd:List tO} {T:aA} {st:aB} {ρ:ax} {w:World} {pend:ej},eD T st.E fr.F->mF ops fr.n T->FT T fr->(∀x∈EV,nB ops.toArray k x.1=true)->WB ops rest EV->aha st.c Pd->Sat (ab ρ T st.G++(ab ρ T (A++fr.H)++(eB EV++Φ))) w->
   HP ρ T fr A Pd pend w->
   (match ops[k]? with
    |some o=>Mj X tb tp KP ops fr A T st o λT st'=>ay (J0 st'.G (eR ops k Pd)) (nu X tb tp KP ops fr rest (bm (λr=> !(cQ r)) st.G++A) (eR ops k Pd) T st' K) none
    |none=>none)=some r->
   (∀st' ρ' w',aT st.c ρ ρ'->st.c<=st'.c->K st'=some r->Sat (ab ρ' [] st'.G++(ab ρ' [] fr.H++Φ)) w'->At Q .normal fr.n D (au ρ' [] st'.E fr.F) w')->
   (∀v st' ρ' w',aT st.c ρ ρ'->st.c<=st'.c->KP v st'=some r->Sat (ab ρ' [] st'.G++(ab ρ' [] fr.H++Φ)) w'->A0 Q (gC (v.val ρ')) D w')->
   Cz X.P σ ops.toArray Q fr.n D (.l k mk rest) EV pend (au ρ T st.E fr.F) w:=by
  intro rest k mk ih EV A Pd T st ρ w pend h1 h2 hf hfk i C hs hp h L s;have W:∀it∈X.Γ,it∈eB EV++Φ:=λit hit=>c5 _ (hΓ it hit);split at h
  .rename_i o ho;have hs1:=oK (A:=[]) (p:=cQ) hs;refine ak5 (k:=k) (mk:=mk) (o:=o) (by simpa using ho) hfk rfl ?_;have fin:∀T' st' ρ' w',eD T' st'.E (mI fr A st).F->mF ops (mI fr A st).n T'->FT T' fr->aT (stM st).c ρ ρ'->(stM st).c<=st'.c->(ay (J0 st'.G (eR ops k Pd)) (nu X tb tp KP ops fr rest (bm (λr=> !(cQ r)) st.G++A) (eR ops k Pd) T' st' K) none)=some r->ab ρ' T' (mI fr A st).H=ab ρ T (mI fr A st).H->Sat (ab ρ' T' st'.G++(ab ρ' T' (mI fr A st).H++(eB EV++Φ))) w'->
     WL X.P σ ops.toArray (QKE X.P σ ops.toArray Q rest EV (still .any ops.toArray k pend)) fr.n D [] (au ρ' T' st'.E (mI fr A st).F) w':=by
    intro T' st' ρ' w' a1 a2 a3 a4 a5 a6 a7 a8;obtain ⟨a9,a10⟩:=aG a6;have e1:bm (λr=> !(cQ r)) st.G++(A++fr.H)=(bm (λr=> !(cQ r)) st.G++A)++fr.H:=by rw [aO]
    have hs8:Sat (ab ρ' T' st'.G++(ab ρ' T' ((bm (λr=> !(cQ r)) st.G++A)++fr.H)++(eB EV++Φ))) w':=by rw [<-e1];exact a8
    have conv:∀z,(∃y,Sat (ab ρ' T' ((bm (λr=> !(cQ r)) st.G++A)++fr.H)++y) z)->∃y,Sat (ab ρ T (A++fr.H)++y) z:=λz hw=>by
     obtain ⟨y,R⟩:=hw;refine ⟨y,?_⟩;rw [<-e1] at R;have V:Sat (ab ρ T (bm (λr=> !(cQ r)) st.G++(A++fr.H))++y) z:=by rw [<-a7];exact R
     rw [bh,aO] at V;exact V.we
    have mem:∀p,p∈still .any ops.toArray k pend->p∈pend/\∀x,x∈Pd->x.1=p.1->x∈eR ops k Pd:=λp S=>by unfold still at S;rw [List.mem_filter] at S;exact ⟨S.1,λx hx he=>uB.2 ⟨hx,by rw [he];simpa using S.2⟩⟩
    have hBF:=Z1 (B:=ab ρ' T' ((bm (λr=> !(cQ r)) st.G++A)++fr.H)++(eB EV++Φ)) hs8 a9;have HP':HP ρ' T' fr (bm (λr=> !(cQ r)) st.G++A) (eR ops k Pd) (still .any ops.toArray k pend) w':=λp S z hw hB=>by obtain ⟨m1,m2⟩:=mem p S;exact hp p m1 z (conv z hw) (λx hx he=>(hB x (m2 x hx he) he).elim (λh=> .inl ((Ba a4 (C x hx)).1 h)) (λh=>by have:=(hBF x (m2 x hx he)).1;rw [h.1] at this;cases this))
    refine bR (an9 (aeN λp S=>HP' p S w' ⟨eB EV++Φ,hs8.we⟩ (λx hx _=> .inl (hBF x hx))) ?_);exact ih a1 a2 a3 i (λx hx=>⟨cy (C x (uB.1 hx).1).1 a5,λu hu=>cy ((C x (uB.1 hx).1).2 u hu) a5⟩) hs8 HP' a10 (λI N z b1 b2 b3 b4=>L I N z (a4.trans b1 a5) (b9 a5 b2) b3 b4) (λv I N z b1 b2 b3 b4=>s v I N z (a4.trans b1 a5) (b9 a5 b2) b3 b4)
   unfold Mj at h;split at h
   .rename_i q hq;subst h;refine amq (fr:=mI fr A st) (st:=stM st) h1 hs1 W htp hq (λst' ρ' w' a1 a4 a5 a6 a7 a8=>fin T st' ρ' w' a1 h2 hf a4 a5 a6 a7 a8) (λlb v st' ρ' w' a1 a2 a3 ae1 ae2 a4=>?_);cases lb with
    |true=>cases a3
    |false=>
    have a4':Sat (ab ρ' T ({ st' with G:=st'.G++(bm (λr=> !(cQ r)) st.G++A) }:aB).G++(ab ρ' T fr.H++(eB EV++Φ))) w':=by
     have e2:(mI fr A st).H=(bm (λr=> !(cQ r)) st.G++A)++fr.H:=by rw [aO]
     rw [e2,bh,aO] at a4;show Sat (ab ρ' T (st'.G++(bm (λr=> !(cQ r)) st.G++A))++_) w';rw [bh,aO];exact a4
    obtain ⟨I,k1,Z,_,M⟩:=aeq (fr:=fr) (KP:=λ_=>KP) (b:=false) hf a3 a4';rw [<-aO] at M;replace M:=QQ M;rw [aO] at M;have k2':I.c=st'.c:=Z;have:=s v I ρ' w' a1 (by rw [k2'];exact a2) k1 M;exact aaq this
   .exact acT (fr:=mI fr A st) (st:=stM st) (fr0:=fr) (K:=λT st'=>ay (J0 st'.G (eR ops k Pd)) (nu X tb tp KP ops fr rest (bm (λr=> !(cQ r)) st.G++A) (eR ops k Pd) T st' K) none) h1 h2 rfl (λr hr=>c5 _ (c5 _ hr)) hf hs1 W htb h fin
  .cases h
 induction U with
 |nil=>
  intro EV A Pd T st ρ w pend h1 h2 hf i C hs hp h L s;have W:∀it∈X.Γ,it∈eB EV++Φ:=λit hit=>c5 _ (hΓ it hit);unfold nu at h;obtain ⟨h3,h4⟩:=aG h;have hs':Sat (ab ρ T ({ st with G:=st.G++A }:aB).G++(ab ρ T fr.H++(eB EV++Φ))) w:=by show Sat (ab ρ T (st.G++A)++_) w;rw [bh,aO];rw [bh,aO] at hs;exact hs
  obtain ⟨k1,Z,M⟩:=Ho h3 hf hs';rw [<-aO] at M;replace M:=QQ M;rw [aO] at M;exact anr ((L _ ρ w .refl (by rw [k1];exact bb _) h4 M).lq _ Z)
 |q k m rest ih=>
  intro EV A Pd T st ρ w pend h1 h2 hf i C hs hp h L s;have hevr:WB ops rest EV:=λx hx=>⟨λj hj=>(i x hx).1 j (aW _ hj),(i x hx).2⟩;have W:∀it∈X.Γ,it∈eB EV++Φ:=λit hit=>c5 _ (hΓ it hit);unfold nu at h;split at h
  .rename_i o ho;have hs1:=oK (A:=[]) (p:=cQ) hs;obtain ⟨T',g,hk,so⟩:=abt (ρ:=ρ) (fr0:=fr) (fr:=mI fr A st) (st:=stM st) h1 h2 rfl (λr hr=>c5 _ (c5 _ hr)) hf h;have hs':Sat (ab ρ T' (stM st).G++(ab ρ T' (mI fr A st).H++(eB EV++Φ))) w:=by rw [so.eg,so.eh];exact hs1
   have he:au ρ T st.E fr.F=au ρ T' st.E fr.F:=by have e1:=so.ee;have e2:=so.ef;rw [au,au,e1,e2]
   rw [he];have e1:bm (λr=> !(cQ r)) st.G++(A++fr.H)=(bm (λr=> !(cQ r)) st.G++A)++fr.H:=by rw [aO]
   -- from what stands then to what stands now
   have conv0:∀z y,Sat (ab ρ T' (bm (λr=> !(cQ r)) st.G++(A++fr.H))++y) z->∃y,Sat (ab ρ T (A++fr.H)++y) z:=λz y R=>by
    refine ⟨y,?_⟩;have V:Sat (ab ρ T (bm (λr=> !(cQ r)) st.G++(A++fr.H))++y) z:=by rw [<-so.eh];exact R
    rw [bh,aO] at V;exact V.we
   split at hk
   .rename_i q hq;subst hk;obtain ⟨v,ρ',st',av,Rq,p,k1,Z,M,k4,k5,k6,k7,k8,k9,k10,k11,k12⟩:=ajK (fr:=mI fr A st) (st:=stM st) hs' hq;have e2:Rq++(bm (λr=> !(cQ r)) st.G++(A++fr.H))=(Rq++(bm (λr=> !(cQ r)) st.G++A))++fr.H:=by simp
    refine K8 (fr1:=mI fr A st) (st1:=stM st) (J:=BF ρ' p) rfl so ho (λx hx=>(i x hx).1 k (bY ..)) k10 k12 ?_;have:=ih (A:=Rq++(bm (λr=> !(cQ r)) st.G++A)) (Pd:=p::Pd) (T:=T') (st:=st') (ρ:=ρ') (w:=w) (pend:=(k,BF ρ' p)::pend) (by rw [k4];exact so.t1.out so.ak g av) so.t2 so.ft hevr (λx hx=>?_) (by rw [<-e2];exact k8) (λq Y z hw hB=>?_) k1 (λI N z b1 b2 b3 b4=>L I N z (Z.trans b1 M) (b9 M b2) b3 b4) (λv I N z b1 b2 b3 b4=>s v I N z (Z.trans b1 M) (b9 M b2) b3 b4)
    .rw [k4,sJ,k5,k6] at this;exact this
    .rcases List.mem_cons.1 hx with rfl|hx
     .exact k11
     .exact ⟨cy (C x hx).1 M,λu hu=>cy ((C x hx).2 u hu) M⟩
    .rcases List.mem_cons.1 Y with rfl|Y
     .exact (hB p (bY ..) k9).elim id (λh=>by have:=k10.1;rw [h.1] at this;cases this)
     .obtain ⟨y,R⟩:=hw;rw [<-e2,bh,aO] at R;have hΦ1:=R.we;have V:Sat (ab ρ T' (bm (λr=> !(cQ r)) st.G++(A++fr.H))++y) z:=by rw [<-k7];exact hΦ1
      exact hp q Y z (conv0 z y V) (λx hx he=>(hB x (aW _ hx) he).imp (Ba Z (C x hx)).1 id)
   .split at hk
    .rename_i p hpo;obtain ⟨lw,hk⟩:=aG hk;obtain ⟨dst,op,ty,pos,af,gd⟩:=o;unfold ams at hpo;split at hpo
     .rename_i t x d hop hdst;simp only at hop hdst;subst hop hdst;split at hpo
      .rename_i q off hx;split at hpo
       .cases hpo
       split at hpo
       .rename_i sr hkn;cases hpo;obtain ⟨v,hr,hO⟩:=XC (ty:=ty) (pos:=pos) (af:=af) (gd:=gd) lw hs' hx hk;obtain ⟨ρ',st',av,k1,Z,M,k4,k5,k6,k7,k8⟩:=hO;have hq:q<st.c:=by obtain ⟨_,_,l3,l4⟩:=aB.cz.1 lw;obtain ⟨f1,f2⟩:=bU hkn;exact aoY f1 f2 l3 l4
        refine K8 (fr1:=mI fr A st) (st1:=stM st) (J:=λw'=>Ext w w') (v:=v) rfl so ho (λx hx=>(i x hx).1 k (bY ..)) (Ext.refl w) (λw' hw'=>hr w' hw') ?_;have:=ih (A:=bm (λr=> !(cQ r)) st.G++A) (Pd:=(k,q,1000000000,[])::Pd) (T:=T') (st:=st') (ρ:=ρ') (w:=w) (pend:=(k,λw'=>Ext w w')::pend) (by rw [k4];exact so.t1.out so.ak g av) so.t2 so.ft hevr (λx hx=>?_) (by rw [<-e1];exact k8) (λq' Y z hw hB=>?_) k1 (λI N z b1 b2 b3 b4=>L I N z (Z.trans b1 M) (b9 M b2) b3 b4) (λv I N z b1 b2 b3 b4=>s v I N z (Z.trans b1 M) (b9 M b2) b3 b4)
        .rw [k4,sJ,k5,k6] at this;exact this
        .rcases List.mem_cons.1 hx with rfl|hx
         .exact ⟨cy hq M,λu hu=>by cases hu⟩
         .exact ⟨cy (C x hx).1 M,λu hu=>cy ((C x hx).2 u hu) M⟩
        .obtain ⟨y,R⟩:=hw;rw [<-e1] at R;have hΦ1:Sat (ab ρ T' (bm (λr=> !(cQ r)) st.G++(A++fr.H))++y) z:=by rw [<-k7];exact R
         rcases List.mem_cons.1 Y with rfl|Y
         .exact (hB (k,q,1000000000,[]) (bY ..) rfl).elim (λh=>by have:=h.1;simp at this) (λh=>h.2)
         .exact hp q' Y z (conv0 z y hΦ1) (λx hx he=>(hB x (aW _ hx) he).imp (Ba Z (C x hx)).1 id)
       .cases hpo
      .cases hpo
     .cases hpo
    .obtain ⟨v,J,hJ,hr,hO⟩:=ahL (fr:=mI fr A st) (st:=stM st) W so.t1 hs' hk;obtain ⟨ρ',st',av,k1,Z,M,k4,k5,k6,k7,k8⟩:=hO;refine K8 (fr1:=mI fr A st) (st1:=stM st) rfl so ho (λx hx=>(i x hx).1 k (bY ..)) (hJ w ⟨eB EV++Φ,hs'.we⟩) hr ?_;have:=ih (A:=bm (λr=> !(cQ r)) st.G++A) (Pd:=Pd) (T:=T') (st:=st') (ρ:=ρ') (w:=w) (pend:=(k,J)::pend) (by rw [k4];exact so.t1.out so.ak g av) so.t2 so.ft hevr (λx hx=>⟨cy (C x hx).1 M,λu hu=>cy ((C x hx).2 u hu) M⟩) (by rw [<-e1];exact k8) (λq Y z hw hB=>?_) k1 (λI N z b1 b2 b3 b4=>L I N z (Z.trans b1 M) (b9 M b2) b3 b4) (λv I N z b1 b2 b3 b4=>s v I N z (Z.trans b1 M) (b9 M b2) b3 b4)
     .rw [k4,sJ,k5,k6] at this;exact this
     .obtain ⟨y,R⟩:=hw;rw [<-e1] at R;have hΦ1:Sat (ab ρ T' (bm (λr=> !(cQ r)) st.G++(A++fr.H))++y) z:=by rw [<-k7];exact R
      rcases List.mem_cons.1 Y with rfl|Y
      .exact hJ z ⟨y,hΦ1⟩
      .exact hp q Y z (conv0 z y hΦ1) (λx hx he=>(hB x hx he).imp (Ba Z (C x hx)).1 id)
  .cases h
 |l k m rest ih=>
  intro EV A Pd T st ρ w pend h1 h2 hf i C hs hp h L s;have W:∀it∈X.Γ,it∈eB EV++Φ:=λit hit=>c5 _ (hΓ it hit);unfold nu at h;exact loud rest k m (λ{EV A Pd T st ρ w pend}=>ih) h1 h2 hf (λx hx=>(i x hx).1 k (bY ..)) (λx hx=>⟨λj hj=>(i x hx).1 j (aW _ hj),(i x hx).2⟩) C hs hp h L s
 |l2 m k1 r1 Z r2 ih1 ih2=>
  intro EV A Pd T st ρ w pend h1 h2 hf i C hs hp h L s;have W:∀it∈X.Γ,it∈eB EV++Φ:=λit hit=>c5 _ (hΓ it hit);unfold nu at h;obtain ⟨h3,h4⟩:=Xa h;exact apm (loud r1 k1 m (λ{EV A Pd T st ρ w pend}=>ih1) h1 h2 hf (λx hx=>(i x hx).1 k1 (bY ..)) (λx hx=>⟨λj hj=>(i x hx).1 j (aW _ (aW _ (qz _ hj))),λj hj=>(i x hx).2 j (qz _ hj)⟩) C hs hp h3 L s)
   (loud r2 Z m (λ{EV A Pd T st ρ w pend}=>ih2) h1 h2 hf (λx hx=>(i x hx).1 Z (aW _ (bY ..))) (λx hx=>⟨λj hj=>(i x hx).1 j (aW _ (aW _ (c5 _ hj))),λj hj=>(i x hx).2 j (c5 _ hj)⟩) C hs hp h4 L s)
 |f k m fl fs rest ih=>
  intro EV A Pd T st ρ w₀ pend h1 h2 hf i C hs hp h L s;unfold nu at h;obtain ⟨hc,h⟩:=aG h;simp only [ae,qB] at hc;obtain ⟨hfl,hpd0⟩:=hc;have hrun:∀f∈fl,∃o p d,ops[f]? =some o/\GF X T (frA fr A) st o=some p/\o.dst=some d/\ik o=true/\Nat.blt d fr.n=true/\dy st.E fr.F d=none/\(∀t∈o.looksAt ops.toArray,t≠d)/\
    (∀j∈k::rest.ops,nB ops.toArray j f=true)/\∀j∈fl++rest.Rs,j=f\/nB ops.toArray j f=true:=λf hf=>by
   have:=hfl f hf;unfold aoz at this;simp only [ae,qB,cp] at this;obtain ⟨⟨g1,g2⟩,g3⟩:=this;split at g1
   .rename_i o ho;split at g1
    .rename_i p d hp hd;simp only [ae,qB] at g1;obtain ⟨⟨⟨g4,g5⟩,g6⟩,g7⟩:=g1;refine ⟨o,p,d,ho,hp,hd,g4,g5,?_,λt ht hc=>?_,g2,λj hj=>(g3 j hj).imp ah id⟩
     .split at g6
      .cases g6
      .assumption
     .have:=g7 t ht;rw [hc] at this;simp at this
    .cases g1
   .cases g1
  have nxp:∀(EV:List pw) (a:Act) (w:World),Ext w₀ w->WB ops (.f k m fl fs rest) EV->Sat (ab ρ T st.G++(ab ρ T (A++fr.H)++(eB EV++Φ))) w->Fits fr.n (au ρ T st.E fr.F) a->a.defers=D->(∀x∈EV,ss X.P ops.toArray a x)->
    (∀f∈fs,f∈EV.map (·.1))->wpOpIn (FW σ) 0 X.P ops.toArray (QN Q) k (λa' w'=>fQ (still .any ops.toArray k pend) w'/\gL X.P σ ops.toArray (QN Q) rest ((EV.map (·.1)).filter λf=> !(db f fs)) (still .any ops.toArray k pend) a' w') a w:=by
   intro EV a w hx0 i hs O hD hC hall;obtain ⟨st1,ρ1,k1,Z,M,k4,k5,k6,k7⟩:=aeR (frx:=frA fr A) h1 hs O hC hall h;have hev':∀x∈EV.filter (λx=> !(db x.1 fs)),(∀j∈k::rest.ops,nB ops.toArray j x.1=true)/\∀j∈rest.Rs,j=x.1\/nB ops.toArray j x.1=true:=λx hx=>
    ⟨(i x (List.mem_filter.1 hx).1).1,λj hj=>(i x (List.mem_filter.1 hx).1).2 j (c5 _ hj)⟩
   have HP':HP ρ1 T fr A Pd pend w:=λp S z hw hB=>by have k6:ab ρ1 T (A++fr.H)=ab ρ T (A++fr.H):=k6;rw [k6] at hw;exact hp p S z hw (λx hx he=>(hB x hx he).imp (Ba Z (C x hx)).1 (λh=>⟨h.1,hx0.trans h.2⟩))
   have hl:=loud rest k 0 (λ{EV A Pd T st ρ w pend}=>ih) (EV:=EV.filter λx=> !(db x.1 fs)) (pend:=pend) k4 h2 hf (λx hx=>(hev' x hx).1 k (bY ..)) (λx hx=>⟨λj hj=>(hev' x hx).1 j (aW _ hj),(hev' x hx).2⟩)
    (λx hx=>⟨cy (C x hx).1 M,λu hu=>cy ((C x hx).2 u hu) M⟩) k7 HP' k1 (λI N z b1 b2 b3 b4=>L I N z (Z.trans b1 M) (b9 M b2) b3 b4) (λv I N z b1 b2 b3 b4=>s v I N z (Z.trans b1 M) (b9 M b2) b3 b4)
   have:=hl a k5 hD (λx hx=>hC x (List.mem_filter.1 hx).1);simp only [gL] at this;have e:(EV.map (·.1)).filter (λf=> !(db f fs))=(EV.filter λx=> !(db x.1 fs)).map (·.1):=by rw [List.filter_map];rfl
   rw [e];split at this
   .exact this.elim
   .exact this
  have main:∀(nf:Nat) (EV:List pw) (a:Act) (w:World),Ext w₀ w->WB ops (.f k m fl fs rest) EV->Sat (ab ρ T st.G++(ab ρ T (A++fr.H)++(eB EV++Φ))) w->Fits fr.n (au ρ T st.E fr.F) a->a.defers=D->(∀x∈EV,ss X.P ops.toArray a x)->
    wpE X.P σ ops.toArray (QN Q) fl pend (λea a w=>(∀f∈fs,f∈ea)->wpOpIn (FW σ) 0 X.P ops.toArray (QN Q) k (λa' w'=>fQ (still .any ops.toArray k pend) w'/\gL X.P σ ops.toArray (QN Q) rest (ea.filter λf=> !(db f fs)) (still .any ops.toArray k pend) a' w') a w) nf (EV.map (·.1)) a w:=by
   intro nf
   induction nf with
   |zero=>exact λEV a w hx0 i hs O hD hC=>nxp EV a w hx0 i hs O hD hC
   |succ nf ihf=>
    intro EV a w hx0 i hs O hD hC;refine ⟨nxp EV a w hx0 i hs O hD hC,λf hf' hm=>?_⟩;obtain ⟨o,p,d,r1,r2,r3,r4,r5,r6,r7,r8,r9⟩:=hrun f hf';obtain ⟨e,vs,cs⟩:=p;obtain ⟨gn,ns⟩:=anJ r2;have ho':ops.toArray[f]? =some o:=by simpa using r1
    have hR:=aae (ρ:=ρ) r2 w _ a O;have hw:Region.wanted o (yielded ops.toArray a.tmps)=true:=by simp [Region.wanted,gn]
    have hdn:look (au ρ T st.E fr.F) d=none:=by rw [fG,r6];rfl
    have hne:∀x∈EV,f≠x.1:=λx hx hc=>by have:db f (EV.map (·.1))=true:=da.2 (List.mem_map.2 ⟨x,hx,hc.symm⟩);rw [hm] at this;cases this
    have hs1:Sat (box w.heap.size e (AV.ao ρ cs)::(ab ρ T st.G++(ab ρ T (A++fr.H)++(eB EV++Φ)))) (w.alloc (.cells (AV.ao ρ cs).toArray e)):=hs.push (dX _ _) (λb hb=>by
     have:b=w.heap.size:=by simpa [box] using hb
     subst this;simp) (λ_ _=>heap_alloc_new w _)
    have hs2:Sat (ab ρ T st.G++(ab ρ T (A++fr.H)++(eB ((f,w.heap.size,e,AV.ao ρ cs)::EV)++Φ))) (w.alloc (.cells (AV.ao ρ cs).toArray e)):=by
     have h0:Sat ([]++box w.heap.size e (AV.ao ρ cs)::((ab ρ T st.G++ab ρ T (A++fr.H))++(eB EV++Φ))) (w.alloc (.cells (AV.ao ρ cs).toArray e)):=by rw [aO];exact hs1
     have:=h0.move;rw [pc,aO] at this;exact this
    have hfit':=O.apK hdn (Ey o w.heap.size);have hflo:∀x∈(f,w.heap.size,e,AV.ao ρ cs)::EV,ss X.P ops.toArray (a.put o.dst (Ey o w.heap.size)) x:=λx hx=>by
     rcases List.mem_cons.1 hx with rfl|hx
     .refine ⟨o,d,w,ho',r3,ns,rfl,?_,?_⟩
      .rw [r3];have hlt:d<a.tmps.size:=by rw [O.size];simpa using r5
       show (a.tmps.setIfInBounds d _).getD d undef=_;simp [Array.getD,hlt]
      .rw [execOp_put (ops:=ops.toArray) o ns a o.dst _ (λt ht hc=>r7 t hc (by rw [r3] at ht;exact (pa ht).symm))];exact hR
     .refine (hC x hx).put ho' ?_;rcases (i x hx).2 f (qz _ hf') with h9|h9
      .exact absurd h9 (hne x hx)
      .exact h9
    unfold wpOpIn;simp only [ho',hw,qq];refine jP r4 ?_;rw [hR,Oper.uponIn_value];refine ⟨aeN λp S=>hp p S _ ⟨eB ((f,w.heap.size,e,AV.ao ρ cs)::EV)++Φ,hs2.we⟩ (λx hx _=>(ahB hs2 hpd0 x hx).imp id (λh=>⟨h,hx0.trans (dX _ _)⟩)),?_⟩;have:=ihf ((f,w.heap.size,e,AV.ao ρ cs)::EV) (a.put o.dst (Ey o w.heap.size)) _ (hx0.trans (dX _ _)) (λx hx=>?_) hs2 (by rw [r3];exact hfit') (by rw [gS];exact hD) hflo
    .exact this
    .rcases List.mem_cons.1 hx with rfl|hx
     .exact ⟨r8,r9⟩
     .exact i x hx
  intro a O hD hC;simp only [gL];exact main fl.length EV a w₀ (Ext.refl _) i hs O hD hC
end
def cH:Code->Nat
 | .region _ ops _=>ops.toList.foldl (λm o=>match o.dst with|some d=>Nat.lor m (Nat.shiftLeft 1 d)|none=>m) 0
 | .seq a b=>Nat.lor (cH a) (cH b)
 | .cond _ a b=>Nat.lor (cH a) (cH b)
 | .block _ c=>cH c
 | .loop c=>cH c
 | .scope c=>cH c
 | .rangeFunc _ ps a b=>Nat.lor (ps.toList.foldl (λm d=>Nat.lor m (Nat.shiftLeft 1 d)) 0) (Nat.lor (cH a) (cH b))
 |_=>0
def Qn(t:Nat):List (Bool×Nat×Pt)->Bool
 |[]=>false
 |x::l=>(!x.1&&Nat.beq x.2.1 t)||Qn t l
def ur(m:Nat)(vs:List (Bool×Nat×Pt))(t:Nat):Bool:= !(Nat.testBit m t)&& !(Qn t vs)
def kW(m:Nat)(vs:List (Bool×Nat×Pt)):aE->aE
 |[]=>[]
 |x::E=>ay ( ur m vs x.1 ) ( x::kW m vs E ) ( kW m vs E )
def me(m:Nat)(vs:List (Bool×Nat×Pt)):aE->aE
 |[]=>[]
 |x::E=>ay ( ur m vs x.1 ) ( me m vs E ) ( x::me m vs E )
theorem W8{m:Nat}{vs:List (Bool×Nat×Pt)}{t:Nat}:{E:aE}->bw E t=ay (ur m vs t) (bw (kW m vs E) t) (bw (me m vs E) t)/\bw (ay (ur m vs t) (me m vs E) (kW m vs E)) t=none
 |[]=>by cases ur m vs t <;> exact ⟨rfl,rfl⟩
 |(t',g,v)::E=>by
  obtain ⟨b,a⟩:=W8 (m:=m) (vs:=vs) (t:=t) (E:=E);cases hb:Nat.beq t' t
  .rw [er hb];unfold kW me;cases c:ur m vs t' <;> cases d:ur m vs t <;> rw [d] at b a <;> first
    |exact ⟨by rw [er hb];exact b,a⟩
    |exact ⟨b,by rw [er hb];exact a⟩
    |exact ⟨b,a⟩
  .have e:=ah hb;subst e;rw [gq hb];unfold kW me;cases c:ur m vs t' <;> rw [c] at a
   .exact ⟨(gq hb).symm,a⟩
   .exact ⟨(gq hb).symm,a⟩
theorem afs{m:Nat}{vs:List (Bool×Nat×Pt)}{t:Nat}{E F:aE}:dy (me m vs E) (kW m vs E++F) t=dy E F t:=by
 have app:∀A B:aE,bw (A++B) t=match bw A t with|some x=>some x|none=>bw B t:=λA B=>by
  induction A with
  |nil=>rfl
  |cons x A ih=>
   obtain ⟨t',g,v⟩:=x;cases hb:Nat.beq t' t
   .rw [dk,er hb,er hb];exact ih
   .rw [dk,gq hb,gq hb]
 obtain ⟨b,a⟩:=W8 (m:=m) (vs:=vs) (t:=t) (E:=E);unfold dy;rw [app];cases c:ur m vs t <;> rw [c] at b a
 .rw [show bw (kW m vs E) t=none from a,b]
 .rw [show bw (me m vs E) t=none from a,b];rfl
theorem ail{ρ:ax}{E E' F a:aE}(h:∀t,dy E' a t=dy E F t):iE (au ρ [] E' a) (au ρ [] E F):=λt p hp=>by rw [fG] at hp ⊢;rw [<-h];exact hp
mutual
def AV.ids:AV->x3
 | .ptr id _|.sl id|.adr id _|.mp id|.nv id|.sfp id _|.bs id _=>[id]
 | .agg l|.tuple l=>AV.aaA l
 | .fn _ a b=>AV.aaA a++AV.aaA b
 | .ifc _ v=>v.ids
 |_=>[]
def AV.aaA:List AV->x3
 |[]=>[]
 |v::l=>v.ids++AV.aaA l
end
def alE(res:AV->AV)(ids:x3):List Row->x3
 |[]=>[]
 |r::G=>(match r with
  | .box j _ vs=>ay (sb j ids) (AV.aaA (vs.map res)) []
  |_=>[])++alE res ids G
def reach(st:aB)(fr:Fr)(ts:x3):x3:=
 let a:=(ts.map λt=>match dy st.E fr.F t with
  |some (_,v)=>v.ids
  |none=>[]).flatten
 let b:=a++alE (rD st.G fr.H) a st.G
 b++alE (rD st.G fr.H) b st.G
def fg(ids:x3)(r:Row):Bool:=sb r.id ids
def jS(ids:x3)(c:Nat):List Row->List Row×List Row×Nat
 |[]=>([],[],c)
 |r::G=>match r with
  | .box j t vs=>ay ( sb j ids ) ( match jU c vs with
   |(cs,R,c)=>match jS ids c G with
    |(G,R',c)=>(.box j t cs::G,R++R',c) )<|match jS ids c G with
   |(G,R',c)=>(.box j t vs::G,R',c)
  |r=>match jS ids c G with
   |(G,R',c)=>(r::G,R',c)
def fy:List Row->List (List AV)
 |[]=>[]
 |r::G=>(match r with
  | .box _ _ cs=>cs::fy G
  |_=>fy G)
structure al9(c:Nat)(G:List Row)(ρ ρ':ax)(x:List Row×List Row×Nat):Prop where
 ag:aT c ρ ρ'
 le:c<=x.2.2
 eq:ab ρ' [] x.1=ab ρ [] G
 lw:bB x.2.2 x.1=true
 rl:bB x.2.2 x.2.1=true
 rp:∀r∈x.2.1,(r.item ρ' []).cC=true/\∀M w,(r.item ρ' []).P M w
 bx:(fy x.1).map (AV.ao ρ')=(fy G).map (AV.ao ρ)
theorem L7{ρ ρ':ax}{c:Nat}(ha:aT c ρ ρ'):{G:List Row}->bB c G=true->(fy G).map (AV.ao ρ')=(fy G).map (AV.ao ρ)
 |[],_=>rfl
 |r::G,h=>by
  simp only [bB,ae] at h;have ih:=L7 ha h.2;cases r with
  |box j t cs=>
   have a:=h.1;simp only [Row.low,ae] at a;show AV.ao ρ' cs::(fy G).map (AV.ao ρ')=AV.ao ρ cs::(fy G).map (AV.ao ρ);rw [ih,AV.bS ha _ a.2]
  |_=>exact ih
theorem Hn{ids:x3}:{G:List Row}->{c:Nat}->{ρ:ax}->bB c G=true->∃ρ',al9 c G ρ ρ' (jS ids c G)
 |[],c,ρ,h=>⟨ρ,.refl,bb _,rfl,rfl,rfl,(λ_ h=>by cases h),rfl⟩
 |r::G,c,ρ,h=>by
  simp only [bB,ae] at h;have f:(∀t cs j,r= .box j t cs->sb j ids=false)->jS ids c (r::G)=(match jS ids c G with|(G,s,c)=>(r::G,s,c))->∃ρ',al9 c (r::G) ρ ρ' (jS ids c (r::G)):=λ_ e=>by
   obtain ⟨ρ',l⟩:=Hn (ids:=ids) (c:=c) (ρ:=ρ) h.2;rw [e];generalize jS ids c G=L at l;obtain ⟨q,R,A⟩:=L;refine ⟨ρ',l.ag,l.le,?_,?_,l.rl,l.rp,?_⟩
   .have:=l.eq;simp only [ab,cq] at this ⊢;rw [this,Row.yv l.ag h.1]
   .simp only [bB,ae];exact ⟨Row.fa l.le h.1,l.lw⟩
   .have hb:(fy q).map (AV.ao ρ')=(fy G).map (AV.ao ρ):=l.bx;cases r with
    |box j t cs=>
     have w:=h.1;simp only [Row.low,ae] at w;show AV.ao ρ' cs::(fy q).map (AV.ao ρ')=AV.ao ρ cs::(fy G).map (AV.ao ρ);rw [hb,AV.bS l.ag _ w.2]
    |_=>exact hb
  cases r with
  |box j t vs=>
   cases v:sb j ids
   .exact f (λt cs j h=>by cases h;exact v) (by simp only [jS,v])
   .have b:=h.1;simp only [Row.low,ae,du] at b;obtain ⟨k,a⟩:=Ih (ρ:=ρ) b.2;have e:jS ids c (.box j t vs::G)=(match jU c vs with
     |(cs,R,c)=>match jS ids c G with
      |(G,s,c)=>(.box j t cs::G,R++s,c)):=by simp only [jS,v]
    rw [e];generalize jU c vs=L at a;obtain ⟨cs,R,c1⟩:=L;obtain ⟨d,g⟩:=Hn (ids:=ids) (c:=c1) (ρ:=k) (wW a.le h.2);dsimp only;generalize jS ids c1 G=L at g;obtain ⟨q,s,z⟩:=L;have o:c<=c1:=a.le;have i:c1<=z:=g.le;have p:aT c ρ d:=a.ag.trans g.ag a.le;refine ⟨d,p,b9 o i,?_,?_,rm (wW i a.rl) g.rl,?_,?_⟩
    .have y:=g.eq;simp only [ab,cq,Row.item] at y ⊢;have m:AV.bV c1 cs=true:=a.lw;have n:AV.ao k cs=AV.ao ρ vs:=a.eq;rw [y,p _ b.1,AV.bS g.ag _ m,n];have:=bc (T:=[]) a.ag h.2;simp only [ab] at this;rw [this]
    .simp only [bB,Row.low,ae,du];exact ⟨⟨by omega,AV.jd i _ a.lw⟩,g.lw⟩
    .intro r b;rcases List.mem_append.1 b with b|b
     .have u:r.low c1=true:=by
       have key:∀{R:List Row},bB c1 R=true->∀r∈R,r.low c1=true:=λ{R}=>by
        induction R with
        |nil=>intro _ r h;cases h
        |cons x R ih=>
         intro h r b;simp only [bB,ae] at h;rcases List.mem_cons.1 b with rfl|b
         .exact h.1
         .exact ih h.2 r b
       exact key a.rl r b
      rw [Row.yv g.ag u];exact a.rp r b
     .exact g.rp r b
    .have hb:(fy q).map (AV.ao d)=(fy G).map (AV.ao k):=g.bx;show AV.ao d cs::(fy q).map (AV.ao d)=AV.ao ρ vs::(fy G).map (AV.ao ρ);have m:AV.bV c1 cs=true:=a.lw;have n:AV.ao k cs=AV.ao ρ vs:=a.eq;rw [hb,AV.bS g.ag _ m,n,L7 a.ag h.2]
  |_=>exact f (λt cs j h=>by cases h) rfl
variable {G : List Row}
def xj(E F:aE)(t:Nat):Option AV:=match dy E F t with
 |some (none,v)=>some v
 |_=>none
theorem DS{ρ:ax}{E F:aE}{t:Nat}{v:AV}(h:xj E F t=some v):look (au ρ [] E F) t=some (true,v.val ρ):=by
 unfold xj at h;split at h
 next a hv=>cases h;rw [fG,hv];simp
 .cases h
def Ux(st:aB)(fr:Fr):List (Bool×Nat×Pt)->x3
 |[]=>[]
 |x::l=>(ay x.1 (match dy st.E fr.F x.2.1 with
  |some (_,v)=>v.ids
  |none=>[]) [])++Ux st fr l
mutual
def ahc(G H:List Row):Pt->AV->x3
 | .own _ _ _,v=>v.ids
 | .mp _ _ _,v=>v.ids
 | .it,v=>v.ids
 | .bx _ _ _ vs,v=>(match v with
  | .ptr j _=>j::MB G H vs (cellsOf G H j)
  |_=>[])
 | .agg l,v=>(match v with
  | .agg vs=>MB G H l vs
  |_=>[])
 | .cE l,v=>(match v with
  | .tuple vs=>MB G H l vs
  |_=>[])
 | .fn _ a b,v=>(match v with
  | .fn _ a' b'=>MB G H a a'++MB G H b b'
  |_=>[])
 | .sty p,v=>ahc G H p v
 | .ifc _ p,v=>(match v with
  | .ifc _ u=>ahc G H p u
  |_=>[])
 | .dat _ o,v=>ay (o.all (λx=>x.isNone)) [] v.ids
 |_,_=>[]
def MB(G H:List Row):List Pt->List AV->x3
 |[],_=>[]
 |p::l,vs=>(match vs with
  |v::vs=>ahc G H p (rD G H v)++MB G H l vs
  |[]=>[])
end
def alh(st:aB)(fr:Fr):List (Bool×Nat×Pt)->x3
 |[]=>[]
 |x::l=>(match dy st.E fr.F x.2.1 with
  |some (_,v)=>ahc st.G fr.H x.2.2 (rD st.G fr.H v)
  |none=>[])++alh st fr l
structure En where
 fr:Fr
 E:aE
 G:List Row
 Et:aE
 Gt:List Row
 c:Nat
 fix:Nat->fY
def akW(E F:aE)(G:List Row)(t:Nat):fY:=match dy E F t with
 |some (_,v)=>some (v,match v with
  | .ptr j _=>cellsOf G [] j
  |_=>[])
 |none=>none
def enter(fr:Fr)(tm:Tm)(m:Nat)(st:aB):En:=
 let ids:=alh st fr tm.vs++reach st fr tm.th
 match jS (Ux st fr tm.vs) st.c (bm (fg ids) st.G) with
 |(Gt,R,c)=>⟨⟨kW m tm.vs st.E++fr.F,(R++bm (λr=> !(fg ids r)) st.G)++fr.H,fr.n⟩,kW m tm.vs st.E,R++bm (λr=> !(fg ids r)) st.G,me m tm.vs st.E,Gt,c,akW st.E fr.F Gt⟩
structure ap7(fr:Fr)(st:aB)(Φ:Ctx)(w:World)(ρ ρ':ax)(en:En):Prop where
 ag:aT st.c ρ ρ'
 le:st.c<=en.c
 ff:en.fr.F=en.E++fr.F
 fh:en.fr.H=en.G++fr.H
 fn:en.fr.n=fr.n
 lF:aE.low en.c en.fr.F=true
 lH:bB en.c en.fr.H=true
 sub:iE (au ρ' [] en.Et en.fr.F) (au ρ [] st.E fr.F)
 sat:Sat (ab ρ' [] en.Gt++(ab ρ' [] en.fr.H++Φ)) w
 fx:∀t q,en.fix t=some q->q.1.low en.c=true/\AV.bV en.c q.2=true
theorem aE.fa{c d:Nat}(a:c<=d):{E:aE}->E.low c=true->E.low d=true
 |[],_=>rfl
 |x::E,h=>by simp only [aE.low,ae] at h ⊢;exact ⟨AV.fa a _ h.1,aE.fa a h.2⟩
theorem aE.GZ{c:Nat}:{E F:aE}->E.low c=true->F.low c=true->aE.low c (E++F)=true
 |[],_,_,h=>h
 |x::E,F,h,k=>by simp only [dk,aE.low,ae] at h ⊢;exact ⟨h.1,aE.GZ h.2 k⟩
theorem Ii{c:Nat}:{E:aE}->E.low c=true->{t:Nat}->{x:GK×AV}->bw E t=some x->x.2.low c=true
 |[],_,_,_,h=>by cases h
 |(t',g,v)::E,h,t,x,hx=>by
  simp only [aE.low,ae] at h;cases hb:Nat.beq t' t
  .rw [er hb] at hx;exact Ii h.2 hx
  .rw [gq hb] at hx;cases hx;exact h.1
theorem Lu{c m:Nat}{vs:List (Bool×Nat×Pt)}:{E:aE}->E.low c=true->(kW m vs E).low c=true
 |[],_=>rfl
 |x::E,h=>by
  simp only [aE.low,ae] at h;unfold kW;cases ur m vs x.1
  .exact Lu h.2
  .show aE.low c (x::kW m vs E)=true;simp only [aE.low,ae];exact ⟨h.1,Lu h.2⟩
theorem JG{c m:Nat}{vs:List (Bool×Nat×Pt)}:{E:aE}->E.low c=true->(me m vs E).low c=true
 |[],_=>rfl
 |x::E,h=>by
  simp only [aE.low,ae] at h;unfold me;cases ur m vs x.1
  .show aE.low c (x::me m vs E)=true;simp only [aE.low,ae];exact ⟨h.1,JG h.2⟩
  .exact JG h.2
theorem Cw{c:Nat}{p:Row->Bool}:{G:List Row}->bB c G=true->bB c (bm p G)=true
 |[],_=>rfl
 |r::G,h=>by
  simp only [bB,ae] at h;unfold bm;cases p r
  .exact Cw h.2
  .show bB c (r::bm p G)=true;simp only [bB,ae];exact ⟨h.1,Cw h.2⟩
theorem ad3{c:Nat}{j:Nat}(h:bB c G=true):AV.bV c (cellsOf G [] j)=true:=by
 unfold cellsOf;split
 .rename_i s d t cs b;obtain ⟨a,_⟩:=bU b;cases s with
  |top i=>
   have:=pg h (show G[i]? =some _ from a);simp only [Row.low,ae] at this;exact this.2
  |cn i=>have a:([]:List Row)[i]? =some _:=a;simp at a
  |nilI=>exact a.elim
  |nilO=>exact a.elim
  |nilM=>exact a.elim
 .rfl
theorem ajx{c:Nat}{E F:aE}(d:E.low c=true)(b:F.low c=true)(a:bB c G=true){t:Nat}{q:AV×List AV}(h:akW E F G t=some q):q.1.low c=true/\AV.bV c q.2=true:=by
 unfold akW at h;split at h
 .rename_i v hv;cases h;refine ⟨?_,?_⟩
  .unfold dy at hv;split at hv
   next x hx=>cases hv;exact Ii d hx
   .exact Ii b hv
  .split
   .exact ad3 a
   .rfl
 .cases h
theorem vG{fr:Fr}{tm:Tm}{m:Nat}{st:aB}{ρ:ax}{Φ:Ctx}{w:World}(K:st.low fr=true)(D:Sat (ab ρ [] st.G++(ab ρ [] fr.H++Φ)) w):∃ρ',ap7 fr st Φ w ρ ρ' (enter fr tm m st):=by
 obtain ⟨g,f,u,s⟩:=aB.cz.1 K;unfold enter;dsimp only;generalize alh st fr tm.vs++reach st fr tm.th=ids;have n:=oK (A:=[]) (p:=fg ids) D;obtain ⟨ρ',l⟩:=Hn (ids:=Ux st fr tm.vs) (c:=st.c) (ρ:=ρ) (Cw (p:=fg ids) u);generalize jS (Ux st fr tm.vs) st.c (bm (fg ids) st.G)=L at l;obtain ⟨Gt,R,c⟩:=L;have a:st.c<=c:=l.le;have y:=Lu (m:=m) (vs:=tm.vs) g;have hp:=Cw (p:=λr=> !(fg ids r)) u;refine ⟨ρ',l.ag,a,rfl,rfl,rfl,?_,?_,?_,?_,λt q J=>?_⟩
 .exact aE.GZ (aE.fa a y) (aE.fa a f)
 .exact rm (rm l.rl (wW a hp)) (wW a s)
 .have o:au ρ' [] (me m tm.vs st.E) (kW m tm.vs st.E++fr.F)=au ρ [] (me m tm.vs st.E) (kW m tm.vs st.E++fr.F):=by rw [au,au,oJ l.ag (JG g),oJ l.ag (aE.GZ y f)]
  show iE (au ρ' [] (me m tm.vs st.E) (kW m tm.vs st.E++fr.F)) _;rw [o];exact ail λt=>afs
 .show Sat (ab ρ' [] Gt++(ab ρ' [] ((R++bm (λr=> !(fg ids r)) st.G)++fr.H)++Φ)) w;have o:ab ρ' [] Gt=ab ρ [] (bm (fg ids) st.G):=l.eq;have V:ab ρ' [] (bm (λr=> !(fg ids r)) st.G++fr.H)=ab ρ [] (bm (λr=> !(fg ids r)) st.G++fr.H):=bc l.ag (rm hp s);rw [aO,bh,o,V];have i:Sat (ab ρ [] (bm (fg ids) st.G)++(ab ρ [] (bm (λr=> !(fg ids r)) st.G++fr.H)++Φ)) w:=by simpa using n
  have e:∀(L:List Item) (A B:Ctx),(∀it∈L,it.cC=true/\∀M w,it.P M w)->Sat (A++B) w->Sat (A++(L++B)) w:=λL A B v h=>by
   have C:=AP h L (λit d=>⟨(v it d).1,(v it d).2 _ _⟩);have mv:∀(L:List Item) (A B:Ctx),Sat (L++(A++B)) w->Sat (A++(L++B)) w:=λL=>by
    induction L with
    |nil=>intro A B h;exact h
    |cons x L ih=>
     intro A B h;have z:Sat ([]++x::((L++A)++B)) w:=by simpa using h
     have T:Sat ([]++((L++A)++x::B)) w:=z.move;have S:Sat (L++(A++x::B)) w:=by simpa using T
     have Q:Sat (A++(L++x::B)) w:=ih _ _ S;have O:Sat (A++(L++[x]++B)) w:=by simpa using Q
     -- x goes ahead of L
     refine O.yE (λj k=>(j<A.length/\k=j)\/(j=A.length/\k=A.length+L.length)\/(A.length<j/\j<=A.length+L.length/\k+1=j)\/(A.length+L.length<j/\k=j)) (λj jt b=>?_) (λj k q N C z=>by omega);by_cases c1:j<A.length
     .rw [b7 c1] at b;exact .inr ⟨j,jt,.inl ⟨c1,rfl⟩,by rw [b7 c1];exact b,bQ.refl⟩
     .rw [bZ (by omega)] at b;by_cases X:j=A.length
      .subst X;simp at b;subst b;refine .inr ⟨A.length+L.length,x,.inr (.inl ⟨rfl,rfl⟩),?_,bQ.refl⟩;rw [bZ (by omega)];have:A.length+L.length-A.length=L.length:=by omega
       rw [this];simp
      .have U:j-A.length=(j-A.length-1)+1:=by omega
       rw [U,dk,b8] at b;by_cases W:j<=A.length+L.length
       .rw [b7 (by omega)] at b;refine .inr ⟨j-1,jt,.inr (.inr (.inl ⟨by omega,W,by omega⟩)),?_,bQ.refl⟩;rw [bZ (by omega),aO,b7 (by omega)];rw [show j-1-A.length=j-A.length-1 by omega];exact b
       .rw [bZ (by omega)] at b;refine .inr ⟨j,jt,.inr (.inr (.inr ⟨by omega,rfl⟩)),?_,bQ.refl⟩;rw [bZ (by omega),bZ (by simp;omega)];have:j-A.length-(L++[x]).length=j-A.length-1-L.length:=by simp;omega
        rw [this];exact b
   exact mv L A B C
  have:=e (ab ρ' [] R) (ab ρ [] (bm (fg ids) st.G)) (ab ρ [] (bm (λr=> !(fg ids r)) st.G++fr.H)++Φ) (λit d=>by obtain ⟨r,I,rfl⟩:=List.mem_map.1 d;exact l.rp r I) i
  simpa using this
 .exact ajx (aE.fa a g) (aE.fa a f) l.lw J
def Uz(G H:List Row)(look:Nat->Option AV)(fix:Nat->fY):List (Bool×Nat×Pt)->x3
 |[]=>[]
 |x::l=>(match (ay x.1 ((fix x.2.1).map (·.1)) (look x.2.1)) with
  |some v=>rB G H x.2.2 v
  |none=>[])++Uz G H look fix l
def R8(F:aE)(vs:List (Bool×Nat×Pt)):aE->Bool
 |[]=>true
 |x::E=>(Qn x.1 vs||oY (bw F x.1))&&R8 F vs E
def ML(en:En)(tm:Tm)(E:aE)(G:List Row):List Row:=cn (Uz G en.fr.H (xj E en.fr.F) en.fix tm.vs) G
def jC(en:En)(tm:Tm)(E:aE)(G:List Row):Option (eo (fZ tm.vs)):=
 match WW (ML en tm E G) en.fr.H (xj E en.fr.F) en.fix tm.vs [] with
 |some mr=>ay (AI (mr.S.map λx=>df (ML en tm E G) en.fr.H x.2)&&NT (ML en tm E G).length (mr.S.map λx=>df (ML en tm E G) en.fr.H x.2)&&R8 en.fr.F tm.vs E) (cE _ mr.D) none
 |none=>none
def rowsOf(R:List (Bool×Row)):List Row:=R.map (·.2)
def cF(en:En)(tm:Tm)(s:eo (fZ tm.vs))(h:HT):aB:=match eU (λn=>en.c+n) en.fix tm.vs 0 (fI _ s) with
 |⟨E,R,k,_⟩=>⟨en.c+k,E,rowsOf R,h⟩
def fL(en:En)(tm:Tm)(s:eo (fZ tm.vs))(h:HT):aB:=match eU (λn=>en.c+n) en.fix tm.vs 0 (fI _ s) with
 |⟨E,R,k,_⟩=>⟨en.c+k,E++en.E,rowsOf R++en.G,h⟩
def vB(e:XE)(en:En)(st:aB):aB:=match e with
 | .panL _=>{ st with E:=st.E++en.E,G:=st.G++cZ en.G }
 |_=>{ st with E:=st.E++en.E,G:=st.G++en.G }
theorem Sat.Sf{w:World}{A C:Ctx}:∀{B:Ctx},Sat (A++(B++C)) w->Sat (A++C) w
 |[],h=>h
 |_x::B,h=>Sat.Sf (B:=B) (Sat.yB h)
theorem Xu{nm:Nat->Nat}{fix:Nat->fY}{t:Nat}:{l:List (Bool×Nat×Pt)}->{n:Nat}->{D:List bX}->Qn t l=true->bw (eU nm fix l n D).E t≠none
 |[],n,D,h=>by cases h
 |(b,t',p)::l,n,D,h=>by
  unfold eU;dsimp only;generalize fill nm p (ay b (fix t') none) none n D=L;obtain ⟨v,R,k,c,j⟩:=L;dsimp only;generalize d:eU nm fix l k c=f;obtain ⟨a,m,i,g⟩:=f;dsimp only;have ih:Qn t l=true->bw a t≠none:=λe=>by have:=Xu (nm:=nm) (fix:=fix) (n:=k) (D:=c) e;rw [d] at this;exact this
  simp only [Qn,cp,ae] at h;cases b
  .show bw ((t',none,v)::a) t≠none;cases hb:Nat.beq t' t
   .rw [er hb];rcases h with ⟨_,h⟩|h
    .rw [hb] at h;cases h
    .exact ih h
   .rw [gq hb];simp
  .show bw a t≠none;rcases h with ⟨h,_⟩|h
   .cases h
   .exact ih h
theorem ZU{F:aE}{vs:List (Bool×Nat×Pt)}{t:Nat}:{E:aE}->{x:GK×AV}->R8 F vs E=true->bw E t=some x->Qn t vs=true\/bw F t=none
 |[],x,_,h=>by cases h
 |(t',g,v)::E,x,hb,h=>by
  simp only [R8,ae,cp] at hb;cases b:Nat.beq t' t
  .rw [er b] at h;exact ZU hb.2 h
  .have e:=ah b;subst e;rcases hb.1 with a|a
   .exact .inl a
   .cases c:bw F t' with
    |none=>exact .inr rfl
    |some y=>rw [c] at a;cases a
section
variable {en : En} {tm : Tm} {Φ : Ctx} {w : World} {ρ : ax}
theorem mR{E:aE}{s:eo (fZ tm.vs)}(lF:aE.low en.c en.fr.F=true)(lH:bB en.c en.fr.H=true)(fx:∀t q,en.fix t=some q->q.1.low en.c=true/\AV.bV en.c q.2=true)
  (hs:Sat (ab ρ [] G++(ab ρ [] en.fr.H++Φ)) w) (h:jC en tm E G=some s):
  ∃ρ' E' R k D,eU (λn=>en.c+n) en.fix tm.vs 0 (fI _ s)=⟨E',R,k,D⟩/\aT en.c ρ ρ'/\iE (au ρ' [] E' en.fr.F) (au ρ [] E en.fr.F)/\Sat (ab ρ' [] (rowsOf R)++(ab ρ' [] en.fr.H++Φ)) w:=by
 unfold jC at h;have d:=iG (ids:=Uz G en.fr.H (xj E en.fr.F) en.fix tm.vs) hs;change Sat (ab ρ [] (ML en tm E G)++_) w at d;generalize ML en tm E G=G' at h d;split at h
 .rename_i Q S;obtain ⟨U,h2⟩:=aG h;simp only [ae] at U;obtain ⟨⟨h3,h4⟩,h5⟩:=U;obtain ⟨N,I,r,n1,a1⟩:=Rh d tm.vs [] Q [] S .nil;rw [<-Aa _ h2] at r;obtain ⟨p1,_⟩:=MF d a1;obtain ⟨P,_⟩:=vw d p1 (vU h3);rw [Bf h4] at P;have Z:=P.Sf
  -- names
  have b:aT en.c ρ (λi=>ay (Nat.blt i en.c) (ρ i) ((N[i-en.c]?).getD cM)):=λj hj=>by
   have:Nat.blt j en.c=true:=by simpa using hj
   simp only [this]
  have l:te (λi=>ay (Nat.blt i en.c) (ρ i) ((N[i-en.c]?).getD cM)) (λn=>en.c+n) 0 N:=λi a ha=>by
   have:Nat.blt (en.c+i) en.c=false:=by
    cases hb:Nat.blt (en.c+i) en.c
    .rfl
    .simp only [du] at hb;omega
   simp only [this,show en.c+i-en.c=i by omega,ha,qs];exact ⟨trivial,trivial,trivial,λ_=>trivial⟩
  generalize (λi=>ay (Nat.blt i en.c) (ρ i) ((N[i-en.c]?).getD cM))=ρ' at b l;have e1:(λi=>eV ρ (en.fix i))=λi=>eV ρ' (en.fix i):=by
   funext i
   cases hq:en.fix i with
   |none=>rfl
   |some q=>
    obtain ⟨k1,k2⟩:=fx i q hq;show some (q.1.val ρ,AV.ao ρ q.2)=some (q.1.val ρ',AV.ao ρ' q.2);rw [AV.j3 b _ k1,AV.bS b _ k2]
  rw [e1] at r;obtain ⟨O,W,V,M⟩:=Qx (T:=[]) (nm:=λn=>en.c+n) tm.vs [] (fI _ s) I (dB ρ Q.X) N r (ZY S) l (p8 _) [];simp only [eF,qf] at O W V M;generalize hF:eU (λn=>en.c+n) en.fix tm.vs 0 (fI _ s)=L at O W V M;obtain ⟨E',R,k,D⟩:=L;refine ⟨ρ',E',R,k,D,rfl,b,λt p hp=>?_,?_⟩
  .rw [fG] at hp;cases m:bw E' t with
   |some x=>
    have u:look (aE.env ρ' [] E') t=some (aA.get [] x.1,x.2.val ρ'):=by rw [sq,m];rfl
    obtain ⟨c1,g⟩:=O t _ u;have K:dy E' en.fr.F t=some x:=by unfold dy;rw [m]
    rw [K] at hp;simp only [j5,b0] at hp;subst hp;simp only at c1 g;cases f:xj E en.fr.F t with
    |none=>rw [f] at g;cases g
    |some v=>
     rw [f] at g;simp only [j5,b0] at g;rw [DS f,c1,g]
   |none=>
    have K:dy E' en.fr.F t=bw en.fr.F t:=by unfold dy;rw [m]
    rw [K] at hp;cases e:bw en.fr.F t with
    |none=>rw [e] at hp;cases hp
    |some y=>
     rw [e] at hp;simp only [j5,b0] at hp;have J:bw E t=none:=by
      cases J:bw E t with
      |none=>rfl
      |some z=>
       rcases ZU h5 J with o|o
       .have:=Xu (nm:=λn=>en.c+n) (fix:=en.fix) (n:=0) (D:=fI _ s) o;rw [hF] at this;exact (this m).elim
       .rw [e] at o;cases o
     rw [fG];unfold dy;rw [J,e,<-hp];simp only [j5];rw [AV.j3 b _ (Ii lF e)]
  .have Y:=Sat.leL (A:=[]) (B:=dh I) (C:=ab ρ [] en.fr.H++Φ) Z M.rw;rw [bc b lH];exact Y
 .cases h
end
variable {fr : Fr}
def amr(P:Program)(o:Oper):Bool:=match o.op with
 | .store ..|.alloc _|.box ..|.buildSlice ..|.makeSlice ..|.makeMap ..|.mapUpdate ..|.insert ..|.range ..|.next ..|.defer _|.panic _=>true
 | .convert s d _=>isStr P s&& !(isStr P d)
 | .call ⟨.builtin b,_,_⟩=>(match b with
  | .len|.cap|.min|.max|.unsafeSliceData=>false
  |_=>true)
 | .call _=>true
 |_=>false
def agn(q:Bool)(m:Nat):Nat->List (Nat×Bool)->v7
 |_,[]=>none
 |k,x::l=>ay ( Vf x.2 (!q)&& !(Nat.testBit m k)&&HV x.1 m ) ( some k )<|agn q m (k+1) l
def aaW(l:List (Nat×Bool)):Nat->Nat->OT
 |0,_=> .nil
 |n+1,m=>match agn true m 0 l with
  |some k=> .q k m (aaW l n (bit m k))
  |none=>match agn false m 0 l with
   |none=> .nil
   |some k=>match agn false m (k+1) (l.drop (k+1)) with
    |none=> .l k m (aaW l n (bit m k))
    |some j=> .l2 m k (aaW l n (bit m k)) j (aaW l n (bit m j))
def aqf(o:Oper):Bool:=match o.op,o.guard with
 | .alloc _,none=>true
 | .buildSlice .., none=>true
 |_,_=>false
def afW(kd m:Nat):Nat->List (Nat×Nat)->Option (Nat×Nat)
 |_,[]=>none
 |k,x::l=>ay ( Nat.beq x.2 kd&& !(Nat.testBit m k)&&HV x.1 m ) ( some (k,x.1) )<|afW kd m (k+1) l
def P7(m:Nat):Nat->List (Nat×Nat)->x3
 |_,[]=>[]
 |k,x::l=>ay ( Nat.beq x.2 2&& !(Nat.testBit m k)&&HV x.1 m ) ( k::P7 m (k+1) l )<|P7 m (k+1) l
def alj(l:List (Nat×Nat)):Nat->Nat->OT
 |0,_=> .nil
 |n+1,m=>match afW 0 m 0 l with
  |some p=> .q p.1 m (alj l n (bit m p.1))
  |none=>match (match afW 1 (gT m (P7 m 0 l)) 0 l with
    |some p=>some p
    |none=>afW 0 (gT m (P7 m 0 l)) 0 l) with
   |none=> .nil
   |some p=> .f p.1 m (P7 m 0 l) ((P7 m 0 l).filter λf=>Nat.testBit p.2 f) (alj l n (bit (gT m ((P7 m 0 l).filter λf=>Nat.testBit p.2 f)) p.1))
def amv{R:Type}(X:Cx)(tb:List aq)(tp:List bH)(KP:AV->aB->Option R)(ops:w5)(fr:Fr)(th:x3)(t:OT)(st:aB)(K:cB R):Option R:=
 ay ( X.P.follows .mixedOrders&&acU ops (ops.toList.map λo=>fu o.after.toList) t ) (
  nu X tb tp KP ops.toList fr t (bm (λr=> !(fg (reach st fr th) r)) st.G) [] [] { st with G:=bm (fg (reach st fr th)) st.G } K ) none
def ajU(fr:Fr)(st:aB):x3->x3
 |[]=>[]
 |t::th=>ay (Nat.ble 20000 t) ((match dy st.E fr.F (t-20000) with
  |some (_,v)=>AV.dY v++(match v with
   | .ptr id _=>(match lQ (wg id) st.G with
    |some (_,.box _ _ cs)=>((cs.map (rD st.G fr.H)).map AV.dY).flatten
    |_=>[])
   |_=>[])
  |none=>[])++ajU fr st th) (ajU fr st th)
def Pl(fr:Fr)(st:aB)(th:x3):aB:=match ajU fr st th with
 |[]=>st
 |ids=>{ st with G:=cn ids st.G }
theorem aes{st:aB}{th:x3}{ρ:ax}{T:aA}{B:Ctx}{w:World}(h:Sat (ab ρ T st.G++B) w):
  (Pl fr st th).c=st.c/\(Pl fr st th).E=st.E/\Sat (ab ρ T (Pl fr st th).G++B) w:=by
 unfold Pl;split
 .exact ⟨rfl,rfl,h⟩
 .exact ⟨rfl,rfl,iG h⟩
def GS{R:Type}(X:Cx)(tb:List aq)(tp:List bH)(KP:AV->aB->Option R)(ops:w5)(fr:Fr)(th:x3)(st:aB)(K:cB R):Option R:=
 amv X tb tp KP ops fr th (cond (db 40000 th) (alj (ops.toList.map λo=>(fu o.after.toList,cond (aqf o) 2 (cond (amr X.P o) 1 0))) ops.toList.length 0) (aaW (ops.toList.map λo=>(fu o.after.toList,amr X.P o)) ops.toList.length 0)) (Pl fr st th) K
abbrev brk{R:Type}(i:Nat)(K:XE->aB->Option R):XE->aB->Option R
 | .ext j,st=>ay ( Nat.beq j i ) ( K .nrm st ) ( K (.ext j) st )
 |e,st=>K e st
abbrev uN{R:Type}(K1:aB->Option R)(K:XE->aB->Option R):XE->aB->Option R
 | .nrm,st=>K1 st
 |e,st=>K e st
abbrev cnd{R:Type}(b:Bool)(d1 d2:HT->Option R)(h:HT):Option R:=match h with
 | .c p q=>cond b (d1 p) (d2 q)
 |h=>cond b (d1 h) (d2 h)
def abA(fr:Fr)(st:aB):aB:=match st.h with
 | .r (30000::th) h=>Pl fr { st with h:=h } th
 |_=>st
theorem anP{st:aB}{ρ:ax}{T:aA}{B:Ctx}{w:World}(h:Sat (ab ρ T st.G++B) w):
  (abA fr st).c=st.c/\(abA fr st).E=st.E/\Sat (ab ρ T (abA fr st).G++B) w:=by
 unfold abA;split
 next th a _=>exact aes (st:={ st with h:=a }) h
 .exact ⟨rfl,rfl,h⟩
def akK(v:AV)(i:Nat):Option (Int×(Int->AV)):=match v with
 | .int k x=>(match i with
  |0=>some (x,.int k)
  |_=>none)
 | .agg l=>(match i with
  |0=>none
  |j+1=>(match l[j]? with
   |some (.int k x)=>some (x,λy=> .agg (l.set j (.int k y)))
   |_=>none))
 |_=>none
theorem anp{v:AV}{i:Nat}{p:Int×(Int->AV)}(h:akK v i=some p):p.2 p.1=v:=by
 unfold akK at h;split at h
 .split at h
  .cases h;rfl
  .cases h
 .split at h
  .cases h
  .rename_i l j;split at h
   next k x hx=>cases h;simp only;congr 1;obtain ⟨b,a⟩:=List.getElem?_eq_some_iff.1 hx;rw [<-a];exact List.set_getElem_self b
   .cases h
 .cases h
def abC{R:Type}(F:aE)(t i:Nat)(k:aB->Option R):x3->HT->aB->Option R
 |v::vs,h,st=>(match h with
  | .c h hs=>(match dy st.E F t with
   |some (none,av)=>(match akK av i with
    |some p=>cond (p.1==(v:Int)) (k { st with h:=h,E:=(t,none,p.2 (v:Int))::st.E }) (abC F t i k vs hs st)
    |none=>none)
   |_=>none)
  |_=>none)
 |[],h,st=>(match h with
  | .n 77777 _=>none
  |h=>k { st with h:=h })
theorem afk{R:Type}{r:R}{F:aE}{t i:Nat}{k:aB->Option R}{st:aB}:∀{vs:x3} {h:HT},abC F t i k vs h st=some r->
  ∃st',k st'=some r/\st'.c=st.c/\st'.G=st.G/\∀ρ T,iE (au ρ T st'.E F) (au ρ T st.E F)
 |[],h,hh=>by
  unfold abC at hh;split at hh
  .cases hh
  .exact ⟨_,hh,rfl,rfl,λ_ _=> .refl⟩
 |v::vs,h,hh=>by
  unfold abC at hh;split at hh
  .rename_i l f;split at hh
   .rename_i av b;split at hh
    .rename_i p hp;rcases rT hh with ⟨e,d⟩|⟨_,d⟩
     .refine ⟨_,d,rfl,rfl,λρ T u x hx=>?_⟩;have j:p.2 (v:Int)=av:=by rw [<-anp hp,eq_of_beq e]
      have g:look (au ρ T st.E F) t=some (true,av.val ρ):=by rw [fG,b];simp
      show look (au ρ T st.E F) u=some x;rw [j] at hx;have a:look ((t,true,av.val ρ)::au ρ T st.E F) u=some x:=by simpa [au,aE.env] using hx
      unfold look at a;cases hb:Nat.beq t u
      .rw [hb] at a;exact a
      .rw [hb] at a;have:=ah hb;subst this;rw [g];exact a
     .exact afk d
    .cases hh
   .cases hh
  .cases hh
abbrev frL(fr:Fr):Fr:=⟨fr.F,cZ fr.H,fr.n⟩
abbrev stL(fr:Fr)(st:aB)(h:HT):aB:={ st with G:=st.G++bm cQ fr.H,h:=h }
abbrev toL{R:Type}(K:XE->aB->Option R):XE->aB->Option R
 | .panE v,st=>K (.panL v) st
 |_,_=>none
abbrev apg{R:Type}(X:Cx)(tb:List aq)(tp:List bH)(ops:w5)(fr:Fr)(K:XE->aB->Option R)(st:aB):Option R:=
 xp X tb tp (λb v st=>K (ay b (.panL v) (.panE v)) st) ops.toList fr ops.toList [] st (K .nrm)
def den{R:Type}(X:Cx)(tb:List aq)(tp:List bH):Code->Fr->(XE->aB->Option R)->aB->Option R
 | .skip,_,K,st=>K .nrm st
 | .label _,_,K,st=>K .nrm st
 | .exit i,_,K,st=>K (.ext i) st
 | .goto l,_,K,st=>K (.gto l) st
 | .ret,_,K,st=>K .ret st
 | .block i c,fr,K,st=>den X tb tp c fr (brk i K) (abA fr st)
 | .cond c x y,fr,K,st=>match bq [] st.E fr.F none c with
  |some (.bool b)=>cnd b (λh=>den X tb tp x fr K { st with h:=h }) (λh=>den X tb tp y fr K { st with h:=h }) st.h
  |_=>none
 | .seq x y,fr,K,st=>match st.h with
  | .j tm p q=>ay (st.low fr) (
   ai (λs:eo (fZ tm.vs)=>den X tb tp y fr K (fL (enter fr tm (cH x) st) tm s q)) λk=>
   den X tb tp x (enter fr tm (cH x) st).fr (uN (λst'=>match jC (enter fr tm (cH x) st) tm st'.E st'.G with
     |some s=>k s
     |none=>none) (λe st'=>K e (vB e (enter fr tm (cH x) st) st'))) ⟨(enter fr tm (cH x) st).c,(enter fr tm (cH x) st).Et,(enter fr tm (cH x) st).Gt,p⟩ ) none
  | .s h=>den X tb tp x fr (uN (den X tb tp y fr K) K) { st with h:=h }
  | .r (60000::t::i::vs) h=>abC fr.F t i (λst=>den X tb tp x fr (uN (den X tb tp y fr K) K) st) vs h st
  |_=>den X tb tp x fr (uN (den X tb tp y fr K) K) st
 | .loop c,fr,K,st=>match st.h with
  | .l tm p=>ay (st.low fr) (
   match jC (enter fr tm (cH c) st) tm (enter fr tm (cH c) st).Et (enter fr tm (cH c) st).Gt with
   |some s=>az (λagain s=>den X tb tp c (enter fr tm (cH c) st).fr (uN (λst'=>match jC (enter fr tm (cH c) st) tm st'.E st'.G with
      |some s=>again s
      |none=>none) (λe st'=>K e (vB e (enter fr tm (cH c) st) st'))) (cF (enter fr tm (cH c) st) tm s p)) X.fl s
   |none=>none ) none
  | .n k h=>az (λagain st=>den X tb tp c fr (uN again K) st) k { st with h:=h }
  |_=>none
 | .region _ ops false,fr,K,st=>match st.h with
  | .r (80000::_) h=>apg X tb tp ops (frL fr) (toL K) (stL fr st h)
  |_=>apg X tb tp ops fr K st
 | .region _ ops true,fr,K,st=>match st.h with
  | .r th h=>GS X tb tp (λv st=>K (.gC v) st) ops fr th { st with h:=h } (K .nrm)
  |_=>GS X tb tp (λv st=>K (.gC v) st) ops fr [] st (K .nrm)
 |_,_,_,_=>none
def XE.ex:XE->Exit
 | .nrm=> .normal
 | .ret=> .ret
 | .ext i=> .exit i
 | .gto l=> .goto l
 | .gC _=> .goto 0
 | .panE _=> .goto 0
 | .panL _=> .goto 0
def LU(Q:br)(e:XE)(ρ:ax)(n:Nat)(D:u9)(E:Env)(w:World):Prop:=match e with
 | .gC v=>A0 Q (gC (v.val ρ)) D w
 | .panE v=>At Q (.panic (gC (v.val ρ))) n D E w
 | .panL v=>At Q (.panic (gC (v.val ρ))) n D E w
 |e=>At Q e.ex n D E w
abbrev hx(e:XE)(fr:Fr):List Row:=match e with
 | .panL _=>cZ fr.H
 |_=>fr.H
def iv{R:Type}(Q:br)(D:u9)(fr:Fr)(Φ:Ctx)(c0:Nat)(ρ0:ax)(r:R)(K:XE->aB->Option R):Prop:=
 ∀e st ρ w,aT c0 ρ0 ρ->c0<=st.c->K e st=some r->Sat (ab ρ [] st.G++(ab ρ [] (hx e fr)++Φ)) w->LU Q e ρ fr.n D (au ρ [] st.E fr.F) w
theorem iv.less{R:Type}{Q:br}{D:u9}{Φ:Ctx}{b c1:Nat}{ρ0 a:ax}{r:R}{K:XE->aB->Option R}(h:iv Q D fr Φ b ρ0 r K)(ha:aT b ρ0 a)(hc:b<=c1):iv Q D fr Φ c1 a r K:=
 λe st ρ w g f d c=>h e st ρ w (ha.trans g hc) (b9 hc f) d c
section
variable {P : Program} {ρ : v7} {Q : br} {n : Nat} {D : u9} {E : Env} {w : World}
theorem PY{σ γ τ:Type}{F:(σ->Option τ)->σ->Option τ}{r:τ}(J:σ->γ->World->Prop)(c:σ->γ->Env){body:Code}
  {N:Nat} {b:σ} (k:az F N b=some r) (f:γ) (u:J b f w) (q:iE (c b f) E)
  (round:∀again s g w,F again s=some r->J s g w->WC P ρ body (Exit.then (Mw again r J c n D) Q) n D (c s g) w):
  WC P ρ (.loop body) Q n D E w:=λa l hd=>
 FK (λm=>Mw (az F m) r J c n D) N ⟨b,f,k,u,l.lq q,hd⟩ λm a w ⟨s,g,j,o,p,t⟩=>by
  obtain ⟨i,rfl,d⟩:=Ln j;exact wpIn_mono (round (az F i) s g w d o a p t) λe a w h=>by cases e <;> first|exact h|exact ⟨i,qd _,h⟩
theorem JV{σ γ τ:Type}{a:σ->Option τ}{r:τ}{J:σ->γ->World->Prop}{b:σ->γ->Env}
  (s:σ) (g:γ) (d:a s=some r) (f:J s g w) (c:iE (b s g) E):At (Exit.then (Mw a r J b n D) Q) .normal n D E w:=
 λh e hd=>⟨s,g,d,f,e.lq c,hd⟩
theorem ajS{γ:Type}{J:γ->World->Prop}{a:γ->Env}(g:γ)(d:J g w)(b:iE (a g) E):At (Exit.then (O9 J a n D) Q) .normal n D E w:=
 λe c hd=>⟨g,d,c.lq b,hd⟩
theorem gb{K:Act->World->Prop}{e:XE}{ρ:ax}(a:e≠ .nrm)(h:LU Q e ρ n D E w):LU (Exit.then K Q) e ρ n D E w:=by cases e <;> first|exact (a rfl).elim|exact h
end
section
variable {X : Cx} {tb : List aq} {tp : List bH} {σ : v7} {D : u9} {R : Type} {r : R} {Φ : Ctx}
theorem PS{Q:br}{k i:Nat}{ρ0:ax}{K:XE->aB->Option R}(h:iv Q D fr Φ k ρ0 r K):iv (Exit.inBlock i Q) D fr Φ k ρ0 r (brk i K):=λe st ρ w d c b a=>by
 cases e with
 |nrm=>exact Yv (h .nrm st ρ w d c b a)
 |ret=>exact agq (h .ret st ρ w d c b a)
 |gto l=>exact adL (h (.gto l) st ρ w d c b a)
 |gC v=>exact anv (h (.gC v) st ρ w d c b a)
 |panE v=>exact Kq (h (.panE v) st ρ w d c b a)
 |panL v=>exact Kq (h (.panL v) st ρ w d c b a)
 |ext j=>
  unfold brk at b;rcases dp b with ⟨g,f⟩|⟨g,f⟩
  .have:=ah g;subst this;exact adl (h .nrm st ρ w d c f a)
  .exact acp g (h (.ext j) st ρ w d c f a)
theorem kZ{b:aB->Option R}{K:XE->aB->Option R}{e:XE}{st:aB}(a:e≠ .nrm):uN b K e st=K e st:=by cases e <;> first|exact (a rfl).elim|rfl
theorem sW{Q:br}{d:Nat}{ρ0 a:ax}{en:En}{K:XE->aB->Option R}(h:iv Q D fr Φ d ρ0 r K)(ag:aT d ρ0 a)(le:d<=en.c)(ff:en.fr.F=en.E++fr.F)(fh:en.fr.H=en.G++fr.H)(fn:en.fr.n=fr.n):
  ∀e st ρ w,aT en.c a ρ->en.c<=st.c->K e (vB e en st)=some r->Sat (ab ρ [] st.G++(ab ρ [] (hx e en.fr)++Φ)) w->LU Q e ρ en.fr.n D (au ρ [] st.E en.fr.F) w:=λe st ρ w l k j g=>by
 have hc:(vB e en st).c=st.c:=by cases e <;> rfl
 have i:(vB e en st).E=st.E++en.E:=by cases e <;> rfl
 have:=h e (vB e en st) ρ w (ag.trans l le) (b9 le (by rw [hc];exact k)) j (by
  have f:∀(A B:List Row),Sat (ab ρ [] st.G++(ab ρ [] (A++B)++Φ)) w->Sat (ab ρ [] (st.G++A)++(ab ρ [] B++Φ)) w:=λA B h=>by rw [bh,aO];rw [bh,aO] at h;exact h
  cases e with
  |panL v=>
   have b:Sat (ab ρ [] st.G++(ab ρ [] (cZ en.fr.H)++Φ)) w:=g;rw [fh,JM] at b;exact f _ _ b
  |_=>
   have b:Sat (ab ρ [] st.G++(ab ρ [] en.fr.H++Φ)) w:=g;rw [fh] at b;exact f _ _ b)
 rw [fn,ff];have m:au ρ [] st.E (en.E++fr.F)=au ρ [] (vB e en st).E fr.F:=by rw [i];show aE.env ρ [] st.E++aE.env ρ [] (en.E++fr.F)=aE.env ρ [] (st.E++en.E)++aE.env ρ [] fr.F;rw [mu,mu,aO]
 rw [m];exact this
theorem alu{Q:br}{b:Nat}{ρ0:ax}{K:XE->aB->Option R}(h:iv Q D fr Φ b ρ0 r K):iv Q D (frL fr) Φ b ρ0 r (toL K):=λe st ρ w f d a c=>by
 cases e with
 |panE v=>exact h (.panL v) st ρ w f d a c
 |_=>cases a
theorem anX{st:aB}{ρ:ax}{w:World}{d:HT}(b:Sat (ab ρ [] st.G++(ab ρ [] fr.H++Φ)) w):Sat (ab ρ [] (stL fr st d).G++(ab ρ [] (frL fr).H++Φ)) w:=by
 have a:=oK (p:=cQ) (G:=fr.H) (H:=[]) (A:=ab ρ [] st.G) (Φ:=Φ) b;have c:∀H:List Row,bm (λr=> !(cQ r)) H=cZ H:=λH=>by
  induction H with
  |nil=>rfl
  |cons r H ih=>
   show ay (!(!r.cC)) (r::bm _ H) (bm _ H)=ay r.cC (r::cZ H) (cZ H);rw [ih,Bool.not_not]
 rw [eF,c] at a;show Sat (ab ρ [] (st.G++bm cQ fr.H)++(ab ρ [] (cZ fr.H)++Φ)) w;rw [bh,aO];exact a
theorem aeK{Q:br}{st:aB}{ρ:ax}{w:World}{K:XE->aB->Option R}(i:∀it∈X.Γ,it∈Φ)(k:∀e∈tb,e.Ok X.P X.Γ)(j:∀e∈tp,e.Ok X.P X.Γ){id:Nat}{ops:w5}(p:Sat (ab ρ [] st.G++(ab ρ [] fr.H++Φ)) w)
  (h:xp X tb tp (λb v st=>K (ay b (.panL v) (.panE v)) st) ops.toList fr ops.toList [] st (K .nrm)=some r) (m:iv Q D fr Φ st.c ρ r K):WC X.P σ (.region id ops false) Q fr.n D (au ρ [] st.E fr.F) w:=by
 obtain ⟨l⟩:=ops;exact bf (Vg i k j (λx h=>by cases h) (λx h=>by cases h) ⟨λx _=>rfl,λx _=>rfl⟩ p h (λst' ρ' w' g f d a=>m .nrm st' ρ' w' g f d a) (λo v st' ρ' w' g f d a=>by
  cases o
  .exact m (.panE v) st' ρ' w' g f d a
  .exact m (.panL v) st' ρ' w' g f d a))
theorem QR{Q:br}{st:aB}{ρ:ax}{w:World}{K:XE->aB->Option R}(d:∀it∈X.Γ,it∈Φ)(g:∀e∈tb,e.Ok X.P X.Γ)(f:∀e∈tp,e.Ok X.P X.Γ){id:Nat}{ops:w5}{th:x3}(a:Sat (ab ρ [] st.G++(ab ρ [] fr.H++Φ)) w)
  (h:GS X tb tp (λv st=>K (.gC v) st) ops fr th st (K .nrm)=some r) (b:iv Q D fr Φ st.c ρ r K):WC X.P σ (.region id ops true) Q fr.n D (au ρ [] st.E fr.F) w:=by
 obtain ⟨l⟩:=ops;unfold GS at h;generalize cond (db 40000 th) _ _=t at h;obtain ⟨u,s,a⟩:=aes (fr:=fr) (th:=th) a;rw [<-u] at b;rw [<-s];generalize Pl fr st th=st at h a b;unfold amv at h;obtain ⟨j,z⟩:=aG h;simp only [ae] at j;refine tC _ t j.1 j.2 (λw1 y=>?_);have i:=oK (A:=[]) (p:=fg (reach st fr th)) (a.ext y);exact Cz.wd (amM (EV:=[]) (st:={ st with G:=bm (fg (reach st fr th)) st.G }) d g f (λx h=>by cases h) (λx h=>by cases h) ⟨λx _=>rfl,λx _=>rfl⟩ (λx h=>by cases h) (λx h=>by cases h) i (λp h=>by cases h) z (λst' ρ' w' q o m k=>b .nrm st' ρ' w' q o m k) (λv st' ρ' w' q o m k=>b (.gC v) st' ρ' w' q o m k))
theorem Qz{b:Bool}{f d2:HT->Option R}{h:HT}(d:cnd b f d2 h=some r):∃p q,(b=true->f p=some r)/\(b=false->d2 q=some r):=by
 unfold cnd at d;split at d
 .rename_i p q;rcases rT d with ⟨c,a⟩|⟨c,a⟩
  .exact ⟨p,q,λ_=>a,λe=>by rw [c] at e;cases e⟩
  .exact ⟨p,q,(λe=>by rw [c] at e;cases e),λ_=>a⟩
 .rcases rT d with ⟨c,a⟩|⟨c,a⟩
  .exact ⟨_,h,λ_=>a,λe=>by rw [c] at e;cases e⟩
  .exact ⟨h,_,(λe=>by rw [c] at e;cases e),λ_=>a⟩
theorem eY(j:∀it∈X.Γ,it∈Φ)(t:∀e∈tb,e.Ok X.P X.Γ)(o:∀e∈tp,e.Ok X.P X.Γ):∀(c:Code) {Q:br} {fr:Fr} {K:XE->aB->Option R} {st:aB} {ρ:ax} {w:World},Sat (ab ρ [] st.G++(ab ρ [] fr.H++Φ)) w->
  den X tb tp c fr K st=some r->iv Q D fr Φ st.c ρ r K->WC X.P σ c Q fr.n D (au ρ [] st.E fr.F) w
 | .skip,Q,fr,K,st,ρ,w,hs,h,hK=>o6 (hK .nrm st ρ w .refl (bb _) (by unfold den at h;exact h) hs)
 | .label _,Q,fr,K,st,ρ,w,hs,h,hK=>abj (hK .nrm st ρ w .refl (bb _) (by unfold den at h;exact h) hs)
 | .exit i,Q,fr,K,st,ρ,w,hs,h,hK=>WN (hK (.ext i) st ρ w .refl (bb _) (by unfold den at h;exact h) hs)
 | .goto l,Q,fr,K,st,ρ,w,hs,h,hK=>afa (hK (.gto l) st ρ w .refl (bb _) (by unfold den at h;exact h) hs)
 | .ret,Q,fr,K,st,ρ,w,hs,h,hK=>tA (hK .ret st ρ w .refl (bb _) (by unfold den at h;exact h) hs)
 | .block i c,Q,fr,K,st,ρ,w,hs,h,hK=>by
  obtain ⟨z1,z2,z3⟩:=anP (fr:=fr) hs;unfold den at h;rw [<-z2];rw [<-z1] at hK;exact Qy (eY j t o c z3 h (PS hK))
 | .cond c x y,Q,fr,K,st,ρ,w,hs,h,hK=>by
  unfold den at h;split at h
  next b hb=>have hc:=bD (ρ:=ρ) hb;simp only [AV.val] at hc;obtain ⟨p,q,h1,S⟩:=Qz h;exact ir hc (λhb=>eY j t o x (st:={ st with h:=p }) hs (h1 hb) hK) (λhb=>eY j t o y (st:={ st with h:=q }) hs (S hb) hK)
  .cases h
 | .seq x y,Q,fr,K,st,ρ,w,hs,h,hK=>by
  have N:∀T,den X tb tp x fr (uN (den X tb tp y fr K) K) { st with h:=T }=some r->WC X.P σ (.seq x y) Q fr.n D (au ρ [] st.E fr.F) w:=λT hd=>by
   refine bn (eY j t o x (st:={ st with h:=T }) hs hd (λe st' ρ' w' I M z C=>?_));by_cases v:e= .nrm
   .subst v;exact ba (eY j t o y C z (hK.less I M))
   .rw [kZ v] at z;exact gb v (hK e st' ρ' w' I M z C)
  unfold den at h;split at h
  .rename_i tm p q Y;obtain ⟨hl,S⟩:=aG h;obtain ⟨J,en⟩:=vG (tm:=tm) (m:=cH x) hl hs;generalize enter fr tm (cH x) st=f at S en;unfold ai at S;refine agh (γ:=eo (fZ tm.vs)×ax) (λg w'=>den X tb tp y fr K (fL f tm g.1 q)=some r/\aT f.c J g.2/\Sat (ab g.2 [] (fL f tm g.1 q).G++(ab g.2 [] fr.H++Φ)) w') (λg=>au g.2 [] (fL f tm g.1 q).E fr.F) (λg w' hg=>?_) ?_
   .obtain ⟨g1,g2,g3⟩:=hg;refine eY j t o y g3 g1 (hK.less (en.ag.trans g2 en.le) ?_);have:f.c<=(fL f tm g.1 q).c:=by unfold fL;generalize eU (λn=>f.c+n) f.fix tm.vs 0 (fI _ g.1)=L;obtain ⟨a,b,c,d⟩:=L;exact qt _ _
    exact b9 en.le this
   .have hx:=eY j t o x (fr:=f.fr) (st:=⟨f.c,f.Et,f.Gt,p⟩) (ρ:=J) (Q:=Exit.then (O9 (λ(g:eo (fZ tm.vs)×ax) w'=>den X tb tp y fr K (fL f tm g.1 q)=some r/\aT f.c J g.2/\Sat (ab g.2 [] (fL f tm g.1 q).G++(ab g.2 [] fr.H++Φ)) w') (λg=>au g.2 [] (fL f tm g.1 q).E fr.F) fr.n D) Q) en.sat S (λe st' ρ' w' I M z C=>?_)
    .rw [en.fn] at hx;exact hx.lq _ en.sub
    .by_cases v:e= .nrm
     .subst v;have B:(match jC f tm st'.E st'.G with|some s=>den X tb tp y fr K (fL f tm s q)|none=>none)=some r:=z;split at B
      .rename_i s hb;obtain ⟨u,E',V,k,DD,b1,b2,b3,b4⟩:=mR en.lF en.lH en.fx C hb;have eJ:fL f tm s q=⟨f.c+k,E'++f.E,rowsOf V++f.G,q⟩:=by unfold fL;rw [b1]
       rw [en.fn];refine ajS (s,u) ⟨B,I.trans b2 (bb _),?_⟩ ?_
       .rw [eJ];show Sat (ab u [] (rowsOf V++f.G)++_) w';rw [bh,aO];rw [en.fh,bh,aO] at b4;exact b4
       .rw [eJ];show iE (aE.env u [] (E'++f.E)++_) _;rw [en.ff] at b3;have e2:au u [] E' (f.E++fr.F)=aE.env u [] (E'++f.E)++aE.env u [] fr.F:=by show aE.env u [] E'++aE.env u [] (f.E++fr.F)=_;rw [mu,mu,aO]
        rw [<-e2,en.ff];exact b3
      .cases B
     .rw [kZ v] at z;have:=sW hK en.ag en.le en.ff en.fh en.fn e st' ρ' w' I M z C;exact gb v this
  next T Y=>exact N T h
  .obtain ⟨st',k1,k2,k3,k4⟩:=afk h;have hs':Sat (ab ρ [] st'.G++(ab ρ [] fr.H++Φ)) w:=by rw [k3];exact hs
   have W:iv Q D fr Φ st'.c ρ r K:=by rw [k2];exact hK
   refine WC.lq _ (k4 ρ []) (bn (eY j t o x (st:=st') hs' k1 (λe st2 ρ' w' I M z C=>?_)));by_cases v:e= .nrm
   .subst v;exact ba (eY j t o y C z (W.less I M))
   .rw [kZ v] at z;exact gb v (W e st2 ρ' w' I M z C)
  .exact N st.h h
 | .loop c,Q,fr,K,st,ρ,w,hs,h,hK=>by
  unfold den at h;split at h
  .rename_i tm p Y;obtain ⟨hl,S⟩:=aG h;obtain ⟨J,en⟩:=vG (tm:=tm) (m:=cH c) hl hs;generalize enter fr tm (cH c) st=f at S en;split at S
   .rename_i s0 hb0;obtain ⟨u,E',V,k,DD,b1,b2,b3,b4⟩:=mR en.lF en.lH en.fx en.sat hb0;have Z:∀s E' V k DD,eU (λn=>f.c+n) f.fix tm.vs 0 (fI _ s)=⟨E',V,k,DD⟩->cF f tm s p=⟨f.c+k,E',rowsOf V,p⟩:=λs E' V k DD hb=>by unfold cF;rw [hb]
    refine PY (γ:=ax) (λs g w'=>aT f.c J g/\Sat (ab g [] (cF f tm s p).G++(ab g [] f.fr.H++Φ)) w') (λs g=>au g [] (cF f tm s p).E f.fr.F) S u ⟨b2,?_⟩ ?_ (λA s g w' U O=>?_)
    .rw [Z _ _ _ _ _ b1];exact b4
    .rw [Z _ _ _ _ _ b1];exact b3.trans en.sub
    .have hx:=eY j t o c (fr:=f.fr) (st:=cF f tm s p) (ρ:=g) (Q:=Exit.then (Mw A r (λs g w'=>aT f.c J g/\Sat (ab g [] (cF f tm s p).G++(ab g [] f.fr.H++Φ)) w') (λs g=>au g [] (cF f tm s p).E f.fr.F) fr.n D) Q) O.2 U (λe st' ρ' w2 I M z C=>?_)
     .rw [en.fn] at hx;exact hx
     .have hc:f.c<=(cF f tm s p).c:=by unfold cF;generalize eU (λn=>f.c+n) f.fix tm.vs 0 (fI _ s)=L;obtain ⟨a,b,c,d⟩:=L;exact qt _ _
      by_cases v:e= .nrm
      .subst v;have B:(match jC f tm st'.E st'.G with|some s=>A s|none=>none)=some r:=z;split at B
       .rename_i s' hb;obtain ⟨ρ3,E2,R2,k2,DD2,d1,d2,d3,d4⟩:=mR en.lF en.lH en.fx C hb;rw [en.fn];refine JV s' ρ3 B ⟨(O.1.trans (I.less hc) (bb _)).trans d2 (bb _),?_⟩ ?_
        .rw [Z _ _ _ _ _ d1];exact d4
        .rw [Z _ _ _ _ _ d1];exact d3
       .cases B
      .rw [kZ v] at z;have:=sW hK en.ag en.le en.ff en.fh en.fn e st' ρ' w2 (O.1.trans (I.less hc) (bb _)) (b9 hc M) z C;exact gb v this
   .cases S
  .rename_i k T Y;refine PY (γ:=ax) (λs g w'=>aT st.c ρ g/\st.c<=s.c/\Sat (ab g [] s.G++(ab g [] fr.H++Φ)) w') (λs g=>au g [] s.E fr.F) h ρ ⟨.refl,bb _,hs⟩ .refl (λA s g w' U O=>?_);refine eY j t o c (st:=s) O.2.2 U (λe st' ρ' w2 I M z C=>?_);by_cases v:e= .nrm
   .subst v;exact JV st' ρ' z ⟨O.1.trans I O.2.1,b9 O.2.1 M,C⟩ .refl
   .rw [kZ v] at z;exact gb v (hK e st' ρ' w2 (O.1.trans I O.2.1) (b9 O.2.1 M) z C)
  .cases h
 | .region id ops false,Q,fr,K,st,ρ,w,hs,h,hK=>by
  unfold den at h;split at h
  .exact aeK (fr:=frL fr) (st:=stL fr st _) j t o (anX hs) h (alu hK)
  .exact aeK j t o hs h hK
 | .region id ops true,Q,fr,K,st,ρ,w,hs,h,hK=>by
  unfold den at h;split at h
  next th T Y=>exact QR (st:={ st with h:=T }) j t o hs h hK
  .exact QR j t o hs h hK
 | .scope _,Q,fr,K,st,ρ,w,hs,h,hK=>by unfold den at h;cases h
 | .rangeFunc _ _ _ _,Q,fr,K,st,ρ,w,hs,h,hK=>by unfold den at h;cases h
end
def lR(l:Nat):Code->Bool
 | .label j=>j==l
 | .seq x y=>lR l x||lR l y
 |_=>false
theorem ani{l:Nat}:(c:Code)->lR l c=false->findLabel c l=none:=λc=>by
 induction c with
 |label j=>
  intro h;unfold lR at h;unfold findLabel;rw [h];rfl
 |seq x y b a=>
  intro h;simp only [lR,qy] at h;simp only [findLabel,b h.1,a h.2]
 |_=>intro _;rfl
theorem ace{l:Nat}:(c:Code)->lR l c=true->∃r,findLabel c l=some r:=λc=>by
 induction c with
 |label j=>
  intro h;unfold lR at h;unfold findLabel;rw [h];exact ⟨_,rfl⟩
 |seq x y b a=>
  intro h;simp only [lR,cp] at h;unfold findLabel;cases hx:findLabel x l with
  |some r=>exact ⟨_,rfl⟩
  |none=>
   rcases h with h|h
   .obtain ⟨r,d⟩:=b h;rw [hx] at d;cases d
   .exact a h
 |_=>intro h;cases h
def F6(P:Program)(ρ:v7)(l:Nat):Code->br->br
 | .seq x y,Q=>ay (lR l x) (F6 P ρ l x (Exit.then (y.wpIn (FW ρ) 0 P Q) Q)) (F6 P ρ l y Q)
 |_,Q=>Q
theorem akG{P:Program}{ρ:v7}{l:Nat}:(c:Code)->{r:Code}->{Q:br}->{a:Act}->{w:World}->findLabel c l=some r->F6 P ρ l c Q .normal a w->r.wpIn (FW ρ) 0 P Q a w:=λc=>by
 induction c with
 |label j=>
  intro r Q a w b h;unfold findLabel at b;split at b
  .cases b;exact wpIn_skip h
  .cases b
 |seq x y f e=>
  intro r Q a w b h;unfold F6 at h;unfold findLabel at b;cases hx:lR l x
  .rw [hx] at h;rw [ani x hx] at b;exact e b h
  .rw [hx] at h;obtain ⟨g,d⟩:=ace x hx;rw [d] at b;cases b;exact wpIn_seq (f d h)
 |_=>intro r Q a w b h;cases b
def A4(l:Nat):Code->Nat
 | .seq x y=>ay (lR l x) (Nat.lor (A4 l x) (cH y)) (A4 l y)
 |_=>0
def xu(st:aB):aB:=match st.h with
 | .s h=>{ st with h:=h }
 |_=>st
abbrev gtk{R:Type}(l:Nat)(A:aB->Option R)(K:XE->aB->Option R):XE->aB->Option R
 | .gto j,st=>ay (Nat.beq j l) (A st) none
 |e,st=>K e st
def MM{R:Type}(X:Cx)(tb:List aq)(tp:List bH)(l:Nat)(fr:Fr):Code->(XE->aB->Option R)->aB->Option R
 | .seq x y,K,st=>ay (lR l x) (MM X tb tp l fr x (uN (den X tb tp y fr K) K) st) (MM X tb tp l fr y K st)
 | .label _,K,st=>K .nrm st
 |_,_,_=>none
def Kd{R:Type}(X:Cx)(tb:List aq)(tp:List bH)(l:Nat)(fr:Fr)(K:XE->aB->Option R)(KL:aB->Option R):Code->aB->Option R
 | .seq x y,st=>ay (lR l x) (Kd X tb tp l fr K KL x (xu st)) (den X tb tp x fr (uN (λst=>Kd X tb tp l fr K KL y st) K) (xu st))
 | .label _,st=>KL st
 |_,_=>none
def alK{R:Type}(X:Cx)(tb:List aq)(tp:List bH)(c:Code)(fr:Fr)(K:XE->aB->Option R)(st:aB):Option R:=match st.h with
 | .n l (.j tm p q)=>ay (lR l c) (
   Kd X tb tp l fr (gtk l (λ_=>none) K) (λst1=>ay (st1.low fr) (
     match jC (enter fr tm (A4 l c) st1) tm (enter fr tm (A4 l c) st1).Et (enter fr tm (A4 l c) st1).Gt with
     |some s=>az (λagain s=>MM X tb tp l (enter fr tm (A4 l c) st1).fr c (gtk l (λst'=>match jC (enter fr tm (A4 l c) st1) tm st'.E st'.G with
       |some s=>again s
       |none=>none) (λe st'=>K e (vB e (enter fr tm (A4 l c) st1) st'))) (cF (enter fr tm (A4 l c) st1) tm s q)) X.fl s
     |none=>none) none) c { st with h:=p }) none
 |_=>none
section
variable {X : Cx} {tb : List aq} {tp : List bH} {σ : v7} {D : u9} {R : Type} {r : R} {Φ : Ctx}
theorem aeY{Q:br}{l n:Nat}{E:Env}{w:World}{e:XE}{ρ:ax}{J:Act->World->Prop}(a:∀j,e≠ .gto j)(h:LU Q e ρ n D E w):LU (Exit.jump l J Q) e ρ n D E w:=by cases e <;> first|exact ((a _) rfl).elim|exact h
theorem aly{l:Nat}(k:∀it∈X.Γ,it∈Φ)(o:∀e∈tb,e.Ok X.P X.Γ)(m:∀e∈tp,e.Ok X.P X.Γ):∀(c:Code) {Q:br} {fr:Fr} {K:XE->aB->Option R} {st:aB} {ρ:ax} {w:World},Sat (ab ρ [] st.G++(ab ρ [] fr.H++Φ)) w->
  MM X tb tp l fr c K st=some r->iv Q D fr Φ st.c ρ r K->∀a,Fits fr.n (au ρ [] st.E fr.F) a->a.defers=D->F6 X.P σ l c Q .normal a w:=λc=>by
 induction c with
 |label j=>intro Q fr K st ρ w b h d a f hd;exact d .nrm st ρ w .refl (bb _) h b a f hd
 |seq x y i g=>
  intro Q fr K st ρ w b h d a f hd;unfold MM at h;unfold F6;cases hx:lR l x
  .rw [hx] at h;exact g b h d a f hd
  .rw [hx] at h;refine i (Q:=Exit.then (y.wpIn (FW σ) 0 X.P Q) Q) b h (λe st' ρ' w' u t q s=>?_) a f hd;by_cases p:e= .nrm
   .subst p;exact ba (eY k o m y s q (d.less u t))
   .rw [kZ p] at q;exact gb p (d e st' ρ' w' u t q s)
 |_=>intro Q fr K st ρ w b h;cases h
theorem afe{st:aB}:(xu st).c=st.c/\(xu st).E=st.E/\(xu st).G=st.G:=by unfold xu;split <;> exact ⟨rfl,rfl,rfl⟩
theorem ajp{l:Nat}(t:∀it∈X.Γ,it∈Φ)(v:∀e∈tb,e.Ok X.P X.Γ)(u:∀e∈tp,e.Ok X.P X.Γ){T:br}{fr:Fr}{K:XE->aB->Option R}{U:aB->Option R}{m:Nat}{ρ0:ax}(V:iv T D fr Φ m ρ0 r K):∀(c:Code) {Q:br} {st:aB} {ρ:ax} {w:World},
  (∀e (E:Env) (ρ:ax) w,e≠ .nrm->LU T e ρ fr.n D E w->LU Q e ρ fr.n D E w)->
  (∀st1 b w1,aT m ρ0 b->m<=st1.c->U st1=some r->Sat (ab b [] st1.G++(ab b [] fr.H++Φ)) w1->∀a,Fits fr.n (au b [] st1.E fr.F) a->a.defers=D->F6 X.P σ l c Q .normal a w1)->
  lR l c=true->aT m ρ0 ρ->m<=st.c->Sat (ab ρ [] st.G++(ab ρ [] fr.H++Φ)) w->
  Kd X tb tp l fr K U c st=some r->WC X.P σ c Q fr.n D (au ρ [] st.E fr.F) w:=λc=>by
 induction c with
 |label j=>intro Q st ρ w i k _ ha hc o h;exact abj (λa g hd=>k st ρ w ha hc h o a g hd)
 |seq x y s q=>
  intro Q st ρ w i k p ha hc o h;obtain ⟨O,N,M⟩:=afe (st:=st);unfold Kd at h;cases hx:lR l x
  .rw [hx] at h;simp only [lR,hx,qp] at p;refine bn ?_;have:=eY (σ:=σ) (D:=D) t v u x (fr:=fr) (st:=xu st) (ρ:=ρ) (w:=w) (Q:=Exit.then (y.wpIn (FW σ) 0 X.P Q) Q) (by rw [M];exact o) h (λe st' ρ' w' L J I S=>?_)
   .rw [N] at this;exact this
   .rw [O] at L J;by_cases d:e= .nrm
    .subst d;refine ba (q i (λst1 b w1 C B A z a g hd=>?_) p (ha.trans L hc) (b9 hc J) S I);have:=k st1 b w1 C B A z a g hd;unfold F6 at this;rw [hx] at this;exact this
    .rw [kZ d] at I;exact gb d (i _ _ _ _ d (V e st' ρ' w' (ha.trans L hc) (b9 hc J) I S))
  .rw [hx] at h;refine bn ?_;have:=s (Q:=Exit.then (y.wpIn (FW σ) 0 X.P Q) Q) (st:=xu st) (ρ:=ρ) (w:=w) (λe E ρ w f d=>gb f (i e E ρ w f d)) (λst1 b w1 C B A z a g hd=>?_) hx ha (by rw [O];exact hc) (by rw [M];exact o) h
   .rw [N] at this;exact this
   .have:=k st1 b w1 C B A z a g hd;unfold F6 at this;rw [hx] at this;exact this
 |_=>intro Q st ρ w i k p;cases p
theorem am5{c:Code}{Q:br}{K:XE->aB->Option R}{st:aB}{ρ:ax}{w:World}(Y:∀it∈X.Γ,it∈Φ)(htb:∀e∈tb,e.Ok X.P X.Γ)(Z:∀e∈tp,e.Ok X.P X.Γ)(hs:Sat (ab ρ [] st.G++(ab ρ [] fr.H++Φ)) w)
  (h:alK X tb tp c fr K st=some r) (hK:iv Q D fr Φ st.c ρ r K):WC X.P σ (.scope c) Q fr.n D (au ρ [] st.E fr.F) w:=by
 unfold alK at h;split at h
 .rename_i l tm p q hh;obtain ⟨B,h0⟩:=aG h;obtain ⟨rest,v⟩:=ace c B
  -- what holds at the label
  let F:En->(eo (fZ tm.vs)->Option R)->eo (fZ tm.vs)->Option R:=λf J s=>MM X tb tp l f.fr c (gtk l (λst'=>match jC f tm st'.E st'.G with
     |some s=>J s
     |none=>none) (λe st'=>K e (vB e f st'))) (cF f tm s q)
  let I:Nat->Act->World->Prop:=λm a w=>∃(f:En) (o:ax),(f.fr.F=f.E++fr.F/\f.fr.H=f.G++fr.H/\f.fr.n=fr.n/\aE.low f.c f.fr.F=true/\bB f.c f.fr.H=true/\(∀t q,f.fix t=some q->q.1.low f.c=true/\AV.bV f.c q.2=true))/\aT st.c ρ o/\st.c<=f.c/\
   Mw (az (F f) m) r (λs (g:ax) w'=>aT f.c o g/\Sat (ab g [] (cF f tm s q).G++(ab g [] f.fr.H++Φ)) w') (λs g=>au g [] (cF f tm s q).E f.fr.F) fr.n D a w
  have i:∀m a w,I m a w->F6 X.P σ l c (Exit.jump l (λC w'=>∃N<m,I N C w') Q) .normal a w:=by
   rintro m a w ⟨f,o,⟨ff,fh,fn,lF,lH,fx⟩,hag,hle,s,g,hm,hJ,hF,hD⟩;obtain ⟨N,rfl,hm'⟩:=Ln hm;have eL:∀s E' R' k DD,eU (λn=>f.c+n) f.fix tm.vs 0 (fI _ s)=⟨E',R',k,DD⟩->cF f tm s q=⟨f.c+k,E',rowsOf R',q⟩:=λs E' R' k DD hb=>by unfold cF;rw [hb]
   have hc:f.c<=(cF f tm s q).c:=by unfold cF;generalize eU (λn=>f.c+n) f.fix tm.vs 0 (fI _ s)=L;obtain ⟨a,b,c,d⟩:=L;exact qt _ _
   refine aly (σ:=σ) (D:=D) Y htb Z c (fr:=f.fr) (st:=cF f tm s q) (ρ:=g) (Q:=Exit.jump l (λC w'=>∃m''<N+1,I m'' C w') Q) hJ.2 hm' (λe st' ρ' w2 U T A S=>?_) a (by rw [fn];exact hF) hD;by_cases u:∃j,e= .gto j
   .obtain ⟨j,rfl⟩:=u;unfold gtk at A;obtain ⟨hj,O⟩:=aG A;have:=ah hj;subst this;dsimp only at O;split at O
    .rename_i s' hb;obtain ⟨V,E2,R2,k2,DD2,d1,d2,d3,d4⟩:=mR lF lH fx S hb;refine λa2' hf2 hd2=>⟨rfl,N,qd _,f,o,⟨ff,fh,fn,lF,lH,fx⟩,hag,hle,s',V,O,⟨(hJ.1.trans (U.less hc) (bb _)).trans d2 (bb _),?_⟩,?_,hd2⟩
     .rw [eL _ _ _ _ _ d1];exact d4
     .rw [fn] at hf2;show Fits fr.n (au V [] (cF f tm s' q).E f.fr.F) a2';rw [eL _ _ _ _ _ d1];exact hf2.lq d3
    .cases O
   .have z:∀j,e≠ .gto j:=λj hj=>u ⟨j,hj⟩;have M:K e (vB e f st')=some r:=by cases e <;> first|exact ((z _) rfl).elim|exact A
    exact aeY z (sW hK hag hle ff fh fn e st' ρ' w2 (hJ.1.trans (U.less hc) (bb _)) (b9 hc T) M S)
  refine λa hf hd=>Um l I v ?_ (λm a w hI=>akG c v (i m a w hI))
  -- the way to the label
  have hK':iv (Exit.jump l (λa w=>∃m,I m a w) Q) D fr Φ st.c ρ r (gtk l (λ_=>none) K):=λe st1 ρ' w' U T A S=>by
   by_cases u:∃j,e= .gto j
   .obtain ⟨j,rfl⟩:=u;unfold gtk at A;obtain ⟨_,O⟩:=aG A;cases O
   .have z:∀j,e≠ .gto j:=λj hj=>u ⟨j,hj⟩;have M:K e st1=some r:=by cases e <;> first|exact ((z _) rfl).elim|exact A
    exact aeY z (hK e st1 ρ' w' U T M S)
  refine ajp (σ:=σ) Y htb Z hK' c (Q:=Exit.jump l (λa w=>∃m,I m a w) Q) (st:={ st with h:=p }) (ρ:=ρ) (λ_ _ _ _ _ h=>h) (λst1 ρ' w' U T A S C hf' hd'=>?_) B .refl (bb _) hs h0 a hf hd;obtain ⟨hl,h2⟩:=aG A;obtain ⟨o,en⟩:=vG (tm:=tm) (m:=A4 l c) hl S;generalize enter fr tm (A4 l c) st1=f at h2 en;split at h2
  .rename_i s0 hb0;obtain ⟨W,E',R',k,DD,b1,b2,b3,b4⟩:=mR en.lF en.lH en.fx en.sat hb0;have eL:cF f tm s0 q=⟨f.c+k,E',rowsOf R',q⟩:=by unfold cF;rw [b1]
   have key:I X.fl C w':=by
    refine ⟨f,o,⟨en.ff,en.fh,en.fn,en.lF,en.lH,en.fx⟩,U.trans en.ag T,b9 T en.le,s0,W,h2,⟨b2,?_⟩,?_,hd'⟩
    .rw [eL];exact b4
    .show Fits fr.n (au W [] (cF f tm s0 q).E f.fr.F) C;rw [eL];exact hf'.lq (b3.trans en.sub)
   have mono:∀(c:Code) (Q1 Q2:br),(∀e a w,Q1 e a w->Q2 e a w)->∀a w,F6 X.P σ l c Q1 .normal a w->F6 X.P σ l c Q2 .normal a w:=λc=>by
    induction c with
    |seq x y ihx ihy=>
     intro Q1 Q2 hq a w h;unfold F6 at h ⊢;cases hx:lR l x
     .rw [hx] at h;exact ihy Q1 Q2 hq a w h
     .rw [hx] at h;refine ihx _ _ (λe a w u=>?_) a w h;cases e with
      |normal=>exact wpIn_mono u hq
      |_=>exact hq _ _ _ u
    |_=>intro Q1 Q2 hq a w h;exact hq _ _ _ h
   exact mono c _ _ (λe a w u=>by
    cases e <;> first|exact u|exact ⟨u.1,let ⟨N,_,hI⟩:=u.2;⟨N,hI⟩⟩) C w' (i X.fl C w' key)
  .cases h2
 .cases h
end
end
end Go.Proofs.YtkedhpmpejhekaaGreatDoor
