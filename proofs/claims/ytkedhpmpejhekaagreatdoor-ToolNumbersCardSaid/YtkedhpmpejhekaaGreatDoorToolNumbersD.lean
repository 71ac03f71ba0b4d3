/- Own texts for ToolNumbers, cut and joined by a program. -/
import Derived.Test.YtkedhpmpejhekaaGreatDoorToolNumbersC
set_option linter.all false
namespace Go.Proofs.YtkedhpmpejhekaaGreatDoor
noncomputable section
variable {d : Tmp} {x : Operand}
open Go.Lib
abbrev gone{R:Type}(g:GK)(k:Option R):Option R:=match g with
 |none=>k
 |some _=>none
theorem cN{R:Type}{r:R}{g:GK}{k:Option R}(h:gone g k=some r):g=none/\k=some r:=by
 cases g with
 |none=>exact ⟨rfl,h⟩
 |some _=>cases h
def afY{R:Type}(X:Cx)(T:aA)(fr:Fr)(st:aC)(d:v7)(t:TypeId)(x y:Operand)(K:cw R):Option R:=match eT X.P t with
 |some e=>(match yX X.tys e with
  |some u=>(match jI X.P e with
   |some z=>(match bq T st.E fr.F none x with
    |some (.sl id)=>(match bq T st.E fr.F none y with
     |some b=>ay (Nat.beq z.1 u.n') (match pV (cm b.dV st.G) fr.H u b with
      |some ys=>(match dE (cm b.dV st.G) fr.H (lj id) with
       |some (.top j,.own _ u' e' xs _)=>ay (Nat.beq e e') (match pV.bX.asL u ⟨.l u',xs⟩ with
        |some xs=>K { st with c:=st.c+1,E:=cn d none (.int .i64 ((Nat.min ys.length xs.length:Nat):Int)) st.E,G:=(cm b.dV st.G).set j (.own id u e (wk xs ys) st.c) }
        |none=>none) none
       |_=>none)
      |none=>none) none
     |none=>none)
    |_=>none)
   |none=>none)
  |none=>none)
 |none=>none
def inO(n d:Nat):List (Nat×Nat)->Bool
 |[]=>false
 |x::l=>(Nat.beq x.1 n&&Nat.beq x.2 d)||inO n d l
def afE{R:Type}(X:Cx)(T:aA)(fr:Fr)(st:aC)(d:Tmp)(t:TypeId)(x:Operand)(lo hi:Option Operand)(K:cw R):Option R:=match eT X.P t with
 |some e=>(match jI X.P e with
  |some z=>(match bq T st.E fr.F none x with
   |some (.sl id)=>(match loA T st.E fr.F none lo with
    |some i=>(match hiA T st.E fr.F none hi with
     |some j=>(match dE st.G fr.H (lj id) with
      |some (.top k,.own _ u e' xs _)=>ay (Nat.beq z.1 u.n') (match lo,hi with
       |none,_=>aI (dn 0 (j.getD (xs.length:Int)) xs.length) (K { st with c:=st.c+1,E:=cn (some d) none (.sl st.c) st.E,G:=st.G.set k (.own st.c u e' (bB xs 0 (j.getD (xs.length:Int))) st.c) })
       |some _,none=>ay (Nat.beq z.1 1) (aI (dn i (xs.length:Int) xs.length) (K { st with c:=st.c+1,E:=cn (some d) none (.sl st.c) st.E,G:=st.G.set k (.own st.c u e' (bB xs i (xs.length:Int)) st.c) })) none
       |_,_=>none) none
      |_=>none)
     |none=>none)
    |none=>none)
   |_=>none)
  |none=>none)
 |none=>none
def alD{R:Type}(X:Cx)(T:aA)(fr:Fr)(st:aC)(d:Tmp)(t:TypeId)(x:Operand)(lo hi mx:Option Operand)(K:cw R):Option R:=match lo,hi,mx with
 |none,some y,some y3=>(match X.P.underlying t with
  |some (.array n e)=>(match yX X.tys e with
   |some u=>(match jI X.P e with
    |some z=>(match bq T st.E fr.F none x with
     |some (.ptr id 0)=>(match bq T st.E fr.F none y with
      |some (.int _ h)=>(match bq T st.E fr.F none y3 with
       |some (.int _ m)=>(match lQ (wG id) st.G with
        |some (j,.box _ _ cs)=>ay ((h==(n:Int))&&(m==(n:Int))&&Nat.beq z.1 u.n') (match rdL st.G fr.H u n cs with
         |some xs=>K { st with c:=st.c+1,E:=cn (some d) none (.sl st.c) st.E,G:=st.G.set j (.sli none st.c u xs true) }
         |none=>none) none
        |_=>none)
       |_=>none)
      |_=>none)
     |_=>none)
    |none=>none)
   |none=>none)
  |_=>none)
 |_,_,_=>none
def ag9(X:Cx)(T:aA)(fr:Fr)(st:aC)(d:Tmp)(t:TypeId)(x y:Operand){R:Type}(K:cw R):Option R:=match X.P.underlying t with
 |some (.array n e)=>(match jI X.P e with
  |some z=>(match bq T st.E fr.F none x with
   |some (.adr id off)=>(match bq T st.E fr.F none y with
    |some (.int _ i)=>Vs i z.1 (λk=>K { st with E:=cn (some d) none (.adr id (off+k)) st.E }) n 0
    |_=>none)
   |some (.ptr id off)=>(match bq T st.E fr.F none y with
    |some (.int _ i)=>Vs i z.1 (λk=>K { st with E:=cn (some d) none (.ptr id (off+k)) st.E }) n 0
    |_=>none)
   |_=>none)
  |none=>none)
 |_=>none
def ao4(P:Program)(t:TypeId):Bool:=match P.underlying t with
 |some (.func ..)=>true
 |_=>false
def ahn{R:Type}(X:Cx)(T:aA)(fr:Fr)(st:aC)(d:Tmp)(t:TypeId)(len:Nat)(ps:List (Nat×Operand))(K:cw R):Option R:=match eT X.P t with
 |some e=>(match jI X.P e with
  |some z=>(match oA T st.E fr.F none (ps.map (·.2)) with
   |some vs=>(match yV (λi=>some (i*z.1,z.1)) ((ps.map (·.1)).zip vs) (VL len (z.2.2.cells.toList.map iO)) with
    |some cs=>ay (ao4 X.P e&&Nat.beq z.2.2.cells.size z.1&&Nat.blt 0 (len*z.1)&&Nat.ble (len*z.1) 16777216&&AV.bV st.c cs) (K { st with c:=st.c+1,E:=cn (some d) none (.bs st.c len) st.E,G:= .box st.c e cs::st.G }) none
    |none=>none)
   |none=>none)
  |none=>none)
 |none=>none
def aj1{R:Type}(X:Cx)(T:aA)(fr:Fr)(st:aC)(d:Tmp)(t:TypeId)(x y:Operand)(K:cw R):Option R:=match eT X.P t with
 |some e=>(match jI X.P e with
  |some z=>(match bq T st.E fr.F none x with
   |some (.bs id n)=>(match bq T st.E fr.F none y with
    |some (.int _ i)=>Vs i z.1 (λk=>K { st with E:=cn (some d) none (.ptr id k) st.E }) n 0
    |_=>none)
   |_=>none)
  |none=>none)
 |none=>none
def ag1(P:Program)(t:TypeId)(nm:String):Option (FuncId×Bool):=match P.info? t with
 |some i=>(match i.methods.find? (·.name==nm) with
  |some m=>(match m.path.toList with
   |[]=>m.func
   |_=>none)
  |none=>none)
 |none=>none
def aos:TypeDesc->Bool
 | .pointer _=>true
 |_=>false
def H9(X:Cx)(T:aA)(fr:Fr)(st:aC)(g:GK)(t:TypeId)(u:AV)(nm:String):Option (FuncId×AV):=match ag1 X.P t nm with
 |some (f,true)=>(match X.P.underlying t with
  |some (.pointer _)=>some (f,u)
  |_=>none)
 |some (f,false)=>(match X.P.underlying t with
  |some (.pointer e)=>(match w8 T st.G fr.H g u with
   |some cs=>(match jL X.P e cs with
    |some v=>some (f,v)
    |none=>none)
   |none=>none)
  |some d=>ay (aos d) none (some (f,u))
  |none=>none)
 |none=>none
def Zs:List Xl->FuncId->Option Xl
 |[],_=>none
 |i::l,f=>match Nat.beq i.f f with
  |true=>some i
  |false=>Zs l f
def aks{R:Type}(X:Cx)(T:aA)(fr:Fr)(st:aC)(g:GK)(d:v7)(f:FuncId)(args:List AV)(K:cw R)(els:Option R):Option R:=match Zs X.inl f with
 |none=>els
 |some i=>(match T with
  |[]=>gone g (i.run args fr.H st (λav st'=>K { st' with E:=cn d none av st.E,h:=st.h }))
  |_::_=>none)
def byT{R:Type}(k:TypeId->Option R)(t:TypeId):List TypeId->Option R
 |[]=>none
 |c::cs=>cond (Nat.beq t c) (k c) (byT k t cs)
section
variable {X : Cx} {R : Type} {r : R} {K : cw R} {T : aA} {fr : Fr} {st : aC} {g : GK} {ρ : ax} {Φ : Ctx} {w : World} {ty : TypeId} {pos : String} {af : w4} {gd : s3}
theorem abj:{l:List Xl}->{f:FuncId}->{i:Xl}->Zs l f=some i->i∈l/\i.f=f
 |[],_,_,h=>by cases h
 |j::l,f,i,h=>by
  unfold Zs at h;split at h
  next c=>cases h;exact ⟨b0 .., ah c⟩
  .obtain ⟨b,a⟩:=abj h;exact ⟨aW _ b,a⟩
theorem anw{d:v7}{op:Op}{f:FuncId}{args:List AV}{c:Option R}(k:st.low fr=true)(t:Sat (ab ρ T st.G++(ab ρ T fr.H++Φ)) w)
  (e:Enters X.P f->T.get g=true->∀n a,Fits n (au ρ T st.E fr.F) a->(execOp a.eval ⟨d,op,ty,pos,af,gd⟩).run X.P w= .ok (.enter f (AV.ao ρ args).toArray) w) (h:aks X T fr st g d f args K c=some r) (b:c=some r->iB X.P T g (au ρ T st.E fr.F) ⟨d,op,ty,pos,af,gd⟩ w (aV r K T fr st g d ρ Φ)):
  iB X.P T g (au ρ T st.E fr.F) ⟨d,op,ty,pos,af,gd⟩ w (aV r K T fr st g d ρ Φ):=by
 unfold aks at h;split at h
 .exact b h
 .rename_i i hi;obtain ⟨s,q⟩:=abj hi;subst q;obtain ⟨A,z⟩:=X.inlOk i s;split at h
  .obtain ⟨rfl,x⟩:=cN h;refine .none_ (λn a u=> .inr (.inr ⟨i.f,AV.ao ρ args,e A aA.get_none n a u,(z r args fr.H st _ ρ Φ w t x).mono λv w' hv=>?_⟩));obtain ⟨ρ',st',av,p,j,o,m,l⟩:=hv;have y:=bc (T:=[]) j (aC.cB.1 k).2.2.2;exact aV.new (ρ':=ρ') (st':={ st' with E:=cn d none av st.E,h:=st.h }) k p j o rfl m (by rw [<-y];exact l)
  .cases h
theorem aaj{k:TypeId->Option R}{t:TypeId}:∀{cs:List TypeId},byT k t cs=some r->k t=some r
 |[],h=>by cases h
 |c::cs,h=>by
  unfold byT at h;rcases rR h with ⟨b,a⟩|⟨_,a⟩
  .rw [ah b];exact a
  .exact aaj a
theorem aaw{P:Program}{t:TypeId}{nm:String}{q:FuncId×Bool}(h:ag1 P t nm=some q):Kl P t nm q.1 q.2:=by
 unfold ag1 at h;split at h
 .rename_i i hi;split at h
  .rename_i m a;split at h
   next hp=>unfold Kl;rw [hi];simp only [de];rw [a];simp [hp,h]
   .cases h
  .cases h
 .cases h
theorem ajM{t:TypeId}{u v:AV}{cs:List AV}{G H:List Row}(f:Sat (ab ρ T G++(ab ρ T H++Φ)) w)(hc:w8 T G H g u=some cs)(h:jL X.P t cs=some v)(j:T.get g=true):
  ∃p,u.val ρ= .pointer (some p)/\(loadVar t p).run X.P w= .ok (v.val ρ) w:=by
 obtain ⟨p,hp,hc⟩:=Ll f hc j;refine ⟨p,hp,?_⟩;have m:jL X.P t (cs.drop 0)=some v:=by simpa using h
 obtain ⟨d,n,bytes,z,c1,o,b⟩:=mD (ρ:=ρ) m;cases hd:jb d
 .rw [hd] at b;simp only [mi,qA] at b;exact JS c1 hd (hc.cell0 b)
 .unfold jL at h;rw [c1] at h;rcases dp h with ⟨_,a⟩|⟨e,_⟩
  .split at a
   .rename_i q i;obtain ⟨n,bytes,z⟩:=q;obtain ⟨l,k⟩:=aG a;cases k;have c:n<=cs.length:=cd l;simp only [AV.val];refine Mb c1 hd (cD i) (vs:=AV.ao ρ (cs.take n)) ?_ ?_
    .have:=hc.sub (us:=AV.ao ρ (cs.take n)) 0 (by rw [AV.ji,l9,bj,AV.bl,cq c])
     simpa [Addr.add] using this
    .rw [AV.bl,bj,cq c]
   .cases a
  .rw [hd] at e;cases e
theorem aaN{t:TypeId}{u:AV}{nm:String}{q:FuncId×AV}(i:Sat (ab ρ T st.G++(ab ρ T fr.H++Φ)) w)(h:H9 X T fr st g t u nm=some q):T.get g=true->Reach X.P w t (u.val ρ) nm q.1 (q.2.val ρ):=by
 unfold H9 at h;split at h
 .rename_i f c;have b:=aaw c;split at h
  next e a=>cases h;exact λ_=>Reach.ptr b a
  .cases h
 .rename_i f c;have b:=aaw c;split at h
  .rename_i e a;split at h
   .rename_i cs hc;split at h
    next v hv=>cases h;intro k;obtain ⟨p,hp,j⟩:=ajM i hc hv k;rw [hp];exact Reach.load b a j
    .cases h
   .cases h
  next d a=>obtain ⟨n,m⟩:=MC h;cases m;exact λ_=>Reach.val b a (λe l=>by subst l;cases n)
  .cases h
 .cases h
theorem aeC{t:TypeId}{y:Operand}(s:Sat (ab ρ T st.G++(ab ρ T fr.H++Φ)) w)(h:ag9 X T fr st d t x y K=some r):
  JW X.P T none (au ρ T st.E fr.F) ⟨some d,.indexAddr t x y,ty,pos,af,gd⟩ w (aV r K T fr st none (some d) ρ Φ):=by
 unfold ag9 at h;split at h
 .rename_i n e p;split at h
  .rename_i z o;obtain ⟨m,bytes,z⟩:=z;split at h
   .rename_i id off hx;split at h
    .rename_i k i l;obtain ⟨q,_,u,g,j⟩:=CZ h;have f:=bE (ρ:=ρ) hx;have c:=bE (ρ:=ρ) l;simp only [AV.val] at f c;refine ⟨.pointer (some (((ρ id).a.add off).add (i.toNat*m))),λw'=>?_,?_⟩
     .rw [aA.get_none];exact yD (P:=X.P) (w:=w') (dst:=some d) (ty:=ty) (pos:=pos) (af:=af) (gd:=gd) p (cD o) f c (by
       intro _;subst g;exact v8.2 ⟨by omega,by omega⟩)
     .refine aV.ie (av:= .adr id (off+q*m)) j (bb _) rfl ?_ s;simp only [AV.val];rw [add_add,g];rfl
    .cases h
   .rename_i id off hx;split at h
    .rename_i k i l;obtain ⟨q,_,u,g,j⟩:=CZ h;have f:=bE (ρ:=ρ) hx;have c:=bE (ρ:=ρ) l;simp only [AV.val] at f c;refine ⟨.pointer (some ((⟨(ρ id).b,off,none⟩:Addr).add (i.toNat*m))),λw'=>?_,?_⟩
     .rw [aA.get_none];exact yD (P:=X.P) (w:=w') (dst:=some d) (ty:=ty) (pos:=pos) (af:=af) (gd:=gd) p (cD o) f c (by
       intro _;subst g;exact v8.2 ⟨by omega,by omega⟩)
     .refine aV.ie (av:= .ptr id (off+q*m)) j (bb _) rfl ?_ s;simp only [AV.val];rw [add_plain,g];rfl
    .cases h
   .cases h
  .cases h
 .cases h
theorem alT{d:v7}{t:TypeId}{y:Operand}(J:st.low fr=true)(g:Sat (ab ρ T st.G++(ab ρ T fr.H++Φ)) w)(h:afY X T fr st d t x y K=some r):
  iB X.P T none (au ρ T st.E fr.F) ⟨d,.call ⟨.builtin .copy,#[x,y],#[t,t]⟩,ty,pos,af,gd⟩ w (aV r K T fr st none d ρ Φ):=by
 unfold afY at h;split at h
 .rename_i e V;split at h
  .rename_i u hu;split at h
   .rename_i z N;obtain ⟨n,bytes,z⟩:=z;split at h
    .rename_i id hx;split at h
     .rename_i b O;obtain ⟨h1,i⟩:=aG h;have R:n=u.rep.n:=(ah h1).trans u.A5.symm;have B:=cD N;subst R;have f:=oU (ids:=b.dV) (aC.cB.1 J).2.2.1;replace g:=iH (ids:=b.dV) g;generalize cm b.dV st.G=G at i f g;have o:=bE (ρ:=ρ) hx;have v:=bE (ρ:=ρ) O;simp only [AV.val] at o;split at i
      .rename_i ys q;have s:=ML g q;split at i
       .rename_i j p u' e' k M U;obtain ⟨Z,D⟩:=aG i;have:=ah Z;subst this;split at D
        .rename_i xs A;obtain ⟨eu,ex⟩:=oq A;subst eu;simp only at ex;subst ex;obtain ⟨I,f2⟩:=bU U;have:p=id:=ah f2;subst this;have hi:=fg (ρ:=ρ) (T:=T) (Φ:=ab ρ T fr.H++Φ) I;obtain ⟨L,_⟩:=g.at_ hi;obtain ⟨w',Q,Y,C,W⟩:=ak7 (P:=X.P) (ty:=ty) (w:=w) (t:=t) (bT V) B L s (λb hb=>Ctx.iy hi hb);have S:j<G.length:=(List.getElem?_eq_some_iff.1 I).1;have a:=oY f I;simp only [Row.low,ae,dk] at a;refine .none_ (bC.gd (bC.me (wV o v Q) (aV.new (ρ':=ρ.set st.c { cO with y:=⟨.l u',wk k ys⟩ }) (av:= .int .i64 ((Nat.min ys.length k.length:Nat):Int)) J D ax.aY (eb _) rfl (by simp only [AV.val]) ?_)));show Sat (ab _ T (G.set j _)++_) _;rw [eU S,bc ax.aY f];refine g.mF hi Y (λb hb=>?_) (λM' m _=>?_)
         .simp only [Row.item,ax.aY _ a.1] at hb;exact ⟨by rw [C];exact L.lt b hb,.inl hb⟩
         .simp only [Row.item,ax.aY _ a.1,ax.bw];exact ⟨W M' m,trivial⟩
        .cases D
       .cases i
      .cases i
     .cases h
    .cases h
   .cases h
  .cases h
 .cases h
theorem ajO{t:TypeId}{len:Nat}{ps:Array (Nat×Operand)}(v:st.low fr=true)(u:Sat (ab ρ T st.G++(ab ρ T fr.H++Φ)) w)(h:ahn X T fr st d t len ps.toList K=some r):
  iB X.P T none (au ρ T st.E fr.F) ⟨some d,.buildSlice t len ps,ty,pos,af,gd⟩ w (aV r K T fr st none (some d) ρ Φ):=by
 obtain ⟨ps⟩:=ps;simp only at h;unfold ahn at h;split at h
 .rename_i e y;split at h
  .rename_i z s;obtain ⟨n,bytes,z⟩:=z;split at h
   .rename_i vs k;split at h
    .rename_i cs m;obtain ⟨o,A⟩:=aG h;simp only [ae] at o;obtain ⟨⟨⟨⟨_,D⟩,q⟩,C⟩,B⟩:=o;have c:z.cells.size=n:=ah D;have l:=cD s;have a:=wg (ρ:=ρ) m;rw [Av,QJ,kD] at a;have g:0<n:=by
      have:0<len*n:=by simpa using q
      exact qV (λe=>by simp [e] at this)
     have j:nP n len z.cells.toList ((ps.map (·.1)).zip (AV.ao ρ vs))=some (AV.ao ρ cs).toArray:=by unfold nP;have p:=Da z.cells.toList (by simp [c];exact g) len;simp only [cb,c] at p;simp only [cb,c];rw [<-a,<-p]
     have i:gw (au ρ T st.E fr.F) true (ps.map (·.2)) (AV.ao ρ vs):=by simpa using fM (ρ:=ρ) k
     have f:=nG (P:=X.P) (w:=w) (dst:=some d) (ty:=ty) (pos:=pos) (af:=af) (bT y) l (zs:=z.cells.toList) (by simp) q C i j;refine .none_ (bC.gd (bC.me f (aV.push (x:={ cO with b:=w.heap.size }) v A (by simp only [AV.val,ax.bw]) ?_)));simp only [Row.item,ax.bw];rw [AV.bS ax.aY _ B];exact u.push (dY _ _) (λb hb=>by
      have:b=w.heap.size:=by simpa [box] using hb
      subst this;simp) (λ_ _=>heap_alloc_new w _)
    .cases h
   .cases h
  .cases h
 .cases h
theorem amZ{t:TypeId}{y:Operand}(A:Sat (ab ρ T st.G++(ab ρ T fr.H++Φ)) w)(h:aj1 X T fr st d t x y K=some r):
  iB X.P T none (au ρ T st.E fr.F) ⟨some d,.indexAddr t x y,ty,pos,af,gd⟩ w (aV r K T fr st none (some d) ρ Φ):=by
 unfold aj1 at h;split at h
 .rename_i e B;split at h
  .rename_i z u;obtain ⟨m,bytes,z⟩:=z;split at h
   .rename_i id n hx;split at h
    .rename_i k i v;obtain ⟨q,_,C,s,o⟩:=CZ h;have c:=bE (ρ:=ρ) hx;have a:=bE (ρ:=ρ) v;simp only [AV.val] at c a;have j:aV r K T fr st none (some d) ρ Φ (.pointer (some ⟨(ρ id).b,q*m,none⟩)) w:=aV.ie (av:= .ptr id (q*m)) o (bb _) rfl (by simp only [AV.val]) A;have f:=EJ (P:=X.P) (w:=w) (g:=true) (dst:=some d) (ty:=ty) (pos:=pos) (af:=af) (gd:=none) (bT B) (cD u) c a (p:=⟨(ρ id).b,q*m,none⟩) (λ_=>⟨_,_,_,rfl,by omega,by omega,by
      subst s;unfold Addr.add;split
      next l=>simp only [qn] at l;rw [l]
      .simp⟩)
     exact .none_ (bC.gd (bC.run f j))
    .cases h
   .cases h
  .cases h
 .cases h
abbrev Zv(E:Env)(z i:Int)(x:Option Operand):Prop:=match x with
 |none=>i=z
 |some y=>∃k,ar E true y (.int k i)
theorem akM{t:TypeId}{lo hi:Option Operand}(W:st.low fr=true)(V:Sat (ab ρ T st.G++(ab ρ T fr.H++Φ)) w)(h:afE X T fr st d t x lo hi K=some r):
  iB X.P T none (au ρ T st.E fr.F) ⟨some d,.slice t x lo hi none,ty,pos,af,gd⟩ w (aV r K T fr st none (some d) ρ Φ):=by
 have S:=(aC.cB.1 W).2.2.1;unfold afE at h;split at h
 .rename_i e he;split at h
  .rename_i z hz;obtain ⟨n,bytes,z⟩:=z;split at h
   .rename_i id hx;split at h
    .rename_i i Q;split at h
     .rename_i j hj;split at h
      .rename_i k o u e' xs Z hf;obtain ⟨h1,J⟩:=aG h;have hn:n=u.rep.n:=(ah h1).trans u.A5.symm;have O:=cD hz;subst hn;obtain ⟨Y,f2⟩:=bU hf;have:o=id:=ah f2;subst this;have B:=bE (ρ:=ρ) hx;simp only [AV.val] at B;have C:=fg (ρ:=ρ) (T:=T) (Φ:=ab ρ T fr.H++Φ) Y;obtain ⟨R,_⟩:=V.at_ C;have hk:k<st.G.length:=(List.getElem?_eq_some_iff.1 Y).1;have f:=Uf (ρ:=ρ) (len:=xs.length) hj;have a:=K0 (ρ:=ρ) Q;rw [aA.get_none] at f a;replace f:Zv (au ρ T st.E fr.F) (xs.length:Int) (j.getD (xs.length:Int)) hi:=f;replace a:Zv (au ρ T st.E fr.F) 0 i lo:=a;have I:∀{s q:Int} {p:fy} {L:xc},Zv (au ρ T st.E fr.F) 0 s lo->Zv (au ρ T st.E fr.F) (xs.length:Int) q hi->Pn (sl (ρ o).v) s q u.rep.n (sl p)->(∀b∈L,b∈sT (ρ o).v)->bJ u.rep e' (Ctx.M (ab ρ T st.G++(ab ρ T fr.H++Φ))) w (sl p) (bB xs s q) L->
         K { st with c:=st.c+1,E:=cn (some d) none (.sl st.c) st.E,G:=st.G.set k (.own st.c u e' (bB xs s q) st.c) }=some r->iB X.P T none (au ρ T st.E fr.F) ⟨some d,.slice t x lo hi none,ty,pos,af,gd⟩ w (aV r K T fr st none (some d) ρ Φ):=by
        intro s q p L q1 q2 A N g D;refine .none_ (bC.gd (bC.run (De (lo:=lo) (hi:=hi) (bT he) O B (λ_=>R.len) q1 q2 (λ_=>A)) (aV.new (ρ':=ρ.set st.c { cO with v:=p,y:=⟨.l u,bB xs s q⟩ }) W D ax.aY (eb _) rfl (by simp only [AV.val,ax.bw]) ?_)));show Sat (ab _ T (st.G.set k _)++_) _;rw [eU hk,bc ax.aY S];refine V.mF C ((Ext.refl w).pZ _) (λb hb=>?_) (λM' m _=>?_)
        .simp only [Row.item,ax.bw] at hb;have:=g.canon.1 b hb;exact ⟨g.lt b this,.inl (N b this)⟩
        .simp only [Row.item,ax.bw];exact ⟨g.canon.2 _ _ (g.cJ (λ_ _=>rfl) m),trivial⟩
       split at J
       .obtain ⟨U,D⟩:=ej J;obtain ⟨p,A,g⟩:=R.apK U;exact I rfl f A (λb hb=>hb) g D
       .obtain ⟨h5,h6⟩:=aG J;obtain ⟨U,D⟩:=ej h6;obtain ⟨p,A,L,N,g⟩:=R.apt (ah h5) U;exact I a rfl A N g D
       .cases J
      .cases h
     .cases h
    .cases h
   .cases h
  .cases h
 .cases h
theorem anI{t:TypeId}{lo hi q:Option Operand}(A:st.low fr=true)(o:Sat (ab ρ T st.G++(ab ρ T fr.H++Φ)) w)(h:alD X T fr st d t x lo hi q K=some r):
  iB X.P T none (au ρ T st.E fr.F) ⟨some d,.slice t x lo hi q,ty,pos,af,gd⟩ w (aV r K T fr st none (some d) ρ Φ):=by
 have Q:=(aC.cB.1 A).2.2.1;unfold alD at h;split at h
 .rename_i y U;split at h
  .rename_i n e L;split at h
   .rename_i u Y;split at h
    .rename_i z I;obtain ⟨V,bytes,z⟩:=z;split at h
     .rename_i id hx;split at h
      .rename_i k Z J;split at h
       .rename_i W m i;split at h
        .rename_i j c S cs O;obtain ⟨B,p⟩:=aG h;simp only [ae,j0] at B;obtain ⟨⟨rfl,rfl⟩,h3⟩:=B;split at p
         next xs l=>obtain ⟨C,R⟩:=kI O;have:c=id:=ah R;subst this;have g:=bE (ρ:=ρ) hx;have f:=bE (ρ:=ρ) J;have a:=bE (ρ:=ρ) i;simp only [AV.val] at g f a;have hi:=fg (ρ:=ρ) (T:=T) (Φ:=ab ρ T fr.H++Φ) C;have hb:eD w (ρ c).b S (AV.ao ρ cs):=o.at_ hi;obtain ⟨s,D⟩:=S2 o n cs xs l;have N:j<st.G.length:=(List.getElem?_eq_some_iff.1 C).1;refine .none_ (bC.gd (bC.run (adA L (cD I) g f a) (aV.mF (x:={ cO with v:=(some ⟨(ρ c).b,0,none⟩,n,n) }) A N p (by simp only [AV.val,ax.bw];rfl) ?_)));refine o.mF hi ((Ext.refl w).pZ _) (λb hb=>by cases hb) (λM' m M=>?_);simp only [Row.item,ax.bw];exact λ_=>⟨bO.fresh hb (M _ (by simp [Row.item,box]) (λhb=>by cases hb)) s (D.mv m),λ_=>s.symm⟩
         .cases p
        .cases h
       .cases h
      .cases h
     .cases h
    .cases h
   .cases h
  .cases h
 .cases h
end
variable {d : v7} {tys : Array TypeId}
def air{R:Type}(X:Cx)(T:aA)(fr:Fr)(st:aC)(t:TypeId)(x y:Operand)(K:cw R):Option R:=match bq T st.E fr.F none x with
 |some (.ptr id off)=>(match bq T st.E fr.F none y with
  |some v=>aa2 X.P st t id off v K
  |none=>none)
 |some (.adr q off)=>(match bq T st.E fr.F none y with
  |some v=>acW X.P fr st t q off v K
  |none=>none)
 |_=>none
def al6{R:Type}(X:Cx)(T:aA)(fr:Fr)(st:aC)(g:GK)(d:Tmp)(t:TypeId)(x:Operand)(K:cw R):Option R:=match bq T st.E fr.F g x with
 |some (.adr q off)=>SG X T fr st g d t q off K
 |_=>none
def aom{R:Type}(X:Cx)(T:aA)(fr:Fr)(st:aC)(g:GK)(b:Builtin)(d:v7)(xs:u9)(ts:List TypeId)(K:cw R):Option R:=match b,xs,ts,d with
 | .append,[x,y],[t,u],some d=>gone g (ay (Nat.beq t u) (alC X T fr st d t x y K) (ahm X T fr st d t u x y K))
 | .unsafeSliceData,[x],_,some d=>gone g (Zx T fr st d x K)
 | .unsafeString,[x,y],[pt,_],some d=>gone g (afx X T fr st d pt x y K)
 | .copy,[x,y],[t,u],d=>gone g (ay (Nat.beq t u) (afY X T fr st d t x y K) none)
 |_,_,_,_=>none
def ak5{R:Type}(X:Cx)(tb:List aq)(T:aA)(fr:Fr)(st:aC)(g:GK)(d:v7)(c:Callee)(xs:u9)(ts:List TypeId)(K:cw R):Option R:=match c with
 | .builtin b=>aom X T fr st g b d xs ts K
 | .value fo=>(match bq T st.E fr.F g fo with
  |some (.fn f a b)=>(match oA T st.E fr.F g xs with
   |some vs=>aks X T fr st g d f (a++vs++b) K (ur T fr st g d f (a++vs++b) K tb)
   |none=>none)
  |some (.raw (.func (.methodOf it nm) ⟨[]⟩ ⟨[]⟩))=>(match X.P.underlying it with
   |some dI=>ay (fH dI) (match oA T st.E fr.F g xs with
    |some (.ifc t u::vs)=>byT (λc=>match H9 X T fr st g c u nm with
     |some q=>ur T fr st g d q.1 (q.2::vs) K tb
     |none=>none) t X.ks
    |_=>none) none
   |none=>none)
  |_=>none)
 | .invoke rc nm=>(match bq T st.E fr.F g rc with
  |some (.ifc t u)=>(match oA T st.E fr.F g xs with
   |some vs=>(match u with
    | .agg []=>byT (λc=>match H9 X T fr st g c u nm with
     |some q=>ur T fr st g d q.1 (q.2::vs) K tb
     |none=>none) t X.ks
    |_=>(match H9 X T fr st g t u nm with
     |some q=>ur T fr st g d q.1 (q.2::vs) K tb
     |none=>none))
   |none=>none)
  |_=>none)
def opN{R:Type}(X:Cx)(tb:List aq)(T:aA)(fr:Fr)(st:aC)(g:GK)(op:Op)(dst:v7)(K:cw R):Option R:=match op,dst with
 | .indexAddr t x y,some d=>(match eT X.P t with
  |some _=>(match bq T st.E fr.F g x with
   |some (.bs _ _)=>gone g (aj1 X T fr st d t x y K)
   |_=>ahv X T fr st g d t x y K)
  |none=>(match bq T st.E fr.F g x with
   |some (.gp _)=>Zt X T fr st g d t x y K
   |_=>gone g (ag9 X T fr st d t x y K)))
 | .slice t x lo hi mx,some d=>(match eT X.P t with
  |some _=>(match mx with
   |none=>ay (inO fr.n d X.oc) (gone g (afE X T fr st d t x lo hi K)) (abI X T fr st g d t x lo hi none K)
   |mx=>abI X T fr st g d t x lo hi mx K)
  |none=>(match bq T st.E fr.F g x with
   |some (.gp _)=>gone g (WU X T fr st d t x lo hi mx K)
   |_=>gone g (alD X T fr st d t x lo hi mx K)))
 | .alloc t,some d=>gone g (aaR X st d t K)
 | .box t x,some d=>gone g (aki T fr st d t x K)
 | .store t x y,none=>gone g (air X T fr st t x y K)
 | .load t x,some d=>al6 X T fr st g d t x K
 | .buildSlice t n ps,some d=>(match eT X.P t with
  |some e=>ay (ao4 X.P e) (gone g (ahn X T fr st d t n ps.toList K)) (ajL X T fr st g d t n ps.toList K)
  |none=>none)
 | .makeSlice t x y,some d=>gone g (ag0 X T fr st d t x y K)
 | .makeMap t none,some d=>gone g (ahr X st d t K)
 | .mapUpdate t x y z,none=>gone g (ahC X T fr st t x y z K)
 | .range t x,some d=>gone g (akN X T fr st d t x K)
 | .next x true,some d=>gone g (akG T fr st d x K)
 | .convert s dt x,some d=>ajQ X T fr st g d s dt x K
 | .binOp op t x y _,some d=>gone g (ako X T fr st d op t x y K)
 | .call c,d=>ak5 X tb T fr st g d c.callee c.args.toList c.argTypes.toList K
 |_,_=>none
def opD{R:Type}(X:Cx)(tb:List aq)(T:aA)(fr:Fr)(st:aC)(g:GK)(o:Oper)(K:cw R):Option R:=
 match afM X T st.E fr.F g o.op with
 |some cv=>Ik cv.1 (g.map λ_=>T.get g) (K { st with E:=cn o.dst g cv.2 st.E })
 |none=>match ahE X T st.E fr.F st.G fr.H g o.op with
  |some cv=>Ik cv.1 (g.map λ_=>T.get g) (K { st with E:=cn o.dst g cv.2 st.E })
  |none=>ay (st.low fr) (opN X tb T fr st g o.op o.dst K) none
section
variable {X : Cx} {tb : List aq} {R : Type} {r : R} {K : cw R} {T : aA} {fr : Fr} {st : aC} {g : GK} {ρ : ax} {Φ : Ctx} {w : World} {ty : TypeId} {pos : String} {af : w4} {gd : s3}
theorem wO{d:v7}{op:Op}{f:FuncId}{args:List AV}(l:st.low fr=true)(j:Sat (ab ρ T st.G++(ab ρ T fr.H++Φ)) w)(a:∀it∈X.Γ,it∈Φ)
  (b:Enters X.P f->T.get g=true->∀n act,Fits n (au ρ T st.E fr.F) act->(execOp act.eval ⟨d,op,ty,pos,af,gd⟩).run X.P w= .ok (.enter f (AV.ao ρ args).toArray) w):∀{tb:List aq},(∀e∈tb,e.Ok X.P X.Γ)->ur T fr st g d f args K tb=some r->
  iB X.P T g (au ρ T st.E fr.F) ⟨d,op,ty,pos,af,gd⟩ w (aV r K T fr st g d ρ Φ)
 |[],_,h=>by cases h
 |e::tb,htb,h=>by
  unfold ur at h;rcases dp h with ⟨m,i⟩|⟨_,i⟩
  .split at i
   next o k=>subst i;have:=ah m;subst this;have c:=htb e (b0 ..);exact ajc l j c a (b c.1) k
   .exact wO l j a b (λe c=>htb e (aW _ c)) i
  .exact wO l j a b (λe c=>htb e (aW _ c)) i
theorem ala{f:FuncId}{fo:Operand}{xs:u9}{a b vs:List AV}(p:st.low fr=true)(o:Sat (ab ρ T st.G++(ab ρ T fr.H++Φ)) w)(j:∀it∈X.Γ,it∈Φ)
  (m:bq T st.E fr.F g fo=some (.fn f a b)) (k:oA T st.E fr.F g xs=some vs) {tb:List aq} (l:∀e∈tb,e.Ok X.P X.Γ) (h:ur T fr st g d f (a++vs++b) K tb=some r):
  iB X.P T g (au ρ T st.E fr.F) ⟨d,.call ⟨.value fo,xs.toArray,tys⟩,ty,pos,af,gd⟩ w (aV r K T fr st g d ρ Φ):=by
 have c:=aR (ρ:=ρ) m;have i:=fM (ρ:=ρ) k;simp only [AV.val] at c;refine wO p o j (λt q n u s=>?_) l h;rw [cX,cX];exact Dp t c i s q
theorem acf{k:Operand}{nm:String}{xs:u9}{t:TypeId}{u:AV}{vs:List AV}{q:FuncId×AV}(o:st.low fr=true)(l:Sat (ab ρ T st.G++(ab ρ T fr.H++Φ)) w)(c:∀it∈X.Γ,it∈Φ)
  (j:bq T st.E fr.F g k=some (.ifc t u)) (f:oA T st.E fr.F g xs=some vs) (m:H9 X T fr st g t u nm=some q) {tb:List aq} (i:∀e∈tb,e.Ok X.P X.Γ) (h:ur T fr st g d q.1 (q.2::vs) K tb=some r):
  iB X.P T g (au ρ T st.E fr.F) ⟨d,.call ⟨.invoke k nm,xs.toArray,tys⟩,ty,pos,af,gd⟩ w (aV r K T fr st g d ρ Φ):=by
 have a:=aR (ρ:=ρ) j;have b:=fM (ρ:=ρ) f;simp only [AV.val] at a;exact wO o l c (λv p n x s=>akZ v a (aaN l m) b s p) i h
theorem ajE{fo:Operand}{it:TypeId}{m:TypeDesc}{nm:String}{xs:u9}{t:TypeId}{u:AV}{vs:List AV}{q:FuncId×AV}(p:st.low fr=true)(l:Sat (ab ρ T st.G++(ab ρ T fr.H++Φ)) w)(c:∀it∈X.Γ,it∈Φ)
  (k:bq T st.E fr.F g fo=some (.raw (.func (.methodOf it nm) #[] #[]))) (j:X.P.underlying it=some m) (hd:fH m=true) (f:oA T st.E fr.F g xs=some (.ifc t u::vs)) (o:H9 X T fr st g t u nm=some q) {tb:List aq} (i:∀e∈tb,e.Ok X.P X.Γ) (h:ur T fr st g d q.1 (q.2::vs) K tb=some r):
  iB X.P T g (au ρ T st.E fr.F) ⟨d,.call ⟨.value fo,xs.toArray,tys⟩,ty,pos,af,gd⟩ w (aV r K T fr st g d ρ Φ):=by
 have b:=aR (ρ:=ρ) k;have a:=fM (ρ:=ρ) f;simp only [AV.val,AV.ao] at b a;exact wO p l c (λx s n y v=>aed x b j hd (aaN l o) a v s) i h
theorem an6{c:Callee}{xs:Array Operand}{J:Array TypeId}(m:st.low fr=true)(l:Sat (ab ρ T st.G++(ab ρ T fr.H++Φ)) w)(o:∀it∈X.Γ,it∈Φ)(p:∀e∈tb,e.Ok X.P X.Γ)
  (h:ak5 X tb T fr st g d c xs.toList J.toList K=some r):iB X.P T g (au ρ T st.E fr.F) ⟨d,.call ⟨c,xs,J⟩,ty,pos,af,gd⟩ w (aV r K T fr st g d ρ Φ):=by
 obtain ⟨xs⟩:=xs;obtain ⟨J⟩:=J;unfold ak5 at h;split at h
 .unfold aom at h;split at h
  .rename_i x y t u M k A;simp only at k A;subst k;subst A;obtain ⟨rfl,v⟩:=cN h;rcases dp v with ⟨B,j⟩|⟨_,j⟩
   .have:=ah B;subst this;exact amU m l j
   .exact aj6 m l j
  next x M k=>simp only at k;subst k;obtain ⟨rfl,v⟩:=cN h;exact (aaK m l v).ok2
  next x y S it M k A=>simp only at k A;subst k;subst A;obtain ⟨rfl,v⟩:=cN h;exact akF m l v
  next x y t u k A=>simp only at k A;subst k;subst A;obtain ⟨rfl,v⟩:=cN h;obtain ⟨B,j⟩:=aG v;have:=ah B;subst this;exact alT m l j
  .cases h
 .split at h
  .rename_i f a b s;split at h
   next vs i=>refine anw m l (λQ N n R O=>?_) h (λh=>ala m l o s i p h);have z:=aR (ρ:=ρ) s;have C:=fM (ρ:=ρ) i;simp only [AV.val] at z;rw [cX,cX];exact Dp Q z C O N
   .cases h
  .rename_i it nm s;split at h
   .rename_i U L;obtain ⟨v,B⟩:=aG h;split at B
    .rename_i t u vs i;have j:=aaj B;split at j
     next q I=>exact ajE m l o s L v i I p j
     .cases j
    .cases B
   .cases h
  .cases h
 .split at h
  .rename_i t u D;split at h
   .rename_i vs i;split at h
    .have j:=aaj h;split at j
     next q I=>exact acf m l o D i I p j
     .cases j
    .split at h
     next q I=>exact acf m l o D i I p h
     .cases h
   .cases h
  .cases h
theorem apc{op:Op}{dst:v7}(c:st.low fr=true)(b:Sat (ab ρ T st.G++(ab ρ T fr.H++Φ)) w)(d:∀it∈X.Γ,it∈Φ)(i:∀e∈tb,e.Ok X.P X.Γ)
  (h:opN X tb T fr st g op dst K=some r):iB X.P T g (au ρ T st.E fr.F) ⟨dst,op,ty,pos,af,gd⟩ w (aV r K T fr st g dst ρ Φ):=by
 unfold opN at h;split at h
 .split at h
  .split at h
   .obtain ⟨rfl,a⟩:=cN h;exact amZ b a
   .exact (aev c b h).ok2
  .split at h
   .exact (acI c d b h).ok2
   .obtain ⟨rfl,a⟩:=cN h;exact (aeC b a).ok2
 .split at h
  .split at h
   .rcases dp h with ⟨_,f⟩|⟨_,f⟩
    .obtain ⟨rfl,j⟩:=cN f;exact akM c b j
    .exact (Vp c b f).ok2
   .exact (Vp c b h).ok2
  .split at h
   .obtain ⟨rfl,a⟩:=cN h;exact anp c d b a
   .obtain ⟨rfl,a⟩:=cN h;exact anI c b a
 .obtain ⟨rfl,a⟩:=cN h;exact ai5 c b a
 .obtain ⟨rfl,a⟩:=cN h;exact anM c b a
 .obtain ⟨rfl,a⟩:=cN h;unfold air at a;split at a
  .rename_i id off hx;split at a
   next v hv=>exact .none_ (ajn b hx hv a)
   .cases a
  .rename_i id off hx;split at a
   next v hv=>exact .none_ (aiH c b hx hv a)
   .cases a
  .cases a
 .unfold al6 at h;split at h
  next q off hx=>exact al0 c b hx h
  .cases h
 .split at h
  .rcases dp h with ⟨_,f⟩|⟨_,f⟩
   .obtain ⟨rfl,j⟩:=cN f;exact ajO c b j
   .exact anN c b f
  .cases h
 .obtain ⟨rfl,a⟩:=cN h;exact ajI c b a
 .obtain ⟨rfl,a⟩:=cN h;exact alP c b a
 .obtain ⟨rfl,a⟩:=cN h;exact akr b a
 .obtain ⟨rfl,a⟩:=cN h;exact ana c b a
 .obtain ⟨rfl,a⟩:=cN h;exact anZ b a
 .exact an5 c b h
 .obtain ⟨rfl,a⟩:=cN h;exact am5 b a
 .exact an6 c b d i h
 .cases h
theorem aoy{o:Oper}(m:eK T st.E fr.F)(f:Sat (ab ρ T st.G++(ab ρ T fr.H++Φ)) w)(i:∀it∈X.Γ,it∈Φ)(j:∀e∈tb,e.Ok X.P X.Γ)
  (h:opD X tb T fr st g o K=some r):iB X.P T g (au ρ T st.E fr.F) o w (aV r K T fr st g o.dst ρ Φ):=by
 obtain ⟨dst,op,ty,pos,af,gd⟩:=o;unfold opD at h;simp only at h;split at h
 next cv b=>obtain ⟨d,c⟩:=ox h;exact JW.ok2 ⟨_,λw'=>abL m b d,aV.ie c (bb _) rfl rfl f⟩
 .split at h
  next cv b=>obtain ⟨d,c⟩:=ox h;have k:=aau (dst:=dst) (ty:=ty) (pos:=pos) (af:=af) (gd:=gd) f b d;have a:aV r K T fr st g dst ρ Φ (cv.2.val ρ) w:=aV.ie c (bb _) rfl rfl f;exact ⟨λl=>bC.run (by rwa [l] at k) a,λ_=>⟨_,a⟩⟩
  .obtain ⟨d,c⟩:=aG h;exact apc d f i j c
end
def Row.gd:Row->GK
 | .sli g _ _ _ _|.elm g _ _|.kn g _ _ _ _ _ _=>g
 |_=>none
theorem Row.AX{ρ:ax}{T T':aA}{r:Row}(h:T'.get r.gd=T.get r.gd):r.item ρ T'=r.item ρ T:=by cases r <;> simp only [Row.gd] at h <;> simp only [Row.item,h]
def AU(k:Nat×Bool)(g:GK):Bool:= !(GK.eq (some k) g)
def GQ(k:Nat×Bool):aE->Bool
 |[]=>true
 |x::E=>AU k x.2.1&&GQ k E
def PS(k:Nat×Bool):List Row->Bool
 |[]=>true
 |r::G=>AU k r.gd&&PS k G
def ag3(k:Nat×Bool):aA->Bool
 |[]=>true
 |x::T=>AU k (some x.1)&&AU k x.2.1&&ag3 k T
theorem wb{k:Nat×Bool}{par:GK}{rj:Nat}{b:Bool}{T:aA}{g:GK}(h:AU k g=true):aA.get ((k,par,rj,b)::T) g=T.get g:=aA.PD h
theorem Qx{ρ:ax}{k:Nat×Bool}{par:GK}{rj:Nat}{b:Bool}{T:aA}:{E:aE}->GQ k E=true->aE.env ρ ((k,par,rj,b)::T) E=aE.env ρ T E
 |[],_=>rfl
 |(t,g,v)::E,h=>by simp only [GQ,ae] at h;simp only [aE.env];rw [wb h.1,Qx h.2]
theorem GW{ρ:ax}{k:Nat×Bool}{par:GK}{rj:Nat}{b:Bool}{T:aA}:{G:List Row}->PS k G=true->ab ρ ((k,par,rj,b)::T) G=ab ρ T G
 |[],_=>rfl
 |r::G,h=>by simp only [PS,ae] at h;simp only [ab,cp];rw [Row.AX (wb h.1)];have:=GW (ρ:=ρ) (par:=par) (rj:=rj) (b:=b) (T:=T) h.2;simp only [ab] at this;rw [this]
theorem Lt{k:Nat×Bool}:{E:aE}->GQ k E=true->{t:Nat}->{x:GK×AV}->bu E t=some x->AU k x.1=true
 |[],_,_,_,h=>by cases h
 |(r,g,v)::E,h,t,x,hx=>by
  simp only [GQ,ae] at h;unfold bu at hx;rcases dp hx with ⟨_,a⟩|⟨_,a⟩
  .cases a;exact h.1
  .exact Lt h.2 a
def Pz(k:Nat×Bool):aA->Bool
 |[]=>false
 |x::T=>GK.eq (some k) (some x.1)||Pz k T
def lN(d:v7):aA->Bool
 |[]=>true
 |x::T=>(match d with
  |none=>true
  |some d=> !(Nat.beq d x.2.2.1))&&lN d T
def mJ(ops:xa)(n:Nat)(T:aA):Prop:= ∀x,x∈T->(ops[x.1.1]?).bind (·.dst)=some x.2.2.1/\Nat.blt x.2.2.1 n=true
def FT(T:aA)(fr:Fr):Prop:=(∀x,x∈fr.F->T.get x.2.1=aA.get [] x.2.1)/\∀r,r∈fr.H->T.get r.gd=aA.get [] r.gd
def stepG{R:Type}(ops:xa)(T:aA)(fr:Fr)(st:aC)(o:Oper)(run:aA->GK->Option R):Option R:=
 ay (ij o&&LN fr.n o.dst) (match o.guard with
 |none=>ay ( lN o.dst T ) ( run T none ) none
 |some k=>ay ( Pz k T ) ( ay ( lN o.dst T ) ( run T (some k) ) none )<|match ops[k.1]? with
  |some oj=>(match oj.dst with
   |some rj=>(match dz st.E fr.F rj with
    |some (par,.bool b)=>ay ( Nat.blt rj fr.n&&GQ k st.E&&GQ k fr.F&&PS k st.G&&PS k fr.H&&ag3 k T&&lN o.dst ((k,par,rj,b)::T) ) ( run ((k,par,rj,b)::T) (some k) ) none
    |_=>none)
   |none=>none)
  |none=>none) none
structure ahJ(ops:xa)(fr0 fr:Fr)(st:aC)(ρ:ax)(o:Oper)(T T':aA)(g:GK):Prop where
 pl:ij o=true
 ds:LN fr.n o.dst=true
 t1:eK T' st.E fr.F
 t2:mJ ops fr.n T'
 ft:FT T' fr0
 ak:lN o.dst T'=true
 ee:aE.env ρ T' st.E=aE.env ρ T st.E
 ef:aE.env ρ T' fr.F=aE.env ρ T fr.F
 eg:ab ρ T' st.G=ab ρ T st.G
 eh:ab ρ T' fr.H=ab ρ T fr.H
 gg:o.guard=g
 gk:∀k,g=some k->∃rj par b,(ops[k.1]?).bind (·.dst)=some rj/\look (au ρ T' st.E fr.F) rj=some (T'.get par,.bool b)/\Nat.blt rj fr.n=true/\(T'.get par&&(b==k.2))=T'.get g
theorem aeD{k:Nat×Bool}:{T:aA}->Pz k T=true->∃x,x∈T/\x.1=k
 |[],h=>by cases h
 |x::T,h=>by
  simp only [Pz,ck] at h;rcases h with h|h
  .have:=GK.eq_eq h;cases this;exact ⟨x,b0 .., rfl⟩
  .obtain ⟨y,b,a⟩:=aeD h;exact ⟨y,aW _ b,a⟩
theorem ae5{k:Nat×Bool}:{T:aA}->ag3 k T=true->∀x,x∈T->AU k (some x.1)=true/\AU k x.2.1=true
 |[],_,x,h=>by cases h
 |y::T,h,x,hx=>by
  simp only [ag3,ae] at h;rcases List.mem_cons.1 hx with rfl|hx
  .exact h.1
  .exact ae5 h.2 x hx
theorem ae4{k:Nat×Bool}:{E:aE}->GQ k E=true->∀x,x∈E->AU k x.2.1=true
 |[],_,x,h=>by cases h
 |y::T,h,x,hx=>by
  simp only [GQ,ae] at h;rcases List.mem_cons.1 hx with rfl|hx
  .exact h.1
  .exact ae4 h.2 x hx
theorem afa{k:Nat×Bool}:{E:List Row}->PS k E=true->∀x,x∈E->AU k x.gd=true
 |[],_,x,h=>by cases h
 |y::T,h,x,hx=>by
  simp only [PS,ae] at h;rcases List.mem_cons.1 hx with rfl|hx
  .exact h.1
  .exact afa h.2 x hx
theorem abS{R:Type}{r:R}{ops:xa}{T:aA}{fr0 fr:Fr}{st:aC}{o:Oper}{run:aA->GK->Option R}{ρ:ax}(v:eK T st.E fr.F)(u:mJ ops fr.n T)(y:fr0.F=fr.F)(w:∀r,r∈fr0.H->r∈fr.H)(q:FT T fr0)(h:stepG ops T fr st o run=some r):
  ∃T' g,run T' g=some r/\ahJ ops fr0 fr st ρ o T T' g:=by
 unfold stepG at h;obtain ⟨f,A⟩:=aG h;simp only [ae] at f;have ie:∀k x,x∈T->x.1=k->∃rj par b,(ops[k.1]?).bind (·.dst)=some rj/\look (au ρ T st.E fr.F) rj=some (T.get par,.bool b)/\Nat.blt rj fr.n=true/\(T.get par&&(b==k.2))=T.get (some k):=λk x hx m=>by subst m;obtain ⟨I,G⟩:=v x hx;obtain ⟨D,C⟩:=u x hx;exact ⟨x.2.2.1,x.2.1,x.2.2.2,D,by rw [fI,I];simp [AV.val],C,by rw [G,Mf]⟩
 split at A
 next p=>obtain ⟨t,d⟩:=aG A;exact ⟨T,none,d,⟨f.1,f.2,v,u,q,t,rfl,rfl,rfl,rfl,p,λk m=>by cases m⟩⟩
 .rename_i k p;rcases dp A with ⟨t,d⟩|⟨t,d⟩
  .obtain ⟨s,z⟩:=aG d;obtain ⟨x,hx,m⟩:=aeD t;exact ⟨T,some k,z,⟨f.1,f.2,v,u,q,s,rfl,rfl,rfl,rfl,p,λM e=>by cases e;exact ie k x hx m⟩⟩
  .split at d
   .rename_i oj l;split at d
    .rename_i rj i;split at d
     .rename_i par b a;obtain ⟨s,z⟩:=aG d;simp only [ae] at s;obtain ⟨⟨⟨⟨⟨⟨L,K⟩,B⟩,P⟩,J⟩,O⟩,N⟩:=s;have j:AU k par=true:=by
       unfold dz at a;split at a
       next x hx=>cases a;exact Lt K hx
       .exact Lt B a
      have c:aA.get ((k,par,rj,b)::T) (some k)=(aA.get ((k,par,rj,b)::T) par&&vR k.2 b):=by rw [aA.alV,wb j]
      have ee:=Qx (ρ:=ρ) (par:=par) (rj:=rj) (b:=b) (T:=T) K;have ef:=Qx (ρ:=ρ) (par:=par) (rj:=rj) (b:=b) (T:=T) B;refine ⟨(k,par,rj,b)::T,some k,z,⟨f.1,f.2,λx hx=>?_,λx hx=>?_,⟨λx hx=>?_,λx hx=>?_⟩,N,ee,ef,GW P,GW J,p,λM e=>?_⟩⟩
      .rcases List.mem_cons.1 hx with rfl|hx
       .exact ⟨a,c⟩
       .obtain ⟨I,G⟩:=v x hx;obtain ⟨D,C⟩:=ae5 O x hx;exact ⟨I,by rw [wb D,wb C];exact G⟩
      .rcases List.mem_cons.1 hx with rfl|hx
       .exact ⟨by simp [l,i],L⟩
       .exact u x hx
      .rw [wb (ae4 B x (y▸hx))];exact q.1 x hx
      .rw [wb (afa J x (w x hx))];exact q.2 x hx
      .cases e;refine ⟨rj,par,b,by simp [l,i],?_,L,by rw [c,Mf]⟩;rw [fI,a];simp [AV.val]
     .cases d
    .cases d
   .cases d
theorem W3{d:v7}:{T:aA}->lN d T=true->∀x,x∈T->∀(g:GK) (v:AV) (E F:aE),dz (cn d g v E) F x.2.2.1=dz E F x.2.2.1
 |[],_,x,h=>by cases h
 |y::T,h,x,hx=>λg v E F=>by
  simp only [lN,ae] at h;rcases List.mem_cons.1 hx with rfl|hx
  .cases d with
   |none=>rfl
   |some d=>
    have a:=h.1;simp only [c9] at a;unfold dz;simp only [cn,bu,a]
  .exact W3 h.2 x hx g v E F
theorem eK.out{T:aA}{E F:aE}(h:eK T E F){d:v7}(ha:lN d T=true)(g:GK)(v:AV):eK T (cn d g v E) F:=λx hx=>by rw [W3 ha x hx];exact h x hx
theorem sF{ρ:ax}{T:aA}{g:GK}{v:AV}{E F:aE}:au ρ T (cn d g v E) F=oQ d (T.get g) (v.val ρ) (au ρ T E F):=by cases d <;> rfl
section
variable {X : Cx} {tb : List aq} {σ : vA} {Q : br} {D : tt} {ops : xa} {rest : xa} {R : Type} {r : R} {T : aA} {fr : Fr} {st : aC} {ρ : ax} {Φ : Ctx} {w : World}
theorem aa3{fr0:Fr}{o:Oper}{K:aA->cw R}(O:eK T st.E fr.F)(N:mJ ops fr.n T)(s:fr0.F=fr.F)(q:∀r,r∈fr0.H->r∈fr.H)(L:FT T fr0)(I:Sat (ab ρ T st.G++(ab ρ T fr.H++Φ)) w)(j:∀it∈X.Γ,it∈Φ)(l:∀e∈tb,e.Ok X.P X.Γ)
  (h:stepG ops T fr st o (λT g=>opD X tb T fr st g o (K T))=some r)
  (f:∀T' st' ρ' w',eK T' st'.E fr.F->mJ ops fr.n T'->FT T' fr0->aT st.c ρ ρ'->st.c<=st'.c->K T' st'=some r->ab ρ' T' fr.H=ab ρ T fr.H->Sat (ab ρ' T' st'.G++(ab ρ' T' fr.H++Φ)) w'->WL X.P σ ops.toArray Q fr.n D rest (au ρ' T' st'.E fr.F) w'):
  WL X.P σ ops.toArray Q fr.n D (o::rest) (au ρ T st.E fr.F) w:=by
 obtain ⟨T',g,J,a⟩:=abS (ρ:=ρ) O N s q L h;have m:Sat (ab ρ T' st.G++(ab ρ T' fr.H++Φ)) w:=by rw [a.eg,a.eh];exact I
 have M:au ρ T st.E fr.F=au ρ T' st.E fr.F:=by rw [au,au,a.ee,a.ef]
 rw [M];have d:=aoy a.t1 m j l J;have i:∀v w',aV r (K T') T' fr st g o.dst ρ Φ v w'->WL X.P σ ops.toArray Q fr.n D rest (oQ o.dst (T'.get g) v (au ρ T' st.E fr.F)) w':=λv w' hv=>by obtain ⟨ρ',st',av,C,B,A,t,z,y,x,u⟩:=hv;have:=f T' st' ρ' w' (by rw [t];exact a.t1.out a.ak g av) a.t2 a.ft B A C (x.trans a.eh) u;rw [t,sF,z,y] at this;exact this
 cases p:g with
 |none=>
  subst p;have:=i;rw [aA.get_none] at this;exact anV (d.1 aA.get_none) a.pl a.gg a.ds this
 |some k=>
  obtain ⟨rj,par,b,W,V,U,S⟩:=a.gk k p;subst p;exact akS d.1 d.2 a.pl a.gg (by simpa using W) V U S a.ds i
end
def pd{α:Type}:Option α->Bool
 |none=>true
 |some _=>false
def lh(E0:aE):aE->aE
 |[]=>[]
 |x::E=>(match bu E0 x.1 with
  |some (none,_)=>ay (pd x.2.1) (x::lh E0 E) (lh E0 E)
  |_=>lh E0 E)
def j3:List Row->List Row
 |[]=>[]
 |r::G=>ay (pd r.gd) (r::j3 G) (j3 G)
def wI(T:aA)(st:aC):aC:=match T with
 |[]=>st
 |_::_=>{ st with E:=lh st.E st.E,G:=j3 st.G }
theorem gr{t' t:Nat}{g:GK}{v:AV}{E:aE}(h:Nat.beq t' t=true):bu ((t',g,v)::E) t=some (g,v):=by simp only [bu,h]
theorem ew{t' t:Nat}{g:GK}{v:AV}{E:aE}(h:Nat.beq t' t=false):bu ((t',g,v)::E) t=bu E t:=by simp only [bu,h]
theorem ET{d:aE}{t:Nat}:{E:aE}->{x:GK×AV}->bu (lh d E) t=some x->x.1=none/\(∃v,bu d t=some (none,v))/\((∃v,bu E t=some (none,v))->bu E t=some x)
 |[],x,h=>by cases h
 |(t',g',v')::E,x,h=>by
  unfold lh at h;have cJ:bu (lh d E) t=some x->(∀v,Nat.beq t' t=true->bu d t'≠some (none,v)\/g'≠none)->x.1=none/\(∃v,bu d t=some (none,v))/\((∃v,bu ((t',g',v')::E) t=some (none,v))->bu ((t',g',v')::E) t=some x):=λm i=>by
   obtain ⟨a,c,l⟩:=ET m;refine ⟨a,c,λhv=>?_⟩;cases hb:Nat.beq t' t
   .rw [ew hb] at hv ⊢; exact l hv
   .exfalso;obtain ⟨j,g⟩:=c;obtain ⟨n,b⟩:=hv;rw [gr hb] at b;simp only [b5,n5] at b;have e:=ah hb;rcases i j hb with f|f
    .rw [e] at f;exact f g
    .exact f b.1
  dsimp only at h;split at h
  .rename_i v hv;cases a:pd g'
   .rw [a] at h;exact cJ h (λv _=> .inr (λe=>by rw [e] at a;cases a))
   .rw [a] at h;have c:bu ((t',g',v')::lh d E) t=some x:=h;cases hb:Nat.beq t' t
    .rw [ew hb] at c ⊢;exact ET (E:=E) c
    .rw [gr hb] at c ⊢;cases c;have e:=ah hb;refine ⟨?_,⟨v,by rw [<-e];exact hv⟩,λ_=>rfl⟩;cases k:g' with
     |none=>rfl
     |some _=>rw [k] at a;cases a
  next i=>exact cJ h (λv hb=> .inl (λe=>i v e))
theorem Ot{a:aE}{t:Nat}{c:AV}(b:bu a t=some (none,c)):{E:aE}->{v:AV}->bu E t=some (none,v)->bu (lh a E) t=some (none,v)
 |[],v,h=>by cases h
 |(t',g',v')::E,v,h=>by
  unfold lh;cases hb:Nat.beq t' t
  .rw [ew hb] at h;have ih:=Ot b h;dsimp only;split
   .cases pd g'
    .exact ih
    .show bu ((t',g',v')::lh a E) t=_;rw [ew hb];exact ih
   .exact ih
  .rw [gr hb] at h;cases h;have e:=ah hb;subst e;dsimp only;rw [b];exact gr hb
def ZE(F E0:aE):aE->Bool
 |[]=>true
 |x::E=>(match bu E0 x.1 with
  |some (none,_)=>true
  |_=>pd (bu F x.1))&&ZE F E0 E
theorem abh{F c:aE}{t:Nat}:{E:aE}->{x:GK×AV}->ZE F c E=true->bu E t=some x->(∃v,bu c t=some (none,v))\/bu F t=none
 |[],x,_,h=>by cases h
 |(t',g',v')::E,x,hb,h=>by
  simp only [ZE,ae] at hb;cases b:Nat.beq t' t
  .rw [ew b] at h;exact abh hb.2 h
  .have e:=ah b;subst e;have a:=hb.1;split at a
   next v hv=>exact .inl ⟨v,hv⟩
   .cases d:bu F t' with
    |none=>exact .inr rfl
    |some y=>rw [d] at a;cases a
def BO(T:aA)(fr:Fr)(st:aC):Bool:=match T with
 |[]=>true
 |_::_=>ZE fr.F st.E st.E
theorem akU{ρ:ax}{T:aA}{E:aE}(h:∀x,x∈E->T.get x.2.1=aA.get [] x.2.1):aE.env ρ T E=aE.env ρ [] E:=by
 induction E with
 |nil=>rfl
 |cons x E ih=>
  obtain ⟨t,g,v⟩:=x;simp only [aE.env];rw [h _ (b0 ..),ih (λx hx=>h x (aW _ hx))]
theorem Rv{ρ:ax}{T:aA}{G:List Row}(h:∀r,r∈G->T.get r.gd=aA.get [] r.gd):ab ρ T G=ab ρ [] G:=
 qD λr a=>Row.AX (h r a)
theorem wm:{G:List Row}->∀r,r∈j3 G->r.gd=none
 |[],r,h=>by cases h
 |y::G,r,h=>by
  unfold j3 at h;cases a:pd y.gd
  .rw [a] at h;exact wm r h
  .rw [a] at h;rcases List.mem_cons.1 h with rfl|h
   .cases b:r.gd with
    |none=>rfl
    |some _=>rw [b] at a;cases a
   .exact wm r h
theorem yO{ρ:ax}{T:aA}{w:World}{B:Ctx}:∀{G:List Row} {A:Ctx},Sat (A++(ab ρ T G++B)) w->Sat (A++(ab ρ T (j3 G)++B)) w
 |[],_,h=>h
 |r::G,A,h=>by
  unfold j3;cases pd r.gd
  .exact yO (G:=G) (Sat.Ag h)
  .have a:Sat ((A++[r.item ρ T])++(ab ρ T G++B)) w:=by simpa [ab] using h
   have:=yO (G:=G) a;simpa [ab] using this
theorem Hn{ρ:ax}{T:aA}{fr:Fr}{st:aC}{Φ:Ctx}{w:World}(k:BO T fr st=true)(g:FT T fr)(f:Sat (ab ρ T st.G++(ab ρ T fr.H++Φ)) w):
  (wI T st).c=st.c/\iE (au ρ [] (wI T st).E fr.F) (au ρ T st.E fr.F)/\Sat (ab ρ [] (wI T st).G++(ab ρ [] fr.H++Φ)) w:=by
 cases T with
 |nil=>exact ⟨rfl,iE.refl,f⟩
 |cons x T=>
  refine ⟨rfl,λt p hp=>?_,?_⟩
  .have o:aE.env ρ (x::T) fr.F=aE.env ρ [] fr.F:=akU g.1;rw [au,Eb] at hp ⊢;rw [o];cases b:look (aE.env ρ [] (wI (x::T) st).E) t with
   |none=>
    rw [b] at hp
    -- nothing kept: nothing told, or under a guard
    have:look (aE.env ρ (x::T) st.E) t=none:=by
     rw [rN] at b hp ⊢;cases j:bu st.E t with
     |none=>rfl
     |some y=>
      exfalso;have d:bu (lh st.E st.E) t=none:=by
       cases d:bu (lh st.E st.E) t with
       |none=>rfl
       |some z=>
        have:bu (wI (x::T) st).E t=some z:=d;rw [this] at b;cases b
      rcases abh k j with ⟨v,hv⟩|i
      .rw [Ot hv hv] at d;cases d
      .rw [i] at hp;cases hp
    rw [this];exact hp
   |some q=>
    rw [b] at hp;cases hp;rw [rN] at b;cases d:bu (wI (x::T) st).E t with
    |none=>rw [d] at b;cases b
    |some y=>
     rw [d] at b;obtain ⟨e,n,m⟩:=ET d;have l:=m n;rw [rN,l];simp only [hV,b5] at b ⊢;rw [<-b,e,aA.get_none,aA.get_none]
  .have e:=yO (A:=[]) f;have u:ab ρ (x::T) (j3 st.G)=ab ρ [] (j3 st.G):=Rv λr h=>by rw [wm r h,aA.get_none,aA.get_none]
   have s:ab ρ (x::T) fr.H=ab ρ [] fr.H:=Rv g.2;rw [oi,u,s] at e;exact e
def Ox:Bool->Pt->List (Bool×Nat×Pt)->Type
 |true,_,_=>Empty
 |false,r,os=>dZ (la r++ga os)
abbrev aoW{R:Type}:(nv:Bool)->(r:Pt)->(os:List (Bool×Nat×Pt))->Ox nv r os->(dZ (la r++ga os)->Option R)->Option R
 |true,_,_,x,_=>Empty.elim x
 |false,_,_,x,K=>K x
def isOk:(nv:Bool)->(r:Pt)->(os:List (Bool×Nat×Pt))->Ox nv r os->dZ (la r++ga os)->Prop
 |true,_,_,_,_=>False
 |false,_,_,x,q=>x=q
theorem anb{R:Type}{a:R}:{nv:Bool}->{r:Pt}->{os:List (Bool×Nat×Pt)}->{x:Ox nv r os}->{q:dZ (la r++ga os)}->{K:dZ (la r++ga os)->Option R}->isOk nv r os x q->aoW nv r os x K=some a->K q=some a
 |true,_,_,_,_,_,h,_=>h.elim
 |false,_,_,_,_,_,rfl,h=>h
abbrev Sj(p:Pt):Option Pt->Type
 |none=>dZ (la p)
 |some q=>dZ (la p) ⊕ dZ (la q)
abbrev abl{A B R:Type}(x:A ⊕ B)(f:A->R)(g:B->R):R:=match x with
 | .inl a=>f a
 | .inr b=>g b
def akm(pp:Pt):(pq:Option Pt)->Sj pp pq->Value->eB->iN->List Nm->Prop
 |none,p,v,I,X,N=>Sem pp v none none [] (fK _ p) I X N
 |some _,.inl p,v,I,X,N=>Sem pp v none none [] (fK _ p) I X N
 |some q,.inr p,v,I,X,N=>Sem q v none none [] (fK _ p) I X N
structure bH where
 f:FuncId
 ps:List Pt
 pp:Pt
 pq:Option Pt
 nv:Bool
 lp:Bool
 r:Pt
 os:List (Bool×Nat×Pt)
 m:dZ (lx ps)->Option (Except (Sj pp pq) (Ox nv r os))
def bH.oe(e:bH):aq:=⟨e.f,e.ps,e.r,e.os,λ_=>none⟩
def bH.S(e:bH)(vs:vf)(N:List Nm)(I:eB)(X:iN)(Φ:Ctx)(r:Except (Sj e.pp e.pq) (Ox e.nv e.r e.os))(v:Value)(w':World):Prop:=
 ∃x q,r= .ok x/\isOk e.nv e.r e.os x q/\∃(N1 N2:List Nm) (D1 D2:List bX) (I1 I2:eB) (X1 X2:iN),Sem e.r v none none N D1 I1 X1 N1/\E6 (Uh N e.ps vs X) (λi=>vs[i]?) e.os N1 D2 I2 X2 N2/\D1++D2=fK _ q/\
  Sat ((df I1++df I2)++(eI I++Φ)) w'
def bH.Sp(e:bH)(I:eB)(Φ:Ctx)(r:Except (Sj e.pp e.pq) (Ox e.nv e.r e.os))(c:tj)(w':World):Prop:=
 ∃p,r= .error p/\∃(v:Value) (N1:List Nm) (I1:eB) (X1:iN),c=gF v/\akm e.pp e.pq p v I1 X1 N1/\Sat (df I1++(ay e.lp [] (eI I)++Φ)) w'
def bH.Ok(P:Program)(Γg:Ctx)(e:bH):Prop:=Enters P e.f/\∀s r,e.m s=some r->∀(vs:vf) (N:List Nm) (I:eB) (X:iN) (Φ:Ctx) (w:World),
 tl e.ps vs [] [] [] (fK _ s) I X N->Sat (df I++Φ) w->(∀it∈Γg,it∈Φ)->kg P e.f vs w (e.S vs N I X Φ r) (e.Sp I Φ r)
theorem Sat.move{A B C:Ctx}{x:Item}{w:World}(h:Sat (A++x::(B++C)) w):Sat (A++(B++x::C)) w:=by
 refine h.yR (λj k=>(j<A.length/\k=j)\/(A.length<=j/\j<A.length+B.length/\k=j+1)\/(j=A.length+B.length/\k=A.length)\/(A.length+B.length<j/\k=j)) (λj jt a=>?_) (λj k q b m l=>by omega);by_cases e:j<A.length
 .rw [b8 e] at a;exact .inr ⟨j,jt,.inl ⟨e,rfl⟩,by rw [b8 e];exact a,bQ.refl⟩
 .rw [bZ (by omega)] at a;by_cases i:j<A.length+B.length
  .rw [b8 (by omega)] at a;refine .inr ⟨j+1,jt,.inr (.inl ⟨by omega,i,rfl⟩),?_,bQ.refl⟩;rw [bZ (by omega)];have:j+1-A.length=(j-A.length)+1:=by omega
   rw [this,b9,b8 (by omega)];exact a
  .rw [bZ (by omega)] at a;by_cases g:j=A.length+B.length
   .subst g;rw [show A.length+B.length-A.length-B.length=0 by omega] at a;simp at a;subst a;exact .inr ⟨A.length,x,.inr (.inr (.inl ⟨rfl,rfl⟩)),by simp,bQ.refl⟩
   .refine .inr ⟨j,jt,.inr (.inr (.inr ⟨by omega,rfl⟩)),?_,bQ.refl⟩;rw [bZ (by omega)];have f:j-A.length-B.length=(j-A.length-B.length-1)+1:=by omega
    rw [f,b9] at a;have d:j-A.length=(j-A.length-1)+1:=by omega
    rw [d,b9,bZ (by omega)];have c:j-A.length-1-B.length=j-A.length-B.length-1:=by omega
    rw [c];exact a
theorem Sat.swp{w:World}{B C:Ctx}:∀{A P:Ctx},Sat (P++(A++(B++C))) w->Sat (P++(B++(A++C))) w
 |[],_,h=>h
 |x::A,P,h=>by
  have c:Sat ((P++[x])++(A++(B++C))) w:=by simpa using h
  have b:=Sat.swp (A:=A) c;have a:Sat (P++x::(B++(A++C))) w:=by simpa using b
  exact a.move
def cZ:List Row->List Row
 |[]=>[]
 |r::G=>ay r.cE (r::cZ G) (cZ G)
abbrev Ff(b:Bool)(H:List Row):List Row:=ay b (cZ H) H
theorem Dq{c:Nat}:{G:List Row}->bA c G=true->bA c (cZ G)=true
 |[],_=>rfl
 |r::G,h=>by
  simp only [bA,ae] at h;unfold cZ;cases r.cE
  .exact Dq h.2
  .show bA c (r::cZ G)=true;simp only [bA,ae];exact ⟨h.1,Dq h.2⟩
theorem anq{c:Nat}{b:Bool}{G:List Row}(h:bA c G=true):bA c (Ff b G)=true:=by
 cases b
 .exact h
 .exact Dq h
theorem nT{r:Row}:{G:List Row}->r∈cZ G->r∈G/\r.cE=true
 |[],h=>by cases h
 |x::G,h=>by
  unfold cZ at h;cases hx:x.cE <;> rw [hx] at h
  .exact ⟨aW _ (nT h).1,(nT h).2⟩
  .rcases List.mem_cons.1 h with rfl|h
   .exact ⟨b0 .., hx⟩
   .exact ⟨aW _ (nT h).1,(nT h).2⟩
theorem KT{G H:List Row}:cZ (G++H)=cZ G++cZ H:=by
 induction G with
 |nil=>rfl
 |cons r G ih=>
  show ay r.cE (r::cZ (G++H)) (cZ (G++H))=ay r.cE (r::cZ G) (cZ G)++cZ H;rw [ih];cases r.cE <;> rfl
theorem aje{ρ:ax}{T:aA}{w:World}{Γ:Ctx}(h:Sat Γ w){H:List Row}(d:∀r∈H,r.item ρ T∈Γ):Sat (ab ρ T (cZ H)++Γ) w:=by
 refine h.al1 _ (List.all_eq_true.2 λit a=>?_) ?_
 .obtain ⟨r,b,rfl⟩:=List.mem_map.1 a;exact Row.aic (nT b).2
 .have:∀l:List Item,(∀it∈l,it.P Γ.M w)->ahq Γ.M w l:=λl=>by
   induction l with
   |nil=>intro _;trivial
   |cons x l ih=>intro c;exact ⟨c x (b0 ..),ih λit a=>c it (aW _ a)⟩
  refine this _ λit a=>?_;obtain ⟨r,b,rfl⟩:=List.mem_map.1 a;exact h.all _ (d r (nT b).1)
theorem ano{L:ti}{A B:Ctx}(h:∀i,some i∈L->i<A.length):∃a,ik L (A++B)=a++B/\a.length=A.length:=by
 induction L with
 |nil=>exact ⟨A,rfl,rfl⟩
 |cons o L ih=>
  obtain ⟨a,c,b⟩:=ih (λi hi=>h i (aW _ hi));cases o with
  |none=>exact ⟨a,c,b⟩
  |some i=>
   refine ⟨a.set i fF,?_,by rw [rP,b]⟩;show (ik L (A++B)).set i fF=_;have:=h i (b0 ..);rw [c,List.set_append_left _ _ (by omega)]
theorem Sat.LG{w:World}{B C:Ctx}:∀{A:Ctx},Sat (B++(A++C)) w->Sat (B++C) w
 |[],h=>h
 |_x::A,h=>Sat.LG (A:=A) (Sat.Ag h)
def Kt{R:Type}(st:aC)(pp:Pt)(G1:List Row)(KP:AV->aC->Option R)(p:dZ (la pp)):Option R:=
 match fill (pX [] st.c) pp none none 0 (fK _ p) with
 |⟨v,R1,k,_,_⟩=>KP v { st with c:=st.c+k,G:=R1.map (·.2)++G1 }
abbrev aiG{R:Type}(st:aC)(pp:Pt):(pq:Option Pt)->(G1:List Row)->(KP:AV->aC->Option R)->Sj pp pq->Option R
 |none,G1,KP,p=>Kt st pp G1 KP p
 |some q,G1,KP,p=>abl p (Kt st pp G1 KP) (Kt st q G1 KP)
def abc{R:Type}(fr:Fr)(st:aC)(d:v7)(args:List AV)(e:bH)(KP:Bool->AV->aC->Option R)(K:cw R):Option (Option R):=
 match FJ (cm (dM st.G fr.H e.ps args) st.G) fr.H e.ps args [] [] [] with
  |some mr=>ay (Bv (mr.S.map λx=>dh (cm (dM st.G fr.H e.ps args) st.G) fr.H x.2)&&N4 (cm (dM st.G fr.H e.ps args) st.G).length (xz (cm (dM st.G fr.H e.ps args) st.G) fr.H mr.S)&&Oa st.c mr.B&&AV.bV st.c args&&QA st.c mr.X&&oZ (vu mr.B e.ps args mr.X) e.os) (match cC (lx e.ps) mr.D with
   |some s=>some (kW (e.m s) (aiG st e.pp e.pq (ay e.lp (cZ (cm (dM st.G fr.H e.ps args) st.G)) (jn (o8 (xz (cm (dM st.G fr.H e.ps args) st.G) fr.H mr.S) 0 (cm (dM st.G fr.H e.ps args) st.G)))) (KP e.lp))
     (λx=>aoW e.nv e.r e.os x (Mk fr st none d args e.oe mr (jn (o8 (xz (cm (dM st.G fr.H e.ps args) st.G) fr.H mr.S) 0 (cm (dM st.G fr.H e.ps args) st.G))) K)))
   |none=>none) none
  |none=>none
def JQ{R:Type}(fr:Fr)(st:aC)(d:v7)(f:FuncId)(args:List AV)(KP:Bool->AV->aC->Option R)(K:cw R):List bH->Option (Option R)
 |[]=>none
 |e::tp=>ay (Nat.beq e.f f) (match abc fr st d args e KP K with
   |some r=>some r
   |none=>JQ fr st d f args KP K tp) (JQ fr st d f args KP K tp)
def ahb{R:Type}(tp:List bH)(T:aA)(fr:Fr)(st:aC)(o:Oper)(KP:Bool->AV->aC->Option R)(K:cw R):Option (Option R):=match o.guard with
 |some _=>none
 |none=>(match o.op with
  | .panic x=>(match bq T st.E fr.F none x with
   |some (.ifc t v)=>some (KP false (.ifc t v) st)
   |_=>none)
  | .call c=>(match c.callee with
   | .value fo=>(match bq T st.E fr.F none fo with
    |some (.fn f a b)=>(match oA T st.E fr.F none c.args.toList with
     |some vs=>ay (lN o.dst T&&LN fr.n o.dst&&st.low fr) (JQ fr st o.dst f (a++vs++b) KP K tp) none
     |none=>none)
    |_=>none)
   |_=>none)
  |_=>none)
section
variable {P : Program} {R : Type} {r : R} {K : cw R} {KP : Bool -> AV -> aC -> Option R} {b : Bool} {T : aA} {fr : Fr} {st : aC} {d : v7} {ρ : ax} {Φ Γg : Ctx} {w : World}
def ab8(r:R)(KP:Bool->AV->aC->Option R)(T:aA)(fr:Fr)(st:aC)(ρ:ax)(Φ:Ctx)(v:Value)(w':World):Prop:=
 ∃(b:Bool) (ρ':ax) (st':aC) (av:AV),KP b av st'=some r/\aT st.c ρ ρ'/\st.c<=st'.c/\st'.E=st.E/\av.val ρ'=v/\Sat (ab ρ' T st'.G++(ab ρ' T (Ff b fr.H)++Φ)) w'/\au ρ' T st.E fr.F=au ρ T st.E fr.F
theorem Hh{pp:Pt}{e:List Row}{p:dZ (la pp)}{v:Value}{w':World}{N1:List Nm}{l:eB}{w:iN}
  (t:st.low fr=true) (n:bA st.c e=true) (u:Sem pp v none none [] (fK _ p) l w N1)
  (z:Sat (df l++(ab ρ T e++(ab ρ T (Ff b fr.H)++Φ))) w') (h:Kt st pp e (KP b) p=some r):ab8 r KP T fr st ρ Φ v w':=by
 have m:=sY _ _ _ _ _ _ _ _ _ u;have d:=XK (ρ:=ρ) (c:=st.c) (N:=[]) (B:=[]) (N2:=N1) .nil m rfl;have a:aT st.c ρ (λi=>ay (Nat.blt i st.c) (ρ i) ((N1[i-st.c]?).getD cO)):=λj D=>by
  have:Nat.blt j st.c=true:=by simpa using D
  simp only [this]
 generalize y:(λi=>ay (Nat.blt i st.c) (ρ i) ((N1[i-st.c]?).getD cO))=ρ' at d a;obtain ⟨g,s,q,o,f⟩:=Am (T:=T) pp v none none [] (fK _ p) l w N1 u (Em _) d (by simp) [];rw [eF,qe] at g s q o f;unfold Kt at h;generalize fill (pX [] st.c) pp none none 0 (fK _ p)=L at g s q o f h;obtain ⟨x,G,k,J,I⟩:=L;simp only at g s q o f;dsimp only at h;have F:=bc (T:=T) a n;have E:=bc (T:=T) a (anq (b:=b) (aC.cB.1 t).2.2.2);refine ⟨b,ρ',_,x,h,a,qs _ _,rfl,g,?_,lO t a⟩;show Sat (ab ρ' T (G.map (·.2)++e)++(ab ρ' T (Ff b fr.H)++Φ)) w';rw [bh,F,E,aO];exact Sat.leL (A:=[]) (B:=df l) (C:=ab ρ T e++(ab ρ T (Ff b fr.H)++Φ)) (by simpa using z) f.rw
theorem Rx{pp:Pt}:{pq:Option Pt}->{a:List Row}->{p:Sj pp pq}->{v:Value}->{w':World}->{N1:List Nm}->{d:eB}->{e:iN}->
  st.low fr=true->bA st.c a=true->akm pp pq p v d e N1->Sat (df d++(ab ρ T a++(ab ρ T (Ff b fr.H)++Φ))) w'->aiG st pp pq a (KP b) p=some r->ab8 r KP T fr st ρ Φ v w'
 |none,_,_,_,_,_,_,_,hl,hG,h1,hs,h=>Hh hl hG h1 hs h
 |some _,_,.inl _,_,_,_,_,_,hl,hG,h1,hs,h=>Hh hl hG h1 hs h
 |some _,_,.inr _,_,_,_,_,_,hl,hG,h1,hs,h=>Hh hl hG h1 hs h
theorem ai3{e:bH}{args:List AV}(Z:st.low fr=true)(n:Sat (ab ρ T st.G++(ab ρ T fr.H++Φ)) w)(he:e.Ok P Γg)(l:∀it∈Γg,it∈Φ)(h:abc fr st d args e KP K=some (some r)):
  kg P e.f (AV.ao ρ args) w (aV r K T fr st none d ρ Φ) (λc w'=>∃v,c=gF v/\ab8 r KP T fr st ρ Φ v w'):=by
 have E:=oU (ids:=dM st.G fr.H e.ps args) (aC.cB.1 Z).2.2.1;replace n:=iH (ids:=dM st.G fr.H e.ps args) n;unfold abc at h;generalize cm (dM st.G fr.H e.ps args) st.G=a at E n h;have hd:=aje n (H:=a++fr.H) (λr hr=>List.mem_append.2 ((List.mem_append.1 hr).imp (λh=>List.mem_map_of_mem h) (λh=>qy _ (List.mem_map_of_mem h))));replace hd:Sat (ab ρ T a++(ab ρ T fr.H++(ab ρ T (cZ (a++fr.H))++Φ))) w:=by exact Sat.swp (P:=ab ρ T a) (Sat.swp (P:=[]) hd)
 have O:=l;replace l:∀it∈Γg,it∈ab ρ T (cZ (a++fr.H))++Φ:=λit D=>cy _ (O it D);generalize M:ab ρ T (cZ (a++fr.H))++Φ=g at hd l;have hdr:∀{A:Ctx} {w':World},Sat (A++g) w'->Sat (A++Φ) w':=λ{A w'} h=>by rw [<-M] at h;exact Sat.LG h
 replace n:=hd;split at h
 .rename_i m hm;obtain ⟨h1,h2⟩:=aG h;simp only [ae] at h1;obtain ⟨⟨⟨⟨⟨h3,h4⟩,h5⟩,h6⟩,h7⟩,h9⟩:=h1;split at h2
  .rename_i s Q;simp only [b5] at h2;obtain ⟨N,I,s1,n1,a1⟩:=wZ n e.ps args [] [] [] m [] hm (.inl rfl) .nil;rw [<-Aj _ Q] at s1;obtain ⟨p1,p2⟩:=Mz n a1;have o:=vK h3;obtain ⟨q1,_⟩:=vX n p1 o;have J:∀(L:ti) (G:List Row) (k:Nat),bA st.c G=true->bA st.c (jn (o8 L k G))=true:=λL G=>by
    induction G with
    |nil=>intro k _;rfl
    |cons r G ih=>
     intro k W;simp only [bA,ae] at W;show bA st.c (jn ((ay (jy k L) .gone r)::o8 L (k+1) G))=true;cases jy k L
     .cases r <;> first|exact ih (k+1) W.2|(simp only [jn,bA,ae];exact ⟨W.1,ih (k+1) W.2⟩)
     .exact ih (k+1) W.2
   have t:=J (xz a fr.H m.S) a 0 E;have R:∀it∈Γg,it∈ik (m.S.map λx=>dh a fr.H x.2) (ab ρ T a++(ab ρ T fr.H++g)):=λit D=>by
    obtain ⟨k,u⟩:=List.mem_iff_getElem?.1 (l it D);have hk2:(ab ρ T a++(ab ρ T fr.H++g))[a.length+fr.H.length+k]? =some it:=by
     rw [bZ (by simp [ab];omega),bZ (by simp [ab];omega)];have:a.length+fr.H.length+k-(ab ρ T a).length-(ab ρ T fr.H).length=k:=by simp [ab];omega
     rw [this];exact u
    refine mj (i:=a.length+fr.H.length+k) ?_;rw [Al,hk2];intro U;obtain ⟨x,_,hx⟩:=List.mem_map.1 U;have:=Qa hx;omega
   have y:=λrr hr=>he.2 s rr hr (AV.ao ρ args) N I (dD ρ m.X) _ w (by simpa only [AV.ao] using s1) q1 R;have j:∀{A:Ctx} {w':World},Sat (A++(eI I++ik (m.S.map λx=>dh a fr.H x.2) (ab ρ T a++(ab ρ T fr.H++g)))) w'->Sat (A++(ab ρ T (jn (o8 (xz a fr.H m.S) 0 a))++(ab ρ T fr.H++Φ))) w':=λ{A w'} c4=>by have Y:=Fv p2 o c4;rw [QR a1,A6 h4] at Y;have c6:=CP Y;rw [<-aO (ab ρ T (jn (o8 (xz a fr.H m.S) 0 a))),<-aO A] at c6;have c7:=hdr c6;rwa [aO A,aO] at c7
   rcases af3 h2 with ⟨p,hq,u⟩|⟨q,hq,u⟩
   .refine (y _ hq).mono (λv w' hv=>?_) (λc w' hv=>?_)
    .obtain ⟨x',q',z,_⟩:=hv;cases z
    .obtain ⟨p',C,v,N1,I1,X1,c1,c2,F⟩:=hv;cases C;refine ⟨v,c1,?_⟩;cases V:e.lp with
     |false=>rw [V] at F u;exact Rx (b:=false) Z t c2 (j F) u
     |true=>
      rw [V] at F u;obtain ⟨A',e1,_⟩:=ano (L:=m.S.map λx=>dh a fr.H x.2) (A:=ab ρ T a++ab ρ T fr.H) (B:=g) (λi hi=>by obtain ⟨x,_,hx⟩:=List.mem_map.1 hi;have:=Qa hx;simp only [ab,cj,List.length_map];omega)
      rw [aO] at e1;rw [e1] at F;have Y:Sat (df I1++g) w':=Sat.LG (A:=A') F;rw [<-M,KT,bh,aO] at Y;exact Rx (b:=true) Z (Dq E) c2 Y u
   .refine (y _ hq).mono (λv w' hv=>?_) (λc w' hv=>?_)
    .obtain ⟨x',q',z,hi,N1,N2,D1,D2,I1,I2,X1,X2,c1,c2,F,c4⟩:=hv;cases z;exact Ky (e:=e.oe) Z t n1 h5 h6 h7 h9 c1 c2 F aA.get_none (j c4) (.inl rfl) (anb hi u)
    .obtain ⟨p',C,_⟩:=hv;cases C
  .cases h2
 .cases h
theorem KG{f:FuncId}{args:List AV}(j:st.low fr=true)(g:Sat (ab ρ T st.G++(ab ρ T fr.H++Φ)) w)(a:∀it∈Γg,it∈Φ):∀{tp:List bH},(∀e∈tp,e.Ok P Γg)->JQ fr st d f args KP K tp=some (some r)->
  Enters P f/\kg P f (AV.ao ρ args) w (aV r K T fr st none d ρ Φ) (λc w'=>∃v,c=gF v/\ab8 r KP T fr st ρ Φ v w')
 |[],_,h=>by cases h
 |e::tp,htp,h=>by
  unfold JQ at h;rcases dp h with ⟨l,b⟩|⟨_,b⟩
  .split at b
   next m i=>cases b;have:=ah l;subst this;exact ⟨(htp e (b0 ..)).1,ai3 j g (htp e (b0 ..)) a i⟩
   .exact KG j g a (λe k=>htp e (aW _ k)) b
  .exact KG j g a (λe k=>htp e (aW _ k)) b
variable {σ : vA} {Q : br} {D : tt} {ops rest : xa} {tp : List bH}
theorem amA{o:Oper}(h1:eK T st.E fr.F)(U:Sat (ab ρ T st.G++(ab ρ T fr.H++Φ)) w)(M:∀it∈Γg,it∈Φ)(O:∀e∈tp,e.Ok P Γg)
  (h:ahb tp T fr st o KP K=some (some r))
  (p:∀st' ρ' w',eK T st'.E fr.F->aT st.c ρ ρ'->st.c<=st'.c->K st'=some r->ab ρ' T fr.H=ab ρ T fr.H->Sat (ab ρ' T st'.G++(ab ρ' T fr.H++Φ)) w'->WL P σ ops.toArray Q fr.n D rest (au ρ' T st'.E fr.F) w')
  (g:∀b v st' ρ' w',aT st.c ρ ρ'->st.c<=st'.c->KP b v st'=some r->st'.E=st.E->au ρ' T st.E fr.F=au ρ T st.E fr.F->Sat (ab ρ' T st'.G++(ab ρ' T (Ff b fr.H)++Φ)) w'->At Q (.panic (gF (v.val ρ'))) fr.n D (au ρ' T st'.E fr.F) w'):
  WL P σ ops.toArray Q fr.n D (o::rest) (au ρ T st.E fr.F) w:=by
 obtain ⟨dst,op,ty,pos,af,gd⟩:=o;unfold ahb at h;split at h
 .cases h
 rename_i s;simp only at s;subst s;split at h
 .rename_i x j;simp only at j;subst j;split at h
  next t v hx=>have Z:=n9 h;have m:=aR (ρ:=ρ) hx;rw [aA.get_none] at m;simp only [AV.val] at m;refine akw m ?_;have:=g false (.ifc t v) st ρ w .refl (bb _) Z rfl rfl U;simp only [AV.val] at this;exact this
  .cases h
 .rename_i c j;simp only at j;subst j;obtain ⟨A,xs,tys⟩:=c;obtain ⟨xs⟩:=xs;simp only at h;split at h
  .rename_i fo;split at h
   .rename_i f a b R;split at h
    .rename_i vs N;obtain ⟨V,h3⟩:=aG h;simp only [ae] at V;obtain ⟨⟨S,hd⟩,Y⟩:=V;obtain ⟨u,hc⟩:=KG Y U M O h3;have d:=aR (ρ:=ρ) R;have i:=fM (ρ:=ρ) N;rw [aA.get_none] at d i;simp only [AV.val] at d;have k:AV.ao ρ (a++vs++b)=AV.ao ρ a++AV.ao ρ vs++AV.ao ρ b:=by rw [cX,cX]
     have y:∀v w',aV r K T fr st none dst ρ Φ v w'->WL P σ ops.toArray Q fr.n D rest (oQ dst true v (au ρ T st.E fr.F)) w':=λv w' hv=>by obtain ⟨ρ',st',av,L,J,I,q,C,B,z,X⟩:=hv;have:=p st' ρ' w' (by rw [q];exact h1.out S none av) J I L z X;rw [q,sF,C,B,aA.get_none] at this;exact this
     have l:∀c w',(∃v,c=gF v/\ab8 r KP T fr st ρ Φ v w')->At Q (.panic c) fr.n D (au ρ T st.E fr.F) w':=λc w' hv=>by obtain ⟨v,rfl,W,ρ',st',av,L,J,I,q,C,B,z⟩:=hv;have:=g W av st' ρ' w' J I L q z B;rw [C,q,z] at this;exact this
     cases dst with
     |none=>exact ah0 u d i k hc y l
     |some dd=>exact abE u d i k hd hc y l
    .cases h
   .cases h
  .cases h
 .cases h
end
theorem Sat.ak4{A B:Ctx}{x:Item}{w:World}(h:Sat (A++x::B) w):Sat (x::(A++B)) w:=by
 refine h.yR (λj k=>(j=0/\k=A.length)\/(0<j/\j<=A.length/\k+1=j)\/(A.length<j/\k=j)) (λj jt a=>?_) (λj k q b d c=>by omega);cases j with
 |zero=>
  simp only [c5,b5] at a;subst a;exact .inr ⟨A.length,x,.inl ⟨rfl,rfl⟩,by simp,bQ.refl⟩
 |succ j=>
  simp only [b9] at a;by_cases e:j<A.length
  .rw [b8 e] at a;exact .inr ⟨j,jt,.inr (.inl ⟨by omega,by omega,rfl⟩),by rw [b8 e];exact a,bQ.refl⟩
  .rw [bZ (by omega)] at a;refine .inr ⟨j+1,jt,.inr (.inr ⟨by omega,rfl⟩),?_,bQ.refl⟩;rw [bZ (by omega)];have:j+1-A.length=(j-A.length)+1:=by omega
   rw [this,b9];exact a
theorem Sat.apL{Γ:Ctx}{it new:Item}{w:World}(h:Sat (it::Γ) w)(a:∀b∈new.own,b∈it.own)(c:∀M',Mv (Ctx.M (it::Γ)) w M' w->new.P M' w):Sat (new::Γ) w:=by have:=h.mF (i:=0) (it:=it) (new:=new) (w':=w) rfl ⟨rfl,rfl,rfl,bb _,λ_ _ _=>rfl⟩ (λb hb=>⟨h.lt (Ctx.AY.2 (.inl (a b hb))),.inl (a b hb)⟩) (λM' m _=>c M' m);simpa using this
def G7(X:Cx)(T:aA)(fr:Fr)(st:aC)(o:Oper):Option (TypeId×List AV×List AV):=match o.op,o.guard with
 | .alloc t,none=>(match ZG X.P t with
  |some cs=>some (t,[],cs)
  |none=>none)
 | .buildSlice t len ps,none=>(match eT X.P t with
  |some e=>(match jI X.P e with
   |some z=>(match oA T st.E fr.F none (ps.toList.map (·.2)) with
    |some vs=>(match yV (λi=>some (i*z.1,z.1)) ((ps.toList.map (·.1)).zip vs) (VL len (z.2.2.cells.toList.map iO)) with
     |some cs=>ay ( Nat.beq z.2.2.cells.size z.1&&Nat.ble (len*z.1) 16777216&&(Nat.blt 0 (len*z.1)||Nat.beq len 0&&ps.toList.isEmpty) ) (some (e,vs,cs)) none
     |none=>none)
    |none=>none)
   |none=>none)
  |none=>none)
 |_,_=>none
theorem acK{X:Cx}{T:aA}{fr:Fr}{st:aC}{ρ:ax}{o:Oper}{e:TypeId}{vs cs:List AV}(h:G7 X T fr st o=some (e,vs,cs))(w:World):
  ky X.P (au ρ T st.E fr.F) o w (DF o w.heap.size) (w.alloc (.cells (AV.ao ρ cs).toArray e)):=by
 obtain ⟨dst,op,ty,pos,af,gd⟩:=o;unfold G7 at h;simp only at h;split at h
 .rename_i t;split at h
  .rename_i p a;cases h;unfold ZG at a;split at a
   next z k=>cases a;obtain ⟨n,b,z⟩:=z;have:=GL (P:=X.P) (E:=au ρ T st.E fr.F) (w:=w) (dst:=dst) (ty:=ty) (pos:=pos) (af:=af) (zs:=z.cells.toList) (cD k) (by simp);rw [kD];exact this
   .cases a
  .cases h
 .rename_i t len ps;obtain ⟨ps⟩:=ps;split at h
  .rename_i e' q;split at h
   .rename_i z k;obtain ⟨n,bytes,z⟩:=z;split at h
    .rename_i s m;split at h
     .rename_i p a;obtain ⟨r,v⟩:=aG h;cases v;simp only [ae,ck] at r;obtain ⟨⟨A,y⟩,g⟩:=r;have f:z.cells.size=n:=ah A;have d:=fM (ρ:=ρ) m;rw [aA.get_none] at d;have c:=wg (ρ:=ρ) a;rw [Av,QJ,kD] at c;rcases g with g|⟨g,u⟩
      .have i:0<n:=by
        have:0<len*n:=by simpa using g
        exact qV (λe=>by simp [e] at this)
       have j:nP n len z.cells.toList ((ps.map (·.1)).zip (AV.ao ρ vs))=some (AV.ao ρ cs).toArray:=by unfold nP;have l:=Da z.cells.toList (by simp [f];exact i) len;simp only [cb,f] at l;simp only [cb,f];rw [<-c,<-l]
       exact nG (P:=X.P) (w:=w) (dst:=dst) (ty:=ty) (pos:=pos) (af:=af) (bT q) (cD k) (zs:=z.cells.toList) (by simp) g y d j
      .have x:len=0:=ah g;subst x;have l:ps=[]:=by simpa using u
       subst l;have:cs=[]:=by simp only [List.map_nil,List.zip_nil_left,VL,List.replicate_zero,List.flatten_nil,yV,b5] at a;exact a.symm
       subst this;exact rJ (P:=X.P) (E:=au ρ T st.E fr.F) (w:=w) (dst:=dst) (ty:=ty) (pos:=pos) (af:=af) (bT q) (cD k)
     .cases h
    .cases h
   .cases h
  .cases h
 .cases h
def ajY{R:Type}(X:Cx)(T:aA)(fr:Fr)(st:aC)(o:Oper)(K:cw R):Option R:=match G7 X T fr st o,o.dst with
 |some p,some d=>(match o.op with
  | .buildSlice _ len _=>(match yX X.tys p.1 with
   |some u=>(match rdL (cm (AV.dV (.agg p.2.1)++(p.2.1.map AV.dV).flatten) st.G) fr.H u len p.2.2 with
    |some xs=>ay (st.low fr&&Nat.ble len 9223372036854775807) (K { st with c:=st.c+1,E:=cn (some d) none (.sl st.c) st.E,G:= .own st.c u p.1 xs st.c::cm (AV.dV (.agg p.2.1)++(p.2.1.map AV.dV).flatten) st.G }) none
    |none=>none)
   |none=>none)
  |_=>ay (st.low fr&&AV.bV st.c p.2.2) (agy st d p.1 p.2.2 K) none)
 |_,_=>none
section
variable {X : Cx} {R : Type} {r : R} {K : cw R} {T : aA} {fr : Fr} {st : aC} {ρ : ax} {Φ : Ctx} {w : World}
theorem amO{o:Oper}{b:Nat}{e':TypeId}{k:vf}(g:Sat (ab ρ T st.G++(ab ρ T fr.H++(box b e' k::Φ))) w)
  (J:∀e vs cs,G7 X T fr st o=some (e,vs,cs)->e'=e/\k=AV.ao ρ cs) (h:ajY X T fr st o K=some r):
  aV r K T fr st none o.dst ρ Φ (DF o b) w:=by
 obtain ⟨dst,op,ty,pos,af,gd⟩:=o;unfold ajY at h;simp only at h;split at h
 .rename_i p d hp;obtain ⟨e,vs,cs⟩:=p;obtain ⟨rfl,rfl⟩:=J _ _ _ hp;split at h
  .rename_i t len ps;split at h
   .rename_i u O;split at h
    .rename_i xs n;obtain ⟨B,A⟩:=aG h;simp only [ae] at B;obtain ⟨s,L⟩:=B;have z:=oU (ids:=AV.dV (.agg vs)++(vs.map AV.dV).flatten) (aC.cB.1 s).2.2.1;replace g:=iH (ids:=AV.dV (.agg vs)++(vs.map AV.dV).flatten) g;simp only at A;generalize cm (AV.dV (.agg vs)++(vs.map AV.dV).flatten) st.G=G at A z g n;obtain ⟨I,F⟩:=S2 (ρ:=ρ) (T:=T) g _ _ _ n;have f:Sat ((ab ρ T G++ab ρ T fr.H)++box b e' (AV.ao ρ cs)::Φ) w:=by rw [aO];exact g
     have a:=f.ak4;have mv:Mv (Ctx.M (ab ρ T G++(ab ρ T fr.H++(box b e' (AV.ao ρ cs)::Φ)))) w (Ctx.M (box b e' (AV.ao ρ cs)::((ab ρ T G++ab ρ T fr.H)++Φ))) w:=Mv.weaken w λc hc=>by
      obtain ⟨it,hi,hb⟩:=hc;refine ⟨it,?_,hb⟩;simp only [qv,List.mem_append] at hi ⊢;rcases hi with h|(h|h)|h
      .exact .inr (.inr (.inl h))
      .exact .inl h
      .exact .inr (.inl h)
      .exact .inr (.inr (.inr h))
     refine aV.new (ρ':=ρ.set st.c { cO with v:=(some ⟨b,0,none⟩,len,len),y:=⟨.l u,xs⟩ }) (av:= .sl st.c) s A ax.aY (eb _) rfl (by simp only [AV.val,ax.bw];rfl) ?_;show Sat (ab _ T (_::G)++_) w;have e:=bc (T:=T) (ax.aY (ρ:=ρ) (j:=st.c) (x:={ cO with v:=(some ⟨b,0,none⟩,len,len),y:=⟨.l u,xs⟩ })) z;rw [ab,cp];rw [ab] at e;rw [e];have hb:eD w b e' (AV.ao ρ cs):=a.at_ (i:=0) rfl;have q:Sat ((Row.own st.c u e' xs st.c).item (ρ.set st.c { cO with v:=(some ⟨b,0,none⟩,len,len),y:=⟨.l u,xs⟩ }) T::((ab ρ T G++ab ρ T fr.H)++Φ)) w:=by
      refine a.apL (λc hc=>?_) (λM' m=>?_)
      .simp only [Row.item,ax.bw] at hc;exact An hc
      .simp only [Row.item,ax.bw];exact ⟨(bJ.of (fU.fresh hb I L (F.mv (mv.trans m)))).AZ,trivial⟩
     rw [aO] at q;exact q
    .cases h
   .cases h
  .rename_i C;obtain ⟨B,A⟩:=aG h;simp only [ae] at B;obtain ⟨s,E⟩:=B;have f:Sat ((ab ρ T st.G++ab ρ T fr.H)++box b e' (AV.ao ρ cs)::Φ) w:=by rw [aO];exact g
   have a:=f.ak4;rw [aO] at a;have N:DF ⟨some d,op,ty,pos,af,gd⟩ b= .pointer (some ⟨b,0,none⟩):=by
    unfold DF;split
    next D=>exact (C _ _ _ D).elim
    .rfl
   rw [N];refine aV.new (ρ':=ρ.set st.c { cO with b:=b }) (av:= .ptr st.c 0) s A ax.aY (eb _) rfl (by simp only [AV.val,ax.bw]) ?_;show Sat (ab _ T (_::st.G)++_) w;have e:=bc (T:=T) (ax.aY (ρ:=ρ) (j:=st.c) (x:={ cO with b:=b })) (aC.cB.1 s).2.2.1;rw [ab,cp];rw [ab] at e;rw [e];simp only [Row.item,ax.bw];rw [AV.bS ax.aY _ E];exact a
 .cases h
end
variable {o : Oper}
abbrev afB{R:Type}(fr:Fr)(KP:AV->aC->Option R)(T:aA)(v:AV)(st:aC):Option R:=ay (BO T fr st) (KP v (wI T st)) none
def xA{R:Type}(X:Cx)(tb:List aq)(tp:List bH)(KP:Bool->AV->aC->Option R)(ops:xa)(fr:Fr):xa->aA->aC->cw R->Option R
 |[],T,st,K=>ay (BO T fr st) (K (wI T st)) none
 |o::l,T,st,K=>match ahb tp T fr st o (λb=>afB fr (KP b) T) (λst=>xA X tb tp KP ops fr l T st K) with
  |some q=>q
  |none=>stepG ops T fr st o λT g=>opD X tb T fr st g o λst=>xA X tb tp KP ops fr l T st K
section
variable {R : Type} {X : Cx} {tb : List aq} {tp : List bH} {KP : Bool -> AV -> aC -> Option R} {b : Bool} {σ : vA} {Q : br} {D : tt} {ops : xa} {r : R} {fr : Fr} {Φ : Ctx} {K : cw R}
theorem afn{T:aA}{v:AV}{st:aC}{ρ:ax}{w:World}(d:FT T fr)(h:afB fr (KP b) T v st=some r)(j:Sat (ab ρ T st.G++(ab ρ T (Ff b fr.H)++Φ)) w):
  ∃st',KP b v st'=some r/\st'.c=st.c/\iE (au ρ [] st'.E fr.F) (au ρ T st.E fr.F)/\Sat (ab ρ [] st'.G++(ab ρ [] (Ff b fr.H)++Φ)) w:=by
 unfold afB at h;obtain ⟨e,l⟩:=aG h;have k:BO T ⟨fr.F,Ff b fr.H,fr.n⟩ st=true:=by unfold BO at e ⊢;exact e
 obtain ⟨i,g,f⟩:=Hn (fr:=⟨fr.F,Ff b fr.H,fr.n⟩) k ⟨d.1,λr a=>d.2 r (by
  cases b
  .exact a
  .exact (nT a).1)⟩ j
 exact ⟨_,l,i,g,f⟩
theorem GI{rest:xa}(g:∀it∈X.Γ,it∈Φ)(m:∀e∈tb,e.Ok X.P X.Γ)(k:∀e∈tp,e.Ok X.P X.Γ):∀{l:xa} {T:aA} {st:aC} {ρ:ax} {w:World},eK T st.E fr.F->mJ ops fr.n T->FT T fr->Sat (ab ρ T st.G++(ab ρ T fr.H++Φ)) w->
  xA X tb tp KP ops fr l T st K=some r->
  (∀st' ρ' w',aT st.c ρ ρ'->st.c<=st'.c->K st'=some r->Sat (ab ρ' [] st'.G++(ab ρ' [] fr.H++Φ)) w'->WL X.P σ ops.toArray Q fr.n D rest (au ρ' [] st'.E fr.F) w')->
  (∀b v st' ρ' w',aT st.c ρ ρ'->st.c<=st'.c->KP b v st'=some r->Sat (ab ρ' [] st'.G++(ab ρ' [] (Ff b fr.H)++Φ)) w'->At Q (.panic (gF (v.val ρ'))) fr.n D (au ρ' [] st'.E fr.F) w')->
  WL X.P σ ops.toArray Q fr.n D (l++rest) (au ρ T st.E fr.F) w
 |[],T,st,ρ,w,h1,h2,p,hs,h,next,pnext=>by
  unfold xA at h;obtain ⟨U,S⟩:=aG h;obtain ⟨C,M,B⟩:=Hn U p hs;exact λa p hd=>next _ ρ w .refl (by rw [C];exact bb _) S B a (p.lq M) hd
 |o::l,T,st,ρ,w,h1,h2,p,hs,h,next,pnext=>by
  unfold xA at h;split at h
  .rename_i q R;subst h;refine amA h1 hs g k R (λst' ρ' w' A y i J Y I=>?_) (λz v st' ρ' w' A N L W V y=>?_)
   .exact GI g m k A h2 p I J (λd f j x u t s=>next d f j (y.trans x i) (ca i u) t s) (λz v d f j x u t s=>pnext z v d f j (y.trans x i) (ca i u) t s)
   .obtain ⟨d,C,M,O,B⟩:=afn p L y;exact (pnext z v d ρ' w' A (by omega) C B).lq _ O
  .exact aa3 (K:=λT st=>xA X tb tp KP ops fr l T st K) h1 h2 rfl (λ_ h=>h) p hs g m h (λT' st' ρ' w' A N L y i J Y I=>
    GI g m k A N L I J (λd f j x u t s=>next d f j (y.trans x i) (ca i u) t s) (λz v d f j x u t s=>pnext z v d f j (y.trans x i) (ca i u) t s))
theorem Wp(f:∀it∈X.Γ,it∈Φ)(i:∀e∈tb,e.Ok X.P X.Γ)(g:∀e∈tp,e.Ok X.P X.Γ){l:xa}{T:aA}{st:aC}{ρ:ax}{w:World}(o:eK T st.E fr.F)(m:mJ ops fr.n T)(k:FT T fr)(j:Sat (ab ρ T st.G++(ab ρ T fr.H++Φ)) w)
  (h:xA X tb tp KP ops fr l T st K=some r)
  (d:∀st' ρ' w',aT st.c ρ ρ'->st.c<=st'.c->K st'=some r->Sat (ab ρ' [] st'.G++(ab ρ' [] fr.H++Φ)) w'->At Q .normal fr.n D (au ρ' [] st'.E fr.F) w')
  (a:∀b v st' ρ' w',aT st.c ρ ρ'->st.c<=st'.c->KP b v st'=some r->Sat (ab ρ' [] st'.G++(ab ρ' [] (Ff b fr.H)++Φ)) w'->At Q (.panic (gF (v.val ρ'))) fr.n D (au ρ' [] st'.E fr.F) w'):
  WL X.P σ ops.toArray Q fr.n D l (au ρ T st.E fr.F) w:=by
 have:=GI (σ:=σ) (Q:=Q) (D:=D) (rest:=[]) f i g o m k j h (λst' ρ' w' t s q p=>bR (d st' ρ' w' t s q p)) a;rwa [eF] at this
end
def j8(c:Nat):List AV->List AV×List Row×Nat
 |[]=>([],[],c)
 |v::vs=>match v with
  | .nv u=>match j8 c vs with
   |(cs,R,c)=>(.nv u::cs,R,c)
  |v=>match j8 (c+1) vs with
   |(cs,R,c')=>(.nv c::cs,.eq c v::R,c')
structure amu(c:Nat)(vs:List AV)(ρ ρ':ax)(x:List AV×List Row×Nat):Prop where
 ag:aT c ρ ρ'
 le:c<=x.2.2
 eq:AV.ao ρ' x.1=AV.ao ρ vs
 lw:AV.bV x.2.2 x.1=true
 rl:bA x.2.2 x.2.1=true
 rp:∀r∈x.2.1,(r.item ρ' []).cE=true/\∀M w,(r.item ρ' []).P M w
 rg:∀r∈x.2.1,r.gd=none
theorem wN{c d:Nat}(a:c<=d):{G:List Row}->bA c G=true->bA d G=true
 |[],_=>rfl
 |r::G,h=>by simp only [bA,ae] at h ⊢;exact ⟨Row.fi a h.1,wN a h.2⟩
theorem p7{c:Nat}:{G H:List Row}->bA c G=true->bA c H=true->bA c (G++H)=true
 |[],_,_,h=>h
 |r::G,H,h,k=>by simp only [du,bA,ae] at h ⊢;exact ⟨h.1,p7 h.2 k⟩
theorem Hk:{vs:List AV}->{c:Nat}->{ρ:ax}->AV.bV c vs=true->∃ρ',amu c vs ρ ρ' (j8 c vs)
 |[],c,ρ,h=>⟨ρ,.refl,bb _,rfl,rfl,rfl,(λ_ h=>by cases h),λ_ h=>by cases h⟩
 |v::vs,c,ρ,h=>by
  simp only [AV.bV,ae] at h;have a:(∀u,v≠ .nv u)->j8 c (v::vs)=(match j8 (c+1) vs with|(cs,R,f)=>(.nv c::cs,.eq c v::R,f))->∃ρ',amu c (v::vs) ρ ρ' (j8 c (v::vs)):=λ_ e=>by
   have g:aT c ρ (ρ.set c { cO with x:=v.val ρ }):=ax.aY;obtain ⟨ρ',l⟩:=Hk (c:=c+1) (ρ:=ρ.set c { cO with x:=v.val ρ }) (AV.jg (eb c) _ h.2);rw [e];generalize j8 (c+1) vs=L at l;obtain ⟨cs,R,f⟩:=L;have d:aT c ρ ρ':=g.trans l.ag (eb _);have hx:(ρ' c).x=v.val ρ:=by rw [l.ag _ (qd _),ax.bw]
   have i:c+1<=f:=l.le;refine ⟨ρ',d,ca (eb _) l.le,?_,?_,?_,?_,?_⟩
   .simp only [AV.ao,AV.val,hx];rw [l.eq,AV.bS g _ h.2]
   .simp only [AV.bV,AV.low,ae,dk];exact ⟨by omega,l.lw⟩
   .simp only [bA,Row.low,ae,dk];exact ⟨⟨by omega,AV.fi (by omega) _ h.1⟩,l.rl⟩
   .intro r b;rcases List.mem_cons.1 b with rfl|b
    .exact ⟨rfl,λM w=>by show (ρ' c).x=v.val ρ';rw [hx,AV.jW d _ h.1]⟩
    .exact l.rp r b
   .intro r b;rcases List.mem_cons.1 b with rfl|b
    .rfl
    .exact l.rg r b
  cases v with
  |nv u=>
   obtain ⟨ρ',l⟩:=Hk (c:=c) (ρ:=ρ) h.2;unfold j8;dsimp only;generalize j8 c vs=L at l;obtain ⟨cs,R,f⟩:=L;refine ⟨ρ',l.ag,l.le,?_,?_,l.rl,l.rp,l.rg⟩
   .simp only [AV.ao];rw [l.eq,AV.jW l.ag _ h.1]
   .simp only [AV.bV,ae];exact ⟨AV.fi l.le _ h.1,l.lw⟩
  |_=>exact a (λu h=>by cases h) rfl
def ajg{R:Type}(X:Cx)(T:aA)(fr:Fr)(st:aC)(g:GK)(op:Op)(dst:v7)(K:cw R):Option R:=match op,dst with
 | .indexAddr t x y,some d=>(match eT X.P t with
  |some _=>ahv X T fr st g d t x y K
  |none=>(match bq T st.E fr.F g x with
   |some (.gp _)=>Zt X T fr st g d t x y K
   |_=>gone g (ag9 X T fr st d t x y K)))
 | .slice t x lo hi mx,some d=>(match bq T st.E fr.F g x with
  |some (.gp _)=>gone g (WU X T fr st d t x lo hi mx K)
  |_=>abI X T fr st g d t x lo hi mx K)
 | .call ⟨.builtin .unsafeSliceData,⟨[x]⟩,_⟩,some d=>gone g (Zx T fr st d x K)
 | .call ⟨.builtin .len,⟨[x]⟩,⟨[t]⟩⟩,some d=>ahy X T fr st g d t x K
 |_,_=>none
def aaa{R:Type}(X:Cx)(T:aA)(fr:Fr)(st:aC)(g:GK)(o:Oper)(K:cw R):Option R:=
 match afM X T st.E fr.F g o.op with
 |some cv=>Ik cv.1 (g.map λ_=>T.get g) (K { st with E:=cn o.dst g cv.2 st.E })
 |none=>match ahE X T st.E fr.F [] fr.H g o.op with
  |some cv=>Ik cv.1 (g.map λ_=>T.get g) (K { st with E:=cn o.dst g cv.2 st.E })
  |none=>ay (st.low fr) (ajg X T fr st g o.op o.dst K) none
def bm(p:Row->Bool):List Row->List Row
 |[]=>[]
 |r::G=>ay (p r) (r::bm p G) (bm p G)
def cR(r:Row):Bool:= !r.cE
theorem Sat.wz{w:World}{B:Ctx}:∀{A:Ctx},Sat (A++B) w->Sat B w
 |[],h=>h
 |_x::A,h=>Sat.wz (A:=A) (Sat.Ag (A:=[]) h)
section
variable {ρ : ax} {T : aA} {w : World}
theorem om{p:Row->Bool}{H:List Row}{Φ:Ctx}:∀{G:List Row} {A:Ctx},Sat (A++(ab ρ T G++(ab ρ T H++Φ))) w->Sat (A++(ab ρ T (bm p G)++(ab ρ T (bm (λr=> !(p r)) G++H)++Φ))) w
 |[],_,h=>h
 |r::G,A,h=>by
  unfold bm;cases hp:p r
  .have b:Sat ((A++[r.item ρ T])++(ab ρ T G++(ab ρ T H++Φ))) w:=by simpa [ab] using h
   have a:=om (p:=p) (G:=G) b;have c:Sat (A++r.item ρ T::(ab ρ T (bm p G)++(ab ρ T (bm (λr=> !(p r)) G++H)++Φ))) w:=by simpa using a
   exact c.move
  .have b:Sat ((A++[r.item ρ T])++(ab ρ T G++(ab ρ T H++Φ))) w:=by simpa [ab] using h
   have a:=om (p:=p) (G:=G) b;simpa [ab] using a
end
abbrev mR(fr:Fr)(A:List Row)(st:aC):Fr:=⟨fr.F,bm (λr=> !(cR r)) st.G++(A++fr.H),fr.n⟩
abbrev stM(st:aC):aC:={ st with G:=bm cR st.G }
abbrev ui:=Nat×Nat×Nat×xc
def MB:List AV->Option xc
 |[]=>some []
 |v::l=>(match v with
  | .nv u=>(match MB l with
   |some us=>some (u::us)
   |none=>none)
  |_=>none)
def ab5:List AV->xc->Bool
 |_,[]=>true
 |l,n::ns=>(match l with
  | .nv u::l=>Nat.beq u n&&ab5 l ns
  |_=>false)
def Lx(G:List Row):List ui->Bool
 |[]=>true
 |x::Pd=>(match lQ (wG x.2.1) G with
  |some (_,.box _ _ cs)=> !(Nat.beq x.2.2.1 1000000000)&&ab5 (cs.drop x.2.2.1) x.2.2.2
  |_=>false)&&Lx G Pd
def pdF(G:List Row):List ui->Bool
 |[]=>true
 |x::Pd=>(Nat.beq x.2.2.1 1000000000||(match lQ (wG x.2.1) G with
  |some (_,.box _ _ cs)=> !(Nat.beq x.2.2.1 1000000000)&&ab5 (cs.drop x.2.2.1) x.2.2.2
  |_=>false))&&pdF G Pd
def eM(ops:xa)(k:Nat):List ui->List ui
 |[]=>[]
 |x::Pd=>ay (waits .any ops.toArray k x.1) (eM ops k Pd) (x::eM ops k Pd)
def szA(P:Program)(t:TypeId):vA:=match P.underlying t with
 |some d=>ay (jb d) (match jI P t with
  |some z=>some z.1
  |none=>none) (some 1)
 |none=>none
def afK{R:Type}(X:Cx)(T:aA)(fr:Fr)(st:aC)(g:GK)(k:Nat)(o:Oper)(K:List Row->ui->aC->Option R):Option (Option R):=match o.op,o.dst with
 | .load t x,some d=>(match bq T st.E fr.F g x with
  |some (.ptr id off)=>(match lQ (wG id) st.G with
   |some (j,.box _ bt cs)=>some (match szA X.P t with
    |some n=>(match jL X.P t ((cs.drop off).map (rH st.G fr.H)) with
     |some v=>(match MB (j8 st.c ((cs.drop off).take n)).1 with
      |some us=>ay (st.low fr&&v.low st.c&&Nat.ble (off+n) cs.length&& !(Nat.beq off 1000000000)) (
        K (j8 st.c ((cs.drop off).take n)).2.1 (k,id,off,us) { st with c:=(j8 st.c ((cs.drop off).take n)).2.2,E:=cn (some d) g v st.E,G:=st.G.set j (.box id bt (sH cs off (j8 st.c ((cs.drop off).take n)).1)) } ) none
      |none=>none)
     |none=>none)
    |none=>none)
   |_=>none)
  |_=>none)
 |_,_=>none
def amk(T:aA)(fr:Fr)(st:aC)(g:GK)(o:Oper):Option (Tmp×TypeId×Nat×Nat):=match o.op,o.dst with
 | .load t x,some d=>(match bq T st.E fr.F g x with
  |some (.adr q off)=>(match w8 T [] fr.H g (.adr q off) with
   |some _=>none
   |none=>(match dE st.G fr.H (QY q) with
    |some _=>some (d,t,q,off)
    |none=>none))
  |_=>none)
 |_,_=>none
def MI{R:Type}(X:Cx)(tb:List aq)(tp:List bH)(KP:AV->aC->Option R)(ops:xa)(fr:Fr)(A:List Row)(T:aA)(st:aC)(o:Oper)(K:aA->cw R):Option R:=
 match ahb tp T (mR fr A st) (stM st) o (λb v st'=>ay b none (afB fr KP T v { st' with G:=st'.G++(bm (λr=> !(cR r)) st.G++A) })) (K T) with
 |some q=>q
 |none=>stepG ops T (mR fr A st) (stM st) o λT g=>opD X tb T (mR fr A st) (stM st) g o (K T)
def aoQ(X:Cx)(T:aA)(fr:Fr)(st:aC)(ops:xa)(k:Nat)(fl:xc)(rest:OT)(f:Nat):Bool:=(match ops[f]? with
 |some o=>(match G7 X T fr st o,o.dst with
  |some _,some d=>ij o&&Nat.blt d fr.n&&(match dz st.E fr.F d with|some _=>false|none=>true)&&(o.looksAt ops.toArray).all (λt=> !(Nat.beq t d))
  |_,_=>false)
 |none=>false)&&(k::rest.ops).all (λj=>nD ops.toArray j f)&&(fl++rest.Ui).all (λj=>Nat.beq j f||nD ops.toArray j f)
def agD{R:Type}(X:Cx)(ops:xa)(fr:Fr)(T:aA):xc->aC->cw R->Option R
 |[],st,K=>K st
 |f::fs,st,K=>(match ops[f]? with
  |some o=>ay (lN o.dst T&& !(da f fs)) (ajY X T fr st o λst=>agD X ops fr T fs st K) none
  |none=>none)
abbrev frA(fr:Fr)(A:List Row):Fr:=⟨fr.F,A++fr.H,fr.n⟩
def nk{R:Type}(X:Cx)(tb:List aq)(tp:List bH)(KP:AV->aC->Option R)(ops:xa)(fr:Fr):OT->List Row->List ui->aA->aC->cw R->Option R
 | .nil,A,_,T,st,K=>ay (BO T fr { st with G:=st.G++A }) (K (wI T { st with G:=st.G++A })) none
 | .q k _ rest,A,Pd,T,st,K=>(match ops[k]? with
  |some o=>stepG ops T (mR fr A st) (stM st) o λT g=>match afK X T (mR fr A st) (stM st) g k o (λR p st'=>nk X tb tp KP ops fr rest (R++(bm (λr=> !(cR r)) st.G++A)) (p::Pd) T st' K) with
   |some q=>q
   |none=>(match amk T (mR fr A st) (stM st) g o with
    |some p=>ay ((stM st).low (mR fr A st)) (SG X T (mR fr A st) (stM st) g p.1 p.2.1 p.2.2.1 p.2.2.2 λst'=>nk X tb tp KP ops fr rest (bm (λr=> !(cR r)) st.G++A) ((k,p.2.2.1,1000000000,[])::Pd) T st' K) none
    |none=>aaa X T (mR fr A st) (stM st) g o λst'=>nk X tb tp KP ops fr rest (bm (λr=> !(cR r)) st.G++A) Pd T st' K)
  |none=>none)
 | .l k _ rest,A,Pd,T,st,K=>(match ops[k]? with
  |some o=>MI X tb tp KP ops fr A T st o λT st'=>ay (Lx st'.G (eM ops k Pd)) (nk X tb tp KP ops fr rest (bm (λr=> !(cR r)) st.G++A) (eM ops k Pd) T st' K) none
  |none=>none)
 | .l2 _ k₁ r₁ k₂ r₂,A,Pd,T,st,K=>both
  (match ops[k₁]? with
  |some o=>MI X tb tp KP ops fr A T st o λT st'=>ay (Lx st'.G (eM ops k₁ Pd)) (nk X tb tp KP ops fr r₁ (bm (λr=> !(cR r)) st.G++A) (eM ops k₁ Pd) T st' K) none
  |none=>none)
  (match ops[k₂]? with
  |some o=>MI X tb tp KP ops fr A T st o λT st'=>ay (Lx st'.G (eM ops k₂ Pd)) (nk X tb tp KP ops fr r₂ (bm (λr=> !(cR r)) st.G++A) (eM ops k₂ Pd) T st' K) none
  |none=>none)
 | .f k _ fl fs rest,A,Pd,T,st,K=>ay (fl.all (aoQ X T (frA fr A) st ops k fl rest)&&pdF st.G Pd) (agD X ops (frA fr A) T fs st λst=>(match ops[k]? with
  |some o=>MI X tb tp KP ops fr A T st o λT st'=>ay (Lx st'.G (eM ops k Pd)) (nk X tb tp KP ops fr rest (bm (λr=> !(cR r)) st.G++A) (eM ops k Pd) T st' K) none
  |none=>none)) none
section
variable {R : Type} {X : Cx} {tb : List aq} {tp : List bH} {KP : AV -> aC -> Option R} {σ : vA} {Q : br} {D : tt} {ops : xa} {r : R} {fr : Fr} {Φ : Ctx} {K : cw R}
theorem ai9{T:aA}{st:aC}{g:GK}{ρ:ax}{w:World}(i:∀it∈X.Γ,it∈Φ)(m:eK T st.E fr.F)(e:Sat (ab ρ T st.G++(ab ρ T fr.H++Φ)) w)(h:aaa X T fr st g o K=some r):
  ∃(v:Value) (J:World->Prop),(∀w',(∃c,Sat (ab ρ T fr.H++c) w')->J w')/\(∀w',J w'->bf X.P (au ρ T st.E fr.F) (T.get g) o w' v)/\aV r K T fr st g o.dst ρ Φ v w:=by
 obtain ⟨dst,op,ty,pos,af,gd⟩:=o;unfold aaa at h;simp only at h;have b:∀{O:Value->World->Prop},JW X.P T g (au ρ T st.E fr.F) ⟨dst,op,ty,pos,af,gd⟩ w O->∃(v:Value) (J:World->Prop),(∀w',(∃c,Sat (ab ρ T fr.H++c) w')->J w')/\(∀w',J w'->bf X.P (au ρ T st.E fr.F) (T.get g) ⟨dst,op,ty,pos,af,gd⟩ w' v)/\O v w:=λh=>by obtain ⟨v,d,a⟩:=h;exact ⟨v,λ_=>True,λ_ _=>trivial,λw' _=>d w',a⟩
 split at h
 next cv f=>obtain ⟨d,a⟩:=ox h;exact b ⟨_,λw'=>abL m f d,aV.ie a (bb _) rfl rfl e⟩
 .split at h
  next cv f=>obtain ⟨d,a⟩:=ox h;refine ⟨_,λw'=>∃c,Sat (ab ρ T fr.H++c) w',λ_ h=>h,λw' l=>?_,aV.ie a (bb _) rfl rfl e⟩;obtain ⟨c,k⟩:=l;exact aau (G:=[]) (Φ:=c) k f d
  .obtain ⟨d,a⟩:=aG h;unfold ajg at a;split at a
   .split at a
    .exact b (aev d e a)
    .split at a
     .exact b (acI d i e a)
     .obtain ⟨rfl,j⟩:=cN a;exact b (aeC e j)
   .split at a
    .obtain ⟨rfl,j⟩:=cN a;exact b (ani d i e j)
    .exact b (Vp d e a)
   .obtain ⟨rfl,j⟩:=cN a;exact b (aaK d e j)
   .exact b (alf e a)
   .cases a
def BF(ρ:ax)(x:ui)(w:World):Prop:=Nat.beq x.2.2.1 1000000000=false/\∃cs t,eD w (ρ x.2.1).b t cs/\(cs.drop x.2.2.1).take x.2.2.2.length=x.2.2.2.map λu=>(ρ u).x
def agb(c:Nat)(Pd:List ui):Prop:= ∀x,x∈Pd->x.2.1<c/\∀u,u∈x.2.2.2->u<c
theorem AR{ρ ρ':ax}{c:Nat}(ha:aT c ρ ρ'){x:ui}(hx:x.2.1<c/\∀u,u∈x.2.2.2->u<c){w:World}:BF ρ' x w↔BF ρ x w:=by
 unfold BF;rw [ha _ hx.1];have:(x.2.2.2.map λu=>(ρ' u).x)=x.2.2.2.map λu=>(ρ u).x:=qD λu a=>by rw [ha _ (hx.2 u a)]
 rw [this]
theorem XI{ρ:ax}:∀{l:List AV} {us:xc},ab5 l us=true->(AV.ao ρ l).take us.length=us.map λu=>(ρ u).x
 |l,[],_=>by simp
 |l,n::ns,h=>by
  unfold ab5 at h;split at h
  next u l'=>simp only [ae] at h;have e:=ah h.1;subst e;simp only [AV.ao,AV.val,qb,qO,cp];rw [XI h.2]
  .cases h
theorem Rw{ρ:ax}:∀{l:List AV} {us:xc},MB l=some us->AV.ao ρ l=us.map (λu=>(ρ u).x)/\us.length=l.length
 |[],us,h=>by cases h;simp [AV.ao]
 |v::l,us,h=>by
  unfold MB at h;split at h
  .rename_i u;split at h
   next b a=>cases h;obtain ⟨d,c⟩:=Rw (ρ:=ρ) a;simp [AV.ao,AV.val,d,c]
   .cases h
  .cases h
theorem XQ{c:Nat}:∀{l:List AV} {us:xc},MB l=some us->AV.bV c l=true->∀u,u∈us->u<c
 |[],us,h,_,u,a=>by cases h;cases a
 |v::l,us,h,hl,u,a=>by
  unfold MB at h;split at h
  .rename_i u';split at h
   .rename_i d b;cases h;simp only [AV.bV,AV.low,ae,dk] at hl;rcases List.mem_cons.1 a with rfl|a
    .exact hl.1
    .exact XQ b hl.2 u a
   .cases h
  .cases h
theorem aak{ρ:ax}{T:aA}{G:List Row}{B:Ctx}{w:World}(c:Sat (ab ρ T G++B) w):∀{Pd:List ui},Lx G Pd=true->∀x,x∈Pd->BF ρ x w
 |[],_,x,hx=>by cases hx
 |y::Pd,h,x,hx=>by
  simp only [Lx,ae] at h;rcases List.mem_cons.1 hx with rfl|hx
  .have a:=h.1;split at a
   next j id t cs d=>obtain ⟨f,e⟩:=kI d;have:id=x.2.1:=ah e;subst this;have hb:eD w (ρ x.2.1).b t (AV.ao ρ cs):=c.at_ (fg f);simp only [ae] at a;refine ⟨by simpa using a.1,_,t,hb,?_⟩;rw [<-AV.gq];exact XI a.2
   .cases a
  .exact aak c h.2 x hx
theorem ajl{ρ:ax}{T:aA}{G:List Row}{B:Ctx}{w:World}(b:Sat (ab ρ T G++B) w):∀{Pd:List ui},pdF G Pd=true->∀x,x∈Pd->BF ρ x w\/Nat.beq x.2.2.1 1000000000=true
 |[],_,x,hx=>by cases hx
 |y::Pd,h,x,hx=>by
  simp only [pdF,ae,ck] at h;rcases List.mem_cons.1 hx with rfl|hx
  .rcases h.1 with a|a
   .exact .inr a
   .exact .inl (aak b (Pd:=[x]) (by simp only [Lx,ae];exact ⟨a,trivial⟩) x (b0 ..))
  .exact ajl b h.2 x hx
theorem tB{k:Nat}:∀{Pd:List ui} {x:ui},x∈eM ops k Pd↔x∈Pd/\waits .any ops.toArray k x.1=false
 |[],x=>by simp [eM]
 |y::Pd,x=>by
  unfold eM;cases c:waits .any ops.toArray k y.1
  .show x∈y::eM ops k Pd↔_;rw [qv,qv,tB];constructor
   .rintro (rfl|⟨b,a⟩)
    .exact ⟨.inl rfl,c⟩
    .exact ⟨.inr b,a⟩
   .rintro ⟨rfl|b,a⟩
    .exact .inl rfl
    .exact .inr ⟨b,a⟩
  .show x∈eM ops k Pd↔_;rw [qv,tB];constructor
   .rintro ⟨b,a⟩;exact ⟨.inr b,a⟩
   .rintro ⟨rfl|b,a⟩
    .rw [c] at a;cases a
    .exact ⟨b,a⟩
theorem aet{pend:ei}{w:World}(h:∀p,p∈pend->p.2 w):fS pend w:=by
 induction pend with
 |nil=>trivial
 |cons p l ih=>exact ⟨h p (b0 ..),ih λq a=>h q (aW _ a)⟩
theorem amY{P:Program}{ρ:ax}{Ev:Env}{g:Bool}{t:TypeId}{n:Nat}{l:List AV}{v:AV}{p:Addr}{w:World}{dst:v7}{ty:TypeId}{pos:String}{af:w4}{gd:Option (Nat×Bool)}
  (hx:ar Ev g x (.pointer (some p))) (j:szA P t=some n) (hv:jL P t l=some v) (q:n<=l.length) (hc:bK w p ((AV.ao ρ l).take n)):bf P Ev g ⟨dst,.load t x,ty,pos,af,gd⟩ w (v.val ρ):=by
 have s:jL P t (l.drop 0)=some v:=by simpa using hv
 obtain ⟨d,n',bytes,z,c1,u,b⟩:=mD (X:=⟨P,[],[],[],(λ_ h=>nomatch h),0,[],[],(λ_ h=>nomatch h),[]⟩) (ρ:=ρ) s;have c1:P.underlying t=some d:=c1;unfold szA at j;rw [c1] at j;rcases dp j with ⟨hd,i⟩|⟨hd,i⟩
 .split at i
  .rename_i k c;obtain ⟨m,y,k⟩:=k;cases i;unfold jL at hv;rw [c1] at hv;rcases dp hv with ⟨_,f⟩|⟨f,_⟩
   .rw [c] at f;obtain ⟨_,r⟩:=aG f;cases r;simp only [AV.val,AV.ji];exact Ke c1 hd (cD c) hx (λ_=>hc) (by rw [bj,AV.bl];exact cq q)
   .rw [hd] at f;cases f
  .cases i
 .cases i;rw [hd] at b;simp only [mi,qA] at b;refine KW c1 hd hx (λ_=>?_);have e:(AV.ao ρ l).take 1=[v.val ρ]:=by
   cases o:AV.ao ρ l with
   |nil=>rw [o] at b;cases b
   |cons a l=>rw [o] at b;cases b;rfl
  rw [e] at hc;exact hc
theorem ado{l:vf}{off n:Nat}(h:off+n<=l.length):mN l off ((l.drop off).take n)=l:=by
 unfold mN;have b:((l.drop off).take n).length=n:=by rw [bj,ch];omega
 rw [b];have a:(l.drop off).take n++l.drop (off+n)=l.drop off:=by rw [<-j6,qH]
 rw [aO,a,qH]
theorem alM{T:aA}{st:aC}{g:GK}{k:Nat}{ρ:ax}{w:World}{KQ:List Row->ui->aC->Option R}(hs:Sat (ab ρ T st.G++(ab ρ T fr.H++Φ)) w)(h:afK X T fr st g k o KQ=some (some r)):
  ∃(v:Value) (ρ':ax) (st':aC) (av:AV) (z:List Row) (p:ui),KQ z p st'=some r/\aT st.c ρ ρ'/\st.c<=st'.c/\st'.E=cn o.dst g av st.E/\av.val ρ'=v/\au ρ' T st.E fr.F=au ρ T st.E fr.F/\ab ρ' T fr.H=ab ρ T fr.H/\
   Sat (ab ρ' T st'.G++(ab ρ' T (z++fr.H)++Φ)) w/\p.1=k/\BF ρ' p w/\(p.2.1<st'.c/\∀u,u∈p.2.2.2->u<st'.c)/\(∀w',BF ρ' p w'->bf X.P (au ρ T st.E fr.F) (T.get g) o w' v):=by
 obtain ⟨dst,op,ty,pos,af,gd⟩:=o;unfold afK at h;simp only at h;split at h
 .rename_i t x d;split at h
  .rename_i id off hx;split at h
   .rename_i j s N cs hf;simp only [b5] at h;split at h
    .rename_i n hn;split at h
     .rename_i v hv;split at h
      .rename_i us I;obtain ⟨Z,h2⟩:=aG h;simp only [ae,Nat.ble_eq] at Z;obtain ⟨⟨⟨hl,hvl⟩,hle⟩,hmk⟩:=Z;obtain ⟨l1,l2,l3,l4⟩:=aC.cB.1 hl;obtain ⟨f1,f2⟩:=kI hf;have:s=id:=ah f2;subst this;have y:j<st.G.length:=(List.getElem?_eq_some_iff.1 f1).1;have f:=oY l3 f1;simp only [Row.low,ae,dk] at f;have S:∀{l:List AV} {c m q:Nat},AV.bV c l=true->AV.bV c ((l.drop m).take q)=true:=λ{l c m q} h=>by
        have dr:∀(l:List AV) (m:Nat),AV.bV c l=true->AV.bV c (l.drop m)=true:=λl=>by
         induction l with
         |nil=>intro m h;simp [AV.bV]
         |cons a l ih=>
          intro m h;cases m with
          |zero=>exact h
          |succ m=>simp only [AV.bV,ae] at h;exact ih m h.2
        have tk:∀(l:List AV) (m:Nat),AV.bV c l=true->AV.bV c (l.take m)=true:=λl=>by
         induction l with
         |nil=>intro m h;simp [AV.bV]
         |cons a l ih=>
          intro m h;cases m with
          |zero=>rfl
          |succ m=>simp only [AV.bV,ae,qO] at h ⊢; exact ⟨h.1,ih m h.2⟩
        exact tk _ _ (dr _ _ h)
       obtain ⟨ρ',D⟩:=Hk (ρ:=ρ) (S (m:=off) (q:=n) f.2);obtain ⟨i1,i2⟩:=Rw (ρ:=ρ') I;have V:=XQ I D.lw;generalize j8 st.c ((cs.drop off).take n)=L at h2 D I i1 i2 V;obtain ⟨ls,z,c'⟩:=L;have Y:st.c<=c':=D.le;have i:aT st.c ρ ρ':=D.ag;have K:AV.ao ρ' ls=AV.ao ρ ((cs.drop off).take n):=D.eq;have hb:eD w (ρ s).b N (AV.ao ρ cs):=hs.at_ (fg f1);have W:AV.ao ρ' cs=AV.ao ρ cs:=AV.bS i _ f.2;have Q:v.val ρ'=v.val ρ:=AV.jW i _ hvl;have C:us.length=n:=by
        have e1:(AV.ao ρ' ls).length=n:=by rw [K,AV.bl,bj,ch];omega
        rw [i2,<-AV.bl (ρ:=ρ') (l:=ls)];exact e1
       have eG:=bc (T:=T) i l3;have eH:=bc (T:=T) i l4;have e3:(us.map λu=>(ρ' u).x)=((AV.ao ρ cs).drop off).take n:=by rw [<-i1,K,AV.ji,AV.gq]
       refine ⟨v.val ρ,ρ',_,v,z,(k,s,off,us),h2,i,Y,rfl,Q,lO hl i,eH,?_,rfl,⟨by simpa using hmk,AV.ao ρ cs,N,?_,?_⟩,⟨cx f.1 Y,V⟩,λw' hw=>?_⟩
       .show Sat (ab ρ' T (st.G.set j _)++(ab ρ' T (z++fr.H)++Φ)) w;rw [eU y,eG];have e4:(Row.box s N (sH cs off ls)).item ρ' T=(Row.box s N cs).item ρ T:=by simp only [Row.item];rw [i _ f.1,<-wD,W,K,AV.ji,AV.gq,ado (by rw [AV.bl];exact hle)]
        have hi:=fg (ρ:=ρ) (T:=T) (Φ:=ab ρ' T (z++fr.H)++Φ) f1;have e5:(ab ρ T st.G++(ab ρ' T (z++fr.H)++Φ)).set j ((Row.box s N (sH cs off ls)).item ρ' T)=ab ρ T st.G++(ab ρ' T (z++fr.H)++Φ):=by
         rw [e4];apply qm;intro q;by_cases hq:q=j
         .subst hq;rw [qt (List.getElem?_eq_some_iff.1 hi).1,hi]
         .rw [qk (λh=>hq h.symm)]
        rw [e5,bh,eH,aO];have ins:∀(L:List Item) (A B:Ctx),Sat (A++B) w->(∀it∈L,it.own=[]/\∀M w,it.P M w)->Sat (A++(L++B)) w:=λL=>by
         induction L with
         |nil=>intro A B h _;exact h
         |cons x L ih=>
          intro A B h hL;have Z:=ih A B h (λit J=>hL it (aW _ J));have hx:=hL x (b0 ..);refine Z.yR (λj k=>(j<A.length/\k=j)\/(A.length<j/\k+1=j)) (λj jt y=>?_) (λj k q hjk Z h2=>by omega);by_cases e:j<A.length
          .rw [b8 e] at y;exact .inr ⟨j,jt,.inl ⟨e,rfl⟩,by rw [b8 e];exact y,bQ.refl⟩
          .rw [bZ (by omega)] at y;by_cases e2:j=A.length
           .subst e2;simp at y;subst y;exact .inl hx
           .refine .inr ⟨j-1,jt,.inr ⟨by omega,by omega⟩,?_,bQ.refl⟩;rw [bZ (by omega)];have:j-A.length=(j-1-A.length)+1:=by omega
            rw [this,du,b9] at y;exact y
        refine ins (ab ρ' T z) (ab ρ T st.G) (ab ρ T fr.H++Φ) hs (λit J=>?_);obtain ⟨IU,U,rfl⟩:=List.mem_map.1 J;have h9:=D.rp IU U;have h10:IU.item ρ' T=IU.item ρ' []:=by have hgd:IU.gd=none:=D.rg IU U;exact Row.AX (by rw [hgd,aA.get_none,aA.get_none])
        rw [h10];exact ⟨(IU.item ρ' []).hp h9.1,h9.2⟩
       .show eD w (ρ' s).b N _;rw [i _ f.1];exact hb
       .show ((AV.ao ρ cs).drop off).take us.length=us.map λu=>(ρ' u).x;rw [C,e3]
       .obtain ⟨_,csv,t2,b1,b2⟩:=hw;have b1:eD w' (ρ' s).b t2 csv:=b1;have b2:(csv.drop off).take us.length=us.map λu=>(ρ' u).x:=b2;rw [i _ f.1] at b1;rw [C,e3] at b2;have O:=aR (ρ:=ρ) hx;simp only [AV.val] at O;have e6:AV.ao ρ ((cs.drop off).map (rH st.G fr.H))=(AV.ao ρ cs).drop off:=by rw [J8 hs,AV.gq]
        refine amY O hn hv (by rw [List.length_map,ch];omega) ?_;rw [e6];refine b1.part off ?_;have:(((AV.ao ρ cs).drop off).take n).length=n:=by rw [bj,ch,AV.bl];omega
        rw [this];exact b2
      .cases h
     .cases h
    .cases h
   .cases h
  .cases h
 .cases h
theorem Lu{e:OT}{k mk_:Nat}{pend:ei}{EV:List pw}{T T':aA}{g:GK}{fr1:Fr}{st1:aC}{ρ:ax}{w:World}{v:Value}{J:World->Prop}(y:fr1.n=fr.n)(p:ahJ ops fr fr1 st1 ρ o T T' g)(B:ops[k]? =some o)(t:∀x∈EV,nD ops.toArray k x.1=true)(i:J w)
  (r:∀w',J w'->bf X.P (au ρ T' st1.E fr1.F) (T'.get g) o w' v) (c:CQ X.P σ ops.toArray Q fr.n D e EV ((k,J)::pend) (oQ o.dst (T'.get g) v (au ρ T' st1.E fr1.F)) w):
  CQ X.P σ ops.toArray Q fr.n D (.q k mk_ e) EV pend (au ρ T' st1.E fr1.F) w:=by
 have m:ops.toArray[k]? =some o:=by simpa using B
 have f:=p.ds;rw [y] at f;intro a d u C;have j:∀v,∀x∈EV,rC X.P ops.toArray (a.put o.dst v) x:=λv x hx=>(C x hx).put m (t x hx);simp only [gN,m];cases s:g with
 |none=>
  subst s;rw [aA.get_none] at r c;refine ⟨v,J,i,.inl ⟨by simp [Region.wanted,p.gg],λw' h=>r w' h _ a d rfl⟩,?_⟩;exact c _ (d.oQ f) (by rw [gV];exact u) (j _)
 |some gk=>
  obtain ⟨rj,par,b,I,H,A,G⟩:=p.gk gk s;rw [y] at A;subst s;have l:=CE (ops:=ops.toArray) p.gg (by simpa using I) H d A;rw [G] at l;cases z:T'.get (some gk)
  .rw [z] at l c;refine ⟨undef,J,i,.inr ⟨l,rfl⟩,?_⟩;exact c _ (d.oQ (g:=false) (v:=v) f) (by rw [gV];exact u) (j _)
  .rw [z] at l r c;refine ⟨v,J,i,.inl ⟨l,λw' h=>r w' h _ a d rfl⟩,?_⟩;exact c _ (d.oQ f) (by rw [gV];exact u) (j _)
theorem aoj{G H:List Row}{s:Src}{IU:Row}{q c:Nat}(h:s.at_ G H IU)(b:QY q IU=true)(j:bA c G=true)(g:bA c H=true):q<c:=by
 have key:∀{L:List Row},bA c L=true->IU∈L->q<c:=λ{L} d a=>by
  have f:IU.low c=true:=by
   induction L with
   |nil=>cases a
   |cons x L ih=>
    simp only [bA,ae] at d;rcases List.mem_cons.1 a with rfl|a
    .exact d.1
    .exact ih d.2 a
  unfold QY at b;split at b
  .have e:=ah b;subst e;simp only [Row.low,ae,dk] at f;exact f.1.1
  .cases b
 cases s with
 |top i=>exact key j (mj h)
 |cm i=>exact key g (mj h)
 |nilI t=>exact h.elim
 |nilO t e=>exact h.elim
 |nilM k v=>exact h.elim
def HP(ρ:ax)(T:aA)(fr:Fr)(A:List Row)(Pd:List ui)(pend:ei)(w:World):Prop:= ∀p,p∈pend->∀w',(∃Φ',Sat (ab ρ T (A++fr.H)++Φ') w')->(∀x,x∈Pd->x.1=p.1->BF ρ x w'\/(Nat.beq x.2.2.1 1000000000=true/\Ext w w'))->p.2 w'
def eA(EV:List pw):Ctx:=EV.map λx=>box x.2.1 x.2.2.1 x.2.2.2
def Vq(ops:xa)(order:OT)(EV:List pw):Prop:= ∀x∈EV,(∀j∈order.ops,nD ops.toArray j x.1=true)/\∀j∈order.Ui,j=x.1\/nD ops.toArray j x.1=true
theorem Ip{B:Ctx}{w:World}{p:pw->Bool}:∀{EV:List pw} {A:Ctx},Sat (A++(eA EV++B)) w->Sat (A++(eA (EV.filter p)++B)) w
 |[],_,h=>h
 |x::EV,A,h=>by
  rw [qc];split
  .have a:Sat ((A++[box x.2.1 x.2.2.1 x.2.2.2])++(eA EV++B)) w:=by simpa [eA] using h
   have:=Ip (p:=p) a;simpa [eA] using this
  .exact Ip (p:=p) (Sat.Ag (A:=A) (B:=eA EV++B) h)
theorem Pq{B:Ctx}{w:World}:∀{EV:List pw} {A:Ctx},Sat (A++(eA EV++B)) w->Sat (A++B) w
 |[],_,h=>h
 |_::EV,A,h=>Pq (EV:=EV) (Sat.Ag (A:=A) (B:=eA EV++B) h)
theorem Fits.ie{n:Nat}{E:Env}{a:Act}{d:Tmp}{v:Value}(h:Fits n E a)(e:a.tmps.getD d undef=v):Fits n ((d,true,v)::E) a:=by
 refine ⟨h.size,λt g c b=>?_⟩;simp only [look] at b;cases hb:Nat.beq d t
 .rw [hb,kR] at b;exact h.at_ t g c b
 .rw [hb,l5] at b;have:=ah hb;subst this;cases b;exact e
theorem Fits.apB{n:Nat}{E:Env}{a:Act}{d:Tmp}(h:Fits n E a)(hd:look E d=none)(v:Value):Fits n E (a.put (some d) v):=by
 refine ⟨by simp [Act.put,h.size],λt g f b=>?_⟩;have c:d≠t:=λe=>by subst e;rw [hd] at b;cases b
 have:=Act.eval_put (a:=a) (dst:=some d) (v:=v) (x:= .tmp t) (λe i hc=>c (by cases i;cases hc;rfl));exact Eq.trans this (h.at_ t g f b)
theorem anv{X:Cx}{T:aA}{fr:Fr}{st:aC}{p:TypeId×List AV×List AV}(h:G7 X T fr st o=some p):o.guard=none/\∀cs b,o.op≠ .select cs b:=by
 unfold G7 at h;split at h
 next c a=>exact ⟨a,λcs b hc=>by rw [c] at hc;cases hc⟩
 next c a=>exact ⟨a,λcs b hc=>by rw [c] at hc;cases hc⟩
 .cases h
theorem rC.same{P:Program}{ops:wT}{a:Act}{x:pw}{X:Cx}{T:aA}{fr:Fr}{st:aC}{ρ:ax}(k:X.P=P)(h:rC P ops a x)(i:ops[x.1]? =some o)(j:Fits fr.n (au ρ T st.E fr.F) a):
  ∀e vs cs,G7 X T fr st o=some (e,vs,cs)->x.2.2.1=e/\x.2.2.2=AV.ao ρ cs:=λe vs cs l=>by
 subst k;obtain ⟨q,d,b,g,u,t,s,r,p⟩:=h;rw [i] at g;cases g;have f:=acK (ρ:=ρ) l b _ a j;rw [p] at f;have m:b.alloc (.cells x.2.2.2.toArray x.2.2.1)=b.alloc (.cells (AV.ao ρ cs).toArray e):=by injection f
 have c:(some (Obj.cells x.2.2.2.toArray x.2.2.1):Option Obj)=some (.cells (AV.ao ρ cs).toArray e):=by rw [<-heap_alloc_new b (.cells x.2.2.2.toArray x.2.2.1),<-heap_alloc_new b (.cells (AV.ao ρ cs).toArray e),m]
 simp only [b5,Obj.cells.injEq] at c;exact ⟨c.2.1,by simpa using c.1⟩
theorem afl{frx:Fr}{T:aA}{w:World}{a:Act}{N:cw R}:∀{k:xc} {EV:List pw} {st:aC} {ρ:ax},eK T st.E frx.F->Sat (ab ρ T st.G++(ab ρ T frx.H++(eA EV++Φ))) w->Fits frx.n (au ρ T st.E frx.F) a->
  (∀x∈EV,rC X.P ops.toArray a x)->(∀f∈k,f∈EV.map (·.1))->agD X ops frx T k st N=some r->
  ∃st' ρ',N st'=some r/\aT st.c ρ ρ'/\st.c<=st'.c/\eK T st'.E frx.F/\Fits frx.n (au ρ' T st'.E frx.F) a/\ab ρ' T frx.H=ab ρ T frx.H/\
   Sat (ab ρ' T st'.G++(ab ρ' T frx.H++(eA (EV.filter λx=> !(da x.1 k))++Φ))) w
 |[],EV,st,ρ,ht,hs,hf,hC,_,h=>by
  refine ⟨st,ρ,h,.refl,bb _,ht,hf,rfl,?_⟩;have e:(EV.filter λx=> !(da x.1 []))=EV:=by rw [List.filter_eq_self];intro x _;rfl
  rw [e];exact hs
 |f::k,EV,st,ρ,ht,hs,hf,hC,hin,h=>by
  unfold agD at h;split at h
  .rename_i o ho;obtain ⟨m,h2⟩:=aG h;simp only [ae,c9] at m;obtain ⟨x,hx,v⟩:=List.mem_map.1 (hin f (b0 ..));subst v;obtain ⟨i,g,M⟩:=List.append_of_mem hx;have l:ops.toArray[x.1]? =some o:=by simpa using ho
   have D:Sat (((ab ρ T st.G++ab ρ T frx.H)++eA i)++box x.2.1 x.2.2.1 x.2.2.2::(eA g++Φ)) w:=by
    have e:ab ρ T st.G++(ab ρ T frx.H++(eA EV++Φ))=((ab ρ T st.G++ab ρ T frx.H)++eA i)++box x.2.1 x.2.2.1 x.2.2.2::(eA g++Φ):=by rw [M];simp [eA]
    rw [<-e];exact hs
   have C:Sat ([]++box x.2.1 x.2.2.1 x.2.2.2::((ab ρ T st.G++ab ρ T frx.H)++(eA i++(eA g++Φ)))) w:=by have:=D.ak4;simpa using this
   have B:Sat (ab ρ T st.G++(ab ρ T frx.H++(box x.2.1 x.2.2.1 x.2.2.2::(eA i++(eA g++Φ))))) w:=by have:=C.move;simpa using this
   have L:=hC x hx;obtain ⟨o2,d,w0,I,Q,r3,r4,O,r6⟩:=id L;rw [l] at I;cases I;obtain ⟨b,st1,av,k1,k2,K,J,k5,k6,k7,k8⟩:=amO B (rC.same rfl L l hf) h2;have e1:au b T st1.E frx.F=(d,true,DF o x.2.1)::au ρ T st.E frx.F:=by rw [J,sF,k5,k6,Q,aA.get_none];rfl
   have A:Sat (ab b T st1.G++(ab b T frx.H++(eA (EV.filter λy=> !(Nat.beq x.1 y.1))++Φ))) w:=by
    have e2:(EV.filter λy=> !(Nat.beq x.1 y.1))=(i++g).filter λy=> !(Nat.beq x.1 y.1):=by rw [M];simp
    rw [e2];have:Sat ((ab b T st1.G++ab b T frx.H)++(eA (i++g)++Φ)) w:=by
     have e3:eA (i++g)=eA i++eA g:=by simp [eA]
     rw [e3];simpa using k8
    have:=Ip (p:=λy=> !(Nat.beq x.1 y.1)) this;simpa using this
   have z:eK T st1.E frx.F:=by rw [J];exact ht.out m.1 none av
   obtain ⟨s,q,q1,Z,Y,W,V,U,S⟩:=afl z A (by rw [e1];exact hf.ie O) (λy u=>hC y (List.mem_filter.1 u).1) (λf' j=>by obtain ⟨y,u,t⟩:=List.mem_map.1 (hin f' (aW _ j));subst t;refine List.mem_map.2 ⟨y,List.mem_filter.2 ⟨u,?_⟩,rfl⟩;rw [c9,ko];intro hb;have:=ah hb;rw [<-this] at j;rw [db.2 j] at m;cases m.2) k1
   refine ⟨s,q,q1,k2.trans Z K,ca K Y,W,V,U.trans k7,?_⟩;have e4:((EV.filter λy=> !(Nat.beq x.1 y.1)).filter λy=> !(da y.1 k))=EV.filter λy=> !(da y.1 (x.1::k)):=by
    rw [qG];congr 1
    funext y
    simp only [da,Bool.not_or];exact Bool.and_comm ..
   rw [<-e4];exact S
  .cases h
theorem anK(hΓ:∀it∈X.Γ,it∈Φ)(htb:∀e∈tb,e.Ok X.P X.Γ)(htp:∀e∈tp,e.Ok X.P X.Γ):∀{U:OT} {EV:List pw} {A:List Row} {Pd:List ui} {T:aA} {st:aC} {ρ:ax} {w:World} {pend:ei},eK T st.E fr.F->mJ ops fr.n T->FT T fr->Vq ops U EV->agb st.c Pd->Sat (ab ρ T st.G++(ab ρ T (A++fr.H)++(eA EV++Φ))) w->
  HP ρ T fr A Pd pend w->nk X tb tp KP ops fr U A Pd T st K=some r->
  (∀st' ρ' w',aT st.c ρ ρ'->st.c<=st'.c->K st'=some r->Sat (ab ρ' [] st'.G++(ab ρ' [] fr.H++Φ)) w'->At Q .normal fr.n D (au ρ' [] st'.E fr.F) w')->
  (∀v st' ρ' w',aT st.c ρ ρ'->st.c<=st'.c->KP v st'=some r->Sat (ab ρ' [] st'.G++(ab ρ' [] fr.H++Φ)) w'->AL Q (gF (v.val ρ')) D w')->
  CQ X.P σ ops.toArray Q fr.n D U EV pend (au ρ T st.E fr.F) w:=by
 intro U
 -- a loud operation, the rest by induction
 have loud:∀(rest:OT) (k mk:Nat),(∀{EV:List pw} {A:List Row} {Pd:List ui} {T:aA} {st:aC} {ρ:ax} {w:World} {pend:ei},eK T st.E fr.F->mJ ops fr.n T->FT T fr->Vq ops rest EV->agb st.c Pd->Sat (ab ρ T st.G++(ab ρ T (A++fr.H)++(eA EV++Φ))) w->
   HP ρ T fr A Pd pend w->nk X tb tp KP ops fr rest A Pd T st K=some r->
   (∀st' ρ' w',aT st.c ρ ρ'->st.c<=st'.c->K st'=some r->Sat (ab ρ' [] st'.G++(ab ρ' [] fr.H++Φ)) w'->At Q .normal fr.n D (au ρ' [] st'.E fr.F) w')->
   (∀v st' ρ' w',aT st.c ρ ρ'->st.c<=st'.c->KP v st'=some r->Sat (ab ρ' [] st'.G++(ab ρ' [] fr.H++Φ)) w'->AL Q (gF (v.val ρ')) D w')->
   CQ X.P σ ops.toArray Q fr.n D rest EV pend (au ρ T st.E fr.F) w)->
   ∀{EV:List pw} {A:List Row} {Pd:List ui} {T:aA} {st:aC} {ρ:ax} {w:World} {pend:ei},eK T st.E fr.F->mJ ops fr.n T->FT T fr->(∀x∈EV,nD ops.toArray k x.1=true)->Vq ops rest EV->agb st.c Pd->Sat (ab ρ T st.G++(ab ρ T (A++fr.H)++(eA EV++Φ))) w->
   HP ρ T fr A Pd pend w->
   (match ops[k]? with
    |some o=>MI X tb tp KP ops fr A T st o λT st'=>ay (Lx st'.G (eM ops k Pd)) (nk X tb tp KP ops fr rest (bm (λr=> !(cR r)) st.G++A) (eM ops k Pd) T st' K) none
    |none=>none)=some r->
   (∀st' ρ' w',aT st.c ρ ρ'->st.c<=st'.c->K st'=some r->Sat (ab ρ' [] st'.G++(ab ρ' [] fr.H++Φ)) w'->At Q .normal fr.n D (au ρ' [] st'.E fr.F) w')->
   (∀v st' ρ' w',aT st.c ρ ρ'->st.c<=st'.c->KP v st'=some r->Sat (ab ρ' [] st'.G++(ab ρ' [] fr.H++Φ)) w'->AL Q (gF (v.val ρ')) D w')->
   CQ X.P σ ops.toArray Q fr.n D (.l k mk rest) EV pend (au ρ T st.E fr.F) w:=by
  intro rest k mk ih EV A Pd T st ρ w pend h1 h2 hf hfk i C hs hp h L s;have W:∀it∈X.Γ,it∈eA EV++Φ:=λit hit=>cy _ (hΓ it hit);split at h
  .rename_i o ho;have hs1:=om (A:=[]) (p:=cR) hs;refine aj2 (k:=k) (mk:=mk) (o:=o) (by simpa using ho) hfk rfl ?_;have fin:∀T' st' ρ' w',eK T' st'.E (mR fr A st).F->mJ ops (mR fr A st).n T'->FT T' fr->aT (stM st).c ρ ρ'->(stM st).c<=st'.c->(ay (Lx st'.G (eM ops k Pd)) (nk X tb tp KP ops fr rest (bm (λr=> !(cR r)) st.G++A) (eM ops k Pd) T' st' K) none)=some r->ab ρ' T' (mR fr A st).H=ab ρ T (mR fr A st).H->Sat (ab ρ' T' st'.G++(ab ρ' T' (mR fr A st).H++(eA EV++Φ))) w'->
     WL X.P σ ops.toArray (QKE X.P σ ops.toArray Q rest EV (still .any ops.toArray k pend)) fr.n D [] (au ρ' T' st'.E (mR fr A st).F) w':=by
    intro T' st' ρ' w' a1 a2 a3 a4 a5 a6 a7 a8;obtain ⟨a9,a10⟩:=aG a6;have e1:bm (λr=> !(cR r)) st.G++(A++fr.H)=(bm (λr=> !(cR r)) st.G++A)++fr.H:=by rw [aO]
    have hs8:Sat (ab ρ' T' st'.G++(ab ρ' T' ((bm (λr=> !(cR r)) st.G++A)++fr.H)++(eA EV++Φ))) w':=by rw [<-e1];exact a8
    have conv:∀z,(∃y,Sat (ab ρ' T' ((bm (λr=> !(cR r)) st.G++A)++fr.H)++y) z)->∃y,Sat (ab ρ T (A++fr.H)++y) z:=λz hw=>by
     obtain ⟨y,R⟩:=hw;refine ⟨y,?_⟩;rw [<-e1] at R;have V:Sat (ab ρ T (bm (λr=> !(cR r)) st.G++(A++fr.H))++y) z:=by rw [<-a7];exact R
     rw [bh,aO] at V;exact V.wz
    have mem:∀p,p∈still .any ops.toArray k pend->p∈pend/\∀x,x∈Pd->x.1=p.1->x∈eM ops k Pd:=λp S=>by unfold still at S;rw [List.mem_filter] at S;exact ⟨S.1,λx hx he=>tB.2 ⟨hx,by rw [he];simpa using S.2⟩⟩
    have hBF:=aak (B:=ab ρ' T' ((bm (λr=> !(cR r)) st.G++A)++fr.H)++(eA EV++Φ)) hs8 a9;have HP':HP ρ' T' fr (bm (λr=> !(cR r)) st.G++A) (eM ops k Pd) (still .any ops.toArray k pend) w':=λp S z hw hB=>by obtain ⟨m1,m2⟩:=mem p S;exact hp p m1 z (conv z hw) (λx hx he=>(hB x (m2 x hx he) he).elim (λh=> .inl ((AR a4 (C x hx)).1 h)) (λh=>by have:=(hBF x (m2 x hx he)).1;rw [h.1] at this;cases this))
    refine bR (aoS (aet λp S=>HP' p S w' ⟨eA EV++Φ,hs8.wz⟩ (λx hx _=> .inl (hBF x hx))) ?_);exact ih a1 a2 a3 i (λx hx=>⟨cx (C x (tB.1 hx).1).1 a5,λu hu=>cx ((C x (tB.1 hx).1).2 u hu) a5⟩) hs8 HP' a10 (λI N z b1 b2 b3 b4=>L I N z (a4.trans b1 a5) (ca a5 b2) b3 b4) (λv I N z b1 b2 b3 b4=>s v I N z (a4.trans b1 a5) (ca a5 b2) b3 b4)
   unfold MI at h;split at h
   .rename_i q hq;subst h;refine amA (fr:=mR fr A st) (st:=stM st) h1 hs1 W htp hq (λst' ρ' w' a1 a4 a5 a6 a7 a8=>fin T st' ρ' w' a1 h2 hf a4 a5 a6 a7 a8) (λlb v st' ρ' w' a1 a2 a3 ae1 ae2 a4=>?_);cases lb with
    |true=>cases a3
    |false=>
    have a4':Sat (ab ρ' T ({ st' with G:=st'.G++(bm (λr=> !(cR r)) st.G++A) }:aC).G++(ab ρ' T fr.H++(eA EV++Φ))) w':=by
     have e2:(mR fr A st).H=(bm (λr=> !(cR r)) st.G++A)++fr.H:=by rw [aO]
     rw [e2,bh,aO] at a4;show Sat (ab ρ' T (st'.G++(bm (λr=> !(cR r)) st.G++A))++_) w';rw [bh,aO];exact a4
    obtain ⟨I,k1,Z,_,M⟩:=afn (fr:=fr) (KP:=λ_=>KP) (b:=false) hf a3 a4';rw [<-aO] at M;replace M:=Pq M;rw [aO] at M;have k2':I.c=st'.c:=Z;have:=s v I ρ' w' a1 (by rw [k2'];exact a2) k1 M;exact ZX this
   .exact aa3 (fr:=mR fr A st) (st:=stM st) (fr0:=fr) (K:=λT st'=>ay (Lx st'.G (eM ops k Pd)) (nk X tb tp KP ops fr rest (bm (λr=> !(cR r)) st.G++A) (eM ops k Pd) T st' K) none) h1 h2 rfl (λr hr=>cy _ (cy _ hr)) hf hs1 W htb h fin
  .cases h
 induction U with
 |nil=>
  intro EV A Pd T st ρ w pend h1 h2 hf i C hs hp h L s;have W:∀it∈X.Γ,it∈eA EV++Φ:=λit hit=>cy _ (hΓ it hit);unfold nk at h;obtain ⟨h3,h4⟩:=aG h;have hs':Sat (ab ρ T ({ st with G:=st.G++A }:aC).G++(ab ρ T fr.H++(eA EV++Φ))) w:=by show Sat (ab ρ T (st.G++A)++_) w;rw [bh,aO];rw [bh,aO] at hs;exact hs
  obtain ⟨k1,Z,M⟩:=Hn h3 hf hs';rw [<-aO] at M;replace M:=Pq M;rw [aO] at M;exact anB ((L _ ρ w .refl (by rw [k1];exact bb _) h4 M).lq _ Z)
 |q k m rest ih=>
  intro EV A Pd T st ρ w pend h1 h2 hf i C hs hp h L s;have hevr:Vq ops rest EV:=λx hx=>⟨λj hj=>(i x hx).1 j (aW _ hj),(i x hx).2⟩;have W:∀it∈X.Γ,it∈eA EV++Φ:=λit hit=>cy _ (hΓ it hit);unfold nk at h;split at h
  .rename_i o ho;have hs1:=om (A:=[]) (p:=cR) hs;obtain ⟨T',g,hk,so⟩:=abS (ρ:=ρ) (fr0:=fr) (fr:=mR fr A st) (st:=stM st) h1 h2 rfl (λr hr=>cy _ (cy _ hr)) hf h;have hs':Sat (ab ρ T' (stM st).G++(ab ρ T' (mR fr A st).H++(eA EV++Φ))) w:=by rw [so.eg,so.eh];exact hs1
   have he:au ρ T st.E fr.F=au ρ T' st.E fr.F:=by have e1:=so.ee;have e2:=so.ef;rw [au,au,e1,e2]
   rw [he];have e1:bm (λr=> !(cR r)) st.G++(A++fr.H)=(bm (λr=> !(cR r)) st.G++A)++fr.H:=by rw [aO]
   -- from what stands then to what stands now
   have conv0:∀z y,Sat (ab ρ T' (bm (λr=> !(cR r)) st.G++(A++fr.H))++y) z->∃y,Sat (ab ρ T (A++fr.H)++y) z:=λz y R=>by
    refine ⟨y,?_⟩;have V:Sat (ab ρ T (bm (λr=> !(cR r)) st.G++(A++fr.H))++y) z:=by rw [<-so.eh];exact R
    rw [bh,aO] at V;exact V.wz
   split at hk
   .rename_i q hq;subst hk;obtain ⟨v,ρ',st',av,Rq,p,k1,Z,M,k4,k5,k6,k7,k8,k9,k10,k11,k12⟩:=alM (fr:=mR fr A st) (st:=stM st) hs' hq;have e2:Rq++(bm (λr=> !(cR r)) st.G++(A++fr.H))=(Rq++(bm (λr=> !(cR r)) st.G++A))++fr.H:=by simp
    refine Lu (fr1:=mR fr A st) (st1:=stM st) (J:=BF ρ' p) rfl so ho (λx hx=>(i x hx).1 k (b0 ..)) k10 k12 ?_;have:=ih (A:=Rq++(bm (λr=> !(cR r)) st.G++A)) (Pd:=p::Pd) (T:=T') (st:=st') (ρ:=ρ') (w:=w) (pend:=(k,BF ρ' p)::pend) (by rw [k4];exact so.t1.out so.ak g av) so.t2 so.ft hevr (λx hx=>?_) (by rw [<-e2];exact k8) (λq Y z hw hB=>?_) k1 (λI N z b1 b2 b3 b4=>L I N z (Z.trans b1 M) (ca M b2) b3 b4) (λv I N z b1 b2 b3 b4=>s v I N z (Z.trans b1 M) (ca M b2) b3 b4)
    .rw [k4,sF,k5,k6] at this;exact this
    .rcases List.mem_cons.1 hx with rfl|hx
     .exact k11
     .exact ⟨cx (C x hx).1 M,λu hu=>cx ((C x hx).2 u hu) M⟩
    .rcases List.mem_cons.1 Y with rfl|Y
     .exact (hB p (b0 ..) k9).elim id (λh=>by have:=k10.1;rw [h.1] at this;cases this)
     .obtain ⟨y,R⟩:=hw;rw [<-e2,bh,aO] at R;have hΦ1:=R.wz;have V:Sat (ab ρ T' (bm (λr=> !(cR r)) st.G++(A++fr.H))++y) z:=by rw [<-k7];exact hΦ1
      exact hp q Y z (conv0 z y V) (λx hx he=>(hB x (aW _ hx) he).imp (AR Z (C x hx)).1 id)
   .split at hk
    .rename_i p hpo;obtain ⟨lw,hk⟩:=aG hk;obtain ⟨dst,op,ty,pos,af,gd⟩:=o;unfold amk at hpo;split at hpo
     .rename_i t x d hop hdst;simp only at hop hdst;subst hop hdst;split at hpo
      .rename_i q off hx;split at hpo
       .cases hpo
       split at hpo
       .rename_i sr hkn;cases hpo;obtain ⟨v,hr,hO⟩:=XH (ty:=ty) (pos:=pos) (af:=af) (gd:=gd) lw hs' hx hk;obtain ⟨ρ',st',av,k1,Z,M,k4,k5,k6,k7,k8⟩:=hO;have hq:q<st.c:=by obtain ⟨_,_,l3,l4⟩:=aC.cB.1 lw;obtain ⟨f1,f2⟩:=bU hkn;exact aoj f1 f2 l3 l4
        refine Lu (fr1:=mR fr A st) (st1:=stM st) (J:=λw'=>Ext w w') (v:=v) rfl so ho (λx hx=>(i x hx).1 k (b0 ..)) (Ext.refl w) (λw' hw'=>hr w' hw') ?_;have:=ih (A:=bm (λr=> !(cR r)) st.G++A) (Pd:=(k,q,1000000000,[])::Pd) (T:=T') (st:=st') (ρ:=ρ') (w:=w) (pend:=(k,λw'=>Ext w w')::pend) (by rw [k4];exact so.t1.out so.ak g av) so.t2 so.ft hevr (λx hx=>?_) (by rw [<-e1];exact k8) (λq' Y z hw hB=>?_) k1 (λI N z b1 b2 b3 b4=>L I N z (Z.trans b1 M) (ca M b2) b3 b4) (λv I N z b1 b2 b3 b4=>s v I N z (Z.trans b1 M) (ca M b2) b3 b4)
        .rw [k4,sF,k5,k6] at this;exact this
        .rcases List.mem_cons.1 hx with rfl|hx
         .exact ⟨cx hq M,λu hu=>by cases hu⟩
         .exact ⟨cx (C x hx).1 M,λu hu=>cx ((C x hx).2 u hu) M⟩
        .obtain ⟨y,R⟩:=hw;rw [<-e1] at R;have hΦ1:Sat (ab ρ T' (bm (λr=> !(cR r)) st.G++(A++fr.H))++y) z:=by rw [<-k7];exact R
         rcases List.mem_cons.1 Y with rfl|Y
         .exact (hB (k,q,1000000000,[]) (b0 ..) rfl).elim (λh=>by have:=h.1;simp at this) (λh=>h.2)
         .exact hp q' Y z (conv0 z y hΦ1) (λx hx he=>(hB x (aW _ hx) he).imp (AR Z (C x hx)).1 id)
       .cases hpo
      .cases hpo
     .cases hpo
    .obtain ⟨v,J,hJ,hr,hO⟩:=ai9 (fr:=mR fr A st) (st:=stM st) W so.t1 hs' hk;obtain ⟨ρ',st',av,k1,Z,M,k4,k5,k6,k7,k8⟩:=hO;refine Lu (fr1:=mR fr A st) (st1:=stM st) rfl so ho (λx hx=>(i x hx).1 k (b0 ..)) (hJ w ⟨eA EV++Φ,hs'.wz⟩) hr ?_;have:=ih (A:=bm (λr=> !(cR r)) st.G++A) (Pd:=Pd) (T:=T') (st:=st') (ρ:=ρ') (w:=w) (pend:=(k,J)::pend) (by rw [k4];exact so.t1.out so.ak g av) so.t2 so.ft hevr (λx hx=>⟨cx (C x hx).1 M,λu hu=>cx ((C x hx).2 u hu) M⟩) (by rw [<-e1];exact k8) (λq Y z hw hB=>?_) k1 (λI N z b1 b2 b3 b4=>L I N z (Z.trans b1 M) (ca M b2) b3 b4) (λv I N z b1 b2 b3 b4=>s v I N z (Z.trans b1 M) (ca M b2) b3 b4)
     .rw [k4,sF,k5,k6] at this;exact this
     .obtain ⟨y,R⟩:=hw;rw [<-e1] at R;have hΦ1:Sat (ab ρ T' (bm (λr=> !(cR r)) st.G++(A++fr.H))++y) z:=by rw [<-k7];exact R
      rcases List.mem_cons.1 Y with rfl|Y
      .exact hJ z ⟨y,hΦ1⟩
      .exact hp q Y z (conv0 z y hΦ1) (λx hx he=>(hB x hx he).imp (AR Z (C x hx)).1 id)
  .cases h
 |l k m rest ih=>
  intro EV A Pd T st ρ w pend h1 h2 hf i C hs hp h L s;have W:∀it∈X.Γ,it∈eA EV++Φ:=λit hit=>cy _ (hΓ it hit);unfold nk at h;exact loud rest k m (λ{EV A Pd T st ρ w pend}=>ih) h1 h2 hf (λx hx=>(i x hx).1 k (b0 ..)) (λx hx=>⟨λj hj=>(i x hx).1 j (aW _ hj),(i x hx).2⟩) C hs hp h L s
 |l2 m k1 r1 Z r2 ih1 ih2=>
  intro EV A Pd T st ρ w pend h1 h2 hf i C hs hp h L s;have W:∀it∈X.Γ,it∈eA EV++Φ:=λit hit=>cy _ (hΓ it hit);unfold nk at h;obtain ⟨h3,h4⟩:=Xz h;exact ao8 (loud r1 k1 m (λ{EV A Pd T st ρ w pend}=>ih1) h1 h2 hf (λx hx=>(i x hx).1 k1 (b0 ..)) (λx hx=>⟨λj hj=>(i x hx).1 j (aW _ (aW _ (qy _ hj))),λj hj=>(i x hx).2 j (qy _ hj)⟩) C hs hp h3 L s)
   (loud r2 Z m (λ{EV A Pd T st ρ w pend}=>ih2) h1 h2 hf (λx hx=>(i x hx).1 Z (aW _ (b0 ..))) (λx hx=>⟨λj hj=>(i x hx).1 j (aW _ (aW _ (cy _ hj))),λj hj=>(i x hx).2 j (cy _ hj)⟩) C hs hp h4 L s)
 |f k m fl fs rest ih=>
  intro EV A Pd T st ρ w₀ pend h1 h2 hf i C hs hp h L s;unfold nk at h;obtain ⟨hc,h⟩:=aG h;simp only [ae,qB] at hc;obtain ⟨hfl,hpd0⟩:=hc;have hrun:∀f∈fl,∃o p d,ops[f]? =some o/\G7 X T (frA fr A) st o=some p/\o.dst=some d/\ij o=true/\Nat.blt d fr.n=true/\dz st.E fr.F d=none/\(∀t∈o.looksAt ops.toArray,t≠d)/\
    (∀j∈k::rest.ops,nD ops.toArray j f=true)/\∀j∈fl++rest.Ui,j=f\/nD ops.toArray j f=true:=λf hf=>by
   have:=hfl f hf;unfold aoQ at this;simp only [ae,qB,ck] at this;obtain ⟨⟨g1,g2⟩,g3⟩:=this;split at g1
   .rename_i o ho;split at g1
    .rename_i p d hp hd;simp only [ae,qB] at g1;obtain ⟨⟨⟨g4,g5⟩,g6⟩,g7⟩:=g1;refine ⟨o,p,d,ho,hp,hd,g4,g5,?_,λt ht hc=>?_,g2,λj hj=>(g3 j hj).imp ah id⟩
     .split at g6
      .cases g6
      .assumption
     .have:=g7 t ht;rw [hc] at this;simp at this
    .cases g1
   .cases g1
  have nxp:∀(EV:List pw) (a:Act) (w:World),Ext w₀ w->Vq ops (.f k m fl fs rest) EV->Sat (ab ρ T st.G++(ab ρ T (A++fr.H)++(eA EV++Φ))) w->Fits fr.n (au ρ T st.E fr.F) a->a.defers=D->(∀x∈EV,rC X.P ops.toArray a x)->
    (∀f∈fs,f∈EV.map (·.1))->wpOpIn (FW σ) 0 X.P ops.toArray (QN Q) k (λa' w'=>fS (still .any ops.toArray k pend) w'/\gN X.P σ ops.toArray (QN Q) rest ((EV.map (·.1)).filter λf=> !(da f fs)) (still .any ops.toArray k pend) a' w') a w:=by
   intro EV a w hx0 i hs O hD hC hall;obtain ⟨st1,ρ1,k1,Z,M,k4,k5,k6,k7⟩:=afl (frx:=frA fr A) h1 hs O hC hall h;have hev':∀x∈EV.filter (λx=> !(da x.1 fs)),(∀j∈k::rest.ops,nD ops.toArray j x.1=true)/\∀j∈rest.Ui,j=x.1\/nD ops.toArray j x.1=true:=λx hx=>
    ⟨(i x (List.mem_filter.1 hx).1).1,λj hj=>(i x (List.mem_filter.1 hx).1).2 j (cy _ hj)⟩
   have HP':HP ρ1 T fr A Pd pend w:=λp S z hw hB=>by have k6:ab ρ1 T (A++fr.H)=ab ρ T (A++fr.H):=k6;rw [k6] at hw;exact hp p S z hw (λx hx he=>(hB x hx he).imp (AR Z (C x hx)).1 (λh=>⟨h.1,hx0.trans h.2⟩))
   have hl:=loud rest k 0 (λ{EV A Pd T st ρ w pend}=>ih) (EV:=EV.filter λx=> !(da x.1 fs)) (pend:=pend) k4 h2 hf (λx hx=>(hev' x hx).1 k (b0 ..)) (λx hx=>⟨λj hj=>(hev' x hx).1 j (aW _ hj),(hev' x hx).2⟩)
    (λx hx=>⟨cx (C x hx).1 M,λu hu=>cx ((C x hx).2 u hu) M⟩) k7 HP' k1 (λI N z b1 b2 b3 b4=>L I N z (Z.trans b1 M) (ca M b2) b3 b4) (λv I N z b1 b2 b3 b4=>s v I N z (Z.trans b1 M) (ca M b2) b3 b4)
   have:=hl a k5 hD (λx hx=>hC x (List.mem_filter.1 hx).1);simp only [gN] at this;have e:(EV.map (·.1)).filter (λf=> !(da f fs))=(EV.filter λx=> !(da x.1 fs)).map (·.1):=by rw [List.filter_map];rfl
   rw [e];split at this
   .exact this.elim
   .exact this
  have main:∀(nf:Nat) (EV:List pw) (a:Act) (w:World),Ext w₀ w->Vq ops (.f k m fl fs rest) EV->Sat (ab ρ T st.G++(ab ρ T (A++fr.H)++(eA EV++Φ))) w->Fits fr.n (au ρ T st.E fr.F) a->a.defers=D->(∀x∈EV,rC X.P ops.toArray a x)->
    wpE X.P σ ops.toArray (QN Q) fl pend (λea a w=>(∀f∈fs,f∈ea)->wpOpIn (FW σ) 0 X.P ops.toArray (QN Q) k (λa' w'=>fS (still .any ops.toArray k pend) w'/\gN X.P σ ops.toArray (QN Q) rest (ea.filter λf=> !(da f fs)) (still .any ops.toArray k pend) a' w') a w) nf (EV.map (·.1)) a w:=by
   intro nf
   induction nf with
   |zero=>exact λEV a w hx0 i hs O hD hC=>nxp EV a w hx0 i hs O hD hC
   |succ nf ihf=>
    intro EV a w hx0 i hs O hD hC;refine ⟨nxp EV a w hx0 i hs O hD hC,λf hf' hm=>?_⟩;obtain ⟨o,p,d,r1,r2,r3,r4,r5,r6,r7,r8,r9⟩:=hrun f hf';obtain ⟨e,vs,cs⟩:=p;obtain ⟨gn,ns⟩:=anv r2;have ho':ops.toArray[f]? =some o:=by simpa using r1
    have hR:=acK (ρ:=ρ) r2 w _ a O;have hw:Region.wanted o (yielded ops.toArray a.tmps)=true:=by simp [Region.wanted,gn]
    have hdn:look (au ρ T st.E fr.F) d=none:=by rw [fI,r6];rfl
    have hne:∀x∈EV,f≠x.1:=λx hx hc=>by have:da f (EV.map (·.1))=true:=db.2 (List.mem_map.2 ⟨x,hx,hc.symm⟩);rw [hm] at this;cases this
    have hs1:Sat (box w.heap.size e (AV.ao ρ cs)::(ab ρ T st.G++(ab ρ T (A++fr.H)++(eA EV++Φ)))) (w.alloc (.cells (AV.ao ρ cs).toArray e)):=hs.push (dY _ _) (λb hb=>by
     have:b=w.heap.size:=by simpa [box] using hb
     subst this;simp) (λ_ _=>heap_alloc_new w _)
    have hs2:Sat (ab ρ T st.G++(ab ρ T (A++fr.H)++(eA ((f,w.heap.size,e,AV.ao ρ cs)::EV)++Φ))) (w.alloc (.cells (AV.ao ρ cs).toArray e)):=by
     have h0:Sat ([]++box w.heap.size e (AV.ao ρ cs)::((ab ρ T st.G++ab ρ T (A++fr.H))++(eA EV++Φ))) (w.alloc (.cells (AV.ao ρ cs).toArray e)):=by rw [aO];exact hs1
     have:=h0.move;rw [oi,aO] at this;exact this
    have hfit':=O.apB hdn (DF o w.heap.size);have hflo:∀x∈(f,w.heap.size,e,AV.ao ρ cs)::EV,rC X.P ops.toArray (a.put o.dst (DF o w.heap.size)) x:=λx hx=>by
     rcases List.mem_cons.1 hx with rfl|hx
     .refine ⟨o,d,w,ho',r3,ns,rfl,?_,?_⟩
      .rw [r3];have hlt:d<a.tmps.size:=by rw [O.size];simpa using r5
       show (a.tmps.setIfInBounds d _).getD d undef=_;simp [Array.getD,hlt]
      .rw [execOp_put (ops:=ops.toArray) o ns a o.dst _ (λt ht hc=>r7 t hc (by rw [r3] at ht;exact (n9 ht).symm))];exact hR
     .refine (hC x hx).put ho' ?_;rcases (i x hx).2 f (qy _ hf') with h9|h9
      .exact absurd h9 (hne x hx)
      .exact h9
    unfold wpOpIn;simp only [ho',hw,qp];refine jT r4 ?_;rw [hR,Oper.uponIn_value];refine ⟨aet λp S=>hp p S _ ⟨eA ((f,w.heap.size,e,AV.ao ρ cs)::EV)++Φ,hs2.wz⟩ (λx hx _=>(ajl hs2 hpd0 x hx).imp id (λh=>⟨h,hx0.trans (dY _ _)⟩)),?_⟩;have:=ihf ((f,w.heap.size,e,AV.ao ρ cs)::EV) (a.put o.dst (DF o w.heap.size)) _ (hx0.trans (dY _ _)) (λx hx=>?_) hs2 (by rw [r3];exact hfit') (by rw [gV];exact hD) hflo
    .exact this
    .rcases List.mem_cons.1 hx with rfl|hx
     .exact ⟨r8,r9⟩
     .exact i x hx
  intro a O hD hC;simp only [gN];exact main fl.length EV a w₀ (Ext.refl _) i hs O hD hC
end
def cH:Code->Nat
 | .region _ ops _=>ops.toList.foldl (λm o=>match o.dst with|some d=>Nat.lor m (Nat.shiftLeft 1 d)|none=>m) 0
 | .seq a b=>Nat.lor (cH a) (cH b)
 | .cond _ a b=>Nat.lor (cH a) (cH b)
 | .block _ c=>cH c
 | .loop c=>cH c
 | .scope c=>cH c
 | .rangeFunc _ ps a b=>Nat.lor (ps.toList.foldl (λm d=>Nat.lor m (Nat.shiftLeft 1 d)) 0) (Nat.lor (cH a) (cH b))
 |_=>0
def Pc(t:Nat):List (Bool×Nat×Pt)->Bool
 |[]=>false
 |x::l=>(!x.1&&Nat.beq x.2.1 t)||Pc t l
def tV(m:Nat)(vs:List (Bool×Nat×Pt))(t:Nat):Bool:= !(Nat.testBit m t)&& !(Pc t vs)
def kU(m:Nat)(vs:List (Bool×Nat×Pt)):aE->aE
 |[]=>[]
 |x::E=>ay ( tV m vs x.1 ) ( x::kU m vs E ) ( kU m vs E )
def lP(m:Nat)(vs:List (Bool×Nat×Pt)):aE->aE
 |[]=>[]
 |x::E=>ay ( tV m vs x.1 ) ( lP m vs E ) ( x::lP m vs E )
theorem Xp{m:Nat}{vs:List (Bool×Nat×Pt)}{t:Nat}:{E:aE}->bu E t=ay (tV m vs t) (bu (kU m vs E) t) (bu (lP m vs E) t)/\bu (ay (tV m vs t) (lP m vs E) (kU m vs E)) t=none
 |[]=>by cases tV m vs t <;> exact ⟨rfl,rfl⟩
 |(t',g,v)::E=>by
  obtain ⟨b,a⟩:=Xp (m:=m) (vs:=vs) (t:=t) (E:=E);cases hb:Nat.beq t' t
  .rw [ew hb];unfold kU lP;cases c:tV m vs t' <;> cases d:tV m vs t <;> rw [d] at b a <;> first
    |exact ⟨by rw [ew hb];exact b,a⟩
    |exact ⟨b,by rw [ew hb];exact a⟩
    |exact ⟨b,a⟩
  .have e:=ah hb;subst e;rw [gr hb];unfold kU lP;cases c:tV m vs t' <;> rw [c] at a
   .exact ⟨(gr hb).symm,a⟩
   .exact ⟨(gr hb).symm,a⟩
theorem agj{m:Nat}{vs:List (Bool×Nat×Pt)}{t:Nat}{E F:aE}:dz (lP m vs E) (kU m vs E++F) t=dz E F t:=by
 have app:∀A B:aE,bu (A++B) t=match bu A t with|some x=>some x|none=>bu B t:=λA B=>by
  induction A with
  |nil=>rfl
  |cons x A ih=>
   obtain ⟨t',g,v⟩:=x;cases hb:Nat.beq t' t
   .rw [du,ew hb,ew hb];exact ih
   .rw [du,gr hb,gr hb]
 obtain ⟨b,a⟩:=Xp (m:=m) (vs:=vs) (t:=t) (E:=E);unfold dz;rw [app];cases c:tV m vs t <;> rw [c] at b a
 .rw [show bu (kU m vs E) t=none from a,b]
 .rw [show bu (lP m vs E) t=none from a,b];rfl
theorem aiM{ρ:ax}{E E' F a:aE}(h:∀t,dz E' a t=dz E F t):iE (au ρ [] E' a) (au ρ [] E F):=λt p hp=>by rw [fI] at hp ⊢;rw [<-h];exact hp
mutual
def AV.ids:AV->xc
 | .ptr id _|.sl id|.adr id _|.mp id|.nv id|.sfp id _|.bs id _=>[id]
 | .agg l|.tuple l=>AV.acr l
 | .fn _ a b=>AV.acr a++AV.acr b
 | .ifc _ v=>v.ids
 |_=>[]
def AV.acr:List AV->xc
 |[]=>[]
 |v::l=>v.ids++AV.acr l
end
def akL(res:AV->AV)(ids:xc):List Row->xc
 |[]=>[]
 |r::G=>(match r with
  | .box j _ vs=>ay (rG j ids) (AV.acr (vs.map res)) []
  |_=>[])++akL res ids G
def reach(st:aC)(fr:Fr)(ts:xc):xc:=
 let a:=(ts.map λt=>match dz st.E fr.F t with
  |some (_,v)=>v.ids
  |none=>[]).flatten
 let b:=a++akL (rH st.G fr.H) a st.G
 b++akL (rH st.G fr.H) b st.G
def fk(ids:xc)(r:Row):Bool:=rG r.id ids
def ki(ids:xc)(c:Nat):List Row->List Row×List Row×Nat
 |[]=>([],[],c)
 |r::G=>match r with
  | .box j t vs=>ay ( rG j ids ) ( match j8 c vs with
   |(cs,R,c)=>match ki ids c G with
    |(G,R',c)=>(.box j t cs::G,R++R',c) )<|match ki ids c G with
   |(G,R',c)=>(.box j t vs::G,R',c)
  |r=>match ki ids c G with
   |(G,R',c)=>(r::G,R',c)
def fz:List Row->List (List AV)
 |[]=>[]
 |r::G=>(match r with
  | .box _ _ cs=>cs::fz G
  |_=>fz G)
structure amr(c:Nat)(G:List Row)(ρ ρ':ax)(x:List Row×List Row×Nat):Prop where
 ag:aT c ρ ρ'
 le:c<=x.2.2
 eq:ab ρ' [] x.1=ab ρ [] G
 lw:bA x.2.2 x.1=true
 rl:bA x.2.2 x.2.1=true
 rp:∀r∈x.2.1,(r.item ρ' []).cE=true/\∀M w,(r.item ρ' []).P M w
 bx:(fz x.1).map (AV.ao ρ')=(fz G).map (AV.ao ρ)
theorem L4{ρ ρ':ax}{c:Nat}(ha:aT c ρ ρ'):{G:List Row}->bA c G=true->(fz G).map (AV.ao ρ')=(fz G).map (AV.ao ρ)
 |[],_=>rfl
 |r::G,h=>by
  simp only [bA,ae] at h;have ih:=L4 ha h.2;cases r with
  |box j t cs=>
   have a:=h.1;simp only [Row.low,ae] at a;show AV.ao ρ' cs::(fz G).map (AV.ao ρ')=AV.ao ρ cs::(fz G).map (AV.ao ρ);rw [ih,AV.bS ha _ a.2]
  |_=>exact ih
theorem GN{ids:xc}:{G:List Row}->{c:Nat}->{ρ:ax}->bA c G=true->∃ρ',amr c G ρ ρ' (ki ids c G)
 |[],c,ρ,h=>⟨ρ,.refl,bb _,rfl,rfl,rfl,(λ_ h=>by cases h),rfl⟩
 |r::G,c,ρ,h=>by
  simp only [bA,ae] at h;have f:(∀t cs j,r= .box j t cs->rG j ids=false)->ki ids c (r::G)=(match ki ids c G with|(G,s,c)=>(r::G,s,c))->∃ρ',amr c (r::G) ρ ρ' (ki ids c (r::G)):=λ_ e=>by
   obtain ⟨ρ',l⟩:=GN (ids:=ids) (c:=c) (ρ:=ρ) h.2;rw [e];generalize ki ids c G=L at l;obtain ⟨q,R,A⟩:=L;refine ⟨ρ',l.ag,l.le,?_,?_,l.rl,l.rp,?_⟩
   .have:=l.eq;simp only [ab,cp] at this ⊢;rw [this,Row.yJ l.ag h.1]
   .simp only [bA,ae];exact ⟨Row.fi l.le h.1,l.lw⟩
   .have hb:(fz q).map (AV.ao ρ')=(fz G).map (AV.ao ρ):=l.bx;cases r with
    |box j t cs=>
     have w:=h.1;simp only [Row.low,ae] at w;show AV.ao ρ' cs::(fz q).map (AV.ao ρ')=AV.ao ρ cs::(fz G).map (AV.ao ρ);rw [hb,AV.bS l.ag _ w.2]
    |_=>exact hb
  cases r with
  |box j t vs=>
   cases v:rG j ids
   .exact f (λt cs j h=>by cases h;exact v) (by simp only [ki,v])
   .have b:=h.1;simp only [Row.low,ae,dk] at b;obtain ⟨k,a⟩:=Hk (ρ:=ρ) b.2;have e:ki ids c (.box j t vs::G)=(match j8 c vs with
     |(cs,R,c)=>match ki ids c G with
      |(G,s,c)=>(.box j t cs::G,R++s,c)):=by simp only [ki,v]
    rw [e];generalize j8 c vs=L at a;obtain ⟨cs,R,c1⟩:=L;obtain ⟨d,g⟩:=GN (ids:=ids) (c:=c1) (ρ:=k) (wN a.le h.2);dsimp only;generalize ki ids c1 G=L at g;obtain ⟨q,s,z⟩:=L;have o:c<=c1:=a.le;have i:c1<=z:=g.le;have p:aT c ρ d:=a.ag.trans g.ag a.le;refine ⟨d,p,ca o i,?_,?_,p7 (wN i a.rl) g.rl,?_,?_⟩
    .have y:=g.eq;simp only [ab,cp,Row.item] at y ⊢;have m:AV.bV c1 cs=true:=a.lw;have n:AV.ao k cs=AV.ao ρ vs:=a.eq;rw [y,p _ b.1,AV.bS g.ag _ m,n];have:=bc (T:=[]) a.ag h.2;simp only [ab] at this;rw [this]
    .simp only [bA,Row.low,ae,dk];exact ⟨⟨by omega,AV.jg i _ a.lw⟩,g.lw⟩
    .intro r b;rcases List.mem_append.1 b with b|b
     .have u:r.low c1=true:=by
       have key:∀{R:List Row},bA c1 R=true->∀r∈R,r.low c1=true:=λ{R}=>by
        induction R with
        |nil=>intro _ r h;cases h
        |cons x R ih=>
         intro h r b;simp only [bA,ae] at h;rcases List.mem_cons.1 b with rfl|b
         .exact h.1
         .exact ih h.2 r b
       exact key a.rl r b
      rw [Row.yJ g.ag u];exact a.rp r b
     .exact g.rp r b
    .have hb:(fz q).map (AV.ao d)=(fz G).map (AV.ao k):=g.bx;show AV.ao d cs::(fz q).map (AV.ao d)=AV.ao ρ vs::(fz G).map (AV.ao ρ);have m:AV.bV c1 cs=true:=a.lw;have n:AV.ao k cs=AV.ao ρ vs:=a.eq;rw [hb,AV.bS g.ag _ m,n,L4 a.ag h.2]
  |_=>exact f (λt cs j h=>by cases h) rfl
variable {G : List Row}
def wX(E F:aE)(t:Nat):Option AV:=match dz E F t with
 |some (none,v)=>some v
 |_=>none
theorem Ey{ρ:ax}{E F:aE}{t:Nat}{v:AV}(h:wX E F t=some v):look (au ρ [] E F) t=some (true,v.val ρ):=by
 unfold wX at h;split at h
 next a hv=>cases h;rw [fI,hv];simp
 .cases h
def SR(st:aC)(fr:Fr):List (Bool×Nat×Pt)->xc
 |[]=>[]
 |x::l=>(ay x.1 (match dz st.E fr.F x.2.1 with
  |some (_,v)=>v.ids
  |none=>[]) [])++SR st fr l
mutual
def agW(G H:List Row):Pt->AV->xc
 | .own _ _ _,v=>v.ids
 | .mp _ _ _,v=>v.ids
 | .it,v=>v.ids
 | .bx _ _ _ vs,v=>(match v with
  | .ptr j _=>j::Mj G H vs (cellsOf G H j)
  |_=>[])
 | .agg l,v=>(match v with
  | .agg vs=>Mj G H l vs
  |_=>[])
 | .cC l,v=>(match v with
  | .tuple vs=>Mj G H l vs
  |_=>[])
 | .fn _ a b,v=>(match v with
  | .fn _ a' b'=>Mj G H a a'++Mj G H b b'
  |_=>[])
 | .sty p,v=>agW G H p v
 | .ifc _ p,v=>(match v with
  | .ifc _ u=>agW G H p u
  |_=>[])
 | .dat _ o,v=>ay (o.all (λx=>x.isNone)) [] v.ids
 |_,_=>[]
def Mj(G H:List Row):List Pt->List AV->xc
 |[],_=>[]
 |p::l,vs=>(match vs with
  |v::vs=>agW G H p (rH G H v)++Mj G H l vs
  |[]=>[])
end
def aj4(st:aC)(fr:Fr):List (Bool×Nat×Pt)->xc
 |[]=>[]
 |x::l=>(match dz st.E fr.F x.2.1 with
  |some (_,v)=>agW st.G fr.H x.2.2 (rH st.G fr.H v)
  |none=>[])++aj4 st fr l
structure En where
 fr:Fr
 E:aE
 G:List Row
 Et:aE
 Gt:List Row
 c:Nat
 fix:Nat->fZ
def akt(E F:aE)(G:List Row)(t:Nat):fZ:=match dz E F t with
 |some (_,v)=>some (v,match v with
  | .ptr j _=>cellsOf G [] j
  |_=>[])
 |none=>none
def enter(fr:Fr)(tm:Tm)(m:Nat)(st:aC):En:=
 let ids:=aj4 st fr tm.vs++reach st fr tm.th
 match ki (SR st fr tm.vs) st.c (bm (fk ids) st.G) with
 |(Gt,R,c)=>⟨⟨kU m tm.vs st.E++fr.F,(R++bm (λr=> !(fk ids r)) st.G)++fr.H,fr.n⟩,kU m tm.vs st.E,R++bm (λr=> !(fk ids r)) st.G,lP m tm.vs st.E,Gt,c,akt st.E fr.F Gt⟩
structure aqh(fr:Fr)(st:aC)(Φ:Ctx)(w:World)(ρ ρ':ax)(en:En):Prop where
 ag:aT st.c ρ ρ'
 le:st.c<=en.c
 ff:en.fr.F=en.E++fr.F
 fh:en.fr.H=en.G++fr.H
 fn:en.fr.n=fr.n
 lF:aE.low en.c en.fr.F=true
 lH:bA en.c en.fr.H=true
 sub:iE (au ρ' [] en.Et en.fr.F) (au ρ [] st.E fr.F)
 sat:Sat (ab ρ' [] en.Gt++(ab ρ' [] en.fr.H++Φ)) w
 fx:∀t q,en.fix t=some q->q.1.low en.c=true/\AV.bV en.c q.2=true
theorem aE.fi{c d:Nat}(a:c<=d):{E:aE}->E.low c=true->E.low d=true
 |[],_=>rfl
 |x::E,h=>by simp only [aE.low,ae] at h ⊢;exact ⟨AV.fi a _ h.1,aE.fi a h.2⟩
theorem aE.Iy{c:Nat}:{E F:aE}->E.low c=true->F.low c=true->aE.low c (E++F)=true
 |[],_,_,h=>h
 |x::E,F,h,k=>by simp only [du,aE.low,ae] at h ⊢;exact ⟨h.1,aE.Iy h.2 k⟩
theorem HR{c:Nat}:{E:aE}->E.low c=true->{t:Nat}->{x:GK×AV}->bu E t=some x->x.2.low c=true
 |[],_,_,_,h=>by cases h
 |(t',g,v)::E,h,t,x,hx=>by
  simp only [aE.low,ae] at h;cases hb:Nat.beq t' t
  .rw [ew hb] at hx;exact HR h.2 hx
  .rw [gr hb] at hx;cases hx;exact h.1
theorem JV{c m:Nat}{vs:List (Bool×Nat×Pt)}:{E:aE}->E.low c=true->(kU m vs E).low c=true
 |[],_=>rfl
 |x::E,h=>by
  simp only [aE.low,ae] at h;unfold kU;cases tV m vs x.1
  .exact JV h.2
  .show aE.low c (x::kU m vs E)=true;simp only [aE.low,ae];exact ⟨h.1,JV h.2⟩
theorem Kc{c m:Nat}{vs:List (Bool×Nat×Pt)}:{E:aE}->E.low c=true->(lP m vs E).low c=true
 |[],_=>rfl
 |x::E,h=>by
  simp only [aE.low,ae] at h;unfold lP;cases tV m vs x.1
  .show aE.low c (x::lP m vs E)=true;simp only [aE.low,ae];exact ⟨h.1,Kc h.2⟩
  .exact Kc h.2
theorem CW{c:Nat}{p:Row->Bool}:{G:List Row}->bA c G=true->bA c (bm p G)=true
 |[],_=>rfl
 |r::G,h=>by
  simp only [bA,ae] at h;unfold bm;cases p r
  .exact CW h.2
  .show bA c (r::bm p G)=true;simp only [bA,ae];exact ⟨h.1,CW h.2⟩
theorem adg{c:Nat}{j:Nat}(h:bA c G=true):AV.bV c (cellsOf G [] j)=true:=by
 unfold cellsOf;split
 .rename_i s d t cs b;obtain ⟨a,_⟩:=bU b;cases s with
  |top i=>
   have:=oY h (show G[i]? =some _ from a);simp only [Row.low,ae] at this;exact this.2
  |cm i=>have a:([]:List Row)[i]? =some _:=a;simp at a
  |nilI=>exact a.elim
  |nilO=>exact a.elim
  |nilM=>exact a.elim
 .rfl
theorem ake{c:Nat}{E F:aE}(d:E.low c=true)(b:F.low c=true)(a:bA c G=true){t:Nat}{q:AV×List AV}(h:akt E F G t=some q):q.1.low c=true/\AV.bV c q.2=true:=by
 unfold akt at h;split at h
 .rename_i v hv;cases h;refine ⟨?_,?_⟩
  .unfold dz at hv;split at hv
   next x hx=>cases hv;exact HR d hx
   .exact HR b hv
  .split
   .exact adg a
   .rfl
 .cases h
theorem vY{fr:Fr}{tm:Tm}{m:Nat}{st:aC}{ρ:ax}{Φ:Ctx}{w:World}(K:st.low fr=true)(D:Sat (ab ρ [] st.G++(ab ρ [] fr.H++Φ)) w):∃ρ',aqh fr st Φ w ρ ρ' (enter fr tm m st):=by
 obtain ⟨g,f,u,s⟩:=aC.cB.1 K;unfold enter;dsimp only;generalize aj4 st fr tm.vs++reach st fr tm.th=ids;have n:=om (A:=[]) (p:=fk ids) D;obtain ⟨ρ',l⟩:=GN (ids:=SR st fr tm.vs) (c:=st.c) (ρ:=ρ) (CW (p:=fk ids) u);generalize ki (SR st fr tm.vs) st.c (bm (fk ids) st.G)=L at l;obtain ⟨Gt,R,c⟩:=L;have a:st.c<=c:=l.le;have y:=JV (m:=m) (vs:=tm.vs) g;have hp:=CW (p:=λr=> !(fk ids r)) u;refine ⟨ρ',l.ag,a,rfl,rfl,rfl,?_,?_,?_,?_,λt q J=>?_⟩
 .exact aE.Iy (aE.fi a y) (aE.fi a f)
 .exact p7 (p7 l.rl (wN a hp)) (wN a s)
 .have o:au ρ' [] (lP m tm.vs st.E) (kU m tm.vs st.E++fr.F)=au ρ [] (lP m tm.vs st.E) (kU m tm.vs st.E++fr.F):=by rw [au,au,oH l.ag (Kc g),oH l.ag (aE.Iy y f)]
  show iE (au ρ' [] (lP m tm.vs st.E) (kU m tm.vs st.E++fr.F)) _;rw [o];exact aiM λt=>agj
 .show Sat (ab ρ' [] Gt++(ab ρ' [] ((R++bm (λr=> !(fk ids r)) st.G)++fr.H)++Φ)) w;have o:ab ρ' [] Gt=ab ρ [] (bm (fk ids) st.G):=l.eq;have V:ab ρ' [] (bm (λr=> !(fk ids r)) st.G++fr.H)=ab ρ [] (bm (λr=> !(fk ids r)) st.G++fr.H):=bc l.ag (p7 hp s);rw [aO,bh,o,V];have i:Sat (ab ρ [] (bm (fk ids) st.G)++(ab ρ [] (bm (λr=> !(fk ids r)) st.G++fr.H)++Φ)) w:=by simpa using n
  have e:∀(L:List Item) (A B:Ctx),(∀it∈L,it.cE=true/\∀M w,it.P M w)->Sat (A++B) w->Sat (A++(L++B)) w:=λL A B v h=>by
   have C:=A3 h L (λit d=>⟨(v it d).1,(v it d).2 _ _⟩);have mv:∀(L:List Item) (A B:Ctx),Sat (L++(A++B)) w->Sat (A++(L++B)) w:=λL=>by
    induction L with
    |nil=>intro A B h;exact h
    |cons x L ih=>
     intro A B h;have z:Sat ([]++x::((L++A)++B)) w:=by simpa using h
     have T:Sat ([]++((L++A)++x::B)) w:=z.move;have S:Sat (L++(A++x::B)) w:=by simpa using T
     have Q:Sat (A++(L++x::B)) w:=ih _ _ S;have O:Sat (A++(L++[x]++B)) w:=by simpa using Q
     -- x goes ahead of L
     refine O.yR (λj k=>(j<A.length/\k=j)\/(j=A.length/\k=A.length+L.length)\/(A.length<j/\j<=A.length+L.length/\k+1=j)\/(A.length+L.length<j/\k=j)) (λj jt b=>?_) (λj k q N C z=>by omega);by_cases c1:j<A.length
     .rw [b8 c1] at b;exact .inr ⟨j,jt,.inl ⟨c1,rfl⟩,by rw [b8 c1];exact b,bQ.refl⟩
     .rw [bZ (by omega)] at b;by_cases X:j=A.length
      .subst X;simp at b;subst b;refine .inr ⟨A.length+L.length,x,.inr (.inl ⟨rfl,rfl⟩),?_,bQ.refl⟩;rw [bZ (by omega)];have:A.length+L.length-A.length=L.length:=by omega
       rw [this];simp
      .have U:j-A.length=(j-A.length-1)+1:=by omega
       rw [U,du,b9] at b;by_cases W:j<=A.length+L.length
       .rw [b8 (by omega)] at b;refine .inr ⟨j-1,jt,.inr (.inr (.inl ⟨by omega,W,by omega⟩)),?_,bQ.refl⟩;rw [bZ (by omega),aO,b8 (by omega)];rw [show j-1-A.length=j-A.length-1 by omega];exact b
       .rw [bZ (by omega)] at b;refine .inr ⟨j,jt,.inr (.inr (.inr ⟨by omega,rfl⟩)),?_,bQ.refl⟩;rw [bZ (by omega),bZ (by simp;omega)];have:j-A.length-(L++[x]).length=j-A.length-1-L.length:=by simp;omega
        rw [this];exact b
   exact mv L A B C
  have:=e (ab ρ' [] R) (ab ρ [] (bm (fk ids) st.G)) (ab ρ [] (bm (λr=> !(fk ids r)) st.G++fr.H)++Φ) (λit d=>by obtain ⟨r,I,rfl⟩:=List.mem_map.1 d;exact l.rp r I) i
  simpa using this
 .exact ake (aE.fi a g) (aE.fi a f) l.lw J
def RC(G H:List Row)(look:Nat->Option AV)(fix:Nat->fZ):List (Bool×Nat×Pt)->xc
 |[]=>[]
 |x::l=>(match (ay x.1 ((fix x.2.1).map (·.1)) (look x.2.1)) with
  |some v=>rA G H x.2.2 v
  |none=>[])++RC G H look fix l
def S6(F:aE)(vs:List (Bool×Nat×Pt)):aE->Bool
 |[]=>true
 |x::E=>(Pc x.1 vs||pd (bu F x.1))&&S6 F vs E
def MK(en:En)(tm:Tm)(E:aE)(G:List Row):List Row:=cm (RC G en.fr.H (wX E en.fr.F) en.fix tm.vs) G
def jF(en:En)(tm:Tm)(E:aE)(G:List Row):Option (dZ (ga tm.vs)):=
 match Xs (MK en tm E G) en.fr.H (wX E en.fr.F) en.fix tm.vs [] with
 |some mr=>ay (Bv (mr.S.map λx=>dh (MK en tm E G) en.fr.H x.2)&&N4 (MK en tm E G).length (mr.S.map λx=>dh (MK en tm E G) en.fr.H x.2)&&S6 en.fr.F tm.vs E) (cC _ mr.D) none
 |none=>none
def rowsOf(R:List (Bool×Row)):List Row:=R.map (·.2)
def cG(en:En)(tm:Tm)(s:dZ (ga tm.vs))(h:HT):aC:=match eZ (λn=>en.c+n) en.fix tm.vs 0 (fK _ s) with
 |⟨E,R,k,_⟩=>⟨en.c+k,E,rowsOf R,h⟩
def fO(en:En)(tm:Tm)(s:dZ (ga tm.vs))(h:HT):aC:=match eZ (λn=>en.c+n) en.fix tm.vs 0 (fK _ s) with
 |⟨E,R,k,_⟩=>⟨en.c+k,E++en.E,rowsOf R++en.G,h⟩
def wj(e:XE)(en:En)(st:aC):aC:=match e with
 | .panL _=>{ st with E:=st.E++en.E,G:=st.G++cZ en.G }
 |_=>{ st with E:=st.E++en.E,G:=st.G++en.G }
theorem Sat.UR{w:World}{A C:Ctx}:∀{B:Ctx},Sat (A++(B++C)) w->Sat (A++C) w
 |[],h=>h
 |_x::B,h=>Sat.UR (B:=B) (Sat.Ag h)
theorem Xx{nm:Nat->Nat}{fix:Nat->fZ}{t:Nat}:{l:List (Bool×Nat×Pt)}->{n:Nat}->{D:List bX}->Pc t l=true->bu (eZ nm fix l n D).E t≠none
 |[],n,D,h=>by cases h
 |(b,t',p)::l,n,D,h=>by
  unfold eZ;dsimp only;generalize fill nm p (ay b (fix t') none) none n D=L;obtain ⟨v,R,k,c,j⟩:=L;dsimp only;generalize d:eZ nm fix l k c=f;obtain ⟨a,m,i,g⟩:=f;dsimp only;have ih:Pc t l=true->bu a t≠none:=λe=>by have:=Xx (nm:=nm) (fix:=fix) (n:=k) (D:=c) e;rw [d] at this;exact this
  simp only [Pc,ck,ae] at h;cases b
  .show bu ((t',none,v)::a) t≠none;cases hb:Nat.beq t' t
   .rw [ew hb];rcases h with ⟨_,h⟩|h
    .rw [hb] at h;cases h
    .exact ih h
   .rw [gr hb];simp
  .show bu a t≠none;rcases h with ⟨h,_⟩|h
   .cases h
   .exact ih h
theorem aaf{F:aE}{vs:List (Bool×Nat×Pt)}{t:Nat}:{E:aE}->{x:GK×AV}->S6 F vs E=true->bu E t=some x->Pc t vs=true\/bu F t=none
 |[],x,_,h=>by cases h
 |(t',g,v)::E,x,hb,h=>by
  simp only [S6,ae,ck] at hb;cases b:Nat.beq t' t
  .rw [ew b] at h;exact aaf hb.2 h
  .have e:=ah b;subst e;rcases hb.1 with a|a
   .exact .inl a
   .cases c:bu F t' with
    |none=>exact .inr rfl
    |some y=>rw [c] at a;cases a
section
variable {en : En} {tm : Tm} {Φ : Ctx} {w : World} {ρ : ax}
theorem mU{E:aE}{s:dZ (ga tm.vs)}(lF:aE.low en.c en.fr.F=true)(lH:bA en.c en.fr.H=true)(fx:∀t q,en.fix t=some q->q.1.low en.c=true/\AV.bV en.c q.2=true)
  (hs:Sat (ab ρ [] G++(ab ρ [] en.fr.H++Φ)) w) (h:jF en tm E G=some s):
  ∃ρ' E' R k D,eZ (λn=>en.c+n) en.fix tm.vs 0 (fK _ s)=⟨E',R,k,D⟩/\aT en.c ρ ρ'/\iE (au ρ' [] E' en.fr.F) (au ρ [] E en.fr.F)/\Sat (ab ρ' [] (rowsOf R)++(ab ρ' [] en.fr.H++Φ)) w:=by
 unfold jF at h;have d:=iH (ids:=RC G en.fr.H (wX E en.fr.F) en.fix tm.vs) hs;change Sat (ab ρ [] (MK en tm E G)++_) w at d;generalize MK en tm E G=G' at h d;split at h
 .rename_i Q S;obtain ⟨U,h2⟩:=aG h;simp only [ae] at U;obtain ⟨⟨h3,h4⟩,h5⟩:=U;obtain ⟨N,I,r,n1,a1⟩:=Ur d tm.vs [] Q [] S .nil;rw [<-Aj _ h2] at r;obtain ⟨p1,_⟩:=Mz d a1;obtain ⟨P,_⟩:=vX d p1 (vK h3);rw [A6 h4] at P;have Z:=P.UR
  -- names
  have b:aT en.c ρ (λi=>ay (Nat.blt i en.c) (ρ i) ((N[i-en.c]?).getD cO)):=λj hj=>by
   have:Nat.blt j en.c=true:=by simpa using hj
   simp only [this]
  have l:uz (λi=>ay (Nat.blt i en.c) (ρ i) ((N[i-en.c]?).getD cO)) (λn=>en.c+n) 0 N:=λi a ha=>by
   have:Nat.blt (en.c+i) en.c=false:=by
    cases hb:Nat.blt (en.c+i) en.c
    .rfl
    .simp only [dk] at hb;omega
   simp only [this,show en.c+i-en.c=i by omega,ha,qq];exact ⟨trivial,trivial,trivial,λ_=>trivial⟩
  generalize (λi=>ay (Nat.blt i en.c) (ρ i) ((N[i-en.c]?).getD cO))=ρ' at b l;have e1:(λi=>eW ρ (en.fix i))=λi=>eW ρ' (en.fix i):=by
   funext i
   cases hq:en.fix i with
   |none=>rfl
   |some q=>
    obtain ⟨k1,k2⟩:=fx i q hq;show some (q.1.val ρ,AV.ao ρ q.2)=some (q.1.val ρ',AV.ao ρ' q.2);rw [AV.jW b _ k1,AV.bS b _ k2]
  rw [e1] at r;obtain ⟨O,W,V,M⟩:=PQ (T:=[]) (nm:=λn=>en.c+n) tm.vs [] (fK _ s) I (dD ρ Q.X) N r (ac1 S) l (p0 _) [];simp only [eF,qe] at O W V M;generalize hF:eZ (λn=>en.c+n) en.fix tm.vs 0 (fK _ s)=L at O W V M;obtain ⟨E',R,k,D⟩:=L;refine ⟨ρ',E',R,k,D,rfl,b,λt p hp=>?_,?_⟩
  .rw [fI] at hp;cases m:bu E' t with
   |some x=>
    have u:look (aE.env ρ' [] E') t=some (aA.get [] x.1,x.2.val ρ'):=by rw [rN,m];rfl
    obtain ⟨c1,g⟩:=O t _ u;have K:dz E' en.fr.F t=some x:=by unfold dz;rw [m]
    rw [K] at hp;simp only [hV,b5] at hp;subst hp;simp only at c1 g;cases f:wX E en.fr.F t with
    |none=>rw [f] at g;cases g
    |some v=>
     rw [f] at g;simp only [hV,b5] at g;rw [Ey f,c1,g]
   |none=>
    have K:dz E' en.fr.F t=bu en.fr.F t:=by unfold dz;rw [m]
    rw [K] at hp;cases e:bu en.fr.F t with
    |none=>rw [e] at hp;cases hp
    |some y=>
     rw [e] at hp;simp only [hV,b5] at hp;have J:bu E t=none:=by
      cases J:bu E t with
      |none=>rfl
      |some z=>
       rcases aaf h5 J with o|o
       .have:=Xx (nm:=λn=>en.c+n) (fix:=en.fix) (n:=0) (D:=fK _ s) o;rw [hF] at this;exact (this m).elim
       .rw [e] at o;cases o
     rw [fI];unfold dz;rw [J,e,<-hp];simp only [hV];rw [AV.jW b _ (HR lF e)]
  .have Y:=Sat.leL (A:=[]) (B:=df I) (C:=ab ρ [] en.fr.H++Φ) Z M.rw;rw [bc b lH];exact Y
 .cases h
end
variable {fr : Fr}
def amp(P:Program)(o:Oper):Bool:=match o.op with
 | .store ..|.alloc _|.box ..|.buildSlice ..|.makeSlice ..|.makeMap ..|.mapUpdate ..|.insert ..|.range ..|.next ..|.defer _|.panic _=>true
 | .convert s d _=>isStr P s&& !(isStr P d)
 | .call ⟨.builtin b,_,_⟩=>(match b with
  | .len|.cap|.min|.max|.unsafeSliceData=>false
  |_=>true)
 | .call _=>true
 |_=>false
def agv(q:Bool)(m:Nat):Nat->List (Nat×Bool)->vA
 |_,[]=>none
 |k,x::l=>ay ( Vv x.2 (!q)&& !(Nat.testBit m k)&&It x.1 m ) ( some k )<|agv q m (k+1) l
def ack(l:List (Nat×Bool)):Nat->Nat->OT
 |0,_=> .nil
 |n+1,m=>match agv true m 0 l with
  |some k=> .q k m (ack l n (bit m k))
  |none=>match agv false m 0 l with
   |none=> .nil
   |some k=>match agv false m (k+1) (l.drop (k+1)) with
    |none=> .l k m (ack l n (bit m k))
    |some j=> .l2 m k (ack l n (bit m k)) j (ack l n (bit m j))
def aqf(o:Oper):Bool:=match o.op,o.guard with
 | .alloc _,none=>true
 | .buildSlice .., none=>true
 |_,_=>false
def agV(kd m:Nat):Nat->List (Nat×Nat)->Option (Nat×Nat)
 |_,[]=>none
 |k,x::l=>ay ( Nat.beq x.2 kd&& !(Nat.testBit m k)&&It x.1 m ) ( some (k,x.1) )<|agV kd m (k+1) l
def Qg(m:Nat):Nat->List (Nat×Nat)->xc
 |_,[]=>[]
 |k,x::l=>ay ( Nat.beq x.2 2&& !(Nat.testBit m k)&&It x.1 m ) ( k::Qg m (k+1) l )<|Qg m (k+1) l
def ajH(l:List (Nat×Nat)):Nat->Nat->OT
 |0,_=> .nil
 |n+1,m=>match agV 0 m 0 l with
  |some p=> .q p.1 m (ajH l n (bit m p.1))
  |none=>match (match agV 1 (gR m (Qg m 0 l)) 0 l with
    |some p=>some p
    |none=>agV 0 (gR m (Qg m 0 l)) 0 l) with
   |none=> .nil
   |some p=> .f p.1 m (Qg m 0 l) ((Qg m 0 l).filter λf=>Nat.testBit p.2 f) (ajH l n (bit (gR m ((Qg m 0 l).filter λf=>Nat.testBit p.2 f)) p.1))
def amy{R:Type}(X:Cx)(tb:List aq)(tp:List bH)(KP:AV->aC->Option R)(ops:wT)(fr:Fr)(th:xc)(t:OT)(st:aC)(K:cw R):Option R:=
 ay ( X.P.follows .mixedOrders&&abd ops (ops.toList.map λo=>fw o.after.toList) t ) (
  nk X tb tp KP ops.toList fr t (bm (λr=> !(fk (reach st fr th) r)) st.G) [] [] { st with G:=bm (fk (reach st fr th)) st.G } K ) none
def alg(fr:Fr)(st:aC):xc->xc
 |[]=>[]
 |t::th=>ay (Nat.ble 20000 t) ((match dz st.E fr.F (t-20000) with
  |some (_,v)=>AV.dV v++(match v with
   | .ptr id _=>(match lQ (wG id) st.G with
    |some (_,.box _ _ cs)=>((cs.map (rH st.G fr.H)).map AV.dV).flatten
    |_=>[])
   |_=>[])
  |none=>[])++alg fr st th) (alg fr st th)
def Re(fr:Fr)(st:aC)(th:xc):aC:=match alg fr st th with
 |[]=>st
 |ids=>{ st with G:=cm ids st.G }
theorem ae3{st:aC}{th:xc}{ρ:ax}{T:aA}{B:Ctx}{w:World}(h:Sat (ab ρ T st.G++B) w):
  (Re fr st th).c=st.c/\(Re fr st th).E=st.E/\Sat (ab ρ T (Re fr st th).G++B) w:=by
 unfold Re;split
 .exact ⟨rfl,rfl,h⟩
 .exact ⟨rfl,rfl,iH h⟩
def G3{R:Type}(X:Cx)(tb:List aq)(tp:List bH)(KP:AV->aC->Option R)(ops:wT)(fr:Fr)(th:xc)(st:aC)(K:cw R):Option R:=
 amy X tb tp KP ops fr th (cond (da 40000 th) (ajH (ops.toList.map λo=>(fw o.after.toList,cond (aqf o) 2 (cond (amp X.P o) 1 0))) ops.toList.length 0) (ack (ops.toList.map λo=>(fw o.after.toList,amp X.P o)) ops.toList.length 0)) (Re fr st th) K
abbrev brk{R:Type}(i:Nat)(K:XE->aC->Option R):XE->aC->Option R
 | .ext j,st=>ay ( Nat.beq j i ) ( K .nrm st ) ( K (.ext j) st )
 |e,st=>K e st
abbrev uR{R:Type}(K1:aC->Option R)(K:XE->aC->Option R):XE->aC->Option R
 | .nrm,st=>K1 st
 |e,st=>K e st
abbrev cnd{R:Type}(b:Bool)(d1 d2:HT->Option R)(h:HT):Option R:=match h with
 | .c p q=>cond b (d1 p) (d2 q)
 |h=>cond b (d1 h) (d2 h)
def aaX(fr:Fr)(st:aC):aC:=match st.h with
 | .r (30000::th) h=>Re fr { st with h:=h } th
 |_=>st
theorem amM{st:aC}{ρ:ax}{T:aA}{B:Ctx}{w:World}(h:Sat (ab ρ T st.G++B) w):
  (aaX fr st).c=st.c/\(aaX fr st).E=st.E/\Sat (ab ρ T (aaX fr st).G++B) w:=by
 unfold aaX;split
 next th a _=>exact ae3 (st:={ st with h:=a }) h
 .exact ⟨rfl,rfl,h⟩
def alq(v:AV)(i:Nat):Option (Int×(Int->AV)):=match v with
 | .int k x=>(match i with
  |0=>some (x,.int k)
  |_=>none)
 | .agg l=>(match i with
  |0=>none
  |j+1=>(match l[j]? with
   |some (.int k x)=>some (x,λy=> .agg (l.set j (.int k y)))
   |_=>none))
 |_=>none
theorem amQ{v:AV}{i:Nat}{p:Int×(Int->AV)}(h:alq v i=some p):p.2 p.1=v:=by
 unfold alq at h;split at h
 .split at h
  .cases h;rfl
  .cases h
 .split at h
  .cases h
  .rename_i l j;split at h
   next k x hx=>cases h;simp only;congr 1;obtain ⟨b,a⟩:=List.getElem?_eq_some_iff.1 hx;rw [<-a];exact List.set_getElem_self b
   .cases h
 .cases h
def aag{R:Type}(F:aE)(t i:Nat)(k:aC->Option R):xc->HT->aC->Option R
 |v::vs,h,st=>(match h with
  | .c h hs=>(match dz st.E F t with
   |some (none,av)=>(match alq av i with
    |some p=>cond (p.1==(v:Int)) (k { st with h:=h,E:=(t,none,p.2 (v:Int))::st.E }) (aag F t i k vs hs st)
    |none=>none)
   |_=>none)
  |_=>none)
 |[],h,st=>(match h with
  | .n 77777 _=>none
  |h=>k { st with h:=h })
theorem aeu{R:Type}{r:R}{F:aE}{t i:Nat}{k:aC->Option R}{st:aC}:∀{vs:xc} {h:HT},aag F t i k vs h st=some r->
  ∃st',k st'=some r/\st'.c=st.c/\st'.G=st.G/\∀ρ T,iE (au ρ T st'.E F) (au ρ T st.E F)
 |[],h,hh=>by
  unfold aag at hh;split at hh
  .cases hh
  .exact ⟨_,hh,rfl,rfl,λ_ _=> .refl⟩
 |v::vs,h,hh=>by
  unfold aag at hh;split at hh
  .rename_i l f;split at hh
   .rename_i av b;split at hh
    .rename_i p hp;rcases rR hh with ⟨e,d⟩|⟨_,d⟩
     .refine ⟨_,d,rfl,rfl,λρ T u x hx=>?_⟩;have j:p.2 (v:Int)=av:=by rw [<-amQ hp,eq_of_beq e]
      have g:look (au ρ T st.E F) t=some (true,av.val ρ):=by rw [fI,b];simp
      show look (au ρ T st.E F) u=some x;rw [j] at hx;have a:look ((t,true,av.val ρ)::au ρ T st.E F) u=some x:=by simpa [au,aE.env] using hx
      unfold look at a;cases hb:Nat.beq t u
      .rw [hb] at a;exact a
      .rw [hb] at a;have:=ah hb;subst this;rw [g];exact a
     .exact aeu d
    .cases hh
   .cases hh
  .cases hh
abbrev frL(fr:Fr):Fr:=⟨fr.F,cZ fr.H,fr.n⟩
abbrev stL(fr:Fr)(st:aC)(h:HT):aC:={ st with G:=st.G++bm cR fr.H,h:=h }
abbrev toL{R:Type}(K:XE->aC->Option R):XE->aC->Option R
 | .panE v,st=>K (.panL v) st
 |_,_=>none
abbrev apb{R:Type}(X:Cx)(tb:List aq)(tp:List bH)(ops:wT)(fr:Fr)(K:XE->aC->Option R)(st:aC):Option R:=
 xA X tb tp (λb v st=>K (ay b (.panL v) (.panE v)) st) ops.toList fr ops.toList [] st (K .nrm)
def den{R:Type}(X:Cx)(tb:List aq)(tp:List bH):Code->Fr->(XE->aC->Option R)->aC->Option R
 | .skip,_,K,st=>K .nrm st
 | .label _,_,K,st=>K .nrm st
 | .exit i,_,K,st=>K (.ext i) st
 | .goto l,_,K,st=>K (.gto l) st
 | .ret,_,K,st=>K .ret st
 | .block i c,fr,K,st=>den X tb tp c fr (brk i K) (aaX fr st)
 | .cond c x y,fr,K,st=>match bq [] st.E fr.F none c with
  |some (.bool b)=>cnd b (λh=>den X tb tp x fr K { st with h:=h }) (λh=>den X tb tp y fr K { st with h:=h }) st.h
  |_=>none
 | .seq x y,fr,K,st=>match st.h with
  | .j tm p q=>ay (st.low fr) (
   ai (λs:dZ (ga tm.vs)=>den X tb tp y fr K (fO (enter fr tm (cH x) st) tm s q)) λk=>
   den X tb tp x (enter fr tm (cH x) st).fr (uR (λst'=>match jF (enter fr tm (cH x) st) tm st'.E st'.G with
     |some s=>k s
     |none=>none) (λe st'=>K e (wj e (enter fr tm (cH x) st) st'))) ⟨(enter fr tm (cH x) st).c,(enter fr tm (cH x) st).Et,(enter fr tm (cH x) st).Gt,p⟩ ) none
  | .s h=>den X tb tp x fr (uR (den X tb tp y fr K) K) { st with h:=h }
  | .r (60000::t::i::vs) h=>aag fr.F t i (λst=>den X tb tp x fr (uR (den X tb tp y fr K) K) st) vs h st
  |_=>den X tb tp x fr (uR (den X tb tp y fr K) K) st
 | .loop c,fr,K,st=>match st.h with
  | .l tm p=>ay (st.low fr) (
   match jF (enter fr tm (cH c) st) tm (enter fr tm (cH c) st).Et (enter fr tm (cH c) st).Gt with
   |some s=>az (λagain s=>den X tb tp c (enter fr tm (cH c) st).fr (uR (λst'=>match jF (enter fr tm (cH c) st) tm st'.E st'.G with
      |some s=>again s
      |none=>none) (λe st'=>K e (wj e (enter fr tm (cH c) st) st'))) (cG (enter fr tm (cH c) st) tm s p)) X.fl s
   |none=>none ) none
  | .n k h=>az (λagain st=>den X tb tp c fr (uR again K) st) k { st with h:=h }
  |_=>none
 | .region _ ops false,fr,K,st=>match st.h with
  | .r (80000::_) h=>apb X tb tp ops (frL fr) (toL K) (stL fr st h)
  |_=>apb X tb tp ops fr K st
 | .region _ ops true,fr,K,st=>match st.h with
  | .r th h=>G3 X tb tp (λv st=>K (.gF v) st) ops fr th { st with h:=h } (K .nrm)
  |_=>G3 X tb tp (λv st=>K (.gF v) st) ops fr [] st (K .nrm)
 |_,_,_,_=>none
def XE.ex:XE->Exit
 | .nrm=> .normal
 | .ret=> .ret
 | .ext i=> .exit i
 | .gto l=> .goto l
 | .gF _=> .goto 0
 | .panE _=> .goto 0
 | .panL _=> .goto 0
def J4(Q:br)(e:XE)(ρ:ax)(n:Nat)(D:tt)(E:Env)(w:World):Prop:=match e with
 | .gF v=>AL Q (gF (v.val ρ)) D w
 | .panE v=>At Q (.panic (gF (v.val ρ))) n D E w
 | .panL v=>At Q (.panic (gF (v.val ρ))) n D E w
 |e=>At Q e.ex n D E w
abbrev hx(e:XE)(fr:Fr):List Row:=match e with
 | .panL _=>cZ fr.H
 |_=>fr.H
def iA{R:Type}(Q:br)(D:tt)(fr:Fr)(Φ:Ctx)(c0:Nat)(ρ0:ax)(r:R)(K:XE->aC->Option R):Prop:=
 ∀e st ρ w,aT c0 ρ0 ρ->c0<=st.c->K e st=some r->Sat (ab ρ [] st.G++(ab ρ [] (hx e fr)++Φ)) w->J4 Q e ρ fr.n D (au ρ [] st.E fr.F) w
theorem iA.less{R:Type}{Q:br}{D:tt}{Φ:Ctx}{b c1:Nat}{ρ0 a:ax}{r:R}{K:XE->aC->Option R}(h:iA Q D fr Φ b ρ0 r K)(ha:aT b ρ0 a)(hc:b<=c1):iA Q D fr Φ c1 a r K:=
 λe st ρ w g f d c=>h e st ρ w (ha.trans g hc) (ca hc f) d c
section
variable {P : Program} {ρ : vA} {Q : br} {n : Nat} {D : tt} {E : Env} {w : World}
theorem Pm{σ γ τ:Type}{F:(σ->Option τ)->σ->Option τ}{r:τ}(J:σ->γ->World->Prop)(c:σ->γ->Env){body:Code}
  {N:Nat} {b:σ} (k:az F N b=some r) (f:γ) (u:J b f w) (q:iE (c b f) E)
  (round:∀again s g w,F again s=some r->J s g w->WC P ρ body (Exit.then (MU again r J c n D) Q) n D (c s g) w):
  WC P ρ (.loop body) Q n D E w:=λa l hd=>
 Fa (λm=>MU (az F m) r J c n D) N ⟨b,f,k,u,l.lq q,hd⟩ λm a w ⟨s,g,j,o,p,t⟩=>by
  obtain ⟨i,rfl,d⟩:=Kg j;exact wpIn_mono (round (az F i) s g w d o a p t) λe a w h=>by cases e <;> first|exact h|exact ⟨i,qd _,h⟩
theorem Mc{σ γ τ:Type}{a:σ->Option τ}{r:τ}{J:σ->γ->World->Prop}{b:σ->γ->Env}
  (s:σ) (g:γ) (d:a s=some r) (f:J s g w) (c:iE (b s g) E):At (Exit.then (MU a r J b n D) Q) .normal n D E w:=
 λh e hd=>⟨s,g,d,f,e.lq c,hd⟩
theorem ald{γ:Type}{J:γ->World->Prop}{a:γ->Env}(g:γ)(d:J g w)(b:iE (a g) E):At (Exit.then (O9 J a n D) Q) .normal n D E w:=
 λe c hd=>⟨g,d,c.lq b,hd⟩
theorem fW{K:Act->World->Prop}{e:XE}{ρ:ax}(a:e≠ .nrm)(h:J4 Q e ρ n D E w):J4 (Exit.then K Q) e ρ n D E w:=by cases e <;> first|exact (a rfl).elim|exact h
end
section
variable {X : Cx} {tb : List aq} {tp : List bH} {σ : vA} {D : tt} {R : Type} {r : R} {Φ : Ctx}
theorem Pr{Q:br}{k i:Nat}{ρ0:ax}{K:XE->aC->Option R}(h:iA Q D fr Φ k ρ0 r K):iA (Exit.inBlock i Q) D fr Φ k ρ0 r (brk i K):=λe st ρ w d c b a=>by
 cases e with
 |nrm=>exact Yj (h .nrm st ρ w d c b a)
 |ret=>exact agO (h .ret st ρ w d c b a)
 |gto l=>exact adT (h (.gto l) st ρ w d c b a)
 |gF v=>exact am4 (h (.gF v) st ρ w d c b a)
 |panE v=>exact K8 (h (.panE v) st ρ w d c b a)
 |panL v=>exact K8 (h (.panL v) st ρ w d c b a)
 |ext j=>
  unfold brk at b;rcases dp b with ⟨g,f⟩|⟨g,f⟩
  .have:=ah g;subst this;exact ac8 (h .nrm st ρ w d c f a)
  .exact aaI g (h (.ext j) st ρ w d c f a)
theorem ld{b:aC->Option R}{K:XE->aC->Option R}{e:XE}{st:aC}(a:e≠ .nrm):uR b K e st=K e st:=by cases e <;> first|exact (a rfl).elim|rfl
theorem sP{Q:br}{d:Nat}{ρ0 a:ax}{en:En}{K:XE->aC->Option R}(h:iA Q D fr Φ d ρ0 r K)(ag:aT d ρ0 a)(le:d<=en.c)(ff:en.fr.F=en.E++fr.F)(fh:en.fr.H=en.G++fr.H)(fn:en.fr.n=fr.n):
  ∀e st ρ w,aT en.c a ρ->en.c<=st.c->K e (wj e en st)=some r->Sat (ab ρ [] st.G++(ab ρ [] (hx e en.fr)++Φ)) w->J4 Q e ρ en.fr.n D (au ρ [] st.E en.fr.F) w:=λe st ρ w l k j g=>by
 have hc:(wj e en st).c=st.c:=by cases e <;> rfl
 have i:(wj e en st).E=st.E++en.E:=by cases e <;> rfl
 have:=h e (wj e en st) ρ w (ag.trans l le) (ca le (by rw [hc];exact k)) j (by
  have f:∀(A B:List Row),Sat (ab ρ [] st.G++(ab ρ [] (A++B)++Φ)) w->Sat (ab ρ [] (st.G++A)++(ab ρ [] B++Φ)) w:=λA B h=>by rw [bh,aO];rw [bh,aO] at h;exact h
  cases e with
  |panL v=>
   have b:Sat (ab ρ [] st.G++(ab ρ [] (cZ en.fr.H)++Φ)) w:=g;rw [fh,KT] at b;exact f _ _ b
  |_=>
   have b:Sat (ab ρ [] st.G++(ab ρ [] en.fr.H++Φ)) w:=g;rw [fh] at b;exact f _ _ b)
 rw [fn,ff];have m:au ρ [] st.E (en.E++fr.F)=au ρ [] (wj e en st).E fr.F:=by rw [i];show aE.env ρ [] st.E++aE.env ρ [] (en.E++fr.F)=aE.env ρ [] (st.E++en.E)++aE.env ρ [] fr.F;rw [l8,l8,aO]
 rw [m];exact this
theorem alQ{Q:br}{b:Nat}{ρ0:ax}{K:XE->aC->Option R}(h:iA Q D fr Φ b ρ0 r K):iA Q D (frL fr) Φ b ρ0 r (toL K):=λe st ρ w f d a c=>by
 cases e with
 |panE v=>exact h (.panL v) st ρ w f d a c
 |_=>cases a
theorem anU{st:aC}{ρ:ax}{w:World}{d:HT}(b:Sat (ab ρ [] st.G++(ab ρ [] fr.H++Φ)) w):Sat (ab ρ [] (stL fr st d).G++(ab ρ [] (frL fr).H++Φ)) w:=by
 have a:=om (p:=cR) (G:=fr.H) (H:=[]) (A:=ab ρ [] st.G) (Φ:=Φ) b;have c:∀H:List Row,bm (λr=> !(cR r)) H=cZ H:=λH=>by
  induction H with
  |nil=>rfl
  |cons r H ih=>
   show ay (!(!r.cE)) (r::bm _ H) (bm _ H)=ay r.cE (r::cZ H) (cZ H);rw [ih,Bool.not_not]
 rw [eF,c] at a;show Sat (ab ρ [] (st.G++bm cR fr.H)++(ab ρ [] (cZ fr.H)++Φ)) w;rw [bh,aO];exact a
theorem aes{Q:br}{st:aC}{ρ:ax}{w:World}{K:XE->aC->Option R}(i:∀it∈X.Γ,it∈Φ)(k:∀e∈tb,e.Ok X.P X.Γ)(j:∀e∈tp,e.Ok X.P X.Γ){id:Nat}{ops:wT}(p:Sat (ab ρ [] st.G++(ab ρ [] fr.H++Φ)) w)
  (h:xA X tb tp (λb v st=>K (ay b (.panL v) (.panE v)) st) ops.toList fr ops.toList [] st (K .nrm)=some r) (m:iA Q D fr Φ st.c ρ r K):WC X.P σ (.region id ops false) Q fr.n D (au ρ [] st.E fr.F) w:=by
 obtain ⟨l⟩:=ops;exact bg (Wp i k j (λx h=>by cases h) (λx h=>by cases h) ⟨λx _=>rfl,λx _=>rfl⟩ p h (λst' ρ' w' g f d a=>m .nrm st' ρ' w' g f d a) (λo v st' ρ' w' g f d a=>by
  cases o
  .exact m (.panE v) st' ρ' w' g f d a
  .exact m (.panL v) st' ρ' w' g f d a))
theorem Qy{Q:br}{st:aC}{ρ:ax}{w:World}{K:XE->aC->Option R}(d:∀it∈X.Γ,it∈Φ)(g:∀e∈tb,e.Ok X.P X.Γ)(f:∀e∈tp,e.Ok X.P X.Γ){id:Nat}{ops:wT}{th:xc}(a:Sat (ab ρ [] st.G++(ab ρ [] fr.H++Φ)) w)
  (h:G3 X tb tp (λv st=>K (.gF v) st) ops fr th st (K .nrm)=some r) (b:iA Q D fr Φ st.c ρ r K):WC X.P σ (.region id ops true) Q fr.n D (au ρ [] st.E fr.F) w:=by
 obtain ⟨l⟩:=ops;unfold G3 at h;generalize cond (da 40000 th) _ _=t at h;obtain ⟨u,s,a⟩:=ae3 (fr:=fr) (th:=th) a;rw [<-u] at b;rw [<-s];generalize Re fr st th=st at h a b;unfold amy at h;obtain ⟨j,z⟩:=aG h;simp only [ae] at j;refine uQ _ t j.1 j.2 (λw1 y=>?_);have i:=om (A:=[]) (p:=fk (reach st fr th)) (a.ext y);exact CQ.wd (anK (EV:=[]) (st:={ st with G:=bm (fk (reach st fr th)) st.G }) d g f (λx h=>by cases h) (λx h=>by cases h) ⟨λx _=>rfl,λx _=>rfl⟩ (λx h=>by cases h) (λx h=>by cases h) i (λp h=>by cases h) z (λst' ρ' w' q o m k=>b .nrm st' ρ' w' q o m k) (λv st' ρ' w' q o m k=>b (.gF v) st' ρ' w' q o m k))
theorem PJ{b:Bool}{f d2:HT->Option R}{h:HT}(d:cnd b f d2 h=some r):∃p q,(b=true->f p=some r)/\(b=false->d2 q=some r):=by
 unfold cnd at d;split at d
 .rename_i p q;rcases rR d with ⟨c,a⟩|⟨c,a⟩
  .exact ⟨p,q,λ_=>a,λe=>by rw [c] at e;cases e⟩
  .exact ⟨p,q,(λe=>by rw [c] at e;cases e),λ_=>a⟩
 .rcases rR d with ⟨c,a⟩|⟨c,a⟩
  .exact ⟨_,h,λ_=>a,λe=>by rw [c] at e;cases e⟩
  .exact ⟨h,_,(λe=>by rw [c] at e;cases e),λ_=>a⟩
theorem fc(j:∀it∈X.Γ,it∈Φ)(t:∀e∈tb,e.Ok X.P X.Γ)(o:∀e∈tp,e.Ok X.P X.Γ):∀(c:Code) {Q:br} {fr:Fr} {K:XE->aC->Option R} {st:aC} {ρ:ax} {w:World},Sat (ab ρ [] st.G++(ab ρ [] fr.H++Φ)) w->
  den X tb tp c fr K st=some r->iA Q D fr Φ st.c ρ r K->WC X.P σ c Q fr.n D (au ρ [] st.E fr.F) w
 | .skip,Q,fr,K,st,ρ,w,hs,h,hK=>o6 (hK .nrm st ρ w .refl (bb _) (by unfold den at h;exact h) hs)
 | .label _,Q,fr,K,st,ρ,w,hs,h,hK=>ZW (hK .nrm st ρ w .refl (bb _) (by unfold den at h;exact h) hs)
 | .exit i,Q,fr,K,st,ρ,w,hs,h,hK=>WQ (hK (.ext i) st ρ w .refl (bb _) (by unfold den at h;exact h) hs)
 | .goto l,Q,fr,K,st,ρ,w,hs,h,hK=>aeR (hK (.gto l) st ρ w .refl (bb _) (by unfold den at h;exact h) hs)
 | .ret,Q,fr,K,st,ρ,w,hs,h,hK=>tu (hK .ret st ρ w .refl (bb _) (by unfold den at h;exact h) hs)
 | .block i c,Q,fr,K,st,ρ,w,hs,h,hK=>by
  obtain ⟨z1,z2,z3⟩:=amM (fr:=fr) hs;unfold den at h;rw [<-z2];rw [<-z1] at hK;exact Pv (fc j t o c z3 h (Pr hK))
 | .cond c x y,Q,fr,K,st,ρ,w,hs,h,hK=>by
  unfold den at h;split at h
  next b hb=>have hc:=bE (ρ:=ρ) hb;simp only [AV.val] at hc;obtain ⟨p,q,h1,S⟩:=PJ h;exact iw hc (λhb=>fc j t o x (st:={ st with h:=p }) hs (h1 hb) hK) (λhb=>fc j t o y (st:={ st with h:=q }) hs (S hb) hK)
  .cases h
 | .seq x y,Q,fr,K,st,ρ,w,hs,h,hK=>by
  have N:∀T,den X tb tp x fr (uR (den X tb tp y fr K) K) { st with h:=T }=some r->WC X.P σ (.seq x y) Q fr.n D (au ρ [] st.E fr.F) w:=λT hd=>by
   refine bp (fc j t o x (st:={ st with h:=T }) hs hd (λe st' ρ' w' I M z C=>?_));by_cases v:e= .nrm
   .subst v;exact ba (fc j t o y C z (hK.less I M))
   .rw [ld v] at z;exact fW v (hK e st' ρ' w' I M z C)
  unfold den at h;split at h
  .rename_i tm p q Y;obtain ⟨hl,S⟩:=aG h;obtain ⟨J,en⟩:=vY (tm:=tm) (m:=cH x) hl hs;generalize enter fr tm (cH x) st=f at S en;unfold ai at S;refine af6 (γ:=dZ (ga tm.vs)×ax) (λg w'=>den X tb tp y fr K (fO f tm g.1 q)=some r/\aT f.c J g.2/\Sat (ab g.2 [] (fO f tm g.1 q).G++(ab g.2 [] fr.H++Φ)) w') (λg=>au g.2 [] (fO f tm g.1 q).E fr.F) (λg w' hg=>?_) ?_
   .obtain ⟨g1,g2,g3⟩:=hg;refine fc j t o y g3 g1 (hK.less (en.ag.trans g2 en.le) ?_);have:f.c<=(fO f tm g.1 q).c:=by unfold fO;generalize eZ (λn=>f.c+n) f.fix tm.vs 0 (fK _ g.1)=L;obtain ⟨a,b,c,d⟩:=L;exact qs _ _
    exact ca en.le this
   .have hx:=fc j t o x (fr:=f.fr) (st:=⟨f.c,f.Et,f.Gt,p⟩) (ρ:=J) (Q:=Exit.then (O9 (λ(g:dZ (ga tm.vs)×ax) w'=>den X tb tp y fr K (fO f tm g.1 q)=some r/\aT f.c J g.2/\Sat (ab g.2 [] (fO f tm g.1 q).G++(ab g.2 [] fr.H++Φ)) w') (λg=>au g.2 [] (fO f tm g.1 q).E fr.F) fr.n D) Q) en.sat S (λe st' ρ' w' I M z C=>?_)
    .rw [en.fn] at hx;exact hx.lq _ en.sub
    .by_cases v:e= .nrm
     .subst v;have B:(match jF f tm st'.E st'.G with|some s=>den X tb tp y fr K (fO f tm s q)|none=>none)=some r:=z;split at B
      .rename_i s hb;obtain ⟨u,E',V,k,DD,b1,b2,b3,b4⟩:=mU en.lF en.lH en.fx C hb;have eJ:fO f tm s q=⟨f.c+k,E'++f.E,rowsOf V++f.G,q⟩:=by unfold fO;rw [b1]
       rw [en.fn];refine ald (s,u) ⟨B,I.trans b2 (bb _),?_⟩ ?_
       .rw [eJ];show Sat (ab u [] (rowsOf V++f.G)++_) w';rw [bh,aO];rw [en.fh,bh,aO] at b4;exact b4
       .rw [eJ];show iE (aE.env u [] (E'++f.E)++_) _;rw [en.ff] at b3;have e2:au u [] E' (f.E++fr.F)=aE.env u [] (E'++f.E)++aE.env u [] fr.F:=by show aE.env u [] E'++aE.env u [] (f.E++fr.F)=_;rw [l8,l8,aO]
        rw [<-e2,en.ff];exact b3
      .cases B
     .rw [ld v] at z;have:=sP hK en.ag en.le en.ff en.fh en.fn e st' ρ' w' I M z C;exact fW v this
  next T Y=>exact N T h
  .obtain ⟨st',k1,k2,k3,k4⟩:=aeu h;have hs':Sat (ab ρ [] st'.G++(ab ρ [] fr.H++Φ)) w:=by rw [k3];exact hs
   have W:iA Q D fr Φ st'.c ρ r K:=by rw [k2];exact hK
   refine WC.lq _ (k4 ρ []) (bp (fc j t o x (st:=st') hs' k1 (λe st2 ρ' w' I M z C=>?_)));by_cases v:e= .nrm
   .subst v;exact ba (fc j t o y C z (W.less I M))
   .rw [ld v] at z;exact fW v (W e st2 ρ' w' I M z C)
  .exact N st.h h
 | .loop c,Q,fr,K,st,ρ,w,hs,h,hK=>by
  unfold den at h;split at h
  .rename_i tm p Y;obtain ⟨hl,S⟩:=aG h;obtain ⟨J,en⟩:=vY (tm:=tm) (m:=cH c) hl hs;generalize enter fr tm (cH c) st=f at S en;split at S
   .rename_i s0 hb0;obtain ⟨u,E',V,k,DD,b1,b2,b3,b4⟩:=mU en.lF en.lH en.fx en.sat hb0;have Z:∀s E' V k DD,eZ (λn=>f.c+n) f.fix tm.vs 0 (fK _ s)=⟨E',V,k,DD⟩->cG f tm s p=⟨f.c+k,E',rowsOf V,p⟩:=λs E' V k DD hb=>by unfold cG;rw [hb]
    refine Pm (γ:=ax) (λs g w'=>aT f.c J g/\Sat (ab g [] (cG f tm s p).G++(ab g [] f.fr.H++Φ)) w') (λs g=>au g [] (cG f tm s p).E f.fr.F) S u ⟨b2,?_⟩ ?_ (λA s g w' U O=>?_)
    .rw [Z _ _ _ _ _ b1];exact b4
    .rw [Z _ _ _ _ _ b1];exact b3.trans en.sub
    .have hx:=fc j t o c (fr:=f.fr) (st:=cG f tm s p) (ρ:=g) (Q:=Exit.then (MU A r (λs g w'=>aT f.c J g/\Sat (ab g [] (cG f tm s p).G++(ab g [] f.fr.H++Φ)) w') (λs g=>au g [] (cG f tm s p).E f.fr.F) fr.n D) Q) O.2 U (λe st' ρ' w2 I M z C=>?_)
     .rw [en.fn] at hx;exact hx
     .have hc:f.c<=(cG f tm s p).c:=by unfold cG;generalize eZ (λn=>f.c+n) f.fix tm.vs 0 (fK _ s)=L;obtain ⟨a,b,c,d⟩:=L;exact qs _ _
      by_cases v:e= .nrm
      .subst v;have B:(match jF f tm st'.E st'.G with|some s=>A s|none=>none)=some r:=z;split at B
       .rename_i s' hb;obtain ⟨ρ3,E2,R2,k2,DD2,d1,d2,d3,d4⟩:=mU en.lF en.lH en.fx C hb;rw [en.fn];refine Mc s' ρ3 B ⟨(O.1.trans (I.less hc) (bb _)).trans d2 (bb _),?_⟩ ?_
        .rw [Z _ _ _ _ _ d1];exact d4
        .rw [Z _ _ _ _ _ d1];exact d3
       .cases B
      .rw [ld v] at z;have:=sP hK en.ag en.le en.ff en.fh en.fn e st' ρ' w2 (O.1.trans (I.less hc) (bb _)) (ca hc M) z C;exact fW v this
   .cases S
  .rename_i k T Y;refine Pm (γ:=ax) (λs g w'=>aT st.c ρ g/\st.c<=s.c/\Sat (ab g [] s.G++(ab g [] fr.H++Φ)) w') (λs g=>au g [] s.E fr.F) h ρ ⟨.refl,bb _,hs⟩ .refl (λA s g w' U O=>?_);refine fc j t o c (st:=s) O.2.2 U (λe st' ρ' w2 I M z C=>?_);by_cases v:e= .nrm
   .subst v;exact Mc st' ρ' z ⟨O.1.trans I O.2.1,ca O.2.1 M,C⟩ .refl
   .rw [ld v] at z;exact fW v (hK e st' ρ' w2 (O.1.trans I O.2.1) (ca O.2.1 M) z C)
  .cases h
 | .region id ops false,Q,fr,K,st,ρ,w,hs,h,hK=>by
  unfold den at h;split at h
  .exact aes (fr:=frL fr) (st:=stL fr st _) j t o (anU hs) h (alQ hK)
  .exact aes j t o hs h hK
 | .region id ops true,Q,fr,K,st,ρ,w,hs,h,hK=>by
  unfold den at h;split at h
  next th T Y=>exact Qy (st:={ st with h:=T }) j t o hs h hK
  .exact Qy j t o hs h hK
 | .scope _,Q,fr,K,st,ρ,w,hs,h,hK=>by unfold den at h;cases h
 | .rangeFunc _ _ _ _,Q,fr,K,st,ρ,w,hs,h,hK=>by unfold den at h;cases h
end
def l6(l:Nat):Code->Bool
 | .label j=>j==l
 | .seq x y=>l6 l x||l6 l y
 |_=>false
theorem anT{l:Nat}:(c:Code)->l6 l c=false->findLabel c l=none:=λc=>by
 induction c with
 |label j=>
  intro h;unfold l6 at h;unfold findLabel;rw [h];rfl
 |seq x y b a=>
  intro h;simp only [l6,qx] at h;simp only [findLabel,b h.1,a h.2]
 |_=>intro _;rfl
theorem aaM{l:Nat}:(c:Code)->l6 l c=true->∃r,findLabel c l=some r:=λc=>by
 induction c with
 |label j=>
  intro h;unfold l6 at h;unfold findLabel;rw [h];exact ⟨_,rfl⟩
 |seq x y b a=>
  intro h;simp only [l6,ck] at h;unfold findLabel;cases hx:findLabel x l with
  |some r=>exact ⟨_,rfl⟩
  |none=>
   rcases h with h|h
   .obtain ⟨r,d⟩:=b h;rw [hx] at d;cases d
   .exact a h
 |_=>intro h;cases h
def FC(P:Program)(ρ:vA)(l:Nat):Code->br->br
 | .seq x y,Q=>ay (l6 l x) (FC P ρ l x (Exit.then (y.wpIn (FW ρ) 0 P Q) Q)) (FC P ρ l y Q)
 |_,Q=>Q
theorem alh{P:Program}{ρ:vA}{l:Nat}:(c:Code)->{r:Code}->{Q:br}->{a:Act}->{w:World}->findLabel c l=some r->FC P ρ l c Q .normal a w->r.wpIn (FW ρ) 0 P Q a w:=λc=>by
 induction c with
 |label j=>
  intro r Q a w b h;unfold findLabel at b;split at b
  .cases b;exact wpIn_skip h
  .cases b
 |seq x y f e=>
  intro r Q a w b h;unfold FC at h;unfold findLabel at b;cases hx:l6 l x
  .rw [hx] at h;rw [anT x hx] at b;exact e b h
  .rw [hx] at h;obtain ⟨g,d⟩:=aaM x hx;rw [d] at b;cases b;exact wpIn_seq (f d h)
 |_=>intro r Q a w b h;cases b
def AF(l:Nat):Code->Nat
 | .seq x y=>ay (l6 l x) (Nat.lor (AF l x) (cH y)) (AF l y)
 |_=>0
def xQ(st:aC):aC:=match st.h with
 | .s h=>{ st with h:=h }
 |_=>st
abbrev gtk{R:Type}(l:Nat)(A:aC->Option R)(K:XE->aC->Option R):XE->aC->Option R
 | .gto j,st=>ay (Nat.beq j l) (A st) none
 |e,st=>K e st
def MD{R:Type}(X:Cx)(tb:List aq)(tp:List bH)(l:Nat)(fr:Fr):Code->(XE->aC->Option R)->aC->Option R
 | .seq x y,K,st=>ay (l6 l x) (MD X tb tp l fr x (uR (den X tb tp y fr K) K) st) (MD X tb tp l fr y K st)
 | .label _,K,st=>K .nrm st
 |_,_,_=>none
def KS{R:Type}(X:Cx)(tb:List aq)(tp:List bH)(l:Nat)(fr:Fr)(K:XE->aC->Option R)(KL:aC->Option R):Code->aC->Option R
 | .seq x y,st=>ay (l6 l x) (KS X tb tp l fr K KL x (xQ st)) (den X tb tp x fr (uR (λst=>KS X tb tp l fr K KL y st) K) (xQ st))
 | .label _,st=>KL st
 |_,_=>none
def akd{R:Type}(X:Cx)(tb:List aq)(tp:List bH)(c:Code)(fr:Fr)(K:XE->aC->Option R)(st:aC):Option R:=match st.h with
 | .n l (.j tm p q)=>ay (l6 l c) (
   KS X tb tp l fr (gtk l (λ_=>none) K) (λst1=>ay (st1.low fr) (
     match jF (enter fr tm (AF l c) st1) tm (enter fr tm (AF l c) st1).Et (enter fr tm (AF l c) st1).Gt with
     |some s=>az (λagain s=>MD X tb tp l (enter fr tm (AF l c) st1).fr c (gtk l (λst'=>match jF (enter fr tm (AF l c) st1) tm st'.E st'.G with
       |some s=>again s
       |none=>none) (λe st'=>K e (wj e (enter fr tm (AF l c) st1) st'))) (cG (enter fr tm (AF l c) st1) tm s q)) X.fl s
     |none=>none) none) c { st with h:=p }) none
 |_=>none
section
variable {X : Cx} {tb : List aq} {tp : List bH} {σ : vA} {D : tt} {R : Type} {r : R} {Φ : Ctx}
theorem afb{Q:br}{l n:Nat}{E:Env}{w:World}{e:XE}{ρ:ax}{J:Act->World->Prop}(a:∀j,e≠ .gto j)(h:J4 Q e ρ n D E w):J4 (Exit.jump l J Q) e ρ n D E w:=by cases e <;> first|exact ((a _) rfl).elim|exact h
theorem alb{l:Nat}(k:∀it∈X.Γ,it∈Φ)(o:∀e∈tb,e.Ok X.P X.Γ)(m:∀e∈tp,e.Ok X.P X.Γ):∀(c:Code) {Q:br} {fr:Fr} {K:XE->aC->Option R} {st:aC} {ρ:ax} {w:World},Sat (ab ρ [] st.G++(ab ρ [] fr.H++Φ)) w->
  MD X tb tp l fr c K st=some r->iA Q D fr Φ st.c ρ r K->∀a,Fits fr.n (au ρ [] st.E fr.F) a->a.defers=D->FC X.P σ l c Q .normal a w:=λc=>by
 induction c with
 |label j=>intro Q fr K st ρ w b h d a f hd;exact d .nrm st ρ w .refl (bb _) h b a f hd
 |seq x y i g=>
  intro Q fr K st ρ w b h d a f hd;unfold MD at h;unfold FC;cases hx:l6 l x
  .rw [hx] at h;exact g b h d a f hd
  .rw [hx] at h;refine i (Q:=Exit.then (y.wpIn (FW σ) 0 X.P Q) Q) b h (λe st' ρ' w' u t q s=>?_) a f hd;by_cases p:e= .nrm
   .subst p;exact ba (fc k o m y s q (d.less u t))
   .rw [ld p] at q;exact fW p (d e st' ρ' w' u t q s)
 |_=>intro Q fr K st ρ w b h;cases h
theorem aey{st:aC}:(xQ st).c=st.c/\(xQ st).E=st.E/\(xQ st).G=st.G:=by unfold xQ;split <;> exact ⟨rfl,rfl,rfl⟩
theorem ahY{l:Nat}(t:∀it∈X.Γ,it∈Φ)(v:∀e∈tb,e.Ok X.P X.Γ)(u:∀e∈tp,e.Ok X.P X.Γ){T:br}{fr:Fr}{K:XE->aC->Option R}{U:aC->Option R}{m:Nat}{ρ0:ax}(V:iA T D fr Φ m ρ0 r K):∀(c:Code) {Q:br} {st:aC} {ρ:ax} {w:World},
  (∀e (E:Env) (ρ:ax) w,e≠ .nrm->J4 T e ρ fr.n D E w->J4 Q e ρ fr.n D E w)->
  (∀st1 b w1,aT m ρ0 b->m<=st1.c->U st1=some r->Sat (ab b [] st1.G++(ab b [] fr.H++Φ)) w1->∀a,Fits fr.n (au b [] st1.E fr.F) a->a.defers=D->FC X.P σ l c Q .normal a w1)->
  l6 l c=true->aT m ρ0 ρ->m<=st.c->Sat (ab ρ [] st.G++(ab ρ [] fr.H++Φ)) w->
  KS X tb tp l fr K U c st=some r->WC X.P σ c Q fr.n D (au ρ [] st.E fr.F) w:=λc=>by
 induction c with
 |label j=>intro Q st ρ w i k _ ha hc o h;exact ZW (λa g hd=>k st ρ w ha hc h o a g hd)
 |seq x y s q=>
  intro Q st ρ w i k p ha hc o h;obtain ⟨O,N,M⟩:=aey (st:=st);unfold KS at h;cases hx:l6 l x
  .rw [hx] at h;simp only [l6,hx,qw] at p;refine bp ?_;have:=fc (σ:=σ) (D:=D) t v u x (fr:=fr) (st:=xQ st) (ρ:=ρ) (w:=w) (Q:=Exit.then (y.wpIn (FW σ) 0 X.P Q) Q) (by rw [M];exact o) h (λe st' ρ' w' L J I S=>?_)
   .rw [N] at this;exact this
   .rw [O] at L J;by_cases d:e= .nrm
    .subst d;refine ba (q i (λst1 b w1 C B A z a g hd=>?_) p (ha.trans L hc) (ca hc J) S I);have:=k st1 b w1 C B A z a g hd;unfold FC at this;rw [hx] at this;exact this
    .rw [ld d] at I;exact fW d (i _ _ _ _ d (V e st' ρ' w' (ha.trans L hc) (ca hc J) I S))
  .rw [hx] at h;refine bp ?_;have:=s (Q:=Exit.then (y.wpIn (FW σ) 0 X.P Q) Q) (st:=xQ st) (ρ:=ρ) (w:=w) (λe E ρ w f d=>fW f (i e E ρ w f d)) (λst1 b w1 C B A z a g hd=>?_) hx ha (by rw [O];exact hc) (by rw [M];exact o) h
   .rw [N] at this;exact this
   .have:=k st1 b w1 C B A z a g hd;unfold FC at this;rw [hx] at this;exact this
 |_=>intro Q st ρ w i k p;cases p
theorem anG{c:Code}{Q:br}{K:XE->aC->Option R}{st:aC}{ρ:ax}{w:World}(Y:∀it∈X.Γ,it∈Φ)(htb:∀e∈tb,e.Ok X.P X.Γ)(Z:∀e∈tp,e.Ok X.P X.Γ)(hs:Sat (ab ρ [] st.G++(ab ρ [] fr.H++Φ)) w)
  (h:akd X tb tp c fr K st=some r) (hK:iA Q D fr Φ st.c ρ r K):WC X.P σ (.scope c) Q fr.n D (au ρ [] st.E fr.F) w:=by
 unfold akd at h;split at h
 .rename_i l tm p q hh;obtain ⟨B,h0⟩:=aG h;obtain ⟨rest,v⟩:=aaM c B
  -- what holds at the label
  let F:En->(dZ (ga tm.vs)->Option R)->dZ (ga tm.vs)->Option R:=λf J s=>MD X tb tp l f.fr c (gtk l (λst'=>match jF f tm st'.E st'.G with
     |some s=>J s
     |none=>none) (λe st'=>K e (wj e f st'))) (cG f tm s q)
  let I:Nat->Act->World->Prop:=λm a w=>∃(f:En) (o:ax),(f.fr.F=f.E++fr.F/\f.fr.H=f.G++fr.H/\f.fr.n=fr.n/\aE.low f.c f.fr.F=true/\bA f.c f.fr.H=true/\(∀t q,f.fix t=some q->q.1.low f.c=true/\AV.bV f.c q.2=true))/\aT st.c ρ o/\st.c<=f.c/\
   MU (az (F f) m) r (λs (g:ax) w'=>aT f.c o g/\Sat (ab g [] (cG f tm s q).G++(ab g [] f.fr.H++Φ)) w') (λs g=>au g [] (cG f tm s q).E f.fr.F) fr.n D a w
  have i:∀m a w,I m a w->FC X.P σ l c (Exit.jump l (λC w'=>∃N<m,I N C w') Q) .normal a w:=by
   rintro m a w ⟨f,o,⟨ff,fh,fn,lF,lH,fx⟩,hag,hle,s,g,hm,hJ,hF,hD⟩;obtain ⟨N,rfl,hm'⟩:=Kg hm;have eL:∀s E' R' k DD,eZ (λn=>f.c+n) f.fix tm.vs 0 (fK _ s)=⟨E',R',k,DD⟩->cG f tm s q=⟨f.c+k,E',rowsOf R',q⟩:=λs E' R' k DD hb=>by unfold cG;rw [hb]
   have hc:f.c<=(cG f tm s q).c:=by unfold cG;generalize eZ (λn=>f.c+n) f.fix tm.vs 0 (fK _ s)=L;obtain ⟨a,b,c,d⟩:=L;exact qs _ _
   refine alb (σ:=σ) (D:=D) Y htb Z c (fr:=f.fr) (st:=cG f tm s q) (ρ:=g) (Q:=Exit.jump l (λC w'=>∃m''<N+1,I m'' C w') Q) hJ.2 hm' (λe st' ρ' w2 U T A S=>?_) a (by rw [fn];exact hF) hD;by_cases u:∃j,e= .gto j
   .obtain ⟨j,rfl⟩:=u;unfold gtk at A;obtain ⟨hj,O⟩:=aG A;have:=ah hj;subst this;dsimp only at O;split at O
    .rename_i s' hb;obtain ⟨V,E2,R2,k2,DD2,d1,d2,d3,d4⟩:=mU lF lH fx S hb;refine λa2' hf2 hd2=>⟨rfl,N,qd _,f,o,⟨ff,fh,fn,lF,lH,fx⟩,hag,hle,s',V,O,⟨(hJ.1.trans (U.less hc) (bb _)).trans d2 (bb _),?_⟩,?_,hd2⟩
     .rw [eL _ _ _ _ _ d1];exact d4
     .rw [fn] at hf2;show Fits fr.n (au V [] (cG f tm s' q).E f.fr.F) a2';rw [eL _ _ _ _ _ d1];exact hf2.lq d3
    .cases O
   .have z:∀j,e≠ .gto j:=λj hj=>u ⟨j,hj⟩;have M:K e (wj e f st')=some r:=by cases e <;> first|exact ((z _) rfl).elim|exact A
    exact afb z (sP hK hag hle ff fh fn e st' ρ' w2 (hJ.1.trans (U.less hc) (bb _)) (ca hc T) M S)
  refine λa hf hd=>Ue l I v ?_ (λm a w hI=>alh c v (i m a w hI))
  -- the way to the label
  have hK':iA (Exit.jump l (λa w=>∃m,I m a w) Q) D fr Φ st.c ρ r (gtk l (λ_=>none) K):=λe st1 ρ' w' U T A S=>by
   by_cases u:∃j,e= .gto j
   .obtain ⟨j,rfl⟩:=u;unfold gtk at A;obtain ⟨_,O⟩:=aG A;cases O
   .have z:∀j,e≠ .gto j:=λj hj=>u ⟨j,hj⟩;have M:K e st1=some r:=by cases e <;> first|exact ((z _) rfl).elim|exact A
    exact afb z (hK e st1 ρ' w' U T M S)
  refine ahY (σ:=σ) Y htb Z hK' c (Q:=Exit.jump l (λa w=>∃m,I m a w) Q) (st:={ st with h:=p }) (ρ:=ρ) (λ_ _ _ _ _ h=>h) (λst1 ρ' w' U T A S C hf' hd'=>?_) B .refl (bb _) hs h0 a hf hd;obtain ⟨hl,h2⟩:=aG A;obtain ⟨o,en⟩:=vY (tm:=tm) (m:=AF l c) hl S;generalize enter fr tm (AF l c) st1=f at h2 en;split at h2
  .rename_i s0 hb0;obtain ⟨W,E',R',k,DD,b1,b2,b3,b4⟩:=mU en.lF en.lH en.fx en.sat hb0;have eL:cG f tm s0 q=⟨f.c+k,E',rowsOf R',q⟩:=by unfold cG;rw [b1]
   have key:I X.fl C w':=by
    refine ⟨f,o,⟨en.ff,en.fh,en.fn,en.lF,en.lH,en.fx⟩,U.trans en.ag T,ca T en.le,s0,W,h2,⟨b2,?_⟩,?_,hd'⟩
    .rw [eL];exact b4
    .show Fits fr.n (au W [] (cG f tm s0 q).E f.fr.F) C;rw [eL];exact hf'.lq (b3.trans en.sub)
   have mono:∀(c:Code) (Q1 Q2:br),(∀e a w,Q1 e a w->Q2 e a w)->∀a w,FC X.P σ l c Q1 .normal a w->FC X.P σ l c Q2 .normal a w:=λc=>by
    induction c with
    |seq x y ihx ihy=>
     intro Q1 Q2 hq a w h;unfold FC at h ⊢;cases hx:l6 l x
     .rw [hx] at h;exact ihy Q1 Q2 hq a w h
     .rw [hx] at h;refine ihx _ _ (λe a w u=>?_) a w h;cases e with
      |normal=>exact wpIn_mono u hq
      |_=>exact hq _ _ _ u
    |_=>intro Q1 Q2 hq a w h;exact hq _ _ _ h
   exact mono c _ _ (λe a w u=>by
    cases e <;> first|exact u|exact ⟨u.1,let ⟨N,_,hI⟩:=u.2;⟨N,hI⟩⟩) C w' (i X.fl C w' key)
  .cases h2
 .cases h
end
end
end Go.Proofs.YtkedhpmpejhekaaGreatDoor
