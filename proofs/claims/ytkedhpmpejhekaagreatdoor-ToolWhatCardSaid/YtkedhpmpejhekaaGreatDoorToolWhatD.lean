/- Own texts for ToolWhat, cut and joined by a program. -/
import Derived.Test.YtkedhpmpejhekaaGreatDoorToolWhatC
set_option linter.all false
namespace Go.Proofs.YtkedhpmpejhekaaGreatDoor
noncomputable section
variable {d : Tmp} {x : Operand}
open Go.Lib
abbrev gone{R:Type}(g:GK)(k:Option R):Option R:=match g with
 |none=>k
 |some _=>none
theorem cM{R:Type}{r:R}{g:GK}{k:Option R}(h:gone g k=some r):g=none/\k=some r:=by
 cases g with
 |none=>exact ⟨rfl,h⟩
 |some _=>cases h
def ahn{R:Type}(X:Cx)(T:aA)(fr:Fr)(st:aB)(d:w4)(t:TypeId)(x y:Operand)(K:cz R):Option R:=match eR X.P t with
 |some e=>(match yC X.tys e with
  |some u=>(match jD X.P e with
   |some z=>(match bq T st.E fr.F none x with
    |some (.sl id)=>(match bq T st.E fr.F none y with
     |some b=>ay (Nat.beq z.1 u.n') (match pV (cr b.dX st.G) fr.H u b with
      |some ys=>(match dE (cr b.dX st.G) fr.H (lr id) with
       |some (.top j,.own _ u' e' xs _)=>ay (Nat.beq e e') (match pV.bX.asL u ⟨.l u',xs⟩ with
        |some xs=>K { st with c:=st.c+1,E:=cj d none (.int .i64 ((Nat.min ys.length xs.length:Nat):Int)) st.E,G:=(cr b.dX st.G).set j (.own id u e (wz xs ys) st.c) }
        |none=>none) none
       |_=>none)
      |none=>none) none
     |none=>none)
    |_=>none)
   |none=>none)
  |none=>none)
 |none=>none
def inO(n d:Nat):List (Nat×Nat)->Bool
 |[]=>false
 |x::l=>(Nat.beq x.1 n&&Nat.beq x.2 d)||inO n d l
def af4{R:Type}(X:Cx)(T:aA)(fr:Fr)(st:aB)(d:Tmp)(t:TypeId)(x:Operand)(lo hi:Option Operand)(K:cz R):Option R:=match eR X.P t with
 |some e=>(match jD X.P e with
  |some z=>(match bq T st.E fr.F none x with
   |some (.sl id)=>(match loA T st.E fr.F none lo with
    |some i=>(match hiA T st.E fr.F none hi with
     |some j=>(match dE st.G fr.H (lr id) with
      |some (.top k,.own _ u e' xs _)=>ay (Nat.beq z.1 u.n') (match lo,hi with
       |none,_=>aI (dp 0 (j.getD (xs.length:Int)) xs.length) (K { st with c:=st.c+1,E:=cj (some d) none (.sl st.c) st.E,G:=st.G.set k (.own st.c u e' (bC xs 0 (j.getD (xs.length:Int))) st.c) })
       |some _,none=>ay (Nat.beq z.1 1) (aI (dp i (xs.length:Int) xs.length) (K { st with c:=st.c+1,E:=cj (some d) none (.sl st.c) st.E,G:=st.G.set k (.own st.c u e' (bC xs i (xs.length:Int)) st.c) })) none
       |_,_=>none) none
      |_=>none)
     |none=>none)
    |none=>none)
   |_=>none)
  |none=>none)
 |none=>none
def alV{R:Type}(X:Cx)(T:aA)(fr:Fr)(st:aB)(d:Tmp)(t:TypeId)(x:Operand)(lo hi mx:Option Operand)(K:cz R):Option R:=match lo,hi,mx with
 |none,some y,some y3=>(match X.P.underlying t with
  |some (.array n e)=>(match yC X.tys e with
   |some u=>(match jD X.P e with
    |some z=>(match bq T st.E fr.F none x with
     |some (.ptr id 0)=>(match bq T st.E fr.F none y with
      |some (.int _ h)=>(match bq T st.E fr.F none y3 with
       |some (.int _ m)=>(match mz (wh id) st.G with
        |some (j,.box _ _ cs)=>ay ((h==(n:Int))&&(m==(n:Int))&&Nat.beq z.1 u.n') (match rdL st.G fr.H u n cs with
         |some xs=>K { st with c:=st.c+1,E:=cj (some d) none (.sl st.c) st.E,G:=st.G.set j (.sli none st.c u xs true) }
         |none=>none) none
        |_=>none)
       |_=>none)
      |_=>none)
     |_=>none)
    |none=>none)
   |none=>none)
  |_=>none)
 |_,_,_=>none
def afJ(X:Cx)(T:aA)(fr:Fr)(st:aB)(d:Tmp)(t:TypeId)(x y:Operand){R:Type}(K:cz R):Option R:=match X.P.underlying t with
 |some (.array n e)=>(match jD X.P e with
  |some z=>(match bq T st.E fr.F none x with
   |some (.adr id off)=>(match bq T st.E fr.F none y with
    |some (.int _ i)=>Wc i z.1 (λk=>K { st with E:=cj (some d) none (.adr id (off+k)) st.E }) n 0
    |_=>none)
   |some (.ptr id off)=>(match bq T st.E fr.F none y with
    |some (.int _ i)=>Wc i z.1 (λk=>K { st with E:=cj (some d) none (.ptr id (off+k)) st.E }) n 0
    |_=>none)
   |_=>none)
  |none=>none)
 |_=>none
def aox(P:Program)(t:TypeId):Bool:=match P.underlying t with
 |some (.func ..)=>true
 |_=>false
def afX{R:Type}(X:Cx)(T:aA)(fr:Fr)(st:aB)(d:Tmp)(t:TypeId)(len:Nat)(ps:List (Nat×Operand))(K:cz R):Option R:=match eR X.P t with
 |some e=>(match jD X.P e with
  |some z=>(match nQ T st.E fr.F none (ps.map (·.2)) with
   |some vs=>(match yB (λi=>some (i*z.1,z.1)) ((ps.map (·.1)).zip vs) (WE len (z.2.2.cells.toList.map iH)) with
    |some cs=>ay (aox X.P e&&Nat.beq z.2.2.cells.size z.1&&Nat.blt 0 (len*z.1)&&Nat.ble (len*z.1) 16777216&&AV.bV st.c cs) (K { st with c:=st.c+1,E:=cj (some d) none (.bs st.c len) st.E,G:= .box st.c e cs::st.G }) none
    |none=>none)
   |none=>none)
  |none=>none)
 |none=>none
def alL{R:Type}(X:Cx)(T:aA)(fr:Fr)(st:aB)(d:Tmp)(t:TypeId)(x y:Operand)(K:cz R):Option R:=match eR X.P t with
 |some e=>(match jD X.P e with
  |some z=>(match bq T st.E fr.F none x with
   |some (.bs id n)=>(match bq T st.E fr.F none y with
    |some (.int _ i)=>Wc i z.1 (λk=>K { st with E:=cj (some d) none (.ptr id k) st.E }) n 0
    |_=>none)
   |_=>none)
  |none=>none)
 |none=>none
def agH(P:Program)(t:TypeId)(nm:String):Option (FuncId×Bool):=match P.info? t with
 |some i=>(match i.methods.find? (·.name==nm) with
  |some m=>(match m.path.toList with
   |[]=>m.func
   |_=>none)
  |none=>none)
 |none=>none
def ao2:TypeDesc->Bool
 | .pointer _=>true
 |_=>false
def Io(X:Cx)(T:aA)(fr:Fr)(st:aB)(g:GK)(t:TypeId)(u:AV)(nm:String):Option (FuncId×AV):=match agH X.P t nm with
 |some (f,true)=>(match X.P.underlying t with
  |some (.pointer _)=>some (f,u)
  |_=>none)
 |some (f,false)=>(match X.P.underlying t with
  |some (.pointer e)=>(match wT T st.G fr.H g u with
   |some cs=>(match jN X.P e cs with
    |some v=>some (f,v)
    |none=>none)
   |none=>none)
  |some d=>ay (ao2 d) none (some (f,u))
  |none=>none)
 |none=>none
def Zm:List Xk->FuncId->Option Xk
 |[],_=>none
 |i::l,f=>match Nat.beq i.f f with
  |true=>some i
  |false=>Zm l f
def ajw{R:Type}(X:Cx)(T:aA)(fr:Fr)(st:aB)(g:GK)(d:w4)(f:FuncId)(args:List AV)(K:cz R)(els:Option R):Option R:=match Zm X.inl f with
 |none=>els
 |some i=>(match T with
  |[]=>gone g (i.run args fr.H st (λav st'=>K { st' with E:=cj d none av st.E,h:=st.h }))
  |_::_=>none)
def byT{R:Type}(k:TypeId->Option R)(t:TypeId):List TypeId->Option R
 |[]=>none
 |c::cs=>cond (Nat.beq t c) (k c) (byT k t cs)
section
variable {X : Cx} {R : Type} {r : R} {K : cz R} {T : aA} {fr : Fr} {st : aB} {g : GK} {ρ : ax} {Φ : Ctx} {w : World} {ty : TypeId} {pos : String} {af : xa} {gd : ti}
theorem abF:{l:List Xk}->{f:FuncId}->{i:Xk}->Zm l f=some i->i∈l/\i.f=f
 |[],_,_,h=>by cases h
 |j::l,f,i,h=>by
  unfold Zm at h;split at h
  next c=>cases h;exact ⟨bY .., ah c⟩
  .obtain ⟨b,a⟩:=abF h;exact ⟨aW _ b,a⟩
theorem am6{d:w4}{op:Op}{f:FuncId}{args:List AV}{c:Option R}(k:st.low fr=true)(t:Sat (ab ρ T st.G++(ab ρ T fr.H++Φ)) w)
  (e:Enters X.P f->T.get g=true->∀n a,Fits n (au ρ T st.E fr.F) a->(execOp a.eval ⟨d,op,ty,pos,af,gd⟩).run X.P w= .ok (.enter f (AV.ao ρ args).toArray) w) (h:ajw X T fr st g d f args K c=some r) (b:c=some r->iv X.P T g (au ρ T st.E fr.F) ⟨d,op,ty,pos,af,gd⟩ w (aV r K T fr st g d ρ Φ)):
  iv X.P T g (au ρ T st.E fr.F) ⟨d,op,ty,pos,af,gd⟩ w (aV r K T fr st g d ρ Φ):=by
 unfold ajw at h;split at h
 .exact b h
 .rename_i i hi;obtain ⟨s,q⟩:=abF hi;subst q;obtain ⟨A,z⟩:=X.inlOk i s;split at h
  .obtain ⟨rfl,x⟩:=cM h;refine .none_ (λn a u=> .inr (.inr ⟨i.f,AV.ao ρ args,e A aA.get_none n a u,(z r args fr.H st _ ρ Φ w t x).mono λv w' hv=>?_⟩));obtain ⟨ρ',st',av,p,j,o,m,l⟩:=hv;have y:=bc (T:=[]) j (aB.cw.1 k).2.2.2;exact aV.new (ρ':=ρ') (st':={ st' with E:=cj d none av st.E,h:=st.h }) k p j o rfl m (by rw [<-y];exact l)
  .cases h
theorem Z0{k:TypeId->Option R}{t:TypeId}:∀{cs:List TypeId},byT k t cs=some r->k t=some r
 |[],h=>by cases h
 |c::cs,h=>by
  unfold byT at h;rcases rX h with ⟨b,a⟩|⟨_,a⟩
  .rw [ah b];exact a
  .exact Z0 a
theorem aaN{P:Program}{t:TypeId}{nm:String}{q:FuncId×Bool}(h:agH P t nm=some q):Lx P t nm q.1 q.2:=by
 unfold agH at h;split at h
 .rename_i i hi;split at h
  .rename_i m a;split at h
   next hp=>unfold Lx;rw [hi];simp only [cm];rw [a];simp [hp,h]
   .cases h
  .cases h
 .cases h
theorem akH{t:TypeId}{u v:AV}{cs:List AV}{G H:List Row}(f:Sat (ab ρ T G++(ab ρ T H++Φ)) w)(hc:wT T G H g u=some cs)(h:jN X.P t cs=some v)(j:T.get g=true):
  ∃p,u.val ρ= .pointer (some p)/\(loadVar t p).run X.P w= .ok (v.val ρ) w:=by
 obtain ⟨p,hp,hc⟩:=Lw f hc j;refine ⟨p,hp,?_⟩;have m:jN X.P t (cs.drop 0)=some v:=by simpa using h
 obtain ⟨d,n,bytes,z,c1,o,b⟩:=lK (ρ:=ρ) m;cases hd:iX d
 .rw [hd] at b;simp only [mo,qA] at b;exact Ke c1 hd (hc.cell0 b)
 .unfold jN at h;rw [c1] at h;rcases dn h with ⟨_,a⟩|⟨e,_⟩
  .split at a
   .rename_i q i;obtain ⟨n,bytes,z⟩:=q;obtain ⟨l,k⟩:=aG a;cases k;have c:n<=cs.length:=cb l;simp only [AV.val];refine Kb c1 hd (cC i) (vs:=AV.ao ρ (cs.take n)) ?_ ?_
    .have:=hc.sub (us:=AV.ao ρ (cs.take n)) 0 (by rw [AV.jg,mj,bj,AV.bl,cx c])
     simpa [Addr.add] using this
    .rw [AV.bl,bj,cx c]
   .cases a
  .rw [hd] at e;cases e
theorem aba{t:TypeId}{u:AV}{nm:String}{q:FuncId×AV}(i:Sat (ab ρ T st.G++(ab ρ T fr.H++Φ)) w)(h:Io X T fr st g t u nm=some q):T.get g=true->Reach X.P w t (u.val ρ) nm q.1 (q.2.val ρ):=by
 unfold Io at h;split at h
 .rename_i f c;have b:=aaN c;split at h
  next e a=>cases h;exact λ_=>Reach.ptr b a
  .cases h
 .rename_i f c;have b:=aaN c;split at h
  .rename_i e a;split at h
   .rename_i cs hc;split at h
    next v hv=>cases h;intro k;obtain ⟨p,hp,j⟩:=akH i hc hv k;rw [hp];exact Reach.load b a j
    .cases h
   .cases h
  next d a=>obtain ⟨n,m⟩:=Mw h;cases m;exact λ_=>Reach.val b a (λe l=>by subst l;cases n)
  .cases h
 .cases h
theorem aes{t:TypeId}{y:Operand}(s:Sat (ab ρ T st.G++(ab ρ T fr.H++Φ)) w)(h:afJ X T fr st d t x y K=some r):
  Km X.P T none (au ρ T st.E fr.F) ⟨some d,.indexAddr t x y,ty,pos,af,gd⟩ w (aV r K T fr st none (some d) ρ Φ):=by
 unfold afJ at h;split at h
 .rename_i n e p;split at h
  .rename_i z o;obtain ⟨m,bytes,z⟩:=z;split at h
   .rename_i id off hx;split at h
    .rename_i k i l;obtain ⟨q,_,u,g,j⟩:=CY h;have f:=bD (ρ:=ρ) hx;have c:=bD (ρ:=ρ) l;simp only [AV.val] at f c;refine ⟨.pointer (some (((ρ id).a.add off).add (i.toNat*m))),λw'=>?_,?_⟩
     .rw [aA.get_none];exact yw (P:=X.P) (w:=w') (dst:=some d) (ty:=ty) (pos:=pos) (af:=af) (gd:=gd) p (cC o) f c (by
       intro _;subst g;exact vU.2 ⟨by omega,by omega⟩)
     .refine aV.ij (av:= .adr id (off+q*m)) j (bb _) rfl ?_ s;simp only [AV.val];rw [add_add,g];rfl
    .cases h
   .rename_i id off hx;split at h
    .rename_i k i l;obtain ⟨q,_,u,g,j⟩:=CY h;have f:=bD (ρ:=ρ) hx;have c:=bD (ρ:=ρ) l;simp only [AV.val] at f c;refine ⟨.pointer (some ((⟨(ρ id).b,off,none⟩:Addr).add (i.toNat*m))),λw'=>?_,?_⟩
     .rw [aA.get_none];exact yw (P:=X.P) (w:=w') (dst:=some d) (ty:=ty) (pos:=pos) (af:=af) (gd:=gd) p (cC o) f c (by
       intro _;subst g;exact vU.2 ⟨by omega,by omega⟩)
     .refine aV.ij (av:= .ptr id (off+q*m)) j (bb _) rfl ?_ s;simp only [AV.val];rw [add_plain,g];rfl
    .cases h
   .cases h
  .cases h
 .cases h
theorem akL{d:w4}{t:TypeId}{y:Operand}(J:st.low fr=true)(g:Sat (ab ρ T st.G++(ab ρ T fr.H++Φ)) w)(h:ahn X T fr st d t x y K=some r):
  iv X.P T none (au ρ T st.E fr.F) ⟨d,.call ⟨.builtin .copy,#[x,y],#[t,t]⟩,ty,pos,af,gd⟩ w (aV r K T fr st none d ρ Φ):=by
 unfold ahn at h;split at h
 .rename_i e V;split at h
  .rename_i u hu;split at h
   .rename_i z N;obtain ⟨n,bytes,z⟩:=z;split at h
    .rename_i id hx;split at h
     .rename_i b O;obtain ⟨h1,i⟩:=aG h;have R:n=u.rep.n:=(ah h1).trans u.AT.symm;have B:=cC N;subst R;have f:=oX (ids:=b.dX) (aB.cw.1 J).2.2.1;replace g:=iC (ids:=b.dX) g;generalize cr b.dX st.G=G at i f g;have o:=bD (ρ:=ρ) hx;have v:=bD (ρ:=ρ) O;simp only [AV.val] at o;split at i
      .rename_i ys q;have s:=Mq g q;split at i
       .rename_i j p u' e' k M U;obtain ⟨Z,D⟩:=aG i;have:=ah Z;subst this;split at D
        .rename_i xs A;obtain ⟨eu,ex⟩:=oO A;subst eu;simp only at ex;subst ex;obtain ⟨I,f2⟩:=bU U;have:p=id:=ah f2;subst this;have hi:=eZ (ρ:=ρ) (T:=T) (Φ:=ab ρ T fr.H++Φ) I;obtain ⟨L,_⟩:=g.at_ hi;obtain ⟨w',Q,Y,C,W⟩:=akx (P:=X.P) (ty:=ty) (w:=w) (t:=t) (bT V) B L s (λb hb=>Ctx.ir hi hb);have S:j<G.length:=(List.getElem?_eq_some_iff.1 I).1;have a:=ph f I;simp only [Row.low,ae,du] at a;refine .none_ (bE.gd (bE.lP (wX o v Q) (aV.new (ρ':=ρ.set st.c { cL with y:=⟨.l u',wz k ys⟩ }) (av:= .int .i64 ((Nat.min ys.length k.length:Nat):Int)) J D ax.aY (eb _) rfl (by simp only [AV.val]) ?_)));show Sat (ab _ T (G.set j _)++_) _;rw [eS S,bc ax.aY f];refine g.mN hi Y (λb hb=>?_) (λM' m _=>?_)
         .simp only [Row.item,ax.aY _ a.1] at hb;exact ⟨by rw [C];exact L.lt b hb,.inl hb⟩
         .simp only [Row.item,ax.aY _ a.1,ax.bA];exact ⟨W M' m,trivial⟩
        .cases D
       .cases i
      .cases i
     .cases h
    .cases h
   .cases h
  .cases h
 .cases h
theorem alf{t:TypeId}{len:Nat}{ps:Array (Nat×Operand)}(v:st.low fr=true)(u:Sat (ab ρ T st.G++(ab ρ T fr.H++Φ)) w)(h:afX X T fr st d t len ps.toList K=some r):
  iv X.P T none (au ρ T st.E fr.F) ⟨some d,.buildSlice t len ps,ty,pos,af,gd⟩ w (aV r K T fr st none (some d) ρ Φ):=by
 obtain ⟨ps⟩:=ps;simp only at h;unfold afX at h;split at h
 .rename_i e y;split at h
  .rename_i z s;obtain ⟨n,bytes,z⟩:=z;split at h
   .rename_i vs k;split at h
    .rename_i cs m;obtain ⟨o,A⟩:=aG h;simp only [ae] at o;obtain ⟨⟨⟨⟨_,D⟩,q⟩,C⟩,B⟩:=o;have c:z.cells.size=n:=ah D;have l:=cC s;have a:=vY (ρ:=ρ) m;rw [Bh,Pq,kr] at a;have g:0<n:=by
      have:0<len*n:=by simpa using q
      exact qU (λe=>by simp [e] at this)
     have j:ov n len z.cells.toList ((ps.map (·.1)).zip (AV.ao ρ vs))=some (AV.ao ρ cs).toArray:=by unfold ov;have p:=CT z.cells.toList (by simp [c];exact g) len;simp only [ca,c] at p;simp only [ca,c];rw [<-a,<-p]
     have i:gw (au ρ T st.E fr.F) true (ps.map (·.2)) (AV.ao ρ vs):=by simpa using fG (ρ:=ρ) k
     have f:=nB (P:=X.P) (w:=w) (dst:=some d) (ty:=ty) (pos:=pos) (af:=af) (bT y) l (zs:=z.cells.toList) (by simp) q C i j;refine .none_ (bE.gd (bE.lP f (aV.push (x:={ cL with b:=w.heap.size }) v A (by simp only [AV.val,ax.bA]) ?_)));simp only [Row.item,ax.bA];rw [AV.bR ax.aY _ B];exact u.push (dY _ _) (λb hb=>by
      have:b=w.heap.size:=by simpa [box] using hb
      subst this;simp) (λ_ _=>heap_alloc_new w _)
    .cases h
   .cases h
  .cases h
 .cases h
theorem ane{t:TypeId}{y:Operand}(A:Sat (ab ρ T st.G++(ab ρ T fr.H++Φ)) w)(h:alL X T fr st d t x y K=some r):
  iv X.P T none (au ρ T st.E fr.F) ⟨some d,.indexAddr t x y,ty,pos,af,gd⟩ w (aV r K T fr st none (some d) ρ Φ):=by
 unfold alL at h;split at h
 .rename_i e B;split at h
  .rename_i z u;obtain ⟨m,bytes,z⟩:=z;split at h
   .rename_i id n hx;split at h
    .rename_i k i v;obtain ⟨q,_,C,s,o⟩:=CY h;have c:=bD (ρ:=ρ) hx;have a:=bD (ρ:=ρ) v;simp only [AV.val] at c a;have j:aV r K T fr st none (some d) ρ Φ (.pointer (some ⟨(ρ id).b,q*m,none⟩)) w:=aV.ij (av:= .ptr id (q*m)) o (bb _) rfl (by simp only [AV.val]) A;have f:=Em (P:=X.P) (w:=w) (g:=true) (dst:=some d) (ty:=ty) (pos:=pos) (af:=af) (gd:=none) (bT B) (cC u) c a (p:=⟨(ρ id).b,q*m,none⟩) (λ_=>⟨_,_,_,rfl,by omega,by omega,by
      subst s;unfold Addr.add;split
      next l=>simp only [qe] at l;rw [l]
      .simp⟩)
     exact .none_ (bE.gd (bE.run f j))
    .cases h
   .cases h
  .cases h
 .cases h
abbrev Zs(E:Env)(z i:Int)(x:Option Operand):Prop:=match x with
 |none=>i=z
 |some y=>∃k,ar E true y (.int k i)
theorem alR{t:TypeId}{lo hi:Option Operand}(W:st.low fr=true)(V:Sat (ab ρ T st.G++(ab ρ T fr.H++Φ)) w)(h:af4 X T fr st d t x lo hi K=some r):
  iv X.P T none (au ρ T st.E fr.F) ⟨some d,.slice t x lo hi none,ty,pos,af,gd⟩ w (aV r K T fr st none (some d) ρ Φ):=by
 have S:=(aB.cw.1 W).2.2.1;unfold af4 at h;split at h
 .rename_i e he;split at h
  .rename_i z hz;obtain ⟨n,bytes,z⟩:=z;split at h
   .rename_i id hx;split at h
    .rename_i i Q;split at h
     .rename_i j hj;split at h
      .rename_i k o u e' xs Z hf;obtain ⟨h1,J⟩:=aG h;have hn:n=u.rep.n:=(ah h1).trans u.AT.symm;have O:=cC hz;subst hn;obtain ⟨Y,f2⟩:=bU hf;have:o=id:=ah f2;subst this;have B:=bD (ρ:=ρ) hx;simp only [AV.val] at B;have C:=eZ (ρ:=ρ) (T:=T) (Φ:=ab ρ T fr.H++Φ) Y;obtain ⟨R,_⟩:=V.at_ C;have hk:k<st.G.length:=(List.getElem?_eq_some_iff.1 Y).1;have f:=RA (ρ:=ρ) (len:=xs.length) hj;have a:=L7 (ρ:=ρ) Q;rw [aA.get_none] at f a;replace f:Zs (au ρ T st.E fr.F) (xs.length:Int) (j.getD (xs.length:Int)) hi:=f;replace a:Zs (au ρ T st.E fr.F) 0 i lo:=a;have I:∀{s q:Int} {p:fv} {L:x3},Zs (au ρ T st.E fr.F) 0 s lo->Zs (au ρ T st.E fr.F) (xs.length:Int) q hi->Qq (sl (ρ o).v) s q u.rep.n (sl p)->(∀b∈L,b∈sX (ρ o).v)->bJ u.rep e' (Ctx.M (ab ρ T st.G++(ab ρ T fr.H++Φ))) w (sl p) (bC xs s q) L->
         K { st with c:=st.c+1,E:=cj (some d) none (.sl st.c) st.E,G:=st.G.set k (.own st.c u e' (bC xs s q) st.c) }=some r->iv X.P T none (au ρ T st.E fr.F) ⟨some d,.slice t x lo hi none,ty,pos,af,gd⟩ w (aV r K T fr st none (some d) ρ Φ):=by
        intro s q p L q1 q2 A N g D;refine .none_ (bE.gd (bE.run (Da (lo:=lo) (hi:=hi) (bT he) O B (λ_=>R.len) q1 q2 (λ_=>A)) (aV.new (ρ':=ρ.set st.c { cL with v:=p,y:=⟨.l u,bC xs s q⟩ }) W D ax.aY (eb _) rfl (by simp only [AV.val,ax.bA]) ?_)));show Sat (ab _ T (st.G.set k _)++_) _;rw [eS hk,bc ax.aY S];refine V.mN C ((Ext.refl w).p9 _) (λb hb=>?_) (λM' m _=>?_)
        .simp only [Row.item,ax.bA] at hb;have:=g.canon.1 b hb;exact ⟨g.lt b this,.inl (N b this)⟩
        .simp only [Row.item,ax.bA];exact ⟨g.canon.2 _ _ (g.cJ (λ_ _=>rfl) m),trivial⟩
       split at J
       .obtain ⟨U,D⟩:=ej J;obtain ⟨p,A,g⟩:=R.apA U;exact I rfl f A (λb hb=>hb) g D
       .obtain ⟨h5,h6⟩:=aG J;obtain ⟨U,D⟩:=ej h6;obtain ⟨p,A,L,N,g⟩:=R.aps (ah h5) U;exact I a rfl A N g D
       .cases J
      .cases h
     .cases h
    .cases h
   .cases h
  .cases h
 .cases h
theorem amS{t:TypeId}{lo hi q:Option Operand}(A:st.low fr=true)(o:Sat (ab ρ T st.G++(ab ρ T fr.H++Φ)) w)(h:alV X T fr st d t x lo hi q K=some r):
  iv X.P T none (au ρ T st.E fr.F) ⟨some d,.slice t x lo hi q,ty,pos,af,gd⟩ w (aV r K T fr st none (some d) ρ Φ):=by
 have Q:=(aB.cw.1 A).2.2.1;unfold alV at h;split at h
 .rename_i y U;split at h
  .rename_i n e L;split at h
   .rename_i u Y;split at h
    .rename_i z I;obtain ⟨V,bytes,z⟩:=z;split at h
     .rename_i id hx;split at h
      .rename_i k Z J;split at h
       .rename_i W m i;split at h
        .rename_i j c S cs O;obtain ⟨B,p⟩:=aG h;simp only [ae,gy] at B;obtain ⟨⟨rfl,rfl⟩,h3⟩:=B;split at p
         next xs l=>obtain ⟨C,R⟩:=kE O;have:c=id:=ah R;subst this;have g:=bD (ρ:=ρ) hx;have f:=bD (ρ:=ρ) J;have a:=bD (ρ:=ρ) i;simp only [AV.val] at g f a;have hi:=eZ (ρ:=ρ) (T:=T) (Φ:=ab ρ T fr.H++Φ) C;have hb:eC w (ρ c).b S (AV.ao ρ cs):=o.at_ hi;obtain ⟨s,D⟩:=UL o n cs xs l;have N:j<st.G.length:=(List.getElem?_eq_some_iff.1 C).1;refine .none_ (bE.gd (bE.run (adx L (cC I) g f a) (aV.mN (x:={ cL with v:=(some ⟨(ρ c).b,0,none⟩,n,n) }) A N p (by simp only [AV.val,ax.bA];rfl) ?_)));refine o.mN hi ((Ext.refl w).p9 _) (λb hb=>by cases hb) (λM' m M=>?_);simp only [Row.item,ax.bA];exact λ_=>⟨bO.fresh hb (M _ (by simp [Row.item,box]) (λhb=>by cases hb)) s (D.mv m),λ_=>s.symm⟩
         .cases p
        .cases h
       .cases h
      .cases h
     .cases h
    .cases h
   .cases h
  .cases h
 .cases h
end
variable {d : w4} {tys : Array TypeId}
def ai4{R:Type}(X:Cx)(T:aA)(fr:Fr)(st:aB)(t:TypeId)(x y:Operand)(K:cz R):Option R:=match bq T st.E fr.F none x with
 |some (.ptr id off)=>(match bq T st.E fr.F none y with
  |some v=>acN X.P st t id off v K
  |none=>none)
 |some (.adr q off)=>(match bq T st.E fr.F none y with
  |some v=>abK X.P fr st t q off v K
  |none=>none)
 |_=>none
def amC{R:Type}(X:Cx)(T:aA)(fr:Fr)(st:aB)(g:GK)(d:Tmp)(t:TypeId)(x:Operand)(K:cz R):Option R:=match bq T st.E fr.F g x with
 |some (.adr q off)=>SP X T fr st g d t q off K
 |_=>none
def an6{R:Type}(X:Cx)(T:aA)(fr:Fr)(st:aB)(g:GK)(b:Builtin)(d:w4)(xs:u9)(ts:List TypeId)(K:cz R):Option R:=match b,xs,ts,d with
 | .append,[x,y],[t,u],some d=>gone g (ay (Nat.beq t u) (ajC X T fr st d t x y K) (aga X T fr st d t u x y K))
 | .unsafeSliceData,[x],_,some d=>gone g (Zx T fr st d x K)
 | .unsafeString,[x,y],[pt,_],some d=>gone g (agY X T fr st d pt x y K)
 | .copy,[x,y],[t,u],d=>gone g (ay (Nat.beq t u) (ahn X T fr st d t x y K) none)
 |_,_,_,_=>none
def ajV{R:Type}(X:Cx)(tb:List aq)(T:aA)(fr:Fr)(st:aB)(g:GK)(d:w4)(c:Callee)(xs:u9)(ts:List TypeId)(K:cz R):Option R:=match c with
 | .builtin b=>an6 X T fr st g b d xs ts K
 | .value fo=>(match bq T st.E fr.F g fo with
  |some (.fn f a b)=>(match nQ T st.E fr.F g xs with
   |some vs=>ajw X T fr st g d f (a++vs++b) K (tO T fr st g d f (a++vs++b) K tb)
   |none=>none)
  |some (.raw (.func (.methodOf it nm) ⟨[]⟩ ⟨[]⟩))=>(match X.P.underlying it with
   |some dI=>ay (fI dI) (match nQ T st.E fr.F g xs with
    |some (.ifc t u::vs)=>byT (λc=>match Io X T fr st g c u nm with
     |some q=>tO T fr st g d q.1 (q.2::vs) K tb
     |none=>none) t X.ks
    |_=>none) none
   |none=>none)
  |_=>none)
 | .invoke rc nm=>(match bq T st.E fr.F g rc with
  |some (.ifc t u)=>(match nQ T st.E fr.F g xs with
   |some vs=>(match u with
    | .agg []=>byT (λc=>match Io X T fr st g c u nm with
     |some q=>tO T fr st g d q.1 (q.2::vs) K tb
     |none=>none) t X.ks
    |_=>(match Io X T fr st g t u nm with
     |some q=>tO T fr st g d q.1 (q.2::vs) K tb
     |none=>none))
   |none=>none)
  |_=>none)
def opN{R:Type}(X:Cx)(tb:List aq)(T:aA)(fr:Fr)(st:aB)(g:GK)(op:Op)(dst:w4)(K:cz R):Option R:=match op,dst with
 | .indexAddr t x y,some d=>(match eR X.P t with
  |some _=>(match bq T st.E fr.F g x with
   |some (.bs _ _)=>gone g (alL X T fr st d t x y K)
   |_=>aha X T fr st g d t x y K)
  |none=>(match bq T st.E fr.F g x with
   |some (.gp _)=>Zv X T fr st g d t x y K
   |_=>gone g (afJ X T fr st d t x y K)))
 | .slice t x lo hi mx,some d=>(match eR X.P t with
  |some _=>(match mx with
   |none=>ay (inO fr.n d X.oc) (gone g (af4 X T fr st d t x lo hi K)) (aaq X T fr st g d t x lo hi none K)
   |mx=>aaq X T fr st g d t x lo hi mx K)
  |none=>(match bq T st.E fr.F g x with
   |some (.gp _)=>gone g (Wt X T fr st d t x lo hi mx K)
   |_=>gone g (alV X T fr st d t x lo hi mx K)))
 | .alloc t,some d=>gone g (ZQ X st d t K)
 | .box t x,some d=>gone g (aka T fr st d t x K)
 | .store t x y,none=>gone g (ai4 X T fr st t x y K)
 | .load t x,some d=>amC X T fr st g d t x K
 | .buildSlice t n ps,some d=>(match eR X.P t with
  |some e=>ay (aox X.P e) (gone g (afX X T fr st d t n ps.toList K)) (akA X T fr st g d t n ps.toList K)
  |none=>none)
 | .makeSlice t x y,some d=>gone g (afz X T fr st d t x y K)
 | .makeMap t none,some d=>gone g (ag7 X st d t K)
 | .mapUpdate t x y z,none=>gone g (agV X T fr st t x y z K)
 | .range t x,some d=>gone g (akJ X T fr st d t x K)
 | .next x true,some d=>gone g (alr T fr st d x K)
 | .convert s dt x,some d=>alx X T fr st g d s dt x K
 | .binOp op t x y _,some d=>gone g (akD X T fr st d op t x y K)
 | .call c,d=>ajV X tb T fr st g d c.callee c.args.toList c.argTypes.toList K
 |_,_=>none
def opD{R:Type}(X:Cx)(tb:List aq)(T:aA)(fr:Fr)(st:aB)(g:GK)(o:Oper)(K:cz R):Option R:=
 match agw X T st.E fr.F g o.op with
 |some cv=>GO cv.1 (g.map λ_=>T.get g) (K { st with E:=cj o.dst g cv.2 st.E })
 |none=>match agC X T st.E fr.F st.G fr.H g o.op with
  |some cv=>GO cv.1 (g.map λ_=>T.get g) (K { st with E:=cj o.dst g cv.2 st.E })
  |none=>ay (st.low fr) (opN X tb T fr st g o.op o.dst K) none
section
variable {X : Cx} {tb : List aq} {R : Type} {r : R} {K : cz R} {T : aA} {fr : Fr} {st : aB} {g : GK} {ρ : ax} {Φ : Ctx} {w : World} {ty : TypeId} {pos : String} {af : xa} {gd : ti}
theorem xd{d:w4}{op:Op}{f:FuncId}{args:List AV}(l:st.low fr=true)(j:Sat (ab ρ T st.G++(ab ρ T fr.H++Φ)) w)(a:∀it∈X.Γ,it∈Φ)
  (b:Enters X.P f->T.get g=true->∀n act,Fits n (au ρ T st.E fr.F) act->(execOp act.eval ⟨d,op,ty,pos,af,gd⟩).run X.P w= .ok (.enter f (AV.ao ρ args).toArray) w):∀{tb:List aq},(∀e∈tb,e.Ok X.P X.Γ)->tO T fr st g d f args K tb=some r->
  iv X.P T g (au ρ T st.E fr.F) ⟨d,op,ty,pos,af,gd⟩ w (aV r K T fr st g d ρ Φ)
 |[],_,h=>by cases h
 |e::tb,htb,h=>by
  unfold tO at h;rcases dn h with ⟨m,i⟩|⟨_,i⟩
  .split at i
   next o k=>subst i;have:=ah m;subst this;have c:=htb e (bY ..);exact aiS l j c a (b c.1) k
   .exact xd l j a b (λe c=>htb e (aW _ c)) i
  .exact xd l j a b (λe c=>htb e (aW _ c)) i
theorem akc{f:FuncId}{fo:Operand}{xs:u9}{a b vs:List AV}(p:st.low fr=true)(o:Sat (ab ρ T st.G++(ab ρ T fr.H++Φ)) w)(j:∀it∈X.Γ,it∈Φ)
  (m:bq T st.E fr.F g fo=some (.fn f a b)) (k:nQ T st.E fr.F g xs=some vs) {tb:List aq} (l:∀e∈tb,e.Ok X.P X.Γ) (h:tO T fr st g d f (a++vs++b) K tb=some r):
  iv X.P T g (au ρ T st.E fr.F) ⟨d,.call ⟨.value fo,xs.toArray,tys⟩,ty,pos,af,gd⟩ w (aV r K T fr st g d ρ Φ):=by
 have c:=aR (ρ:=ρ) m;have i:=fG (ρ:=ρ) k;simp only [AV.val] at c;refine xd p o j (λt q n u s=>?_) l h;rw [cY,cY];exact Du t c i s q
theorem abJ{k:Operand}{nm:String}{xs:u9}{t:TypeId}{u:AV}{vs:List AV}{q:FuncId×AV}(o:st.low fr=true)(l:Sat (ab ρ T st.G++(ab ρ T fr.H++Φ)) w)(c:∀it∈X.Γ,it∈Φ)
  (j:bq T st.E fr.F g k=some (.ifc t u)) (f:nQ T st.E fr.F g xs=some vs) (m:Io X T fr st g t u nm=some q) {tb:List aq} (i:∀e∈tb,e.Ok X.P X.Γ) (h:tO T fr st g d q.1 (q.2::vs) K tb=some r):
  iv X.P T g (au ρ T st.E fr.F) ⟨d,.call ⟨.invoke k nm,xs.toArray,tys⟩,ty,pos,af,gd⟩ w (aV r K T fr st g d ρ Φ):=by
 have a:=aR (ρ:=ρ) j;have b:=fG (ρ:=ρ) f;simp only [AV.val] at a;exact xd o l c (λv p n x s=>alU v a (aba l m) b s p) i h
theorem alQ{fo:Operand}{it:TypeId}{m:TypeDesc}{nm:String}{xs:u9}{t:TypeId}{u:AV}{vs:List AV}{q:FuncId×AV}(p:st.low fr=true)(l:Sat (ab ρ T st.G++(ab ρ T fr.H++Φ)) w)(c:∀it∈X.Γ,it∈Φ)
  (k:bq T st.E fr.F g fo=some (.raw (.func (.methodOf it nm) #[] #[]))) (j:X.P.underlying it=some m) (hd:fI m=true) (f:nQ T st.E fr.F g xs=some (.ifc t u::vs)) (o:Io X T fr st g t u nm=some q) {tb:List aq} (i:∀e∈tb,e.Ok X.P X.Γ) (h:tO T fr st g d q.1 (q.2::vs) K tb=some r):
  iv X.P T g (au ρ T st.E fr.F) ⟨d,.call ⟨.value fo,xs.toArray,tys⟩,ty,pos,af,gd⟩ w (aV r K T fr st g d ρ Φ):=by
 have b:=aR (ρ:=ρ) k;have a:=fG (ρ:=ρ) f;simp only [AV.val,AV.ao] at b a;exact xd p l c (λx s n y v=>ac1 x b j hd (aba l o) a v s) i h
theorem anO{c:Callee}{xs:Array Operand}{J:Array TypeId}(m:st.low fr=true)(l:Sat (ab ρ T st.G++(ab ρ T fr.H++Φ)) w)(o:∀it∈X.Γ,it∈Φ)(p:∀e∈tb,e.Ok X.P X.Γ)
  (h:ajV X tb T fr st g d c xs.toList J.toList K=some r):iv X.P T g (au ρ T st.E fr.F) ⟨d,.call ⟨c,xs,J⟩,ty,pos,af,gd⟩ w (aV r K T fr st g d ρ Φ):=by
 obtain ⟨xs⟩:=xs;obtain ⟨J⟩:=J;unfold ajV at h;split at h
 .unfold an6 at h;split at h
  .rename_i x y t u M k A;simp only at k A;subst k;subst A;obtain ⟨rfl,v⟩:=cM h;rcases dn v with ⟨B,j⟩|⟨_,j⟩
   .have:=ah B;subst this;exact anj m l j
   .exact ajs m l j
  next x M k=>simp only at k;subst k;obtain ⟨rfl,v⟩:=cM h;exact (ZN m l v).ok2
  next x y S it M k A=>simp only at k A;subst k;subst A;obtain ⟨rfl,v⟩:=cM h;exact akz m l v
  next x y t u k A=>simp only at k A;subst k;subst A;obtain ⟨rfl,v⟩:=cM h;obtain ⟨B,j⟩:=aG v;have:=ah B;subst this;exact akL m l j
  .cases h
 .split at h
  .rename_i f a b s;split at h
   next vs i=>refine am6 m l (λQ N n R O=>?_) h (λh=>akc m l o s i p h);have z:=aR (ρ:=ρ) s;have C:=fG (ρ:=ρ) i;simp only [AV.val] at z;rw [cY,cY];exact Du Q z C O N
   .cases h
  .rename_i it nm s;split at h
   .rename_i U L;obtain ⟨v,B⟩:=aG h;split at B
    .rename_i t u vs i;have j:=Z0 B;split at j
     next q I=>exact alQ m l o s L v i I p j
     .cases j
    .cases B
   .cases h
  .cases h
 .split at h
  .rename_i t u D;split at h
   .rename_i vs i;split at h
    .have j:=Z0 h;split at j
     next q I=>exact abJ m l o D i I p j
     .cases j
    .split at h
     next q I=>exact abJ m l o D i I p h
     .cases h
   .cases h
  .cases h
theorem aoU{op:Op}{dst:w4}(c:st.low fr=true)(b:Sat (ab ρ T st.G++(ab ρ T fr.H++Φ)) w)(d:∀it∈X.Γ,it∈Φ)(i:∀e∈tb,e.Ok X.P X.Γ)
  (h:opN X tb T fr st g op dst K=some r):iv X.P T g (au ρ T st.E fr.F) ⟨dst,op,ty,pos,af,gd⟩ w (aV r K T fr st g dst ρ Φ):=by
 unfold opN at h;split at h
 .split at h
  .split at h
   .obtain ⟨rfl,a⟩:=cM h;exact ane b a
   .exact (afk c b h).ok2
  .split at h
   .exact (acX c d b h).ok2
   .obtain ⟨rfl,a⟩:=cM h;exact (aes b a).ok2
 .split at h
  .split at h
   .rcases dn h with ⟨_,f⟩|⟨_,f⟩
    .obtain ⟨rfl,j⟩:=cM f;exact alR c b j
    .exact (Wp c b f).ok2
   .exact (Wp c b h).ok2
  .split at h
   .obtain ⟨rfl,a⟩:=cM h;exact anJ c d b a
   .obtain ⟨rfl,a⟩:=cM h;exact amS c b a
 .obtain ⟨rfl,a⟩:=cM h;exact ajd c b a
 .obtain ⟨rfl,a⟩:=cM h;exact amO c b a
 .obtain ⟨rfl,a⟩:=cM h;unfold ai4 at a;split at a
  .rename_i id off hx;split at a
   next v hv=>exact .none_ (aiL b hx hv a)
   .cases a
  .rename_i id off hx;split at a
   next v hv=>exact .none_ (ah5 c b hx hv a)
   .cases a
  .cases a
 .unfold amC at h;split at h
  next q off hx=>exact akk c b hx h
  .cases h
 .split at h
  .rcases dn h with ⟨_,f⟩|⟨_,f⟩
   .obtain ⟨rfl,j⟩:=cM f;exact alf c b j
   .exact ang c b f
  .cases h
 .obtain ⟨rfl,a⟩:=cM h;exact akl c b a
 .obtain ⟨rfl,a⟩:=cM h;exact ajA c b a
 .obtain ⟨rfl,a⟩:=cM h;exact akS b a
 .obtain ⟨rfl,a⟩:=cM h;exact anc c b a
 .obtain ⟨rfl,a⟩:=cM h;exact amN b a
 .exact am7 c b h
 .obtain ⟨rfl,a⟩:=cM h;exact anS b a
 .exact anO c b d i h
 .cases h
theorem aoq{o:Oper}(m:eD T st.E fr.F)(f:Sat (ab ρ T st.G++(ab ρ T fr.H++Φ)) w)(i:∀it∈X.Γ,it∈Φ)(j:∀e∈tb,e.Ok X.P X.Γ)
  (h:opD X tb T fr st g o K=some r):iv X.P T g (au ρ T st.E fr.F) o w (aV r K T fr st g o.dst ρ Φ):=by
 obtain ⟨dst,op,ty,pos,af,gd⟩:=o;unfold opD at h;simp only at h;split at h
 next cv b=>obtain ⟨d,c⟩:=oS h;exact Km.ok2 ⟨_,λw'=>acQ m b d,aV.ij c (bb _) rfl rfl f⟩
 .split at h
  next cv b=>obtain ⟨d,c⟩:=oS h;have k:=ZL (dst:=dst) (ty:=ty) (pos:=pos) (af:=af) (gd:=gd) f b d;have a:aV r K T fr st g dst ρ Φ (cv.2.val ρ) w:=aV.ij c (bb _) rfl rfl f;exact ⟨λl=>bE.run (by rwa [l] at k) a,λ_=>⟨_,a⟩⟩
  .obtain ⟨d,c⟩:=aG h;exact aoU d f i j c
end
def Row.gd:Row->GK
 | .sli g _ _ _ _|.elm g _ _|.kn g _ _ _ _ _ _=>g
 |_=>none
theorem Row.Bl{ρ:ax}{T T':aA}{r:Row}(h:T'.get r.gd=T.get r.gd):r.item ρ T'=r.item ρ T:=by cases r <;> simp only [Row.gd] at h <;> simp only [Row.item,h]
def AX(k:Nat×Bool)(g:GK):Bool:= !(GK.eq (some k) g)
def Hi(k:Nat×Bool):aE->Bool
 |[]=>true
 |x::E=>AX k x.2.1&&Hi k E
def QF(k:Nat×Bool):List Row->Bool
 |[]=>true
 |r::G=>AX k r.gd&&QF k G
def ahr(k:Nat×Bool):aA->Bool
 |[]=>true
 |x::T=>AX k (some x.1)&&AX k x.2.1&&ahr k T
theorem vp{k:Nat×Bool}{par:GK}{rj:Nat}{b:Bool}{T:aA}{g:GK}(h:AX k g=true):aA.get ((k,par,rj,b)::T) g=T.get g:=aA.PN h
theorem QA{ρ:ax}{k:Nat×Bool}{par:GK}{rj:Nat}{b:Bool}{T:aA}:{E:aE}->Hi k E=true->aE.env ρ ((k,par,rj,b)::T) E=aE.env ρ T E
 |[],_=>rfl
 |(t,g,v)::E,h=>by simp only [Hi,ae] at h;simp only [aE.env];rw [vp h.1,QA h.2]
theorem HA{ρ:ax}{k:Nat×Bool}{par:GK}{rj:Nat}{b:Bool}{T:aA}:{G:List Row}->QF k G=true->ab ρ ((k,par,rj,b)::T) G=ab ρ T G
 |[],_=>rfl
 |r::G,h=>by simp only [QF,ae] at h;simp only [ab,cq];rw [Row.Bl (vp h.1)];have:=HA (ρ:=ρ) (par:=par) (rj:=rj) (b:=b) (T:=T) h.2;simp only [ab] at this;rw [this]
theorem Ld{k:Nat×Bool}:{E:aE}->Hi k E=true->{t:Nat}->{x:GK×AV}->bw E t=some x->AX k x.1=true
 |[],_,_,_,h=>by cases h
 |(r,g,v)::E,h,t,x,hx=>by
  simp only [Hi,ae] at h;unfold bw at hx;rcases dn hx with ⟨_,a⟩|⟨_,a⟩
  .cases a;exact h.1
  .exact Ld h.2 a
def Qx(k:Nat×Bool):aA->Bool
 |[]=>false
 |x::T=>GK.eq (some k) (some x.1)||Qx k T
def mg(d:w4):aA->Bool
 |[]=>true
 |x::T=>(match d with
  |none=>true
  |some d=> !(Nat.beq d x.2.2.1))&&mg d T
def mO(ops:xc)(n:Nat)(T:aA):Prop:= ∀x,x∈T->(ops[x.1.1]?).bind (·.dst)=some x.2.2.1/\Nat.blt x.2.2.1 n=true
def FT(T:aA)(fr:Fr):Prop:=(∀x,x∈fr.F->T.get x.2.1=aA.get [] x.2.1)/\∀r,r∈fr.H->T.get r.gd=aA.get [] r.gd
def stepG{R:Type}(ops:xc)(T:aA)(fr:Fr)(st:aB)(o:Oper)(run:aA->GK->Option R):Option R:=
 ay (il o&&J9 fr.n o.dst) (match o.guard with
 |none=>ay ( mg o.dst T ) ( run T none ) none
 |some k=>ay ( Qx k T ) ( ay ( mg o.dst T ) ( run T (some k) ) none )<|match ops[k.1]? with
  |some oj=>(match oj.dst with
   |some rj=>(match dy st.E fr.F rj with
    |some (par,.bool b)=>ay ( Nat.blt rj fr.n&&Hi k st.E&&Hi k fr.F&&QF k st.G&&QF k fr.H&&ahr k T&&mg o.dst ((k,par,rj,b)::T) ) ( run ((k,par,rj,b)::T) (some k) ) none
    |_=>none)
   |none=>none)
  |none=>none) none
structure ais(ops:xc)(fr0 fr:Fr)(st:aB)(ρ:ax)(o:Oper)(T T':aA)(g:GK):Prop where
 pl:il o=true
 ds:J9 fr.n o.dst=true
 t1:eD T' st.E fr.F
 t2:mO ops fr.n T'
 ft:FT T' fr0
 ak:mg o.dst T'=true
 ee:aE.env ρ T' st.E=aE.env ρ T st.E
 ef:aE.env ρ T' fr.F=aE.env ρ T fr.F
 eg:ab ρ T' st.G=ab ρ T st.G
 eh:ab ρ T' fr.H=ab ρ T fr.H
 gg:o.guard=g
 gk:∀k,g=some k->∃rj par b,(ops[k.1]?).bind (·.dst)=some rj/\look (au ρ T' st.E fr.F) rj=some (T'.get par,.bool b)/\Nat.blt rj fr.n=true/\(T'.get par&&(b==k.2))=T'.get g
theorem afg{k:Nat×Bool}:{T:aA}->Qx k T=true->∃x,x∈T/\x.1=k
 |[],h=>by cases h
 |x::T,h=>by
  simp only [Qx,cp] at h;rcases h with h|h
  .have:=GK.eq_eq h;cases this;exact ⟨x,bY .., rfl⟩
  .obtain ⟨y,b,a⟩:=afg h;exact ⟨y,aW _ b,a⟩
theorem aeK{k:Nat×Bool}:{T:aA}->ahr k T=true->∀x,x∈T->AX k (some x.1)=true/\AX k x.2.1=true
 |[],_,x,h=>by cases h
 |y::T,h,x,hx=>by
  simp only [ahr,ae] at h;rcases List.mem_cons.1 hx with rfl|hx
  .exact h.1
  .exact aeK h.2 x hx
theorem afm{k:Nat×Bool}:{E:aE}->Hi k E=true->∀x,x∈E->AX k x.2.1=true
 |[],_,x,h=>by cases h
 |y::T,h,x,hx=>by
  simp only [Hi,ae] at h;rcases List.mem_cons.1 hx with rfl|hx
  .exact h.1
  .exact afm h.2 x hx
theorem aeo{k:Nat×Bool}:{E:List Row}->QF k E=true->∀x,x∈E->AX k x.gd=true
 |[],_,x,h=>by cases h
 |y::T,h,x,hx=>by
  simp only [QF,ae] at h;rcases List.mem_cons.1 hx with rfl|hx
  .exact h.1
  .exact aeo h.2 x hx
theorem acf{R:Type}{r:R}{ops:xc}{T:aA}{fr0 fr:Fr}{st:aB}{o:Oper}{run:aA->GK->Option R}{ρ:ax}(v:eD T st.E fr.F)(u:mO ops fr.n T)(y:fr0.F=fr.F)(w:∀r,r∈fr0.H->r∈fr.H)(q:FT T fr0)(h:stepG ops T fr st o run=some r):
  ∃T' g,run T' g=some r/\ais ops fr0 fr st ρ o T T' g:=by
 unfold stepG at h;obtain ⟨f,A⟩:=aG h;simp only [ae] at f;have ij:∀k x,x∈T->x.1=k->∃rj par b,(ops[k.1]?).bind (·.dst)=some rj/\look (au ρ T st.E fr.F) rj=some (T.get par,.bool b)/\Nat.blt rj fr.n=true/\(T.get par&&(b==k.2))=T.get (some k):=λk x hx m=>by subst m;obtain ⟨I,G⟩:=v x hx;obtain ⟨D,C⟩:=u x hx;exact ⟨x.2.2.1,x.2.1,x.2.2.2,D,by rw [fJ,I];simp [AV.val],C,by rw [G,Me]⟩
 split at A
 next p=>obtain ⟨t,d⟩:=aG A;exact ⟨T,none,d,⟨f.1,f.2,v,u,q,t,rfl,rfl,rfl,rfl,p,λk m=>by cases m⟩⟩
 .rename_i k p;rcases dn A with ⟨t,d⟩|⟨t,d⟩
  .obtain ⟨s,z⟩:=aG d;obtain ⟨x,hx,m⟩:=afg t;exact ⟨T,some k,z,⟨f.1,f.2,v,u,q,s,rfl,rfl,rfl,rfl,p,λM e=>by cases e;exact ij k x hx m⟩⟩
  .split at d
   .rename_i oj l;split at d
    .rename_i rj i;split at d
     .rename_i par b a;obtain ⟨s,z⟩:=aG d;simp only [ae] at s;obtain ⟨⟨⟨⟨⟨⟨L,K⟩,B⟩,P⟩,J⟩,O⟩,N⟩:=s;have j:AX k par=true:=by
       unfold dy at a;split at a
       next x hx=>cases a;exact Ld K hx
       .exact Ld B a
      have c:aA.get ((k,par,rj,b)::T) (some k)=(aA.get ((k,par,rj,b)::T) par&&vS k.2 b):=by rw [aA.aln,vp j]
      have ee:=QA (ρ:=ρ) (par:=par) (rj:=rj) (b:=b) (T:=T) K;have ef:=QA (ρ:=ρ) (par:=par) (rj:=rj) (b:=b) (T:=T) B;refine ⟨(k,par,rj,b)::T,some k,z,⟨f.1,f.2,λx hx=>?_,λx hx=>?_,⟨λx hx=>?_,λx hx=>?_⟩,N,ee,ef,HA P,HA J,p,λM e=>?_⟩⟩
      .rcases List.mem_cons.1 hx with rfl|hx
       .exact ⟨a,c⟩
       .obtain ⟨I,G⟩:=v x hx;obtain ⟨D,C⟩:=aeK O x hx;exact ⟨I,by rw [vp D,vp C];exact G⟩
      .rcases List.mem_cons.1 hx with rfl|hx
       .exact ⟨by simp [l,i],L⟩
       .exact u x hx
      .rw [vp (afm B x (y▸hx))];exact q.1 x hx
      .rw [vp (aeo J x (w x hx))];exact q.2 x hx
      .cases e;refine ⟨rj,par,b,by simp [l,i],?_,L,by rw [c,Me]⟩;rw [fJ,a];simp [AV.val]
     .cases d
    .cases d
   .cases d
theorem Xy{d:w4}:{T:aA}->mg d T=true->∀x,x∈T->∀(g:GK) (v:AV) (E F:aE),dy (cj d g v E) F x.2.2.1=dy E F x.2.2.1
 |[],_,x,h=>by cases h
 |y::T,h,x,hx=>λg v E F=>by
  simp only [mg,ae] at h;rcases List.mem_cons.1 hx with rfl|hx
  .cases d with
   |none=>rfl
   |some d=>
    have a:=h.1;simp only [de] at a;unfold dy;simp only [cj,bw,a]
  .exact Xy h.2 x hx g v E F
theorem eD.out{T:aA}{E F:aE}(h:eD T E F){d:w4}(ha:mg d T=true)(g:GK)(v:AV):eD T (cj d g v E) F:=λx hx=>by rw [Xy ha x hx];exact h x hx
theorem sS{ρ:ax}{T:aA}{g:GK}{v:AV}{E F:aE}:au ρ T (cj d g v E) F=oG d (T.get g) (v.val ρ) (au ρ T E F):=by cases d <;> rfl
section
variable {X : Cx} {tb : List aq} {σ : v7} {Q : br} {D : u6} {ops : xc} {rest : xc} {R : Type} {r : R} {T : aA} {fr : Fr} {st : aB} {ρ : ax} {Φ : Ctx} {w : World}
theorem ZS{fr0:Fr}{o:Oper}{K:aA->cz R}(O:eD T st.E fr.F)(N:mO ops fr.n T)(s:fr0.F=fr.F)(q:∀r,r∈fr0.H->r∈fr.H)(L:FT T fr0)(I:Sat (ab ρ T st.G++(ab ρ T fr.H++Φ)) w)(j:∀it∈X.Γ,it∈Φ)(l:∀e∈tb,e.Ok X.P X.Γ)
  (h:stepG ops T fr st o (λT g=>opD X tb T fr st g o (K T))=some r)
  (f:∀T' st' ρ' w',eD T' st'.E fr.F->mO ops fr.n T'->FT T' fr0->aT st.c ρ ρ'->st.c<=st'.c->K T' st'=some r->ab ρ' T' fr.H=ab ρ T fr.H->Sat (ab ρ' T' st'.G++(ab ρ' T' fr.H++Φ)) w'->WL X.P σ ops.toArray Q fr.n D rest (au ρ' T' st'.E fr.F) w'):
  WL X.P σ ops.toArray Q fr.n D (o::rest) (au ρ T st.E fr.F) w:=by
 obtain ⟨T',g,J,a⟩:=acf (ρ:=ρ) O N s q L h;have m:Sat (ab ρ T' st.G++(ab ρ T' fr.H++Φ)) w:=by rw [a.eg,a.eh];exact I
 have M:au ρ T st.E fr.F=au ρ T' st.E fr.F:=by rw [au,au,a.ee,a.ef]
 rw [M];have d:=aoq a.t1 m j l J;have i:∀v w',aV r (K T') T' fr st g o.dst ρ Φ v w'->WL X.P σ ops.toArray Q fr.n D rest (oG o.dst (T'.get g) v (au ρ T' st.E fr.F)) w':=λv w' hv=>by obtain ⟨ρ',st',av,C,B,A,t,z,y,x,u⟩:=hv;have:=f T' st' ρ' w' (by rw [t];exact a.t1.out a.ak g av) a.t2 a.ft B A C (x.trans a.eh) u;rw [t,sS,z,y] at this;exact this
 cases p:g with
 |none=>
  subst p;have:=i;rw [aA.get_none] at this;exact amF (d.1 aA.get_none) a.pl a.gg a.ds this
 |some k=>
  obtain ⟨rj,par,b,W,V,U,S⟩:=a.gk k p;subst p;exact ajy d.1 d.2 a.pl a.gg (by simpa using W) V U S a.ds i
end
def oW{α:Type}:Option α->Bool
 |none=>true
 |some _=>false
def kX(E0:aE):aE->aE
 |[]=>[]
 |x::E=>(match bw E0 x.1 with
  |some (none,_)=>ay (oW x.2.1) (x::kX E0 E) (kX E0 E)
  |_=>kX E0 E)
def jT:List Row->List Row
 |[]=>[]
 |r::G=>ay (oW r.gd) (r::jT G) (jT G)
def wo(T:aA)(st:aB):aB:=match T with
 |[]=>st
 |_::_=>{ st with E:=kX st.E st.E,G:=jT st.G }
theorem gm{t' t:Nat}{g:GK}{v:AV}{E:aE}(h:Nat.beq t' t=true):bw ((t',g,v)::E) t=some (g,v):=by simp only [bw,h]
theorem ek{t' t:Nat}{g:GK}{v:AV}{E:aE}(h:Nat.beq t' t=false):bw ((t',g,v)::E) t=bw E t:=by simp only [bw,h]
theorem Eb{d:aE}{t:Nat}:{E:aE}->{x:GK×AV}->bw (kX d E) t=some x->x.1=none/\(∃v,bw d t=some (none,v))/\((∃v,bw E t=some (none,v))->bw E t=some x)
 |[],x,h=>by cases h
 |(t',g',v')::E,x,h=>by
  unfold kX at h;have cJ:bw (kX d E) t=some x->(∀v,Nat.beq t' t=true->bw d t'≠some (none,v)\/g'≠none)->x.1=none/\(∃v,bw d t=some (none,v))/\((∃v,bw ((t',g',v')::E) t=some (none,v))->bw ((t',g',v')::E) t=some x):=λm i=>by
   obtain ⟨a,c,l⟩:=Eb m;refine ⟨a,c,λhv=>?_⟩;cases hb:Nat.beq t' t
   .rw [ek hb] at hv ⊢; exact l hv
   .exfalso;obtain ⟨j,g⟩:=c;obtain ⟨n,b⟩:=hv;rw [gm hb] at b;simp only [b0,n9] at b;have e:=ah hb;rcases i j hb with f|f
    .rw [e] at f;exact f g
    .exact f b.1
  dsimp only at h;split at h
  .rename_i v hv;cases a:oW g'
   .rw [a] at h;exact cJ h (λv _=> .inr (λe=>by rw [e] at a;cases a))
   .rw [a] at h;have c:bw ((t',g',v')::kX d E) t=some x:=h;cases hb:Nat.beq t' t
    .rw [ek hb] at c ⊢;exact Eb (E:=E) c
    .rw [gm hb] at c ⊢;cases c;have e:=ah hb;refine ⟨?_,⟨v,by rw [<-e];exact hv⟩,λ_=>rfl⟩;cases k:g' with
     |none=>rfl
     |some _=>rw [k] at a;cases a
  next i=>exact cJ h (λv hb=> .inl (λe=>i v e))
theorem Ox{a:aE}{t:Nat}{c:AV}(b:bw a t=some (none,c)):{E:aE}->{v:AV}->bw E t=some (none,v)->bw (kX a E) t=some (none,v)
 |[],v,h=>by cases h
 |(t',g',v')::E,v,h=>by
  unfold kX;cases hb:Nat.beq t' t
  .rw [ek hb] at h;have ih:=Ox b h;dsimp only;split
   .cases oW g'
    .exact ih
    .show bw ((t',g',v')::kX a E) t=_;rw [ek hb];exact ih
   .exact ih
  .rw [gm hb] at h;cases h;have e:=ah hb;subst e;dsimp only;rw [b];exact gm hb
def Zk(F E0:aE):aE->Bool
 |[]=>true
 |x::E=>(match bw E0 x.1 with
  |some (none,_)=>true
  |_=>oW (bw F x.1))&&Zk F E0 E
theorem abf{F c:aE}{t:Nat}:{E:aE}->{x:GK×AV}->Zk F c E=true->bw E t=some x->(∃v,bw c t=some (none,v))\/bw F t=none
 |[],x,_,h=>by cases h
 |(t',g',v')::E,x,hb,h=>by
  simp only [Zk,ae] at hb;cases b:Nat.beq t' t
  .rw [ek b] at h;exact abf hb.2 h
  .have e:=ah b;subst e;have a:=hb.1;split at a
   next v hv=>exact .inl ⟨v,hv⟩
   .cases d:bw F t' with
    |none=>exact .inr rfl
    |some y=>rw [d] at a;cases a
def Bm(T:aA)(fr:Fr)(st:aB):Bool:=match T with
 |[]=>true
 |_::_=>Zk fr.F st.E st.E
theorem ald{ρ:ax}{T:aA}{E:aE}(h:∀x,x∈E->T.get x.2.1=aA.get [] x.2.1):aE.env ρ T E=aE.env ρ [] E:=by
 induction E with
 |nil=>rfl
 |cons x E ih=>
  obtain ⟨t,g,v⟩:=x;simp only [aE.env];rw [h _ (bY ..),ih (λx hx=>h x (aW _ hx))]
theorem RC{ρ:ax}{T:aA}{G:List Row}(h:∀r,r∈G->T.get r.gd=aA.get [] r.gd):ab ρ T G=ab ρ [] G:=
 qD λr a=>Row.Bl (h r a)
theorem wg:{G:List Row}->∀r,r∈jT G->r.gd=none
 |[],r,h=>by cases h
 |y::G,r,h=>by
  unfold jT at h;cases a:oW y.gd
  .rw [a] at h;exact wg r h
  .rw [a] at h;rcases List.mem_cons.1 h with rfl|h
   .cases b:r.gd with
    |none=>rfl
    |some _=>rw [b] at a;cases a
   .exact wg r h
theorem yS{ρ:ax}{T:aA}{w:World}{B:Ctx}:∀{G:List Row} {A:Ctx},Sat (A++(ab ρ T G++B)) w->Sat (A++(ab ρ T (jT G)++B)) w
 |[],_,h=>h
 |r::G,A,h=>by
  unfold jT;cases oW r.gd
  .exact yS (G:=G) (Sat.yE h)
  .have a:Sat ((A++[r.item ρ T])++(ab ρ T G++B)) w:=by simpa [ab] using h
   have:=yS (G:=G) a;simpa [ab] using this
theorem HK{ρ:ax}{T:aA}{fr:Fr}{st:aB}{Φ:Ctx}{w:World}(k:Bm T fr st=true)(g:FT T fr)(f:Sat (ab ρ T st.G++(ab ρ T fr.H++Φ)) w):
  (wo T st).c=st.c/\iD (au ρ [] (wo T st).E fr.F) (au ρ T st.E fr.F)/\Sat (ab ρ [] (wo T st).G++(ab ρ [] fr.H++Φ)) w:=by
 cases T with
 |nil=>exact ⟨rfl,iD.refl,f⟩
 |cons x T=>
  refine ⟨rfl,λt p hp=>?_,?_⟩
  .have o:aE.env ρ (x::T) fr.F=aE.env ρ [] fr.F:=ald g.1;rw [au,EK] at hp ⊢;rw [o];cases b:look (aE.env ρ [] (wo (x::T) st).E) t with
   |none=>
    rw [b] at hp
    -- nothing kept: nothing told, or under a guard
    have:look (aE.env ρ (x::T) st.E) t=none:=by
     rw [rF] at b hp ⊢;cases j:bw st.E t with
     |none=>rfl
     |some y=>
      exfalso;have d:bw (kX st.E st.E) t=none:=by
       cases d:bw (kX st.E st.E) t with
       |none=>rfl
       |some z=>
        have:bw (wo (x::T) st).E t=some z:=d;rw [this] at b;cases b
      rcases abf k j with ⟨v,hv⟩|i
      .rw [Ox hv hv] at d;cases d
      .rw [i] at hp;cases hp
    rw [this];exact hp
   |some q=>
    rw [b] at hp;cases hp;rw [rF] at b;cases d:bw (wo (x::T) st).E t with
    |none=>rw [d] at b;cases b
    |some y=>
     rw [d] at b;obtain ⟨e,n,m⟩:=Eb d;have l:=m n;rw [rF,l];simp only [j5,b0] at b ⊢;rw [<-b,e,aA.get_none,aA.get_none]
  .have e:=yS (A:=[]) f;have u:ab ρ (x::T) (jT st.G)=ab ρ [] (jT st.G):=RC λr h=>by rw [wg r h,aA.get_none,aA.get_none]
   have s:ab ρ (x::T) fr.H=ab ρ [] fr.H:=RC g.2;rw [pc,u,s] at e;exact e
def Oh:Bool->Pt->List (Bool×Nat×Pt)->Type
 |true,_,_=>Empty
 |false,r,os=>eo (lh r++fT os)
abbrev aow{R:Type}:(nv:Bool)->(r:Pt)->(os:List (Bool×Nat×Pt))->Oh nv r os->(eo (lh r++fT os)->Option R)->Option R
 |true,_,_,x,_=>Empty.elim x
 |false,_,_,x,K=>K x
def isOk:(nv:Bool)->(r:Pt)->(os:List (Bool×Nat×Pt))->Oh nv r os->eo (lh r++fT os)->Prop
 |true,_,_,_,_=>False
 |false,_,_,x,q=>x=q
theorem amH{R:Type}{a:R}:{nv:Bool}->{r:Pt}->{os:List (Bool×Nat×Pt)}->{x:Oh nv r os}->{q:eo (lh r++fT os)}->{K:eo (lh r++fT os)->Option R}->isOk nv r os x q->aow nv r os x K=some a->K q=some a
 |true,_,_,_,_,_,h,_=>h.elim
 |false,_,_,_,_,_,rfl,h=>h
abbrev S5(p:Pt):Option Pt->Type
 |none=>eo (lh p)
 |some q=>eo (lh p) ⊕ eo (lh q)
abbrev acp{A B R:Type}(x:A ⊕ B)(f:A->R)(g:B->R):R:=match x with
 | .inl a=>f a
 | .inr b=>g b
def aj1(pp:Pt):(pq:Option Pt)->S5 pp pq->Value->eA->iM->List Nm->Prop
 |none,p,v,I,X,N=>Sem pp v none none [] (fK _ p) I X N
 |some _,.inl p,v,I,X,N=>Sem pp v none none [] (fK _ p) I X N
 |some q,.inr p,v,I,X,N=>Sem q v none none [] (fK _ p) I X N
structure bH where
 f:FuncId
 ps:List Pt
 pp:Pt
 pq:Option Pt
 nv:Bool
 lp:Bool
 r:Pt
 os:List (Bool×Nat×Pt)
 m:eo (lV ps)->Option (Except (S5 pp pq) (Oh nv r os))
def bH.oe(e:bH):aq:=⟨e.f,e.ps,e.r,e.os,λ_=>none⟩
def bH.S(e:bH)(vs:vq)(N:List Nm)(I:eA)(X:iM)(Φ:Ctx)(r:Except (S5 e.pp e.pq) (Oh e.nv e.r e.os))(v:Value)(w':World):Prop:=
 ∃x q,r= .ok x/\isOk e.nv e.r e.os x q/\∃(N1 N2:List Nm) (D1 D2:List bX) (I1 I2:eA) (X1 X2:iM),Sem e.r v none none N D1 I1 X1 N1/\Ee (Un N e.ps vs X) (λi=>vs[i]?) e.os N1 D2 I2 X2 N2/\D1++D2=fK _ q/\
  Sat ((dh I1++dh I2)++(eI I++Φ)) w'
def bH.Sp(e:bH)(I:eA)(Φ:Ctx)(r:Except (S5 e.pp e.pq) (Oh e.nv e.r e.os))(c:tt)(w':World):Prop:=
 ∃p,r= .error p/\∃(v:Value) (N1:List Nm) (I1:eA) (X1:iM),c=gG v/\aj1 e.pp e.pq p v I1 X1 N1/\Sat (dh I1++(ay e.lp [] (eI I)++Φ)) w'
def bH.Ok(P:Program)(Γg:Ctx)(e:bH):Prop:=Enters P e.f/\∀s r,e.m s=some r->∀(vs:vq) (N:List Nm) (I:eA) (X:iM) (Φ:Ctx) (w:World),
 tz e.ps vs [] [] [] (fK _ s) I X N->Sat (dh I++Φ) w->(∀it∈Γg,it∈Φ)->j3 P e.f vs w (e.S vs N I X Φ r) (e.Sp I Φ r)
theorem Sat.move{A B C:Ctx}{x:Item}{w:World}(h:Sat (A++x::(B++C)) w):Sat (A++(B++x::C)) w:=by
 refine h.yR (λj k=>(j<A.length/\k=j)\/(A.length<=j/\j<A.length+B.length/\k=j+1)\/(j=A.length+B.length/\k=A.length)\/(A.length+B.length<j/\k=j)) (λj jt a=>?_) (λj k q b m l=>by omega);by_cases e:j<A.length
 .rw [b7 e] at a;exact .inr ⟨j,jt,.inl ⟨e,rfl⟩,by rw [b7 e];exact a,bQ.refl⟩
 .rw [bZ (by omega)] at a;by_cases i:j<A.length+B.length
  .rw [b7 (by omega)] at a;refine .inr ⟨j+1,jt,.inr (.inl ⟨by omega,i,rfl⟩),?_,bQ.refl⟩;rw [bZ (by omega)];have:j+1-A.length=(j-A.length)+1:=by omega
   rw [this,b8,b7 (by omega)];exact a
  .rw [bZ (by omega)] at a;by_cases g:j=A.length+B.length
   .subst g;rw [show A.length+B.length-A.length-B.length=0 by omega] at a;simp at a;subst a;exact .inr ⟨A.length,x,.inr (.inr (.inl ⟨rfl,rfl⟩)),by simp,bQ.refl⟩
   .refine .inr ⟨j,jt,.inr (.inr (.inr ⟨by omega,rfl⟩)),?_,bQ.refl⟩;rw [bZ (by omega)];have f:j-A.length-B.length=(j-A.length-B.length-1)+1:=by omega
    rw [f,b8] at a;have d:j-A.length=(j-A.length-1)+1:=by omega
    rw [d,b8,bZ (by omega)];have c:j-A.length-1-B.length=j-A.length-B.length-1:=by omega
    rw [c];exact a
theorem Sat.swp{w:World}{B C:Ctx}:∀{A P:Ctx},Sat (P++(A++(B++C))) w->Sat (P++(B++(A++C))) w
 |[],_,h=>h
 |x::A,P,h=>by
  have c:Sat ((P++[x])++(A++(B++C))) w:=by simpa using h
  have b:=Sat.swp (A:=A) c;have a:Sat (P++x::(B++(A++C))) w:=by simpa using b
  exact a.move
def cZ:List Row->List Row
 |[]=>[]
 |r::G=>ay r.cE (r::cZ G) (cZ G)
abbrev FP(b:Bool)(H:List Row):List Row:=ay b (cZ H) H
theorem CZ{c:Nat}:{G:List Row}->bB c G=true->bB c (cZ G)=true
 |[],_=>rfl
 |r::G,h=>by
  simp only [bB,ae] at h;unfold cZ;cases r.cE
  .exact CZ h.2
  .show bB c (r::cZ G)=true;simp only [bB,ae];exact ⟨h.1,CZ h.2⟩
theorem anI{c:Nat}{b:Bool}{G:List Row}(h:bB c G=true):bB c (FP b G)=true:=by
 cases b
 .exact h
 .exact CZ h
theorem nW{r:Row}:{G:List Row}->r∈cZ G->r∈G/\r.cE=true
 |[],h=>by cases h
 |x::G,h=>by
  unfold cZ at h;cases hx:x.cE <;> rw [hx] at h
  .exact ⟨aW _ (nW h).1,(nW h).2⟩
  .rcases List.mem_cons.1 h with rfl|h
   .exact ⟨bY .., hx⟩
   .exact ⟨aW _ (nW h).1,(nW h).2⟩
theorem J0{G H:List Row}:cZ (G++H)=cZ G++cZ H:=by
 induction G with
 |nil=>rfl
 |cons r G ih=>
  show ay r.cE (r::cZ (G++H)) (cZ (G++H))=ay r.cE (r::cZ G) (cZ G)++cZ H;rw [ih];cases r.cE <;> rfl
theorem ahU{ρ:ax}{T:aA}{w:World}{Γ:Ctx}(h:Sat Γ w){H:List Row}(d:∀r∈H,r.item ρ T∈Γ):Sat (ab ρ T (cZ H)++Γ) w:=by
 refine h.akn _ (List.all_eq_true.2 λit a=>?_) ?_
 .obtain ⟨r,b,rfl⟩:=List.mem_map.1 a;exact Row.ahS (nW b).2
 .have:∀l:List Item,(∀it∈l,it.P Γ.M w)->agO Γ.M w l:=λl=>by
   induction l with
   |nil=>intro _;trivial
   |cons x l ih=>intro c;exact ⟨c x (bY ..),ih λit a=>c it (aW _ a)⟩
  refine this _ λit a=>?_;obtain ⟨r,b,rfl⟩:=List.mem_map.1 a;exact h.all _ (d r (nW b).1)
theorem anP{L:tj}{A B:Ctx}(h:∀i,some i∈L->i<A.length):∃a,hZ L (A++B)=a++B/\a.length=A.length:=by
 induction L with
 |nil=>exact ⟨A,rfl,rfl⟩
 |cons o L ih=>
  obtain ⟨a,c,b⟩:=ih (λi hi=>h i (aW _ hi));cases o with
  |none=>exact ⟨a,c,b⟩
  |some i=>
   refine ⟨a.set i fD,?_,by rw [si,b]⟩;show (hZ L (A++B)).set i fD=_;have:=h i (bY ..);rw [c,List.set_append_left _ _ (by omega)]
theorem Sat.J5{w:World}{B C:Ctx}:∀{A:Ctx},Sat (B++(A++C)) w->Sat (B++C) w
 |[],h=>h
 |_x::A,h=>Sat.J5 (A:=A) (Sat.yE h)
def JC{R:Type}(st:aB)(pp:Pt)(G1:List Row)(KP:AV->aB->Option R)(p:eo (lh pp)):Option R:=
 match fill (ry [] st.c) pp none none 0 (fK _ p) with
 |⟨v,R1,k,_,_⟩=>KP v { st with c:=st.c+k,G:=R1.map (·.2)++G1 }
abbrev aiw{R:Type}(st:aB)(pp:Pt):(pq:Option Pt)->(G1:List Row)->(KP:AV->aB->Option R)->S5 pp pq->Option R
 |none,G1,KP,p=>JC st pp G1 KP p
 |some q,G1,KP,p=>acp p (JC st pp G1 KP) (JC st q G1 KP)
def aaB{R:Type}(fr:Fr)(st:aB)(d:w4)(args:List AV)(e:bH)(KP:Bool->AV->aB->Option R)(K:cz R):Option (Option R):=
 match Gs (cr (dL st.G fr.H e.ps args) st.G) fr.H e.ps args [] [] [] with
  |some mr=>ay (Au (mr.S.map λx=>df (cr (dL st.G fr.H e.ps args) st.G) fr.H x.2)&&OS (cr (dL st.G fr.H e.ps args) st.G).length (xD (cr (dL st.G fr.H e.ps args) st.G) fr.H mr.S)&&OG st.c mr.B&&AV.bV st.c args&&PT st.c mr.X&&o7 (vg mr.B e.ps args mr.X) e.os) (match cD (lV e.ps) mr.D with
   |some s=>some (kS (e.m s) (aiw st e.pp e.pq (ay e.lp (cZ (cr (dL st.G fr.H e.ps args) st.G)) (jj (pd (xD (cr (dL st.G fr.H e.ps args) st.G) fr.H mr.S) 0 (cr (dL st.G fr.H e.ps args) st.G)))) (KP e.lp))
     (λx=>aow e.nv e.r e.os x (Ma fr st none d args e.oe mr (jj (pd (xD (cr (dL st.G fr.H e.ps args) st.G) fr.H mr.S) 0 (cr (dL st.G fr.H e.ps args) st.G))) K)))
   |none=>none) none
  |none=>none
def KW{R:Type}(fr:Fr)(st:aB)(d:w4)(f:FuncId)(args:List AV)(KP:Bool->AV->aB->Option R)(K:cz R):List bH->Option (Option R)
 |[]=>none
 |e::tp=>ay (Nat.beq e.f f) (match aaB fr st d args e KP K with
   |some r=>some r
   |none=>KW fr st d f args KP K tp) (KW fr st d f args KP K tp)
def afC{R:Type}(tp:List bH)(T:aA)(fr:Fr)(st:aB)(o:Oper)(KP:Bool->AV->aB->Option R)(K:cz R):Option (Option R):=match o.guard with
 |some _=>none
 |none=>(match o.op with
  | .panic x=>(match bq T st.E fr.F none x with
   |some (.ifc t v)=>some (KP false (.ifc t v) st)
   |_=>none)
  | .call c=>(match c.callee with
   | .value fo=>(match bq T st.E fr.F none fo with
    |some (.fn f a b)=>(match nQ T st.E fr.F none c.args.toList with
     |some vs=>ay (mg o.dst T&&J9 fr.n o.dst&&st.low fr) (KW fr st o.dst f (a++vs++b) KP K tp) none
     |none=>none)
    |_=>none)
   |_=>none)
  |_=>none)
section
variable {P : Program} {R : Type} {r : R} {K : cz R} {KP : Bool -> AV -> aB -> Option R} {b : Bool} {T : aA} {fr : Fr} {st : aB} {d : w4} {ρ : ax} {Φ Γg : Ctx} {w : World}
def acE(r:R)(KP:Bool->AV->aB->Option R)(T:aA)(fr:Fr)(st:aB)(ρ:ax)(Φ:Ctx)(v:Value)(w':World):Prop:=
 ∃(b:Bool) (ρ':ax) (st':aB) (av:AV),KP b av st'=some r/\aT st.c ρ ρ'/\st.c<=st'.c/\st'.E=st.E/\av.val ρ'=v/\Sat (ab ρ' T st'.G++(ab ρ' T (FP b fr.H)++Φ)) w'/\au ρ' T st.E fr.F=au ρ T st.E fr.F
theorem Hv{pp:Pt}{e:List Row}{p:eo (lh pp)}{v:Value}{w':World}{N1:List Nm}{l:eA}{w:iM}
  (t:st.low fr=true) (n:bB st.c e=true) (u:Sem pp v none none [] (fK _ p) l w N1)
  (z:Sat (dh l++(ab ρ T e++(ab ρ T (FP b fr.H)++Φ))) w') (h:JC st pp e (KP b) p=some r):acE r KP T fr st ρ Φ v w':=by
 have m:=sy _ _ _ _ _ _ _ _ _ u;have d:=XG (ρ:=ρ) (c:=st.c) (N:=[]) (B:=[]) (N2:=N1) .nil m rfl;have a:aT st.c ρ (λi=>ay (Nat.blt i st.c) (ρ i) ((N1[i-st.c]?).getD cL)):=λj D=>by
  have:Nat.blt j st.c=true:=by simpa using D
  simp only [this]
 generalize y:(λi=>ay (Nat.blt i st.c) (ρ i) ((N1[i-st.c]?).getD cL))=ρ' at d a;obtain ⟨g,s,q,o,f⟩:=Aa (T:=T) pp v none none [] (fK _ p) l w N1 u (Ez _) d (by simp) [];rw [eF,qf] at g s q o f;unfold JC at h;generalize fill (ry [] st.c) pp none none 0 (fK _ p)=L at g s q o f h;obtain ⟨x,G,k,J,I⟩:=L;simp only at g s q o f;dsimp only at h;have F:=bc (T:=T) a n;have E:=bc (T:=T) a (anI (b:=b) (aB.cw.1 t).2.2.2);refine ⟨b,ρ',_,x,h,a,qt _ _,rfl,g,?_,mB t a⟩;show Sat (ab ρ' T (G.map (·.2)++e)++(ab ρ' T (FP b fr.H)++Φ)) w';rw [bh,F,E,aO];exact Sat.leL (A:=[]) (B:=dh l) (C:=ab ρ T e++(ab ρ T (FP b fr.H)++Φ)) (by simpa using z) f.rw
theorem S2{pp:Pt}:{pq:Option Pt}->{a:List Row}->{p:S5 pp pq}->{v:Value}->{w':World}->{N1:List Nm}->{d:eA}->{e:iM}->
  st.low fr=true->bB st.c a=true->aj1 pp pq p v d e N1->Sat (dh d++(ab ρ T a++(ab ρ T (FP b fr.H)++Φ))) w'->aiw st pp pq a (KP b) p=some r->acE r KP T fr st ρ Φ v w'
 |none,_,_,_,_,_,_,_,hl,hG,h1,hs,h=>Hv hl hG h1 hs h
 |some _,_,.inl _,_,_,_,_,_,hl,hG,h1,hs,h=>Hv hl hG h1 hs h
 |some _,_,.inr _,_,_,_,_,_,hl,hG,h1,hs,h=>Hv hl hG h1 hs h
theorem aik{e:bH}{args:List AV}(Z:st.low fr=true)(n:Sat (ab ρ T st.G++(ab ρ T fr.H++Φ)) w)(he:e.Ok P Γg)(l:∀it∈Γg,it∈Φ)(h:aaB fr st d args e KP K=some (some r)):
  j3 P e.f (AV.ao ρ args) w (aV r K T fr st none d ρ Φ) (λc w'=>∃v,c=gG v/\acE r KP T fr st ρ Φ v w'):=by
 have E:=oX (ids:=dL st.G fr.H e.ps args) (aB.cw.1 Z).2.2.1;replace n:=iC (ids:=dL st.G fr.H e.ps args) n;unfold aaB at h;generalize cr (dL st.G fr.H e.ps args) st.G=a at E n h;have hd:=ahU n (H:=a++fr.H) (λr hr=>List.mem_append.2 ((List.mem_append.1 hr).imp (λh=>List.mem_map_of_mem h) (λh=>qz _ (List.mem_map_of_mem h))));replace hd:Sat (ab ρ T a++(ab ρ T fr.H++(ab ρ T (cZ (a++fr.H))++Φ))) w:=by exact Sat.swp (P:=ab ρ T a) (Sat.swp (P:=[]) hd)
 have O:=l;replace l:∀it∈Γg,it∈ab ρ T (cZ (a++fr.H))++Φ:=λit D=>c5 _ (O it D);generalize M:ab ρ T (cZ (a++fr.H))++Φ=g at hd l;have hdr:∀{A:Ctx} {w':World},Sat (A++g) w'->Sat (A++Φ) w':=λ{A w'} h=>by rw [<-M] at h;exact Sat.J5 h
 replace n:=hd;split at h
 .rename_i m hm;obtain ⟨h1,h2⟩:=aG h;simp only [ae] at h1;obtain ⟨⟨⟨⟨⟨h3,h4⟩,h5⟩,h6⟩,h7⟩,h9⟩:=h1;split at h2
  .rename_i s Q;simp only [b0] at h2;obtain ⟨N,I,s1,n1,a1⟩:=wQ n e.ps args [] [] [] m [] hm (.inl rfl) .nil;rw [<-Ab _ Q] at s1;obtain ⟨p1,p2⟩:=ML n a1;have o:=vu h3;obtain ⟨q1,_⟩:=vo n p1 o;have J:∀(L:tj) (G:List Row) (k:Nat),bB st.c G=true->bB st.c (jj (pd L k G))=true:=λL G=>by
    induction G with
    |nil=>intro k _;rfl
    |cons r G ih=>
     intro k W;simp only [bB,ae] at W;show bB st.c (jj ((ay (jq k L) .gone r)::pd L (k+1) G))=true;cases jq k L
     .cases r <;> first|exact ih (k+1) W.2|(simp only [jj,bB,ae];exact ⟨W.1,ih (k+1) W.2⟩)
     .exact ih (k+1) W.2
   have t:=J (xD a fr.H m.S) a 0 E;have R:∀it∈Γg,it∈hZ (m.S.map λx=>df a fr.H x.2) (ab ρ T a++(ab ρ T fr.H++g)):=λit D=>by
    obtain ⟨k,u⟩:=List.mem_iff_getElem?.1 (l it D);have hk2:(ab ρ T a++(ab ρ T fr.H++g))[a.length+fr.H.length+k]? =some it:=by
     rw [bZ (by simp [ab];omega),bZ (by simp [ab];omega)];have:a.length+fr.H.length+k-(ab ρ T a).length-(ab ρ T fr.H).length=k:=by simp [ab];omega
     rw [this];exact u
    refine n3 (i:=a.length+fr.H.length+k) ?_;rw [Ad,hk2];intro U;obtain ⟨x,_,hx⟩:=List.mem_map.1 U;have:=Pj hx;omega
   have y:=λrr hr=>he.2 s rr hr (AV.ao ρ args) N I (dB ρ m.X) _ w (by simpa only [AV.ao] using s1) q1 R;have j:∀{A:Ctx} {w':World},Sat (A++(eI I++hZ (m.S.map λx=>df a fr.H x.2) (ab ρ T a++(ab ρ T fr.H++g)))) w'->Sat (A++(ab ρ T (jj (pd (xD a fr.H m.S) 0 a))++(ab ρ T fr.H++Φ))) w':=λ{A w'} c4=>by have Y:=FA p2 o c4;rw [Qh a1,Ae h4] at Y;have c6:=Dd Y;rw [<-aO (ab ρ T (jj (pd (xD a fr.H m.S) 0 a))),<-aO A] at c6;have c7:=hdr c6;rwa [aO A,aO] at c7
   rcases agX h2 with ⟨p,hq,u⟩|⟨q,hq,u⟩
   .refine (y _ hq).mono (λv w' hv=>?_) (λc w' hv=>?_)
    .obtain ⟨x',q',z,_⟩:=hv;cases z
    .obtain ⟨p',C,v,N1,I1,X1,c1,c2,F⟩:=hv;cases C;refine ⟨v,c1,?_⟩;cases V:e.lp with
     |false=>rw [V] at F u;exact S2 (b:=false) Z t c2 (j F) u
     |true=>
      rw [V] at F u;obtain ⟨A',e1,_⟩:=anP (L:=m.S.map λx=>df a fr.H x.2) (A:=ab ρ T a++ab ρ T fr.H) (B:=g) (λi hi=>by obtain ⟨x,_,hx⟩:=List.mem_map.1 hi;have:=Pj hx;simp only [ab,cn,List.length_map];omega)
      rw [aO] at e1;rw [e1] at F;have Y:Sat (dh I1++g) w':=Sat.J5 (A:=A') F;rw [<-M,J0,bh,aO] at Y;exact S2 (b:=true) Z (CZ E) c2 Y u
   .refine (y _ hq).mono (λv w' hv=>?_) (λc w' hv=>?_)
    .obtain ⟨x',q',z,hi,N1,N2,D1,D2,I1,I2,X1,X2,c1,c2,F,c4⟩:=hv;cases z;exact JM (e:=e.oe) Z t n1 h5 h6 h7 h9 c1 c2 F aA.get_none (j c4) (.inl rfl) (amH hi u)
    .obtain ⟨p',C,_⟩:=hv;cases C
  .cases h2
 .cases h
theorem Kj{f:FuncId}{args:List AV}(j:st.low fr=true)(g:Sat (ab ρ T st.G++(ab ρ T fr.H++Φ)) w)(a:∀it∈Γg,it∈Φ):∀{tp:List bH},(∀e∈tp,e.Ok P Γg)->KW fr st d f args KP K tp=some (some r)->
  Enters P f/\j3 P f (AV.ao ρ args) w (aV r K T fr st none d ρ Φ) (λc w'=>∃v,c=gG v/\acE r KP T fr st ρ Φ v w')
 |[],_,h=>by cases h
 |e::tp,htp,h=>by
  unfold KW at h;rcases dn h with ⟨l,b⟩|⟨_,b⟩
  .split at b
   next m i=>cases b;have:=ah l;subst this;exact ⟨(htp e (bY ..)).1,aik j g (htp e (bY ..)) a i⟩
   .exact Kj j g a (λe k=>htp e (aW _ k)) b
  .exact Kj j g a (λe k=>htp e (aW _ k)) b
variable {σ : v7} {Q : br} {D : u6} {ops rest : xc} {tp : List bH}
theorem amg{o:Oper}(h1:eD T st.E fr.F)(U:Sat (ab ρ T st.G++(ab ρ T fr.H++Φ)) w)(M:∀it∈Γg,it∈Φ)(O:∀e∈tp,e.Ok P Γg)
  (h:afC tp T fr st o KP K=some (some r))
  (p:∀st' ρ' w',eD T st'.E fr.F->aT st.c ρ ρ'->st.c<=st'.c->K st'=some r->ab ρ' T fr.H=ab ρ T fr.H->Sat (ab ρ' T st'.G++(ab ρ' T fr.H++Φ)) w'->WL P σ ops.toArray Q fr.n D rest (au ρ' T st'.E fr.F) w')
  (g:∀b v st' ρ' w',aT st.c ρ ρ'->st.c<=st'.c->KP b v st'=some r->st'.E=st.E->au ρ' T st.E fr.F=au ρ T st.E fr.F->Sat (ab ρ' T st'.G++(ab ρ' T (FP b fr.H)++Φ)) w'->At Q (.panic (gG (v.val ρ'))) fr.n D (au ρ' T st'.E fr.F) w'):
  WL P σ ops.toArray Q fr.n D (o::rest) (au ρ T st.E fr.F) w:=by
 obtain ⟨dst,op,ty,pos,af,gd⟩:=o;unfold afC at h;split at h
 .cases h
 rename_i s;simp only at s;subst s;split at h
 .rename_i x j;simp only at j;subst j;split at h
  next t v hx=>have Z:=pa h;have m:=aR (ρ:=ρ) hx;rw [aA.get_none] at m;simp only [AV.val] at m;refine akE m ?_;have:=g false (.ifc t v) st ρ w .refl (bb _) Z rfl rfl U;simp only [AV.val] at this;exact this
  .cases h
 .rename_i c j;simp only at j;subst j;obtain ⟨A,xs,tys⟩:=c;obtain ⟨xs⟩:=xs;simp only at h;split at h
  .rename_i fo;split at h
   .rename_i f a b R;split at h
    .rename_i vs N;obtain ⟨V,h3⟩:=aG h;simp only [ae] at V;obtain ⟨⟨S,hd⟩,Y⟩:=V;obtain ⟨u,hc⟩:=Kj Y U M O h3;have d:=aR (ρ:=ρ) R;have i:=fG (ρ:=ρ) N;rw [aA.get_none] at d i;simp only [AV.val] at d;have k:AV.ao ρ (a++vs++b)=AV.ao ρ a++AV.ao ρ vs++AV.ao ρ b:=by rw [cY,cY]
     have y:∀v w',aV r K T fr st none dst ρ Φ v w'->WL P σ ops.toArray Q fr.n D rest (oG dst true v (au ρ T st.E fr.F)) w':=λv w' hv=>by obtain ⟨ρ',st',av,L,J,I,q,C,B,z,X⟩:=hv;have:=p st' ρ' w' (by rw [q];exact h1.out S none av) J I L z X;rw [q,sS,C,B,aA.get_none] at this;exact this
     have l:∀c w',(∃v,c=gG v/\acE r KP T fr st ρ Φ v w')->At Q (.panic c) fr.n D (au ρ T st.E fr.F) w':=λc w' hv=>by obtain ⟨v,rfl,W,ρ',st',av,L,J,I,q,C,B,z⟩:=hv;have:=g W av st' ρ' w' J I L q z B;rw [C,q,z] at this;exact this
     cases dst with
     |none=>exact ah9 u d i k hc y l
     |some dd=>exact aaC u d i k hd hc y l
    .cases h
   .cases h
  .cases h
 .cases h
end
theorem Sat.ajF{A B:Ctx}{x:Item}{w:World}(h:Sat (A++x::B) w):Sat (x::(A++B)) w:=by
 refine h.yR (λj k=>(j=0/\k=A.length)\/(0<j/\j<=A.length/\k+1=j)\/(A.length<j/\k=j)) (λj jt a=>?_) (λj k q b d c=>by omega);cases j with
 |zero=>
  simp only [c8,b0] at a;subst a;exact .inr ⟨A.length,x,.inl ⟨rfl,rfl⟩,by simp,bQ.refl⟩
 |succ j=>
  simp only [b8] at a;by_cases e:j<A.length
  .rw [b7 e] at a;exact .inr ⟨j,jt,.inr (.inl ⟨by omega,by omega,rfl⟩),by rw [b7 e];exact a,bQ.refl⟩
  .rw [bZ (by omega)] at a;refine .inr ⟨j+1,jt,.inr (.inr ⟨by omega,rfl⟩),?_,bQ.refl⟩;rw [bZ (by omega)];have:j+1-A.length=(j-A.length)+1:=by omega
   rw [this,b8];exact a
theorem Sat.apH{Γ:Ctx}{it new:Item}{w:World}(h:Sat (it::Γ) w)(a:∀b∈new.own,b∈it.own)(c:∀M',Mv (Ctx.M (it::Γ)) w M' w->new.P M' w):Sat (new::Γ) w:=by have:=h.mN (i:=0) (it:=it) (new:=new) (w':=w) rfl ⟨rfl,rfl,rfl,bb _,λ_ _ _=>rfl⟩ (λb hb=>⟨h.lt (Ctx.Ba.2 (.inl (a b hb))),.inl (a b hb)⟩) (λM' m _=>c M' m);simpa using this
def H3(X:Cx)(T:aA)(fr:Fr)(st:aB)(o:Oper):Option (TypeId×List AV×List AV):=match o.op,o.guard with
 | .alloc t,none=>(match ZF X.P t with
  |some cs=>some (t,[],cs)
  |none=>none)
 | .buildSlice t len ps,none=>(match eR X.P t with
  |some e=>(match jD X.P e with
   |some z=>(match nQ T st.E fr.F none (ps.toList.map (·.2)) with
    |some vs=>(match yB (λi=>some (i*z.1,z.1)) ((ps.toList.map (·.1)).zip vs) (WE len (z.2.2.cells.toList.map iH)) with
     |some cs=>ay ( Nat.beq z.2.2.cells.size z.1&&Nat.ble (len*z.1) 16777216&&(Nat.blt 0 (len*z.1)||Nat.beq len 0&&ps.toList.isEmpty) ) (some (e,vs,cs)) none
     |none=>none)
    |none=>none)
   |none=>none)
  |none=>none)
 |_,_=>none
theorem aai{X:Cx}{T:aA}{fr:Fr}{st:aB}{ρ:ax}{o:Oper}{e:TypeId}{vs cs:List AV}(h:H3 X T fr st o=some (e,vs,cs))(w:World):
  kC X.P (au ρ T st.E fr.F) o w (EC o w.heap.size) (w.alloc (.cells (AV.ao ρ cs).toArray e)):=by
 obtain ⟨dst,op,ty,pos,af,gd⟩:=o;unfold H3 at h;simp only at h;split at h
 .rename_i t;split at h
  .rename_i p a;cases h;unfold ZF at a;split at a
   next z k=>cases a;obtain ⟨n,b,z⟩:=z;have:=Gx (P:=X.P) (E:=au ρ T st.E fr.F) (w:=w) (dst:=dst) (ty:=ty) (pos:=pos) (af:=af) (zs:=z.cells.toList) (cC k) (by simp);rw [kr];exact this
   .cases a
  .cases h
 .rename_i t len ps;obtain ⟨ps⟩:=ps;split at h
  .rename_i e' q;split at h
   .rename_i z k;obtain ⟨n,bytes,z⟩:=z;split at h
    .rename_i s m;split at h
     .rename_i p a;obtain ⟨r,v⟩:=aG h;cases v;simp only [ae,cp] at r;obtain ⟨⟨A,y⟩,g⟩:=r;have f:z.cells.size=n:=ah A;have d:=fG (ρ:=ρ) m;rw [aA.get_none] at d;have c:=vY (ρ:=ρ) a;rw [Bh,Pq,kr] at c;rcases g with g|⟨g,u⟩
      .have i:0<n:=by
        have:0<len*n:=by simpa using g
        exact qU (λe=>by simp [e] at this)
       have j:ov n len z.cells.toList ((ps.map (·.1)).zip (AV.ao ρ vs))=some (AV.ao ρ cs).toArray:=by unfold ov;have l:=CT z.cells.toList (by simp [f];exact i) len;simp only [ca,f] at l;simp only [ca,f];rw [<-c,<-l]
       exact nB (P:=X.P) (w:=w) (dst:=dst) (ty:=ty) (pos:=pos) (af:=af) (bT q) (cC k) (zs:=z.cells.toList) (by simp) g y d j
      .have x:len=0:=ah g;subst x;have l:ps=[]:=by simpa using u
       subst l;have:cs=[]:=by simp only [List.map_nil,List.zip_nil_left,WE,List.replicate_zero,List.flatten_nil,yB,b0] at a;exact a.symm
       subst this;exact su (P:=X.P) (E:=au ρ T st.E fr.F) (w:=w) (dst:=dst) (ty:=ty) (pos:=pos) (af:=af) (bT q) (cC k)
     .cases h
    .cases h
   .cases h
  .cases h
 .cases h
def ajG{R:Type}(X:Cx)(T:aA)(fr:Fr)(st:aB)(o:Oper)(K:cz R):Option R:=match H3 X T fr st o,o.dst with
 |some p,some d=>(match o.op with
  | .buildSlice _ len _=>(match yC X.tys p.1 with
   |some u=>(match rdL (cr (AV.dX (.agg p.2.1)++(p.2.1.map AV.dX).flatten) st.G) fr.H u len p.2.2 with
    |some xs=>ay (st.low fr&&Nat.ble len 9223372036854775807) (K { st with c:=st.c+1,E:=cj (some d) none (.sl st.c) st.E,G:= .own st.c u p.1 xs st.c::cr (AV.dX (.agg p.2.1)++(p.2.1.map AV.dX).flatten) st.G }) none
    |none=>none)
   |none=>none)
  |_=>ay (st.low fr&&AV.bV st.c p.2.2) (ahm st d p.1 p.2.2 K) none)
 |_,_=>none
section
variable {X : Cx} {R : Type} {r : R} {K : cz R} {T : aA} {fr : Fr} {st : aB} {ρ : ax} {Φ : Ctx} {w : World}
theorem anQ{o:Oper}{b:Nat}{e':TypeId}{k:vq}(g:Sat (ab ρ T st.G++(ab ρ T fr.H++(box b e' k::Φ))) w)
  (J:∀e vs cs,H3 X T fr st o=some (e,vs,cs)->e'=e/\k=AV.ao ρ cs) (h:ajG X T fr st o K=some r):
  aV r K T fr st none o.dst ρ Φ (EC o b) w:=by
 obtain ⟨dst,op,ty,pos,af,gd⟩:=o;unfold ajG at h;simp only at h;split at h
 .rename_i p d hp;obtain ⟨e,vs,cs⟩:=p;obtain ⟨rfl,rfl⟩:=J _ _ _ hp;split at h
  .rename_i t len ps;split at h
   .rename_i u O;split at h
    .rename_i xs n;obtain ⟨B,A⟩:=aG h;simp only [ae] at B;obtain ⟨s,L⟩:=B;have z:=oX (ids:=AV.dX (.agg vs)++(vs.map AV.dX).flatten) (aB.cw.1 s).2.2.1;replace g:=iC (ids:=AV.dX (.agg vs)++(vs.map AV.dX).flatten) g;simp only at A;generalize cr (AV.dX (.agg vs)++(vs.map AV.dX).flatten) st.G=G at A z g n;obtain ⟨I,F⟩:=UL (ρ:=ρ) (T:=T) g _ _ _ n;have f:Sat ((ab ρ T G++ab ρ T fr.H)++box b e' (AV.ao ρ cs)::Φ) w:=by rw [aO];exact g
     have a:=f.ajF;have mv:Mv (Ctx.M (ab ρ T G++(ab ρ T fr.H++(box b e' (AV.ao ρ cs)::Φ)))) w (Ctx.M (box b e' (AV.ao ρ cs)::((ab ρ T G++ab ρ T fr.H)++Φ))) w:=Mv.weaken w λc hc=>by
      obtain ⟨it,hi,hb⟩:=hc;refine ⟨it,?_,hb⟩;simp only [qx,List.mem_append] at hi ⊢;rcases hi with h|(h|h)|h
      .exact .inr (.inr (.inl h))
      .exact .inl h
      .exact .inr (.inl h)
      .exact .inr (.inr (.inr h))
     refine aV.new (ρ':=ρ.set st.c { cL with v:=(some ⟨b,0,none⟩,len,len),y:=⟨.l u,xs⟩ }) (av:= .sl st.c) s A ax.aY (eb _) rfl (by simp only [AV.val,ax.bA];rfl) ?_;show Sat (ab _ T (_::G)++_) w;have e:=bc (T:=T) (ax.aY (ρ:=ρ) (j:=st.c) (x:={ cL with v:=(some ⟨b,0,none⟩,len,len),y:=⟨.l u,xs⟩ })) z;rw [ab,cq];rw [ab] at e;rw [e];have hb:eC w b e' (AV.ao ρ cs):=a.at_ (i:=0) rfl;have q:Sat ((Row.own st.c u e' xs st.c).item (ρ.set st.c { cL with v:=(some ⟨b,0,none⟩,len,len),y:=⟨.l u,xs⟩ }) T::((ab ρ T G++ab ρ T fr.H)++Φ)) w:=by
      refine a.apH (λc hc=>?_) (λM' m=>?_)
      .simp only [Row.item,ax.bA] at hc;exact y9 hc
      .simp only [Row.item,ax.bA];exact ⟨(bJ.of (fR.fresh hb I L (F.mv (mv.trans m)))).Ao,trivial⟩
     rw [aO] at q;exact q
    .cases h
   .cases h
  .rename_i C;obtain ⟨B,A⟩:=aG h;simp only [ae] at B;obtain ⟨s,E⟩:=B;have f:Sat ((ab ρ T st.G++ab ρ T fr.H)++box b e' (AV.ao ρ cs)::Φ) w:=by rw [aO];exact g
   have a:=f.ajF;rw [aO] at a;have N:EC ⟨some d,op,ty,pos,af,gd⟩ b= .pointer (some ⟨b,0,none⟩):=by
    unfold EC;split
    next D=>exact (C _ _ _ D).elim
    .rfl
   rw [N];refine aV.new (ρ':=ρ.set st.c { cL with b:=b }) (av:= .ptr st.c 0) s A ax.aY (eb _) rfl (by simp only [AV.val,ax.bA]) ?_;show Sat (ab _ T (_::st.G)++_) w;have e:=bc (T:=T) (ax.aY (ρ:=ρ) (j:=st.c) (x:={ cL with b:=b })) (aB.cw.1 s).2.2.1;rw [ab,cq];rw [ab] at e;rw [e];simp only [Row.item,ax.bA];rw [AV.bR ax.aY _ E];exact a
 .cases h
end
variable {o : Oper}
abbrev afT{R:Type}(fr:Fr)(KP:AV->aB->Option R)(T:aA)(v:AV)(st:aB):Option R:=ay (Bm T fr st) (KP v (wo T st)) none
def xP{R:Type}(X:Cx)(tb:List aq)(tp:List bH)(KP:Bool->AV->aB->Option R)(ops:xc)(fr:Fr):xc->aA->aB->cz R->Option R
 |[],T,st,K=>ay (Bm T fr st) (K (wo T st)) none
 |o::l,T,st,K=>match afC tp T fr st o (λb=>afT fr (KP b) T) (λst=>xP X tb tp KP ops fr l T st K) with
  |some q=>q
  |none=>stepG ops T fr st o λT g=>opD X tb T fr st g o λst=>xP X tb tp KP ops fr l T st K
section
variable {R : Type} {X : Cx} {tb : List aq} {tp : List bH} {KP : Bool -> AV -> aB -> Option R} {b : Bool} {σ : v7} {Q : br} {D : u6} {ops : xc} {r : R} {fr : Fr} {Φ : Ctx} {K : cz R}
theorem aeU{T:aA}{v:AV}{st:aB}{ρ:ax}{w:World}(d:FT T fr)(h:afT fr (KP b) T v st=some r)(j:Sat (ab ρ T st.G++(ab ρ T (FP b fr.H)++Φ)) w):
  ∃st',KP b v st'=some r/\st'.c=st.c/\iD (au ρ [] st'.E fr.F) (au ρ T st.E fr.F)/\Sat (ab ρ [] st'.G++(ab ρ [] (FP b fr.H)++Φ)) w:=by
 unfold afT at h;obtain ⟨e,l⟩:=aG h;have k:Bm T ⟨fr.F,FP b fr.H,fr.n⟩ st=true:=by unfold Bm at e ⊢;exact e
 obtain ⟨i,g,f⟩:=HK (fr:=⟨fr.F,FP b fr.H,fr.n⟩) k ⟨d.1,λr a=>d.2 r (by
  cases b
  .exact a
  .exact (nW a).1)⟩ j
 exact ⟨_,l,i,g,f⟩
theorem GC{rest:xc}(g:∀it∈X.Γ,it∈Φ)(m:∀e∈tb,e.Ok X.P X.Γ)(k:∀e∈tp,e.Ok X.P X.Γ):∀{l:xc} {T:aA} {st:aB} {ρ:ax} {w:World},eD T st.E fr.F->mO ops fr.n T->FT T fr->Sat (ab ρ T st.G++(ab ρ T fr.H++Φ)) w->
  xP X tb tp KP ops fr l T st K=some r->
  (∀st' ρ' w',aT st.c ρ ρ'->st.c<=st'.c->K st'=some r->Sat (ab ρ' [] st'.G++(ab ρ' [] fr.H++Φ)) w'->WL X.P σ ops.toArray Q fr.n D rest (au ρ' [] st'.E fr.F) w')->
  (∀b v st' ρ' w',aT st.c ρ ρ'->st.c<=st'.c->KP b v st'=some r->Sat (ab ρ' [] st'.G++(ab ρ' [] (FP b fr.H)++Φ)) w'->At Q (.panic (gG (v.val ρ'))) fr.n D (au ρ' [] st'.E fr.F) w')->
  WL X.P σ ops.toArray Q fr.n D (l++rest) (au ρ T st.E fr.F) w
 |[],T,st,ρ,w,h1,h2,p,hs,h,next,pnext=>by
  unfold xP at h;obtain ⟨U,S⟩:=aG h;obtain ⟨C,M,B⟩:=HK U p hs;exact λa p hd=>next _ ρ w .refl (by rw [C];exact bb _) S B a (p.lx M) hd
 |o::l,T,st,ρ,w,h1,h2,p,hs,h,next,pnext=>by
  unfold xP at h;split at h
  .rename_i q R;subst h;refine amg h1 hs g k R (λst' ρ' w' A y i J Y I=>?_) (λz v st' ρ' w' A N L W V y=>?_)
   .exact GC g m k A h2 p I J (λd f j x u t s=>next d f j (y.trans x i) (b9 i u) t s) (λz v d f j x u t s=>pnext z v d f j (y.trans x i) (b9 i u) t s)
   .obtain ⟨d,C,M,O,B⟩:=aeU p L y;exact (pnext z v d ρ' w' A (by omega) C B).lx _ O
  .exact ZS (K:=λT st=>xP X tb tp KP ops fr l T st K) h1 h2 rfl (λ_ h=>h) p hs g m h (λT' st' ρ' w' A N L y i J Y I=>
    GC g m k A N L I J (λd f j x u t s=>next d f j (y.trans x i) (b9 i u) t s) (λz v d f j x u t s=>pnext z v d f j (y.trans x i) (b9 i u) t s))
theorem Vb(f:∀it∈X.Γ,it∈Φ)(i:∀e∈tb,e.Ok X.P X.Γ)(g:∀e∈tp,e.Ok X.P X.Γ){l:xc}{T:aA}{st:aB}{ρ:ax}{w:World}(o:eD T st.E fr.F)(m:mO ops fr.n T)(k:FT T fr)(j:Sat (ab ρ T st.G++(ab ρ T fr.H++Φ)) w)
  (h:xP X tb tp KP ops fr l T st K=some r)
  (d:∀st' ρ' w',aT st.c ρ ρ'->st.c<=st'.c->K st'=some r->Sat (ab ρ' [] st'.G++(ab ρ' [] fr.H++Φ)) w'->At Q .normal fr.n D (au ρ' [] st'.E fr.F) w')
  (a:∀b v st' ρ' w',aT st.c ρ ρ'->st.c<=st'.c->KP b v st'=some r->Sat (ab ρ' [] st'.G++(ab ρ' [] (FP b fr.H)++Φ)) w'->At Q (.panic (gG (v.val ρ'))) fr.n D (au ρ' [] st'.E fr.F) w'):
  WL X.P σ ops.toArray Q fr.n D l (au ρ T st.E fr.F) w:=by
 have:=GC (σ:=σ) (Q:=Q) (D:=D) (rest:=[]) f i g o m k j h (λst' ρ' w' t s q p=>bS (d st' ρ' w' t s q p)) a;rwa [eF] at this
end
def kh(c:Nat):List AV->List AV×List Row×Nat
 |[]=>([],[],c)
 |v::vs=>match v with
  | .nv u=>match kh c vs with
   |(cs,R,c)=>(.nv u::cs,R,c)
  |v=>match kh (c+1) vs with
   |(cs,R,c')=>(.nv c::cs,.eq c v::R,c')
structure amA(c:Nat)(vs:List AV)(ρ ρ':ax)(x:List AV×List Row×Nat):Prop where
 ag:aT c ρ ρ'
 le:c<=x.2.2
 eq:AV.ao ρ' x.1=AV.ao ρ vs
 lw:AV.bV x.2.2 x.1=true
 rl:bB x.2.2 x.2.1=true
 rp:∀r∈x.2.1,(r.item ρ' []).cE=true/\∀M w,(r.item ρ' []).P M w
 rg:∀r∈x.2.1,r.gd=none
theorem wJ{c d:Nat}(a:c<=d):{G:List Row}->bB c G=true->bB d G=true
 |[],_=>rfl
 |r::G,h=>by simp only [bB,ae] at h ⊢;exact ⟨Row.fa a h.1,wJ a h.2⟩
theorem pZ{c:Nat}:{G H:List Row}->bB c G=true->bB c H=true->bB c (G++H)=true
 |[],_,_,h=>h
 |r::G,H,h,k=>by simp only [dk,bB,ae] at h ⊢;exact ⟨h.1,pZ h.2 k⟩
theorem G6:{vs:List AV}->{c:Nat}->{ρ:ax}->AV.bV c vs=true->∃ρ',amA c vs ρ ρ' (kh c vs)
 |[],c,ρ,h=>⟨ρ,.refl,bb _,rfl,rfl,rfl,(λ_ h=>by cases h),λ_ h=>by cases h⟩
 |v::vs,c,ρ,h=>by
  simp only [AV.bV,ae] at h;have a:(∀u,v≠ .nv u)->kh c (v::vs)=(match kh (c+1) vs with|(cs,R,f)=>(.nv c::cs,.eq c v::R,f))->∃ρ',amA c (v::vs) ρ ρ' (kh c (v::vs)):=λ_ e=>by
   have g:aT c ρ (ρ.set c { cL with x:=v.val ρ }):=ax.aY;obtain ⟨ρ',l⟩:=G6 (c:=c+1) (ρ:=ρ.set c { cL with x:=v.val ρ }) (AV.je (eb c) _ h.2);rw [e];generalize kh (c+1) vs=L at l;obtain ⟨cs,R,f⟩:=L;have d:aT c ρ ρ':=g.trans l.ag (eb _);have hx:(ρ' c).x=v.val ρ:=by rw [l.ag _ (qd _),ax.bA]
   have i:c+1<=f:=l.le;refine ⟨ρ',d,b9 (eb _) l.le,?_,?_,?_,?_,?_⟩
   .simp only [AV.ao,AV.val,hx];rw [l.eq,AV.bR g _ h.2]
   .simp only [AV.bV,AV.low,ae,du];exact ⟨by omega,l.lw⟩
   .simp only [bB,Row.low,ae,du];exact ⟨⟨by omega,AV.fa (by omega) _ h.1⟩,l.rl⟩
   .intro r b;rcases List.mem_cons.1 b with rfl|b
    .exact ⟨rfl,λM w=>by show (ρ' c).x=v.val ρ';rw [hx,AV.ka d _ h.1]⟩
    .exact l.rp r b
   .intro r b;rcases List.mem_cons.1 b with rfl|b
    .rfl
    .exact l.rg r b
  cases v with
  |nv u=>
   obtain ⟨ρ',l⟩:=G6 (c:=c) (ρ:=ρ) h.2;unfold kh;dsimp only;generalize kh c vs=L at l;obtain ⟨cs,R,f⟩:=L;refine ⟨ρ',l.ag,l.le,?_,?_,l.rl,l.rp,l.rg⟩
   .simp only [AV.ao];rw [l.eq,AV.ka l.ag _ h.1]
   .simp only [AV.bV,ae];exact ⟨AV.fa l.le _ h.1,l.lw⟩
  |_=>exact a (λu h=>by cases h) rfl
def ail{R:Type}(X:Cx)(T:aA)(fr:Fr)(st:aB)(g:GK)(op:Op)(dst:w4)(K:cz R):Option R:=match op,dst with
 | .indexAddr t x y,some d=>(match eR X.P t with
  |some _=>aha X T fr st g d t x y K
  |none=>(match bq T st.E fr.F g x with
   |some (.gp _)=>Zv X T fr st g d t x y K
   |_=>gone g (afJ X T fr st d t x y K)))
 | .slice t x lo hi mx,some d=>(match bq T st.E fr.F g x with
  |some (.gp _)=>gone g (Wt X T fr st d t x lo hi mx K)
  |_=>aaq X T fr st g d t x lo hi mx K)
 | .call ⟨.builtin .unsafeSliceData,⟨[x]⟩,_⟩,some d=>gone g (Zx T fr st d x K)
 | .call ⟨.builtin .len,⟨[x]⟩,⟨[t]⟩⟩,some d=>agP X T fr st g d t x K
 |_,_=>none
def abk{R:Type}(X:Cx)(T:aA)(fr:Fr)(st:aB)(g:GK)(o:Oper)(K:cz R):Option R:=
 match agw X T st.E fr.F g o.op with
 |some cv=>GO cv.1 (g.map λ_=>T.get g) (K { st with E:=cj o.dst g cv.2 st.E })
 |none=>match agC X T st.E fr.F [] fr.H g o.op with
  |some cv=>GO cv.1 (g.map λ_=>T.get g) (K { st with E:=cj o.dst g cv.2 st.E })
  |none=>ay (st.low fr) (ail X T fr st g o.op o.dst K) none
def bn(p:Row->Bool):List Row->List Row
 |[]=>[]
 |r::G=>ay (p r) (r::bn p G) (bn p G)
def cP(r:Row):Bool:= !r.cE
theorem Sat.wx{w:World}{B:Ctx}:∀{A:Ctx},Sat (A++B) w->Sat B w
 |[],h=>h
 |_x::A,h=>Sat.wx (A:=A) (Sat.yE (A:=[]) h)
section
variable {ρ : ax} {T : aA} {w : World}
theorem oP{p:Row->Bool}{H:List Row}{Φ:Ctx}:∀{G:List Row} {A:Ctx},Sat (A++(ab ρ T G++(ab ρ T H++Φ))) w->Sat (A++(ab ρ T (bn p G)++(ab ρ T (bn (λr=> !(p r)) G++H)++Φ))) w
 |[],_,h=>h
 |r::G,A,h=>by
  unfold bn;cases hp:p r
  .have b:Sat ((A++[r.item ρ T])++(ab ρ T G++(ab ρ T H++Φ))) w:=by simpa [ab] using h
   have a:=oP (p:=p) (G:=G) b;have c:Sat (A++r.item ρ T::(ab ρ T (bn p G)++(ab ρ T (bn (λr=> !(p r)) G++H)++Φ))) w:=by simpa using a
   exact c.move
  .have b:Sat ((A++[r.item ρ T])++(ab ρ T G++(ab ρ T H++Φ))) w:=by simpa [ab] using h
   have a:=oP (p:=p) (G:=G) b;simpa [ab] using a
end
abbrev mK(fr:Fr)(A:List Row)(st:aB):Fr:=⟨fr.F,bn (λr=> !(cP r)) st.G++(A++fr.H),fr.n⟩
abbrev stM(st:aB):aB:={ st with G:=bn cP st.G }
abbrev ud:=Nat×Nat×Nat×x3
def Mf:List AV->Option x3
 |[]=>some []
 |v::l=>(match v with
  | .nv u=>(match Mf l with
   |some us=>some (u::us)
   |none=>none)
  |_=>none)
def ach:List AV->x3->Bool
 |_,[]=>true
 |l,n::ns=>(match l with
  | .nv u::l=>Nat.beq u n&&ach l ns
  |_=>false)
def La(G:List Row):List ud->Bool
 |[]=>true
 |x::Pd=>(match mz (wh x.2.1) G with
  |some (_,.box _ _ cs)=> !(Nat.beq x.2.2.1 1000000000)&&ach (cs.drop x.2.2.1) x.2.2.2
  |_=>false)&&La G Pd
def pdF(G:List Row):List ud->Bool
 |[]=>true
 |x::Pd=>(Nat.beq x.2.2.1 1000000000||(match mz (wh x.2.1) G with
  |some (_,.box _ _ cs)=> !(Nat.beq x.2.2.1 1000000000)&&ach (cs.drop x.2.2.1) x.2.2.2
  |_=>false))&&pdF G Pd
def eO(ops:xc)(k:Nat):List ud->List ud
 |[]=>[]
 |x::Pd=>ay (waits .any ops.toArray k x.1) (eO ops k Pd) (x::eO ops k Pd)
def szA(P:Program)(t:TypeId):v7:=match P.underlying t with
 |some d=>ay (iX d) (match jD P t with
  |some z=>some z.1
  |none=>none) (some 1)
 |none=>none
def ahv{R:Type}(X:Cx)(T:aA)(fr:Fr)(st:aB)(g:GK)(k:Nat)(o:Oper)(K:List Row->ud->aB->Option R):Option (Option R):=match o.op,o.dst with
 | .load t x,some d=>(match bq T st.E fr.F g x with
  |some (.ptr id off)=>(match mz (wh id) st.G with
   |some (j,.box _ bt cs)=>some (match szA X.P t with
    |some n=>(match jN X.P t ((cs.drop off).map (rD st.G fr.H)) with
     |some v=>(match Mf (kh st.c ((cs.drop off).take n)).1 with
      |some us=>ay (st.low fr&&v.low st.c&&Nat.ble (off+n) cs.length&& !(Nat.beq off 1000000000)) (
        K (kh st.c ((cs.drop off).take n)).2.1 (k,id,off,us) { st with c:=(kh st.c ((cs.drop off).take n)).2.2,E:=cj (some d) g v st.E,G:=st.G.set j (.box id bt (sO cs off (kh st.c ((cs.drop off).take n)).1)) } ) none
      |none=>none)
     |none=>none)
    |none=>none)
   |_=>none)
  |_=>none)
 |_,_=>none
def amu(T:aA)(fr:Fr)(st:aB)(g:GK)(o:Oper):Option (Tmp×TypeId×Nat×Nat):=match o.op,o.dst with
 | .load t x,some d=>(match bq T st.E fr.F g x with
  |some (.adr q off)=>(match wT T [] fr.H g (.adr q off) with
   |some _=>none
   |none=>(match dE st.G fr.H (PA q) with
    |some _=>some (d,t,q,off)
    |none=>none))
  |_=>none)
 |_,_=>none
def Mm{R:Type}(X:Cx)(tb:List aq)(tp:List bH)(KP:AV->aB->Option R)(ops:xc)(fr:Fr)(A:List Row)(T:aA)(st:aB)(o:Oper)(K:aA->cz R):Option R:=
 match afC tp T (mK fr A st) (stM st) o (λb v st'=>ay b none (afT fr KP T v { st' with G:=st'.G++(bn (λr=> !(cP r)) st.G++A) })) (K T) with
 |some q=>q
 |none=>stepG ops T (mK fr A st) (stM st) o λT g=>opD X tb T (mK fr A st) (stM st) g o (K T)
def aoD(X:Cx)(T:aA)(fr:Fr)(st:aB)(ops:xc)(k:Nat)(fl:x3)(rest:OT)(f:Nat):Bool:=(match ops[f]? with
 |some o=>(match H3 X T fr st o,o.dst with
  |some _,some d=>il o&&Nat.blt d fr.n&&(match dy st.E fr.F d with|some _=>false|none=>true)&&(o.looksAt ops.toArray).all (λt=> !(Nat.beq t d))
  |_,_=>false)
 |none=>false)&&(k::rest.ops).all (λj=>nD ops.toArray j f)&&(fl++rest.SA).all (λj=>Nat.beq j f||nD ops.toArray j f)
def af7{R:Type}(X:Cx)(ops:xc)(fr:Fr)(T:aA):x3->aB->cz R->Option R
 |[],st,K=>K st
 |f::fs,st,K=>(match ops[f]? with
  |some o=>ay (mg o.dst T&& !(db f fs)) (ajG X T fr st o λst=>af7 X ops fr T fs st K) none
  |none=>none)
abbrev frA(fr:Fr)(A:List Row):Fr:=⟨fr.F,A++fr.H,fr.n⟩
def nr{R:Type}(X:Cx)(tb:List aq)(tp:List bH)(KP:AV->aB->Option R)(ops:xc)(fr:Fr):OT->List Row->List ud->aA->aB->cz R->Option R
 | .nil,A,_,T,st,K=>ay (Bm T fr { st with G:=st.G++A }) (K (wo T { st with G:=st.G++A })) none
 | .q k _ rest,A,Pd,T,st,K=>(match ops[k]? with
  |some o=>stepG ops T (mK fr A st) (stM st) o λT g=>match ahv X T (mK fr A st) (stM st) g k o (λR p st'=>nr X tb tp KP ops fr rest (R++(bn (λr=> !(cP r)) st.G++A)) (p::Pd) T st' K) with
   |some q=>q
   |none=>(match amu T (mK fr A st) (stM st) g o with
    |some p=>ay ((stM st).low (mK fr A st)) (SP X T (mK fr A st) (stM st) g p.1 p.2.1 p.2.2.1 p.2.2.2 λst'=>nr X tb tp KP ops fr rest (bn (λr=> !(cP r)) st.G++A) ((k,p.2.2.1,1000000000,[])::Pd) T st' K) none
    |none=>abk X T (mK fr A st) (stM st) g o λst'=>nr X tb tp KP ops fr rest (bn (λr=> !(cP r)) st.G++A) Pd T st' K)
  |none=>none)
 | .l k _ rest,A,Pd,T,st,K=>(match ops[k]? with
  |some o=>Mm X tb tp KP ops fr A T st o λT st'=>ay (La st'.G (eO ops k Pd)) (nr X tb tp KP ops fr rest (bn (λr=> !(cP r)) st.G++A) (eO ops k Pd) T st' K) none
  |none=>none)
 | .l2 _ k₁ r₁ k₂ r₂,A,Pd,T,st,K=>both
  (match ops[k₁]? with
  |some o=>Mm X tb tp KP ops fr A T st o λT st'=>ay (La st'.G (eO ops k₁ Pd)) (nr X tb tp KP ops fr r₁ (bn (λr=> !(cP r)) st.G++A) (eO ops k₁ Pd) T st' K) none
  |none=>none)
  (match ops[k₂]? with
  |some o=>Mm X tb tp KP ops fr A T st o λT st'=>ay (La st'.G (eO ops k₂ Pd)) (nr X tb tp KP ops fr r₂ (bn (λr=> !(cP r)) st.G++A) (eO ops k₂ Pd) T st' K) none
  |none=>none)
 | .f k _ fl fs rest,A,Pd,T,st,K=>ay (fl.all (aoD X T (frA fr A) st ops k fl rest)&&pdF st.G Pd) (af7 X ops (frA fr A) T fs st λst=>(match ops[k]? with
  |some o=>Mm X tb tp KP ops fr A T st o λT st'=>ay (La st'.G (eO ops k Pd)) (nr X tb tp KP ops fr rest (bn (λr=> !(cP r)) st.G++A) (eO ops k Pd) T st' K) none
  |none=>none)) none
section
variable {R : Type} {X : Cx} {tb : List aq} {tp : List bH} {KP : AV -> aB -> Option R} {σ : v7} {Q : br} {D : u6} {ops : xc} {r : R} {fr : Fr} {Φ : Ctx} {K : cz R}
theorem ajl{T:aA}{st:aB}{g:GK}{ρ:ax}{w:World}(i:∀it∈X.Γ,it∈Φ)(m:eD T st.E fr.F)(e:Sat (ab ρ T st.G++(ab ρ T fr.H++Φ)) w)(h:abk X T fr st g o K=some r):
  ∃(v:Value) (J:World->Prop),(∀w',(∃c,Sat (ab ρ T fr.H++c) w')->J w')/\(∀w',J w'->bg X.P (au ρ T st.E fr.F) (T.get g) o w' v)/\aV r K T fr st g o.dst ρ Φ v w:=by
 obtain ⟨dst,op,ty,pos,af,gd⟩:=o;unfold abk at h;simp only at h;have b:∀{O:Value->World->Prop},Km X.P T g (au ρ T st.E fr.F) ⟨dst,op,ty,pos,af,gd⟩ w O->∃(v:Value) (J:World->Prop),(∀w',(∃c,Sat (ab ρ T fr.H++c) w')->J w')/\(∀w',J w'->bg X.P (au ρ T st.E fr.F) (T.get g) ⟨dst,op,ty,pos,af,gd⟩ w' v)/\O v w:=λh=>by obtain ⟨v,d,a⟩:=h;exact ⟨v,λ_=>True,λ_ _=>trivial,λw' _=>d w',a⟩
 split at h
 next cv f=>obtain ⟨d,a⟩:=oS h;exact b ⟨_,λw'=>acQ m f d,aV.ij a (bb _) rfl rfl e⟩
 .split at h
  next cv f=>obtain ⟨d,a⟩:=oS h;refine ⟨_,λw'=>∃c,Sat (ab ρ T fr.H++c) w',λ_ h=>h,λw' l=>?_,aV.ij a (bb _) rfl rfl e⟩;obtain ⟨c,k⟩:=l;exact ZL (G:=[]) (Φ:=c) k f d
  .obtain ⟨d,a⟩:=aG h;unfold ail at a;split at a
   .split at a
    .exact b (afk d e a)
    .split at a
     .exact b (acX d i e a)
     .obtain ⟨rfl,j⟩:=cM a;exact b (aes e j)
   .split at a
    .obtain ⟨rfl,j⟩:=cM a;exact b (amL d i e j)
    .exact b (Wp d e a)
   .obtain ⟨rfl,j⟩:=cM a;exact b (ZN d e j)
   .exact b (alI e a)
   .cases a
def BF(ρ:ax)(x:ud)(w:World):Prop:=Nat.beq x.2.2.1 1000000000=false/\∃cs t,eC w (ρ x.2.1).b t cs/\(cs.drop x.2.2.1).take x.2.2.2.length=x.2.2.2.map λu=>(ρ u).x
def afq(c:Nat)(Pd:List ud):Prop:= ∀x,x∈Pd->x.2.1<c/\∀u,u∈x.2.2.2->u<c
theorem BK{ρ ρ':ax}{c:Nat}(ha:aT c ρ ρ'){x:ud}(hx:x.2.1<c/\∀u,u∈x.2.2.2->u<c){w:World}:BF ρ' x w↔BF ρ x w:=by
 unfold BF;rw [ha _ hx.1];have:(x.2.2.2.map λu=>(ρ' u).x)=x.2.2.2.map λu=>(ρ u).x:=qD λu a=>by rw [ha _ (hx.2 u a)]
 rw [this]
theorem Xi{ρ:ax}:∀{l:List AV} {us:x3},ach l us=true->(AV.ao ρ l).take us.length=us.map λu=>(ρ u).x
 |l,[],_=>by simp
 |l,n::ns,h=>by
  unfold ach at h;split at h
  next u l'=>simp only [ae] at h;have e:=ah h.1;subst e;simp only [AV.ao,AV.val,p5,qO,cq];rw [Xi h.2]
  .cases h
theorem Rs{ρ:ax}:∀{l:List AV} {us:x3},Mf l=some us->AV.ao ρ l=us.map (λu=>(ρ u).x)/\us.length=l.length
 |[],us,h=>by cases h;simp [AV.ao]
 |v::l,us,h=>by
  unfold Mf at h;split at h
  .rename_i u;split at h
   next b a=>cases h;obtain ⟨d,c⟩:=Rs (ρ:=ρ) a;simp [AV.ao,AV.val,d,c]
   .cases h
  .cases h
theorem Xd{c:Nat}:∀{l:List AV} {us:x3},Mf l=some us->AV.bV c l=true->∀u,u∈us->u<c
 |[],us,h,_,u,a=>by cases h;cases a
 |v::l,us,h,hl,u,a=>by
  unfold Mf at h;split at h
  .rename_i u';split at h
   .rename_i d b;cases h;simp only [AV.bV,AV.low,ae,du] at hl;rcases List.mem_cons.1 a with rfl|a
    .exact hl.1
    .exact Xd b hl.2 u a
   .cases h
  .cases h
theorem aa7{ρ:ax}{T:aA}{G:List Row}{B:Ctx}{w:World}(c:Sat (ab ρ T G++B) w):∀{Pd:List ud},La G Pd=true->∀x,x∈Pd->BF ρ x w
 |[],_,x,hx=>by cases hx
 |y::Pd,h,x,hx=>by
  simp only [La,ae] at h;rcases List.mem_cons.1 hx with rfl|hx
  .have a:=h.1;split at a
   next j id t cs d=>obtain ⟨f,e⟩:=kE d;have:id=x.2.1:=ah e;subst this;have hb:eC w (ρ x.2.1).b t (AV.ao ρ cs):=c.at_ (eZ f);simp only [ae] at a;refine ⟨by simpa using a.1,_,t,hb,?_⟩;rw [<-AV.gi];exact Xi a.2
   .cases a
  .exact aa7 c h.2 x hx
theorem ahQ{ρ:ax}{T:aA}{G:List Row}{B:Ctx}{w:World}(b:Sat (ab ρ T G++B) w):∀{Pd:List ud},pdF G Pd=true->∀x,x∈Pd->BF ρ x w\/Nat.beq x.2.2.1 1000000000=true
 |[],_,x,hx=>by cases hx
 |y::Pd,h,x,hx=>by
  simp only [pdF,ae,cp] at h;rcases List.mem_cons.1 hx with rfl|hx
  .rcases h.1 with a|a
   .exact .inr a
   .exact .inl (aa7 b (Pd:=[x]) (by simp only [La,ae];exact ⟨a,trivial⟩) x (bY ..))
  .exact ahQ b h.2 x hx
theorem tB{k:Nat}:∀{Pd:List ud} {x:ud},x∈eO ops k Pd↔x∈Pd/\waits .any ops.toArray k x.1=false
 |[],x=>by simp [eO]
 |y::Pd,x=>by
  unfold eO;cases c:waits .any ops.toArray k y.1
  .show x∈y::eO ops k Pd↔_;rw [qx,qx,tB];constructor
   .rintro (rfl|⟨b,a⟩)
    .exact ⟨.inl rfl,c⟩
    .exact ⟨.inr b,a⟩
   .rintro ⟨rfl|b,a⟩
    .exact .inl rfl
    .exact .inr ⟨b,a⟩
  .show x∈eO ops k Pd↔_;rw [qx,tB];constructor
   .rintro ⟨b,a⟩;exact ⟨.inr b,a⟩
   .rintro ⟨rfl|b,a⟩
    .rw [c] at a;cases a
    .exact ⟨b,a⟩
theorem ae9{pend:dZ}{w:World}(h:∀p,p∈pend->p.2 w):fP pend w:=by
 induction pend with
 |nil=>trivial
 |cons p l ih=>exact ⟨h p (bY ..),ih λq a=>h q (aW _ a)⟩
theorem anm{P:Program}{ρ:ax}{Ev:Env}{g:Bool}{t:TypeId}{n:Nat}{l:List AV}{v:AV}{p:Addr}{w:World}{dst:w4}{ty:TypeId}{pos:String}{af:xa}{gd:Option (Nat×Bool)}
  (hx:ar Ev g x (.pointer (some p))) (j:szA P t=some n) (hv:jN P t l=some v) (q:n<=l.length) (hc:bL w p ((AV.ao ρ l).take n)):bg P Ev g ⟨dst,.load t x,ty,pos,af,gd⟩ w (v.val ρ):=by
 have s:jN P t (l.drop 0)=some v:=by simpa using hv
 obtain ⟨d,n',bytes,z,c1,u,b⟩:=lK (X:=⟨P,[],[],[],(λ_ h=>nomatch h),0,[],[],(λ_ h=>nomatch h),[]⟩) (ρ:=ρ) s;have c1:P.underlying t=some d:=c1;unfold szA at j;rw [c1] at j;rcases dn j with ⟨hd,i⟩|⟨hd,i⟩
 .split at i
  .rename_i k c;obtain ⟨m,y,k⟩:=k;cases i;unfold jN at hv;rw [c1] at hv;rcases dn hv with ⟨_,f⟩|⟨f,_⟩
   .rw [c] at f;obtain ⟨_,r⟩:=aG f;cases r;simp only [AV.val,AV.jg];exact KI c1 hd (cC c) hx (λ_=>hc) (by rw [bj,AV.bl];exact cx q)
   .rw [hd] at f;cases f
  .cases i
 .cases i;rw [hd] at b;simp only [mo,qA] at b;refine JB c1 hd hx (λ_=>?_);have e:(AV.ao ρ l).take 1=[v.val ρ]:=by
   cases o:AV.ao ρ l with
   |nil=>rw [o] at b;cases b
   |cons a l=>rw [o] at b;cases b;rfl
  rw [e] at hc;exact hc
theorem ade{l:vq}{off n:Nat}(h:off+n<=l.length):mM l off ((l.drop off).take n)=l:=by
 unfold mM;have b:((l.drop off).take n).length=n:=by rw [bj,ch];omega
 rw [b];have a:(l.drop off).take n++l.drop (off+n)=l.drop off:=by rw [<-kD,qI]
 rw [aO,a,qI]
theorem ajR{T:aA}{st:aB}{g:GK}{k:Nat}{ρ:ax}{w:World}{KQ:List Row->ud->aB->Option R}(hs:Sat (ab ρ T st.G++(ab ρ T fr.H++Φ)) w)(h:ahv X T fr st g k o KQ=some (some r)):
  ∃(v:Value) (ρ':ax) (st':aB) (av:AV) (z:List Row) (p:ud),KQ z p st'=some r/\aT st.c ρ ρ'/\st.c<=st'.c/\st'.E=cj o.dst g av st.E/\av.val ρ'=v/\au ρ' T st.E fr.F=au ρ T st.E fr.F/\ab ρ' T fr.H=ab ρ T fr.H/\
   Sat (ab ρ' T st'.G++(ab ρ' T (z++fr.H)++Φ)) w/\p.1=k/\BF ρ' p w/\(p.2.1<st'.c/\∀u,u∈p.2.2.2->u<st'.c)/\(∀w',BF ρ' p w'->bg X.P (au ρ T st.E fr.F) (T.get g) o w' v):=by
 obtain ⟨dst,op,ty,pos,af,gd⟩:=o;unfold ahv at h;simp only at h;split at h
 .rename_i t x d;split at h
  .rename_i id off hx;split at h
   .rename_i j s N cs hf;simp only [b0] at h;split at h
    .rename_i n hn;split at h
     .rename_i v hv;split at h
      .rename_i us I;obtain ⟨Z,h2⟩:=aG h;simp only [ae,Nat.ble_eq] at Z;obtain ⟨⟨⟨hl,hvl⟩,hle⟩,hmk⟩:=Z;obtain ⟨l1,l2,l3,l4⟩:=aB.cw.1 hl;obtain ⟨f1,f2⟩:=kE hf;have:s=id:=ah f2;subst this;have y:j<st.G.length:=(List.getElem?_eq_some_iff.1 f1).1;have f:=ph l3 f1;simp only [Row.low,ae,du] at f;have S:∀{l:List AV} {c m q:Nat},AV.bV c l=true->AV.bV c ((l.drop m).take q)=true:=λ{l c m q} h=>by
        have dr:∀(l:List AV) (m:Nat),AV.bV c l=true->AV.bV c (l.drop m)=true:=λl=>by
         induction l with
         |nil=>intro m h;simp [AV.bV]
         |cons a l ih=>
          intro m h;cases m with
          |zero=>exact h
          |succ m=>simp only [AV.bV,ae] at h;exact ih m h.2
        have tk:∀(l:List AV) (m:Nat),AV.bV c l=true->AV.bV c (l.take m)=true:=λl=>by
         induction l with
         |nil=>intro m h;simp [AV.bV]
         |cons a l ih=>
          intro m h;cases m with
          |zero=>rfl
          |succ m=>simp only [AV.bV,ae,qO] at h ⊢; exact ⟨h.1,ih m h.2⟩
        exact tk _ _ (dr _ _ h)
       obtain ⟨ρ',D⟩:=G6 (ρ:=ρ) (S (m:=off) (q:=n) f.2);obtain ⟨i1,i2⟩:=Rs (ρ:=ρ') I;have V:=Xd I D.lw;generalize kh st.c ((cs.drop off).take n)=L at h2 D I i1 i2 V;obtain ⟨ls,z,c'⟩:=L;have Y:st.c<=c':=D.le;have i:aT st.c ρ ρ':=D.ag;have K:AV.ao ρ' ls=AV.ao ρ ((cs.drop off).take n):=D.eq;have hb:eC w (ρ s).b N (AV.ao ρ cs):=hs.at_ (eZ f1);have W:AV.ao ρ' cs=AV.ao ρ cs:=AV.bR i _ f.2;have Q:v.val ρ'=v.val ρ:=AV.ka i _ hvl;have C:us.length=n:=by
        have e1:(AV.ao ρ' ls).length=n:=by rw [K,AV.bl,bj,ch];omega
        rw [i2,<-AV.bl (ρ:=ρ') (l:=ls)];exact e1
       have eG:=bc (T:=T) i l3;have eH:=bc (T:=T) i l4;have e3:(us.map λu=>(ρ' u).x)=((AV.ao ρ cs).drop off).take n:=by rw [<-i1,K,AV.jg,AV.gi]
       refine ⟨v.val ρ,ρ',_,v,z,(k,s,off,us),h2,i,Y,rfl,Q,mB hl i,eH,?_,rfl,⟨by simpa using hmk,AV.ao ρ cs,N,?_,?_⟩,⟨cy f.1 Y,V⟩,λw' hw=>?_⟩
       .show Sat (ab ρ' T (st.G.set j _)++(ab ρ' T (z++fr.H)++Φ)) w;rw [eS y,eG];have e4:(Row.box s N (sO cs off ls)).item ρ' T=(Row.box s N cs).item ρ T:=by simp only [Row.item];rw [i _ f.1,<-wj,W,K,AV.jg,AV.gi,ade (by rw [AV.bl];exact hle)]
        have hi:=eZ (ρ:=ρ) (T:=T) (Φ:=ab ρ' T (z++fr.H)++Φ) f1;have e5:(ab ρ T st.G++(ab ρ' T (z++fr.H)++Φ)).set j ((Row.box s N (sO cs off ls)).item ρ' T)=ab ρ T st.G++(ab ρ' T (z++fr.H)++Φ):=by
         rw [e4];apply qn;intro q;by_cases hq:q=j
         .subst hq;rw [qu (List.getElem?_eq_some_iff.1 hi).1,hi]
         .rw [ql (λh=>hq h.symm)]
        rw [e5,bh,eH,aO];have ins:∀(L:List Item) (A B:Ctx),Sat (A++B) w->(∀it∈L,it.own=[]/\∀M w,it.P M w)->Sat (A++(L++B)) w:=λL=>by
         induction L with
         |nil=>intro A B h _;exact h
         |cons x L ih=>
          intro A B h hL;have Z:=ih A B h (λit J=>hL it (aW _ J));have hx:=hL x (bY ..);refine Z.yR (λj k=>(j<A.length/\k=j)\/(A.length<j/\k+1=j)) (λj jt y=>?_) (λj k q hjk Z h2=>by omega);by_cases e:j<A.length
          .rw [b7 e] at y;exact .inr ⟨j,jt,.inl ⟨e,rfl⟩,by rw [b7 e];exact y,bQ.refl⟩
          .rw [bZ (by omega)] at y;by_cases e2:j=A.length
           .subst e2;simp at y;subst y;exact .inl hx
           .refine .inr ⟨j-1,jt,.inr ⟨by omega,by omega⟩,?_,bQ.refl⟩;rw [bZ (by omega)];have:j-A.length=(j-1-A.length)+1:=by omega
            rw [this,dk,b8] at y;exact y
        refine ins (ab ρ' T z) (ab ρ T st.G) (ab ρ T fr.H++Φ) hs (λit J=>?_);obtain ⟨ID,U,rfl⟩:=List.mem_map.1 J;have h9:=D.rp ID U;have h10:ID.item ρ' T=ID.item ρ' []:=by have hgd:ID.gd=none:=D.rg ID U;exact Row.Bl (by rw [hgd,aA.get_none,aA.get_none])
        rw [h10];exact ⟨(ID.item ρ' []).hp h9.1,h9.2⟩
       .show eC w (ρ' s).b N _;rw [i _ f.1];exact hb
       .show ((AV.ao ρ cs).drop off).take us.length=us.map λu=>(ρ' u).x;rw [C,e3]
       .obtain ⟨_,csv,t2,b1,b2⟩:=hw;have b1:eC w' (ρ' s).b t2 csv:=b1;have b2:(csv.drop off).take us.length=us.map λu=>(ρ' u).x:=b2;rw [i _ f.1] at b1;rw [C,e3] at b2;have O:=aR (ρ:=ρ) hx;simp only [AV.val] at O;have e6:AV.ao ρ ((cs.drop off).map (rD st.G fr.H))=(AV.ao ρ cs).drop off:=by rw [Kt hs,AV.gi]
        refine anm O hn hv (by rw [List.length_map,ch];omega) ?_;rw [e6];refine b1.part off ?_;have:(((AV.ao ρ cs).drop off).take n).length=n:=by rw [bj,ch,AV.bl];omega
        rw [this];exact b2
      .cases h
     .cases h
    .cases h
   .cases h
  .cases h
 .cases h
theorem LN{e:OT}{k mk_:Nat}{pend:dZ}{EV:List pk}{T T':aA}{g:GK}{fr1:Fr}{st1:aB}{ρ:ax}{w:World}{v:Value}{J:World->Prop}(y:fr1.n=fr.n)(p:ais ops fr fr1 st1 ρ o T T' g)(B:ops[k]? =some o)(t:∀x∈EV,nD ops.toArray k x.1=true)(i:J w)
  (r:∀w',J w'->bg X.P (au ρ T' st1.E fr1.F) (T'.get g) o w' v) (c:Di X.P σ ops.toArray Q fr.n D e EV ((k,J)::pend) (oG o.dst (T'.get g) v (au ρ T' st1.E fr1.F)) w):
  Di X.P σ ops.toArray Q fr.n D (.q k mk_ e) EV pend (au ρ T' st1.E fr1.F) w:=by
 have m:ops.toArray[k]? =some o:=by simpa using B
 have f:=p.ds;rw [y] at f;intro a d u C;have j:∀v,∀x∈EV,rM X.P ops.toArray (a.put o.dst v) x:=λv x hx=>(C x hx).put m (t x hx);simp only [gL,m];cases s:g with
 |none=>
  subst s;rw [aA.get_none] at r c;refine ⟨v,J,i,.inl ⟨by simp [Region.wanted,p.gg],λw' h=>r w' h _ a d rfl⟩,?_⟩;exact c _ (d.oG f) (by rw [gS];exact u) (j _)
 |some gk=>
  obtain ⟨rj,par,b,I,H,A,G⟩:=p.gk gk s;rw [y] at A;subst s;have l:=CW (ops:=ops.toArray) p.gg (by simpa using I) H d A;rw [G] at l;cases z:T'.get (some gk)
  .rw [z] at l c;refine ⟨undef,J,i,.inr ⟨l,rfl⟩,?_⟩;exact c _ (d.oG (g:=false) (v:=v) f) (by rw [gS];exact u) (j _)
  .rw [z] at l r c;refine ⟨v,J,i,.inl ⟨l,λw' h=>r w' h _ a d rfl⟩,?_⟩;exact c _ (d.oG f) (by rw [gS];exact u) (j _)
theorem aoT{G H:List Row}{s:Src}{ID:Row}{q c:Nat}(h:s.at_ G H ID)(b:PA q ID=true)(j:bB c G=true)(g:bB c H=true):q<c:=by
 have key:∀{L:List Row},bB c L=true->ID∈L->q<c:=λ{L} d a=>by
  have f:ID.low c=true:=by
   induction L with
   |nil=>cases a
   |cons x L ih=>
    simp only [bB,ae] at d;rcases List.mem_cons.1 a with rfl|a
    .exact d.1
    .exact ih d.2 a
  unfold PA at b;split at b
  .have e:=ah b;subst e;simp only [Row.low,ae,du] at f;exact f.1.1
  .cases b
 cases s with
 |top i=>exact key j (n3 h)
 |cr i=>exact key g (n3 h)
 |nilI t=>exact h.elim
 |nilO t e=>exact h.elim
 |nilM k v=>exact h.elim
def HP(ρ:ax)(T:aA)(fr:Fr)(A:List Row)(Pd:List ud)(pend:dZ)(w:World):Prop:= ∀p,p∈pend->∀w',(∃Φ',Sat (ab ρ T (A++fr.H)++Φ') w')->(∀x,x∈Pd->x.1=p.1->BF ρ x w'\/(Nat.beq x.2.2.1 1000000000=true/\Ext w w'))->p.2 w'
def eB(EV:List pk):Ctx:=EV.map λx=>box x.2.1 x.2.2.1 x.2.2.2
def VL(ops:xc)(order:OT)(EV:List pk):Prop:= ∀x∈EV,(∀j∈order.ops,nD ops.toArray j x.1=true)/\∀j∈order.SA,j=x.1\/nD ops.toArray j x.1=true
theorem GU{B:Ctx}{w:World}{p:pk->Bool}:∀{EV:List pk} {A:Ctx},Sat (A++(eB EV++B)) w->Sat (A++(eB (EV.filter p)++B)) w
 |[],_,h=>h
 |x::EV,A,h=>by
  rw [qc];split
  .have a:Sat ((A++[box x.2.1 x.2.2.1 x.2.2.2])++(eB EV++B)) w:=by simpa [eB] using h
   have:=GU (p:=p) a;simpa [eB] using this
  .exact GU (p:=p) (Sat.yE (A:=A) (B:=eB EV++B) h)
theorem PC{B:Ctx}{w:World}:∀{EV:List pk} {A:Ctx},Sat (A++(eB EV++B)) w->Sat (A++B) w
 |[],_,h=>h
 |_::EV,A,h=>PC (EV:=EV) (Sat.yE (A:=A) (B:=eB EV++B) h)
theorem Fits.ij{n:Nat}{E:Env}{a:Act}{d:Tmp}{v:Value}(h:Fits n E a)(e:a.tmps.getD d undef=v):Fits n ((d,true,v)::E) a:=by
 refine ⟨h.size,λt g c b=>?_⟩;simp only [look] at b;cases hb:Nat.beq d t
 .rw [hb,gx] at b;exact h.at_ t g c b
 .rw [hb,hW] at b;have:=ah hb;subst this;cases b;exact e
theorem Fits.apG{n:Nat}{E:Env}{a:Act}{d:Tmp}(h:Fits n E a)(hd:look E d=none)(v:Value):Fits n E (a.put (some d) v):=by
 refine ⟨by simp [Act.put,h.size],λt g f b=>?_⟩;have c:d≠t:=λe=>by subst e;rw [hd] at b;cases b
 have:=Act.eval_put (a:=a) (dst:=some d) (v:=v) (x:= .tmp t) (λe i hc=>c (by cases i;cases hc;rfl));exact Eq.trans this (h.at_ t g f b)
theorem ana{X:Cx}{T:aA}{fr:Fr}{st:aB}{p:TypeId×List AV×List AV}(h:H3 X T fr st o=some p):o.guard=none/\∀cs b,o.op≠ .select cs b:=by
 unfold H3 at h;split at h
 next c a=>exact ⟨a,λcs b hc=>by rw [c] at hc;cases hc⟩
 next c a=>exact ⟨a,λcs b hc=>by rw [c] at hc;cases hc⟩
 .cases h
theorem rM.same{P:Program}{ops:w5}{a:Act}{x:pk}{X:Cx}{T:aA}{fr:Fr}{st:aB}{ρ:ax}(k:X.P=P)(h:rM P ops a x)(i:ops[x.1]? =some o)(j:Fits fr.n (au ρ T st.E fr.F) a):
  ∀e vs cs,H3 X T fr st o=some (e,vs,cs)->x.2.2.1=e/\x.2.2.2=AV.ao ρ cs:=λe vs cs l=>by
 subst k;obtain ⟨q,d,b,g,u,t,s,r,p⟩:=h;rw [i] at g;cases g;have f:=aai (ρ:=ρ) l b _ a j;rw [p] at f;have m:b.alloc (.cells x.2.2.2.toArray x.2.2.1)=b.alloc (.cells (AV.ao ρ cs).toArray e):=by injection f
 have c:(some (Obj.cells x.2.2.2.toArray x.2.2.1):Option Obj)=some (.cells (AV.ao ρ cs).toArray e):=by rw [<-heap_alloc_new b (.cells x.2.2.2.toArray x.2.2.1),<-heap_alloc_new b (.cells (AV.ao ρ cs).toArray e),m]
 simp only [b0,Obj.cells.injEq] at c;exact ⟨c.2.1,by simpa using c.1⟩
theorem aem{frx:Fr}{T:aA}{w:World}{a:Act}{N:cz R}:∀{k:x3} {EV:List pk} {st:aB} {ρ:ax},eD T st.E frx.F->Sat (ab ρ T st.G++(ab ρ T frx.H++(eB EV++Φ))) w->Fits frx.n (au ρ T st.E frx.F) a->
  (∀x∈EV,rM X.P ops.toArray a x)->(∀f∈k,f∈EV.map (·.1))->af7 X ops frx T k st N=some r->
  ∃st' ρ',N st'=some r/\aT st.c ρ ρ'/\st.c<=st'.c/\eD T st'.E frx.F/\Fits frx.n (au ρ' T st'.E frx.F) a/\ab ρ' T frx.H=ab ρ T frx.H/\
   Sat (ab ρ' T st'.G++(ab ρ' T frx.H++(eB (EV.filter λx=> !(db x.1 k))++Φ))) w
 |[],EV,st,ρ,ht,hs,hf,hC,_,h=>by
  refine ⟨st,ρ,h,.refl,bb _,ht,hf,rfl,?_⟩;have e:(EV.filter λx=> !(db x.1 []))=EV:=by rw [List.filter_eq_self];intro x _;rfl
  rw [e];exact hs
 |f::k,EV,st,ρ,ht,hs,hf,hC,hin,h=>by
  unfold af7 at h;split at h
  .rename_i o ho;obtain ⟨m,h2⟩:=aG h;simp only [ae,de] at m;obtain ⟨x,hx,v⟩:=List.mem_map.1 (hin f (bY ..));subst v;obtain ⟨i,g,M⟩:=List.append_of_mem hx;have l:ops.toArray[x.1]? =some o:=by simpa using ho
   have D:Sat (((ab ρ T st.G++ab ρ T frx.H)++eB i)++box x.2.1 x.2.2.1 x.2.2.2::(eB g++Φ)) w:=by
    have e:ab ρ T st.G++(ab ρ T frx.H++(eB EV++Φ))=((ab ρ T st.G++ab ρ T frx.H)++eB i)++box x.2.1 x.2.2.1 x.2.2.2::(eB g++Φ):=by rw [M];simp [eB]
    rw [<-e];exact hs
   have C:Sat ([]++box x.2.1 x.2.2.1 x.2.2.2::((ab ρ T st.G++ab ρ T frx.H)++(eB i++(eB g++Φ)))) w:=by have:=D.ajF;simpa using this
   have B:Sat (ab ρ T st.G++(ab ρ T frx.H++(box x.2.1 x.2.2.1 x.2.2.2::(eB i++(eB g++Φ))))) w:=by have:=C.move;simpa using this
   have L:=hC x hx;obtain ⟨o2,d,w0,I,Q,r3,r4,O,r6⟩:=id L;rw [l] at I;cases I;obtain ⟨b,st1,av,k1,k2,K,J,k5,k6,k7,k8⟩:=anQ B (rM.same rfl L l hf) h2;have e1:au b T st1.E frx.F=(d,true,EC o x.2.1)::au ρ T st.E frx.F:=by rw [J,sS,k5,k6,Q,aA.get_none];rfl
   have A:Sat (ab b T st1.G++(ab b T frx.H++(eB (EV.filter λy=> !(Nat.beq x.1 y.1))++Φ))) w:=by
    have e2:(EV.filter λy=> !(Nat.beq x.1 y.1))=(i++g).filter λy=> !(Nat.beq x.1 y.1):=by rw [M];simp
    rw [e2];have:Sat ((ab b T st1.G++ab b T frx.H)++(eB (i++g)++Φ)) w:=by
     have e3:eB (i++g)=eB i++eB g:=by simp [eB]
     rw [e3];simpa using k8
    have:=GU (p:=λy=> !(Nat.beq x.1 y.1)) this;simpa using this
   have z:eD T st1.E frx.F:=by rw [J];exact ht.out m.1 none av
   obtain ⟨s,q,q1,Z,Y,W,V,U,S⟩:=aem z A (by rw [e1];exact hf.ij O) (λy u=>hC y (List.mem_filter.1 u).1) (λf' j=>by obtain ⟨y,u,t⟩:=List.mem_map.1 (hin f' (aW _ j));subst t;refine List.mem_map.2 ⟨y,List.mem_filter.2 ⟨u,?_⟩,rfl⟩;rw [de,l5];intro hb;have:=ah hb;rw [<-this] at j;rw [da.2 j] at m;cases m.2) k1
   refine ⟨s,q,q1,k2.trans Z K,b9 K Y,W,V,U.trans k7,?_⟩;have e4:((EV.filter λy=> !(Nat.beq x.1 y.1)).filter λy=> !(db y.1 k))=EV.filter λy=> !(db y.1 (x.1::k)):=by
    rw [qG];congr 1
    funext y
    simp only [db,Bool.not_or];exact Bool.and_comm ..
   rw [<-e4];exact S
  .cases h
theorem anE(hΓ:∀it∈X.Γ,it∈Φ)(htb:∀e∈tb,e.Ok X.P X.Γ)(htp:∀e∈tp,e.Ok X.P X.Γ):∀{U:OT} {EV:List pk} {A:List Row} {Pd:List ud} {T:aA} {st:aB} {ρ:ax} {w:World} {pend:dZ},eD T st.E fr.F->mO ops fr.n T->FT T fr->VL ops U EV->afq st.c Pd->Sat (ab ρ T st.G++(ab ρ T (A++fr.H)++(eB EV++Φ))) w->
  HP ρ T fr A Pd pend w->nr X tb tp KP ops fr U A Pd T st K=some r->
  (∀st' ρ' w',aT st.c ρ ρ'->st.c<=st'.c->K st'=some r->Sat (ab ρ' [] st'.G++(ab ρ' [] fr.H++Φ)) w'->At Q .normal fr.n D (au ρ' [] st'.E fr.F) w')->
  (∀v st' ρ' w',aT st.c ρ ρ'->st.c<=st'.c->KP v st'=some r->Sat (ab ρ' [] st'.G++(ab ρ' [] fr.H++Φ)) w'->BA Q (gG (v.val ρ')) D w')->
  Di X.P σ ops.toArray Q fr.n D U EV pend (au ρ T st.E fr.F) w:=by
 intro U
 -- a loud operation, the rest by induction
 have loud:∀(rest:OT) (k mk:Nat),(∀{EV:List pk} {A:List Row} {Pd:List ud} {T:aA} {st:aB} {ρ:ax} {w:World} {pend:dZ},eD T st.E fr.F->mO ops fr.n T->FT T fr->VL ops rest EV->afq st.c Pd->Sat (ab ρ T st.G++(ab ρ T (A++fr.H)++(eB EV++Φ))) w->
   HP ρ T fr A Pd pend w->nr X tb tp KP ops fr rest A Pd T st K=some r->
   (∀st' ρ' w',aT st.c ρ ρ'->st.c<=st'.c->K st'=some r->Sat (ab ρ' [] st'.G++(ab ρ' [] fr.H++Φ)) w'->At Q .normal fr.n D (au ρ' [] st'.E fr.F) w')->
   (∀v st' ρ' w',aT st.c ρ ρ'->st.c<=st'.c->KP v st'=some r->Sat (ab ρ' [] st'.G++(ab ρ' [] fr.H++Φ)) w'->BA Q (gG (v.val ρ')) D w')->
   Di X.P σ ops.toArray Q fr.n D rest EV pend (au ρ T st.E fr.F) w)->
   ∀{EV:List pk} {A:List Row} {Pd:List ud} {T:aA} {st:aB} {ρ:ax} {w:World} {pend:dZ},eD T st.E fr.F->mO ops fr.n T->FT T fr->(∀x∈EV,nD ops.toArray k x.1=true)->VL ops rest EV->afq st.c Pd->Sat (ab ρ T st.G++(ab ρ T (A++fr.H)++(eB EV++Φ))) w->
   HP ρ T fr A Pd pend w->
   (match ops[k]? with
    |some o=>Mm X tb tp KP ops fr A T st o λT st'=>ay (La st'.G (eO ops k Pd)) (nr X tb tp KP ops fr rest (bn (λr=> !(cP r)) st.G++A) (eO ops k Pd) T st' K) none
    |none=>none)=some r->
   (∀st' ρ' w',aT st.c ρ ρ'->st.c<=st'.c->K st'=some r->Sat (ab ρ' [] st'.G++(ab ρ' [] fr.H++Φ)) w'->At Q .normal fr.n D (au ρ' [] st'.E fr.F) w')->
   (∀v st' ρ' w',aT st.c ρ ρ'->st.c<=st'.c->KP v st'=some r->Sat (ab ρ' [] st'.G++(ab ρ' [] fr.H++Φ)) w'->BA Q (gG (v.val ρ')) D w')->
   Di X.P σ ops.toArray Q fr.n D (.l k mk rest) EV pend (au ρ T st.E fr.F) w:=by
  intro rest k mk ih EV A Pd T st ρ w pend h1 h2 hf hfk i C hs hp h L s;have W:∀it∈X.Γ,it∈eB EV++Φ:=λit hit=>c5 _ (hΓ it hit);split at h
  .rename_i o ho;have hs1:=oP (A:=[]) (p:=cP) hs;refine alA (k:=k) (mk:=mk) (o:=o) (by simpa using ho) hfk rfl ?_;have fin:∀T' st' ρ' w',eD T' st'.E (mK fr A st).F->mO ops (mK fr A st).n T'->FT T' fr->aT (stM st).c ρ ρ'->(stM st).c<=st'.c->(ay (La st'.G (eO ops k Pd)) (nr X tb tp KP ops fr rest (bn (λr=> !(cP r)) st.G++A) (eO ops k Pd) T' st' K) none)=some r->ab ρ' T' (mK fr A st).H=ab ρ T (mK fr A st).H->Sat (ab ρ' T' st'.G++(ab ρ' T' (mK fr A st).H++(eB EV++Φ))) w'->
     WL X.P σ ops.toArray (QKE X.P σ ops.toArray Q rest EV (still .any ops.toArray k pend)) fr.n D [] (au ρ' T' st'.E (mK fr A st).F) w':=by
    intro T' st' ρ' w' a1 a2 a3 a4 a5 a6 a7 a8;obtain ⟨a9,a10⟩:=aG a6;have e1:bn (λr=> !(cP r)) st.G++(A++fr.H)=(bn (λr=> !(cP r)) st.G++A)++fr.H:=by rw [aO]
    have hs8:Sat (ab ρ' T' st'.G++(ab ρ' T' ((bn (λr=> !(cP r)) st.G++A)++fr.H)++(eB EV++Φ))) w':=by rw [<-e1];exact a8
    have conv:∀z,(∃y,Sat (ab ρ' T' ((bn (λr=> !(cP r)) st.G++A)++fr.H)++y) z)->∃y,Sat (ab ρ T (A++fr.H)++y) z:=λz hw=>by
     obtain ⟨y,R⟩:=hw;refine ⟨y,?_⟩;rw [<-e1] at R;have V:Sat (ab ρ T (bn (λr=> !(cP r)) st.G++(A++fr.H))++y) z:=by rw [<-a7];exact R
     rw [bh,aO] at V;exact V.wx
    have mem:∀p,p∈still .any ops.toArray k pend->p∈pend/\∀x,x∈Pd->x.1=p.1->x∈eO ops k Pd:=λp S=>by unfold still at S;rw [List.mem_filter] at S;exact ⟨S.1,λx hx he=>tB.2 ⟨hx,by rw [he];simpa using S.2⟩⟩
    have hBF:=aa7 (B:=ab ρ' T' ((bn (λr=> !(cP r)) st.G++A)++fr.H)++(eB EV++Φ)) hs8 a9;have HP':HP ρ' T' fr (bn (λr=> !(cP r)) st.G++A) (eO ops k Pd) (still .any ops.toArray k pend) w':=λp S z hw hB=>by obtain ⟨m1,m2⟩:=mem p S;exact hp p m1 z (conv z hw) (λx hx he=>(hB x (m2 x hx he) he).elim (λh=> .inl ((BK a4 (C x hx)).1 h)) (λh=>by have:=(hBF x (m2 x hx he)).1;rw [h.1] at this;cases this))
    refine bS (apd (ae9 λp S=>HP' p S w' ⟨eB EV++Φ,hs8.wx⟩ (λx hx _=> .inl (hBF x hx))) ?_);exact ih a1 a2 a3 i (λx hx=>⟨cy (C x (tB.1 hx).1).1 a5,λu hu=>cy ((C x (tB.1 hx).1).2 u hu) a5⟩) hs8 HP' a10 (λI N z b1 b2 b3 b4=>L I N z (a4.trans b1 a5) (b9 a5 b2) b3 b4) (λv I N z b1 b2 b3 b4=>s v I N z (a4.trans b1 a5) (b9 a5 b2) b3 b4)
   unfold Mm at h;split at h
   .rename_i q hq;subst h;refine amg (fr:=mK fr A st) (st:=stM st) h1 hs1 W htp hq (λst' ρ' w' a1 a4 a5 a6 a7 a8=>fin T st' ρ' w' a1 h2 hf a4 a5 a6 a7 a8) (λlb v st' ρ' w' a1 a2 a3 ae1 ae2 a4=>?_);cases lb with
    |true=>cases a3
    |false=>
    have a4':Sat (ab ρ' T ({ st' with G:=st'.G++(bn (λr=> !(cP r)) st.G++A) }:aB).G++(ab ρ' T fr.H++(eB EV++Φ))) w':=by
     have e2:(mK fr A st).H=(bn (λr=> !(cP r)) st.G++A)++fr.H:=by rw [aO]
     rw [e2,bh,aO] at a4;show Sat (ab ρ' T (st'.G++(bn (λr=> !(cP r)) st.G++A))++_) w';rw [bh,aO];exact a4
    obtain ⟨I,k1,Z,_,M⟩:=aeU (fr:=fr) (KP:=λ_=>KP) (b:=false) hf a3 a4';rw [<-aO] at M;replace M:=PC M;rw [aO] at M;have k2':I.c=st'.c:=Z;have:=s v I ρ' w' a1 (by rw [k2'];exact a2) k1 M;exact acM this
   .exact ZS (fr:=mK fr A st) (st:=stM st) (fr0:=fr) (K:=λT st'=>ay (La st'.G (eO ops k Pd)) (nr X tb tp KP ops fr rest (bn (λr=> !(cP r)) st.G++A) (eO ops k Pd) T st' K) none) h1 h2 rfl (λr hr=>c5 _ (c5 _ hr)) hf hs1 W htb h fin
  .cases h
 induction U with
 |nil=>
  intro EV A Pd T st ρ w pend h1 h2 hf i C hs hp h L s;have W:∀it∈X.Γ,it∈eB EV++Φ:=λit hit=>c5 _ (hΓ it hit);unfold nr at h;obtain ⟨h3,h4⟩:=aG h;have hs':Sat (ab ρ T ({ st with G:=st.G++A }:aB).G++(ab ρ T fr.H++(eB EV++Φ))) w:=by show Sat (ab ρ T (st.G++A)++_) w;rw [bh,aO];rw [bh,aO] at hs;exact hs
  obtain ⟨k1,Z,M⟩:=HK h3 hf hs';rw [<-aO] at M;replace M:=PC M;rw [aO] at M;exact anB ((L _ ρ w .refl (by rw [k1];exact bb _) h4 M).lx _ Z)
 |q k m rest ih=>
  intro EV A Pd T st ρ w pend h1 h2 hf i C hs hp h L s;have hevr:VL ops rest EV:=λx hx=>⟨λj hj=>(i x hx).1 j (aW _ hj),(i x hx).2⟩;have W:∀it∈X.Γ,it∈eB EV++Φ:=λit hit=>c5 _ (hΓ it hit);unfold nr at h;split at h
  .rename_i o ho;have hs1:=oP (A:=[]) (p:=cP) hs;obtain ⟨T',g,hk,so⟩:=acf (ρ:=ρ) (fr0:=fr) (fr:=mK fr A st) (st:=stM st) h1 h2 rfl (λr hr=>c5 _ (c5 _ hr)) hf h;have hs':Sat (ab ρ T' (stM st).G++(ab ρ T' (mK fr A st).H++(eB EV++Φ))) w:=by rw [so.eg,so.eh];exact hs1
   have he:au ρ T st.E fr.F=au ρ T' st.E fr.F:=by have e1:=so.ee;have e2:=so.ef;rw [au,au,e1,e2]
   rw [he];have e1:bn (λr=> !(cP r)) st.G++(A++fr.H)=(bn (λr=> !(cP r)) st.G++A)++fr.H:=by rw [aO]
   -- from what stands then to what stands now
   have conv0:∀z y,Sat (ab ρ T' (bn (λr=> !(cP r)) st.G++(A++fr.H))++y) z->∃y,Sat (ab ρ T (A++fr.H)++y) z:=λz y R=>by
    refine ⟨y,?_⟩;have V:Sat (ab ρ T (bn (λr=> !(cP r)) st.G++(A++fr.H))++y) z:=by rw [<-so.eh];exact R
    rw [bh,aO] at V;exact V.wx
   split at hk
   .rename_i q hq;subst hk;obtain ⟨v,ρ',st',av,Rq,p,k1,Z,M,k4,k5,k6,k7,k8,k9,k10,k11,k12⟩:=ajR (fr:=mK fr A st) (st:=stM st) hs' hq;have e2:Rq++(bn (λr=> !(cP r)) st.G++(A++fr.H))=(Rq++(bn (λr=> !(cP r)) st.G++A))++fr.H:=by simp
    refine LN (fr1:=mK fr A st) (st1:=stM st) (J:=BF ρ' p) rfl so ho (λx hx=>(i x hx).1 k (bY ..)) k10 k12 ?_;have:=ih (A:=Rq++(bn (λr=> !(cP r)) st.G++A)) (Pd:=p::Pd) (T:=T') (st:=st') (ρ:=ρ') (w:=w) (pend:=(k,BF ρ' p)::pend) (by rw [k4];exact so.t1.out so.ak g av) so.t2 so.ft hevr (λx hx=>?_) (by rw [<-e2];exact k8) (λq Y z hw hB=>?_) k1 (λI N z b1 b2 b3 b4=>L I N z (Z.trans b1 M) (b9 M b2) b3 b4) (λv I N z b1 b2 b3 b4=>s v I N z (Z.trans b1 M) (b9 M b2) b3 b4)
    .rw [k4,sS,k5,k6] at this;exact this
    .rcases List.mem_cons.1 hx with rfl|hx
     .exact k11
     .exact ⟨cy (C x hx).1 M,λu hu=>cy ((C x hx).2 u hu) M⟩
    .rcases List.mem_cons.1 Y with rfl|Y
     .exact (hB p (bY ..) k9).elim id (λh=>by have:=k10.1;rw [h.1] at this;cases this)
     .obtain ⟨y,R⟩:=hw;rw [<-e2,bh,aO] at R;have hΦ1:=R.wx;have V:Sat (ab ρ T' (bn (λr=> !(cP r)) st.G++(A++fr.H))++y) z:=by rw [<-k7];exact hΦ1
      exact hp q Y z (conv0 z y V) (λx hx he=>(hB x (aW _ hx) he).imp (BK Z (C x hx)).1 id)
   .split at hk
    .rename_i p hpo;obtain ⟨lw,hk⟩:=aG hk;obtain ⟨dst,op,ty,pos,af,gd⟩:=o;unfold amu at hpo;split at hpo
     .rename_i t x d hop hdst;simp only at hop hdst;subst hop hdst;split at hpo
      .rename_i q off hx;split at hpo
       .cases hpo
       split at hpo
       .rename_i sr hkn;cases hpo;obtain ⟨v,hr,hO⟩:=XK (ty:=ty) (pos:=pos) (af:=af) (gd:=gd) lw hs' hx hk;obtain ⟨ρ',st',av,k1,Z,M,k4,k5,k6,k7,k8⟩:=hO;have hq:q<st.c:=by obtain ⟨_,_,l3,l4⟩:=aB.cw.1 lw;obtain ⟨f1,f2⟩:=bU hkn;exact aoT f1 f2 l3 l4
        refine LN (fr1:=mK fr A st) (st1:=stM st) (J:=λw'=>Ext w w') (v:=v) rfl so ho (λx hx=>(i x hx).1 k (bY ..)) (Ext.refl w) (λw' hw'=>hr w' hw') ?_;have:=ih (A:=bn (λr=> !(cP r)) st.G++A) (Pd:=(k,q,1000000000,[])::Pd) (T:=T') (st:=st') (ρ:=ρ') (w:=w) (pend:=(k,λw'=>Ext w w')::pend) (by rw [k4];exact so.t1.out so.ak g av) so.t2 so.ft hevr (λx hx=>?_) (by rw [<-e1];exact k8) (λq' Y z hw hB=>?_) k1 (λI N z b1 b2 b3 b4=>L I N z (Z.trans b1 M) (b9 M b2) b3 b4) (λv I N z b1 b2 b3 b4=>s v I N z (Z.trans b1 M) (b9 M b2) b3 b4)
        .rw [k4,sS,k5,k6] at this;exact this
        .rcases List.mem_cons.1 hx with rfl|hx
         .exact ⟨cy hq M,λu hu=>by cases hu⟩
         .exact ⟨cy (C x hx).1 M,λu hu=>cy ((C x hx).2 u hu) M⟩
        .obtain ⟨y,R⟩:=hw;rw [<-e1] at R;have hΦ1:Sat (ab ρ T' (bn (λr=> !(cP r)) st.G++(A++fr.H))++y) z:=by rw [<-k7];exact R
         rcases List.mem_cons.1 Y with rfl|Y
         .exact (hB (k,q,1000000000,[]) (bY ..) rfl).elim (λh=>by have:=h.1;simp at this) (λh=>h.2)
         .exact hp q' Y z (conv0 z y hΦ1) (λx hx he=>(hB x (aW _ hx) he).imp (BK Z (C x hx)).1 id)
       .cases hpo
      .cases hpo
     .cases hpo
    .obtain ⟨v,J,hJ,hr,hO⟩:=ajl (fr:=mK fr A st) (st:=stM st) W so.t1 hs' hk;obtain ⟨ρ',st',av,k1,Z,M,k4,k5,k6,k7,k8⟩:=hO;refine LN (fr1:=mK fr A st) (st1:=stM st) rfl so ho (λx hx=>(i x hx).1 k (bY ..)) (hJ w ⟨eB EV++Φ,hs'.wx⟩) hr ?_;have:=ih (A:=bn (λr=> !(cP r)) st.G++A) (Pd:=Pd) (T:=T') (st:=st') (ρ:=ρ') (w:=w) (pend:=(k,J)::pend) (by rw [k4];exact so.t1.out so.ak g av) so.t2 so.ft hevr (λx hx=>⟨cy (C x hx).1 M,λu hu=>cy ((C x hx).2 u hu) M⟩) (by rw [<-e1];exact k8) (λq Y z hw hB=>?_) k1 (λI N z b1 b2 b3 b4=>L I N z (Z.trans b1 M) (b9 M b2) b3 b4) (λv I N z b1 b2 b3 b4=>s v I N z (Z.trans b1 M) (b9 M b2) b3 b4)
     .rw [k4,sS,k5,k6] at this;exact this
     .obtain ⟨y,R⟩:=hw;rw [<-e1] at R;have hΦ1:Sat (ab ρ T' (bn (λr=> !(cP r)) st.G++(A++fr.H))++y) z:=by rw [<-k7];exact R
      rcases List.mem_cons.1 Y with rfl|Y
      .exact hJ z ⟨y,hΦ1⟩
      .exact hp q Y z (conv0 z y hΦ1) (λx hx he=>(hB x hx he).imp (BK Z (C x hx)).1 id)
  .cases h
 |l k m rest ih=>
  intro EV A Pd T st ρ w pend h1 h2 hf i C hs hp h L s;have W:∀it∈X.Γ,it∈eB EV++Φ:=λit hit=>c5 _ (hΓ it hit);unfold nr at h;exact loud rest k m (λ{EV A Pd T st ρ w pend}=>ih) h1 h2 hf (λx hx=>(i x hx).1 k (bY ..)) (λx hx=>⟨λj hj=>(i x hx).1 j (aW _ hj),(i x hx).2⟩) C hs hp h L s
 |l2 m k1 r1 Z r2 ih1 ih2=>
  intro EV A Pd T st ρ w pend h1 h2 hf i C hs hp h L s;have W:∀it∈X.Γ,it∈eB EV++Φ:=λit hit=>c5 _ (hΓ it hit);unfold nr at h;obtain ⟨h3,h4⟩:=WV h;exact aom (loud r1 k1 m (λ{EV A Pd T st ρ w pend}=>ih1) h1 h2 hf (λx hx=>(i x hx).1 k1 (bY ..)) (λx hx=>⟨λj hj=>(i x hx).1 j (aW _ (aW _ (qz _ hj))),λj hj=>(i x hx).2 j (qz _ hj)⟩) C hs hp h3 L s)
   (loud r2 Z m (λ{EV A Pd T st ρ w pend}=>ih2) h1 h2 hf (λx hx=>(i x hx).1 Z (aW _ (bY ..))) (λx hx=>⟨λj hj=>(i x hx).1 j (aW _ (aW _ (c5 _ hj))),λj hj=>(i x hx).2 j (c5 _ hj)⟩) C hs hp h4 L s)
 |f k m fl fs rest ih=>
  intro EV A Pd T st ρ w₀ pend h1 h2 hf i C hs hp h L s;unfold nr at h;obtain ⟨hc,h⟩:=aG h;simp only [ae,qB] at hc;obtain ⟨hfl,hpd0⟩:=hc;have hrun:∀f∈fl,∃o p d,ops[f]? =some o/\H3 X T (frA fr A) st o=some p/\o.dst=some d/\il o=true/\Nat.blt d fr.n=true/\dy st.E fr.F d=none/\(∀t∈o.looksAt ops.toArray,t≠d)/\
    (∀j∈k::rest.ops,nD ops.toArray j f=true)/\∀j∈fl++rest.SA,j=f\/nD ops.toArray j f=true:=λf hf=>by
   have:=hfl f hf;unfold aoD at this;simp only [ae,qB,cp] at this;obtain ⟨⟨g1,g2⟩,g3⟩:=this;split at g1
   .rename_i o ho;split at g1
    .rename_i p d hp hd;simp only [ae,qB] at g1;obtain ⟨⟨⟨g4,g5⟩,g6⟩,g7⟩:=g1;refine ⟨o,p,d,ho,hp,hd,g4,g5,?_,λt ht hc=>?_,g2,λj hj=>(g3 j hj).imp ah id⟩
     .split at g6
      .cases g6
      .assumption
     .have:=g7 t ht;rw [hc] at this;simp at this
    .cases g1
   .cases g1
  have nxp:∀(EV:List pk) (a:Act) (w:World),Ext w₀ w->VL ops (.f k m fl fs rest) EV->Sat (ab ρ T st.G++(ab ρ T (A++fr.H)++(eB EV++Φ))) w->Fits fr.n (au ρ T st.E fr.F) a->a.defers=D->(∀x∈EV,rM X.P ops.toArray a x)->
    (∀f∈fs,f∈EV.map (·.1))->wpOpIn (FW σ) 0 X.P ops.toArray (QN Q) k (λa' w'=>fP (still .any ops.toArray k pend) w'/\gL X.P σ ops.toArray (QN Q) rest ((EV.map (·.1)).filter λf=> !(db f fs)) (still .any ops.toArray k pend) a' w') a w:=by
   intro EV a w hx0 i hs O hD hC hall;obtain ⟨st1,ρ1,k1,Z,M,k4,k5,k6,k7⟩:=aem (frx:=frA fr A) h1 hs O hC hall h;have hev':∀x∈EV.filter (λx=> !(db x.1 fs)),(∀j∈k::rest.ops,nD ops.toArray j x.1=true)/\∀j∈rest.SA,j=x.1\/nD ops.toArray j x.1=true:=λx hx=>
    ⟨(i x (List.mem_filter.1 hx).1).1,λj hj=>(i x (List.mem_filter.1 hx).1).2 j (c5 _ hj)⟩
   have HP':HP ρ1 T fr A Pd pend w:=λp S z hw hB=>by have k6:ab ρ1 T (A++fr.H)=ab ρ T (A++fr.H):=k6;rw [k6] at hw;exact hp p S z hw (λx hx he=>(hB x hx he).imp (BK Z (C x hx)).1 (λh=>⟨h.1,hx0.trans h.2⟩))
   have hl:=loud rest k 0 (λ{EV A Pd T st ρ w pend}=>ih) (EV:=EV.filter λx=> !(db x.1 fs)) (pend:=pend) k4 h2 hf (λx hx=>(hev' x hx).1 k (bY ..)) (λx hx=>⟨λj hj=>(hev' x hx).1 j (aW _ hj),(hev' x hx).2⟩)
    (λx hx=>⟨cy (C x hx).1 M,λu hu=>cy ((C x hx).2 u hu) M⟩) k7 HP' k1 (λI N z b1 b2 b3 b4=>L I N z (Z.trans b1 M) (b9 M b2) b3 b4) (λv I N z b1 b2 b3 b4=>s v I N z (Z.trans b1 M) (b9 M b2) b3 b4)
   have:=hl a k5 hD (λx hx=>hC x (List.mem_filter.1 hx).1);simp only [gL] at this;have e:(EV.map (·.1)).filter (λf=> !(db f fs))=(EV.filter λx=> !(db x.1 fs)).map (·.1):=by rw [List.filter_map];rfl
   rw [e];split at this
   .exact this.elim
   .exact this
  have main:∀(nf:Nat) (EV:List pk) (a:Act) (w:World),Ext w₀ w->VL ops (.f k m fl fs rest) EV->Sat (ab ρ T st.G++(ab ρ T (A++fr.H)++(eB EV++Φ))) w->Fits fr.n (au ρ T st.E fr.F) a->a.defers=D->(∀x∈EV,rM X.P ops.toArray a x)->
    wpE X.P σ ops.toArray (QN Q) fl pend (λea a w=>(∀f∈fs,f∈ea)->wpOpIn (FW σ) 0 X.P ops.toArray (QN Q) k (λa' w'=>fP (still .any ops.toArray k pend) w'/\gL X.P σ ops.toArray (QN Q) rest (ea.filter λf=> !(db f fs)) (still .any ops.toArray k pend) a' w') a w) nf (EV.map (·.1)) a w:=by
   intro nf
   induction nf with
   |zero=>exact λEV a w hx0 i hs O hD hC=>nxp EV a w hx0 i hs O hD hC
   |succ nf ihf=>
    intro EV a w hx0 i hs O hD hC;refine ⟨nxp EV a w hx0 i hs O hD hC,λf hf' hm=>?_⟩;obtain ⟨o,p,d,r1,r2,r3,r4,r5,r6,r7,r8,r9⟩:=hrun f hf';obtain ⟨e,vs,cs⟩:=p;obtain ⟨gn,ns⟩:=ana r2;have ho':ops.toArray[f]? =some o:=by simpa using r1
    have hR:=aai (ρ:=ρ) r2 w _ a O;have hw:Region.wanted o (yielded ops.toArray a.tmps)=true:=by simp [Region.wanted,gn]
    have hdn:look (au ρ T st.E fr.F) d=none:=by rw [fJ,r6];rfl
    have hne:∀x∈EV,f≠x.1:=λx hx hc=>by have:db f (EV.map (·.1))=true:=da.2 (List.mem_map.2 ⟨x,hx,hc.symm⟩);rw [hm] at this;cases this
    have hs1:Sat (box w.heap.size e (AV.ao ρ cs)::(ab ρ T st.G++(ab ρ T (A++fr.H)++(eB EV++Φ)))) (w.alloc (.cells (AV.ao ρ cs).toArray e)):=hs.push (dY _ _) (λb hb=>by
     have:b=w.heap.size:=by simpa [box] using hb
     subst this;simp) (λ_ _=>heap_alloc_new w _)
    have hs2:Sat (ab ρ T st.G++(ab ρ T (A++fr.H)++(eB ((f,w.heap.size,e,AV.ao ρ cs)::EV)++Φ))) (w.alloc (.cells (AV.ao ρ cs).toArray e)):=by
     have h0:Sat ([]++box w.heap.size e (AV.ao ρ cs)::((ab ρ T st.G++ab ρ T (A++fr.H))++(eB EV++Φ))) (w.alloc (.cells (AV.ao ρ cs).toArray e)):=by rw [aO];exact hs1
     have:=h0.move;rw [pc,aO] at this;exact this
    have hfit':=O.apG hdn (EC o w.heap.size);have hflo:∀x∈(f,w.heap.size,e,AV.ao ρ cs)::EV,rM X.P ops.toArray (a.put o.dst (EC o w.heap.size)) x:=λx hx=>by
     rcases List.mem_cons.1 hx with rfl|hx
     .refine ⟨o,d,w,ho',r3,ns,rfl,?_,?_⟩
      .rw [r3];have hlt:d<a.tmps.size:=by rw [O.size];simpa using r5
       show (a.tmps.setIfInBounds d _).getD d undef=_;simp [Array.getD,hlt]
      .rw [execOp_put (ops:=ops.toArray) o ns a o.dst _ (λt ht hc=>r7 t hc (by rw [r3] at ht;exact (pa ht).symm))];exact hR
     .refine (hC x hx).put ho' ?_;rcases (i x hx).2 f (qz _ hf') with h9|h9
      .exact absurd h9 (hne x hx)
      .exact h9
    unfold wpOpIn;simp only [ho',hw,qq];refine jR r4 ?_;rw [hR,Oper.uponIn_value];refine ⟨ae9 λp S=>hp p S _ ⟨eB ((f,w.heap.size,e,AV.ao ρ cs)::EV)++Φ,hs2.wx⟩ (λx hx _=>(ahQ hs2 hpd0 x hx).imp id (λh=>⟨h,hx0.trans (dY _ _)⟩)),?_⟩;have:=ihf ((f,w.heap.size,e,AV.ao ρ cs)::EV) (a.put o.dst (EC o w.heap.size)) _ (hx0.trans (dY _ _)) (λx hx=>?_) hs2 (by rw [r3];exact hfit') (by rw [gS];exact hD) hflo
    .exact this
    .rcases List.mem_cons.1 hx with rfl|hx
     .exact ⟨r8,r9⟩
     .exact i x hx
  intro a O hD hC;simp only [gL];exact main fl.length EV a w₀ (Ext.refl _) i hs O hD hC
end
def cH:Code->Nat
 | .region _ ops _=>ops.toList.foldl (λm o=>match o.dst with|some d=>Nat.lor m (Nat.shiftLeft 1 d)|none=>m) 0
 | .seq a b=>Nat.lor (cH a) (cH b)
 | .cond _ a b=>Nat.lor (cH a) (cH b)
 | .block _ c=>cH c
 | .loop c=>cH c
 | .scope c=>cH c
 | .rangeFunc _ ps a b=>Nat.lor (ps.toList.foldl (λm d=>Nat.lor m (Nat.shiftLeft 1 d)) 0) (Nat.lor (cH a) (cH b))
 |_=>0
def Pp(t:Nat):List (Bool×Nat×Pt)->Bool
 |[]=>false
 |x::l=>(!x.1&&Nat.beq x.2.1 t)||Pp t l
def uJ(m:Nat)(vs:List (Bool×Nat×Pt))(t:Nat):Bool:= !(Nat.testBit m t)&& !(Pp t vs)
def kO(m:Nat)(vs:List (Bool×Nat×Pt)):aE->aE
 |[]=>[]
 |x::E=>ay ( uJ m vs x.1 ) ( x::kO m vs E ) ( kO m vs E )
def lT(m:Nat)(vs:List (Bool×Nat×Pt)):aE->aE
 |[]=>[]
 |x::E=>ay ( uJ m vs x.1 ) ( lT m vs E ) ( x::lT m vs E )
theorem Xm{m:Nat}{vs:List (Bool×Nat×Pt)}{t:Nat}:{E:aE}->bw E t=ay (uJ m vs t) (bw (kO m vs E) t) (bw (lT m vs E) t)/\bw (ay (uJ m vs t) (lT m vs E) (kO m vs E)) t=none
 |[]=>by cases uJ m vs t <;> exact ⟨rfl,rfl⟩
 |(t',g,v)::E=>by
  obtain ⟨b,a⟩:=Xm (m:=m) (vs:=vs) (t:=t) (E:=E);cases hb:Nat.beq t' t
  .rw [ek hb];unfold kO lT;cases c:uJ m vs t' <;> cases d:uJ m vs t <;> rw [d] at b a <;> first
    |exact ⟨by rw [ek hb];exact b,a⟩
    |exact ⟨b,by rw [ek hb];exact a⟩
    |exact ⟨b,a⟩
  .have e:=ah hb;subst e;rw [gm hb];unfold kO lT;cases c:uJ m vs t' <;> rw [c] at a
   .exact ⟨(gm hb).symm,a⟩
   .exact ⟨(gm hb).symm,a⟩
theorem aft{m:Nat}{vs:List (Bool×Nat×Pt)}{t:Nat}{E F:aE}:dy (lT m vs E) (kO m vs E++F) t=dy E F t:=by
 have app:∀A B:aE,bw (A++B) t=match bw A t with|some x=>some x|none=>bw B t:=λA B=>by
  induction A with
  |nil=>rfl
  |cons x A ih=>
   obtain ⟨t',g,v⟩:=x;cases hb:Nat.beq t' t
   .rw [dk,ek hb,ek hb];exact ih
   .rw [dk,gm hb,gm hb]
 obtain ⟨b,a⟩:=Xm (m:=m) (vs:=vs) (t:=t) (E:=E);unfold dy;rw [app];cases c:uJ m vs t <;> rw [c] at b a
 .rw [show bw (kO m vs E) t=none from a,b]
 .rw [show bw (lT m vs E) t=none from a,b];rfl
theorem aib{ρ:ax}{E E' F a:aE}(h:∀t,dy E' a t=dy E F t):iD (au ρ [] E' a) (au ρ [] E F):=λt p hp=>by rw [fJ] at hp ⊢;rw [<-h];exact hp
mutual
def AV.ids:AV->x3
 | .ptr id _|.sl id|.adr id _|.mp id|.nv id|.sfp id _|.bs id _=>[id]
 | .agg l|.tuple l=>AV.aaT l
 | .fn _ a b=>AV.aaT a++AV.aaT b
 | .ifc _ v=>v.ids
 |_=>[]
def AV.aaT:List AV->x3
 |[]=>[]
 |v::l=>v.ids++AV.aaT l
end
def ajz(res:AV->AV)(ids:x3):List Row->x3
 |[]=>[]
 |r::G=>(match r with
  | .box j _ vs=>ay (rI j ids) (AV.aaT (vs.map res)) []
  |_=>[])++ajz res ids G
def reach(st:aB)(fr:Fr)(ts:x3):x3:=
 let a:=(ts.map λt=>match dy st.E fr.F t with
  |some (_,v)=>v.ids
  |none=>[]).flatten
 let b:=a++ajz (rD st.G fr.H) a st.G
 b++ajz (rD st.G fr.H) b st.G
def fg(ids:x3)(r:Row):Bool:=rI r.id ids
def j2(ids:x3)(c:Nat):List Row->List Row×List Row×Nat
 |[]=>([],[],c)
 |r::G=>match r with
  | .box j t vs=>ay ( rI j ids ) ( match kh c vs with
   |(cs,R,c)=>match j2 ids c G with
    |(G,R',c)=>(.box j t cs::G,R++R',c) )<|match j2 ids c G with
   |(G,R',c)=>(.box j t vs::G,R',c)
  |r=>match j2 ids c G with
   |(G,R',c)=>(r::G,R',c)
def fw:List Row->List (List AV)
 |[]=>[]
 |r::G=>(match r with
  | .box _ _ cs=>cs::fw G
  |_=>fw G)
structure amx(c:Nat)(G:List Row)(ρ ρ':ax)(x:List Row×List Row×Nat):Prop where
 ag:aT c ρ ρ'
 le:c<=x.2.2
 eq:ab ρ' [] x.1=ab ρ [] G
 lw:bB x.2.2 x.1=true
 rl:bB x.2.2 x.2.1=true
 rp:∀r∈x.2.1,(r.item ρ' []).cE=true/\∀M w,(r.item ρ' []).P M w
 bx:(fw x.1).map (AV.ao ρ')=(fw G).map (AV.ao ρ)
theorem KM{ρ ρ':ax}{c:Nat}(ha:aT c ρ ρ'):{G:List Row}->bB c G=true->(fw G).map (AV.ao ρ')=(fw G).map (AV.ao ρ)
 |[],_=>rfl
 |r::G,h=>by
  simp only [bB,ae] at h;have ih:=KM ha h.2;cases r with
  |box j t cs=>
   have a:=h.1;simp only [Row.low,ae] at a;show AV.ao ρ' cs::(fw G).map (AV.ao ρ')=AV.ao ρ cs::(fw G).map (AV.ao ρ);rw [ih,AV.bR ha _ a.2]
  |_=>exact ih
theorem G9{ids:x3}:{G:List Row}->{c:Nat}->{ρ:ax}->bB c G=true->∃ρ',amx c G ρ ρ' (j2 ids c G)
 |[],c,ρ,h=>⟨ρ,.refl,bb _,rfl,rfl,rfl,(λ_ h=>by cases h),rfl⟩
 |r::G,c,ρ,h=>by
  simp only [bB,ae] at h;have f:(∀t cs j,r= .box j t cs->rI j ids=false)->j2 ids c (r::G)=(match j2 ids c G with|(G,s,c)=>(r::G,s,c))->∃ρ',amx c (r::G) ρ ρ' (j2 ids c (r::G)):=λ_ e=>by
   obtain ⟨ρ',l⟩:=G9 (ids:=ids) (c:=c) (ρ:=ρ) h.2;rw [e];generalize j2 ids c G=L at l;obtain ⟨q,R,A⟩:=L;refine ⟨ρ',l.ag,l.le,?_,?_,l.rl,l.rp,?_⟩
   .have:=l.eq;simp only [ab,cq] at this ⊢;rw [this,Row.y6 l.ag h.1]
   .simp only [bB,ae];exact ⟨Row.fa l.le h.1,l.lw⟩
   .have hb:(fw q).map (AV.ao ρ')=(fw G).map (AV.ao ρ):=l.bx;cases r with
    |box j t cs=>
     have w:=h.1;simp only [Row.low,ae] at w;show AV.ao ρ' cs::(fw q).map (AV.ao ρ')=AV.ao ρ cs::(fw G).map (AV.ao ρ);rw [hb,AV.bR l.ag _ w.2]
    |_=>exact hb
  cases r with
  |box j t vs=>
   cases v:rI j ids
   .exact f (λt cs j h=>by cases h;exact v) (by simp only [j2,v])
   .have b:=h.1;simp only [Row.low,ae,du] at b;obtain ⟨k,a⟩:=G6 (ρ:=ρ) b.2;have e:j2 ids c (.box j t vs::G)=(match kh c vs with
     |(cs,R,c)=>match j2 ids c G with
      |(G,s,c)=>(.box j t cs::G,R++s,c)):=by simp only [j2,v]
    rw [e];generalize kh c vs=L at a;obtain ⟨cs,R,c1⟩:=L;obtain ⟨d,g⟩:=G9 (ids:=ids) (c:=c1) (ρ:=k) (wJ a.le h.2);dsimp only;generalize j2 ids c1 G=L at g;obtain ⟨q,s,z⟩:=L;have o:c<=c1:=a.le;have i:c1<=z:=g.le;have p:aT c ρ d:=a.ag.trans g.ag a.le;refine ⟨d,p,b9 o i,?_,?_,pZ (wJ i a.rl) g.rl,?_,?_⟩
    .have y:=g.eq;simp only [ab,cq,Row.item] at y ⊢;have m:AV.bV c1 cs=true:=a.lw;have n:AV.ao k cs=AV.ao ρ vs:=a.eq;rw [y,p _ b.1,AV.bR g.ag _ m,n];have:=bc (T:=[]) a.ag h.2;simp only [ab] at this;rw [this]
    .simp only [bB,Row.low,ae,du];exact ⟨⟨by omega,AV.je i _ a.lw⟩,g.lw⟩
    .intro r b;rcases List.mem_append.1 b with b|b
     .have u:r.low c1=true:=by
       have key:∀{R:List Row},bB c1 R=true->∀r∈R,r.low c1=true:=λ{R}=>by
        induction R with
        |nil=>intro _ r h;cases h
        |cons x R ih=>
         intro h r b;simp only [bB,ae] at h;rcases List.mem_cons.1 b with rfl|b
         .exact h.1
         .exact ih h.2 r b
       exact key a.rl r b
      rw [Row.y6 g.ag u];exact a.rp r b
     .exact g.rp r b
    .have hb:(fw q).map (AV.ao d)=(fw G).map (AV.ao k):=g.bx;show AV.ao d cs::(fw q).map (AV.ao d)=AV.ao ρ vs::(fw G).map (AV.ao ρ);have m:AV.bV c1 cs=true:=a.lw;have n:AV.ao k cs=AV.ao ρ vs:=a.eq;rw [hb,AV.bR g.ag _ m,n,KM a.ag h.2]
  |_=>exact f (λt cs j h=>by cases h) rfl
variable {G : List Row}
def wY(E F:aE)(t:Nat):Option AV:=match dy E F t with
 |some (none,v)=>some v
 |_=>none
theorem DO{ρ:ax}{E F:aE}{t:Nat}{v:AV}(h:wY E F t=some v):look (au ρ [] E F) t=some (true,v.val ρ):=by
 unfold wY at h;split at h
 next a hv=>cases h;rw [fJ,hv];simp
 .cases h
def Rn(st:aB)(fr:Fr):List (Bool×Nat×Pt)->x3
 |[]=>[]
 |x::l=>(ay x.1 (match dy st.E fr.F x.2.1 with
  |some (_,v)=>v.ids
  |none=>[]) [])++Rn st fr l
mutual
def ag6(G H:List Row):Pt->AV->x3
 | .own _ _ _,v=>v.ids
 | .mp _ _ _,v=>v.ids
 | .it,v=>v.ids
 | .bx _ _ _ vs,v=>(match v with
  | .ptr j _=>j::My G H vs (cellsOf G H j)
  |_=>[])
 | .agg l,v=>(match v with
  | .agg vs=>My G H l vs
  |_=>[])
 | .cD l,v=>(match v with
  | .tuple vs=>My G H l vs
  |_=>[])
 | .fn _ a b,v=>(match v with
  | .fn _ a' b'=>My G H a a'++My G H b b'
  |_=>[])
 | .sty p,v=>ag6 G H p v
 | .ifc _ p,v=>(match v with
  | .ifc _ u=>ag6 G H p u
  |_=>[])
 | .dat _ o,v=>ay (o.all (λx=>x.isNone)) [] v.ids
 |_,_=>[]
def My(G H:List Row):List Pt->List AV->x3
 |[],_=>[]
 |p::l,vs=>(match vs with
  |v::vs=>ag6 G H p (rD G H v)++My G H l vs
  |[]=>[])
end
def ajW(st:aB)(fr:Fr):List (Bool×Nat×Pt)->x3
 |[]=>[]
 |x::l=>(match dy st.E fr.F x.2.1 with
  |some (_,v)=>ag6 st.G fr.H x.2.2 (rD st.G fr.H v)
  |none=>[])++ajW st fr l
structure En where
 fr:Fr
 E:aE
 G:List Row
 Et:aE
 Gt:List Row
 c:Nat
 fix:Nat->fZ
def ajP(E F:aE)(G:List Row)(t:Nat):fZ:=match dy E F t with
 |some (_,v)=>some (v,match v with
  | .ptr j _=>cellsOf G [] j
  |_=>[])
 |none=>none
def enter(fr:Fr)(tm:Tm)(m:Nat)(st:aB):En:=
 let ids:=ajW st fr tm.vs++reach st fr tm.th
 match j2 (Rn st fr tm.vs) st.c (bn (fg ids) st.G) with
 |(Gt,R,c)=>⟨⟨kO m tm.vs st.E++fr.F,(R++bn (λr=> !(fg ids r)) st.G)++fr.H,fr.n⟩,kO m tm.vs st.E,R++bn (λr=> !(fg ids r)) st.G,lT m tm.vs st.E,Gt,c,ajP st.E fr.F Gt⟩
structure aqf(fr:Fr)(st:aB)(Φ:Ctx)(w:World)(ρ ρ':ax)(en:En):Prop where
 ag:aT st.c ρ ρ'
 le:st.c<=en.c
 ff:en.fr.F=en.E++fr.F
 fh:en.fr.H=en.G++fr.H
 fn:en.fr.n=fr.n
 lF:aE.low en.c en.fr.F=true
 lH:bB en.c en.fr.H=true
 sub:iD (au ρ' [] en.Et en.fr.F) (au ρ [] st.E fr.F)
 sat:Sat (ab ρ' [] en.Gt++(ab ρ' [] en.fr.H++Φ)) w
 fx:∀t q,en.fix t=some q->q.1.low en.c=true/\AV.bV en.c q.2=true
theorem aE.fa{c d:Nat}(a:c<=d):{E:aE}->E.low c=true->E.low d=true
 |[],_=>rfl
 |x::E,h=>by simp only [aE.low,ae] at h ⊢;exact ⟨AV.fa a _ h.1,aE.fa a h.2⟩
theorem aE.Hl{c:Nat}:{E F:aE}->E.low c=true->F.low c=true->aE.low c (E++F)=true
 |[],_,_,h=>h
 |x::E,F,h,k=>by simp only [dk,aE.low,ae] at h ⊢;exact ⟨h.1,aE.Hl h.2 k⟩
theorem Hk{c:Nat}:{E:aE}->E.low c=true->{t:Nat}->{x:GK×AV}->bw E t=some x->x.2.low c=true
 |[],_,_,_,h=>by cases h
 |(t',g,v)::E,h,t,x,hx=>by
  simp only [aE.low,ae] at h;cases hb:Nat.beq t' t
  .rw [ek hb] at hx;exact Hk h.2 hx
  .rw [gm hb] at hx;cases hx;exact h.1
theorem LV{c m:Nat}{vs:List (Bool×Nat×Pt)}:{E:aE}->E.low c=true->(kO m vs E).low c=true
 |[],_=>rfl
 |x::E,h=>by
  simp only [aE.low,ae] at h;unfold kO;cases uJ m vs x.1
  .exact LV h.2
  .show aE.low c (x::kO m vs E)=true;simp only [aE.low,ae];exact ⟨h.1,LV h.2⟩
theorem LH{c m:Nat}{vs:List (Bool×Nat×Pt)}:{E:aE}->E.low c=true->(lT m vs E).low c=true
 |[],_=>rfl
 |x::E,h=>by
  simp only [aE.low,ae] at h;unfold lT;cases uJ m vs x.1
  .show aE.low c (x::lT m vs E)=true;simp only [aE.low,ae];exact ⟨h.1,LH h.2⟩
  .exact LH h.2
theorem De{c:Nat}{p:Row->Bool}:{G:List Row}->bB c G=true->bB c (bn p G)=true
 |[],_=>rfl
 |r::G,h=>by
  simp only [bB,ae] at h;unfold bn;cases p r
  .exact De h.2
  .show bB c (r::bn p G)=true;simp only [bB,ae];exact ⟨h.1,De h.2⟩
theorem adj{c:Nat}{j:Nat}(h:bB c G=true):AV.bV c (cellsOf G [] j)=true:=by
 unfold cellsOf;split
 .rename_i s d t cs b;obtain ⟨a,_⟩:=bU b;cases s with
  |top i=>
   have:=ph h (show G[i]? =some _ from a);simp only [Row.low,ae] at this;exact this.2
  |cr i=>have a:([]:List Row)[i]? =some _:=a;simp at a
  |nilI=>exact a.elim
  |nilO=>exact a.elim
  |nilM=>exact a.elim
 .rfl
theorem alw{c:Nat}{E F:aE}(d:E.low c=true)(b:F.low c=true)(a:bB c G=true){t:Nat}{q:AV×List AV}(h:ajP E F G t=some q):q.1.low c=true/\AV.bV c q.2=true:=by
 unfold ajP at h;split at h
 .rename_i v hv;cases h;refine ⟨?_,?_⟩
  .unfold dy at hv;split at hv
   next x hx=>cases hv;exact Hk d hx
   .exact Hk b hv
  .split
   .exact adj a
   .rfl
 .cases h
theorem vE{fr:Fr}{tm:Tm}{m:Nat}{st:aB}{ρ:ax}{Φ:Ctx}{w:World}(K:st.low fr=true)(D:Sat (ab ρ [] st.G++(ab ρ [] fr.H++Φ)) w):∃ρ',aqf fr st Φ w ρ ρ' (enter fr tm m st):=by
 obtain ⟨g,f,u,s⟩:=aB.cw.1 K;unfold enter;dsimp only;generalize ajW st fr tm.vs++reach st fr tm.th=ids;have n:=oP (A:=[]) (p:=fg ids) D;obtain ⟨ρ',l⟩:=G9 (ids:=Rn st fr tm.vs) (c:=st.c) (ρ:=ρ) (De (p:=fg ids) u);generalize j2 (Rn st fr tm.vs) st.c (bn (fg ids) st.G)=L at l;obtain ⟨Gt,R,c⟩:=L;have a:st.c<=c:=l.le;have y:=LV (m:=m) (vs:=tm.vs) g;have hp:=De (p:=λr=> !(fg ids r)) u;refine ⟨ρ',l.ag,a,rfl,rfl,rfl,?_,?_,?_,?_,λt q J=>?_⟩
 .exact aE.Hl (aE.fa a y) (aE.fa a f)
 .exact pZ (pZ l.rl (wJ a hp)) (wJ a s)
 .have o:au ρ' [] (lT m tm.vs st.E) (kO m tm.vs st.E++fr.F)=au ρ [] (lT m tm.vs st.E) (kO m tm.vs st.E++fr.F):=by rw [au,au,ou l.ag (LH g),ou l.ag (aE.Hl y f)]
  show iD (au ρ' [] (lT m tm.vs st.E) (kO m tm.vs st.E++fr.F)) _;rw [o];exact aib λt=>aft
 .show Sat (ab ρ' [] Gt++(ab ρ' [] ((R++bn (λr=> !(fg ids r)) st.G)++fr.H)++Φ)) w;have o:ab ρ' [] Gt=ab ρ [] (bn (fg ids) st.G):=l.eq;have V:ab ρ' [] (bn (λr=> !(fg ids r)) st.G++fr.H)=ab ρ [] (bn (λr=> !(fg ids r)) st.G++fr.H):=bc l.ag (pZ hp s);rw [aO,bh,o,V];have i:Sat (ab ρ [] (bn (fg ids) st.G)++(ab ρ [] (bn (λr=> !(fg ids r)) st.G++fr.H)++Φ)) w:=by simpa using n
  have e:∀(L:List Item) (A B:Ctx),(∀it∈L,it.cE=true/\∀M w,it.P M w)->Sat (A++B) w->Sat (A++(L++B)) w:=λL A B v h=>by
   have C:=BO h L (λit d=>⟨(v it d).1,(v it d).2 _ _⟩);have mv:∀(L:List Item) (A B:Ctx),Sat (L++(A++B)) w->Sat (A++(L++B)) w:=λL=>by
    induction L with
    |nil=>intro A B h;exact h
    |cons x L ih=>
     intro A B h;have z:Sat ([]++x::((L++A)++B)) w:=by simpa using h
     have T:Sat ([]++((L++A)++x::B)) w:=z.move;have S:Sat (L++(A++x::B)) w:=by simpa using T
     have Q:Sat (A++(L++x::B)) w:=ih _ _ S;have O:Sat (A++(L++[x]++B)) w:=by simpa using Q
     -- x goes ahead of L
     refine O.yR (λj k=>(j<A.length/\k=j)\/(j=A.length/\k=A.length+L.length)\/(A.length<j/\j<=A.length+L.length/\k+1=j)\/(A.length+L.length<j/\k=j)) (λj jt b=>?_) (λj k q N C z=>by omega);by_cases c1:j<A.length
     .rw [b7 c1] at b;exact .inr ⟨j,jt,.inl ⟨c1,rfl⟩,by rw [b7 c1];exact b,bQ.refl⟩
     .rw [bZ (by omega)] at b;by_cases X:j=A.length
      .subst X;simp at b;subst b;refine .inr ⟨A.length+L.length,x,.inr (.inl ⟨rfl,rfl⟩),?_,bQ.refl⟩;rw [bZ (by omega)];have:A.length+L.length-A.length=L.length:=by omega
       rw [this];simp
      .have U:j-A.length=(j-A.length-1)+1:=by omega
       rw [U,dk,b8] at b;by_cases W:j<=A.length+L.length
       .rw [b7 (by omega)] at b;refine .inr ⟨j-1,jt,.inr (.inr (.inl ⟨by omega,W,by omega⟩)),?_,bQ.refl⟩;rw [bZ (by omega),aO,b7 (by omega)];rw [show j-1-A.length=j-A.length-1 by omega];exact b
       .rw [bZ (by omega)] at b;refine .inr ⟨j,jt,.inr (.inr (.inr ⟨by omega,rfl⟩)),?_,bQ.refl⟩;rw [bZ (by omega),bZ (by simp;omega)];have:j-A.length-(L++[x]).length=j-A.length-1-L.length:=by simp;omega
        rw [this];exact b
   exact mv L A B C
  have:=e (ab ρ' [] R) (ab ρ [] (bn (fg ids) st.G)) (ab ρ [] (bn (λr=> !(fg ids r)) st.G++fr.H)++Φ) (λit d=>by obtain ⟨r,I,rfl⟩:=List.mem_map.1 d;exact l.rp r I) i
  simpa using this
 .exact alw (aE.fa a g) (aE.fa a f) l.lw J
def UF(G H:List Row)(look:Nat->Option AV)(fix:Nat->fZ):List (Bool×Nat×Pt)->x3
 |[]=>[]
 |x::l=>(match (ay x.1 ((fix x.2.1).map (·.1)) (look x.2.1)) with
  |some v=>rB G H x.2.2 v
  |none=>[])++UF G H look fix l
def RN(F:aE)(vs:List (Bool×Nat×Pt)):aE->Bool
 |[]=>true
 |x::E=>(Pp x.1 vs||oW (bw F x.1))&&RN F vs E
def MN(en:En)(tm:Tm)(E:aE)(G:List Row):List Row:=cr (UF G en.fr.H (wY E en.fr.F) en.fix tm.vs) G
def jA(en:En)(tm:Tm)(E:aE)(G:List Row):Option (eo (fT tm.vs)):=
 match Xx (MN en tm E G) en.fr.H (wY E en.fr.F) en.fix tm.vs [] with
 |some mr=>ay (Au (mr.S.map λx=>df (MN en tm E G) en.fr.H x.2)&&OS (MN en tm E G).length (mr.S.map λx=>df (MN en tm E G) en.fr.H x.2)&&RN en.fr.F tm.vs E) (cD _ mr.D) none
 |none=>none
def rowsOf(R:List (Bool×Row)):List Row:=R.map (·.2)
def cG(en:En)(tm:Tm)(s:eo (fT tm.vs))(h:HT):aB:=match eT (λn=>en.c+n) en.fix tm.vs 0 (fK _ s) with
 |⟨E,R,k,_⟩=>⟨en.c+k,E,rowsOf R,h⟩
def fN(en:En)(tm:Tm)(s:eo (fT tm.vs))(h:HT):aB:=match eT (λn=>en.c+n) en.fix tm.vs 0 (fK _ s) with
 |⟨E,R,k,_⟩=>⟨en.c+k,E++en.E,rowsOf R++en.G,h⟩
def vW(e:XE)(en:En)(st:aB):aB:=match e with
 | .panL _=>{ st with E:=st.E++en.E,G:=st.G++cZ en.G }
 |_=>{ st with E:=st.E++en.E,G:=st.G++en.G }
theorem Sat.R3{w:World}{A C:Ctx}:∀{B:Ctx},Sat (A++(B++C)) w->Sat (A++C) w
 |[],h=>h
 |_x::B,h=>Sat.R3 (B:=B) (Sat.yE h)
theorem WW{nm:Nat->Nat}{fix:Nat->fZ}{t:Nat}:{l:List (Bool×Nat×Pt)}->{n:Nat}->{D:List bX}->Pp t l=true->bw (eT nm fix l n D).E t≠none
 |[],n,D,h=>by cases h
 |(b,t',p)::l,n,D,h=>by
  unfold eT;dsimp only;generalize fill nm p (ay b (fix t') none) none n D=L;obtain ⟨v,R,k,c,j⟩:=L;dsimp only;generalize d:eT nm fix l k c=f;obtain ⟨a,m,i,g⟩:=f;dsimp only;have ih:Pp t l=true->bw a t≠none:=λe=>by have:=WW (nm:=nm) (fix:=fix) (n:=k) (D:=c) e;rw [d] at this;exact this
  simp only [Pp,cp,ae] at h;cases b
  .show bw ((t',none,v)::a) t≠none;cases hb:Nat.beq t' t
   .rw [ek hb];rcases h with ⟨_,h⟩|h
    .rw [hb] at h;cases h
    .exact ih h
   .rw [gm hb];simp
  .show bw a t≠none;rcases h with ⟨h,_⟩|h
   .cases h
   .exact ih h
theorem abC{F:aE}{vs:List (Bool×Nat×Pt)}{t:Nat}:{E:aE}->{x:GK×AV}->RN F vs E=true->bw E t=some x->Pp t vs=true\/bw F t=none
 |[],x,_,h=>by cases h
 |(t',g,v)::E,x,hb,h=>by
  simp only [RN,ae,cp] at hb;cases b:Nat.beq t' t
  .rw [ek b] at h;exact abC hb.2 h
  .have e:=ah b;subst e;rcases hb.1 with a|a
   .exact .inl a
   .cases c:bw F t' with
    |none=>exact .inr rfl
    |some y=>rw [c] at a;cases a
section
variable {en : En} {tm : Tm} {Φ : Ctx} {w : World} {ρ : ax}
theorem mQ{E:aE}{s:eo (fT tm.vs)}(lF:aE.low en.c en.fr.F=true)(lH:bB en.c en.fr.H=true)(fx:∀t q,en.fix t=some q->q.1.low en.c=true/\AV.bV en.c q.2=true)
  (hs:Sat (ab ρ [] G++(ab ρ [] en.fr.H++Φ)) w) (h:jA en tm E G=some s):
  ∃ρ' E' R k D,eT (λn=>en.c+n) en.fix tm.vs 0 (fK _ s)=⟨E',R,k,D⟩/\aT en.c ρ ρ'/\iD (au ρ' [] E' en.fr.F) (au ρ [] E en.fr.F)/\Sat (ab ρ' [] (rowsOf R)++(ab ρ' [] en.fr.H++Φ)) w:=by
 unfold jA at h;have d:=iC (ids:=UF G en.fr.H (wY E en.fr.F) en.fix tm.vs) hs;change Sat (ab ρ [] (MN en tm E G)++_) w at d;generalize MN en tm E G=G' at h d;split at h
 .rename_i Q S;obtain ⟨U,h2⟩:=aG h;simp only [ae] at U;obtain ⟨⟨h3,h4⟩,h5⟩:=U;obtain ⟨N,I,r,n1,a1⟩:=Sz d tm.vs [] Q [] S .nil;rw [<-Ab _ h2] at r;obtain ⟨p1,_⟩:=ML d a1;obtain ⟨P,_⟩:=vo d p1 (vu h3);rw [Ae h4] at P;have Z:=P.R3
  -- names
  have b:aT en.c ρ (λi=>ay (Nat.blt i en.c) (ρ i) ((N[i-en.c]?).getD cL)):=λj hj=>by
   have:Nat.blt j en.c=true:=by simpa using hj
   simp only [this]
  have l:uO (λi=>ay (Nat.blt i en.c) (ρ i) ((N[i-en.c]?).getD cL)) (λn=>en.c+n) 0 N:=λi a ha=>by
   have:Nat.blt (en.c+i) en.c=false:=by
    cases hb:Nat.blt (en.c+i) en.c
    .rfl
    .simp only [du] at hb;omega
   simp only [this,show en.c+i-en.c=i by omega,ha,qs];exact ⟨trivial,trivial,trivial,λ_=>trivial⟩
  generalize (λi=>ay (Nat.blt i en.c) (ρ i) ((N[i-en.c]?).getD cL))=ρ' at b l;have e1:(λi=>eX ρ (en.fix i))=λi=>eX ρ' (en.fix i):=by
   funext i
   cases hq:en.fix i with
   |none=>rfl
   |some q=>
    obtain ⟨k1,k2⟩:=fx i q hq;show some (q.1.val ρ,AV.ao ρ q.2)=some (q.1.val ρ',AV.ao ρ' q.2);rw [AV.ka b _ k1,AV.bR b _ k2]
  rw [e1] at r;obtain ⟨O,W,V,M⟩:=Qb (T:=[]) (nm:=λn=>en.c+n) tm.vs [] (fK _ s) I (dB ρ Q.X) N r (aar S) l (p8 _) [];simp only [eF,qf] at O W V M;generalize hF:eT (λn=>en.c+n) en.fix tm.vs 0 (fK _ s)=L at O W V M;obtain ⟨E',R,k,D⟩:=L;refine ⟨ρ',E',R,k,D,rfl,b,λt p hp=>?_,?_⟩
  .rw [fJ] at hp;cases m:bw E' t with
   |some x=>
    have u:look (aE.env ρ' [] E') t=some (aA.get [] x.1,x.2.val ρ'):=by rw [rF,m];rfl
    obtain ⟨c1,g⟩:=O t _ u;have K:dy E' en.fr.F t=some x:=by unfold dy;rw [m]
    rw [K] at hp;simp only [j5,b0] at hp;subst hp;simp only at c1 g;cases f:wY E en.fr.F t with
    |none=>rw [f] at g;cases g
    |some v=>
     rw [f] at g;simp only [j5,b0] at g;rw [DO f,c1,g]
   |none=>
    have K:dy E' en.fr.F t=bw en.fr.F t:=by unfold dy;rw [m]
    rw [K] at hp;cases e:bw en.fr.F t with
    |none=>rw [e] at hp;cases hp
    |some y=>
     rw [e] at hp;simp only [j5,b0] at hp;have J:bw E t=none:=by
      cases J:bw E t with
      |none=>rfl
      |some z=>
       rcases abC h5 J with o|o
       .have:=WW (nm:=λn=>en.c+n) (fix:=en.fix) (n:=0) (D:=fK _ s) o;rw [hF] at this;exact (this m).elim
       .rw [e] at o;cases o
     rw [fJ];unfold dy;rw [J,e,<-hp];simp only [j5];rw [AV.ka b _ (Hk lF e)]
  .have Y:=Sat.leL (A:=[]) (B:=dh I) (C:=ab ρ [] en.fr.H++Φ) Z M.rw;rw [bc b lH];exact Y
 .cases h
end
variable {fr : Fr}
def ami(P:Program)(o:Oper):Bool:=match o.op with
 | .store ..|.alloc _|.box ..|.buildSlice ..|.makeSlice ..|.makeMap ..|.mapUpdate ..|.insert ..|.range ..|.next ..|.defer _|.panic _=>true
 | .convert s d _=>isStr P s&& !(isStr P d)
 | .call ⟨.builtin b,_,_⟩=>(match b with
  | .len|.cap|.min|.max|.unsafeSliceData=>false
  |_=>true)
 | .call _=>true
 |_=>false
def agm(q:Bool)(m:Nat):Nat->List (Nat×Bool)->v7
 |_,[]=>none
 |k,x::l=>ay ( Wq x.2 (!q)&& !(Nat.testBit m k)&&HF x.1 m ) ( some k )<|agm q m (k+1) l
def ab5(l:List (Nat×Bool)):Nat->Nat->OT
 |0,_=> .nil
 |n+1,m=>match agm true m 0 l with
  |some k=> .q k m (ab5 l n (bit m k))
  |none=>match agm false m 0 l with
   |none=> .nil
   |some k=>match agm false m (k+1) (l.drop (k+1)) with
    |none=> .l k m (ab5 l n (bit m k))
    |some j=> .l2 m k (ab5 l n (bit m k)) j (ab5 l n (bit m j))
def ap6(o:Oper):Bool:=match o.op,o.guard with
 | .alloc _,none=>true
 | .buildSlice .., none=>true
 |_,_=>false
def aht(kd m:Nat):Nat->List (Nat×Nat)->Option (Nat×Nat)
 |_,[]=>none
 |k,x::l=>ay ( Nat.beq x.2 kd&& !(Nat.testBit m k)&&HF x.1 m ) ( some (k,x.1) )<|aht kd m (k+1) l
def Qe(m:Nat):Nat->List (Nat×Nat)->x3
 |_,[]=>[]
 |k,x::l=>ay ( Nat.beq x.2 2&& !(Nat.testBit m k)&&HF x.1 m ) ( k::Qe m (k+1) l )<|Qe m (k+1) l
def aj8(l:List (Nat×Nat)):Nat->Nat->OT
 |0,_=> .nil
 |n+1,m=>match aht 0 m 0 l with
  |some p=> .q p.1 m (aj8 l n (bit m p.1))
  |none=>match (match aht 1 (gY m (Qe m 0 l)) 0 l with
    |some p=>some p
    |none=>aht 0 (gY m (Qe m 0 l)) 0 l) with
   |none=> .nil
   |some p=> .f p.1 m (Qe m 0 l) ((Qe m 0 l).filter λf=>Nat.testBit p.2 f) (aj8 l n (bit (gY m ((Qe m 0 l).filter λf=>Nat.testBit p.2 f)) p.1))
def al6{R:Type}(X:Cx)(tb:List aq)(tp:List bH)(KP:AV->aB->Option R)(ops:w5)(fr:Fr)(th:x3)(t:OT)(st:aB)(K:cz R):Option R:=
 ay ( X.P.follows .mixedOrders&&aaa ops (ops.toList.map λo=>fu o.after.toList) t ) (
  nr X tb tp KP ops.toList fr t (bn (λr=> !(fg (reach st fr th) r)) st.G) [] [] { st with G:=bn (fg (reach st fr th)) st.G } K ) none
def ajO(fr:Fr)(st:aB):x3->x3
 |[]=>[]
 |t::th=>ay (Nat.ble 20000 t) ((match dy st.E fr.F (t-20000) with
  |some (_,v)=>AV.dX v++(match v with
   | .ptr id _=>(match mz (wh id) st.G with
    |some (_,.box _ _ cs)=>((cs.map (rD st.G fr.H)).map AV.dX).flatten
    |_=>[])
   |_=>[])
  |none=>[])++ajO fr st th) (ajO fr st th)
def Py(fr:Fr)(st:aB)(th:x3):aB:=match ajO fr st th with
 |[]=>st
 |ids=>{ st with G:=cr ids st.G }
theorem afe{st:aB}{th:x3}{ρ:ax}{T:aA}{B:Ctx}{w:World}(h:Sat (ab ρ T st.G++B) w):
  (Py fr st th).c=st.c/\(Py fr st th).E=st.E/\Sat (ab ρ T (Py fr st th).G++B) w:=by
 unfold Py;split
 .exact ⟨rfl,rfl,h⟩
 .exact ⟨rfl,rfl,iC h⟩
def HO{R:Type}(X:Cx)(tb:List aq)(tp:List bH)(KP:AV->aB->Option R)(ops:w5)(fr:Fr)(th:x3)(st:aB)(K:cz R):Option R:=
 al6 X tb tp KP ops fr th (cond (db 40000 th) (aj8 (ops.toList.map λo=>(fu o.after.toList,cond (ap6 o) 2 (cond (ami X.P o) 1 0))) ops.toList.length 0) (ab5 (ops.toList.map λo=>(fu o.after.toList,ami X.P o)) ops.toList.length 0)) (Py fr st th) K
abbrev brk{R:Type}(i:Nat)(K:XE->aB->Option R):XE->aB->Option R
 | .ext j,st=>ay ( Nat.beq j i ) ( K .nrm st ) ( K (.ext j) st )
 |e,st=>K e st
abbrev uv{R:Type}(K1:aB->Option R)(K:XE->aB->Option R):XE->aB->Option R
 | .nrm,st=>K1 st
 |e,st=>K e st
abbrev cnd{R:Type}(b:Bool)(d1 d2:HT->Option R)(h:HT):Option R:=match h with
 | .c p q=>cond b (d1 p) (d2 q)
 |h=>cond b (d1 h) (d2 h)
def abu(fr:Fr)(st:aB):aB:=match st.h with
 | .r (30000::th) h=>Py fr { st with h:=h } th
 |_=>st
theorem anU{st:aB}{ρ:ax}{T:aA}{B:Ctx}{w:World}(h:Sat (ab ρ T st.G++B) w):
  (abu fr st).c=st.c/\(abu fr st).E=st.E/\Sat (ab ρ T (abu fr st).G++B) w:=by
 unfold abu;split
 next th a _=>exact afe (st:={ st with h:=a }) h
 .exact ⟨rfl,rfl,h⟩
def akh(v:AV)(i:Nat):Option (Int×(Int->AV)):=match v with
 | .int k x=>(match i with
  |0=>some (x,.int k)
  |_=>none)
 | .agg l=>(match i with
  |0=>none
  |j+1=>(match l[j]? with
   |some (.int k x)=>some (x,λy=> .agg (l.set j (.int k y)))
   |_=>none))
 |_=>none
theorem amJ{v:AV}{i:Nat}{p:Int×(Int->AV)}(h:akh v i=some p):p.2 p.1=v:=by
 unfold akh at h;split at h
 .split at h
  .cases h;rfl
  .cases h
 .split at h
  .cases h
  .rename_i l j;split at h
   next k x hx=>cases h;simp only;congr 1;obtain ⟨b,a⟩:=List.getElem?_eq_some_iff.1 hx;rw [<-a];exact List.set_getElem_self b
   .cases h
 .cases h
def acj{R:Type}(F:aE)(t i:Nat)(k:aB->Option R):x3->HT->aB->Option R
 |v::vs,h,st=>(match h with
  | .c h hs=>(match dy st.E F t with
   |some (none,av)=>(match akh av i with
    |some p=>cond (p.1==(v:Int)) (k { st with h:=h,E:=(t,none,p.2 (v:Int))::st.E }) (acj F t i k vs hs st)
    |none=>none)
   |_=>none)
  |_=>none)
 |[],h,st=>(match h with
  | .n 77777 _=>none
  |h=>k { st with h:=h })
theorem aeC{R:Type}{r:R}{F:aE}{t i:Nat}{k:aB->Option R}{st:aB}:∀{vs:x3} {h:HT},acj F t i k vs h st=some r->
  ∃st',k st'=some r/\st'.c=st.c/\st'.G=st.G/\∀ρ T,iD (au ρ T st'.E F) (au ρ T st.E F)
 |[],h,hh=>by
  unfold acj at hh;split at hh
  .cases hh
  .exact ⟨_,hh,rfl,rfl,λ_ _=> .refl⟩
 |v::vs,h,hh=>by
  unfold acj at hh;split at hh
  .rename_i l f;split at hh
   .rename_i av b;split at hh
    .rename_i p hp;rcases rX hh with ⟨e,d⟩|⟨_,d⟩
     .refine ⟨_,d,rfl,rfl,λρ T u x hx=>?_⟩;have j:p.2 (v:Int)=av:=by rw [<-amJ hp,eq_of_beq e]
      have g:look (au ρ T st.E F) t=some (true,av.val ρ):=by rw [fJ,b];simp
      show look (au ρ T st.E F) u=some x;rw [j] at hx;have a:look ((t,true,av.val ρ)::au ρ T st.E F) u=some x:=by simpa [au,aE.env] using hx
      unfold look at a;cases hb:Nat.beq t u
      .rw [hb] at a;exact a
      .rw [hb] at a;have:=ah hb;subst this;rw [g];exact a
     .exact aeC d
    .cases hh
   .cases hh
  .cases hh
abbrev frL(fr:Fr):Fr:=⟨fr.F,cZ fr.H,fr.n⟩
abbrev stL(fr:Fr)(st:aB)(h:HT):aB:={ st with G:=st.G++bn cP fr.H,h:=h }
abbrev toL{R:Type}(K:XE->aB->Option R):XE->aB->Option R
 | .panE v,st=>K (.panL v) st
 |_,_=>none
abbrev an9{R:Type}(X:Cx)(tb:List aq)(tp:List bH)(ops:w5)(fr:Fr)(K:XE->aB->Option R)(st:aB):Option R:=
 xP X tb tp (λb v st=>K (ay b (.panL v) (.panE v)) st) ops.toList fr ops.toList [] st (K .nrm)
def den{R:Type}(X:Cx)(tb:List aq)(tp:List bH):Code->Fr->(XE->aB->Option R)->aB->Option R
 | .skip,_,K,st=>K .nrm st
 | .label _,_,K,st=>K .nrm st
 | .exit i,_,K,st=>K (.ext i) st
 | .goto l,_,K,st=>K (.gto l) st
 | .ret,_,K,st=>K .ret st
 | .block i c,fr,K,st=>den X tb tp c fr (brk i K) (abu fr st)
 | .cond c x y,fr,K,st=>match bq [] st.E fr.F none c with
  |some (.bool b)=>cnd b (λh=>den X tb tp x fr K { st with h:=h }) (λh=>den X tb tp y fr K { st with h:=h }) st.h
  |_=>none
 | .seq x y,fr,K,st=>match st.h with
  | .j tm p q=>ay (st.low fr) (
   ai (λs:eo (fT tm.vs)=>den X tb tp y fr K (fN (enter fr tm (cH x) st) tm s q)) λk=>
   den X tb tp x (enter fr tm (cH x) st).fr (uv (λst'=>match jA (enter fr tm (cH x) st) tm st'.E st'.G with
     |some s=>k s
     |none=>none) (λe st'=>K e (vW e (enter fr tm (cH x) st) st'))) ⟨(enter fr tm (cH x) st).c,(enter fr tm (cH x) st).Et,(enter fr tm (cH x) st).Gt,p⟩ ) none
  | .s h=>den X tb tp x fr (uv (den X tb tp y fr K) K) { st with h:=h }
  | .r (60000::t::i::vs) h=>acj fr.F t i (λst=>den X tb tp x fr (uv (den X tb tp y fr K) K) st) vs h st
  |_=>den X tb tp x fr (uv (den X tb tp y fr K) K) st
 | .loop c,fr,K,st=>match st.h with
  | .l tm p=>ay (st.low fr) (
   match jA (enter fr tm (cH c) st) tm (enter fr tm (cH c) st).Et (enter fr tm (cH c) st).Gt with
   |some s=>az (λagain s=>den X tb tp c (enter fr tm (cH c) st).fr (uv (λst'=>match jA (enter fr tm (cH c) st) tm st'.E st'.G with
      |some s=>again s
      |none=>none) (λe st'=>K e (vW e (enter fr tm (cH c) st) st'))) (cG (enter fr tm (cH c) st) tm s p)) X.fl s
   |none=>none ) none
  | .n k h=>az (λagain st=>den X tb tp c fr (uv again K) st) k { st with h:=h }
  |_=>none
 | .region _ ops false,fr,K,st=>match st.h with
  | .r (80000::_) h=>an9 X tb tp ops (frL fr) (toL K) (stL fr st h)
  |_=>an9 X tb tp ops fr K st
 | .region _ ops true,fr,K,st=>match st.h with
  | .r th h=>HO X tb tp (λv st=>K (.gG v) st) ops fr th { st with h:=h } (K .nrm)
  |_=>HO X tb tp (λv st=>K (.gG v) st) ops fr [] st (K .nrm)
 |_,_,_,_=>none
def XE.ex:XE->Exit
 | .nrm=> .normal
 | .ret=> .ret
 | .ext i=> .exit i
 | .gto l=> .goto l
 | .gG _=> .goto 0
 | .panE _=> .goto 0
 | .panL _=> .goto 0
def KR(Q:br)(e:XE)(ρ:ax)(n:Nat)(D:u6)(E:Env)(w:World):Prop:=match e with
 | .gG v=>BA Q (gG (v.val ρ)) D w
 | .panE v=>At Q (.panic (gG (v.val ρ))) n D E w
 | .panL v=>At Q (.panic (gG (v.val ρ))) n D E w
 |e=>At Q e.ex n D E w
abbrev hx(e:XE)(fr:Fr):List Row:=match e with
 | .panL _=>cZ fr.H
 |_=>fr.H
def ix{R:Type}(Q:br)(D:u6)(fr:Fr)(Φ:Ctx)(c0:Nat)(ρ0:ax)(r:R)(K:XE->aB->Option R):Prop:=
 ∀e st ρ w,aT c0 ρ0 ρ->c0<=st.c->K e st=some r->Sat (ab ρ [] st.G++(ab ρ [] (hx e fr)++Φ)) w->KR Q e ρ fr.n D (au ρ [] st.E fr.F) w
theorem ix.less{R:Type}{Q:br}{D:u6}{Φ:Ctx}{b c1:Nat}{ρ0 a:ax}{r:R}{K:XE->aB->Option R}(h:ix Q D fr Φ b ρ0 r K)(ha:aT b ρ0 a)(hc:b<=c1):ix Q D fr Φ c1 a r K:=
 λe st ρ w g f d c=>h e st ρ w (ha.trans g hc) (b9 hc f) d c
section
variable {P : Program} {ρ : v7} {Q : br} {n : Nat} {D : u6} {E : Env} {w : World}
theorem Qv{σ γ τ:Type}{F:(σ->Option τ)->σ->Option τ}{r:τ}(J:σ->γ->World->Prop)(c:σ->γ->Env){body:Code}
  {N:Nat} {b:σ} (k:az F N b=some r) (f:γ) (u:J b f w) (q:iD (c b f) E)
  (round:∀again s g w,F again s=some r->J s g w->WC P ρ body (Exit.then (Mx again r J c n D) Q) n D (c s g) w):
  WC P ρ (.loop body) Q n D E w:=λa l hd=>
 Fk (λm=>Mx (az F m) r J c n D) N ⟨b,f,k,u,l.lx q,hd⟩ λm a w ⟨s,g,j,o,p,t⟩=>by
  obtain ⟨i,rfl,d⟩:=JX j;exact wpIn_mono (round (az F i) s g w d o a p t) λe a w h=>by cases e <;> first|exact h|exact ⟨i,qd _,h⟩
theorem J6{σ γ τ:Type}{a:σ->Option τ}{r:τ}{J:σ->γ->World->Prop}{b:σ->γ->Env}
  (s:σ) (g:γ) (d:a s=some r) (f:J s g w) (c:iD (b s g) E):At (Exit.then (Mx a r J b n D) Q) .normal n D E w:=
 λh e hd=>⟨s,g,d,f,e.lx c,hd⟩
theorem ak4{γ:Type}{J:γ->World->Prop}{a:γ->Env}(g:γ)(d:J g w)(b:iD (a g) E):At (Exit.then (Qz J a n D) Q) .normal n D E w:=
 λe c hd=>⟨g,d,c.lx b,hd⟩
theorem gb{K:Act->World->Prop}{e:XE}{ρ:ax}(a:e≠ .nrm)(h:KR Q e ρ n D E w):KR (Exit.then K Q) e ρ n D E w:=by cases e <;> first|exact (a rfl).elim|exact h
end
section
variable {X : Cx} {tb : List aq} {tp : List bH} {σ : v7} {D : u6} {R : Type} {r : R} {Φ : Ctx}
theorem Pr{Q:br}{k i:Nat}{ρ0:ax}{K:XE->aB->Option R}(h:ix Q D fr Φ k ρ0 r K):ix (Exit.inBlock i Q) D fr Φ k ρ0 r (brk i K):=λe st ρ w d c b a=>by
 cases e with
 |nrm=>exact YS (h .nrm st ρ w d c b a)
 |ret=>exact afy (h .ret st ρ w d c b a)
 |gto l=>exact ads (h (.gto l) st ρ w d c b a)
 |gG v=>exact amR (h (.gG v) st ρ w d c b a)
 |panE v=>exact LS (h (.panE v) st ρ w d c b a)
 |panL v=>exact LS (h (.panL v) st ρ w d c b a)
 |ext j=>
  unfold brk at b;rcases dn b with ⟨g,f⟩|⟨g,f⟩
  .have:=ah g;subst this;exact adB (h .nrm st ρ w d c f a)
  .exact ZU g (h (.ext j) st ρ w d c f a)
theorem lu{b:aB->Option R}{K:XE->aB->Option R}{e:XE}{st:aB}(a:e≠ .nrm):uv b K e st=K e st:=by cases e <;> first|exact (a rfl).elim|rfl
theorem sF{Q:br}{d:Nat}{ρ0 a:ax}{en:En}{K:XE->aB->Option R}(h:ix Q D fr Φ d ρ0 r K)(ag:aT d ρ0 a)(le:d<=en.c)(ff:en.fr.F=en.E++fr.F)(fh:en.fr.H=en.G++fr.H)(fn:en.fr.n=fr.n):
  ∀e st ρ w,aT en.c a ρ->en.c<=st.c->K e (vW e en st)=some r->Sat (ab ρ [] st.G++(ab ρ [] (hx e en.fr)++Φ)) w->KR Q e ρ en.fr.n D (au ρ [] st.E en.fr.F) w:=λe st ρ w l k j g=>by
 have hc:(vW e en st).c=st.c:=by cases e <;> rfl
 have i:(vW e en st).E=st.E++en.E:=by cases e <;> rfl
 have:=h e (vW e en st) ρ w (ag.trans l le) (b9 le (by rw [hc];exact k)) j (by
  have f:∀(A B:List Row),Sat (ab ρ [] st.G++(ab ρ [] (A++B)++Φ)) w->Sat (ab ρ [] (st.G++A)++(ab ρ [] B++Φ)) w:=λA B h=>by rw [bh,aO];rw [bh,aO] at h;exact h
  cases e with
  |panL v=>
   have b:Sat (ab ρ [] st.G++(ab ρ [] (cZ en.fr.H)++Φ)) w:=g;rw [fh,J0] at b;exact f _ _ b
  |_=>
   have b:Sat (ab ρ [] st.G++(ab ρ [] en.fr.H++Φ)) w:=g;rw [fh] at b;exact f _ _ b)
 rw [fn,ff];have m:au ρ [] st.E (en.E++fr.F)=au ρ [] (vW e en st).E fr.F:=by rw [i];show aE.env ρ [] st.E++aE.env ρ [] (en.E++fr.F)=aE.env ρ [] (st.E++en.E)++aE.env ρ [] fr.F;rw [mu,mu,aO]
 rw [m];exact this
theorem ak8{Q:br}{b:Nat}{ρ0:ax}{K:XE->aB->Option R}(h:ix Q D fr Φ b ρ0 r K):ix Q D (frL fr) Φ b ρ0 r (toL K):=λe st ρ w f d a c=>by
 cases e with
 |panE v=>exact h (.panL v) st ρ w f d a c
 |_=>cases a
theorem anM{st:aB}{ρ:ax}{w:World}{d:HT}(b:Sat (ab ρ [] st.G++(ab ρ [] fr.H++Φ)) w):Sat (ab ρ [] (stL fr st d).G++(ab ρ [] (frL fr).H++Φ)) w:=by
 have a:=oP (p:=cP) (G:=fr.H) (H:=[]) (A:=ab ρ [] st.G) (Φ:=Φ) b;have c:∀H:List Row,bn (λr=> !(cP r)) H=cZ H:=λH=>by
  induction H with
  |nil=>rfl
  |cons r H ih=>
   show ay (!(!r.cE)) (r::bn _ H) (bn _ H)=ay r.cE (r::cZ H) (cZ H);rw [ih,Bool.not_not]
 rw [eF,c] at a;show Sat (ab ρ [] (st.G++bn cP fr.H)++(ab ρ [] (cZ fr.H)++Φ)) w;rw [bh,aO];exact a
theorem aff{Q:br}{st:aB}{ρ:ax}{w:World}{K:XE->aB->Option R}(i:∀it∈X.Γ,it∈Φ)(k:∀e∈tb,e.Ok X.P X.Γ)(j:∀e∈tp,e.Ok X.P X.Γ){id:Nat}{ops:w5}(p:Sat (ab ρ [] st.G++(ab ρ [] fr.H++Φ)) w)
  (h:xP X tb tp (λb v st=>K (ay b (.panL v) (.panE v)) st) ops.toList fr ops.toList [] st (K .nrm)=some r) (m:ix Q D fr Φ st.c ρ r K):WC X.P σ (.region id ops false) Q fr.n D (au ρ [] st.E fr.F) w:=by
 obtain ⟨l⟩:=ops;exact bf (Vb i k j (λx h=>by cases h) (λx h=>by cases h) ⟨λx _=>rfl,λx _=>rfl⟩ p h (λst' ρ' w' g f d a=>m .nrm st' ρ' w' g f d a) (λo v st' ρ' w' g f d a=>by
  cases o
  .exact m (.panE v) st' ρ' w' g f d a
  .exact m (.panL v) st' ρ' w' g f d a))
theorem PB{Q:br}{st:aB}{ρ:ax}{w:World}{K:XE->aB->Option R}(d:∀it∈X.Γ,it∈Φ)(g:∀e∈tb,e.Ok X.P X.Γ)(f:∀e∈tp,e.Ok X.P X.Γ){id:Nat}{ops:w5}{th:x3}(a:Sat (ab ρ [] st.G++(ab ρ [] fr.H++Φ)) w)
  (h:HO X tb tp (λv st=>K (.gG v) st) ops fr th st (K .nrm)=some r) (b:ix Q D fr Φ st.c ρ r K):WC X.P σ (.region id ops true) Q fr.n D (au ρ [] st.E fr.F) w:=by
 obtain ⟨l⟩:=ops;unfold HO at h;generalize cond (db 40000 th) _ _=t at h;obtain ⟨u,s,a⟩:=afe (fr:=fr) (th:=th) a;rw [<-u] at b;rw [<-s];generalize Py fr st th=st at h a b;unfold al6 at h;obtain ⟨j,z⟩:=aG h;simp only [ae] at j;refine s8 _ t j.1 j.2 (λw1 y=>?_);have i:=oP (A:=[]) (p:=fg (reach st fr th)) (a.ext y);exact Di.wd (anE (EV:=[]) (st:={ st with G:=bn (fg (reach st fr th)) st.G }) d g f (λx h=>by cases h) (λx h=>by cases h) ⟨λx _=>rfl,λx _=>rfl⟩ (λx h=>by cases h) (λx h=>by cases h) i (λp h=>by cases h) z (λst' ρ' w' q o m k=>b .nrm st' ρ' w' q o m k) (λv st' ρ' w' q o m k=>b (.gG v) st' ρ' w' q o m k))
theorem Qo{b:Bool}{f d2:HT->Option R}{h:HT}(d:cnd b f d2 h=some r):∃p q,(b=true->f p=some r)/\(b=false->d2 q=some r):=by
 unfold cnd at d;split at d
 .rename_i p q;rcases rX d with ⟨c,a⟩|⟨c,a⟩
  .exact ⟨p,q,λ_=>a,λe=>by rw [c] at e;cases e⟩
  .exact ⟨p,q,(λe=>by rw [c] at e;cases e),λ_=>a⟩
 .rcases rX d with ⟨c,a⟩|⟨c,a⟩
  .exact ⟨_,h,λ_=>a,λe=>by rw [c] at e;cases e⟩
  .exact ⟨h,_,(λe=>by rw [c] at e;cases e),λ_=>a⟩
theorem eY(j:∀it∈X.Γ,it∈Φ)(t:∀e∈tb,e.Ok X.P X.Γ)(o:∀e∈tp,e.Ok X.P X.Γ):∀(c:Code) {Q:br} {fr:Fr} {K:XE->aB->Option R} {st:aB} {ρ:ax} {w:World},Sat (ab ρ [] st.G++(ab ρ [] fr.H++Φ)) w->
  den X tb tp c fr K st=some r->ix Q D fr Φ st.c ρ r K->WC X.P σ c Q fr.n D (au ρ [] st.E fr.F) w
 | .skip,Q,fr,K,st,ρ,w,hs,h,hK=>pj (hK .nrm st ρ w .refl (bb _) (by unfold den at h;exact h) hs)
 | .label _,Q,fr,K,st,ρ,w,hs,h,hK=>acr (hK .nrm st ρ w .refl (bb _) (by unfold den at h;exact h) hs)
 | .exit i,Q,fr,K,st,ρ,w,hs,h,hK=>V3 (hK (.ext i) st ρ w .refl (bb _) (by unfold den at h;exact h) hs)
 | .goto l,Q,fr,K,st,ρ,w,hs,h,hK=>aer (hK (.gto l) st ρ w .refl (bb _) (by unfold den at h;exact h) hs)
 | .ret,Q,fr,K,st,ρ,w,hs,h,hK=>tQ (hK .ret st ρ w .refl (bb _) (by unfold den at h;exact h) hs)
 | .block i c,Q,fr,K,st,ρ,w,hs,h,hK=>by
  obtain ⟨z1,z2,z3⟩:=anU (fr:=fr) hs;unfold den at h;rw [<-z2];rw [<-z1] at hK;exact PH (eY j t o c z3 h (Pr hK))
 | .cond c x y,Q,fr,K,st,ρ,w,hs,h,hK=>by
  unfold den at h;split at h
  next b hb=>have hc:=bD (ρ:=ρ) hb;simp only [AV.val] at hc;obtain ⟨p,q,h1,S⟩:=Qo h;exact iA hc (λhb=>eY j t o x (st:={ st with h:=p }) hs (h1 hb) hK) (λhb=>eY j t o y (st:={ st with h:=q }) hs (S hb) hK)
  .cases h
 | .seq x y,Q,fr,K,st,ρ,w,hs,h,hK=>by
  have N:∀T,den X tb tp x fr (uv (den X tb tp y fr K) K) { st with h:=T }=some r->WC X.P σ (.seq x y) Q fr.n D (au ρ [] st.E fr.F) w:=λT hd=>by
   refine bm (eY j t o x (st:={ st with h:=T }) hs hd (λe st' ρ' w' I M z C=>?_));by_cases v:e= .nrm
   .subst v;exact ba (eY j t o y C z (hK.less I M))
   .rw [lu v] at z;exact gb v (hK e st' ρ' w' I M z C)
  unfold den at h;split at h
  .rename_i tm p q Y;obtain ⟨hl,S⟩:=aG h;obtain ⟨J,en⟩:=vE (tm:=tm) (m:=cH x) hl hs;generalize enter fr tm (cH x) st=f at S en;unfold ai at S;refine afY (γ:=eo (fT tm.vs)×ax) (λg w'=>den X tb tp y fr K (fN f tm g.1 q)=some r/\aT f.c J g.2/\Sat (ab g.2 [] (fN f tm g.1 q).G++(ab g.2 [] fr.H++Φ)) w') (λg=>au g.2 [] (fN f tm g.1 q).E fr.F) (λg w' hg=>?_) ?_
   .obtain ⟨g1,g2,g3⟩:=hg;refine eY j t o y g3 g1 (hK.less (en.ag.trans g2 en.le) ?_);have:f.c<=(fN f tm g.1 q).c:=by unfold fN;generalize eT (λn=>f.c+n) f.fix tm.vs 0 (fK _ g.1)=L;obtain ⟨a,b,c,d⟩:=L;exact qt _ _
    exact b9 en.le this
   .have hx:=eY j t o x (fr:=f.fr) (st:=⟨f.c,f.Et,f.Gt,p⟩) (ρ:=J) (Q:=Exit.then (Qz (λ(g:eo (fT tm.vs)×ax) w'=>den X tb tp y fr K (fN f tm g.1 q)=some r/\aT f.c J g.2/\Sat (ab g.2 [] (fN f tm g.1 q).G++(ab g.2 [] fr.H++Φ)) w') (λg=>au g.2 [] (fN f tm g.1 q).E fr.F) fr.n D) Q) en.sat S (λe st' ρ' w' I M z C=>?_)
    .rw [en.fn] at hx;exact hx.lx _ en.sub
    .by_cases v:e= .nrm
     .subst v;have B:(match jA f tm st'.E st'.G with|some s=>den X tb tp y fr K (fN f tm s q)|none=>none)=some r:=z;split at B
      .rename_i s hb;obtain ⟨u,E',V,k,DD,b1,b2,b3,b4⟩:=mQ en.lF en.lH en.fx C hb;have eJ:fN f tm s q=⟨f.c+k,E'++f.E,rowsOf V++f.G,q⟩:=by unfold fN;rw [b1]
       rw [en.fn];refine ak4 (s,u) ⟨B,I.trans b2 (bb _),?_⟩ ?_
       .rw [eJ];show Sat (ab u [] (rowsOf V++f.G)++_) w';rw [bh,aO];rw [en.fh,bh,aO] at b4;exact b4
       .rw [eJ];show iD (aE.env u [] (E'++f.E)++_) _;rw [en.ff] at b3;have e2:au u [] E' (f.E++fr.F)=aE.env u [] (E'++f.E)++aE.env u [] fr.F:=by show aE.env u [] E'++aE.env u [] (f.E++fr.F)=_;rw [mu,mu,aO]
        rw [<-e2,en.ff];exact b3
      .cases B
     .rw [lu v] at z;have:=sF hK en.ag en.le en.ff en.fh en.fn e st' ρ' w' I M z C;exact gb v this
  next T Y=>exact N T h
  .obtain ⟨st',k1,k2,k3,k4⟩:=aeC h;have hs':Sat (ab ρ [] st'.G++(ab ρ [] fr.H++Φ)) w:=by rw [k3];exact hs
   have W:ix Q D fr Φ st'.c ρ r K:=by rw [k2];exact hK
   refine WC.lx _ (k4 ρ []) (bm (eY j t o x (st:=st') hs' k1 (λe st2 ρ' w' I M z C=>?_)));by_cases v:e= .nrm
   .subst v;exact ba (eY j t o y C z (W.less I M))
   .rw [lu v] at z;exact gb v (W e st2 ρ' w' I M z C)
  .exact N st.h h
 | .loop c,Q,fr,K,st,ρ,w,hs,h,hK=>by
  unfold den at h;split at h
  .rename_i tm p Y;obtain ⟨hl,S⟩:=aG h;obtain ⟨J,en⟩:=vE (tm:=tm) (m:=cH c) hl hs;generalize enter fr tm (cH c) st=f at S en;split at S
   .rename_i s0 hb0;obtain ⟨u,E',V,k,DD,b1,b2,b3,b4⟩:=mQ en.lF en.lH en.fx en.sat hb0;have Z:∀s E' V k DD,eT (λn=>f.c+n) f.fix tm.vs 0 (fK _ s)=⟨E',V,k,DD⟩->cG f tm s p=⟨f.c+k,E',rowsOf V,p⟩:=λs E' V k DD hb=>by unfold cG;rw [hb]
    refine Qv (γ:=ax) (λs g w'=>aT f.c J g/\Sat (ab g [] (cG f tm s p).G++(ab g [] f.fr.H++Φ)) w') (λs g=>au g [] (cG f tm s p).E f.fr.F) S u ⟨b2,?_⟩ ?_ (λA s g w' U O=>?_)
    .rw [Z _ _ _ _ _ b1];exact b4
    .rw [Z _ _ _ _ _ b1];exact b3.trans en.sub
    .have hx:=eY j t o c (fr:=f.fr) (st:=cG f tm s p) (ρ:=g) (Q:=Exit.then (Mx A r (λs g w'=>aT f.c J g/\Sat (ab g [] (cG f tm s p).G++(ab g [] f.fr.H++Φ)) w') (λs g=>au g [] (cG f tm s p).E f.fr.F) fr.n D) Q) O.2 U (λe st' ρ' w2 I M z C=>?_)
     .rw [en.fn] at hx;exact hx
     .have hc:f.c<=(cG f tm s p).c:=by unfold cG;generalize eT (λn=>f.c+n) f.fix tm.vs 0 (fK _ s)=L;obtain ⟨a,b,c,d⟩:=L;exact qt _ _
      by_cases v:e= .nrm
      .subst v;have B:(match jA f tm st'.E st'.G with|some s=>A s|none=>none)=some r:=z;split at B
       .rename_i s' hb;obtain ⟨ρ3,E2,R2,k2,DD2,d1,d2,d3,d4⟩:=mQ en.lF en.lH en.fx C hb;rw [en.fn];refine J6 s' ρ3 B ⟨(O.1.trans (I.less hc) (bb _)).trans d2 (bb _),?_⟩ ?_
        .rw [Z _ _ _ _ _ d1];exact d4
        .rw [Z _ _ _ _ _ d1];exact d3
       .cases B
      .rw [lu v] at z;have:=sF hK en.ag en.le en.ff en.fh en.fn e st' ρ' w2 (O.1.trans (I.less hc) (bb _)) (b9 hc M) z C;exact gb v this
   .cases S
  .rename_i k T Y;refine Qv (γ:=ax) (λs g w'=>aT st.c ρ g/\st.c<=s.c/\Sat (ab g [] s.G++(ab g [] fr.H++Φ)) w') (λs g=>au g [] s.E fr.F) h ρ ⟨.refl,bb _,hs⟩ .refl (λA s g w' U O=>?_);refine eY j t o c (st:=s) O.2.2 U (λe st' ρ' w2 I M z C=>?_);by_cases v:e= .nrm
   .subst v;exact J6 st' ρ' z ⟨O.1.trans I O.2.1,b9 O.2.1 M,C⟩ .refl
   .rw [lu v] at z;exact gb v (hK e st' ρ' w2 (O.1.trans I O.2.1) (b9 O.2.1 M) z C)
  .cases h
 | .region id ops false,Q,fr,K,st,ρ,w,hs,h,hK=>by
  unfold den at h;split at h
  .exact aff (fr:=frL fr) (st:=stL fr st _) j t o (anM hs) h (ak8 hK)
  .exact aff j t o hs h hK
 | .region id ops true,Q,fr,K,st,ρ,w,hs,h,hK=>by
  unfold den at h;split at h
  next th T Y=>exact PB (st:={ st with h:=T }) j t o hs h hK
  .exact PB j t o hs h hK
 | .scope _,Q,fr,K,st,ρ,w,hs,h,hK=>by unfold den at h;cases h
 | .rangeFunc _ _ _ _,Q,fr,K,st,ρ,w,hs,h,hK=>by unfold den at h;cases h
end
def lS(l:Nat):Code->Bool
 | .label j=>j==l
 | .seq x y=>lS l x||lS l y
 |_=>false
theorem anf{l:Nat}:(c:Code)->lS l c=false->findLabel c l=none:=λc=>by
 induction c with
 |label j=>
  intro h;unfold lS at h;unfold findLabel;rw [h];rfl
 |seq x y b a=>
  intro h;simp only [lS,qy] at h;simp only [findLabel,b h.1,a h.2]
 |_=>intro _;rfl
theorem aaS{l:Nat}:(c:Code)->lS l c=true->∃r,findLabel c l=some r:=λc=>by
 induction c with
 |label j=>
  intro h;unfold lS at h;unfold findLabel;rw [h];exact ⟨_,rfl⟩
 |seq x y b a=>
  intro h;simp only [lS,cp] at h;unfold findLabel;cases hx:findLabel x l with
  |some r=>exact ⟨_,rfl⟩
  |none=>
   rcases h with h|h
   .obtain ⟨r,d⟩:=b h;rw [hx] at d;cases d
   .exact a h
 |_=>intro h;cases h
def Fp(P:Program)(ρ:v7)(l:Nat):Code->br->br
 | .seq x y,Q=>ay (lS l x) (Fp P ρ l x (Exit.then (y.wpIn (FW ρ) 0 P Q) Q)) (Fp P ρ l y Q)
 |_,Q=>Q
theorem akg{P:Program}{ρ:v7}{l:Nat}:(c:Code)->{r:Code}->{Q:br}->{a:Act}->{w:World}->findLabel c l=some r->Fp P ρ l c Q .normal a w->r.wpIn (FW ρ) 0 P Q a w:=λc=>by
 induction c with
 |label j=>
  intro r Q a w b h;unfold findLabel at b;split at b
  .cases b;exact wpIn_skip h
  .cases b
 |seq x y f e=>
  intro r Q a w b h;unfold Fp at h;unfold findLabel at b;cases hx:lS l x
  .rw [hx] at h;rw [anf x hx] at b;exact e b h
  .rw [hx] at h;obtain ⟨g,d⟩:=aaS x hx;rw [d] at b;cases b;exact wpIn_seq (f d h)
 |_=>intro r Q a w b h;cases b
def Ay(l:Nat):Code->Nat
 | .seq x y=>ay (lS l x) (Nat.lor (Ay l x) (cH y)) (Ay l y)
 |_=>0
def xW(st:aB):aB:=match st.h with
 | .s h=>{ st with h:=h }
 |_=>st
abbrev gtk{R:Type}(l:Nat)(A:aB->Option R)(K:XE->aB->Option R):XE->aB->Option R
 | .gto j,st=>ay (Nat.beq j l) (A st) none
 |e,st=>K e st
def Mj{R:Type}(X:Cx)(tb:List aq)(tp:List bH)(l:Nat)(fr:Fr):Code->(XE->aB->Option R)->aB->Option R
 | .seq x y,K,st=>ay (lS l x) (Mj X tb tp l fr x (uv (den X tb tp y fr K) K) st) (Mj X tb tp l fr y K st)
 | .label _,K,st=>K .nrm st
 |_,_,_=>none
def LX{R:Type}(X:Cx)(tb:List aq)(tp:List bH)(l:Nat)(fr:Fr)(K:XE->aB->Option R)(KL:aB->Option R):Code->aB->Option R
 | .seq x y,st=>ay (lS l x) (LX X tb tp l fr K KL x (xW st)) (den X tb tp x fr (uv (λst=>LX X tb tp l fr K KL y st) K) (xW st))
 | .label _,st=>KL st
 |_,_=>none
def ajZ{R:Type}(X:Cx)(tb:List aq)(tp:List bH)(c:Code)(fr:Fr)(K:XE->aB->Option R)(st:aB):Option R:=match st.h with
 | .n l (.j tm p q)=>ay (lS l c) (
   LX X tb tp l fr (gtk l (λ_=>none) K) (λst1=>ay (st1.low fr) (
     match jA (enter fr tm (Ay l c) st1) tm (enter fr tm (Ay l c) st1).Et (enter fr tm (Ay l c) st1).Gt with
     |some s=>az (λagain s=>Mj X tb tp l (enter fr tm (Ay l c) st1).fr c (gtk l (λst'=>match jA (enter fr tm (Ay l c) st1) tm st'.E st'.G with
       |some s=>again s
       |none=>none) (λe st'=>K e (vW e (enter fr tm (Ay l c) st1) st'))) (cG (enter fr tm (Ay l c) st1) tm s q)) X.fl s
     |none=>none) none) c { st with h:=p }) none
 |_=>none
section
variable {X : Cx} {tb : List aq} {tp : List bH} {σ : v7} {D : u6} {R : Type} {r : R} {Φ : Ctx}
theorem afb{Q:br}{l n:Nat}{E:Env}{w:World}{e:XE}{ρ:ax}{J:Act->World->Prop}(a:∀j,e≠ .gto j)(h:KR Q e ρ n D E w):KR (Exit.jump l J Q) e ρ n D E w:=by cases e <;> first|exact ((a _) rfl).elim|exact h
theorem ajT{l:Nat}(k:∀it∈X.Γ,it∈Φ)(o:∀e∈tb,e.Ok X.P X.Γ)(m:∀e∈tp,e.Ok X.P X.Γ):∀(c:Code) {Q:br} {fr:Fr} {K:XE->aB->Option R} {st:aB} {ρ:ax} {w:World},Sat (ab ρ [] st.G++(ab ρ [] fr.H++Φ)) w->
  Mj X tb tp l fr c K st=some r->ix Q D fr Φ st.c ρ r K->∀a,Fits fr.n (au ρ [] st.E fr.F) a->a.defers=D->Fp X.P σ l c Q .normal a w:=λc=>by
 induction c with
 |label j=>intro Q fr K st ρ w b h d a f hd;exact d .nrm st ρ w .refl (bb _) h b a f hd
 |seq x y i g=>
  intro Q fr K st ρ w b h d a f hd;unfold Mj at h;unfold Fp;cases hx:lS l x
  .rw [hx] at h;exact g b h d a f hd
  .rw [hx] at h;refine i (Q:=Exit.then (y.wpIn (FW σ) 0 X.P Q) Q) b h (λe st' ρ' w' u t q s=>?_) a f hd;by_cases p:e= .nrm
   .subst p;exact ba (eY k o m y s q (d.less u t))
   .rw [lu p] at q;exact gb p (d e st' ρ' w' u t q s)
 |_=>intro Q fr K st ρ w b h;cases h
theorem aeY{st:aB}:(xW st).c=st.c/\(xW st).E=st.E/\(xW st).G=st.G:=by unfold xW;split <;> exact ⟨rfl,rfl,rfl⟩
theorem ah2{l:Nat}(t:∀it∈X.Γ,it∈Φ)(v:∀e∈tb,e.Ok X.P X.Γ)(u:∀e∈tp,e.Ok X.P X.Γ){T:br}{fr:Fr}{K:XE->aB->Option R}{U:aB->Option R}{m:Nat}{ρ0:ax}(V:ix T D fr Φ m ρ0 r K):∀(c:Code) {Q:br} {st:aB} {ρ:ax} {w:World},
  (∀e (E:Env) (ρ:ax) w,e≠ .nrm->KR T e ρ fr.n D E w->KR Q e ρ fr.n D E w)->
  (∀st1 b w1,aT m ρ0 b->m<=st1.c->U st1=some r->Sat (ab b [] st1.G++(ab b [] fr.H++Φ)) w1->∀a,Fits fr.n (au b [] st1.E fr.F) a->a.defers=D->Fp X.P σ l c Q .normal a w1)->
  lS l c=true->aT m ρ0 ρ->m<=st.c->Sat (ab ρ [] st.G++(ab ρ [] fr.H++Φ)) w->
  LX X tb tp l fr K U c st=some r->WC X.P σ c Q fr.n D (au ρ [] st.E fr.F) w:=λc=>by
 induction c with
 |label j=>intro Q st ρ w i k _ ha hc o h;exact acr (λa g hd=>k st ρ w ha hc h o a g hd)
 |seq x y s q=>
  intro Q st ρ w i k p ha hc o h;obtain ⟨O,N,M⟩:=aeY (st:=st);unfold LX at h;cases hx:lS l x
  .rw [hx] at h;simp only [lS,hx,qp] at p;refine bm ?_;have:=eY (σ:=σ) (D:=D) t v u x (fr:=fr) (st:=xW st) (ρ:=ρ) (w:=w) (Q:=Exit.then (y.wpIn (FW σ) 0 X.P Q) Q) (by rw [M];exact o) h (λe st' ρ' w' L J I S=>?_)
   .rw [N] at this;exact this
   .rw [O] at L J;by_cases d:e= .nrm
    .subst d;refine ba (q i (λst1 b w1 C B A z a g hd=>?_) p (ha.trans L hc) (b9 hc J) S I);have:=k st1 b w1 C B A z a g hd;unfold Fp at this;rw [hx] at this;exact this
    .rw [lu d] at I;exact gb d (i _ _ _ _ d (V e st' ρ' w' (ha.trans L hc) (b9 hc J) I S))
  .rw [hx] at h;refine bm ?_;have:=s (Q:=Exit.then (y.wpIn (FW σ) 0 X.P Q) Q) (st:=xW st) (ρ:=ρ) (w:=w) (λe E ρ w f d=>gb f (i e E ρ w f d)) (λst1 b w1 C B A z a g hd=>?_) hx ha (by rw [O];exact hc) (by rw [M];exact o) h
   .rw [N] at this;exact this
   .have:=k st1 b w1 C B A z a g hd;unfold Fp at this;rw [hx] at this;exact this
 |_=>intro Q st ρ w i k p;cases p
theorem am0{c:Code}{Q:br}{K:XE->aB->Option R}{st:aB}{ρ:ax}{w:World}(Y:∀it∈X.Γ,it∈Φ)(htb:∀e∈tb,e.Ok X.P X.Γ)(Z:∀e∈tp,e.Ok X.P X.Γ)(hs:Sat (ab ρ [] st.G++(ab ρ [] fr.H++Φ)) w)
  (h:ajZ X tb tp c fr K st=some r) (hK:ix Q D fr Φ st.c ρ r K):WC X.P σ (.scope c) Q fr.n D (au ρ [] st.E fr.F) w:=by
 unfold ajZ at h;split at h
 .rename_i l tm p q hh;obtain ⟨B,h0⟩:=aG h;obtain ⟨rest,v⟩:=aaS c B
  -- what holds at the label
  let F:En->(eo (fT tm.vs)->Option R)->eo (fT tm.vs)->Option R:=λf J s=>Mj X tb tp l f.fr c (gtk l (λst'=>match jA f tm st'.E st'.G with
     |some s=>J s
     |none=>none) (λe st'=>K e (vW e f st'))) (cG f tm s q)
  let I:Nat->Act->World->Prop:=λm a w=>∃(f:En) (o:ax),(f.fr.F=f.E++fr.F/\f.fr.H=f.G++fr.H/\f.fr.n=fr.n/\aE.low f.c f.fr.F=true/\bB f.c f.fr.H=true/\(∀t q,f.fix t=some q->q.1.low f.c=true/\AV.bV f.c q.2=true))/\aT st.c ρ o/\st.c<=f.c/\
   Mx (az (F f) m) r (λs (g:ax) w'=>aT f.c o g/\Sat (ab g [] (cG f tm s q).G++(ab g [] f.fr.H++Φ)) w') (λs g=>au g [] (cG f tm s q).E f.fr.F) fr.n D a w
  have i:∀m a w,I m a w->Fp X.P σ l c (Exit.jump l (λC w'=>∃N<m,I N C w') Q) .normal a w:=by
   rintro m a w ⟨f,o,⟨ff,fh,fn,lF,lH,fx⟩,hag,hle,s,g,hm,hJ,hF,hD⟩;obtain ⟨N,rfl,hm'⟩:=JX hm;have eL:∀s E' R' k DD,eT (λn=>f.c+n) f.fix tm.vs 0 (fK _ s)=⟨E',R',k,DD⟩->cG f tm s q=⟨f.c+k,E',rowsOf R',q⟩:=λs E' R' k DD hb=>by unfold cG;rw [hb]
   have hc:f.c<=(cG f tm s q).c:=by unfold cG;generalize eT (λn=>f.c+n) f.fix tm.vs 0 (fK _ s)=L;obtain ⟨a,b,c,d⟩:=L;exact qt _ _
   refine ajT (σ:=σ) (D:=D) Y htb Z c (fr:=f.fr) (st:=cG f tm s q) (ρ:=g) (Q:=Exit.jump l (λC w'=>∃m''<N+1,I m'' C w') Q) hJ.2 hm' (λe st' ρ' w2 U T A S=>?_) a (by rw [fn];exact hF) hD;by_cases u:∃j,e= .gto j
   .obtain ⟨j,rfl⟩:=u;unfold gtk at A;obtain ⟨hj,O⟩:=aG A;have:=ah hj;subst this;dsimp only at O;split at O
    .rename_i s' hb;obtain ⟨V,E2,R2,k2,DD2,d1,d2,d3,d4⟩:=mQ lF lH fx S hb;refine λa2' hf2 hd2=>⟨rfl,N,qd _,f,o,⟨ff,fh,fn,lF,lH,fx⟩,hag,hle,s',V,O,⟨(hJ.1.trans (U.less hc) (bb _)).trans d2 (bb _),?_⟩,?_,hd2⟩
     .rw [eL _ _ _ _ _ d1];exact d4
     .rw [fn] at hf2;show Fits fr.n (au V [] (cG f tm s' q).E f.fr.F) a2';rw [eL _ _ _ _ _ d1];exact hf2.lx d3
    .cases O
   .have z:∀j,e≠ .gto j:=λj hj=>u ⟨j,hj⟩;have M:K e (vW e f st')=some r:=by cases e <;> first|exact ((z _) rfl).elim|exact A
    exact afb z (sF hK hag hle ff fh fn e st' ρ' w2 (hJ.1.trans (U.less hc) (bb _)) (b9 hc T) M S)
  refine λa hf hd=>Rr l I v ?_ (λm a w hI=>akg c v (i m a w hI))
  -- the way to the label
  have hK':ix (Exit.jump l (λa w=>∃m,I m a w) Q) D fr Φ st.c ρ r (gtk l (λ_=>none) K):=λe st1 ρ' w' U T A S=>by
   by_cases u:∃j,e= .gto j
   .obtain ⟨j,rfl⟩:=u;unfold gtk at A;obtain ⟨_,O⟩:=aG A;cases O
   .have z:∀j,e≠ .gto j:=λj hj=>u ⟨j,hj⟩;have M:K e st1=some r:=by cases e <;> first|exact ((z _) rfl).elim|exact A
    exact afb z (hK e st1 ρ' w' U T M S)
  refine ah2 (σ:=σ) Y htb Z hK' c (Q:=Exit.jump l (λa w=>∃m,I m a w) Q) (st:={ st with h:=p }) (ρ:=ρ) (λ_ _ _ _ _ h=>h) (λst1 ρ' w' U T A S C hf' hd'=>?_) B .refl (bb _) hs h0 a hf hd;obtain ⟨hl,h2⟩:=aG A;obtain ⟨o,en⟩:=vE (tm:=tm) (m:=Ay l c) hl S;generalize enter fr tm (Ay l c) st1=f at h2 en;split at h2
  .rename_i s0 hb0;obtain ⟨W,E',R',k,DD,b1,b2,b3,b4⟩:=mQ en.lF en.lH en.fx en.sat hb0;have eL:cG f tm s0 q=⟨f.c+k,E',rowsOf R',q⟩:=by unfold cG;rw [b1]
   have key:I X.fl C w':=by
    refine ⟨f,o,⟨en.ff,en.fh,en.fn,en.lF,en.lH,en.fx⟩,U.trans en.ag T,b9 T en.le,s0,W,h2,⟨b2,?_⟩,?_,hd'⟩
    .rw [eL];exact b4
    .show Fits fr.n (au W [] (cG f tm s0 q).E f.fr.F) C;rw [eL];exact hf'.lx (b3.trans en.sub)
   have mono:∀(c:Code) (Q1 Q2:br),(∀e a w,Q1 e a w->Q2 e a w)->∀a w,Fp X.P σ l c Q1 .normal a w->Fp X.P σ l c Q2 .normal a w:=λc=>by
    induction c with
    |seq x y ihx ihy=>
     intro Q1 Q2 hq a w h;unfold Fp at h ⊢;cases hx:lS l x
     .rw [hx] at h;exact ihy Q1 Q2 hq a w h
     .rw [hx] at h;refine ihx _ _ (λe a w u=>?_) a w h;cases e with
      |normal=>exact wpIn_mono u hq
      |_=>exact hq _ _ _ u
    |_=>intro Q1 Q2 hq a w h;exact hq _ _ _ h
   exact mono c _ _ (λe a w u=>by
    cases e <;> first|exact u|exact ⟨u.1,let ⟨N,_,hI⟩:=u.2;⟨N,hI⟩⟩) C w' (i X.fl C w' key)
  .cases h2
 .cases h
end
end
end Go.Proofs.YtkedhpmpejhekaaGreatDoor
