/- Own texts for ToolShows, cut and joined by a program. -/
import Derived.Test.YtkedhpmpejhekaaGreatDoorToolShowsC
set_option linter.all false
namespace Go.Proofs.YtkedhpmpejhekaaGreatDoor
noncomputable section
variable {d : Tmp} {x : Operand}
open Go.Lib
abbrev gone{R:Type}(g:GK)(k:Option R):Option R:=match g with
 |none=>k
 |some _=>none
theorem cN{R:Type}{r:R}{g:GK}{k:Option R}(h:gone g k=some r):g=none/\k=some r:=by
 cases g with
 |none=>exact ⟨rfl,h⟩
 |some _=>cases h
def ag5{R:Type}(X:Cx)(T:aB)(fr:Fr)(st:aC)(d:xc)(t:TypeId)(x y:Operand)(K:cB R):Option R:=match eT X.P t with
 |some e=>(match yR X.tys e with
  |some u=>(match jS X.P e with
   |some z=>(match br T st.E fr.F none x with
    |some (.sl id)=>(match br T st.E fr.F none y with
     |some b=>aA (Nat.beq z.1 u.n') (match pQ (cm b.dZ st.G) fr.H u b with
      |some ys=>(match dH (cm b.dZ st.G) fr.H (lz id) with
       |some (.top j,.own _ u' e' xs _)=>aA (Nat.beq e e') (match pQ.bZ.asL u ⟨.l u',xs⟩ with
        |some xs=>K { st with c:=st.c+1,E:=cu d none (.int .i64 ((Nat.min ys.length xs.length:Nat):Int)) st.E,G:=(cm b.dZ st.G).set j (.own id u e (wQ xs ys) st.c) }
        |none=>none) none
       |_=>none)
      |none=>none) none
     |none=>none)
    |_=>none)
   |none=>none)
  |none=>none)
 |none=>none
def inO(n d:Nat):List (Nat×Nat)->Bool
 |[]=>false
 |x::l=>(Nat.beq x.1 n&&Nat.beq x.2 d)||inO n d l
def agZ{R:Type}(X:Cx)(T:aB)(fr:Fr)(st:aC)(d:Tmp)(t:TypeId)(x:Operand)(lo hi:Option Operand)(K:cB R):Option R:=match eT X.P t with
 |some e=>(match jS X.P e with
  |some z=>(match br T st.E fr.F none x with
   |some (.sl id)=>(match loA T st.E fr.F none lo with
    |some i=>(match hiA T st.E fr.F none hi with
     |some j=>(match dH st.G fr.H (lz id) with
      |some (.top k,.own _ u e' xs _)=>aA (Nat.beq z.1 u.n') (match lo,hi with
       |none,_=>aH (db 0 (j.getD (xs.length:Int)) xs.length) (K { st with c:=st.c+1,E:=cu (some d) none (.sl st.c) st.E,G:=st.G.set k (.own st.c u e' (bD xs 0 (j.getD (xs.length:Int))) st.c) })
       |some _,none=>aA (Nat.beq z.1 1) (aH (db i (xs.length:Int) xs.length) (K { st with c:=st.c+1,E:=cu (some d) none (.sl st.c) st.E,G:=st.G.set k (.own st.c u e' (bD xs i (xs.length:Int)) st.c) })) none
       |_,_=>none) none
      |_=>none)
     |none=>none)
    |none=>none)
   |_=>none)
  |none=>none)
 |none=>none
def amK{R:Type}(X:Cx)(T:aB)(fr:Fr)(st:aC)(d:Tmp)(t:TypeId)(x:Operand)(lo hi mx:Option Operand)(K:cB R):Option R:=match lo,hi,mx with
 |none,some y,some y3=>(match X.P.underlying t with
  |some (.array n e)=>(match yR X.tys e with
   |some u=>(match jS X.P e with
    |some z=>(match br T st.E fr.F none x with
     |some (.ptr id 0)=>(match br T st.E fr.F none y with
      |some (.int _ h)=>(match br T st.E fr.F none y3 with
       |some (.int _ m)=>(match mG (wO id) st.G with
        |some (j,.box _ _ cs)=>aA ((h==(n:Int))&&(m==(n:Int))&&Nat.beq z.1 u.n') (match rdL st.G fr.H u n cs with
         |some xs=>K { st with c:=st.c+1,E:=cu (some d) none (.sl st.c) st.E,G:=st.G.set j (.sli none st.c u xs true) }
         |none=>none) none
        |_=>none)
       |_=>none)
      |_=>none)
     |_=>none)
    |none=>none)
   |none=>none)
  |_=>none)
 |_,_,_=>none
def agW(X:Cx)(T:aB)(fr:Fr)(st:aC)(d:Tmp)(t:TypeId)(x y:Operand){R:Type}(K:cB R):Option R:=match X.P.underlying t with
 |some (.array n e)=>(match jS X.P e with
  |some z=>(match br T st.E fr.F none x with
   |some (.adr id off)=>(match br T st.E fr.F none y with
    |some (.int _ i)=>WM i z.1 (λk=>K { st with E:=cu (some d) none (.adr id (off+k)) st.E }) n 0
    |_=>none)
   |some (.ptr id off)=>(match br T st.E fr.F none y with
    |some (.int _ i)=>WM i z.1 (λk=>K { st with E:=cu (some d) none (.ptr id (off+k)) st.E }) n 0
    |_=>none)
   |_=>none)
  |none=>none)
 |_=>none
def aqh(P:Program)(t:TypeId):Bool:=match P.underlying t with
 |some (.func ..)=>true
 |_=>false
def ahb{R:Type}(X:Cx)(T:aB)(fr:Fr)(st:aC)(d:Tmp)(t:TypeId)(len:Nat)(ps:List (Nat×Operand))(K:cB R):Option R:=match eT X.P t with
 |some e=>(match jS X.P e with
  |some z=>(match oP T st.E fr.F none (ps.map (·.2)) with
   |some vs=>(match yX (λi=>some (i*z.1,z.1)) ((ps.map (·.1)).zip vs) (W5 len (z.2.2.cells.toList.map iU)) with
    |some cs=>aA (aqh X.P e&&Nat.beq z.2.2.cells.size z.1&&Nat.blt 0 (len*z.1)&&Nat.ble (len*z.1) 16777216&&AV.bX st.c cs) (K { st with c:=st.c+1,E:=cu (some d) none (.bs st.c len) st.E,G:= .box st.c e cs::st.G }) none
    |none=>none)
   |none=>none)
  |none=>none)
 |none=>none
def alg{R:Type}(X:Cx)(T:aB)(fr:Fr)(st:aC)(d:Tmp)(t:TypeId)(x y:Operand)(K:cB R):Option R:=match eT X.P t with
 |some e=>(match jS X.P e with
  |some z=>(match br T st.E fr.F none x with
   |some (.bs id n)=>(match br T st.E fr.F none y with
    |some (.int _ i)=>WM i z.1 (λk=>K { st with E:=cu (some d) none (.ptr id k) st.E }) n 0
    |_=>none)
   |_=>none)
  |none=>none)
 |none=>none
def ah1(P:Program)(t:TypeId)(nm:String):Option (FuncId×Bool):=match P.info? t with
 |some i=>(match i.methods.find? (·.name==nm) with
  |some m=>(match m.path.toList with
   |[]=>m.func
   |_=>none)
  |none=>none)
 |none=>none
def apL:TypeDesc->Bool
 | .pointer _=>true
 |_=>false
def Ir(X:Cx)(T:aB)(fr:Fr)(st:aC)(g:GK)(t:TypeId)(u:AV)(nm:String):Option (FuncId×AV):=match ah1 X.P t nm with
 |some (f,true)=>(match X.P.underlying t with
  |some (.pointer _)=>some (f,u)
  |_=>none)
 |some (f,false)=>(match X.P.underlying t with
  |some (.pointer e)=>(match xt T st.G fr.H g u with
   |some cs=>(match jY X.P e cs with
    |some v=>some (f,v)
    |none=>none)
   |none=>none)
  |some d=>aA (apL d) none (some (f,u))
  |none=>none)
 |none=>none
def aak:List YP->FuncId->Option YP
 |[],_=>none
 |i::l,f=>match Nat.beq i.f f with
  |true=>some i
  |false=>aak l f
def amd{R:Type}(X:Cx)(T:aB)(fr:Fr)(st:aC)(g:GK)(d:xc)(f:FuncId)(args:List AV)(K:cB R)(els:Option R):Option R:=match aak X.inl f with
 |none=>els
 |some i=>(match T with
  |[]=>gone g (i.run args fr.H st (λav st'=>K { st' with E:=cu d none av st.E,h:=st.h }))
  |_::_=>none)
def byT{R:Type}(k:TypeId->Option R)(t:TypeId):List TypeId->Option R
 |[]=>none
 |c::cs=>cond (Nat.beq t c) (k c) (byT k t cs)
section
variable {X : Cx} {R : Type} {r : R} {K : cB R} {T : aB} {fr : Fr} {st : aC} {g : GK} {ρ : ay} {Φ : Ctx} {w : World} {ty : TypeId} {pos : String} {af : x3} {gd : vb}
theorem acA:{l:List YP}->{f:FuncId}->{i:YP}->aak l f=some i->i∈l/\i.f=f
 |[],_,_,h=>by cases h
 |j::l,f,i,h=>by
  unfold aak at h;split at h
  next c=>cases h;exact ⟨bj .., ah c⟩
  .obtain ⟨b,a⟩:=acA h;exact ⟨aW _ b,a⟩
theorem anQ{d:xc}{op:Op}{f:FuncId}{args:List AV}{c:Option R}(k:st.low fr=true)(t:Sat (ab ρ T st.G++(ab ρ T fr.H++Φ)) w)
  (e:Enters X.P f->T.get g=true->∀n a,Fits n (au ρ T st.E fr.F) a->(execOp a.eval ⟨d,op,ty,pos,af,gd⟩).run X.P w= .ok (.enter f (AV.ao ρ args).toArray) w) (h:amd X T fr st g d f args K c=some r) (b:c=some r->iN X.P T g (au ρ T st.E fr.F) ⟨d,op,ty,pos,af,gd⟩ w (aV r K T fr st g d ρ Φ)):
  iN X.P T g (au ρ T st.E fr.F) ⟨d,op,ty,pos,af,gd⟩ w (aV r K T fr st g d ρ Φ):=by
 unfold amd at h;split at h
 .exact b h
 .rename_i i hi;obtain ⟨s,q⟩:=acA hi;subst q;obtain ⟨A,z⟩:=X.inlOk i s;split at h
  .obtain ⟨rfl,x⟩:=cN h;refine .none_ (λn a u=> .inr (.inr ⟨i.f,AV.ao ρ args,e A aB.get_none n a u,(z r args fr.H st _ ρ Φ w t x).mono λv w' hv=>?_⟩));obtain ⟨ρ',st',av,p,j,o,m,l⟩:=hv;have y:=bf (T:=[]) j (aC.cC.1 k).2.2.2;exact aV.new (ρ':=ρ') (st':={ st' with E:=cu d none av st.E,h:=st.h }) k p j o rfl m (by rw [<-y];exact l)
  .cases h
theorem aa1{k:TypeId->Option R}{t:TypeId}:∀{cs:List TypeId},byT k t cs=some r->k t=some r
 |[],h=>by cases h
 |c::cs,h=>by
  unfold byT at h;rcases sn h with ⟨b,a⟩|⟨_,a⟩
  .rw [ah b];exact a
  .exact aa1 a
theorem abp{P:Program}{t:TypeId}{nm:String}{q:FuncId×Bool}(h:ah1 P t nm=some q):LY P t nm q.1 q.2:=by
 unfold ah1 at h;split at h
 .rename_i i hi;split at h
  .rename_i m a;split at h
   next hp=>unfold LY;rw [hi];simp only [b7];rw [a];simp [hp,h]
   .cases h
  .cases h
 .cases h
theorem al3{t:TypeId}{u v:AV}{cs:List AV}{G H:List Row}(f:Sat (ab ρ T G++(ab ρ T H++Φ)) w)(hc:xt T G H g u=some cs)(h:jY X.P t cs=some v)(j:T.get g=true):
  ∃p,u.val ρ= .pointer (some p)/\(loadVar t p).run X.P w= .ok (v.val ρ) w:=by
 obtain ⟨p,hp,hc⟩:=Kl f hc j;refine ⟨p,hp,?_⟩;have m:jY X.P t (cs.drop 0)=some v:=by simpa using h
 obtain ⟨d,n,bytes,z,c1,o,b⟩:=mm (ρ:=ρ) m;cases hd:jm d
 .rw [hd] at b;simp only [oi,qF] at b;exact MJ c1 hd (hc.cell0 b)
 .unfold jY at h;rw [c1] at h;rcases dq h with ⟨_,a⟩|⟨e,_⟩
  .split at a
   .rename_i q i;obtain ⟨n,bytes,z⟩:=q;obtain ⟨l,k⟩:=aI a;cases k;have c:n<=cs.length:=cj l;simp only [AV.val];refine KX c1 hd (cE i) (vs:=AV.ao ρ (cs.take n)) ?_ ?_
    .have:=hc.sub (us:=AV.ao ρ (cs.take n)) 0 (by rw [AV.ju,l9,b0,AV.bm,c8 c])
     simpa [Addr.add] using this
    .rw [AV.bm,b0,c8 c]
   .cases a
  .rw [hd] at e;cases e
theorem ac3{t:TypeId}{u:AV}{nm:String}{q:FuncId×AV}(i:Sat (ab ρ T st.G++(ab ρ T fr.H++Φ)) w)(h:Ir X T fr st g t u nm=some q):T.get g=true->Reach X.P w t (u.val ρ) nm q.1 (q.2.val ρ):=by
 unfold Ir at h;split at h
 .rename_i f c;have b:=abp c;split at h
  next e a=>cases h;exact λ_=>Reach.ptr b a
  .cases h
 .rename_i f c;have b:=abp c;split at h
  .rename_i e a;split at h
   .rename_i cs hc;split at h
    next v hv=>cases h;intro k;obtain ⟨p,hp,j⟩:=al3 i hc hv k;rw [hp];exact Reach.load b a j
    .cases h
   .cases h
  next d a=>obtain ⟨n,m⟩:=Nt h;cases m;exact λ_=>Reach.val b a (λe l=>by subst l;cases n)
  .cases h
 .cases h
theorem afs{t:TypeId}{y:Operand}(s:Sat (ab ρ T st.G++(ab ρ T fr.H++Φ)) w)(h:agW X T fr st d t x y K=some r):
  KH X.P T none (au ρ T st.E fr.F) ⟨some d,.indexAddr t x y,ty,pos,af,gd⟩ w (aV r K T fr st none (some d) ρ Φ):=by
 unfold agW at h;split at h
 .rename_i n e p;split at h
  .rename_i z o;obtain ⟨m,bytes,z⟩:=z;split at h
   .rename_i id off hx;split at h
    .rename_i k i l;obtain ⟨q,_,u,g,j⟩:=C4 h;have f:=bE (ρ:=ρ) hx;have c:=bE (ρ:=ρ) l;simp only [AV.val] at f c;refine ⟨.pointer (some (((ρ id).a.add off).add (i.toNat*m))),λw'=>?_,?_⟩
     .rw [aB.get_none];exact y7 (P:=X.P) (w:=w') (dst:=some d) (ty:=ty) (pos:=pos) (af:=af) (gd:=gd) p (cE o) f c (by
       intro _;subst g;exact vP.2 ⟨by omega,by omega⟩)
     .refine aV.iu (av:= .adr id (off+q*m)) j (bb _) rfl ?_ s;simp only [AV.val];rw [add_add,g];rfl
    .cases h
   .rename_i id off hx;split at h
    .rename_i k i l;obtain ⟨q,_,u,g,j⟩:=C4 h;have f:=bE (ρ:=ρ) hx;have c:=bE (ρ:=ρ) l;simp only [AV.val] at f c;refine ⟨.pointer (some ((⟨(ρ id).b,off,none⟩:Addr).add (i.toNat*m))),λw'=>?_,?_⟩
     .rw [aB.get_none];exact y7 (P:=X.P) (w:=w') (dst:=some d) (ty:=ty) (pos:=pos) (af:=af) (gd:=gd) p (cE o) f c (by
       intro _;subst g;exact vP.2 ⟨by omega,by omega⟩)
     .refine aV.iu (av:= .ptr id (off+q*m)) j (bb _) rfl ?_ s;simp only [AV.val];rw [add_plain,g];rfl
    .cases h
   .cases h
  .cases h
 .cases h
theorem aly{d:xc}{t:TypeId}{y:Operand}(J:st.low fr=true)(g:Sat (ab ρ T st.G++(ab ρ T fr.H++Φ)) w)(h:ag5 X T fr st d t x y K=some r):
  iN X.P T none (au ρ T st.E fr.F) ⟨d,.call ⟨.builtin .copy,#[x,y],#[t,t]⟩,ty,pos,af,gd⟩ w (aV r K T fr st none d ρ Φ):=by
 unfold ag5 at h;split at h
 .rename_i e V;split at h
  .rename_i u hu;split at h
   .rename_i z N;obtain ⟨n,bytes,z⟩:=z;split at h
    .rename_i id hx;split at h
     .rename_i b O;obtain ⟨h1,i⟩:=aI h;have R:n=u.rep.n:=(ah h1).trans u.BS.symm;have B:=cE N;subst R;have f:=pB (ids:=b.dZ) (aC.cC.1 J).2.2.1;replace g:=iP (ids:=b.dZ) g;generalize cm b.dZ st.G=G at i f g;have o:=bE (ρ:=ρ) hx;have v:=bE (ρ:=ρ) O;simp only [AV.val] at o;split at i
      .rename_i ys q;have s:=M9 g q;split at i
       .rename_i j p u' e' k M U;obtain ⟨Z,D⟩:=aI i;have:=ah Z;subst this;split at D
        .rename_i xs A;obtain ⟨eu,ex⟩:=oH A;subst eu;simp only at ex;subst ex;obtain ⟨I,f2⟩:=bW U;have:p=id:=ah f2;subst this;have hi:=fi (ρ:=ρ) (T:=T) (Φ:=ab ρ T fr.H++Φ) I;obtain ⟨L,_⟩:=g.at_ hi;obtain ⟨w',Q,Y,C,W⟩:=amC (P:=X.P) (ty:=ty) (w:=w) (t:=t) (bV V) B L s (λb hb=>Ctx.iH hi hb);have S:j<G.length:=(List.getElem?_eq_some_iff.1 I).1;have a:=pz f I;simp only [Row.low,ae,e9] at a;refine .none_ (bF.gd (bF.mC (xE o v Q) (aV.new (ρ':=ρ.set st.c { cM with y:=⟨.l u',wQ k ys⟩ }) (av:= .int .i64 ((Nat.min ys.length k.length:Nat):Int)) J D ay.aZ (gy _) rfl (by simp only [AV.val]) ?_)));show Sat (ab _ T (G.set j _)++_) _;rw [eU S,bf ay.aZ f];refine g.nd hi Y (λb hb=>?_) (λM' m _=>?_)
         .simp only [Row.item,ay.aZ _ a.1] at hb;exact ⟨by rw [C];exact L.lt b hb,.inl hb⟩
         .simp only [Row.item,ay.aZ _ a.1,ay.bB];exact ⟨W M' m,trivial⟩
        .cases D
       .cases i
      .cases i
     .cases h
    .cases h
   .cases h
  .cases h
 .cases h
theorem alN{t:TypeId}{len:Nat}{ps:Array (Nat×Operand)}(v:st.low fr=true)(u:Sat (ab ρ T st.G++(ab ρ T fr.H++Φ)) w)(h:ahb X T fr st d t len ps.toList K=some r):
  iN X.P T none (au ρ T st.E fr.F) ⟨some d,.buildSlice t len ps,ty,pos,af,gd⟩ w (aV r K T fr st none (some d) ρ Φ):=by
 obtain ⟨ps⟩:=ps;simp only at h;unfold ahb at h;split at h
 .rename_i e y;split at h
  .rename_i z s;obtain ⟨n,bytes,z⟩:=z;split at h
   .rename_i vs k;split at h
    .rename_i cs m;obtain ⟨o,A⟩:=aI h;simp only [ae] at o;obtain ⟨⟨⟨⟨_,D⟩,q⟩,C⟩,B⟩:=o;have c:z.cells.size=n:=ah D;have l:=cE s;have a:=we (ρ:=ρ) m;rw [B4,RH,kP] at a;have g:0<n:=by
      have:0<len*n:=by simpa using q
      exact qZ (λe=>by simp [e] at this)
     have j:oR n len z.cells.toList ((ps.map (·.1)).zip (AV.ao ρ vs))=some (AV.ao ρ cs).toArray:=by unfold oR;have p:=Dn z.cells.toList (by simp [c];exact g) len;simp only [ch,c] at p;simp only [ch,c];rw [<-a,<-p]
     have i:gG (au ρ T st.E fr.F) true (ps.map (·.2)) (AV.ao ρ vs):=by simpa using fN (ρ:=ρ) k
     have f:=nT (P:=X.P) (w:=w) (dst:=some d) (ty:=ty) (pos:=pos) (af:=af) (bV y) l (zs:=z.cells.toList) (by simp) q C i j;refine .none_ (bF.gd (bF.mC f (aV.push (x:={ cM with b:=w.heap.size }) v A (by simp only [AV.val,ay.bB]) ?_)));simp only [Row.item,ay.bB];rw [AV.bU ay.aZ _ B];exact u.push (dY _ _) (λb hb=>by
      have:b=w.heap.size:=by simpa [box] using hb
      subst this;simp) (λ_ _=>heap_alloc_new w _)
    .cases h
   .cases h
  .cases h
 .cases h
theorem aoj{t:TypeId}{y:Operand}(A:Sat (ab ρ T st.G++(ab ρ T fr.H++Φ)) w)(h:alg X T fr st d t x y K=some r):
  iN X.P T none (au ρ T st.E fr.F) ⟨some d,.indexAddr t x y,ty,pos,af,gd⟩ w (aV r K T fr st none (some d) ρ Φ):=by
 unfold alg at h;split at h
 .rename_i e B;split at h
  .rename_i z u;obtain ⟨m,bytes,z⟩:=z;split at h
   .rename_i id n hx;split at h
    .rename_i k i v;obtain ⟨q,_,C,s,o⟩:=C4 h;have c:=bE (ρ:=ρ) hx;have a:=bE (ρ:=ρ) v;simp only [AV.val] at c a;have j:aV r K T fr st none (some d) ρ Φ (.pointer (some ⟨(ρ id).b,q*m,none⟩)) w:=aV.iu (av:= .ptr id (q*m)) o (bb _) rfl (by simp only [AV.val]) A;have f:=EN (P:=X.P) (w:=w) (g:=true) (dst:=some d) (ty:=ty) (pos:=pos) (af:=af) (gd:=none) (bV B) (cE u) c a (p:=⟨(ρ id).b,q*m,none⟩) (λ_=>⟨_,_,_,rfl,by omega,by omega,by
      subst s;unfold Addr.add;split
      next l=>simp only [qq] at l;rw [l]
      .simp⟩)
     exact .none_ (bF.gd (bF.run f j))
    .cases h
   .cases h
  .cases h
 .cases h
abbrev aaj(E:Env)(z i:Int)(x:Option Operand):Prop:=match x with
 |none=>i=z
 |some y=>∃k,ar E true y (.int k i)
theorem amz{t:TypeId}{lo hi:Option Operand}(W:st.low fr=true)(V:Sat (ab ρ T st.G++(ab ρ T fr.H++Φ)) w)(h:agZ X T fr st d t x lo hi K=some r):
  iN X.P T none (au ρ T st.E fr.F) ⟨some d,.slice t x lo hi none,ty,pos,af,gd⟩ w (aV r K T fr st none (some d) ρ Φ):=by
 have S:=(aC.cC.1 W).2.2.1;unfold agZ at h;split at h
 .rename_i e he;split at h
  .rename_i z hz;obtain ⟨n,bytes,z⟩:=z;split at h
   .rename_i id hx;split at h
    .rename_i i Q;split at h
     .rename_i j hj;split at h
      .rename_i k o u e' xs Z hf;obtain ⟨h1,J⟩:=aI h;have hn:n=u.rep.n:=(ah h1).trans u.BS.symm;have O:=cE hz;subst hn;obtain ⟨Y,f2⟩:=bW hf;have:o=id:=ah f2;subst this;have B:=bE (ρ:=ρ) hx;simp only [AV.val] at B;have C:=fi (ρ:=ρ) (T:=T) (Φ:=ab ρ T fr.H++Φ) Y;obtain ⟨R,_⟩:=V.at_ C;have hk:k<st.G.length:=(List.getElem?_eq_some_iff.1 Y).1;have f:=Vk (ρ:=ρ) (len:=xs.length) hj;have a:=LH (ρ:=ρ) Q;rw [aB.get_none] at f a;replace f:aaj (au ρ T st.E fr.F) (xs.length:Int) (j.getD (xs.length:Int)) hi:=f;replace a:aaj (au ρ T st.E fr.F) 0 i lo:=a;have I:∀{s q:Int} {p:fA} {L:x8},aaj (au ρ T st.E fr.F) 0 s lo->aaj (au ρ T st.E fr.F) (xs.length:Int) q hi->QU (sl (ρ o).v) s q u.rep.n (sl p)->(∀b∈L,b∈tf (ρ o).v)->bK u.rep e' (Ctx.M (ab ρ T st.G++(ab ρ T fr.H++Φ))) w (sl p) (bD xs s q) L->
         K { st with c:=st.c+1,E:=cu (some d) none (.sl st.c) st.E,G:=st.G.set k (.own st.c u e' (bD xs s q) st.c) }=some r->iN X.P T none (au ρ T st.E fr.F) ⟨some d,.slice t x lo hi none,ty,pos,af,gd⟩ w (aV r K T fr st none (some d) ρ Φ):=by
        intro s q p L q1 q2 A N g D;refine .none_ (bF.gd (bF.run (DG (lo:=lo) (hi:=hi) (bV he) O B (λ_=>R.len) q1 q2 (λ_=>A)) (aV.new (ρ':=ρ.set st.c { cM with v:=p,y:=⟨.l u,bD xs s q⟩ }) W D ay.aZ (gy _) rfl (by simp only [AV.val,ay.bB]) ?_)));show Sat (ab _ T (st.G.set k _)++_) _;rw [eU hk,bf ay.aZ S];refine V.nd C ((Ext.refl w).rz _) (λb hb=>?_) (λM' m _=>?_)
        .simp only [Row.item,ay.bB] at hb;have:=g.canon.1 b hb;exact ⟨g.lt b this,.inl (N b this)⟩
        .simp only [Row.item,ay.bB];exact ⟨g.canon.2 _ _ (g.cK (λ_ _=>rfl) m),trivial⟩
       split at J
       .obtain ⟨U,D⟩:=ek J;obtain ⟨p,A,g⟩:=R.aqu U;exact I rfl f A (λb hb=>hb) g D
       .obtain ⟨h5,h6⟩:=aI J;obtain ⟨U,D⟩:=ek h6;obtain ⟨p,A,L,N,g⟩:=R.aqD (ah h5) U;exact I a rfl A N g D
       .cases J
      .cases h
     .cases h
    .cases h
   .cases h
  .cases h
 .cases h
theorem anZ{t:TypeId}{lo hi q:Option Operand}(A:st.low fr=true)(o:Sat (ab ρ T st.G++(ab ρ T fr.H++Φ)) w)(h:amK X T fr st d t x lo hi q K=some r):
  iN X.P T none (au ρ T st.E fr.F) ⟨some d,.slice t x lo hi q,ty,pos,af,gd⟩ w (aV r K T fr st none (some d) ρ Φ):=by
 have Q:=(aC.cC.1 A).2.2.1;unfold amK at h;split at h
 .rename_i y U;split at h
  .rename_i n e L;split at h
   .rename_i u Y;split at h
    .rename_i z I;obtain ⟨V,bytes,z⟩:=z;split at h
     .rename_i id hx;split at h
      .rename_i k Z J;split at h
       .rename_i W m i;split at h
        .rename_i j c S cs O;obtain ⟨B,p⟩:=aI h;simp only [ae,kX] at B;obtain ⟨⟨rfl,rfl⟩,h3⟩:=B;split at p
         next xs l=>obtain ⟨C,R⟩:=kL O;have:c=id:=ah R;subst this;have g:=bE (ρ:=ρ) hx;have f:=bE (ρ:=ρ) J;have a:=bE (ρ:=ρ) i;simp only [AV.val] at g f a;have hi:=fi (ρ:=ρ) (T:=T) (Φ:=ab ρ T fr.H++Φ) C;have hb:eM w (ρ c).b S (AV.ao ρ cs):=o.at_ hi;obtain ⟨s,D⟩:=Um o n cs xs l;have N:j<st.G.length:=(List.getElem?_eq_some_iff.1 C).1;refine .none_ (bF.gd (bF.run (aen L (cE I) g f a) (aV.nd (x:={ cM with v:=(some ⟨(ρ c).b,0,none⟩,n,n) }) A N p (by simp only [AV.val,ay.bB];rfl) ?_)));refine o.nd hi ((Ext.refl w).rz _) (λb hb=>by cases hb) (λM' m M=>?_);simp only [Row.item,ay.bB];exact λ_=>⟨bQ.fresh hb (M _ (by simp [Row.item,box]) (λhb=>by cases hb)) s (D.mv m),λ_=>s.symm⟩
         .cases p
        .cases h
       .cases h
      .cases h
     .cases h
    .cases h
   .cases h
  .cases h
 .cases h
end
variable {d : xc} {tys : Array TypeId}
def ajV{R:Type}(X:Cx)(T:aB)(fr:Fr)(st:aC)(t:TypeId)(x y:Operand)(K:cB R):Option R:=match br T st.E fr.F none x with
 |some (.ptr id off)=>(match br T st.E fr.F none y with
  |some v=>ab0 X.P st t id off v K
  |none=>none)
 |some (.adr q off)=>(match br T st.E fr.F none y with
  |some v=>adM X.P fr st t q off v K
  |none=>none)
 |_=>none
def anz{R:Type}(X:Cx)(T:aB)(fr:Fr)(st:aC)(g:GK)(d:Tmp)(t:TypeId)(x:Operand)(K:cB R):Option R:=match br T st.E fr.F g x with
 |some (.adr q off)=>UC X T fr st g d t q off K
 |_=>none
def apY{R:Type}(X:Cx)(T:aB)(fr:Fr)(st:aC)(g:GK)(b:Builtin)(d:xc)(xs:wo)(ts:List TypeId)(K:cB R):Option R:=match b,xs,ts,d with
 | .append,[x,y],[t,u],some d=>gone g (aA (Nat.beq t u) (ak3 X T fr st d t x y K) (ag1 X T fr st d t u x y K))
 | .unsafeSliceData,[x],_,some d=>gone g (aam T fr st d x K)
 | .unsafeString,[x,y],[pt,_],some d=>gone g (ag7 X T fr st d pt x y K)
 | .copy,[x,y],[t,u],d=>gone g (aA (Nat.beq t u) (ag5 X T fr st d t x y K) none)
 |_,_,_,_=>none
def ale{R:Type}(X:Cx)(tb:List aq)(T:aB)(fr:Fr)(st:aC)(g:GK)(d:xc)(c:Callee)(xs:wo)(ts:List TypeId)(K:cB R):Option R:=match c with
 | .builtin b=>apY X T fr st g b d xs ts K
 | .value fo=>(match br T st.E fr.F g fo with
  |some (.fn f a b)=>(match oP T st.E fr.F g xs with
   |some vs=>amd X T fr st g d f (a++vs++b) K (vg T fr st g d f (a++vs++b) K tb)
   |none=>none)
  |some (.raw (.func (.methodOf it nm) ⟨[]⟩ ⟨[]⟩))=>(match X.P.underlying it with
   |some dI=>aA (fK dI) (match oP T st.E fr.F g xs with
    |some (.ifc t u::vs)=>byT (λc=>match Ir X T fr st g c u nm with
     |some q=>vg T fr st g d q.1 (q.2::vs) K tb
     |none=>none) t X.ks
    |_=>none) none
   |none=>none)
  |_=>none)
 | .invoke rc nm=>(match br T st.E fr.F g rc with
  |some (.ifc t u)=>(match oP T st.E fr.F g xs with
   |some vs=>(match u with
    | .agg []=>byT (λc=>match Ir X T fr st g c u nm with
     |some q=>vg T fr st g d q.1 (q.2::vs) K tb
     |none=>none) t X.ks
    |_=>(match Ir X T fr st g t u nm with
     |some q=>vg T fr st g d q.1 (q.2::vs) K tb
     |none=>none))
   |none=>none)
  |_=>none)
def opN{R:Type}(X:Cx)(tb:List aq)(T:aB)(fr:Fr)(st:aC)(g:GK)(op:Op)(dst:xc)(K:cB R):Option R:=match op,dst with
 | .indexAddr t x y,some d=>(match eT X.P t with
  |some _=>(match br T st.E fr.F g x with
   |some (.bs _ _)=>gone g (alg X T fr st d t x y K)
   |_=>ahw X T fr st g d t x y K)
  |none=>(match br T st.E fr.F g x with
   |some (.gp _)=>aaa X T fr st g d t x y K
   |_=>gone g (agW X T fr st d t x y K)))
 | .slice t x lo hi mx,some d=>(match eT X.P t with
  |some _=>(match mx with
   |none=>aA (inO fr.n d X.oc) (gone g (agZ X T fr st d t x lo hi K)) (acs X T fr st g d t x lo hi none K)
   |mx=>acs X T fr st g d t x lo hi mx K)
  |none=>(match br T st.E fr.F g x with
   |some (.gp _)=>gone g (XF X T fr st d t x lo hi mx K)
   |_=>gone g (amK X T fr st d t x lo hi mx K)))
 | .alloc t,some d=>gone g (adt X st d t K)
 | .box t x,some d=>gone g (amJ T fr st d t x K)
 | .store t x y,none=>gone g (ajV X T fr st t x y K)
 | .load t x,some d=>anz X T fr st g d t x K
 | .buildSlice t n ps,some d=>(match eT X.P t with
  |some e=>aA (aqh X.P e) (gone g (ahb X T fr st d t n ps.toList K)) (akx X T fr st g d t n ps.toList K)
  |none=>none)
 | .makeSlice t x y,some d=>gone g (ago X T fr st d t x y K)
 | .makeMap t none,some d=>gone g (air X st d t K)
 | .mapUpdate t x y z,none=>gone g (ahN X T fr st t x y z K)
 | .range t x,some d=>gone g (ame X T fr st d t x K)
 | .next x true,some d=>gone g (alD T fr st d x K)
 | .convert s dt x,some d=>akS X T fr st g d s dt x K
 | .binOp op t x y _,some d=>gone g (amo X T fr st d op t x y K)
 | .call c,d=>ale X tb T fr st g d c.callee c.args.toList c.argTypes.toList K
 |_,_=>none
def opD{R:Type}(X:Cx)(tb:List aq)(T:aB)(fr:Fr)(st:aC)(g:GK)(o:Oper)(K:cB R):Option R:=
 match agL X T st.E fr.F g o.op with
 |some cv=>Ih cv.1 (g.map λ_=>T.get g) (K { st with E:=cu o.dst g cv.2 st.E })
 |none=>match ahx X T st.E fr.F st.G fr.H g o.op with
  |some cv=>Ih cv.1 (g.map λ_=>T.get g) (K { st with E:=cu o.dst g cv.2 st.E })
  |none=>aA (st.low fr) (opN X tb T fr st g o.op o.dst K) none
section
variable {X : Cx} {tb : List aq} {R : Type} {r : R} {K : cB R} {T : aB} {fr : Fr} {st : aC} {g : GK} {ρ : ay} {Φ : Ctx} {w : World} {ty : TypeId} {pos : String} {af : x3} {gd : vb}
theorem xi{d:xc}{op:Op}{f:FuncId}{args:List AV}(l:st.low fr=true)(j:Sat (ab ρ T st.G++(ab ρ T fr.H++Φ)) w)(a:∀it∈X.Γ,it∈Φ)
  (b:Enters X.P f->T.get g=true->∀n act,Fits n (au ρ T st.E fr.F) act->(execOp act.eval ⟨d,op,ty,pos,af,gd⟩).run X.P w= .ok (.enter f (AV.ao ρ args).toArray) w):∀{tb:List aq},(∀e∈tb,e.Ok X.P X.Γ)->vg T fr st g d f args K tb=some r->
  iN X.P T g (au ρ T st.E fr.F) ⟨d,op,ty,pos,af,gd⟩ w (aV r K T fr st g d ρ Φ)
 |[],_,h=>by cases h
 |e::tb,htb,h=>by
  unfold vg at h;rcases dq h with ⟨m,i⟩|⟨_,i⟩
  .split at i
   next o k=>subst i;have:=ah m;subst this;have c:=htb e (bj ..);exact ajg l j c a (b c.1) k
   .exact xi l j a b (λe c=>htb e (aW _ c)) i
  .exact xi l j a b (λe c=>htb e (aW _ c)) i
theorem akP{f:FuncId}{fo:Operand}{xs:wo}{a b vs:List AV}(p:st.low fr=true)(o:Sat (ab ρ T st.G++(ab ρ T fr.H++Φ)) w)(j:∀it∈X.Γ,it∈Φ)
  (m:br T st.E fr.F g fo=some (.fn f a b)) (k:oP T st.E fr.F g xs=some vs) {tb:List aq} (l:∀e∈tb,e.Ok X.P X.Γ) (h:vg T fr st g d f (a++vs++b) K tb=some r):
  iN X.P T g (au ρ T st.E fr.F) ⟨d,.call ⟨.value fo,xs.toArray,tys⟩,ty,pos,af,gd⟩ w (aV r K T fr st g d ρ Φ):=by
 have c:=aR (ρ:=ρ) m;have i:=fN (ρ:=ρ) k;simp only [AV.val] at c;refine xi p o j (λt q n u s=>?_) l h;rw [cZ,cZ];exact DX t c i s q
theorem adb{k:Operand}{nm:String}{xs:wo}{t:TypeId}{u:AV}{vs:List AV}{q:FuncId×AV}(o:st.low fr=true)(l:Sat (ab ρ T st.G++(ab ρ T fr.H++Φ)) w)(c:∀it∈X.Γ,it∈Φ)
  (j:br T st.E fr.F g k=some (.ifc t u)) (f:oP T st.E fr.F g xs=some vs) (m:Ir X T fr st g t u nm=some q) {tb:List aq} (i:∀e∈tb,e.Ok X.P X.Γ) (h:vg T fr st g d q.1 (q.2::vs) K tb=some r):
  iN X.P T g (au ρ T st.E fr.F) ⟨d,.call ⟨.invoke k nm,xs.toArray,tys⟩,ty,pos,af,gd⟩ w (aV r K T fr st g d ρ Φ):=by
 have a:=aR (ρ:=ρ) j;have b:=fN (ρ:=ρ) f;simp only [AV.val] at a;exact xi o l c (λv p n x s=>alP v a (ac3 l m) b s p) i h
theorem akr{fo:Operand}{it:TypeId}{m:TypeDesc}{nm:String}{xs:wo}{t:TypeId}{u:AV}{vs:List AV}{q:FuncId×AV}(p:st.low fr=true)(l:Sat (ab ρ T st.G++(ab ρ T fr.H++Φ)) w)(c:∀it∈X.Γ,it∈Φ)
  (k:br T st.E fr.F g fo=some (.raw (.func (.methodOf it nm) #[] #[]))) (j:X.P.underlying it=some m) (hd:fK m=true) (f:oP T st.E fr.F g xs=some (.ifc t u::vs)) (o:Ir X T fr st g t u nm=some q) {tb:List aq} (i:∀e∈tb,e.Ok X.P X.Γ) (h:vg T fr st g d q.1 (q.2::vs) K tb=some r):
  iN X.P T g (au ρ T st.E fr.F) ⟨d,.call ⟨.value fo,xs.toArray,tys⟩,ty,pos,af,gd⟩ w (aV r K T fr st g d ρ Φ):=by
 have b:=aR (ρ:=ρ) k;have a:=fN (ρ:=ρ) f;simp only [AV.val,AV.ao] at b a;exact xi p l c (λx s n y v=>aeU x b j hd (ac3 l o) a v s) i h
theorem an1{c:Callee}{xs:Array Operand}{J:Array TypeId}(m:st.low fr=true)(l:Sat (ab ρ T st.G++(ab ρ T fr.H++Φ)) w)(o:∀it∈X.Γ,it∈Φ)(p:∀e∈tb,e.Ok X.P X.Γ)
  (h:ale X tb T fr st g d c xs.toList J.toList K=some r):iN X.P T g (au ρ T st.E fr.F) ⟨d,.call ⟨c,xs,J⟩,ty,pos,af,gd⟩ w (aV r K T fr st g d ρ Φ):=by
 obtain ⟨xs⟩:=xs;obtain ⟨J⟩:=J;unfold ale at h;split at h
 .unfold apY at h;split at h
  .rename_i x y t u M k A;simp only at k A;subst k;subst A;obtain ⟨rfl,v⟩:=cN h;rcases dq v with ⟨B,j⟩|⟨_,j⟩
   .have:=ah B;subst this;exact ao7 m l j
   .exact alk m l j
  next x M k=>simp only at k;subst k;obtain ⟨rfl,v⟩:=cN h;exact (aaA m l v).ok2
  next x y S it M k A=>simp only at k A;subst k;subst A;obtain ⟨rfl,v⟩:=cN h;exact alO m l v
  next x y t u k A=>simp only at k A;subst k;subst A;obtain ⟨rfl,v⟩:=cN h;obtain ⟨B,j⟩:=aI v;have:=ah B;subst this;exact aly m l j
  .cases h
 .split at h
  .rename_i f a b s;split at h
   next vs i=>refine anQ m l (λQ N n R O=>?_) h (λh=>akP m l o s i p h);have z:=aR (ρ:=ρ) s;have C:=fN (ρ:=ρ) i;simp only [AV.val] at z;rw [cZ,cZ];exact DX Q z C O N
   .cases h
  .rename_i it nm s;split at h
   .rename_i U L;obtain ⟨v,B⟩:=aI h;split at B
    .rename_i t u vs i;have j:=aa1 B;split at j
     next q I=>exact akr m l o s L v i I p j
     .cases j
    .cases B
   .cases h
  .cases h
 .split at h
  .rename_i t u D;split at h
   .rename_i vs i;split at h
    .have j:=aa1 h;split at j
     next q I=>exact adb m l o D i I p j
     .cases j
    .split at h
     next q I=>exact adb m l o D i I p h
     .cases h
   .cases h
  .cases h
theorem apA{op:Op}{dst:xc}(c:st.low fr=true)(b:Sat (ab ρ T st.G++(ab ρ T fr.H++Φ)) w)(d:∀it∈X.Γ,it∈Φ)(i:∀e∈tb,e.Ok X.P X.Γ)
  (h:opN X tb T fr st g op dst K=some r):iN X.P T g (au ρ T st.E fr.F) ⟨dst,op,ty,pos,af,gd⟩ w (aV r K T fr st g dst ρ Φ):=by
 unfold opN at h;split at h
 .split at h
  .split at h
   .obtain ⟨rfl,a⟩:=cN h;exact aoj b a
   .exact (afo c b h).ok2
  .split at h
   .exact (ab5 c d b h).ok2
   .obtain ⟨rfl,a⟩:=cN h;exact (afs b a).ok2
 .split at h
  .split at h
   .rcases dq h with ⟨_,f⟩|⟨_,f⟩
    .obtain ⟨rfl,j⟩:=cN f;exact amz c b j
    .exact (VR c b f).ok2
   .exact (VR c b h).ok2
  .split at h
   .obtain ⟨rfl,a⟩:=cN h;exact aoM c d b a
   .obtain ⟨rfl,a⟩:=cN h;exact anZ c b a
 .obtain ⟨rfl,a⟩:=cN h;exact aj8 c b a
 .obtain ⟨rfl,a⟩:=cN h;exact an4 c b a
 .obtain ⟨rfl,a⟩:=cN h;unfold ajV at a;split at a
  .rename_i id off hx;split at a
   next v hv=>exact .none_ (ajk b hx hv a)
   .cases a
  .rename_i id off hx;split at a
   next v hv=>exact .none_ (ajq c b hx hv a)
   .cases a
  .cases a
 .unfold anz at h;split at h
  next q off hx=>exact akJ c b hx h
  .cases h
 .split at h
  .rcases dq h with ⟨_,f⟩|⟨_,f⟩
   .obtain ⟨rfl,j⟩:=cN f;exact alN c b j
   .exact aoc c b f
  .cases h
 .obtain ⟨rfl,a⟩:=cN h;exact aln c b a
 .obtain ⟨rfl,a⟩:=cN h;exact alA c b a
 .obtain ⟨rfl,a⟩:=cN h;exact aky b a
 .obtain ⟨rfl,a⟩:=cN h;exact anV c b a
 .obtain ⟨rfl,a⟩:=cN h;exact ao3 b a
 .exact anT c b h
 .obtain ⟨rfl,a⟩:=cN h;exact aoS b a
 .exact an1 c b d i h
 .cases h
theorem apZ{o:Oper}(m:eK T st.E fr.F)(f:Sat (ab ρ T st.G++(ab ρ T fr.H++Φ)) w)(i:∀it∈X.Γ,it∈Φ)(j:∀e∈tb,e.Ok X.P X.Γ)
  (h:opD X tb T fr st g o K=some r):iN X.P T g (au ρ T st.E fr.F) o w (aV r K T fr st g o.dst ρ Φ):=by
 obtain ⟨dst,op,ty,pos,af,gd⟩:=o;unfold opD at h;simp only at h;split at h
 next cv b=>obtain ⟨d,c⟩:=oy h;exact KH.ok2 ⟨_,λw'=>abP m b d,aV.iu c (bb _) rfl rfl f⟩
 .split at h
  next cv b=>obtain ⟨d,c⟩:=oy h;have k:=abN (dst:=dst) (ty:=ty) (pos:=pos) (af:=af) (gd:=gd) f b d;have a:aV r K T fr st g dst ρ Φ (cv.2.val ρ) w:=aV.iu c (bb _) rfl rfl f;exact ⟨λl=>bF.run (by rwa [l] at k) a,λ_=>⟨_,a⟩⟩
  .obtain ⟨d,c⟩:=aI h;exact apA d f i j c
end
def Row.gd:Row->GK
 | .sli g _ _ _ _|.elm g _ _|.kn g _ _ _ _ _ _=>g
 |_=>none
theorem Row.B7{ρ:ay}{T T':aB}{r:Row}(h:T'.get r.gd=T.get r.gd):r.item ρ T'=r.item ρ T:=by cases r <;> simp only [Row.gd] at h <;> simp only [Row.item,h]
def Bc(k:Nat×Bool)(g:GK):Bool:= !(GK.eq (some k) g)
def IB(k:Nat×Bool):aF->Bool
 |[]=>true
 |x::E=>Bc k x.2.1&&IB k E
def Rn(k:Nat×Bool):List Row->Bool
 |[]=>true
 |r::G=>Bc k r.gd&&Rn k G
def ahq(k:Nat×Bool):aB->Bool
 |[]=>true
 |x::T=>Bc k (some x.1)&&Bc k x.2.1&&ahq k T
theorem wG{k:Nat×Bool}{par:GK}{rj:Nat}{b:Bool}{T:aB}{g:GK}(h:Bc k g=true):aB.get ((k,par,rj,b)::T) g=T.get g:=aB.PL h
theorem Rf{ρ:ay}{k:Nat×Bool}{par:GK}{rj:Nat}{b:Bool}{T:aB}:{E:aF}->IB k E=true->aF.env ρ ((k,par,rj,b)::T) E=aF.env ρ T E
 |[],_=>rfl
 |(t,g,v)::E,h=>by simp only [IB,ae] at h;simp only [aF.env];rw [wG h.1,Rf h.2]
theorem H2{ρ:ay}{k:Nat×Bool}{par:GK}{rj:Nat}{b:Bool}{T:aB}:{G:List Row}->Rn k G=true->ab ρ ((k,par,rj,b)::T) G=ab ρ T G
 |[],_=>rfl
 |r::G,h=>by simp only [Rn,ae] at h;simp only [ab,cx];rw [Row.B7 (wG h.1)];have:=H2 (ρ:=ρ) (par:=par) (rj:=rj) (b:=b) (T:=T) h.2;simp only [ab] at this;rw [this]
theorem LQ{k:Nat×Bool}:{E:aF}->IB k E=true->{t:Nat}->{x:GK×AV}->bw E t=some x->Bc k x.1=true
 |[],_,_,_,h=>by cases h
 |(r,g,v)::E,h,t,x,hx=>by
  simp only [IB,ae] at h;unfold bw at hx;rcases dq hx with ⟨_,a⟩|⟨_,a⟩
  .cases a;exact h.1
  .exact LQ h.2 a
def RG(k:Nat×Bool):aB->Bool
 |[]=>false
 |x::T=>GK.eq (some k) (some x.1)||RG k T
def mf(d:xc):aB->Bool
 |[]=>true
 |x::T=>(match d with
  |none=>true
  |some d=> !(Nat.beq d x.2.2.1))&&mf d T
def na(ops:x5)(n:Nat)(T:aB):Prop:= ∀x,x∈T->(ops[x.1.1]?).bind (·.dst)=some x.2.2.1/\Nat.blt x.2.2.1 n=true
def FT(T:aB)(fr:Fr):Prop:=(∀x,x∈fr.F->T.get x.2.1=aB.get [] x.2.1)/\∀r,r∈fr.H->T.get r.gd=aB.get [] r.gd
def stepG{R:Type}(ops:x5)(T:aB)(fr:Fr)(st:aC)(o:Oper)(run:aB->GK->Option R):Option R:=
 aA (ix o&&L6 fr.n o.dst) (match o.guard with
 |none=>aA ( mf o.dst T ) ( run T none ) none
 |some k=>aA ( RG k T ) ( aA ( mf o.dst T ) ( run T (some k) ) none )<|match ops[k.1]? with
  |some oj=>(match oj.dst with
   |some rj=>(match dC st.E fr.F rj with
    |some (par,.bool b)=>aA ( Nat.blt rj fr.n&&IB k st.E&&IB k fr.F&&Rn k st.G&&Rn k fr.H&&ahq k T&&mf o.dst ((k,par,rj,b)::T) ) ( run ((k,par,rj,b)::T) (some k) ) none
    |_=>none)
   |none=>none)
  |none=>none) none
structure aiH(ops:x5)(fr0 fr:Fr)(st:aC)(ρ:ay)(o:Oper)(T T':aB)(g:GK):Prop where
 pl:ix o=true
 ds:L6 fr.n o.dst=true
 t1:eK T' st.E fr.F
 t2:na ops fr.n T'
 ft:FT T' fr0
 ak:mf o.dst T'=true
 ee:aF.env ρ T' st.E=aF.env ρ T st.E
 ef:aF.env ρ T' fr.F=aF.env ρ T fr.F
 eg:ab ρ T' st.G=ab ρ T st.G
 eh:ab ρ T' fr.H=ab ρ T fr.H
 gg:o.guard=g
 gk:∀k,g=some k->∃rj par b,(ops[k.1]?).bind (·.dst)=some rj/\look (au ρ T' st.E fr.F) rj=some (T'.get par,.bool b)/\Nat.blt rj fr.n=true/\(T'.get par&&(b==k.2))=T'.get g
theorem afw{k:Nat×Bool}:{T:aB}->RG k T=true->∃x,x∈T/\x.1=k
 |[],h=>by cases h
 |x::T,h=>by
  simp only [RG,c5] at h;rcases h with h|h
  .have:=GK.eq_eq h;cases this;exact ⟨x,bj .., rfl⟩
  .obtain ⟨y,b,a⟩:=afw h;exact ⟨y,aW _ b,a⟩
theorem afm{k:Nat×Bool}:{T:aB}->ahq k T=true->∀x,x∈T->Bc k (some x.1)=true/\Bc k x.2.1=true
 |[],_,x,h=>by cases h
 |y::T,h,x,hx=>by
  simp only [ahq,ae] at h;rcases List.mem_cons.1 hx with rfl|hx
  .exact h.1
  .exact afm h.2 x hx
theorem agd{k:Nat×Bool}:{E:aF}->IB k E=true->∀x,x∈E->Bc k x.2.1=true
 |[],_,x,h=>by cases h
 |y::T,h,x,hx=>by
  simp only [IB,ae] at h;rcases List.mem_cons.1 hx with rfl|hx
  .exact h.1
  .exact agd h.2 x hx
theorem aft{k:Nat×Bool}:{E:List Row}->Rn k E=true->∀x,x∈E->Bc k x.gd=true
 |[],_,x,h=>by cases h
 |y::T,h,x,hx=>by
  simp only [Rn,ae] at h;rcases List.mem_cons.1 hx with rfl|hx
  .exact h.1
  .exact aft h.2 x hx
theorem acy{R:Type}{r:R}{ops:x5}{T:aB}{fr0 fr:Fr}{st:aC}{o:Oper}{run:aB->GK->Option R}{ρ:ay}(v:eK T st.E fr.F)(u:na ops fr.n T)(y:fr0.F=fr.F)(w:∀r,r∈fr0.H->r∈fr.H)(q:FT T fr0)(h:stepG ops T fr st o run=some r):
  ∃T' g,run T' g=some r/\aiH ops fr0 fr st ρ o T T' g:=by
 unfold stepG at h;obtain ⟨f,A⟩:=aI h;simp only [ae] at f;have iu:∀k x,x∈T->x.1=k->∃rj par b,(ops[k.1]?).bind (·.dst)=some rj/\look (au ρ T st.E fr.F) rj=some (T.get par,.bool b)/\Nat.blt rj fr.n=true/\(T.get par&&(b==k.2))=T.get (some k):=λk x hx m=>by subst m;obtain ⟨I,G⟩:=v x hx;obtain ⟨D,C⟩:=u x hx;exact ⟨x.2.2.1,x.2.1,x.2.2.2,D,by rw [fM,I];simp [AV.val],C,by rw [G,MV]⟩
 split at A
 next p=>obtain ⟨t,d⟩:=aI A;exact ⟨T,none,d,⟨f.1,f.2,v,u,q,t,rfl,rfl,rfl,rfl,p,λk m=>by cases m⟩⟩
 .rename_i k p;rcases dq A with ⟨t,d⟩|⟨t,d⟩
  .obtain ⟨s,z⟩:=aI d;obtain ⟨x,hx,m⟩:=afw t;exact ⟨T,some k,z,⟨f.1,f.2,v,u,q,s,rfl,rfl,rfl,rfl,p,λM e=>by cases e;exact iu k x hx m⟩⟩
  .split at d
   .rename_i oj l;split at d
    .rename_i rj i;split at d
     .rename_i par b a;obtain ⟨s,z⟩:=aI d;simp only [ae] at s;obtain ⟨⟨⟨⟨⟨⟨L,K⟩,B⟩,P⟩,J⟩,O⟩,N⟩:=s;have j:Bc k par=true:=by
       unfold dC at a;split at a
       next x hx=>cases a;exact LQ K hx
       .exact LQ B a
      have c:aB.get ((k,par,rj,b)::T) (some k)=(aB.get ((k,par,rj,b)::T) par&&wj k.2 b):=by rw [aB.ak4,wG j]
      have ee:=Rf (ρ:=ρ) (par:=par) (rj:=rj) (b:=b) (T:=T) K;have ef:=Rf (ρ:=ρ) (par:=par) (rj:=rj) (b:=b) (T:=T) B;refine ⟨(k,par,rj,b)::T,some k,z,⟨f.1,f.2,λx hx=>?_,λx hx=>?_,⟨λx hx=>?_,λx hx=>?_⟩,N,ee,ef,H2 P,H2 J,p,λM e=>?_⟩⟩
      .rcases List.mem_cons.1 hx with rfl|hx
       .exact ⟨a,c⟩
       .obtain ⟨I,G⟩:=v x hx;obtain ⟨D,C⟩:=afm O x hx;exact ⟨I,by rw [wG D,wG C];exact G⟩
      .rcases List.mem_cons.1 hx with rfl|hx
       .exact ⟨by simp [l,i],L⟩
       .exact u x hx
      .rw [wG (agd B x (y▸hx))];exact q.1 x hx
      .rw [wG (aft J x (w x hx))];exact q.2 x hx
      .cases e;refine ⟨rj,par,b,by simp [l,i],?_,L,by rw [c,MV]⟩;rw [fM,a];simp [AV.val]
     .cases d
    .cases d
   .cases d
theorem YN{d:xc}:{T:aB}->mf d T=true->∀x,x∈T->∀(g:GK) (v:AV) (E F:aF),dC (cu d g v E) F x.2.2.1=dC E F x.2.2.1
 |[],_,x,h=>by cases h
 |y::T,h,x,hx=>λg v E F=>by
  simp only [mf,ae] at h;rcases List.mem_cons.1 hx with rfl|hx
  .cases d with
   |none=>rfl
   |some d=>
    have a:=h.1;simp only [et] at a;unfold dC;simp only [cu,bw,a]
  .exact YN h.2 x hx g v E F
theorem eK.out{T:aB}{E F:aF}(h:eK T E F){d:xc}(ha:mf d T=true)(g:GK)(v:AV):eK T (cu d g v E) F:=λx hx=>by rw [YN ha x hx];exact h x hx
theorem sT{ρ:ay}{T:aB}{g:GK}{v:AV}{E F:aF}:au ρ T (cu d g v E) F=pb d (T.get g) (v.val ρ) (au ρ T E F):=by cases d <;> rfl
section
variable {X : Cx} {tb : List aq} {σ : xb} {Q : bu} {D : v7} {ops : x5} {rest : x5} {R : Type} {r : R} {T : aB} {fr : Fr} {st : aC} {ρ : ay} {Φ : Ctx} {w : World}
theorem adB{fr0:Fr}{o:Oper}{K:aB->cB R}(O:eK T st.E fr.F)(N:na ops fr.n T)(s:fr0.F=fr.F)(q:∀r,r∈fr0.H->r∈fr.H)(L:FT T fr0)(I:Sat (ab ρ T st.G++(ab ρ T fr.H++Φ)) w)(j:∀it∈X.Γ,it∈Φ)(l:∀e∈tb,e.Ok X.P X.Γ)
  (h:stepG ops T fr st o (λT g=>opD X tb T fr st g o (K T))=some r)
  (f:∀T' st' ρ' w',eK T' st'.E fr.F->na ops fr.n T'->FT T' fr0->aT st.c ρ ρ'->st.c<=st'.c->K T' st'=some r->ab ρ' T' fr.H=ab ρ T fr.H->Sat (ab ρ' T' st'.G++(ab ρ' T' fr.H++Φ)) w'->WL X.P σ ops.toArray Q fr.n D rest (au ρ' T' st'.E fr.F) w'):
  WL X.P σ ops.toArray Q fr.n D (o::rest) (au ρ T st.E fr.F) w:=by
 obtain ⟨T',g,J,a⟩:=acy (ρ:=ρ) O N s q L h;have m:Sat (ab ρ T' st.G++(ab ρ T' fr.H++Φ)) w:=by rw [a.eg,a.eh];exact I
 have M:au ρ T st.E fr.F=au ρ T' st.E fr.F:=by rw [au,au,a.ee,a.ef]
 rw [M];have d:=apZ a.t1 m j l J;have i:∀v w',aV r (K T') T' fr st g o.dst ρ Φ v w'->WL X.P σ ops.toArray Q fr.n D rest (pb o.dst (T'.get g) v (au ρ T' st.E fr.F)) w':=λv w' hv=>by obtain ⟨ρ',st',av,C,B,A,t,z,y,x,u⟩:=hv;have:=f T' st' ρ' w' (by rw [t];exact a.t1.out a.ak g av) a.t2 a.ft B A C (x.trans a.eh) u;rw [t,sT,z,y] at this;exact this
 cases p:g with
 |none=>
  subst p;have:=i;rw [aB.get_none] at this;exact anR (d.1 aB.get_none) a.pl a.gg a.ds this
 |some k=>
  obtain ⟨rj,par,b,W,V,U,S⟩:=a.gk k p;subst p;exact akt d.1 d.2 a.pl a.gg (by simpa using W) V U S a.ds i
end
def pC{α:Type}:Option α->Bool
 |none=>true
 |some _=>false
def lO(E0:aF):aF->aF
 |[]=>[]
 |x::E=>(match bw E0 x.1 with
  |some (none,_)=>aA (pC x.2.1) (x::lO E0 E) (lO E0 E)
  |_=>lO E0 E)
def kx:List Row->List Row
 |[]=>[]
 |r::G=>aA (pC r.gd) (r::kx G) (kx G)
def wS(T:aB)(st:aC):aC:=match T with
 |[]=>st
 |_::_=>{ st with E:=lO st.E st.E,G:=kx st.G }
theorem gB{t' t:Nat}{g:GK}{v:AV}{E:aF}(h:Nat.beq t' t=true):bw ((t',g,v)::E) t=some (g,v):=by simp only [bw,h]
theorem ey{t' t:Nat}{g:GK}{v:AV}{E:aF}(h:Nat.beq t' t=false):bw ((t',g,v)::E) t=bw E t:=by simp only [bw,h]
theorem EC{d:aF}{t:Nat}:{E:aF}->{x:GK×AV}->bw (lO d E) t=some x->x.1=none/\(∃v,bw d t=some (none,v))/\((∃v,bw E t=some (none,v))->bw E t=some x)
 |[],x,h=>by cases h
 |(t',g',v')::E,x,h=>by
  unfold lO at h;have cK:bw (lO d E) t=some x->(∀v,Nat.beq t' t=true->bw d t'≠some (none,v)\/g'≠none)->x.1=none/\(∃v,bw d t=some (none,v))/\((∃v,bw ((t',g',v')::E) t=some (none,v))->bw ((t',g',v')::E) t=some x):=λm i=>by
   obtain ⟨a,c,l⟩:=EC m;refine ⟨a,c,λhv=>?_⟩;cases hb:Nat.beq t' t
   .rw [ey hb] at hv ⊢; exact l hv
   .exfalso;obtain ⟨j,g⟩:=c;obtain ⟨n,b⟩:=hv;rw [gB hb] at b;simp only [b8,p0] at b;have e:=ah hb;rcases i j hb with f|f
    .rw [e] at f;exact f g
    .exact f b.1
  dsimp only at h;split at h
  .rename_i v hv;cases a:pC g'
   .rw [a] at h;exact cK h (λv _=> .inr (λe=>by rw [e] at a;cases a))
   .rw [a] at h;have c:bw ((t',g',v')::lO d E) t=some x:=h;cases hb:Nat.beq t' t
    .rw [ey hb] at c ⊢;exact EC (E:=E) c
    .rw [gB hb] at c ⊢;cases c;have e:=ah hb;refine ⟨?_,⟨v,by rw [<-e];exact hv⟩,λ_=>rfl⟩;cases k:g' with
     |none=>rfl
     |some _=>rw [k] at a;cases a
  next i=>exact cK h (λv hb=> .inl (λe=>i v e))
theorem OM{a:aF}{t:Nat}{c:AV}(b:bw a t=some (none,c)):{E:aF}->{v:AV}->bw E t=some (none,v)->bw (lO a E) t=some (none,v)
 |[],v,h=>by cases h
 |(t',g',v')::E,v,h=>by
  unfold lO;cases hb:Nat.beq t' t
  .rw [ey hb] at h;have ih:=OM b h;dsimp only;split
   .cases pC g'
    .exact ih
    .show bw ((t',g',v')::lO a E) t=_;rw [ey hb];exact ih
   .exact ih
  .rw [gB hb] at h;cases h;have e:=ah hb;subst e;dsimp only;rw [b];exact gB hb
def aau(F E0:aF):aF->Bool
 |[]=>true
 |x::E=>(match bw E0 x.1 with
  |some (none,_)=>true
  |_=>pC (bw F x.1))&&aau F E0 E
theorem abk{F c:aF}{t:Nat}:{E:aF}->{x:GK×AV}->aau F c E=true->bw E t=some x->(∃v,bw c t=some (none,v))\/bw F t=none
 |[],x,_,h=>by cases h
 |(t',g',v')::E,x,hb,h=>by
  simp only [aau,ae] at hb;cases b:Nat.beq t' t
  .rw [ey b] at h;exact abk hb.2 h
  .have e:=ah b;subst e;have a:=hb.1;split at a
   next v hv=>exact .inl ⟨v,hv⟩
   .cases d:bw F t' with
    |none=>exact .inr rfl
    |some y=>rw [d] at a;cases a
def BD(T:aB)(fr:Fr)(st:aC):Bool:=match T with
 |[]=>true
 |_::_=>aau fr.F st.E st.E
theorem al9{ρ:ay}{T:aB}{E:aF}(h:∀x,x∈E->T.get x.2.1=aB.get [] x.2.1):aF.env ρ T E=aF.env ρ [] E:=by
 induction E with
 |nil=>rfl
 |cons x E ih=>
  obtain ⟨t,g,v⟩:=x;simp only [aF.env];rw [h _ (bj ..),ih (λx hx=>h x (aW _ hx))]
theorem Vf{ρ:ay}{T:aB}{G:List Row}(h:∀r,r∈G->T.get r.gd=aB.get [] r.gd):ab ρ T G=ab ρ [] G:=
 qw λr a=>Row.B7 (h r a)
theorem wK:{G:List Row}->∀r,r∈kx G->r.gd=none
 |[],r,h=>by cases h
 |y::G,r,h=>by
  unfold kx at h;cases a:pC y.gd
  .rw [a] at h;exact wK r h
  .rw [a] at h;rcases List.mem_cons.1 h with rfl|h
   .cases b:r.gd with
    |none=>rfl
    |some _=>rw [b] at a;cases a
   .exact wK r h
theorem Ay{ρ:ay}{T:aB}{w:World}{B:Ctx}:∀{G:List Row} {A:Ctx},Sat (A++(ab ρ T G++B)) w->Sat (A++(ab ρ T (kx G)++B)) w
 |[],_,h=>h
 |r::G,A,h=>by
  unfold kx;cases pC r.gd
  .exact Ay (G:=G) (Sat.An h)
  .have a:Sat ((A++[r.item ρ T])++(ab ρ T G++B)) w:=by simpa [ab] using h
   have:=Ay (G:=G) a;simpa [ab] using this
theorem IL{ρ:ay}{T:aB}{fr:Fr}{st:aC}{Φ:Ctx}{w:World}(k:BD T fr st=true)(g:FT T fr)(f:Sat (ab ρ T st.G++(ab ρ T fr.H++Φ)) w):
  (wS T st).c=st.c/\iT (au ρ [] (wS T st).E fr.F) (au ρ T st.E fr.F)/\Sat (ab ρ [] (wS T st).G++(ab ρ [] fr.H++Φ)) w:=by
 cases T with
 |nil=>exact ⟨rfl,iT.refl,f⟩
 |cons x T=>
  refine ⟨rfl,λt p hp=>?_,?_⟩
  .have o:aF.env ρ (x::T) fr.F=aF.env ρ [] fr.F:=al9 g.1;rw [au,EK] at hp ⊢;rw [o];cases b:look (aF.env ρ [] (wS (x::T) st).E) t with
   |none=>
    rw [b] at hp
    -- nothing kept: nothing told, or under a guard
    have:look (aF.env ρ (x::T) st.E) t=none:=by
     rw [sw] at b hp ⊢;cases j:bw st.E t with
     |none=>rfl
     |some y=>
      exfalso;have d:bw (lO st.E st.E) t=none:=by
       cases d:bw (lO st.E st.E) t with
       |none=>rfl
       |some z=>
        have:bw (wS (x::T) st).E t=some z:=d;rw [this] at b;cases b
      rcases abk k j with ⟨v,hv⟩|i
      .rw [OM hv hv] at d;cases d
      .rw [i] at hp;cases hp
    rw [this];exact hp
   |some q=>
    rw [b] at hp;cases hp;rw [sw] at b;cases d:bw (wS (x::T) st).E t with
    |none=>rw [d] at b;cases b
    |some y=>
     rw [d] at b;obtain ⟨e,n,m⟩:=EC d;have l:=m n;rw [sw,l];simp only [l7,b8] at b ⊢;rw [<-b,e,aB.get_none,aB.get_none]
  .have e:=Ay (A:=[]) f;have u:ab ρ (x::T) (kx st.G)=ab ρ [] (kx st.G):=Vf λr h=>by rw [wK r h,aB.get_none,aB.get_none]
   have s:ab ρ (x::T) fr.H=ab ρ [] fr.H:=Vf g.2;rw [mo,u,s] at e;exact e
def Pa:Bool->Pt->List (Bool×Nat×Pt)->Type
 |true,_,_=>Empty
 |false,r,os=>ew (lD r++gi os)
abbrev apf{R:Type}:(nv:Bool)->(r:Pt)->(os:List (Bool×Nat×Pt))->Pa nv r os->(ew (lD r++gi os)->Option R)->Option R
 |true,_,_,x,_=>Empty.elim x
 |false,_,_,x,K=>K x
def isOk:(nv:Bool)->(r:Pt)->(os:List (Bool×Nat×Pt))->Pa nv r os->ew (lD r++gi os)->Prop
 |true,_,_,_,_=>False
 |false,_,_,x,q=>x=q
theorem aok{R:Type}{a:R}:{nv:Bool}->{r:Pt}->{os:List (Bool×Nat×Pt)}->{x:Pa nv r os}->{q:ew (lD r++gi os)}->{K:ew (lD r++gi os)->Option R}->isOk nv r os x q->apf nv r os x K=some a->K q=some a
 |true,_,_,_,_,_,h,_=>h.elim
 |false,_,_,_,_,_,rfl,h=>h
abbrev Vq(p:Pt):Option Pt->Type
 |none=>ew (lD p)
 |some q=>ew (lD p) ⊕ ew (lD q)
abbrev ac4{A B R:Type}(x:A ⊕ B)(f:A->R)(g:B->R):R:=match x with
 | .inl a=>f a
 | .inr b=>g b
def alo(pp:Pt):(pq:Option Pt)->Vq pp pq->Value->eB->iY->List Nm->Prop
 |none,p,v,I,X,N=>Sem pp v none none [] (fL _ p) I X N
 |some _,.inl p,v,I,X,N=>Sem pp v none none [] (fL _ p) I X N
 |some q,.inr p,v,I,X,N=>Sem q v none none [] (fL _ p) I X N
structure bI where
 f:FuncId
 ps:List Pt
 pp:Pt
 pq:Option Pt
 nv:Bool
 lp:Bool
 r:Pt
 os:List (Bool×Nat×Pt)
 m:ew (mu ps)->Option (Except (Vq pp pq) (Pa nv r os))
def bI.oe(e:bI):aq:=⟨e.f,e.ps,e.r,e.os,λ_=>none⟩
def bI.S(e:bI)(vs:w9)(N:List Nm)(I:eB)(X:iY)(Φ:Ctx)(r:Except (Vq e.pp e.pq) (Pa e.nv e.r e.os))(v:Value)(w':World):Prop:=
 ∃x q,r= .ok x/\isOk e.nv e.r e.os x q/\∃(N1 N2:List Nm) (D1 D2:List bZ) (I1 I2:eB) (X1 X2:iY),Sem e.r v none none N D1 I1 X1 N1/\Ft (Ug N e.ps vs X) (λi=>vs[i]?) e.os N1 D2 I2 X2 N2/\D1++D2=fL _ q/\
  Sat ((di I1++di I2)++(eI I++Φ)) w'
def bI.Sp(e:bI)(I:eB)(Φ:Ctx)(r:Except (Vq e.pp e.pq) (Pa e.nv e.r e.os))(c:vA)(w':World):Prop:=
 ∃p,r= .error p/\∃(v:Value) (N1:List Nm) (I1:eB) (X1:iY),c=gO v/\alo e.pp e.pq p v I1 X1 N1/\Sat (di I1++(aA e.lp [] (eI I)++Φ)) w'
def bI.Ok(P:Program)(Γg:Ctx)(e:bI):Prop:=Enters P e.f/\∀s r,e.m s=some r->∀(vs:w9) (N:List Nm) (I:eB) (X:iY) (Φ:Ctx) (w:World),
 u5 e.ps vs [] [] [] (fL _ s) I X N->Sat (di I++Φ) w->(∀it∈Γg,it∈Φ)->ky P e.f vs w (e.S vs N I X Φ r) (e.Sp I Φ r)
theorem Sat.move{A B C:Ctx}{x:Item}{w:World}(h:Sat (A++x::(B++C)) w):Sat (A++(B++x::C)) w:=by
 refine h.Au (λj k=>(j<A.length/\k=j)\/(A.length<=j/\j<A.length+B.length/\k=j+1)\/(j=A.length+B.length/\k=A.length)\/(A.length+B.length<j/\k=j)) (λj jt a=>?_) (λj k q b m l=>by omega);by_cases e:j<A.length
 .rw [cd e] at a;exact .inr ⟨j,jt,.inl ⟨e,rfl⟩,by rw [cd e];exact a,bS.refl⟩
 .rw [b5 (by omega)] at a;by_cases i:j<A.length+B.length
  .rw [cd (by omega)] at a;refine .inr ⟨j+1,jt,.inr (.inl ⟨by omega,i,rfl⟩),?_,bS.refl⟩;rw [b5 (by omega)];have:j+1-A.length=(j-A.length)+1:=by omega
   rw [this,cf,cd (by omega)];exact a
  .rw [b5 (by omega)] at a;by_cases g:j=A.length+B.length
   .subst g;rw [show A.length+B.length-A.length-B.length=0 by omega] at a;simp at a;subst a;exact .inr ⟨A.length,x,.inr (.inr (.inl ⟨rfl,rfl⟩)),by simp,bS.refl⟩
   .refine .inr ⟨j,jt,.inr (.inr (.inr ⟨by omega,rfl⟩)),?_,bS.refl⟩;rw [b5 (by omega)];have f:j-A.length-B.length=(j-A.length-B.length-1)+1:=by omega
    rw [f,cf] at a;have d:j-A.length=(j-A.length-1)+1:=by omega
    rw [d,cf,b5 (by omega)];have c:j-A.length-1-B.length=j-A.length-B.length-1:=by omega
    rw [c];exact a
theorem Sat.swp{w:World}{B C:Ctx}:∀{A P:Ctx},Sat (P++(A++(B++C))) w->Sat (P++(B++(A++C))) w
 |[],_,h=>h
 |x::A,P,h=>by
  have c:Sat ((P++[x])++(A++(B++C))) w:=by simpa using h
  have b:=Sat.swp (A:=A) c;have a:Sat (P++x::(B++(A++C))) w:=by simpa using b
  exact a.move
def da:List Row->List Row
 |[]=>[]
 |r::G=>aA r.cF (r::da G) (da G)
abbrev GX(b:Bool)(H:List Row):List Row:=aA b (da H) H
theorem C3{c:Nat}:{G:List Row}->bC c G=true->bC c (da G)=true
 |[],_=>rfl
 |r::G,h=>by
  simp only [bC,ae] at h;unfold da;cases r.cF
  .exact C3 h.2
  .show bC c (r::da G)=true;simp only [bC,ae];exact ⟨h.1,C3 h.2⟩
theorem aoo{c:Nat}{b:Bool}{G:List Row}(h:bC c G=true):bC c (GX b G)=true:=by
 cases b
 .exact h
 .exact C3 h
theorem oT{r:Row}:{G:List Row}->r∈da G->r∈G/\r.cF=true
 |[],h=>by cases h
 |x::G,h=>by
  unfold da at h;cases hx:x.cF <;> rw [hx] at h
  .exact ⟨aW _ (oT h).1,(oT h).2⟩
  .rcases List.mem_cons.1 h with rfl|h
   .exact ⟨bj .., hx⟩
   .exact ⟨aW _ (oT h).1,(oT h).2⟩
theorem K9{G H:List Row}:da (G++H)=da G++da H:=by
 induction G with
 |nil=>rfl
 |cons r G ih=>
  show aA r.cF (r::da (G++H)) (da (G++H))=aA r.cF (r::da G) (da G)++da H;rw [ih];cases r.cF <;> rfl
theorem aiF{ρ:ay}{T:aB}{w:World}{Γ:Ctx}(h:Sat Γ w){H:List Row}(d:∀r∈H,r.item ρ T∈Γ):Sat (ab ρ T (da H)++Γ) w:=by
 refine h.amc _ (List.all_eq_true.2 λit a=>?_) ?_
 .obtain ⟨r,b,rfl⟩:=List.mem_map.1 a;exact Row.ajo (oT b).2
 .have:∀l:List Item,(∀it∈l,it.P Γ.M w)->agJ Γ.M w l:=λl=>by
   induction l with
   |nil=>intro _;trivial
   |cons x l ih=>intro c;exact ⟨c x (bj ..),ih λit a=>c it (aW _ a)⟩
  refine this _ λit a=>?_;obtain ⟨r,b,rfl⟩:=List.mem_map.1 a;exact h.all _ (d r (oT b).1)
theorem aol{L:vc}{A B:Ctx}(h:∀i,some i∈L->i<A.length):∃a,iy L (A++B)=a++B/\a.length=A.length:=by
 induction L with
 |nil=>exact ⟨A,rfl,rfl⟩
 |cons o L ih=>
  obtain ⟨a,c,b⟩:=ih (λi hi=>h i (aW _ hi));cases o with
  |none=>exact ⟨a,c,b⟩
  |some i=>
   refine ⟨a.set i fJ,?_,by rw [s3,b]⟩;show (iy L (A++B)).set i fJ=_;have:=h i (bj ..);rw [c,List.set_append_left _ _ (by omega)]
theorem Sat.Ki{w:World}{B C:Ctx}:∀{A:Ctx},Sat (B++(A++C)) w->Sat (B++C) w
 |[],h=>h
 |_x::A,h=>Sat.Ki (A:=A) (Sat.An h)
def Kp{R:Type}(st:aC)(pp:Pt)(G1:List Row)(KP:AV->aC->Option R)(p:ew (lD pp)):Option R:=
 match fill (rG [] st.c) pp none none 0 (fL _ p) with
 |⟨v,R1,k,_,_⟩=>KP v { st with c:=st.c+k,G:=R1.map (·.2)++G1 }
abbrev ajz{R:Type}(st:aC)(pp:Pt):(pq:Option Pt)->(G1:List Row)->(KP:AV->aC->Option R)->Vq pp pq->Option R
 |none,G1,KP,p=>Kp st pp G1 KP p
 |some q,G1,KP,p=>ac4 p (Kp st pp G1 KP) (Kp st q G1 KP)
def ab1{R:Type}(fr:Fr)(st:aC)(d:xc)(args:List AV)(e:bI)(KP:Bool->AV->aC->Option R)(K:cB R):Option (Option R):=
 match Ge (cm (dO st.G fr.H e.ps args) st.G) fr.H e.ps args [] [] [] with
  |some mr=>aA (AW (mr.S.map λx=>dj (cm (dO st.G fr.H e.ps args) st.G) fr.H x.2)&&O3 (cm (dO st.G fr.H e.ps args) st.G).length (xW (cm (dO st.G fr.H e.ps args) st.G) fr.H mr.S)&&Pg st.c mr.B&&AV.bX st.c args&&QQ st.c mr.X&&pw (vJ mr.B e.ps args mr.X) e.os) (match cG (mu e.ps) mr.D with
   |some s=>some (lh (e.m s) (ajz st e.pp e.pq (aA e.lp (da (cm (dO st.G fr.H e.ps args) st.G)) (jA (pj (xW (cm (dO st.G fr.H e.ps args) st.G) fr.H mr.S) 0 (cm (dO st.G fr.H e.ps args) st.G)))) (KP e.lp))
     (λx=>apf e.nv e.r e.os x (Nd fr st none d args e.oe mr (jA (pj (xW (cm (dO st.G fr.H e.ps args) st.G) fr.H mr.S) 0 (cm (dO st.G fr.H e.ps args) st.G))) K)))
   |none=>none) none
  |none=>none
def KO{R:Type}(fr:Fr)(st:aC)(d:xc)(f:FuncId)(args:List AV)(KP:Bool->AV->aC->Option R)(K:cB R):List bI->Option (Option R)
 |[]=>none
 |e::tp=>aA (Nat.beq e.f f) (match ab1 fr st d args e KP K with
   |some r=>some r
   |none=>KO fr st d f args KP K tp) (KO fr st d f args KP K tp)
def aic{R:Type}(tp:List bI)(T:aB)(fr:Fr)(st:aC)(o:Oper)(KP:Bool->AV->aC->Option R)(K:cB R):Option (Option R):=match o.guard with
 |some _=>none
 |none=>(match o.op with
  | .panic x=>(match br T st.E fr.F none x with
   |some (.ifc t v)=>some (KP false (.ifc t v) st)
   |_=>none)
  | .call c=>(match c.callee with
   | .value fo=>(match br T st.E fr.F none fo with
    |some (.fn f a b)=>(match oP T st.E fr.F none c.args.toList with
     |some vs=>aA (mf o.dst T&&L6 fr.n o.dst&&st.low fr) (KO fr st o.dst f (a++vs++b) KP K tp) none
     |none=>none)
    |_=>none)
   |_=>none)
  |_=>none)
section
variable {P : Program} {R : Type} {r : R} {K : cB R} {KP : Bool -> AV -> aC -> Option R} {b : Bool} {T : aB} {fr : Fr} {st : aC} {d : xc} {ρ : ay} {Φ Γg : Ctx} {w : World}
def acS(r:R)(KP:Bool->AV->aC->Option R)(T:aB)(fr:Fr)(st:aC)(ρ:ay)(Φ:Ctx)(v:Value)(w':World):Prop:=
 ∃(b:Bool) (ρ':ay) (st':aC) (av:AV),KP b av st'=some r/\aT st.c ρ ρ'/\st.c<=st'.c/\st'.E=st.E/\av.val ρ'=v/\Sat (ab ρ' T st'.G++(ab ρ' T (GX b fr.H)++Φ)) w'/\au ρ' T st.E fr.F=au ρ T st.E fr.F
theorem HH{pp:Pt}{e:List Row}{p:ew (lD pp)}{v:Value}{w':World}{N1:List Nm}{l:eB}{w:iY}
  (t:st.low fr=true) (n:bC st.c e=true) (u:Sem pp v none none [] (fL _ p) l w N1)
  (z:Sat (di l++(ab ρ T e++(ab ρ T (GX b fr.H)++Φ))) w') (h:Kp st pp e (KP b) p=some r):acS r KP T fr st ρ Φ v w':=by
 have m:=sV _ _ _ _ _ _ _ _ _ u;have d:=YG (ρ:=ρ) (c:=st.c) (N:=[]) (B:=[]) (N2:=N1) .nil m rfl;have a:aT st.c ρ (λi=>aA (Nat.blt i st.c) (ρ i) ((N1[i-st.c]?).getD cM)):=λj D=>by
  have:Nat.blt j st.c=true:=by simpa using D
  simp only [this]
 generalize y:(λi=>aA (Nat.blt i st.c) (ρ i) ((N1[i-st.c]?).getD cM))=ρ' at d a;obtain ⟨g,s,q,o,f⟩:=AA (T:=T) pp v none none [] (fL _ p) l w N1 u (Eo _) d (by simp) [];rw [iq,gj] at g s q o f;unfold Kp at h;generalize fill (rG [] st.c) pp none none 0 (fL _ p)=L at g s q o f h;obtain ⟨x,G,k,J,I⟩:=L;simp only at g s q o f;dsimp only at h;have F:=bf (T:=T) a n;have E:=bf (T:=T) a (aoo (b:=b) (aC.cC.1 t).2.2.2);refine ⟨b,ρ',_,x,h,a,qz _ _,rfl,g,?_,mA t a⟩;show Sat (ab ρ' T (G.map (·.2)++e)++(ab ρ' T (GX b fr.H)++Φ)) w';rw [bk,F,E,aO];exact Sat.leL (A:=[]) (B:=di l) (C:=ab ρ T e++(ab ρ T (GX b fr.H)++Φ)) (by simpa using z) f.rw
theorem Ue{pp:Pt}:{pq:Option Pt}->{a:List Row}->{p:Vq pp pq}->{v:Value}->{w':World}->{N1:List Nm}->{d:eB}->{e:iY}->
  st.low fr=true->bC st.c a=true->alo pp pq p v d e N1->Sat (di d++(ab ρ T a++(ab ρ T (GX b fr.H)++Φ))) w'->ajz st pp pq a (KP b) p=some r->acS r KP T fr st ρ Φ v w'
 |none,_,_,_,_,_,_,_,hl,hG,h1,hs,h=>HH hl hG h1 hs h
 |some _,_,.inl _,_,_,_,_,_,hl,hG,h1,hs,h=>HH hl hG h1 hs h
 |some _,_,.inr _,_,_,_,_,_,hl,hG,h1,hs,h=>HH hl hG h1 hs h
theorem ai5{e:bI}{args:List AV}(Z:st.low fr=true)(n:Sat (ab ρ T st.G++(ab ρ T fr.H++Φ)) w)(he:e.Ok P Γg)(l:∀it∈Γg,it∈Φ)(h:ab1 fr st d args e KP K=some (some r)):
  ky P e.f (AV.ao ρ args) w (aV r K T fr st none d ρ Φ) (λc w'=>∃v,c=gO v/\acS r KP T fr st ρ Φ v w'):=by
 have E:=pB (ids:=dO st.G fr.H e.ps args) (aC.cC.1 Z).2.2.1;replace n:=iP (ids:=dO st.G fr.H e.ps args) n;unfold ab1 at h;generalize cm (dO st.G fr.H e.ps args) st.G=a at E n h;have hd:=aiF n (H:=a++fr.H) (λr hr=>List.mem_append.2 ((List.mem_append.1 hr).imp (λh=>List.mem_map_of_mem h) (λh=>qE _ (List.mem_map_of_mem h))));replace hd:Sat (ab ρ T a++(ab ρ T fr.H++(ab ρ T (da (a++fr.H))++Φ))) w:=by exact Sat.swp (P:=ab ρ T a) (Sat.swp (P:=[]) hd)
 have O:=l;replace l:∀it∈Γg,it∈ab ρ T (da (a++fr.H))++Φ:=λit D=>du _ (O it D);generalize M:ab ρ T (da (a++fr.H))++Φ=g at hd l;have hdr:∀{A:Ctx} {w':World},Sat (A++g) w'->Sat (A++Φ) w':=λ{A w'} h=>by rw [<-M] at h;exact Sat.Ki h
 replace n:=hd;split at h
 .rename_i m hm;obtain ⟨h1,h2⟩:=aI h;simp only [ae] at h1;obtain ⟨⟨⟨⟨⟨h3,h4⟩,h5⟩,h6⟩,h7⟩,h9⟩:=h1;split at h2
  .rename_i s Q;simp only [b8] at h2;obtain ⟨N,I,s1,n1,a1⟩:=w7 n e.ps args [] [] [] m [] hm (.inl rfl) .nil;rw [<-AG _ Q] at s1;obtain ⟨p1,p2⟩:=MT n a1;have o:=wv h3;obtain ⟨q1,_⟩:=vR n p1 o;have J:∀(L:vc) (G:List Row) (k:Nat),bC st.c G=true->bC st.c (jA (pj L k G))=true:=λL G=>by
    induction G with
    |nil=>intro k _;rfl
    |cons r G ih=>
     intro k W;simp only [bC,ae] at W;show bC st.c (jA ((aA (jC k L) .gone r)::pj L (k+1) G))=true;cases jC k L
     .cases r <;> first|exact ih (k+1) W.2|(simp only [jA,bC,ae];exact ⟨W.1,ih (k+1) W.2⟩)
     .exact ih (k+1) W.2
   have t:=J (xW a fr.H m.S) a 0 E;have R:∀it∈Γg,it∈iy (m.S.map λx=>dj a fr.H x.2) (ab ρ T a++(ab ρ T fr.H++g)):=λit D=>by
    obtain ⟨k,u⟩:=List.mem_iff_getElem?.1 (l it D);have hk2:(ab ρ T a++(ab ρ T fr.H++g))[a.length+fr.H.length+k]? =some it:=by
     rw [b5 (by simp [ab];omega),b5 (by simp [ab];omega)];have:a.length+fr.H.length+k-(ab ρ T a).length-(ab ρ T fr.H).length=k:=by simp [ab];omega
     rw [this];exact u
    refine pa (i:=a.length+fr.H.length+k) ?_;rw [AB,hk2];intro U;obtain ⟨x,_,hx⟩:=List.mem_map.1 U;have:=PS hx;omega
   have y:=λrr hr=>he.2 s rr hr (AV.ao ρ args) N I (dF ρ m.X) _ w (by simpa only [AV.ao] using s1) q1 R;have j:∀{A:Ctx} {w':World},Sat (A++(eI I++iy (m.S.map λx=>dj a fr.H x.2) (ab ρ T a++(ab ρ T fr.H++g)))) w'->Sat (A++(ab ρ T (jA (pj (xW a fr.H m.S) 0 a))++(ab ρ T fr.H++Φ))) w':=λ{A w'} c4=>by have Y:=F5 p2 o c4;rw [QA a1,BO h4] at Y;have c6:=Dl Y;rw [<-aO (ab ρ T (jA (pj (xW a fr.H m.S) 0 a))),<-aO A] at c6;have c7:=hdr c6;rwa [aO A,aO] at c7
   rcases ail h2 with ⟨p,hq,u⟩|⟨q,hq,u⟩
   .refine (y _ hq).mono (λv w' hv=>?_) (λc w' hv=>?_)
    .obtain ⟨x',q',z,_⟩:=hv;cases z
    .obtain ⟨p',C,v,N1,I1,X1,c1,c2,F⟩:=hv;cases C;refine ⟨v,c1,?_⟩;cases V:e.lp with
     |false=>rw [V] at F u;exact Ue (b:=false) Z t c2 (j F) u
     |true=>
      rw [V] at F u;obtain ⟨A',e1,_⟩:=aol (L:=m.S.map λx=>dj a fr.H x.2) (A:=ab ρ T a++ab ρ T fr.H) (B:=g) (λi hi=>by obtain ⟨x,_,hx⟩:=List.mem_map.1 hi;have:=PS hx;simp only [ab,b9,List.length_map];omega)
      rw [aO] at e1;rw [e1] at F;have Y:Sat (di I1++g) w':=Sat.Ki (A:=A') F;rw [<-M,K9,bk,aO] at Y;exact Ue (b:=true) Z (C3 E) c2 Y u
   .refine (y _ hq).mono (λv w' hv=>?_) (λc w' hv=>?_)
    .obtain ⟨x',q',z,hi,N1,N2,D1,D2,I1,I2,X1,X2,c1,c2,F,c4⟩:=hv;cases z;exact Lb (e:=e.oe) Z t n1 h5 h6 h7 h9 c1 c2 F aB.get_none (j c4) (.inl rfl) (aok hi u)
    .obtain ⟨p',C,_⟩:=hv;cases C
  .cases h2
 .cases h
theorem Lq{f:FuncId}{args:List AV}(j:st.low fr=true)(g:Sat (ab ρ T st.G++(ab ρ T fr.H++Φ)) w)(a:∀it∈Γg,it∈Φ):∀{tp:List bI},(∀e∈tp,e.Ok P Γg)->KO fr st d f args KP K tp=some (some r)->
  Enters P f/\ky P f (AV.ao ρ args) w (aV r K T fr st none d ρ Φ) (λc w'=>∃v,c=gO v/\acS r KP T fr st ρ Φ v w')
 |[],_,h=>by cases h
 |e::tp,htp,h=>by
  unfold KO at h;rcases dq h with ⟨l,b⟩|⟨_,b⟩
  .split at b
   next m i=>cases b;have:=ah l;subst this;exact ⟨(htp e (bj ..)).1,ai5 j g (htp e (bj ..)) a i⟩
   .exact Lq j g a (λe k=>htp e (aW _ k)) b
  .exact Lq j g a (λe k=>htp e (aW _ k)) b
variable {σ : xb} {Q : bu} {D : v7} {ops rest : x5} {tp : List bI}
theorem anr{o:Oper}(h1:eK T st.E fr.F)(U:Sat (ab ρ T st.G++(ab ρ T fr.H++Φ)) w)(M:∀it∈Γg,it∈Φ)(O:∀e∈tp,e.Ok P Γg)
  (h:aic tp T fr st o KP K=some (some r))
  (p:∀st' ρ' w',eK T st'.E fr.F->aT st.c ρ ρ'->st.c<=st'.c->K st'=some r->ab ρ' T fr.H=ab ρ T fr.H->Sat (ab ρ' T st'.G++(ab ρ' T fr.H++Φ)) w'->WL P σ ops.toArray Q fr.n D rest (au ρ' T st'.E fr.F) w')
  (g:∀b v st' ρ' w',aT st.c ρ ρ'->st.c<=st'.c->KP b v st'=some r->st'.E=st.E->au ρ' T st.E fr.F=au ρ T st.E fr.F->Sat (ab ρ' T st'.G++(ab ρ' T (GX b fr.H)++Φ)) w'->At Q (.panic (gO (v.val ρ'))) fr.n D (au ρ' T st'.E fr.F) w'):
  WL P σ ops.toArray Q fr.n D (o::rest) (au ρ T st.E fr.F) w:=by
 obtain ⟨dst,op,ty,pos,af,gd⟩:=o;unfold aic at h;split at h
 .cases h
 rename_i s;simp only at s;subst s;split at h
 .rename_i x j;simp only at j;subst j;split at h
  next t v hx=>have Z:=qa h;have m:=aR (ρ:=ρ) hx;rw [aB.get_none] at m;simp only [AV.val] at m;refine al0 m ?_;have:=g false (.ifc t v) st ρ w .refl (bb _) Z rfl rfl U;simp only [AV.val] at this;exact this
  .cases h
 .rename_i c j;simp only at j;subst j;obtain ⟨A,xs,tys⟩:=c;obtain ⟨xs⟩:=xs;simp only at h;split at h
  .rename_i fo;split at h
   .rename_i f a b R;split at h
    .rename_i vs N;obtain ⟨V,h3⟩:=aI h;simp only [ae] at V;obtain ⟨⟨S,hd⟩,Y⟩:=V;obtain ⟨u,hc⟩:=Lq Y U M O h3;have d:=aR (ρ:=ρ) R;have i:=fN (ρ:=ρ) N;rw [aB.get_none] at d i;simp only [AV.val] at d;have k:AV.ao ρ (a++vs++b)=AV.ao ρ a++AV.ao ρ vs++AV.ao ρ b:=by rw [cZ,cZ]
     have y:∀v w',aV r K T fr st none dst ρ Φ v w'->WL P σ ops.toArray Q fr.n D rest (pb dst true v (au ρ T st.E fr.F)) w':=λv w' hv=>by obtain ⟨ρ',st',av,L,J,I,q,C,B,z,X⟩:=hv;have:=p st' ρ' w' (by rw [q];exact h1.out S none av) J I L z X;rw [q,sT,C,B,aB.get_none] at this;exact this
     have l:∀c w',(∃v,c=gO v/\acS r KP T fr st ρ Φ v w')->At Q (.panic c) fr.n D (au ρ T st.E fr.F) w':=λc w' hv=>by obtain ⟨v,rfl,W,ρ',st',av,L,J,I,q,C,B,z⟩:=hv;have:=g W av st' ρ' w' J I L q z B;rw [C,q,z] at this;exact this
     cases dst with
     |none=>exact aj1 u d i k hc y l
     |some dd=>exact abU u d i k hd hc y l
    .cases h
   .cases h
  .cases h
 .cases h
end
theorem Sat.amm{A B:Ctx}{x:Item}{w:World}(h:Sat (A++x::B) w):Sat (x::(A++B)) w:=by
 refine h.Au (λj k=>(j=0/\k=A.length)\/(0<j/\j<=A.length/\k+1=j)\/(A.length<j/\k=j)) (λj jt a=>?_) (λj k q b d c=>by omega);cases j with
 |zero=>
  simp only [ec,b8] at a;subst a;exact .inr ⟨A.length,x,.inl ⟨rfl,rfl⟩,by simp,bS.refl⟩
 |succ j=>
  simp only [cf] at a;by_cases e:j<A.length
  .rw [cd e] at a;exact .inr ⟨j,jt,.inr (.inl ⟨by omega,by omega,rfl⟩),by rw [cd e];exact a,bS.refl⟩
  .rw [b5 (by omega)] at a;refine .inr ⟨j+1,jt,.inr (.inr ⟨by omega,rfl⟩),?_,bS.refl⟩;rw [b5 (by omega)];have:j+1-A.length=(j-A.length)+1:=by omega
   rw [this,cf];exact a
theorem Sat.aqJ{Γ:Ctx}{it new:Item}{w:World}(h:Sat (it::Γ) w)(a:∀b∈new.own,b∈it.own)(c:∀M',Mv (Ctx.M (it::Γ)) w M' w->new.P M' w):Sat (new::Γ) w:=by have:=h.nd (i:=0) (it:=it) (new:=new) (w':=w) rfl ⟨rfl,rfl,rfl,bb _,λ_ _ _=>rfl⟩ (λb hb=>⟨h.lt (Ctx.AM.2 (.inl (a b hb))),.inl (a b hb)⟩) (λM' m _=>c M' m);simpa using this
def Iv(X:Cx)(T:aB)(fr:Fr)(st:aC)(o:Oper):Option (TypeId×List AV×List AV):=match o.op,o.guard with
 | .alloc t,none=>(match aah X.P t with
  |some cs=>some (t,[],cs)
  |none=>none)
 | .buildSlice t len ps,none=>(match eT X.P t with
  |some e=>(match jS X.P e with
   |some z=>(match oP T st.E fr.F none (ps.toList.map (·.2)) with
    |some vs=>(match yX (λi=>some (i*z.1,z.1)) ((ps.toList.map (·.1)).zip vs) (W5 len (z.2.2.cells.toList.map iU)) with
     |some cs=>aA ( Nat.beq z.2.2.cells.size z.1&&Nat.ble (len*z.1) 16777216&&(Nat.blt 0 (len*z.1)||Nat.beq len 0&&ps.toList.isEmpty) ) (some (e,vs,cs)) none
     |none=>none)
    |none=>none)
   |none=>none)
  |none=>none)
 |_,_=>none
theorem ab2{X:Cx}{T:aB}{fr:Fr}{st:aC}{ρ:ay}{o:Oper}{e:TypeId}{vs cs:List AV}(h:Iv X T fr st o=some (e,vs,cs))(w:World):
  kM X.P (au ρ T st.E fr.F) o w (E6 o w.heap.size) (w.alloc (.cells (AV.ao ρ cs).toArray e)):=by
 obtain ⟨dst,op,ty,pos,af,gd⟩:=o;unfold Iv at h;simp only at h;split at h
 .rename_i t;split at h
  .rename_i p a;cases h;unfold aah at a;split at a
   next z k=>cases a;obtain ⟨n,b,z⟩:=z;have:=IX (P:=X.P) (E:=au ρ T st.E fr.F) (w:=w) (dst:=dst) (ty:=ty) (pos:=pos) (af:=af) (zs:=z.cells.toList) (cE k) (by simp);rw [kP];exact this
   .cases a
  .cases h
 .rename_i t len ps;obtain ⟨ps⟩:=ps;split at h
  .rename_i e' q;split at h
   .rename_i z k;obtain ⟨n,bytes,z⟩:=z;split at h
    .rename_i s m;split at h
     .rename_i p a;obtain ⟨r,v⟩:=aI h;cases v;simp only [ae,c5] at r;obtain ⟨⟨A,y⟩,g⟩:=r;have f:z.cells.size=n:=ah A;have d:=fN (ρ:=ρ) m;rw [aB.get_none] at d;have c:=we (ρ:=ρ) a;rw [B4,RH,kP] at c;rcases g with g|⟨g,u⟩
      .have i:0<n:=by
        have:0<len*n:=by simpa using g
        exact qZ (λe=>by simp [e] at this)
       have j:oR n len z.cells.toList ((ps.map (·.1)).zip (AV.ao ρ vs))=some (AV.ao ρ cs).toArray:=by unfold oR;have l:=Dn z.cells.toList (by simp [f];exact i) len;simp only [ch,f] at l;simp only [ch,f];rw [<-c,<-l]
       exact nT (P:=X.P) (w:=w) (dst:=dst) (ty:=ty) (pos:=pos) (af:=af) (bV q) (cE k) (zs:=z.cells.toList) (by simp) g y d j
      .have x:len=0:=ah g;subst x;have l:ps=[]:=by simpa using u
       subst l;have:cs=[]:=by simp only [List.map_nil,List.zip_nil_left,W5,List.replicate_zero,List.flatten_nil,yX,b8] at a;exact a.symm
       subst this;exact sE (P:=X.P) (E:=au ρ T st.E fr.F) (w:=w) (dst:=dst) (ty:=ty) (pos:=pos) (af:=af) (bV q) (cE k)
     .cases h
    .cases h
   .cases h
  .cases h
 .cases h
def aml{R:Type}(X:Cx)(T:aB)(fr:Fr)(st:aC)(o:Oper)(K:cB R):Option R:=match Iv X T fr st o,o.dst with
 |some p,some d=>(match o.op with
  | .buildSlice _ len _=>(match yR X.tys p.1 with
   |some u=>(match rdL (cm (AV.dZ (.agg p.2.1)++(p.2.1.map AV.dZ).flatten) st.G) fr.H u len p.2.2 with
    |some xs=>aA (st.low fr&&Nat.ble len 9223372036854775807) (K { st with c:=st.c+1,E:=cu (some d) none (.sl st.c) st.E,G:= .own st.c u p.1 xs st.c::cm (AV.dZ (.agg p.2.1)++(p.2.1.map AV.dZ).flatten) st.G }) none
    |none=>none)
   |none=>none)
  |_=>aA (st.low fr&&AV.bX st.c p.2.2) (aii st d p.1 p.2.2 K) none)
 |_,_=>none
section
variable {X : Cx} {R : Type} {r : R} {K : cB R} {T : aB} {fr : Fr} {st : aC} {ρ : ay} {Φ : Ctx} {w : World}
theorem anP{o:Oper}{b:Nat}{e':TypeId}{k:w9}(g:Sat (ab ρ T st.G++(ab ρ T fr.H++(box b e' k::Φ))) w)
  (J:∀e vs cs,Iv X T fr st o=some (e,vs,cs)->e'=e/\k=AV.ao ρ cs) (h:aml X T fr st o K=some r):
  aV r K T fr st none o.dst ρ Φ (E6 o b) w:=by
 obtain ⟨dst,op,ty,pos,af,gd⟩:=o;unfold aml at h;simp only at h;split at h
 .rename_i p d hp;obtain ⟨e,vs,cs⟩:=p;obtain ⟨rfl,rfl⟩:=J _ _ _ hp;split at h
  .rename_i t len ps;split at h
   .rename_i u O;split at h
    .rename_i xs n;obtain ⟨B,A⟩:=aI h;simp only [ae] at B;obtain ⟨s,L⟩:=B;have z:=pB (ids:=AV.dZ (.agg vs)++(vs.map AV.dZ).flatten) (aC.cC.1 s).2.2.1;replace g:=iP (ids:=AV.dZ (.agg vs)++(vs.map AV.dZ).flatten) g;simp only at A;generalize cm (AV.dZ (.agg vs)++(vs.map AV.dZ).flatten) st.G=G at A z g n;obtain ⟨I,F⟩:=Um (ρ:=ρ) (T:=T) g _ _ _ n;have f:Sat ((ab ρ T G++ab ρ T fr.H)++box b e' (AV.ao ρ cs)::Φ) w:=by rw [aO];exact g
     have a:=f.amm;have mv:Mv (Ctx.M (ab ρ T G++(ab ρ T fr.H++(box b e' (AV.ao ρ cs)::Φ)))) w (Ctx.M (box b e' (AV.ao ρ cs)::((ab ρ T G++ab ρ T fr.H)++Φ))) w:=Mv.weaken w λc hc=>by
      obtain ⟨it,hi,hb⟩:=hc;refine ⟨it,?_,hb⟩;simp only [qC,List.mem_append] at hi ⊢;rcases hi with h|(h|h)|h
      .exact .inr (.inr (.inl h))
      .exact .inl h
      .exact .inr (.inl h)
      .exact .inr (.inr (.inr h))
     refine aV.new (ρ':=ρ.set st.c { cM with v:=(some ⟨b,0,none⟩,len,len),y:=⟨.l u,xs⟩ }) (av:= .sl st.c) s A ay.aZ (gy _) rfl (by simp only [AV.val,ay.bB];rfl) ?_;show Sat (ab _ T (_::G)++_) w;have e:=bf (T:=T) (ay.aZ (ρ:=ρ) (j:=st.c) (x:={ cM with v:=(some ⟨b,0,none⟩,len,len),y:=⟨.l u,xs⟩ })) z;rw [ab,cx];rw [ab] at e;rw [e];have hb:eM w b e' (AV.ao ρ cs):=a.at_ (i:=0) rfl;have q:Sat ((Row.own st.c u e' xs st.c).item (ρ.set st.c { cM with v:=(some ⟨b,0,none⟩,len,len),y:=⟨.l u,xs⟩ }) T::((ab ρ T G++ab ρ T fr.H)++Φ)) w:=by
      refine a.aqJ (λc hc=>?_) (λM' m=>?_)
      .simp only [Row.item,ay.bB] at hc;exact AD hc
      .simp only [Row.item,ay.bB];exact ⟨(bK.of (gb.fresh hb I L (F.mv (mv.trans m)))).BA,trivial⟩
     rw [aO] at q;exact q
    .cases h
   .cases h
  .rename_i C;obtain ⟨B,A⟩:=aI h;simp only [ae] at B;obtain ⟨s,E⟩:=B;have f:Sat ((ab ρ T st.G++ab ρ T fr.H)++box b e' (AV.ao ρ cs)::Φ) w:=by rw [aO];exact g
   have a:=f.amm;rw [aO] at a;have N:E6 ⟨some d,op,ty,pos,af,gd⟩ b= .pointer (some ⟨b,0,none⟩):=by
    unfold E6;split
    next D=>exact (C _ _ _ D).elim
    .rfl
   rw [N];refine aV.new (ρ':=ρ.set st.c { cM with b:=b }) (av:= .ptr st.c 0) s A ay.aZ (gy _) rfl (by simp only [AV.val,ay.bB]) ?_;show Sat (ab _ T (_::st.G)++_) w;have e:=bf (T:=T) (ay.aZ (ρ:=ρ) (j:=st.c) (x:={ cM with b:=b })) (aC.cC.1 s).2.2.1;rw [ab,cx];rw [ab] at e;rw [e];simp only [Row.item,ay.bB];rw [AV.bU ay.aZ _ E];exact a
 .cases h
end
variable {o : Oper}
abbrev aik{R:Type}(fr:Fr)(KP:AV->aC->Option R)(T:aB)(v:AV)(st:aC):Option R:=aA (BD T fr st) (KP v (wS T st)) none
def yj{R:Type}(X:Cx)(tb:List aq)(tp:List bI)(KP:Bool->AV->aC->Option R)(ops:x5)(fr:Fr):x5->aB->aC->cB R->Option R
 |[],T,st,K=>aA (BD T fr st) (K (wS T st)) none
 |o::l,T,st,K=>match aic tp T fr st o (λb=>aik fr (KP b) T) (λst=>yj X tb tp KP ops fr l T st K) with
  |some q=>q
  |none=>stepG ops T fr st o λT g=>opD X tb T fr st g o λst=>yj X tb tp KP ops fr l T st K
section
variable {R : Type} {X : Cx} {tb : List aq} {tp : List bI} {KP : Bool -> AV -> aC -> Option R} {b : Bool} {σ : xb} {Q : bu} {D : v7} {ops : x5} {r : R} {fr : Fr} {Φ : Ctx} {K : cB R}
theorem afL{T:aB}{v:AV}{st:aC}{ρ:ay}{w:World}(d:FT T fr)(h:aik fr (KP b) T v st=some r)(j:Sat (ab ρ T st.G++(ab ρ T (GX b fr.H)++Φ)) w):
  ∃st',KP b v st'=some r/\st'.c=st.c/\iT (au ρ [] st'.E fr.F) (au ρ T st.E fr.F)/\Sat (ab ρ [] st'.G++(ab ρ [] (GX b fr.H)++Φ)) w:=by
 unfold aik at h;obtain ⟨e,l⟩:=aI h;have k:BD T ⟨fr.F,GX b fr.H,fr.n⟩ st=true:=by unfold BD at e ⊢;exact e
 obtain ⟨i,g,f⟩:=IL (fr:=⟨fr.F,GX b fr.H,fr.n⟩) k ⟨d.1,λr a=>d.2 r (by
  cases b
  .exact a
  .exact (oT a).1)⟩ j
 exact ⟨_,l,i,g,f⟩
theorem Ix{rest:x5}(g:∀it∈X.Γ,it∈Φ)(m:∀e∈tb,e.Ok X.P X.Γ)(k:∀e∈tp,e.Ok X.P X.Γ):∀{l:x5} {T:aB} {st:aC} {ρ:ay} {w:World},eK T st.E fr.F->na ops fr.n T->FT T fr->Sat (ab ρ T st.G++(ab ρ T fr.H++Φ)) w->
  yj X tb tp KP ops fr l T st K=some r->
  (∀st' ρ' w',aT st.c ρ ρ'->st.c<=st'.c->K st'=some r->Sat (ab ρ' [] st'.G++(ab ρ' [] fr.H++Φ)) w'->WL X.P σ ops.toArray Q fr.n D rest (au ρ' [] st'.E fr.F) w')->
  (∀b v st' ρ' w',aT st.c ρ ρ'->st.c<=st'.c->KP b v st'=some r->Sat (ab ρ' [] st'.G++(ab ρ' [] (GX b fr.H)++Φ)) w'->At Q (.panic (gO (v.val ρ'))) fr.n D (au ρ' [] st'.E fr.F) w')->
  WL X.P σ ops.toArray Q fr.n D (l++rest) (au ρ T st.E fr.F) w
 |[],T,st,ρ,w,h1,h2,p,hs,h,next,pnext=>by
  unfold yj at h;obtain ⟨U,S⟩:=aI h;obtain ⟨C,M,B⟩:=IL U p hs;exact λa p hd=>next _ ρ w .refl (by rw [C];exact bb _) S B a (p.lK M) hd
 |o::l,T,st,ρ,w,h1,h2,p,hs,h,next,pnext=>by
  unfold yj at h;split at h
  .rename_i q R;subst h;refine anr h1 hs g k R (λst' ρ' w' A y i J Y I=>?_) (λz v st' ρ' w' A N L W V y=>?_)
   .exact Ix g m k A h2 p I J (λd f j x u t s=>next d f j (y.trans x i) (cg i u) t s) (λz v d f j x u t s=>pnext z v d f j (y.trans x i) (cg i u) t s)
   .obtain ⟨d,C,M,O,B⟩:=afL p L y;exact (pnext z v d ρ' w' A (by omega) C B).lK _ O
  .exact adB (K:=λT st=>yj X tb tp KP ops fr l T st K) h1 h2 rfl (λ_ h=>h) p hs g m h (λT' st' ρ' w' A N L y i J Y I=>
    Ix g m k A N L I J (λd f j x u t s=>next d f j (y.trans x i) (cg i u) t s) (λz v d f j x u t s=>pnext z v d f j (y.trans x i) (cg i u) t s))
theorem WO(f:∀it∈X.Γ,it∈Φ)(i:∀e∈tb,e.Ok X.P X.Γ)(g:∀e∈tp,e.Ok X.P X.Γ){l:x5}{T:aB}{st:aC}{ρ:ay}{w:World}(o:eK T st.E fr.F)(m:na ops fr.n T)(k:FT T fr)(j:Sat (ab ρ T st.G++(ab ρ T fr.H++Φ)) w)
  (h:yj X tb tp KP ops fr l T st K=some r)
  (d:∀st' ρ' w',aT st.c ρ ρ'->st.c<=st'.c->K st'=some r->Sat (ab ρ' [] st'.G++(ab ρ' [] fr.H++Φ)) w'->At Q .normal fr.n D (au ρ' [] st'.E fr.F) w')
  (a:∀b v st' ρ' w',aT st.c ρ ρ'->st.c<=st'.c->KP b v st'=some r->Sat (ab ρ' [] st'.G++(ab ρ' [] (GX b fr.H)++Φ)) w'->At Q (.panic (gO (v.val ρ'))) fr.n D (au ρ' [] st'.E fr.F) w'):
  WL X.P σ ops.toArray Q fr.n D l (au ρ T st.E fr.F) w:=by
 have:=Ix (σ:=σ) (Q:=Q) (D:=D) (rest:=[]) f i g o m k j h (λst' ρ' w' t s q p=>bT (d st' ρ' w' t s q p)) a;rwa [iq] at this
end
def kb(c:Nat):List AV->List AV×List Row×Nat
 |[]=>([],[],c)
 |v::vs=>match v with
  | .nv u=>match kb c vs with
   |(cs,R,c)=>(.nv u::cs,R,c)
  |v=>match kb (c+1) vs with
   |(cs,R,c')=>(.nv c::cs,.eq c v::R,c')
structure anD(c:Nat)(vs:List AV)(ρ ρ':ay)(x:List AV×List Row×Nat):Prop where
 ag:aT c ρ ρ'
 le:c<=x.2.2
 eq:AV.ao ρ' x.1=AV.ao ρ vs
 lw:AV.bX x.2.2 x.1=true
 rl:bC x.2.2 x.2.1=true
 rp:∀r∈x.2.1,(r.item ρ' []).cF=true/\∀M w,(r.item ρ' []).P M w
 rg:∀r∈x.2.1,r.gd=none
theorem wZ{c d:Nat}(a:c<=d):{G:List Row}->bC c G=true->bC d G=true
 |[],_=>rfl
 |r::G,h=>by simp only [bC,ae] at h ⊢;exact ⟨Row.fe a h.1,wZ a h.2⟩
theorem rF{c:Nat}:{G H:List Row}->bC c G=true->bC c H=true->bC c (G++H)=true
 |[],_,_,h=>h
 |r::G,H,h,k=>by simp only [de,bC,ae] at h ⊢;exact ⟨h.1,rF h.2 k⟩
theorem He:{vs:List AV}->{c:Nat}->{ρ:ay}->AV.bX c vs=true->∃ρ',anD c vs ρ ρ' (kb c vs)
 |[],c,ρ,h=>⟨ρ,.refl,bb _,rfl,rfl,rfl,(λ_ h=>by cases h),λ_ h=>by cases h⟩
 |v::vs,c,ρ,h=>by
  simp only [AV.bX,ae] at h;have a:(∀u,v≠ .nv u)->kb c (v::vs)=(match kb (c+1) vs with|(cs,R,f)=>(.nv c::cs,.eq c v::R,f))->∃ρ',anD c (v::vs) ρ ρ' (kb c (v::vs)):=λ_ e=>by
   have g:aT c ρ (ρ.set c { cM with x:=v.val ρ }):=ay.aZ;obtain ⟨ρ',l⟩:=He (c:=c+1) (ρ:=ρ.set c { cM with x:=v.val ρ }) (AV.jr (gy c) _ h.2);rw [e];generalize kb (c+1) vs=L at l;obtain ⟨cs,R,f⟩:=L;have d:aT c ρ ρ':=g.trans l.ag (gy _);have hx:(ρ' c).x=v.val ρ:=by rw [l.ag _ (qh _),ay.bB]
   have i:c+1<=f:=l.le;refine ⟨ρ',d,cg (gy _) l.le,?_,?_,?_,?_,?_⟩
   .simp only [AV.ao,AV.val,hx];rw [l.eq,AV.bU g _ h.2]
   .simp only [AV.bX,AV.low,ae,e9];exact ⟨by omega,l.lw⟩
   .simp only [bC,Row.low,ae,e9];exact ⟨⟨by omega,AV.fe (by omega) _ h.1⟩,l.rl⟩
   .intro r b;rcases List.mem_cons.1 b with rfl|b
    .exact ⟨rfl,λM w=>by show (ρ' c).x=v.val ρ';rw [hx,AV.kz d _ h.1]⟩
    .exact l.rp r b
   .intro r b;rcases List.mem_cons.1 b with rfl|b
    .rfl
    .exact l.rg r b
  cases v with
  |nv u=>
   obtain ⟨ρ',l⟩:=He (c:=c) (ρ:=ρ) h.2;unfold kb;dsimp only;generalize kb c vs=L at l;obtain ⟨cs,R,f⟩:=L;refine ⟨ρ',l.ag,l.le,?_,?_,l.rl,l.rp,l.rg⟩
   .simp only [AV.ao];rw [l.eq,AV.kz l.ag _ h.1]
   .simp only [AV.bX,ae];exact ⟨AV.fe l.le _ h.1,l.lw⟩
  |_=>exact a (λu h=>by cases h) rfl
def ajA{R:Type}(X:Cx)(T:aB)(fr:Fr)(st:aC)(g:GK)(op:Op)(dst:xc)(K:cB R):Option R:=match op,dst with
 | .indexAddr t x y,some d=>(match eT X.P t with
  |some _=>ahw X T fr st g d t x y K
  |none=>(match br T st.E fr.F g x with
   |some (.gp _)=>aaa X T fr st g d t x y K
   |_=>gone g (agW X T fr st d t x y K)))
 | .slice t x lo hi mx,some d=>(match br T st.E fr.F g x with
  |some (.gp _)=>gone g (XF X T fr st d t x lo hi mx K)
  |_=>acs X T fr st g d t x lo hi mx K)
 | .call ⟨.builtin .unsafeSliceData,⟨[x]⟩,_⟩,some d=>gone g (aam T fr st d x K)
 | .call ⟨.builtin .len,⟨[x]⟩,⟨[t]⟩⟩,some d=>agG X T fr st g d t x K
 |_,_=>none
def adD{R:Type}(X:Cx)(T:aB)(fr:Fr)(st:aC)(g:GK)(o:Oper)(K:cB R):Option R:=
 match agL X T st.E fr.F g o.op with
 |some cv=>Ih cv.1 (g.map λ_=>T.get g) (K { st with E:=cu o.dst g cv.2 st.E })
 |none=>match ahx X T st.E fr.F [] fr.H g o.op with
  |some cv=>Ih cv.1 (g.map λ_=>T.get g) (K { st with E:=cu o.dst g cv.2 st.E })
  |none=>aA (st.low fr) (ajA X T fr st g o.op o.dst K) none
def bq(p:Row->Bool):List Row->List Row
 |[]=>[]
 |r::G=>aA (p r) (r::bq p G) (bq p G)
def cR(r:Row):Bool:= !r.cF
theorem Sat.wJ{w:World}{B:Ctx}:∀{A:Ctx},Sat (A++B) w->Sat B w
 |[],h=>h
 |_x::A,h=>Sat.wJ (A:=A) (Sat.An (A:=[]) h)
section
variable {ρ : ay} {T : aB} {w : World}
theorem oN{p:Row->Bool}{H:List Row}{Φ:Ctx}:∀{G:List Row} {A:Ctx},Sat (A++(ab ρ T G++(ab ρ T H++Φ))) w->Sat (A++(ab ρ T (bq p G)++(ab ρ T (bq (λr=> !(p r)) G++H)++Φ))) w
 |[],_,h=>h
 |r::G,A,h=>by
  unfold bq;cases hp:p r
  .have b:Sat ((A++[r.item ρ T])++(ab ρ T G++(ab ρ T H++Φ))) w:=by simpa [ab] using h
   have a:=oN (p:=p) (G:=G) b;have c:Sat (A++r.item ρ T::(ab ρ T (bq p G)++(ab ρ T (bq (λr=> !(p r)) G++H)++Φ))) w:=by simpa using a
   exact c.move
  .have b:Sat ((A++[r.item ρ T])++(ab ρ T G++(ab ρ T H++Φ))) w:=by simpa [ab] using h
   have a:=oN (p:=p) (G:=G) b;simpa [ab] using a
end
abbrev mR(fr:Fr)(A:List Row)(st:aC):Fr:=⟨fr.F,bq (λr=> !(cR r)) st.G++(A++fr.H),fr.n⟩
abbrev stM(st:aC):aC:={ st with G:=bq cR st.G }
abbrev uG:=Nat×Nat×Nat×x8
def Nh:List AV->Option x8
 |[]=>some []
 |v::l=>(match v with
  | .nv u=>(match Nh l with
   |some us=>some (u::us)
   |none=>none)
  |_=>none)
def acz:List AV->x8->Bool
 |_,[]=>true
 |l,n::ns=>(match l with
  | .nv u::l=>Nat.beq u n&&acz l ns
  |_=>false)
def Lr(G:List Row):List uG->Bool
 |[]=>true
 |x::Pd=>(match mG (wO x.2.1) G with
  |some (_,.box _ _ cs)=> !(Nat.beq x.2.2.1 1000000000)&&acz (cs.drop x.2.2.1) x.2.2.2
  |_=>false)&&Lr G Pd
def pdF(G:List Row):List uG->Bool
 |[]=>true
 |x::Pd=>(Nat.beq x.2.2.1 1000000000||(match mG (wO x.2.1) G with
  |some (_,.box _ _ cs)=> !(Nat.beq x.2.2.1 1000000000)&&acz (cs.drop x.2.2.1) x.2.2.2
  |_=>false))&&pdF G Pd
def eO(ops:x5)(k:Nat):List uG->List uG
 |[]=>[]
 |x::Pd=>aA (waits .any ops.toArray k x.1) (eO ops k Pd) (x::eO ops k Pd)
def szA(P:Program)(t:TypeId):xb:=match P.underlying t with
 |some d=>aA (jm d) (match jS P t with
  |some z=>some z.1
  |none=>none) (some 1)
 |none=>none
def aia{R:Type}(X:Cx)(T:aB)(fr:Fr)(st:aC)(g:GK)(k:Nat)(o:Oper)(K:List Row->uG->aC->Option R):Option (Option R):=match o.op,o.dst with
 | .load t x,some d=>(match br T st.E fr.F g x with
  |some (.ptr id off)=>(match mG (wO id) st.G with
   |some (j,.box _ bt cs)=>some (match szA X.P t with
    |some n=>(match jY X.P t ((cs.drop off).map (sA st.G fr.H)) with
     |some v=>(match Nh (kb st.c ((cs.drop off).take n)).1 with
      |some us=>aA (st.low fr&&v.low st.c&&Nat.ble (off+n) cs.length&& !(Nat.beq off 1000000000)) (
        K (kb st.c ((cs.drop off).take n)).2.1 (k,id,off,us) { st with c:=(kb st.c ((cs.drop off).take n)).2.2,E:=cu (some d) g v st.E,G:=st.G.set j (.box id bt (tq cs off (kb st.c ((cs.drop off).take n)).1)) } ) none
      |none=>none)
     |none=>none)
    |none=>none)
   |_=>none)
  |_=>none)
 |_,_=>none
def anA(T:aB)(fr:Fr)(st:aC)(g:GK)(o:Oper):Option (Tmp×TypeId×Nat×Nat):=match o.op,o.dst with
 | .load t x,some d=>(match br T st.E fr.F g x with
  |some (.adr q off)=>(match xt T [] fr.H g (.adr q off) with
   |some _=>none
   |none=>(match dH st.G fr.H (Qs q) with
    |some _=>some (d,t,q,off)
    |none=>none))
  |_=>none)
 |_,_=>none
def MP{R:Type}(X:Cx)(tb:List aq)(tp:List bI)(KP:AV->aC->Option R)(ops:x5)(fr:Fr)(A:List Row)(T:aB)(st:aC)(o:Oper)(K:aB->cB R):Option R:=
 match aic tp T (mR fr A st) (stM st) o (λb v st'=>aA b none (aik fr KP T v { st' with G:=st'.G++(bq (λr=> !(cR r)) st.G++A) })) (K T) with
 |some q=>q
 |none=>stepG ops T (mR fr A st) (stM st) o λT g=>opD X tb T (mR fr A st) (stM st) g o (K T)
def aqk(X:Cx)(T:aB)(fr:Fr)(st:aC)(ops:x5)(k:Nat)(fl:x8)(rest:OT)(f:Nat):Bool:=(match ops[f]? with
 |some o=>(match Iv X T fr st o,o.dst with
  |some _,some d=>ix o&&Nat.blt d fr.n&&(match dC st.E fr.F d with|some _=>false|none=>true)&&(o.looksAt ops.toArray).all (λt=> !(Nat.beq t d))
  |_,_=>false)
 |none=>false)&&(k::rest.ops).all (λj=>nW ops.toArray j f)&&(fl++rest.Sg).all (λj=>Nat.beq j f||nW ops.toArray j f)
def agt{R:Type}(X:Cx)(ops:x5)(fr:Fr)(T:aB):x8->aC->cB R->Option R
 |[],st,K=>K st
 |f::fs,st,K=>(match ops[f]? with
  |some o=>aA (mf o.dst T&& !(dh f fs)) (aml X T fr st o λst=>agt X ops fr T fs st K) none
  |none=>none)
abbrev frA(fr:Fr)(A:List Row):Fr:=⟨fr.F,A++fr.H,fr.n⟩
def nu{R:Type}(X:Cx)(tb:List aq)(tp:List bI)(KP:AV->aC->Option R)(ops:x5)(fr:Fr):OT->List Row->List uG->aB->aC->cB R->Option R
 | .nil,A,_,T,st,K=>aA (BD T fr { st with G:=st.G++A }) (K (wS T { st with G:=st.G++A })) none
 | .q k _ rest,A,Pd,T,st,K=>(match ops[k]? with
  |some o=>stepG ops T (mR fr A st) (stM st) o λT g=>match aia X T (mR fr A st) (stM st) g k o (λR p st'=>nu X tb tp KP ops fr rest (R++(bq (λr=> !(cR r)) st.G++A)) (p::Pd) T st' K) with
   |some q=>q
   |none=>(match anA T (mR fr A st) (stM st) g o with
    |some p=>aA ((stM st).low (mR fr A st)) (UC X T (mR fr A st) (stM st) g p.1 p.2.1 p.2.2.1 p.2.2.2 λst'=>nu X tb tp KP ops fr rest (bq (λr=> !(cR r)) st.G++A) ((k,p.2.2.1,1000000000,[])::Pd) T st' K) none
    |none=>adD X T (mR fr A st) (stM st) g o λst'=>nu X tb tp KP ops fr rest (bq (λr=> !(cR r)) st.G++A) Pd T st' K)
  |none=>none)
 | .l k _ rest,A,Pd,T,st,K=>(match ops[k]? with
  |some o=>MP X tb tp KP ops fr A T st o λT st'=>aA (Lr st'.G (eO ops k Pd)) (nu X tb tp KP ops fr rest (bq (λr=> !(cR r)) st.G++A) (eO ops k Pd) T st' K) none
  |none=>none)
 | .l2 _ k₁ r₁ k₂ r₂,A,Pd,T,st,K=>both
  (match ops[k₁]? with
  |some o=>MP X tb tp KP ops fr A T st o λT st'=>aA (Lr st'.G (eO ops k₁ Pd)) (nu X tb tp KP ops fr r₁ (bq (λr=> !(cR r)) st.G++A) (eO ops k₁ Pd) T st' K) none
  |none=>none)
  (match ops[k₂]? with
  |some o=>MP X tb tp KP ops fr A T st o λT st'=>aA (Lr st'.G (eO ops k₂ Pd)) (nu X tb tp KP ops fr r₂ (bq (λr=> !(cR r)) st.G++A) (eO ops k₂ Pd) T st' K) none
  |none=>none)
 | .f k _ fl fs rest,A,Pd,T,st,K=>aA (fl.all (aqk X T (frA fr A) st ops k fl rest)&&pdF st.G Pd) (agt X ops (frA fr A) T fs st λst=>(match ops[k]? with
  |some o=>MP X tb tp KP ops fr A T st o λT st'=>aA (Lr st'.G (eO ops k Pd)) (nu X tb tp KP ops fr rest (bq (λr=> !(cR r)) st.G++A) (eO ops k Pd) T st' K) none
  |none=>none)) none
section
variable {R : Type} {X : Cx} {tb : List aq} {tp : List bI} {KP : AV -> aC -> Option R} {σ : xb} {Q : bu} {D : v7} {ops : x5} {r : R} {fr : Fr} {Φ : Ctx} {K : cB R}
theorem akh{T:aB}{st:aC}{g:GK}{ρ:ay}{w:World}(i:∀it∈X.Γ,it∈Φ)(m:eK T st.E fr.F)(e:Sat (ab ρ T st.G++(ab ρ T fr.H++Φ)) w)(h:adD X T fr st g o K=some r):
  ∃(v:Value) (J:World->Prop),(∀w',(∃c,Sat (ab ρ T fr.H++c) w')->J w')/\(∀w',J w'->bg X.P (au ρ T st.E fr.F) (T.get g) o w' v)/\aV r K T fr st g o.dst ρ Φ v w:=by
 obtain ⟨dst,op,ty,pos,af,gd⟩:=o;unfold adD at h;simp only at h;have b:∀{O:Value->World->Prop},KH X.P T g (au ρ T st.E fr.F) ⟨dst,op,ty,pos,af,gd⟩ w O->∃(v:Value) (J:World->Prop),(∀w',(∃c,Sat (ab ρ T fr.H++c) w')->J w')/\(∀w',J w'->bg X.P (au ρ T st.E fr.F) (T.get g) ⟨dst,op,ty,pos,af,gd⟩ w' v)/\O v w:=λh=>by obtain ⟨v,d,a⟩:=h;exact ⟨v,λ_=>True,λ_ _=>trivial,λw' _=>d w',a⟩
 split at h
 next cv f=>obtain ⟨d,a⟩:=oy h;exact b ⟨_,λw'=>abP m f d,aV.iu a (bb _) rfl rfl e⟩
 .split at h
  next cv f=>obtain ⟨d,a⟩:=oy h;refine ⟨_,λw'=>∃c,Sat (ab ρ T fr.H++c) w',λ_ h=>h,λw' l=>?_,aV.iu a (bb _) rfl rfl e⟩;obtain ⟨c,k⟩:=l;exact abN (G:=[]) (Φ:=c) k f d
  .obtain ⟨d,a⟩:=aI h;unfold ajA at a;split at a
   .split at a
    .exact b (afo d e a)
    .split at a
     .exact b (ab5 d i e a)
     .obtain ⟨rfl,j⟩:=cN a;exact b (afs e j)
   .split at a
    .obtain ⟨rfl,j⟩:=cN a;exact b (aoW d i e j)
    .exact b (VR d e a)
   .obtain ⟨rfl,j⟩:=cN a;exact b (aaA d e j)
   .exact b (alJ e a)
   .cases a
def BF(ρ:ay)(x:uG)(w:World):Prop:=Nat.beq x.2.2.1 1000000000=false/\∃cs t,eM w (ρ x.2.1).b t cs/\(cs.drop x.2.2.1).take x.2.2.2.length=x.2.2.2.map λu=>(ρ u).x
def aip(c:Nat)(Pd:List uG):Prop:= ∀x,x∈Pd->x.2.1<c/\∀u,u∈x.2.2.2->u<c
theorem BL{ρ ρ':ay}{c:Nat}(ha:aT c ρ ρ'){x:uG}(hx:x.2.1<c/\∀u,u∈x.2.2.2->u<c){w:World}:BF ρ' x w↔BF ρ x w:=by
 unfold BF;rw [ha _ hx.1];have:(x.2.2.2.map λu=>(ρ' u).x)=x.2.2.2.map λu=>(ρ u).x:=qw λu a=>by rw [ha _ (hx.2 u a)]
 rw [this]
theorem XQ{ρ:ay}:∀{l:List AV} {us:x8},acz l us=true->(AV.ao ρ l).take us.length=us.map λu=>(ρ u).x
 |l,[],_=>by simp
 |l,n::ns,h=>by
  unfold acz at h;split at h
  next u l'=>simp only [ae] at h;have e:=ah h.1;subst e;simp only [AV.ao,AV.val,eb,qU,cx];rw [XQ h.2]
  .cases h
theorem UQ{ρ:ay}:∀{l:List AV} {us:x8},Nh l=some us->AV.ao ρ l=us.map (λu=>(ρ u).x)/\us.length=l.length
 |[],us,h=>by cases h;simp [AV.ao]
 |v::l,us,h=>by
  unfold Nh at h;split at h
  .rename_i u;split at h
   next b a=>cases h;obtain ⟨d,c⟩:=UQ (ρ:=ρ) a;simp [AV.ao,AV.val,d,c]
   .cases h
  .cases h
theorem Yz{c:Nat}:∀{l:List AV} {us:x8},Nh l=some us->AV.bX c l=true->∀u,u∈us->u<c
 |[],us,h,_,u,a=>by cases h;cases a
 |v::l,us,h,hl,u,a=>by
  unfold Nh at h;split at h
  .rename_i u';split at h
   .rename_i d b;cases h;simp only [AV.bX,AV.low,ae,e9] at hl;rcases List.mem_cons.1 a with rfl|a
    .exact hl.1
    .exact Yz b hl.2 u a
   .cases h
  .cases h
theorem ac5{ρ:ay}{T:aB}{G:List Row}{B:Ctx}{w:World}(c:Sat (ab ρ T G++B) w):∀{Pd:List uG},Lr G Pd=true->∀x,x∈Pd->BF ρ x w
 |[],_,x,hx=>by cases hx
 |y::Pd,h,x,hx=>by
  simp only [Lr,ae] at h;rcases List.mem_cons.1 hx with rfl|hx
  .have a:=h.1;split at a
   next j id t cs d=>obtain ⟨f,e⟩:=kL d;have:id=x.2.1:=ah e;subst this;have hb:eM w (ρ x.2.1).b t (AV.ao ρ cs):=c.at_ (fi f);simp only [ae] at a;refine ⟨by simpa using a.1,_,t,hb,?_⟩;rw [<-AV.gC];exact XQ a.2
   .cases a
  .exact ac5 c h.2 x hx
theorem aiM{ρ:ay}{T:aB}{G:List Row}{B:Ctx}{w:World}(b:Sat (ab ρ T G++B) w):∀{Pd:List uG},pdF G Pd=true->∀x,x∈Pd->BF ρ x w\/Nat.beq x.2.2.1 1000000000=true
 |[],_,x,hx=>by cases hx
 |y::Pd,h,x,hx=>by
  simp only [pdF,ae,c5] at h;rcases List.mem_cons.1 hx with rfl|hx
  .rcases h.1 with a|a
   .exact .inr a
   .exact .inl (ac5 b (Pd:=[x]) (by simp only [Lr,ae];exact ⟨a,trivial⟩) x (bj ..))
  .exact aiM b h.2 x hx
theorem ur{k:Nat}:∀{Pd:List uG} {x:uG},x∈eO ops k Pd↔x∈Pd/\waits .any ops.toArray k x.1=false
 |[],x=>by simp [eO]
 |y::Pd,x=>by
  unfold eO;cases c:waits .any ops.toArray k y.1
  .show x∈y::eO ops k Pd↔_;rw [qC,qC,ur];constructor
   .rintro (rfl|⟨b,a⟩)
    .exact ⟨.inl rfl,c⟩
    .exact ⟨.inr b,a⟩
   .rintro ⟨rfl|b,a⟩
    .exact .inl rfl
    .exact .inr ⟨b,a⟩
  .show x∈eO ops k Pd↔_;rw [qC,ur];constructor
   .rintro ⟨b,a⟩;exact ⟨.inr b,a⟩
   .rintro ⟨rfl|b,a⟩
    .rw [c] at a;cases a
    .exact ⟨b,a⟩
theorem afx{pend:ej}{w:World}(h:∀p,p∈pend->p.2 w):fU pend w:=by
 induction pend with
 |nil=>trivial
 |cons p l ih=>exact ⟨h p (bj ..),ih λq a=>h q (aW _ a)⟩
theorem an0{P:Program}{ρ:ay}{Ev:Env}{g:Bool}{t:TypeId}{n:Nat}{l:List AV}{v:AV}{p:Addr}{w:World}{dst:xc}{ty:TypeId}{pos:String}{af:x3}{gd:Option (Nat×Bool)}
  (hx:ar Ev g x (.pointer (some p))) (j:szA P t=some n) (hv:jY P t l=some v) (q:n<=l.length) (hc:bM w p ((AV.ao ρ l).take n)):bg P Ev g ⟨dst,.load t x,ty,pos,af,gd⟩ w (v.val ρ):=by
 have s:jY P t (l.drop 0)=some v:=by simpa using hv
 obtain ⟨d,n',bytes,z,c1,u,b⟩:=mm (X:=⟨P,[],[],[],(λ_ h=>nomatch h),0,[],[],(λ_ h=>nomatch h),[]⟩) (ρ:=ρ) s;have c1:P.underlying t=some d:=c1;unfold szA at j;rw [c1] at j;rcases dq j with ⟨hd,i⟩|⟨hd,i⟩
 .split at i
  .rename_i k c;obtain ⟨m,y,k⟩:=k;cases i;unfold jY at hv;rw [c1] at hv;rcases dq hv with ⟨_,f⟩|⟨f,_⟩
   .rw [c] at f;obtain ⟨_,r⟩:=aI f;cases r;simp only [AV.val,AV.ju];exact Lg c1 hd (cE c) hx (λ_=>hc) (by rw [b0,AV.bm];exact c8 q)
   .rw [hd] at f;cases f
  .cases i
 .cases i;rw [hd] at b;simp only [oi,qF] at b;refine LW c1 hd hx (λ_=>?_);have e:(AV.ao ρ l).take 1=[v.val ρ]:=by
   cases o:AV.ao ρ l with
   |nil=>rw [o] at b;cases b
   |cons a l=>rw [o] at b;cases b;rfl
  rw [e] at hc;exact hc
theorem aeH{l:w9}{off n:Nat}(h:off+n<=l.length):mW l off ((l.drop off).take n)=l:=by
 unfold mW;have b:((l.drop off).take n).length=n:=by rw [b0,cq];omega
 rw [b];have a:(l.drop off).take n++l.drop (off+n)=l.drop off:=by rw [<-mj,qO]
 rw [aO,a,qO]
theorem al6{T:aB}{st:aC}{g:GK}{k:Nat}{ρ:ay}{w:World}{KQ:List Row->uG->aC->Option R}(hs:Sat (ab ρ T st.G++(ab ρ T fr.H++Φ)) w)(h:aia X T fr st g k o KQ=some (some r)):
  ∃(v:Value) (ρ':ay) (st':aC) (av:AV) (z:List Row) (p:uG),KQ z p st'=some r/\aT st.c ρ ρ'/\st.c<=st'.c/\st'.E=cu o.dst g av st.E/\av.val ρ'=v/\au ρ' T st.E fr.F=au ρ T st.E fr.F/\ab ρ' T fr.H=ab ρ T fr.H/\
   Sat (ab ρ' T st'.G++(ab ρ' T (z++fr.H)++Φ)) w/\p.1=k/\BF ρ' p w/\(p.2.1<st'.c/\∀u,u∈p.2.2.2->u<st'.c)/\(∀w',BF ρ' p w'->bg X.P (au ρ T st.E fr.F) (T.get g) o w' v):=by
 obtain ⟨dst,op,ty,pos,af,gd⟩:=o;unfold aia at h;simp only at h;split at h
 .rename_i t x d;split at h
  .rename_i id off hx;split at h
   .rename_i j s N cs hf;simp only [b8] at h;split at h
    .rename_i n hn;split at h
     .rename_i v hv;split at h
      .rename_i us I;obtain ⟨Z,h2⟩:=aI h;simp only [ae,Nat.ble_eq] at Z;obtain ⟨⟨⟨hl,hvl⟩,hle⟩,hmk⟩:=Z;obtain ⟨l1,l2,l3,l4⟩:=aC.cC.1 hl;obtain ⟨f1,f2⟩:=kL hf;have:s=id:=ah f2;subst this;have y:j<st.G.length:=(List.getElem?_eq_some_iff.1 f1).1;have f:=pz l3 f1;simp only [Row.low,ae,e9] at f;have S:∀{l:List AV} {c m q:Nat},AV.bX c l=true->AV.bX c ((l.drop m).take q)=true:=λ{l c m q} h=>by
        have dr:∀(l:List AV) (m:Nat),AV.bX c l=true->AV.bX c (l.drop m)=true:=λl=>by
         induction l with
         |nil=>intro m h;simp [AV.bX]
         |cons a l ih=>
          intro m h;cases m with
          |zero=>exact h
          |succ m=>simp only [AV.bX,ae] at h;exact ih m h.2
        have tk:∀(l:List AV) (m:Nat),AV.bX c l=true->AV.bX c (l.take m)=true:=λl=>by
         induction l with
         |nil=>intro m h;simp [AV.bX]
         |cons a l ih=>
          intro m h;cases m with
          |zero=>rfl
          |succ m=>simp only [AV.bX,ae,qU] at h ⊢; exact ⟨h.1,ih m h.2⟩
        exact tk _ _ (dr _ _ h)
       obtain ⟨ρ',D⟩:=He (ρ:=ρ) (S (m:=off) (q:=n) f.2);obtain ⟨i1,i2⟩:=UQ (ρ:=ρ') I;have V:=Yz I D.lw;generalize kb st.c ((cs.drop off).take n)=L at h2 D I i1 i2 V;obtain ⟨ls,z,c'⟩:=L;have Y:st.c<=c':=D.le;have i:aT st.c ρ ρ':=D.ag;have K:AV.ao ρ' ls=AV.ao ρ ((cs.drop off).take n):=D.eq;have hb:eM w (ρ s).b N (AV.ao ρ cs):=hs.at_ (fi f1);have W:AV.ao ρ' cs=AV.ao ρ cs:=AV.bU i _ f.2;have Q:v.val ρ'=v.val ρ:=AV.kz i _ hvl;have C:us.length=n:=by
        have e1:(AV.ao ρ' ls).length=n:=by rw [K,AV.bm,b0,cq];omega
        rw [i2,<-AV.bm (ρ:=ρ') (l:=ls)];exact e1
       have eG:=bf (T:=T) i l3;have eH:=bf (T:=T) i l4;have e3:(us.map λu=>(ρ' u).x)=((AV.ao ρ cs).drop off).take n:=by rw [<-i1,K,AV.ju,AV.gC]
       refine ⟨v.val ρ,ρ',_,v,z,(k,s,off,us),h2,i,Y,rfl,Q,mA hl i,eH,?_,rfl,⟨by simpa using hmk,AV.ao ρ cs,N,?_,?_⟩,⟨dk f.1 Y,V⟩,λw' hw=>?_⟩
       .show Sat (ab ρ' T (st.G.set j _)++(ab ρ' T (z++fr.H)++Φ)) w;rw [eU y,eG];have e4:(Row.box s N (tq cs off ls)).item ρ' T=(Row.box s N cs).item ρ T:=by simp only [Row.item];rw [i _ f.1,<-wY,W,K,AV.ju,AV.gC,aeH (by rw [AV.bm];exact hle)]
        have hi:=fi (ρ:=ρ) (T:=T) (Φ:=ab ρ' T (z++fr.H)++Φ) f1;have e5:(ab ρ T st.G++(ab ρ' T (z++fr.H)++Φ)).set j ((Row.box s N (tq cs off ls)).item ρ' T)=ab ρ T st.G++(ab ρ' T (z++fr.H)++Φ):=by
         rw [e4];apply qp;intro q;by_cases hq:q=j
         .subst hq;rw [qA (List.getElem?_eq_some_iff.1 hi).1,hi]
         .rw [qm (λh=>hq h.symm)]
        rw [e5,bk,eH,aO];have ins:∀(L:List Item) (A B:Ctx),Sat (A++B) w->(∀it∈L,it.own=[]/\∀M w,it.P M w)->Sat (A++(L++B)) w:=λL=>by
         induction L with
         |nil=>intro A B h _;exact h
         |cons x L ih=>
          intro A B h hL;have Z:=ih A B h (λit J=>hL it (aW _ J));have hx:=hL x (bj ..);refine Z.Au (λj k=>(j<A.length/\k=j)\/(A.length<j/\k+1=j)) (λj jt y=>?_) (λj k q hjk Z h2=>by omega);by_cases e:j<A.length
          .rw [cd e] at y;exact .inr ⟨j,jt,.inl ⟨e,rfl⟩,by rw [cd e];exact y,bS.refl⟩
          .rw [b5 (by omega)] at y;by_cases e2:j=A.length
           .subst e2;simp at y;subst y;exact .inl hx
           .refine .inr ⟨j-1,jt,.inr ⟨by omega,by omega⟩,?_,bS.refl⟩;rw [b5 (by omega)];have:j-A.length=(j-1-A.length)+1:=by omega
            rw [this,de,cf] at y;exact y
        refine ins (ab ρ' T z) (ab ρ T st.G) (ab ρ T fr.H++Φ) hs (λit J=>?_);obtain ⟨ni,U,rfl⟩:=List.mem_map.1 J;have h9:=D.rp ni U;have h10:ni.item ρ' T=ni.item ρ' []:=by have hgd:ni.gd=none:=D.rg ni U;exact Row.B7 (by rw [hgd,aB.get_none,aB.get_none])
        rw [h10];exact ⟨(ni.item ρ' []).hp h9.1,h9.2⟩
       .show eM w (ρ' s).b N _;rw [i _ f.1];exact hb
       .show ((AV.ao ρ cs).drop off).take us.length=us.map λu=>(ρ' u).x;rw [C,e3]
       .obtain ⟨_,csv,t2,b1,b2⟩:=hw;have b1:eM w' (ρ' s).b t2 csv:=b1;have b2:(csv.drop off).take us.length=us.map λu=>(ρ' u).x:=b2;rw [i _ f.1] at b1;rw [C,e3] at b2;have O:=aR (ρ:=ρ) hx;simp only [AV.val] at O;have e6:AV.ao ρ ((cs.drop off).map (sA st.G fr.H))=(AV.ao ρ cs).drop off:=by rw [LO hs,AV.gC]
        refine an0 O hn hv (by rw [List.length_map,cq];omega) ?_;rw [e6];refine b1.part off ?_;have:(((AV.ao ρ cs).drop off).take n).length=n:=by rw [b0,cq,AV.bm];omega
        rw [this];exact b2
      .cases h
     .cases h
    .cases h
   .cases h
  .cases h
 .cases h
theorem Lw{e:OT}{k mk_:Nat}{pend:ej}{EV:List pL}{T T':aB}{g:GK}{fr1:Fr}{st1:aC}{ρ:ay}{w:World}{v:Value}{J:World->Prop}(y:fr1.n=fr.n)(p:aiH ops fr fr1 st1 ρ o T T' g)(B:ops[k]? =some o)(t:∀x∈EV,nW ops.toArray k x.1=true)(i:J w)
  (r:∀w',J w'->bg X.P (au ρ T' st1.E fr1.F) (T'.get g) o w' v) (c:DO X.P σ ops.toArray Q fr.n D e EV ((k,J)::pend) (pb o.dst (T'.get g) v (au ρ T' st1.E fr1.F)) w):
  DO X.P σ ops.toArray Q fr.n D (.q k mk_ e) EV pend (au ρ T' st1.E fr1.F) w:=by
 have m:ops.toArray[k]? =some o:=by simpa using B
 have f:=p.ds;rw [y] at f;intro a d u C;have j:∀v,∀x∈EV,sI X.P ops.toArray (a.put o.dst v) x:=λv x hx=>(C x hx).put m (t x hx);simp only [gZ,m];cases s:g with
 |none=>
  subst s;rw [aB.get_none] at r c;refine ⟨v,J,i,.inl ⟨by simp [Region.wanted,p.gg],λw' h=>r w' h _ a d rfl⟩,?_⟩;exact c _ (d.pb f) (by rw [il];exact u) (j _)
 |some gk=>
  obtain ⟨rj,par,b,I,H,A,G⟩:=p.gk gk s;rw [y] at A;subst s;have l:=DU (ops:=ops.toArray) p.gg (by simpa using I) H d A;rw [G] at l;cases z:T'.get (some gk)
  .rw [z] at l c;refine ⟨undef,J,i,.inr ⟨l,rfl⟩,?_⟩;exact c _ (d.pb (g:=false) (v:=v) f) (by rw [il];exact u) (j _)
  .rw [z] at l r c;refine ⟨v,J,i,.inl ⟨l,λw' h=>r w' h _ a d rfl⟩,?_⟩;exact c _ (d.pb f) (by rw [il];exact u) (j _)
theorem aps{G H:List Row}{s:Src}{ni:Row}{q c:Nat}(h:s.at_ G H ni)(b:Qs q ni=true)(j:bC c G=true)(g:bC c H=true):q<c:=by
 have key:∀{L:List Row},bC c L=true->ni∈L->q<c:=λ{L} d a=>by
  have f:ni.low c=true:=by
   induction L with
   |nil=>cases a
   |cons x L ih=>
    simp only [bC,ae] at d;rcases List.mem_cons.1 a with rfl|a
    .exact d.1
    .exact ih d.2 a
  unfold Qs at b;split at b
  .have e:=ah b;subst e;simp only [Row.low,ae,e9] at f;exact f.1.1
  .cases b
 cases s with
 |top i=>exact key j (pa h)
 |cm i=>exact key g (pa h)
 |nilI t=>exact h.elim
 |nilO t e=>exact h.elim
 |nilM k v=>exact h.elim
def HP(ρ:ay)(T:aB)(fr:Fr)(A:List Row)(Pd:List uG)(pend:ej)(w:World):Prop:= ∀p,p∈pend->∀w',(∃Φ',Sat (ab ρ T (A++fr.H)++Φ') w')->(∀x,x∈Pd->x.1=p.1->BF ρ x w'\/(Nat.beq x.2.2.1 1000000000=true/\Ext w w'))->p.2 w'
def eD(EV:List pL):Ctx:=EV.map λx=>box x.2.1 x.2.2.1 x.2.2.2
def Xw(ops:x5)(order:OT)(EV:List pL):Prop:= ∀x∈EV,(∀j∈order.ops,nW ops.toArray j x.1=true)/\∀j∈order.Sg,j=x.1\/nW ops.toArray j x.1=true
theorem HO{B:Ctx}{w:World}{p:pL->Bool}:∀{EV:List pL} {A:Ctx},Sat (A++(eD EV++B)) w->Sat (A++(eD (EV.filter p)++B)) w
 |[],_,h=>h
 |x::EV,A,h=>by
  rw [qg];split
  .have a:Sat ((A++[box x.2.1 x.2.2.1 x.2.2.2])++(eD EV++B)) w:=by simpa [eD] using h
   have:=HO (p:=p) a;simpa [eD] using this
  .exact HO (p:=p) (Sat.An (A:=A) (B:=eD EV++B) h)
theorem QI{B:Ctx}{w:World}:∀{EV:List pL} {A:Ctx},Sat (A++(eD EV++B)) w->Sat (A++B) w
 |[],_,h=>h
 |_::EV,A,h=>QI (EV:=EV) (Sat.An (A:=A) (B:=eD EV++B) h)
theorem Fits.iu{n:Nat}{E:Env}{a:Act}{d:Tmp}{v:Value}(h:Fits n E a)(e:a.tmps.getD d undef=v):Fits n ((d,true,v)::E) a:=by
 refine ⟨h.size,λt g c b=>?_⟩;simp only [look] at b;cases hb:Nat.beq d t
 .rw [hb,cy] at b;exact h.at_ t g c b
 .rw [hb,c9] at b;have:=ah hb;subst this;cases b;exact e
theorem Fits.aqG{n:Nat}{E:Env}{a:Act}{d:Tmp}(h:Fits n E a)(hd:look E d=none)(v:Value):Fits n E (a.put (some d) v):=by
 refine ⟨by simp [Act.put,h.size],λt g f b=>?_⟩;have c:d≠t:=λe=>by subst e;rw [hd] at b;cases b
 have:=Act.eval_put (a:=a) (dst:=some d) (v:=v) (x:= .tmp t) (λe i hc=>c (by cases i;cases hc;rfl));exact Eq.trans this (h.at_ t g f b)
theorem aow{X:Cx}{T:aB}{fr:Fr}{st:aC}{p:TypeId×List AV×List AV}(h:Iv X T fr st o=some p):o.guard=none/\∀cs b,o.op≠ .select cs b:=by
 unfold Iv at h;split at h
 next c a=>exact ⟨a,λcs b hc=>by rw [c] at hc;cases hc⟩
 next c a=>exact ⟨a,λcs b hc=>by rw [c] at hc;cases hc⟩
 .cases h
theorem sI.same{P:Program}{ops:xJ}{a:Act}{x:pL}{X:Cx}{T:aB}{fr:Fr}{st:aC}{ρ:ay}(k:X.P=P)(h:sI P ops a x)(i:ops[x.1]? =some o)(j:Fits fr.n (au ρ T st.E fr.F) a):
  ∀e vs cs,Iv X T fr st o=some (e,vs,cs)->x.2.2.1=e/\x.2.2.2=AV.ao ρ cs:=λe vs cs l=>by
 subst k;obtain ⟨q,d,b,g,u,t,s,r,p⟩:=h;rw [i] at g;cases g;have f:=ab2 (ρ:=ρ) l b _ a j;rw [p] at f;have m:b.alloc (.cells x.2.2.2.toArray x.2.2.1)=b.alloc (.cells (AV.ao ρ cs).toArray e):=by injection f
 have c:(some (Obj.cells x.2.2.2.toArray x.2.2.1):Option Obj)=some (.cells (AV.ao ρ cs).toArray e):=by rw [<-heap_alloc_new b (.cells x.2.2.2.toArray x.2.2.1),<-heap_alloc_new b (.cells (AV.ao ρ cs).toArray e),m]
 simp only [b8,Obj.cells.injEq] at c;exact ⟨c.2.1,by simpa using c.1⟩
theorem af3{frx:Fr}{T:aB}{w:World}{a:Act}{N:cB R}:∀{k:x8} {EV:List pL} {st:aC} {ρ:ay},eK T st.E frx.F->Sat (ab ρ T st.G++(ab ρ T frx.H++(eD EV++Φ))) w->Fits frx.n (au ρ T st.E frx.F) a->
  (∀x∈EV,sI X.P ops.toArray a x)->(∀f∈k,f∈EV.map (·.1))->agt X ops frx T k st N=some r->
  ∃st' ρ',N st'=some r/\aT st.c ρ ρ'/\st.c<=st'.c/\eK T st'.E frx.F/\Fits frx.n (au ρ' T st'.E frx.F) a/\ab ρ' T frx.H=ab ρ T frx.H/\
   Sat (ab ρ' T st'.G++(ab ρ' T frx.H++(eD (EV.filter λx=> !(dh x.1 k))++Φ))) w
 |[],EV,st,ρ,ht,hs,hf,hC,_,h=>by
  refine ⟨st,ρ,h,.refl,bb _,ht,hf,rfl,?_⟩;have e:(EV.filter λx=> !(dh x.1 []))=EV:=by rw [List.filter_eq_self];intro x _;rfl
  rw [e];exact hs
 |f::k,EV,st,ρ,ht,hs,hf,hC,hin,h=>by
  unfold agt at h;split at h
  .rename_i o ho;obtain ⟨m,h2⟩:=aI h;simp only [ae,et] at m;obtain ⟨x,hx,v⟩:=List.mem_map.1 (hin f (bj ..));subst v;obtain ⟨i,g,M⟩:=List.append_of_mem hx;have l:ops.toArray[x.1]? =some o:=by simpa using ho
   have D:Sat (((ab ρ T st.G++ab ρ T frx.H)++eD i)++box x.2.1 x.2.2.1 x.2.2.2::(eD g++Φ)) w:=by
    have e:ab ρ T st.G++(ab ρ T frx.H++(eD EV++Φ))=((ab ρ T st.G++ab ρ T frx.H)++eD i)++box x.2.1 x.2.2.1 x.2.2.2::(eD g++Φ):=by rw [M];simp [eD]
    rw [<-e];exact hs
   have C:Sat ([]++box x.2.1 x.2.2.1 x.2.2.2::((ab ρ T st.G++ab ρ T frx.H)++(eD i++(eD g++Φ)))) w:=by have:=D.amm;simpa using this
   have B:Sat (ab ρ T st.G++(ab ρ T frx.H++(box x.2.1 x.2.2.1 x.2.2.2::(eD i++(eD g++Φ))))) w:=by have:=C.move;simpa using this
   have L:=hC x hx;obtain ⟨o2,d,w0,I,Q,r3,r4,O,r6⟩:=id L;rw [l] at I;cases I;obtain ⟨b,st1,av,k1,k2,K,J,k5,k6,k7,k8⟩:=anP B (sI.same rfl L l hf) h2;have e1:au b T st1.E frx.F=(d,true,E6 o x.2.1)::au ρ T st.E frx.F:=by rw [J,sT,k5,k6,Q,aB.get_none];rfl
   have A:Sat (ab b T st1.G++(ab b T frx.H++(eD (EV.filter λy=> !(Nat.beq x.1 y.1))++Φ))) w:=by
    have e2:(EV.filter λy=> !(Nat.beq x.1 y.1))=(i++g).filter λy=> !(Nat.beq x.1 y.1):=by rw [M];simp
    rw [e2];have:Sat ((ab b T st1.G++ab b T frx.H)++(eD (i++g)++Φ)) w:=by
     have e3:eD (i++g)=eD i++eD g:=by simp [eD]
     rw [e3];simpa using k8
    have:=HO (p:=λy=> !(Nat.beq x.1 y.1)) this;simpa using this
   have z:eK T st1.E frx.F:=by rw [J];exact ht.out m.1 none av
   obtain ⟨s,q,q1,Z,Y,W,V,U,S⟩:=af3 z A (by rw [e1];exact hf.iu O) (λy u=>hC y (List.mem_filter.1 u).1) (λf' j=>by obtain ⟨y,u,t⟩:=List.mem_map.1 (hin f' (aW _ j));subst t;refine List.mem_map.2 ⟨y,List.mem_filter.2 ⟨u,?_⟩,rfl⟩;rw [et,n3];intro hb;have:=ah hb;rw [<-this] at j;rw [df.2 j] at m;cases m.2) k1
   refine ⟨s,q,q1,k2.trans Z K,cg K Y,W,V,U.trans k7,?_⟩;have e4:((EV.filter λy=> !(Nat.beq x.1 y.1)).filter λy=> !(dh y.1 k))=EV.filter λy=> !(dh y.1 (x.1::k)):=by
    rw [qM];congr 1
    funext y
    simp only [dh,Bool.not_or];exact Bool.and_comm ..
   rw [<-e4];exact S
  .cases h
theorem ao0(hΓ:∀it∈X.Γ,it∈Φ)(htb:∀e∈tb,e.Ok X.P X.Γ)(htp:∀e∈tp,e.Ok X.P X.Γ):∀{U:OT} {EV:List pL} {A:List Row} {Pd:List uG} {T:aB} {st:aC} {ρ:ay} {w:World} {pend:ej},eK T st.E fr.F->na ops fr.n T->FT T fr->Xw ops U EV->aip st.c Pd->Sat (ab ρ T st.G++(ab ρ T (A++fr.H)++(eD EV++Φ))) w->
  HP ρ T fr A Pd pend w->nu X tb tp KP ops fr U A Pd T st K=some r->
  (∀st' ρ' w',aT st.c ρ ρ'->st.c<=st'.c->K st'=some r->Sat (ab ρ' [] st'.G++(ab ρ' [] fr.H++Φ)) w'->At Q .normal fr.n D (au ρ' [] st'.E fr.F) w')->
  (∀v st' ρ' w',aT st.c ρ ρ'->st.c<=st'.c->KP v st'=some r->Sat (ab ρ' [] st'.G++(ab ρ' [] fr.H++Φ)) w'->BE Q (gO (v.val ρ')) D w')->
  DO X.P σ ops.toArray Q fr.n D U EV pend (au ρ T st.E fr.F) w:=by
 intro U
 -- a loud operation, the rest by induction
 have loud:∀(rest:OT) (k mk:Nat),(∀{EV:List pL} {A:List Row} {Pd:List uG} {T:aB} {st:aC} {ρ:ay} {w:World} {pend:ej},eK T st.E fr.F->na ops fr.n T->FT T fr->Xw ops rest EV->aip st.c Pd->Sat (ab ρ T st.G++(ab ρ T (A++fr.H)++(eD EV++Φ))) w->
   HP ρ T fr A Pd pend w->nu X tb tp KP ops fr rest A Pd T st K=some r->
   (∀st' ρ' w',aT st.c ρ ρ'->st.c<=st'.c->K st'=some r->Sat (ab ρ' [] st'.G++(ab ρ' [] fr.H++Φ)) w'->At Q .normal fr.n D (au ρ' [] st'.E fr.F) w')->
   (∀v st' ρ' w',aT st.c ρ ρ'->st.c<=st'.c->KP v st'=some r->Sat (ab ρ' [] st'.G++(ab ρ' [] fr.H++Φ)) w'->BE Q (gO (v.val ρ')) D w')->
   DO X.P σ ops.toArray Q fr.n D rest EV pend (au ρ T st.E fr.F) w)->
   ∀{EV:List pL} {A:List Row} {Pd:List uG} {T:aB} {st:aC} {ρ:ay} {w:World} {pend:ej},eK T st.E fr.F->na ops fr.n T->FT T fr->(∀x∈EV,nW ops.toArray k x.1=true)->Xw ops rest EV->aip st.c Pd->Sat (ab ρ T st.G++(ab ρ T (A++fr.H)++(eD EV++Φ))) w->
   HP ρ T fr A Pd pend w->
   (match ops[k]? with
    |some o=>MP X tb tp KP ops fr A T st o λT st'=>aA (Lr st'.G (eO ops k Pd)) (nu X tb tp KP ops fr rest (bq (λr=> !(cR r)) st.G++A) (eO ops k Pd) T st' K) none
    |none=>none)=some r->
   (∀st' ρ' w',aT st.c ρ ρ'->st.c<=st'.c->K st'=some r->Sat (ab ρ' [] st'.G++(ab ρ' [] fr.H++Φ)) w'->At Q .normal fr.n D (au ρ' [] st'.E fr.F) w')->
   (∀v st' ρ' w',aT st.c ρ ρ'->st.c<=st'.c->KP v st'=some r->Sat (ab ρ' [] st'.G++(ab ρ' [] fr.H++Φ)) w'->BE Q (gO (v.val ρ')) D w')->
   DO X.P σ ops.toArray Q fr.n D (.l k mk rest) EV pend (au ρ T st.E fr.F) w:=by
  intro rest k mk ih EV A Pd T st ρ w pend h1 h2 hf hfk i C hs hp h L s;have W:∀it∈X.Γ,it∈eD EV++Φ:=λit hit=>du _ (hΓ it hit);split at h
  .rename_i o ho;have hs1:=oN (A:=[]) (p:=cR) hs;refine amM (k:=k) (mk:=mk) (o:=o) (by simpa using ho) hfk rfl ?_;have fin:∀T' st' ρ' w',eK T' st'.E (mR fr A st).F->na ops (mR fr A st).n T'->FT T' fr->aT (stM st).c ρ ρ'->(stM st).c<=st'.c->(aA (Lr st'.G (eO ops k Pd)) (nu X tb tp KP ops fr rest (bq (λr=> !(cR r)) st.G++A) (eO ops k Pd) T' st' K) none)=some r->ab ρ' T' (mR fr A st).H=ab ρ T (mR fr A st).H->Sat (ab ρ' T' st'.G++(ab ρ' T' (mR fr A st).H++(eD EV++Φ))) w'->
     WL X.P σ ops.toArray (QKE X.P σ ops.toArray Q rest EV (still .any ops.toArray k pend)) fr.n D [] (au ρ' T' st'.E (mR fr A st).F) w':=by
    intro T' st' ρ' w' a1 a2 a3 a4 a5 a6 a7 a8;obtain ⟨a9,a10⟩:=aI a6;have e1:bq (λr=> !(cR r)) st.G++(A++fr.H)=(bq (λr=> !(cR r)) st.G++A)++fr.H:=by rw [aO]
    have hs8:Sat (ab ρ' T' st'.G++(ab ρ' T' ((bq (λr=> !(cR r)) st.G++A)++fr.H)++(eD EV++Φ))) w':=by rw [<-e1];exact a8
    have conv:∀z,(∃y,Sat (ab ρ' T' ((bq (λr=> !(cR r)) st.G++A)++fr.H)++y) z)->∃y,Sat (ab ρ T (A++fr.H)++y) z:=λz hw=>by
     obtain ⟨y,R⟩:=hw;refine ⟨y,?_⟩;rw [<-e1] at R;have V:Sat (ab ρ T (bq (λr=> !(cR r)) st.G++(A++fr.H))++y) z:=by rw [<-a7];exact R
     rw [bk,aO] at V;exact V.wJ
    have mem:∀p,p∈still .any ops.toArray k pend->p∈pend/\∀x,x∈Pd->x.1=p.1->x∈eO ops k Pd:=λp S=>by unfold still at S;rw [List.mem_filter] at S;exact ⟨S.1,λx hx he=>ur.2 ⟨hx,by rw [he];simpa using S.2⟩⟩
    have hBF:=ac5 (B:=ab ρ' T' ((bq (λr=> !(cR r)) st.G++A)++fr.H)++(eD EV++Φ)) hs8 a9;have HP':HP ρ' T' fr (bq (λr=> !(cR r)) st.G++A) (eO ops k Pd) (still .any ops.toArray k pend) w':=λp S z hw hB=>by obtain ⟨m1,m2⟩:=mem p S;exact hp p m1 z (conv z hw) (λx hx he=>(hB x (m2 x hx he) he).elim (λh=> .inl ((BL a4 (C x hx)).1 h)) (λh=>by have:=(hBF x (m2 x hx he)).1;rw [h.1] at this;cases this))
    refine bT (apN (afx λp S=>HP' p S w' ⟨eD EV++Φ,hs8.wJ⟩ (λx hx _=> .inl (hBF x hx))) ?_);exact ih a1 a2 a3 i (λx hx=>⟨dk (C x (ur.1 hx).1).1 a5,λu hu=>dk ((C x (ur.1 hx).1).2 u hu) a5⟩) hs8 HP' a10 (λI N z b1 b2 b3 b4=>L I N z (a4.trans b1 a5) (cg a5 b2) b3 b4) (λv I N z b1 b2 b3 b4=>s v I N z (a4.trans b1 a5) (cg a5 b2) b3 b4)
   unfold MP at h;split at h
   .rename_i q hq;subst h;refine anr (fr:=mR fr A st) (st:=stM st) h1 hs1 W htp hq (λst' ρ' w' a1 a4 a5 a6 a7 a8=>fin T st' ρ' w' a1 h2 hf a4 a5 a6 a7 a8) (λlb v st' ρ' w' a1 a2 a3 ae1 ae2 a4=>?_);cases lb with
    |true=>cases a3
    |false=>
    have a4':Sat (ab ρ' T ({ st' with G:=st'.G++(bq (λr=> !(cR r)) st.G++A) }:aC).G++(ab ρ' T fr.H++(eD EV++Φ))) w':=by
     have e2:(mR fr A st).H=(bq (λr=> !(cR r)) st.G++A)++fr.H:=by rw [aO]
     rw [e2,bk,aO] at a4;show Sat (ab ρ' T (st'.G++(bq (λr=> !(cR r)) st.G++A))++_) w';rw [bk,aO];exact a4
    obtain ⟨I,k1,Z,_,M⟩:=afL (fr:=fr) (KP:=λ_=>KP) (b:=false) hf a3 a4';rw [<-aO] at M;replace M:=QI M;rw [aO] at M;have k2':I.c=st'.c:=Z;have:=s v I ρ' w' a1 (by rw [k2'];exact a2) k1 M;exact adl this
   .exact adB (fr:=mR fr A st) (st:=stM st) (fr0:=fr) (K:=λT st'=>aA (Lr st'.G (eO ops k Pd)) (nu X tb tp KP ops fr rest (bq (λr=> !(cR r)) st.G++A) (eO ops k Pd) T st' K) none) h1 h2 rfl (λr hr=>du _ (du _ hr)) hf hs1 W htb h fin
  .cases h
 induction U with
 |nil=>
  intro EV A Pd T st ρ w pend h1 h2 hf i C hs hp h L s;have W:∀it∈X.Γ,it∈eD EV++Φ:=λit hit=>du _ (hΓ it hit);unfold nu at h;obtain ⟨h3,h4⟩:=aI h;have hs':Sat (ab ρ T ({ st with G:=st.G++A }:aC).G++(ab ρ T fr.H++(eD EV++Φ))) w:=by show Sat (ab ρ T (st.G++A)++_) w;rw [bk,aO];rw [bk,aO] at hs;exact hs
  obtain ⟨k1,Z,M⟩:=IL h3 hf hs';rw [<-aO] at M;replace M:=QI M;rw [aO] at M;exact aoy ((L _ ρ w .refl (by rw [k1];exact bb _) h4 M).lK _ Z)
 |q k m rest ih=>
  intro EV A Pd T st ρ w pend h1 h2 hf i C hs hp h L s;have hevr:Xw ops rest EV:=λx hx=>⟨λj hj=>(i x hx).1 j (aW _ hj),(i x hx).2⟩;have W:∀it∈X.Γ,it∈eD EV++Φ:=λit hit=>du _ (hΓ it hit);unfold nu at h;split at h
  .rename_i o ho;have hs1:=oN (A:=[]) (p:=cR) hs;obtain ⟨T',g,hk,so⟩:=acy (ρ:=ρ) (fr0:=fr) (fr:=mR fr A st) (st:=stM st) h1 h2 rfl (λr hr=>du _ (du _ hr)) hf h;have hs':Sat (ab ρ T' (stM st).G++(ab ρ T' (mR fr A st).H++(eD EV++Φ))) w:=by rw [so.eg,so.eh];exact hs1
   have he:au ρ T st.E fr.F=au ρ T' st.E fr.F:=by have e1:=so.ee;have e2:=so.ef;rw [au,au,e1,e2]
   rw [he];have e1:bq (λr=> !(cR r)) st.G++(A++fr.H)=(bq (λr=> !(cR r)) st.G++A)++fr.H:=by rw [aO]
   -- from what stands then to what stands now
   have conv0:∀z y,Sat (ab ρ T' (bq (λr=> !(cR r)) st.G++(A++fr.H))++y) z->∃y,Sat (ab ρ T (A++fr.H)++y) z:=λz y R=>by
    refine ⟨y,?_⟩;have V:Sat (ab ρ T (bq (λr=> !(cR r)) st.G++(A++fr.H))++y) z:=by rw [<-so.eh];exact R
    rw [bk,aO] at V;exact V.wJ
   split at hk
   .rename_i q hq;subst hk;obtain ⟨v,ρ',st',av,Rq,p,k1,Z,M,k4,k5,k6,k7,k8,k9,k10,k11,k12⟩:=al6 (fr:=mR fr A st) (st:=stM st) hs' hq;have e2:Rq++(bq (λr=> !(cR r)) st.G++(A++fr.H))=(Rq++(bq (λr=> !(cR r)) st.G++A))++fr.H:=by simp
    refine Lw (fr1:=mR fr A st) (st1:=stM st) (J:=BF ρ' p) rfl so ho (λx hx=>(i x hx).1 k (bj ..)) k10 k12 ?_;have:=ih (A:=Rq++(bq (λr=> !(cR r)) st.G++A)) (Pd:=p::Pd) (T:=T') (st:=st') (ρ:=ρ') (w:=w) (pend:=(k,BF ρ' p)::pend) (by rw [k4];exact so.t1.out so.ak g av) so.t2 so.ft hevr (λx hx=>?_) (by rw [<-e2];exact k8) (λq Y z hw hB=>?_) k1 (λI N z b1 b2 b3 b4=>L I N z (Z.trans b1 M) (cg M b2) b3 b4) (λv I N z b1 b2 b3 b4=>s v I N z (Z.trans b1 M) (cg M b2) b3 b4)
    .rw [k4,sT,k5,k6] at this;exact this
    .rcases List.mem_cons.1 hx with rfl|hx
     .exact k11
     .exact ⟨dk (C x hx).1 M,λu hu=>dk ((C x hx).2 u hu) M⟩
    .rcases List.mem_cons.1 Y with rfl|Y
     .exact (hB p (bj ..) k9).elim id (λh=>by have:=k10.1;rw [h.1] at this;cases this)
     .obtain ⟨y,R⟩:=hw;rw [<-e2,bk,aO] at R;have hΦ1:=R.wJ;have V:Sat (ab ρ T' (bq (λr=> !(cR r)) st.G++(A++fr.H))++y) z:=by rw [<-k7];exact hΦ1
      exact hp q Y z (conv0 z y V) (λx hx he=>(hB x (aW _ hx) he).imp (BL Z (C x hx)).1 id)
   .split at hk
    .rename_i p hpo;obtain ⟨lw,hk⟩:=aI hk;obtain ⟨dst,op,ty,pos,af,gd⟩:=o;unfold anA at hpo;split at hpo
     .rename_i t x d hop hdst;simp only at hop hdst;subst hop hdst;split at hpo
      .rename_i q off hx;split at hpo
       .cases hpo
       split at hpo
       .rename_i sr hkn;cases hpo;obtain ⟨v,hr,hO⟩:=YI (ty:=ty) (pos:=pos) (af:=af) (gd:=gd) lw hs' hx hk;obtain ⟨ρ',st',av,k1,Z,M,k4,k5,k6,k7,k8⟩:=hO;have hq:q<st.c:=by obtain ⟨_,_,l3,l4⟩:=aC.cC.1 lw;obtain ⟨f1,f2⟩:=bW hkn;exact aps f1 f2 l3 l4
        refine Lw (fr1:=mR fr A st) (st1:=stM st) (J:=λw'=>Ext w w') (v:=v) rfl so ho (λx hx=>(i x hx).1 k (bj ..)) (Ext.refl w) (λw' hw'=>hr w' hw') ?_;have:=ih (A:=bq (λr=> !(cR r)) st.G++A) (Pd:=(k,q,1000000000,[])::Pd) (T:=T') (st:=st') (ρ:=ρ') (w:=w) (pend:=(k,λw'=>Ext w w')::pend) (by rw [k4];exact so.t1.out so.ak g av) so.t2 so.ft hevr (λx hx=>?_) (by rw [<-e1];exact k8) (λq' Y z hw hB=>?_) k1 (λI N z b1 b2 b3 b4=>L I N z (Z.trans b1 M) (cg M b2) b3 b4) (λv I N z b1 b2 b3 b4=>s v I N z (Z.trans b1 M) (cg M b2) b3 b4)
        .rw [k4,sT,k5,k6] at this;exact this
        .rcases List.mem_cons.1 hx with rfl|hx
         .exact ⟨dk hq M,λu hu=>by cases hu⟩
         .exact ⟨dk (C x hx).1 M,λu hu=>dk ((C x hx).2 u hu) M⟩
        .obtain ⟨y,R⟩:=hw;rw [<-e1] at R;have hΦ1:Sat (ab ρ T' (bq (λr=> !(cR r)) st.G++(A++fr.H))++y) z:=by rw [<-k7];exact R
         rcases List.mem_cons.1 Y with rfl|Y
         .exact (hB (k,q,1000000000,[]) (bj ..) rfl).elim (λh=>by have:=h.1;simp at this) (λh=>h.2)
         .exact hp q' Y z (conv0 z y hΦ1) (λx hx he=>(hB x (aW _ hx) he).imp (BL Z (C x hx)).1 id)
       .cases hpo
      .cases hpo
     .cases hpo
    .obtain ⟨v,J,hJ,hr,hO⟩:=akh (fr:=mR fr A st) (st:=stM st) W so.t1 hs' hk;obtain ⟨ρ',st',av,k1,Z,M,k4,k5,k6,k7,k8⟩:=hO;refine Lw (fr1:=mR fr A st) (st1:=stM st) rfl so ho (λx hx=>(i x hx).1 k (bj ..)) (hJ w ⟨eD EV++Φ,hs'.wJ⟩) hr ?_;have:=ih (A:=bq (λr=> !(cR r)) st.G++A) (Pd:=Pd) (T:=T') (st:=st') (ρ:=ρ') (w:=w) (pend:=(k,J)::pend) (by rw [k4];exact so.t1.out so.ak g av) so.t2 so.ft hevr (λx hx=>⟨dk (C x hx).1 M,λu hu=>dk ((C x hx).2 u hu) M⟩) (by rw [<-e1];exact k8) (λq Y z hw hB=>?_) k1 (λI N z b1 b2 b3 b4=>L I N z (Z.trans b1 M) (cg M b2) b3 b4) (λv I N z b1 b2 b3 b4=>s v I N z (Z.trans b1 M) (cg M b2) b3 b4)
     .rw [k4,sT,k5,k6] at this;exact this
     .obtain ⟨y,R⟩:=hw;rw [<-e1] at R;have hΦ1:Sat (ab ρ T' (bq (λr=> !(cR r)) st.G++(A++fr.H))++y) z:=by rw [<-k7];exact R
      rcases List.mem_cons.1 Y with rfl|Y
      .exact hJ z ⟨y,hΦ1⟩
      .exact hp q Y z (conv0 z y hΦ1) (λx hx he=>(hB x hx he).imp (BL Z (C x hx)).1 id)
  .cases h
 |l k m rest ih=>
  intro EV A Pd T st ρ w pend h1 h2 hf i C hs hp h L s;have W:∀it∈X.Γ,it∈eD EV++Φ:=λit hit=>du _ (hΓ it hit);unfold nu at h;exact loud rest k m (λ{EV A Pd T st ρ w pend}=>ih) h1 h2 hf (λx hx=>(i x hx).1 k (bj ..)) (λx hx=>⟨λj hj=>(i x hx).1 j (aW _ hj),(i x hx).2⟩) C hs hp h L s
 |l2 m k1 r1 Z r2 ih1 ih2=>
  intro EV A Pd T st ρ w pend h1 h2 hf i C hs hp h L s;have W:∀it∈X.Γ,it∈eD EV++Φ:=λit hit=>du _ (hΓ it hit);unfold nu at h;obtain ⟨h3,h4⟩:=Yy h;exact apX (loud r1 k1 m (λ{EV A Pd T st ρ w pend}=>ih1) h1 h2 hf (λx hx=>(i x hx).1 k1 (bj ..)) (λx hx=>⟨λj hj=>(i x hx).1 j (aW _ (aW _ (qE _ hj))),λj hj=>(i x hx).2 j (qE _ hj)⟩) C hs hp h3 L s)
   (loud r2 Z m (λ{EV A Pd T st ρ w pend}=>ih2) h1 h2 hf (λx hx=>(i x hx).1 Z (aW _ (bj ..))) (λx hx=>⟨λj hj=>(i x hx).1 j (aW _ (aW _ (du _ hj))),λj hj=>(i x hx).2 j (du _ hj)⟩) C hs hp h4 L s)
 |f k m fl fs rest ih=>
  intro EV A Pd T st ρ w₀ pend h1 h2 hf i C hs hp h L s;unfold nu at h;obtain ⟨hc,h⟩:=aI h;simp only [ae,qy] at hc;obtain ⟨hfl,hpd0⟩:=hc;have hrun:∀f∈fl,∃o p d,ops[f]? =some o/\Iv X T (frA fr A) st o=some p/\o.dst=some d/\ix o=true/\Nat.blt d fr.n=true/\dC st.E fr.F d=none/\(∀t∈o.looksAt ops.toArray,t≠d)/\
    (∀j∈k::rest.ops,nW ops.toArray j f=true)/\∀j∈fl++rest.Sg,j=f\/nW ops.toArray j f=true:=λf hf=>by
   have:=hfl f hf;unfold aqk at this;simp only [ae,qy,c5] at this;obtain ⟨⟨g1,g2⟩,g3⟩:=this;split at g1
   .rename_i o ho;split at g1
    .rename_i p d hp hd;simp only [ae,qy] at g1;obtain ⟨⟨⟨g4,g5⟩,g6⟩,g7⟩:=g1;refine ⟨o,p,d,ho,hp,hd,g4,g5,?_,λt ht hc=>?_,g2,λj hj=>(g3 j hj).imp ah id⟩
     .split at g6
      .cases g6
      .assumption
     .have:=g7 t ht;rw [hc] at this;simp at this
    .cases g1
   .cases g1
  have nxp:∀(EV:List pL) (a:Act) (w:World),Ext w₀ w->Xw ops (.f k m fl fs rest) EV->Sat (ab ρ T st.G++(ab ρ T (A++fr.H)++(eD EV++Φ))) w->Fits fr.n (au ρ T st.E fr.F) a->a.defers=D->(∀x∈EV,sI X.P ops.toArray a x)->
    (∀f∈fs,f∈EV.map (·.1))->wpOpIn (FW σ) 0 X.P ops.toArray (QN Q) k (λa' w'=>fU (still .any ops.toArray k pend) w'/\gZ X.P σ ops.toArray (QN Q) rest ((EV.map (·.1)).filter λf=> !(dh f fs)) (still .any ops.toArray k pend) a' w') a w:=by
   intro EV a w hx0 i hs O hD hC hall;obtain ⟨st1,ρ1,k1,Z,M,k4,k5,k6,k7⟩:=af3 (frx:=frA fr A) h1 hs O hC hall h;have hev':∀x∈EV.filter (λx=> !(dh x.1 fs)),(∀j∈k::rest.ops,nW ops.toArray j x.1=true)/\∀j∈rest.Sg,j=x.1\/nW ops.toArray j x.1=true:=λx hx=>
    ⟨(i x (List.mem_filter.1 hx).1).1,λj hj=>(i x (List.mem_filter.1 hx).1).2 j (du _ hj)⟩
   have HP':HP ρ1 T fr A Pd pend w:=λp S z hw hB=>by have k6:ab ρ1 T (A++fr.H)=ab ρ T (A++fr.H):=k6;rw [k6] at hw;exact hp p S z hw (λx hx he=>(hB x hx he).imp (BL Z (C x hx)).1 (λh=>⟨h.1,hx0.trans h.2⟩))
   have hl:=loud rest k 0 (λ{EV A Pd T st ρ w pend}=>ih) (EV:=EV.filter λx=> !(dh x.1 fs)) (pend:=pend) k4 h2 hf (λx hx=>(hev' x hx).1 k (bj ..)) (λx hx=>⟨λj hj=>(hev' x hx).1 j (aW _ hj),(hev' x hx).2⟩)
    (λx hx=>⟨dk (C x hx).1 M,λu hu=>dk ((C x hx).2 u hu) M⟩) k7 HP' k1 (λI N z b1 b2 b3 b4=>L I N z (Z.trans b1 M) (cg M b2) b3 b4) (λv I N z b1 b2 b3 b4=>s v I N z (Z.trans b1 M) (cg M b2) b3 b4)
   have:=hl a k5 hD (λx hx=>hC x (List.mem_filter.1 hx).1);simp only [gZ] at this;have e:(EV.map (·.1)).filter (λf=> !(dh f fs))=(EV.filter λx=> !(dh x.1 fs)).map (·.1):=by rw [List.filter_map];rfl
   rw [e];split at this
   .exact this.elim
   .exact this
  have main:∀(nf:Nat) (EV:List pL) (a:Act) (w:World),Ext w₀ w->Xw ops (.f k m fl fs rest) EV->Sat (ab ρ T st.G++(ab ρ T (A++fr.H)++(eD EV++Φ))) w->Fits fr.n (au ρ T st.E fr.F) a->a.defers=D->(∀x∈EV,sI X.P ops.toArray a x)->
    wpE X.P σ ops.toArray (QN Q) fl pend (λea a w=>(∀f∈fs,f∈ea)->wpOpIn (FW σ) 0 X.P ops.toArray (QN Q) k (λa' w'=>fU (still .any ops.toArray k pend) w'/\gZ X.P σ ops.toArray (QN Q) rest (ea.filter λf=> !(dh f fs)) (still .any ops.toArray k pend) a' w') a w) nf (EV.map (·.1)) a w:=by
   intro nf
   induction nf with
   |zero=>exact λEV a w hx0 i hs O hD hC=>nxp EV a w hx0 i hs O hD hC
   |succ nf ihf=>
    intro EV a w hx0 i hs O hD hC;refine ⟨nxp EV a w hx0 i hs O hD hC,λf hf' hm=>?_⟩;obtain ⟨o,p,d,r1,r2,r3,r4,r5,r6,r7,r8,r9⟩:=hrun f hf';obtain ⟨e,vs,cs⟩:=p;obtain ⟨gn,ns⟩:=aow r2;have ho':ops.toArray[f]? =some o:=by simpa using r1
    have hR:=ab2 (ρ:=ρ) r2 w _ a O;have hw:Region.wanted o (yielded ops.toArray a.tmps)=true:=by simp [Region.wanted,gn]
    have hdn:look (au ρ T st.E fr.F) d=none:=by rw [fM,r6];rfl
    have hne:∀x∈EV,f≠x.1:=λx hx hc=>by have:dh f (EV.map (·.1))=true:=df.2 (List.mem_map.2 ⟨x,hx,hc.symm⟩);rw [hm] at this;cases this
    have hs1:Sat (box w.heap.size e (AV.ao ρ cs)::(ab ρ T st.G++(ab ρ T (A++fr.H)++(eD EV++Φ)))) (w.alloc (.cells (AV.ao ρ cs).toArray e)):=hs.push (dY _ _) (λb hb=>by
     have:b=w.heap.size:=by simpa [box] using hb
     subst this;simp) (λ_ _=>heap_alloc_new w _)
    have hs2:Sat (ab ρ T st.G++(ab ρ T (A++fr.H)++(eD ((f,w.heap.size,e,AV.ao ρ cs)::EV)++Φ))) (w.alloc (.cells (AV.ao ρ cs).toArray e)):=by
     have h0:Sat ([]++box w.heap.size e (AV.ao ρ cs)::((ab ρ T st.G++ab ρ T (A++fr.H))++(eD EV++Φ))) (w.alloc (.cells (AV.ao ρ cs).toArray e)):=by rw [aO];exact hs1
     have:=h0.move;rw [mo,aO] at this;exact this
    have hfit':=O.aqG hdn (E6 o w.heap.size);have hflo:∀x∈(f,w.heap.size,e,AV.ao ρ cs)::EV,sI X.P ops.toArray (a.put o.dst (E6 o w.heap.size)) x:=λx hx=>by
     rcases List.mem_cons.1 hx with rfl|hx
     .refine ⟨o,d,w,ho',r3,ns,rfl,?_,?_⟩
      .rw [r3];have hlt:d<a.tmps.size:=by rw [O.size];simpa using r5
       show (a.tmps.setIfInBounds d _).getD d undef=_;simp [Array.getD,hlt]
      .rw [execOp_put (ops:=ops.toArray) o ns a o.dst _ (λt ht hc=>r7 t hc (by rw [r3] at ht;exact (qa ht).symm))];exact hR
     .refine (hC x hx).put ho' ?_;rcases (i x hx).2 f (qE _ hf') with h9|h9
      .exact absurd h9 (hne x hx)
      .exact h9
    unfold wpOpIn;simp only [ho',hw,qn];refine j7 r4 ?_;rw [hR,Oper.uponIn_value];refine ⟨afx λp S=>hp p S _ ⟨eD ((f,w.heap.size,e,AV.ao ρ cs)::EV)++Φ,hs2.wJ⟩ (λx hx _=>(aiM hs2 hpd0 x hx).imp id (λh=>⟨h,hx0.trans (dY _ _)⟩)),?_⟩;have:=ihf ((f,w.heap.size,e,AV.ao ρ cs)::EV) (a.put o.dst (E6 o w.heap.size)) _ (hx0.trans (dY _ _)) (λx hx=>?_) hs2 (by rw [r3];exact hfit') (by rw [il];exact hD) hflo
    .exact this
    .rcases List.mem_cons.1 hx with rfl|hx
     .exact ⟨r8,r9⟩
     .exact i x hx
  intro a O hD hC;simp only [gZ];exact main fl.length EV a w₀ (Ext.refl _) i hs O hD hC
end
def cI:Code->Nat
 | .region _ ops _=>ops.toList.foldl (λm o=>match o.dst with|some d=>Nat.lor m (Nat.shiftLeft 1 d)|none=>m) 0
 | .seq a b=>Nat.lor (cI a) (cI b)
 | .cond _ a b=>Nat.lor (cI a) (cI b)
 | .block _ c=>cI c
 | .loop c=>cI c
 | .scope c=>cI c
 | .rangeFunc _ ps a b=>Nat.lor (ps.toList.foldl (λm d=>Nat.lor m (Nat.shiftLeft 1 d)) 0) (Nat.lor (cI a) (cI b))
 |_=>0
def Rp(t:Nat):List (Bool×Nat×Pt)->Bool
 |[]=>false
 |x::l=>(!x.1&&Nat.beq x.2.1 t)||Rp t l
def ux(m:Nat)(vs:List (Bool×Nat×Pt))(t:Nat):Bool:= !(Nat.testBit m t)&& !(Rp t vs)
def lj(m:Nat)(vs:List (Bool×Nat×Pt)):aF->aF
 |[]=>[]
 |x::E=>aA ( ux m vs x.1 ) ( x::lj m vs E ) ( lj m vs E )
def mN(m:Nat)(vs:List (Bool×Nat×Pt)):aF->aF
 |[]=>[]
 |x::E=>aA ( ux m vs x.1 ) ( mN m vs E ) ( x::mN m vs E )
theorem YR{m:Nat}{vs:List (Bool×Nat×Pt)}{t:Nat}:{E:aF}->bw E t=aA (ux m vs t) (bw (lj m vs E) t) (bw (mN m vs E) t)/\bw (aA (ux m vs t) (mN m vs E) (lj m vs E)) t=none
 |[]=>by cases ux m vs t <;> exact ⟨rfl,rfl⟩
 |(t',g,v)::E=>by
  obtain ⟨b,a⟩:=YR (m:=m) (vs:=vs) (t:=t) (E:=E);cases hb:Nat.beq t' t
  .rw [ey hb];unfold lj mN;cases c:ux m vs t' <;> cases d:ux m vs t <;> rw [d] at b a <;> first
    |exact ⟨by rw [ey hb];exact b,a⟩
    |exact ⟨b,by rw [ey hb];exact a⟩
    |exact ⟨b,a⟩
  .have e:=ah hb;subst e;rw [gB hb];unfold lj mN;cases c:ux m vs t' <;> rw [c] at a
   .exact ⟨(gB hb).symm,a⟩
   .exact ⟨(gB hb).symm,a⟩
theorem ah8{m:Nat}{vs:List (Bool×Nat×Pt)}{t:Nat}{E F:aF}:dC (mN m vs E) (lj m vs E++F) t=dC E F t:=by
 have app:∀A B:aF,bw (A++B) t=match bw A t with|some x=>some x|none=>bw B t:=λA B=>by
  induction A with
  |nil=>rfl
  |cons x A ih=>
   obtain ⟨t',g,v⟩:=x;cases hb:Nat.beq t' t
   .rw [de,ey hb,ey hb];exact ih
   .rw [de,gB hb,gB hb]
 obtain ⟨b,a⟩:=YR (m:=m) (vs:=vs) (t:=t) (E:=E);unfold dC;rw [app];cases c:ux m vs t <;> rw [c] at b a
 .rw [show bw (lj m vs E) t=none from a,b]
 .rw [show bw (mN m vs E) t=none from a,b];rfl
theorem akg{ρ:ay}{E E' F a:aF}(h:∀t,dC E' a t=dC E F t):iT (au ρ [] E' a) (au ρ [] E F):=λt p hp=>by rw [fM] at hp ⊢;rw [<-h];exact hp
mutual
def AV.ids:AV->x8
 | .ptr id _|.sl id|.adr id _|.mp id|.nv id|.sfp id _|.bs id _=>[id]
 | .agg l|.tuple l=>AV.acb l
 | .fn _ a b=>AV.acb a++AV.acb b
 | .ifc _ v=>v.ids
 |_=>[]
def AV.acb:List AV->x8
 |[]=>[]
 |v::l=>v.ids++AV.acb l
end
def akq(res:AV->AV)(ids:x8):List Row->x8
 |[]=>[]
 |r::G=>(match r with
  | .box j _ vs=>aA (se j ids) (AV.acb (vs.map res)) []
  |_=>[])++akq res ids G
def reach(st:aC)(fr:Fr)(ts:x8):x8:=
 let a:=(ts.map λt=>match dC st.E fr.F t with
  |some (_,v)=>v.ids
  |none=>[]).flatten
 let b:=a++akq (sA st.G fr.H) a st.G
 b++akq (sA st.G fr.H) b st.G
def fj(ids:x8)(r:Row):Bool:=se r.id ids
def ko(ids:x8)(c:Nat):List Row->List Row×List Row×Nat
 |[]=>([],[],c)
 |r::G=>match r with
  | .box j t vs=>aA ( se j ids ) ( match kb c vs with
   |(cs,R,c)=>match ko ids c G with
    |(G,R',c)=>(.box j t cs::G,R++R',c) )<|match ko ids c G with
   |(G,R',c)=>(.box j t vs::G,R',c)
  |r=>match ko ids c G with
   |(G,R',c)=>(r::G,R',c)
def fC:List Row->List (List AV)
 |[]=>[]
 |r::G=>(match r with
  | .box _ _ cs=>cs::fC G
  |_=>fC G)
structure anx(c:Nat)(G:List Row)(ρ ρ':ay)(x:List Row×List Row×Nat):Prop where
 ag:aT c ρ ρ'
 le:c<=x.2.2
 eq:ab ρ' [] x.1=ab ρ [] G
 lw:bC x.2.2 x.1=true
 rl:bC x.2.2 x.2.1=true
 rp:∀r∈x.2.1,(r.item ρ' []).cF=true/\∀M w,(r.item ρ' []).P M w
 bx:(fC x.1).map (AV.ao ρ')=(fC G).map (AV.ao ρ)
theorem LZ{ρ ρ':ay}{c:Nat}(ha:aT c ρ ρ'):{G:List Row}->bC c G=true->(fC G).map (AV.ao ρ')=(fC G).map (AV.ao ρ)
 |[],_=>rfl
 |r::G,h=>by
  simp only [bC,ae] at h;have ih:=LZ ha h.2;cases r with
  |box j t cs=>
   have a:=h.1;simp only [Row.low,ae] at a;show AV.ao ρ' cs::(fC G).map (AV.ao ρ')=AV.ao ρ cs::(fC G).map (AV.ao ρ);rw [ih,AV.bU ha _ a.2]
  |_=>exact ih
theorem I8{ids:x8}:{G:List Row}->{c:Nat}->{ρ:ay}->bC c G=true->∃ρ',anx c G ρ ρ' (ko ids c G)
 |[],c,ρ,h=>⟨ρ,.refl,bb _,rfl,rfl,rfl,(λ_ h=>by cases h),rfl⟩
 |r::G,c,ρ,h=>by
  simp only [bC,ae] at h;have f:(∀t cs j,r= .box j t cs->se j ids=false)->ko ids c (r::G)=(match ko ids c G with|(G,s,c)=>(r::G,s,c))->∃ρ',anx c (r::G) ρ ρ' (ko ids c (r::G)):=λ_ e=>by
   obtain ⟨ρ',l⟩:=I8 (ids:=ids) (c:=c) (ρ:=ρ) h.2;rw [e];generalize ko ids c G=L at l;obtain ⟨q,R,A⟩:=L;refine ⟨ρ',l.ag,l.le,?_,?_,l.rl,l.rp,?_⟩
   .have:=l.eq;simp only [ab,cx] at this ⊢;rw [this,Row.Aa l.ag h.1]
   .simp only [bC,ae];exact ⟨Row.fe l.le h.1,l.lw⟩
   .have hb:(fC q).map (AV.ao ρ')=(fC G).map (AV.ao ρ):=l.bx;cases r with
    |box j t cs=>
     have w:=h.1;simp only [Row.low,ae] at w;show AV.ao ρ' cs::(fC q).map (AV.ao ρ')=AV.ao ρ cs::(fC G).map (AV.ao ρ);rw [hb,AV.bU l.ag _ w.2]
    |_=>exact hb
  cases r with
  |box j t vs=>
   cases v:se j ids
   .exact f (λt cs j h=>by cases h;exact v) (by simp only [ko,v])
   .have b:=h.1;simp only [Row.low,ae,e9] at b;obtain ⟨k,a⟩:=He (ρ:=ρ) b.2;have e:ko ids c (.box j t vs::G)=(match kb c vs with
     |(cs,R,c)=>match ko ids c G with
      |(G,s,c)=>(.box j t cs::G,R++s,c)):=by simp only [ko,v]
    rw [e];generalize kb c vs=L at a;obtain ⟨cs,R,c1⟩:=L;obtain ⟨d,g⟩:=I8 (ids:=ids) (c:=c1) (ρ:=k) (wZ a.le h.2);dsimp only;generalize ko ids c1 G=L at g;obtain ⟨q,s,z⟩:=L;have o:c<=c1:=a.le;have i:c1<=z:=g.le;have p:aT c ρ d:=a.ag.trans g.ag a.le;refine ⟨d,p,cg o i,?_,?_,rF (wZ i a.rl) g.rl,?_,?_⟩
    .have y:=g.eq;simp only [ab,cx,Row.item] at y ⊢;have m:AV.bX c1 cs=true:=a.lw;have n:AV.ao k cs=AV.ao ρ vs:=a.eq;rw [y,p _ b.1,AV.bU g.ag _ m,n];have:=bf (T:=[]) a.ag h.2;simp only [ab] at this;rw [this]
    .simp only [bC,Row.low,ae,e9];exact ⟨⟨by omega,AV.jr i _ a.lw⟩,g.lw⟩
    .intro r b;rcases List.mem_append.1 b with b|b
     .have u:r.low c1=true:=by
       have key:∀{R:List Row},bC c1 R=true->∀r∈R,r.low c1=true:=λ{R}=>by
        induction R with
        |nil=>intro _ r h;cases h
        |cons x R ih=>
         intro h r b;simp only [bC,ae] at h;rcases List.mem_cons.1 b with rfl|b
         .exact h.1
         .exact ih h.2 r b
       exact key a.rl r b
      rw [Row.Aa g.ag u];exact a.rp r b
     .exact g.rp r b
    .have hb:(fC q).map (AV.ao d)=(fC G).map (AV.ao k):=g.bx;show AV.ao d cs::(fC q).map (AV.ao d)=AV.ao ρ vs::(fC G).map (AV.ao ρ);have m:AV.bX c1 cs=true:=a.lw;have n:AV.ao k cs=AV.ao ρ vs:=a.eq;rw [hb,AV.bU g.ag _ m,n,LZ a.ag h.2]
  |_=>exact f (λt cs j h=>by cases h) rfl
variable {G : List Row}
def xv(E F:aF)(t:Nat):Option AV:=match dC E F t with
 |some (none,v)=>some v
 |_=>none
theorem Fw{ρ:ay}{E F:aF}{t:Nat}{v:AV}(h:xv E F t=some v):look (au ρ [] E F) t=some (true,v.val ρ):=by
 unfold xv at h;split at h
 next a hv=>cases h;rw [fM,hv];simp
 .cases h
def St(st:aC)(fr:Fr):List (Bool×Nat×Pt)->x8
 |[]=>[]
 |x::l=>(aA x.1 (match dC st.E fr.F x.2.1 with
  |some (_,v)=>v.ids
  |none=>[]) [])++St st fr l
mutual
def agv(G H:List Row):Pt->AV->x8
 | .own _ _ _,v=>v.ids
 | .mp _ _ _,v=>v.ids
 | .it,v=>v.ids
 | .bx _ _ _ vs,v=>(match v with
  | .ptr j _=>j::MS G H vs (cellsOf G H j)
  |_=>[])
 | .agg l,v=>(match v with
  | .agg vs=>MS G H l vs
  |_=>[])
 | .cG l,v=>(match v with
  | .tuple vs=>MS G H l vs
  |_=>[])
 | .fn _ a b,v=>(match v with
  | .fn _ a' b'=>MS G H a a'++MS G H b b'
  |_=>[])
 | .sty p,v=>agv G H p v
 | .ifc _ p,v=>(match v with
  | .ifc _ u=>agv G H p u
  |_=>[])
 | .dat _ o,v=>aA (o.all (λx=>x.isNone)) [] v.ids
 |_,_=>[]
def MS(G H:List Row):List Pt->List AV->x8
 |[],_=>[]
 |p::l,vs=>(match vs with
  |v::vs=>agv G H p (sA G H v)++MS G H l vs
  |[]=>[])
end
def al1(st:aC)(fr:Fr):List (Bool×Nat×Pt)->x8
 |[]=>[]
 |x::l=>(match dC st.E fr.F x.2.1 with
  |some (_,v)=>agv st.G fr.H x.2.2 (sA st.G fr.H v)
  |none=>[])++al1 st fr l
structure En where
 fr:Fr
 E:aF
 G:List Row
 Et:aF
 Gt:List Row
 c:Nat
 fix:Nat->fY
def alr(E F:aF)(G:List Row)(t:Nat):fY:=match dC E F t with
 |some (_,v)=>some (v,match v with
  | .ptr j _=>cellsOf G [] j
  |_=>[])
 |none=>none
def enter(fr:Fr)(tm:Tm)(m:Nat)(st:aC):En:=
 let ids:=al1 st fr tm.vs++reach st fr tm.th
 match ko (St st fr tm.vs) st.c (bq (fj ids) st.G) with
 |(Gt,R,c)=>⟨⟨lj m tm.vs st.E++fr.F,(R++bq (λr=> !(fj ids r)) st.G)++fr.H,fr.n⟩,lj m tm.vs st.E,R++bq (λr=> !(fj ids r)) st.G,mN m tm.vs st.E,Gt,c,alr st.E fr.F Gt⟩
structure are(fr:Fr)(st:aC)(Φ:Ctx)(w:World)(ρ ρ':ay)(en:En):Prop where
 ag:aT st.c ρ ρ'
 le:st.c<=en.c
 ff:en.fr.F=en.E++fr.F
 fh:en.fr.H=en.G++fr.H
 fn:en.fr.n=fr.n
 lF:aF.low en.c en.fr.F=true
 lH:bC en.c en.fr.H=true
 sub:iT (au ρ' [] en.Et en.fr.F) (au ρ [] st.E fr.F)
 sat:Sat (ab ρ' [] en.Gt++(ab ρ' [] en.fr.H++Φ)) w
 fx:∀t q,en.fix t=some q->q.1.low en.c=true/\AV.bX en.c q.2=true
theorem aF.fe{c d:Nat}(a:c<=d):{E:aF}->E.low c=true->E.low d=true
 |[],_=>rfl
 |x::E,h=>by simp only [aF.low,ae] at h ⊢;exact ⟨AV.fe a _ h.1,aF.fe a h.2⟩
theorem aF.Ja{c:Nat}:{E F:aF}->E.low c=true->F.low c=true->aF.low c (E++F)=true
 |[],_,_,h=>h
 |x::E,F,h,k=>by simp only [de,aF.low,ae] at h ⊢;exact ⟨h.1,aF.Ja h.2 k⟩
theorem Ie{c:Nat}:{E:aF}->E.low c=true->{t:Nat}->{x:GK×AV}->bw E t=some x->x.2.low c=true
 |[],_,_,_,h=>by cases h
 |(t',g,v)::E,h,t,x,hx=>by
  simp only [aF.low,ae] at h;cases hb:Nat.beq t' t
  .rw [ey hb] at hx;exact Ie h.2 hx
  .rw [gB hb] at hx;cases hx;exact h.1
theorem Km{c m:Nat}{vs:List (Bool×Nat×Pt)}:{E:aF}->E.low c=true->(lj m vs E).low c=true
 |[],_=>rfl
 |x::E,h=>by
  simp only [aF.low,ae] at h;unfold lj;cases ux m vs x.1
  .exact Km h.2
  .show aF.low c (x::lj m vs E)=true;simp only [aF.low,ae];exact ⟨h.1,Km h.2⟩
theorem Me{c m:Nat}{vs:List (Bool×Nat×Pt)}:{E:aF}->E.low c=true->(mN m vs E).low c=true
 |[],_=>rfl
 |x::E,h=>by
  simp only [aF.low,ae] at h;unfold mN;cases ux m vs x.1
  .show aF.low c (x::mN m vs E)=true;simp only [aF.low,ae];exact ⟨h.1,Me h.2⟩
  .exact Me h.2
theorem Dm{c:Nat}{p:Row->Bool}:{G:List Row}->bC c G=true->bC c (bq p G)=true
 |[],_=>rfl
 |r::G,h=>by
  simp only [bC,ae] at h;unfold bq;cases p r
  .exact Dm h.2
  .show bC c (r::bq p G)=true;simp only [bC,ae];exact ⟨h.1,Dm h.2⟩
theorem ael{c:Nat}{j:Nat}(h:bC c G=true):AV.bX c (cellsOf G [] j)=true:=by
 unfold cellsOf;split
 .rename_i s d t cs b;obtain ⟨a,_⟩:=bW b;cases s with
  |top i=>
   have:=pz h (show G[i]? =some _ from a);simp only [Row.low,ae] at this;exact this.2
  |cm i=>have a:([]:List Row)[i]? =some _:=a;simp at a
  |nilI=>exact a.elim
  |nilO=>exact a.elim
  |nilM=>exact a.elim
 .rfl
theorem amh{c:Nat}{E F:aF}(d:E.low c=true)(b:F.low c=true)(a:bC c G=true){t:Nat}{q:AV×List AV}(h:alr E F G t=some q):q.1.low c=true/\AV.bX c q.2=true:=by
 unfold alr at h;split at h
 .rename_i v hv;cases h;refine ⟨?_,?_⟩
  .unfold dC at hv;split at hv
   next x hx=>cases hv;exact Ie d hx
   .exact Ie b hv
  .split
   .exact ael a
   .rfl
 .cases h
theorem vW{fr:Fr}{tm:Tm}{m:Nat}{st:aC}{ρ:ay}{Φ:Ctx}{w:World}(K:st.low fr=true)(D:Sat (ab ρ [] st.G++(ab ρ [] fr.H++Φ)) w):∃ρ',are fr st Φ w ρ ρ' (enter fr tm m st):=by
 obtain ⟨g,f,u,s⟩:=aC.cC.1 K;unfold enter;dsimp only;generalize al1 st fr tm.vs++reach st fr tm.th=ids;have n:=oN (A:=[]) (p:=fj ids) D;obtain ⟨ρ',l⟩:=I8 (ids:=St st fr tm.vs) (c:=st.c) (ρ:=ρ) (Dm (p:=fj ids) u);generalize ko (St st fr tm.vs) st.c (bq (fj ids) st.G)=L at l;obtain ⟨Gt,R,c⟩:=L;have a:st.c<=c:=l.le;have y:=Km (m:=m) (vs:=tm.vs) g;have hp:=Dm (p:=λr=> !(fj ids r)) u;refine ⟨ρ',l.ag,a,rfl,rfl,rfl,?_,?_,?_,?_,λt q J=>?_⟩
 .exact aF.Ja (aF.fe a y) (aF.fe a f)
 .exact rF (rF l.rl (wZ a hp)) (wZ a s)
 .have o:au ρ' [] (mN m tm.vs st.E) (lj m tm.vs st.E++fr.F)=au ρ [] (mN m tm.vs st.E) (lj m tm.vs st.E++fr.F):=by rw [au,au,oL l.ag (Me g),oL l.ag (aF.Ja y f)]
  show iT (au ρ' [] (mN m tm.vs st.E) (lj m tm.vs st.E++fr.F)) _;rw [o];exact akg λt=>ah8
 .show Sat (ab ρ' [] Gt++(ab ρ' [] ((R++bq (λr=> !(fj ids r)) st.G)++fr.H)++Φ)) w;have o:ab ρ' [] Gt=ab ρ [] (bq (fj ids) st.G):=l.eq;have V:ab ρ' [] (bq (λr=> !(fj ids r)) st.G++fr.H)=ab ρ [] (bq (λr=> !(fj ids r)) st.G++fr.H):=bf l.ag (rF hp s);rw [aO,bk,o,V];have i:Sat (ab ρ [] (bq (fj ids) st.G)++(ab ρ [] (bq (λr=> !(fj ids r)) st.G++fr.H)++Φ)) w:=by simpa using n
  have e:∀(L:List Item) (A B:Ctx),(∀it∈L,it.cF=true/\∀M w,it.P M w)->Sat (A++B) w->Sat (A++(L++B)) w:=λL A B v h=>by
   have C:=Bq h L (λit d=>⟨(v it d).1,(v it d).2 _ _⟩);have mv:∀(L:List Item) (A B:Ctx),Sat (L++(A++B)) w->Sat (A++(L++B)) w:=λL=>by
    induction L with
    |nil=>intro A B h;exact h
    |cons x L ih=>
     intro A B h;have z:Sat ([]++x::((L++A)++B)) w:=by simpa using h
     have T:Sat ([]++((L++A)++x::B)) w:=z.move;have S:Sat (L++(A++x::B)) w:=by simpa using T
     have Q:Sat (A++(L++x::B)) w:=ih _ _ S;have O:Sat (A++(L++[x]++B)) w:=by simpa using Q
     -- x goes ahead of L
     refine O.Au (λj k=>(j<A.length/\k=j)\/(j=A.length/\k=A.length+L.length)\/(A.length<j/\j<=A.length+L.length/\k+1=j)\/(A.length+L.length<j/\k=j)) (λj jt b=>?_) (λj k q N C z=>by omega);by_cases c1:j<A.length
     .rw [cd c1] at b;exact .inr ⟨j,jt,.inl ⟨c1,rfl⟩,by rw [cd c1];exact b,bS.refl⟩
     .rw [b5 (by omega)] at b;by_cases X:j=A.length
      .subst X;simp at b;subst b;refine .inr ⟨A.length+L.length,x,.inr (.inl ⟨rfl,rfl⟩),?_,bS.refl⟩;rw [b5 (by omega)];have:A.length+L.length-A.length=L.length:=by omega
       rw [this];simp
      .have U:j-A.length=(j-A.length-1)+1:=by omega
       rw [U,de,cf] at b;by_cases W:j<=A.length+L.length
       .rw [cd (by omega)] at b;refine .inr ⟨j-1,jt,.inr (.inr (.inl ⟨by omega,W,by omega⟩)),?_,bS.refl⟩;rw [b5 (by omega),aO,cd (by omega)];rw [show j-1-A.length=j-A.length-1 by omega];exact b
       .rw [b5 (by omega)] at b;refine .inr ⟨j,jt,.inr (.inr (.inr ⟨by omega,rfl⟩)),?_,bS.refl⟩;rw [b5 (by omega),b5 (by simp;omega)];have:j-A.length-(L++[x]).length=j-A.length-1-L.length:=by simp;omega
        rw [this];exact b
   exact mv L A B C
  have:=e (ab ρ' [] R) (ab ρ [] (bq (fj ids) st.G)) (ab ρ [] (bq (λr=> !(fj ids r)) st.G++fr.H)++Φ) (λit d=>by obtain ⟨r,I,rfl⟩:=List.mem_map.1 d;exact l.rp r I) i
  simpa using this
 .exact amh (aF.fe a g) (aF.fe a f) l.lw J
def S3(G H:List Row)(look:Nat->Option AV)(fix:Nat->fY):List (Bool×Nat×Pt)->x8
 |[]=>[]
 |x::l=>(match (aA x.1 ((fix x.2.1).map (·.1)) (look x.2.1)) with
  |some v=>rQ G H x.2.2 v
  |none=>[])++S3 G H look fix l
def Uy(F:aF)(vs:List (Bool×Nat×Pt)):aF->Bool
 |[]=>true
 |x::E=>(Rp x.1 vs||pC (bw F x.1))&&Uy F vs E
def Nk(en:En)(tm:Tm)(E:aF)(G:List Row):List Row:=cm (S3 G en.fr.H (xv E en.fr.F) en.fix tm.vs) G
def jM(en:En)(tm:Tm)(E:aF)(G:List Row):Option (ew (gi tm.vs)):=
 match XP (Nk en tm E G) en.fr.H (xv E en.fr.F) en.fix tm.vs [] with
 |some mr=>aA (AW (mr.S.map λx=>dj (Nk en tm E G) en.fr.H x.2)&&O3 (Nk en tm E G).length (mr.S.map λx=>dj (Nk en tm E G) en.fr.H x.2)&&Uy en.fr.F tm.vs E) (cG _ mr.D) none
 |none=>none
def rowsOf(R:List (Bool×Row)):List Row:=R.map (·.2)
def bP(en:En)(tm:Tm)(s:ew (gi tm.vs))(h:HT):aC:=match eZ (λn=>en.c+n) en.fix tm.vs 0 (fL _ s) with
 |⟨E,R,k,_⟩=>⟨en.c+k,E,rowsOf R,h⟩
def fS(en:En)(tm:Tm)(s:ew (gi tm.vs))(h:HT):aC:=match eZ (λn=>en.c+n) en.fix tm.vs 0 (fL _ s) with
 |⟨E,R,k,_⟩=>⟨en.c+k,E++en.E,rowsOf R++en.G,h⟩
def vN(e:XE)(en:En)(st:aC):aC:=match e with
 | .panL _=>{ st with E:=st.E++en.E,G:=st.G++da en.G }
 |_=>{ st with E:=st.E++en.E,G:=st.G++en.G }
theorem Sat.Sj{w:World}{A C:Ctx}:∀{B:Ctx},Sat (A++(B++C)) w->Sat (A++C) w
 |[],h=>h
 |_x::B,h=>Sat.Sj (B:=B) (Sat.An h)
theorem Yb{nm:Nat->Nat}{fix:Nat->fY}{t:Nat}:{l:List (Bool×Nat×Pt)}->{n:Nat}->{D:List bZ}->Rp t l=true->bw (eZ nm fix l n D).E t≠none
 |[],n,D,h=>by cases h
 |(b,t',p)::l,n,D,h=>by
  unfold eZ;dsimp only;generalize fill nm p (aA b (fix t') none) none n D=L;obtain ⟨v,R,k,c,j⟩:=L;dsimp only;generalize d:eZ nm fix l k c=f;obtain ⟨a,m,i,g⟩:=f;dsimp only;have ih:Rp t l=true->bw a t≠none:=λe=>by have:=Yb (nm:=nm) (fix:=fix) (n:=k) (D:=c) e;rw [d] at this;exact this
  simp only [Rp,c5,ae] at h;cases b
  .show bw ((t',none,v)::a) t≠none;cases hb:Nat.beq t' t
   .rw [ey hb];rcases h with ⟨_,h⟩|h
    .rw [hb] at h;cases h
    .exact ih h
   .rw [gB hb];simp
  .show bw a t≠none;rcases h with ⟨h,_⟩|h
   .cases h
   .exact ih h
theorem acM{F:aF}{vs:List (Bool×Nat×Pt)}{t:Nat}:{E:aF}->{x:GK×AV}->Uy F vs E=true->bw E t=some x->Rp t vs=true\/bw F t=none
 |[],x,_,h=>by cases h
 |(t',g,v)::E,x,hb,h=>by
  simp only [Uy,ae,c5] at hb;cases b:Nat.beq t' t
  .rw [ey b] at h;exact acM hb.2 h
  .have e:=ah b;subst e;rcases hb.1 with a|a
   .exact .inl a
   .cases c:bw F t' with
    |none=>exact .inr rfl
    |some y=>rw [c] at a;cases a
section
variable {en : En} {tm : Tm} {Φ : Ctx} {w : World} {ρ : ay}
theorem nk{E:aF}{s:ew (gi tm.vs)}(lF:aF.low en.c en.fr.F=true)(lH:bC en.c en.fr.H=true)(fx:∀t q,en.fix t=some q->q.1.low en.c=true/\AV.bX en.c q.2=true)
  (hs:Sat (ab ρ [] G++(ab ρ [] en.fr.H++Φ)) w) (h:jM en tm E G=some s):
  ∃ρ' E' R k D,eZ (λn=>en.c+n) en.fix tm.vs 0 (fL _ s)=⟨E',R,k,D⟩/\aT en.c ρ ρ'/\iT (au ρ' [] E' en.fr.F) (au ρ [] E en.fr.F)/\Sat (ab ρ' [] (rowsOf R)++(ab ρ' [] en.fr.H++Φ)) w:=by
 unfold jM at h;have d:=iP (ids:=S3 G en.fr.H (xv E en.fr.F) en.fix tm.vs) hs;change Sat (ab ρ [] (Nk en tm E G)++_) w at d;generalize Nk en tm E G=G' at h d;split at h
 .rename_i Q S;obtain ⟨U,h2⟩:=aI h;simp only [ae] at U;obtain ⟨⟨h3,h4⟩,h5⟩:=U;obtain ⟨N,I,r,n1,a1⟩:=UY d tm.vs [] Q [] S .nil;rw [<-AG _ h2] at r;obtain ⟨p1,_⟩:=MT d a1;obtain ⟨P,_⟩:=vR d p1 (wv h3);rw [BO h4] at P;have Z:=P.Sj
  -- names
  have b:aT en.c ρ (λi=>aA (Nat.blt i en.c) (ρ i) ((N[i-en.c]?).getD cM)):=λj hj=>by
   have:Nat.blt j en.c=true:=by simpa using hj
   simp only [this]
  have l:tF (λi=>aA (Nat.blt i en.c) (ρ i) ((N[i-en.c]?).getD cM)) (λn=>en.c+n) 0 N:=λi a ha=>by
   have:Nat.blt (en.c+i) en.c=false:=by
    cases hb:Nat.blt (en.c+i) en.c
    .rfl
    .simp only [e9] at hb;omega
   simp only [this,show en.c+i-en.c=i by omega,ha,qx];exact ⟨trivial,trivial,trivial,λ_=>trivial⟩
  generalize (λi=>aA (Nat.blt i en.c) (ρ i) ((N[i-en.c]?).getD cM))=ρ' at b l;have e1:(λi=>eX ρ (en.fix i))=λi=>eX ρ' (en.fix i):=by
   funext i
   cases hq:en.fix i with
   |none=>rfl
   |some q=>
    obtain ⟨k1,k2⟩:=fx i q hq;show some (q.1.val ρ,AV.ao ρ q.2)=some (q.1.val ρ',AV.ao ρ' q.2);rw [AV.kz b _ k1,AV.bU b _ k2]
  rw [e1] at r;obtain ⟨O,W,V,M⟩:=Qi (T:=[]) (nm:=λn=>en.c+n) tm.vs [] (fL _ s) I (dF ρ Q.X) N r (adH S) l (qd _) [];simp only [iq,gj] at O W V M;generalize hF:eZ (λn=>en.c+n) en.fix tm.vs 0 (fL _ s)=L at O W V M;obtain ⟨E',R,k,D⟩:=L;refine ⟨ρ',E',R,k,D,rfl,b,λt p hp=>?_,?_⟩
  .rw [fM] at hp;cases m:bw E' t with
   |some x=>
    have u:look (aF.env ρ' [] E') t=some (aB.get [] x.1,x.2.val ρ'):=by rw [sw,m];rfl
    obtain ⟨c1,g⟩:=O t _ u;have K:dC E' en.fr.F t=some x:=by unfold dC;rw [m]
    rw [K] at hp;simp only [l7,b8] at hp;subst hp;simp only at c1 g;cases f:xv E en.fr.F t with
    |none=>rw [f] at g;cases g
    |some v=>
     rw [f] at g;simp only [l7,b8] at g;rw [Fw f,c1,g]
   |none=>
    have K:dC E' en.fr.F t=bw en.fr.F t:=by unfold dC;rw [m]
    rw [K] at hp;cases e:bw en.fr.F t with
    |none=>rw [e] at hp;cases hp
    |some y=>
     rw [e] at hp;simp only [l7,b8] at hp;have J:bw E t=none:=by
      cases J:bw E t with
      |none=>rfl
      |some z=>
       rcases acM h5 J with o|o
       .have:=Yb (nm:=λn=>en.c+n) (fix:=en.fix) (n:=0) (D:=fL _ s) o;rw [hF] at this;exact (this m).elim
       .rw [e] at o;cases o
     rw [fM];unfold dC;rw [J,e,<-hp];simp only [l7];rw [AV.kz b _ (Ie lF e)]
  .have Y:=Sat.leL (A:=[]) (B:=di I) (C:=ab ρ [] en.fr.H++Φ) Z M.rw;rw [bf b lH];exact Y
 .cases h
end
variable {fr : Fr}
def ang(P:Program)(o:Oper):Bool:=match o.op with
 | .store ..|.alloc _|.box ..|.buildSlice ..|.makeSlice ..|.makeMap ..|.mapUpdate ..|.insert ..|.range ..|.next ..|.defer _|.panic _=>true
 | .convert s d _=>isStr P s&& !(isStr P d)
 | .call ⟨.builtin b,_,_⟩=>(match b with
  | .len|.cap|.min|.max|.unsafeSliceData=>false
  |_=>true)
 | .call _=>true
 |_=>false
def ahP(q:Bool)(m:Nat):Nat->List (Nat×Bool)->xb
 |_,[]=>none
 |k,x::l=>aA ( WW x.2 (!q)&& !(Nat.testBit m k)&&IT x.1 m ) ( some k )<|ahP q m (k+1) l
def acN(l:List (Nat×Bool)):Nat->Nat->OT
 |0,_=> .nil
 |n+1,m=>match ahP true m 0 l with
  |some k=> .q k m (acN l n (bit m k))
  |none=>match ahP false m 0 l with
   |none=> .nil
   |some k=>match ahP false m (k+1) (l.drop (k+1)) with
    |none=> .l k m (acN l n (bit m k))
    |some j=> .l2 m k (acN l n (bit m k)) j (acN l n (bit m j))
def ard(o:Oper):Bool:=match o.op,o.guard with
 | .alloc _,none=>true
 | .buildSlice .., none=>true
 |_,_=>false
def ah9(kd m:Nat):Nat->List (Nat×Nat)->Option (Nat×Nat)
 |_,[]=>none
 |k,x::l=>aA ( Nat.beq x.2 kd&& !(Nat.testBit m k)&&IT x.1 m ) ( some (k,x.1) )<|ah9 kd m (k+1) l
def P8(m:Nat):Nat->List (Nat×Nat)->x8
 |_,[]=>[]
 |k,x::l=>aA ( Nat.beq x.2 2&& !(Nat.testBit m k)&&IT x.1 m ) ( k::P8 m (k+1) l )<|P8 m (k+1) l
def al4(l:List (Nat×Nat)):Nat->Nat->OT
 |0,_=> .nil
 |n+1,m=>match ah9 0 m 0 l with
  |some p=> .q p.1 m (al4 l n (bit m p.1))
  |none=>match (match ah9 1 (ia m (P8 m 0 l)) 0 l with
    |some p=>some p
    |none=>ah9 0 (ia m (P8 m 0 l)) 0 l) with
   |none=> .nil
   |some p=> .f p.1 m (P8 m 0 l) ((P8 m 0 l).filter λf=>Nat.testBit p.2 f) (al4 l n (bit (ia m ((P8 m 0 l).filter λf=>Nat.testBit p.2 f)) p.1))
def anE{R:Type}(X:Cx)(tb:List aq)(tp:List bI)(KP:AV->aC->Option R)(ops:xJ)(fr:Fr)(th:x8)(t:OT)(st:aC)(K:cB R):Option R:=
 aA ( X.P.follows .mixedOrders&&ac6 ops (ops.toList.map λo=>fw o.after.toList) t ) (
  nu X tb tp KP ops.toList fr t (bq (λr=> !(fj (reach st fr th) r)) st.G) [] [] { st with G:=bq (fj (reach st fr th)) st.G } K ) none
def amy(fr:Fr)(st:aC):x8->x8
 |[]=>[]
 |t::th=>aA (Nat.ble 20000 t) ((match dC st.E fr.F (t-20000) with
  |some (_,v)=>AV.dZ v++(match v with
   | .ptr id _=>(match mG (wO id) st.G with
    |some (_,.box _ _ cs)=>((cs.map (sA st.G fr.H)).map AV.dZ).flatten
    |_=>[])
   |_=>[])
  |none=>[])++amy fr st th) (amy fr st th)
def PZ(fr:Fr)(st:aC)(th:x8):aC:=match amy fr st th with
 |[]=>st
 |ids=>{ st with G:=cm ids st.G }
theorem afq{st:aC}{th:x8}{ρ:ay}{T:aB}{B:Ctx}{w:World}(h:Sat (ab ρ T st.G++B) w):
  (PZ fr st th).c=st.c/\(PZ fr st th).E=st.E/\Sat (ab ρ T (PZ fr st th).G++B) w:=by
 unfold PZ;split
 .exact ⟨rfl,rfl,h⟩
 .exact ⟨rfl,rfl,iP h⟩
def IM{R:Type}(X:Cx)(tb:List aq)(tp:List bI)(KP:AV->aC->Option R)(ops:xJ)(fr:Fr)(th:x8)(st:aC)(K:cB R):Option R:=
 anE X tb tp KP ops fr th (cond (dh 40000 th) (al4 (ops.toList.map λo=>(fw o.after.toList,cond (ard o) 2 (cond (ang X.P o) 1 0))) ops.toList.length 0) (acN (ops.toList.map λo=>(fw o.after.toList,ang X.P o)) ops.toList.length 0)) (PZ fr st th) K
abbrev brk{R:Type}(i:Nat)(K:XE->aC->Option R):XE->aC->Option R
 | .ext j,st=>aA ( Nat.beq j i ) ( K .nrm st ) ( K (.ext j) st )
 |e,st=>K e st
abbrev uJ{R:Type}(K1:aC->Option R)(K:XE->aC->Option R):XE->aC->Option R
 | .nrm,st=>K1 st
 |e,st=>K e st
abbrev cnd{R:Type}(b:Bool)(d1 d2:HT->Option R)(h:HT):Option R:=match h with
 | .c p q=>cond b (d1 p) (d2 q)
 |h=>cond b (d1 h) (d2 h)
def acL(fr:Fr)(st:aC):aC:=match st.h with
 | .r (30000::th) h=>PZ fr { st with h:=h } th
 |_=>st
theorem ao1{st:aC}{ρ:ay}{T:aB}{B:Ctx}{w:World}(h:Sat (ab ρ T st.G++B) w):
  (acL fr st).c=st.c/\(acL fr st).E=st.E/\Sat (ab ρ T (acL fr st).G++B) w:=by
 unfold acL;split
 next th a _=>exact afq (st:={ st with h:=a }) h
 .exact ⟨rfl,rfl,h⟩
def alp(v:AV)(i:Nat):Option (Int×(Int->AV)):=match v with
 | .int k x=>(match i with
  |0=>some (x,.int k)
  |_=>none)
 | .agg l=>(match i with
  |0=>none
  |j+1=>(match l[j]? with
   |some (.int k x)=>some (x,λy=> .agg (l.set j (.int k y)))
   |_=>none))
 |_=>none
theorem an3{v:AV}{i:Nat}{p:Int×(Int->AV)}(h:alp v i=some p):p.2 p.1=v:=by
 unfold alp at h;split at h
 .split at h
  .cases h;rfl
  .cases h
 .split at h
  .cases h
  .rename_i l j;split at h
   next k x hx=>cases h;simp only;congr 1;obtain ⟨b,a⟩:=List.getElem?_eq_some_iff.1 hx;rw [<-a];exact List.set_getElem_self b
   .cases h
 .cases h
def abB{R:Type}(F:aF)(t i:Nat)(k:aC->Option R):x8->HT->aC->Option R
 |v::vs,h,st=>(match h with
  | .c h hs=>(match dC st.E F t with
   |some (none,av)=>(match alp av i with
    |some p=>cond (p.1==(v:Int)) (k { st with h:=h,E:=(t,none,p.2 (v:Int))::st.E }) (abB F t i k vs hs st)
    |none=>none)
   |_=>none)
  |_=>none)
 |[],h,st=>(match h with
  | .n 77777 _=>none
  |h=>k { st with h:=h })
theorem afd{R:Type}{r:R}{F:aF}{t i:Nat}{k:aC->Option R}{st:aC}:∀{vs:x8} {h:HT},abB F t i k vs h st=some r->
  ∃st',k st'=some r/\st'.c=st.c/\st'.G=st.G/\∀ρ T,iT (au ρ T st'.E F) (au ρ T st.E F)
 |[],h,hh=>by
  unfold abB at hh;split at hh
  .cases hh
  .exact ⟨_,hh,rfl,rfl,λ_ _=> .refl⟩
 |v::vs,h,hh=>by
  unfold abB at hh;split at hh
  .rename_i l f;split at hh
   .rename_i av b;split at hh
    .rename_i p hp;rcases sn hh with ⟨e,d⟩|⟨_,d⟩
     .refine ⟨_,d,rfl,rfl,λρ T u x hx=>?_⟩;have j:p.2 (v:Int)=av:=by rw [<-an3 hp,eq_of_beq e]
      have g:look (au ρ T st.E F) t=some (true,av.val ρ):=by rw [fM,b];simp
      show look (au ρ T st.E F) u=some x;rw [j] at hx;have a:look ((t,true,av.val ρ)::au ρ T st.E F) u=some x:=by simpa [au,aF.env] using hx
      unfold look at a;cases hb:Nat.beq t u
      .rw [hb] at a;exact a
      .rw [hb] at a;have:=ah hb;subst this;rw [g];exact a
     .exact afd d
    .cases hh
   .cases hh
  .cases hh
abbrev frL(fr:Fr):Fr:=⟨fr.F,da fr.H,fr.n⟩
abbrev stL(fr:Fr)(st:aC)(h:HT):aC:={ st with G:=st.G++bq cR fr.H,h:=h }
abbrev toL{R:Type}(K:XE->aC->Option R):XE->aC->Option R
 | .panE v,st=>K (.panL v) st
 |_,_=>none
abbrev aqf{R:Type}(X:Cx)(tb:List aq)(tp:List bI)(ops:xJ)(fr:Fr)(K:XE->aC->Option R)(st:aC):Option R:=
 yj X tb tp (λb v st=>K (aA b (.panL v) (.panE v)) st) ops.toList fr ops.toList [] st (K .nrm)
def den{R:Type}(X:Cx)(tb:List aq)(tp:List bI):Code->Fr->(XE->aC->Option R)->aC->Option R
 | .skip,_,K,st=>K .nrm st
 | .label _,_,K,st=>K .nrm st
 | .exit i,_,K,st=>K (.ext i) st
 | .goto l,_,K,st=>K (.gto l) st
 | .ret,_,K,st=>K .ret st
 | .block i c,fr,K,st=>den X tb tp c fr (brk i K) (acL fr st)
 | .cond c x y,fr,K,st=>match br [] st.E fr.F none c with
  |some (.bool b)=>cnd b (λh=>den X tb tp x fr K { st with h:=h }) (λh=>den X tb tp y fr K { st with h:=h }) st.h
  |_=>none
 | .seq x y,fr,K,st=>match st.h with
  | .j tm p q=>aA (st.low fr) (
   ai (λs:ew (gi tm.vs)=>den X tb tp y fr K (fS (enter fr tm (cI x) st) tm s q)) λk=>
   den X tb tp x (enter fr tm (cI x) st).fr (uJ (λst'=>match jM (enter fr tm (cI x) st) tm st'.E st'.G with
     |some s=>k s
     |none=>none) (λe st'=>K e (vN e (enter fr tm (cI x) st) st'))) ⟨(enter fr tm (cI x) st).c,(enter fr tm (cI x) st).Et,(enter fr tm (cI x) st).Gt,p⟩ ) none
  | .s h=>den X tb tp x fr (uJ (den X tb tp y fr K) K) { st with h:=h }
  | .r (60000::t::i::vs) h=>abB fr.F t i (λst=>den X tb tp x fr (uJ (den X tb tp y fr K) K) st) vs h st
  |_=>den X tb tp x fr (uJ (den X tb tp y fr K) K) st
 | .loop c,fr,K,st=>match st.h with
  | .l tm p=>aA (st.low fr) (
   match jM (enter fr tm (cI c) st) tm (enter fr tm (cI c) st).Et (enter fr tm (cI c) st).Gt with
   |some s=>aw (λagain s=>den X tb tp c (enter fr tm (cI c) st).fr (uJ (λst'=>match jM (enter fr tm (cI c) st) tm st'.E st'.G with
      |some s=>again s
      |none=>none) (λe st'=>K e (vN e (enter fr tm (cI c) st) st'))) (bP (enter fr tm (cI c) st) tm s p)) X.fl s
   |none=>none ) none
  | .n k h=>aw (λagain st=>den X tb tp c fr (uJ again K) st) k { st with h:=h }
  |_=>none
 | .region _ ops false,fr,K,st=>match st.h with
  | .r (80000::_) h=>aqf X tb tp ops (frL fr) (toL K) (stL fr st h)
  |_=>aqf X tb tp ops fr K st
 | .region _ ops true,fr,K,st=>match st.h with
  | .r th h=>IM X tb tp (λv st=>K (.gO v) st) ops fr th { st with h:=h } (K .nrm)
  |_=>IM X tb tp (λv st=>K (.gO v) st) ops fr [] st (K .nrm)
 |_,_,_,_=>none
def XE.ex:XE->Exit
 | .nrm=> .normal
 | .ret=> .ret
 | .ext i=> .exit i
 | .gto l=> .goto l
 | .gO _=> .goto 0
 | .panE _=> .goto 0
 | .panL _=> .goto 0
def KS(Q:bu)(e:XE)(ρ:ay)(n:Nat)(D:v7)(E:Env)(w:World):Prop:=match e with
 | .gO v=>BE Q (gO (v.val ρ)) D w
 | .panE v=>At Q (.panic (gO (v.val ρ))) n D E w
 | .panL v=>At Q (.panic (gO (v.val ρ))) n D E w
 |e=>At Q e.ex n D E w
abbrev hx(e:XE)(fr:Fr):List Row:=match e with
 | .panL _=>da fr.H
 |_=>fr.H
def iG{R:Type}(Q:bu)(D:v7)(fr:Fr)(Φ:Ctx)(c0:Nat)(ρ0:ay)(r:R)(K:XE->aC->Option R):Prop:=
 ∀e st ρ w,aT c0 ρ0 ρ->c0<=st.c->K e st=some r->Sat (ab ρ [] st.G++(ab ρ [] (hx e fr)++Φ)) w->KS Q e ρ fr.n D (au ρ [] st.E fr.F) w
theorem iG.less{R:Type}{Q:bu}{D:v7}{Φ:Ctx}{b c1:Nat}{ρ0 a:ay}{r:R}{K:XE->aC->Option R}(h:iG Q D fr Φ b ρ0 r K)(ha:aT b ρ0 a)(hc:b<=c1):iG Q D fr Φ c1 a r K:=
 λe st ρ w g f d c=>h e st ρ w (ha.trans g hc) (cg hc f) d c
section
variable {P : Program} {ρ : xb} {Q : bu} {n : Nat} {D : v7} {E : Env} {w : World}
theorem Ro{σ γ τ:Type}{F:(σ->Option τ)->σ->Option τ}{r:τ}(J:σ->γ->World->Prop)(c:σ->γ->Env){body:Code}
  {N:Nat} {b:σ} (k:aw F N b=some r) (f:γ) (u:J b f w) (q:iT (c b f) E)
  (round:∀again s g w,F again s=some r->J s g w->WC P ρ body (Exit.then (MX again r J c n D) Q) n D (c s g) w):
  WC P ρ (.loop body) Q n D E w:=λa l hd=>
 Gd (λm=>MX (aw F m) r J c n D) N ⟨b,f,k,u,l.lK q,hd⟩ λm a w ⟨s,g,j,o,p,t⟩=>by
  obtain ⟨i,rfl,d⟩:=MI j;exact wpIn_mono (round (aw F i) s g w d o a p t) λe a w h=>by cases e <;> first|exact h|exact ⟨i,qh _,h⟩
theorem MA{σ γ τ:Type}{a:σ->Option τ}{r:τ}{J:σ->γ->World->Prop}{b:σ->γ->Env}
  (s:σ) (g:γ) (d:a s=some r) (f:J s g w) (c:iT (b s g) E):At (Exit.then (MX a r J b n D) Q) .normal n D E w:=
 λh e hd=>⟨s,g,d,f,e.lK c,hd⟩
theorem amt{γ:Type}{J:γ->World->Prop}{a:γ->Env}(g:γ)(d:J g w)(b:iT (a g) E):At (Exit.then (P1 J a n D) Q) .normal n D E w:=
 λe c hd=>⟨g,d,c.lK b,hd⟩
theorem gq{K:Act->World->Prop}{e:XE}{ρ:ay}(a:e≠ .nrm)(h:KS Q e ρ n D E w):KS (Exit.then K Q) e ρ n D E w:=by cases e <;> first|exact (a rfl).elim|exact h
end
section
variable {X : Cx} {tb : List aq} {tp : List bI} {σ : xb} {D : v7} {R : Type} {r : R} {Φ : Ctx}
theorem QJ{Q:bu}{k i:Nat}{ρ0:ay}{K:XE->aC->Option R}(h:iG Q D fr Φ k ρ0 r K):iG (Exit.inBlock i Q) D fr Φ k ρ0 r (brk i K):=λe st ρ w d c b a=>by
 cases e with
 |nrm=>exact Za (h .nrm st ρ w d c b a)
 |ret=>exact agM (h .ret st ρ w d c b a)
 |gto l=>exact ae4 (h (.gto l) st ρ w d c b a)
 |gO v=>exact anU (h (.gO v) st ρ w d c b a)
 |panE v=>exact Ma (h (.panE v) st ρ w d c b a)
 |panL v=>exact Ma (h (.panL v) st ρ w d c b a)
 |ext j=>
  unfold brk at b;rcases dq b with ⟨g,f⟩|⟨g,f⟩
  .have:=ah g;subst this;exact aes (h .nrm st ρ w d c f a)
  .exact abi g (h (.ext j) st ρ w d c f a)
theorem lR{b:aC->Option R}{K:XE->aC->Option R}{e:XE}{st:aC}(a:e≠ .nrm):uJ b K e st=K e st:=by cases e <;> first|exact (a rfl).elim|rfl
theorem sR{Q:bu}{d:Nat}{ρ0 a:ay}{en:En}{K:XE->aC->Option R}(h:iG Q D fr Φ d ρ0 r K)(ag:aT d ρ0 a)(le:d<=en.c)(ff:en.fr.F=en.E++fr.F)(fh:en.fr.H=en.G++fr.H)(fn:en.fr.n=fr.n):
  ∀e st ρ w,aT en.c a ρ->en.c<=st.c->K e (vN e en st)=some r->Sat (ab ρ [] st.G++(ab ρ [] (hx e en.fr)++Φ)) w->KS Q e ρ en.fr.n D (au ρ [] st.E en.fr.F) w:=λe st ρ w l k j g=>by
 have hc:(vN e en st).c=st.c:=by cases e <;> rfl
 have i:(vN e en st).E=st.E++en.E:=by cases e <;> rfl
 have:=h e (vN e en st) ρ w (ag.trans l le) (cg le (by rw [hc];exact k)) j (by
  have f:∀(A B:List Row),Sat (ab ρ [] st.G++(ab ρ [] (A++B)++Φ)) w->Sat (ab ρ [] (st.G++A)++(ab ρ [] B++Φ)) w:=λA B h=>by rw [bk,aO];rw [bk,aO] at h;exact h
  cases e with
  |panL v=>
   have b:Sat (ab ρ [] st.G++(ab ρ [] (da en.fr.H)++Φ)) w:=g;rw [fh,K9] at b;exact f _ _ b
  |_=>
   have b:Sat (ab ρ [] st.G++(ab ρ [] en.fr.H++Φ)) w:=g;rw [fh] at b;exact f _ _ b)
 rw [fn,ff];have m:au ρ [] st.E (en.E++fr.F)=au ρ [] (vN e en st).E fr.F:=by rw [i];show aF.env ρ [] st.E++aF.env ρ [] (en.E++fr.F)=aF.env ρ [] (st.E++en.E)++aF.env ρ [] fr.F;rw [mD,mD,aO]
 rw [m];exact this
theorem alb{Q:bu}{b:Nat}{ρ0:ay}{K:XE->aC->Option R}(h:iG Q D fr Φ b ρ0 r K):iG Q D (frL fr) Φ b ρ0 r (toL K):=λe st ρ w f d a c=>by
 cases e with
 |panE v=>exact h (.panL v) st ρ w f d a c
 |_=>cases a
theorem aoO{st:aC}{ρ:ay}{w:World}{d:HT}(b:Sat (ab ρ [] st.G++(ab ρ [] fr.H++Φ)) w):Sat (ab ρ [] (stL fr st d).G++(ab ρ [] (frL fr).H++Φ)) w:=by
 have a:=oN (p:=cR) (G:=fr.H) (H:=[]) (A:=ab ρ [] st.G) (Φ:=Φ) b;have c:∀H:List Row,bq (λr=> !(cR r)) H=da H:=λH=>by
  induction H with
  |nil=>rfl
  |cons r H ih=>
   show aA (!(!r.cF)) (r::bq _ H) (bq _ H)=aA r.cF (r::da H) (da H);rw [ih,Bool.not_not]
 rw [iq,c] at a;show Sat (ab ρ [] (st.G++bq cR fr.H)++(ab ρ [] (da fr.H)++Φ)) w;rw [bk,aO];exact a
theorem af5{Q:bu}{st:aC}{ρ:ay}{w:World}{K:XE->aC->Option R}(i:∀it∈X.Γ,it∈Φ)(k:∀e∈tb,e.Ok X.P X.Γ)(j:∀e∈tp,e.Ok X.P X.Γ){id:Nat}{ops:xJ}(p:Sat (ab ρ [] st.G++(ab ρ [] fr.H++Φ)) w)
  (h:yj X tb tp (λb v st=>K (aA b (.panL v) (.panE v)) st) ops.toList fr ops.toList [] st (K .nrm)=some r) (m:iG Q D fr Φ st.c ρ r K):WC X.P σ (.region id ops false) Q fr.n D (au ρ [] st.E fr.F) w:=by
 obtain ⟨l⟩:=ops;exact bh (WO i k j (λx h=>by cases h) (λx h=>by cases h) ⟨λx _=>rfl,λx _=>rfl⟩ p h (λst' ρ' w' g f d a=>m .nrm st' ρ' w' g f d a) (λo v st' ρ' w' g f d a=>by
  cases o
  .exact m (.panE v) st' ρ' w' g f d a
  .exact m (.panL v) st' ρ' w' g f d a))
theorem Qn{Q:bu}{st:aC}{ρ:ay}{w:World}{K:XE->aC->Option R}(d:∀it∈X.Γ,it∈Φ)(g:∀e∈tb,e.Ok X.P X.Γ)(f:∀e∈tp,e.Ok X.P X.Γ){id:Nat}{ops:xJ}{th:x8}(a:Sat (ab ρ [] st.G++(ab ρ [] fr.H++Φ)) w)
  (h:IM X tb tp (λv st=>K (.gO v) st) ops fr th st (K .nrm)=some r) (b:iG Q D fr Φ st.c ρ r K):WC X.P σ (.region id ops true) Q fr.n D (au ρ [] st.E fr.F) w:=by
 obtain ⟨l⟩:=ops;unfold IM at h;generalize cond (dh 40000 th) _ _=t at h;obtain ⟨u,s,a⟩:=afq (fr:=fr) (th:=th) a;rw [<-u] at b;rw [<-s];generalize PZ fr st th=st at h a b;unfold anE at h;obtain ⟨j,z⟩:=aI h;simp only [ae] at j;refine uM _ t j.1 j.2 (λw1 y=>?_);have i:=oN (A:=[]) (p:=fj (reach st fr th)) (a.ext y);exact DO.wd (ao0 (EV:=[]) (st:={ st with G:=bq (fj (reach st fr th)) st.G }) d g f (λx h=>by cases h) (λx h=>by cases h) ⟨λx _=>rfl,λx _=>rfl⟩ (λx h=>by cases h) (λx h=>by cases h) i (λp h=>by cases h) z (λst' ρ' w' q o m k=>b .nrm st' ρ' w' q o m k) (λv st' ρ' w' q o m k=>b (.gO v) st' ρ' w' q o m k))
theorem RO{b:Bool}{f d2:HT->Option R}{h:HT}(d:cnd b f d2 h=some r):∃p q,(b=true->f p=some r)/\(b=false->d2 q=some r):=by
 unfold cnd at d;split at d
 .rename_i p q;rcases sn d with ⟨c,a⟩|⟨c,a⟩
  .exact ⟨p,q,λ_=>a,λe=>by rw [c] at e;cases e⟩
  .exact ⟨p,q,(λe=>by rw [c] at e;cases e),λ_=>a⟩
 .rcases sn d with ⟨c,a⟩|⟨c,a⟩
  .exact ⟨_,h,λ_=>a,λe=>by rw [c] at e;cases e⟩
  .exact ⟨h,_,(λe=>by rw [c] at e;cases e),λ_=>a⟩
theorem fa(j:∀it∈X.Γ,it∈Φ)(t:∀e∈tb,e.Ok X.P X.Γ)(o:∀e∈tp,e.Ok X.P X.Γ):∀(c:Code) {Q:bu} {fr:Fr} {K:XE->aC->Option R} {st:aC} {ρ:ay} {w:World},Sat (ab ρ [] st.G++(ab ρ [] fr.H++Φ)) w->
  den X tb tp c fr K st=some r->iG Q D fr Φ st.c ρ r K->WC X.P σ c Q fr.n D (au ρ [] st.E fr.F) w
 | .skip,Q,fr,K,st,ρ,w,hs,h,hK=>po (hK .nrm st ρ w .refl (bb _) (by unfold den at h;exact h) hs)
 | .label _,Q,fr,K,st,ρ,w,hs,h,hK=>adp (hK .nrm st ρ w .refl (bb _) (by unfold den at h;exact h) hs)
 | .exit i,Q,fr,K,st,ρ,w,hs,h,hK=>WT (hK (.ext i) st ρ w .refl (bb _) (by unfold den at h;exact h) hs)
 | .goto l,Q,fr,K,st,ρ,w,hs,h,hK=>af6 (hK (.gto l) st ρ w .refl (bb _) (by unfold den at h;exact h) hs)
 | .ret,Q,fr,K,st,ρ,w,hs,h,hK=>uN (hK .ret st ρ w .refl (bb _) (by unfold den at h;exact h) hs)
 | .block i c,Q,fr,K,st,ρ,w,hs,h,hK=>by
  obtain ⟨z1,z2,z3⟩:=ao1 (fr:=fr) hs;unfold den at h;rw [<-z2];rw [<-z1] at hK;exact Rh (fa j t o c z3 h (QJ hK))
 | .cond c x y,Q,fr,K,st,ρ,w,hs,h,hK=>by
  unfold den at h;split at h
  next b hb=>have hc:=bE (ρ:=ρ) hb;simp only [AV.val] at hc;obtain ⟨p,q,h1,S⟩:=RO h;exact iJ hc (λhb=>fa j t o x (st:={ st with h:=p }) hs (h1 hb) hK) (λhb=>fa j t o y (st:={ st with h:=q }) hs (S hb) hK)
  .cases h
 | .seq x y,Q,fr,K,st,ρ,w,hs,h,hK=>by
  have N:∀T,den X tb tp x fr (uJ (den X tb tp y fr K) K) { st with h:=T }=some r->WC X.P σ (.seq x y) Q fr.n D (au ρ [] st.E fr.F) w:=λT hd=>by
   refine bn (fa j t o x (st:={ st with h:=T }) hs hd (λe st' ρ' w' I M z C=>?_));by_cases v:e= .nrm
   .subst v;exact bd (fa j t o y C z (hK.less I M))
   .rw [lR v] at z;exact gq v (hK e st' ρ' w' I M z C)
  unfold den at h;split at h
  .rename_i tm p q Y;obtain ⟨hl,S⟩:=aI h;obtain ⟨J,en⟩:=vW (tm:=tm) (m:=cI x) hl hs;generalize enter fr tm (cI x) st=f at S en;unfold ai at S;refine agH (γ:=ew (gi tm.vs)×ay) (λg w'=>den X tb tp y fr K (fS f tm g.1 q)=some r/\aT f.c J g.2/\Sat (ab g.2 [] (fS f tm g.1 q).G++(ab g.2 [] fr.H++Φ)) w') (λg=>au g.2 [] (fS f tm g.1 q).E fr.F) (λg w' hg=>?_) ?_
   .obtain ⟨g1,g2,g3⟩:=hg;refine fa j t o y g3 g1 (hK.less (en.ag.trans g2 en.le) ?_);have:f.c<=(fS f tm g.1 q).c:=by unfold fS;generalize eZ (λn=>f.c+n) f.fix tm.vs 0 (fL _ g.1)=L;obtain ⟨a,b,c,d⟩:=L;exact qz _ _
    exact cg en.le this
   .have hx:=fa j t o x (fr:=f.fr) (st:=⟨f.c,f.Et,f.Gt,p⟩) (ρ:=J) (Q:=Exit.then (P1 (λ(g:ew (gi tm.vs)×ay) w'=>den X tb tp y fr K (fS f tm g.1 q)=some r/\aT f.c J g.2/\Sat (ab g.2 [] (fS f tm g.1 q).G++(ab g.2 [] fr.H++Φ)) w') (λg=>au g.2 [] (fS f tm g.1 q).E fr.F) fr.n D) Q) en.sat S (λe st' ρ' w' I M z C=>?_)
    .rw [en.fn] at hx;exact hx.lK _ en.sub
    .by_cases v:e= .nrm
     .subst v;have B:(match jM f tm st'.E st'.G with|some s=>den X tb tp y fr K (fS f tm s q)|none=>none)=some r:=z;split at B
      .rename_i s hb;obtain ⟨u,E',V,k,DD,b1,b2,b3,b4⟩:=nk en.lF en.lH en.fx C hb;have eJ:fS f tm s q=⟨f.c+k,E'++f.E,rowsOf V++f.G,q⟩:=by unfold fS;rw [b1]
       rw [en.fn];refine amt (s,u) ⟨B,I.trans b2 (bb _),?_⟩ ?_
       .rw [eJ];show Sat (ab u [] (rowsOf V++f.G)++_) w';rw [bk,aO];rw [en.fh,bk,aO] at b4;exact b4
       .rw [eJ];show iT (aF.env u [] (E'++f.E)++_) _;rw [en.ff] at b3;have e2:au u [] E' (f.E++fr.F)=aF.env u [] (E'++f.E)++aF.env u [] fr.F:=by show aF.env u [] E'++aF.env u [] (f.E++fr.F)=_;rw [mD,mD,aO]
        rw [<-e2,en.ff];exact b3
      .cases B
     .rw [lR v] at z;have:=sR hK en.ag en.le en.ff en.fh en.fn e st' ρ' w' I M z C;exact gq v this
  next T Y=>exact N T h
  .obtain ⟨st',k1,k2,k3,k4⟩:=afd h;have hs':Sat (ab ρ [] st'.G++(ab ρ [] fr.H++Φ)) w:=by rw [k3];exact hs
   have W:iG Q D fr Φ st'.c ρ r K:=by rw [k2];exact hK
   refine WC.lK _ (k4 ρ []) (bn (fa j t o x (st:=st') hs' k1 (λe st2 ρ' w' I M z C=>?_)));by_cases v:e= .nrm
   .subst v;exact bd (fa j t o y C z (W.less I M))
   .rw [lR v] at z;exact gq v (W e st2 ρ' w' I M z C)
  .exact N st.h h
 | .loop c,Q,fr,K,st,ρ,w,hs,h,hK=>by
  unfold den at h;split at h
  .rename_i tm p Y;obtain ⟨hl,S⟩:=aI h;obtain ⟨J,en⟩:=vW (tm:=tm) (m:=cI c) hl hs;generalize enter fr tm (cI c) st=f at S en;split at S
   .rename_i s0 hb0;obtain ⟨u,E',V,k,DD,b1,b2,b3,b4⟩:=nk en.lF en.lH en.fx en.sat hb0;have Z:∀s E' V k DD,eZ (λn=>f.c+n) f.fix tm.vs 0 (fL _ s)=⟨E',V,k,DD⟩->bP f tm s p=⟨f.c+k,E',rowsOf V,p⟩:=λs E' V k DD hb=>by unfold bP;rw [hb]
    refine Ro (γ:=ay) (λs g w'=>aT f.c J g/\Sat (ab g [] (bP f tm s p).G++(ab g [] f.fr.H++Φ)) w') (λs g=>au g [] (bP f tm s p).E f.fr.F) S u ⟨b2,?_⟩ ?_ (λA s g w' U O=>?_)
    .rw [Z _ _ _ _ _ b1];exact b4
    .rw [Z _ _ _ _ _ b1];exact b3.trans en.sub
    .have hx:=fa j t o c (fr:=f.fr) (st:=bP f tm s p) (ρ:=g) (Q:=Exit.then (MX A r (λs g w'=>aT f.c J g/\Sat (ab g [] (bP f tm s p).G++(ab g [] f.fr.H++Φ)) w') (λs g=>au g [] (bP f tm s p).E f.fr.F) fr.n D) Q) O.2 U (λe st' ρ' w2 I M z C=>?_)
     .rw [en.fn] at hx;exact hx
     .have hc:f.c<=(bP f tm s p).c:=by unfold bP;generalize eZ (λn=>f.c+n) f.fix tm.vs 0 (fL _ s)=L;obtain ⟨a,b,c,d⟩:=L;exact qz _ _
      by_cases v:e= .nrm
      .subst v;have B:(match jM f tm st'.E st'.G with|some s=>A s|none=>none)=some r:=z;split at B
       .rename_i s' hb;obtain ⟨ρ3,E2,R2,k2,DD2,d1,d2,d3,d4⟩:=nk en.lF en.lH en.fx C hb;rw [en.fn];refine MA s' ρ3 B ⟨(O.1.trans (I.less hc) (bb _)).trans d2 (bb _),?_⟩ ?_
        .rw [Z _ _ _ _ _ d1];exact d4
        .rw [Z _ _ _ _ _ d1];exact d3
       .cases B
      .rw [lR v] at z;have:=sR hK en.ag en.le en.ff en.fh en.fn e st' ρ' w2 (O.1.trans (I.less hc) (bb _)) (cg hc M) z C;exact gq v this
   .cases S
  .rename_i k T Y;refine Ro (γ:=ay) (λs g w'=>aT st.c ρ g/\st.c<=s.c/\Sat (ab g [] s.G++(ab g [] fr.H++Φ)) w') (λs g=>au g [] s.E fr.F) h ρ ⟨.refl,bb _,hs⟩ .refl (λA s g w' U O=>?_);refine fa j t o c (st:=s) O.2.2 U (λe st' ρ' w2 I M z C=>?_);by_cases v:e= .nrm
   .subst v;exact MA st' ρ' z ⟨O.1.trans I O.2.1,cg O.2.1 M,C⟩ .refl
   .rw [lR v] at z;exact gq v (hK e st' ρ' w2 (O.1.trans I O.2.1) (cg O.2.1 M) z C)
  .cases h
 | .region id ops false,Q,fr,K,st,ρ,w,hs,h,hK=>by
  unfold den at h;split at h
  .exact af5 (fr:=frL fr) (st:=stL fr st _) j t o (aoO hs) h (alb hK)
  .exact af5 j t o hs h hK
 | .region id ops true,Q,fr,K,st,ρ,w,hs,h,hK=>by
  unfold den at h;split at h
  next th T Y=>exact Qn (st:={ st with h:=T }) j t o hs h hK
  .exact Qn j t o hs h hK
 | .scope _,Q,fr,K,st,ρ,w,hs,h,hK=>by unfold den at h;cases h
 | .rangeFunc _ _ _ _,Q,fr,K,st,ρ,w,hs,h,hK=>by unfold den at h;cases h
end
def mI(l:Nat):Code->Bool
 | .label j=>j==l
 | .seq x y=>mI l x||mI l y
 |_=>false
theorem aoe{l:Nat}:(c:Code)->mI l c=false->findLabel c l=none:=λc=>by
 induction c with
 |label j=>
  intro h;unfold mI at h;unfold findLabel;rw [h];rfl
 |seq x y b a=>
  intro h;simp only [mI,qD] at h;simp only [findLabel,b h.1,a h.2]
 |_=>intro _;rfl
theorem ace{l:Nat}:(c:Code)->mI l c=true->∃r,findLabel c l=some r:=λc=>by
 induction c with
 |label j=>
  intro h;unfold mI at h;unfold findLabel;rw [h];exact ⟨_,rfl⟩
 |seq x y b a=>
  intro h;simp only [mI,c5] at h;unfold findLabel;cases hx:findLabel x l with
  |some r=>exact ⟨_,rfl⟩
  |none=>
   rcases h with h|h
   .obtain ⟨r,d⟩:=b h;rw [hx] at d;cases d
   .exact a h
 |_=>intro h;cases h
def F8(P:Program)(ρ:xb)(l:Nat):Code->bu->bu
 | .seq x y,Q=>aA (mI l x) (F8 P ρ l x (Exit.then (y.wpIn (FW ρ) 0 P Q) Q)) (F8 P ρ l y Q)
 |_,Q=>Q
theorem akI{P:Program}{ρ:xb}{l:Nat}:(c:Code)->{r:Code}->{Q:bu}->{a:Act}->{w:World}->findLabel c l=some r->F8 P ρ l c Q .normal a w->r.wpIn (FW ρ) 0 P Q a w:=λc=>by
 induction c with
 |label j=>
  intro r Q a w b h;unfold findLabel at b;split at b
  .cases b;exact wpIn_skip h
  .cases b
 |seq x y f e=>
  intro r Q a w b h;unfold F8 at h;unfold findLabel at b;cases hx:mI l x
  .rw [hx] at h;rw [aoe x hx] at b;exact e b h
  .rw [hx] at h;obtain ⟨g,d⟩:=ace x hx;rw [d] at b;cases b;exact wpIn_seq (f d h)
 |_=>intro r Q a w b h;cases b
def BH(l:Nat):Code->Nat
 | .seq x y=>aA (mI l x) (Nat.lor (BH l x) (cI y)) (BH l y)
 |_=>0
def yf(st:aC):aC:=match st.h with
 | .s h=>{ st with h:=h }
 |_=>st
abbrev gtk{R:Type}(l:Nat)(A:aC->Option R)(K:XE->aC->Option R):XE->aC->Option R
 | .gto j,st=>aA (Nat.beq j l) (A st) none
 |e,st=>K e st
def M7{R:Type}(X:Cx)(tb:List aq)(tp:List bI)(l:Nat)(fr:Fr):Code->(XE->aC->Option R)->aC->Option R
 | .seq x y,K,st=>aA (mI l x) (M7 X tb tp l fr x (uJ (den X tb tp y fr K) K) st) (M7 X tb tp l fr y K st)
 | .label _,K,st=>K .nrm st
 |_,_,_=>none
def Mk{R:Type}(X:Cx)(tb:List aq)(tp:List bI)(l:Nat)(fr:Fr)(K:XE->aC->Option R)(KL:aC->Option R):Code->aC->Option R
 | .seq x y,st=>aA (mI l x) (Mk X tb tp l fr K KL x (yf st)) (den X tb tp x fr (uJ (λst=>Mk X tb tp l fr K KL y st) K) (yf st))
 | .label _,st=>KL st
 |_,_=>none
def amL{R:Type}(X:Cx)(tb:List aq)(tp:List bI)(c:Code)(fr:Fr)(K:XE->aC->Option R)(st:aC):Option R:=match st.h with
 | .n l (.j tm p q)=>aA (mI l c) (
   Mk X tb tp l fr (gtk l (λ_=>none) K) (λst1=>aA (st1.low fr) (
     match jM (enter fr tm (BH l c) st1) tm (enter fr tm (BH l c) st1).Et (enter fr tm (BH l c) st1).Gt with
     |some s=>aw (λagain s=>M7 X tb tp l (enter fr tm (BH l c) st1).fr c (gtk l (λst'=>match jM (enter fr tm (BH l c) st1) tm st'.E st'.G with
       |some s=>again s
       |none=>none) (λe st'=>K e (vN e (enter fr tm (BH l c) st1) st'))) (bP (enter fr tm (BH l c) st1) tm s q)) X.fl s
     |none=>none) none) c { st with h:=p }) none
 |_=>none
section
variable {X : Cx} {tb : List aq} {tp : List bI} {σ : xb} {D : v7} {R : Type} {r : R} {Φ : Ctx}
theorem agf{Q:bu}{l n:Nat}{E:Env}{w:World}{e:XE}{ρ:ay}{J:Act->World->Prop}(a:∀j,e≠ .gto j)(h:KS Q e ρ n D E w):KS (Exit.jump l J Q) e ρ n D E w:=by cases e <;> first|exact ((a _) rfl).elim|exact h
theorem alw{l:Nat}(k:∀it∈X.Γ,it∈Φ)(o:∀e∈tb,e.Ok X.P X.Γ)(m:∀e∈tp,e.Ok X.P X.Γ):∀(c:Code) {Q:bu} {fr:Fr} {K:XE->aC->Option R} {st:aC} {ρ:ay} {w:World},Sat (ab ρ [] st.G++(ab ρ [] fr.H++Φ)) w->
  M7 X tb tp l fr c K st=some r->iG Q D fr Φ st.c ρ r K->∀a,Fits fr.n (au ρ [] st.E fr.F) a->a.defers=D->F8 X.P σ l c Q .normal a w:=λc=>by
 induction c with
 |label j=>intro Q fr K st ρ w b h d a f hd;exact d .nrm st ρ w .refl (bb _) h b a f hd
 |seq x y i g=>
  intro Q fr K st ρ w b h d a f hd;unfold M7 at h;unfold F8;cases hx:mI l x
  .rw [hx] at h;exact g b h d a f hd
  .rw [hx] at h;refine i (Q:=Exit.then (y.wpIn (FW σ) 0 X.P Q) Q) b h (λe st' ρ' w' u t q s=>?_) a f hd;by_cases p:e= .nrm
   .subst p;exact bd (fa k o m y s q (d.less u t))
   .rw [lR p] at q;exact gq p (d e st' ρ' w' u t q s)
 |_=>intro Q fr K st ρ w b h;cases h
theorem afU{st:aC}:(yf st).c=st.c/\(yf st).E=st.E/\(yf st).G=st.G:=by unfold yf;split <;> exact ⟨rfl,rfl,rfl⟩
theorem akm{l:Nat}(t:∀it∈X.Γ,it∈Φ)(v:∀e∈tb,e.Ok X.P X.Γ)(u:∀e∈tp,e.Ok X.P X.Γ){T:bu}{fr:Fr}{K:XE->aC->Option R}{U:aC->Option R}{m:Nat}{ρ0:ay}(V:iG T D fr Φ m ρ0 r K):∀(c:Code) {Q:bu} {st:aC} {ρ:ay} {w:World},
  (∀e (E:Env) (ρ:ay) w,e≠ .nrm->KS T e ρ fr.n D E w->KS Q e ρ fr.n D E w)->
  (∀st1 b w1,aT m ρ0 b->m<=st1.c->U st1=some r->Sat (ab b [] st1.G++(ab b [] fr.H++Φ)) w1->∀a,Fits fr.n (au b [] st1.E fr.F) a->a.defers=D->F8 X.P σ l c Q .normal a w1)->
  mI l c=true->aT m ρ0 ρ->m<=st.c->Sat (ab ρ [] st.G++(ab ρ [] fr.H++Φ)) w->
  Mk X tb tp l fr K U c st=some r->WC X.P σ c Q fr.n D (au ρ [] st.E fr.F) w:=λc=>by
 induction c with
 |label j=>intro Q st ρ w i k _ ha hc o h;exact adp (λa g hd=>k st ρ w ha hc h o a g hd)
 |seq x y s q=>
  intro Q st ρ w i k p ha hc o h;obtain ⟨O,N,M⟩:=afU (st:=st);unfold Mk at h;cases hx:mI l x
  .rw [hx] at h;simp only [mI,hx,qv] at p;refine bn ?_;have:=fa (σ:=σ) (D:=D) t v u x (fr:=fr) (st:=yf st) (ρ:=ρ) (w:=w) (Q:=Exit.then (y.wpIn (FW σ) 0 X.P Q) Q) (by rw [M];exact o) h (λe st' ρ' w' L J I S=>?_)
   .rw [N] at this;exact this
   .rw [O] at L J;by_cases d:e= .nrm
    .subst d;refine bd (q i (λst1 b w1 C B A z a g hd=>?_) p (ha.trans L hc) (cg hc J) S I);have:=k st1 b w1 C B A z a g hd;unfold F8 at this;rw [hx] at this;exact this
    .rw [lR d] at I;exact gq d (i _ _ _ _ d (V e st' ρ' w' (ha.trans L hc) (cg hc J) I S))
  .rw [hx] at h;refine bn ?_;have:=s (Q:=Exit.then (y.wpIn (FW σ) 0 X.P Q) Q) (st:=yf st) (ρ:=ρ) (w:=w) (λe E ρ w f d=>gq f (i e E ρ w f d)) (λst1 b w1 C B A z a g hd=>?_) hx ha (by rw [O];exact hc) (by rw [M];exact o) h
   .rw [N] at this;exact this
   .have:=k st1 b w1 C B A z a g hd;unfold F8 at this;rw [hx] at this;exact this
 |_=>intro Q st ρ w i k p;cases p
theorem an2{c:Code}{Q:bu}{K:XE->aC->Option R}{st:aC}{ρ:ay}{w:World}(Y:∀it∈X.Γ,it∈Φ)(htb:∀e∈tb,e.Ok X.P X.Γ)(Z:∀e∈tp,e.Ok X.P X.Γ)(hs:Sat (ab ρ [] st.G++(ab ρ [] fr.H++Φ)) w)
  (h:amL X tb tp c fr K st=some r) (hK:iG Q D fr Φ st.c ρ r K):WC X.P σ (.scope c) Q fr.n D (au ρ [] st.E fr.F) w:=by
 unfold amL at h;split at h
 .rename_i l tm p q hh;obtain ⟨B,h0⟩:=aI h;obtain ⟨rest,v⟩:=ace c B
  -- what holds at the label
  let F:En->(ew (gi tm.vs)->Option R)->ew (gi tm.vs)->Option R:=λf J s=>M7 X tb tp l f.fr c (gtk l (λst'=>match jM f tm st'.E st'.G with
     |some s=>J s
     |none=>none) (λe st'=>K e (vN e f st'))) (bP f tm s q)
  let I:Nat->Act->World->Prop:=λm a w=>∃(f:En) (o:ay),(f.fr.F=f.E++fr.F/\f.fr.H=f.G++fr.H/\f.fr.n=fr.n/\aF.low f.c f.fr.F=true/\bC f.c f.fr.H=true/\(∀t q,f.fix t=some q->q.1.low f.c=true/\AV.bX f.c q.2=true))/\aT st.c ρ o/\st.c<=f.c/\
   MX (aw (F f) m) r (λs (g:ay) w'=>aT f.c o g/\Sat (ab g [] (bP f tm s q).G++(ab g [] f.fr.H++Φ)) w') (λs g=>au g [] (bP f tm s q).E f.fr.F) fr.n D a w
  have i:∀m a w,I m a w->F8 X.P σ l c (Exit.jump l (λC w'=>∃N<m,I N C w') Q) .normal a w:=by
   rintro m a w ⟨f,o,⟨ff,fh,fn,lF,lH,fx⟩,hag,hle,s,g,hm,hJ,hF,hD⟩;obtain ⟨N,rfl,hm'⟩:=MI hm;have eL:∀s E' R' k DD,eZ (λn=>f.c+n) f.fix tm.vs 0 (fL _ s)=⟨E',R',k,DD⟩->bP f tm s q=⟨f.c+k,E',rowsOf R',q⟩:=λs E' R' k DD hb=>by unfold bP;rw [hb]
   have hc:f.c<=(bP f tm s q).c:=by unfold bP;generalize eZ (λn=>f.c+n) f.fix tm.vs 0 (fL _ s)=L;obtain ⟨a,b,c,d⟩:=L;exact qz _ _
   refine alw (σ:=σ) (D:=D) Y htb Z c (fr:=f.fr) (st:=bP f tm s q) (ρ:=g) (Q:=Exit.jump l (λC w'=>∃m''<N+1,I m'' C w') Q) hJ.2 hm' (λe st' ρ' w2 U T A S=>?_) a (by rw [fn];exact hF) hD;by_cases u:∃j,e= .gto j
   .obtain ⟨j,rfl⟩:=u;unfold gtk at A;obtain ⟨hj,O⟩:=aI A;have:=ah hj;subst this;dsimp only at O;split at O
    .rename_i s' hb;obtain ⟨V,E2,R2,k2,DD2,d1,d2,d3,d4⟩:=nk lF lH fx S hb;refine λa2' hf2 hd2=>⟨rfl,N,qh _,f,o,⟨ff,fh,fn,lF,lH,fx⟩,hag,hle,s',V,O,⟨(hJ.1.trans (U.less hc) (bb _)).trans d2 (bb _),?_⟩,?_,hd2⟩
     .rw [eL _ _ _ _ _ d1];exact d4
     .rw [fn] at hf2;show Fits fr.n (au V [] (bP f tm s' q).E f.fr.F) a2';rw [eL _ _ _ _ _ d1];exact hf2.lK d3
    .cases O
   .have z:∀j,e≠ .gto j:=λj hj=>u ⟨j,hj⟩;have M:K e (vN e f st')=some r:=by cases e <;> first|exact ((z _) rfl).elim|exact A
    exact agf z (sR hK hag hle ff fh fn e st' ρ' w2 (hJ.1.trans (U.less hc) (bb _)) (cg hc T) M S)
  refine λa hf hd=>R5 l I v ?_ (λm a w hI=>akI c v (i m a w hI))
  -- the way to the label
  have hK':iG (Exit.jump l (λa w=>∃m,I m a w) Q) D fr Φ st.c ρ r (gtk l (λ_=>none) K):=λe st1 ρ' w' U T A S=>by
   by_cases u:∃j,e= .gto j
   .obtain ⟨j,rfl⟩:=u;unfold gtk at A;obtain ⟨_,O⟩:=aI A;cases O
   .have z:∀j,e≠ .gto j:=λj hj=>u ⟨j,hj⟩;have M:K e st1=some r:=by cases e <;> first|exact ((z _) rfl).elim|exact A
    exact agf z (hK e st1 ρ' w' U T M S)
  refine akm (σ:=σ) Y htb Z hK' c (Q:=Exit.jump l (λa w=>∃m,I m a w) Q) (st:={ st with h:=p }) (ρ:=ρ) (λ_ _ _ _ _ h=>h) (λst1 ρ' w' U T A S C hf' hd'=>?_) B .refl (bb _) hs h0 a hf hd;obtain ⟨hl,h2⟩:=aI A;obtain ⟨o,en⟩:=vW (tm:=tm) (m:=BH l c) hl S;generalize enter fr tm (BH l c) st1=f at h2 en;split at h2
  .rename_i s0 hb0;obtain ⟨W,E',R',k,DD,b1,b2,b3,b4⟩:=nk en.lF en.lH en.fx en.sat hb0;have eL:bP f tm s0 q=⟨f.c+k,E',rowsOf R',q⟩:=by unfold bP;rw [b1]
   have key:I X.fl C w':=by
    refine ⟨f,o,⟨en.ff,en.fh,en.fn,en.lF,en.lH,en.fx⟩,U.trans en.ag T,cg T en.le,s0,W,h2,⟨b2,?_⟩,?_,hd'⟩
    .rw [eL];exact b4
    .show Fits fr.n (au W [] (bP f tm s0 q).E f.fr.F) C;rw [eL];exact hf'.lK (b3.trans en.sub)
   have mono:∀(c:Code) (Q1 Q2:bu),(∀e a w,Q1 e a w->Q2 e a w)->∀a w,F8 X.P σ l c Q1 .normal a w->F8 X.P σ l c Q2 .normal a w:=λc=>by
    induction c with
    |seq x y ihx ihy=>
     intro Q1 Q2 hq a w h;unfold F8 at h ⊢;cases hx:mI l x
     .rw [hx] at h;exact ihy Q1 Q2 hq a w h
     .rw [hx] at h;refine ihx _ _ (λe a w u=>?_) a w h;cases e with
      |normal=>exact wpIn_mono u hq
      |_=>exact hq _ _ _ u
    |_=>intro Q1 Q2 hq a w h;exact hq _ _ _ h
   exact mono c _ _ (λe a w u=>by
    cases e <;> first|exact u|exact ⟨u.1,let ⟨N,_,hI⟩:=u.2;⟨N,hI⟩⟩) C w' (i X.fl C w' key)
  .cases h2
 .cases h
end
end
end Go.Proofs.YtkedhpmpejhekaaGreatDoor
