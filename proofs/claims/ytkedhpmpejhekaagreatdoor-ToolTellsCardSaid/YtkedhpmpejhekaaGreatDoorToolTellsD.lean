/- Own texts for ToolTells, cut and joined by a program. -/
import Derived.Test.YtkedhpmpejhekaaGreatDoorToolTellsC
set_option linter.all false
namespace Go.Proofs.YtkedhpmpejhekaaGreatDoor
noncomputable section
variable {d : Tmp} {x : Operand}
open Go.Lib
abbrev gone{R:Type}(g:GK)(k:Option R):Option R:=match g with
 |none=>k
 |some _=>none
theorem cN{R:Type}{r:R}{g:GK}{k:Option R}(h:gone g k=some r):g=none/\k=some r:=by
 cases g with
 |none=>exact ⟨rfl,h⟩
 |some _=>cases h
def ahn{R:Type}(X:Cx)(T:aC)(fr:Fr)(st:aD)(d:x5)(t:TypeId)(x y:Operand)(K:cC R):Option R:=match eR X.P t with
 |some e=>(match AG X.tys e with
  |some u=>(match jW X.P e with
   |some z=>(match br T st.E fr.F none x with
    |some (.sl id)=>(match br T st.E fr.F none y with
     |some b=>aA (Nat.beq z.1 u.n') (match pP (cu b.ej st.G) fr.H u b with
      |some ys=>(match dJ (cu b.ej st.G) fr.H (lC id) with
       |some (.top j,.own _ u' e' xs _)=>aA (Nat.beq e e') (match pP.bY.asL u ⟨.l u',xs⟩ with
        |some xs=>K { st with c:=st.c+1,E:=ct d none (.int .i64 ((Nat.min ys.length xs.length:Nat):Int)) st.E,G:=(cu b.ej st.G).set j (.own id u e (wO xs ys) st.c) }
        |none=>none) none
       |_=>none)
      |none=>none) none
     |none=>none)
    |_=>none)
   |none=>none)
  |none=>none)
 |none=>none
def inO(n d:Nat):List (Nat×Nat)->Bool
 |[]=>false
 |x::l=>(Nat.beq x.1 n&&Nat.beq x.2 d)||inO n d l
def agV{R:Type}(X:Cx)(T:aC)(fr:Fr)(st:aD)(d:Tmp)(t:TypeId)(x:Operand)(lo hi:Option Operand)(K:cC R):Option R:=match eR X.P t with
 |some e=>(match jW X.P e with
  |some z=>(match br T st.E fr.F none x with
   |some (.sl id)=>(match loA T st.E fr.F none lo with
    |some i=>(match hiA T st.E fr.F none hi with
     |some j=>(match dJ st.G fr.H (lC id) with
      |some (.top k,.own _ u e' xs _)=>aA (Nat.beq z.1 u.n') (match lo,hi with
       |none,_=>aG (dp 0 (j.getD (xs.length:Int)) xs.length) (K { st with c:=st.c+1,E:=ct (some d) none (.sl st.c) st.E,G:=st.G.set k (.own st.c u e' (bD xs 0 (j.getD (xs.length:Int))) st.c) })
       |some _,none=>aA (Nat.beq z.1 1) (aG (dp i (xs.length:Int) xs.length) (K { st with c:=st.c+1,E:=ct (some d) none (.sl st.c) st.E,G:=st.G.set k (.own st.c u e' (bD xs i (xs.length:Int)) st.c) })) none
       |_,_=>none) none
      |_=>none)
     |none=>none)
    |none=>none)
   |_=>none)
  |none=>none)
 |none=>none
def ale{R:Type}(X:Cx)(T:aC)(fr:Fr)(st:aD)(d:Tmp)(t:TypeId)(x:Operand)(lo hi mx:Option Operand)(K:cC R):Option R:=match lo,hi,mx with
 |none,some y,some y3=>(match X.P.underlying t with
  |some (.array n e)=>(match AG X.tys e with
   |some u=>(match jW X.P e with
    |some z=>(match br T st.E fr.F none x with
     |some (.ptr id 0)=>(match br T st.E fr.F none y with
      |some (.int _ h)=>(match br T st.E fr.F none y3 with
       |some (.int _ m)=>(match mG (wZ id) st.G with
        |some (j,.box _ _ cs)=>aA ((h==(n:Int))&&(m==(n:Int))&&Nat.beq z.1 u.n') (match rdL st.G fr.H u n cs with
         |some xs=>K { st with c:=st.c+1,E:=ct (some d) none (.sl st.c) st.E,G:=st.G.set j (.sli none st.c u xs true) }
         |none=>none) none
        |_=>none)
       |_=>none)
      |_=>none)
     |_=>none)
    |none=>none)
   |none=>none)
  |_=>none)
 |_,_,_=>none
def agU(X:Cx)(T:aC)(fr:Fr)(st:aD)(d:Tmp)(t:TypeId)(x y:Operand){R:Type}(K:cC R):Option R:=match X.P.underlying t with
 |some (.array n e)=>(match jW X.P e with
  |some z=>(match br T st.E fr.F none x with
   |some (.adr id off)=>(match br T st.E fr.F none y with
    |some (.int _ i)=>Wd i z.1 (λk=>K { st with E:=ct (some d) none (.adr id (off+k)) st.E }) n 0
    |_=>none)
   |some (.ptr id off)=>(match br T st.E fr.F none y with
    |some (.int _ i)=>Wd i z.1 (λk=>K { st with E:=ct (some d) none (.ptr id (off+k)) st.E }) n 0
    |_=>none)
   |_=>none)
  |none=>none)
 |_=>none
def apk(P:Program)(t:TypeId):Bool:=match P.underlying t with
 |some (.func ..)=>true
 |_=>false
def aib{R:Type}(X:Cx)(T:aC)(fr:Fr)(st:aD)(d:Tmp)(t:TypeId)(len:Nat)(ps:List (Nat×Operand))(K:cC R):Option R:=match eR X.P t with
 |some e=>(match jW X.P e with
  |some z=>(match ox T st.E fr.F none (ps.map (·.2)) with
   |some vs=>(match y8 (λi=>some (i*z.1,z.1)) ((ps.map (·.1)).zip vs) (Xb len (z.2.2.cells.toList.map jg)) with
    |some cs=>aA (apk X.P e&&Nat.beq z.2.2.cells.size z.1&&Nat.blt 0 (len*z.1)&&Nat.ble (len*z.1) 16777216&&AV.bW st.c cs) (K { st with c:=st.c+1,E:=ct (some d) none (.bs st.c len) st.E,G:= .box st.c e cs::st.G }) none
    |none=>none)
   |none=>none)
  |none=>none)
 |none=>none
def akJ{R:Type}(X:Cx)(T:aC)(fr:Fr)(st:aD)(d:Tmp)(t:TypeId)(x y:Operand)(K:cC R):Option R:=match eR X.P t with
 |some e=>(match jW X.P e with
  |some z=>(match br T st.E fr.F none x with
   |some (.bs id n)=>(match br T st.E fr.F none y with
    |some (.int _ i)=>Wd i z.1 (λk=>K { st with E:=ct (some d) none (.ptr id k) st.E }) n 0
    |_=>none)
   |_=>none)
  |none=>none)
 |none=>none
def agz(P:Program)(t:TypeId)(nm:String):Option (FuncId×Bool):=match P.info? t with
 |some i=>(match i.methods.find? (·.name==nm) with
  |some m=>(match m.path.toList with
   |[]=>m.func
   |_=>none)
  |none=>none)
 |none=>none
def apL:TypeDesc->Bool
 | .pointer _=>true
 |_=>false
def Hp(X:Cx)(T:aC)(fr:Fr)(st:aD)(g:GK)(t:TypeId)(u:AV)(nm:String):Option (FuncId×AV):=match agz X.P t nm with
 |some (f,true)=>(match X.P.underlying t with
  |some (.pointer _)=>some (f,u)
  |_=>none)
 |some (f,false)=>(match X.P.underlying t with
  |some (.pointer e)=>(match xN T st.G fr.H g u with
   |some cs=>(match j2 X.P e cs with
    |some v=>some (f,v)
    |none=>none)
   |none=>none)
  |some d=>aA (apL d) none (some (f,u))
  |none=>none)
 |none=>none
def aay:List YG->FuncId->Option YG
 |[],_=>none
 |i::l,f=>match Nat.beq i.f f with
  |true=>some i
  |false=>aay l f
def am4{R:Type}(X:Cx)(T:aC)(fr:Fr)(st:aD)(g:GK)(d:x5)(f:FuncId)(args:List AV)(K:cC R)(els:Option R):Option R:=match aay X.inl f with
 |none=>els
 |some i=>(match T with
  |[]=>gone g (i.run args fr.H st (λav st'=>K { st' with E:=ct d none av st.E,h:=st.h }))
  |_::_=>none)
def byT{R:Type}(k:TypeId->Option R)(t:TypeId):List TypeId->Option R
 |[]=>none
 |c::cs=>cond (Nat.beq t c) (k c) (byT k t cs)
section
variable {X : Cx} {R : Type} {r : R} {K : cC R} {T : aC} {fr : Fr} {st : aD} {g : GK} {ρ : ay} {Φ : Ctx} {w : World} {ty : TypeId} {pos : String} {af : x8} {gd : v7}
theorem abW:{l:List YG}->{f:FuncId}->{i:YG}->aay l f=some i->i∈l/\i.f=f
 |[],_,_,h=>by cases h
 |j::l,f,i,h=>by
  unfold aay at h;split at h
  next c=>cases h;exact ⟨b5 .., ah c⟩
  .obtain ⟨b,a⟩:=abW h;exact ⟨aW _ b,a⟩
theorem aox{d:x5}{op:Op}{f:FuncId}{args:List AV}{c:Option R}(k:st.low fr=true)(t:Sat (ab ρ T st.G++(ab ρ T fr.H++Φ)) w)
  (e:Enters X.P f->T.get g=true->∀n a,Fits n (au ρ T st.E fr.F) a->(execOp a.eval ⟨d,op,ty,pos,af,gd⟩).run X.P w= .ok (.enter f (AV.ao ρ args).toArray) w) (h:am4 X T fr st g d f args K c=some r) (b:c=some r->iI X.P T g (au ρ T st.E fr.F) ⟨d,op,ty,pos,af,gd⟩ w (aV r K T fr st g d ρ Φ)):
  iI X.P T g (au ρ T st.E fr.F) ⟨d,op,ty,pos,af,gd⟩ w (aV r K T fr st g d ρ Φ):=by
 unfold am4 at h;split at h
 .exact b h
 .rename_i i hi;obtain ⟨s,q⟩:=abW hi;subst q;obtain ⟨A,z⟩:=X.inlOk i s;split at h
  .obtain ⟨rfl,x⟩:=cN h;refine .none_ (λn a u=> .inr (.inr ⟨i.f,AV.ao ρ args,e A aC.get_none n a u,(z r args fr.H st _ ρ Φ w t x).mono λv w' hv=>?_⟩));obtain ⟨ρ',st',av,p,j,o,m,l⟩:=hv;have y:=bf (T:=[]) j (aD.cD.1 k).2.2.2;exact aV.new (ρ':=ρ') (st':={ st' with E:=ct d none av st.E,h:=st.h }) k p j o rfl m (by rw [<-y];exact l)
  .cases h
theorem ab8{k:TypeId->Option R}{t:TypeId}:∀{cs:List TypeId},byT k t cs=some r->k t=some r
 |[],h=>by cases h
 |c::cs,h=>by
  unfold byT at h;rcases su h with ⟨b,a⟩|⟨_,a⟩
  .rw [ah b];exact a
  .exact ab8 a
theorem aa9{P:Program}{t:TypeId}{nm:String}{q:FuncId×Bool}(h:agz P t nm=some q):LH P t nm q.1 q.2:=by
 unfold agz at h;split at h
 .rename_i i hi;split at h
  .rename_i m a;split at h
   next hp=>unfold LH;rw [hi];simp only [bj];rw [a];simp [hp,h]
   .cases h
  .cases h
 .cases h
theorem amS{t:TypeId}{u v:AV}{cs:List AV}{G H:List Row}(f:Sat (ab ρ T G++(ab ρ T H++Φ)) w)(hc:xN T G H g u=some cs)(h:j2 X.P t cs=some v)(j:T.get g=true):
  ∃p,u.val ρ= .pointer (some p)/\(loadVar t p).run X.P w= .ok (v.val ρ) w:=by
 obtain ⟨p,hp,hc⟩:=Mx f hc j;refine ⟨p,hp,?_⟩;have m:j2 X.P t (cs.drop 0)=some v:=by simpa using h
 obtain ⟨d,n,bytes,z,c1,o,b⟩:=me (ρ:=ρ) m;cases hd:jn d
 .rw [hd] at b;simp only [oi,qI] at b;exact KR c1 hd (hc.cell0 b)
 .unfold j2 at h;rw [c1] at h;rcases dq h with ⟨_,a⟩|⟨e,_⟩
  .split at a
   .rename_i q i;obtain ⟨n,bytes,z⟩:=q;obtain ⟨l,k⟩:=aI a;cases k;have c:n<=cs.length:=cn l;simp only [AV.val];refine KA c1 hd (cF i) (vs:=AV.ao ρ (cs.take n)) ?_ ?_
    .have:=hc.sub (us:=AV.ao ρ (cs.take n)) 0 (by rw [AV.jv,j6,b0,AV.bm,du c])
     simpa [Addr.add] using this
    .rw [AV.bm,b0,du c]
   .cases a
  .rw [hd] at e;cases e
theorem abt{t:TypeId}{u:AV}{nm:String}{q:FuncId×AV}(i:Sat (ab ρ T st.G++(ab ρ T fr.H++Φ)) w)(h:Hp X T fr st g t u nm=some q):T.get g=true->Reach X.P w t (u.val ρ) nm q.1 (q.2.val ρ):=by
 unfold Hp at h;split at h
 .rename_i f c;have b:=aa9 c;split at h
  next e a=>cases h;exact λ_=>Reach.ptr b a
  .cases h
 .rename_i f c;have b:=aa9 c;split at h
  .rename_i e a;split at h
   .rename_i cs hc;split at h
    next v hv=>cases h;intro k;obtain ⟨p,hp,j⟩:=amS i hc hv k;rw [hp];exact Reach.load b a j
    .cases h
   .cases h
  next d a=>obtain ⟨n,m⟩:=Nb h;cases m;exact λ_=>Reach.val b a (λe l=>by subst l;cases n)
  .cases h
 .cases h
theorem afm{t:TypeId}{y:Operand}(s:Sat (ab ρ T st.G++(ab ρ T fr.H++Φ)) w)(h:agU X T fr st d t x y K=some r):
  Lk X.P T none (au ρ T st.E fr.F) ⟨some d,.indexAddr t x y,ty,pos,af,gd⟩ w (aV r K T fr st none (some d) ρ Φ):=by
 unfold agU at h;split at h
 .rename_i n e p;split at h
  .rename_i z o;obtain ⟨m,bytes,z⟩:=z;split at h
   .rename_i id off hx;split at h
    .rename_i k i l;obtain ⟨q,_,u,g,j⟩:=Du h;have f:=bF (ρ:=ρ) hx;have c:=bF (ρ:=ρ) l;simp only [AV.val] at f c;refine ⟨.pointer (some (((ρ id).a.add off).add (i.toNat*m))),λw'=>?_,?_⟩
     .rw [aC.get_none];exact Ai (P:=X.P) (w:=w') (dst:=some d) (ty:=ty) (pos:=pos) (af:=af) (gd:=gd) p (cF o) f c (by
       intro _;subst g;exact wH.2 ⟨by omega,by omega⟩)
     .refine aV.iB (av:= .adr id (off+q*m)) j (bb _) rfl ?_ s;simp only [AV.val];rw [add_add,g];rfl
    .cases h
   .rename_i id off hx;split at h
    .rename_i k i l;obtain ⟨q,_,u,g,j⟩:=Du h;have f:=bF (ρ:=ρ) hx;have c:=bF (ρ:=ρ) l;simp only [AV.val] at f c;refine ⟨.pointer (some ((⟨(ρ id).b,off,none⟩:Addr).add (i.toNat*m))),λw'=>?_,?_⟩
     .rw [aC.get_none];exact Ai (P:=X.P) (w:=w') (dst:=some d) (ty:=ty) (pos:=pos) (af:=af) (gd:=gd) p (cF o) f c (by
       intro _;subst g;exact wH.2 ⟨by omega,by omega⟩)
     .refine aV.iB (av:= .ptr id (off+q*m)) j (bb _) rfl ?_ s;simp only [AV.val];rw [add_plain,g];rfl
    .cases h
   .cases h
  .cases h
 .cases h
theorem amk{d:x5}{t:TypeId}{y:Operand}(J:st.low fr=true)(g:Sat (ab ρ T st.G++(ab ρ T fr.H++Φ)) w)(h:ahn X T fr st d t x y K=some r):
  iI X.P T none (au ρ T st.E fr.F) ⟨d,.call ⟨.builtin .copy,#[x,y],#[t,t]⟩,ty,pos,af,gd⟩ w (aV r K T fr st none d ρ Φ):=by
 unfold ahn at h;split at h
 .rename_i e V;split at h
  .rename_i u hu;split at h
   .rename_i z N;obtain ⟨n,bytes,z⟩:=z;split at h
    .rename_i id hx;split at h
     .rename_i b O;obtain ⟨h1,i⟩:=aI h;have R:n=u.rep.n:=(ah h1).trans u.BM.symm;have B:=cF N;subst R;have f:=pC (ids:=b.ej) (aD.cD.1 J).2.2.1;replace g:=iR (ids:=b.ej) g;generalize cu b.ej st.G=G at i f g;have o:=bF (ρ:=ρ) hx;have v:=bF (ρ:=ρ) O;simp only [AV.val] at o;split at i
      .rename_i ys q;have s:=Nw g q;split at i
       .rename_i j p u' e' k M U;obtain ⟨Z,D⟩:=aI i;have:=ah Z;subst this;split at D
        .rename_i xs A;obtain ⟨eu,ex⟩:=oY A;subst eu;simp only at ex;subst ex;obtain ⟨I,f2⟩:=bV U;have:p=id:=ah f2;subst this;have hi:=fj (ρ:=ρ) (T:=T) (Φ:=ab ρ T fr.H++Φ) I;obtain ⟨L,_⟩:=g.at_ hi;obtain ⟨w',Q,Y,C,W⟩:=aml (P:=X.P) (ty:=ty) (w:=w) (t:=t) (bT V) B L s (λb hb=>Ctx.iJ hi hb);have S:j<G.length:=(List.getElem?_eq_some_iff.1 I).1;have a:=pn f I;simp only [Row.low,ae,gy] at a;refine .none_ (bE.gd (bE.mA (xw o v Q) (aV.new (ρ':=ρ.set st.c { cO with y:=⟨.l u',wO k ys⟩ }) (av:= .int .i64 ((Nat.min ys.length k.length:Nat):Int)) J D ay.aZ (hV _) rfl (by simp only [AV.val]) ?_)));show Sat (ab _ T (G.set j _)++_) _;rw [eV S,bf ay.aZ f];refine g.ng hi Y (λb hb=>?_) (λM' m _=>?_)
         .simp only [Row.item,ay.aZ _ a.1] at hb;exact ⟨by rw [C];exact L.lt b hb,.inl hb⟩
         .simp only [Row.item,ay.aZ _ a.1,ay.bA];exact ⟨W M' m,trivial⟩
        .cases D
       .cases i
      .cases i
     .cases h
    .cases h
   .cases h
  .cases h
 .cases h
theorem akM{t:TypeId}{len:Nat}{ps:Array (Nat×Operand)}(v:st.low fr=true)(u:Sat (ab ρ T st.G++(ab ρ T fr.H++Φ)) w)(h:aib X T fr st d t len ps.toList K=some r):
  iI X.P T none (au ρ T st.E fr.F) ⟨some d,.buildSlice t len ps,ty,pos,af,gd⟩ w (aV r K T fr st none (some d) ρ Φ):=by
 obtain ⟨ps⟩:=ps;simp only at h;unfold aib at h;split at h
 .rename_i e y;split at h
  .rename_i z s;obtain ⟨n,bytes,z⟩:=z;split at h
   .rename_i vs k;split at h
    .rename_i cs m;obtain ⟨o,A⟩:=aI h;simp only [ae] at o;obtain ⟨⟨⟨⟨_,D⟩,q⟩,C⟩,B⟩:=o;have c:z.cells.size=n:=ah D;have l:=cF s;have a:=wJ (ρ:=ρ) m;rw [BR,Qh,kM] at a;have g:0<n:=by
      have:0<len*n:=by simpa using q
      exact q0 (λe=>by simp [e] at this)
     have j:oy n len z.cells.toList ((ps.map (·.1)).zip (AV.ao ρ vs))=some (AV.ao ρ cs).toArray:=by unfold oy;have p:=Da z.cells.toList (by simp [c];exact g) len;simp only [ch,c] at p;simp only [ch,c];rw [<-a,<-p]
     have i:gJ (au ρ T st.E fr.F) true (ps.map (·.2)) (AV.ao ρ vs):=by simpa using fS (ρ:=ρ) k
     have f:=nW (P:=X.P) (w:=w) (dst:=some d) (ty:=ty) (pos:=pos) (af:=af) (bT y) l (zs:=z.cells.toList) (by simp) q C i j;refine .none_ (bE.gd (bE.mA f (aV.push (x:={ cO with b:=w.heap.size }) v A (by simp only [AV.val,ay.bA]) ?_)));simp only [Row.item,ay.bA];rw [AV.bS ay.aZ _ B];exact u.push (ei _ _) (λb hb=>by
      have:b=w.heap.size:=by simpa [box] using hb
      subst this;simp) (λ_ _=>heap_alloc_new w _)
    .cases h
   .cases h
  .cases h
 .cases h
theorem aoq{t:TypeId}{y:Operand}(A:Sat (ab ρ T st.G++(ab ρ T fr.H++Φ)) w)(h:akJ X T fr st d t x y K=some r):
  iI X.P T none (au ρ T st.E fr.F) ⟨some d,.indexAddr t x y,ty,pos,af,gd⟩ w (aV r K T fr st none (some d) ρ Φ):=by
 unfold akJ at h;split at h
 .rename_i e B;split at h
  .rename_i z u;obtain ⟨m,bytes,z⟩:=z;split at h
   .rename_i id n hx;split at h
    .rename_i k i v;obtain ⟨q,_,C,s,o⟩:=Du h;have c:=bF (ρ:=ρ) hx;have a:=bF (ρ:=ρ) v;simp only [AV.val] at c a;have j:aV r K T fr st none (some d) ρ Φ (.pointer (some ⟨(ρ id).b,q*m,none⟩)) w:=aV.iB (av:= .ptr id (q*m)) o (bb _) rfl (by simp only [AV.val]) A;have f:=E4 (P:=X.P) (w:=w) (g:=true) (dst:=some d) (ty:=ty) (pos:=pos) (af:=af) (gd:=none) (bT B) (cF u) c a (p:=⟨(ρ id).b,q*m,none⟩) (λ_=>⟨_,_,_,rfl,by omega,by omega,by
      subst s;unfold Addr.add;split
      next l=>simp only [qw] at l;rw [l]
      .simp⟩)
     exact .none_ (bE.gd (bE.run f j))
    .cases h
   .cases h
  .cases h
 .cases h
abbrev aam(E:Env)(z i:Int)(x:Option Operand):Prop:=match x with
 |none=>i=z
 |some y=>∃k,ar E true y (.int k i)
theorem akG{t:TypeId}{lo hi:Option Operand}(W:st.low fr=true)(V:Sat (ab ρ T st.G++(ab ρ T fr.H++Φ)) w)(h:agV X T fr st d t x lo hi K=some r):
  iI X.P T none (au ρ T st.E fr.F) ⟨some d,.slice t x lo hi none,ty,pos,af,gd⟩ w (aV r K T fr st none (some d) ρ Φ):=by
 have S:=(aD.cD.1 W).2.2.1;unfold agV at h;split at h
 .rename_i e he;split at h
  .rename_i z hz;obtain ⟨n,bytes,z⟩:=z;split at h
   .rename_i id hx;split at h
    .rename_i i Q;split at h
     .rename_i j hj;split at h
      .rename_i k o u e' xs Z hf;obtain ⟨h1,J⟩:=aI h;have hn:n=u.rep.n:=(ah h1).trans u.BM.symm;have O:=cF hz;subst hn;obtain ⟨Y,f2⟩:=bV hf;have:o=id:=ah f2;subst this;have B:=bF (ρ:=ρ) hx;simp only [AV.val] at B;have C:=fj (ρ:=ρ) (T:=T) (Φ:=ab ρ T fr.H++Φ) Y;obtain ⟨R,_⟩:=V.at_ C;have hk:k<st.G.length:=(List.getElem?_eq_some_iff.1 Y).1;have f:=Ur (ρ:=ρ) (len:=xs.length) hj;have a:=KB (ρ:=ρ) Q;rw [aC.get_none] at f a;replace f:aam (au ρ T st.E fr.F) (xs.length:Int) (j.getD (xs.length:Int)) hi:=f;replace a:aam (au ρ T st.E fr.F) 0 i lo:=a;have I:∀{s q:Int} {p:fE} {L:za},aam (au ρ T st.E fr.F) 0 s lo->aam (au ρ T st.E fr.F) (xs.length:Int) q hi->Qb (sl (ρ o).v) s q u.rep.n (sl p)->(∀b∈L,b∈s9 (ρ o).v)->bL u.rep e' (Ctx.M (ab ρ T st.G++(ab ρ T fr.H++Φ))) w (sl p) (bD xs s q) L->
         K { st with c:=st.c+1,E:=ct (some d) none (.sl st.c) st.E,G:=st.G.set k (.own st.c u e' (bD xs s q) st.c) }=some r->iI X.P T none (au ρ T st.E fr.F) ⟨some d,.slice t x lo hi none,ty,pos,af,gd⟩ w (aV r K T fr st none (some d) ρ Φ):=by
        intro s q p L q1 q2 A N g D;refine .none_ (bE.gd (bE.run (C8 (lo:=lo) (hi:=hi) (bT he) O B (λ_=>R.len) q1 q2 (λ_=>A)) (aV.new (ρ':=ρ.set st.c { cO with v:=p,y:=⟨.l u,bD xs s q⟩ }) W D ay.aZ (hV _) rfl (by simp only [AV.val,ay.bA]) ?_)));show Sat (ab _ T (st.G.set k _)++_) _;rw [eV hk,bf ay.aZ S];refine V.ng C ((Ext.refl w).rK _) (λb hb=>?_) (λM' m _=>?_)
        .simp only [Row.item,ay.bA] at hb;have:=g.canon.1 b hb;exact ⟨g.lt b this,.inl (N b this)⟩
        .simp only [Row.item,ay.bA];exact ⟨g.canon.2 _ _ (g.cL (λ_ _=>rfl) m),trivial⟩
       split at J
       .obtain ⟨U,D⟩:=eo J;obtain ⟨p,A,g⟩:=R.aqM U;exact I rfl f A (λb hb=>hb) g D
       .obtain ⟨h5,h6⟩:=aI J;obtain ⟨U,D⟩:=eo h6;obtain ⟨p,A,L,N,g⟩:=R.aqx (ah h5) U;exact I a rfl A N g D
       .cases J
      .cases h
     .cases h
    .cases h
   .cases h
  .cases h
 .cases h
theorem aoI{t:TypeId}{lo hi q:Option Operand}(A:st.low fr=true)(o:Sat (ab ρ T st.G++(ab ρ T fr.H++Φ)) w)(h:ale X T fr st d t x lo hi q K=some r):
  iI X.P T none (au ρ T st.E fr.F) ⟨some d,.slice t x lo hi q,ty,pos,af,gd⟩ w (aV r K T fr st none (some d) ρ Φ):=by
 have Q:=(aD.cD.1 A).2.2.1;unfold ale at h;split at h
 .rename_i y U;split at h
  .rename_i n e L;split at h
   .rename_i u Y;split at h
    .rename_i z I;obtain ⟨V,bytes,z⟩:=z;split at h
     .rename_i id hx;split at h
      .rename_i k Z J;split at h
       .rename_i W m i;split at h
        .rename_i j c S cs O;obtain ⟨B,p⟩:=aI h;simp only [ae,kN] at B;obtain ⟨⟨rfl,rfl⟩,h3⟩:=B;split at p
         next xs l=>obtain ⟨C,R⟩:=kO O;have:c=id:=ah R;subst this;have g:=bF (ρ:=ρ) hx;have f:=bF (ρ:=ρ) J;have a:=bF (ρ:=ρ) i;simp only [AV.val] at g f a;have hi:=fj (ρ:=ρ) (T:=T) (Φ:=ab ρ T fr.H++Φ) C;have hb:eN w (ρ c).b S (AV.ao ρ cs):=o.at_ hi;obtain ⟨s,D⟩:=SN o n cs xs l;have N:j<st.G.length:=(List.getElem?_eq_some_iff.1 C).1;refine .none_ (bE.gd (bE.run (ad5 L (cF I) g f a) (aV.ng (x:={ cO with v:=(some ⟨(ρ c).b,0,none⟩,n,n) }) A N p (by simp only [AV.val,ay.bA];rfl) ?_)));refine o.ng hi ((Ext.refl w).rK _) (λb hb=>by cases hb) (λM' m M=>?_);simp only [Row.item,ay.bA];exact λ_=>⟨bP.fresh hb (M _ (by simp [Row.item,box]) (λhb=>by cases hb)) s (D.mv m),λ_=>s.symm⟩
         .cases p
        .cases h
       .cases h
      .cases h
     .cases h
    .cases h
   .cases h
  .cases h
 .cases h
end
variable {d : x5} {tys : Array TypeId}
def akh{R:Type}(X:Cx)(T:aC)(fr:Fr)(st:aD)(t:TypeId)(x y:Operand)(K:cC R):Option R:=match br T st.E fr.F none x with
 |some (.ptr id off)=>(match br T st.E fr.F none y with
  |some v=>adf X.P st t id off v K
  |none=>none)
 |some (.adr q off)=>(match br T st.E fr.F none y with
  |some v=>adn X.P fr st t q off v K
  |none=>none)
 |_=>none
def anJ{R:Type}(X:Cx)(T:aC)(fr:Fr)(st:aD)(g:GK)(d:Tmp)(t:TypeId)(x:Operand)(K:cC R):Option R:=match br T st.E fr.F g x with
 |some (.adr q off)=>Vh X T fr st g d t q off K
 |_=>none
def apv{R:Type}(X:Cx)(T:aC)(fr:Fr)(st:aD)(g:GK)(b:Builtin)(d:x5)(xs:xa)(ts:List TypeId)(K:cC R):Option R:=match b,xs,ts,d with
 | .append,[x,y],[t,u],some d=>gone g (aA (Nat.beq t u) (alT X T fr st d t x y K) (agT X T fr st d t u x y K))
 | .unsafeSliceData,[x],_,some d=>gone g (aaw T fr st d x K)
 | .unsafeString,[x,y],[pt,_],some d=>gone g (ag6 X T fr st d pt x y K)
 | .copy,[x,y],[t,u],d=>gone g (aA (Nat.beq t u) (ahn X T fr st d t x y K) none)
 |_,_,_,_=>none
def akF{R:Type}(X:Cx)(tb:List aq)(T:aC)(fr:Fr)(st:aD)(g:GK)(d:x5)(c:Callee)(xs:xa)(ts:List TypeId)(K:cC R):Option R:=match c with
 | .builtin b=>apv X T fr st g b d xs ts K
 | .value fo=>(match br T st.E fr.F g fo with
  |some (.fn f a b)=>(match ox T st.E fr.F g xs with
   |some vs=>am4 X T fr st g d f (a++vs++b) K (vn T fr st g d f (a++vs++b) K tb)
   |none=>none)
  |some (.raw (.func (.methodOf it nm) ⟨[]⟩ ⟨[]⟩))=>(match X.P.underlying it with
   |some dI=>aA (fP dI) (match ox T st.E fr.F g xs with
    |some (.ifc t u::vs)=>byT (λc=>match Hp X T fr st g c u nm with
     |some q=>vn T fr st g d q.1 (q.2::vs) K tb
     |none=>none) t X.ks
    |_=>none) none
   |none=>none)
  |_=>none)
 | .invoke rc nm=>(match br T st.E fr.F g rc with
  |some (.ifc t u)=>(match ox T st.E fr.F g xs with
   |some vs=>(match u with
    | .agg []=>byT (λc=>match Hp X T fr st g c u nm with
     |some q=>vn T fr st g d q.1 (q.2::vs) K tb
     |none=>none) t X.ks
    |_=>(match Hp X T fr st g t u nm with
     |some q=>vn T fr st g d q.1 (q.2::vs) K tb
     |none=>none))
   |none=>none)
  |_=>none)
def opN{R:Type}(X:Cx)(tb:List aq)(T:aC)(fr:Fr)(st:aD)(g:GK)(op:Op)(dst:x5)(K:cC R):Option R:=match op,dst with
 | .indexAddr t x y,some d=>(match eR X.P t with
  |some _=>(match br T st.E fr.F g x with
   |some (.bs _ _)=>gone g (akJ X T fr st d t x y K)
   |_=>ahq X T fr st g d t x y K)
  |none=>(match br T st.E fr.F g x with
   |some (.gp _)=>aaG X T fr st g d t x y K
   |_=>gone g (agU X T fr st d t x y K)))
 | .slice t x lo hi mx,some d=>(match eR X.P t with
  |some _=>(match mx with
   |none=>aA (inO fr.n d X.oc) (gone g (agV X T fr st d t x lo hi K)) (ab3 X T fr st g d t x lo hi none K)
   |mx=>ab3 X T fr st g d t x lo hi mx K)
  |none=>(match br T st.E fr.F g x with
   |some (.gp _)=>gone g (WX X T fr st d t x lo hi mx K)
   |_=>gone g (ale X T fr st d t x lo hi mx K)))
 | .alloc t,some d=>gone g (adS X st d t K)
 | .box t x,some d=>gone g (alS T fr st d t x K)
 | .store t x y,none=>gone g (akh X T fr st t x y K)
 | .load t x,some d=>anJ X T fr st g d t x K
 | .buildSlice t n ps,some d=>(match eR X.P t with
  |some e=>aA (apk X.P e) (gone g (aib X T fr st d t n ps.toList K)) (ak1 X T fr st g d t n ps.toList K)
  |none=>none)
 | .makeSlice t x y,some d=>gone g (ah8 X T fr st d t x y K)
 | .makeMap t none,some d=>gone g (ahG X st d t K)
 | .mapUpdate t x y z,none=>gone g (agS X T fr st t x y z K)
 | .range t x,some d=>gone g (amK X T fr st d t x K)
 | .next x true,some d=>gone g (ams T fr st d x K)
 | .convert s dt x,some d=>ame X T fr st g d s dt x K
 | .binOp op t x y _,some d=>gone g (amf X T fr st d op t x y K)
 | .call c,d=>akF X tb T fr st g d c.callee c.args.toList c.argTypes.toList K
 |_,_=>none
def opD{R:Type}(X:Cx)(tb:List aq)(T:aC)(fr:Fr)(st:aD)(g:GK)(o:Oper)(K:cC R):Option R:=
 match ag9 X T st.E fr.F g o.op with
 |some cv=>HK cv.1 (g.map λ_=>T.get g) (K { st with E:=ct o.dst g cv.2 st.E })
 |none=>match agy X T st.E fr.F st.G fr.H g o.op with
  |some cv=>HK cv.1 (g.map λ_=>T.get g) (K { st with E:=ct o.dst g cv.2 st.E })
  |none=>aA (st.low fr) (opN X tb T fr st g o.op o.dst K) none
section
variable {X : Cx} {tb : List aq} {R : Type} {r : R} {K : cC R} {T : aC} {fr : Fr} {st : aD} {g : GK} {ρ : ay} {Φ : Ctx} {w : World} {ty : TypeId} {pos : String} {af : x8} {gd : v7}
theorem xm{d:x5}{op:Op}{f:FuncId}{args:List AV}(l:st.low fr=true)(j:Sat (ab ρ T st.G++(ab ρ T fr.H++Φ)) w)(a:∀it∈X.Γ,it∈Φ)
  (b:Enters X.P f->T.get g=true->∀n act,Fits n (au ρ T st.E fr.F) act->(execOp act.eval ⟨d,op,ty,pos,af,gd⟩).run X.P w= .ok (.enter f (AV.ao ρ args).toArray) w):∀{tb:List aq},(∀e∈tb,e.Ok X.P X.Γ)->vn T fr st g d f args K tb=some r->
  iI X.P T g (au ρ T st.E fr.F) ⟨d,op,ty,pos,af,gd⟩ w (aV r K T fr st g d ρ Φ)
 |[],_,h=>by cases h
 |e::tb,htb,h=>by
  unfold vn at h;rcases dq h with ⟨m,i⟩|⟨_,i⟩
  .split at i
   next o k=>subst i;have:=ah m;subst this;have c:=htb e (b5 ..);exact ajf l j c a (b c.1) k
   .exact xm l j a b (λe c=>htb e (aW _ c)) i
  .exact xm l j a b (λe c=>htb e (aW _ c)) i
theorem amD{f:FuncId}{fo:Operand}{xs:xa}{a b vs:List AV}(p:st.low fr=true)(o:Sat (ab ρ T st.G++(ab ρ T fr.H++Φ)) w)(j:∀it∈X.Γ,it∈Φ)
  (m:br T st.E fr.F g fo=some (.fn f a b)) (k:ox T st.E fr.F g xs=some vs) {tb:List aq} (l:∀e∈tb,e.Ok X.P X.Γ) (h:vn T fr st g d f (a++vs++b) K tb=some r):
  iI X.P T g (au ρ T st.E fr.F) ⟨d,.call ⟨.value fo,xs.toArray,tys⟩,ty,pos,af,gd⟩ w (aV r K T fr st g d ρ Φ):=by
 have c:=aR (ρ:=ρ) m;have i:=fS (ρ:=ρ) k;simp only [AV.val] at c;refine xm p o j (λt q n u s=>?_) l h;rw [cZ,cZ];exact Dk t c i s q
theorem abu{k:Operand}{nm:String}{xs:xa}{t:TypeId}{u:AV}{vs:List AV}{q:FuncId×AV}(o:st.low fr=true)(l:Sat (ab ρ T st.G++(ab ρ T fr.H++Φ)) w)(c:∀it∈X.Γ,it∈Φ)
  (j:br T st.E fr.F g k=some (.ifc t u)) (f:ox T st.E fr.F g xs=some vs) (m:Hp X T fr st g t u nm=some q) {tb:List aq} (i:∀e∈tb,e.Ok X.P X.Γ) (h:vn T fr st g d q.1 (q.2::vs) K tb=some r):
  iI X.P T g (au ρ T st.E fr.F) ⟨d,.call ⟨.invoke k nm,xs.toArray,tys⟩,ty,pos,af,gd⟩ w (aV r K T fr st g d ρ Φ):=by
 have a:=aR (ρ:=ρ) j;have b:=fS (ρ:=ρ) f;simp only [AV.val] at a;exact xm o l c (λv p n x s=>akH v a (abt l m) b s p) i h
theorem amB{fo:Operand}{it:TypeId}{m:TypeDesc}{nm:String}{xs:xa}{t:TypeId}{u:AV}{vs:List AV}{q:FuncId×AV}(p:st.low fr=true)(l:Sat (ab ρ T st.G++(ab ρ T fr.H++Φ)) w)(c:∀it∈X.Γ,it∈Φ)
  (k:br T st.E fr.F g fo=some (.raw (.func (.methodOf it nm) #[] #[]))) (j:X.P.underlying it=some m) (hd:fP m=true) (f:ox T st.E fr.F g xs=some (.ifc t u::vs)) (o:Hp X T fr st g t u nm=some q) {tb:List aq} (i:∀e∈tb,e.Ok X.P X.Γ) (h:vn T fr st g d q.1 (q.2::vs) K tb=some r):
  iI X.P T g (au ρ T st.E fr.F) ⟨d,.call ⟨.value fo,xs.toArray,tys⟩,ty,pos,af,gd⟩ w (aV r K T fr st g d ρ Φ):=by
 have b:=aR (ρ:=ρ) k;have a:=fS (ρ:=ρ) f;simp only [AV.val,AV.ao] at b a;exact xm p l c (λx s n y v=>ad8 x b j hd (abt l o) a v s) i h
theorem aoA{c:Callee}{xs:Array Operand}{J:Array TypeId}(m:st.low fr=true)(l:Sat (ab ρ T st.G++(ab ρ T fr.H++Φ)) w)(o:∀it∈X.Γ,it∈Φ)(p:∀e∈tb,e.Ok X.P X.Γ)
  (h:akF X tb T fr st g d c xs.toList J.toList K=some r):iI X.P T g (au ρ T st.E fr.F) ⟨d,.call ⟨c,xs,J⟩,ty,pos,af,gd⟩ w (aV r K T fr st g d ρ Φ):=by
 obtain ⟨xs⟩:=xs;obtain ⟨J⟩:=J;unfold akF at h;split at h
 .unfold apv at h;split at h
  .rename_i x y t u M k A;simp only at k A;subst k;subst A;obtain ⟨rfl,v⟩:=cN h;rcases dq v with ⟨B,j⟩|⟨_,j⟩
   .have:=ah B;subst this;exact an6 m l j
   .exact akD m l j
  next x M k=>simp only at k;subst k;obtain ⟨rfl,v⟩:=cN h;exact (aaS m l v).ok2
  next x y S it M k A=>simp only at k A;subst k;subst A;obtain ⟨rfl,v⟩:=cN h;exact akv m l v
  next x y t u k A=>simp only at k A;subst k;subst A;obtain ⟨rfl,v⟩:=cN h;obtain ⟨B,j⟩:=aI v;have:=ah B;subst this;exact amk m l j
  .cases h
 .split at h
  .rename_i f a b s;split at h
   next vs i=>refine aox m l (λQ N n R O=>?_) h (λh=>amD m l o s i p h);have z:=aR (ρ:=ρ) s;have C:=fS (ρ:=ρ) i;simp only [AV.val] at z;rw [cZ,cZ];exact Dk Q z C O N
   .cases h
  .rename_i it nm s;split at h
   .rename_i U L;obtain ⟨v,B⟩:=aI h;split at B
    .rename_i t u vs i;have j:=ab8 B;split at j
     next q I=>exact amB m l o s L v i I p j
     .cases j
    .cases B
   .cases h
  .cases h
 .split at h
  .rename_i t u D;split at h
   .rename_i vs i;split at h
    .have j:=ab8 h;split at j
     next q I=>exact abu m l o D i I p j
     .cases j
    .split at h
     next q I=>exact abu m l o D i I p h
     .cases h
   .cases h
  .cases h
theorem apj{op:Op}{dst:x5}(c:st.low fr=true)(b:Sat (ab ρ T st.G++(ab ρ T fr.H++Φ)) w)(d:∀it∈X.Γ,it∈Φ)(i:∀e∈tb,e.Ok X.P X.Γ)
  (h:opN X tb T fr st g op dst K=some r):iI X.P T g (au ρ T st.E fr.F) ⟨dst,op,ty,pos,af,gd⟩ w (aV r K T fr st g dst ρ Φ):=by
 unfold opN at h;split at h
 .split at h
  .split at h
   .obtain ⟨rfl,a⟩:=cN h;exact aoq b a
   .exact (agm c b h).ok2
  .split at h
   .exact (adN c d b h).ok2
   .obtain ⟨rfl,a⟩:=cN h;exact (afm b a).ok2
 .split at h
  .split at h
   .rcases dq h with ⟨_,f⟩|⟨_,f⟩
    .obtain ⟨rfl,j⟩:=cN f;exact akG c b j
    .exact (WQ c b f).ok2
   .exact (WQ c b h).ok2
  .split at h
   .obtain ⟨rfl,a⟩:=cN h;exact aof c d b a
   .obtain ⟨rfl,a⟩:=cN h;exact aoI c b a
 .obtain ⟨rfl,a⟩:=cN h;exact ajS c b a
 .obtain ⟨rfl,a⟩:=cN h;exact aoD c b a
 .obtain ⟨rfl,a⟩:=cN h;unfold akh at a;split at a
  .rename_i id off hx;split at a
   next v hv=>exact .none_ (aj5 b hx hv a)
   .cases a
  .rename_i id off hx;split at a
   next v hv=>exact .none_ (akt c b hx hv a)
   .cases a
  .cases a
 .unfold anJ at h;split at h
  next q off hx=>exact akE c b hx h
  .cases h
 .split at h
  .rcases dq h with ⟨_,f⟩|⟨_,f⟩
   .obtain ⟨rfl,j⟩:=cN f;exact akM c b j
   .exact aot c b f
  .cases h
 .obtain ⟨rfl,a⟩:=cN h;exact amH c b a
 .obtain ⟨rfl,a⟩:=cN h;exact amC c b a
 .obtain ⟨rfl,a⟩:=cN h;exact al6 b a
 .obtain ⟨rfl,a⟩:=cN h;exact aoe c b a
 .obtain ⟨rfl,a⟩:=cN h;exact aoN b a
 .exact aop c b h
 .obtain ⟨rfl,a⟩:=cN h;exact aoQ b a
 .exact aoA c b d i h
 .cases h
theorem apD{o:Oper}(m:eK T st.E fr.F)(f:Sat (ab ρ T st.G++(ab ρ T fr.H++Φ)) w)(i:∀it∈X.Γ,it∈Φ)(j:∀e∈tb,e.Ok X.P X.Γ)
  (h:opD X tb T fr st g o K=some r):iI X.P T g (au ρ T st.E fr.F) o w (aV r K T fr st g o.dst ρ Φ):=by
 obtain ⟨dst,op,ty,pos,af,gd⟩:=o;unfold opD at h;simp only at h;split at h
 next cv b=>obtain ⟨d,c⟩:=oB h;exact Lk.ok2 ⟨_,λw'=>acy m b d,aV.iB c (bb _) rfl rfl f⟩
 .split at h
  next cv b=>obtain ⟨d,c⟩:=oB h;have k:=abU (dst:=dst) (ty:=ty) (pos:=pos) (af:=af) (gd:=gd) f b d;have a:aV r K T fr st g dst ρ Φ (cv.2.val ρ) w:=aV.iB c (bb _) rfl rfl f;exact ⟨λl=>bE.run (by rwa [l] at k) a,λ_=>⟨_,a⟩⟩
  .obtain ⟨d,c⟩:=aI h;exact apj d f i j c
end
def Row.gd:Row->GK
 | .sli g _ _ _ _|.elm g _ _|.kn g _ _ _ _ _ _=>g
 |_=>none
theorem Row.BA{ρ:ay}{T T':aC}{r:Row}(h:T'.get r.gd=T.get r.gd):r.item ρ T'=r.item ρ T:=by cases r <;> simp only [Row.gd] at h <;> simp only [Row.item,h]
def Bk(k:Nat×Bool)(g:GK):Bool:= !(GK.eq (some k) g)
def It(k:Nat×Bool):aF->Bool
 |[]=>true
 |x::E=>Bk k x.2.1&&It k E
def RR(k:Nat×Bool):List Row->Bool
 |[]=>true
 |r::G=>Bk k r.gd&&RR k G
def ahg(k:Nat×Bool):aC->Bool
 |[]=>true
 |x::T=>Bk k (some x.1)&&Bk k x.2.1&&ahg k T
theorem wk{k:Nat×Bool}{par:GK}{rj:Nat}{b:Bool}{T:aC}{g:GK}(h:Bk k g=true):aC.get ((k,par,rj,b)::T) g=T.get g:=aC.R6 h
theorem P8{ρ:ay}{k:Nat×Bool}{par:GK}{rj:Nat}{b:Bool}{T:aC}:{E:aF}->It k E=true->aF.env ρ ((k,par,rj,b)::T) E=aF.env ρ T E
 |[],_=>rfl
 |(t,g,v)::E,h=>by simp only [It,ae] at h;simp only [aF.env];rw [wk h.1,P8 h.2]
theorem Il{ρ:ay}{k:Nat×Bool}{par:GK}{rj:Nat}{b:Bool}{T:aC}:{G:List Row}->RR k G=true->ab ρ ((k,par,rj,b)::T) G=ab ρ T G
 |[],_=>rfl
 |r::G,h=>by simp only [RR,ae] at h;simp only [ab,c5];rw [Row.BA (wk h.1)];have:=Il (ρ:=ρ) (par:=par) (rj:=rj) (b:=b) (T:=T) h.2;simp only [ab] at this;rw [this]
theorem KT{k:Nat×Bool}:{E:aF}->It k E=true->{t:Nat}->{x:GK×AV}->bz E t=some x->Bk k x.1=true
 |[],_,_,_,h=>by cases h
 |(r,g,v)::E,h,t,x,hx=>by
  simp only [It,ae] at h;unfold bz at hx;rcases dq hx with ⟨_,a⟩|⟨_,a⟩
  .cases a;exact h.1
  .exact KT h.2 a
def Qg(k:Nat×Bool):aC->Bool
 |[]=>false
 |x::T=>GK.eq (some k) (some x.1)||Qg k T
def mN(d:x5):aC->Bool
 |[]=>true
 |x::T=>(match d with
  |none=>true
  |some d=> !(Nat.beq d x.2.2.1))&&mN d T
def mR(ops:y4)(n:Nat)(T:aC):Prop:= ∀x,x∈T->(ops[x.1.1]?).bind (·.dst)=some x.2.2.1/\Nat.blt x.2.2.1 n=true
def FT(T:aC)(fr:Fr):Prop:=(∀x,x∈fr.F->T.get x.2.1=aC.get [] x.2.1)/\∀r,r∈fr.H->T.get r.gd=aC.get [] r.gd
def stepG{R:Type}(ops:y4)(T:aC)(fr:Fr)(st:aD)(o:Oper)(run:aC->GK->Option R):Option R:=
 aA (iA o&&LL fr.n o.dst) (match o.guard with
 |none=>aA ( mN o.dst T ) ( run T none ) none
 |some k=>aA ( Qg k T ) ( aA ( mN o.dst T ) ( run T (some k) ) none )<|match ops[k.1]? with
  |some oj=>(match oj.dst with
   |some rj=>(match dB st.E fr.F rj with
    |some (par,.bool b)=>aA ( Nat.blt rj fr.n&&It k st.E&&It k fr.F&&RR k st.G&&RR k fr.H&&ahg k T&&mN o.dst ((k,par,rj,b)::T) ) ( run ((k,par,rj,b)::T) (some k) ) none
    |_=>none)
   |none=>none)
  |none=>none) none
structure aiL(ops:y4)(fr0 fr:Fr)(st:aD)(ρ:ay)(o:Oper)(T T':aC)(g:GK):Prop where
 pl:iA o=true
 ds:LL fr.n o.dst=true
 t1:eK T' st.E fr.F
 t2:mR ops fr.n T'
 ft:FT T' fr0
 ak:mN o.dst T'=true
 ee:aF.env ρ T' st.E=aF.env ρ T st.E
 ef:aF.env ρ T' fr.F=aF.env ρ T fr.F
 eg:ab ρ T' st.G=ab ρ T st.G
 eh:ab ρ T' fr.H=ab ρ T fr.H
 gg:o.guard=g
 gk:∀k,g=some k->∃rj par b,(ops[k.1]?).bind (·.dst)=some rj/\look (au ρ T' st.E fr.F) rj=some (T'.get par,.bool b)/\Nat.blt rj fr.n=true/\(T'.get par&&(b==k.2))=T'.get g
theorem afz{k:Nat×Bool}:{T:aC}->Qg k T=true->∃x,x∈T/\x.1=k
 |[],h=>by cases h
 |x::T,h=>by
  simp only [Qg,c9] at h;rcases h with h|h
  .have:=GK.eq_eq h;cases this;exact ⟨x,b5 .., rfl⟩
  .obtain ⟨y,b,a⟩:=afz h;exact ⟨y,aW _ b,a⟩
theorem afI{k:Nat×Bool}:{T:aC}->ahg k T=true->∀x,x∈T->Bk k (some x.1)=true/\Bk k x.2.1=true
 |[],_,x,h=>by cases h
 |y::T,h,x,hx=>by
  simp only [ahg,ae] at h;rcases List.mem_cons.1 hx with rfl|hx
  .exact h.1
  .exact afI h.2 x hx
theorem afT{k:Nat×Bool}:{E:aF}->It k E=true->∀x,x∈E->Bk k x.2.1=true
 |[],_,x,h=>by cases h
 |y::T,h,x,hx=>by
  simp only [It,ae] at h;rcases List.mem_cons.1 hx with rfl|hx
  .exact h.1
  .exact afT h.2 x hx
theorem afp{k:Nat×Bool}:{E:List Row}->RR k E=true->∀x,x∈E->Bk k x.gd=true
 |[],_,x,h=>by cases h
 |y::T,h,x,hx=>by
  simp only [RR,ae] at h;rcases List.mem_cons.1 hx with rfl|hx
  .exact h.1
  .exact afp h.2 x hx
theorem adY{R:Type}{r:R}{ops:y4}{T:aC}{fr0 fr:Fr}{st:aD}{o:Oper}{run:aC->GK->Option R}{ρ:ay}(v:eK T st.E fr.F)(u:mR ops fr.n T)(y:fr0.F=fr.F)(w:∀r,r∈fr0.H->r∈fr.H)(q:FT T fr0)(h:stepG ops T fr st o run=some r):
  ∃T' g,run T' g=some r/\aiL ops fr0 fr st ρ o T T' g:=by
 unfold stepG at h;obtain ⟨f,A⟩:=aI h;simp only [ae] at f;have iB:∀k x,x∈T->x.1=k->∃rj par b,(ops[k.1]?).bind (·.dst)=some rj/\look (au ρ T st.E fr.F) rj=some (T.get par,.bool b)/\Nat.blt rj fr.n=true/\(T.get par&&(b==k.2))=T.get (some k):=λk x hx m=>by subst m;obtain ⟨I,G⟩:=v x hx;obtain ⟨D,C⟩:=u x hx;exact ⟨x.2.2.1,x.2.1,x.2.2.2,D,by rw [fN,I];simp [AV.val],C,by rw [G,MZ]⟩
 split at A
 next p=>obtain ⟨t,d⟩:=aI A;exact ⟨T,none,d,⟨f.1,f.2,v,u,q,t,rfl,rfl,rfl,rfl,p,λk m=>by cases m⟩⟩
 .rename_i k p;rcases dq A with ⟨t,d⟩|⟨t,d⟩
  .obtain ⟨s,z⟩:=aI d;obtain ⟨x,hx,m⟩:=afz t;exact ⟨T,some k,z,⟨f.1,f.2,v,u,q,s,rfl,rfl,rfl,rfl,p,λM e=>by cases e;exact iB k x hx m⟩⟩
  .split at d
   .rename_i oj l;split at d
    .rename_i rj i;split at d
     .rename_i par b a;obtain ⟨s,z⟩:=aI d;simp only [ae] at s;obtain ⟨⟨⟨⟨⟨⟨L,K⟩,B⟩,P⟩,J⟩,O⟩,N⟩:=s;have j:Bk k par=true:=by
       unfold dB at a;split at a
       next x hx=>cases a;exact KT K hx
       .exact KT B a
      have c:aC.get ((k,par,rj,b)::T) (some k)=(aC.get ((k,par,rj,b)::T) par&&we k.2 b):=by rw [aC.alM,wk j]
      have ee:=P8 (ρ:=ρ) (par:=par) (rj:=rj) (b:=b) (T:=T) K;have ef:=P8 (ρ:=ρ) (par:=par) (rj:=rj) (b:=b) (T:=T) B;refine ⟨(k,par,rj,b)::T,some k,z,⟨f.1,f.2,λx hx=>?_,λx hx=>?_,⟨λx hx=>?_,λx hx=>?_⟩,N,ee,ef,Il P,Il J,p,λM e=>?_⟩⟩
      .rcases List.mem_cons.1 hx with rfl|hx
       .exact ⟨a,c⟩
       .obtain ⟨I,G⟩:=v x hx;obtain ⟨D,C⟩:=afI O x hx;exact ⟨I,by rw [wk D,wk C];exact G⟩
      .rcases List.mem_cons.1 hx with rfl|hx
       .exact ⟨by simp [l,i],L⟩
       .exact u x hx
      .rw [wk (afT B x (y▸hx))];exact q.1 x hx
      .rw [wk (afp J x (w x hx))];exact q.2 x hx
      .cases e;refine ⟨rj,par,b,by simp [l,i],?_,L,by rw [c,MZ]⟩;rw [fN,a];simp [AV.val]
     .cases d
    .cases d
   .cases d
theorem Yr{d:x5}:{T:aC}->mN d T=true->∀x,x∈T->∀(g:GK) (v:AV) (E F:aF),dB (ct d g v E) F x.2.2.1=dB E F x.2.2.1
 |[],_,x,h=>by cases h
 |y::T,h,x,hx=>λg v E F=>by
  simp only [mN,ae] at h;rcases List.mem_cons.1 hx with rfl|hx
  .cases d with
   |none=>rfl
   |some d=>
    have a:=h.1;simp only [gj] at a;unfold dB;simp only [ct,bz,a]
  .exact Yr h.2 x hx g v E F
theorem eK.out{T:aC}{E F:aF}(h:eK T E F){d:x5}(ha:mN d T=true)(g:GK)(v:AV):eK T (ct d g v E) F:=λx hx=>by rw [Yr ha x hx];exact h x hx
theorem tw{ρ:ay}{T:aC}{g:GK}{v:AV}{E F:aF}:au ρ T (ct d g v E) F=o8 d (T.get g) (v.val ρ) (au ρ T E F):=by cases d <;> rfl
section
variable {X : Cx} {tb : List aq} {σ : x4} {Q : bu} {D : w9} {ops : y4} {rest : y4} {R : Type} {r : R} {T : aC} {fr : Fr} {st : aD} {ρ : ay} {Φ : Ctx} {w : World}
theorem abo{fr0:Fr}{o:Oper}{K:aC->cC R}(O:eK T st.E fr.F)(N:mR ops fr.n T)(s:fr0.F=fr.F)(q:∀r,r∈fr0.H->r∈fr.H)(L:FT T fr0)(I:Sat (ab ρ T st.G++(ab ρ T fr.H++Φ)) w)(j:∀it∈X.Γ,it∈Φ)(l:∀e∈tb,e.Ok X.P X.Γ)
  (h:stepG ops T fr st o (λT g=>opD X tb T fr st g o (K T))=some r)
  (f:∀T' st' ρ' w',eK T' st'.E fr.F->mR ops fr.n T'->FT T' fr0->aT st.c ρ ρ'->st.c<=st'.c->K T' st'=some r->ab ρ' T' fr.H=ab ρ T fr.H->Sat (ab ρ' T' st'.G++(ab ρ' T' fr.H++Φ)) w'->WL X.P σ ops.toArray Q fr.n D rest (au ρ' T' st'.E fr.F) w'):
  WL X.P σ ops.toArray Q fr.n D (o::rest) (au ρ T st.E fr.F) w:=by
 obtain ⟨T',g,J,a⟩:=adY (ρ:=ρ) O N s q L h;have m:Sat (ab ρ T' st.G++(ab ρ T' fr.H++Φ)) w:=by rw [a.eg,a.eh];exact I
 have M:au ρ T st.E fr.F=au ρ T' st.E fr.F:=by rw [au,au,a.ee,a.ef]
 rw [M];have d:=apD a.t1 m j l J;have i:∀v w',aV r (K T') T' fr st g o.dst ρ Φ v w'->WL X.P σ ops.toArray Q fr.n D rest (o8 o.dst (T'.get g) v (au ρ T' st.E fr.F)) w':=λv w' hv=>by obtain ⟨ρ',st',av,C,B,A,t,z,y,x,u⟩:=hv;have:=f T' st' ρ' w' (by rw [t];exact a.t1.out a.ak g av) a.t2 a.ft B A C (x.trans a.eh) u;rw [t,tw,z,y] at this;exact this
 cases p:g with
 |none=>
  subst p;have:=i;rw [aC.get_none] at this;exact aok (d.1 aC.get_none) a.pl a.gg a.ds this
 |some k=>
  obtain ⟨rj,par,b,W,V,U,S⟩:=a.gk k p;subst p;exact aku d.1 d.2 a.pl a.gg (by simpa using W) V U S a.ds i
end
def pE{α:Type}:Option α->Bool
 |none=>true
 |some _=>false
def lJ(E0:aF):aF->aF
 |[]=>[]
 |x::E=>(match bz E0 x.1 with
  |some (none,_)=>aA (pE x.2.1) (x::lJ E0 E) (lJ E0 E)
  |_=>lJ E0 E)
def kF:List Row->List Row
 |[]=>[]
 |r::G=>aA (pE r.gd) (r::kF G) (kF G)
def wR(T:aC)(st:aD):aD:=match T with
 |[]=>st
 |_::_=>{ st with E:=lJ st.E st.E,G:=kF st.G }
theorem gE{t' t:Nat}{g:GK}{v:AV}{E:aF}(h:Nat.beq t' t=true):bz ((t',g,v)::E) t=some (g,v):=by simp only [bz,h]
theorem ey{t' t:Nat}{g:GK}{v:AV}{E:aF}(h:Nat.beq t' t=false):bz ((t',g,v)::E) t=bz E t:=by simp only [bz,h]
theorem Fo{d:aF}{t:Nat}:{E:aF}->{x:GK×AV}->bz (lJ d E) t=some x->x.1=none/\(∃v,bz d t=some (none,v))/\((∃v,bz E t=some (none,v))->bz E t=some x)
 |[],x,h=>by cases h
 |(t',g',v')::E,x,h=>by
  unfold lJ at h;have cL:bz (lJ d E) t=some x->(∀v,Nat.beq t' t=true->bz d t'≠some (none,v)\/g'≠none)->x.1=none/\(∃v,bz d t=some (none,v))/\((∃v,bz ((t',g',v')::E) t=some (none,v))->bz ((t',g',v')::E) t=some x):=λm i=>by
   obtain ⟨a,c,l⟩:=Fo m;refine ⟨a,c,λhv=>?_⟩;cases hb:Nat.beq t' t
   .rw [ey hb] at hv ⊢; exact l hv
   .exfalso;obtain ⟨j,g⟩:=c;obtain ⟨n,b⟩:=hv;rw [gE hb] at b;simp only [b8,p0] at b;have e:=ah hb;rcases i j hb with f|f
    .rw [e] at f;exact f g
    .exact f b.1
  dsimp only at h;split at h
  .rename_i v hv;cases a:pE g'
   .rw [a] at h;exact cL h (λv _=> .inr (λe=>by rw [e] at a;cases a))
   .rw [a] at h;have c:bz ((t',g',v')::lJ d E) t=some x:=h;cases hb:Nat.beq t' t
    .rw [ey hb] at c ⊢;exact Fo (E:=E) c
    .rw [gE hb] at c ⊢;cases c;have e:=ah hb;refine ⟨?_,⟨v,by rw [<-e];exact hv⟩,λ_=>rfl⟩;cases k:g' with
     |none=>rfl
     |some _=>rw [k] at a;cases a
  next i=>exact cL h (λv hb=> .inl (λe=>i v e))
theorem Pe{a:aF}{t:Nat}{c:AV}(b:bz a t=some (none,c)):{E:aF}->{v:AV}->bz E t=some (none,v)->bz (lJ a E) t=some (none,v)
 |[],v,h=>by cases h
 |(t',g',v')::E,v,h=>by
  unfold lJ;cases hb:Nat.beq t' t
  .rw [ey hb] at h;have ih:=Pe b h;dsimp only;split
   .cases pE g'
    .exact ih
    .show bz ((t',g',v')::lJ a E) t=_;rw [ey hb];exact ih
   .exact ih
  .rw [gE hb] at h;cases h;have e:=ah hb;subst e;dsimp only;rw [b];exact gE hb
def aat(F E0:aF):aF->Bool
 |[]=>true
 |x::E=>(match bz E0 x.1 with
  |some (none,_)=>true
  |_=>pE (bz F x.1))&&aat F E0 E
theorem adI{F c:aF}{t:Nat}:{E:aF}->{x:GK×AV}->aat F c E=true->bz E t=some x->(∃v,bz c t=some (none,v))\/bz F t=none
 |[],x,_,h=>by cases h
 |(t',g',v')::E,x,hb,h=>by
  simp only [aat,ae] at hb;cases b:Nat.beq t' t
  .rw [ey b] at h;exact adI hb.2 h
  .have e:=ah b;subst e;have a:=hb.1;split at a
   next v hv=>exact .inl ⟨v,hv⟩
   .cases d:bz F t' with
    |none=>exact .inr rfl
    |some y=>rw [d] at a;cases a
def AT(T:aC)(fr:Fr)(st:aD):Bool:=match T with
 |[]=>true
 |_::_=>aat fr.F st.E st.E
theorem amj{ρ:ay}{T:aC}{E:aF}(h:∀x,x∈E->T.get x.2.1=aC.get [] x.2.1):aF.env ρ T E=aF.env ρ [] E:=by
 induction E with
 |nil=>rfl
 |cons x E ih=>
  obtain ⟨t,g,v⟩:=x;simp only [aF.env];rw [h _ (b5 ..),ih (λx hx=>h x (aW _ hx))]
theorem Vt{ρ:ay}{T:aC}{G:List Row}(h:∀r,r∈G->T.get r.gd=aC.get [] r.gd):ab ρ T G=ab ρ [] G:=
 qz λr a=>Row.BA (h r a)
theorem w7:{G:List Row}->∀r,r∈kF G->r.gd=none
 |[],r,h=>by cases h
 |y::G,r,h=>by
  unfold kF at h;cases a:pE y.gd
  .rw [a] at h;exact w7 r h
  .rw [a] at h;rcases List.mem_cons.1 h with rfl|h
   .cases b:r.gd with
    |none=>rfl
    |some _=>rw [b] at a;cases a
   .exact w7 r h
theorem y6{ρ:ay}{T:aC}{w:World}{B:Ctx}:∀{G:List Row} {A:Ctx},Sat (A++(ab ρ T G++B)) w->Sat (A++(ab ρ T (kF G)++B)) w
 |[],_,h=>h
 |r::G,A,h=>by
  unfold kF;cases pE r.gd
  .exact y6 (G:=G) (Sat.As h)
  .have a:Sat ((A++[r.item ρ T])++(ab ρ T G++B)) w:=by simpa [ab] using h
   have:=y6 (G:=G) a;simpa [ab] using this
theorem HJ{ρ:ay}{T:aC}{fr:Fr}{st:aD}{Φ:Ctx}{w:World}(k:AT T fr st=true)(g:FT T fr)(f:Sat (ab ρ T st.G++(ab ρ T fr.H++Φ)) w):
  (wR T st).c=st.c/\iV (au ρ [] (wR T st).E fr.F) (au ρ T st.E fr.F)/\Sat (ab ρ [] (wR T st).G++(ab ρ [] fr.H++Φ)) w:=by
 cases T with
 |nil=>exact ⟨rfl,iV.refl,f⟩
 |cons x T=>
  refine ⟨rfl,λt p hp=>?_,?_⟩
  .have o:aF.env ρ (x::T) fr.F=aF.env ρ [] fr.F:=amj g.1;rw [au,FD] at hp ⊢;rw [o];cases b:look (aF.env ρ [] (wR (x::T) st).E) t with
   |none=>
    rw [b] at hp
    -- nothing kept: nothing told, or under a guard
    have:look (aF.env ρ (x::T) st.E) t=none:=by
     rw [sn] at b hp ⊢;cases j:bz st.E t with
     |none=>rfl
     |some y=>
      exfalso;have d:bz (lJ st.E st.E) t=none:=by
       cases d:bz (lJ st.E st.E) t with
       |none=>rfl
       |some z=>
        have:bz (wR (x::T) st).E t=some z:=d;rw [this] at b;cases b
      rcases adI k j with ⟨v,hv⟩|i
      .rw [Pe hv hv] at d;cases d
      .rw [i] at hp;cases hp
    rw [this];exact hp
   |some q=>
    rw [b] at hp;cases hp;rw [sn] at b;cases d:bz (wR (x::T) st).E t with
    |none=>rw [d] at b;cases b
    |some y=>
     rw [d] at b;obtain ⟨e,n,m⟩:=Fo d;have l:=m n;rw [sn,l];simp only [mi,b8] at b ⊢;rw [<-b,e,aC.get_none,aC.get_none]
  .have e:=y6 (A:=[]) f;have u:ab ρ (x::T) (kF st.G)=ab ρ [] (kF st.G):=Vt λr h=>by rw [w7 r h,aC.get_none,aC.get_none]
   have s:ab ρ (x::T) fr.H=ab ρ [] fr.H:=Vt g.2;rw [mj,u,s] at e;exact e
def O1:Bool->Pt->List (Bool×Nat×Pt)->Type
 |true,_,_=>Empty
 |false,r,os=>ew (lQ r++gr os)
abbrev apY{R:Type}:(nv:Bool)->(r:Pt)->(os:List (Bool×Nat×Pt))->O1 nv r os->(ew (lQ r++gr os)->Option R)->Option R
 |true,_,_,x,_=>Empty.elim x
 |false,_,_,x,K=>K x
def isOk:(nv:Bool)->(r:Pt)->(os:List (Bool×Nat×Pt))->O1 nv r os->ew (lQ r++gr os)->Prop
 |true,_,_,_,_=>False
 |false,_,_,x,q=>x=q
theorem aoL{R:Type}{a:R}:{nv:Bool}->{r:Pt}->{os:List (Bool×Nat×Pt)}->{x:O1 nv r os}->{q:ew (lQ r++gr os)}->{K:ew (lQ r++gr os)->Option R}->isOk nv r os x q->apY nv r os x K=some a->K q=some a
 |true,_,_,_,_,_,h,_=>h.elim
 |false,_,_,_,_,_,rfl,h=>h
abbrev VO(p:Pt):Option Pt->Type
 |none=>ew (lQ p)
 |some q=>ew (lQ p) ⊕ ew (lQ q)
abbrev adh{A B R:Type}(x:A ⊕ B)(f:A->R)(g:B->R):R:=match x with
 | .inl a=>f a
 | .inr b=>g b
def ak4(pp:Pt):(pq:Option Pt)->VO pp pq->Value->eI->jh->List Nm->Prop
 |none,p,v,I,X,N=>Sem pp v none none [] (fM _ p) I X N
 |some _,.inl p,v,I,X,N=>Sem pp v none none [] (fM _ p) I X N
 |some q,.inr p,v,I,X,N=>Sem q v none none [] (fM _ p) I X N
structure bI where
 f:FuncId
 ps:List Pt
 pp:Pt
 pq:Option Pt
 nv:Bool
 lp:Bool
 r:Pt
 os:List (Bool×Nat×Pt)
 m:ew (my ps)->Option (Except (VO pp pq) (O1 nv r os))
def bI.oe(e:bI):aq:=⟨e.f,e.ps,e.r,e.os,λ_=>none⟩
def bI.S(e:bI)(vs:xu)(N:List Nm)(I:eI)(X:jh)(Φ:Ctx)(r:Except (VO e.pp e.pq) (O1 e.nv e.r e.os))(v:Value)(w':World):Prop:=
 ∃x q,r= .ok x/\isOk e.nv e.r e.os x q/\∃(N1 N2:List Nm) (D1 D2:List bY) (I1 I2:eI) (X1 X2:jh),Sem e.r v none none N D1 I1 X1 N1/\EH (Vj N e.ps vs X) (λi=>vs[i]?) e.os N1 D2 I2 X2 N2/\D1++D2=fM _ q/\
  Sat ((dh I1++dh I2)++(eM I++Φ)) w'
def bI.Sp(e:bI)(I:eI)(Φ:Ctx)(r:Except (VO e.pp e.pq) (O1 e.nv e.r e.os))(c:w5)(w':World):Prop:=
 ∃p,r= .error p/\∃(v:Value) (N1:List Nm) (I1:eI) (X1:jh),c=gS v/\ak4 e.pp e.pq p v I1 X1 N1/\Sat (dh I1++(aA e.lp [] (eM I)++Φ)) w'
def bI.Ok(P:Program)(Γg:Ctx)(e:bI):Prop:=Enters P e.f/\∀s r,e.m s=some r->∀(vs:xu) (N:List Nm) (I:eI) (X:jh) (Φ:Ctx) (w:World),
 tT e.ps vs [] [] [] (fM _ s) I X N->Sat (dh I++Φ) w->(∀it∈Γg,it∈Φ)->kE P e.f vs w (e.S vs N I X Φ r) (e.Sp I Φ r)
theorem Sat.move{A B C:Ctx}{x:Item}{w:World}(h:Sat (A++x::(B++C)) w):Sat (A++(B++x::C)) w:=by
 refine h.Az (λj k=>(j<A.length/\k=j)\/(A.length<=j/\j<A.length+B.length/\k=j+1)\/(j=A.length+B.length/\k=A.length)\/(A.length+B.length<j/\k=j)) (λj jt a=>?_) (λj k q b m l=>by omega);by_cases e:j<A.length
 .rw [cb e] at a;exact .inr ⟨j,jt,.inl ⟨e,rfl⟩,by rw [cb e];exact a,bR.refl⟩
 .rw [b7 (by omega)] at a;by_cases i:j<A.length+B.length
  .rw [cb (by omega)] at a;refine .inr ⟨j+1,jt,.inr (.inl ⟨by omega,i,rfl⟩),?_,bR.refl⟩;rw [b7 (by omega)];have:j+1-A.length=(j-A.length)+1:=by omega
   rw [this,cd,cb (by omega)];exact a
  .rw [b7 (by omega)] at a;by_cases g:j=A.length+B.length
   .subst g;rw [show A.length+B.length-A.length-B.length=0 by omega] at a;simp at a;subst a;exact .inr ⟨A.length,x,.inr (.inr (.inl ⟨rfl,rfl⟩)),by simp,bR.refl⟩
   .refine .inr ⟨j,jt,.inr (.inr (.inr ⟨by omega,rfl⟩)),?_,bR.refl⟩;rw [b7 (by omega)];have f:j-A.length-B.length=(j-A.length-B.length-1)+1:=by omega
    rw [f,cd] at a;have d:j-A.length=(j-A.length-1)+1:=by omega
    rw [d,cd,b7 (by omega)];have c:j-A.length-1-B.length=j-A.length-B.length-1:=by omega
    rw [c];exact a
theorem Sat.swp{w:World}{B C:Ctx}:∀{A P:Ctx},Sat (P++(A++(B++C))) w->Sat (P++(B++(A++C))) w
 |[],_,h=>h
 |x::A,P,h=>by
  have c:Sat ((P++[x])++(A++(B++C))) w:=by simpa using h
  have b:=Sat.swp (A:=A) c;have a:Sat (P++x::(B++(A++C))) w:=by simpa using b
  exact a.move
def da:List Row->List Row
 |[]=>[]
 |r::G=>aA r.cG (r::da G) (da G)
abbrev GJ(b:Bool)(H:List Row):List Row:=aA b (da H) H
theorem DQ{c:Nat}:{G:List Row}->bC c G=true->bC c (da G)=true
 |[],_=>rfl
 |r::G,h=>by
  simp only [bC,ae] at h;unfold da;cases r.cG
  .exact DQ h.2
  .show bC c (r::da G)=true;simp only [bC,ae];exact ⟨h.1,DQ h.2⟩
theorem aov{c:Nat}{b:Bool}{G:List Row}(h:bC c G=true):bC c (GJ b G)=true:=by
 cases b
 .exact h
 .exact DQ h
theorem oL{r:Row}:{G:List Row}->r∈da G->r∈G/\r.cG=true
 |[],h=>by cases h
 |x::G,h=>by
  unfold da at h;cases hx:x.cG <;> rw [hx] at h
  .exact ⟨aW _ (oL h).1,(oL h).2⟩
  .rcases List.mem_cons.1 h with rfl|h
   .exact ⟨b5 .., hx⟩
   .exact ⟨aW _ (oL h).1,(oL h).2⟩
theorem Mc{G H:List Row}:da (G++H)=da G++da H:=by
 induction G with
 |nil=>rfl
 |cons r G ih=>
  show aA r.cG (r::da (G++H)) (da (G++H))=aA r.cG (r::da G) (da G)++da H;rw [ih];cases r.cG <;> rfl
theorem ajK{ρ:ay}{T:aC}{w:World}{Γ:Ctx}(h:Sat Γ w){H:List Row}(d:∀r∈H,r.item ρ T∈Γ):Sat (ab ρ T (da H)++Γ) w:=by
 refine h.alL _ (List.all_eq_true.2 λit a=>?_) ?_
 .obtain ⟨r,b,rfl⟩:=List.mem_map.1 a;exact Row.ajJ (oL b).2
 .have:∀l:List Item,(∀it∈l,it.P Γ.M w)->agG Γ.M w l:=λl=>by
   induction l with
   |nil=>intro _;trivial
   |cons x l ih=>intro c;exact ⟨c x (b5 ..),ih λit a=>c it (aW _ a)⟩
  refine this _ λit a=>?_;obtain ⟨r,b,rfl⟩:=List.mem_map.1 a;exact h.all _ (d r (oL b).1)
theorem aoH{L:wv}{A B:Ctx}(h:∀i,some i∈L->i<A.length):∃a,iz L (A++B)=a++B/\a.length=A.length:=by
 induction L with
 |nil=>exact ⟨A,rfl,rfl⟩
 |cons o L ih=>
  obtain ⟨a,c,b⟩:=ih (λi hi=>h i (aW _ hi));cases o with
  |none=>exact ⟨a,c,b⟩
  |some i=>
   refine ⟨a.set i fG,?_,by rw [tj,b]⟩;show (iz L (A++B)).set i fG=_;have:=h i (b5 ..);rw [c,List.set_append_left _ _ (by omega)]
theorem Sat.LC{w:World}{B C:Ctx}:∀{A:Ctx},Sat (B++(A++C)) w->Sat (B++C) w
 |[],h=>h
 |_x::A,h=>Sat.LC (A:=A) (Sat.As h)
def Lr{R:Type}(st:aD)(pp:Pt)(G1:List Row)(KP:AV->aD->Option R)(p:ew (lQ pp)):Option R:=
 match fill (rL [] st.c) pp none none 0 (fM _ p) with
 |⟨v,R1,k,_,_⟩=>KP v { st with c:=st.c+k,G:=R1.map (·.2)++G1 }
abbrev ai2{R:Type}(st:aD)(pp:Pt):(pq:Option Pt)->(G1:List Row)->(KP:AV->aD->Option R)->VO pp pq->Option R
 |none,G1,KP,p=>Lr st pp G1 KP p
 |some q,G1,KP,p=>adh p (Lr st pp G1 KP) (Lr st q G1 KP)
def adW{R:Type}(fr:Fr)(st:aD)(d:x5)(args:List AV)(e:bI)(KP:Bool->AV->aD->Option R)(K:cC R):Option (Option R):=
 match GQ (cu (dP st.G fr.H e.ps args) st.G) fr.H e.ps args [] [] [] with
  |some mr=>aA (A6 (mr.S.map λx=>di (cu (dP st.G fr.H e.ps args) st.G) fr.H x.2)&&OK (cu (dP st.G fr.H e.ps args) st.G).length (xQ (cu (dP st.G fr.H e.ps args) st.G) fr.H mr.S)&&Pz st.c mr.B&&AV.bW st.c args&&R3 st.c mr.X&&pr (vM mr.B e.ps args mr.X) e.os) (match cB (my e.ps) mr.D with
   |some s=>some (lq (e.m s) (ai2 st e.pp e.pq (aA e.lp (da (cu (dP st.G fr.H e.ps args) st.G)) (jP (pz (xQ (cu (dP st.G fr.H e.ps args) st.G) fr.H mr.S) 0 (cu (dP st.G fr.H e.ps args) st.G)))) (KP e.lp))
     (λx=>apY e.nv e.r e.os x (Nt fr st none d args e.oe mr (jP (pz (xQ (cu (dP st.G fr.H e.ps args) st.G) fr.H mr.S) 0 (cu (dP st.G fr.H e.ps args) st.G))) K)))
   |none=>none) none
  |none=>none
def Lj{R:Type}(fr:Fr)(st:aD)(d:x5)(f:FuncId)(args:List AV)(KP:Bool->AV->aD->Option R)(K:cC R):List bI->Option (Option R)
 |[]=>none
 |e::tp=>aA (Nat.beq e.f f) (match adW fr st d args e KP K with
   |some r=>some r
   |none=>Lj fr st d f args KP K tp) (Lj fr st d f args KP K tp)
def ahe{R:Type}(tp:List bI)(T:aC)(fr:Fr)(st:aD)(o:Oper)(KP:Bool->AV->aD->Option R)(K:cC R):Option (Option R):=match o.guard with
 |some _=>none
 |none=>(match o.op with
  | .panic x=>(match br T st.E fr.F none x with
   |some (.ifc t v)=>some (KP false (.ifc t v) st)
   |_=>none)
  | .call c=>(match c.callee with
   | .value fo=>(match br T st.E fr.F none fo with
    |some (.fn f a b)=>(match ox T st.E fr.F none c.args.toList with
     |some vs=>aA (mN o.dst T&&LL fr.n o.dst&&st.low fr) (Lj fr st o.dst f (a++vs++b) KP K tp) none
     |none=>none)
    |_=>none)
   |_=>none)
  |_=>none)
section
variable {P : Program} {R : Type} {r : R} {K : cC R} {KP : Bool -> AV -> aD -> Option R} {b : Bool} {T : aC} {fr : Fr} {st : aD} {d : x5} {ρ : ay} {Φ Γg : Ctx} {w : World}
def acR(r:R)(KP:Bool->AV->aD->Option R)(T:aC)(fr:Fr)(st:aD)(ρ:ay)(Φ:Ctx)(v:Value)(w':World):Prop:=
 ∃(b:Bool) (ρ':ay) (st':aD) (av:AV),KP b av st'=some r/\aT st.c ρ ρ'/\st.c<=st'.c/\st'.E=st.E/\av.val ρ'=v/\Sat (ab ρ' T st'.G++(ab ρ' T (GJ b fr.H)++Φ)) w'/\au ρ' T st.E fr.F=au ρ T st.E fr.F
theorem HL{pp:Pt}{e:List Row}{p:ew (lQ pp)}{v:Value}{w':World}{N1:List Nm}{l:eI}{w:jh}
  (t:st.low fr=true) (n:bC st.c e=true) (u:Sem pp v none none [] (fM _ p) l w N1)
  (z:Sat (dh l++(ab ρ T e++(ab ρ T (GJ b fr.H)++Φ))) w') (h:Lr st pp e (KP b) p=some r):acR r KP T fr st ρ Φ v w':=by
 have m:=s4 _ _ _ _ _ _ _ _ _ u;have d:=YT (ρ:=ρ) (c:=st.c) (N:=[]) (B:=[]) (N2:=N1) .nil m rfl;have a:aT st.c ρ (λi=>aA (Nat.blt i st.c) (ρ i) ((N1[i-st.c]?).getD cO)):=λj D=>by
  have:Nat.blt j st.c=true:=by simpa using D
  simp only [this]
 generalize y:(λi=>aA (Nat.blt i st.c) (ρ i) ((N1[i-st.c]?).getD cO))=ρ' at d a;obtain ⟨g,s,q,o,f⟩:=AK (T:=T) pp v none none [] (fM _ p) l w N1 u (Fe _) d (by simp) [];rw [la,et] at g s q o f;unfold Lr at h;generalize fill (rL [] st.c) pp none none 0 (fM _ p)=L at g s q o f h;obtain ⟨x,G,k,J,I⟩:=L;simp only at g s q o f;dsimp only at h;have F:=bf (T:=T) a n;have E:=bf (T:=T) a (aov (b:=b) (aD.cD.1 t).2.2.2);refine ⟨b,ρ',_,x,h,a,qC _ _,rfl,g,?_,mM t a⟩;show Sat (ab ρ' T (G.map (·.2)++e)++(ab ρ' T (GJ b fr.H)++Φ)) w';rw [bk,F,E,aO];exact Sat.leL (A:=[]) (B:=dh l) (C:=ab ρ T e++(ab ρ T (GJ b fr.H)++Φ)) (by simpa using z) f.rw
theorem S7{pp:Pt}:{pq:Option Pt}->{a:List Row}->{p:VO pp pq}->{v:Value}->{w':World}->{N1:List Nm}->{d:eI}->{e:jh}->
  st.low fr=true->bC st.c a=true->ak4 pp pq p v d e N1->Sat (dh d++(ab ρ T a++(ab ρ T (GJ b fr.H)++Φ))) w'->ai2 st pp pq a (KP b) p=some r->acR r KP T fr st ρ Φ v w'
 |none,_,_,_,_,_,_,_,hl,hG,h1,hs,h=>HL hl hG h1 hs h
 |some _,_,.inl _,_,_,_,_,_,hl,hG,h1,hs,h=>HL hl hG h1 hs h
 |some _,_,.inr _,_,_,_,_,_,hl,hG,h1,hs,h=>HL hl hG h1 hs h
theorem ajb{e:bI}{args:List AV}(Z:st.low fr=true)(n:Sat (ab ρ T st.G++(ab ρ T fr.H++Φ)) w)(he:e.Ok P Γg)(l:∀it∈Γg,it∈Φ)(h:adW fr st d args e KP K=some (some r)):
  kE P e.f (AV.ao ρ args) w (aV r K T fr st none d ρ Φ) (λc w'=>∃v,c=gS v/\acR r KP T fr st ρ Φ v w'):=by
 have E:=pC (ids:=dP st.G fr.H e.ps args) (aD.cD.1 Z).2.2.1;replace n:=iR (ids:=dP st.G fr.H e.ps args) n;unfold adW at h;generalize cu (dP st.G fr.H e.ps args) st.G=a at E n h;have hd:=ajK n (H:=a++fr.H) (λr hr=>List.mem_append.2 ((List.mem_append.1 hr).imp (λh=>List.mem_map_of_mem h) (λh=>qH _ (List.mem_map_of_mem h))));replace hd:Sat (ab ρ T a++(ab ρ T fr.H++(ab ρ T (da (a++fr.H))++Φ))) w:=by exact Sat.swp (P:=ab ρ T a) (Sat.swp (P:=[]) hd)
 have O:=l;replace l:∀it∈Γg,it∈ab ρ T (da (a++fr.H))++Φ:=λit D=>ed _ (O it D);generalize M:ab ρ T (da (a++fr.H))++Φ=g at hd l;have hdr:∀{A:Ctx} {w':World},Sat (A++g) w'->Sat (A++Φ) w':=λ{A w'} h=>by rw [<-M] at h;exact Sat.LC h
 replace n:=hd;split at h
 .rename_i m hm;obtain ⟨h1,h2⟩:=aI h;simp only [ae] at h1;obtain ⟨⟨⟨⟨⟨h3,h4⟩,h5⟩,h6⟩,h7⟩,h9⟩:=h1;split at h2
  .rename_i s Q;simp only [b8] at h2;obtain ⟨N,I,s1,n1,a1⟩:=xl n e.ps args [] [] [] m [] hm (.inl rfl) .nil;rw [<-AL _ Q] at s1;obtain ⟨p1,p2⟩:=Nn n a1;have o:=wF h3;obtain ⟨q1,_⟩:=vX n p1 o;have J:∀(L:wv) (G:List Row) (k:Nat),bC st.c G=true->bC st.c (jP (pz L k G))=true:=λL G=>by
    induction G with
    |nil=>intro k _;rfl
    |cons r G ih=>
     intro k W;simp only [bC,ae] at W;show bC st.c (jP ((aA (jB k L) .gone r)::pz L (k+1) G))=true;cases jB k L
     .cases r <;> first|exact ih (k+1) W.2|(simp only [jP,bC,ae];exact ⟨W.1,ih (k+1) W.2⟩)
     .exact ih (k+1) W.2
   have t:=J (xQ a fr.H m.S) a 0 E;have R:∀it∈Γg,it∈iz (m.S.map λx=>di a fr.H x.2) (ab ρ T a++(ab ρ T fr.H++g)):=λit D=>by
    obtain ⟨k,u⟩:=List.mem_iff_getElem?.1 (l it D);have hk2:(ab ρ T a++(ab ρ T fr.H++g))[a.length+fr.H.length+k]? =some it:=by
     rw [b7 (by simp [ab];omega),b7 (by simp [ab];omega)];have:a.length+fr.H.length+k-(ab ρ T a).length-(ab ρ T fr.H).length=k:=by simp [ab];omega
     rw [this];exact u
    refine pa (i:=a.length+fr.H.length+k) ?_;rw [AN,hk2];intro U;obtain ⟨x,_,hx⟩:=List.mem_map.1 U;have:=QE hx;omega
   have y:=λrr hr=>he.2 s rr hr (AV.ao ρ args) N I (dF ρ m.X) _ w (by simpa only [AV.ao] using s1) q1 R;have j:∀{A:Ctx} {w':World},Sat (A++(eM I++iz (m.S.map λx=>di a fr.H x.2) (ab ρ T a++(ab ρ T fr.H++g)))) w'->Sat (A++(ab ρ T (jP (pz (xQ a fr.H m.S) 0 a))++(ab ρ T fr.H++Φ))) w':=λ{A w'} c4=>by have Y:=Gm p2 o c4;rw [Ra a1,Ca h4] at Y;have c6:=DH Y;rw [<-aO (ab ρ T (jP (pz (xQ a fr.H m.S) 0 a))),<-aO A] at c6;have c7:=hdr c6;rwa [aO A,aO] at c7
   rcases ah2 h2 with ⟨p,hq,u⟩|⟨q,hq,u⟩
   .refine (y _ hq).mono (λv w' hv=>?_) (λc w' hv=>?_)
    .obtain ⟨x',q',z,_⟩:=hv;cases z
    .obtain ⟨p',C,v,N1,I1,X1,c1,c2,F⟩:=hv;cases C;refine ⟨v,c1,?_⟩;cases V:e.lp with
     |false=>rw [V] at F u;exact S7 (b:=false) Z t c2 (j F) u
     |true=>
      rw [V] at F u;obtain ⟨A',e1,_⟩:=aoH (L:=m.S.map λx=>di a fr.H x.2) (A:=ab ρ T a++ab ρ T fr.H) (B:=g) (λi hi=>by obtain ⟨x,_,hx⟩:=List.mem_map.1 hi;have:=QE hx;simp only [ab,ca,List.length_map];omega)
      rw [aO] at e1;rw [e1] at F;have Y:Sat (dh I1++g) w':=Sat.LC (A:=A') F;rw [<-M,Mc,bk,aO] at Y;exact S7 (b:=true) Z (DQ E) c2 Y u
   .refine (y _ hq).mono (λv w' hv=>?_) (λc w' hv=>?_)
    .obtain ⟨x',q',z,hi,N1,N2,D1,D2,I1,I2,X1,X2,c1,c2,F,c4⟩:=hv;cases z;exact KZ (e:=e.oe) Z t n1 h5 h6 h7 h9 c1 c2 F aC.get_none (j c4) (.inl rfl) (aoL hi u)
    .obtain ⟨p',C,_⟩:=hv;cases C
  .cases h2
 .cases h
theorem Mj{f:FuncId}{args:List AV}(j:st.low fr=true)(g:Sat (ab ρ T st.G++(ab ρ T fr.H++Φ)) w)(a:∀it∈Γg,it∈Φ):∀{tp:List bI},(∀e∈tp,e.Ok P Γg)->Lj fr st d f args KP K tp=some (some r)->
  Enters P f/\kE P f (AV.ao ρ args) w (aV r K T fr st none d ρ Φ) (λc w'=>∃v,c=gS v/\acR r KP T fr st ρ Φ v w')
 |[],_,h=>by cases h
 |e::tp,htp,h=>by
  unfold Lj at h;rcases dq h with ⟨l,b⟩|⟨_,b⟩
  .split at b
   next m i=>cases b;have:=ah l;subst this;exact ⟨(htp e (b5 ..)).1,ajb j g (htp e (b5 ..)) a i⟩
   .exact Mj j g a (λe k=>htp e (aW _ k)) b
  .exact Mj j g a (λe k=>htp e (aW _ k)) b
variable {σ : x4} {Q : bu} {D : w9} {ops rest : y4} {tp : List bI}
theorem anC{o:Oper}(h1:eK T st.E fr.F)(U:Sat (ab ρ T st.G++(ab ρ T fr.H++Φ)) w)(M:∀it∈Γg,it∈Φ)(O:∀e∈tp,e.Ok P Γg)
  (h:ahe tp T fr st o KP K=some (some r))
  (p:∀st' ρ' w',eK T st'.E fr.F->aT st.c ρ ρ'->st.c<=st'.c->K st'=some r->ab ρ' T fr.H=ab ρ T fr.H->Sat (ab ρ' T st'.G++(ab ρ' T fr.H++Φ)) w'->WL P σ ops.toArray Q fr.n D rest (au ρ' T st'.E fr.F) w')
  (g:∀b v st' ρ' w',aT st.c ρ ρ'->st.c<=st'.c->KP b v st'=some r->st'.E=st.E->au ρ' T st.E fr.F=au ρ T st.E fr.F->Sat (ab ρ' T st'.G++(ab ρ' T (GJ b fr.H)++Φ)) w'->At Q (.panic (gS (v.val ρ'))) fr.n D (au ρ' T st'.E fr.F) w'):
  WL P σ ops.toArray Q fr.n D (o::rest) (au ρ T st.E fr.F) w:=by
 obtain ⟨dst,op,ty,pos,af,gd⟩:=o;unfold ahe at h;split at h
 .cases h
 rename_i s;simp only at s;subst s;split at h
 .rename_i x j;simp only at j;subst j;split at h
  next t v hx=>have Z:=p8 h;have m:=aR (ρ:=ρ) hx;rw [aC.get_none] at m;simp only [AV.val] at m;refine akO m ?_;have:=g false (.ifc t v) st ρ w .refl (bb _) Z rfl rfl U;simp only [AV.val] at this;exact this
  .cases h
 .rename_i c j;simp only at j;subst j;obtain ⟨A,xs,tys⟩:=c;obtain ⟨xs⟩:=xs;simp only at h;split at h
  .rename_i fo;split at h
   .rename_i f a b R;split at h
    .rename_i vs N;obtain ⟨V,h3⟩:=aI h;simp only [ae] at V;obtain ⟨⟨S,hd⟩,Y⟩:=V;obtain ⟨u,hc⟩:=Mj Y U M O h3;have d:=aR (ρ:=ρ) R;have i:=fS (ρ:=ρ) N;rw [aC.get_none] at d i;simp only [AV.val] at d;have k:AV.ao ρ (a++vs++b)=AV.ao ρ a++AV.ao ρ vs++AV.ao ρ b:=by rw [cZ,cZ]
     have y:∀v w',aV r K T fr st none dst ρ Φ v w'->WL P σ ops.toArray Q fr.n D rest (o8 dst true v (au ρ T st.E fr.F)) w':=λv w' hv=>by obtain ⟨ρ',st',av,L,J,I,q,C,B,z,X⟩:=hv;have:=p st' ρ' w' (by rw [q];exact h1.out S none av) J I L z X;rw [q,tw,C,B,aC.get_none] at this;exact this
     have l:∀c w',(∃v,c=gS v/\acR r KP T fr st ρ Φ v w')->At Q (.panic c) fr.n D (au ρ T st.E fr.F) w':=λc w' hv=>by obtain ⟨v,rfl,W,ρ',st',av,L,J,I,q,C,B,z⟩:=hv;have:=g W av st' ρ' w' J I L q z B;rw [C,q,z] at this;exact this
     cases dst with
     |none=>exact ajH u d i k hc y l
     |some dd=>exact acr u d i k hd hc y l
    .cases h
   .cases h
  .cases h
 .cases h
end
theorem Sat.alm{A B:Ctx}{x:Item}{w:World}(h:Sat (A++x::B) w):Sat (x::(A++B)) w:=by
 refine h.Az (λj k=>(j=0/\k=A.length)\/(0<j/\j<=A.length/\k+1=j)\/(A.length<j/\k=j)) (λj jt a=>?_) (λj k q b d c=>by omega);cases j with
 |zero=>
  simp only [eF,b8] at a;subst a;exact .inr ⟨A.length,x,.inl ⟨rfl,rfl⟩,by simp,bR.refl⟩
 |succ j=>
  simp only [cd] at a;by_cases e:j<A.length
  .rw [cb e] at a;exact .inr ⟨j,jt,.inr (.inl ⟨by omega,by omega,rfl⟩),by rw [cb e];exact a,bR.refl⟩
  .rw [b7 (by omega)] at a;refine .inr ⟨j+1,jt,.inr (.inr ⟨by omega,rfl⟩),?_,bR.refl⟩;rw [b7 (by omega)];have:j+1-A.length=(j-A.length)+1:=by omega
   rw [this,cd];exact a
theorem Sat.aqC{Γ:Ctx}{it new:Item}{w:World}(h:Sat (it::Γ) w)(a:∀b∈new.own,b∈it.own)(c:∀M',Mv (Ctx.M (it::Γ)) w M' w->new.P M' w):Sat (new::Γ) w:=by have:=h.ng (i:=0) (it:=it) (new:=new) (w':=w) rfl ⟨rfl,rfl,rfl,bb _,λ_ _ _=>rfl⟩ (λb hb=>⟨h.lt (Ctx.BY.2 (.inl (a b hb))),.inl (a b hb)⟩) (λM' m _=>c M' m);simpa using this
def Ik(X:Cx)(T:aC)(fr:Fr)(st:aD)(o:Oper):Option (TypeId×List AV×List AV):=match o.op,o.guard with
 | .alloc t,none=>(match aal X.P t with
  |some cs=>some (t,[],cs)
  |none=>none)
 | .buildSlice t len ps,none=>(match eR X.P t with
  |some e=>(match jW X.P e with
   |some z=>(match ox T st.E fr.F none (ps.toList.map (·.2)) with
    |some vs=>(match y8 (λi=>some (i*z.1,z.1)) ((ps.toList.map (·.1)).zip vs) (Xb len (z.2.2.cells.toList.map jg)) with
     |some cs=>aA ( Nat.beq z.2.2.cells.size z.1&&Nat.ble (len*z.1) 16777216&&(Nat.blt 0 (len*z.1)||Nat.beq len 0&&ps.toList.isEmpty) ) (some (e,vs,cs)) none
     |none=>none)
    |none=>none)
   |none=>none)
  |none=>none)
 |_,_=>none
theorem adQ{X:Cx}{T:aC}{fr:Fr}{st:aD}{ρ:ay}{o:Oper}{e:TypeId}{vs cs:List AV}(h:Ik X T fr st o=some (e,vs,cs))(w:World):
  kS X.P (au ρ T st.E fr.F) o w (Ft o w.heap.size) (w.alloc (.cells (AV.ao ρ cs).toArray e)):=by
 obtain ⟨dst,op,ty,pos,af,gd⟩:=o;unfold Ik at h;simp only at h;split at h
 .rename_i t;split at h
  .rename_i p a;cases h;unfold aal at a;split at a
   next z k=>cases a;obtain ⟨n,b,z⟩:=z;have:=Hs (P:=X.P) (E:=au ρ T st.E fr.F) (w:=w) (dst:=dst) (ty:=ty) (pos:=pos) (af:=af) (zs:=z.cells.toList) (cF k) (by simp);rw [kM];exact this
   .cases a
  .cases h
 .rename_i t len ps;obtain ⟨ps⟩:=ps;split at h
  .rename_i e' q;split at h
   .rename_i z k;obtain ⟨n,bytes,z⟩:=z;split at h
    .rename_i s m;split at h
     .rename_i p a;obtain ⟨r,v⟩:=aI h;cases v;simp only [ae,c9] at r;obtain ⟨⟨A,y⟩,g⟩:=r;have f:z.cells.size=n:=ah A;have d:=fS (ρ:=ρ) m;rw [aC.get_none] at d;have c:=wJ (ρ:=ρ) a;rw [BR,Qh,kM] at c;rcases g with g|⟨g,u⟩
      .have i:0<n:=by
        have:0<len*n:=by simpa using g
        exact q0 (λe=>by simp [e] at this)
       have j:oy n len z.cells.toList ((ps.map (·.1)).zip (AV.ao ρ vs))=some (AV.ao ρ cs).toArray:=by unfold oy;have l:=Da z.cells.toList (by simp [f];exact i) len;simp only [ch,f] at l;simp only [ch,f];rw [<-c,<-l]
       exact nW (P:=X.P) (w:=w) (dst:=dst) (ty:=ty) (pos:=pos) (af:=af) (bT q) (cF k) (zs:=z.cells.toList) (by simp) g y d j
      .have x:len=0:=ah g;subst x;have l:ps=[]:=by simpa using u
       subst l;have:cs=[]:=by simp only [u9,List.zip_nil_left,Xb,List.replicate_zero,List.flatten_nil,y8,b8] at a;exact a.symm
       subst this;exact sF (P:=X.P) (E:=au ρ T st.E fr.F) (w:=w) (dst:=dst) (ty:=ty) (pos:=pos) (af:=af) (bT q) (cF k)
     .cases h
    .cases h
   .cases h
  .cases h
 .cases h
def alG{R:Type}(X:Cx)(T:aC)(fr:Fr)(st:aD)(o:Oper)(K:cC R):Option R:=match Ik X T fr st o,o.dst with
 |some p,some d=>(match o.op with
  | .buildSlice _ len _=>(match AG X.tys p.1 with
   |some u=>(match rdL (cu (AV.ej (.agg p.2.1)++(p.2.1.map AV.ej).flatten) st.G) fr.H u len p.2.2 with
    |some xs=>aA (st.low fr&&Nat.ble len 9223372036854775807) (K { st with c:=st.c+1,E:=ct (some d) none (.sl st.c) st.E,G:= .own st.c u p.1 xs st.c::cu (AV.ej (.agg p.2.1)++(p.2.1.map AV.ej).flatten) st.G }) none
    |none=>none)
   |none=>none)
  |_=>aA (st.low fr&&AV.bW st.c p.2.2) (ahi st d p.1 p.2.2 K) none)
 |_,_=>none
section
variable {X : Cx} {R : Type} {r : R} {K : cC R} {T : aC} {fr : Fr} {st : aD} {ρ : ay} {Φ : Ctx} {w : World}
theorem an4{o:Oper}{b:Nat}{e':TypeId}{k:xu}(g:Sat (ab ρ T st.G++(ab ρ T fr.H++(box b e' k::Φ))) w)
  (J:∀e vs cs,Ik X T fr st o=some (e,vs,cs)->e'=e/\k=AV.ao ρ cs) (h:alG X T fr st o K=some r):
  aV r K T fr st none o.dst ρ Φ (Ft o b) w:=by
 obtain ⟨dst,op,ty,pos,af,gd⟩:=o;unfold alG at h;simp only at h;split at h
 .rename_i p d hp;obtain ⟨e,vs,cs⟩:=p;obtain ⟨rfl,rfl⟩:=J _ _ _ hp;split at h
  .rename_i t len ps;split at h
   .rename_i u O;split at h
    .rename_i xs n;obtain ⟨B,A⟩:=aI h;simp only [ae] at B;obtain ⟨s,L⟩:=B;have z:=pC (ids:=AV.ej (.agg vs)++(vs.map AV.ej).flatten) (aD.cD.1 s).2.2.1;replace g:=iR (ids:=AV.ej (.agg vs)++(vs.map AV.ej).flatten) g;simp only at A;generalize cu (AV.ej (.agg vs)++(vs.map AV.ej).flatten) st.G=G at A z g n;obtain ⟨I,F⟩:=SN (ρ:=ρ) (T:=T) g _ _ _ n;have f:Sat ((ab ρ T G++ab ρ T fr.H)++box b e' (AV.ao ρ cs)::Φ) w:=by rw [aO];exact g
     have a:=f.alm;have mv:Mv (Ctx.M (ab ρ T G++(ab ρ T fr.H++(box b e' (AV.ao ρ cs)::Φ)))) w (Ctx.M (box b e' (AV.ao ρ cs)::((ab ρ T G++ab ρ T fr.H)++Φ))) w:=Mv.weaken w λc hc=>by
      obtain ⟨it,hi,hb⟩:=hc;refine ⟨it,?_,hb⟩;simp only [qF,List.mem_append] at hi ⊢;rcases hi with h|(h|h)|h
      .exact .inr (.inr (.inl h))
      .exact .inl h
      .exact .inr (.inl h)
      .exact .inr (.inr (.inr h))
     refine aV.new (ρ':=ρ.set st.c { cO with v:=(some ⟨b,0,none⟩,len,len),y:=⟨.l u,xs⟩ }) (av:= .sl st.c) s A ay.aZ (hV _) rfl (by simp only [AV.val,ay.bA];rfl) ?_;show Sat (ab _ T (_::G)++_) w;have e:=bf (T:=T) (ay.aZ (ρ:=ρ) (j:=st.c) (x:={ cO with v:=(some ⟨b,0,none⟩,len,len),y:=⟨.l u,xs⟩ })) z;rw [ab,c5];rw [ab] at e;rw [e];have hb:eN w b e' (AV.ao ρ cs):=a.at_ (i:=0) rfl;have q:Sat ((Row.own st.c u e' xs st.c).item (ρ.set st.c { cO with v:=(some ⟨b,0,none⟩,len,len),y:=⟨.l u,xs⟩ }) T::((ab ρ T G++ab ρ T fr.H)++Φ)) w:=by
      refine a.aqC (λc hc=>?_) (λM' m=>?_)
      .simp only [Row.item,ay.bA] at hc;exact AO hc
      .simp only [Row.item,ay.bA];exact ⟨(bL.of (gm.fresh hb I L (F.mv (mv.trans m)))).Br,trivial⟩
     rw [aO] at q;exact q
    .cases h
   .cases h
  .rename_i C;obtain ⟨B,A⟩:=aI h;simp only [ae] at B;obtain ⟨s,E⟩:=B;have f:Sat ((ab ρ T st.G++ab ρ T fr.H)++box b e' (AV.ao ρ cs)::Φ) w:=by rw [aO];exact g
   have a:=f.alm;rw [aO] at a;have N:Ft ⟨some d,op,ty,pos,af,gd⟩ b= .pointer (some ⟨b,0,none⟩):=by
    unfold Ft;split
    next D=>exact (C _ _ _ D).elim
    .rfl
   rw [N];refine aV.new (ρ':=ρ.set st.c { cO with b:=b }) (av:= .ptr st.c 0) s A ay.aZ (hV _) rfl (by simp only [AV.val,ay.bA]) ?_;show Sat (ab _ T (_::st.G)++_) w;have e:=bf (T:=T) (ay.aZ (ρ:=ρ) (j:=st.c) (x:={ cO with b:=b })) (aD.cD.1 s).2.2.1;rw [ab,c5];rw [ab] at e;rw [e];simp only [Row.item,ay.bA];rw [AV.bS ay.aZ _ E];exact a
 .cases h
end
variable {o : Oper}
abbrev ahm{R:Type}(fr:Fr)(KP:AV->aD->Option R)(T:aC)(v:AV)(st:aD):Option R:=aA (AT T fr st) (KP v (wR T st)) none
def yh{R:Type}(X:Cx)(tb:List aq)(tp:List bI)(KP:Bool->AV->aD->Option R)(ops:y4)(fr:Fr):y4->aC->aD->cC R->Option R
 |[],T,st,K=>aA (AT T fr st) (K (wR T st)) none
 |o::l,T,st,K=>match ahe tp T fr st o (λb=>ahm fr (KP b) T) (λst=>yh X tb tp KP ops fr l T st K) with
  |some q=>q
  |none=>stepG ops T fr st o λT g=>opD X tb T fr st g o λst=>yh X tb tp KP ops fr l T st K
section
variable {R : Type} {X : Cx} {tb : List aq} {tp : List bI} {KP : Bool -> AV -> aD -> Option R} {b : Bool} {σ : x4} {Q : bu} {D : w9} {ops : y4} {r : R} {fr : Fr} {Φ : Ctx} {K : cC R}
theorem afH{T:aC}{v:AV}{st:aD}{ρ:ay}{w:World}(d:FT T fr)(h:ahm fr (KP b) T v st=some r)(j:Sat (ab ρ T st.G++(ab ρ T (GJ b fr.H)++Φ)) w):
  ∃st',KP b v st'=some r/\st'.c=st.c/\iV (au ρ [] st'.E fr.F) (au ρ T st.E fr.F)/\Sat (ab ρ [] st'.G++(ab ρ [] (GJ b fr.H)++Φ)) w:=by
 unfold ahm at h;obtain ⟨e,l⟩:=aI h;have k:AT T ⟨fr.F,GJ b fr.H,fr.n⟩ st=true:=by unfold AT at e ⊢;exact e
 obtain ⟨i,g,f⟩:=HJ (fr:=⟨fr.F,GJ b fr.H,fr.n⟩) k ⟨d.1,λr a=>d.2 r (by
  cases b
  .exact a
  .exact (oL a).1)⟩ j
 exact ⟨_,l,i,g,f⟩
theorem IA{rest:y4}(g:∀it∈X.Γ,it∈Φ)(m:∀e∈tb,e.Ok X.P X.Γ)(k:∀e∈tp,e.Ok X.P X.Γ):∀{l:y4} {T:aC} {st:aD} {ρ:ay} {w:World},eK T st.E fr.F->mR ops fr.n T->FT T fr->Sat (ab ρ T st.G++(ab ρ T fr.H++Φ)) w->
  yh X tb tp KP ops fr l T st K=some r->
  (∀st' ρ' w',aT st.c ρ ρ'->st.c<=st'.c->K st'=some r->Sat (ab ρ' [] st'.G++(ab ρ' [] fr.H++Φ)) w'->WL X.P σ ops.toArray Q fr.n D rest (au ρ' [] st'.E fr.F) w')->
  (∀b v st' ρ' w',aT st.c ρ ρ'->st.c<=st'.c->KP b v st'=some r->Sat (ab ρ' [] st'.G++(ab ρ' [] (GJ b fr.H)++Φ)) w'->At Q (.panic (gS (v.val ρ'))) fr.n D (au ρ' [] st'.E fr.F) w')->
  WL X.P σ ops.toArray Q fr.n D (l++rest) (au ρ T st.E fr.F) w
 |[],T,st,ρ,w,h1,h2,p,hs,h,next,pnext=>by
  unfold yh at h;obtain ⟨U,S⟩:=aI h;obtain ⟨C,M,B⟩:=HJ U p hs;exact λa p hd=>next _ ρ w .refl (by rw [C];exact bb _) S B a (p.lI M) hd
 |o::l,T,st,ρ,w,h1,h2,p,hs,h,next,pnext=>by
  unfold yh at h;split at h
  .rename_i q R;subst h;refine anC h1 hs g k R (λst' ρ' w' A y i J Y I=>?_) (λz v st' ρ' w' A N L W V y=>?_)
   .exact IA g m k A h2 p I J (λd f j x u t s=>next d f j (y.trans x i) (cg i u) t s) (λz v d f j x u t s=>pnext z v d f j (y.trans x i) (cg i u) t s)
   .obtain ⟨d,C,M,O,B⟩:=afH p L y;exact (pnext z v d ρ' w' A (by omega) C B).lI _ O
  .exact abo (K:=λT st=>yh X tb tp KP ops fr l T st K) h1 h2 rfl (λ_ h=>h) p hs g m h (λT' st' ρ' w' A N L y i J Y I=>
    IA g m k A N L I J (λd f j x u t s=>next d f j (y.trans x i) (cg i u) t s) (λz v d f j x u t s=>pnext z v d f j (y.trans x i) (cg i u) t s))
theorem Wy(f:∀it∈X.Γ,it∈Φ)(i:∀e∈tb,e.Ok X.P X.Γ)(g:∀e∈tp,e.Ok X.P X.Γ){l:y4}{T:aC}{st:aD}{ρ:ay}{w:World}(o:eK T st.E fr.F)(m:mR ops fr.n T)(k:FT T fr)(j:Sat (ab ρ T st.G++(ab ρ T fr.H++Φ)) w)
  (h:yh X tb tp KP ops fr l T st K=some r)
  (d:∀st' ρ' w',aT st.c ρ ρ'->st.c<=st'.c->K st'=some r->Sat (ab ρ' [] st'.G++(ab ρ' [] fr.H++Φ)) w'->At Q .normal fr.n D (au ρ' [] st'.E fr.F) w')
  (a:∀b v st' ρ' w',aT st.c ρ ρ'->st.c<=st'.c->KP b v st'=some r->Sat (ab ρ' [] st'.G++(ab ρ' [] (GJ b fr.H)++Φ)) w'->At Q (.panic (gS (v.val ρ'))) fr.n D (au ρ' [] st'.E fr.F) w'):
  WL X.P σ ops.toArray Q fr.n D l (au ρ T st.E fr.F) w:=by
 have:=IA (σ:=σ) (Q:=Q) (D:=D) (rest:=[]) f i g o m k j h (λst' ρ' w' t s q p=>bU (d st' ρ' w' t s q p)) a;rwa [la] at this
end
def kj(c:Nat):List AV->List AV×List Row×Nat
 |[]=>([],[],c)
 |v::vs=>match v with
  | .nv u=>match kj c vs with
   |(cs,R,c)=>(.nv u::cs,R,c)
  |v=>match kj (c+1) vs with
   |(cs,R,c')=>(.nv c::cs,.eq c v::R,c')
structure anH(c:Nat)(vs:List AV)(ρ ρ':ay)(x:List AV×List Row×Nat):Prop where
 ag:aT c ρ ρ'
 le:c<=x.2.2
 eq:AV.ao ρ' x.1=AV.ao ρ vs
 lw:AV.bW x.2.2 x.1=true
 rl:bC x.2.2 x.2.1=true
 rp:∀r∈x.2.1,(r.item ρ' []).cG=true/\∀M w,(r.item ρ' []).P M w
 rg:∀r∈x.2.1,r.gd=none
theorem xF{c d:Nat}(a:c<=d):{G:List Row}->bC c G=true->bC d G=true
 |[],_=>rfl
 |r::G,h=>by simp only [bC,ae] at h ⊢;exact ⟨Row.fp a h.1,xF a h.2⟩
theorem rA{c:Nat}:{G H:List Row}->bC c G=true->bC c H=true->bC c (G++H)=true
 |[],_,_,h=>h
 |r::G,H,h,k=>by simp only [eb,bC,ae] at h ⊢;exact ⟨h.1,rA h.2 k⟩
theorem IS:{vs:List AV}->{c:Nat}->{ρ:ay}->AV.bW c vs=true->∃ρ',anH c vs ρ ρ' (kj c vs)
 |[],c,ρ,h=>⟨ρ,.refl,bb _,rfl,rfl,rfl,(λ_ h=>by cases h),λ_ h=>by cases h⟩
 |v::vs,c,ρ,h=>by
  simp only [AV.bW,ae] at h;have a:(∀u,v≠ .nv u)->kj c (v::vs)=(match kj (c+1) vs with|(cs,R,f)=>(.nv c::cs,.eq c v::R,f))->∃ρ',anH c (v::vs) ρ ρ' (kj c (v::vs)):=λ_ e=>by
   have g:aT c ρ (ρ.set c { cO with x:=v.val ρ }):=ay.aZ;obtain ⟨ρ',l⟩:=IS (c:=c+1) (ρ:=ρ.set c { cO with x:=v.val ρ }) (AV.jx (hV c) _ h.2);rw [e];generalize kj (c+1) vs=L at l;obtain ⟨cs,R,f⟩:=L;have d:aT c ρ ρ':=g.trans l.ag (hV _);have hx:(ρ' c).x=v.val ρ:=by rw [l.ag _ (qj _),ay.bA]
   have i:c+1<=f:=l.le;refine ⟨ρ',d,cg (hV _) l.le,?_,?_,?_,?_,?_⟩
   .simp only [AV.ao,AV.val,hx];rw [l.eq,AV.bS g _ h.2]
   .simp only [AV.bW,AV.low,ae,gy];exact ⟨by omega,l.lw⟩
   .simp only [bC,Row.low,ae,gy];exact ⟨⟨by omega,AV.fp (by omega) _ h.1⟩,l.rl⟩
   .intro r b;rcases List.mem_cons.1 b with rfl|b
    .exact ⟨rfl,λM w=>by show (ρ' c).x=v.val ρ';rw [hx,AV.km d _ h.1]⟩
    .exact l.rp r b
   .intro r b;rcases List.mem_cons.1 b with rfl|b
    .rfl
    .exact l.rg r b
  cases v with
  |nv u=>
   obtain ⟨ρ',l⟩:=IS (c:=c) (ρ:=ρ) h.2;unfold kj;dsimp only;generalize kj c vs=L at l;obtain ⟨cs,R,f⟩:=L;refine ⟨ρ',l.ag,l.le,?_,?_,l.rl,l.rp,l.rg⟩
   .simp only [AV.ao];rw [l.eq,AV.km l.ag _ h.1]
   .simp only [AV.bW,ae];exact ⟨AV.fp l.le _ h.1,l.lw⟩
  |_=>exact a (λu h=>by cases h) rfl
def akr{R:Type}(X:Cx)(T:aC)(fr:Fr)(st:aD)(g:GK)(op:Op)(dst:x5)(K:cC R):Option R:=match op,dst with
 | .indexAddr t x y,some d=>(match eR X.P t with
  |some _=>ahq X T fr st g d t x y K
  |none=>(match br T st.E fr.F g x with
   |some (.gp _)=>aaG X T fr st g d t x y K
   |_=>gone g (agU X T fr st d t x y K)))
 | .slice t x lo hi mx,some d=>(match br T st.E fr.F g x with
  |some (.gp _)=>gone g (WX X T fr st d t x lo hi mx K)
  |_=>ab3 X T fr st g d t x lo hi mx K)
 | .call ⟨.builtin .unsafeSliceData,⟨[x]⟩,_⟩,some d=>gone g (aaw T fr st d x K)
 | .call ⟨.builtin .len,⟨[x]⟩,⟨[t]⟩⟩,some d=>agR X T fr st g d t x K
 |_,_=>none
def ac6{R:Type}(X:Cx)(T:aC)(fr:Fr)(st:aD)(g:GK)(o:Oper)(K:cC R):Option R:=
 match ag9 X T st.E fr.F g o.op with
 |some cv=>HK cv.1 (g.map λ_=>T.get g) (K { st with E:=ct o.dst g cv.2 st.E })
 |none=>match agy X T st.E fr.F [] fr.H g o.op with
  |some cv=>HK cv.1 (g.map λ_=>T.get g) (K { st with E:=ct o.dst g cv.2 st.E })
  |none=>aA (st.low fr) (akr X T fr st g o.op o.dst K) none
def bn(p:Row->Bool):List Row->List Row
 |[]=>[]
 |r::G=>aA (p r) (r::bn p G) (bn p G)
def cR(r:Row):Bool:= !r.cG
theorem Sat.wX{w:World}{B:Ctx}:∀{A:Ctx},Sat (A++B) w->Sat B w
 |[],h=>h
 |_x::A,h=>Sat.wX (A:=A) (Sat.As (A:=[]) h)
section
variable {ρ : ay} {T : aC} {w : World}
theorem oP{p:Row->Bool}{H:List Row}{Φ:Ctx}:∀{G:List Row} {A:Ctx},Sat (A++(ab ρ T G++(ab ρ T H++Φ))) w->Sat (A++(ab ρ T (bn p G)++(ab ρ T (bn (λr=> !(p r)) G++H)++Φ))) w
 |[],_,h=>h
 |r::G,A,h=>by
  unfold bn;cases hp:p r
  .have b:Sat ((A++[r.item ρ T])++(ab ρ T G++(ab ρ T H++Φ))) w:=by simpa [ab] using h
   have a:=oP (p:=p) (G:=G) b;have c:Sat (A++r.item ρ T::(ab ρ T (bn p G)++(ab ρ T (bn (λr=> !(p r)) G++H)++Φ))) w:=by simpa using a
   exact c.move
  .have b:Sat ((A++[r.item ρ T])++(ab ρ T G++(ab ρ T H++Φ))) w:=by simpa [ab] using h
   have a:=oP (p:=p) (G:=G) b;simpa [ab] using a
end
abbrev nh(fr:Fr)(A:List Row)(st:aD):Fr:=⟨fr.F,bn (λr=> !(cR r)) st.G++(A++fr.H),fr.n⟩
abbrev stM(st:aD):aD:={ st with G:=bn cR st.G }
abbrev vo:=Nat×Nat×Nat×za
def MV:List AV->Option za
 |[]=>some []
 |v::l=>(match v with
  | .nv u=>(match MV l with
   |some us=>some (u::us)
   |none=>none)
  |_=>none)
def adw:List AV->za->Bool
 |_,[]=>true
 |l,n::ns=>(match l with
  | .nv u::l=>Nat.beq u n&&adw l ns
  |_=>false)
def L3(G:List Row):List vo->Bool
 |[]=>true
 |x::Pd=>(match mG (wZ x.2.1) G with
  |some (_,.box _ _ cs)=> !(Nat.beq x.2.2.1 1000000000)&&adw (cs.drop x.2.2.1) x.2.2.2
  |_=>false)&&L3 G Pd
def pdF(G:List Row):List vo->Bool
 |[]=>true
 |x::Pd=>(Nat.beq x.2.2.1 1000000000||(match mG (wZ x.2.1) G with
  |some (_,.box _ _ cs)=> !(Nat.beq x.2.2.1 1000000000)&&adw (cs.drop x.2.2.1) x.2.2.2
  |_=>false))&&pdF G Pd
def eT(ops:y4)(k:Nat):List vo->List vo
 |[]=>[]
 |x::Pd=>aA (waits .any ops.toArray k x.1) (eT ops k Pd) (x::eT ops k Pd)
def szA(P:Program)(t:TypeId):x4:=match P.underlying t with
 |some d=>aA (jn d) (match jW P t with
  |some z=>some z.1
  |none=>none) (some 1)
 |none=>none
def ahQ{R:Type}(X:Cx)(T:aC)(fr:Fr)(st:aD)(g:GK)(k:Nat)(o:Oper)(K:List Row->vo->aD->Option R):Option (Option R):=match o.op,o.dst with
 | .load t x,some d=>(match br T st.E fr.F g x with
  |some (.ptr id off)=>(match mG (wZ id) st.G with
   |some (j,.box _ bt cs)=>some (match szA X.P t with
    |some n=>(match j2 X.P t ((cs.drop off).map (sf st.G fr.H)) with
     |some v=>(match MV (kj st.c ((cs.drop off).take n)).1 with
      |some us=>aA (st.low fr&&v.low st.c&&Nat.ble (off+n) cs.length&& !(Nat.beq off 1000000000)) (
        K (kj st.c ((cs.drop off).take n)).2.1 (k,id,off,us) { st with c:=(kj st.c ((cs.drop off).take n)).2.2,E:=ct (some d) g v st.E,G:=st.G.set j (.box id bt (tl cs off (kj st.c ((cs.drop off).take n)).1)) } ) none
      |none=>none)
     |none=>none)
    |none=>none)
   |_=>none)
  |_=>none)
 |_,_=>none
def anG(T:aC)(fr:Fr)(st:aD)(g:GK)(o:Oper):Option (Tmp×TypeId×Nat×Nat):=match o.op,o.dst with
 | .load t x,some d=>(match br T st.E fr.F g x with
  |some (.adr q off)=>(match xN T [] fr.H g (.adr q off) with
   |some _=>none
   |none=>(match dJ st.G fr.H (Rm q) with
    |some _=>some (d,t,q,off)
    |none=>none))
  |_=>none)
 |_,_=>none
def Nk{R:Type}(X:Cx)(tb:List aq)(tp:List bI)(KP:AV->aD->Option R)(ops:y4)(fr:Fr)(A:List Row)(T:aC)(st:aD)(o:Oper)(K:aC->cC R):Option R:=
 match ahe tp T (nh fr A st) (stM st) o (λb v st'=>aA b none (ahm fr KP T v { st' with G:=st'.G++(bn (λr=> !(cR r)) st.G++A) })) (K T) with
 |some q=>q
 |none=>stepG ops T (nh fr A st) (stM st) o λT g=>opD X tb T (nh fr A st) (stM st) g o (K T)
def apQ(X:Cx)(T:aC)(fr:Fr)(st:aD)(ops:y4)(k:Nat)(fl:za)(rest:OT)(f:Nat):Bool:=(match ops[f]? with
 |some o=>(match Ik X T fr st o,o.dst with
  |some _,some d=>iA o&&Nat.blt d fr.n&&(match dB st.E fr.F d with|some _=>false|none=>true)&&(o.looksAt ops.toArray).all (λt=> !(Nat.beq t d))
  |_,_=>false)
 |none=>false)&&(k::rest.ops).all (λj=>nU ops.toArray j f)&&(fl++rest.Uj).all (λj=>Nat.beq j f||nU ops.toArray j f)
def ah9{R:Type}(X:Cx)(ops:y4)(fr:Fr)(T:aC):za->aD->cC R->Option R
 |[],st,K=>K st
 |f::fs,st,K=>(match ops[f]? with
  |some o=>aA (mN o.dst T&& !(db f fs)) (alG X T fr st o λst=>ah9 X ops fr T fs st K) none
  |none=>none)
abbrev frA(fr:Fr)(A:List Row):Fr:=⟨fr.F,A++fr.H,fr.n⟩
def nn{R:Type}(X:Cx)(tb:List aq)(tp:List bI)(KP:AV->aD->Option R)(ops:y4)(fr:Fr):OT->List Row->List vo->aC->aD->cC R->Option R
 | .nil,A,_,T,st,K=>aA (AT T fr { st with G:=st.G++A }) (K (wR T { st with G:=st.G++A })) none
 | .q k _ rest,A,Pd,T,st,K=>(match ops[k]? with
  |some o=>stepG ops T (nh fr A st) (stM st) o λT g=>match ahQ X T (nh fr A st) (stM st) g k o (λR p st'=>nn X tb tp KP ops fr rest (R++(bn (λr=> !(cR r)) st.G++A)) (p::Pd) T st' K) with
   |some q=>q
   |none=>(match anG T (nh fr A st) (stM st) g o with
    |some p=>aA ((stM st).low (nh fr A st)) (Vh X T (nh fr A st) (stM st) g p.1 p.2.1 p.2.2.1 p.2.2.2 λst'=>nn X tb tp KP ops fr rest (bn (λr=> !(cR r)) st.G++A) ((k,p.2.2.1,1000000000,[])::Pd) T st' K) none
    |none=>ac6 X T (nh fr A st) (stM st) g o λst'=>nn X tb tp KP ops fr rest (bn (λr=> !(cR r)) st.G++A) Pd T st' K)
  |none=>none)
 | .l k _ rest,A,Pd,T,st,K=>(match ops[k]? with
  |some o=>Nk X tb tp KP ops fr A T st o λT st'=>aA (L3 st'.G (eT ops k Pd)) (nn X tb tp KP ops fr rest (bn (λr=> !(cR r)) st.G++A) (eT ops k Pd) T st' K) none
  |none=>none)
 | .l2 _ k₁ r₁ k₂ r₂,A,Pd,T,st,K=>both
  (match ops[k₁]? with
  |some o=>Nk X tb tp KP ops fr A T st o λT st'=>aA (L3 st'.G (eT ops k₁ Pd)) (nn X tb tp KP ops fr r₁ (bn (λr=> !(cR r)) st.G++A) (eT ops k₁ Pd) T st' K) none
  |none=>none)
  (match ops[k₂]? with
  |some o=>Nk X tb tp KP ops fr A T st o λT st'=>aA (L3 st'.G (eT ops k₂ Pd)) (nn X tb tp KP ops fr r₂ (bn (λr=> !(cR r)) st.G++A) (eT ops k₂ Pd) T st' K) none
  |none=>none)
 | .f k _ fl fs rest,A,Pd,T,st,K=>aA (fl.all (apQ X T (frA fr A) st ops k fl rest)&&pdF st.G Pd) (ah9 X ops (frA fr A) T fs st λst=>(match ops[k]? with
  |some o=>Nk X tb tp KP ops fr A T st o λT st'=>aA (L3 st'.G (eT ops k Pd)) (nn X tb tp KP ops fr rest (bn (λr=> !(cR r)) st.G++A) (eT ops k Pd) T st' K) none
  |none=>none)) none
section
variable {R : Type} {X : Cx} {tb : List aq} {tp : List bI} {KP : AV -> aD -> Option R} {σ : x4} {Q : bu} {D : w9} {ops : y4} {r : R} {fr : Fr} {Φ : Ctx} {K : cC R}
theorem ajv{T:aC}{st:aD}{g:GK}{ρ:ay}{w:World}(i:∀it∈X.Γ,it∈Φ)(m:eK T st.E fr.F)(e:Sat (ab ρ T st.G++(ab ρ T fr.H++Φ)) w)(h:ac6 X T fr st g o K=some r):
  ∃(v:Value) (J:World->Prop),(∀w',(∃c,Sat (ab ρ T fr.H++c) w')->J w')/\(∀w',J w'->bg X.P (au ρ T st.E fr.F) (T.get g) o w' v)/\aV r K T fr st g o.dst ρ Φ v w:=by
 obtain ⟨dst,op,ty,pos,af,gd⟩:=o;unfold ac6 at h;simp only at h;have b:∀{O:Value->World->Prop},Lk X.P T g (au ρ T st.E fr.F) ⟨dst,op,ty,pos,af,gd⟩ w O->∃(v:Value) (J:World->Prop),(∀w',(∃c,Sat (ab ρ T fr.H++c) w')->J w')/\(∀w',J w'->bg X.P (au ρ T st.E fr.F) (T.get g) ⟨dst,op,ty,pos,af,gd⟩ w' v)/\O v w:=λh=>by obtain ⟨v,d,a⟩:=h;exact ⟨v,λ_=>True,λ_ _=>trivial,λw' _=>d w',a⟩
 split at h
 next cv f=>obtain ⟨d,a⟩:=oB h;exact b ⟨_,λw'=>acy m f d,aV.iB a (bb _) rfl rfl e⟩
 .split at h
  next cv f=>obtain ⟨d,a⟩:=oB h;refine ⟨_,λw'=>∃c,Sat (ab ρ T fr.H++c) w',λ_ h=>h,λw' l=>?_,aV.iB a (bb _) rfl rfl e⟩;obtain ⟨c,k⟩:=l;exact abU (G:=[]) (Φ:=c) k f d
  .obtain ⟨d,a⟩:=aI h;unfold akr at a;split at a
   .split at a
    .exact b (agm d e a)
    .split at a
     .exact b (adN d i e a)
     .obtain ⟨rfl,j⟩:=cN a;exact b (afm e j)
   .split at a
    .obtain ⟨rfl,j⟩:=cN a;exact b (aoi d i e j)
    .exact b (WQ d e a)
   .obtain ⟨rfl,j⟩:=cN a;exact b (aaS d e j)
   .exact b (ami e a)
   .cases a
def BF(ρ:ay)(x:vo)(w:World):Prop:=Nat.beq x.2.2.1 1000000000=false/\∃cs t,eN w (ρ x.2.1).b t cs/\(cs.drop x.2.2.1).take x.2.2.2.length=x.2.2.2.map λu=>(ρ u).x
def agJ(c:Nat)(Pd:List vo):Prop:= ∀x,x∈Pd->x.2.1<c/\∀u,u∈x.2.2.2->u<c
theorem Ck{ρ ρ':ay}{c:Nat}(ha:aT c ρ ρ'){x:vo}(hx:x.2.1<c/\∀u,u∈x.2.2.2->u<c){w:World}:BF ρ' x w↔BF ρ x w:=by
 unfold BF;rw [ha _ hx.1];have:(x.2.2.2.map λu=>(ρ' u).x)=x.2.2.2.map λu=>(ρ u).x:=qz λu a=>by rw [ha _ (hx.2 u a)]
 rw [this]
theorem XW{ρ:ay}:∀{l:List AV} {us:za},adw l us=true->(AV.ao ρ l).take us.length=us.map λu=>(ρ u).x
 |l,[],_=>by simp
 |l,n::ns,h=>by
  unfold adw at h;split at h
  next u l'=>simp only [ae] at h;have e:=ah h.1;subst e;simp only [AV.ao,AV.val,cx,qT,c5];rw [XW h.2]
  .cases h
theorem SV{ρ:ay}:∀{l:List AV} {us:za},MV l=some us->AV.ao ρ l=us.map (λu=>(ρ u).x)/\us.length=l.length
 |[],us,h=>by cases h;simp [AV.ao]
 |v::l,us,h=>by
  unfold MV at h;split at h
  .rename_i u;split at h
   next b a=>cases h;obtain ⟨d,c⟩:=SV (ρ:=ρ) a;simp [AV.ao,AV.val,d,c]
   .cases h
  .cases h
theorem YB{c:Nat}:∀{l:List AV} {us:za},MV l=some us->AV.bW c l=true->∀u,u∈us->u<c
 |[],us,h,_,u,a=>by cases h;cases a
 |v::l,us,h,hl,u,a=>by
  unfold MV at h;split at h
  .rename_i u';split at h
   .rename_i d b;cases h;simp only [AV.bW,AV.low,ae,gy] at hl;rcases List.mem_cons.1 a with rfl|a
    .exact hl.1
    .exact YB b hl.2 u a
   .cases h
  .cases h
theorem abX{ρ:ay}{T:aC}{G:List Row}{B:Ctx}{w:World}(c:Sat (ab ρ T G++B) w):∀{Pd:List vo},L3 G Pd=true->∀x,x∈Pd->BF ρ x w
 |[],_,x,hx=>by cases hx
 |y::Pd,h,x,hx=>by
  simp only [L3,ae] at h;rcases List.mem_cons.1 hx with rfl|hx
  .have a:=h.1;split at a
   next j id t cs d=>obtain ⟨f,e⟩:=kO d;have:id=x.2.1:=ah e;subst this;have hb:eN w (ρ x.2.1).b t (AV.ao ρ cs):=c.at_ (fj f);simp only [ae] at a;refine ⟨by simpa using a.1,_,t,hb,?_⟩;rw [<-AV.gF];exact XW a.2
   .cases a
  .exact abX c h.2 x hx
theorem ajo{ρ:ay}{T:aC}{G:List Row}{B:Ctx}{w:World}(b:Sat (ab ρ T G++B) w):∀{Pd:List vo},pdF G Pd=true->∀x,x∈Pd->BF ρ x w\/Nat.beq x.2.2.1 1000000000=true
 |[],_,x,hx=>by cases hx
 |y::Pd,h,x,hx=>by
  simp only [pdF,ae,c9] at h;rcases List.mem_cons.1 hx with rfl|hx
  .rcases h.1 with a|a
   .exact .inr a
   .exact .inl (abX b (Pd:=[x]) (by simp only [L3,ae];exact ⟨a,trivial⟩) x (b5 ..))
  .exact ajo b h.2 x hx
theorem ve{k:Nat}:∀{Pd:List vo} {x:vo},x∈eT ops k Pd↔x∈Pd/\waits .any ops.toArray k x.1=false
 |[],x=>by simp [eT]
 |y::Pd,x=>by
  unfold eT;cases c:waits .any ops.toArray k y.1
  .show x∈y::eT ops k Pd↔_;rw [qF,qF,ve];constructor
   .rintro (rfl|⟨b,a⟩)
    .exact ⟨.inl rfl,c⟩
    .exact ⟨.inr b,a⟩
   .rintro ⟨rfl|b,a⟩
    .exact .inl rfl
    .exact .inr ⟨b,a⟩
  .show x∈eT ops k Pd↔_;rw [qF,ve];constructor
   .rintro ⟨b,a⟩;exact ⟨.inr b,a⟩
   .rintro ⟨rfl|b,a⟩
    .rw [c] at a;cases a
    .exact ⟨b,a⟩
theorem agl{pend:er}{w:World}(h:∀p,p∈pend->p.2 w):fY pend w:=by
 induction pend with
 |nil=>trivial
 |cons p l ih=>exact ⟨h p (b5 ..),ih λq a=>h q (aW _ a)⟩
theorem aoZ{P:Program}{ρ:ay}{Ev:Env}{g:Bool}{t:TypeId}{n:Nat}{l:List AV}{v:AV}{p:Addr}{w:World}{dst:x5}{ty:TypeId}{pos:String}{af:x8}{gd:Option (Nat×Bool)}
  (hx:ar Ev g x (.pointer (some p))) (j:szA P t=some n) (hv:j2 P t l=some v) (q:n<=l.length) (hc:bM w p ((AV.ao ρ l).take n)):bg P Ev g ⟨dst,.load t x,ty,pos,af,gd⟩ w (v.val ρ):=by
 have s:j2 P t (l.drop 0)=some v:=by simpa using hv
 obtain ⟨d,n',bytes,z,c1,u,b⟩:=me (X:=⟨P,[],[],[],(λ_ h=>nomatch h),0,[],[],(λ_ h=>nomatch h),[]⟩) (ρ:=ρ) s;have c1:P.underlying t=some d:=c1;unfold szA at j;rw [c1] at j;rcases dq j with ⟨hd,i⟩|⟨hd,i⟩
 .split at i
  .rename_i k c;obtain ⟨m,y,k⟩:=k;cases i;unfold j2 at hv;rw [c1] at hv;rcases dq hv with ⟨_,f⟩|⟨f,_⟩
   .rw [c] at f;obtain ⟨_,r⟩:=aI f;cases r;simp only [AV.val,AV.jv];exact LN c1 hd (cF c) hx (λ_=>hc) (by rw [b0,AV.bm];exact du q)
   .rw [hd] at f;cases f
  .cases i
 .cases i;rw [hd] at b;simp only [oi,qI] at b;refine LS c1 hd hx (λ_=>?_);have e:(AV.ao ρ l).take 1=[v.val ρ]:=by
   cases o:AV.ao ρ l with
   |nil=>rw [o] at b;cases b
   |cons a l=>rw [o] at b;cases b;rfl
  rw [e] at hc;exact hc
theorem ad9{l:xu}{off n:Nat}(h:off+n<=l.length):nd l off ((l.drop off).take n)=l:=by
 unfold nd;have b:((l.drop off).take n).length=n:=by rw [b0,cr];omega
 rw [b];have a:(l.drop off).take n++l.drop (off+n)=l.drop off:=by rw [<-n3,qM]
 rw [aO,a,qM]
theorem akP{T:aC}{st:aD}{g:GK}{k:Nat}{ρ:ay}{w:World}{KQ:List Row->vo->aD->Option R}(hs:Sat (ab ρ T st.G++(ab ρ T fr.H++Φ)) w)(h:ahQ X T fr st g k o KQ=some (some r)):
  ∃(v:Value) (ρ':ay) (st':aD) (av:AV) (z:List Row) (p:vo),KQ z p st'=some r/\aT st.c ρ ρ'/\st.c<=st'.c/\st'.E=ct o.dst g av st.E/\av.val ρ'=v/\au ρ' T st.E fr.F=au ρ T st.E fr.F/\ab ρ' T fr.H=ab ρ T fr.H/\
   Sat (ab ρ' T st'.G++(ab ρ' T (z++fr.H)++Φ)) w/\p.1=k/\BF ρ' p w/\(p.2.1<st'.c/\∀u,u∈p.2.2.2->u<st'.c)/\(∀w',BF ρ' p w'->bg X.P (au ρ T st.E fr.F) (T.get g) o w' v):=by
 obtain ⟨dst,op,ty,pos,af,gd⟩:=o;unfold ahQ at h;simp only at h;split at h
 .rename_i t x d;split at h
  .rename_i id off hx;split at h
   .rename_i j s N cs hf;simp only [b8] at h;split at h
    .rename_i n hn;split at h
     .rename_i v hv;split at h
      .rename_i us I;obtain ⟨Z,h2⟩:=aI h;simp only [ae,Nat.ble_eq] at Z;obtain ⟨⟨⟨hl,hvl⟩,hle⟩,hmk⟩:=Z;obtain ⟨l1,l2,l3,l4⟩:=aD.cD.1 hl;obtain ⟨f1,f2⟩:=kO hf;have:s=id:=ah f2;subst this;have y:j<st.G.length:=(List.getElem?_eq_some_iff.1 f1).1;have f:=pn l3 f1;simp only [Row.low,ae,gy] at f;have S:∀{l:List AV} {c m q:Nat},AV.bW c l=true->AV.bW c ((l.drop m).take q)=true:=λ{l c m q} h=>by
        have dr:∀(l:List AV) (m:Nat),AV.bW c l=true->AV.bW c (l.drop m)=true:=λl=>by
         induction l with
         |nil=>intro m h;simp [AV.bW]
         |cons a l ih=>
          intro m h;cases m with
          |zero=>exact h
          |succ m=>simp only [AV.bW,ae] at h;exact ih m h.2
        have tk:∀(l:List AV) (m:Nat),AV.bW c l=true->AV.bW c (l.take m)=true:=λl=>by
         induction l with
         |nil=>intro m h;simp [AV.bW]
         |cons a l ih=>
          intro m h;cases m with
          |zero=>rfl
          |succ m=>simp only [AV.bW,ae,qT] at h ⊢; exact ⟨h.1,ih m h.2⟩
        exact tk _ _ (dr _ _ h)
       obtain ⟨ρ',D⟩:=IS (ρ:=ρ) (S (m:=off) (q:=n) f.2);obtain ⟨i1,i2⟩:=SV (ρ:=ρ') I;have V:=YB I D.lw;generalize kj st.c ((cs.drop off).take n)=L at h2 D I i1 i2 V;obtain ⟨ls,z,c'⟩:=L;have Y:st.c<=c':=D.le;have i:aT st.c ρ ρ':=D.ag;have K:AV.ao ρ' ls=AV.ao ρ ((cs.drop off).take n):=D.eq;have hb:eN w (ρ s).b N (AV.ao ρ cs):=hs.at_ (fj f1);have W:AV.ao ρ' cs=AV.ao ρ cs:=AV.bS i _ f.2;have Q:v.val ρ'=v.val ρ:=AV.km i _ hvl;have C:us.length=n:=by
        have e1:(AV.ao ρ' ls).length=n:=by rw [K,AV.bm,b0,cr];omega
        rw [i2,<-AV.bm (ρ:=ρ') (l:=ls)];exact e1
       have eG:=bf (T:=T) i l3;have eH:=bf (T:=T) i l4;have e3:(us.map λu=>(ρ' u).x)=((AV.ao ρ cs).drop off).take n:=by rw [<-i1,K,AV.jv,AV.gF]
       refine ⟨v.val ρ,ρ',_,v,z,(k,s,off,us),h2,i,Y,rfl,Q,mM hl i,eH,?_,rfl,⟨by simpa using hmk,AV.ao ρ cs,N,?_,?_⟩,⟨ec f.1 Y,V⟩,λw' hw=>?_⟩
       .show Sat (ab ρ' T (st.G.set j _)++(ab ρ' T (z++fr.H)++Φ)) w;rw [eV y,eG];have e4:(Row.box s N (tl cs off ls)).item ρ' T=(Row.box s N cs).item ρ T:=by simp only [Row.item];rw [i _ f.1,<-xd,W,K,AV.jv,AV.gF,ad9 (by rw [AV.bm];exact hle)]
        have hi:=fj (ρ:=ρ) (T:=T) (Φ:=ab ρ' T (z++fr.H)++Φ) f1;have e5:(ab ρ T st.G++(ab ρ' T (z++fr.H)++Φ)).set j ((Row.box s N (tl cs off ls)).item ρ' T)=ab ρ T st.G++(ab ρ' T (z++fr.H)++Φ):=by
         rw [e4];apply qv;intro q;by_cases hq:q=j
         .subst hq;rw [qD (List.getElem?_eq_some_iff.1 hi).1,hi]
         .rw [qs (λh=>hq h.symm)]
        rw [e5,bk,eH,aO];have ins:∀(L:List Item) (A B:Ctx),Sat (A++B) w->(∀it∈L,it.own=[]/\∀M w,it.P M w)->Sat (A++(L++B)) w:=λL=>by
         induction L with
         |nil=>intro A B h _;exact h
         |cons x L ih=>
          intro A B h hL;have Z:=ih A B h (λit J=>hL it (aW _ J));have hx:=hL x (b5 ..);refine Z.Az (λj k=>(j<A.length/\k=j)\/(A.length<j/\k+1=j)) (λj jt y=>?_) (λj k q hjk Z h2=>by omega);by_cases e:j<A.length
          .rw [cb e] at y;exact .inr ⟨j,jt,.inl ⟨e,rfl⟩,by rw [cb e];exact y,bR.refl⟩
          .rw [b7 (by omega)] at y;by_cases e2:j=A.length
           .subst e2;simp at y;subst y;exact .inl hx
           .refine .inr ⟨j-1,jt,.inr ⟨by omega,by omega⟩,?_,bR.refl⟩;rw [b7 (by omega)];have:j-A.length=(j-1-A.length)+1:=by omega
            rw [this,eb,cd] at y;exact y
        refine ins (ab ρ' T z) (ab ρ T st.G) (ab ρ T fr.H++Φ) hs (λit J=>?_);obtain ⟨Jk,U,rfl⟩:=List.mem_map.1 J;have h9:=D.rp Jk U;have h10:Jk.item ρ' T=Jk.item ρ' []:=by have hgd:Jk.gd=none:=D.rg Jk U;exact Row.BA (by rw [hgd,aC.get_none,aC.get_none])
        rw [h10];exact ⟨(Jk.item ρ' []).hp h9.1,h9.2⟩
       .show eN w (ρ' s).b N _;rw [i _ f.1];exact hb
       .show ((AV.ao ρ cs).drop off).take us.length=us.map λu=>(ρ' u).x;rw [C,e3]
       .obtain ⟨_,csv,t2,b1,b2⟩:=hw;have b1:eN w' (ρ' s).b t2 csv:=b1;have b2:(csv.drop off).take us.length=us.map λu=>(ρ' u).x:=b2;rw [i _ f.1] at b1;rw [C,e3] at b2;have O:=aR (ρ:=ρ) hx;simp only [AV.val] at O;have e6:AV.ao ρ ((cs.drop off).map (sf st.G fr.H))=(AV.ao ρ cs).drop off:=by rw [Kt hs,AV.gF]
        refine aoZ O hn hv (by rw [List.length_map,cr];omega) ?_;rw [e6];refine b1.part off ?_;have:(((AV.ao ρ cs).drop off).take n).length=n:=by rw [b0,cr,AV.bm];omega
        rw [this];exact b2
      .cases h
     .cases h
    .cases h
   .cases h
  .cases h
 .cases h
theorem Ml{e:OT}{k mk_:Nat}{pend:er}{EV:List pH}{T T':aC}{g:GK}{fr1:Fr}{st1:aD}{ρ:ay}{w:World}{v:Value}{J:World->Prop}(y:fr1.n=fr.n)(p:aiL ops fr fr1 st1 ρ o T T' g)(B:ops[k]? =some o)(t:∀x∈EV,nU ops.toArray k x.1=true)(i:J w)
  (r:∀w',J w'->bg X.P (au ρ T' st1.E fr1.F) (T'.get g) o w' v) (c:Ee X.P σ ops.toArray Q fr.n D e EV ((k,J)::pend) (o8 o.dst (T'.get g) v (au ρ T' st1.E fr1.F)) w):
  Ee X.P σ ops.toArray Q fr.n D (.q k mk_ e) EV pend (au ρ T' st1.E fr1.F) w:=by
 have m:ops.toArray[k]? =some o:=by simpa using B
 have f:=p.ds;rw [y] at f;intro a d u C;have j:∀v,∀x∈EV,sB X.P ops.toArray (a.put o.dst v) x:=λv x hx=>(C x hx).put m (t x hx);simp only [gZ,m];cases s:g with
 |none=>
  subst s;rw [aC.get_none] at r c;refine ⟨v,J,i,.inl ⟨by simp [Region.wanted,p.gg],λw' h=>r w' h _ a d rfl⟩,?_⟩;exact c _ (d.o8 f) (by rw [ik];exact u) (j _)
 |some gk=>
  obtain ⟨rj,par,b,I,H,A,G⟩:=p.gk gk s;rw [y] at A;subst s;have l:=DO (ops:=ops.toArray) p.gg (by simpa using I) H d A;rw [G] at l;cases z:T'.get (some gk)
  .rw [z] at l c;refine ⟨undef,J,i,.inr ⟨l,rfl⟩,?_⟩;exact c _ (d.o8 (g:=false) (v:=v) f) (by rw [ik];exact u) (j _)
  .rw [z] at l r c;refine ⟨v,J,i,.inl ⟨l,λw' h=>r w' h _ a d rfl⟩,?_⟩;exact c _ (d.o8 f) (by rw [ik];exact u) (j _)
theorem apU{G H:List Row}{s:Src}{Jk:Row}{q c:Nat}(h:s.at_ G H Jk)(b:Rm q Jk=true)(j:bC c G=true)(g:bC c H=true):q<c:=by
 have key:∀{L:List Row},bC c L=true->Jk∈L->q<c:=λ{L} d a=>by
  have f:Jk.low c=true:=by
   induction L with
   |nil=>cases a
   |cons x L ih=>
    simp only [bC,ae] at d;rcases List.mem_cons.1 a with rfl|a
    .exact d.1
    .exact ih d.2 a
  unfold Rm at b;split at b
  .have e:=ah b;subst e;simp only [Row.low,ae,gy] at f;exact f.1.1
  .cases b
 cases s with
 |top i=>exact key j (pa h)
 |cu i=>exact key g (pa h)
 |nilI t=>exact h.elim
 |nilO t e=>exact h.elim
 |nilM k v=>exact h.elim
def HP(ρ:ay)(T:aC)(fr:Fr)(A:List Row)(Pd:List vo)(pend:er)(w:World):Prop:= ∀p,p∈pend->∀w',(∃Φ',Sat (ab ρ T (A++fr.H)++Φ') w')->(∀x,x∈Pd->x.1=p.1->BF ρ x w'\/(Nat.beq x.2.2.1 1000000000=true/\Ext w w'))->p.2 w'
def eC(EV:List pH):Ctx:=EV.map λx=>box x.2.1 x.2.2.1 x.2.2.2
def WN(ops:y4)(order:OT)(EV:List pH):Prop:= ∀x∈EV,(∀j∈order.ops,nU ops.toArray j x.1=true)/\∀j∈order.Uj,j=x.1\/nU ops.toArray j x.1=true
theorem Hr{B:Ctx}{w:World}{p:pH->Bool}:∀{EV:List pH} {A:Ctx},Sat (A++(eC EV++B)) w->Sat (A++(eC (EV.filter p)++B)) w
 |[],_,h=>h
 |x::EV,A,h=>by
  rw [qi];split
  .have a:Sat ((A++[box x.2.1 x.2.2.1 x.2.2.2])++(eC EV++B)) w:=by simpa [eC] using h
   have:=Hr (p:=p) a;simpa [eC] using this
  .exact Hr (p:=p) (Sat.As (A:=A) (B:=eC EV++B) h)
theorem Rv{B:Ctx}{w:World}:∀{EV:List pH} {A:Ctx},Sat (A++(eC EV++B)) w->Sat (A++B) w
 |[],_,h=>h
 |_::EV,A,h=>Rv (EV:=EV) (Sat.As (A:=A) (B:=eC EV++B) h)
theorem Fits.iB{n:Nat}{E:Env}{a:Act}{d:Tmp}{v:Value}(h:Fits n E a)(e:a.tmps.getD d undef=v):Fits n ((d,true,v)::E) a:=by
 refine ⟨h.size,λt g c b=>?_⟩;simp only [look] at b;cases hb:Nat.beq d t
 .rw [hb,cy] at b;exact h.at_ t g c b
 .rw [hb,c8] at b;have:=ah hb;subst this;cases b;exact e
theorem Fits.aqH{n:Nat}{E:Env}{a:Act}{d:Tmp}(h:Fits n E a)(hd:look E d=none)(v:Value):Fits n E (a.put (some d) v):=by
 refine ⟨by simp [Act.put,h.size],λt g f b=>?_⟩;have c:d≠t:=λe=>by subst e;rw [hd] at b;cases b
 have:=Act.eval_put (a:=a) (dst:=some d) (v:=v) (x:= .tmp t) (λe i hc=>c (by cases i;cases hc;rfl));exact Eq.trans this (h.at_ t g f b)
theorem an5{X:Cx}{T:aC}{fr:Fr}{st:aD}{p:TypeId×List AV×List AV}(h:Ik X T fr st o=some p):o.guard=none/\∀cs b,o.op≠ .select cs b:=by
 unfold Ik at h;split at h
 next c a=>exact ⟨a,λcs b hc=>by rw [c] at hc;cases hc⟩
 next c a=>exact ⟨a,λcs b hc=>by rw [c] at hc;cases hc⟩
 .cases h
theorem sB.same{P:Program}{ops:x6}{a:Act}{x:pH}{X:Cx}{T:aC}{fr:Fr}{st:aD}{ρ:ay}(k:X.P=P)(h:sB P ops a x)(i:ops[x.1]? =some o)(j:Fits fr.n (au ρ T st.E fr.F) a):
  ∀e vs cs,Ik X T fr st o=some (e,vs,cs)->x.2.2.1=e/\x.2.2.2=AV.ao ρ cs:=λe vs cs l=>by
 subst k;obtain ⟨q,d,b,g,u,t,s,r,p⟩:=h;rw [i] at g;cases g;have f:=adQ (ρ:=ρ) l b _ a j;rw [p] at f;have m:b.alloc (.cells x.2.2.2.toArray x.2.2.1)=b.alloc (.cells (AV.ao ρ cs).toArray e):=by injection f
 have c:(some (Obj.cells x.2.2.2.toArray x.2.2.1):Option Obj)=some (.cells (AV.ao ρ cs).toArray e):=by rw [<-heap_alloc_new b (.cells x.2.2.2.toArray x.2.2.1),<-heap_alloc_new b (.cells (AV.ao ρ cs).toArray e),m]
 simp only [b8,Obj.cells.injEq] at c;exact ⟨c.2.1,by simpa using c.1⟩
theorem afE{frx:Fr}{T:aC}{w:World}{a:Act}{N:cC R}:∀{k:za} {EV:List pH} {st:aD} {ρ:ay},eK T st.E frx.F->Sat (ab ρ T st.G++(ab ρ T frx.H++(eC EV++Φ))) w->Fits frx.n (au ρ T st.E frx.F) a->
  (∀x∈EV,sB X.P ops.toArray a x)->(∀f∈k,f∈EV.map (·.1))->ah9 X ops frx T k st N=some r->
  ∃st' ρ',N st'=some r/\aT st.c ρ ρ'/\st.c<=st'.c/\eK T st'.E frx.F/\Fits frx.n (au ρ' T st'.E frx.F) a/\ab ρ' T frx.H=ab ρ T frx.H/\
   Sat (ab ρ' T st'.G++(ab ρ' T frx.H++(eC (EV.filter λx=> !(db x.1 k))++Φ))) w
 |[],EV,st,ρ,ht,hs,hf,hC,_,h=>by
  refine ⟨st,ρ,h,.refl,bb _,ht,hf,rfl,?_⟩;have e:(EV.filter λx=> !(db x.1 []))=EV:=by rw [List.filter_eq_self];intro x _;rfl
  rw [e];exact hs
 |f::k,EV,st,ρ,ht,hs,hf,hC,hin,h=>by
  unfold ah9 at h;split at h
  .rename_i o ho;obtain ⟨m,h2⟩:=aI h;simp only [ae,gj] at m;obtain ⟨x,hx,v⟩:=List.mem_map.1 (hin f (b5 ..));subst v;obtain ⟨i,g,M⟩:=List.append_of_mem hx;have l:ops.toArray[x.1]? =some o:=by simpa using ho
   have D:Sat (((ab ρ T st.G++ab ρ T frx.H)++eC i)++box x.2.1 x.2.2.1 x.2.2.2::(eC g++Φ)) w:=by
    have e:ab ρ T st.G++(ab ρ T frx.H++(eC EV++Φ))=((ab ρ T st.G++ab ρ T frx.H)++eC i)++box x.2.1 x.2.2.1 x.2.2.2::(eC g++Φ):=by rw [M];simp [eC]
    rw [<-e];exact hs
   have C:Sat ([]++box x.2.1 x.2.2.1 x.2.2.2::((ab ρ T st.G++ab ρ T frx.H)++(eC i++(eC g++Φ)))) w:=by have:=D.alm;simpa using this
   have B:Sat (ab ρ T st.G++(ab ρ T frx.H++(box x.2.1 x.2.2.1 x.2.2.2::(eC i++(eC g++Φ))))) w:=by have:=C.move;simpa using this
   have L:=hC x hx;obtain ⟨o2,d,w0,I,Q,r3,r4,O,r6⟩:=id L;rw [l] at I;cases I;obtain ⟨b,st1,av,k1,k2,K,J,k5,k6,k7,k8⟩:=an4 B (sB.same rfl L l hf) h2;have e1:au b T st1.E frx.F=(d,true,Ft o x.2.1)::au ρ T st.E frx.F:=by rw [J,tw,k5,k6,Q,aC.get_none];rfl
   have A:Sat (ab b T st1.G++(ab b T frx.H++(eC (EV.filter λy=> !(Nat.beq x.1 y.1))++Φ))) w:=by
    have e2:(EV.filter λy=> !(Nat.beq x.1 y.1))=(i++g).filter λy=> !(Nat.beq x.1 y.1):=by rw [M];simp
    rw [e2];have:Sat ((ab b T st1.G++ab b T frx.H)++(eC (i++g)++Φ)) w:=by
     have e3:eC (i++g)=eC i++eC g:=by simp [eC]
     rw [e3];simpa using k8
    have:=Hr (p:=λy=> !(Nat.beq x.1 y.1)) this;simpa using this
   have z:eK T st1.E frx.F:=by rw [J];exact ht.out m.1 none av
   obtain ⟨s,q,q1,Z,Y,W,V,U,S⟩:=afE z A (by rw [e1];exact hf.iB O) (λy u=>hC y (List.mem_filter.1 u).1) (λf' j=>by obtain ⟨y,u,t⟩:=List.mem_map.1 (hin f' (aW _ j));subst t;refine List.mem_map.2 ⟨y,List.mem_filter.2 ⟨u,?_⟩,rfl⟩;rw [gj,n5];intro hb;have:=ah hb;rw [<-this] at j;rw [df.2 j] at m;cases m.2) k1
   refine ⟨s,q,q1,k2.trans Z K,cg K Y,W,V,U.trans k7,?_⟩;have e4:((EV.filter λy=> !(Nat.beq x.1 y.1)).filter λy=> !(db y.1 k))=EV.filter λy=> !(db y.1 (x.1::k)):=by
    rw [qL];congr 1
    funext y
    simp only [db,Bool.not_or];exact Bool.and_comm ..
   rw [<-e4];exact S
  .cases h
theorem aoM(hΓ:∀it∈X.Γ,it∈Φ)(htb:∀e∈tb,e.Ok X.P X.Γ)(htp:∀e∈tp,e.Ok X.P X.Γ):∀{U:OT} {EV:List pH} {A:List Row} {Pd:List vo} {T:aC} {st:aD} {ρ:ay} {w:World} {pend:er},eK T st.E fr.F->mR ops fr.n T->FT T fr->WN ops U EV->agJ st.c Pd->Sat (ab ρ T st.G++(ab ρ T (A++fr.H)++(eC EV++Φ))) w->
  HP ρ T fr A Pd pend w->nn X tb tp KP ops fr U A Pd T st K=some r->
  (∀st' ρ' w',aT st.c ρ ρ'->st.c<=st'.c->K st'=some r->Sat (ab ρ' [] st'.G++(ab ρ' [] fr.H++Φ)) w'->At Q .normal fr.n D (au ρ' [] st'.E fr.F) w')->
  (∀v st' ρ' w',aT st.c ρ ρ'->st.c<=st'.c->KP v st'=some r->Sat (ab ρ' [] st'.G++(ab ρ' [] fr.H++Φ)) w'->B9 Q (gS (v.val ρ')) D w')->
  Ee X.P σ ops.toArray Q fr.n D U EV pend (au ρ T st.E fr.F) w:=by
 intro U
 -- a loud operation, the rest by induction
 have loud:∀(rest:OT) (k mk:Nat),(∀{EV:List pH} {A:List Row} {Pd:List vo} {T:aC} {st:aD} {ρ:ay} {w:World} {pend:er},eK T st.E fr.F->mR ops fr.n T->FT T fr->WN ops rest EV->agJ st.c Pd->Sat (ab ρ T st.G++(ab ρ T (A++fr.H)++(eC EV++Φ))) w->
   HP ρ T fr A Pd pend w->nn X tb tp KP ops fr rest A Pd T st K=some r->
   (∀st' ρ' w',aT st.c ρ ρ'->st.c<=st'.c->K st'=some r->Sat (ab ρ' [] st'.G++(ab ρ' [] fr.H++Φ)) w'->At Q .normal fr.n D (au ρ' [] st'.E fr.F) w')->
   (∀v st' ρ' w',aT st.c ρ ρ'->st.c<=st'.c->KP v st'=some r->Sat (ab ρ' [] st'.G++(ab ρ' [] fr.H++Φ)) w'->B9 Q (gS (v.val ρ')) D w')->
   Ee X.P σ ops.toArray Q fr.n D rest EV pend (au ρ T st.E fr.F) w)->
   ∀{EV:List pH} {A:List Row} {Pd:List vo} {T:aC} {st:aD} {ρ:ay} {w:World} {pend:er},eK T st.E fr.F->mR ops fr.n T->FT T fr->(∀x∈EV,nU ops.toArray k x.1=true)->WN ops rest EV->agJ st.c Pd->Sat (ab ρ T st.G++(ab ρ T (A++fr.H)++(eC EV++Φ))) w->
   HP ρ T fr A Pd pend w->
   (match ops[k]? with
    |some o=>Nk X tb tp KP ops fr A T st o λT st'=>aA (L3 st'.G (eT ops k Pd)) (nn X tb tp KP ops fr rest (bn (λr=> !(cR r)) st.G++A) (eT ops k Pd) T st' K) none
    |none=>none)=some r->
   (∀st' ρ' w',aT st.c ρ ρ'->st.c<=st'.c->K st'=some r->Sat (ab ρ' [] st'.G++(ab ρ' [] fr.H++Φ)) w'->At Q .normal fr.n D (au ρ' [] st'.E fr.F) w')->
   (∀v st' ρ' w',aT st.c ρ ρ'->st.c<=st'.c->KP v st'=some r->Sat (ab ρ' [] st'.G++(ab ρ' [] fr.H++Φ)) w'->B9 Q (gS (v.val ρ')) D w')->
   Ee X.P σ ops.toArray Q fr.n D (.l k mk rest) EV pend (au ρ T st.E fr.F) w:=by
  intro rest k mk ih EV A Pd T st ρ w pend h1 h2 hf hfk i C hs hp h L s;have W:∀it∈X.Γ,it∈eC EV++Φ:=λit hit=>ed _ (hΓ it hit);split at h
  .rename_i o ho;have hs1:=oP (A:=[]) (p:=cR) hs;refine ak3 (k:=k) (mk:=mk) (o:=o) (by simpa using ho) hfk rfl ?_;have fin:∀T' st' ρ' w',eK T' st'.E (nh fr A st).F->mR ops (nh fr A st).n T'->FT T' fr->aT (stM st).c ρ ρ'->(stM st).c<=st'.c->(aA (L3 st'.G (eT ops k Pd)) (nn X tb tp KP ops fr rest (bn (λr=> !(cR r)) st.G++A) (eT ops k Pd) T' st' K) none)=some r->ab ρ' T' (nh fr A st).H=ab ρ T (nh fr A st).H->Sat (ab ρ' T' st'.G++(ab ρ' T' (nh fr A st).H++(eC EV++Φ))) w'->
     WL X.P σ ops.toArray (QKE X.P σ ops.toArray Q rest EV (still .any ops.toArray k pend)) fr.n D [] (au ρ' T' st'.E (nh fr A st).F) w':=by
    intro T' st' ρ' w' a1 a2 a3 a4 a5 a6 a7 a8;obtain ⟨a9,a10⟩:=aI a6;have e1:bn (λr=> !(cR r)) st.G++(A++fr.H)=(bn (λr=> !(cR r)) st.G++A)++fr.H:=by rw [aO]
    have hs8:Sat (ab ρ' T' st'.G++(ab ρ' T' ((bn (λr=> !(cR r)) st.G++A)++fr.H)++(eC EV++Φ))) w':=by rw [<-e1];exact a8
    have conv:∀z,(∃y,Sat (ab ρ' T' ((bn (λr=> !(cR r)) st.G++A)++fr.H)++y) z)->∃y,Sat (ab ρ T (A++fr.H)++y) z:=λz hw=>by
     obtain ⟨y,R⟩:=hw;refine ⟨y,?_⟩;rw [<-e1] at R;have V:Sat (ab ρ T (bn (λr=> !(cR r)) st.G++(A++fr.H))++y) z:=by rw [<-a7];exact R
     rw [bk,aO] at V;exact V.wX
    have mem:∀p,p∈still .any ops.toArray k pend->p∈pend/\∀x,x∈Pd->x.1=p.1->x∈eT ops k Pd:=λp S=>by unfold still at S;rw [List.mem_filter] at S;exact ⟨S.1,λx hx he=>ve.2 ⟨hx,by rw [he];simpa using S.2⟩⟩
    have hBF:=abX (B:=ab ρ' T' ((bn (λr=> !(cR r)) st.G++A)++fr.H)++(eC EV++Φ)) hs8 a9;have HP':HP ρ' T' fr (bn (λr=> !(cR r)) st.G++A) (eT ops k Pd) (still .any ops.toArray k pend) w':=λp S z hw hB=>by obtain ⟨m1,m2⟩:=mem p S;exact hp p m1 z (conv z hw) (λx hx he=>(hB x (m2 x hx he) he).elim (λh=> .inl ((Ck a4 (C x hx)).1 h)) (λh=>by have:=(hBF x (m2 x hx he)).1;rw [h.1] at this;cases this))
    refine bU (apX (agl λp S=>HP' p S w' ⟨eC EV++Φ,hs8.wX⟩ (λx hx _=> .inl (hBF x hx))) ?_);exact ih a1 a2 a3 i (λx hx=>⟨ec (C x (ve.1 hx).1).1 a5,λu hu=>ec ((C x (ve.1 hx).1).2 u hu) a5⟩) hs8 HP' a10 (λI N z b1 b2 b3 b4=>L I N z (a4.trans b1 a5) (cg a5 b2) b3 b4) (λv I N z b1 b2 b3 b4=>s v I N z (a4.trans b1 a5) (cg a5 b2) b3 b4)
   unfold Nk at h;split at h
   .rename_i q hq;subst h;refine anC (fr:=nh fr A st) (st:=stM st) h1 hs1 W htp hq (λst' ρ' w' a1 a4 a5 a6 a7 a8=>fin T st' ρ' w' a1 h2 hf a4 a5 a6 a7 a8) (λlb v st' ρ' w' a1 a2 a3 ae1 ae2 a4=>?_);cases lb with
    |true=>cases a3
    |false=>
    have a4':Sat (ab ρ' T ({ st' with G:=st'.G++(bn (λr=> !(cR r)) st.G++A) }:aD).G++(ab ρ' T fr.H++(eC EV++Φ))) w':=by
     have e2:(nh fr A st).H=(bn (λr=> !(cR r)) st.G++A)++fr.H:=by rw [aO]
     rw [e2,bk,aO] at a4;show Sat (ab ρ' T (st'.G++(bn (λr=> !(cR r)) st.G++A))++_) w';rw [bk,aO];exact a4
    obtain ⟨I,k1,Z,_,M⟩:=afH (fr:=fr) (KP:=λ_=>KP) (b:=false) hf a3 a4';rw [<-aO] at M;replace M:=Rv M;rw [aO] at M;have k2':I.c=st'.c:=Z;have:=s v I ρ' w' a1 (by rw [k2'];exact a2) k1 M;exact abV this
   .exact abo (fr:=nh fr A st) (st:=stM st) (fr0:=fr) (K:=λT st'=>aA (L3 st'.G (eT ops k Pd)) (nn X tb tp KP ops fr rest (bn (λr=> !(cR r)) st.G++A) (eT ops k Pd) T st' K) none) h1 h2 rfl (λr hr=>ed _ (ed _ hr)) hf hs1 W htb h fin
  .cases h
 induction U with
 |nil=>
  intro EV A Pd T st ρ w pend h1 h2 hf i C hs hp h L s;have W:∀it∈X.Γ,it∈eC EV++Φ:=λit hit=>ed _ (hΓ it hit);unfold nn at h;obtain ⟨h3,h4⟩:=aI h;have hs':Sat (ab ρ T ({ st with G:=st.G++A }:aD).G++(ab ρ T fr.H++(eC EV++Φ))) w:=by show Sat (ab ρ T (st.G++A)++_) w;rw [bk,aO];rw [bk,aO] at hs;exact hs
  obtain ⟨k1,Z,M⟩:=HJ h3 hf hs';rw [<-aO] at M;replace M:=Rv M;rw [aO] at M;exact anR ((L _ ρ w .refl (by rw [k1];exact bb _) h4 M).lI _ Z)
 |q k m rest ih=>
  intro EV A Pd T st ρ w pend h1 h2 hf i C hs hp h L s;have hevr:WN ops rest EV:=λx hx=>⟨λj hj=>(i x hx).1 j (aW _ hj),(i x hx).2⟩;have W:∀it∈X.Γ,it∈eC EV++Φ:=λit hit=>ed _ (hΓ it hit);unfold nn at h;split at h
  .rename_i o ho;have hs1:=oP (A:=[]) (p:=cR) hs;obtain ⟨T',g,hk,so⟩:=adY (ρ:=ρ) (fr0:=fr) (fr:=nh fr A st) (st:=stM st) h1 h2 rfl (λr hr=>ed _ (ed _ hr)) hf h;have hs':Sat (ab ρ T' (stM st).G++(ab ρ T' (nh fr A st).H++(eC EV++Φ))) w:=by rw [so.eg,so.eh];exact hs1
   have he:au ρ T st.E fr.F=au ρ T' st.E fr.F:=by have e1:=so.ee;have e2:=so.ef;rw [au,au,e1,e2]
   rw [he];have e1:bn (λr=> !(cR r)) st.G++(A++fr.H)=(bn (λr=> !(cR r)) st.G++A)++fr.H:=by rw [aO]
   -- from what stands then to what stands now
   have conv0:∀z y,Sat (ab ρ T' (bn (λr=> !(cR r)) st.G++(A++fr.H))++y) z->∃y,Sat (ab ρ T (A++fr.H)++y) z:=λz y R=>by
    refine ⟨y,?_⟩;have V:Sat (ab ρ T (bn (λr=> !(cR r)) st.G++(A++fr.H))++y) z:=by rw [<-so.eh];exact R
    rw [bk,aO] at V;exact V.wX
   split at hk
   .rename_i q hq;subst hk;obtain ⟨v,ρ',st',av,Rq,p,k1,Z,M,k4,k5,k6,k7,k8,k9,k10,k11,k12⟩:=akP (fr:=nh fr A st) (st:=stM st) hs' hq;have e2:Rq++(bn (λr=> !(cR r)) st.G++(A++fr.H))=(Rq++(bn (λr=> !(cR r)) st.G++A))++fr.H:=by simp
    refine Ml (fr1:=nh fr A st) (st1:=stM st) (J:=BF ρ' p) rfl so ho (λx hx=>(i x hx).1 k (b5 ..)) k10 k12 ?_;have:=ih (A:=Rq++(bn (λr=> !(cR r)) st.G++A)) (Pd:=p::Pd) (T:=T') (st:=st') (ρ:=ρ') (w:=w) (pend:=(k,BF ρ' p)::pend) (by rw [k4];exact so.t1.out so.ak g av) so.t2 so.ft hevr (λx hx=>?_) (by rw [<-e2];exact k8) (λq Y z hw hB=>?_) k1 (λI N z b1 b2 b3 b4=>L I N z (Z.trans b1 M) (cg M b2) b3 b4) (λv I N z b1 b2 b3 b4=>s v I N z (Z.trans b1 M) (cg M b2) b3 b4)
    .rw [k4,tw,k5,k6] at this;exact this
    .rcases List.mem_cons.1 hx with rfl|hx
     .exact k11
     .exact ⟨ec (C x hx).1 M,λu hu=>ec ((C x hx).2 u hu) M⟩
    .rcases List.mem_cons.1 Y with rfl|Y
     .exact (hB p (b5 ..) k9).elim id (λh=>by have:=k10.1;rw [h.1] at this;cases this)
     .obtain ⟨y,R⟩:=hw;rw [<-e2,bk,aO] at R;have hΦ1:=R.wX;have V:Sat (ab ρ T' (bn (λr=> !(cR r)) st.G++(A++fr.H))++y) z:=by rw [<-k7];exact hΦ1
      exact hp q Y z (conv0 z y V) (λx hx he=>(hB x (aW _ hx) he).imp (Ck Z (C x hx)).1 id)
   .split at hk
    .rename_i p hpo;obtain ⟨lw,hk⟩:=aI hk;obtain ⟨dst,op,ty,pos,af,gd⟩:=o;unfold anG at hpo;split at hpo
     .rename_i t x d hop hdst;simp only at hop hdst;subst hop hdst;split at hpo
      .rename_i q off hx;split at hpo
       .cases hpo
       split at hpo
       .rename_i sr hkn;cases hpo;obtain ⟨v,hr,hO⟩:=Yo (ty:=ty) (pos:=pos) (af:=af) (gd:=gd) lw hs' hx hk;obtain ⟨ρ',st',av,k1,Z,M,k4,k5,k6,k7,k8⟩:=hO;have hq:q<st.c:=by obtain ⟨_,_,l3,l4⟩:=aD.cD.1 lw;obtain ⟨f1,f2⟩:=bV hkn;exact apU f1 f2 l3 l4
        refine Ml (fr1:=nh fr A st) (st1:=stM st) (J:=λw'=>Ext w w') (v:=v) rfl so ho (λx hx=>(i x hx).1 k (b5 ..)) (Ext.refl w) (λw' hw'=>hr w' hw') ?_;have:=ih (A:=bn (λr=> !(cR r)) st.G++A) (Pd:=(k,q,1000000000,[])::Pd) (T:=T') (st:=st') (ρ:=ρ') (w:=w) (pend:=(k,λw'=>Ext w w')::pend) (by rw [k4];exact so.t1.out so.ak g av) so.t2 so.ft hevr (λx hx=>?_) (by rw [<-e1];exact k8) (λq' Y z hw hB=>?_) k1 (λI N z b1 b2 b3 b4=>L I N z (Z.trans b1 M) (cg M b2) b3 b4) (λv I N z b1 b2 b3 b4=>s v I N z (Z.trans b1 M) (cg M b2) b3 b4)
        .rw [k4,tw,k5,k6] at this;exact this
        .rcases List.mem_cons.1 hx with rfl|hx
         .exact ⟨ec hq M,λu hu=>by cases hu⟩
         .exact ⟨ec (C x hx).1 M,λu hu=>ec ((C x hx).2 u hu) M⟩
        .obtain ⟨y,R⟩:=hw;rw [<-e1] at R;have hΦ1:Sat (ab ρ T' (bn (λr=> !(cR r)) st.G++(A++fr.H))++y) z:=by rw [<-k7];exact R
         rcases List.mem_cons.1 Y with rfl|Y
         .exact (hB (k,q,1000000000,[]) (b5 ..) rfl).elim (λh=>by have:=h.1;simp at this) (λh=>h.2)
         .exact hp q' Y z (conv0 z y hΦ1) (λx hx he=>(hB x (aW _ hx) he).imp (Ck Z (C x hx)).1 id)
       .cases hpo
      .cases hpo
     .cases hpo
    .obtain ⟨v,J,hJ,hr,hO⟩:=ajv (fr:=nh fr A st) (st:=stM st) W so.t1 hs' hk;obtain ⟨ρ',st',av,k1,Z,M,k4,k5,k6,k7,k8⟩:=hO;refine Ml (fr1:=nh fr A st) (st1:=stM st) rfl so ho (λx hx=>(i x hx).1 k (b5 ..)) (hJ w ⟨eC EV++Φ,hs'.wX⟩) hr ?_;have:=ih (A:=bn (λr=> !(cR r)) st.G++A) (Pd:=Pd) (T:=T') (st:=st') (ρ:=ρ') (w:=w) (pend:=(k,J)::pend) (by rw [k4];exact so.t1.out so.ak g av) so.t2 so.ft hevr (λx hx=>⟨ec (C x hx).1 M,λu hu=>ec ((C x hx).2 u hu) M⟩) (by rw [<-e1];exact k8) (λq Y z hw hB=>?_) k1 (λI N z b1 b2 b3 b4=>L I N z (Z.trans b1 M) (cg M b2) b3 b4) (λv I N z b1 b2 b3 b4=>s v I N z (Z.trans b1 M) (cg M b2) b3 b4)
     .rw [k4,tw,k5,k6] at this;exact this
     .obtain ⟨y,R⟩:=hw;rw [<-e1] at R;have hΦ1:Sat (ab ρ T' (bn (λr=> !(cR r)) st.G++(A++fr.H))++y) z:=by rw [<-k7];exact R
      rcases List.mem_cons.1 Y with rfl|Y
      .exact hJ z ⟨y,hΦ1⟩
      .exact hp q Y z (conv0 z y hΦ1) (λx hx he=>(hB x hx he).imp (Ck Z (C x hx)).1 id)
  .cases h
 |l k m rest ih=>
  intro EV A Pd T st ρ w pend h1 h2 hf i C hs hp h L s;have W:∀it∈X.Γ,it∈eC EV++Φ:=λit hit=>ed _ (hΓ it hit);unfold nn at h;exact loud rest k m (λ{EV A Pd T st ρ w pend}=>ih) h1 h2 hf (λx hx=>(i x hx).1 k (b5 ..)) (λx hx=>⟨λj hj=>(i x hx).1 j (aW _ hj),(i x hx).2⟩) C hs hp h L s
 |l2 m k1 r1 Z r2 ih1 ih2=>
  intro EV A Pd T st ρ w pend h1 h2 hf i C hs hp h L s;have W:∀it∈X.Γ,it∈eC EV++Φ:=λit hit=>ed _ (hΓ it hit);unfold nn at h;obtain ⟨h3,h4⟩:=Yx h;exact aqe (loud r1 k1 m (λ{EV A Pd T st ρ w pend}=>ih1) h1 h2 hf (λx hx=>(i x hx).1 k1 (b5 ..)) (λx hx=>⟨λj hj=>(i x hx).1 j (aW _ (aW _ (qH _ hj))),λj hj=>(i x hx).2 j (qH _ hj)⟩) C hs hp h3 L s)
   (loud r2 Z m (λ{EV A Pd T st ρ w pend}=>ih2) h1 h2 hf (λx hx=>(i x hx).1 Z (aW _ (b5 ..))) (λx hx=>⟨λj hj=>(i x hx).1 j (aW _ (aW _ (ed _ hj))),λj hj=>(i x hx).2 j (ed _ hj)⟩) C hs hp h4 L s)
 |f k m fl fs rest ih=>
  intro EV A Pd T st ρ w₀ pend h1 h2 hf i C hs hp h L s;unfold nn at h;obtain ⟨hc,h⟩:=aI h;simp only [ae,qB] at hc;obtain ⟨hfl,hpd0⟩:=hc;have hrun:∀f∈fl,∃o p d,ops[f]? =some o/\Ik X T (frA fr A) st o=some p/\o.dst=some d/\iA o=true/\Nat.blt d fr.n=true/\dB st.E fr.F d=none/\(∀t∈o.looksAt ops.toArray,t≠d)/\
    (∀j∈k::rest.ops,nU ops.toArray j f=true)/\∀j∈fl++rest.Uj,j=f\/nU ops.toArray j f=true:=λf hf=>by
   have:=hfl f hf;unfold apQ at this;simp only [ae,qB,c9] at this;obtain ⟨⟨g1,g2⟩,g3⟩:=this;split at g1
   .rename_i o ho;split at g1
    .rename_i p d hp hd;simp only [ae,qB] at g1;obtain ⟨⟨⟨g4,g5⟩,g6⟩,g7⟩:=g1;refine ⟨o,p,d,ho,hp,hd,g4,g5,?_,λt ht hc=>?_,g2,λj hj=>(g3 j hj).imp ah id⟩
     .split at g6
      .cases g6
      .assumption
     .have:=g7 t ht;rw [hc] at this;simp at this
    .cases g1
   .cases g1
  have nxp:∀(EV:List pH) (a:Act) (w:World),Ext w₀ w->WN ops (.f k m fl fs rest) EV->Sat (ab ρ T st.G++(ab ρ T (A++fr.H)++(eC EV++Φ))) w->Fits fr.n (au ρ T st.E fr.F) a->a.defers=D->(∀x∈EV,sB X.P ops.toArray a x)->
    (∀f∈fs,f∈EV.map (·.1))->wpOpIn (FW σ) 0 X.P ops.toArray (QN Q) k (λa' w'=>fY (still .any ops.toArray k pend) w'/\gZ X.P σ ops.toArray (QN Q) rest ((EV.map (·.1)).filter λf=> !(db f fs)) (still .any ops.toArray k pend) a' w') a w:=by
   intro EV a w hx0 i hs O hD hC hall;obtain ⟨st1,ρ1,k1,Z,M,k4,k5,k6,k7⟩:=afE (frx:=frA fr A) h1 hs O hC hall h;have hev':∀x∈EV.filter (λx=> !(db x.1 fs)),(∀j∈k::rest.ops,nU ops.toArray j x.1=true)/\∀j∈rest.Uj,j=x.1\/nU ops.toArray j x.1=true:=λx hx=>
    ⟨(i x (List.mem_filter.1 hx).1).1,λj hj=>(i x (List.mem_filter.1 hx).1).2 j (ed _ hj)⟩
   have HP':HP ρ1 T fr A Pd pend w:=λp S z hw hB=>by have k6:ab ρ1 T (A++fr.H)=ab ρ T (A++fr.H):=k6;rw [k6] at hw;exact hp p S z hw (λx hx he=>(hB x hx he).imp (Ck Z (C x hx)).1 (λh=>⟨h.1,hx0.trans h.2⟩))
   have hl:=loud rest k 0 (λ{EV A Pd T st ρ w pend}=>ih) (EV:=EV.filter λx=> !(db x.1 fs)) (pend:=pend) k4 h2 hf (λx hx=>(hev' x hx).1 k (b5 ..)) (λx hx=>⟨λj hj=>(hev' x hx).1 j (aW _ hj),(hev' x hx).2⟩)
    (λx hx=>⟨ec (C x hx).1 M,λu hu=>ec ((C x hx).2 u hu) M⟩) k7 HP' k1 (λI N z b1 b2 b3 b4=>L I N z (Z.trans b1 M) (cg M b2) b3 b4) (λv I N z b1 b2 b3 b4=>s v I N z (Z.trans b1 M) (cg M b2) b3 b4)
   have:=hl a k5 hD (λx hx=>hC x (List.mem_filter.1 hx).1);simp only [gZ] at this;have e:(EV.map (·.1)).filter (λf=> !(db f fs))=(EV.filter λx=> !(db x.1 fs)).map (·.1):=by rw [List.filter_map];rfl
   rw [e];split at this
   .exact this.elim
   .exact this
  have main:∀(nf:Nat) (EV:List pH) (a:Act) (w:World),Ext w₀ w->WN ops (.f k m fl fs rest) EV->Sat (ab ρ T st.G++(ab ρ T (A++fr.H)++(eC EV++Φ))) w->Fits fr.n (au ρ T st.E fr.F) a->a.defers=D->(∀x∈EV,sB X.P ops.toArray a x)->
    wpE X.P σ ops.toArray (QN Q) fl pend (λea a w=>(∀f∈fs,f∈ea)->wpOpIn (FW σ) 0 X.P ops.toArray (QN Q) k (λa' w'=>fY (still .any ops.toArray k pend) w'/\gZ X.P σ ops.toArray (QN Q) rest (ea.filter λf=> !(db f fs)) (still .any ops.toArray k pend) a' w') a w) nf (EV.map (·.1)) a w:=by
   intro nf
   induction nf with
   |zero=>exact λEV a w hx0 i hs O hD hC=>nxp EV a w hx0 i hs O hD hC
   |succ nf ihf=>
    intro EV a w hx0 i hs O hD hC;refine ⟨nxp EV a w hx0 i hs O hD hC,λf hf' hm=>?_⟩;obtain ⟨o,p,d,r1,r2,r3,r4,r5,r6,r7,r8,r9⟩:=hrun f hf';obtain ⟨e,vs,cs⟩:=p;obtain ⟨gn,ns⟩:=an5 r2;have ho':ops.toArray[f]? =some o:=by simpa using r1
    have hR:=adQ (ρ:=ρ) r2 w _ a O;have hw:Region.wanted o (yielded ops.toArray a.tmps)=true:=by simp [Region.wanted,gn]
    have hdn:look (au ρ T st.E fr.F) d=none:=by rw [fN,r6];rfl
    have hne:∀x∈EV,f≠x.1:=λx hx hc=>by have:db f (EV.map (·.1))=true:=df.2 (List.mem_map.2 ⟨x,hx,hc.symm⟩);rw [hm] at this;cases this
    have hs1:Sat (box w.heap.size e (AV.ao ρ cs)::(ab ρ T st.G++(ab ρ T (A++fr.H)++(eC EV++Φ)))) (w.alloc (.cells (AV.ao ρ cs).toArray e)):=hs.push (ei _ _) (λb hb=>by
     have:b=w.heap.size:=by simpa [box] using hb
     subst this;simp) (λ_ _=>heap_alloc_new w _)
    have hs2:Sat (ab ρ T st.G++(ab ρ T (A++fr.H)++(eC ((f,w.heap.size,e,AV.ao ρ cs)::EV)++Φ))) (w.alloc (.cells (AV.ao ρ cs).toArray e)):=by
     have h0:Sat ([]++box w.heap.size e (AV.ao ρ cs)::((ab ρ T st.G++ab ρ T (A++fr.H))++(eC EV++Φ))) (w.alloc (.cells (AV.ao ρ cs).toArray e)):=by rw [aO];exact hs1
     have:=h0.move;rw [mj,aO] at this;exact this
    have hfit':=O.aqH hdn (Ft o w.heap.size);have hflo:∀x∈(f,w.heap.size,e,AV.ao ρ cs)::EV,sB X.P ops.toArray (a.put o.dst (Ft o w.heap.size)) x:=λx hx=>by
     rcases List.mem_cons.1 hx with rfl|hx
     .refine ⟨o,d,w,ho',r3,ns,rfl,?_,?_⟩
      .rw [r3];have hlt:d<a.tmps.size:=by rw [O.size];simpa using r5
       show (a.tmps.setIfInBounds d _).getD d undef=_;simp [Array.getD,hlt]
      .rw [execOp_put (ops:=ops.toArray) o ns a o.dst _ (λt ht hc=>r7 t hc (by rw [r3] at ht;exact (p8 ht).symm))];exact hR
     .refine (hC x hx).put ho' ?_;rcases (i x hx).2 f (qH _ hf') with h9|h9
      .exact absurd h9 (hne x hx)
      .exact h9
    unfold wpOpIn;simp only [ho',hw,qt];refine kf r4 ?_;rw [hR,Oper.uponIn_value];refine ⟨agl λp S=>hp p S _ ⟨eC ((f,w.heap.size,e,AV.ao ρ cs)::EV)++Φ,hs2.wX⟩ (λx hx _=>(ajo hs2 hpd0 x hx).imp id (λh=>⟨h,hx0.trans (ei _ _)⟩)),?_⟩;have:=ihf ((f,w.heap.size,e,AV.ao ρ cs)::EV) (a.put o.dst (Ft o w.heap.size)) _ (hx0.trans (ei _ _)) (λx hx=>?_) hs2 (by rw [r3];exact hfit') (by rw [ik];exact hD) hflo
    .exact this
    .rcases List.mem_cons.1 hx with rfl|hx
     .exact ⟨r8,r9⟩
     .exact i x hx
  intro a O hD hC;simp only [gZ];exact main fl.length EV a w₀ (Ext.refl _) i hs O hD hC
end
def cI:Code->Nat
 | .region _ ops _=>ops.toList.foldl (λm o=>match o.dst with|some d=>Nat.lor m (Nat.shiftLeft 1 d)|none=>m) 0
 | .seq a b=>Nat.lor (cI a) (cI b)
 | .cond _ a b=>Nat.lor (cI a) (cI b)
 | .block _ c=>cI c
 | .loop c=>cI c
 | .scope c=>cI c
 | .rangeFunc _ ps a b=>Nat.lor (ps.toList.foldl (λm d=>Nat.lor m (Nat.shiftLeft 1 d)) 0) (Nat.lor (cI a) (cI b))
 |_=>0
def PX(t:Nat):List (Bool×Nat×Pt)->Bool
 |[]=>false
 |x::l=>(!x.1&&Nat.beq x.2.1 t)||PX t l
def uc(m:Nat)(vs:List (Bool×Nat×Pt))(t:Nat):Bool:= !(Nat.testBit m t)&& !(PX t vs)
def lx(m:Nat)(vs:List (Bool×Nat×Pt)):aF->aF
 |[]=>[]
 |x::E=>aA ( uc m vs x.1 ) ( x::lx m vs E ) ( lx m vs E )
def mP(m:Nat)(vs:List (Bool×Nat×Pt)):aF->aF
 |[]=>[]
 |x::E=>aA ( uc m vs x.1 ) ( mP m vs E ) ( x::mP m vs E )
theorem YD{m:Nat}{vs:List (Bool×Nat×Pt)}{t:Nat}:{E:aF}->bz E t=aA (uc m vs t) (bz (lx m vs E) t) (bz (mP m vs E) t)/\bz (aA (uc m vs t) (mP m vs E) (lx m vs E)) t=none
 |[]=>by cases uc m vs t <;> exact ⟨rfl,rfl⟩
 |(t',g,v)::E=>by
  obtain ⟨b,a⟩:=YD (m:=m) (vs:=vs) (t:=t) (E:=E);cases hb:Nat.beq t' t
  .rw [ey hb];unfold lx mP;cases c:uc m vs t' <;> cases d:uc m vs t <;> rw [d] at b a <;> first
    |exact ⟨by rw [ey hb];exact b,a⟩
    |exact ⟨b,by rw [ey hb];exact a⟩
    |exact ⟨b,a⟩
  .have e:=ah hb;subst e;rw [gE hb];unfold lx mP;cases c:uc m vs t' <;> rw [c] at a
   .exact ⟨(gE hb).symm,a⟩
   .exact ⟨(gE hb).symm,a⟩
theorem agv{m:Nat}{vs:List (Bool×Nat×Pt)}{t:Nat}{E F:aF}:dB (mP m vs E) (lx m vs E++F) t=dB E F t:=by
 have app:∀A B:aF,bz (A++B) t=match bz A t with|some x=>some x|none=>bz B t:=λA B=>by
  induction A with
  |nil=>rfl
  |cons x A ih=>
   obtain ⟨t',g,v⟩:=x;cases hb:Nat.beq t' t
   .rw [eb,ey hb,ey hb];exact ih
   .rw [eb,gE hb,gE hb]
 obtain ⟨b,a⟩:=YD (m:=m) (vs:=vs) (t:=t) (E:=E);unfold dB;rw [app];cases c:uc m vs t <;> rw [c] at b a
 .rw [show bz (lx m vs E) t=none from a,b]
 .rw [show bz (mP m vs E) t=none from a,b];rfl
theorem aiZ{ρ:ay}{E E' F a:aF}(h:∀t,dB E' a t=dB E F t):iV (au ρ [] E' a) (au ρ [] E F):=λt p hp=>by rw [fN] at hp ⊢;rw [<-h];exact hp
mutual
def AV.ids:AV->za
 | .ptr id _|.sl id|.adr id _|.mp id|.nv id|.sfp id _|.bs id _=>[id]
 | .agg l|.tuple l=>AV.aa2 l
 | .fn _ a b=>AV.aa2 a++AV.aa2 b
 | .ifc _ v=>v.ids
 |_=>[]
def AV.aa2:List AV->za
 |[]=>[]
 |v::l=>v.ids++AV.aa2 l
end
def alA(res:AV->AV)(ids:za):List Row->za
 |[]=>[]
 |r::G=>(match r with
  | .box j _ vs=>aA (rW j ids) (AV.aa2 (vs.map res)) []
  |_=>[])++alA res ids G
def reach(st:aD)(fr:Fr)(ts:za):za:=
 let a:=(ts.map λt=>match dB st.E fr.F t with
  |some (_,v)=>v.ids
  |none=>[]).flatten
 let b:=a++alA (sf st.G fr.H) a st.G
 b++alA (sf st.G fr.H) b st.G
def fu(ids:za)(r:Row):Bool:=rW r.id ids
def kB(ids:za)(c:Nat):List Row->List Row×List Row×Nat
 |[]=>([],[],c)
 |r::G=>match r with
  | .box j t vs=>aA ( rW j ids ) ( match kj c vs with
   |(cs,R,c)=>match kB ids c G with
    |(G,R',c)=>(.box j t cs::G,R++R',c) )<|match kB ids c G with
   |(G,R',c)=>(.box j t vs::G,R',c)
  |r=>match kB ids c G with
   |(G,R',c)=>(r::G,R',c)
def fF:List Row->List (List AV)
 |[]=>[]
 |r::G=>(match r with
  | .box _ _ cs=>cs::fF G
  |_=>fF G)
structure ant(c:Nat)(G:List Row)(ρ ρ':ay)(x:List Row×List Row×Nat):Prop where
 ag:aT c ρ ρ'
 le:c<=x.2.2
 eq:ab ρ' [] x.1=ab ρ [] G
 lw:bC x.2.2 x.1=true
 rl:bC x.2.2 x.2.1=true
 rp:∀r∈x.2.1,(r.item ρ' []).cG=true/\∀M w,(r.item ρ' []).P M w
 bx:(fF x.1).map (AV.ao ρ')=(fF G).map (AV.ao ρ)
theorem Lp{ρ ρ':ay}{c:Nat}(ha:aT c ρ ρ'):{G:List Row}->bC c G=true->(fF G).map (AV.ao ρ')=(fF G).map (AV.ao ρ)
 |[],_=>rfl
 |r::G,h=>by
  simp only [bC,ae] at h;have ih:=Lp ha h.2;cases r with
  |box j t cs=>
   have a:=h.1;simp only [Row.low,ae] at a;show AV.ao ρ' cs::(fF G).map (AV.ao ρ')=AV.ao ρ cs::(fF G).map (AV.ao ρ);rw [ih,AV.bS ha _ a.2]
  |_=>exact ih
theorem HB{ids:za}:{G:List Row}->{c:Nat}->{ρ:ay}->bC c G=true->∃ρ',ant c G ρ ρ' (kB ids c G)
 |[],c,ρ,h=>⟨ρ,.refl,bb _,rfl,rfl,rfl,(λ_ h=>by cases h),rfl⟩
 |r::G,c,ρ,h=>by
  simp only [bC,ae] at h;have f:(∀t cs j,r= .box j t cs->rW j ids=false)->kB ids c (r::G)=(match kB ids c G with|(G,s,c)=>(r::G,s,c))->∃ρ',ant c (r::G) ρ ρ' (kB ids c (r::G)):=λ_ e=>by
   obtain ⟨ρ',l⟩:=HB (ids:=ids) (c:=c) (ρ:=ρ) h.2;rw [e];generalize kB ids c G=L at l;obtain ⟨q,R,A⟩:=L;refine ⟨ρ',l.ag,l.le,?_,?_,l.rl,l.rp,?_⟩
   .have:=l.eq;simp only [ab,c5] at this ⊢;rw [this,Row.AE l.ag h.1]
   .simp only [bC,ae];exact ⟨Row.fp l.le h.1,l.lw⟩
   .have hb:(fF q).map (AV.ao ρ')=(fF G).map (AV.ao ρ):=l.bx;cases r with
    |box j t cs=>
     have w:=h.1;simp only [Row.low,ae] at w;show AV.ao ρ' cs::(fF q).map (AV.ao ρ')=AV.ao ρ cs::(fF G).map (AV.ao ρ);rw [hb,AV.bS l.ag _ w.2]
    |_=>exact hb
  cases r with
  |box j t vs=>
   cases v:rW j ids
   .exact f (λt cs j h=>by cases h;exact v) (by simp only [kB,v])
   .have b:=h.1;simp only [Row.low,ae,gy] at b;obtain ⟨k,a⟩:=IS (ρ:=ρ) b.2;have e:kB ids c (.box j t vs::G)=(match kj c vs with
     |(cs,R,c)=>match kB ids c G with
      |(G,s,c)=>(.box j t cs::G,R++s,c)):=by simp only [kB,v]
    rw [e];generalize kj c vs=L at a;obtain ⟨cs,R,c1⟩:=L;obtain ⟨d,g⟩:=HB (ids:=ids) (c:=c1) (ρ:=k) (xF a.le h.2);dsimp only;generalize kB ids c1 G=L at g;obtain ⟨q,s,z⟩:=L;have o:c<=c1:=a.le;have i:c1<=z:=g.le;have p:aT c ρ d:=a.ag.trans g.ag a.le;refine ⟨d,p,cg o i,?_,?_,rA (xF i a.rl) g.rl,?_,?_⟩
    .have y:=g.eq;simp only [ab,c5,Row.item] at y ⊢;have m:AV.bW c1 cs=true:=a.lw;have n:AV.ao k cs=AV.ao ρ vs:=a.eq;rw [y,p _ b.1,AV.bS g.ag _ m,n];have:=bf (T:=[]) a.ag h.2;simp only [ab] at this;rw [this]
    .simp only [bC,Row.low,ae,gy];exact ⟨⟨by omega,AV.jx i _ a.lw⟩,g.lw⟩
    .intro r b;rcases List.mem_append.1 b with b|b
     .have u:r.low c1=true:=by
       have key:∀{R:List Row},bC c1 R=true->∀r∈R,r.low c1=true:=λ{R}=>by
        induction R with
        |nil=>intro _ r h;cases h
        |cons x R ih=>
         intro h r b;simp only [bC,ae] at h;rcases List.mem_cons.1 b with rfl|b
         .exact h.1
         .exact ih h.2 r b
       exact key a.rl r b
      rw [Row.AE g.ag u];exact a.rp r b
     .exact g.rp r b
    .have hb:(fF q).map (AV.ao d)=(fF G).map (AV.ao k):=g.bx;show AV.ao d cs::(fF q).map (AV.ao d)=AV.ao ρ vs::(fF G).map (AV.ao ρ);have m:AV.bW c1 cs=true:=a.lw;have n:AV.ao k cs=AV.ao ρ vs:=a.eq;rw [hb,AV.bS g.ag _ m,n,Lp a.ag h.2]
  |_=>exact f (λt cs j h=>by cases h) rfl
variable {G : List Row}
def xj(E F:aF)(t:Nat):Option AV:=match dB E F t with
 |some (none,v)=>some v
 |_=>none
theorem EK{ρ:ay}{E F:aF}{t:Nat}{v:AV}(h:xj E F t=some v):look (au ρ [] E F) t=some (true,v.val ρ):=by
 unfold xj at h;split at h
 next a hv=>cases h;rw [fN,hv];simp
 .cases h
def UI(st:aD)(fr:Fr):List (Bool×Nat×Pt)->za
 |[]=>[]
 |x::l=>(aA x.1 (match dB st.E fr.F x.2.1 with
  |some (_,v)=>v.ids
  |none=>[]) [])++UI st fr l
mutual
def ag3(G H:List Row):Pt->AV->za
 | .own _ _ _,v=>v.ids
 | .mp _ _ _,v=>v.ids
 | .it,v=>v.ids
 | .bx _ _ _ vs,v=>(match v with
  | .ptr j _=>j::M7 G H vs (cellsOf G H j)
  |_=>[])
 | .agg l,v=>(match v with
  | .agg vs=>M7 G H l vs
  |_=>[])
 | .cB l,v=>(match v with
  | .tuple vs=>M7 G H l vs
  |_=>[])
 | .fn _ a b,v=>(match v with
  | .fn _ a' b'=>M7 G H a a'++M7 G H b b'
  |_=>[])
 | .sty p,v=>ag3 G H p v
 | .ifc _ p,v=>(match v with
  | .ifc _ u=>ag3 G H p u
  |_=>[])
 | .dat _ o,v=>aA (o.all (λx=>x.isNone)) [] v.ids
 |_,_=>[]
def M7(G H:List Row):List Pt->List AV->za
 |[],_=>[]
 |p::l,vs=>(match vs with
  |v::vs=>ag3 G H p (sf G H v)++M7 G H l vs
  |[]=>[])
end
def amF(st:aD)(fr:Fr):List (Bool×Nat×Pt)->za
 |[]=>[]
 |x::l=>(match dB st.E fr.F x.2.1 with
  |some (_,v)=>ag3 st.G fr.H x.2.2 (sf st.G fr.H v)
  |none=>[])++amF st fr l
structure En where
 fr:Fr
 E:aF
 G:List Row
 Et:aF
 Gt:List Row
 c:Nat
 fix:Nat->gz
def akQ(E F:aF)(G:List Row)(t:Nat):gz:=match dB E F t with
 |some (_,v)=>some (v,match v with
  | .ptr j _=>cellsOf G [] j
  |_=>[])
 |none=>none
def enter(fr:Fr)(tm:Tm)(m:Nat)(st:aD):En:=
 let ids:=amF st fr tm.vs++reach st fr tm.th
 match kB (UI st fr tm.vs) st.c (bn (fu ids) st.G) with
 |(Gt,R,c)=>⟨⟨lx m tm.vs st.E++fr.F,(R++bn (λr=> !(fu ids r)) st.G)++fr.H,fr.n⟩,lx m tm.vs st.E,R++bn (λr=> !(fu ids r)) st.G,mP m tm.vs st.E,Gt,c,akQ st.E fr.F Gt⟩
structure arp(fr:Fr)(st:aD)(Φ:Ctx)(w:World)(ρ ρ':ay)(en:En):Prop where
 ag:aT st.c ρ ρ'
 le:st.c<=en.c
 ff:en.fr.F=en.E++fr.F
 fh:en.fr.H=en.G++fr.H
 fn:en.fr.n=fr.n
 lF:aF.low en.c en.fr.F=true
 lH:bC en.c en.fr.H=true
 sub:iV (au ρ' [] en.Et en.fr.F) (au ρ [] st.E fr.F)
 sat:Sat (ab ρ' [] en.Gt++(ab ρ' [] en.fr.H++Φ)) w
 fx:∀t q,en.fix t=some q->q.1.low en.c=true/\AV.bW en.c q.2=true
theorem aF.fp{c d:Nat}(a:c<=d):{E:aF}->E.low c=true->E.low d=true
 |[],_=>rfl
 |x::E,h=>by simp only [aF.low,ae] at h ⊢;exact ⟨AV.fp a _ h.1,aF.fp a h.2⟩
theorem aF.HI{c:Nat}:{E F:aF}->E.low c=true->F.low c=true->aF.low c (E++F)=true
 |[],_,_,h=>h
 |x::E,F,h,k=>by simp only [eb,aF.low,ae] at h ⊢;exact ⟨h.1,aF.HI h.2 k⟩
theorem H8{c:Nat}:{E:aF}->E.low c=true->{t:Nat}->{x:GK×AV}->bz E t=some x->x.2.low c=true
 |[],_,_,_,h=>by cases h
 |(t',g,v)::E,h,t,x,hx=>by
  simp only [aF.low,ae] at h;cases hb:Nat.beq t' t
  .rw [ey hb] at hx;exact H8 h.2 hx
  .rw [gE hb] at hx;cases hx;exact h.1
theorem Lt{c m:Nat}{vs:List (Bool×Nat×Pt)}:{E:aF}->E.low c=true->(lx m vs E).low c=true
 |[],_=>rfl
 |x::E,h=>by
  simp only [aF.low,ae] at h;unfold lx;cases uc m vs x.1
  .exact Lt h.2
  .show aF.low c (x::lx m vs E)=true;simp only [aF.low,ae];exact ⟨h.1,Lt h.2⟩
theorem La{c m:Nat}{vs:List (Bool×Nat×Pt)}:{E:aF}->E.low c=true->(mP m vs E).low c=true
 |[],_=>rfl
 |x::E,h=>by
  simp only [aF.low,ae] at h;unfold mP;cases uc m vs x.1
  .show aF.low c (x::mP m vs E)=true;simp only [aF.low,ae];exact ⟨h.1,La h.2⟩
  .exact La h.2
theorem Ef{c:Nat}{p:Row->Bool}:{G:List Row}->bC c G=true->bC c (bn p G)=true
 |[],_=>rfl
 |r::G,h=>by
  simp only [bC,ae] at h;unfold bn;cases p r
  .exact Ef h.2
  .show bC c (r::bn p G)=true;simp only [bC,ae];exact ⟨h.1,Ef h.2⟩
theorem afg{c:Nat}{j:Nat}(h:bC c G=true):AV.bW c (cellsOf G [] j)=true:=by
 unfold cellsOf;split
 .rename_i s d t cs b;obtain ⟨a,_⟩:=bV b;cases s with
  |top i=>
   have:=pn h (show G[i]? =some _ from a);simp only [Row.low,ae] at this;exact this.2
  |cu i=>have a:([]:List Row)[i]? =some _:=a;simp at a
  |nilI=>exact a.elim
  |nilO=>exact a.elim
  |nilM=>exact a.elim
 .rfl
theorem amO{c:Nat}{E F:aF}(d:E.low c=true)(b:F.low c=true)(a:bC c G=true){t:Nat}{q:AV×List AV}(h:akQ E F G t=some q):q.1.low c=true/\AV.bW c q.2=true:=by
 unfold akQ at h;split at h
 .rename_i v hv;cases h;refine ⟨?_,?_⟩
  .unfold dB at hv;split at hv
   next x hx=>cases hv;exact H8 d hx
   .exact H8 b hv
  .split
   .exact afg a
   .rfl
 .cases h
theorem wh{fr:Fr}{tm:Tm}{m:Nat}{st:aD}{ρ:ay}{Φ:Ctx}{w:World}(K:st.low fr=true)(D:Sat (ab ρ [] st.G++(ab ρ [] fr.H++Φ)) w):∃ρ',arp fr st Φ w ρ ρ' (enter fr tm m st):=by
 obtain ⟨g,f,u,s⟩:=aD.cD.1 K;unfold enter;dsimp only;generalize amF st fr tm.vs++reach st fr tm.th=ids;have n:=oP (A:=[]) (p:=fu ids) D;obtain ⟨ρ',l⟩:=HB (ids:=UI st fr tm.vs) (c:=st.c) (ρ:=ρ) (Ef (p:=fu ids) u);generalize kB (UI st fr tm.vs) st.c (bn (fu ids) st.G)=L at l;obtain ⟨Gt,R,c⟩:=L;have a:st.c<=c:=l.le;have y:=Lt (m:=m) (vs:=tm.vs) g;have hp:=Ef (p:=λr=> !(fu ids r)) u;refine ⟨ρ',l.ag,a,rfl,rfl,rfl,?_,?_,?_,?_,λt q J=>?_⟩
 .exact aF.HI (aF.fp a y) (aF.fp a f)
 .exact rA (rA l.rl (xF a hp)) (xF a s)
 .have o:au ρ' [] (mP m tm.vs st.E) (lx m tm.vs st.E++fr.F)=au ρ [] (mP m tm.vs st.E) (lx m tm.vs st.E++fr.F):=by rw [au,au,oN l.ag (La g),oN l.ag (aF.HI y f)]
  show iV (au ρ' [] (mP m tm.vs st.E) (lx m tm.vs st.E++fr.F)) _;rw [o];exact aiZ λt=>agv
 .show Sat (ab ρ' [] Gt++(ab ρ' [] ((R++bn (λr=> !(fu ids r)) st.G)++fr.H)++Φ)) w;have o:ab ρ' [] Gt=ab ρ [] (bn (fu ids) st.G):=l.eq;have V:ab ρ' [] (bn (λr=> !(fu ids r)) st.G++fr.H)=ab ρ [] (bn (λr=> !(fu ids r)) st.G++fr.H):=bf l.ag (rA hp s);rw [aO,bk,o,V];have i:Sat (ab ρ [] (bn (fu ids) st.G)++(ab ρ [] (bn (λr=> !(fu ids r)) st.G++fr.H)++Φ)) w:=by simpa using n
  have e:∀(L:List Item) (A B:Ctx),(∀it∈L,it.cG=true/\∀M w,it.P M w)->Sat (A++B) w->Sat (A++(L++B)) w:=λL A B v h=>by
   have C:=AQ h L (λit d=>⟨(v it d).1,(v it d).2 _ _⟩);have mv:∀(L:List Item) (A B:Ctx),Sat (L++(A++B)) w->Sat (A++(L++B)) w:=λL=>by
    induction L with
    |nil=>intro A B h;exact h
    |cons x L ih=>
     intro A B h;have z:Sat ([]++x::((L++A)++B)) w:=by simpa using h
     have T:Sat ([]++((L++A)++x::B)) w:=z.move;have S:Sat (L++(A++x::B)) w:=by simpa using T
     have Q:Sat (A++(L++x::B)) w:=ih _ _ S;have O:Sat (A++(L++[x]++B)) w:=by simpa using Q
     -- x goes ahead of L
     refine O.Az (λj k=>(j<A.length/\k=j)\/(j=A.length/\k=A.length+L.length)\/(A.length<j/\j<=A.length+L.length/\k+1=j)\/(A.length+L.length<j/\k=j)) (λj jt b=>?_) (λj k q N C z=>by omega);by_cases c1:j<A.length
     .rw [cb c1] at b;exact .inr ⟨j,jt,.inl ⟨c1,rfl⟩,by rw [cb c1];exact b,bR.refl⟩
     .rw [b7 (by omega)] at b;by_cases X:j=A.length
      .subst X;simp at b;subst b;refine .inr ⟨A.length+L.length,x,.inr (.inl ⟨rfl,rfl⟩),?_,bR.refl⟩;rw [b7 (by omega)];have:A.length+L.length-A.length=L.length:=by omega
       rw [this];simp
      .have U:j-A.length=(j-A.length-1)+1:=by omega
       rw [U,eb,cd] at b;by_cases W:j<=A.length+L.length
       .rw [cb (by omega)] at b;refine .inr ⟨j-1,jt,.inr (.inr (.inl ⟨by omega,W,by omega⟩)),?_,bR.refl⟩;rw [b7 (by omega),aO,cb (by omega)];rw [show j-1-A.length=j-A.length-1 by omega];exact b
       .rw [b7 (by omega)] at b;refine .inr ⟨j,jt,.inr (.inr (.inr ⟨by omega,rfl⟩)),?_,bR.refl⟩;rw [b7 (by omega),b7 (by simp;omega)];have:j-A.length-(L++[x]).length=j-A.length-1-L.length:=by simp;omega
        rw [this];exact b
   exact mv L A B C
  have:=e (ab ρ' [] R) (ab ρ [] (bn (fu ids) st.G)) (ab ρ [] (bn (λr=> !(fu ids r)) st.G++fr.H)++Φ) (λit d=>by obtain ⟨r,I,rfl⟩:=List.mem_map.1 d;exact l.rp r I) i
  simpa using this
 .exact amO (aF.fp a g) (aF.fp a f) l.lw J
def UQ(G H:List Row)(look:Nat->Option AV)(fix:Nat->gz):List (Bool×Nat×Pt)->za
 |[]=>[]
 |x::l=>(match (aA x.1 ((fix x.2.1).map (·.1)) (look x.2.1)) with
  |some v=>rP G H x.2.2 v
  |none=>[])++UQ G H look fix l
def Vu(F:aF)(vs:List (Bool×Nat×Pt)):aF->Bool
 |[]=>true
 |x::E=>(PX x.1 vs||pE (bz F x.1))&&Vu F vs E
def ND(en:En)(tm:Tm)(E:aF)(G:List Row):List Row:=cu (UQ G en.fr.H (xj E en.fr.F) en.fix tm.vs) G
def jQ(en:En)(tm:Tm)(E:aF)(G:List Row):Option (ew (gr tm.vs)):=
 match YA (ND en tm E G) en.fr.H (xj E en.fr.F) en.fix tm.vs [] with
 |some mr=>aA (A6 (mr.S.map λx=>di (ND en tm E G) en.fr.H x.2)&&OK (ND en tm E G).length (mr.S.map λx=>di (ND en tm E G) en.fr.H x.2)&&Vu en.fr.F tm.vs E) (cB _ mr.D) none
 |none=>none
def rowsOf(R:List (Bool×Row)):List Row:=R.map (·.2)
def ck(en:En)(tm:Tm)(s:ew (gr tm.vs))(h:HT):aD:=match eY (λn=>en.c+n) en.fix tm.vs 0 (fM _ s) with
 |⟨E,R,k,_⟩=>⟨en.c+k,E,rowsOf R,h⟩
def fT(en:En)(tm:Tm)(s:ew (gr tm.vs))(h:HT):aD:=match eY (λn=>en.c+n) en.fix tm.vs 0 (fM _ s) with
 |⟨E,R,k,_⟩=>⟨en.c+k,E++en.E,rowsOf R++en.G,h⟩
def vV(e:XE)(en:En)(st:aD):aD:=match e with
 | .panL _=>{ st with E:=st.E++en.E,G:=st.G++da en.G }
 |_=>{ st with E:=st.E++en.E,G:=st.G++en.G }
theorem Sat.SR{w:World}{A C:Ctx}:∀{B:Ctx},Sat (A++(B++C)) w->Sat (A++C) w
 |[],h=>h
 |_x::B,h=>Sat.SR (B:=B) (Sat.As h)
theorem Yw{nm:Nat->Nat}{fix:Nat->gz}{t:Nat}:{l:List (Bool×Nat×Pt)}->{n:Nat}->{D:List bY}->PX t l=true->bz (eY nm fix l n D).E t≠none
 |[],n,D,h=>by cases h
 |(b,t',p)::l,n,D,h=>by
  unfold eY;dsimp only;generalize fill nm p (aA b (fix t') none) none n D=L;obtain ⟨v,R,k,c,j⟩:=L;dsimp only;generalize d:eY nm fix l k c=f;obtain ⟨a,m,i,g⟩:=f;dsimp only;have ih:PX t l=true->bz a t≠none:=λe=>by have:=Yw (nm:=nm) (fix:=fix) (n:=k) (D:=c) e;rw [d] at this;exact this
  simp only [PX,c9,ae] at h;cases b
  .show bz ((t',none,v)::a) t≠none;cases hb:Nat.beq t' t
   .rw [ey hb];rcases h with ⟨_,h⟩|h
    .rw [hb] at h;cases h
    .exact ih h
   .rw [gE hb];simp
  .show bz a t≠none;rcases h with ⟨h,_⟩|h
   .cases h
   .exact ih h
theorem abQ{F:aF}{vs:List (Bool×Nat×Pt)}{t:Nat}:{E:aF}->{x:GK×AV}->Vu F vs E=true->bz E t=some x->PX t vs=true\/bz F t=none
 |[],x,_,h=>by cases h
 |(t',g,v)::E,x,hb,h=>by
  simp only [Vu,ae,c9] at hb;cases b:Nat.beq t' t
  .rw [ey b] at h;exact abQ hb.2 h
  .have e:=ah b;subst e;rcases hb.1 with a|a
   .exact .inl a
   .cases c:bz F t' with
    |none=>exact .inr rfl
    |some y=>rw [c] at a;cases a
section
variable {en : En} {tm : Tm} {Φ : Ctx} {w : World} {ρ : ay}
theorem nj{E:aF}{s:ew (gr tm.vs)}(lF:aF.low en.c en.fr.F=true)(lH:bC en.c en.fr.H=true)(fx:∀t q,en.fix t=some q->q.1.low en.c=true/\AV.bW en.c q.2=true)
  (hs:Sat (ab ρ [] G++(ab ρ [] en.fr.H++Φ)) w) (h:jQ en tm E G=some s):
  ∃ρ' E' R k D,eY (λn=>en.c+n) en.fix tm.vs 0 (fM _ s)=⟨E',R,k,D⟩/\aT en.c ρ ρ'/\iV (au ρ' [] E' en.fr.F) (au ρ [] E en.fr.F)/\Sat (ab ρ' [] (rowsOf R)++(ab ρ' [] en.fr.H++Φ)) w:=by
 unfold jQ at h;have d:=iR (ids:=UQ G en.fr.H (xj E en.fr.F) en.fix tm.vs) hs;change Sat (ab ρ [] (ND en tm E G)++_) w at d;generalize ND en tm E G=G' at h d;split at h
 .rename_i Q S;obtain ⟨U,h2⟩:=aI h;simp only [ae] at U;obtain ⟨⟨h3,h4⟩,h5⟩:=U;obtain ⟨N,I,r,n1,a1⟩:=SM d tm.vs [] Q [] S .nil;rw [<-AL _ h2] at r;obtain ⟨p1,_⟩:=Nn d a1;obtain ⟨P,_⟩:=vX d p1 (wF h3);rw [Ca h4] at P;have Z:=P.SR
  -- names
  have b:aT en.c ρ (λi=>aA (Nat.blt i en.c) (ρ i) ((N[i-en.c]?).getD cO)):=λj hj=>by
   have:Nat.blt j en.c=true:=by simpa using hj
   simp only [this]
  have l:vh (λi=>aA (Nat.blt i en.c) (ρ i) ((N[i-en.c]?).getD cO)) (λn=>en.c+n) 0 N:=λi a ha=>by
   have:Nat.blt (en.c+i) en.c=false:=by
    cases hb:Nat.blt (en.c+i) en.c
    .rfl
    .simp only [gy] at hb;omega
   simp only [this,show en.c+i-en.c=i by omega,ha,qA];exact ⟨trivial,trivial,trivial,λ_=>trivial⟩
  generalize (λi=>aA (Nat.blt i en.c) (ρ i) ((N[i-en.c]?).getD cO))=ρ' at b l;have e1:(λi=>eZ ρ (en.fix i))=λi=>eZ ρ' (en.fix i):=by
   funext i
   cases hq:en.fix i with
   |none=>rfl
   |some q=>
    obtain ⟨k1,k2⟩:=fx i q hq;show some (q.1.val ρ,AV.ao ρ q.2)=some (q.1.val ρ',AV.ao ρ' q.2);rw [AV.km b _ k1,AV.bS b _ k2]
  rw [e1] at r;obtain ⟨O,W,V,M⟩:=QP (T:=[]) (nm:=λn=>en.c+n) tm.vs [] (fM _ s) I (dF ρ Q.X) N r (abj S) l (qd _) [];simp only [la,et] at O W V M;generalize hF:eY (λn=>en.c+n) en.fix tm.vs 0 (fM _ s)=L at O W V M;obtain ⟨E',R,k,D⟩:=L;refine ⟨ρ',E',R,k,D,rfl,b,λt p hp=>?_,?_⟩
  .rw [fN] at hp;cases m:bz E' t with
   |some x=>
    have u:look (aF.env ρ' [] E') t=some (aC.get [] x.1,x.2.val ρ'):=by rw [sn,m];rfl
    obtain ⟨c1,g⟩:=O t _ u;have K:dB E' en.fr.F t=some x:=by unfold dB;rw [m]
    rw [K] at hp;simp only [mi,b8] at hp;subst hp;simp only at c1 g;cases f:xj E en.fr.F t with
    |none=>rw [f] at g;cases g
    |some v=>
     rw [f] at g;simp only [mi,b8] at g;rw [EK f,c1,g]
   |none=>
    have K:dB E' en.fr.F t=bz en.fr.F t:=by unfold dB;rw [m]
    rw [K] at hp;cases e:bz en.fr.F t with
    |none=>rw [e] at hp;cases hp
    |some y=>
     rw [e] at hp;simp only [mi,b8] at hp;have J:bz E t=none:=by
      cases J:bz E t with
      |none=>rfl
      |some z=>
       rcases abQ h5 J with o|o
       .have:=Yw (nm:=λn=>en.c+n) (fix:=en.fix) (n:=0) (D:=fM _ s) o;rw [hF] at this;exact (this m).elim
       .rw [e] at o;cases o
     rw [fN];unfold dB;rw [J,e,<-hp];simp only [mi];rw [AV.km b _ (H8 lF e)]
  .have Y:=Sat.leL (A:=[]) (B:=dh I) (C:=ab ρ [] en.fr.H++Φ) Z M.rw;rw [bf b lH];exact Y
 .cases h
end
variable {fr : Fr}
def anM(P:Program)(o:Oper):Bool:=match o.op with
 | .store ..|.alloc _|.box ..|.buildSlice ..|.makeSlice ..|.makeMap ..|.mapUpdate ..|.insert ..|.range ..|.next ..|.defer _|.panic _=>true
 | .convert s d _=>isStr P s&& !(isStr P d)
 | .call ⟨.builtin b,_,_⟩=>(match b with
  | .len|.cap|.min|.max|.unsafeSliceData=>false
  |_=>true)
 | .call _=>true
 |_=>false
def agH(q:Bool)(m:Nat):Nat->List (Nat×Bool)->x4
 |_,[]=>none
 |k,x::l=>aA ( Xu x.2 (!q)&& !(Nat.testBit m k)&&I8 x.1 m ) ( some k )<|agH q m (k+1) l
def ab1(l:List (Nat×Bool)):Nat->Nat->OT
 |0,_=> .nil
 |n+1,m=>match agH true m 0 l with
  |some k=> .q k m (ab1 l n (bit m k))
  |none=>match agH false m 0 l with
   |none=> .nil
   |some k=>match agH false m (k+1) (l.drop (k+1)) with
    |none=> .l k m (ab1 l n (bit m k))
    |some j=> .l2 m k (ab1 l n (bit m k)) j (ab1 l n (bit m j))
def aq8(o:Oper):Bool:=match o.op,o.guard with
 | .alloc _,none=>true
 | .buildSlice .., none=>true
 |_,_=>false
def ahV(kd m:Nat):Nat->List (Nat×Nat)->Option (Nat×Nat)
 |_,[]=>none
 |k,x::l=>aA ( Nat.beq x.2 kd&& !(Nat.testBit m k)&&I8 x.1 m ) ( some (k,x.1) )<|ahV kd m (k+1) l
def Rs(m:Nat):Nat->List (Nat×Nat)->za
 |_,[]=>[]
 |k,x::l=>aA ( Nat.beq x.2 2&& !(Nat.testBit m k)&&I8 x.1 m ) ( k::Rs m (k+1) l )<|Rs m (k+1) l
def amV(l:List (Nat×Nat)):Nat->Nat->OT
 |0,_=> .nil
 |n+1,m=>match ahV 0 m 0 l with
  |some p=> .q p.1 m (amV l n (bit m p.1))
  |none=>match (match ahV 1 (ic m (Rs m 0 l)) 0 l with
    |some p=>some p
    |none=>ahV 0 (ic m (Rs m 0 l)) 0 l) with
   |none=> .nil
   |some p=> .f p.1 m (Rs m 0 l) ((Rs m 0 l).filter λf=>Nat.testBit p.2 f) (amV l n (bit (ic m ((Rs m 0 l).filter λf=>Nat.testBit p.2 f)) p.1))
def anm{R:Type}(X:Cx)(tb:List aq)(tp:List bI)(KP:AV->aD->Option R)(ops:x6)(fr:Fr)(th:za)(t:OT)(st:aD)(K:cC R):Option R:=
 aA ( X.P.follows .mixedOrders&&adm ops (ops.toList.map λo=>fC o.after.toList) t ) (
  nn X tb tp KP ops.toList fr t (bn (λr=> !(fu (reach st fr th) r)) st.G) [] [] { st with G:=bn (fu (reach st fr th)) st.G } K ) none
def alV(fr:Fr)(st:aD):za->za
 |[]=>[]
 |t::th=>aA (Nat.ble 20000 t) ((match dB st.E fr.F (t-20000) with
  |some (_,v)=>AV.ej v++(match v with
   | .ptr id _=>(match mG (wZ id) st.G with
    |some (_,.box _ _ cs)=>((cs.map (sf st.G fr.H)).map AV.ej).flatten
    |_=>[])
   |_=>[])
  |none=>[])++alV fr st th) (alV fr st th)
def Rr(fr:Fr)(st:aD)(th:za):aD:=match alV fr st th with
 |[]=>st
 |ids=>{ st with G:=cu ids st.G }
theorem afW{st:aD}{th:za}{ρ:ay}{T:aC}{B:Ctx}{w:World}(h:Sat (ab ρ T st.G++B) w):
  (Rr fr st th).c=st.c/\(Rr fr st th).E=st.E/\Sat (ab ρ T (Rr fr st th).G++B) w:=by
 unfold Rr;split
 .exact ⟨rfl,rfl,h⟩
 .exact ⟨rfl,rfl,iR h⟩
def HH{R:Type}(X:Cx)(tb:List aq)(tp:List bI)(KP:AV->aD->Option R)(ops:x6)(fr:Fr)(th:za)(st:aD)(K:cC R):Option R:=
 anm X tb tp KP ops fr th (cond (db 40000 th) (amV (ops.toList.map λo=>(fC o.after.toList,cond (aq8 o) 2 (cond (anM X.P o) 1 0))) ops.toList.length 0) (ab1 (ops.toList.map λo=>(fC o.after.toList,anM X.P o)) ops.toList.length 0)) (Rr fr st th) K
abbrev brk{R:Type}(i:Nat)(K:XE->aD->Option R):XE->aD->Option R
 | .ext j,st=>aA ( Nat.beq j i ) ( K .nrm st ) ( K (.ext j) st )
 |e,st=>K e st
abbrev ug{R:Type}(K1:aD->Option R)(K:XE->aD->Option R):XE->aD->Option R
 | .nrm,st=>K1 st
 |e,st=>K e st
abbrev cnd{R:Type}(b:Bool)(d1 d2:HT->Option R)(h:HT):Option R:=match h with
 | .c p q=>cond b (d1 p) (d2 q)
 |h=>cond b (d1 h) (d2 h)
def abr(fr:Fr)(st:aD):aD:=match st.h with
 | .r (30000::th) h=>Rr fr { st with h:=h } th
 |_=>st
theorem aoK{st:aD}{ρ:ay}{T:aC}{B:Ctx}{w:World}(h:Sat (ab ρ T st.G++B) w):
  (abr fr st).c=st.c/\(abr fr st).E=st.E/\Sat (ab ρ T (abr fr st).G++B) w:=by
 unfold abr;split
 next th a _=>exact afW (st:={ st with h:=a }) h
 .exact ⟨rfl,rfl,h⟩
def alE(v:AV)(i:Nat):Option (Int×(Int->AV)):=match v with
 | .int k x=>(match i with
  |0=>some (x,.int k)
  |_=>none)
 | .agg l=>(match i with
  |0=>none
  |j+1=>(match l[j]? with
   |some (.int k x)=>some (x,λy=> .agg (l.set j (.int k y)))
   |_=>none))
 |_=>none
theorem anS{v:AV}{i:Nat}{p:Int×(Int->AV)}(h:alE v i=some p):p.2 p.1=v:=by
 unfold alE at h;split at h
 .split at h
  .cases h;rfl
  .cases h
 .split at h
  .cases h
  .rename_i l j;split at h
   next k x hx=>cases h;simp only;congr 1;obtain ⟨b,a⟩:=List.getElem?_eq_some_iff.1 hx;rw [<-a];exact List.set_getElem_self b
   .cases h
 .cases h
def abT{R:Type}(F:aF)(t i:Nat)(k:aD->Option R):za->HT->aD->Option R
 |v::vs,h,st=>(match h with
  | .c h hs=>(match dB st.E F t with
   |some (none,av)=>(match alE av i with
    |some p=>cond (p.1==(v:Int)) (k { st with h:=h,E:=(t,none,p.2 (v:Int))::st.E }) (abT F t i k vs hs st)
    |none=>none)
   |_=>none)
  |_=>none)
 |[],h,st=>(match h with
  | .n 77777 _=>none
  |h=>k { st with h:=h })
theorem afw{R:Type}{r:R}{F:aF}{t i:Nat}{k:aD->Option R}{st:aD}:∀{vs:za} {h:HT},abT F t i k vs h st=some r->
  ∃st',k st'=some r/\st'.c=st.c/\st'.G=st.G/\∀ρ T,iV (au ρ T st'.E F) (au ρ T st.E F)
 |[],h,hh=>by
  unfold abT at hh;split at hh
  .cases hh
  .exact ⟨_,hh,rfl,rfl,λ_ _=> .refl⟩
 |v::vs,h,hh=>by
  unfold abT at hh;split at hh
  .rename_i l f;split at hh
   .rename_i av b;split at hh
    .rename_i p hp;rcases su hh with ⟨e,d⟩|⟨_,d⟩
     .refine ⟨_,d,rfl,rfl,λρ T u x hx=>?_⟩;have j:p.2 (v:Int)=av:=by rw [<-anS hp,eq_of_beq e]
      have g:look (au ρ T st.E F) t=some (true,av.val ρ):=by rw [fN,b];simp
      show look (au ρ T st.E F) u=some x;rw [j] at hx;have a:look ((t,true,av.val ρ)::au ρ T st.E F) u=some x:=by simpa [au,aF.env] using hx
      unfold look at a;cases hb:Nat.beq t u
      .rw [hb] at a;exact a
      .rw [hb] at a;have:=ah hb;subst this;rw [g];exact a
     .exact afw d
    .cases hh
   .cases hh
  .cases hh
abbrev frL(fr:Fr):Fr:=⟨fr.F,da fr.H,fr.n⟩
abbrev stL(fr:Fr)(st:aD)(h:HT):aD:={ st with G:=st.G++bn cR fr.H,h:=h }
abbrev toL{R:Type}(K:XE->aD->Option R):XE->aD->Option R
 | .panE v,st=>K (.panL v) st
 |_,_=>none
abbrev apE{R:Type}(X:Cx)(tb:List aq)(tp:List bI)(ops:x6)(fr:Fr)(K:XE->aD->Option R)(st:aD):Option R:=
 yh X tb tp (λb v st=>K (aA b (.panL v) (.panE v)) st) ops.toList fr ops.toList [] st (K .nrm)
def den{R:Type}(X:Cx)(tb:List aq)(tp:List bI):Code->Fr->(XE->aD->Option R)->aD->Option R
 | .skip,_,K,st=>K .nrm st
 | .label _,_,K,st=>K .nrm st
 | .exit i,_,K,st=>K (.ext i) st
 | .goto l,_,K,st=>K (.gto l) st
 | .ret,_,K,st=>K .ret st
 | .block i c,fr,K,st=>den X tb tp c fr (brk i K) (abr fr st)
 | .cond c x y,fr,K,st=>match br [] st.E fr.F none c with
  |some (.bool b)=>cnd b (λh=>den X tb tp x fr K { st with h:=h }) (λh=>den X tb tp y fr K { st with h:=h }) st.h
  |_=>none
 | .seq x y,fr,K,st=>match st.h with
  | .j tm p q=>aA (st.low fr) (
   ai (λs:ew (gr tm.vs)=>den X tb tp y fr K (fT (enter fr tm (cI x) st) tm s q)) λk=>
   den X tb tp x (enter fr tm (cI x) st).fr (ug (λst'=>match jQ (enter fr tm (cI x) st) tm st'.E st'.G with
     |some s=>k s
     |none=>none) (λe st'=>K e (vV e (enter fr tm (cI x) st) st'))) ⟨(enter fr tm (cI x) st).c,(enter fr tm (cI x) st).Et,(enter fr tm (cI x) st).Gt,p⟩ ) none
  | .s h=>den X tb tp x fr (ug (den X tb tp y fr K) K) { st with h:=h }
  | .r (60000::t::i::vs) h=>abT fr.F t i (λst=>den X tb tp x fr (ug (den X tb tp y fr K) K) st) vs h st
  |_=>den X tb tp x fr (ug (den X tb tp y fr K) K) st
 | .loop c,fr,K,st=>match st.h with
  | .l tm p=>aA (st.low fr) (
   match jQ (enter fr tm (cI c) st) tm (enter fr tm (cI c) st).Et (enter fr tm (cI c) st).Gt with
   |some s=>ax (λagain s=>den X tb tp c (enter fr tm (cI c) st).fr (ug (λst'=>match jQ (enter fr tm (cI c) st) tm st'.E st'.G with
      |some s=>again s
      |none=>none) (λe st'=>K e (vV e (enter fr tm (cI c) st) st'))) (ck (enter fr tm (cI c) st) tm s p)) X.fl s
   |none=>none ) none
  | .n k h=>ax (λagain st=>den X tb tp c fr (ug again K) st) k { st with h:=h }
  |_=>none
 | .region _ ops false,fr,K,st=>match st.h with
  | .r (80000::_) h=>apE X tb tp ops (frL fr) (toL K) (stL fr st h)
  |_=>apE X tb tp ops fr K st
 | .region _ ops true,fr,K,st=>match st.h with
  | .r th h=>HH X tb tp (λv st=>K (.gS v) st) ops fr th { st with h:=h } (K .nrm)
  |_=>HH X tb tp (λv st=>K (.gS v) st) ops fr [] st (K .nrm)
 |_,_,_,_=>none
def XE.ex:XE->Exit
 | .nrm=> .normal
 | .ret=> .ret
 | .ext i=> .exit i
 | .gto l=> .goto l
 | .gS _=> .goto 0
 | .panE _=> .goto 0
 | .panL _=> .goto 0
def MB(Q:bu)(e:XE)(ρ:ay)(n:Nat)(D:w9)(E:Env)(w:World):Prop:=match e with
 | .gS v=>B9 Q (gS (v.val ρ)) D w
 | .panE v=>At Q (.panic (gS (v.val ρ))) n D E w
 | .panL v=>At Q (.panic (gS (v.val ρ))) n D E w
 |e=>At Q e.ex n D E w
abbrev hx(e:XE)(fr:Fr):List Row:=match e with
 | .panL _=>da fr.H
 |_=>fr.H
def iO{R:Type}(Q:bu)(D:w9)(fr:Fr)(Φ:Ctx)(c0:Nat)(ρ0:ay)(r:R)(K:XE->aD->Option R):Prop:=
 ∀e st ρ w,aT c0 ρ0 ρ->c0<=st.c->K e st=some r->Sat (ab ρ [] st.G++(ab ρ [] (hx e fr)++Φ)) w->MB Q e ρ fr.n D (au ρ [] st.E fr.F) w
theorem iO.less{R:Type}{Q:bu}{D:w9}{Φ:Ctx}{b c1:Nat}{ρ0 a:ay}{r:R}{K:XE->aD->Option R}(h:iO Q D fr Φ b ρ0 r K)(ha:aT b ρ0 a)(hc:b<=c1):iO Q D fr Φ c1 a r K:=
 λe st ρ w g f d c=>h e st ρ w (ha.trans g hc) (cg hc f) d c
section
variable {P : Program} {ρ : x4} {Q : bu} {n : Nat} {D : w9} {E : Env} {w : World}
theorem PZ{σ γ τ:Type}{F:(σ->Option τ)->σ->Option τ}{r:τ}(J:σ->γ->World->Prop)(c:σ->γ->Env){body:Code}
  {N:Nat} {b:σ} (k:ax F N b=some r) (f:γ) (u:J b f w) (q:iV (c b f) E)
  (round:∀again s g w,F again s=some r->J s g w->WC P ρ body (Exit.then (Nj again r J c n D) Q) n D (c s g) w):
  WC P ρ (.loop body) Q n D E w:=λa l hd=>
 Gq (λm=>Nj (ax F m) r J c n D) N ⟨b,f,k,u,l.lI q,hd⟩ λm a w ⟨s,g,j,o,p,t⟩=>by
  obtain ⟨i,rfl,d⟩:=Mt j;exact wpIn_mono (round (ax F i) s g w d o a p t) λe a w h=>by cases e <;> first|exact h|exact ⟨i,qj _,h⟩
theorem Ln{σ γ τ:Type}{a:σ->Option τ}{r:τ}{J:σ->γ->World->Prop}{b:σ->γ->Env}
  (s:σ) (g:γ) (d:a s=some r) (f:J s g w) (c:iV (b s g) E):At (Exit.then (Nj a r J b n D) Q) .normal n D E w:=
 λh e hd=>⟨s,g,d,f,e.lI c,hd⟩
theorem amg{γ:Type}{J:γ->World->Prop}{a:γ->Env}(g:γ)(d:J g w)(b:iV (a g) E):At (Exit.then (RJ J a n D) Q) .normal n D E w:=
 λe c hd=>⟨g,d,c.lI b,hd⟩
theorem gq{K:Act->World->Prop}{e:XE}{ρ:ay}(a:e≠ .nrm)(h:MB Q e ρ n D E w):MB (Exit.then K Q) e ρ n D E w:=by cases e <;> first|exact (a rfl).elim|exact h
end
section
variable {X : Cx} {tb : List aq} {tp : List bI} {σ : x4} {D : w9} {R : Type} {r : R} {Φ : Ctx}
theorem Qp{Q:bu}{k i:Nat}{ρ0:ay}{K:XE->aD->Option R}(h:iO Q D fr Φ k ρ0 r K):iO (Exit.inBlock i Q) D fr Φ k ρ0 r (brk i K):=λe st ρ w d c b a=>by
 cases e with
 |nrm=>exact Z3 (h .nrm st ρ w d c b a)
 |ret=>exact agN (h .ret st ρ w d c b a)
 |gto l=>exact aes (h (.gto l) st ρ w d c b a)
 |gS v=>exact aoG (h (.gS v) st ρ w d c b a)
 |panE v=>exact MM (h (.panE v) st ρ w d c b a)
 |panL v=>exact MM (h (.panL v) st ρ w d c b a)
 |ext j=>
  unfold brk at b;rcases dq b with ⟨g,f⟩|⟨g,f⟩
  .have:=ah g;subst this;exact aeF (h .nrm st ρ w d c f a)
  .exact ab0 g (h (.ext j) st ρ w d c f a)
theorem lN{b:aD->Option R}{K:XE->aD->Option R}{e:XE}{st:aD}(a:e≠ .nrm):ug b K e st=K e st:=by cases e <;> first|exact (a rfl).elim|rfl
theorem s5{Q:bu}{d:Nat}{ρ0 a:ay}{en:En}{K:XE->aD->Option R}(h:iO Q D fr Φ d ρ0 r K)(ag:aT d ρ0 a)(le:d<=en.c)(ff:en.fr.F=en.E++fr.F)(fh:en.fr.H=en.G++fr.H)(fn:en.fr.n=fr.n):
  ∀e st ρ w,aT en.c a ρ->en.c<=st.c->K e (vV e en st)=some r->Sat (ab ρ [] st.G++(ab ρ [] (hx e en.fr)++Φ)) w->MB Q e ρ en.fr.n D (au ρ [] st.E en.fr.F) w:=λe st ρ w l k j g=>by
 have hc:(vV e en st).c=st.c:=by cases e <;> rfl
 have i:(vV e en st).E=st.E++en.E:=by cases e <;> rfl
 have:=h e (vV e en st) ρ w (ag.trans l le) (cg le (by rw [hc];exact k)) j (by
  have f:∀(A B:List Row),Sat (ab ρ [] st.G++(ab ρ [] (A++B)++Φ)) w->Sat (ab ρ [] (st.G++A)++(ab ρ [] B++Φ)) w:=λA B h=>by rw [bk,aO];rw [bk,aO] at h;exact h
  cases e with
  |panL v=>
   have b:Sat (ab ρ [] st.G++(ab ρ [] (da en.fr.H)++Φ)) w:=g;rw [fh,Mc] at b;exact f _ _ b
  |_=>
   have b:Sat (ab ρ [] st.G++(ab ρ [] en.fr.H++Φ)) w:=g;rw [fh] at b;exact f _ _ b)
 rw [fn,ff];have m:au ρ [] st.E (en.E++fr.F)=au ρ [] (vV e en st).E fr.F:=by rw [i];show aF.env ρ [] st.E++aF.env ρ [] (en.E++fr.F)=aF.env ρ [] (st.E++en.E)++aF.env ρ [] fr.F;rw [mu,mu,aO]
 rw [m];exact this
theorem akN{Q:bu}{b:Nat}{ρ0:ay}{K:XE->aD->Option R}(h:iO Q D fr Φ b ρ0 r K):iO Q D (frL fr) Φ b ρ0 r (toL K):=λe st ρ w f d a c=>by
 cases e with
 |panE v=>exact h (.panL v) st ρ w f d a c
 |_=>cases a
theorem an8{st:aD}{ρ:ay}{w:World}{d:HT}(b:Sat (ab ρ [] st.G++(ab ρ [] fr.H++Φ)) w):Sat (ab ρ [] (stL fr st d).G++(ab ρ [] (frL fr).H++Φ)) w:=by
 have a:=oP (p:=cR) (G:=fr.H) (H:=[]) (A:=ab ρ [] st.G) (Φ:=Φ) b;have c:∀H:List Row,bn (λr=> !(cR r)) H=da H:=λH=>by
  induction H with
  |nil=>rfl
  |cons r H ih=>
   show aA (!(!r.cG)) (r::bn _ H) (bn _ H)=aA r.cG (r::da H) (da H);rw [ih,Bool.not_not]
 rw [la,c] at a;show Sat (ab ρ [] (st.G++bn cR fr.H)++(ab ρ [] (da fr.H)++Φ)) w;rw [bk,aO];exact a
theorem af6{Q:bu}{st:aD}{ρ:ay}{w:World}{K:XE->aD->Option R}(i:∀it∈X.Γ,it∈Φ)(k:∀e∈tb,e.Ok X.P X.Γ)(j:∀e∈tp,e.Ok X.P X.Γ){id:Nat}{ops:x6}(p:Sat (ab ρ [] st.G++(ab ρ [] fr.H++Φ)) w)
  (h:yh X tb tp (λb v st=>K (aA b (.panL v) (.panE v)) st) ops.toList fr ops.toList [] st (K .nrm)=some r) (m:iO Q D fr Φ st.c ρ r K):WC X.P σ (.region id ops false) Q fr.n D (au ρ [] st.E fr.F) w:=by
 obtain ⟨l⟩:=ops;exact bh (Wy i k j (λx h=>by cases h) (λx h=>by cases h) ⟨λx _=>rfl,λx _=>rfl⟩ p h (λst' ρ' w' g f d a=>m .nrm st' ρ' w' g f d a) (λo v st' ρ' w' g f d a=>by
  cases o
  .exact m (.panE v) st' ρ' w' g f d a
  .exact m (.panL v) st' ρ' w' g f d a))
theorem Rb{Q:bu}{st:aD}{ρ:ay}{w:World}{K:XE->aD->Option R}(d:∀it∈X.Γ,it∈Φ)(g:∀e∈tb,e.Ok X.P X.Γ)(f:∀e∈tp,e.Ok X.P X.Γ){id:Nat}{ops:x6}{th:za}(a:Sat (ab ρ [] st.G++(ab ρ [] fr.H++Φ)) w)
  (h:HH X tb tp (λv st=>K (.gS v) st) ops fr th st (K .nrm)=some r) (b:iO Q D fr Φ st.c ρ r K):WC X.P σ (.region id ops true) Q fr.n D (au ρ [] st.E fr.F) w:=by
 obtain ⟨l⟩:=ops;unfold HH at h;generalize cond (db 40000 th) _ _=t at h;obtain ⟨u,s,a⟩:=afW (fr:=fr) (th:=th) a;rw [<-u] at b;rw [<-s];generalize Rr fr st th=st at h a b;unfold anm at h;obtain ⟨j,z⟩:=aI h;simp only [ae] at j;refine uu _ t j.1 j.2 (λw1 y=>?_);have i:=oP (A:=[]) (p:=fu (reach st fr th)) (a.ext y);exact Ee.wd (aoM (EV:=[]) (st:={ st with G:=bn (fu (reach st fr th)) st.G }) d g f (λx h=>by cases h) (λx h=>by cases h) ⟨λx _=>rfl,λx _=>rfl⟩ (λx h=>by cases h) (λx h=>by cases h) i (λp h=>by cases h) z (λst' ρ' w' q o m k=>b .nrm st' ρ' w' q o m k) (λv st' ρ' w' q o m k=>b (.gS v) st' ρ' w' q o m k))
theorem RM{b:Bool}{f d2:HT->Option R}{h:HT}(d:cnd b f d2 h=some r):∃p q,(b=true->f p=some r)/\(b=false->d2 q=some r):=by
 unfold cnd at d;split at d
 .rename_i p q;rcases su d with ⟨c,a⟩|⟨c,a⟩
  .exact ⟨p,q,λ_=>a,λe=>by rw [c] at e;cases e⟩
  .exact ⟨p,q,(λe=>by rw [c] at e;cases e),λ_=>a⟩
 .rcases su d with ⟨c,a⟩|⟨c,a⟩
  .exact ⟨_,h,λ_=>a,λe=>by rw [c] at e;cases e⟩
  .exact ⟨h,_,(λe=>by rw [c] at e;cases e),λ_=>a⟩
theorem fg(j:∀it∈X.Γ,it∈Φ)(t:∀e∈tb,e.Ok X.P X.Γ)(o:∀e∈tp,e.Ok X.P X.Γ):∀(c:Code) {Q:bu} {fr:Fr} {K:XE->aD->Option R} {st:aD} {ρ:ay} {w:World},Sat (ab ρ [] st.G++(ab ρ [] fr.H++Φ)) w->
  den X tb tp c fr K st=some r->iO Q D fr Φ st.c ρ r K->WC X.P σ c Q fr.n D (au ρ [] st.E fr.F) w
 | .skip,Q,fr,K,st,ρ,w,hs,h,hK=>po (hK .nrm st ρ w .refl (bb _) (by unfold den at h;exact h) hs)
 | .label _,Q,fr,K,st,ρ,w,hs,h,hK=>aaJ (hK .nrm st ρ w .refl (bb _) (by unfold den at h;exact h) hs)
 | .exit i,Q,fr,K,st,ρ,w,hs,h,hK=>Wp (hK (.ext i) st ρ w .refl (bb _) (by unfold den at h;exact h) hs)
 | .goto l,Q,fr,K,st,ρ,w,hs,h,hK=>afl (hK (.gto l) st ρ w .refl (bb _) (by unfold den at h;exact h) hs)
 | .ret,Q,fr,K,st,ρ,w,hs,h,hK=>uR (hK .ret st ρ w .refl (bb _) (by unfold den at h;exact h) hs)
 | .block i c,Q,fr,K,st,ρ,w,hs,h,hK=>by
  obtain ⟨z1,z2,z3⟩:=aoK (fr:=fr) hs;unfold den at h;rw [<-z2];rw [<-z1] at hK;exact Ru (fg j t o c z3 h (Qp hK))
 | .cond c x y,Q,fr,K,st,ρ,w,hs,h,hK=>by
  unfold den at h;split at h
  next b hb=>have hc:=bF (ρ:=ρ) hb;simp only [AV.val] at hc;obtain ⟨p,q,h1,S⟩:=RM h;exact iM hc (λhb=>fg j t o x (st:={ st with h:=p }) hs (h1 hb) hK) (λhb=>fg j t o y (st:={ st with h:=q }) hs (S hb) hK)
  .cases h
 | .seq x y,Q,fr,K,st,ρ,w,hs,h,hK=>by
  have N:∀T,den X tb tp x fr (ug (den X tb tp y fr K) K) { st with h:=T }=some r->WC X.P σ (.seq x y) Q fr.n D (au ρ [] st.E fr.F) w:=λT hd=>by
   refine bq (fg j t o x (st:={ st with h:=T }) hs hd (λe st' ρ' w' I M z C=>?_));by_cases v:e= .nrm
   .subst v;exact bd (fg j t o y C z (hK.less I M))
   .rw [lN v] at z;exact gq v (hK e st' ρ' w' I M z C)
  unfold den at h;split at h
  .rename_i tm p q Y;obtain ⟨hl,S⟩:=aI h;obtain ⟨J,en⟩:=wh (tm:=tm) (m:=cI x) hl hs;generalize enter fr tm (cI x) st=f at S en;unfold ai at S;refine ahY (γ:=ew (gr tm.vs)×ay) (λg w'=>den X tb tp y fr K (fT f tm g.1 q)=some r/\aT f.c J g.2/\Sat (ab g.2 [] (fT f tm g.1 q).G++(ab g.2 [] fr.H++Φ)) w') (λg=>au g.2 [] (fT f tm g.1 q).E fr.F) (λg w' hg=>?_) ?_
   .obtain ⟨g1,g2,g3⟩:=hg;refine fg j t o y g3 g1 (hK.less (en.ag.trans g2 en.le) ?_);have:f.c<=(fT f tm g.1 q).c:=by unfold fT;generalize eY (λn=>f.c+n) f.fix tm.vs 0 (fM _ g.1)=L;obtain ⟨a,b,c,d⟩:=L;exact qC _ _
    exact cg en.le this
   .have hx:=fg j t o x (fr:=f.fr) (st:=⟨f.c,f.Et,f.Gt,p⟩) (ρ:=J) (Q:=Exit.then (RJ (λ(g:ew (gr tm.vs)×ay) w'=>den X tb tp y fr K (fT f tm g.1 q)=some r/\aT f.c J g.2/\Sat (ab g.2 [] (fT f tm g.1 q).G++(ab g.2 [] fr.H++Φ)) w') (λg=>au g.2 [] (fT f tm g.1 q).E fr.F) fr.n D) Q) en.sat S (λe st' ρ' w' I M z C=>?_)
    .rw [en.fn] at hx;exact hx.lI _ en.sub
    .by_cases v:e= .nrm
     .subst v;have B:(match jQ f tm st'.E st'.G with|some s=>den X tb tp y fr K (fT f tm s q)|none=>none)=some r:=z;split at B
      .rename_i s hb;obtain ⟨u,E',V,k,DD,b1,b2,b3,b4⟩:=nj en.lF en.lH en.fx C hb;have eJ:fT f tm s q=⟨f.c+k,E'++f.E,rowsOf V++f.G,q⟩:=by unfold fT;rw [b1]
       rw [en.fn];refine amg (s,u) ⟨B,I.trans b2 (bb _),?_⟩ ?_
       .rw [eJ];show Sat (ab u [] (rowsOf V++f.G)++_) w';rw [bk,aO];rw [en.fh,bk,aO] at b4;exact b4
       .rw [eJ];show iV (aF.env u [] (E'++f.E)++_) _;rw [en.ff] at b3;have e2:au u [] E' (f.E++fr.F)=aF.env u [] (E'++f.E)++aF.env u [] fr.F:=by show aF.env u [] E'++aF.env u [] (f.E++fr.F)=_;rw [mu,mu,aO]
        rw [<-e2,en.ff];exact b3
      .cases B
     .rw [lN v] at z;have:=s5 hK en.ag en.le en.ff en.fh en.fn e st' ρ' w' I M z C;exact gq v this
  next T Y=>exact N T h
  .obtain ⟨st',k1,k2,k3,k4⟩:=afw h;have hs':Sat (ab ρ [] st'.G++(ab ρ [] fr.H++Φ)) w:=by rw [k3];exact hs
   have W:iO Q D fr Φ st'.c ρ r K:=by rw [k2];exact hK
   refine WC.lI _ (k4 ρ []) (bq (fg j t o x (st:=st') hs' k1 (λe st2 ρ' w' I M z C=>?_)));by_cases v:e= .nrm
   .subst v;exact bd (fg j t o y C z (W.less I M))
   .rw [lN v] at z;exact gq v (W e st2 ρ' w' I M z C)
  .exact N st.h h
 | .loop c,Q,fr,K,st,ρ,w,hs,h,hK=>by
  unfold den at h;split at h
  .rename_i tm p Y;obtain ⟨hl,S⟩:=aI h;obtain ⟨J,en⟩:=wh (tm:=tm) (m:=cI c) hl hs;generalize enter fr tm (cI c) st=f at S en;split at S
   .rename_i s0 hb0;obtain ⟨u,E',V,k,DD,b1,b2,b3,b4⟩:=nj en.lF en.lH en.fx en.sat hb0;have Z:∀s E' V k DD,eY (λn=>f.c+n) f.fix tm.vs 0 (fM _ s)=⟨E',V,k,DD⟩->ck f tm s p=⟨f.c+k,E',rowsOf V,p⟩:=λs E' V k DD hb=>by unfold ck;rw [hb]
    refine PZ (γ:=ay) (λs g w'=>aT f.c J g/\Sat (ab g [] (ck f tm s p).G++(ab g [] f.fr.H++Φ)) w') (λs g=>au g [] (ck f tm s p).E f.fr.F) S u ⟨b2,?_⟩ ?_ (λA s g w' U O=>?_)
    .rw [Z _ _ _ _ _ b1];exact b4
    .rw [Z _ _ _ _ _ b1];exact b3.trans en.sub
    .have hx:=fg j t o c (fr:=f.fr) (st:=ck f tm s p) (ρ:=g) (Q:=Exit.then (Nj A r (λs g w'=>aT f.c J g/\Sat (ab g [] (ck f tm s p).G++(ab g [] f.fr.H++Φ)) w') (λs g=>au g [] (ck f tm s p).E f.fr.F) fr.n D) Q) O.2 U (λe st' ρ' w2 I M z C=>?_)
     .rw [en.fn] at hx;exact hx
     .have hc:f.c<=(ck f tm s p).c:=by unfold ck;generalize eY (λn=>f.c+n) f.fix tm.vs 0 (fM _ s)=L;obtain ⟨a,b,c,d⟩:=L;exact qC _ _
      by_cases v:e= .nrm
      .subst v;have B:(match jQ f tm st'.E st'.G with|some s=>A s|none=>none)=some r:=z;split at B
       .rename_i s' hb;obtain ⟨ρ3,E2,R2,k2,DD2,d1,d2,d3,d4⟩:=nj en.lF en.lH en.fx C hb;rw [en.fn];refine Ln s' ρ3 B ⟨(O.1.trans (I.less hc) (bb _)).trans d2 (bb _),?_⟩ ?_
        .rw [Z _ _ _ _ _ d1];exact d4
        .rw [Z _ _ _ _ _ d1];exact d3
       .cases B
      .rw [lN v] at z;have:=s5 hK en.ag en.le en.ff en.fh en.fn e st' ρ' w2 (O.1.trans (I.less hc) (bb _)) (cg hc M) z C;exact gq v this
   .cases S
  .rename_i k T Y;refine PZ (γ:=ay) (λs g w'=>aT st.c ρ g/\st.c<=s.c/\Sat (ab g [] s.G++(ab g [] fr.H++Φ)) w') (λs g=>au g [] s.E fr.F) h ρ ⟨.refl,bb _,hs⟩ .refl (λA s g w' U O=>?_);refine fg j t o c (st:=s) O.2.2 U (λe st' ρ' w2 I M z C=>?_);by_cases v:e= .nrm
   .subst v;exact Ln st' ρ' z ⟨O.1.trans I O.2.1,cg O.2.1 M,C⟩ .refl
   .rw [lN v] at z;exact gq v (hK e st' ρ' w2 (O.1.trans I O.2.1) (cg O.2.1 M) z C)
  .cases h
 | .region id ops false,Q,fr,K,st,ρ,w,hs,h,hK=>by
  unfold den at h;split at h
  .exact af6 (fr:=frL fr) (st:=stL fr st _) j t o (an8 hs) h (akN hK)
  .exact af6 j t o hs h hK
 | .region id ops true,Q,fr,K,st,ρ,w,hs,h,hK=>by
  unfold den at h;split at h
  next th T Y=>exact Rb (st:={ st with h:=T }) j t o hs h hK
  .exact Rb j t o hs h hK
 | .scope _,Q,fr,K,st,ρ,w,hs,h,hK=>by unfold den at h;cases h
 | .rangeFunc _ _ _ _,Q,fr,K,st,ρ,w,hs,h,hK=>by unfold den at h;cases h
end
def l8(l:Nat):Code->Bool
 | .label j=>j==l
 | .seq x y=>l8 l x||l8 l y
 |_=>false
theorem aoz{l:Nat}:(c:Code)->l8 l c=false->findLabel c l=none:=λc=>by
 induction c with
 |label j=>
  intro h;unfold l8 at h;unfold findLabel;rw [h];rfl
 |seq x y b a=>
  intro h;simp only [l8,qG] at h;simp only [findLabel,b h.1,a h.2]
 |_=>intro _;rfl
theorem aaI{l:Nat}:(c:Code)->l8 l c=true->∃r,findLabel c l=some r:=λc=>by
 induction c with
 |label j=>
  intro h;unfold l8 at h;unfold findLabel;rw [h];exact ⟨_,rfl⟩
 |seq x y b a=>
  intro h;simp only [l8,c9] at h;unfold findLabel;cases hx:findLabel x l with
  |some r=>exact ⟨_,rfl⟩
  |none=>
   rcases h with h|h
   .obtain ⟨r,d⟩:=b h;rw [hx] at d;cases d
   .exact a h
 |_=>intro h;cases h
def Gv(P:Program)(ρ:x4)(l:Nat):Code->bu->bu
 | .seq x y,Q=>aA (l8 l x) (Gv P ρ l x (Exit.then (y.wpIn (FW ρ) 0 P Q) Q)) (Gv P ρ l y Q)
 |_,Q=>Q
theorem alX{P:Program}{ρ:x4}{l:Nat}:(c:Code)->{r:Code}->{Q:bu}->{a:Act}->{w:World}->findLabel c l=some r->Gv P ρ l c Q .normal a w->r.wpIn (FW ρ) 0 P Q a w:=λc=>by
 induction c with
 |label j=>
  intro r Q a w b h;unfold findLabel at b;split at b
  .cases b;exact wpIn_skip h
  .cases b
 |seq x y f e=>
  intro r Q a w b h;unfold Gv at h;unfold findLabel at b;cases hx:l8 l x
  .rw [hx] at h;rw [aoz x hx] at b;exact e b h
  .rw [hx] at h;obtain ⟨g,d⟩:=aaI x hx;rw [d] at b;cases b;exact wpIn_seq (f d h)
 |_=>intro r Q a w b h;cases b
def Cj(l:Nat):Code->Nat
 | .seq x y=>aA (l8 l x) (Nat.lor (Cj l x) (cI y)) (Cj l y)
 |_=>0
def yq(st:aD):aD:=match st.h with
 | .s h=>{ st with h:=h }
 |_=>st
abbrev gtk{R:Type}(l:Nat)(A:aD->Option R)(K:XE->aD->Option R):XE->aD->Option R
 | .gto j,st=>aA (Nat.beq j l) (A st) none
 |e,st=>K e st
def MX{R:Type}(X:Cx)(tb:List aq)(tp:List bI)(l:Nat)(fr:Fr):Code->(XE->aD->Option R)->aD->Option R
 | .seq x y,K,st=>aA (l8 l x) (MX X tb tp l fr x (ug (den X tb tp y fr K) K) st) (MX X tb tp l fr y K st)
 | .label _,K,st=>K .nrm st
 |_,_,_=>none
def L7{R:Type}(X:Cx)(tb:List aq)(tp:List bI)(l:Nat)(fr:Fr)(K:XE->aD->Option R)(KL:aD->Option R):Code->aD->Option R
 | .seq x y,st=>aA (l8 l x) (L7 X tb tp l fr K KL x (yq st)) (den X tb tp x fr (ug (λst=>L7 X tb tp l fr K KL y st) K) (yq st))
 | .label _,st=>KL st
 |_,_=>none
def akZ{R:Type}(X:Cx)(tb:List aq)(tp:List bI)(c:Code)(fr:Fr)(K:XE->aD->Option R)(st:aD):Option R:=match st.h with
 | .n l (.j tm p q)=>aA (l8 l c) (
   L7 X tb tp l fr (gtk l (λ_=>none) K) (λst1=>aA (st1.low fr) (
     match jQ (enter fr tm (Cj l c) st1) tm (enter fr tm (Cj l c) st1).Et (enter fr tm (Cj l c) st1).Gt with
     |some s=>ax (λagain s=>MX X tb tp l (enter fr tm (Cj l c) st1).fr c (gtk l (λst'=>match jQ (enter fr tm (Cj l c) st1) tm st'.E st'.G with
       |some s=>again s
       |none=>none) (λe st'=>K e (vV e (enter fr tm (Cj l c) st1) st'))) (ck (enter fr tm (Cj l c) st1) tm s q)) X.fl s
     |none=>none) none) c { st with h:=p }) none
 |_=>none
section
variable {X : Cx} {tb : List aq} {tp : List bI} {σ : x4} {D : w9} {R : Type} {r : R} {Φ : Ctx}
theorem aft{Q:bu}{l n:Nat}{E:Env}{w:World}{e:XE}{ρ:ay}{J:Act->World->Prop}(a:∀j,e≠ .gto j)(h:MB Q e ρ n D E w):MB (Exit.jump l J Q) e ρ n D E w:=by cases e <;> first|exact ((a _) rfl).elim|exact h
theorem al9{l:Nat}(k:∀it∈X.Γ,it∈Φ)(o:∀e∈tb,e.Ok X.P X.Γ)(m:∀e∈tp,e.Ok X.P X.Γ):∀(c:Code) {Q:bu} {fr:Fr} {K:XE->aD->Option R} {st:aD} {ρ:ay} {w:World},Sat (ab ρ [] st.G++(ab ρ [] fr.H++Φ)) w->
  MX X tb tp l fr c K st=some r->iO Q D fr Φ st.c ρ r K->∀a,Fits fr.n (au ρ [] st.E fr.F) a->a.defers=D->Gv X.P σ l c Q .normal a w:=λc=>by
 induction c with
 |label j=>intro Q fr K st ρ w b h d a f hd;exact d .nrm st ρ w .refl (bb _) h b a f hd
 |seq x y i g=>
  intro Q fr K st ρ w b h d a f hd;unfold MX at h;unfold Gv;cases hx:l8 l x
  .rw [hx] at h;exact g b h d a f hd
  .rw [hx] at h;refine i (Q:=Exit.then (y.wpIn (FW σ) 0 X.P Q) Q) b h (λe st' ρ' w' u t q s=>?_) a f hd;by_cases p:e= .nrm
   .subst p;exact bd (fg k o m y s q (d.less u t))
   .rw [lN p] at q;exact gq p (d e st' ρ' w' u t q s)
 |_=>intro Q fr K st ρ w b h;cases h
theorem afx{st:aD}:(yq st).c=st.c/\(yq st).E=st.E/\(yq st).G=st.G:=by unfold yq;split <;> exact ⟨rfl,rfl,rfl⟩
theorem aiM{l:Nat}(t:∀it∈X.Γ,it∈Φ)(v:∀e∈tb,e.Ok X.P X.Γ)(u:∀e∈tp,e.Ok X.P X.Γ){T:bu}{fr:Fr}{K:XE->aD->Option R}{U:aD->Option R}{m:Nat}{ρ0:ay}(V:iO T D fr Φ m ρ0 r K):∀(c:Code) {Q:bu} {st:aD} {ρ:ay} {w:World},
  (∀e (E:Env) (ρ:ay) w,e≠ .nrm->MB T e ρ fr.n D E w->MB Q e ρ fr.n D E w)->
  (∀st1 b w1,aT m ρ0 b->m<=st1.c->U st1=some r->Sat (ab b [] st1.G++(ab b [] fr.H++Φ)) w1->∀a,Fits fr.n (au b [] st1.E fr.F) a->a.defers=D->Gv X.P σ l c Q .normal a w1)->
  l8 l c=true->aT m ρ0 ρ->m<=st.c->Sat (ab ρ [] st.G++(ab ρ [] fr.H++Φ)) w->
  L7 X tb tp l fr K U c st=some r->WC X.P σ c Q fr.n D (au ρ [] st.E fr.F) w:=λc=>by
 induction c with
 |label j=>intro Q st ρ w i k _ ha hc o h;exact aaJ (λa g hd=>k st ρ w ha hc h o a g hd)
 |seq x y s q=>
  intro Q st ρ w i k p ha hc o h;obtain ⟨O,N,M⟩:=afx (st:=st);unfold L7 at h;cases hx:l8 l x
  .rw [hx] at h;simp only [l8,hx,ql] at p;refine bq ?_;have:=fg (σ:=σ) (D:=D) t v u x (fr:=fr) (st:=yq st) (ρ:=ρ) (w:=w) (Q:=Exit.then (y.wpIn (FW σ) 0 X.P Q) Q) (by rw [M];exact o) h (λe st' ρ' w' L J I S=>?_)
   .rw [N] at this;exact this
   .rw [O] at L J;by_cases d:e= .nrm
    .subst d;refine bd (q i (λst1 b w1 C B A z a g hd=>?_) p (ha.trans L hc) (cg hc J) S I);have:=k st1 b w1 C B A z a g hd;unfold Gv at this;rw [hx] at this;exact this
    .rw [lN d] at I;exact gq d (i _ _ _ _ d (V e st' ρ' w' (ha.trans L hc) (cg hc J) I S))
  .rw [hx] at h;refine bq ?_;have:=s (Q:=Exit.then (y.wpIn (FW σ) 0 X.P Q) Q) (st:=yq st) (ρ:=ρ) (w:=w) (λe E ρ w f d=>gq f (i e E ρ w f d)) (λst1 b w1 C B A z a g hd=>?_) hx ha (by rw [O];exact hc) (by rw [M];exact o) h
   .rw [N] at this;exact this
   .have:=k st1 b w1 C B A z a g hd;unfold Gv at this;rw [hx] at this;exact this
 |_=>intro Q st ρ w i k p;cases p
theorem anU{c:Code}{Q:bu}{K:XE->aD->Option R}{st:aD}{ρ:ay}{w:World}(Y:∀it∈X.Γ,it∈Φ)(htb:∀e∈tb,e.Ok X.P X.Γ)(Z:∀e∈tp,e.Ok X.P X.Γ)(hs:Sat (ab ρ [] st.G++(ab ρ [] fr.H++Φ)) w)
  (h:akZ X tb tp c fr K st=some r) (hK:iO Q D fr Φ st.c ρ r K):WC X.P σ (.scope c) Q fr.n D (au ρ [] st.E fr.F) w:=by
 unfold akZ at h;split at h
 .rename_i l tm p q hh;obtain ⟨B,h0⟩:=aI h;obtain ⟨rest,v⟩:=aaI c B
  -- what holds at the label
  let F:En->(ew (gr tm.vs)->Option R)->ew (gr tm.vs)->Option R:=λf J s=>MX X tb tp l f.fr c (gtk l (λst'=>match jQ f tm st'.E st'.G with
     |some s=>J s
     |none=>none) (λe st'=>K e (vV e f st'))) (ck f tm s q)
  let I:Nat->Act->World->Prop:=λm a w=>∃(f:En) (o:ay),(f.fr.F=f.E++fr.F/\f.fr.H=f.G++fr.H/\f.fr.n=fr.n/\aF.low f.c f.fr.F=true/\bC f.c f.fr.H=true/\(∀t q,f.fix t=some q->q.1.low f.c=true/\AV.bW f.c q.2=true))/\aT st.c ρ o/\st.c<=f.c/\
   Nj (ax (F f) m) r (λs (g:ay) w'=>aT f.c o g/\Sat (ab g [] (ck f tm s q).G++(ab g [] f.fr.H++Φ)) w') (λs g=>au g [] (ck f tm s q).E f.fr.F) fr.n D a w
  have i:∀m a w,I m a w->Gv X.P σ l c (Exit.jump l (λC w'=>∃N<m,I N C w') Q) .normal a w:=by
   rintro m a w ⟨f,o,⟨ff,fh,fn,lF,lH,fx⟩,hag,hle,s,g,hm,hJ,hF,hD⟩;obtain ⟨N,rfl,hm'⟩:=Mt hm;have eL:∀s E' R' k DD,eY (λn=>f.c+n) f.fix tm.vs 0 (fM _ s)=⟨E',R',k,DD⟩->ck f tm s q=⟨f.c+k,E',rowsOf R',q⟩:=λs E' R' k DD hb=>by unfold ck;rw [hb]
   have hc:f.c<=(ck f tm s q).c:=by unfold ck;generalize eY (λn=>f.c+n) f.fix tm.vs 0 (fM _ s)=L;obtain ⟨a,b,c,d⟩:=L;exact qC _ _
   refine al9 (σ:=σ) (D:=D) Y htb Z c (fr:=f.fr) (st:=ck f tm s q) (ρ:=g) (Q:=Exit.jump l (λC w'=>∃m''<N+1,I m'' C w') Q) hJ.2 hm' (λe st' ρ' w2 U T A S=>?_) a (by rw [fn];exact hF) hD;by_cases u:∃j,e= .gto j
   .obtain ⟨j,rfl⟩:=u;unfold gtk at A;obtain ⟨hj,O⟩:=aI A;have:=ah hj;subst this;dsimp only at O;split at O
    .rename_i s' hb;obtain ⟨V,E2,R2,k2,DD2,d1,d2,d3,d4⟩:=nj lF lH fx S hb;refine λa2' hf2 hd2=>⟨rfl,N,qj _,f,o,⟨ff,fh,fn,lF,lH,fx⟩,hag,hle,s',V,O,⟨(hJ.1.trans (U.less hc) (bb _)).trans d2 (bb _),?_⟩,?_,hd2⟩
     .rw [eL _ _ _ _ _ d1];exact d4
     .rw [fn] at hf2;show Fits fr.n (au V [] (ck f tm s' q).E f.fr.F) a2';rw [eL _ _ _ _ _ d1];exact hf2.lI d3
    .cases O
   .have z:∀j,e≠ .gto j:=λj hj=>u ⟨j,hj⟩;have M:K e (vV e f st')=some r:=by cases e <;> first|exact ((z _) rfl).elim|exact A
    exact aft z (s5 hK hag hle ff fh fn e st' ρ' w2 (hJ.1.trans (U.less hc) (bb _)) (cg hc T) M S)
  refine λa hf hd=>SK l I v ?_ (λm a w hI=>alX c v (i m a w hI))
  -- the way to the label
  have hK':iO (Exit.jump l (λa w=>∃m,I m a w) Q) D fr Φ st.c ρ r (gtk l (λ_=>none) K):=λe st1 ρ' w' U T A S=>by
   by_cases u:∃j,e= .gto j
   .obtain ⟨j,rfl⟩:=u;unfold gtk at A;obtain ⟨_,O⟩:=aI A;cases O
   .have z:∀j,e≠ .gto j:=λj hj=>u ⟨j,hj⟩;have M:K e st1=some r:=by cases e <;> first|exact ((z _) rfl).elim|exact A
    exact aft z (hK e st1 ρ' w' U T M S)
  refine aiM (σ:=σ) Y htb Z hK' c (Q:=Exit.jump l (λa w=>∃m,I m a w) Q) (st:={ st with h:=p }) (ρ:=ρ) (λ_ _ _ _ _ h=>h) (λst1 ρ' w' U T A S C hf' hd'=>?_) B .refl (bb _) hs h0 a hf hd;obtain ⟨hl,h2⟩:=aI A;obtain ⟨o,en⟩:=wh (tm:=tm) (m:=Cj l c) hl S;generalize enter fr tm (Cj l c) st1=f at h2 en;split at h2
  .rename_i s0 hb0;obtain ⟨W,E',R',k,DD,b1,b2,b3,b4⟩:=nj en.lF en.lH en.fx en.sat hb0;have eL:ck f tm s0 q=⟨f.c+k,E',rowsOf R',q⟩:=by unfold ck;rw [b1]
   have key:I X.fl C w':=by
    refine ⟨f,o,⟨en.ff,en.fh,en.fn,en.lF,en.lH,en.fx⟩,U.trans en.ag T,cg T en.le,s0,W,h2,⟨b2,?_⟩,?_,hd'⟩
    .rw [eL];exact b4
    .show Fits fr.n (au W [] (ck f tm s0 q).E f.fr.F) C;rw [eL];exact hf'.lI (b3.trans en.sub)
   have mono:∀(c:Code) (Q1 Q2:bu),(∀e a w,Q1 e a w->Q2 e a w)->∀a w,Gv X.P σ l c Q1 .normal a w->Gv X.P σ l c Q2 .normal a w:=λc=>by
    induction c with
    |seq x y ihx ihy=>
     intro Q1 Q2 hq a w h;unfold Gv at h ⊢;cases hx:l8 l x
     .rw [hx] at h;exact ihy Q1 Q2 hq a w h
     .rw [hx] at h;refine ihx _ _ (λe a w u=>?_) a w h;cases e with
      |normal=>exact wpIn_mono u hq
      |_=>exact hq _ _ _ u
    |_=>intro Q1 Q2 hq a w h;exact hq _ _ _ h
   exact mono c _ _ (λe a w u=>by
    cases e <;> first|exact u|exact ⟨u.1,let ⟨N,_,hI⟩:=u.2;⟨N,hI⟩⟩) C w' (i X.fl C w' key)
  .cases h2
 .cases h
end
end
end Go.Proofs.YtkedhpmpejhekaaGreatDoor
