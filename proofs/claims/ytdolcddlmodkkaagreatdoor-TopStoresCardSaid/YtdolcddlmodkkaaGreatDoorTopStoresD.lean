/- Own texts for TopStores, cut and joined by a program. -/
import Derived.Test.YtdolcddlmodkkaaGreatDoorTopStoresC
set_option linter.all false
namespace Go.Proofs.YtdolcddlmodkkaaGreatDoor
noncomputable section
variable {d : Tmp} {x : Operand}
open Go.Lib
abbrev gone{R:Type}(g:GK)(k:Option R):Option R:=match g with
 |none=>k
 |some _=>none
theorem dm{R:Type}{r:R}{g:GK}{k:Option R}(h:gone g k=some r):g=none/\k=some r:=by
 cases g with
 |none=>exact ⟨rfl,h⟩
 |some _=>cases h
def alz{R:Type}(X:Cx)(T:aD)(fr:Fr)(st:aE)(d:zu)(t:TypeId)(x y:Operand)(K:cT R):Option R:=match fR X.P t with
 |some e=>(match C2 X.tys e with
  |some u=>(match lK X.P e with
   |some z=>(match bC T st.E fr.F none x with
    |some (.sl id)=>(match bC T st.E fr.F none y with
     |some b=>aC (Nat.beq z.1 u.n') (match ui (cP b.fg st.G) fr.H u b with
      |some ys=>(match eK (cP b.fg st.G) fr.H (ox id) with
       |some (.top j,.own _ u' e' xs _)=>aC (Nat.beq e e') (match ui.cn.asL u ⟨.l u',xs⟩ with
        |some xs=>K { st with c:=st.c+1,E:=cL d none (.int .i64 ((Nat.min ys.length xs.length:Nat):Int)) st.E,G:=(cP b.fg st.G).set j (.own id u e (wR xs ys) st.c) }
        |none=>none) none
       |_=>none)
      |none=>none) none
     |none=>none)
    |_=>none)
   |none=>none)
  |none=>none)
 |none=>none
def inO(n d:Nat):List (Nat×Nat)->Bool
 |[]=>false
 |x::l=>(Nat.beq x.1 n&&Nat.beq x.2 d)||inO n d l
def aku{R:Type}(X:Cx)(T:aD)(fr:Fr)(st:aE)(d:Tmp)(t:TypeId)(x:Operand)(lo hi:Option Operand)(K:cT R):Option R:=match fR X.P t with
 |some e=>(match lK X.P e with
  |some z=>(match bC T st.E fr.F none x with
   |some (.sl id)=>(match loA T st.E fr.F none lo with
    |some i=>(match SX T st.E fr.F none hi with
     |some j=>(match eK st.G fr.H (ox id) with
      |some (.top k,.own _ u e' xs _)=>aC (Nat.beq z.1 u.n') (match lo,hi with
       |none,_=>aJ (dW 0 (j.getD (xs.length:Int)) xs.length) (K { st with c:=st.c+1,E:=cL (some d) none (.sl st.c) st.E,G:=st.G.set k (.own st.c u e' (br xs 0 (j.getD (xs.length:Int))) st.c) })
       |some _,none=>aC (Nat.beq z.1 1) (aJ (dW i (xs.length:Int) xs.length) (K { st with c:=st.c+1,E:=cL (some d) none (.sl st.c) st.E,G:=st.G.set k (.own st.c u e' (br xs i (xs.length:Int)) st.c) })) none
       |_,_=>none) none
      |_=>none)
     |none=>none)
    |none=>none)
   |_=>none)
  |none=>none)
 |none=>none
def apb{R:Type}(X:Cx)(T:aD)(fr:Fr)(st:aE)(d:Tmp)(t:TypeId)(x:Operand)(lo hi mx:Option Operand)(K:cT R):Option R:=match lo,hi,mx with
 |none,some y,some y3=>(match X.P.underlying t with
  |some (.array n e)=>(match C2 X.tys e with
   |some u=>(match lK X.P e with
    |some z=>(match bC T st.E fr.F none x with
     |some (.ptr id 0)=>(match bC T st.E fr.F none y with
      |some (.int _ h)=>(match bC T st.E fr.F none y3 with
       |some (.int _ m)=>(match pz (A4 id) st.G with
        |some (j,.box _ _ cs)=>aC ((h==(n:Int))&&(m==(n:Int))&&Nat.beq z.1 u.n') (match rdL st.G fr.H u n cs with
         |some xs=>K { st with c:=st.c+1,E:=cL (some d) none (.sl st.c) st.E,G:=st.G.set j (.sli none st.c u xs true) }
         |none=>none) none
        |_=>none)
       |_=>none)
      |_=>none)
     |_=>none)
    |none=>none)
   |none=>none)
  |_=>none)
 |_,_,_=>none
def ake(X:Cx)(T:aD)(fr:Fr)(st:aE)(d:Tmp)(t:TypeId)(x y:Operand){R:Type}(K:cT R):Option R:=match X.P.underlying t with
 |some (.array n e)=>(match lK X.P e with
  |some z=>(match bC T st.E fr.F none x with
   |some (.adr id off)=>(match bC T st.E fr.F none y with
    |some (.int _ i)=>aaC i z.1 (λk=>K { st with E:=cL (some d) none (.adr id (off+k)) st.E }) n 0
    |_=>none)
   |some (.ptr id off)=>(match bC T st.E fr.F none y with
    |some (.int _ i)=>aaC i z.1 (λk=>K { st with E:=cL (some d) none (.ptr id (off+k)) st.E }) n 0
    |_=>none)
   |_=>none)
  |none=>none)
 |_=>none
def auF(P:Program)(t:TypeId):Bool:=match P.underlying t with
 |some (.func ..)=>true
 |_=>false
def akx{R:Type}(X:Cx)(T:aD)(fr:Fr)(st:aE)(d:Tmp)(t:TypeId)(len:Nat)(ps:List (Nat×Operand))(K:cT R):Option R:=match fR X.P t with
 |some e=>(match lK X.P e with
  |some z=>(match sy T st.E fr.F none (ps.map (·.2)) with
   |some vs=>(match Da (λi=>some (i*z.1,z.1)) ((ps.map (·.1)).zip vs) (Zq len (z.2.2.cells.toList.map kB)) with
    |some cs=>aC (auF X.P e&&Nat.beq z.2.2.cells.size z.1&&Nat.blt 0 (len*z.1)&&Nat.ble (len*z.1) 16777216&&AV.cm st.c cs) (K { st with c:=st.c+1,E:=cL (some d) none (.bs st.c len) st.E,G:= .box st.c e cs::st.G }) none
    |none=>none)
   |none=>none)
  |none=>none)
 |none=>none
def apq{R:Type}(X:Cx)(T:aD)(fr:Fr)(st:aE)(d:Tmp)(t:TypeId)(x y:Operand)(K:cT R):Option R:=match fR X.P t with
 |some e=>(match lK X.P e with
  |some z=>(match bC T st.E fr.F none x with
   |some (.bs id n)=>(match bC T st.E fr.F none y with
    |some (.int _ i)=>aaC i z.1 (λk=>K { st with E:=cL (some d) none (.ptr id k) st.E }) n 0
    |_=>none)
   |_=>none)
  |none=>none)
 |none=>none
def aks(P:Program)(t:TypeId)(nm:String):Option (FuncId×Bool):=match P.info? t with
 |some i=>(match i.methods.find? (·.name==nm) with
  |some m=>(match m.path.toList with
   |[]=>m.func
   |_=>none)
  |none=>none)
 |none=>none
def auy:TypeDesc->Bool
 | .pointer _=>true
 |_=>false
def J8(X:Cx)(T:aD)(fr:Fr)(st:aE)(g:GK)(t:TypeId)(u:AV)(nm:String):Option (FuncId×AV):=match aks X.P t nm with
 |some (f,true)=>(match X.P.underlying t with
  |some (.pointer _)=>some (f,u)
  |_=>none)
 |some (f,false)=>(match X.P.underlying t with
  |some (.pointer e)=>(match Bp T st.G fr.H g u with
   |some cs=>(match lN X.P e cs with
    |some v=>some (f,v)
    |none=>none)
   |none=>none)
  |some d=>aC (auy d) none (some (f,u))
  |none=>none)
 |none=>none
def adR:List Inl->FuncId->Option Inl
 |[],_=>none
 |i::l,f=>match Nat.beq i.f f with
  |true=>some i
  |false=>adR l f
def aox{R:Type}(X:Cx)(T:aD)(fr:Fr)(st:aE)(g:GK)(d:zu)(f:FuncId)(args:List AV)(K:cT R)(els:Option R):Option R:=match adR X.inl f with
 |none=>els
 |some i=>(match T with
  |[]=>gone g (i.run args fr.H st (λav st'=>K { st' with E:=cL d none av st.E,h:=st.h }))
  |_::_=>none)
def byT{R:Type}(k:TypeId->Option R)(t:TypeId):List TypeId->Option R
 |[]=>none
 |c::cs=>cond (Nat.beq t c) (k c) (byT k t cs)
section
variable {X : Cx} {R : Type} {r : R} {K : cT R} {T : aD} {fr : Fr} {st : aE} {g : GK} {ρ : aB} {Φ : Ctx} {w : World} {ty : TypeId} {pos : String} {af : zw} {gd : zg}
theorem adX:{l:List Inl}->{f:FuncId}->{i:Inl}->adR l f=some i->i∈l/\i.f=f
 |[],_,_,h=>by cases h
 |j::l,f,i,h=>by
  unfold adR at h;split at h
  next c=>cases h;exact ⟨ct .., ai c⟩
  .obtain ⟨b,a⟩:=adX h;exact ⟨cb _ b,a⟩
theorem atg{d:zu}{op:Op}{f:FuncId}{args:List AV}{c:Option R}(k:st.low fr=true)(u:Sat (ab ρ T st.G++(ab ρ T fr.H++Φ)) w)
  (e:Enters X.P f->T.get g=true->∀n a,Fits n (az ρ T st.E fr.F) a->(execOp a.eval ⟨d,op,ty,pos,af,gd⟩).run X.P w= .ok (.enter f (AV.ar ρ args).toArray) w) (h:aox X T fr st g d f args K c=some r) (b:c=some r->jX X.P T g (az ρ T st.E fr.F) ⟨d,op,ty,pos,af,gd⟩ w (aY r K T fr st g d ρ Φ)):
  jX X.P T g (az ρ T st.E fr.F) ⟨d,op,ty,pos,af,gd⟩ w (aY r K T fr st g d ρ Φ):=by
 unfold aox at h;split at h
 .exact b h
 .rename_i i hi;obtain ⟨s,q⟩:=adX hi;subst q;obtain ⟨e1,e2⟩:=X.inlOk i s;split at h
  .obtain ⟨rfl,y⟩:=dm h;refine .none_ (λn a x=> .inr (.inr ⟨i.f,AV.ar ρ args,e e1 aD.get_none n a x,(e2 r args fr.H st _ ρ Φ w u y).mono λv w' t=>?_⟩));obtain ⟨ρ',st',av,p,j,o,m,l⟩:=t;have e3:=bh (T:=[]) j (aE.cS.1 k).2.2.2;exact aY.new (ρ':=ρ') (st':={ st' with E:=cL d none av st.E,h:=st.h }) k p j o rfl m (by rw [<-e3];exact l)
  .cases h
theorem afG{k:TypeId->Option R}{t:TypeId}:∀{cs:List TypeId},byT k t cs=some r->k t=some r
 |[],h=>by cases h
 |c::cs,h=>by
  unfold byT at h;rcases vL h with ⟨b,a⟩|⟨_,a⟩
  .rw [ai b];exact a
  .exact afG a
theorem afz{P:Program}{t:TypeId}{nm:String}{q:FuncId×Bool}(h:aks P t nm=some q):OL P t nm q.1 q.2:=by
 unfold aks at h;split at h
 .rename_i i hi;split at h
  .rename_i m a;split at h
   next hp=>unfold OL;rw [hi];simp only [q8];rw [a];simp [hp,h]
   .cases h
  .cases h
 .cases h
theorem aou{t:TypeId}{u v:AV}{cs:List AV}{G H:List Row}(j:Sat (ab ρ T G++(ab ρ T H++Φ)) w)(b:Bp T G H g u=some cs)(h:lN X.P t cs=some v)(l:T.get g=true):
  ∃p,u.val ρ= .pointer (some p)/\(loadVar t p).run X.P w= .ok (v.val ρ) w:=by
 obtain ⟨p,hp,b⟩:=PR j b l;refine ⟨p,hp,?_⟩;have r:lN X.P t (cs.drop 0)=some v:=by simpa using h
 obtain ⟨d,n,bytes,z,c1,s,e⟩:=oM (ρ:=ρ) r;cases a:kI d
 .rw [a] at e;simp only [pA,qT] at e;exact NA c1 a (b.cell0 e)
 .unfold lN at h;rw [c1] at h;rcases dT h with ⟨_,c⟩|⟨i,_⟩
  .split at c
   .rename_i q k;obtain ⟨n,bytes,z⟩:=q;obtain ⟨o,m⟩:=aI c;cases m;have f:n<=cs.length:=dk o;simp only [AV.val];refine PH c1 a (cW k) (vs:=AV.ar ρ (cs.take n)) ?_ ?_
    .have:=b.sub (us:=AV.ar ρ (cs.take n)) 0 (by rw [AV.kM,qa,b9,AV.bu,et f])
     simpa [Addr.add] using this
    .rw [AV.bu,b9,et f]
   .cases c
  .rw [a] at i;cases i
theorem afP{t:TypeId}{u:AV}{nm:String}{q:FuncId×AV}(j:Sat (ab ρ T st.G++(ab ρ T fr.H++Φ)) w)(h:J8 X T fr st g t u nm=some q):T.get g=true->Reach X.P w t (u.val ρ) nm q.1 (q.2.val ρ):=by
 unfold J8 at h;split at h
 .rename_i f c;have b:=afz c;split at h
  next e a=>cases h;exact λ_=>Reach.ptr b a
  .cases h
 .rename_i f c;have b:=afz c;split at h
  .rename_i e a;split at h
   .rename_i cs n;split at h
    next v i=>cases h;intro l;obtain ⟨p,hp,k⟩:=aou j n i l;rw [hp];exact Reach.load b a k
    .cases h
   .cases h
  next d a=>obtain ⟨r,o⟩:=QL h;cases o;exact λ_=>Reach.val b a (λe m=>by subst m;cases r)
  .cases h
 .cases h
theorem aiF{t:TypeId}{y:Operand}(s:Sat (ab ρ T st.G++(ab ρ T fr.H++Φ)) w)(h:ake X T fr st d t x y K=some r):
  Nw X.P T none (az ρ T st.E fr.F) ⟨some d,.indexAddr t x y,ty,pos,af,gd⟩ w (aY r K T fr st none (some d) ρ Φ):=by
 unfold ake at h;split at h
 .rename_i n e p;split at h
  .rename_i z o;obtain ⟨m,bytes,z⟩:=z;split at h
   .rename_i id off hx;split at h
    .rename_i k i l;obtain ⟨q,_,u,g,j⟩:=Gi h;have f:=bL (ρ:=ρ) hx;have c:=bL (ρ:=ρ) l;simp only [AV.val] at f c;refine ⟨.pointer (some (((ρ id).a.add off).add (i.toNat*m))),λw'=>?_,?_⟩
     .rw [aD.get_none];exact CN (P:=X.P) (w:=w') (dst:=some d) (ty:=ty) (pos:=pos) (af:=af) (gd:=gd) p (cW o) f c (by
       intro _;subst g;exact pR.2 ⟨by omega,by omega⟩)
     .refine aY.jP (av:= .adr id (off+q*m)) j (b7 _) rfl ?_ s;simp only [AV.val];rw [add_add,g];rfl
    .cases h
   .rename_i id off hx;split at h
    .rename_i k i l;obtain ⟨q,_,u,g,j⟩:=Gi h;have f:=bL (ρ:=ρ) hx;have c:=bL (ρ:=ρ) l;simp only [AV.val] at f c;refine ⟨.pointer (some ((⟨(ρ id).b,off,none⟩:Addr).add (i.toNat*m))),λw'=>?_,?_⟩
     .rw [aD.get_none];exact CN (P:=X.P) (w:=w') (dst:=some d) (ty:=ty) (pos:=pos) (af:=af) (gd:=gd) p (cW o) f c (by
       intro _;subst g;exact pR.2 ⟨by omega,by omega⟩)
     .refine aY.jP (av:= .ptr id (off+q*m)) j (b7 _) rfl ?_ s;simp only [AV.val];rw [add_plain,g];rfl
    .cases h
   .cases h
  .cases h
 .cases h
theorem aqK{d:zu}{t:TypeId}{y:Operand}(J:st.low fr=true)(g:Sat (ab ρ T st.G++(ab ρ T fr.H++Φ)) w)(h:alz X T fr st d t x y K=some r):
  jX X.P T none (az ρ T st.E fr.F) ⟨d,.call ⟨.builtin .copy,#[x,y],#[t,t]⟩,ty,pos,af,gd⟩ w (aY r K T fr st none d ρ Φ):=by
 unfold alz at h;split at h
 .rename_i e V;split at h
  .rename_i u hu;split at h
   .rename_i z N;obtain ⟨n,bytes,z⟩:=z;split at h
    .rename_i id hx;split at h
     .rename_i b O;obtain ⟨h1,i⟩:=aI h;have R:n=u.rep.n:=(ai h1).trans u.Er.symm;have B:=cW N;subst R;have f:=tq (ids:=b.fg) (aE.cS.1 J).2.2.1;replace g:=kh (ids:=b.fg) g;generalize cP b.fg st.G=G at i f g;have o:=bL (ρ:=ρ) hx;have v:=bL (ρ:=ρ) O;simp only [AV.val] at o;split at i
      .rename_i ys q;have s:=P9 g q;split at i
       .rename_i j p u' e' k M U;obtain ⟨Z,D⟩:=aI i;have:=ai Z;subst this;split at D
        .rename_i xs A;obtain ⟨eu,ex⟩:=sR A;subst eu;simp only at ex;subst ex;obtain ⟨I,f2⟩:=ck U;have:p=id:=ai f2;subst this;have hi:=gm (ρ:=ρ) (T:=T) (Φ:=ab ρ T fr.H++Φ) I;obtain ⟨L,_⟩:=g.at_ hi;obtain ⟨w',Q,Y,C,W⟩:=aoV (P:=X.P) (ty:=ty) (w:=w) (t:=t) (cf V) B L s (λb hb=>Ctx.j7 hi hb);have S:j<G.length:=(List.getElem?_eq_some_iff.1 I).1;have a:=tf f I;simp only [Row.low,ah,j5] at a;refine .none_ (bK.gd (bK.oS (A6 o v Q) (aY.new (ρ':=ρ.set st.c { df with y:=⟨.l u',wR k ys⟩ }) (av:= .int .i64 ((Nat.min ys.length k.length:Nat):Int)) J D aB.bd (mi _) rfl (by simp only [AV.val]) ?_)));show Sat (ab _ T (G.set j _)++_) _;rw [fT S,bh aB.bd f];refine g.iP hi Y (λb hb=>?_) (λM' m _=>?_)
         .simp only [Row.item,aB.bd _ a.1] at hb;exact ⟨by rw [C];exact L.lt b hb,.inl hb⟩
         .simp only [Row.item,aB.bd _ a.1,aB.bH];exact ⟨W M' m,trivial⟩
        .cases D
       .cases i
      .cases i
     .cases h
    .cases h
   .cases h
  .cases h
 .cases h
theorem aoz{t:TypeId}{len:Nat}{ps:Array (Nat×Operand)}(u:st.low fr=true)(s:Sat (ab ρ T st.G++(ab ρ T fr.H++Φ)) w)(h:akx X T fr st d t len ps.toList K=some r):
  jX X.P T none (az ρ T st.E fr.F) ⟨some d,.buildSlice t len ps,ty,pos,af,gd⟩ w (aY r K T fr st none (some d) ρ Φ):=by
 obtain ⟨ps⟩:=ps;simp only at h;unfold akx at h;split at h
 .rename_i e v;split at h
  .rename_i z q;obtain ⟨n,bytes,z⟩:=z;split at h
   .rename_i vs k;split at h
    .rename_i cs m;obtain ⟨o,y⟩:=aI h;simp only [ah] at o;obtain ⟨⟨⟨⟨_,C⟩,p⟩,B⟩,A⟩:=o;have c:z.cells.size=n:=ai C;have l:=cW q;have a:=y9 (ρ:=ρ) m;rw [E7,UZ,nk] at a;have g:0<n:=by
      have:0<len*n:=by simpa using p
      exact vy (λe=>by simp [e] at this)
     have j:sI n len z.cells.toList ((ps.map (·.1)).zip (AV.ar ρ vs))=some (AV.ar ρ cs).toArray:=by unfold sI;have e1:=Gj z.cells.toList (by simp [c];exact g) len;simp only [de,c] at e1;simp only [de,c];rw [<-a,<-e1]
     have i:iQ (az ρ T st.E fr.F) true (ps.map (·.2)) (AV.ar ρ vs):=by simpa using ie (ρ:=ρ) k
     have f:=rQ (P:=X.P) (w:=w) (dst:=some d) (ty:=ty) (pos:=pos) (af:=af) (cf v) l (zs:=z.cells.toList) (by simp) p B i j;refine .none_ (bK.gd (bK.oS f (aY.push (x:={ df with b:=w.heap.size }) u y (by simp only [AV.val,aB.bH]) ?_)));simp only [Row.item,aB.bH];rw [AV.cj aB.bd _ A];exact s.push (fi _ _) (λb hb=>by
      have:b=w.heap.size:=by simpa [box] using hb
      subst this;simp) (λ_ _=>heap_alloc_new w _)
    .cases h
   .cases h
  .cases h
 .cases h
theorem ats{t:TypeId}{y:Operand}(A:Sat (ab ρ T st.G++(ab ρ T fr.H++Φ)) w)(h:apq X T fr st d t x y K=some r):
  jX X.P T none (az ρ T st.E fr.F) ⟨some d,.indexAddr t x y,ty,pos,af,gd⟩ w (aY r K T fr st none (some d) ρ Φ):=by
 unfold apq at h;split at h
 .rename_i e B;split at h
  .rename_i z u;obtain ⟨m,bytes,z⟩:=z;split at h
   .rename_i id n hx;split at h
    .rename_i k i v;obtain ⟨q,_,C,s,o⟩:=Gi h;have c:=bL (ρ:=ρ) hx;have a:=bL (ρ:=ρ) v;simp only [AV.val] at c a;have j:aY r K T fr st none (some d) ρ Φ (.pointer (some ⟨(ρ id).b,q*m,none⟩)) w:=aY.jP (av:= .ptr id (q*m)) o (b7 _) rfl (by simp only [AV.val]) A;have f:=Iy (P:=X.P) (w:=w) (g:=true) (dst:=some d) (ty:=ty) (pos:=pos) (af:=af) (gd:=none) (cf B) (cW u) c a (p:=⟨(ρ id).b,q*m,none⟩) (λ_=>⟨_,_,_,rfl,by omega,by omega,by
      subst s;unfold Addr.add;split
      next l=>simp only [e9] at l;rw [l]
      .simp⟩)
     exact .none_ (bK.gd (bK.run f j))
    .cases h
   .cases h
  .cases h
 .cases h
abbrev adN(E:Env)(z i:Int)(x:Option Operand):Prop:=match x with
 |none=>i=z
 |some y=>∃k,aw E true y (.int k i)
theorem apd{t:TypeId}{lo hi:Option Operand}(W:st.low fr=true)(V:Sat (ab ρ T st.G++(ab ρ T fr.H++Φ)) w)(h:aku X T fr st d t x lo hi K=some r):
  jX X.P T none (az ρ T st.E fr.F) ⟨some d,.slice t x lo hi none,ty,pos,af,gd⟩ w (aY r K T fr st none (some d) ρ Φ):=by
 have S:=(aE.cS.1 W).2.2.1;unfold aku at h;split at h
 .rename_i e he;split at h
  .rename_i z hz;obtain ⟨n,bytes,z⟩:=z;split at h
   .rename_i id hx;split at h
    .rename_i i Q;split at h
     .rename_i j hj;split at h
      .rename_i k o u e' xs Z hf;obtain ⟨h1,J⟩:=aI h;have hn:n=u.rep.n:=(ai h1).trans u.Er.symm;have O:=cW hz;subst hn;obtain ⟨Y,f2⟩:=ck hf;have:o=id:=ai f2;subst this;have B:=bL (ρ:=ρ) hx;simp only [AV.val] at B;have C:=gm (ρ:=ρ) (T:=T) (Φ:=ab ρ T fr.H++Φ) Y;obtain ⟨R,_⟩:=V.at_ C;have hk:k<st.G.length:=(List.getElem?_eq_some_iff.1 Y).1;have f:=Wl (ρ:=ρ) (len:=xs.length) hj;have a:=Nr (ρ:=ρ) Q;rw [aD.get_none] at f a;replace f:adN (az ρ T st.E fr.F) (xs.length:Int) (j.getD (xs.length:Int)) hi:=f;replace a:adN (az ρ T st.E fr.F) 0 i lo:=a;have I:∀{s q:Int} {p:gP} {L:zC},adN (az ρ T st.E fr.F) 0 s lo->adN (az ρ T st.E fr.F) (xs.length:Int) q hi->VH (sl (ρ o).v) s q u.rep.n (sl p)->(∀b∈L,b∈wg (ρ o).v)->bR u.rep e' (Ctx.M (ab ρ T st.G++(ab ρ T fr.H++Φ))) w (sl p) (br xs s q) L->
         K { st with c:=st.c+1,E:=cL (some d) none (.sl st.c) st.E,G:=st.G.set k (.own st.c u e' (br xs s q) st.c) }=some r->jX X.P T none (az ρ T st.E fr.F) ⟨some d,.slice t x lo hi none,ty,pos,af,gd⟩ w (aY r K T fr st none (some d) ρ Φ):=by
        intro s q p L q1 q2 A N g D;refine .none_ (bK.gd (bK.run (G4 (lo:=lo) (hi:=hi) (cf he) O B (λ_=>R.len) q1 q2 (λ_=>A)) (aY.new (ρ':=ρ.set st.c { df with v:=p,y:=⟨.l u,br xs s q⟩ }) W D aB.bd (mi _) rfl (by simp only [AV.val,aB.bH]) ?_)));show Sat (ab _ T (st.G.set k _)++_) _;rw [fT hk,bh aB.bd S];refine V.iP C ((Ext.refl w).uP _) (λb hb=>?_) (λM' m _=>?_)
        .simp only [Row.item,aB.bH] at hb;have:=g.canon.1 b hb;exact ⟨g.lt b this,.inl (N b this)⟩
        .simp only [Row.item,aB.bH];exact ⟨g.canon.2 _ _ (g.cE (λ_ _=>rfl) m),trivial⟩
       split at J
       .obtain ⟨U,D⟩:=fj J;obtain ⟨p,A,g⟩:=R.avi U;exact I rfl f A (λb hb=>hb) g D
       .obtain ⟨h5,h6⟩:=aI J;obtain ⟨U,D⟩:=fj h6;obtain ⟨p,A,L,N,g⟩:=R.avs (ai h5) U;exact I a rfl A N g D
       .cases J
      .cases h
     .cases h
    .cases h
   .cases h
  .cases h
 .cases h
theorem ar6{t:TypeId}{lo hi q:Option Operand}(A:st.low fr=true)(o:Sat (ab ρ T st.G++(ab ρ T fr.H++Φ)) w)(h:apb X T fr st d t x lo hi q K=some r):
  jX X.P T none (az ρ T st.E fr.F) ⟨some d,.slice t x lo hi q,ty,pos,af,gd⟩ w (aY r K T fr st none (some d) ρ Φ):=by
 have Q:=(aE.cS.1 A).2.2.1;unfold apb at h;split at h
 .rename_i y S;split at h
  .rename_i n e L;split at h
   .rename_i u W;split at h
    .rename_i z I;obtain ⟨U,bytes,z⟩:=z;split at h
     .rename_i id hx;split at h
      .rename_i k Y J;split at h
       .rename_i V m i;split at h
        .rename_i j c bt cs O;obtain ⟨B,p⟩:=aI h;simp only [ah,kR] at B;obtain ⟨⟨rfl,rfl⟩,Z⟩:=B;split at p
         next xs l=>obtain ⟨C,R⟩:=mZ O;have:c=id:=ai R;subst this;have g:=bL (ρ:=ρ) hx;have f:=bL (ρ:=ρ) J;have a:=bL (ρ:=ρ) i;simp only [AV.val] at g f a;have hi:=gm (ρ:=ρ) (T:=T) (Φ:=ab ρ T fr.H++Φ) C;have hb:fL w (ρ c).b bt (AV.ar ρ cs):=o.at_ hi;obtain ⟨s,D⟩:=Wn o n cs xs l;have N:j<st.G.length:=(List.getElem?_eq_some_iff.1 C).1;refine .none_ (bK.gd (bK.run (aiu L (cW I) g f a) (aY.iP (x:={ df with v:=(some ⟨(ρ c).b,0,none⟩,n,n) }) A N p (by simp only [AV.val,aB.bH];rfl) ?_)));refine o.iP hi ((Ext.refl w).uP _) (λb hb=>by cases hb) (λM' m M=>?_);simp only [Row.item,aB.bH];exact λ_=>⟨bW.fresh hb (M _ (by simp [Row.item,box]) (λhb=>by cases hb)) s (D.mv m),λ_=>s.symm⟩
         .cases p
        .cases h
       .cases h
      .cases h
     .cases h
    .cases h
   .cases h
  .cases h
 .cases h
end
variable {d : zu} {tys : Array TypeId}
def anU{R:Type}(X:Cx)(T:aD)(fr:Fr)(st:aE)(t:TypeId)(x y:Operand)(K:cT R):Option R:=match bC T st.E fr.F none x with
 |some (.ptr id off)=>(match bC T st.E fr.F none y with
  |some v=>af6 X.P st t id off v K
  |none=>none)
 |some (.adr q off)=>(match bC T st.E fr.F none y with
  |some v=>ahf X.P fr st t q off v K
  |none=>none)
 |_=>none
def arO{R:Type}(X:Cx)(T:aD)(fr:Fr)(st:aE)(g:GK)(d:Tmp)(t:TypeId)(x:Operand)(K:cT R):Option R:=match bC T st.E fr.F g x with
 |some (.adr q off)=>Wz X T fr st g d t q off K
 |_=>none
def atO{R:Type}(X:Cx)(T:aD)(fr:Fr)(st:aE)(g:GK)(b:Builtin)(d:zu)(xs:zn)(ts:List TypeId)(K:cT R):Option R:=match b,xs,ts,d with
 | .append,[x,y],[t,u],some d=>gone g (aC (Nat.beq t u) (aqE X T fr st d t x y K) (aky X T fr st d t u x y K))
 | .unsafeSliceData,[x],_,some d=>gone g (adA T fr st d x K)
 | .unsafeString,[x,y],[pt,_],some d=>gone g (akf X T fr st d pt x y K)
 | .copy,[x,y],[t,u],d=>gone g (aC (Nat.beq t u) (alz X T fr st d t x y K) none)
 |_,_,_,_=>none
def aqU{R:Type}(X:Cx)(tb:List au)(T:aD)(fr:Fr)(st:aE)(g:GK)(d:zu)(c:Callee)(xs:zn)(ts:List TypeId)(K:cT R):Option R:=match c with
 | .builtin b=>atO X T fr st g b d xs ts K
 | .value fo=>(match bC T st.E fr.F g fo with
  |some (.fn f a b)=>(match sy T st.E fr.F g xs with
   |some vs=>aox X T fr st g d f (a++vs++b) K (yo T fr st g d f (a++vs++b) K tb)
   |none=>none)
  |some (.raw (.func (.methodOf it nm) ⟨[]⟩ ⟨[]⟩))=>(match X.P.underlying it with
   |some dI=>aC (gY dI) (match sy T st.E fr.F g xs with
    |some (.ifc t u::vs)=>byT (λc=>match J8 X T fr st g c u nm with
     |some q=>yo T fr st g d q.1 (q.2::vs) K tb
     |none=>none) t X.ks
    |_=>none) none
   |none=>none)
  |_=>none)
 | .invoke rc nm=>(match bC T st.E fr.F g rc with
  |some (.ifc t u)=>(match sy T st.E fr.F g xs with
   |some vs=>(match u with
    | .agg []=>byT (λc=>match J8 X T fr st g c u nm with
     |some q=>yo T fr st g d q.1 (q.2::vs) K tb
     |none=>none) t X.ks
    |_=>(match J8 X T fr st g t u nm with
     |some q=>yo T fr st g d q.1 (q.2::vs) K tb
     |none=>none))
   |none=>none)
  |_=>none)
def opN{R:Type}(X:Cx)(tb:List au)(T:aD)(fr:Fr)(st:aE)(g:GK)(op:Op)(dst:zu)(K:cT R):Option R:=match op,dst with
 | .indexAddr t x y,some d=>(match fR X.P t with
  |some _=>(match bC T st.E fr.F g x with
   |some (.bs _ _)=>gone g (apq X T fr st d t x y K)
   |_=>aj6 X T fr st g d t x y K)
  |none=>(match bC T st.E fr.F g x with
   |some (.gp _)=>adL X T fr st g d t x y K
   |_=>gone g (ake X T fr st d t x y K)))
 | .slice t x lo hi mx,some d=>(match fR X.P t with
  |some _=>(match mx with
   |none=>aC (inO fr.n d X.oc) (gone g (aku X T fr st d t x lo hi K)) (adW X T fr st g d t x lo hi none K)
   |mx=>adW X T fr st g d t x lo hi mx K)
  |none=>(match bC T st.E fr.F g x with
   |some (.gp _)=>gone g (aaa X T fr st d t x lo hi mx K)
   |_=>gone g (apb X T fr st d t x lo hi mx K)))
 | .alloc t,some d=>gone g (ad1 X st d t K)
 | .box t x,some d=>gone g (aqP T fr st d t x K)
 | .store t x y,none=>gone g (anU X T fr st t x y K)
 | .load t x,some d=>arO X T fr st g d t x K
 | .buildSlice t n ps,some d=>(match fR X.P t with
  |some e=>aC (auF X.P e) (gone g (akx X T fr st d t n ps.toList K)) (aqO X T fr st g d t n ps.toList K)
  |none=>none)
 | .makeSlice t x y,some d=>gone g (al9 X T fr st d t x y K)
 | .makeMap t none,some d=>gone g (aj8 X st d t K)
 | .mapUpdate t x y z,none=>gone g (alD X T fr st t x y z K)
 | .range t x,some d=>gone g (aq5 X T fr st d t x K)
 | .next x true,some d=>gone g (ap9 T fr st d x K)
 | .convert s dt x,some d=>apL X T fr st g d s dt x K
 | .binOp op t x y _,some d=>gone g (apF X T fr st d op t x y K)
 | .call c,d=>aqU X tb T fr st g d c.callee c.args.toList c.argTypes.toList K
 |_,_=>none
def opD{R:Type}(X:Cx)(tb:List au)(T:aD)(fr:Fr)(st:aE)(g:GK)(o:Oper)(K:cT R):Option R:=
 match ak5 X T st.E fr.F g o.op with
 |some cv=>Kd cv.1 (g.map λ_=>T.get g) (K { st with E:=cL o.dst g cv.2 st.E })
 |none=>match aj5 X T st.E fr.F st.G fr.H g o.op with
  |some cv=>Kd cv.1 (g.map λ_=>T.get g) (K { st with E:=cL o.dst g cv.2 st.E })
  |none=>aC (st.low fr) (opN X tb T fr st g o.op o.dst K) none
section
variable {X : Cx} {tb : List au} {R : Type} {r : R} {K : cT R} {T : aD} {fr : Fr} {st : aE} {g : GK} {ρ : aB} {Φ : Ctx} {w : World} {ty : TypeId} {pos : String} {af : zw} {gd : zg}
theorem BC{d:zu}{op:Op}{f:FuncId}{args:List AV}(l:st.low fr=true)(j:Sat (ab ρ T st.G++(ab ρ T fr.H++Φ)) w)(a:∀it∈X.Γ,it∈Φ)
  (b:Enters X.P f->T.get g=true->∀n act,Fits n (az ρ T st.E fr.F) act->(execOp act.eval ⟨d,op,ty,pos,af,gd⟩).run X.P w= .ok (.enter f (AV.ar ρ args).toArray) w):∀{tb:List au},(∀e∈tb,e.Ok X.P X.Γ)->yo T fr st g d f args K tb=some r->
  jX X.P T g (az ρ T st.E fr.F) ⟨d,op,ty,pos,af,gd⟩ w (aY r K T fr st g d ρ Φ)
 |[],_,h=>by cases h
 |e::tb,htb,h=>by
  unfold yo at h;rcases dT h with ⟨m,i⟩|⟨_,i⟩
  .split at i
   next o k=>subst i;have:=ai m;subst this;have c:=htb e (ct ..);exact aol l j c a (b c.1) k
   .exact BC l j a b (λe c=>htb e (cb _ c)) i
  .exact BC l j a b (λe c=>htb e (cb _ c)) i
theorem aoU{f:FuncId}{fo:Operand}{xs:zn}{a b vs:List AV}(p:st.low fr=true)(o:Sat (ab ρ T st.G++(ab ρ T fr.H++Φ)) w)(j:∀it∈X.Γ,it∈Φ)
  (m:bC T st.E fr.F g fo=some (.fn f a b)) (k:sy T st.E fr.F g xs=some vs) {tb:List au} (l:∀e∈tb,e.Ok X.P X.Γ) (h:yo T fr st g d f (a++vs++b) K tb=some r):
  jX X.P T g (az ρ T st.E fr.F) ⟨d,.call ⟨.value fo,xs.toArray,tys⟩,ty,pos,af,gd⟩ w (aY r K T fr st g d ρ Φ):=by
 have c:=aV (ρ:=ρ) m;have i:=ie (ρ:=ρ) k;simp only [AV.val] at c;refine BC p o j (λt q n u s=>?_) l h;rw [dA,dA];exact GJ t c i s q
theorem agx{k:Operand}{nm:String}{xs:zn}{t:TypeId}{u:AV}{vs:List AV}{q:FuncId×AV}(o:st.low fr=true)(l:Sat (ab ρ T st.G++(ab ρ T fr.H++Φ)) w)(c:∀it∈X.Γ,it∈Φ)
  (j:bC T st.E fr.F g k=some (.ifc t u)) (f:sy T st.E fr.F g xs=some vs) (m:J8 X T fr st g t u nm=some q) {tb:List au} (i:∀e∈tb,e.Ok X.P X.Γ) (h:yo T fr st g d q.1 (q.2::vs) K tb=some r):
  jX X.P T g (az ρ T st.E fr.F) ⟨d,.call ⟨.invoke k nm,xs.toArray,tys⟩,ty,pos,af,gd⟩ w (aY r K T fr st g d ρ Φ):=by
 have a:=aV (ρ:=ρ) j;have b:=ie (ρ:=ρ) f;simp only [AV.val] at a;exact BC o l c (λv p n x s=>apy v a (afP l m) b s p) i h
theorem aql{fo:Operand}{it:TypeId}{m:TypeDesc}{nm:String}{xs:zn}{t:TypeId}{u:AV}{vs:List AV}{q:FuncId×AV}(p:st.low fr=true)(l:Sat (ab ρ T st.G++(ab ρ T fr.H++Φ)) w)(c:∀it∈X.Γ,it∈Φ)
  (k:bC T st.E fr.F g fo=some (.raw (.func (.methodOf it nm) #[] #[]))) (j:X.P.underlying it=some m) (y:gY m=true) (f:sy T st.E fr.F g xs=some (.ifc t u::vs)) (o:J8 X T fr st g t u nm=some q) {tb:List au} (i:∀e∈tb,e.Ok X.P X.Γ) (h:yo T fr st g d q.1 (q.2::vs) K tb=some r):
  jX X.P T g (az ρ T st.E fr.F) ⟨d,.call ⟨.value fo,xs.toArray,tys⟩,ty,pos,af,gd⟩ w (aY r K T fr st g d ρ Φ):=by
 have b:=aV (ρ:=ρ) k;have a:=ie (ρ:=ρ) f;simp only [AV.val,AV.ar] at b a;exact BC p l c (λx s n z v=>ais x b j y (afP l o) a v s) i h
theorem asQ{c:Callee}{xs:Array Operand}{D:Array TypeId}(l:st.low fr=true)(k:Sat (ab ρ T st.G++(ab ρ T fr.H++Φ)) w)(m:∀it∈X.Γ,it∈Φ)(o:∀e∈tb,e.Ok X.P X.Γ)
  (h:aqU X tb T fr st g d c xs.toList D.toList K=some r):jX X.P T g (az ρ T st.E fr.F) ⟨d,.call ⟨c,xs,D⟩,ty,pos,af,gd⟩ w (aY r K T fr st g d ρ Φ):=by
 obtain ⟨xs⟩:=xs;obtain ⟨D⟩:=D;unfold aqU at h;split at h
 .unfold atO at h;split at h
  .rename_i x y t u J e1 e2;simp only at e1 e2;subst e1;subst e2;obtain ⟨rfl,s⟩:=dm h;rcases dT s with ⟨z,j⟩|⟨_,j⟩
   .have:=ai z;subst this;exact asE l k j
   .exact aq0 l k j
  next x J e1=>simp only at e1;subst e1;obtain ⟨rfl,s⟩:=dm h;exact (afS l k s).ok2
  next x y Q it J e1 e2=>simp only at e1 e2;subst e1;subst e2;obtain ⟨rfl,s⟩:=dm h;exact apg l k s
  next x y t u e1 e2=>simp only at e1 e2;subst e1;subst e2;obtain ⟨rfl,s⟩:=dm h;obtain ⟨z,j⟩:=aI s;have:=ai z;subst this;exact aqK l k j
  .cases h
 .split at h
  .rename_i f a b p;split at h
   next vs i=>refine atg l k (λN L n O M=>?_) h (λh=>aoU l k m p i o h);have v:=aV (ρ:=ρ) p;have A:=ie (ρ:=ρ) i;simp only [AV.val] at v;rw [dA,dA];exact GJ N v A M L
   .cases h
  .rename_i it nm p;split at h
   .rename_i R I;obtain ⟨s,z⟩:=aI h;split at z
    .rename_i t u vs i;have j:=afG z;split at j
     next q C=>exact aql l k m p I s i C o j
     .cases j
    .cases z
   .cases h
  .cases h
 .split at h
  .rename_i t u B;split at h
   .rename_i vs i;split at h
    .have j:=afG h;split at j
     next q C=>exact agx l k m B i C o j
     .cases j
    .split at h
     next q C=>exact agx l k m B i C o h
     .cases h
   .cases h
  .cases h
theorem au5{op:Op}{dst:zu}(c:st.low fr=true)(b:Sat (ab ρ T st.G++(ab ρ T fr.H++Φ)) w)(d:∀it∈X.Γ,it∈Φ)(j:∀e∈tb,e.Ok X.P X.Γ)
  (h:opN X tb T fr st g op dst K=some r):jX X.P T g (az ρ T st.E fr.F) ⟨dst,op,ty,pos,af,gd⟩ w (aY r K T fr st g dst ρ Φ):=by
 unfold opN at h;split at h
 .split at h
  .split at h
   .obtain ⟨rfl,a⟩:=dm h;exact ats b a
   .exact (aji c b h).ok2
  .split at h
   .exact (aeZ c d b h).ok2
   .obtain ⟨rfl,a⟩:=dm h;exact (aiF b a).ok2
 .split at h
  .split at h
   .rcases dT h with ⟨_,f⟩|⟨_,f⟩
    .obtain ⟨rfl,k⟩:=dm f;exact apd c b k
    .exact (Zl c b f).ok2
   .exact (Zl c b h).ok2
  .split at h
   .obtain ⟨rfl,a⟩:=dm h;exact asp c d b a
   .obtain ⟨rfl,a⟩:=dm h;exact ar6 c b a
 .obtain ⟨rfl,a⟩:=dm h;exact anu c b a
 .obtain ⟨rfl,a⟩:=dm h;exact asB c b a
 .obtain ⟨rfl,a⟩:=dm h;unfold anU at a;split at a
  .rename_i id off hx;split at a
   next v i=>exact .none_ (am7 b hx i a)
   .cases a
  .rename_i id off hx;split at a
   next v i=>exact .none_ (anS c b hx i a)
   .cases a
  .cases a
 .unfold arO at h;split at h
  next q off hx=>exact apG c b hx h
  .cases h
 .split at h
  .rcases dT h with ⟨_,f⟩|⟨_,f⟩
   .obtain ⟨rfl,k⟩:=dm f;exact aoz c b k
   .exact atp c b f
  .cases h
 .obtain ⟨rfl,a⟩:=dm h;exact aq2 c b a
 .obtain ⟨rfl,a⟩:=dm h;exact aoE c b a
 .obtain ⟨rfl,a⟩:=dm h;exact apZ b a
 .obtain ⟨rfl,a⟩:=dm h;exact asH c b a
 .obtain ⟨rfl,a⟩:=dm h;exact as2 b a
 .exact asR c b h
 .obtain ⟨rfl,a⟩:=dm h;exact asl b a
 .exact asQ c b d j h
 .cases h
theorem auT{o:Oper}(m:fM T st.E fr.F)(f:Sat (ab ρ T st.G++(ab ρ T fr.H++Φ)) w)(i:∀it∈X.Γ,it∈Φ)(j:∀e∈tb,e.Ok X.P X.Γ)
  (h:opD X tb T fr st g o K=some r):jX X.P T g (az ρ T st.E fr.F) o w (aY r K T fr st g o.dst ρ Φ):=by
 obtain ⟨dst,op,ty,pos,af,gd⟩:=o;unfold opD at h;simp only at h;split at h
 next cv b=>obtain ⟨d,c⟩:=sP h;exact Nw.ok2 ⟨_,λw'=>ag3 m b d,aY.jP c (b7 _) rfl rfl f⟩
 .split at h
  next cv b=>obtain ⟨d,c⟩:=sP h;have k:=agM (dst:=dst) (ty:=ty) (pos:=pos) (af:=af) (gd:=gd) f b d;have a:aY r K T fr st g dst ρ Φ (cv.2.val ρ) w:=aY.jP c (b7 _) rfl rfl f;exact ⟨λl=>bK.run (by rwa [l] at k) a,λ_=>⟨_,a⟩⟩
  .obtain ⟨d,c⟩:=aI h;exact au5 d f i j c
end
def Row.gd:Row->GK
 | .sli g _ _ _ _|.elm g _ _|.kn g _ _ _ _ _ _=>g
 |_=>none
theorem Row.DV{ρ:aB}{T T':aD}{r:Row}(h:T'.get r.gd=T.get r.gd):r.item ρ T'=r.item ρ T:=by cases r <;> simp only [Row.gd] at h <;> simp only [Row.item,h]
def DE(k:Nat×Bool)(g:GK):Bool:= !(GK.eq (some k) g)
def Kx(k:Nat×Bool):aG->Bool
 |[]=>true
 |x::E=>DE k x.2.1&&Kx k E
def VV(k:Nat×Bool):List Row->Bool
 |[]=>true
 |r::G=>DE k r.gd&&VV k G
def alX(k:Nat×Bool):aD->Bool
 |[]=>true
 |x::T=>DE k (some x.1)&&DE k x.2.1&&alX k T
theorem Au{k:Nat×Bool}{par:GK}{rj:Nat}{b:Bool}{T:aD}{g:GK}(h:DE k g=true):aD.get ((k,par,rj,b)::T) g=T.get g:=aD.Vz h
theorem Us{ρ:aB}{k:Nat×Bool}{par:GK}{rj:Nat}{b:Bool}{T:aD}:{E:aG}->Kx k E=true->aG.env ρ ((k,par,rj,b)::T) E=aG.env ρ T E
 |[],_=>rfl
 |(t,g,v)::E,h=>by simp only [Kx,ah] at h;simp only [aG.env];rw [Au h.1,Us h.2]
theorem LN{ρ:aB}{k:Nat×Bool}{par:GK}{rj:Nat}{b:Bool}{T:aD}:{G:List Row}->VV k G=true->ab ρ ((k,par,rj,b)::T) G=ab ρ T G
 |[],_=>rfl
 |r::G,h=>by simp only [VV,ah] at h;simp only [ab,er];rw [Row.DV (Au h.1)];have:=LN (ρ:=ρ) (par:=par) (rj:=rj) (b:=b) (T:=T) h.2;simp only [ab] at this;rw [this]
theorem O2{k:Nat×Bool}:{E:aG}->Kx k E=true->{t:Nat}->{x:GK×AV}->bE E t=some x->DE k x.1=true
 |[],_,_,_,h=>by cases h
 |(r,g,v)::E,h,t,x,hx=>by
  simp only [Kx,ah] at h;unfold bE at hx;rcases dT hx with ⟨_,a⟩|⟨_,a⟩
  .cases a;exact h.1
  .exact O2 h.2 a
def VL(k:Nat×Bool):aD->Bool
 |[]=>false
 |x::T=>GK.eq (some k) (some x.1)||VL k T
def pn(d:zu):aD->Bool
 |[]=>true
 |x::T=>(match d with
  |none=>true
  |some d=> !(Nat.beq d x.2.2.1))&&pn d T
def pM(ops:zz)(n:Nat)(T:aD):Prop:= ∀x,x∈T->(ops[x.1.1]?).bind (·.dst)=some x.2.2.1/\Nat.blt x.2.2.1 n=true
def FT(T:aD)(fr:Fr):Prop:=(∀x,x∈fr.F->T.get x.2.1=aD.get [] x.2.1)/\∀r,r∈fr.H->T.get r.gd=aD.get [] r.gd
def stepG{R:Type}(ops:zz)(T:aD)(fr:Fr)(st:aE)(o:Oper)(run:aD->GK->Option R):Option R:=
 aC (jc o&&Pv fr.n o.dst) (match o.guard with
 |none=>aC ( pn o.dst T ) ( run T none ) none
 |some k=>aC ( VL k T ) ( aC ( pn o.dst T ) ( run T (some k) ) none )<|match ops[k.1]? with
  |some oj=>(match oj.dst with
   |some rj=>(match ek st.E fr.F rj with
    |some (par,.bool b)=>aC ( Nat.blt rj fr.n&&Kx k st.E&&Kx k fr.F&&VV k st.G&&VV k fr.H&&alX k T&&pn o.dst ((k,par,rj,b)::T) ) ( run ((k,par,rj,b)::T) (some k) ) none
    |_=>none)
   |none=>none)
  |none=>none) none
structure amA(ops:zz)(fr0 fr:Fr)(st:aE)(ρ:aB)(o:Oper)(T T':aD)(g:GK):Prop where
 pl:jc o=true
 ds:Pv fr.n o.dst=true
 t1:fM T' st.E fr.F
 t2:pM ops fr.n T'
 ft:FT T' fr0
 ak:pn o.dst T'=true
 ee:aG.env ρ T' st.E=aG.env ρ T st.E
 ef:aG.env ρ T' fr.F=aG.env ρ T fr.F
 eg:ab ρ T' st.G=ab ρ T st.G
 eh:ab ρ T' fr.H=ab ρ T fr.H
 gg:o.guard=g
 gk:∀k,g=some k->∃rj par b,(ops[k.1]?).bind (·.dst)=some rj/\look (az ρ T' st.E fr.F) rj=some (T'.get par,.bool b)/\Nat.blt rj fr.n=true/\(T'.get par&&(b==k.2))=T'.get g
theorem aiK{k:Nat×Bool}:{T:aD}->VL k T=true->∃x,x∈T/\x.1=k
 |[],h=>by cases h
 |x::T,h=>by
  simp only [VL,eF] at h;rcases h with h|h
  .have:=GK.eq_eq h;cases this;exact ⟨x,ct .., rfl⟩
  .obtain ⟨y,b,a⟩:=aiK h;exact ⟨y,cb _ b,a⟩
theorem aiZ{k:Nat×Bool}:{T:aD}->alX k T=true->∀x,x∈T->DE k (some x.1)=true/\DE k x.2.1=true
 |[],_,x,h=>by cases h
 |y::T,h,x,hx=>by
  simp only [alX,ah] at h;rcases List.mem_cons.1 hx with rfl|hx
  .exact h.1
  .exact aiZ h.2 x hx
theorem ajm{k:Nat×Bool}:{E:aG}->Kx k E=true->∀x,x∈E->DE k x.2.1=true
 |[],_,x,h=>by cases h
 |y::T,h,x,hx=>by
  simp only [Kx,ah] at h;rcases List.mem_cons.1 hx with rfl|hx
  .exact h.1
  .exact ajm h.2 x hx
theorem aja{k:Nat×Bool}:{E:List Row}->VV k E=true->∀x,x∈E->DE k x.gd=true
 |[],_,x,h=>by cases h
 |y::T,h,x,hx=>by
  simp only [VV,ah] at h;rcases List.mem_cons.1 hx with rfl|hx
  .exact h.1
  .exact aja h.2 x hx
theorem aeO{R:Type}{r:R}{ops:zz}{T:aD}{fr0 fr:Fr}{st:aE}{o:Oper}{run:aD->GK->Option R}{ρ:aB}(v:fM T st.E fr.F)(u:pM ops fr.n T)(y:fr0.F=fr.F)(w:∀r,r∈fr0.H->r∈fr.H)(q:FT T fr0)(h:stepG ops T fr st o run=some r):
  ∃T' g,run T' g=some r/\amA ops fr0 fr st ρ o T T' g:=by
 unfold stepG at h;obtain ⟨f,A⟩:=aI h;simp only [ah] at f;have jP:∀k x,x∈T->x.1=k->∃rj par b,(ops[k.1]?).bind (·.dst)=some rj/\look (az ρ T st.E fr.F) rj=some (T.get par,.bool b)/\Nat.blt rj fr.n=true/\(T.get par&&(b==k.2))=T.get (some k):=λk x hx m=>by subst m;obtain ⟨I,G⟩:=v x hx;obtain ⟨D,C⟩:=u x hx;exact ⟨x.2.2.1,x.2.1,x.2.2.2,D,by rw [hZ,I];simp [AV.val],C,by rw [G,Qb]⟩
 split at A
 next p=>obtain ⟨t,d⟩:=aI A;exact ⟨T,none,d,⟨f.1,f.2,v,u,q,t,rfl,rfl,rfl,rfl,p,λk m=>by cases m⟩⟩
 .rename_i k p;rcases dT A with ⟨t,d⟩|⟨t,d⟩
  .obtain ⟨s,z⟩:=aI d;obtain ⟨x,hx,m⟩:=aiK t;exact ⟨T,some k,z,⟨f.1,f.2,v,u,q,s,rfl,rfl,rfl,rfl,p,λM e=>by cases e;exact jP k x hx m⟩⟩
  .split at d
   .rename_i oj l;split at d
    .rename_i rj i;split at d
     .rename_i par b a;obtain ⟨s,z⟩:=aI d;simp only [ah] at s;obtain ⟨⟨⟨⟨⟨⟨L,K⟩,B⟩,P⟩,J⟩,O⟩,N⟩:=s;have j:DE k par=true:=by
       unfold ek at a;split at a
       next x hx=>cases a;exact O2 K hx
       .exact O2 B a
      have c:aD.get ((k,par,rj,b)::T) (some k)=(aD.get ((k,par,rj,b)::T) par&&yZ k.2 b):=by rw [aD.aq7,Au j]
      have ee:=Us (ρ:=ρ) (par:=par) (rj:=rj) (b:=b) (T:=T) K;have ef:=Us (ρ:=ρ) (par:=par) (rj:=rj) (b:=b) (T:=T) B;refine ⟨(k,par,rj,b)::T,some k,z,⟨f.1,f.2,λx hx=>?_,λx hx=>?_,⟨λx hx=>?_,λx hx=>?_⟩,N,ee,ef,LN P,LN J,p,λM e=>?_⟩⟩
      .rcases List.mem_cons.1 hx with rfl|hx
       .exact ⟨a,c⟩
       .obtain ⟨I,G⟩:=v x hx;obtain ⟨D,C⟩:=aiZ O x hx;exact ⟨I,by rw [Au D,Au C];exact G⟩
      .rcases List.mem_cons.1 hx with rfl|hx
       .exact ⟨by simp [l,i],L⟩
       .exact u x hx
      .rw [Au (ajm B x (y▸hx))];exact q.1 x hx
      .rw [Au (aja J x (w x hx))];exact q.2 x hx
      .cases e;refine ⟨rj,par,b,by simp [l,i],?_,L,by rw [c,Qb]⟩;rw [hZ,a];simp [AV.val]
     .cases d
    .cases d
   .cases d
theorem abG{d:zu}:{T:aD}->pn d T=true->∀x,x∈T->∀(g:GK) (v:AV) (E F:aG),ek (cL d g v E) F x.2.2.1=ek E F x.2.2.1
 |[],_,x,h=>by cases h
 |y::T,h,x,hx=>λg v E F=>by
  simp only [pn,ah] at h;rcases List.mem_cons.1 hx with rfl|hx
  .cases d with
   |none=>rfl
   |some d=>
    have a:=h.1;simp only [gj] at a;unfold ek;simp only [cL,bE,a]
  .exact abG h.2 x hx g v E F
theorem fM.out{T:aD}{E F:aG}(h:fM T E F){d:zu}(a:pn d T=true)(g:GK)(v:AV):fM T (cL d g v E) F:=λx hx=>by rw [abG a x hx];exact h x hx
theorem vT{ρ:aB}{T:aD}{g:GK}{v:AV}{E F:aG}:az ρ T (cL d g v E) F=se d (T.get g) (v.val ρ) (az ρ T E F):=by cases d <;> rfl
section
variable {X : Cx} {tb : List au} {σ : zt} {Q : bD} {D : zm} {ops : zz} {rest : zz} {R : Type} {r : R} {T : aD} {fr : Fr} {st : aE} {ρ : aB} {Φ : Ctx} {w : World}
theorem agR{fr0:Fr}{o:Oper}{K:aD->cT R}(O:fM T st.E fr.F)(N:pM ops fr.n T)(q:fr0.F=fr.F)(p:∀r,r∈fr0.H->r∈fr.H)(L:FT T fr0)(I:Sat (ab ρ T st.G++(ab ρ T fr.H++Φ)) w)(i:∀it∈X.Γ,it∈Φ)(j:∀e∈tb,e.Ok X.P X.Γ)
  (h:stepG ops T fr st o (λT g=>opD X tb T fr st g o (K T))=some r)
  (next:∀T' st' ρ' w',fM T' st'.E fr.F->pM ops fr.n T'->FT T' fr0->aW st.c ρ ρ'->st.c<=st'.c->K T' st'=some r->ab ρ' T' fr.H=ab ρ T fr.H->Sat (ab ρ' T' st'.G++(ab ρ' T' fr.H++Φ)) w'->WL X.P σ ops.toArray Q fr.n D rest (az ρ' T' st'.E fr.F) w'):
  WL X.P σ ops.toArray Q fr.n D (o::rest) (az ρ T st.E fr.F) w:=by
 obtain ⟨T',g,J,a⟩:=aeO (ρ:=ρ) O N q p L h;have l:Sat (ab ρ T' st.G++(ab ρ T' fr.H++Φ)) w:=by rw [a.eg,a.eh];exact I
 have M:az ρ T st.E fr.F=az ρ T' st.E fr.F:=by rw [az,az,a.ee,a.ef]
 rw [M];have d:=auT a.t1 l i j J;have f:∀v w',aY r (K T') T' fr st g o.dst ρ Φ v w'->WL X.P σ ops.toArray Q fr.n D rest (se o.dst (T'.get g) v (az ρ T' st.E fr.F)) w':=λv w' C=>by obtain ⟨ρ',st',av,B,A,z,s,y,x,u,t⟩:=C;have:=next T' st' ρ' w' (by rw [s];exact a.t1.out a.ak g av) a.t2 a.ft A z B (u.trans a.eh) t;rw [s,vT,y,x] at this;exact this
 cases m:g with
 |none=>
  subst m;have:=f;rw [aD.get_none] at this;exact asy (d.1 aD.get_none) a.pl a.gg a.ds this
 |some k=>
  obtain ⟨rj,par,b,W,V,U,S⟩:=a.gk k m;subst m;exact aqz d.1 d.2 a.pl a.gg (by simpa using W) V U S a.ds f
end
def tu{α:Type}:Option α->Bool
 |none=>true
 |some _=>false
def ou(E0:aG):aG->aG
 |[]=>[]
 |x::E=>(match bE E0 x.1 with
  |some (none,_)=>aC (tu x.2.1) (x::ou E0 E) (ou E0 E)
  |_=>ou E0 E)
def l8:List Row->List Row
 |[]=>[]
 |r::G=>aC (tu r.gd) (r::l8 G) (l8 G)
def AP(T:aD)(st:aE):aE:=match T with
 |[]=>st
 |_::_=>{ st with E:=ou st.E st.E,G:=l8 st.G }
theorem iN{t' t:Nat}{g:GK}{v:AV}{E:aG}(h:Nat.beq t' t=true):bE ((t',g,v)::E) t=some (g,v):=by simp only [bE,h]
theorem fC{t' t:Nat}{g:GK}{v:AV}{E:aG}(h:Nat.beq t' t=false):bE ((t',g,v)::E) t=bE E t:=by simp only [bE,h]
theorem HW{d:aG}{t:Nat}:{E:aG}->{x:GK×AV}->bE (ou d E) t=some x->x.1=none/\(∃v,bE d t=some (none,v))/\((∃v,bE E t=some (none,v))->bE E t=some x)
 |[],x,h=>by cases h
 |(t',g',v')::E,x,h=>by
  unfold ou at h;have cE:bE (ou d E) t=some x->(∀v,Nat.beq t' t=true->bE d t'≠some (none,v)\/g'≠none)->x.1=none/\(∃v,bE d t=some (none,v))/\((∃v,bE ((t',g',v')::E) t=some (none,v))->bE ((t',g',v')::E) t=some x):=λn j=>by
   obtain ⟨a,c,m⟩:=HW n;refine ⟨a,c,λf=>?_⟩;cases hb:Nat.beq t' t
   .rw [fC hb] at f ⊢; exact m f
   .exfalso;obtain ⟨k,i⟩:=c;obtain ⟨o,b⟩:=f;rw [iN hb] at b;simp only [cH,p8] at b;have e:=ai hb;rcases j k hb with g|g
    .rw [e] at g;exact g i
    .exact g b.1
  dsimp only at h;split at h
  .rename_i v f;cases a:tu g'
   .rw [a] at h;exact cE h (λv _=> .inr (λe=>by rw [e] at a;cases a))
   .rw [a] at h;have c:bE ((t',g',v')::ou d E) t=some x:=h;cases hb:Nat.beq t' t
    .rw [fC hb] at c ⊢;exact HW (E:=E) c
    .rw [iN hb] at c ⊢;cases c;have e:=ai hb;refine ⟨?_,⟨v,by rw [<-e];exact f⟩,λ_=>rfl⟩;cases l:g' with
     |none=>rfl
     |some _=>rw [l] at a;cases a
  next j=>exact cE h (λv hb=> .inl (λe=>j v e))
theorem SH{a:aG}{t:Nat}{c:AV}(b:bE a t=some (none,c)):{E:aG}->{v:AV}->bE E t=some (none,v)->bE (ou a E) t=some (none,v)
 |[],v,h=>by cases h
 |(t',g',v')::E,v,h=>by
  unfold ou;cases hb:Nat.beq t' t
  .rw [fC hb] at h;have ih:=SH b h;dsimp only;split
   .cases tu g'
    .exact ih
    .show bE ((t',g',v')::ou a E) t=_;rw [fC hb];exact ih
   .exact ih
  .rw [iN hb] at h;cases h;have e:=ai hb;subst e;dsimp only;rw [b];exact iN hb
def adt(F E0:aG):aG->Bool
 |[]=>true
 |x::E=>(match bE E0 x.1 with
  |some (none,_)=>true
  |_=>tu (bE F x.1))&&adt F E0 E
theorem afk{F c:aG}{t:Nat}:{E:aG}->{x:GK×AV}->adt F c E=true->bE E t=some x->(∃v,bE c t=some (none,v))\/bE F t=none
 |[],x,_,h=>by cases h
 |(t',g',v')::E,x,hb,h=>by
  simp only [adt,ah] at hb;cases b:Nat.beq t' t
  .rw [fC b] at h;exact afk hb.2 h
  .have e:=ai b;subst e;have a:=hb.1;split at a
   next v d=>exact .inl ⟨v,d⟩
   .cases f:bE F t' with
    |none=>exact .inr rfl
    |some y=>rw [f] at a;cases a
def EU(T:aD)(fr:Fr)(st:aE):Bool:=match T with
 |[]=>true
 |_::_=>adt fr.F st.E st.E
theorem apJ{ρ:aB}{T:aD}{E:aG}(h:∀x,x∈E->T.get x.2.1=aD.get [] x.2.1):aG.env ρ T E=aG.env ρ [] E:=by
 induction E with
 |nil=>rfl
 |cons x E ih=>
  obtain ⟨t,g,v⟩:=x;simp only [aG.env];rw [h _ (ct ..),ih (λx hx=>h x (cb _ hx))]
theorem XO{ρ:aB}{T:aD}{G:List Row}(h:∀r,r∈G->T.get r.gd=aD.get [] r.gd):ab ρ T G=ab ρ [] G:=
 qB λr a=>Row.DV (h r a)
theorem AZ:{G:List Row}->∀r,r∈l8 G->r.gd=none
 |[],r,h=>by cases h
 |y::G,r,h=>by
  unfold l8 at h;cases a:tu y.gd
  .rw [a] at h;exact AZ r h
  .rw [a] at h;rcases List.mem_cons.1 h with rfl|h
   .cases b:r.gd with
    |none=>rfl
    |some _=>rw [b] at a;cases a
   .exact AZ r h
theorem C9{ρ:aB}{T:aD}{w:World}{B:Ctx}:∀{G:List Row} {A:Ctx},Sat (A++(ab ρ T G++B)) w->Sat (A++(ab ρ T (l8 G)++B)) w
 |[],_,h=>h
 |r::G,A,h=>by
  unfold l8;cases tu r.gd
  .exact C9 (G:=G) (Sat.Dc h)
  .have a:Sat ((A++[r.item ρ T])++(ab ρ T G++B)) w:=by simpa [ab] using h
   have:=C9 (G:=G) a;simpa [ab] using this
theorem Ke{ρ:aB}{T:aD}{fr:Fr}{st:aE}{Φ:Ctx}{w:World}(l:EU T fr st=true)(h:FT T fr)(g:Sat (ab ρ T st.G++(ab ρ T fr.H++Φ)) w):
  (AP T st).c=st.c/\j9 (az ρ [] (AP T st).E fr.F) (az ρ T st.E fr.F)/\Sat (ab ρ [] (AP T st).G++(ab ρ [] fr.H++Φ)) w:=by
 cases T with
 |nil=>exact ⟨rfl,j9.refl,g⟩
 |cons x T=>
  refine ⟨rfl,λt p hp=>?_,?_⟩
  .have s:aG.env ρ (x::T) fr.F=aG.env ρ [] fr.F:=apJ h.1;rw [az,HS] at hp ⊢;rw [s];cases b:look (aG.env ρ [] (AP (x::T) st).E) t with
   |none=>
    rw [b] at hp
    -- nothing kept: nothing told, or under a guard
    have:look (aG.env ρ (x::T) st.E) t=none:=by
     rw [vR] at b hp ⊢;cases k:bE st.E t with
     |none=>rfl
     |some y=>
      exfalso;have d:bE (ou st.E st.E) t=none:=by
       cases d:bE (ou st.E st.E) t with
       |none=>rfl
       |some z=>
        have:bE (AP (x::T) st).E t=some z:=d;rw [this] at b;cases b
      rcases afk l k with ⟨v,f⟩|j
      .rw [SH f f] at d;cases d
      .rw [j] at hp;cases hp
    rw [this];exact hp
   |some q=>
    rw [b] at hp;cases hp;rw [vR] at b;cases d:bE (AP (x::T) st).E t with
    |none=>rw [d] at b;cases b
    |some y=>
     rw [d] at b;obtain ⟨e,o,n⟩:=HW d;have m:=n o;rw [vR,m];simp only [mj,cH] at b ⊢;rw [<-b,e,aD.get_none,aD.get_none]
  .have e:=C9 (A:=[]) g;have e1:ab ρ (x::T) (l8 st.G)=ab ρ [] (l8 st.G):=XO λr i=>by rw [AZ r i,aD.get_none,aD.get_none]
   have e2:ab ρ (x::T) fr.H=ab ρ [] fr.H:=XO h.2;rw [qs,e1,e2] at e;exact e
def rY:Bool->Pt->List (Bool×Nat×Pt)->Type
 |true,_,_=>Empty
 |false,r,os=>fA (og r++iG os)
abbrev ava{R:Type}:(nv:Bool)->(r:Pt)->(os:List (Bool×Nat×Pt))->rY nv r os->(fA (og r++iG os)->Option R)->Option R
 |true,_,_,x,_=>Empty.elim x
 |false,_,_,x,K=>K x
def isOk:(nv:Bool)->(r:Pt)->(os:List (Bool×Nat×Pt))->rY nv r os->fA (og r++iG os)->Prop
 |true,_,_,_,_=>False
 |false,_,_,x,q=>x=q
theorem as0{R:Type}{a:R}:{nv:Bool}->{r:Pt}->{os:List (Bool×Nat×Pt)}->{x:rY nv r os}->{q:fA (og r++iG os)}->{K:fA (og r++iG os)->Option R}->isOk nv r os x q->ava nv r os x K=some a->K q=some a
 |true,_,_,_,_,_,h,_=>h.elim
 |false,_,_,_,_,_,rfl,h=>h
abbrev Wf(p:Pt):Option Pt->Type
 |none=>fA (og p)
 |some q=>fA (og p) ⊕ fA (og q)
abbrev afq{A B R:Type}(x:A ⊕ B)(f:A->R)(g:B->R):R:=match x with
 | .inl a=>f a
 | .inr b=>g b
def aoO(pp:Pt):(pq:Option Pt)->Wf pp pq->Value->fJ->kr->List Nm->Prop
 |none,p,v,I,X,N=>Sem pp v none none [] (ic _ p) I X N
 |some _,.inl p,v,I,X,N=>Sem pp v none none [] (ic _ p) I X N
 |some q,.inr p,v,I,X,N=>Sem q v none none [] (ic _ p) I X N
structure bO where
 f:FuncId
 ps:List Pt
 pp:Pt
 pq:Option Pt
 nv:Bool
 lp:Bool
 r:Pt
 os:List (Bool×Nat×Pt)
 m:fA (oL ps)->Option (Except (Wf pp pq) (rY nv r os))
def bO.oe(e:bO):au:=⟨e.f,e.ps,e.r,e.os,λ_=>none⟩
def bO.S(e:bO)(vs:zq)(N:List Nm)(I:fJ)(X:kr)(Φ:Ctx)(r:Except (Wf e.pp e.pq) (rY e.nv e.r e.os))(v:Value)(w':World):Prop:=
 ∃x q,r= .ok x/\isOk e.nv e.r e.os x q/\∃(N1 N2:List Nm) (D1 D2:List cn) (I1 I2:fJ) (X1 X2:kr),Sem e.r v none none N D1 I1 X1 N1/\HZ (Yj N e.ps vs X) (λi=>vs[i]?) e.os N1 D2 I2 X2 N2/\D1++D2=ic _ q/\
  Sat ((dM I1++dM I2)++(fK I++Φ)) w'
def bO.Sp(e:bO)(I:fJ)(Φ:Ctx)(r:Except (Wf e.pp e.pq) (rY e.nv e.r e.os))(c:zj)(w':World):Prop:=
 ∃p,r= .error p/\∃(v:Value) (N1:List Nm) (I1:fJ) (X1:kr),c=je v/\aoO e.pp e.pq p v I1 X1 N1/\Sat (dM I1++(aC e.lp [] (fK I)++Φ)) w'
def bO.Ok(P:Program)(Γg:Ctx)(e:bO):Prop:=Enters P e.f/\∀s r,e.m s=some r->∀(vs:zq) (N:List Nm) (I:fJ) (X:kr) (Φ:Ctx) (w:World),
 xA e.ps vs [] [] [] (ic _ s) I X N->Sat (dM I++Φ) w->(∀it∈Γg,it∈Φ)->mV P e.f vs w (e.S vs N I X Φ r) (e.Sp I Φ r)
theorem Sat.move{A B C:Ctx}{x:Item}{w:World}(h:Sat (A++x::(B++C)) w):Sat (A++(B++x::C)) w:=by
 refine h.C5 (λj k=>(j<A.length/\k=j)\/(A.length<=j/\j<A.length+B.length/\k=j+1)\/(j=A.length+B.length/\k=A.length)\/(A.length+B.length<j/\k=j)) (λj jt a=>?_) (λj k q b i g=>by omega);by_cases e:j<A.length
 .rw [cy e] at a;exact .inr ⟨j,jt,.inl ⟨e,rfl⟩,by rw [cy e];exact a,cd.refl⟩
 .rw [ca (by omega)] at a;by_cases e2:j<A.length+B.length
  .rw [cy (by omega)] at a;refine .inr ⟨j+1,jt,.inr (.inl ⟨by omega,e2,rfl⟩),?_,cd.refl⟩;rw [ca (by omega)];have:j+1-A.length=(j-A.length)+1:=by omega
   rw [this,c8,cy (by omega)];exact a
  .rw [ca (by omega)] at a;by_cases e3:j=A.length+B.length
   .subst e3;rw [show A.length+B.length-A.length-B.length=0 by omega] at a;simp at a;subst a;exact .inr ⟨A.length,x,.inr (.inr (.inl ⟨rfl,rfl⟩)),by simp,cd.refl⟩
   .refine .inr ⟨j,jt,.inr (.inr (.inr ⟨by omega,rfl⟩)),?_,cd.refl⟩;rw [ca (by omega)];have f:j-A.length-B.length=(j-A.length-B.length-1)+1:=by omega
    rw [f,c8] at a;have d:j-A.length=(j-A.length-1)+1:=by omega
    rw [d,c8,ca (by omega)];have c:j-A.length-1-B.length=j-A.length-B.length-1:=by omega
    rw [c];exact a
theorem Sat.swp{w:World}{B C:Ctx}:∀{A P:Ctx},Sat (P++(A++(B++C))) w->Sat (P++(B++(A++C))) w
 |[],_,h=>h
 |x::A,P,h=>by
  have c:Sat ((P++[x])++(A++(B++C))) w:=by simpa using h
  have b:=Sat.swp (A:=A) c;have a:Sat (P++x::(B++(A++C))) w:=by simpa using b
  exact a.move
def dD:List Row->List Row
 |[]=>[]
 |r::G=>aC r.cV (r::dD G) (dD G)
abbrev IJ(b:Bool)(H:List Row):List Row:=aC b (dD H) H
theorem GG{c:Nat}:{G:List Row}->bI c G=true->bI c (dD G)=true
 |[],_=>rfl
 |r::G,h=>by
  simp only [bI,ah] at h;unfold dD;cases r.cV
  .exact GG h.2
  .show bI c (r::dD G)=true;simp only [bI,ah];exact ⟨h.1,GG h.2⟩
theorem asZ{c:Nat}{b:Bool}{G:List Row}(h:bI c G=true):bI c (IJ b G)=true:=by
 cases b
 .exact h
 .exact GG h
theorem sq{r:Row}:{G:List Row}->r∈dD G->r∈G/\r.cV=true
 |[],h=>by cases h
 |x::G,h=>by
  unfold dD at h;cases hx:x.cV <;> rw [hx] at h
  .exact ⟨cb _ (sq h).1,(sq h).2⟩
  .rcases List.mem_cons.1 h with rfl|h
   .exact ⟨ct .., hx⟩
   .exact ⟨cb _ (sq h).1,(sq h).2⟩
theorem O4{G H:List Row}:dD (G++H)=dD G++dD H:=by
 induction G with
 |nil=>rfl
 |cons r G ih=>
  show aC r.cV (r::dD (G++H)) (dD (G++H))=aC r.cV (r::dD G) (dD G)++dD H;rw [ih];cases r.cV <;> rfl
theorem anz{ρ:aB}{T:aD}{w:World}{Γ:Ctx}(h:Sat Γ w){H:List Row}(d:∀r∈H,r.item ρ T∈Γ):Sat (ab ρ T (dD H)++Γ) w:=by
 refine h.aqH _ (List.all_eq_true.2 λit a=>?_) ?_
 .obtain ⟨r,b,rfl⟩:=List.mem_map.1 a;exact Row.anW (sq b).2
 .have:∀l:List Item,(∀it∈l,it.P Γ.M w)->ajY Γ.M w l:=λl=>by
   induction l with
   |nil=>intro _;trivial
   |cons x l ih=>intro c;exact ⟨c x (ct ..),ih λit a=>c it (cb _ a)⟩
  refine this _ λit a=>?_;obtain ⟨r,b,rfl⟩:=List.mem_map.1 a;exact h.all _ (d r (sq b).1)
theorem asr{L:zh}{A B:Ctx}(h:∀i,some i∈L->i<A.length):∃a,jJ L (A++B)=a++B/\a.length=A.length:=by
 induction L with
 |nil=>exact ⟨A,rfl,rfl⟩
 |cons o L ih=>
  obtain ⟨a,e1,e2⟩:=ih (λi hi=>h i (cb _ hi));cases o with
  |none=>exact ⟨a,e1,e2⟩
  |some i=>
   refine ⟨a.set i gS,?_,by rw [oi,e2]⟩;show (jJ L (A++B)).set i gS=_;have:=h i (ct ..);rw [e1,List.set_append_left _ _ (by omega)]
theorem Sat.O6{w:World}{B C:Ctx}:∀{A:Ctx},Sat (B++(A++C)) w->Sat (B++C) w
 |[],h=>h
 |_x::A,h=>Sat.O6 (A:=A) (Sat.Dc h)
def OV{R:Type}(st:aE)(pp:Pt)(G1:List Row)(KP:AV->aE->Option R)(p:fA (og pp)):Option R:=
 match fill (uN [] st.c) pp none none 0 (ic _ p) with
 |⟨v,R1,k,_,_⟩=>KP v { st with c:=st.c+k,G:=R1.map (·.2)++G1 }
abbrev anm{R:Type}(st:aE)(pp:Pt):(pq:Option Pt)->(G1:List Row)->(KP:AV->aE->Option R)->Wf pp pq->Option R
 |none,G1,KP,p=>OV st pp G1 KP p
 |some q,G1,KP,p=>afq p (OV st pp G1 KP) (OV st q G1 KP)
def afW{R:Type}(fr:Fr)(st:aE)(d:zu)(args:List AV)(e:bO)(KP:Bool->AV->aE->Option R)(K:cT R):Option (Option R):=
 match JA (cP (eQ st.G fr.H e.ps args) st.G) fr.H e.ps args [] [] [] with
  |some mr=>aC (Ew (mr.S.map λx=>dL (cP (eQ st.G fr.H e.ps args) st.G) fr.H x.2)&&Sm (cP (eQ st.G fr.H e.ps args) st.G).length (B0 (cP (eQ st.G fr.H e.ps args) st.G) fr.H mr.S)&&SO st.c mr.B&&AV.cm st.c args&&VJ st.c mr.X&&tH (yH mr.B e.ps args mr.X) e.os) (match cB (oL e.ps) mr.D with
   |some s=>some (my (e.m s) (anm st e.pp e.pq (aC e.lp (dD (cP (eQ st.G fr.H e.ps args) st.G)) (lj (tQ (B0 (cP (eQ st.G fr.H e.ps args) st.G) fr.H mr.S) 0 (cP (eQ st.G fr.H e.ps args) st.G)))) (KP e.lp))
     (λx=>ava e.nv e.r e.os x (Qe fr st none d args e.oe mr (lj (tQ (B0 (cP (eQ st.G fr.H e.ps args) st.G) fr.H mr.S) 0 (cP (eQ st.G fr.H e.ps args) st.G))) K)))
   |none=>none) none
  |none=>none
def NY{R:Type}(fr:Fr)(st:aE)(d:zu)(f:FuncId)(args:List AV)(KP:Bool->AV->aE->Option R)(K:cT R):List bO->Option (Option R)
 |[]=>none
 |e::tp=>aC (Nat.beq e.f f) (match afW fr st d args e KP K with
   |some r=>some r
   |none=>NY fr st d f args KP K tp) (NY fr st d f args KP K tp)
def al0{R:Type}(tp:List bO)(T:aD)(fr:Fr)(st:aE)(o:Oper)(KP:Bool->AV->aE->Option R)(K:cT R):Option (Option R):=match o.guard with
 |some _=>none
 |none=>(match o.op with
  | .panic x=>(match bC T st.E fr.F none x with
   |some (.ifc t v)=>some (KP false (.ifc t v) st)
   |_=>none)
  | .call c=>(match c.callee with
   | .value fo=>(match bC T st.E fr.F none fo with
    |some (.fn f a b)=>(match sy T st.E fr.F none c.args.toList with
     |some vs=>aC (pn o.dst T&&Pv fr.n o.dst&&st.low fr) (NY fr st o.dst f (a++vs++b) KP K tp) none
     |none=>none)
    |_=>none)
   |_=>none)
  |_=>none)
section
variable {P : Program} {R : Type} {r : R} {K : cT R} {KP : Bool -> AV -> aE -> Option R} {b : Bool} {T : aD} {fr : Fr} {st : aE} {d : zu} {ρ : aB} {Φ Γg : Ctx} {w : World}
def aep(r:R)(KP:Bool->AV->aE->Option R)(T:aD)(fr:Fr)(st:aE)(ρ:aB)(Φ:Ctx)(v:Value)(w':World):Prop:=
 ∃(b:Bool) (ρ':aB) (st':aE) (av:AV),KP b av st'=some r/\aW st.c ρ ρ'/\st.c<=st'.c/\st'.E=st.E/\av.val ρ'=v/\Sat (ab ρ' T st'.G++(ab ρ' T (IJ b fr.H)++Φ)) w'/\az ρ' T st.E fr.F=az ρ T st.E fr.F
theorem LW{pp:Pt}{f:List Row}{p:fA (og pp)}{v:Value}{w':World}{e:List Nm}{m:fJ}{x:kr}
  (u:st.low fr=true) (o:bI st.c f=true) (w:Sem pp v none none [] (ic _ p) m x e)
  (z:Sat (dM m++(ab ρ T f++(ab ρ T (IJ b fr.H)++Φ))) w') (h:OV st pp f (KP b) p=some r):aep r KP T fr st ρ Φ v w':=by
 have n:=wI _ _ _ _ _ _ _ _ _ w;have d:=abh (ρ:=ρ) (c:=st.c) (N:=[]) (B:=[]) (N2:=e) .nil n rfl;have a:aW st.c ρ (λi=>aC (Nat.blt i st.c) (ρ i) ((e[i-st.c]?).getD df)):=λj D=>by
  have:Nat.blt j st.c=true:=by simpa using D
  simp only [this]
 generalize y:(λi=>aC (Nat.blt i st.c) (ρ i) ((e[i-st.c]?).getD df))=ρ' at d a;obtain ⟨l,t,s,q,g⟩:=Dl (T:=T) pp v none none [] (ic _ p) m x e w (Ho _) d (by simp) [];rw [hV,qg] at l t s q g;unfold OV at h;generalize fill (uN [] st.c) pp none none 0 (ic _ p)=L at l t s q g h;obtain ⟨v',F,k,I,G⟩:=L;simp only at l t s q g;dsimp only at h;have e3:=bh (T:=T) a o;have E:=bh (T:=T) a (asZ (b:=b) (aE.cS.1 u).2.2.2);refine ⟨b,ρ',_,v',h,a,qO _ _,rfl,l,?_,oY u a⟩;show Sat (ab ρ' T (F.map (·.2)++f)++(ab ρ' T (IJ b fr.H)++Φ)) w';rw [bp,e3,E,b0];exact Sat.leL (A:=[]) (B:=dM m) (C:=ab ρ T f++(ab ρ T (IJ b fr.H)++Φ)) (by simpa using z) g.rw
theorem Ye{pp:Pt}:{pq:Option Pt}->{a:List Row}->{p:Wf pp pq}->{v:Value}->{w':World}->{f:List Nm}->{d:fJ}->{e:kr}->
  st.low fr=true->bI st.c a=true->aoO pp pq p v d e f->Sat (dM d++(ab ρ T a++(ab ρ T (IJ b fr.H)++Φ))) w'->anm st pp pq a (KP b) p=some r->aep r KP T fr st ρ Φ v w'
 |none,_,_,_,_,_,_,_,hl,hG,h1,hs,h=>LW hl hG h1 hs h
 |some _,_,.inl _,_,_,_,_,_,hl,hG,h1,hs,h=>LW hl hG h1 hs h
 |some _,_,.inr _,_,_,_,_,_,hl,hG,h1,hs,h=>LW hl hG h1 hs h
theorem anI{e:bO}{args:List AV}(hl:st.low fr=true)(n:Sat (ab ρ T st.G++(ab ρ T fr.H++Φ)) w)(he:e.Ok P Γg)(l:∀it∈Γg,it∈Φ)(h:afW fr st d args e KP K=some (some r)):
  mV P e.f (AV.ar ρ args) w (aY r K T fr st none d ρ Φ) (λc w'=>∃v,c=je v/\aep r KP T fr st ρ Φ v w'):=by
 have F:=tq (ids:=eQ st.G fr.H e.ps args) (aE.cS.1 hl).2.2.1;replace n:=kh (ids:=eQ st.G fr.H e.ps args) n;unfold afW at h;generalize cP (eQ st.G fr.H e.ps args) st.G=a at F n h;have hd:=anz n (H:=a++fr.H) (λr hr=>List.mem_append.2 ((List.mem_append.1 hr).imp (λh=>List.mem_map_of_mem h) (λh=>qk _ (List.mem_map_of_mem h))));replace hd:Sat (ab ρ T a++(ab ρ T fr.H++(ab ρ T (dD (a++fr.H))++Φ))) w:=by exact Sat.swp (P:=ab ρ T a) (Sat.swp (P:=[]) hd)
 have Q:=l;replace l:∀it∈Γg,it∈ab ρ T (dD (a++fr.H))++Φ:=λit E=>gx _ (Q it E);generalize O:ab ρ T (dD (a++fr.H))++Φ=g at hd l;have hdr:∀{A:Ctx} {w':World},Sat (A++g) w'->Sat (A++Φ) w':=λ{A w'} h=>by rw [<-O] at h;exact Sat.O6 h
 replace n:=hd;split at h
 .rename_i m hm;obtain ⟨h1,h2⟩:=aI h;simp only [ah] at h1;obtain ⟨⟨⟨⟨⟨h3,h4⟩,h5⟩,h6⟩,h7⟩,h9⟩:=h1;split at h2
  .rename_i s R;simp only [cH] at h2;obtain ⟨N,I,s1,n1,a1⟩:=BA n e.ps args [] [] [] m [] hm (.inl rfl) .nil;rw [<-Di _ R] at s1;obtain ⟨p1,p2⟩:=Qi n a1;have o:=AD h3;obtain ⟨q1,_⟩:=y8 n p1 o;have M:∀(L:zh) (G:List Row) (k:Nat),bI st.c G=true->bI st.c (lj (tQ L k G))=true:=λL G=>by
    induction G with
    |nil=>intro k _;rfl
    |cons r G ih=>
     intro k Y;simp only [bI,ah] at Y;show bI st.c (lj ((aC (la k L) .gone r)::tQ L (k+1) G))=true;cases la k L
     .cases r <;> first|exact ih (k+1) Y.2|(simp only [lj,bI,ah];exact ⟨Y.1,ih (k+1) Y.2⟩)
     .exact ih (k+1) Y.2
   have t:=M (B0 a fr.H m.S) a 0 F;have U:∀it∈Γg,it∈jJ (m.S.map λx=>dL a fr.H x.2) (ab ρ T a++(ab ρ T fr.H++g)):=λit E=>by
    obtain ⟨k,u⟩:=List.mem_iff_getElem?.1 (l it E);have hk2:(ab ρ T a++(ab ρ T fr.H++g))[a.length+fr.H.length+k]? =some it:=by
     rw [ca (by simp [ab];omega),ca (by simp [ab];omega)];have:a.length+fr.H.length+k-(ab ρ T a).length-(ab ρ T fr.H).length=k:=by simp [ab];omega
     rw [this];exact u
    refine ej (i:=a.length+fr.H.length+k) ?_;rw [Dk,hk2];intro V;obtain ⟨x,_,hx⟩:=List.mem_map.1 V;have:=VI hx;omega
   have y:=λrr hr=>he.2 s rr hr (AV.ar ρ args) N I (eA ρ m.X) _ w (by simpa only [AV.ar] using s1) q1 U;have j:∀{A:Ctx} {w':World},Sat (A++(fK I++jJ (m.S.map λx=>dL a fr.H x.2) (ab ρ T a++(ab ρ T fr.H++g)))) w'->Sat (A++(ab ρ T (lj (tQ (B0 a fr.H m.S) 0 a))++(ab ρ T fr.H++Φ))) w':=λ{A w'} c4=>by have Z:=JQ p2 o c4;rw [VD a1,Dx h4] at Z;have c6:=GH Z;rw [<-b0 (ab ρ T (lj (tQ (B0 a fr.H m.S) 0 a))),<-b0 A] at c6;have c7:=hdr c6;rwa [b0 A,b0] at c7
   rcases aj1 h2 with ⟨p,hq,u⟩|⟨q,hq,u⟩
   .refine (y _ hq).mono (λv w' z=>?_) (λc w' z=>?_)
    .obtain ⟨x',q',C,_⟩:=z;cases C
    .obtain ⟨p',D,v,N1,I1,X1,c1,c2,J⟩:=z;cases D;refine ⟨v,c1,?_⟩;cases W:e.lp with
     |false=>rw [W] at J u;exact Ye (b:=false) hl t c2 (j J) u
     |true=>
      rw [W] at J u;obtain ⟨A',e1,_⟩:=asr (L:=m.S.map λx=>dL a fr.H x.2) (A:=ab ρ T a++ab ρ T fr.H) (B:=g) (λi hi=>by obtain ⟨x,_,hx⟩:=List.mem_map.1 hi;have:=VI hx;simp only [ab,cO,qi];omega)
      rw [b0] at e1;rw [e1] at J;have Z:Sat (dM I1++g) w':=Sat.O6 (A:=A') J;rw [<-O,O4,bp,b0] at Z;exact Ye (b:=true) hl (GG F) c2 Z u
   .refine (y _ hq).mono (λv w' z=>?_) (λc w' z=>?_)
    .obtain ⟨x',q',C,hi,N1,N2,D1,D2,I1,I2,X1,X2,c1,c2,J,c4⟩:=z;cases C;exact PN (e:=e.oe) hl t n1 h5 h6 h7 h9 c1 c2 J aD.get_none (j c4) (.inl rfl) (as0 hi u)
    .obtain ⟨p',D,_⟩:=z;cases D
  .cases h2
 .cases h
theorem Pk{f:FuncId}{args:List AV}(j:st.low fr=true)(g:Sat (ab ρ T st.G++(ab ρ T fr.H++Φ)) w)(a:∀it∈Γg,it∈Φ):∀{tp:List bO},(∀e∈tp,e.Ok P Γg)->NY fr st d f args KP K tp=some (some r)->
  Enters P f/\mV P f (AV.ar ρ args) w (aY r K T fr st none d ρ Φ) (λc w'=>∃v,c=je v/\aep r KP T fr st ρ Φ v w')
 |[],_,h=>by cases h
 |e::tp,htp,h=>by
  unfold NY at h;rcases dT h with ⟨l,b⟩|⟨_,b⟩
  .split at b
   next m i=>cases b;have:=ai l;subst this;exact ⟨(htp e (ct ..)).1,anI j g (htp e (ct ..)) a i⟩
   .exact Pk j g a (λe k=>htp e (cb _ k)) b
  .exact Pk j g a (λe k=>htp e (cb _ k)) b
variable {σ : zt} {Q : bD} {D : zm} {ops rest : zz} {tp : List bO}
theorem arX{o:Oper}(h1:fM T st.E fr.F)(U:Sat (ab ρ T st.G++(ab ρ T fr.H++Φ)) w)(L:∀it∈Γg,it∈Φ)(O:∀e∈tp,e.Ok P Γg)
  (h:al0 tp T fr st o KP K=some (some r))
  (next:∀st' ρ' w',fM T st'.E fr.F->aW st.c ρ ρ'->st.c<=st'.c->K st'=some r->ab ρ' T fr.H=ab ρ T fr.H->Sat (ab ρ' T st'.G++(ab ρ' T fr.H++Φ)) w'->WL P σ ops.toArray Q fr.n D rest (az ρ' T st'.E fr.F) w')
  (g:∀b v st' ρ' w',aW st.c ρ ρ'->st.c<=st'.c->KP b v st'=some r->st'.E=st.E->az ρ' T st.E fr.F=az ρ T st.E fr.F->Sat (ab ρ' T st'.G++(ab ρ' T (IJ b fr.H)++Φ)) w'->At Q (.panic (je (v.val ρ'))) fr.n D (az ρ' T st'.E fr.F) w'):
  WL P σ ops.toArray Q fr.n D (o::rest) (az ρ T st.E fr.F) w:=by
 obtain ⟨dst,op,ty,pos,af,gd⟩:=o;unfold al0 at h;split at h
 .cases h
 rename_i q;simp only at q;subst q;split at h
 .rename_i x j;simp only at j;subst j;split at h
  next t v hx=>have hk:=du h;have m:=aV (ρ:=ρ) hx;rw [aD.get_none] at m;simp only [AV.val] at m;refine aot m ?_;have:=g false (.ifc t v) st ρ w .refl (b7 _) hk rfl rfl U;simp only [AV.val] at this;exact this
  .cases h
 .rename_i c j;simp only at j;subst j;obtain ⟨z,xs,tys⟩:=c;obtain ⟨xs⟩:=xs;simp only at h;split at h
  .rename_i fo;split at h
   .rename_i f a b R;split at h
    .rename_i vs M;obtain ⟨W,h3⟩:=aI h;simp only [ah] at W;obtain ⟨⟨S,hd⟩,Z⟩:=W;obtain ⟨s,V⟩:=Pk Z U L O h3;have d:=aV (ρ:=ρ) R;have i:=ie (ρ:=ρ) M;rw [aD.get_none] at d i;simp only [AV.val] at d;have k:AV.ar ρ (a++vs++b)=AV.ar ρ a++AV.ar ρ vs++AV.ar ρ b:=by rw [dA,dA]
     have u:∀v w',aY r K T fr st none dst ρ Φ v w'->WL P σ ops.toArray Q fr.n D rest (se dst true v (az ρ T st.E fr.F)) w':=λv w' N=>by obtain ⟨ρ',st',av,J,I,C,p,B,A,y,Y⟩:=N;have:=next st' ρ' w' (by rw [p];exact h1.out S none av) I C J y Y;rw [p,vT,B,A,aD.get_none] at this;exact this
     have l:∀c w',(∃v,c=je v/\aep r KP T fr st ρ Φ v w')->At Q (.panic c) fr.n D (az ρ T st.E fr.F) w':=λc w' N=>by obtain ⟨v,rfl,X,ρ',st',av,J,I,C,p,B,A,y⟩:=N;have:=g X av st' ρ' w' I C J p y A;rw [B,p,y] at this;exact this
     cases dst with
     |none=>exact am0 s d i k V u l
     |some dd=>exact af3 s d i k hd V u l
    .cases h
   .cases h
  .cases h
 .cases h
end
theorem Sat.aqr{A B:Ctx}{x:Item}{w:World}(h:Sat (A++x::B) w):Sat (x::(A++B)) w:=by
 refine h.C5 (λj k=>(j=0/\k=A.length)\/(0<j/\j<=A.length/\k+1=j)\/(A.length<j/\k=j)) (λj jt a=>?_) (λj k q b d c=>by omega);cases j with
 |zero=>
  simp only [gy,cH] at a;subst a;exact .inr ⟨A.length,x,.inl ⟨rfl,rfl⟩,by simp,cd.refl⟩
 |succ j=>
  simp only [c8] at a;by_cases e:j<A.length
  .rw [cy e] at a;exact .inr ⟨j,jt,.inr (.inl ⟨by omega,by omega,rfl⟩),by rw [cy e];exact a,cd.refl⟩
  .rw [ca (by omega)] at a;refine .inr ⟨j+1,jt,.inr (.inr ⟨by omega,rfl⟩),?_,cd.refl⟩;rw [ca (by omega)];have:j+1-A.length=(j-A.length)+1:=by omega
   rw [this,c8];exact a
theorem Sat.avl{Γ:Ctx}{it new:Item}{w:World}(h:Sat (it::Γ) w)(a:∀b∈new.own,b∈it.own)(c:∀M',Mv (Ctx.M (it::Γ)) w M' w->new.P M' w):Sat (new::Γ) w:=by have:=h.iP (i:=0) (it:=it) (new:=new) (w':=w) rfl ⟨rfl,rfl,rfl,b7 _,λ_ _ _=>rfl⟩ (λb hb=>⟨h.lt (Ctx.EY.2 (.inl (a b hb))),.inl (a b hb)⟩) (λM' m _=>c M' m);simpa using this
def KW(X:Cx)(T:aD)(fr:Fr)(st:aE)(o:Oper):Option (TypeId×List AV×List AV):=match o.op,o.guard with
 | .alloc t,none=>(match adH X.P t with
  |some cs=>some (t,[],cs)
  |none=>none)
 | .buildSlice t len ps,none=>(match fR X.P t with
  |some e=>(match lK X.P e with
   |some z=>(match sy T st.E fr.F none (ps.toList.map (·.2)) with
    |some vs=>(match Da (λi=>some (i*z.1,z.1)) ((ps.toList.map (·.1)).zip vs) (Zq len (z.2.2.cells.toList.map kB)) with
     |some cs=>aC ( Nat.beq z.2.2.cells.size z.1&&Nat.ble (len*z.1) 16777216&&(Nat.blt 0 (len*z.1)||Nat.beq len 0&&ps.toList.isEmpty) ) (some (e,vs,cs)) none
     |none=>none)
    |none=>none)
   |none=>none)
  |none=>none)
 |_,_=>none
theorem aeS{X:Cx}{T:aD}{fr:Fr}{st:aE}{ρ:aB}{o:Oper}{e:TypeId}{vs cs:List AV}(h:KW X T fr st o=some (e,vs,cs))(w:World):
  ny X.P (az ρ T st.E fr.F) o w (H8 o w.heap.size) (w.alloc (.cells (AV.ar ρ cs).toArray e)):=by
 obtain ⟨dst,op,ty,pos,af,gd⟩:=o;unfold KW at h;simp only at h;split at h
 .rename_i t;split at h
  .rename_i m a;cases h;unfold adH at a;split at a
   next z k=>cases a;obtain ⟨n,b,z⟩:=z;have:=Lb (P:=X.P) (E:=az ρ T st.E fr.F) (w:=w) (dst:=dst) (ty:=ty) (pos:=pos) (af:=af) (zs:=z.cells.toList) (cW k) (by simp);rw [nk];exact this
   .cases a
  .cases h
 .rename_i t len ps;obtain ⟨ps⟩:=ps;split at h
  .rename_i e' p;split at h
   .rename_i z k;obtain ⟨n,bytes,z⟩:=z;split at h
    .rename_i r l;split at h
     .rename_i m a;obtain ⟨q,u⟩:=aI h;cases u;simp only [ah,eF] at q;obtain ⟨⟨y,x⟩,g⟩:=q;have f:z.cells.size=n:=ai y;have d:=ie (ρ:=ρ) l;rw [aD.get_none] at d;have c:=y9 (ρ:=ρ) a;rw [E7,UZ,nk] at c;rcases g with g|⟨g,s⟩
      .have i:0<n:=by
        have:0<len*n:=by simpa using g
        exact vy (λe=>by simp [e] at this)
       have j:sI n len z.cells.toList ((ps.map (·.1)).zip (AV.ar ρ vs))=some (AV.ar ρ cs).toArray:=by unfold sI;have e1:=Gj z.cells.toList (by simp [f];exact i) len;simp only [de,f] at e1;simp only [de,f];rw [<-c,<-e1]
       exact rQ (P:=X.P) (w:=w) (dst:=dst) (ty:=ty) (pos:=pos) (af:=af) (cf p) (cW k) (zs:=z.cells.toList) (by simp) g x d j
      .have v:len=0:=ai g;subst v;have e1:ps=[]:=by simpa using s
       subst e1;have:cs=[]:=by simp only [List.map_nil,List.zip_nil_left,Zq,List.replicate_zero,List.flatten_nil,Da,cH] at a;exact a.symm
       subst this;exact vr (P:=X.P) (E:=az ρ T st.E fr.F) (w:=w) (dst:=dst) (ty:=ty) (pos:=pos) (af:=af) (cf p) (cW k)
     .cases h
    .cases h
   .cases h
  .cases h
 .cases h
def aqv{R:Type}(X:Cx)(T:aD)(fr:Fr)(st:aE)(o:Oper)(K:cT R):Option R:=match KW X T fr st o,o.dst with
 |some p,some d=>(match o.op with
  | .buildSlice _ len _=>(match C2 X.tys p.1 with
   |some u=>(match rdL (cP (AV.fg (.agg p.2.1)++(p.2.1.map AV.fg).flatten) st.G) fr.H u len p.2.2 with
    |some xs=>aC (st.low fr&&Nat.ble len 9223372036854775807) (K { st with c:=st.c+1,E:=cL (some d) none (.sl st.c) st.E,G:= .own st.c u p.1 xs st.c::cP (AV.fg (.agg p.2.1)++(p.2.1.map AV.fg).flatten) st.G }) none
    |none=>none)
   |none=>none)
  |_=>aC (st.low fr&&AV.cm st.c p.2.2) (amn st d p.1 p.2.2 K) none)
 |_,_=>none
section
variable {X : Cx} {R : Type} {r : R} {K : cT R} {T : aD} {fr : Fr} {st : aE} {ρ : aB} {Φ : Ctx} {w : World}
theorem ar7{o:Oper}{b:Nat}{e':TypeId}{k:zq}(g:Sat (ab ρ T st.G++(ab ρ T fr.H++(box b e' k::Φ))) w)
  (L:∀e vs cs,KW X T fr st o=some (e,vs,cs)->e'=e/\k=AV.ar ρ cs) (h:aqv X T fr st o K=some r):
  aY r K T fr st none o.dst ρ Φ (H8 o b) w:=by
 obtain ⟨dst,op,ty,pos,af,gd⟩:=o;unfold aqv at h;simp only at h;split at h
 .rename_i p d hp;obtain ⟨e,vs,cs⟩:=p;obtain ⟨rfl,rfl⟩:=L _ _ _ hp;split at h
  .rename_i t len ps;split at h
   .rename_i u P;split at h
    .rename_i xs n;obtain ⟨B,A⟩:=aI h;simp only [ah] at B;obtain ⟨s,N⟩:=B;have z:=tq (ids:=AV.fg (.agg vs)++(vs.map AV.fg).flatten) (aE.cS.1 s).2.2.1;replace g:=kh (ids:=AV.fg (.agg vs)++(vs.map AV.fg).flatten) g;simp only at A;generalize cP (AV.fg (.agg vs)++(vs.map AV.fg).flatten) st.G=G at A z g n;obtain ⟨J,I⟩:=Wn (ρ:=ρ) (T:=T) g _ _ _ n;have f:Sat ((ab ρ T G++ab ρ T fr.H)++box b e' (AV.ar ρ cs)::Φ) w:=by rw [b0];exact g
     have a:=f.aqr;have mv:Mv (Ctx.M (ab ρ T G++(ab ρ T fr.H++(box b e' (AV.ar ρ cs)::Φ)))) w (Ctx.M (box b e' (AV.ar ρ cs)::((ab ρ T G++ab ρ T fr.H)++Φ))) w:=Mv.weaken w λc C=>by
      obtain ⟨it,hi,hb⟩:=C;refine ⟨it,?_,hb⟩;simp only [pa,qt] at hi ⊢;rcases hi with h|(h|h)|h
      .exact .inr (.inr (.inl h))
      .exact .inl h
      .exact .inr (.inl h)
      .exact .inr (.inr (.inr h))
     refine aY.new (ρ':=ρ.set st.c { df with v:=(some ⟨b,0,none⟩,len,len),y:=⟨.l u,xs⟩ }) (av:= .sl st.c) s A aB.bd (mi _) rfl (by simp only [AV.val,aB.bH];rfl) ?_;show Sat (ab _ T (_::G)++_) w;have e:=bh (T:=T) (aB.bd (ρ:=ρ) (j:=st.c) (x:={ df with v:=(some ⟨b,0,none⟩,len,len),y:=⟨.l u,xs⟩ })) z;rw [ab,er];rw [ab] at e;rw [e];have hb:fL w b e' (AV.ar ρ cs):=a.at_ (i:=0) rfl;have q:Sat ((Row.own st.c u e' xs st.c).item (ρ.set st.c { df with v:=(some ⟨b,0,none⟩,len,len),y:=⟨.l u,xs⟩ }) T::((ab ρ T G++ab ρ T fr.H)++Φ)) w:=by
      refine a.avl (λc C=>?_) (λM' m=>?_)
      .simp only [Row.item,aB.bH] at C;exact Dr C
      .simp only [Row.item,aB.bH];exact ⟨(bR.of (iv.fresh hb J N (I.mv (mv.trans m)))).D9,trivial⟩
     rw [b0] at q;exact q
    .cases h
   .cases h
  .rename_i D;obtain ⟨B,A⟩:=aI h;simp only [ah] at B;obtain ⟨s,F⟩:=B;have f:Sat ((ab ρ T st.G++ab ρ T fr.H)++box b e' (AV.ar ρ cs)::Φ) w:=by rw [b0];exact g
   have a:=f.aqr;rw [b0] at a;have O:H8 ⟨some d,op,ty,pos,af,gd⟩ b= .pointer (some ⟨b,0,none⟩):=by
    unfold H8;split
    next E=>exact (D _ _ _ E).elim
    .rfl
   rw [O];refine aY.new (ρ':=ρ.set st.c { df with b:=b }) (av:= .ptr st.c 0) s A aB.bd (mi _) rfl (by simp only [AV.val,aB.bH]) ?_;show Sat (ab _ T (_::st.G)++_) w;have e:=bh (T:=T) (aB.bd (ρ:=ρ) (j:=st.c) (x:={ df with b:=b })) (aE.cS.1 s).2.2.1;rw [ab,er];rw [ab] at e;rw [e];simp only [Row.item,aB.bH];rw [AV.cj aB.bd _ F];exact a
 .cases h
end
variable {o : Oper}
abbrev alB{R:Type}(fr:Fr)(KP:AV->aE->Option R)(T:aD)(v:AV)(st:aE):Option R:=aC (EU T fr st) (KP v (AP T st)) none
def BM{R:Type}(X:Cx)(tb:List au)(tp:List bO)(KP:Bool->AV->aE->Option R)(ops:zz)(fr:Fr):zz->aD->aE->cT R->Option R
 |[],T,st,K=>aC (EU T fr st) (K (AP T st)) none
 |o::l,T,st,K=>match al0 tp T fr st o (λb=>alB fr (KP b) T) (λst=>BM X tb tp KP ops fr l T st K) with
  |some q=>q
  |none=>stepG ops T fr st o λT g=>opD X tb T fr st g o λst=>BM X tb tp KP ops fr l T st K
section
variable {R : Type} {X : Cx} {tb : List au} {tp : List bO} {KP : Bool -> AV -> aE -> Option R} {b : Bool} {σ : zt} {Q : bD} {D : zm} {ops : zz} {r : R} {fr : Fr} {Φ : Ctx} {K : cT R}
theorem ajG{T:aD}{v:AV}{st:aE}{ρ:aB}{w:World}(d:FT T fr)(h:alB fr (KP b) T v st=some r)(j:Sat (ab ρ T st.G++(ab ρ T (IJ b fr.H)++Φ)) w):
  ∃st',KP b v st'=some r/\st'.c=st.c/\j9 (az ρ [] st'.E fr.F) (az ρ T st.E fr.F)/\Sat (ab ρ [] st'.G++(ab ρ [] (IJ b fr.H)++Φ)) w:=by
 unfold alB at h;obtain ⟨e,l⟩:=aI h;have k:EU T ⟨fr.F,IJ b fr.H,fr.n⟩ st=true:=by unfold EU at e ⊢;exact e
 obtain ⟨i,g,f⟩:=Ke (fr:=⟨fr.F,IJ b fr.H,fr.n⟩) k ⟨d.1,λr a=>d.2 r (by
  cases b
  .exact a
  .exact (sq a).1)⟩ j
 exact ⟨_,l,i,g,f⟩
theorem KU{rest:zz}(g:∀it∈X.Γ,it∈Φ)(m:∀e∈tb,e.Ok X.P X.Γ)(k:∀e∈tp,e.Ok X.P X.Γ):∀{l:zz} {T:aD} {st:aE} {ρ:aB} {w:World},fM T st.E fr.F->pM ops fr.n T->FT T fr->Sat (ab ρ T st.G++(ab ρ T fr.H++Φ)) w->
  BM X tb tp KP ops fr l T st K=some r->
  (∀st' ρ' w',aW st.c ρ ρ'->st.c<=st'.c->K st'=some r->Sat (ab ρ' [] st'.G++(ab ρ' [] fr.H++Φ)) w'->WL X.P σ ops.toArray Q fr.n D rest (az ρ' [] st'.E fr.F) w')->
  (∀b v st' ρ' w',aW st.c ρ ρ'->st.c<=st'.c->KP b v st'=some r->Sat (ab ρ' [] st'.G++(ab ρ' [] (IJ b fr.H)++Φ)) w'->At Q (.panic (je (v.val ρ'))) fr.n D (az ρ' [] st'.E fr.F) w')->
  WL X.P σ ops.toArray Q fr.n D (l++rest) (az ρ T st.E fr.F) w
 |[],T,st,ρ,w,h1,h2,p,hs,h,next,pnext=>by
  unfold BM at h;obtain ⟨V,U⟩:=aI h;obtain ⟨C,M,B⟩:=Ke V p hs;exact λa p S=>next _ ρ w .refl (by rw [C];exact b7 _) U B a (p.nS M) S
 |o::l,T,st,ρ,w,h1,h2,p,hs,h,next,pnext=>by
  unfold BM at h;split at h
  .rename_i q R;subst h;refine arX h1 hs g k R (λst' ρ' w' A y i J Z I=>?_) (λz v st' ρ' w' A N L Y W y=>?_)
   .exact KU g m k A h2 p I J (λd f j x u t s=>next d f j (y.trans x i) (c9 i u) t s) (λz v d f j x u t s=>pnext z v d f j (y.trans x i) (c9 i u) t s)
   .obtain ⟨d,C,M,O,B⟩:=ajG p L y;exact (pnext z v d ρ' w' A (by omega) C B).nS _ O
  .exact agR (K:=λT st=>BM X tb tp KP ops fr l T st K) h1 h2 rfl (λ_ h=>h) p hs g m h (λT' st' ρ' w' A N L y i J Z I=>
    KU g m k A N L I J (λd f j x u t s=>next d f j (y.trans x i) (c9 i u) t s) (λz v d f j x u t s=>pnext z v d f j (y.trans x i) (c9 i u) t s))
theorem Zg(d:∀it∈X.Γ,it∈Φ)(g:∀e∈tb,e.Ok X.P X.Γ)(f:∀e∈tp,e.Ok X.P X.Γ){l:zz}{T:aD}{st:aE}{ρ:aB}{w:World}(m:fM T st.E fr.F)(k:pM ops fr.n T)(j:FT T fr)(i:Sat (ab ρ T st.G++(ab ρ T fr.H++Φ)) w)
  (h:BM X tb tp KP ops fr l T st K=some r)
  (next:∀st' ρ' w',aW st.c ρ ρ'->st.c<=st'.c->K st'=some r->Sat (ab ρ' [] st'.G++(ab ρ' [] fr.H++Φ)) w'->At Q .normal fr.n D (az ρ' [] st'.E fr.F) w')
  (a:∀b v st' ρ' w',aW st.c ρ ρ'->st.c<=st'.c->KP b v st'=some r->Sat (ab ρ' [] st'.G++(ab ρ' [] (IJ b fr.H)++Φ)) w'->At Q (.panic (je (v.val ρ'))) fr.n D (az ρ' [] st'.E fr.F) w'):
  WL X.P σ ops.toArray Q fr.n D l (az ρ T st.E fr.F) w:=by
 have:=KU (σ:=σ) (Q:=Q) (D:=D) (rest:=[]) d g f m k j i h (λst' ρ' w' s q p o=>cg (next st' ρ' w' s q p o)) a;rwa [hV] at this
end
def me(c:Nat):List AV->List AV×List Row×Nat
 |[]=>([],[],c)
 |v::vs=>match v with
  | .nv u=>match me c vs with
   |(cs,R,c)=>(.nv u::cs,R,c)
  |v=>match me (c+1) vs with
   |(cs,R,c')=>(.nv c::cs,.eq c v::R,c')
structure arN(c:Nat)(vs:List AV)(ρ ρ':aB)(x:List AV×List Row×Nat):Prop where
 ag:aW c ρ ρ'
 le:c<=x.2.2
 eq:AV.ar ρ' x.1=AV.ar ρ vs
 lw:AV.cm x.2.2 x.1=true
 rl:bI x.2.2 x.2.1=true
 rp:∀r∈x.2.1,(r.item ρ' []).cV=true/\∀M w,(r.item ρ' []).P M w
 rg:∀r∈x.2.1,r.gd=none
theorem BE{c d:Nat}(a:c<=d):{G:List Row}->bI c G=true->bI d G=true
 |[],_=>rfl
 |r::G,h=>by simp only [bI,ah] at h ⊢;exact ⟨Row.gq a h.1,BE a h.2⟩
theorem uW{c:Nat}:{G H:List Row}->bI c G=true->bI c H=true->bI c (G++H)=true
 |[],_,_,h=>h
 |r::G,H,h,k=>by simp only [n5,bI,ah] at h ⊢;exact ⟨h.1,uW h.2 k⟩
theorem LB:{vs:List AV}->{c:Nat}->{ρ:aB}->AV.cm c vs=true->∃ρ',arN c vs ρ ρ' (me c vs)
 |[],c,ρ,h=>⟨ρ,.refl,b7 _,rfl,rfl,rfl,(λ_ h=>by cases h),λ_ h=>by cases h⟩
 |v::vs,c,ρ,h=>by
  simp only [AV.cm,ah] at h;have a:(∀u,v≠ .nv u)->me c (v::vs)=(match me (c+1) vs with|(cs,R,f)=>(.nv c::cs,.eq c v::R,f))->∃ρ',arN c (v::vs) ρ ρ' (me c (v::vs)):=λ_ e=>by
   have g:aW c ρ (ρ.set c { df with x:=v.val ρ }):=aB.bd;obtain ⟨ρ',l⟩:=LB (c:=c+1) (ρ:=ρ.set c { df with x:=v.val ρ }) (AV.kO (mi c) _ h.2);rw [e];generalize me (c+1) vs=L at l;obtain ⟨cs,R,f⟩:=L;have d:aW c ρ ρ':=g.trans l.ag (mi _);have hx:(ρ' c).x=v.val ρ:=by rw [l.ag _ (qx _),aB.bH]
   have i:c+1<=f:=l.le;refine ⟨ρ',d,c9 (mi _) l.le,?_,?_,?_,?_,?_⟩
   .simp only [AV.ar,AV.val,hx];rw [l.eq,AV.cj g _ h.2]
   .simp only [AV.cm,AV.low,ah,j5];exact ⟨by omega,l.lw⟩
   .simp only [bI,Row.low,ah,j5];exact ⟨⟨by omega,AV.gq (by omega) _ h.1⟩,l.rl⟩
   .intro r b;rcases List.mem_cons.1 b with rfl|b
    .exact ⟨rfl,λM w=>by show (ρ' c).x=v.val ρ';rw [hx,AV.mJ d _ h.1]⟩
    .exact l.rp r b
   .intro r b;rcases List.mem_cons.1 b with rfl|b
    .rfl
    .exact l.rg r b
  cases v with
  |nv u=>
   obtain ⟨ρ',l⟩:=LB (c:=c) (ρ:=ρ) h.2;unfold me;dsimp only;generalize me c vs=L at l;obtain ⟨cs,R,f⟩:=L;refine ⟨ρ',l.ag,l.le,?_,?_,l.rl,l.rp,l.rg⟩
   .simp only [AV.ar];rw [l.eq,AV.mJ l.ag _ h.1]
   .simp only [AV.cm,ah];exact ⟨AV.gq l.le _ h.1,l.lw⟩
  |_=>exact a (λu h=>by cases h) rfl
def an0{R:Type}(X:Cx)(T:aD)(fr:Fr)(st:aE)(g:GK)(op:Op)(dst:zu)(K:cT R):Option R:=match op,dst with
 | .indexAddr t x y,some d=>(match fR X.P t with
  |some _=>aj6 X T fr st g d t x y K
  |none=>(match bC T st.E fr.F g x with
   |some (.gp _)=>adL X T fr st g d t x y K
   |_=>gone g (ake X T fr st d t x y K)))
 | .slice t x lo hi mx,some d=>(match bC T st.E fr.F g x with
  |some (.gp _)=>gone g (aaa X T fr st d t x lo hi mx K)
  |_=>adW X T fr st g d t x lo hi mx K)
 | .call ⟨.builtin .unsafeSliceData,⟨[x]⟩,_⟩,some d=>gone g (adA T fr st d x K)
 | .call ⟨.builtin .len,⟨[x]⟩,⟨[t]⟩⟩,some d=>alV X T fr st g d t x K
 |_,_=>none
def af5{R:Type}(X:Cx)(T:aD)(fr:Fr)(st:aE)(g:GK)(o:Oper)(K:cT R):Option R:=
 match ak5 X T st.E fr.F g o.op with
 |some cv=>Kd cv.1 (g.map λ_=>T.get g) (K { st with E:=cL o.dst g cv.2 st.E })
 |none=>match aj5 X T st.E fr.F [] fr.H g o.op with
  |some cv=>Kd cv.1 (g.map λ_=>T.get g) (K { st with E:=cL o.dst g cv.2 st.E })
  |none=>aC (st.low fr) (an0 X T fr st g o.op o.dst K) none
def bA(p:Row->Bool):List Row->List Row
 |[]=>[]
 |r::G=>aC (p r) (r::bA p G) (bA p G)
def dp(r:Row):Bool:= !r.cV
theorem Sat.AT{w:World}{B:Ctx}:∀{A:Ctx},Sat (A++B) w->Sat B w
 |[],h=>h
 |_x::A,h=>Sat.AT (A:=A) (Sat.Dc (A:=[]) h)
section
variable {ρ : aB} {T : aD} {w : World}
theorem sh{p:Row->Bool}{H:List Row}{Φ:Ctx}:∀{G:List Row} {A:Ctx},Sat (A++(ab ρ T G++(ab ρ T H++Φ))) w->Sat (A++(ab ρ T (bA p G)++(ab ρ T (bA (λr=> !(p r)) G++H)++Φ))) w
 |[],_,h=>h
 |r::G,A,h=>by
  unfold bA;cases hp:p r
  .have b:Sat ((A++[r.item ρ T])++(ab ρ T G++(ab ρ T H++Φ))) w:=by simpa [ab] using h
   have a:=sh (p:=p) (G:=G) b;have c:Sat (A++r.item ρ T::(ab ρ T (bA p G)++(ab ρ T (bA (λr=> !(p r)) G++H)++Φ))) w:=by simpa using a
   exact c.move
  .have b:Sat ((A++[r.item ρ T])++(ab ρ T G++(ab ρ T H++Φ))) w:=by simpa [ab] using h
   have a:=sh (p:=p) (G:=G) b;simpa [ab] using a
end
abbrev pC(fr:Fr)(A:List Row)(st:aE):Fr:=⟨fr.F,bA (λr=> !(dp r)) st.G++(A++fr.H),fr.n⟩
abbrev stM(st:aE):aE:={ st with G:=bA dp st.G }
abbrev yn:=Nat×Nat×Nat×zC
def Qn:List AV->Option zC
 |[]=>some []
 |v::l=>(match v with
  | .nv u=>(match Qn l with
   |some us=>some (u::us)
   |none=>none)
  |_=>none)
def afe:List AV->zC->Bool
 |_,[]=>true
 |l,n::ns=>(match l with
  | .nv u::l=>Nat.beq u n&&afe l ns
  |_=>false)
def OM(G:List Row):List yn->Bool
 |[]=>true
 |x::Pd=>(match pz (A4 x.2.1) G with
  |some (_,.box _ _ cs)=> !(Nat.beq x.2.2.1 1000000000)&&afe (cs.drop x.2.2.1) x.2.2.2
  |_=>false)&&OM G Pd
def pdF(G:List Row):List yn->Bool
 |[]=>true
 |x::Pd=>(Nat.beq x.2.2.1 1000000000||(match pz (A4 x.2.1) G with
  |some (_,.box _ _ cs)=> !(Nat.beq x.2.2.1 1000000000)&&afe (cs.drop x.2.2.1) x.2.2.2
  |_=>false))&&pdF G Pd
def fP(ops:zz)(k:Nat):List yn->List yn
 |[]=>[]
 |x::Pd=>aC (waits .any ops.toArray k x.1) (fP ops k Pd) (x::fP ops k Pd)
def szA(P:Program)(t:TypeId):zt:=match P.underlying t with
 |some d=>aC (kI d) (match lK P t with
  |some z=>some z.1
  |none=>none) (some 1)
 |none=>none
def akJ{R:Type}(X:Cx)(T:aD)(fr:Fr)(st:aE)(g:GK)(k:Nat)(o:Oper)(K:List Row->yn->aE->Option R):Option (Option R):=match o.op,o.dst with
 | .load t x,some d=>(match bC T st.E fr.F g x with
  |some (.ptr id off)=>(match pz (A4 id) st.G with
   |some (j,.box _ bt cs)=>some (match szA X.P t with
    |some n=>(match lN X.P t ((cs.drop off).map (va st.G fr.H)) with
     |some v=>(match Qn (me st.c ((cs.drop off).take n)).1 with
      |some us=>aC (st.low fr&&v.low st.c&&Nat.ble (off+n) cs.length&& !(Nat.beq off 1000000000)) (
        K (me st.c ((cs.drop off).take n)).2.1 (k,id,off,us) { st with c:=(me st.c ((cs.drop off).take n)).2.2,E:=cL (some d) g v st.E,G:=st.G.set j (.box id bt (vV cs off (me st.c ((cs.drop off).take n)).1)) } ) none
      |none=>none)
     |none=>none)
    |none=>none)
   |_=>none)
  |_=>none)
 |_,_=>none
def arj(T:aD)(fr:Fr)(st:aE)(g:GK)(o:Oper):Option (Tmp×TypeId×Nat×Nat):=match o.op,o.dst with
 | .load t x,some d=>(match bC T st.E fr.F g x with
  |some (.adr q off)=>(match Bp T [] fr.H g (.adr q off) with
   |some _=>none
   |none=>(match eK st.G fr.H (UA q) with
    |some _=>some (d,t,q,off)
    |none=>none))
  |_=>none)
 |_,_=>none
def Qo{R:Type}(X:Cx)(tb:List au)(tp:List bO)(KP:AV->aE->Option R)(ops:zz)(fr:Fr)(A:List Row)(T:aD)(st:aE)(o:Oper)(K:aD->cT R):Option R:=
 match al0 tp T (pC fr A st) (stM st) o (λb v st'=>aC b none (alB fr KP T v { st' with G:=st'.G++(bA (λr=> !(dp r)) st.G++A) })) (K T) with
 |some q=>q
 |none=>stepG ops T (pC fr A st) (stM st) o λT g=>opD X tb T (pC fr A st) (stM st) g o (K T)
def auM(X:Cx)(T:aD)(fr:Fr)(st:aE)(ops:zz)(k:Nat)(fl:zC)(rest:OT)(f:Nat):Bool:=(match ops[f]? with
 |some o=>(match KW X T fr st o,o.dst with
  |some _,some d=>jc o&&Nat.blt d fr.n&&(match ek st.E fr.F d with|some _=>false|none=>true)&&(o.looksAt ops.toArray).all (λt=> !(Nat.beq t d))
  |_,_=>false)
 |none=>false)&&(k::rest.ops).all (λj=>rM ops.toArray j f)&&(fl++rest.WV).all (λj=>Nat.beq j f||rM ops.toArray j f)
def akh{R:Type}(X:Cx)(ops:zz)(fr:Fr)(T:aD):zC->aE->cT R->Option R
 |[],st,K=>K st
 |f::fs,st,K=>(match ops[f]? with
  |some o=>aC (pn o.dst T&& !(dF f fs)) (aqv X T fr st o λst=>akh X ops fr T fs st K) none
  |none=>none)
abbrev frA(fr:Fr)(A:List Row):Fr:=⟨fr.F,A++fr.H,fr.n⟩
def rB{R:Type}(X:Cx)(tb:List au)(tp:List bO)(KP:AV->aE->Option R)(ops:zz)(fr:Fr):OT->List Row->List yn->aD->aE->cT R->Option R
 | .nil,A,_,T,st,K=>aC (EU T fr { st with G:=st.G++A }) (K (AP T { st with G:=st.G++A })) none
 | .q k _ rest,A,Pd,T,st,K=>(match ops[k]? with
  |some o=>stepG ops T (pC fr A st) (stM st) o λT g=>match akJ X T (pC fr A st) (stM st) g k o (λR p st'=>rB X tb tp KP ops fr rest (R++(bA (λr=> !(dp r)) st.G++A)) (p::Pd) T st' K) with
   |some q=>q
   |none=>(match arj T (pC fr A st) (stM st) g o with
    |some p=>aC ((stM st).low (pC fr A st)) (Wz X T (pC fr A st) (stM st) g p.1 p.2.1 p.2.2.1 p.2.2.2 λst'=>rB X tb tp KP ops fr rest (bA (λr=> !(dp r)) st.G++A) ((k,p.2.2.1,1000000000,[])::Pd) T st' K) none
    |none=>af5 X T (pC fr A st) (stM st) g o λst'=>rB X tb tp KP ops fr rest (bA (λr=> !(dp r)) st.G++A) Pd T st' K)
  |none=>none)
 | .l k _ rest,A,Pd,T,st,K=>(match ops[k]? with
  |some o=>Qo X tb tp KP ops fr A T st o λT st'=>aC (OM st'.G (fP ops k Pd)) (rB X tb tp KP ops fr rest (bA (λr=> !(dp r)) st.G++A) (fP ops k Pd) T st' K) none
  |none=>none)
 | .l2 _ k₁ r₁ k₂ r₂,A,Pd,T,st,K=>both
  (match ops[k₁]? with
  |some o=>Qo X tb tp KP ops fr A T st o λT st'=>aC (OM st'.G (fP ops k₁ Pd)) (rB X tb tp KP ops fr r₁ (bA (λr=> !(dp r)) st.G++A) (fP ops k₁ Pd) T st' K) none
  |none=>none)
  (match ops[k₂]? with
  |some o=>Qo X tb tp KP ops fr A T st o λT st'=>aC (OM st'.G (fP ops k₂ Pd)) (rB X tb tp KP ops fr r₂ (bA (λr=> !(dp r)) st.G++A) (fP ops k₂ Pd) T st' K) none
  |none=>none)
 | .f k _ fl fs rest,A,Pd,T,st,K=>aC (fl.all (auM X T (frA fr A) st ops k fl rest)&&pdF st.G Pd) (akh X ops (frA fr A) T fs st λst=>(match ops[k]? with
  |some o=>Qo X tb tp KP ops fr A T st o λT st'=>aC (OM st'.G (fP ops k Pd)) (rB X tb tp KP ops fr rest (bA (λr=> !(dp r)) st.G++A) (fP ops k Pd) T st' K) none
  |none=>none)) none
section
variable {R : Type} {X : Cx} {tb : List au} {tp : List bO} {KP : AV -> aE -> Option R} {σ : zt} {Q : bD} {D : zm} {ops : zz} {r : R} {fr : Fr} {Φ : Ctx} {K : cT R}
theorem anX{T:aD}{st:aE}{g:GK}{ρ:aB}{w:World}(i:∀it∈X.Γ,it∈Φ)(m:fM T st.E fr.F)(e:Sat (ab ρ T st.G++(ab ρ T fr.H++Φ)) w)(h:af5 X T fr st g o K=some r):
  ∃(v:Value) (J:World->Prop),(∀w',(∃c,Sat (ab ρ T fr.H++c) w')->J w')/\(∀w',J w'->bk X.P (az ρ T st.E fr.F) (T.get g) o w' v)/\aY r K T fr st g o.dst ρ Φ v w:=by
 obtain ⟨dst,op,ty,pos,af,gd⟩:=o;unfold af5 at h;simp only at h;have b:∀{O:Value->World->Prop},Nw X.P T g (az ρ T st.E fr.F) ⟨dst,op,ty,pos,af,gd⟩ w O->∃(v:Value) (J:World->Prop),(∀w',(∃c,Sat (ab ρ T fr.H++c) w')->J w')/\(∀w',J w'->bk X.P (az ρ T st.E fr.F) (T.get g) ⟨dst,op,ty,pos,af,gd⟩ w' v)/\O v w:=λh=>by obtain ⟨v,d,a⟩:=h;exact ⟨v,λ_=>True,λ_ _=>trivial,λw' _=>d w',a⟩
 split at h
 next cv f=>obtain ⟨d,a⟩:=sP h;exact b ⟨_,λw'=>ag3 m f d,aY.jP a (b7 _) rfl rfl e⟩
 .split at h
  next cv f=>obtain ⟨d,a⟩:=sP h;refine ⟨_,λw'=>∃c,Sat (ab ρ T fr.H++c) w',λ_ h=>h,λw' l=>?_,aY.jP a (b7 _) rfl rfl e⟩;obtain ⟨c,k⟩:=l;exact agM (G:=[]) (Φ:=c) k f d
  .obtain ⟨d,a⟩:=aI h;unfold an0 at a;split at a
   .split at a
    .exact b (aji d e a)
    .split at a
     .exact b (aeZ d i e a)
     .obtain ⟨rfl,j⟩:=dm a;exact b (aiF e j)
   .split at a
    .obtain ⟨rfl,j⟩:=dm a;exact b (asx d i e j)
    .exact b (Zl d e a)
   .obtain ⟨rfl,j⟩:=dm a;exact b (afS d e j)
   .exact b (ap2 e a)
   .cases a
def BF(ρ:aB)(x:yn)(w:World):Prop:=Nat.beq x.2.2.1 1000000000=false/\∃cs t,fL w (ρ x.2.1).b t cs/\(cs.drop x.2.2.1).take x.2.2.2.length=x.2.2.2.map λu=>(ρ u).x
def akw(c:Nat)(Pd:List yn):Prop:= ∀x,x∈Pd->x.2.1<c/\∀u,u∈x.2.2.2->u<c
theorem E4{ρ ρ':aB}{c:Nat}(a:aW c ρ ρ'){x:yn}(hx:x.2.1<c/\∀u,u∈x.2.2.2->u<c){w:World}:BF ρ' x w↔BF ρ x w:=by
 unfold BF;rw [a _ hx.1];have:(x.2.2.2.map λu=>(ρ' u).x)=x.2.2.2.map λu=>(ρ u).x:=qB λu b=>by rw [a _ (hx.2 u b)]
 rw [this]
theorem aa2{ρ:aB}:∀{l:List AV} {us:zC},afe l us=true->(AV.ar ρ l).take us.length=us.map λu=>(ρ u).x
 |l,[],_=>by simp
 |l,n::ns,h=>by
  unfold afe at h;split at h
  next u l'=>simp only [ah] at h;have e:=ai h.1;subst e;simp only [AV.ar,AV.val,p0,tj,er];rw [aa2 h.2]
  .cases h
theorem WO{ρ:aB}:∀{l:List AV} {us:zC},Qn l=some us->AV.ar ρ l=us.map (λu=>(ρ u).x)/\us.length=l.length
 |[],us,h=>by cases h;simp [AV.ar]
 |v::l,us,h=>by
  unfold Qn at h;split at h
  .rename_i u;split at h
   next b a=>cases h;obtain ⟨d,c⟩:=WO (ρ:=ρ) a;simp [AV.ar,AV.val,d,c]
   .cases h
  .cases h
theorem abx{c:Nat}:∀{l:List AV} {us:zC},Qn l=some us->AV.cm c l=true->∀u,u∈us->u<c
 |[],us,h,_,u,a=>by cases h;cases a
 |v::l,us,h,hl,u,a=>by
  unfold Qn at h;split at h
  .rename_i u';split at h
   .rename_i d b;cases h;simp only [AV.cm,AV.low,ah,j5] at hl;rcases List.mem_cons.1 a with rfl|a
    .exact hl.1
    .exact abx b hl.2 u a
   .cases h
  .cases h
theorem ahc{ρ:aB}{T:aD}{G:List Row}{B:Ctx}{w:World}(c:Sat (ab ρ T G++B) w):∀{Pd:List yn},OM G Pd=true->∀x,x∈Pd->BF ρ x w
 |[],_,x,hx=>by cases hx
 |y::Pd,h,x,hx=>by
  simp only [OM,ah] at h;rcases List.mem_cons.1 hx with rfl|hx
  .have a:=h.1;split at a
   next j id t cs d=>obtain ⟨f,e⟩:=mZ d;have:id=x.2.1:=ai e;subst this;have hb:fL w (ρ x.2.1).b t (AV.ar ρ cs):=c.at_ (gm f);simp only [ah] at a;refine ⟨by simpa using a.1,_,t,hb,?_⟩;rw [<-AV.iM];exact aa2 a.2
   .cases a
  .exact ahc c h.2 x hx
theorem ant{ρ:aB}{T:aD}{G:List Row}{B:Ctx}{w:World}(b:Sat (ab ρ T G++B) w):∀{Pd:List yn},pdF G Pd=true->∀x,x∈Pd->BF ρ x w\/Nat.beq x.2.2.1 1000000000=true
 |[],_,x,hx=>by cases hx
 |y::Pd,h,x,hx=>by
  simp only [pdF,ah,eF] at h;rcases List.mem_cons.1 hx with rfl|hx
  .rcases h.1 with a|a
   .exact .inr a
   .exact .inl (ahc b (Pd:=[x]) (by simp only [OM,ah];exact ⟨a,trivial⟩) x (ct ..))
  .exact ant b h.2 x hx
theorem xG{k:Nat}:∀{Pd:List yn} {x:yn},x∈fP ops k Pd↔x∈Pd/\waits .any ops.toArray k x.1=false
 |[],x=>by simp [fP]
 |y::Pd,x=>by
  unfold fP;cases c:waits .any ops.toArray k y.1
  .show x∈y::fP ops k Pd↔_;rw [pa,pa,xG];constructor
   .rintro (rfl|⟨b,a⟩)
    .exact ⟨.inl rfl,c⟩
    .exact ⟨.inr b,a⟩
   .rintro ⟨rfl|b,a⟩
    .exact .inl rfl
    .exact .inr ⟨b,a⟩
  .show x∈fP ops k Pd↔_;rw [pa,xG];constructor
   .rintro ⟨b,a⟩;exact ⟨.inr b,a⟩
   .rintro ⟨rfl|b,a⟩
    .rw [c] at a;cases a
    .exact ⟨b,a⟩
theorem ajx{pend:fq}{w:World}(h:∀p,p∈pend->p.2 w):iq pend w:=by
 induction pend with
 |nil=>trivial
 |cons p l ih=>exact ⟨h p (ct ..),ih λq a=>h q (cb _ a)⟩
theorem asi{P:Program}{ρ:aB}{Ev:Env}{g:Bool}{t:TypeId}{n:Nat}{l:List AV}{v:AV}{s:Addr}{w:World}{dst:zu}{ty:TypeId}{pos:String}{af:zw}{gd:Option (Nat×Bool)}
  (hx:aw Ev g x (.pointer (some s))) (o:szA P t=some n) (k:lN P t l=some v) (u:n<=l.length) (p:bT w s ((AV.ar ρ l).take n)):bk P Ev g ⟨dst,.load t x,ty,pos,af,gd⟩ w (v.val ρ):=by
 have A:lN P t (l.drop 0)=some v:=by simpa using k
 obtain ⟨d,n',bytes,z,c1,B,b⟩:=oM (X:=⟨P,[],[],[],(λ_ h=>nomatch h),0,[],[],(λ_ h=>nomatch h),[]⟩) (ρ:=ρ) A;have c1:P.underlying t=some d:=c1;unfold szA at o;rw [c1] at o;rcases dT o with ⟨f,j⟩|⟨f,j⟩
 .split at j
  .rename_i q c;obtain ⟨m,C,q⟩:=q;cases j;unfold lN at k;rw [c1] at k;rcases dT k with ⟨_,i⟩|⟨i,_⟩
   .rw [c] at i;obtain ⟨_,y⟩:=aI i;cases y;simp only [AV.val,AV.kM];exact Ol c1 f (cW c) hx (λ_=>p) (by rw [b9,AV.bu];exact et u)
   .rw [f] at i;cases i
  .cases j
 .cases j;rw [f] at b;simp only [pA,qT] at b;refine NT c1 f hx (λ_=>?_);have e:(AV.ar ρ l).take 1=[v.val ρ]:=by
   cases r:AV.ar ρ l with
   |nil=>rw [r] at b;cases b
   |cons a l=>rw [r] at b;cases b;rfl
  rw [e] at p;exact p
theorem aii{l:zq}{off n:Nat}(h:off+n<=l.length):pE l off ((l.drop off).take n)=l:=by
 unfold pE;have e1:((l.drop off).take n).length=n:=by rw [b9,ec];omega
 rw [e1];have e2:(l.drop off).take n++l.drop (off+n)=l.drop off:=by rw [<-n9,qb]
 rw [b0,e2,qb]
theorem apw{T:aD}{st:aE}{g:GK}{k:Nat}{ρ:aB}{w:World}{KQ:List Row->yn->aE->Option R}(hs:Sat (ab ρ T st.G++(ab ρ T fr.H++Φ)) w)(h:akJ X T fr st g k o KQ=some (some r)):
  ∃(v:Value) (ρ':aB) (st':aE) (av:AV) (C:List Row) (p:yn),KQ C p st'=some r/\aW st.c ρ ρ'/\st.c<=st'.c/\st'.E=cL o.dst g av st.E/\av.val ρ'=v/\az ρ' T st.E fr.F=az ρ T st.E fr.F/\ab ρ' T fr.H=ab ρ T fr.H/\
   Sat (ab ρ' T st'.G++(ab ρ' T (C++fr.H)++Φ)) w/\p.1=k/\BF ρ' p w/\(p.2.1<st'.c/\∀u,u∈p.2.2.2->u<st'.c)/\(∀w',BF ρ' p w'->bk X.P (az ρ T st.E fr.F) (T.get g) o w' v):=by
 obtain ⟨dst,op,ty,pos,af,gd⟩:=o;unfold akJ at h;simp only at h;split at h
 .rename_i t x d;split at h
  .rename_i id off hx;split at h
   .rename_i j s bt cs hf;simp only [cH] at h;split at h
    .rename_i n hn;split at h
     .rename_i v hv;split at h
      .rename_i us J;obtain ⟨Z,h2⟩:=aI h;simp only [ah,Nat.ble_eq] at Z;obtain ⟨⟨⟨hl,hvl⟩,hle⟩,hmk⟩:=Z;obtain ⟨l1,l2,l3,l4⟩:=aE.cS.1 hl;obtain ⟨f1,f2⟩:=mZ hf;have:s=id:=ai f2;subst this;have z:j<st.G.length:=(List.getElem?_eq_some_iff.1 f1).1;have f:=tf l3 f1;simp only [Row.low,ah,j5] at f;have S:∀{l:List AV} {c m q:Nat},AV.cm c l=true->AV.cm c ((l.drop m).take q)=true:=λ{l c m q} h=>by
        have dr:∀(l:List AV) (m:Nat),AV.cm c l=true->AV.cm c (l.drop m)=true:=λl=>by
         induction l with
         |nil=>intro m h;simp [AV.cm]
         |cons a l ih=>
          intro m h;cases m with
          |zero=>exact h
          |succ m=>simp only [AV.cm,ah] at h;exact ih m h.2
        have tk:∀(l:List AV) (m:Nat),AV.cm c l=true->AV.cm c (l.take m)=true:=λl=>by
         induction l with
         |nil=>intro m h;simp [AV.cm]
         |cons a l ih=>
          intro m h;cases m with
          |zero=>rfl
          |succ m=>simp only [AV.cm,ah,tj] at h ⊢; exact ⟨h.1,ih m h.2⟩
        exact tk _ _ (dr _ _ h)
       obtain ⟨ρ',I⟩:=LB (ρ:=ρ) (S (m:=off) (q:=n) f.2);obtain ⟨i1,i2⟩:=WO (ρ:=ρ') J;have V:=abx J I.lw;generalize me st.c ((cs.drop off).take n)=L at h2 I J i1 i2 V;obtain ⟨ls,C,c'⟩:=L;have Y:st.c<=c':=I.le;have i:aW st.c ρ ρ':=I.ag;have N:AV.ar ρ' ls=AV.ar ρ ((cs.drop off).take n):=I.eq;have hb:fL w (ρ s).b bt (AV.ar ρ cs):=hs.at_ (gm f1);have W:AV.ar ρ' cs=AV.ar ρ cs:=AV.cj i _ f.2;have Q:v.val ρ'=v.val ρ:=AV.mJ i _ hvl;have D:us.length=n:=by
        have e1:(AV.ar ρ' ls).length=n:=by rw [N,AV.bu,b9,ec];omega
        rw [i2,<-AV.bu (ρ:=ρ') (l:=ls)];exact e1
       have eG:=bh (T:=T) i l3;have eH:=bh (T:=T) i l4;have e3:(us.map λu=>(ρ' u).x)=((AV.ar ρ cs).drop off).take n:=by rw [<-i1,N,AV.kM,AV.iM]
       refine ⟨v.val ρ,ρ',_,v,C,(k,s,off,us),h2,i,Y,rfl,Q,oY hl i,eH,?_,rfl,⟨by simpa using hmk,AV.ar ρ cs,bt,?_,?_⟩,⟨gr f.1 Y,V⟩,λw' hw=>?_⟩
       .show Sat (ab ρ' T (st.G.set j _)++(ab ρ' T (C++fr.H)++Φ)) w;rw [fT z,eG];have e4:(Row.box s bt (vV cs off ls)).item ρ' T=(Row.box s bt cs).item ρ T:=by simp only [Row.item];rw [i _ f.1,<-AM,W,N,AV.kM,AV.iM,aii (by rw [AV.bu];exact hle)]
        have hi:=gm (ρ:=ρ) (T:=T) (Φ:=ab ρ' T (C++fr.H)++Φ) f1;have e5:(ab ρ T st.G++(ab ρ' T (C++fr.H)++Φ)).set j ((Row.box s bt (vV cs off ls)).item ρ' T)=ab ρ T st.G++(ab ρ' T (C++fr.H)++Φ):=by
         rw [e4];apply nc;intro q;by_cases hq:q=j
         .subst hq;rw [qP (List.getElem?_eq_some_iff.1 hi).1,hi]
         .rw [qj (λh=>hq h.symm)]
        rw [e5,bp,eH,b0];have ins:∀(L:List Item) (A B:Ctx),Sat (A++B) w->(∀it∈L,it.own=[]/\∀M w,it.P M w)->Sat (A++(L++B)) w:=λL=>by
         induction L with
         |nil=>intro A B h _;exact h
         |cons x L ih=>
          intro A B h hL;have Z:=ih A B h (λit K=>hL it (cb _ K));have hx:=hL x (ct ..);refine Z.C5 (λj k=>(j<A.length/\k=j)\/(A.length<j/\k+1=j)) (λj jt z=>?_) (λj k q hjk Z h2=>by omega);by_cases e:j<A.length
          .rw [cy e] at z;exact .inr ⟨j,jt,.inl ⟨e,rfl⟩,by rw [cy e];exact z,cd.refl⟩
          .rw [ca (by omega)] at z;by_cases e2:j=A.length
           .subst e2;simp at z;subst z;exact .inl hx
           .refine .inr ⟨j-1,jt,.inr ⟨by omega,by omega⟩,?_,cd.refl⟩;rw [ca (by omega)];have:j-A.length=(j-1-A.length)+1:=by omega
            rw [this,n5,c8] at z;exact z
        refine ins (ab ρ' T C) (ab ρ T st.G) (ab ρ T fr.H++Φ) hs (λit K=>?_);obtain ⟨y,U,rfl⟩:=List.mem_map.1 K;have h9:=I.rp y U;have h10:y.item ρ' T=y.item ρ' []:=by have hgd:y.gd=none:=I.rg y U;exact Row.DV (by rw [hgd,aD.get_none,aD.get_none])
        rw [h10];exact ⟨(y.item ρ' []).hp h9.1,h9.2⟩
       .show fL w (ρ' s).b bt _;rw [i _ f.1];exact hb
       .show ((AV.ar ρ cs).drop off).take us.length=us.map λu=>(ρ' u).x;rw [D,e3]
       .obtain ⟨_,csv,t2,b1,b2⟩:=hw;have b1:fL w' (ρ' s).b t2 csv:=b1;have b2:(csv.drop off).take us.length=us.map λu=>(ρ' u).x:=b2;rw [i _ f.1] at b1;rw [D,e3] at b2;have O:=aV (ρ:=ρ) hx;simp only [AV.val] at O;have e6:AV.ar ρ ((cs.drop off).map (va st.G fr.H))=(AV.ar ρ cs).drop off:=by rw [ND hs,AV.iM]
        refine asi O hn hv (by rw [qi,ec];omega) ?_;rw [e6];refine b1.part off ?_;have:(((AV.ar ρ cs).drop off).take n).length=n:=by rw [b9,ec,AV.bu];omega
        rw [this];exact b2
      .cases h
     .cases h
    .cases h
   .cases h
  .cases h
 .cases h
theorem PV{e:OT}{k mk_:Nat}{pend:fq}{EV:List tS}{T T':aD}{g:GK}{fr1:Fr}{st1:aE}{ρ:aB}{w:World}{v:Value}{J:World->Prop}(y:fr1.n=fr.n)(p:amA ops fr fr1 st1 ρ o T T' g)(B:ops[k]? =some o)(t:∀x∈EV,rM ops.toArray k x.1=true)(i:J w)
  (r:∀w',J w'->bk X.P (az ρ T' st1.E fr1.F) (T'.get g) o w' v) (c:Gv X.P σ ops.toArray Q fr.n D e EV ((k,J)::pend) (se o.dst (T'.get g) v (az ρ T' st1.E fr1.F)) w):
  Gv X.P σ ops.toArray Q fr.n D (.q k mk_ e) EV pend (az ρ T' st1.E fr1.F) w:=by
 have m:ops.toArray[k]? =some o:=by simpa using B
 have f:=p.ds;rw [y] at f;intro a d u C;have j:∀v,∀x∈EV,vt X.P ops.toArray (a.put o.dst v) x:=λv x hx=>(C x hx).put m (t x hx);simp only [jn,m];cases s:g with
 |none=>
  subst s;rw [aD.get_none] at r c;refine ⟨v,J,i,.inl ⟨by simp [Region.wanted,p.gg],λw' h=>r w' h _ a d rfl⟩,?_⟩;exact c _ (d.se f) (by rw [jx];exact u) (j _)
 |some gk=>
  obtain ⟨rj,par,b,I,H,A,G⟩:=p.gk gk s;rw [y] at A;subst s;have l:=GC (ops:=ops.toArray) p.gg (by simpa using I) H d A;rw [G] at l;cases z:T'.get (some gk)
  .rw [z] at l c;refine ⟨undef,J,i,.inr ⟨l,rfl⟩,?_⟩;exact c _ (d.se (g:=false) (v:=v) f) (by rw [jx];exact u) (j _)
  .rw [z] at l r c;refine ⟨v,J,i,.inl ⟨l,λw' h=>r w' h _ a d rfl⟩,?_⟩;exact c _ (d.se f) (by rw [jx];exact u) (j _)
theorem aub{G H:List Row}{s:Src}{a:Row}{q c:Nat}(h:s.at_ G H a)(d:UA q a=true)(l:bI c G=true)(j:bI c H=true):q<c:=by
 have key:∀{L:List Row},bI c L=true->a∈L->q<c:=λ{L} f b=>by
  have g:a.low c=true:=by
   induction L with
   |nil=>cases b
   |cons x L ih=>
    simp only [bI,ah] at f;rcases List.mem_cons.1 b with rfl|b
    .exact f.1
    .exact ih f.2 b
  unfold UA at d;split at d
  .have e:=ai d;subst e;simp only [Row.low,ah,j5] at g;exact g.1.1
  .cases d
 cases s with
 |top i=>exact key l (ej h)
 |cP i=>exact key j (ej h)
 |nilI t=>exact h.elim
 |nilO t e=>exact h.elim
 |nilM k v=>exact h.elim
def HP(ρ:aB)(T:aD)(fr:Fr)(A:List Row)(Pd:List yn)(pend:fq)(w:World):Prop:= ∀p,p∈pend->∀w',(∃Φ',Sat (ab ρ T (A++fr.H)++Φ') w')->(∀x,x∈Pd->x.1=p.1->BF ρ x w'\/(Nat.beq x.2.2.1 1000000000=true/\Ext w w'))->p.2 w'
def fI(EV:List tS):Ctx:=EV.map λx=>box x.2.1 x.2.2.1 x.2.2.2
def ZL(ops:zz)(order:OT)(EV:List tS):Prop:= ∀x∈EV,(∀j∈order.ops,rM ops.toArray j x.1=true)/\∀j∈order.WV,j=x.1\/rM ops.toArray j x.1=true
theorem L4{B:Ctx}{w:World}{p:tS->Bool}:∀{EV:List tS} {A:Ctx},Sat (A++(fI EV++B)) w->Sat (A++(fI (EV.filter p)++B)) w
 |[],_,h=>h
 |x::EV,A,h=>by
  rw [qv];split
  .have a:Sat ((A++[box x.2.1 x.2.2.1 x.2.2.2])++(fI EV++B)) w:=by simpa [fI] using h
   have:=L4 (p:=p) a;simpa [fI] using this
  .exact L4 (p:=p) (Sat.Dc (A:=A) (B:=fI EV++B) h)
theorem VP{B:Ctx}{w:World}:∀{EV:List tS} {A:Ctx},Sat (A++(fI EV++B)) w->Sat (A++B) w
 |[],_,h=>h
 |_::EV,A,h=>VP (EV:=EV) (Sat.Dc (A:=A) (B:=fI EV++B) h)
theorem Fits.jP{n:Nat}{E:Env}{a:Act}{d:Tmp}{v:Value}(h:Fits n E a)(e:a.tmps.getD d undef=v):Fits n ((d,true,v)::E) a:=by
 refine ⟨h.size,λt g v' b=>?_⟩;simp only [look] at b;cases hb:Nat.beq d t
 .rw [hb,aZ] at b;exact h.at_ t g v' b
 .rw [hb,cr] at b;have:=ai hb;subst this;cases b;exact e
theorem Fits.avA{n:Nat}{E:Env}{a:Act}{d:Tmp}(h:Fits n E a)(i:look E d=none)(v:Value):Fits n E (a.put (some d) v):=by
 refine ⟨by simp [Act.put,h.size],λt g v' b=>?_⟩;have c:d≠t:=λe=>by subst e;rw [i] at b;cases b
 have:=Act.eval_put (a:=a) (dst:=some d) (v:=v) (x:= .tmp t) (λe f j=>c (by cases f;cases j;rfl));exact Eq.trans this (h.at_ t g v' b)
theorem as1{X:Cx}{T:aD}{fr:Fr}{st:aE}{p:TypeId×List AV×List AV}(h:KW X T fr st o=some p):o.guard=none/\∀cs b,o.op≠ .select cs b:=by
 unfold KW at h;split at h
 next e1 e2=>exact ⟨e2,λcs b a=>by rw [e1] at a;cases a⟩
 next e1 e2=>exact ⟨e2,λcs b a=>by rw [e1] at a;cases a⟩
 .cases h
theorem vt.same{P:Program}{ops:zv}{a:Act}{x:tS}{X:Cx}{T:aD}{fr:Fr}{st:aE}{ρ:aB}(k:X.P=P)(h:vt P ops a x)(i:ops[x.1]? =some o)(j:Fits fr.n (az ρ T st.E fr.F) a):
  ∀e vs cs,KW X T fr st o=some (e,vs,cs)->x.2.2.1=e/\x.2.2.2=AV.ar ρ cs:=λe vs cs l=>by
 subst k;obtain ⟨q,d,b,g,u,t,s,r,p⟩:=h;rw [i] at g;cases g;have f:=aeS (ρ:=ρ) l b _ a j;rw [p] at f;have m:b.alloc (.cells x.2.2.2.toArray x.2.2.1)=b.alloc (.cells (AV.ar ρ cs).toArray e):=by injection f
 have c:(some (Obj.cells x.2.2.2.toArray x.2.2.1):Option Obj)=some (.cells (AV.ar ρ cs).toArray e):=by rw [<-heap_alloc_new b (.cells x.2.2.2.toArray x.2.2.1),<-heap_alloc_new b (.cells (AV.ar ρ cs).toArray e),m]
 simp only [cH,Obj.cells.injEq] at c;exact ⟨c.2.1,by simpa using c.1⟩
theorem aiQ{frx:Fr}{T:aD}{w:World}{a:Act}{N:cT R}:∀{k:zC} {EV:List tS} {st:aE} {ρ:aB},fM T st.E frx.F->Sat (ab ρ T st.G++(ab ρ T frx.H++(fI EV++Φ))) w->Fits frx.n (az ρ T st.E frx.F) a->
  (∀x∈EV,vt X.P ops.toArray a x)->(∀f∈k,f∈EV.map (·.1))->akh X ops frx T k st N=some r->
  ∃st' ρ',N st'=some r/\aW st.c ρ ρ'/\st.c<=st'.c/\fM T st'.E frx.F/\Fits frx.n (az ρ' T st'.E frx.F) a/\ab ρ' T frx.H=ab ρ T frx.H/\
   Sat (ab ρ' T st'.G++(ab ρ' T frx.H++(fI (EV.filter λx=> !(dF x.1 k))++Φ))) w
 |[],EV,st,ρ,ht,hs,hf,hC,_,h=>by
  refine ⟨st,ρ,h,.refl,b7 _,ht,hf,rfl,?_⟩;have e:(EV.filter λx=> !(dF x.1 []))=EV:=by rw [List.filter_eq_self];intro x _;rfl
  rw [e];exact hs
 |f::k,EV,st,ρ,ht,hs,hf,hC,hin,h=>by
  unfold akh at h;split at h
  .rename_i o ho;obtain ⟨m,h2⟩:=aI h;simp only [ah,gj] at m;obtain ⟨x,hx,v⟩:=List.mem_map.1 (hin f (ct ..));subst v;obtain ⟨i,g,M⟩:=List.append_of_mem hx;have l:ops.toArray[x.1]? =some o:=by simpa using ho
   have D:Sat (((ab ρ T st.G++ab ρ T frx.H)++fI i)++box x.2.1 x.2.2.1 x.2.2.2::(fI g++Φ)) w:=by
    have e:ab ρ T st.G++(ab ρ T frx.H++(fI EV++Φ))=((ab ρ T st.G++ab ρ T frx.H)++fI i)++box x.2.1 x.2.2.1 x.2.2.2::(fI g++Φ):=by rw [M];simp [fI]
    rw [<-e];exact hs
   have C:Sat ([]++box x.2.1 x.2.2.1 x.2.2.2::((ab ρ T st.G++ab ρ T frx.H)++(fI i++(fI g++Φ)))) w:=by have:=D.aqr;simpa using this
   have B:Sat (ab ρ T st.G++(ab ρ T frx.H++(box x.2.1 x.2.2.1 x.2.2.2::(fI i++(fI g++Φ))))) w:=by have:=C.move;simpa using this
   have L:=hC x hx;obtain ⟨o2,d,w0,I,Q,r3,r4,O,r6⟩:=id L;rw [l] at I;cases I;obtain ⟨b,st1,av,k1,k2,K,J,k5,k6,k7,k8⟩:=ar7 B (vt.same rfl L l hf) h2;have e1:az b T st1.E frx.F=(d,true,H8 o x.2.1)::az ρ T st.E frx.F:=by rw [J,vT,k5,k6,Q,aD.get_none];rfl
   have A:Sat (ab b T st1.G++(ab b T frx.H++(fI (EV.filter λy=> !(Nat.beq x.1 y.1))++Φ))) w:=by
    have e2:(EV.filter λy=> !(Nat.beq x.1 y.1))=(i++g).filter λy=> !(Nat.beq x.1 y.1):=by rw [M];simp
    rw [e2];have:Sat ((ab b T st1.G++ab b T frx.H)++(fI (i++g)++Φ)) w:=by
     have e3:fI (i++g)=fI i++fI g:=by simp [fI]
     rw [e3];simpa using k8
    have:=L4 (p:=λy=> !(Nat.beq x.1 y.1)) this;simpa using this
   have z:fM T st1.E frx.F:=by rw [J];exact ht.out m.1 none av
   obtain ⟨s,q,q1,Z,Y,W,V,U,S⟩:=aiQ z A (by rw [e1];exact hf.jP O) (λy u=>hC y (List.mem_filter.1 u).1) (λf' j=>by obtain ⟨y,u,t⟩:=List.mem_map.1 (hin f' (cb _ j));subst t;refine List.mem_map.2 ⟨y,List.mem_filter.2 ⟨u,?_⟩,rfl⟩;rw [gj,nJ];intro hb;have:=ai hb;rw [<-this] at j;rw [dG.2 j] at m;cases m.2) k1
   refine ⟨s,q,q1,k2.trans Z K,c9 K Y,W,V,U.trans k7,?_⟩;have e4:((EV.filter λy=> !(Nat.beq x.1 y.1)).filter λy=> !(dF y.1 k))=EV.filter λy=> !(dF y.1 (x.1::k)):=by
    rw [qZ];congr 1
    funext y
    simp only [dF,Bool.not_or];exact Bool.and_comm ..
   rw [<-e4];exact S
  .cases h
theorem ati(hΓ:∀it∈X.Γ,it∈Φ)(htb:∀e∈tb,e.Ok X.P X.Γ)(htp:∀e∈tp,e.Ok X.P X.Γ):∀{S:OT} {EV:List tS} {A:List Row} {Pd:List yn} {T:aD} {st:aE} {ρ:aB} {w:World} {pend:fq},fM T st.E fr.F->pM ops fr.n T->FT T fr->ZL ops S EV->akw st.c Pd->Sat (ab ρ T st.G++(ab ρ T (A++fr.H)++(fI EV++Φ))) w->
  HP ρ T fr A Pd pend w->rB X tb tp KP ops fr S A Pd T st K=some r->
  (∀st' ρ' w',aW st.c ρ ρ'->st.c<=st'.c->K st'=some r->Sat (ab ρ' [] st'.G++(ab ρ' [] fr.H++Φ)) w'->At Q .normal fr.n D (az ρ' [] st'.E fr.F) w')->
  (∀v st' ρ' w',aW st.c ρ ρ'->st.c<=st'.c->KP v st'=some r->Sat (ab ρ' [] st'.G++(ab ρ' [] fr.H++Φ)) w'->Fc Q (je (v.val ρ')) D w')->
  Gv X.P σ ops.toArray Q fr.n D S EV pend (az ρ T st.E fr.F) w:=by
 intro S
 -- a loud operation, the rest by induction
 have loud:∀(rest:OT) (k mk:Nat),(∀{EV:List tS} {A:List Row} {Pd:List yn} {T:aD} {st:aE} {ρ:aB} {w:World} {pend:fq},fM T st.E fr.F->pM ops fr.n T->FT T fr->ZL ops rest EV->akw st.c Pd->Sat (ab ρ T st.G++(ab ρ T (A++fr.H)++(fI EV++Φ))) w->
   HP ρ T fr A Pd pend w->rB X tb tp KP ops fr rest A Pd T st K=some r->
   (∀st' ρ' w',aW st.c ρ ρ'->st.c<=st'.c->K st'=some r->Sat (ab ρ' [] st'.G++(ab ρ' [] fr.H++Φ)) w'->At Q .normal fr.n D (az ρ' [] st'.E fr.F) w')->
   (∀v st' ρ' w',aW st.c ρ ρ'->st.c<=st'.c->KP v st'=some r->Sat (ab ρ' [] st'.G++(ab ρ' [] fr.H++Φ)) w'->Fc Q (je (v.val ρ')) D w')->
   Gv X.P σ ops.toArray Q fr.n D rest EV pend (az ρ T st.E fr.F) w)->
   ∀{EV:List tS} {A:List Row} {Pd:List yn} {T:aD} {st:aE} {ρ:aB} {w:World} {pend:fq},fM T st.E fr.F->pM ops fr.n T->FT T fr->(∀x∈EV,rM ops.toArray k x.1=true)->ZL ops rest EV->akw st.c Pd->Sat (ab ρ T st.G++(ab ρ T (A++fr.H)++(fI EV++Φ))) w->
   HP ρ T fr A Pd pend w->
   (match ops[k]? with
    |some o=>Qo X tb tp KP ops fr A T st o λT st'=>aC (OM st'.G (fP ops k Pd)) (rB X tb tp KP ops fr rest (bA (λr=> !(dp r)) st.G++A) (fP ops k Pd) T st' K) none
    |none=>none)=some r->
   (∀st' ρ' w',aW st.c ρ ρ'->st.c<=st'.c->K st'=some r->Sat (ab ρ' [] st'.G++(ab ρ' [] fr.H++Φ)) w'->At Q .normal fr.n D (az ρ' [] st'.E fr.F) w')->
   (∀v st' ρ' w',aW st.c ρ ρ'->st.c<=st'.c->KP v st'=some r->Sat (ab ρ' [] st'.G++(ab ρ' [] fr.H++Φ)) w'->Fc Q (je (v.val ρ')) D w')->
   Gv X.P σ ops.toArray Q fr.n D (.l k mk rest) EV pend (az ρ T st.E fr.F) w:=by
  intro rest k mk ih EV A Pd T st ρ w pend h1 h2 hf hfk i C hs hp h next s;have V:∀it∈X.Γ,it∈fI EV++Φ:=λit hit=>gx _ (hΓ it hit);split at h
  .rename_i o ho;have hs1:=sh (A:=[]) (p:=dp) hs;refine ap5 (k:=k) (mk:=mk) (o:=o) (by simpa using ho) hfk rfl ?_;have fin:∀T' st' ρ' w',fM T' st'.E (pC fr A st).F->pM ops (pC fr A st).n T'->FT T' fr->aW (stM st).c ρ ρ'->(stM st).c<=st'.c->(aC (OM st'.G (fP ops k Pd)) (rB X tb tp KP ops fr rest (bA (λr=> !(dp r)) st.G++A) (fP ops k Pd) T' st' K) none)=some r->ab ρ' T' (pC fr A st).H=ab ρ T (pC fr A st).H->Sat (ab ρ' T' st'.G++(ab ρ' T' (pC fr A st).H++(fI EV++Φ))) w'->
     WL X.P σ ops.toArray (QKE X.P σ ops.toArray Q rest EV (still .any ops.toArray k pend)) fr.n D [] (az ρ' T' st'.E (pC fr A st).F) w':=by
    intro T' st' ρ' w' a1 a2 a3 a4 a5 a6 a7 a8;obtain ⟨a9,a10⟩:=aI a6;have e1:bA (λr=> !(dp r)) st.G++(A++fr.H)=(bA (λr=> !(dp r)) st.G++A)++fr.H:=by rw [b0]
    have hs8:Sat (ab ρ' T' st'.G++(ab ρ' T' ((bA (λr=> !(dp r)) st.G++A)++fr.H)++(fI EV++Φ))) w':=by rw [<-e1];exact a8
    have conv:∀z,(∃y,Sat (ab ρ' T' ((bA (λr=> !(dp r)) st.G++A)++fr.H)++y) z)->∃y,Sat (ab ρ T (A++fr.H)++y) z:=λz hw=>by
     obtain ⟨y,O⟩:=hw;refine ⟨y,?_⟩;rw [<-e1] at O;have U:Sat (ab ρ T (bA (λr=> !(dp r)) st.G++(A++fr.H))++y) z:=by rw [<-a7];exact O
     rw [bp,b0] at U;exact U.AT
    have mem:∀p,p∈still .any ops.toArray k pend->p∈pend/\∀x,x∈Pd->x.1=p.1->x∈fP ops k Pd:=λp R=>by unfold still at R;rw [List.mem_filter] at R;exact ⟨R.1,λx hx he=>xG.2 ⟨hx,by rw [he];simpa using R.2⟩⟩
    have hBF:=ahc (B:=ab ρ' T' ((bA (λr=> !(dp r)) st.G++A)++fr.H)++(fI EV++Φ)) hs8 a9;have HP':HP ρ' T' fr (bA (λr=> !(dp r)) st.G++A) (fP ops k Pd) (still .any ops.toArray k pend) w':=λp R z hw hB=>by obtain ⟨m1,m2⟩:=mem p R;exact hp p m1 z (conv z hw) (λx hx he=>(hB x (m2 x hx he) he).elim (λh=> .inl ((E4 a4 (C x hx)).1 h)) (λh=>by have:=(hBF x (m2 x hx he)).1;rw [h.1] at this;cases this))
    refine cg (auP (ajx λp R=>HP' p R w' ⟨fI EV++Φ,hs8.AT⟩ (λx hx _=> .inl (hBF x hx))) ?_);exact ih a1 a2 a3 i (λx hx=>⟨gr (C x (xG.1 hx).1).1 a5,λu hu=>gr ((C x (xG.1 hx).1).2 u hu) a5⟩) hs8 HP' a10 (λI M z b1 b2 b3 b4=>next I M z (a4.trans b1 a5) (c9 a5 b2) b3 b4) (λv I M z b1 b2 b3 b4=>s v I M z (a4.trans b1 a5) (c9 a5 b2) b3 b4)
   unfold Qo at h;split at h
   .rename_i q hq;subst h;refine arX (fr:=pC fr A st) (st:=stM st) h1 hs1 V htp hq (λst' ρ' w' a1 a4 a5 a6 a7 a8=>fin T st' ρ' w' a1 h2 hf a4 a5 a6 a7 a8) (λlb v st' ρ' w' a1 a2 a3 ae1 ae2 a4=>?_);cases lb with
    |true=>cases a3
    |false=>
    have a4':Sat (ab ρ' T ({ st' with G:=st'.G++(bA (λr=> !(dp r)) st.G++A) }:aE).G++(ab ρ' T fr.H++(fI EV++Φ))) w':=by
     have e2:(pC fr A st).H=(bA (λr=> !(dp r)) st.G++A)++fr.H:=by rw [b0]
     rw [e2,bp,b0] at a4;show Sat (ab ρ' T (st'.G++(bA (λr=> !(dp r)) st.G++A))++_) w';rw [bp,b0];exact a4
    obtain ⟨I,k1,Y,_,L⟩:=ajG (fr:=fr) (KP:=λ_=>KP) (b:=false) hf a3 a4';rw [<-b0] at L;replace L:=VP L;rw [b0] at L;have k2':I.c=st'.c:=Y;have:=s v I ρ' w' a1 (by rw [k2'];exact a2) k1 L;exact aex this
   .exact agR (fr:=pC fr A st) (st:=stM st) (fr0:=fr) (K:=λT st'=>aC (OM st'.G (fP ops k Pd)) (rB X tb tp KP ops fr rest (bA (λr=> !(dp r)) st.G++A) (fP ops k Pd) T st' K) none) h1 h2 rfl (λr hr=>gx _ (gx _ hr)) hf hs1 V htb h fin
  .cases h
 induction S with
 |nil=>
  intro EV A Pd T st ρ w pend h1 h2 hf i C hs hp h next s;have V:∀it∈X.Γ,it∈fI EV++Φ:=λit hit=>gx _ (hΓ it hit);unfold rB at h;obtain ⟨h3,h4⟩:=aI h;have hs':Sat (ab ρ T ({ st with G:=st.G++A }:aE).G++(ab ρ T fr.H++(fI EV++Φ))) w:=by show Sat (ab ρ T (st.G++A)++_) w;rw [bp,b0];rw [bp,b0] at hs;exact hs
  obtain ⟨k1,Y,L⟩:=Ke h3 hf hs';rw [<-b0] at L;replace L:=VP L;rw [b0] at L;exact asF ((next _ ρ w .refl (by rw [k1];exact b7 _) h4 L).nS _ Y)
 |q k m rest ih=>
  intro EV A Pd T st ρ w pend h1 h2 hf i C hs hp h next s;have hevr:ZL ops rest EV:=λx hx=>⟨λj hj=>(i x hx).1 j (cb _ hj),(i x hx).2⟩;have V:∀it∈X.Γ,it∈fI EV++Φ:=λit hit=>gx _ (hΓ it hit);unfold rB at h;split at h
  .rename_i o ho;have hs1:=sh (A:=[]) (p:=dp) hs;obtain ⟨T',g,hk,Z⟩:=aeO (ρ:=ρ) (fr0:=fr) (fr:=pC fr A st) (st:=stM st) h1 h2 rfl (λr hr=>gx _ (gx _ hr)) hf h;have hs':Sat (ab ρ T' (stM st).G++(ab ρ T' (pC fr A st).H++(fI EV++Φ))) w:=by rw [Z.eg,Z.eh];exact hs1
   have he:az ρ T st.E fr.F=az ρ T' st.E fr.F:=by have e1:=Z.ee;have e2:=Z.ef;rw [az,az,e1,e2]
   rw [he];have e1:bA (λr=> !(dp r)) st.G++(A++fr.H)=(bA (λr=> !(dp r)) st.G++A)++fr.H:=by rw [b0]
   -- from what stands then to what stands now
   have conv0:∀z y,Sat (ab ρ T' (bA (λr=> !(dp r)) st.G++(A++fr.H))++y) z->∃y,Sat (ab ρ T (A++fr.H)++y) z:=λz y O=>by
    refine ⟨y,?_⟩;have U:Sat (ab ρ T (bA (λr=> !(dp r)) st.G++(A++fr.H))++y) z:=by rw [<-Z.eh];exact O
    rw [bp,b0] at U;exact U.AT
   split at hk
   .rename_i q hq;subst hk;obtain ⟨v,ρ',st',av,Rq,p,k1,Y,L,k4,k5,k6,k7,k8,k9,k10,k11,k12⟩:=apw (fr:=pC fr A st) (st:=stM st) hs' hq;have e2:Rq++(bA (λr=> !(dp r)) st.G++(A++fr.H))=(Rq++(bA (λr=> !(dp r)) st.G++A))++fr.H:=by simp
    refine PV (fr1:=pC fr A st) (st1:=stM st) (J:=BF ρ' p) rfl Z ho (λx hx=>(i x hx).1 k (ct ..)) k10 k12 ?_;have:=ih (A:=Rq++(bA (λr=> !(dp r)) st.G++A)) (Pd:=p::Pd) (T:=T') (st:=st') (ρ:=ρ') (w:=w) (pend:=(k,BF ρ' p)::pend) (by rw [k4];exact Z.t1.out Z.ak g av) Z.t2 Z.ft hevr (λx hx=>?_) (by rw [<-e2];exact k8) (λq W z hw hB=>?_) k1 (λI M z b1 b2 b3 b4=>next I M z (Y.trans b1 L) (c9 L b2) b3 b4) (λv I M z b1 b2 b3 b4=>s v I M z (Y.trans b1 L) (c9 L b2) b3 b4)
    .rw [k4,vT,k5,k6] at this;exact this
    .rcases List.mem_cons.1 hx with rfl|hx
     .exact k11
     .exact ⟨gr (C x hx).1 L,λu hu=>gr ((C x hx).2 u hu) L⟩
    .rcases List.mem_cons.1 W with rfl|W
     .exact (hB p (ct ..) k9).elim id (λh=>by have:=k10.1;rw [h.1] at this;cases this)
     .obtain ⟨y,O⟩:=hw;rw [<-e2,bp,b0] at O;have hΦ1:=O.AT;have U:Sat (ab ρ T' (bA (λr=> !(dp r)) st.G++(A++fr.H))++y) z:=by rw [<-k7];exact hΦ1
      exact hp q W z (conv0 z y U) (λx hx he=>(hB x (cb _ hx) he).imp (E4 Y (C x hx)).1 id)
   .split at hk
    .rename_i p hpo;obtain ⟨lw,hk⟩:=aI hk;obtain ⟨dst,op,ty,pos,af,gd⟩:=o;unfold arj at hpo;split at hpo
     .rename_i t x d hop hdst;simp only at hop hdst;subst hop hdst;split at hpo
      .rename_i q off hx;split at hpo
       .cases hpo
       split at hpo
       .rename_i sr hkn;cases hpo;obtain ⟨v,hr,hO⟩:=abZ (ty:=ty) (pos:=pos) (af:=af) (gd:=gd) lw hs' hx hk;obtain ⟨ρ',st',av,k1,Y,L,k4,k5,k6,k7,k8⟩:=hO;have hq:q<st.c:=by obtain ⟨_,_,l3,l4⟩:=aE.cS.1 lw;obtain ⟨f1,f2⟩:=ck hkn;exact aub f1 f2 l3 l4
        refine PV (fr1:=pC fr A st) (st1:=stM st) (J:=λw'=>Ext w w') (v:=v) rfl Z ho (λx hx=>(i x hx).1 k (ct ..)) (Ext.refl w) (λw' hw'=>hr w' hw') ?_;have:=ih (A:=bA (λr=> !(dp r)) st.G++A) (Pd:=(k,q,1000000000,[])::Pd) (T:=T') (st:=st') (ρ:=ρ') (w:=w) (pend:=(k,λw'=>Ext w w')::pend) (by rw [k4];exact Z.t1.out Z.ak g av) Z.t2 Z.ft hevr (λx hx=>?_) (by rw [<-e1];exact k8) (λq' W z hw hB=>?_) k1 (λI M z b1 b2 b3 b4=>next I M z (Y.trans b1 L) (c9 L b2) b3 b4) (λv I M z b1 b2 b3 b4=>s v I M z (Y.trans b1 L) (c9 L b2) b3 b4)
        .rw [k4,vT,k5,k6] at this;exact this
        .rcases List.mem_cons.1 hx with rfl|hx
         .exact ⟨gr hq L,λu hu=>by cases hu⟩
         .exact ⟨gr (C x hx).1 L,λu hu=>gr ((C x hx).2 u hu) L⟩
        .obtain ⟨y,O⟩:=hw;rw [<-e1] at O;have hΦ1:Sat (ab ρ T' (bA (λr=> !(dp r)) st.G++(A++fr.H))++y) z:=by rw [<-k7];exact O
         rcases List.mem_cons.1 W with rfl|W
         .exact (hB (k,q,1000000000,[]) (ct ..) rfl).elim (λh=>by have:=h.1;simp at this) (λh=>h.2)
         .exact hp q' W z (conv0 z y hΦ1) (λx hx he=>(hB x (cb _ hx) he).imp (E4 Y (C x hx)).1 id)
       .cases hpo
      .cases hpo
     .cases hpo
    .obtain ⟨v,J,hJ,hr,hO⟩:=anX (fr:=pC fr A st) (st:=stM st) V Z.t1 hs' hk;obtain ⟨ρ',st',av,k1,Y,L,k4,k5,k6,k7,k8⟩:=hO;refine PV (fr1:=pC fr A st) (st1:=stM st) rfl Z ho (λx hx=>(i x hx).1 k (ct ..)) (hJ w ⟨fI EV++Φ,hs'.AT⟩) hr ?_;have:=ih (A:=bA (λr=> !(dp r)) st.G++A) (Pd:=Pd) (T:=T') (st:=st') (ρ:=ρ') (w:=w) (pend:=(k,J)::pend) (by rw [k4];exact Z.t1.out Z.ak g av) Z.t2 Z.ft hevr (λx hx=>⟨gr (C x hx).1 L,λu hu=>gr ((C x hx).2 u hu) L⟩) (by rw [<-e1];exact k8) (λq W z hw hB=>?_) k1 (λI M z b1 b2 b3 b4=>next I M z (Y.trans b1 L) (c9 L b2) b3 b4) (λv I M z b1 b2 b3 b4=>s v I M z (Y.trans b1 L) (c9 L b2) b3 b4)
     .rw [k4,vT,k5,k6] at this;exact this
     .obtain ⟨y,O⟩:=hw;rw [<-e1] at O;have hΦ1:Sat (ab ρ T' (bA (λr=> !(dp r)) st.G++(A++fr.H))++y) z:=by rw [<-k7];exact O
      rcases List.mem_cons.1 W with rfl|W
      .exact hJ z ⟨y,hΦ1⟩
      .exact hp q W z (conv0 z y hΦ1) (λx hx he=>(hB x hx he).imp (E4 Y (C x hx)).1 id)
  .cases h
 |l k m rest ih=>
  intro EV A Pd T st ρ w pend h1 h2 hf i C hs hp h next s;have V:∀it∈X.Γ,it∈fI EV++Φ:=λit hit=>gx _ (hΓ it hit);unfold rB at h;exact loud rest k m (λ{EV A Pd T st ρ w pend}=>ih) h1 h2 hf (λx hx=>(i x hx).1 k (ct ..)) (λx hx=>⟨λj hj=>(i x hx).1 j (cb _ hj),(i x hx).2⟩) C hs hp h next s
 |l2 m k1 r1 Y r2 ih1 ih2=>
  intro EV A Pd T st ρ w pend h1 h2 hf i C hs hp h next s;have V:∀it∈X.Γ,it∈fI EV++Φ:=λit hit=>gx _ (hΓ it hit);unfold rB at h;obtain ⟨h3,h4⟩:=aa1 h;exact auc (loud r1 k1 m (λ{EV A Pd T st ρ w pend}=>ih1) h1 h2 hf (λx hx=>(i x hx).1 k1 (ct ..)) (λx hx=>⟨λj hj=>(i x hx).1 j (cb _ (cb _ (qk _ hj))),λj hj=>(i x hx).2 j (qk _ hj)⟩) C hs hp h3 next s)
   (loud r2 Y m (λ{EV A Pd T st ρ w pend}=>ih2) h1 h2 hf (λx hx=>(i x hx).1 Y (cb _ (ct ..))) (λx hx=>⟨λj hj=>(i x hx).1 j (cb _ (cb _ (gx _ hj))),λj hj=>(i x hx).2 j (gx _ hj)⟩) C hs hp h4 next s)
 |f k m fl fs rest ih=>
  intro EV A Pd T st ρ w₀ pend h1 h2 hf i C hs hp h next s;unfold rB at h;obtain ⟨hc,h⟩:=aI h;simp only [ah,qw] at hc;obtain ⟨hfl,hpd0⟩:=hc;have hrun:∀f∈fl,∃o p d,ops[f]? =some o/\KW X T (frA fr A) st o=some p/\o.dst=some d/\jc o=true/\Nat.blt d fr.n=true/\ek st.E fr.F d=none/\(∀t∈o.looksAt ops.toArray,t≠d)/\
    (∀j∈k::rest.ops,rM ops.toArray j f=true)/\∀j∈fl++rest.WV,j=f\/rM ops.toArray j f=true:=λf hf=>by
   have:=hfl f hf;unfold auM at this;simp only [ah,qw,eF] at this;obtain ⟨⟨g1,g2⟩,g3⟩:=this;split at g1
   .rename_i o ho;split at g1
    .rename_i p d hp hd;simp only [ah,qw] at g1;obtain ⟨⟨⟨g4,g5⟩,g6⟩,g7⟩:=g1;refine ⟨o,p,d,ho,hp,hd,g4,g5,?_,λt ht hc=>?_,g2,λj hj=>(g3 j hj).imp ai id⟩
     .split at g6
      .cases g6
      .assumption
     .have:=g7 t ht;rw [hc] at this;simp at this
    .cases g1
   .cases g1
  have nxp:∀(EV:List tS) (a:Act) (w:World),Ext w₀ w->ZL ops (.f k m fl fs rest) EV->Sat (ab ρ T st.G++(ab ρ T (A++fr.H)++(fI EV++Φ))) w->Fits fr.n (az ρ T st.E fr.F) a->a.defers=D->(∀x∈EV,vt X.P ops.toArray a x)->
    (∀f∈fs,f∈EV.map (·.1))->wpOpIn (FW σ) 0 X.P ops.toArray (QN Q) k (λa' w'=>iq (still .any ops.toArray k pend) w'/\jn X.P σ ops.toArray (QN Q) rest ((EV.map (·.1)).filter λf=> !(dF f fs)) (still .any ops.toArray k pend) a' w') a w:=by
   intro EV a w hx0 i hs N hD hC hall;obtain ⟨st1,ρ1,k1,Y,L,k4,k5,k6,k7⟩:=aiQ (frx:=frA fr A) h1 hs N hC hall h;have hev':∀x∈EV.filter (λx=> !(dF x.1 fs)),(∀j∈k::rest.ops,rM ops.toArray j x.1=true)/\∀j∈rest.WV,j=x.1\/rM ops.toArray j x.1=true:=λx hx=>
    ⟨(i x (List.mem_filter.1 hx).1).1,λj hj=>(i x (List.mem_filter.1 hx).1).2 j (gx _ hj)⟩
   have HP':HP ρ1 T fr A Pd pend w:=λp R z hw hB=>by have k6:ab ρ1 T (A++fr.H)=ab ρ T (A++fr.H):=k6;rw [k6] at hw;exact hp p R z hw (λx hx he=>(hB x hx he).imp (E4 Y (C x hx)).1 (λh=>⟨h.1,hx0.trans h.2⟩))
   have hl:=loud rest k 0 (λ{EV A Pd T st ρ w pend}=>ih) (EV:=EV.filter λx=> !(dF x.1 fs)) (pend:=pend) k4 h2 hf (λx hx=>(hev' x hx).1 k (ct ..)) (λx hx=>⟨λj hj=>(hev' x hx).1 j (cb _ hj),(hev' x hx).2⟩)
    (λx hx=>⟨gr (C x hx).1 L,λu hu=>gr ((C x hx).2 u hu) L⟩) k7 HP' k1 (λI M z b1 b2 b3 b4=>next I M z (Y.trans b1 L) (c9 L b2) b3 b4) (λv I M z b1 b2 b3 b4=>s v I M z (Y.trans b1 L) (c9 L b2) b3 b4)
   have:=hl a k5 hD (λx hx=>hC x (List.mem_filter.1 hx).1);simp only [jn] at this;have e:(EV.map (·.1)).filter (λf=> !(dF f fs))=(EV.filter λx=> !(dF x.1 fs)).map (·.1):=by rw [List.filter_map];rfl
   rw [e];split at this
   .exact this.elim
   .exact this
  have main:∀(nf:Nat) (EV:List tS) (a:Act) (w:World),Ext w₀ w->ZL ops (.f k m fl fs rest) EV->Sat (ab ρ T st.G++(ab ρ T (A++fr.H)++(fI EV++Φ))) w->Fits fr.n (az ρ T st.E fr.F) a->a.defers=D->(∀x∈EV,vt X.P ops.toArray a x)->
    wpE X.P σ ops.toArray (QN Q) fl pend (λea a w=>(∀f∈fs,f∈ea)->wpOpIn (FW σ) 0 X.P ops.toArray (QN Q) k (λa' w'=>iq (still .any ops.toArray k pend) w'/\jn X.P σ ops.toArray (QN Q) rest (ea.filter λf=> !(dF f fs)) (still .any ops.toArray k pend) a' w') a w) nf (EV.map (·.1)) a w:=by
   intro nf
   induction nf with
   |zero=>exact λEV a w hx0 i hs N hD hC=>nxp EV a w hx0 i hs N hD hC
   |succ nf ihf=>
    intro EV a w hx0 i hs N hD hC;refine ⟨nxp EV a w hx0 i hs N hD hC,λf hf' hm=>?_⟩;obtain ⟨o,p,d,r1,r2,r3,r4,r5,r6,r7,r8,r9⟩:=hrun f hf';obtain ⟨e,vs,cs⟩:=p;obtain ⟨gn,ns⟩:=as1 r2;have ho':ops.toArray[f]? =some o:=by simpa using r1
    have hR:=aeS (ρ:=ρ) r2 w _ a N;have hw:Region.wanted o (yielded ops.toArray a.tmps)=true:=by simp [Region.wanted,gn]
    have hdn:look (az ρ T st.E fr.F) d=none:=by rw [hZ,r6];rfl
    have hne:∀x∈EV,f≠x.1:=λx hx hc=>by have:dF f (EV.map (·.1))=true:=dG.2 (List.mem_map.2 ⟨x,hx,hc.symm⟩);rw [hm] at this;cases this
    have hs1:Sat (box w.heap.size e (AV.ar ρ cs)::(ab ρ T st.G++(ab ρ T (A++fr.H)++(fI EV++Φ)))) (w.alloc (.cells (AV.ar ρ cs).toArray e)):=hs.push (fi _ _) (λb hb=>by
     have:b=w.heap.size:=by simpa [box] using hb
     subst this;simp) (λ_ _=>heap_alloc_new w _)
    have hs2:Sat (ab ρ T st.G++(ab ρ T (A++fr.H)++(fI ((f,w.heap.size,e,AV.ar ρ cs)::EV)++Φ))) (w.alloc (.cells (AV.ar ρ cs).toArray e)):=by
     have h0:Sat ([]++box w.heap.size e (AV.ar ρ cs)::((ab ρ T st.G++ab ρ T (A++fr.H))++(fI EV++Φ))) (w.alloc (.cells (AV.ar ρ cs).toArray e)):=by rw [b0];exact hs1
     have:=h0.move;rw [qs,b0] at this;exact this
    have hfit':=N.avA hdn (H8 o w.heap.size);have hflo:∀x∈(f,w.heap.size,e,AV.ar ρ cs)::EV,vt X.P ops.toArray (a.put o.dst (H8 o w.heap.size)) x:=λx hx=>by
     rcases List.mem_cons.1 hx with rfl|hx
     .refine ⟨o,d,w,ho',r3,ns,rfl,?_,?_⟩
      .rw [r3];have hlt:d<a.tmps.size:=by rw [N.size];simpa using r5
       show (a.tmps.setIfInBounds d _).getD d undef=_;simp [Array.getD,hlt]
      .rw [execOp_put (ops:=ops.toArray) o ns a o.dst _ (λt ht hc=>r7 t hc (by rw [r3] at ht;exact (du ht).symm))];exact hR
     .refine (hC x hx).put ho' ?_;rcases (i x hx).2 f (qk _ hf') with h9|h9
      .exact absurd h9 (hne x hx)
      .exact h9
    unfold wpOpIn;simp only [ho',hw,qQ];refine lY r4 ?_;rw [hR,Oper.uponIn_value];refine ⟨ajx λp R=>hp p R _ ⟨fI ((f,w.heap.size,e,AV.ar ρ cs)::EV)++Φ,hs2.AT⟩ (λx hx _=>(ant hs2 hpd0 x hx).imp id (λh=>⟨h,hx0.trans (fi _ _)⟩)),?_⟩;have:=ihf ((f,w.heap.size,e,AV.ar ρ cs)::EV) (a.put o.dst (H8 o w.heap.size)) _ (hx0.trans (fi _ _)) (λx hx=>?_) hs2 (by rw [r3];exact hfit') (by rw [jx];exact hD) hflo
    .exact this
    .rcases List.mem_cons.1 hx with rfl|hx
     .exact ⟨r8,r9⟩
     .exact i x hx
  intro a N hD hC;simp only [jn];exact main fl.length EV a w₀ (Ext.refl _) i hs N hD hC
end
def cY:Code->Nat
 | .region _ ops _=>ops.toList.foldl (λm o=>match o.dst with|some d=>Nat.lor m (Nat.shiftLeft 1 d)|none=>m) 0
 | .seq a b=>Nat.lor (cY a) (cY b)
 | .cond _ a b=>Nat.lor (cY a) (cY b)
 | .block _ c=>cY c
 | .loop c=>cY c
 | .scope c=>cY c
 | .rangeFunc _ ps a b=>Nat.lor (ps.toList.foldl (λm d=>Nat.lor m (Nat.shiftLeft 1 d)) 0) (Nat.lor (cY a) (cY b))
 |_=>0
def Vh(t:Nat):List (Bool×Nat×Pt)->Bool
 |[]=>false
 |x::l=>(!x.1&&Nat.beq x.2.1 t)||Vh t l
def wS(m:Nat)(vs:List (Bool×Nat×Pt))(t:Nat):Bool:= !(Nat.testBit m t)&& !(Vh t vs)
def nO(m:Nat)(vs:List (Bool×Nat×Pt)):aG->aG
 |[]=>[]
 |x::E=>aC ( wS m vs x.1 ) ( x::nO m vs E ) ( nO m vs E )
def oR(m:Nat)(vs:List (Bool×Nat×Pt)):aG->aG
 |[]=>[]
 |x::E=>aC ( wS m vs x.1 ) ( oR m vs E ) ( x::oR m vs E )
theorem abv{m:Nat}{vs:List (Bool×Nat×Pt)}{t:Nat}:{E:aG}->bE E t=aC (wS m vs t) (bE (nO m vs E) t) (bE (oR m vs E) t)/\bE (aC (wS m vs t) (oR m vs E) (nO m vs E)) t=none
 |[]=>by cases wS m vs t <;> exact ⟨rfl,rfl⟩
 |(t',g,v)::E=>by
  obtain ⟨b,a⟩:=abv (m:=m) (vs:=vs) (t:=t) (E:=E);cases hb:Nat.beq t' t
  .rw [fC hb];unfold nO oR;cases c:wS m vs t' <;> cases d:wS m vs t <;> rw [d] at b a <;> first
    |exact ⟨by rw [fC hb];exact b,a⟩
    |exact ⟨b,by rw [fC hb];exact a⟩
    |exact ⟨b,a⟩
  .have e:=ai hb;subst e;rw [iN hb];unfold nO oR;cases c:wS m vs t' <;> rw [c] at a
   .exact ⟨(iN hb).symm,a⟩
   .exact ⟨(iN hb).symm,a⟩
theorem akR{m:Nat}{vs:List (Bool×Nat×Pt)}{t:Nat}{E F:aG}:ek (oR m vs E) (nO m vs E++F) t=ek E F t:=by
 have app:∀A B:aG,bE (A++B) t=match bE A t with|some x=>some x|none=>bE B t:=λA B=>by
  induction A with
  |nil=>rfl
  |cons x A ih=>
   obtain ⟨t',g,v⟩:=x;cases hb:Nat.beq t' t
   .rw [n5,fC hb,fC hb];exact ih
   .rw [n5,iN hb,iN hb]
 obtain ⟨b,a⟩:=abv (m:=m) (vs:=vs) (t:=t) (E:=E);unfold ek;rw [app];cases c:wS m vs t <;> rw [c] at b a
 .rw [show bE (nO m vs E) t=none from a,b]
 .rw [show bE (oR m vs E) t=none from a,b];rfl
theorem amt{ρ:aB}{E E' F a:aG}(h:∀t,ek E' a t=ek E F t):j9 (az ρ [] E' a) (az ρ [] E F):=λt p hp=>by rw [hZ] at hp ⊢;rw [<-h];exact hp
mutual
def AV.ids:AV->zC
 | .ptr id _|.sl id|.adr id _|.mp id|.nv id|.sfp id _|.bs id _=>[id]
 | .agg l|.tuple l=>AV.aek l
 | .fn _ a b=>AV.aek a++AV.aek b
 | .ifc _ v=>v.ids
 |_=>[]
def AV.aek:List AV->zC
 |[]=>[]
 |v::l=>v.ids++AV.aek l
end
def apT(res:AV->AV)(ids:zC):List Row->zC
 |[]=>[]
 |r::G=>(match r with
  | .box j _ vs=>aC (vf j ids) (AV.aek (vs.map res)) []
  |_=>[])++apT res ids G
def reach(st:aE)(fr:Fr)(ts:zC):zC:=
 let a:=(ts.map λt=>match ek st.E fr.F t with
  |some (_,v)=>v.ids
  |none=>[]).flatten
 let b:=a++apT (va st.G fr.H) a st.G
 b++apT (va st.G fr.H) b st.G
def gA(ids:zC)(r:Row):Bool:=vf r.id ids
def mM(ids:zC)(c:Nat):List Row->List Row×List Row×Nat
 |[]=>([],[],c)
 |r::G=>match r with
  | .box j t vs=>aC ( vf j ids ) ( match me c vs with
   |(cs,R,c)=>match mM ids c G with
    |(G,R',c)=>(.box j t cs::G,R++R',c) )<|match mM ids c G with
   |(G,R',c)=>(.box j t vs::G,R',c)
  |r=>match mM ids c G with
   |(G,R',c)=>(r::G,R',c)
def gQ:List Row->List (List AV)
 |[]=>[]
 |r::G=>(match r with
  | .box _ _ cs=>cs::gQ G
  |_=>gQ G)
structure ar1(c:Nat)(G:List Row)(ρ ρ':aB)(x:List Row×List Row×Nat):Prop where
 ag:aW c ρ ρ'
 le:c<=x.2.2
 eq:ab ρ' [] x.1=ab ρ [] G
 lw:bI x.2.2 x.1=true
 rl:bI x.2.2 x.2.1=true
 rp:∀r∈x.2.1,(r.item ρ' []).cV=true/\∀M w,(r.item ρ' []).P M w
 bx:(gQ x.1).map (AV.ar ρ')=(gQ G).map (AV.ar ρ)
theorem O8{ρ ρ':aB}{c:Nat}(a:aW c ρ ρ'):{G:List Row}->bI c G=true->(gQ G).map (AV.ar ρ')=(gQ G).map (AV.ar ρ)
 |[],_=>rfl
 |r::G,h=>by
  simp only [bI,ah] at h;have ih:=O8 a h.2;cases r with
  |box j t cs=>
   have b:=h.1;simp only [Row.low,ah] at b;show AV.ar ρ' cs::(gQ G).map (AV.ar ρ')=AV.ar ρ cs::(gQ G).map (AV.ar ρ);rw [ih,AV.cj a _ b.2]
  |_=>exact ih
theorem KZ{ids:zC}:{G:List Row}->{c:Nat}->{ρ:aB}->bI c G=true->∃ρ',ar1 c G ρ ρ' (mM ids c G)
 |[],c,ρ,h=>⟨ρ,.refl,b7 _,rfl,rfl,rfl,(λ_ h=>by cases h),rfl⟩
 |r::G,c,ρ,h=>by
  simp only [bI,ah] at h;have f:(∀t cs j,r= .box j t cs->vf j ids=false)->mM ids c (r::G)=(match mM ids c G with|(G,s,c)=>(r::G,s,c))->∃ρ',ar1 c (r::G) ρ ρ' (mM ids c (r::G)):=λ_ e=>by
   obtain ⟨ρ',l⟩:=KZ (ids:=ids) (c:=c) (ρ:=ρ) h.2;rw [e];generalize mM ids c G=L at l;obtain ⟨q,R,z⟩:=L;refine ⟨ρ',l.ag,l.le,?_,?_,l.rl,l.rp,?_⟩
   .have:=l.eq;simp only [ab,er] at this ⊢;rw [this,Row.CK l.ag h.1]
   .simp only [bI,ah];exact ⟨Row.gq l.le h.1,l.lw⟩
   .have hb:(gQ q).map (AV.ar ρ')=(gQ G).map (AV.ar ρ):=l.bx;cases r with
    |box j t cs=>
     have w:=h.1;simp only [Row.low,ah] at w;show AV.ar ρ' cs::(gQ q).map (AV.ar ρ')=AV.ar ρ cs::(gQ G).map (AV.ar ρ);rw [hb,AV.cj l.ag _ w.2]
    |_=>exact hb
  cases r with
  |box j t vs=>
   cases v:vf j ids
   .exact f (λt cs j h=>by cases h;exact v) (by simp only [mM,v])
   .have b:=h.1;simp only [Row.low,ah,j5] at b;obtain ⟨k,a⟩:=LB (ρ:=ρ) b.2;have e:mM ids c (.box j t vs::G)=(match me c vs with
     |(cs,R,c)=>match mM ids c G with
      |(G,s,c)=>(.box j t cs::G,R++s,c)):=by simp only [mM,v]
    rw [e];generalize me c vs=L at a;obtain ⟨cs,R,c1⟩:=L;obtain ⟨d,g⟩:=KZ (ids:=ids) (c:=c1) (ρ:=k) (BE a.le h.2);dsimp only;generalize mM ids c1 G=L at g;obtain ⟨q,s,y⟩:=L;have o:c<=c1:=a.le;have i:c1<=y:=g.le;have p:aW c ρ d:=a.ag.trans g.ag a.le;refine ⟨d,p,c9 o i,?_,?_,uW (BE i a.rl) g.rl,?_,?_⟩
    .have e2:=g.eq;simp only [ab,er,Row.item] at e2 ⊢;have m:AV.cm c1 cs=true:=a.lw;have n:AV.ar k cs=AV.ar ρ vs:=a.eq;rw [e2,p _ b.1,AV.cj g.ag _ m,n];have:=bh (T:=[]) a.ag h.2;simp only [ab] at this;rw [this]
    .simp only [bI,Row.low,ah,j5];exact ⟨⟨by omega,AV.kO i _ a.lw⟩,g.lw⟩
    .intro r b;rcases List.mem_append.1 b with b|b
     .have u:r.low c1=true:=by
       have key:∀{R:List Row},bI c1 R=true->∀r∈R,r.low c1=true:=λ{R}=>by
        induction R with
        |nil=>intro _ r h;cases h
        |cons x R ih=>
         intro h r b;simp only [bI,ah] at h;rcases List.mem_cons.1 b with rfl|b
         .exact h.1
         .exact ih h.2 r b
       exact key a.rl r b
      rw [Row.CK g.ag u];exact a.rp r b
     .exact g.rp r b
    .have hb:(gQ q).map (AV.ar d)=(gQ G).map (AV.ar k):=g.bx;show AV.ar d cs::(gQ q).map (AV.ar d)=AV.ar ρ vs::(gQ G).map (AV.ar ρ);have m:AV.cm c1 cs=true:=a.lw;have n:AV.ar k cs=AV.ar ρ vs:=a.eq;rw [hb,AV.cj g.ag _ m,n,O8 a.ag h.2]
  |_=>exact f (λt cs j h=>by cases h) rfl
variable {G : List Row}
def Bh(E F:aG)(t:Nat):Option AV:=match ek E F t with
 |some (none,v)=>some v
 |_=>none
theorem Hk{ρ:aB}{E F:aG}{t:Nat}{v:AV}(h:Bh E F t=some v):look (az ρ [] E F) t=some (true,v.val ρ):=by
 unfold Bh at h;split at h
 next v' a=>cases h;rw [hZ,a];simp
 .cases h
def Wx(st:aE)(fr:Fr):List (Bool×Nat×Pt)->zC
 |[]=>[]
 |x::l=>(aC x.1 (match ek st.E fr.F x.2.1 with
  |some (_,v)=>v.ids
  |none=>[]) [])++Wx st fr l
mutual
def alS(G H:List Row):Pt->AV->zC
 | .own _ _ _,v=>v.ids
 | .mp _ _ _,v=>v.ids
 | .it,v=>v.ids
 | .bx _ _ _ vs,v=>(match v with
  | .ptr j _=>j::QI G H vs (cellsOf G H j)
  |_=>[])
 | .agg l,v=>(match v with
  | .agg vs=>QI G H l vs
  |_=>[])
 | .cB l,v=>(match v with
  | .tuple vs=>QI G H l vs
  |_=>[])
 | .fn _ a b,v=>(match v with
  | .fn _ a' b'=>QI G H a a'++QI G H b b'
  |_=>[])
 | .sty p,v=>alS G H p v
 | .ifc _ p,v=>(match v with
  | .ifc _ u=>alS G H p u
  |_=>[])
 | .dat _ o,v=>aC (o.all (λx=>x.isNone)) [] v.ids
 |_,_=>[]
def QI(G H:List Row):List Pt->List AV->zC
 |[],_=>[]
 |p::l,vs=>(match vs with
  |v::vs=>alS G H p (va G H v)++QI G H l vs
  |[]=>[])
end
def aq8(st:aE)(fr:Fr):List (Bool×Nat×Pt)->zC
 |[]=>[]
 |x::l=>(match ek st.E fr.F x.2.1 with
  |some (_,v)=>alS st.G fr.H x.2.2 (va st.G fr.H v)
  |none=>[])++aq8 st fr l
structure En where
 fr:Fr
 E:aG
 G:List Row
 Et:aG
 Gt:List Row
 c:Nat
 fix:Nat->ix
def aqm(E F:aG)(G:List Row)(t:Nat):ix:=match ek E F t with
 |some (_,v)=>some (v,match v with
  | .ptr j _=>cellsOf G [] j
  |_=>[])
 |none=>none
def enter(fr:Fr)(tm:Tm)(m:Nat)(st:aE):En:=
 let ids:=aq8 st fr tm.vs++reach st fr tm.th
 match mM (Wx st fr tm.vs) st.c (bA (gA ids) st.G) with
 |(Gt,R,c)=>⟨⟨nO m tm.vs st.E++fr.F,(R++bA (λr=> !(gA ids r)) st.G)++fr.H,fr.n⟩,nO m tm.vs st.E,R++bA (λr=> !(gA ids r)) st.G,oR m tm.vs st.E,Gt,c,aqm st.E fr.F Gt⟩
structure avS(fr:Fr)(st:aE)(Φ:Ctx)(w:World)(ρ ρ':aB)(en:En):Prop where
 ag:aW st.c ρ ρ'
 le:st.c<=en.c
 ff:en.fr.F=en.E++fr.F
 fh:en.fr.H=en.G++fr.H
 fn:en.fr.n=fr.n
 lF:aG.low en.c en.fr.F=true
 lH:bI en.c en.fr.H=true
 sub:j9 (az ρ' [] en.Et en.fr.F) (az ρ [] st.E fr.F)
 sat:Sat (ab ρ' [] en.Gt++(ab ρ' [] en.fr.H++Φ)) w
 fx:∀t q,en.fix t=some q->q.1.low en.c=true/\AV.cm en.c q.2=true
theorem aG.gq{c d:Nat}(a:c<=d):{E:aG}->E.low c=true->E.low d=true
 |[],_=>rfl
 |x::E,h=>by simp only [aG.low,ah] at h ⊢;exact ⟨AV.gq a _ h.1,aG.gq a h.2⟩
theorem aG.Me{c:Nat}:{E F:aG}->E.low c=true->F.low c=true->aG.low c (E++F)=true
 |[],_,_,h=>h
 |x::E,F,h,k=>by simp only [n5,aG.low,ah] at h ⊢;exact ⟨h.1,aG.Me h.2 k⟩
theorem Lu{c:Nat}:{E:aG}->E.low c=true->{t:Nat}->{x:GK×AV}->bE E t=some x->x.2.low c=true
 |[],_,_,_,h=>by cases h
 |(t',g,v)::E,h,t,x,hx=>by
  simp only [aG.low,ah] at h;cases hb:Nat.beq t' t
  .rw [fC hb] at hx;exact Lu h.2 hx
  .rw [iN hb] at hx;cases hx;exact h.1
theorem NG{c m:Nat}{vs:List (Bool×Nat×Pt)}:{E:aG}->E.low c=true->(nO m vs E).low c=true
 |[],_=>rfl
 |x::E,h=>by
  simp only [aG.low,ah] at h;unfold nO;cases wS m vs x.1
  .exact NG h.2
  .show aG.low c (x::nO m vs E)=true;simp only [aG.low,ah];exact ⟨h.1,NG h.2⟩
theorem Pm{c m:Nat}{vs:List (Bool×Nat×Pt)}:{E:aG}->E.low c=true->(oR m vs E).low c=true
 |[],_=>rfl
 |x::E,h=>by
  simp only [aG.low,ah] at h;unfold oR;cases wS m vs x.1
  .show aG.low c (x::oR m vs E)=true;simp only [aG.low,ah];exact ⟨h.1,Pm h.2⟩
  .exact Pm h.2
theorem Gs{c:Nat}{p:Row->Bool}:{G:List Row}->bI c G=true->bI c (bA p G)=true
 |[],_=>rfl
 |r::G,h=>by
  simp only [bI,ah] at h;unfold bA;cases p r
  .exact Gs h.2
  .show bI c (r::bA p G)=true;simp only [bI,ah];exact ⟨h.1,Gs h.2⟩
theorem ahN{c:Nat}{j:Nat}(h:bI c G=true):AV.cm c (cellsOf G [] j)=true:=by
 unfold cellsOf;split
 .rename_i s d t cs b;obtain ⟨a,_⟩:=ck b;cases s with
  |top i=>
   have:=tf h (show G[i]? =some _ from a);simp only [Row.low,ah] at this;exact this.2
  |cP i=>have a:([]:List Row)[i]? =some _:=a;simp at a
  |nilI=>exact a.elim
  |nilO=>exact a.elim
  |nilM=>exact a.elim
 .rfl
theorem aqe{c:Nat}{E F:aG}(e:E.low c=true)(d:F.low c=true)(b:bI c G=true){t:Nat}{q:AV×List AV}(h:aqm E F G t=some q):q.1.low c=true/\AV.cm c q.2=true:=by
 unfold aqm at h;split at h
 .rename_i v a;cases h;refine ⟨?_,?_⟩
  .unfold ek at a;split at a
   next x hx=>cases a;exact Lu e hx
   .exact Lu d a
  .split
   .exact ahN b
   .rfl
 .cases h
theorem Aj{fr:Fr}{tm:Tm}{m:Nat}{st:aE}{ρ:aB}{Φ:Ctx}{w:World}(J:st.low fr=true)(C:Sat (ab ρ [] st.G++(ab ρ [] fr.H++Φ)) w):∃ρ',avS fr st Φ w ρ ρ' (enter fr tm m st):=by
 obtain ⟨g,f,s,o⟩:=aE.cS.1 J;unfold enter;dsimp only;generalize aq8 st fr tm.vs++reach st fr tm.th=ids;have n:=sh (A:=[]) (p:=gA ids) C;obtain ⟨ρ',l⟩:=KZ (ids:=Wx st fr tm.vs) (c:=st.c) (ρ:=ρ) (Gs (p:=gA ids) s);generalize mM (Wx st fr tm.vs) st.c (bA (gA ids) st.G)=L at l;obtain ⟨Gt,R,c⟩:=L;have a:st.c<=c:=l.le;have v:=NG (m:=m) (vs:=tm.vs) g;have hp:=Gs (p:=λr=> !(gA ids r)) s;refine ⟨ρ',l.ag,a,rfl,rfl,rfl,?_,?_,?_,?_,λt q I=>?_⟩
 .exact aG.Me (aG.gq a v) (aG.gq a f)
 .exact uW (uW l.rl (BE a hp)) (BE a o)
 .have e1:az ρ' [] (oR m tm.vs st.E) (nO m tm.vs st.E++fr.F)=az ρ [] (oR m tm.vs st.E) (nO m tm.vs st.E++fr.F):=by rw [az,az,sH l.ag (Pm g),sH l.ag (aG.Me v f)]
  show j9 (az ρ' [] (oR m tm.vs st.E) (nO m tm.vs st.E++fr.F)) _;rw [e1];exact amt λt=>akR
 .show Sat (ab ρ' [] Gt++(ab ρ' [] ((R++bA (λr=> !(gA ids r)) st.G)++fr.H)++Φ)) w;have e1:ab ρ' [] Gt=ab ρ [] (bA (gA ids) st.G):=l.eq;have e2:ab ρ' [] (bA (λr=> !(gA ids r)) st.G++fr.H)=ab ρ [] (bA (λr=> !(gA ids r)) st.G++fr.H):=bh l.ag (uW hp o);rw [b0,bp,e1,e2];have i:Sat (ab ρ [] (bA (gA ids) st.G)++(ab ρ [] (bA (λr=> !(gA ids r)) st.G++fr.H)++Φ)) w:=by simpa using n
  have e:∀(L:List Item) (A B:Ctx),(∀it∈L,it.cV=true/\∀M w,it.P M w)->Sat (A++B) w->Sat (A++(L++B)) w:=λL A B u h=>by
   have z:=DA h L (λit d=>⟨(u it d).1,(u it d).2 _ _⟩);have mv:∀(L:List Item) (A B:Ctx),Sat (L++(A++B)) w->Sat (A++(L++B)) w:=λL=>by
    induction L with
    |nil=>intro A B h;exact h
    |cons x L ih=>
     intro A B h;have y:Sat ([]++x::((L++A)++B)) w:=by simpa using h
     have S:Sat ([]++((L++A)++x::B)) w:=y.move;have Q:Sat (L++(A++x::B)) w:=by simpa using S
     have O:Sat (A++(L++x::B)) w:=ih _ _ Q;have N:Sat (A++(L++[x]++B)) w:=by simpa using O
     -- x goes ahead of L
     refine N.C5 (λj k=>(j<A.length/\k=j)\/(j=A.length/\k=A.length+L.length)\/(A.length<j/\j<=A.length+L.length/\k+1=j)\/(A.length+L.length<j/\k=j)) (λj jt b=>?_) (λj k q K z y=>by omega);by_cases c1:j<A.length
     .rw [cy c1] at b;exact .inr ⟨j,jt,.inl ⟨c1,rfl⟩,by rw [cy c1];exact b,cd.refl⟩
     .rw [ca (by omega)] at b;by_cases V:j=A.length
      .subst V;simp at b;subst b;refine .inr ⟨A.length+L.length,x,.inr (.inl ⟨rfl,rfl⟩),?_,cd.refl⟩;rw [ca (by omega)];have:A.length+L.length-A.length=L.length:=by omega
       rw [this];simp
      .have T:j-A.length=(j-A.length-1)+1:=by omega
       rw [T,n5,c8] at b;by_cases U:j<=A.length+L.length
       .rw [cy (by omega)] at b;refine .inr ⟨j-1,jt,.inr (.inr (.inl ⟨by omega,U,by omega⟩)),?_,cd.refl⟩;rw [ca (by omega),b0,cy (by omega)];rw [show j-1-A.length=j-A.length-1 by omega];exact b
       .rw [ca (by omega)] at b;refine .inr ⟨j,jt,.inr (.inr (.inr ⟨by omega,rfl⟩)),?_,cd.refl⟩;rw [ca (by omega),ca (by simp;omega)];have:j-A.length-(L++[x]).length=j-A.length-1-L.length:=by simp;omega
        rw [this];exact b
   exact mv L A B z
  have:=e (ab ρ' [] R) (ab ρ [] (bA (gA ids) st.G)) (ab ρ [] (bA (λr=> !(gA ids r)) st.G++fr.H)++Φ) (λit d=>by obtain ⟨r,D,rfl⟩:=List.mem_map.1 d;exact l.rp r D) i
  simpa using this
 .exact aqe (aG.gq a g) (aG.gq a f) l.lw I
def XY(G H:List Row)(look:Nat->Option AV)(fix:Nat->ix):List (Bool×Nat×Pt)->zC
 |[]=>[]
 |x::l=>(match (aC x.1 ((fix x.2.1).map (·.1)) (look x.2.1)) with
  |some v=>uX G H x.2.2 v
  |none=>[])++XY G H look fix l
def YE(F:aG)(vs:List (Bool×Nat×Pt)):aG->Bool
 |[]=>true
 |x::E=>(Vh x.1 vs||tu (bE F x.1))&&YE F vs E
def Qw(en:En)(tm:Tm)(E:aG)(G:List Row):List Row:=cP (XY G en.fr.H (Bh E en.fr.F) en.fix tm.vs) G
def lE(en:En)(tm:Tm)(E:aG)(G:List Row):Option (fA (iG tm.vs)):=
 match mtV (Qw en tm E G) en.fr.H (Bh E en.fr.F) en.fix tm.vs [] with
 |some mr=>aC (Ew (mr.S.map λx=>dL (Qw en tm E G) en.fr.H x.2)&&Sm (Qw en tm E G).length (mr.S.map λx=>dL (Qw en tm E G) en.fr.H x.2)&&YE en.fr.F tm.vs E) (cB _ mr.D) none
 |none=>none
def rowsOf(R:List (Bool×Row)):List Row:=R.map (·.2)
def cZ(en:En)(tm:Tm)(s:fA (iG tm.vs))(h:HT):aE:=match fZ (λn=>en.c+n) en.fix tm.vs 0 (ic _ s) with
 |⟨E,R,k,_⟩=>⟨en.c+k,E,rowsOf R,h⟩
def il(en:En)(tm:Tm)(s:fA (iG tm.vs))(h:HT):aE:=match fZ (λn=>en.c+n) en.fix tm.vs 0 (ic _ s) with
 |⟨E,R,k,_⟩=>⟨en.c+k,E++en.E,rowsOf R++en.G,h⟩
def Az(e:XE)(en:En)(st:aE):aE:=match e with
 | .panL _=>{ st with E:=st.E++en.E,G:=st.G++dD en.G }
 |_=>{ st with E:=st.E++en.E,G:=st.G++en.G }
theorem Sat.Ym{w:World}{A C:Ctx}:∀{B:Ctx},Sat (A++(B++C)) w->Sat (A++C) w
 |[],h=>h
 |_x::B,h=>Sat.Ym (B:=B) (Sat.Dc h)
theorem abI{nm:Nat->Nat}{fix:Nat->ix}{t:Nat}:{l:List (Bool×Nat×Pt)}->{n:Nat}->{D:List cn}->Vh t l=true->bE (fZ nm fix l n D).E t≠none
 |[],n,D,h=>by cases h
 |(b,t',p)::l,n,D,h=>by
  unfold fZ;dsimp only;generalize fill nm p (aC b (fix t') none) none n D=L;obtain ⟨v,R,k,c,j⟩:=L;dsimp only;generalize d:fZ nm fix l k c=f;obtain ⟨a,m,i,g⟩:=f;dsimp only;have ih:Vh t l=true->bE a t≠none:=λe=>by have:=abI (nm:=nm) (fix:=fix) (n:=k) (D:=c) e;rw [d] at this;exact this
  simp only [Vh,eF,ah] at h;cases b
  .show bE ((t',none,v)::a) t≠none;cases hb:Nat.beq t' t
   .rw [fC hb];rcases h with ⟨_,h⟩|h
    .rw [hb] at h;cases h
    .exact ih h
   .rw [iN hb];simp
  .show bE a t≠none;rcases h with ⟨h,_⟩|h
   .cases h
   .exact ih h
theorem agH{F:aG}{vs:List (Bool×Nat×Pt)}{t:Nat}:{E:aG}->{x:GK×AV}->YE F vs E=true->bE E t=some x->Vh t vs=true\/bE F t=none
 |[],x,_,h=>by cases h
 |(t',g,v)::E,x,hb,h=>by
  simp only [YE,ah,eF] at hb;cases b:Nat.beq t' t
  .rw [fC b] at h;exact agH hb.2 h
  .have e:=ai b;subst e;rcases hb.1 with a|a
   .exact .inl a
   .cases c:bE F t' with
    |none=>exact .inr rfl
    |some y=>rw [c] at a;cases a
section
variable {en : En} {tm : Tm} {Φ : Ctx} {w : World} {ρ : aB}
theorem pU{E:aG}{s:fA (iG tm.vs)}(lF:aG.low en.c en.fr.F=true)(lH:bI en.c en.fr.H=true)(fx:∀t q,en.fix t=some q->q.1.low en.c=true/\AV.cm en.c q.2=true)
  (hs:Sat (ab ρ [] G++(ab ρ [] en.fr.H++Φ)) w) (h:lE en tm E G=some s):
  ∃ρ' E' R k D,fZ (λn=>en.c+n) en.fix tm.vs 0 (ic _ s)=⟨E',R,k,D⟩/\aW en.c ρ ρ'/\j9 (az ρ' [] E' en.fr.F) (az ρ [] E en.fr.F)/\Sat (ab ρ' [] (rowsOf R)++(ab ρ' [] en.fr.H++Φ)) w:=by
 unfold lE at h;have d:=kh (ids:=XY G en.fr.H (Bh E en.fr.F) en.fix tm.vs) hs;change Sat (ab ρ [] (Qw en tm E G)++_) w at d;generalize Qw en tm E G=G' at h d;split at h
 .rename_i P Q;obtain ⟨S,h2⟩:=aI h;simp only [ah] at S;obtain ⟨⟨h3,h4⟩,h5⟩:=S;obtain ⟨N,I,r,n1,a1⟩:=YM d tm.vs [] P [] Q .nil;rw [<-Di _ h2] at r;obtain ⟨Z,_⟩:=Qi d a1;obtain ⟨O,_⟩:=y8 d Z (AD h3);rw [Dx h4] at O;have Y:=O.Ym
  -- names
  have b:aW en.c ρ (λi=>aC (Nat.blt i en.c) (ρ i) ((N[i-en.c]?).getD df)):=λj hj=>by
   have:Nat.blt j en.c=true:=by simpa using hj
   simp only [this]
  have l:xY (λi=>aC (Nat.blt i en.c) (ρ i) ((N[i-en.c]?).getD df)) (λn=>en.c+n) 0 N:=λi a ha=>by
   have:Nat.blt (en.c+i) en.c=false:=by
    cases hb:Nat.blt (en.c+i) en.c
    .rfl
    .simp only [j5] at hb;omega
   simp only [this,show en.c+i-en.c=i by omega,ha,qD];exact ⟨trivial,trivial,trivial,λ_=>trivial⟩
  generalize (λi=>aC (Nat.blt i en.c) (ρ i) ((N[i-en.c]?).getD df))=ρ' at b l;have e1:(λi=>fX ρ (en.fix i))=λi=>fX ρ' (en.fix i):=by
   funext i
   cases hq:en.fix i with
   |none=>rfl
   |some q=>
    obtain ⟨k1,k2⟩:=fx i q hq;show some (q.1.val ρ,AV.ar ρ q.2)=some (q.1.val ρ',AV.ar ρ' q.2);rw [AV.mJ b _ k1,AV.cj b _ k2]
  rw [e1] at r;obtain ⟨M,V,U,K⟩:=Uy (T:=[]) (nm:=λn=>en.c+n) tm.vs [] (ic _ s) I (eA ρ P.X) N r (agk Q) l (qf _) [];simp only [hV,qg] at M V U K;generalize hF:fZ (λn=>en.c+n) en.fix tm.vs 0 (ic _ s)=L at M V U K;obtain ⟨E',R,k,D⟩:=L;refine ⟨ρ',E',R,k,D,rfl,b,λt p hp=>?_,?_⟩
  .rw [hZ] at hp;cases m:bE E' t with
   |some x=>
    have u:look (aG.env ρ' [] E') t=some (aD.get [] x.1,x.2.val ρ'):=by rw [vR,m];rfl
    obtain ⟨c1,g⟩:=M t _ u;have e2:ek E' en.fr.F t=some x:=by unfold ek;rw [m]
    rw [e2] at hp;simp only [mj,cH] at hp;subst hp;simp only at c1 g;cases f:Bh E en.fr.F t with
    |none=>rw [f] at g;cases g
    |some v=>
     rw [f] at g;simp only [mj,cH] at g;rw [Hk f,c1,g]
   |none=>
    have e2:ek E' en.fr.F t=bE en.fr.F t:=by unfold ek;rw [m]
    rw [e2] at hp;cases e:bE en.fr.F t with
    |none=>rw [e] at hp;cases hp
    |some y=>
     rw [e] at hp;simp only [mj,cH] at hp;have J:bE E t=none:=by
      cases J:bE E t with
      |none=>rfl
      |some z=>
       rcases agH h5 J with o|o
       .have:=abI (nm:=λn=>en.c+n) (fix:=en.fix) (n:=0) (D:=ic _ s) o;rw [hF] at this;exact (this m).elim
       .rw [e] at o;cases o
     rw [hZ];unfold ek;rw [J,e,<-hp];simp only [mj];rw [AV.mJ b _ (Lu lF e)]
  .have W:=Sat.leL (A:=[]) (B:=dM I) (C:=ab ρ [] en.fr.H++Φ) Y K.rw;rw [bh b lH];exact W
 .cases h
end
variable {fr : Fr}
def arF(P:Program)(o:Oper):Bool:=match o.op with
 | .store ..|.alloc _|.box ..|.buildSlice ..|.makeSlice ..|.makeMap ..|.mapUpdate ..|.insert ..|.range ..|.next ..|.defer _|.panic _=>true
 | .convert s d _=>isStr P s&& !(isStr P d)
 | .call ⟨.builtin b,_,_⟩=>(match b with
  | .len|.cap|.min|.max|.unsafeSliceData=>false
  |_=>true)
 | .call _=>true
 |_=>false
def akN(q:Bool)(m:Nat):Nat->List (Nat×Bool)->zt
 |_,[]=>none
 |k,x::l=>aC ( aap x.2 (!q)&& !(Nat.testBit m k)&&LL x.1 m ) ( some k )<|akN q m (k+1) l
def aeI(l:List (Nat×Bool)):Nat->Nat->OT
 |0,_=> .nil
 |n+1,m=>match akN true m 0 l with
  |some k=> .q k m (aeI l n (bit m k))
  |none=>match akN false m 0 l with
   |none=> .nil
   |some k=>match akN false m (k+1) (l.drop (k+1)) with
    |none=> .l k m (aeI l n (bit m k))
    |some j=> .l2 m k (aeI l n (bit m k)) j (aeI l n (bit m j))
def avT(o:Oper):Bool:=match o.op,o.guard with
 | .alloc _,none=>true
 | .buildSlice .., none=>true
 |_,_=>false
def akm(kd m:Nat):Nat->List (Nat×Nat)->Option (Nat×Nat)
 |_,[]=>none
 |k,x::l=>aC ( Nat.beq x.2 kd&& !(Nat.testBit m k)&&LL x.1 m ) ( some (k,x.1) )<|akm kd m (k+1) l
def UR(m:Nat):Nat->List (Nat×Nat)->zC
 |_,[]=>[]
 |k,x::l=>aC ( Nat.beq x.2 2&& !(Nat.testBit m k)&&LL x.1 m ) ( k::UR m (k+1) l )<|UR m (k+1) l
def ao5(l:List (Nat×Nat)):Nat->Nat->OT
 |0,_=> .nil
 |n+1,m=>match akm 0 m 0 l with
  |some p=> .q p.1 m (ao5 l n (bit m p.1))
  |none=>match (match akm 1 (jA m (UR m 0 l)) 0 l with
    |some p=>some p
    |none=>akm 0 (jA m (UR m 0 l)) 0 l) with
   |none=> .nil
   |some p=> .f p.1 m (UR m 0 l) ((UR m 0 l).filter λf=>Nat.testBit p.2 f) (ao5 l n (bit (jA m ((UR m 0 l).filter λf=>Nat.testBit p.2 f)) p.1))
def arY{R:Type}(X:Cx)(tb:List au)(tp:List bO)(KP:AV->aE->Option R)(ops:zv)(fr:Fr)(th:zC)(t:OT)(st:aE)(K:cT R):Option R:=
 aC ( X.P.follows .mixedOrders&&agF ops (ops.toList.map λo=>gN o.after.toList) t ) (
  rB X tb tp KP ops.toList fr t (bA (λr=> !(gA (reach st fr th) r)) st.G) [] [] { st with G:=bA (gA (reach st fr th)) st.G } K ) none
def aqW(fr:Fr)(st:aE):zC->zC
 |[]=>[]
 |t::th=>aC (Nat.ble 20000 t) ((match ek st.E fr.F (t-20000) with
  |some (_,v)=>AV.fg v++(match v with
   | .ptr id _=>(match pz (A4 id) st.G with
    |some (_,.box _ _ cs)=>((cs.map (va st.G fr.H)).map AV.fg).flatten
    |_=>[])
   |_=>[])
  |none=>[])++aqW fr st th) (aqW fr st th)
def Un(fr:Fr)(st:aE)(th:zC):aE:=match aqW fr st th with
 |[]=>st
 |ids=>{ st with G:=cP ids st.G }
theorem ajl{st:aE}{th:zC}{ρ:aB}{T:aD}{B:Ctx}{w:World}(h:Sat (ab ρ T st.G++B) w):
  (Un fr st th).c=st.c/\(Un fr st th).E=st.E/\Sat (ab ρ T (Un fr st th).G++B) w:=by
 unfold Un;split
 .exact ⟨rfl,rfl,h⟩
 .exact ⟨rfl,rfl,kh h⟩
def Kv{R:Type}(X:Cx)(tb:List au)(tp:List bO)(KP:AV->aE->Option R)(ops:zv)(fr:Fr)(th:zC)(st:aE)(K:cT R):Option R:=
 arY X tb tp KP ops fr th (cond (dF 40000 th) (ao5 (ops.toList.map λo=>(gN o.after.toList,cond (avT o) 2 (cond (arF X.P o) 1 0))) ops.toList.length 0) (aeI (ops.toList.map λo=>(gN o.after.toList,arF X.P o)) ops.toList.length 0)) (Un fr st th) K
abbrev brk{R:Type}(i:Nat)(K:XE->aE->Option R):XE->aE->Option R
 | .ext j,st=>aC ( Nat.beq j i ) ( K .nrm st ) ( K (.ext j) st )
 |e,st=>K e st
abbrev yx{R:Type}(K1:aE->Option R)(K:XE->aE->Option R):XE->aE->Option R
 | .nrm,st=>K1 st
 |e,st=>K e st
abbrev cnd{R:Type}(b:Bool)(d1 d2:HT->Option R)(h:HT):Option R:=match h with
 | .c p q=>cond b (d1 p) (d2 q)
 |h=>cond b (d1 h) (d2 h)
def aff(fr:Fr)(st:aE):aE:=match st.h with
 | .r (30000::th) h=>Un fr { st with h:=h } th
 |_=>st
theorem as6{st:aE}{ρ:aB}{T:aD}{B:Ctx}{w:World}(h:Sat (ab ρ T st.G++B) w):
  (aff fr st).c=st.c/\(aff fr st).E=st.E/\Sat (ab ρ T (aff fr st).G++B) w:=by
 unfold aff;split
 next th a _=>exact ajl (st:={ st with h:=a }) h
 .exact ⟨rfl,rfl,h⟩
def aoP(v:AV)(i:Nat):Option (Int×(Int->AV)):=match v with
 | .int k x=>(match i with
  |0=>some (x,.int k)
  |_=>none)
 | .agg l=>(match i with
  |0=>none
  |j+1=>(match l[j]? with
   |some (.int k x)=>some (x,λy=> .agg (l.set j (.int k y)))
   |_=>none))
 |_=>none
theorem asC{v:AV}{i:Nat}{p:Int×(Int->AV)}(h:aoP v i=some p):p.2 p.1=v:=by
 unfold aoP at h;split at h
 .split at h
  .cases h;rfl
  .cases h
 .split at h
  .cases h
  .rename_i l j;split at h
   next k x hx=>cases h;simp only;congr 1;obtain ⟨b,a⟩:=List.getElem?_eq_some_iff.1 hx;rw [<-a];exact List.set_getElem_self b
   .cases h
 .cases h
def agN{R:Type}(F:aG)(t i:Nat)(k:aE->Option R):zC->HT->aE->Option R
 |v::vs,h,st=>(match h with
  | .c h hs=>(match ek st.E F t with
   |some (none,av)=>(match aoP av i with
    |some p=>cond (p.1==(v:Int)) (k { st with h:=h,E:=(t,none,p.2 (v:Int))::st.E }) (agN F t i k vs hs st)
    |none=>none)
   |_=>none)
  |_=>none)
 |[],h,st=>(match h with
  | .n 77777 _=>none
  |h=>k { st with h:=h })
theorem ajs{R:Type}{r:R}{F:aG}{t i:Nat}{k:aE->Option R}{st:aE}:∀{vs:zC} {h:HT},agN F t i k vs h st=some r->
  ∃st',k st'=some r/\st'.c=st.c/\st'.G=st.G/\∀ρ T,j9 (az ρ T st'.E F) (az ρ T st.E F)
 |[],h,hh=>by
  unfold agN at hh;split at hh
  .cases hh
  .exact ⟨_,hh,rfl,rfl,λ_ _=> .refl⟩
 |v::vs,h,hh=>by
  unfold agN at hh;split at hh
  .rename_i j f;split at hh
   .rename_i av b;split at hh
    .rename_i p hp;rcases vL hh with ⟨e,d⟩|⟨_,d⟩
     .refine ⟨_,d,rfl,rfl,λρ T u x hx=>?_⟩;have e1:p.2 (v:Int)=av:=by rw [<-asC hp,eq_of_beq e]
      have g:look (az ρ T st.E F) t=some (true,av.val ρ):=by rw [hZ,b];simp
      show look (az ρ T st.E F) u=some x;rw [e1] at hx;have a:look ((t,true,av.val ρ)::az ρ T st.E F) u=some x:=by simpa [az,aG.env] using hx
      unfold look at a;cases hb:Nat.beq t u
      .rw [hb] at a;exact a
      .rw [hb] at a;have:=ai hb;subst this;rw [g];exact a
     .exact ajs d
    .cases hh
   .cases hh
  .cases hh
abbrev frL(fr:Fr):Fr:=⟨fr.F,dD fr.H,fr.n⟩
abbrev stL(fr:Fr)(st:aE)(h:HT):aE:={ st with G:=st.G++bA dp fr.H,h:=h }
abbrev toL{R:Type}(K:XE->aE->Option R):XE->aE->Option R
 | .panE v,st=>K (.panL v) st
 |_,_=>none
abbrev auw{R:Type}(X:Cx)(tb:List au)(tp:List bO)(ops:zv)(fr:Fr)(K:XE->aE->Option R)(st:aE):Option R:=
 BM X tb tp (λb v st=>K (aC b (.panL v) (.panE v)) st) ops.toList fr ops.toList [] st (K .nrm)
def den{R:Type}(X:Cx)(tb:List au)(tp:List bO):Code->Fr->(XE->aE->Option R)->aE->Option R
 | .skip,_,K,st=>K .nrm st
 | .label _,_,K,st=>K .nrm st
 | .exit i,_,K,st=>K (.ext i) st
 | .goto l,_,K,st=>K (.gto l) st
 | .ret,_,K,st=>K .ret st
 | .block i c,fr,K,st=>den X tb tp c fr (brk i K) (aff fr st)
 | .cond c x y,fr,K,st=>match bC [] st.E fr.F none c with
  |some (.bool b)=>cnd b (λh=>den X tb tp x fr K { st with h:=h }) (λh=>den X tb tp y fr K { st with h:=h }) st.h
  |_=>none
 | .seq x y,fr,K,st=>match st.h with
  | .j tm p q=>aC (st.low fr) (
   aj (λs:fA (iG tm.vs)=>den X tb tp y fr K (il (enter fr tm (cY x) st) tm s q)) λk=>
   den X tb tp x (enter fr tm (cY x) st).fr (yx (λst'=>match lE (enter fr tm (cY x) st) tm st'.E st'.G with
     |some s=>k s
     |none=>none) (λe st'=>K e (Az e (enter fr tm (cY x) st) st'))) ⟨(enter fr tm (cY x) st).c,(enter fr tm (cY x) st).Et,(enter fr tm (cY x) st).Gt,p⟩ ) none
  | .s h=>den X tb tp x fr (yx (den X tb tp y fr K) K) { st with h:=h }
  | .r (60000::t::i::vs) h=>agN fr.F t i (λst=>den X tb tp x fr (yx (den X tb tp y fr K) K) st) vs h st
  |_=>den X tb tp x fr (yx (den X tb tp y fr K) K) st
 | .loop c,fr,K,st=>match st.h with
  | .l tm p=>aC (st.low fr) (
   match lE (enter fr tm (cY c) st) tm (enter fr tm (cY c) st).Et (enter fr tm (cY c) st).Gt with
   |some s=>ax (λagain s=>den X tb tp c (enter fr tm (cY c) st).fr (yx (λst'=>match lE (enter fr tm (cY c) st) tm st'.E st'.G with
      |some s=>again s
      |none=>none) (λe st'=>K e (Az e (enter fr tm (cY c) st) st'))) (cZ (enter fr tm (cY c) st) tm s p)) X.fl s
   |none=>none ) none
  | .n k h=>ax (λagain st=>den X tb tp c fr (yx again K) st) k { st with h:=h }
  |_=>none
 | .region _ ops false,fr,K,st=>match st.h with
  | .r (80000::_) h=>auw X tb tp ops (frL fr) (toL K) (stL fr st h)
  |_=>auw X tb tp ops fr K st
 | .region _ ops true,fr,K,st=>match st.h with
  | .r th h=>Kv X tb tp (λv st=>K (.je v) st) ops fr th { st with h:=h } (K .nrm)
  |_=>Kv X tb tp (λv st=>K (.je v) st) ops fr [] st (K .nrm)
 |_,_,_,_=>none
def XE.ex:XE->Exit
 | .nrm=> .normal
 | .ret=> .ret
 | .ext i=> .exit i
 | .gto l=> .goto l
 | .je _=> .goto 0
 | .panE _=> .goto 0
 | .panL _=> .goto 0
def OA(Q:bD)(e:XE)(ρ:aB)(n:Nat)(D:zm)(E:Env)(w:World):Prop:=match e with
 | .je v=>Fc Q (je (v.val ρ)) D w
 | .panE v=>At Q (.panic (je (v.val ρ))) n D E w
 | .panL v=>At Q (.panic (je (v.val ρ))) n D E w
 |e=>At Q e.ex n D E w
abbrev hx(e:XE)(fr:Fr):List Row:=match e with
 | .panL _=>dD fr.H
 |_=>fr.H
def j2{R:Type}(Q:bD)(D:zm)(fr:Fr)(Φ:Ctx)(c0:Nat)(ρ0:aB)(r:R)(K:XE->aE->Option R):Prop:=
 ∀e st ρ w,aW c0 ρ0 ρ->c0<=st.c->K e st=some r->Sat (ab ρ [] st.G++(ab ρ [] (hx e fr)++Φ)) w->OA Q e ρ fr.n D (az ρ [] st.E fr.F) w
theorem j2.less{R:Type}{Q:bD}{D:zm}{Φ:Ctx}{b c1:Nat}{ρ0 a:aB}{r:R}{K:XE->aE->Option R}(h:j2 Q D fr Φ b ρ0 r K)(d:aW b ρ0 a)(c:b<=c1):j2 Q D fr Φ c1 a r K:=
 λe st ρ w j i g f=>h e st ρ w (d.trans j c) (c9 c i) g f
section
variable {P : Program} {ρ : zt} {Q : bD} {n : Nat} {D : zm} {E : Env} {w : World}
theorem Vy{σ γ τ:Type}{F:(σ->Option τ)->σ->Option τ}{r:τ}(J:σ->γ->World->Prop)(c:σ->γ->Env){body:Code}
  {N:Nat} {b:σ} (k:ax F N b=some r) (f:γ) (v:J b f w) (t:j9 (c b f) E)
  (round:∀again s g w,F again s=some r->J s g w->WC P ρ body (Exit.then (Qa again r J c n D) Q) n D (c s g) w):
  WC P ρ (.loop body) Q n D E w:=λa l o=>
 JO (λm=>Qa (ax F m) r J c n D) N ⟨b,f,k,v,l.nS t,o⟩ λm a w ⟨s,g,j,p,q,u⟩=>by
  obtain ⟨i,rfl,d⟩:=NR j;exact wpIn_mono (round (ax F i) s g w d p a q u) λe a w h=>by cases e <;> first|exact h|exact ⟨i,qx _,h⟩
theorem N9{σ γ τ:Type}{a:σ->Option τ}{r:τ}{J:σ->γ->World->Prop}{b:σ->γ->Env}
  (s:σ) (g:γ) (d:a s=some r) (h:J s g w) (c:j9 (b s g) E):At (Exit.then (Qa a r J b n D) Q) .normal n D E w:=
 λi e f=>⟨s,g,d,h,e.nS c,f⟩
theorem aoN{γ:Type}{J:γ->World->Prop}{a:γ->Env}(g:γ)(e:J g w)(b:j9 (a g) E):At (Exit.then (U0 J a n D) Q) .normal n D E w:=
 λf c d=>⟨g,e,c.nS b,d⟩
theorem iE{K:Act->World->Prop}{e:XE}{ρ:aB}(a:e≠ .nrm)(h:OA Q e ρ n D E w):OA (Exit.then K Q) e ρ n D E w:=by cases e <;> first|exact (a rfl).elim|exact h
end
section
variable {X : Cx} {tb : List au} {tp : List bO} {σ : zt} {D : zm} {R : Type} {r : R} {Φ : Ctx}
theorem UC{Q:bD}{k i:Nat}{ρ0:aB}{K:XE->aE->Option R}(h:j2 Q D fr Φ k ρ0 r K):j2 (Exit.inBlock i Q) D fr Φ k ρ0 r (brk i K):=λe st ρ w d c b a=>by
 cases e with
 |nrm=>exact adi (h .nrm st ρ w d c b a)
 |ret=>exact alw (h .ret st ρ w d c b a)
 |gto l=>exact ahM (h (.gto l) st ρ w d c b a)
 |je v=>exact ase (h (.je v) st ρ w d c b a)
 |panE v=>exact Oc (h (.panE v) st ρ w d c b a)
 |panL v=>exact Oc (h (.panL v) st ρ w d c b a)
 |ext j=>
  unfold brk at b;rcases dT b with ⟨g,f⟩|⟨g,f⟩
  .have:=ai g;subst this;exact ahO (h .nrm st ρ w d c f a)
  .exact aeM g (h (.ext j) st ρ w d c f a)
theorem nW{b:aE->Option R}{K:XE->aE->Option R}{e:XE}{st:aE}(a:e≠ .nrm):yx b K e st=K e st:=by cases e <;> first|exact (a rfl).elim|rfl
theorem wB{Q:bD}{d:Nat}{ρ0 a:aB}{en:En}{K:XE->aE->Option R}(h:j2 Q D fr Φ d ρ0 r K)(ag:aW d ρ0 a)(le:d<=en.c)(ff:en.fr.F=en.E++fr.F)(fh:en.fr.H=en.G++fr.H)(fn:en.fr.n=fr.n):
  ∀e st ρ w,aW en.c a ρ->en.c<=st.c->K e (Az e en st)=some r->Sat (ab ρ [] st.G++(ab ρ [] (hx e en.fr)++Φ)) w->OA Q e ρ en.fr.n D (az ρ [] st.E en.fr.F) w:=λe st ρ w m l k g=>by
 have i:(Az e en st).c=st.c:=by cases e <;> rfl
 have j:(Az e en st).E=st.E++en.E:=by cases e <;> rfl
 have:=h e (Az e en st) ρ w (ag.trans m le) (c9 le (by rw [i];exact l)) k (by
  have f:∀(A B:List Row),Sat (ab ρ [] st.G++(ab ρ [] (A++B)++Φ)) w->Sat (ab ρ [] (st.G++A)++(ab ρ [] B++Φ)) w:=λA B h=>by rw [bp,b0];rw [bp,b0] at h;exact h
  cases e with
  |panL v=>
   have b:Sat (ab ρ [] st.G++(ab ρ [] (dD en.fr.H)++Φ)) w:=g;rw [fh,O4] at b;exact f _ _ b
  |_=>
   have b:Sat (ab ρ [] st.G++(ab ρ [] en.fr.H++Φ)) w:=g;rw [fh] at b;exact f _ _ b)
 rw [fn,ff];have e1:az ρ [] st.E (en.E++fr.F)=az ρ [] (Az e en st).E fr.F:=by rw [j];show aG.env ρ [] st.E++aG.env ρ [] (en.E++fr.F)=aG.env ρ [] (st.E++en.E)++aG.env ρ [] fr.F;rw [o9,o9,b0]
 rw [e1];exact this
theorem aqo{Q:bD}{b:Nat}{ρ0:aB}{K:XE->aE->Option R}(h:j2 Q D fr Φ b ρ0 r K):j2 Q D (frL fr) Φ b ρ0 r (toL K):=λe st ρ w f d a c=>by
 cases e with
 |panE v=>exact h (.panL v) st ρ w f d a c
 |_=>cases a
theorem ato{st:aE}{ρ:aB}{w:World}{d:HT}(b:Sat (ab ρ [] st.G++(ab ρ [] fr.H++Φ)) w):Sat (ab ρ [] (stL fr st d).G++(ab ρ [] (frL fr).H++Φ)) w:=by
 have a:=sh (p:=dp) (G:=fr.H) (H:=[]) (A:=ab ρ [] st.G) (Φ:=Φ) b;have c:∀H:List Row,bA (λr=> !(dp r)) H=dD H:=λH=>by
  induction H with
  |nil=>rfl
  |cons r H ih=>
   show aC (!(!r.cV)) (r::bA _ H) (bA _ H)=aC r.cV (r::dD H) (dD H);rw [ih,Bool.not_not]
 rw [hV,c] at a;show Sat (ab ρ [] (st.G++bA dp fr.H)++(ab ρ [] (dD fr.H)++Φ)) w;rw [bp,b0];exact a
theorem aiL{Q:bD}{st:aE}{ρ:aB}{w:World}{K:XE->aE->Option R}(i:∀it∈X.Γ,it∈Φ)(k:∀e∈tb,e.Ok X.P X.Γ)(j:∀e∈tp,e.Ok X.P X.Γ){id:Nat}{ops:zv}(p:Sat (ab ρ [] st.G++(ab ρ [] fr.H++Φ)) w)
  (h:BM X tb tp (λb v st=>K (aC b (.panL v) (.panE v)) st) ops.toList fr ops.toList [] st (K .nrm)=some r) (m:j2 Q D fr Φ st.c ρ r K):WC X.P σ (.region id ops false) Q fr.n D (az ρ [] st.E fr.F) w:=by
 obtain ⟨l⟩:=ops;exact bn (Zg i k j (λx h=>by cases h) (λx h=>by cases h) ⟨λx _=>rfl,λx _=>rfl⟩ p h (λst' ρ' w' g f d a=>m .nrm st' ρ' w' g f d a) (λo v st' ρ' w' g f d a=>by
  cases o
  .exact m (.panE v) st' ρ' w' g f d a
  .exact m (.panL v) st' ρ' w' g f d a))
theorem VX{Q:bD}{st:aE}{ρ:aB}{w:World}{K:XE->aE->Option R}(d:∀it∈X.Γ,it∈Φ)(g:∀e∈tb,e.Ok X.P X.Γ)(f:∀e∈tp,e.Ok X.P X.Γ){id:Nat}{ops:zv}{th:zC}(a:Sat (ab ρ [] st.G++(ab ρ [] fr.H++Φ)) w)
  (h:Kv X tb tp (λv st=>K (.je v) st) ops fr th st (K .nrm)=some r) (b:j2 Q D fr Φ st.c ρ r K):WC X.P σ (.region id ops true) Q fr.n D (az ρ [] st.E fr.F) w:=by
 obtain ⟨l⟩:=ops;unfold Kv at h;generalize cond (dF 40000 th) _ _=t at h;obtain ⟨u,s,a⟩:=ajl (fr:=fr) (th:=th) a;rw [<-u] at b;rw [<-s];generalize Un fr st th=st at h a b;unfold arY at h;obtain ⟨j,z⟩:=aI h;simp only [ah] at j;refine xz _ t j.1 j.2 (λw1 y=>?_);have i:=sh (A:=[]) (p:=gA (reach st fr th)) (a.ext y);exact Gv.wd (ati (EV:=[]) (st:={ st with G:=bA (gA (reach st fr th)) st.G }) d g f (λx h=>by cases h) (λx h=>by cases h) ⟨λx _=>rfl,λx _=>rfl⟩ (λx h=>by cases h) (λx h=>by cases h) i (λp h=>by cases h) z (λst' ρ' w' q o m k=>b .nrm st' ρ' w' q o m k) (λv st' ρ' w' q o m k=>b (.je v) st' ρ' w' q o m k))
theorem UX{b:Bool}{d1 d2:HT->Option R}{h:HT}(d:cnd b d1 d2 h=some r):∃p q,(b=true->d1 p=some r)/\(b=false->d2 q=some r):=by
 unfold cnd at d;split at d
 .rename_i p q;rcases vL d with ⟨c,a⟩|⟨c,a⟩
  .exact ⟨p,q,λ_=>a,λe=>by rw [c] at e;cases e⟩
  .exact ⟨p,q,(λe=>by rw [c] at e;cases e),λ_=>a⟩
 .rcases vL d with ⟨c,a⟩|⟨c,a⟩
  .exact ⟨_,h,λ_=>a,λe=>by rw [c] at e;cases e⟩
  .exact ⟨h,_,(λe=>by rw [c] at e;cases e),λ_=>a⟩
theorem gf(j:∀it∈X.Γ,it∈Φ)(t:∀e∈tb,e.Ok X.P X.Γ)(o:∀e∈tp,e.Ok X.P X.Γ):∀(c:Code) {Q:bD} {fr:Fr} {K:XE->aE->Option R} {st:aE} {ρ:aB} {w:World},Sat (ab ρ [] st.G++(ab ρ [] fr.H++Φ)) w->
  den X tb tp c fr K st=some r->j2 Q D fr Φ st.c ρ r K->WC X.P σ c Q fr.n D (az ρ [] st.E fr.F) w
 | .skip,Q,fr,K,st,ρ,w,hs,h,hK=>tw (hK .nrm st ρ w .refl (b7 _) (by unfold den at h;exact h) hs)
 | .label _,Q,fr,K,st,ρ,w,hs,h,hK=>ae5 (hK .nrm st ρ w .refl (b7 _) (by unfold den at h;exact h) hs)
 | .exit i,Q,fr,K,st,ρ,w,hs,h,hK=>Z1 (hK (.ext i) st ρ w .refl (b7 _) (by unfold den at h;exact h) hs)
 | .goto l,Q,fr,K,st,ρ,w,hs,h,hK=>ajh (hK (.gto l) st ρ w .refl (b7 _) (by unfold den at h;exact h) hs)
 | .ret,Q,fr,K,st,ρ,w,hs,h,hK=>wV (hK .ret st ρ w .refl (b7 _) (by unfold den at h;exact h) hs)
 | .block i c,Q,fr,K,st,ρ,w,hs,h,hK=>by
  obtain ⟨z1,z2,z3⟩:=as6 (fr:=fr) hs;unfold den at h;rw [<-z2];rw [<-z1] at hK;exact VQ (gf j t o c z3 h (UC hK))
 | .cond c x y,Q,fr,K,st,ρ,w,hs,h,hK=>by
  unfold den at h;split at h
  next b hb=>have W:=bL (ρ:=ρ) hb;simp only [AV.val] at W;obtain ⟨p,q,h1,S⟩:=UX h;exact j4 W (λhb=>gf j t o x (st:={ st with h:=p }) hs (h1 hb) hK) (λhb=>gf j t o y (st:={ st with h:=q }) hs (S hb) hK)
  .cases h
 | .seq x y,Q,fr,K,st,ρ,w,hs,h,hK=>by
  have N:∀T,den X tb tp x fr (yx (den X tb tp y fr K) K) { st with h:=T }=some r->WC X.P σ (.seq x y) Q fr.n D (az ρ [] st.E fr.F) w:=λT hd=>by
   refine bB (gf j t o x (st:={ st with h:=T }) hs hd (λe st' ρ' w' I M z C=>?_));by_cases v:e= .nrm
   .subst v;exact bg (gf j t o y C z (hK.less I M))
   .rw [nW v] at z;exact iE v (hK e st' ρ' w' I M z C)
  unfold den at h;split at h
  .rename_i tm p q Z;obtain ⟨hl,S⟩:=aI h;obtain ⟨J,en⟩:=Aj (tm:=tm) (m:=cY x) hl hs;generalize enter fr tm (cY x) st=f at S en;unfold aj at S;refine aka (γ:=fA (iG tm.vs)×aB) (λg w'=>den X tb tp y fr K (il f tm g.1 q)=some r/\aW f.c J g.2/\Sat (ab g.2 [] (il f tm g.1 q).G++(ab g.2 [] fr.H++Φ)) w') (λg=>az g.2 [] (il f tm g.1 q).E fr.F) (λg w' hg=>?_) ?_
   .obtain ⟨g1,g2,g3⟩:=hg;refine gf j t o y g3 g1 (hK.less (en.ag.trans g2 en.le) ?_);have:f.c<=(il f tm g.1 q).c:=by unfold il;generalize fZ (λn=>f.c+n) f.fix tm.vs 0 (ic _ g.1)=L;obtain ⟨a,b,c,d⟩:=L;exact qO _ _
    exact c9 en.le this
   .have hx:=gf j t o x (fr:=f.fr) (st:=⟨f.c,f.Et,f.Gt,p⟩) (ρ:=J) (Q:=Exit.then (U0 (λ(g:fA (iG tm.vs)×aB) w'=>den X tb tp y fr K (il f tm g.1 q)=some r/\aW f.c J g.2/\Sat (ab g.2 [] (il f tm g.1 q).G++(ab g.2 [] fr.H++Φ)) w') (λg=>az g.2 [] (il f tm g.1 q).E fr.F) fr.n D) Q) en.sat S (λe st' ρ' w' I M z C=>?_)
    .rw [en.fn] at hx;exact hx.nS _ en.sub
    .by_cases v:e= .nrm
     .subst v;have B:(match lE f tm st'.E st'.G with|some s=>den X tb tp y fr K (il f tm s q)|none=>none)=some r:=z;split at B
      .rename_i s hb;obtain ⟨u,E',V,k,DD,b1,b2,b3,b4⟩:=pU en.lF en.lH en.fx C hb;have eJ:il f tm s q=⟨f.c+k,E'++f.E,rowsOf V++f.G,q⟩:=by unfold il;rw [b1]
       rw [en.fn];refine aoN (s,u) ⟨B,I.trans b2 (b7 _),?_⟩ ?_
       .rw [eJ];show Sat (ab u [] (rowsOf V++f.G)++_) w';rw [bp,b0];rw [en.fh,bp,b0] at b4;exact b4
       .rw [eJ];show j9 (aG.env u [] (E'++f.E)++_) _;rw [en.ff] at b3;have e2:az u [] E' (f.E++fr.F)=aG.env u [] (E'++f.E)++aG.env u [] fr.F:=by show aG.env u [] E'++aG.env u [] (f.E++fr.F)=_;rw [o9,o9,b0]
        rw [<-e2,en.ff];exact b3
      .cases B
     .rw [nW v] at z;have:=wB hK en.ag en.le en.ff en.fh en.fn e st' ρ' w' I M z C;exact iE v this
  next T Z=>exact N T h
  .obtain ⟨st',k1,k2,k3,k4⟩:=ajs h;have hs':Sat (ab ρ [] st'.G++(ab ρ [] fr.H++Φ)) w:=by rw [k3];exact hs
   have Y:j2 Q D fr Φ st'.c ρ r K:=by rw [k2];exact hK
   refine WC.nS _ (k4 ρ []) (bB (gf j t o x (st:=st') hs' k1 (λe st2 ρ' w' I M z C=>?_)));by_cases v:e= .nrm
   .subst v;exact bg (gf j t o y C z (Y.less I M))
   .rw [nW v] at z;exact iE v (Y e st2 ρ' w' I M z C)
  .exact N st.h h
 | .loop c,Q,fr,K,st,ρ,w,hs,h,hK=>by
  unfold den at h;split at h
  .rename_i tm p Z;obtain ⟨hl,S⟩:=aI h;obtain ⟨J,en⟩:=Aj (tm:=tm) (m:=cY c) hl hs;generalize enter fr tm (cY c) st=f at S en;split at S
   .rename_i s0 hb0;obtain ⟨u,E',V,k,DD,b1,b2,b3,b4⟩:=pU en.lF en.lH en.fx en.sat hb0;have eL:∀s E' V k DD,fZ (λn=>f.c+n) f.fix tm.vs 0 (ic _ s)=⟨E',V,k,DD⟩->cZ f tm s p=⟨f.c+k,E',rowsOf V,p⟩:=λs E' V k DD hb=>by unfold cZ;rw [hb]
    refine Vy (γ:=aB) (λs g w'=>aW f.c J g/\Sat (ab g [] (cZ f tm s p).G++(ab g [] f.fr.H++Φ)) w') (λs g=>az g [] (cZ f tm s p).E f.fr.F) S u ⟨b2,?_⟩ ?_ (λA s g w' U O=>?_)
    .rw [eL _ _ _ _ _ b1];exact b4
    .rw [eL _ _ _ _ _ b1];exact b3.trans en.sub
    .have hx:=gf j t o c (fr:=f.fr) (st:=cZ f tm s p) (ρ:=g) (Q:=Exit.then (Qa A r (λs g w'=>aW f.c J g/\Sat (ab g [] (cZ f tm s p).G++(ab g [] f.fr.H++Φ)) w') (λs g=>az g [] (cZ f tm s p).E f.fr.F) fr.n D) Q) O.2 U (λe st' ρ' w2 I M z C=>?_)
     .rw [en.fn] at hx;exact hx
     .have W:f.c<=(cZ f tm s p).c:=by unfold cZ;generalize fZ (λn=>f.c+n) f.fix tm.vs 0 (ic _ s)=L;obtain ⟨a,b,c,d⟩:=L;exact qO _ _
      by_cases v:e= .nrm
      .subst v;have B:(match lE f tm st'.E st'.G with|some s=>A s|none=>none)=some r:=z;split at B
       .rename_i s' hb;obtain ⟨ρ3,E2,R2,k2,DD2,d1,d2,d3,d4⟩:=pU en.lF en.lH en.fx C hb;rw [en.fn];refine N9 s' ρ3 B ⟨(O.1.trans (I.less W) (b7 _)).trans d2 (b7 _),?_⟩ ?_
        .rw [eL _ _ _ _ _ d1];exact d4
        .rw [eL _ _ _ _ _ d1];exact d3
       .cases B
      .rw [nW v] at z;have:=wB hK en.ag en.le en.ff en.fh en.fn e st' ρ' w2 (O.1.trans (I.less W) (b7 _)) (c9 W M) z C;exact iE v this
   .cases S
  .rename_i k T Z;refine Vy (γ:=aB) (λs g w'=>aW st.c ρ g/\st.c<=s.c/\Sat (ab g [] s.G++(ab g [] fr.H++Φ)) w') (λs g=>az g [] s.E fr.F) h ρ ⟨.refl,b7 _,hs⟩ .refl (λA s g w' U O=>?_);refine gf j t o c (st:=s) O.2.2 U (λe st' ρ' w2 I M z C=>?_);by_cases v:e= .nrm
   .subst v;exact N9 st' ρ' z ⟨O.1.trans I O.2.1,c9 O.2.1 M,C⟩ .refl
   .rw [nW v] at z;exact iE v (hK e st' ρ' w2 (O.1.trans I O.2.1) (c9 O.2.1 M) z C)
  .cases h
 | .region id ops false,Q,fr,K,st,ρ,w,hs,h,hK=>by
  unfold den at h;split at h
  .exact aiL (fr:=frL fr) (st:=stL fr st _) j t o (ato hs) h (aqo hK)
  .exact aiL j t o hs h hK
 | .region id ops true,Q,fr,K,st,ρ,w,hs,h,hK=>by
  unfold den at h;split at h
  next th T Z=>exact VX (st:={ st with h:=T }) j t o hs h hK
  .exact VX j t o hs h hK
 | .scope _,Q,fr,K,st,ρ,w,hs,h,hK=>by unfold den at h;cases h
 | .rangeFunc _ _ _ _,Q,fr,K,st,ρ,w,hs,h,hK=>by unfold den at h;cases h
end
def oK(l:Nat):Code->Bool
 | .label j=>j==l
 | .seq x y=>oK l x||oK l y
 |_=>false
theorem atz{l:Nat}:(c:Code)->oK l c=false->findLabel c l=none:=λc=>by
 induction c with
 |label j=>
  intro h;unfold oK at h;unfold findLabel;rw [h];rfl
 |seq x y b a=>
  intro h;simp only [oK,qy] at h;simp only [findLabel,b h.1,a h.2]
 |_=>intro _;rfl
theorem af1{l:Nat}:(c:Code)->oK l c=true->∃r,findLabel c l=some r:=λc=>by
 induction c with
 |label j=>
  intro h;unfold oK at h;unfold findLabel;rw [h];exact ⟨_,rfl⟩
 |seq x y b a=>
  intro h;simp only [oK,eF] at h;unfold findLabel;cases hx:findLabel x l with
  |some r=>exact ⟨_,rfl⟩
  |none=>
   rcases h with h|h
   .obtain ⟨r,d⟩:=b h;rw [hx] at d;cases d
   .exact a h
 |_=>intro h;cases h
def JK(P:Program)(ρ:zt)(l:Nat):Code->bD->bD
 | .seq x y,Q=>aC (oK l x) (JK P ρ l x (Exit.then (y.wpIn (FW ρ) 0 P Q) Q)) (JK P ρ l y Q)
 |_,Q=>Q
theorem aqn{P:Program}{ρ:zt}{l:Nat}:(c:Code)->{r:Code}->{Q:bD}->{a:Act}->{w:World}->findLabel c l=some r->JK P ρ l c Q .normal a w->r.wpIn (FW ρ) 0 P Q a w:=λc=>by
 induction c with
 |label j=>
  intro r Q a w b h;unfold findLabel at b;split at b
  .cases b;exact wpIn_skip h
  .cases b
 |seq x y f e=>
  intro r Q a w b h;unfold JK at h;unfold findLabel at b;cases hx:oK l x
  .rw [hx] at h;rw [atz x hx] at b;exact e b h
  .rw [hx] at h;obtain ⟨g,d⟩:=af1 x hx;rw [d] at b;cases b;exact wpIn_seq (f d h)
 |_=>intro r Q a w b h;cases b
def D8(l:Nat):Code->Nat
 | .seq x y=>aC (oK l x) (Nat.lor (D8 l x) (cY y)) (D8 l y)
 |_=>0
def BK(st:aE):aE:=match st.h with
 | .s h=>{ st with h:=h }
 |_=>st
abbrev gtk{R:Type}(l:Nat)(A:aE->Option R)(K:XE->aE->Option R):XE->aE->Option R
 | .gto j,st=>aC (Nat.beq j l) (A st) none
 |e,st=>K e st
def P4{R:Type}(X:Cx)(tb:List au)(tp:List bO)(l:Nat)(fr:Fr):Code->(XE->aE->Option R)->aE->Option R
 | .seq x y,K,st=>aC (oK l x) (P4 X tb tp l fr x (yx (den X tb tp y fr K) K) st) (P4 X tb tp l fr y K st)
 | .label _,K,st=>K .nrm st
 |_,_,_=>none
def Ph{R:Type}(X:Cx)(tb:List au)(tp:List bO)(l:Nat)(fr:Fr)(K:XE->aE->Option R)(KL:aE->Option R):Code->aE->Option R
 | .seq x y,st=>aC (oK l x) (Ph X tb tp l fr K KL x (BK st)) (den X tb tp x fr (yx (λst=>Ph X tb tp l fr K KL y st) K) (BK st))
 | .label _,st=>KL st
 |_,_=>none
def aqG{R:Type}(X:Cx)(tb:List au)(tp:List bO)(c:Code)(fr:Fr)(K:XE->aE->Option R)(st:aE):Option R:=match st.h with
 | .n l (.j tm p q)=>aC (oK l c) (
   Ph X tb tp l fr (gtk l (λ_=>none) K) (λst1=>aC (st1.low fr) (
     match lE (enter fr tm (D8 l c) st1) tm (enter fr tm (D8 l c) st1).Et (enter fr tm (D8 l c) st1).Gt with
     |some s=>ax (λagain s=>P4 X tb tp l (enter fr tm (D8 l c) st1).fr c (gtk l (λst'=>match lE (enter fr tm (D8 l c) st1) tm st'.E st'.G with
       |some s=>again s
       |none=>none) (λe st'=>K e (Az e (enter fr tm (D8 l c) st1) st'))) (cZ (enter fr tm (D8 l c) st1) tm s q)) X.fl s
     |none=>none) none) c { st with h:=p }) none
 |_=>none
section
variable {X : Cx} {tb : List au} {tp : List bO} {σ : zt} {D : zm} {R : Type} {r : R} {Φ : Ctx}
theorem ajN{Q:bD}{l n:Nat}{E:Env}{w:World}{e:XE}{ρ:aB}{J:Act->World->Prop}(a:∀j,e≠ .gto j)(h:OA Q e ρ n D E w):OA (Exit.jump l J Q) e ρ n D E w:=by cases e <;> first|exact ((a _) rfl).elim|exact h
theorem ao1{l:Nat}(m:∀it∈X.Γ,it∈Φ)(p:∀e∈tb,e.Ok X.P X.Γ)(o:∀e∈tp,e.Ok X.P X.Γ):∀(c:Code) {Q:bD} {fr:Fr} {K:XE->aE->Option R} {st:aE} {ρ:aB} {w:World},Sat (ab ρ [] st.G++(ab ρ [] fr.H++Φ)) w->
  P4 X tb tp l fr c K st=some r->j2 Q D fr Φ st.c ρ r K->∀a,Fits fr.n (az ρ [] st.E fr.F) a->a.defers=D->JK X.P σ l c Q .normal a w:=λc=>by
 induction c with
 |label j=>intro Q fr K st ρ w b h d a f g;exact d .nrm st ρ w .refl (b7 _) h b a f g
 |seq x y k i=>
  intro Q fr K st ρ w b h d a f g;unfold P4 at h;unfold JK;cases hx:oK l x
  .rw [hx] at h;exact i b h d a f g
  .rw [hx] at h;refine k (Q:=Exit.then (y.wpIn (FW σ) 0 X.P Q) Q) b h (λe st' ρ' w' v u s t=>?_) a f g;by_cases q:e= .nrm
   .subst q;exact bg (gf m p o y t s (d.less v u))
   .rw [nW q] at s;exact iE q (d e st' ρ' w' v u s t)
 |_=>intro Q fr K st ρ w b h;cases h
theorem ai9{st:aE}:(BK st).c=st.c/\(BK st).E=st.E/\(BK st).G=st.G:=by unfold BK;split <;> exact ⟨rfl,rfl,rfl⟩
theorem amS{l:Nat}(z:∀it∈X.Γ,it∈Φ)(B:∀e∈tb,e.Ok X.P X.Γ)(A:∀e∈tp,e.Ok X.P X.Γ){W:bD}{fr:Fr}{K:XE->aE->Option R}{Y:aE->Option R}{q:Nat}{ρ0:aB}(Z:j2 W D fr Φ q ρ0 r K):∀(c:Code) {Q:bD} {st:aE} {ρ:aB} {w:World},
  (∀e (E:Env) (ρ:aB) w,e≠ .nrm->OA W e ρ fr.n D E w->OA Q e ρ fr.n D E w)->
  (∀st1 b w1,aW q ρ0 b->q<=st1.c->Y st1=some r->Sat (ab b [] st1.G++(ab b [] fr.H++Φ)) w1->∀a,Fits fr.n (az b [] st1.E fr.F) a->a.defers=D->JK X.P σ l c Q .normal a w1)->
  oK l c=true->aW q ρ0 ρ->q<=st.c->Sat (ab ρ [] st.G++(ab ρ [] fr.H++Φ)) w->
  Ph X tb tp l fr K Y c st=some r->WC X.P σ c Q fr.n D (az ρ [] st.E fr.F) w:=λc=>by
 induction c with
 |label j=>intro Q st ρ w o p _ m d s h;exact ae5 (λa i k=>p st ρ w m d h s a i k)
 |seq x y v u=>
  intro Q st ρ w o p t m d s h;obtain ⟨U,T,S⟩:=ai9 (st:=st);unfold Ph at h;cases hx:oK l x
  .rw [hx] at h;simp only [oK,hx,n3] at t;refine bB ?_;have:=gf (σ:=σ) (D:=D) z B A x (fr:=fr) (st:=BK st) (ρ:=ρ) (w:=w) (Q:=Exit.then (y.wpIn (FW σ) 0 X.P Q) Q) (by rw [S];exact s) h (λe st' ρ' w' O N M V=>?_)
   .rw [T] at this;exact this
   .rw [U] at O N;by_cases f:e= .nrm
    .subst f;refine bg (u o (λst1 b w1 L J I C a i k=>?_) t (m.trans O d) (c9 d N) V M);have:=p st1 b w1 L J I C a i k;unfold JK at this;rw [hx] at this;exact this
    .rw [nW f] at M;exact iE f (o _ _ _ _ f (Z e st' ρ' w' (m.trans O d) (c9 d N) M V))
  .rw [hx] at h;refine bB ?_;have:=v (Q:=Exit.then (y.wpIn (FW σ) 0 X.P Q) Q) (st:=BK st) (ρ:=ρ) (w:=w) (λe E ρ w g f=>iE g (o e E ρ w g f)) (λst1 b w1 L J I C a i k=>?_) hx m (by rw [U];exact d) (by rw [S];exact s) h
   .rw [T] at this;exact this
   .have:=p st1 b w1 L J I C a i k;unfold JK at this;rw [hx] at this;exact this
 |_=>intro Q st ρ w o p t;cases t
theorem asW{c:Code}{Q:bD}{K:XE->aE->Option R}{st:aE}{ρ:aB}{w:World}(Y:∀it∈X.Γ,it∈Φ)(htb:∀e∈tb,e.Ok X.P X.Γ)(Z:∀e∈tp,e.Ok X.P X.Γ)(hs:Sat (ab ρ [] st.G++(ab ρ [] fr.H++Φ)) w)
  (h:aqG X tb tp c fr K st=some r) (hK:j2 Q D fr Φ st.c ρ r K):WC X.P σ (.scope c) Q fr.n D (az ρ [] st.E fr.F) w:=by
 unfold aqG at h;split at h
 .rename_i l tm p q hh;obtain ⟨B,h0⟩:=aI h;obtain ⟨rest,v⟩:=af1 c B
  -- what holds at the label
  let F:En->(fA (iG tm.vs)->Option R)->fA (iG tm.vs)->Option R:=λf J s=>P4 X tb tp l f.fr c (gtk l (λst'=>match lE f tm st'.E st'.G with
     |some s=>J s
     |none=>none) (λe st'=>K e (Az e f st'))) (cZ f tm s q)
  let I:Nat->Act->World->Prop:=λm a w=>∃(f:En) (o:aB),(f.fr.F=f.E++fr.F/\f.fr.H=f.G++fr.H/\f.fr.n=fr.n/\aG.low f.c f.fr.F=true/\bI f.c f.fr.H=true/\(∀t q,f.fix t=some q->q.1.low f.c=true/\AV.cm f.c q.2=true))/\aW st.c ρ o/\st.c<=f.c/\
   Qa (ax (F f) m) r (λs (g:aB) w'=>aW f.c o g/\Sat (ab g [] (cZ f tm s q).G++(ab g [] f.fr.H++Φ)) w') (λs g=>az g [] (cZ f tm s q).E f.fr.F) fr.n D a w
  have i:∀m a w,I m a w->JK X.P σ l c (Exit.jump l (λC w'=>∃N<m,I N C w') Q) .normal a w:=by
   rintro m a w ⟨f,o,⟨ff,fh,fn,lF,lH,fx⟩,hag,hle,s,g,hm,hJ,hF,hD⟩;obtain ⟨N,rfl,hm'⟩:=NR hm;have eL:∀s E' R' k DD,fZ (λn=>f.c+n) f.fix tm.vs 0 (ic _ s)=⟨E',R',k,DD⟩->cZ f tm s q=⟨f.c+k,E',rowsOf R',q⟩:=λs E' R' k DD hb=>by unfold cZ;rw [hb]
   have hc:f.c<=(cZ f tm s q).c:=by unfold cZ;generalize fZ (λn=>f.c+n) f.fix tm.vs 0 (ic _ s)=L;obtain ⟨a,b,c,d⟩:=L;exact qO _ _
   refine ao1 (σ:=σ) (D:=D) Y htb Z c (fr:=f.fr) (st:=cZ f tm s q) (ρ:=g) (Q:=Exit.jump l (λC w'=>∃m''<N+1,I m'' C w') Q) hJ.2 hm' (λe st' ρ' w2 U T A S=>?_) a (by rw [fn];exact hF) hD;by_cases u:∃j,e= .gto j
   .obtain ⟨j,rfl⟩:=u;unfold gtk at A;obtain ⟨hj,O⟩:=aI A;have:=ai hj;subst this;dsimp only at O;split at O
    .rename_i s' hb;obtain ⟨V,E2,R2,k2,DD2,d1,d2,d3,d4⟩:=pU lF lH fx S hb;refine λa2' hf2 hd2=>⟨rfl,N,qx _,f,o,⟨ff,fh,fn,lF,lH,fx⟩,hag,hle,s',V,O,⟨(hJ.1.trans (U.less hc) (b7 _)).trans d2 (b7 _),?_⟩,?_,hd2⟩
     .rw [eL _ _ _ _ _ d1];exact d4
     .rw [fn] at hf2;show Fits fr.n (az V [] (cZ f tm s' q).E f.fr.F) a2';rw [eL _ _ _ _ _ d1];exact hf2.nS d3
    .cases O
   .have z:∀j,e≠ .gto j:=λj hj=>u ⟨j,hj⟩;have M:K e (Az e f st')=some r:=by cases e <;> first|exact ((z _) rfl).elim|exact A
    exact ajN z (wB hK hag hle ff fh fn e st' ρ' w2 (hJ.1.trans (U.less hc) (b7 _)) (c9 hc T) M S)
  refine λa hf hd=>Xl l I v ?_ (λm a w hI=>aqn c v (i m a w hI))
  -- the way to the label
  have hK':j2 (Exit.jump l (λa w=>∃m,I m a w) Q) D fr Φ st.c ρ r (gtk l (λ_=>none) K):=λe st1 ρ' w' U T A S=>by
   by_cases u:∃j,e= .gto j
   .obtain ⟨j,rfl⟩:=u;unfold gtk at A;obtain ⟨_,O⟩:=aI A;cases O
   .have z:∀j,e≠ .gto j:=λj hj=>u ⟨j,hj⟩;have M:K e st1=some r:=by cases e <;> first|exact ((z _) rfl).elim|exact A
    exact ajN z (hK e st1 ρ' w' U T M S)
  refine amS (σ:=σ) Y htb Z hK' c (Q:=Exit.jump l (λa w=>∃m,I m a w) Q) (st:={ st with h:=p }) (ρ:=ρ) (λ_ _ _ _ _ h=>h) (λst1 ρ' w' U T A S C hf' hd'=>?_) B .refl (b7 _) hs h0 a hf hd;obtain ⟨hl,h2⟩:=aI A;obtain ⟨o,en⟩:=Aj (tm:=tm) (m:=D8 l c) hl S;generalize enter fr tm (D8 l c) st1=f at h2 en;split at h2
  .rename_i s0 hb0;obtain ⟨W,E',R',k,DD,b1,b2,b3,b4⟩:=pU en.lF en.lH en.fx en.sat hb0;have eL:cZ f tm s0 q=⟨f.c+k,E',rowsOf R',q⟩:=by unfold cZ;rw [b1]
   have key:I X.fl C w':=by
    refine ⟨f,o,⟨en.ff,en.fh,en.fn,en.lF,en.lH,en.fx⟩,U.trans en.ag T,c9 T en.le,s0,W,h2,⟨b2,?_⟩,?_,hd'⟩
    .rw [eL];exact b4
    .show Fits fr.n (az W [] (cZ f tm s0 q).E f.fr.F) C;rw [eL];exact hf'.nS (b3.trans en.sub)
   have mono:∀(c:Code) (Q1 Q2:bD),(∀e a w,Q1 e a w->Q2 e a w)->∀a w,JK X.P σ l c Q1 .normal a w->JK X.P σ l c Q2 .normal a w:=λc=>by
    induction c with
    |seq x y ihx ihy=>
     intro Q1 Q2 hq a w h;unfold JK at h ⊢;cases hx:oK l x
     .rw [hx] at h;exact ihy Q1 Q2 hq a w h
     .rw [hx] at h;refine ihx _ _ (λe a w u=>?_) a w h;cases e with
      |normal=>exact wpIn_mono u hq
      |_=>exact hq _ _ _ u
    |_=>intro Q1 Q2 hq a w h;exact hq _ _ _ h
   exact mono c _ _ (λe a w u=>by
    cases e <;> first|exact u|exact ⟨u.1,let ⟨N,_,hI⟩:=u.2;⟨N,hI⟩⟩) C w' (i X.fl C w' key)
  .cases h2
 .cases h
end
end
end Go.Proofs.YtdolcddlmodkkaaGreatDoor
