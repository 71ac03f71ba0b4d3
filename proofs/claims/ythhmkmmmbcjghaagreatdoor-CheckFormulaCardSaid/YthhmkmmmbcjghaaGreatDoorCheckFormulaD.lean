/- Own texts for CheckFormula, cut and joined by a program. -/
import Derived.Test.YthhmkmmmbcjghaaGreatDoorCheckFormulaC
set_option linter.all false
namespace Go.Proofs.YthhmkmmmbcjghaaGreatDoor
noncomputable section
variable {d : Tmp} {x : Operand}
open Go.Lib
abbrev gone{R:Type}(g:GK)(k:Option R):Option R:=match g with
 |none=>k
 |some _=>none
theorem dA{R:Type}{r:R}{g:GK}{k:Option R}(h:gone g k=some r):g=none/\k=some r:=by
 cases g with
 |none=>exact ⟨rfl,h⟩
 |some _=>cases h
def alq{R:Type}(X:Cx)(T:aE)(fr:Fr)(st:aG)(d:zb)(t:TypeId)(x y:Operand)(K:cT R):Option R:=match fR X.P t with
 |some e=>(match CQ X.tys e with
  |some u=>(match lJ X.P e with
   |some z=>(match bE T st.E fr.F none x with
    |some (.sl id)=>(match bE T st.E fr.F none y with
     |some b=>aC (Nat.beq z.1 u.n') (match tE (cJ b.fq st.G) fr.H u b with
      |some ys=>(match eI (cJ b.fq st.G) fr.H (nI id) with
       |some (.top j,.own _ u' e' xs _)=>aC (Nat.beq e e') (match tE.cD.asL u ⟨.l u',xs⟩ with
        |some xs=>K { st with c:=st.c+1,E:=cN d none (.int .i64 ((Nat.min ys.length xs.length:Nat):Int)) st.E,G:=(cJ b.fq st.G).set j (.own id u e (AE xs ys) st.c) }
        |none=>none) none
       |_=>none)
      |none=>none) none
     |none=>none)
    |_=>none)
   |none=>none)
  |none=>none)
 |none=>none
def inO(n d:Nat):List (Nat×Nat)->Bool
 |[]=>false
 |x::l=>(Nat.beq x.1 n&&Nat.beq x.2 d)||inO n d l
def aj5{R:Type}(X:Cx)(T:aE)(fr:Fr)(st:aG)(d:Tmp)(t:TypeId)(x:Operand)(lo hi:Option Operand)(K:cT R):Option R:=match fR X.P t with
 |some e=>(match lJ X.P e with
  |some z=>(match bE T st.E fr.F none x with
   |some (.sl id)=>(match loA T st.E fr.F none lo with
    |some i=>(match hiA T st.E fr.F none hi with
     |some j=>(match eI st.G fr.H (nI id) with
      |some (.top k,.own _ u e' xs _)=>aC (Nat.beq z.1 u.n') (match lo,hi with
       |none,_=>aM (dV 0 (j.getD (xs.length:Int)) xs.length) (K { st with c:=st.c+1,E:=cN (some d) none (.sl st.c) st.E,G:=st.G.set k (.own st.c u e' (bN xs 0 (j.getD (xs.length:Int))) st.c) })
       |some _,none=>aC (Nat.beq z.1 1) (aM (dV i (xs.length:Int) xs.length) (K { st with c:=st.c+1,E:=cN (some d) none (.sl st.c) st.E,G:=st.G.set k (.own st.c u e' (bN xs i (xs.length:Int)) st.c) })) none
       |_,_=>none) none
      |_=>none)
     |none=>none)
    |none=>none)
   |_=>none)
  |none=>none)
 |none=>none
def aoS{R:Type}(X:Cx)(T:aE)(fr:Fr)(st:aG)(d:Tmp)(t:TypeId)(x:Operand)(lo hi mx:Option Operand)(K:cT R):Option R:=match lo,hi,mx with
 |none,some y,some y3=>(match X.P.underlying t with
  |some (.array n e)=>(match CQ X.tys e with
   |some u=>(match lJ X.P e with
    |some z=>(match bE T st.E fr.F none x with
     |some (.ptr id 0)=>(match bE T st.E fr.F none y with
      |some (.int _ h)=>(match bE T st.E fr.F none y3 with
       |some (.int _ m)=>(match ob (Ar id) st.G with
        |some (j,.box _ _ cs)=>aC ((h==(n:Int))&&(m==(n:Int))&&Nat.beq z.1 u.n') (match rdL st.G fr.H u n cs with
         |some xs=>K { st with c:=st.c+1,E:=cN (some d) none (.sl st.c) st.E,G:=st.G.set j (.sli none st.c u xs true) }
         |none=>none) none
        |_=>none)
       |_=>none)
      |_=>none)
     |_=>none)
    |none=>none)
   |none=>none)
  |_=>none)
 |_,_,_=>none
def ald(X:Cx)(T:aE)(fr:Fr)(st:aG)(d:Tmp)(t:TypeId)(x y:Operand){R:Type}(K:cT R):Option R:=match X.P.underlying t with
 |some (.array n e)=>(match lJ X.P e with
  |some z=>(match bE T st.E fr.F none x with
   |some (.adr id off)=>(match bE T st.E fr.F none y with
    |some (.int _ i)=>aap i z.1 (λk=>K { st with E:=cN (some d) none (.adr id (off+k)) st.E }) n 0
    |_=>none)
   |some (.ptr id off)=>(match bE T st.E fr.F none y with
    |some (.int _ i)=>aap i z.1 (λk=>K { st with E:=cN (some d) none (.ptr id (off+k)) st.E }) n 0
    |_=>none)
   |_=>none)
  |none=>none)
 |_=>none
def aue(P:Program)(t:TypeId):Bool:=match P.underlying t with
 |some (.func ..)=>true
 |_=>false
def akv{R:Type}(X:Cx)(T:aE)(fr:Fr)(st:aG)(d:Tmp)(t:TypeId)(len:Nat)(ps:List (Nat×Operand))(K:cT R):Option R:=match fR X.P t with
 |some e=>(match lJ X.P e with
  |some z=>(match rW T st.E fr.F none (ps.map (·.2)) with
   |some vs=>(match Cy (λi=>some (i*z.1,z.1)) ((ps.map (·.1)).zip vs) (aaB len (z.2.2.cells.toList.map kr)) with
    |some cs=>aC (aue X.P e&&Nat.beq z.2.2.cells.size z.1&&Nat.blt 0 (len*z.1)&&Nat.ble (len*z.1) 16777216&&AV.cr st.c cs) (K { st with c:=st.c+1,E:=cN (some d) none (.bs st.c len) st.E,G:= .box st.c e cs::st.G }) none
    |none=>none)
   |none=>none)
  |none=>none)
 |none=>none
def an6{R:Type}(X:Cx)(T:aE)(fr:Fr)(st:aG)(d:Tmp)(t:TypeId)(x y:Operand)(K:cT R):Option R:=match fR X.P t with
 |some e=>(match lJ X.P e with
  |some z=>(match bE T st.E fr.F none x with
   |some (.bs id n)=>(match bE T st.E fr.F none y with
    |some (.int _ i)=>aap i z.1 (λk=>K { st with E:=cN (some d) none (.ptr id k) st.E }) n 0
    |_=>none)
   |_=>none)
  |none=>none)
 |none=>none
def akh(P:Program)(t:TypeId)(nm:String):Option (FuncId×Bool):=match P.info? t with
 |some i=>(match i.methods.find? (·.name==nm) with
  |some m=>(match m.path.toList with
   |[]=>m.func
   |_=>none)
  |none=>none)
 |none=>none
def atB:TypeDesc->Bool
 | .pointer _=>true
 |_=>false
def KB(X:Cx)(T:aE)(fr:Fr)(st:aG)(g:GK)(t:TypeId)(u:AV)(nm:String):Option (FuncId×AV):=match akh X.P t nm with
 |some (f,true)=>(match X.P.underlying t with
  |some (.pointer _)=>some (f,u)
  |_=>none)
 |some (f,false)=>(match X.P.underlying t with
  |some (.pointer e)=>(match AN T st.G fr.H g u with
   |some cs=>(match lQ X.P e cs with
    |some v=>some (f,v)
    |none=>none)
   |none=>none)
  |some d=>aC (atB d) none (some (f,u))
  |none=>none)
 |none=>none
def adi:List Inl->FuncId->Option Inl
 |[],_=>none
 |i::l,f=>match Nat.beq i.f f with
  |true=>some i
  |false=>adi l f
def aqA{R:Type}(X:Cx)(T:aE)(fr:Fr)(st:aG)(g:GK)(d:zb)(f:FuncId)(args:List AV)(K:cT R)(els:Option R):Option R:=match adi X.inl f with
 |none=>els
 |some i=>(match T with
  |[]=>gone g (i.run args fr.H st (λav st'=>K { st' with E:=cN d none av st.E,h:=st.h }))
  |_::_=>none)
def byT{R:Type}(k:TypeId->Option R)(t:TypeId):List TypeId->Option R
 |[]=>none
 |c::cs=>cond (Nat.beq t c) (k c) (byT k t cs)
section
variable {X : Cx} {R : Type} {r : R} {K : cT R} {T : aE} {fr : Fr} {st : aG} {g : GK} {ρ : aB} {Φ : Ctx} {w : World} {ty : TypeId} {pos : String} {af : zd} {gd : xa}
theorem adW:{l:List Inl}->{f:FuncId}->{i:Inl}->adi l f=some i->i∈l/\i.f=f
 |[],_,_,h=>by cases h
 |j::l,f,i,h=>by
  unfold adi at h;split at h
  next c=>cases h;exact ⟨cz .., aS c⟩
  .obtain ⟨b,a⟩:=adW h;exact ⟨cb _ b,a⟩
theorem ary{d:zb}{op:Op}{f:FuncId}{args:List AV}{c:Option R}(hl:st.low fr=true)(t:Sat (ab ρ T st.G++(ab ρ T fr.H++Φ)) w)
  (e:Enters X.P f->T.get g=true->∀n a,Fits n (az ρ T st.E fr.F) a->(execOp a.eval ⟨d,op,ty,pos,af,gd⟩).run X.P w= .ok (.enter f (AV.ao ρ args).toArray) w) (h:aqA X T fr st g d f args K c=some r) (b:c=some r->jU X.P T g (az ρ T st.E fr.F) ⟨d,op,ty,pos,af,gd⟩ w (bc r K T fr st g d ρ Φ)):
  jU X.P T g (az ρ T st.E fr.F) ⟨d,op,ty,pos,af,gd⟩ w (bc r K T fr st g d ρ Φ):=by
 unfold aqA at h;split at h
 .exact b h
 .rename_i i hi;obtain ⟨q,p⟩:=adW hi;subst p;obtain ⟨A,z⟩:=X.inlOk i q;split at h
  .obtain ⟨rfl,x⟩:=dA h;refine .none_ (λn a u=> .inr (.inr ⟨i.f,AV.ao ρ args,e A aE.get_none n a u,(z r args fr.H st _ ρ Φ w t x).mono λv w' s=>?_⟩));obtain ⟨ρ',st',av,o,j,m,l,k⟩:=s;have y:=bm (T:=[]) j (aG.cS.1 hl).2.2.2;exact bc.new (ρ':=ρ') (st':={ st' with E:=cN d none av st.E,h:=st.h }) hl o j m rfl l (by rw [<-y];exact k)
  .cases h
theorem agG{k:TypeId->Option R}{t:TypeId}:∀{cs:List TypeId},byT k t cs=some r->k t=some r
 |[],h=>by cases h
 |c::cs,h=>by
  unfold byT at h;rcases uR h with ⟨b,a⟩|⟨_,a⟩
  .rw [aS b];exact a
  .exact agG a
theorem afq{P:Program}{t:TypeId}{nm:String}{q:FuncId×Bool}(h:akh P t nm=some q):Pu P t nm q.1 q.2:=by
 unfold akh at h;split at h
 .rename_i i hi;split at h
  .rename_i m a;split at h
   next hp=>unfold Pu;rw [hi];simp only [q7];rw [a];simp [hp,h]
   .cases h
  .cases h
 .cases h
theorem apW{t:TypeId}{u v:AV}{cs:List AV}{G H:List Row}(f:Sat (ab ρ T G++(ab ρ T H++Φ)) w)(a:AN T G H g u=some cs)(h:lQ X.P t cs=some v)(j:T.get g=true):
  ∃p,u.val ρ= .pointer (some p)/\(loadVar t p).run X.P w= .ok (v.val ρ) w:=by
 obtain ⟨p,hp,a⟩:=Oj f a j;refine ⟨p,hp,?_⟩;have m:lQ X.P t (cs.drop 0)=some v:=by simpa using h
 obtain ⟨d,n,bytes,z,c1,o,c⟩:=oS (ρ:=ρ) m;cases hd:kJ d
 .rw [hd] at c;simp only [cL,j3] at c;exact PJ c1 hd (a.cell0 c)
 .unfold lQ at h;rw [c1] at h;rcases eb h with ⟨_,b⟩|⟨e,_⟩
  .split at b
   .rename_i q i;obtain ⟨n,bytes,z⟩:=q;obtain ⟨l,k⟩:=aK b;cases k;have hl:n<=cs.length:=c5 l;simp only [AV.val];refine PU c1 hd (cU i) (vs:=AV.ao ρ (cs.take n)) ?_ ?_
    .have:=a.sub (us:=AV.ao ρ (cs.take n)) 0 (by rw [AV.kP,n3,cx,AV.bw,ed hl])
     simpa [Addr.add] using this
    .rw [AV.bw,cx,ed hl]
   .cases b
  .rw [hd] at e;cases e
theorem ad3{t:TypeId}{u:AV}{nm:String}{q:FuncId×AV}(j:Sat (ab ρ T st.G++(ab ρ T fr.H++Φ)) w)(h:KB X T fr st g t u nm=some q):T.get g=true->Reach X.P w t (u.val ρ) nm q.1 (q.2.val ρ):=by
 unfold KB at h;split at h
 .rename_i f c;have b:=afq c;split at h
  next e a=>cases h;exact λ_=>Reach.ptr b a
  .cases h
 .rename_i f c;have b:=afq c;split at h
  .rename_i e a;split at h
   .rename_i cs m;split at h
    next v i=>cases h;intro k;obtain ⟨p,hp,hl⟩:=apW j m i k;rw [hp];exact Reach.load b a hl
    .cases h
   .cases h
  next d a=>obtain ⟨o,n⟩:=Qy h;cases n;exact λ_=>Reach.val b a (λe l=>by subst l;cases o)
  .cases h
 .cases h
theorem aif{t:TypeId}{y:Operand}(s:Sat (ab ρ T st.G++(ab ρ T fr.H++Φ)) w)(h:ald X T fr st d t x y K=some r):
  Ub X.P T none (az ρ T st.E fr.F) ⟨some d,.indexAddr t x y,ty,pos,af,gd⟩ w (bc r K T fr st none (some d) ρ Φ):=by
 unfold ald at h;split at h
 .rename_i n e p;split at h
  .rename_i z o;obtain ⟨m,bytes,z⟩:=z;split at h
   .rename_i id off hx;split at h
    .rename_i k i l;obtain ⟨q,_,u,g,j⟩:=G3 h;have f:=bK (ρ:=ρ) hx;have c:=bK (ρ:=ρ) l;simp only [AV.val] at f c;refine ⟨.pointer (some (((ρ id).a.add off).add (i.toNat*m))),λw'=>?_,?_⟩
     .rw [aE.get_none];exact Co (P:=X.P) (w:=w') (dst:=some d) (ty:=ty) (pos:=pos) (af:=af) (gd:=gd) p (cU o) f c (by
       intro _;subst g;exact Ac.2 ⟨by omega,by omega⟩)
     .refine bc.jw (av:= .adr id (off+q*m)) j (ch _) rfl ?_ s;simp only [AV.val];rw [add_add,g];rfl
    .cases h
   .rename_i id off hx;split at h
    .rename_i k i l;obtain ⟨q,_,u,g,j⟩:=G3 h;have f:=bK (ρ:=ρ) hx;have c:=bK (ρ:=ρ) l;simp only [AV.val] at f c;refine ⟨.pointer (some ((⟨(ρ id).b,off,none⟩:Addr).add (i.toNat*m))),λw'=>?_,?_⟩
     .rw [aE.get_none];exact Co (P:=X.P) (w:=w') (dst:=some d) (ty:=ty) (pos:=pos) (af:=af) (gd:=gd) p (cU o) f c (by
       intro _;subst g;exact Ac.2 ⟨by omega,by omega⟩)
     .refine bc.jw (av:= .ptr id (off+q*m)) j (ch _) rfl ?_ s;simp only [AV.val];rw [add_plain,g];rfl
    .cases h
   .cases h
  .cases h
 .cases h
theorem aqC{d:zb}{t:TypeId}{y:Operand}(hl:st.low fr=true)(g:Sat (ab ρ T st.G++(ab ρ T fr.H++Φ)) w)(h:alq X T fr st d t x y K=some r):
  jU X.P T none (az ρ T st.E fr.F) ⟨d,.call ⟨.builtin .copy,#[x,y],#[t,t]⟩,ty,pos,af,gd⟩ w (bc r K T fr st none d ρ Φ):=by
 unfold alq at h;split at h
 .rename_i e S;split at h
  .rename_i u hu;split at h
   .rename_i z M;obtain ⟨n,bytes,z⟩:=z;split at h
    .rename_i id hx;split at h
     .rename_i b N;obtain ⟨Y,i⟩:=aK h;have hn:n=u.rep.n:=(aS Y).trans u.EJ.symm;have B:=cU M;subst hn;have f:=s9 (ids:=b.fq) (aG.cS.1 hl).2.2.1;replace g:=ka (ids:=b.fq) g;generalize cJ b.fq st.G=G at i f g;have o:=bK (ρ:=ρ) hx;have v:=bK (ρ:=ρ) N;simp only [AV.val] at o;split at i
      .rename_i ys q;have s:=Qv g q;split at i
       .rename_i j p u' e' k L R;obtain ⟨W,D⟩:=aK i;have:=aS W;subst this;split at D
        .rename_i xs A;obtain ⟨eu,ex⟩:=sL A;subst eu;simp only at ex;subst ex;obtain ⟨I,Z⟩:=cp R;have:p=id:=aS Z;subst this;have hi:=gw (ρ:=ρ) (T:=T) (Φ:=ab ρ T fr.H++Φ) I;obtain ⟨J,_⟩:=g.at_ hi;obtain ⟨w',O,V,C,U⟩:=apQ (P:=X.P) (ty:=ty) (w:=w) (t:=t) (cm S) B J s (λb hb=>Ctx.jV hi hb);have Q:j<G.length:=(List.getElem?_eq_some_iff.1 I).1;have a:=sP f I;simp only [Row.low,ar,hW] at a;refine .none_ (bL.gd (bL.oZ (AK o v O) (bc.new (ρ':=ρ.set st.c { dB with y:=⟨.l u',AE k ys⟩ }) (av:= .int .i64 ((Nat.min ys.length k.length:Nat):Int)) hl D aB.bg (jm _) rfl (by simp only [AV.val]) ?_)));show Sat (ab _ T (G.set j _)++_) _;rw [fV Q,bm aB.bg f];refine g.ra hi V (λb hb=>?_) (λM' m _=>?_)
         .simp only [Row.item,aB.bg _ a.1] at hb;exact ⟨by rw [C];exact J.lt b hb,.inl hb⟩
         .simp only [Row.item,aB.bg _ a.1,aB.bM];exact ⟨U M' m,trivial⟩
        .cases D
       .cases i
      .cases i
     .cases h
    .cases h
   .cases h
  .cases h
 .cases h
theorem aoX{t:TypeId}{len:Nat}{ps:Array (Nat×Operand)}(hl:st.low fr=true)(u:Sat (ab ρ T st.G++(ab ρ T fr.H++Φ)) w)(h:akv X T fr st d t len ps.toList K=some r):
  jU X.P T none (az ρ T st.E fr.F) ⟨some d,.buildSlice t len ps,ty,pos,af,gd⟩ w (bc r K T fr st none (some d) ρ Φ):=by
 obtain ⟨ps⟩:=ps;simp only at h;unfold akv at h;split at h
 .rename_i e v;split at h
  .rename_i z s;obtain ⟨n,bytes,z⟩:=z;split at h
   .rename_i vs k;split at h
    .rename_i cs m;obtain ⟨o,y⟩:=aK h;simp only [ar] at o;obtain ⟨⟨⟨⟨_,C⟩,q⟩,B⟩,A⟩:=o;have c:z.cells.size=n:=aS C;have l:=cU s;have a:=yX (ρ:=ρ) m;rw [Eu,Va,mH] at a;have g:0<n:=by
      have:0<len*n:=by simpa using q
      exact s7 (λe=>by simp [e] at this)
     have j:sn n len z.cells.toList ((ps.map (·.1)).zip (AV.ao ρ vs))=some (AV.ao ρ cs).toArray:=by unfold sn;have p:=GI z.cells.toList (by simp [c];exact g) len;simp only [de,c] at p;simp only [de,c];rw [<-a,<-p]
     have i:iM (az ρ T st.E fr.F) true (ps.map (·.2)) (AV.ao ρ vs):=by simpa using gW (ρ:=ρ) k
     have f:=p7 (P:=X.P) (w:=w) (dst:=some d) (ty:=ty) (pos:=pos) (af:=af) (cm v) l (zs:=z.cells.toList) (by simp) q B i j;refine .none_ (bL.gd (bL.oZ f (bc.push (x:={ dB with b:=w.heap.size }) hl y (by simp only [AV.val,aB.bM]) ?_)));simp only [Row.item,aB.bM];rw [AV.cn aB.bg _ A];exact u.push (fp _ _) (λb hb=>by
      have:b=w.heap.size:=by simpa [box] using hb
      subst this;simp) (λ_ _=>heap_alloc_new w _)
    .cases h
   .cases h
  .cases h
 .cases h
theorem asB{t:TypeId}{y:Operand}(A:Sat (ab ρ T st.G++(ab ρ T fr.H++Φ)) w)(h:an6 X T fr st d t x y K=some r):
  jU X.P T none (az ρ T st.E fr.F) ⟨some d,.indexAddr t x y,ty,pos,af,gd⟩ w (bc r K T fr st none (some d) ρ Φ):=by
 unfold an6 at h;split at h
 .rename_i e B;split at h
  .rename_i z u;obtain ⟨m,bytes,z⟩:=z;split at h
   .rename_i id n hx;split at h
    .rename_i k i v;obtain ⟨q,_,C,s,o⟩:=G3 h;have c:=bK (ρ:=ρ) hx;have a:=bK (ρ:=ρ) v;simp only [AV.val] at c a;have j:bc r K T fr st none (some d) ρ Φ (.pointer (some ⟨(ρ id).b,q*m,none⟩)) w:=bc.jw (av:= .ptr id (q*m)) o (ch _) rfl (by simp only [AV.val]) A;have f:=Hf (P:=X.P) (w:=w) (g:=true) (dst:=some d) (ty:=ty) (pos:=pos) (af:=af) (gd:=none) (cm B) (cU u) c a (p:=⟨(ρ id).b,q*m,none⟩) (λ_=>⟨_,_,_,rfl,by omega,by omega,by
      subst s;unfold Addr.add;split
      next l=>simp only [q0] at l;rw [l]
      .simp⟩)
     exact .none_ (bL.gd (bL.run f j))
    .cases h
   .cases h
  .cases h
 .cases h
abbrev adj(E:Env)(z i:Int)(x:Option Operand):Prop:=match x with
 |none=>i=z
 |some y=>∃k,au E true y (.int k i)
theorem apE{t:TypeId}{lo hi:Option Operand}(hl:st.low fr=true)(V:Sat (ab ρ T st.G++(ab ρ T fr.H++Φ)) w)(h:aj5 X T fr st d t x lo hi K=some r):
  jU X.P T none (az ρ T st.E fr.F) ⟨some d,.slice t x lo hi none,ty,pos,af,gd⟩ w (bc r K T fr st none (some d) ρ Φ):=by
 have S:=(aG.cS.1 hl).2.2.1;unfold aj5 at h;split at h
 .rename_i e he;split at h
  .rename_i z hz;obtain ⟨n,bytes,z⟩:=z;split at h
   .rename_i id hx;split at h
    .rename_i i Q;split at h
     .rename_i j hj;split at h
      .rename_i k o u e' xs Y hf;obtain ⟨h1,J⟩:=aK h;have hn:n=u.rep.n:=(aS h1).trans u.EJ.symm;have O:=cU hz;subst hn;obtain ⟨W,f2⟩:=cp hf;have:o=id:=aS f2;subst this;have B:=bK (ρ:=ρ) hx;simp only [AV.val] at B;have C:=gw (ρ:=ρ) (T:=T) (Φ:=ab ρ T fr.H++Φ) W;obtain ⟨R,_⟩:=V.at_ C;have hk:k<st.G.length:=(List.getElem?_eq_some_iff.1 W).1;have f:=W6 (ρ:=ρ) (len:=xs.length) hj;have a:=NZ (ρ:=ρ) Q;rw [aE.get_none] at f a;replace f:adj (az ρ T st.E fr.F) (xs.length:Int) (j.getD (xs.length:Int)) hi:=f;replace a:adj (az ρ T st.E fr.F) 0 i lo:=a;have I:∀{s q:Int} {p:gV} {L:zh},adj (az ρ T st.E fr.F) 0 s lo->adj (az ρ T st.E fr.F) (xs.length:Int) q hi->UX (sl (ρ o).v) s q u.rep.n (sl p)->(∀b∈L,b∈vH (ρ o).v)->bU u.rep e' (Ctx.M (ab ρ T st.G++(ab ρ T fr.H++Φ))) w (sl p) (bN xs s q) L->
         K { st with c:=st.c+1,E:=cN (some d) none (.sl st.c) st.E,G:=st.G.set k (.own st.c u e' (bN xs s q) st.c) }=some r->jU X.P T none (az ρ T st.E fr.F) ⟨some d,.slice t x lo hi none,ty,pos,af,gd⟩ w (bc r K T fr st none (some d) ρ Φ):=by
        intro s q p L q1 Z A N g D;refine .none_ (bL.gd (bL.run (GO (lo:=lo) (hi:=hi) (cm he) O B (λ_=>R.len) q1 Z (λ_=>A)) (bc.new (ρ':=ρ.set st.c { dB with v:=p,y:=⟨.l u,bN xs s q⟩ }) hl D aB.bg (jm _) rfl (by simp only [AV.val,aB.bM]) ?_)));show Sat (ab _ T (st.G.set k _)++_) _;rw [fV hk,bm aB.bg S];refine V.ra C ((Ext.refl w).vS _) (λb hb=>?_) (λM' m _=>?_)
        .simp only [Row.item,aB.bM] at hb;have:=g.canon.1 b hb;exact ⟨g.lt b this,.inl (N b this)⟩
        .simp only [Row.item,aB.bM];exact ⟨g.canon.2 _ _ (g.dm (λ_ _=>rfl) m),trivial⟩
       split at J
       .obtain ⟨U,D⟩:=gz J;obtain ⟨p,A,g⟩:=R.auO U;exact I rfl f A (λb hb=>hb) g D
       .obtain ⟨h5,h6⟩:=aK J;obtain ⟨U,D⟩:=gz h6;obtain ⟨p,A,L,N,g⟩:=R.auT (aS h5) U;exact I a rfl A N g D
       .cases J
      .cases h
     .cases h
    .cases h
   .cases h
  .cases h
 .cases h
theorem asf{t:TypeId}{lo hi q:Option Operand}(hl:st.low fr=true)(o:Sat (ab ρ T st.G++(ab ρ T fr.H++Φ)) w)(h:aoS X T fr st d t x lo hi q K=some r):
  jU X.P T none (az ρ T st.E fr.F) ⟨some d,.slice t x lo hi q,ty,pos,af,gd⟩ w (bc r K T fr st none (some d) ρ Φ):=by
 have N:=(aG.cS.1 hl).2.2.1;unfold aoS at h;split at h
 .rename_i y R;split at h
  .rename_i n e J;split at h
   .rename_i u V;split at h
    .rename_i z D;obtain ⟨S,bytes,z⟩:=z;split at h
     .rename_i id hx;split at h
      .rename_i k W I;split at h
       .rename_i U m i;split at h
        .rename_i j c Q cs M;obtain ⟨A,p⟩:=aK h;simp only [ar,eT] at A;obtain ⟨⟨rfl,rfl⟩,Y⟩:=A;split at p
         next xs l=>obtain ⟨B,O⟩:=mY M;have:c=id:=aS O;subst this;have g:=bK (ρ:=ρ) hx;have f:=bK (ρ:=ρ) I;have a:=bK (ρ:=ρ) i;simp only [AV.val] at g f a;have hi:=gw (ρ:=ρ) (T:=T) (Φ:=ab ρ T fr.H++Φ) B;have hb:fM w (ρ c).b Q (AV.ao ρ cs):=o.at_ hi;obtain ⟨s,C⟩:=YM o n cs xs l;have L:j<st.G.length:=(List.getElem?_eq_some_iff.1 B).1;refine .none_ (bL.gd (bL.run (agQ J (cU D) g f a) (bc.ra (x:={ dB with v:=(some ⟨(ρ c).b,0,none⟩,n,n) }) hl L p (by simp only [AV.val,aB.bM];rfl) ?_)));refine o.ra hi ((Ext.refl w).vS _) (λb hb=>by cases hb) (λM' m hn=>?_);simp only [Row.item,aB.bM];exact λ_=>⟨ca.fresh hb (hn _ (by simp [Row.item,box]) (λhb=>by cases hb)) s (C.mv m),λ_=>s.symm⟩
         .cases p
        .cases h
       .cases h
      .cases h
     .cases h
    .cases h
   .cases h
  .cases h
 .cases h
end
variable {d : zb} {tys : Array TypeId}
def amH{R:Type}(X:Cx)(T:aE)(fr:Fr)(st:aG)(t:TypeId)(x y:Operand)(K:cT R):Option R:=match bE T st.E fr.F none x with
 |some (.ptr id off)=>(match bE T st.E fr.F none y with
  |some v=>agN X.P st t id off v K
  |none=>none)
 |some (.adr q off)=>(match bE T st.E fr.F none y with
  |some v=>ae6 X.P fr st t q off v K
  |none=>none)
 |_=>none
def aqE{R:Type}(X:Cx)(T:aE)(fr:Fr)(st:aG)(g:GK)(d:Tmp)(t:TypeId)(x:Operand)(K:cT R):Option R:=match bE T st.E fr.F g x with
 |some (.adr q off)=>Yt X T fr st g d t q off K
 |_=>none
def asW{R:Type}(X:Cx)(T:aE)(fr:Fr)(st:aG)(g:GK)(b:Builtin)(d:zb)(xs:x4)(ts:List TypeId)(K:cT R):Option R:=match b,xs,ts,d with
 | .append,[x,y],[t,u],some d=>gone g (aC (Nat.beq t u) (aoJ X T fr st d t x y K) (aks X T fr st d t u x y K))
 | .unsafeSliceData,[x],_,some d=>gone g (adn T fr st d x K)
 | .unsafeString,[x,y],[pt,_],some d=>gone g (alh X T fr st d pt x y K)
 | .copy,[x,y],[t,u],d=>gone g (aC (Nat.beq t u) (alq X T fr st d t x y K) none)
 |_,_,_,_=>none
def aot{R:Type}(X:Cx)(tb:List aq)(T:aE)(fr:Fr)(st:aG)(g:GK)(d:zb)(c:Callee)(xs:x4)(ts:List TypeId)(K:cT R):Option R:=match c with
 | .builtin b=>asW X T fr st g b d xs ts K
 | .value fo=>(match bE T st.E fr.F g fo with
  |some (.fn f a b)=>(match rW T st.E fr.F g xs with
   |some vs=>aqA X T fr st g d f (a++vs++b) K (xH T fr st g d f (a++vs++b) K tb)
   |none=>none)
  |some (.raw (.func (.methodOf it nm) ⟨[]⟩ ⟨[]⟩))=>(match X.P.underlying it with
   |some dI=>aC (ig dI) (match rW T st.E fr.F g xs with
    |some (.ifc t u::vs)=>byT (λc=>match KB X T fr st g c u nm with
     |some q=>xH T fr st g d q.1 (q.2::vs) K tb
     |none=>none) t X.ks
    |_=>none) none
   |none=>none)
  |_=>none)
 | .invoke rc nm=>(match bE T st.E fr.F g rc with
  |some (.ifc t u)=>(match rW T st.E fr.F g xs with
   |some vs=>(match u with
    | .agg []=>byT (λc=>match KB X T fr st g c u nm with
     |some q=>xH T fr st g d q.1 (q.2::vs) K tb
     |none=>none) t X.ks
    |_=>(match KB X T fr st g t u nm with
     |some q=>xH T fr st g d q.1 (q.2::vs) K tb
     |none=>none))
   |none=>none)
  |_=>none)
def opN{R:Type}(X:Cx)(tb:List aq)(T:aE)(fr:Fr)(st:aG)(g:GK)(op:Op)(dst:zb)(K:cT R):Option R:=match op,dst with
 | .indexAddr t x y,some d=>(match fR X.P t with
  |some _=>(match bE T st.E fr.F g x with
   |some (.bs _ _)=>gone g (an6 X T fr st d t x y K)
   |_=>ajq X T fr st g d t x y K)
  |none=>(match bE T st.E fr.F g x with
   |some (.gp _)=>adf X T fr st g d t x y K
   |_=>gone g (ald X T fr st d t x y K)))
 | .slice t x lo hi mx,some d=>(match fR X.P t with
  |some _=>(match mx with
   |none=>aC (inO fr.n d X.oc) (gone g (aj5 X T fr st d t x lo hi K)) (agH X T fr st g d t x lo hi none K)
   |mx=>agH X T fr st g d t x lo hi mx K)
  |none=>(match bE T st.E fr.F g x with
   |some (.gp _)=>gone g (ao1 X T fr st d t x lo hi mx K)
   |_=>gone g (aoS X T fr st d t x lo hi mx K)))
 | .alloc t,some d=>gone g (aez X st d t K)
 | .box t x,some d=>gone g (an3 T fr st d t x K)
 | .store t x y,none=>gone g (amH X T fr st t x y K)
 | .load t x,some d=>aqE X T fr st g d t x K
 | .buildSlice t n ps,some d=>(match fR X.P t with
  |some e=>aC (aue X.P e) (gone g (akv X T fr st d t n ps.toList K)) (aoC X T fr st g d t n ps.toList K)
  |none=>none)
 | .makeSlice t x y,some d=>gone g (alE X T fr st d t x y K)
 | .makeMap t none,some d=>gone g (aky X st d t K)
 | .mapUpdate t x y z,none=>gone g (akM X T fr st t x y z K)
 | .range t x,some d=>gone g (aql X T fr st d t x K)
 | .next x true,some d=>gone g (apy T fr st d x K)
 | .convert s dt x,some d=>aox X T fr st g d s dt x K
 | .binOp op t x y _,some d=>gone g (apP X T fr st d op t x y K)
 | .call c,d=>aot X tb T fr st g d c.callee c.args.toList c.argTypes.toList K
 |_,_=>none
def opD{R:Type}(X:Cx)(tb:List aq)(T:aE)(fr:Fr)(st:aG)(g:GK)(o:Oper)(K:cT R):Option R:=
 match akY X T st.E fr.F g o.op with
 |some cv=>L7 cv.1 (g.map λ_=>T.get g) (K { st with E:=cN o.dst g cv.2 st.E })
 |none=>match ajJ X T st.E fr.F st.G fr.H g o.op with
  |some cv=>L7 cv.1 (g.map λ_=>T.get g) (K { st with E:=cN o.dst g cv.2 st.E })
  |none=>aC (st.low fr) (opN X tb T fr st g o.op o.dst K) none
section
variable {X : Cx} {tb : List aq} {R : Type} {r : R} {K : cT R} {T : aE} {fr : Fr} {st : aG} {g : GK} {ρ : aB} {Φ : Ctx} {w : World} {ty : TypeId} {pos : String} {af : zd} {gd : xa}
theorem Bd{d:zb}{op:Op}{f:FuncId}{args:List AV}(hl:st.low fr=true)(j:Sat (ab ρ T st.G++(ab ρ T fr.H++Φ)) w)(a:∀it∈X.Γ,it∈Φ)
  (b:Enters X.P f->T.get g=true->∀n act,Fits n (az ρ T st.E fr.F) act->(execOp act.eval ⟨d,op,ty,pos,af,gd⟩).run X.P w= .ok (.enter f (AV.ao ρ args).toArray) w):∀{tb:List aq},(∀e∈tb,e.Ok X.P X.Γ)->xH T fr st g d f args K tb=some r->
  jU X.P T g (az ρ T st.E fr.F) ⟨d,op,ty,pos,af,gd⟩ w (bc r K T fr st g d ρ Φ)
 |[],_,h=>by cases h
 |e::tb,htb,h=>by
  unfold xH at h;rcases eb h with ⟨l,i⟩|⟨_,i⟩
  .split at i
   next m k=>subst i;have:=aS l;subst this;have c:=htb e (cz ..);exact amb hl j c a (b c.1) k
   .exact Bd hl j a b (λe c=>htb e (cb _ c)) i
  .exact Bd hl j a b (λe c=>htb e (cb _ c)) i
theorem apG{f:FuncId}{fo:Operand}{xs:x4}{a b vs:List AV}(hl:st.low fr=true)(o:Sat (ab ρ T st.G++(ab ρ T fr.H++Φ)) w)(j:∀it∈X.Γ,it∈Φ)
  (m:bE T st.E fr.F g fo=some (.fn f a b)) (k:rW T st.E fr.F g xs=some vs) {tb:List aq} (l:∀e∈tb,e.Ok X.P X.Γ) (h:xH T fr st g d f (a++vs++b) K tb=some r):
  jU X.P T g (az ρ T st.E fr.F) ⟨d,.call ⟨.value fo,xs.toArray,tys⟩,ty,pos,af,gd⟩ w (bc r K T fr st g d ρ Φ):=by
 have c:=aW (ρ:=ρ) m;have i:=gW (ρ:=ρ) k;simp only [AV.val] at c;refine Bd hl o j (λs p n t q=>?_) l h;rw [dJ,dJ];exact Gg s c i q p
theorem afr{k:Operand}{nm:String}{xs:x4}{t:TypeId}{u:AV}{vs:List AV}{q:FuncId×AV}(hl:st.low fr=true)(l:Sat (ab ρ T st.G++(ab ρ T fr.H++Φ)) w)(c:∀it∈X.Γ,it∈Φ)
  (j:bE T st.E fr.F g k=some (.ifc t u)) (f:rW T st.E fr.F g xs=some vs) (m:KB X T fr st g t u nm=some q) {tb:List aq} (i:∀e∈tb,e.Ok X.P X.Γ) (h:xH T fr st g d q.1 (q.2::vs) K tb=some r):
  jU X.P T g (az ρ T st.E fr.F) ⟨d,.call ⟨.invoke k nm,xs.toArray,tys⟩,ty,pos,af,gd⟩ w (bc r K T fr st g d ρ Φ):=by
 have a:=aW (ρ:=ρ) j;have b:=gW (ρ:=ρ) f;simp only [AV.val] at a;exact Bd hl l c (λs o n v p=>apD s a (ad3 l m) b p o) i h
theorem an8{fo:Operand}{it:TypeId}{l:TypeDesc}{nm:String}{xs:x4}{t:TypeId}{u:AV}{vs:List AV}{q:FuncId×AV}(hl:st.low fr=true)(k:Sat (ab ρ T st.G++(ab ρ T fr.H++Φ)) w)(c:∀it∈X.Γ,it∈Φ)
  (j:bE T st.E fr.F g fo=some (.raw (.func (.methodOf it nm) #[] #[]))) (bQ:X.P.underlying it=some l) (hd:ig l=true) (f:rW T st.E fr.F g xs=some (.ifc t u::vs)) (m:KB X T fr st g t u nm=some q) {tb:List aq} (i:∀e∈tb,e.Ok X.P X.Γ) (h:xH T fr st g d q.1 (q.2::vs) K tb=some r):
  jU X.P T g (az ρ T st.E fr.F) ⟨d,.call ⟨.value fo,xs.toArray,tys⟩,ty,pos,af,gd⟩ w (bc r K T fr st g d ρ Φ):=by
 have b:=aW (ρ:=ρ) j;have a:=gW (ρ:=ρ) f;simp only [AV.val,AV.ao] at b a;exact Bd hl k c (λs o n v p=>ahh s b bQ hd (ad3 k m) a p o) i h
theorem asS{c:Callee}{xs:Array Operand}{I:Array TypeId}(hl:st.low fr=true)(l:Sat (ab ρ T st.G++(ab ρ T fr.H++Φ)) w)(m:∀it∈X.Γ,it∈Φ)(o:∀e∈tb,e.Ok X.P X.Γ)
  (h:aot X tb T fr st g d c xs.toList I.toList K=some r):jU X.P T g (az ρ T st.E fr.F) ⟨d,.call ⟨c,xs,I⟩,ty,pos,af,gd⟩ w (bc r K T fr st g d ρ Φ):=by
 obtain ⟨xs⟩:=xs;obtain ⟨I⟩:=I;unfold aot at h;split at h
 .unfold asW at h;split at h
  .rename_i x y t u J k z;simp only at k z;subst k;subst z;obtain ⟨rfl,s⟩:=dA h;rcases eb s with ⟨A,j⟩|⟨_,j⟩
   .have:=aS A;subst this;exact arU hl l j
   .exact aob hl l j
  next x J k=>simp only at k;subst k;obtain ⟨rfl,s⟩:=dA h;exact (agc hl l s).ok2
  next x y Q it J k z=>simp only at k z;subst k;subst z;obtain ⟨rfl,s⟩:=dA h;exact aqu hl l s
  next x y t u k z=>simp only at k z;subst k;subst z;obtain ⟨rfl,s⟩:=dA h;obtain ⟨A,j⟩:=aK s;have:=aS A;subst this;exact aqC hl l j
  .cases h
 .split at h
  .rename_i f a b p;split at h
   next vs i=>refine ary hl l (λN L n O M=>?_) h (λh=>apG hl l m p i o h);have v:=aW (ρ:=ρ) p;have B:=gW (ρ:=ρ) i;simp only [AV.val] at v;rw [dJ,dJ];exact Gg N v B M L
   .cases h
  .rename_i it nm p;split at h
   .rename_i R bQ;obtain ⟨s,A⟩:=aK h;split at A
    .rename_i t u vs i;have j:=agG A;split at j
     next q D=>exact an8 hl l m p bQ s i D o j
     .cases j
    .cases A
   .cases h
  .cases h
 .split at h
  .rename_i t u C;split at h
   .rename_i vs i;split at h
    .have j:=agG h;split at j
     next q D=>exact afr hl l m C i D o j
     .cases j
    .split at h
     next q D=>exact afr hl l m C i D o h
     .cases h
   .cases h
  .cases h
theorem atF{op:Op}{dst:zb}(hl:st.low fr=true)(b:Sat (ab ρ T st.G++(ab ρ T fr.H++Φ)) w)(c:∀it∈X.Γ,it∈Φ)(i:∀e∈tb,e.Ok X.P X.Γ)
  (h:opN X tb T fr st g op dst K=some r):jU X.P T g (az ρ T st.E fr.F) ⟨dst,op,ty,pos,af,gd⟩ w (bc r K T fr st g dst ρ Φ):=by
 unfold opN at h;split at h
 .split at h
  .split at h
   .obtain ⟨rfl,a⟩:=dA h;exact asB b a
   .exact (aiB hl b h).ok2
  .split at h
   .exact (agk hl c b h).ok2
   .obtain ⟨rfl,a⟩:=dA h;exact (aif b a).ok2
 .split at h
  .split at h
   .rcases eb h with ⟨_,d⟩|⟨_,d⟩
    .obtain ⟨rfl,j⟩:=dA d;exact apE hl b j
    .exact (Z1 hl b d).ok2
   .exact (Z1 hl b h).ok2
  .split at h
   .obtain ⟨rfl,a⟩:=dA h;exact arz hl c b a
   .obtain ⟨rfl,a⟩:=dA h;exact asf hl b a
 .obtain ⟨rfl,a⟩:=dA h;exact alZ hl b a
 .obtain ⟨rfl,a⟩:=dA h;exact arv hl b a
 .obtain ⟨rfl,a⟩:=dA h;unfold amH at a;split at a
  .rename_i id off hx;split at a
   next v f=>exact .none_ (anO b hx f a)
   .cases a
  .rename_i id off hx;split at a
   next v f=>exact .none_ (amm hl b hx f a)
   .cases a
  .cases a
 .unfold aqE at h;split at h
  next q off hx=>exact aoq hl b hx h
  .cases h
 .split at h
  .rcases eb h with ⟨_,d⟩|⟨_,d⟩
   .obtain ⟨rfl,j⟩:=dA d;exact aoX hl b j
   .exact arP hl b d
  .cases h
 .obtain ⟨rfl,a⟩:=dA h;exact aqm hl b a
 .obtain ⟨rfl,a⟩:=dA h;exact apo hl b a
 .obtain ⟨rfl,a⟩:=dA h;exact aoa b a
 .obtain ⟨rfl,a⟩:=dA h;exact arO hl b a
 .obtain ⟨rfl,a⟩:=dA h;exact asi b a
 .exact ar7 hl b h
 .obtain ⟨rfl,a⟩:=dA h;exact ar9 b a
 .exact asS hl b c i h
 .cases h
theorem as8{o:Oper}(m:fJ T st.E fr.F)(f:Sat (ab ρ T st.G++(ab ρ T fr.H++Φ)) w)(i:∀it∈X.Γ,it∈Φ)(j:∀e∈tb,e.Ok X.P X.Γ)
  (h:opD X tb T fr st g o K=some r):jU X.P T g (az ρ T st.E fr.F) o w (bc r K T fr st g o.dst ρ Φ):=by
 obtain ⟨dst,op,ty,pos,af,gd⟩:=o;unfold opD at h;simp only at h;split at h
 next cv b=>obtain ⟨d,c⟩:=sx h;exact Ub.ok2 ⟨_,λw'=>ad7 m b d,bc.jw c (ch _) rfl rfl f⟩
 .split at h
  next cv b=>obtain ⟨d,c⟩:=sx h;have k:=agw (dst:=dst) (ty:=ty) (pos:=pos) (af:=af) (gd:=gd) f b d;have a:bc r K T fr st g dst ρ Φ (cv.2.val ρ) w:=bc.jw c (ch _) rfl rfl f;exact ⟨λl=>bL.run (by rwa [l] at k) a,λ_=>⟨_,a⟩⟩
  .obtain ⟨d,c⟩:=aK h;exact atF d f i j c
end
def Row.gd:Row->GK
 | .sli g _ _ _ _|.elm g _ _|.kn g _ _ _ _ _ _=>g
 |_=>none
theorem Row.EP{ρ:aB}{T T':aE}{r:Row}(h:T'.get r.gd=T.get r.gd):r.item ρ T'=r.item ρ T:=by cases r <;> simp only [Row.gd] at h <;> simp only [Row.item,h]
def E8(k:Nat×Bool)(g:GK):Bool:= !(GK.eq (some k) g)
def LA(k:Nat×Bool):aH->Bool
 |[]=>true
 |x::E=>E8 k x.2.1&&LA k E
def Vd(k:Nat×Bool):List Row->Bool
 |[]=>true
 |r::G=>E8 k r.gd&&Vd k G
def ajC(k:Nat×Bool):aE->Bool
 |[]=>true
 |x::T=>E8 k (some x.1)&&E8 k x.2.1&&ajC k T
theorem yH{k:Nat×Bool}{par:GK}{rj:Nat}{b:Bool}{T:aE}{g:GK}(h:E8 k g=true):aE.get ((k,par,rj,b)::T) g=T.get g:=aE.U0 h
theorem Vk{ρ:aB}{k:Nat×Bool}{par:GK}{rj:Nat}{b:Bool}{T:aE}:{E:aH}->LA k E=true->aH.env ρ ((k,par,rj,b)::T) E=aH.env ρ T E
 |[],_=>rfl
 |(t,g,v)::E,h=>by simp only [LA,ar] at h;simp only [aH.env];rw [yH h.1,Vk h.2]
theorem KD{ρ:aB}{k:Nat×Bool}{par:GK}{rj:Nat}{b:Bool}{T:aE}:{G:List Row}->Vd k G=true->ab ρ ((k,par,rj,b)::T) G=ab ρ T G
 |[],_=>rfl
 |r::G,h=>by simp only [Vd,ar] at h;simp only [ab,et];rw [Row.EP (yH h.1)];have:=KD (ρ:=ρ) (par:=par) (rj:=rj) (b:=b) (T:=T) h.2;simp only [ab] at this;rw [this]
theorem Pz{k:Nat×Bool}:{E:aH}->LA k E=true->{t:Nat}->{x:GK×AV}->bH E t=some x->E8 k x.1=true
 |[],_,_,_,h=>by cases h
 |(r,g,v)::E,h,t,x,hx=>by
  simp only [LA,ar] at h;unfold bH at hx;rcases eb hx with ⟨_,a⟩|⟨_,a⟩
  .cases a;exact h.1
  .exact Pz h.2 a
def VJ(k:Nat×Bool):aE->Bool
 |[]=>false
 |x::T=>GK.eq (some k) (some x.1)||VJ k T
def oG(d:zb):aE->Bool
 |[]=>true
 |x::T=>(match d with
  |none=>true
  |some d=> !(Nat.beq d x.2.2.1))&&oG d T
def o6(ops:zf)(n:Nat)(T:aE):Prop:= ∀x,x∈T->(ops[x.1.1]?).bind (·.dst)=some x.2.2.1/\Nat.blt x.2.2.1 n=true
def FT(T:aE)(fr:Fr):Prop:=(∀x,x∈fr.F->T.get x.2.1=aE.get [] x.2.1)/\∀r,r∈fr.H->T.get r.gd=aE.get [] r.gd
def stepG{R:Type}(ops:zf)(T:aE)(fr:Fr)(st:aG)(o:Oper)(run:aE->GK->Option R):Option R:=
 aC (jC o&&Nq fr.n o.dst) (match o.guard with
 |none=>aC ( oG o.dst T ) ( run T none ) none
 |some k=>aC ( VJ k T ) ( aC ( oG o.dst T ) ( run T (some k) ) none )<|match ops[k.1]? with
  |some oj=>(match oj.dst with
   |some rj=>(match ew st.E fr.F rj with
    |some (par,.bool b)=>aC ( Nat.blt rj fr.n&&LA k st.E&&LA k fr.F&&Vd k st.G&&Vd k fr.H&&ajC k T&&oG o.dst ((k,par,rj,b)::T) ) ( run ((k,par,rj,b)::T) (some k) ) none
    |_=>none)
   |none=>none)
  |none=>none) none
structure anK(ops:zf)(fr0 fr:Fr)(st:aG)(ρ:aB)(o:Oper)(T T':aE)(g:GK):Prop where
 pl:jC o=true
 ds:Nq fr.n o.dst=true
 t1:fJ T' st.E fr.F
 t2:o6 ops fr.n T'
 ft:FT T' fr0
 ak:oG o.dst T'=true
 ee:aH.env ρ T' st.E=aH.env ρ T st.E
 ef:aH.env ρ T' fr.F=aH.env ρ T fr.F
 eg:ab ρ T' st.G=ab ρ T st.G
 eh:ab ρ T' fr.H=ab ρ T fr.H
 gg:o.guard=g
 gk:∀k,g=some k->∃rj par b,(ops[k.1]?).bind (·.dst)=some rj/\look (az ρ T' st.E fr.F) rj=some (T'.get par,.bool b)/\Nat.blt rj fr.n=true/\(T'.get par&&(b==k.2))=T'.get g
theorem aic{k:Nat×Bool}:{T:aE}->VJ k T=true->∃x,x∈T/\x.1=k
 |[],h=>by cases h
 |x::T,h=>by
  simp only [VJ,dk] at h;rcases h with h|h
  .have:=GK.eq_eq h;cases this;exact ⟨x,cz .., rfl⟩
  .obtain ⟨y,b,a⟩:=aic h;exact ⟨y,cb _ b,a⟩
theorem aiM{k:Nat×Bool}:{T:aE}->ajC k T=true->∀x,x∈T->E8 k (some x.1)=true/\E8 k x.2.1=true
 |[],_,x,h=>by cases h
 |y::T,h,x,hx=>by
  simp only [ajC,ar] at h;rcases List.mem_cons.1 hx with rfl|hx
  .exact h.1
  .exact aiM h.2 x hx
theorem aiV{k:Nat×Bool}:{E:aH}->LA k E=true->∀x,x∈E->E8 k x.2.1=true
 |[],_,x,h=>by cases h
 |y::T,h,x,hx=>by
  simp only [LA,ar] at h;rcases List.mem_cons.1 hx with rfl|hx
  .exact h.1
  .exact aiV h.2 x hx
theorem ai8{k:Nat×Bool}:{E:List Row}->Vd k E=true->∀x,x∈E->E8 k x.gd=true
 |[],_,x,h=>by cases h
 |y::T,h,x,hx=>by
  simp only [Vd,ar] at h;rcases List.mem_cons.1 hx with rfl|hx
  .exact h.1
  .exact ai8 h.2 x hx
theorem aeR{R:Type}{r:R}{ops:zf}{T:aE}{fr0 fr:Fr}{st:aG}{o:Oper}{run:aE->GK->Option R}{ρ:aB}(u:fJ T st.E fr.F)(t:o6 ops fr.n T)(w:fr0.F=fr.F)(v:∀r,r∈fr0.H->r∈fr.H)(p:FT T fr0)(h:stepG ops T fr st o run=some r):
  ∃T' g,run T' g=some r/\anK ops fr0 fr st ρ o T T' g:=by
 unfold stepG at h;obtain ⟨f,z⟩:=aK h;simp only [ar] at f;have jw:∀k x,x∈T->x.1=k->∃rj par b,(ops[k.1]?).bind (·.dst)=some rj/\look (az ρ T st.E fr.F) rj=some (T.get par,.bool b)/\Nat.blt rj fr.n=true/\(T.get par&&(b==k.2))=T.get (some k):=λk x hx hk=>by subst hk;obtain ⟨G,D⟩:=u x hx;obtain ⟨C,B⟩:=t x hx;exact ⟨x.2.2.1,x.2.1,x.2.2.2,C,by rw [hZ,G];simp [AV.val],B,by rw [D,Qh]⟩
 split at z
 next m=>obtain ⟨s,d⟩:=aK z;exact ⟨T,none,d,⟨f.1,f.2,u,t,p,s,rfl,rfl,rfl,rfl,m,λk hk=>by cases hk⟩⟩
 .rename_i k m;rcases eb z with ⟨s,d⟩|⟨s,d⟩
  .obtain ⟨q,y⟩:=aK d;obtain ⟨x,hx,hk⟩:=aic s;exact ⟨T,some k,y,⟨f.1,f.2,u,t,p,q,rfl,rfl,rfl,rfl,m,λL e=>by cases e;exact jw k x hx hk⟩⟩
  .split at d
   .rename_i oj l;split at d
    .rename_i rj i;split at d
     .rename_i par b a;obtain ⟨q,y⟩:=aK d;simp only [ar] at q;obtain ⟨⟨⟨⟨⟨⟨K,J⟩,A⟩,O⟩,I⟩,N⟩,M⟩:=q;have j:E8 k par=true:=by
       unfold ew at a;split at a
       next x hx=>cases a;exact Pz J hx
       .exact Pz A a
      have c:aE.get ((k,par,rj,b)::T) (some k)=(aE.get ((k,par,rj,b)::T) par&&yG k.2 b):=by rw [aE.apt,yH j]
      have ee:=Vk (ρ:=ρ) (par:=par) (rj:=rj) (b:=b) (T:=T) J;have ef:=Vk (ρ:=ρ) (par:=par) (rj:=rj) (b:=b) (T:=T) A;refine ⟨(k,par,rj,b)::T,some k,y,⟨f.1,f.2,λx hx=>?_,λx hx=>?_,⟨λx hx=>?_,λx hx=>?_⟩,M,ee,ef,KD O,KD I,m,λL e=>?_⟩⟩
      .rcases List.mem_cons.1 hx with rfl|hx
       .exact ⟨a,c⟩
       .obtain ⟨G,D⟩:=u x hx;obtain ⟨C,B⟩:=aiM N x hx;exact ⟨G,by rw [yH C,yH B];exact D⟩
      .rcases List.mem_cons.1 hx with rfl|hx
       .exact ⟨by simp [l,i],K⟩
       .exact t x hx
      .rw [yH (aiV A x (w▸hx))];exact p.1 x hx
      .rw [yH (ai8 I x (v x hx))];exact p.2 x hx
      .cases e;refine ⟨rj,par,b,by simp [l,i],?_,K,by rw [c,Qh]⟩;rw [hZ,a];simp [AV.val]
     .cases d
    .cases d
   .cases d
theorem aaY{d:zb}:{T:aE}->oG d T=true->∀x,x∈T->∀(g:GK) (v:AV) (E F:aH),ew (cN d g v E) F x.2.2.1=ew E F x.2.2.1
 |[],_,x,h=>by cases h
 |y::T,h,x,hx=>λg v E F=>by
  simp only [oG,ar] at h;rcases List.mem_cons.1 hx with rfl|hx
  .cases d with
   |none=>rfl
   |some d=>
    have a:=h.1;simp only [eF] at a;unfold ew;simp only [cN,bH,a]
  .exact aaY h.2 x hx g v E F
theorem fJ.out{T:aE}{E F:aH}(h:fJ T E F){d:zb}(a:oG d T=true)(g:GK)(v:AV):fJ T (cN d g v E) F:=λx hx=>by rw [aaY a x hx];exact h x hx
theorem vW{ρ:aB}{T:aE}{g:GK}{v:AV}{E F:aH}:az ρ T (cN d g v E) F=rP d (T.get g) (v.val ρ) (az ρ T E F):=by cases d <;> rfl
section
variable {X : Cx} {tb : List aq} {σ : za} {Q : bD} {D : x3} {ops : zf} {rest : zf} {R : Type} {r : R} {T : aE} {fr : Fr} {st : aG} {ρ : aB} {Φ : Ctx} {w : World}
theorem ad1{fr0:Fr}{o:Oper}{K:aE->cT R}(O:fJ T st.E fr.F)(N:o6 ops fr.n T)(s:fr0.F=fr.F)(q:∀r,r∈fr0.H->r∈fr.H)(L:FT T fr0)(J:Sat (ab ρ T st.G++(ab ρ T fr.H++Φ)) w)(j:∀it∈X.Γ,it∈Φ)(l:∀e∈tb,e.Ok X.P X.Γ)
  (h:stepG ops T fr st o (λT g=>opD X tb T fr st g o (K T))=some r)
  (f:∀T' st' ρ' w',fJ T' st'.E fr.F->o6 ops fr.n T'->FT T' fr0->aZ st.c ρ ρ'->st.c<=st'.c->K T' st'=some r->ab ρ' T' fr.H=ab ρ T fr.H->Sat (ab ρ' T' st'.G++(ab ρ' T' fr.H++Φ)) w'->WL X.P σ ops.toArray Q fr.n D rest (az ρ' T' st'.E fr.F) w'):
  WL X.P σ ops.toArray Q fr.n D (o::rest) (az ρ T st.E fr.F) w:=by
 obtain ⟨T',g,hk,a⟩:=aeR (ρ:=ρ) O N s q L h;have m:Sat (ab ρ T' st.G++(ab ρ T' fr.H++Φ)) w:=by rw [a.eg,a.eh];exact J
 have M:az ρ T st.E fr.F=az ρ T' st.E fr.F:=by rw [az,az,a.ee,a.ef]
 rw [M];have d:=as8 a.t1 m j l hk;have i:∀v w',bc r (K T') T' fr st g o.dst ρ Φ v w'->WL X.P σ ops.toArray Q fr.n D rest (rP o.dst (T'.get g) v (az ρ T' st.E fr.F)) w':=λv w' I=>by obtain ⟨ρ',st',av,C,B,A,t,z,y,x,u⟩:=I;have:=f T' st' ρ' w' (by rw [t];exact a.t1.out a.ak g av) a.t2 a.ft B A C (x.trans a.eh) u;rw [t,vW,z,y] at this;exact this
 cases p:g with
 |none=>
  subst p;have:=i;rw [aE.get_none] at this;exact arx (d.1 aE.get_none) a.pl a.gg a.ds this
 |some k=>
  obtain ⟨rj,par,b,W,V,U,S⟩:=a.gk k p;subst p;exact an0 d.1 d.2 a.pl a.gg (by simpa using W) V U S a.ds i
end
def tg{α:Type}:Option α->Bool
 |none=>true
 |some _=>false
def nW(E0:aH):aH->aH
 |[]=>[]
 |x::E=>(match bH E0 x.1 with
  |some (none,_)=>aC (tg x.2.1) (x::nW E0 E) (nW E0 E)
  |_=>nW E0 E)
def mC:List Row->List Row
 |[]=>[]
 |r::G=>aC (tg r.gd) (r::mC G) (mC G)
def AA(T:aE)(st:aG):aG:=match T with
 |[]=>st
 |_::_=>{ st with E:=nW st.E st.E,G:=mC st.G }
theorem iG{t' t:Nat}{g:GK}{v:AV}{E:aH}(h:Nat.beq t' t=true):bH ((t',g,v)::E) t=some (g,v):=by simp only [bH,h]
theorem fz{t' t:Nat}{g:GK}{v:AV}{E:aH}(h:Nat.beq t' t=false):bH ((t',g,v)::E) t=bH E t:=by simp only [bH,h]
theorem Il{d:aH}{t:Nat}:{E:aH}->{x:GK×AV}->bH (nW d E) t=some x->x.1=none/\(∃v,bH d t=some (none,v))/\((∃v,bH E t=some (none,v))->bH E t=some x)
 |[],x,h=>by cases h
 |(t',g',v')::E,x,h=>by
  unfold nW at h;have dm:bH (nW d E) t=some x->(∀v,Nat.beq t' t=true->bH d t'≠some (none,v)\/g'≠none)->x.1=none/\(∃v,bH d t=some (none,v))/\((∃v,bH ((t',g',v')::E) t=some (none,v))->bH ((t',g',v')::E) t=some x):=λm hn=>by
   obtain ⟨a,c,l⟩:=Il m;refine ⟨a,c,λf=>?_⟩;cases hb:Nat.beq t' t
   .rw [fz hb] at f ⊢; exact l f
   .exfalso;obtain ⟨j,i⟩:=c;obtain ⟨n,b⟩:=f;rw [iG hb] at b;simp only [cC,qc] at b;have e:=aS hb;rcases hn j hb with g|g
    .rw [e] at g;exact g i
    .exact g b.1
  dsimp only at h;split at h
  .rename_i v f;cases a:tg g'
   .rw [a] at h;exact dm h (λv _=> .inr (λe=>by rw [e] at a;cases a))
   .rw [a] at h;have c:bH ((t',g',v')::nW d E) t=some x:=h;cases hb:Nat.beq t' t
    .rw [fz hb] at c ⊢;exact Il (E:=E) c
    .rw [iG hb] at c ⊢;cases c;have e:=aS hb;refine ⟨?_,⟨v,by rw [<-e];exact f⟩,λ_=>rfl⟩;cases k:g' with
     |none=>rfl
     |some _=>rw [k] at a;cases a
  next hn=>exact dm h (λv hb=> .inl (λe=>hn v e))
theorem SX{a:aH}{t:Nat}{c:AV}(b:bH a t=some (none,c)):{E:aH}->{v:AV}->bH E t=some (none,v)->bH (nW a E) t=some (none,v)
 |[],v,h=>by cases h
 |(t',g',v')::E,v,h=>by
  unfold nW;cases hb:Nat.beq t' t
  .rw [fz hb] at h;have ih:=SX b h;dsimp only;split
   .cases tg g'
    .exact ih
    .show bH ((t',g',v')::nW a E) t=_;rw [fz hb];exact ih
   .exact ih
  .rw [iG hb] at h;cases h;have e:=aS hb;subst e;dsimp only;rw [b];exact iG hb
def adl(F E0:aH):aH->Bool
 |[]=>true
 |x::E=>(match bH E0 x.1 with
  |some (none,_)=>true
  |_=>tg (bH F x.1))&&adl F E0 E
theorem aeF{F c:aH}{t:Nat}:{E:aH}->{x:GK×AV}->adl F c E=true->bH E t=some x->(∃v,bH c t=some (none,v))\/bH F t=none
 |[],x,_,h=>by cases h
 |(t',g',v')::E,x,hb,h=>by
  simp only [adl,ar] at hb;cases b:Nat.beq t' t
  .rw [fz b] at h;exact aeF hb.2 h
  .have e:=aS b;subst e;have a:=hb.1;split at a
   next v d=>exact .inl ⟨v,d⟩
   .cases f:bH F t' with
    |none=>exact .inr rfl
    |some y=>rw [f] at a;cases a
def Ee(T:aE)(fr:Fr)(st:aG):Bool:=match T with
 |[]=>true
 |_::_=>adl fr.F st.E st.E
theorem aoG{ρ:aB}{T:aE}{E:aH}(h:∀x,x∈E->T.get x.2.1=aE.get [] x.2.1):aH.env ρ T E=aH.env ρ [] E:=by
 induction E with
 |nil=>rfl
 |cons x E ih=>
  obtain ⟨t,g,v⟩:=x;simp only [aH.env];rw [h _ (cz ..),ih (λx hx=>h x (cb _ hx))]
theorem WE{ρ:aB}{T:aE}{G:List Row}(h:∀r,r∈G->T.get r.gd=aE.get [] r.gd):ab ρ T G=ab ρ [] G:=
 sw λr a=>Row.EP (h r a)
theorem Au:{G:List Row}->∀r,r∈mC G->r.gd=none
 |[],r,h=>by cases h
 |y::G,r,h=>by
  unfold mC at h;cases a:tg y.gd
  .rw [a] at h;exact Au r h
  .rw [a] at h;rcases List.mem_cons.1 h with rfl|h
   .cases b:r.gd with
    |none=>rfl
    |some _=>rw [b] at a;cases a
   .exact Au r h
theorem CW{ρ:aB}{T:aE}{w:World}{B:Ctx}:∀{G:List Row} {A:Ctx},Sat (A++(ab ρ T G++B)) w->Sat (A++(ab ρ T (mC G)++B)) w
 |[],_,h=>h
 |r::G,A,h=>by
  unfold mC;cases tg r.gd
  .exact CW (G:=G) (Sat.C0 h)
  .have a:Sat ((A++[r.item ρ T])++(ab ρ T G++B)) w:=by simpa [ab] using h
   have:=CW (G:=G) a;simpa [ab] using this
theorem Ke{ρ:aB}{T:aE}{fr:Fr}{st:aG}{Φ:Ctx}{w:World}(j:Ee T fr st=true)(f:FT T fr)(e:Sat (ab ρ T st.G++(ab ρ T fr.H++Φ)) w):
  (AA T st).c=st.c/\jX (az ρ [] (AA T st).E fr.F) (az ρ T st.E fr.F)/\Sat (ab ρ [] (AA T st).G++(ab ρ [] fr.H++Φ)) w:=by
 cases T with
 |nil=>exact ⟨rfl,jX.refl,e⟩
 |cons x T=>
  refine ⟨rfl,λt p hp=>?_,?_⟩
  .have n:aH.env ρ (x::T) fr.F=aH.env ρ [] fr.F:=aoG f.1;rw [az,HN] at hp ⊢;rw [n];cases hl:look (aH.env ρ [] (AA (x::T) st).E) t with
   |none=>
    rw [hl] at hp
    -- nothing kept: nothing told, or under a guard
    have:look (aH.env ρ (x::T) st.E) t=none:=by
     rw [uO] at hl hp ⊢;cases i:bH st.E t with
     |none=>rfl
     |some y=>
      exfalso;have hk:bH (nW st.E st.E) t=none:=by
       cases hk:bH (nW st.E st.E) t with
       |none=>rfl
       |some z=>
        have:bH (AA (x::T) st).E t=some z:=hk;rw [this] at hl;cases hl
      rcases aeF j i with ⟨v,d⟩|h
      .rw [SX d d] at hk;cases hk
      .rw [h] at hp;cases hp
    rw [this];exact hp
   |some q=>
    rw [hl] at hp;cases hp;rw [uO] at hl;cases hk:bH (AA (x::T) st).E t with
    |none=>rw [hk] at hl;cases hl
    |some y=>
     rw [hk] at hl;obtain ⟨b,m,l⟩:=Il hk;have k:=l m;rw [uO,k];simp only [lk,cC] at hl ⊢;rw [<-hl,b,aE.get_none,aE.get_none]
  .have b:=CW (A:=[]) e;have s:ab ρ (x::T) (mC st.G)=ab ρ [] (mC st.G):=WE λr g=>by rw [Au r g,aE.get_none,aE.get_none]
   have o:ab ρ (x::T) fr.H=ab ρ [] fr.H:=WE f.2;rw [qO,s,o] at b;exact b
def Ue:Bool->Pt->List (Bool×Nat×Pt)->Type
 |true,_,_=>Empty
 |false,r,os=>fy (nC r++iB os)
abbrev auf{R:Type}:(nv:Bool)->(r:Pt)->(os:List (Bool×Nat×Pt))->Ue nv r os->(fy (nC r++iB os)->Option R)->Option R
 |true,_,_,x,_=>Empty.elim x
 |false,_,_,x,K=>K x
def isOk:(nv:Bool)->(r:Pt)->(os:List (Bool×Nat×Pt))->Ue nv r os->fy (nC r++iB os)->Prop
 |true,_,_,_,_=>False
 |false,_,_,x,q=>x=q
theorem asl{R:Type}{a:R}:{nv:Bool}->{r:Pt}->{os:List (Bool×Nat×Pt)}->{x:Ue nv r os}->{q:fy (nC r++iB os)}->{K:fy (nC r++iB os)->Option R}->isOk nv r os x q->auf nv r os x K=some a->K q=some a
 |true,_,_,_,_,_,h,_=>h.elim
 |false,_,_,_,_,_,rfl,h=>h
abbrev Wy(p:Pt):Option Pt->Type
 |none=>fy (nC p)
 |some q=>fy (nC p) ⊕ fy (nC q)
abbrev afF{A B R:Type}(x:A ⊕ B)(f:A->R)(g:B->R):R:=match x with
 | .inl a=>f a
 | .inr b=>g b
def aoc(pp:Pt):(pq:Option Pt)->Wy pp pq->Value->fF->kq->List Nm->Prop
 |none,p,v,I,X,N=>Sem pp v none none [] (ic _ p) I X N
 |some _,.inl p,v,I,X,N=>Sem pp v none none [] (ic _ p) I X N
 |some q,.inr p,v,I,X,N=>Sem q v none none [] (ic _ p) I X N
structure bR where
 f:FuncId
 ps:List Pt
 pp:Pt
 pq:Option Pt
 nv:Bool
 lp:Bool
 r:Pt
 os:List (Bool×Nat×Pt)
 m:fy (oN ps)->Option (Except (Wy pp pq) (Ue nv r os))
def bR.oe(e:bR):aq:=⟨e.f,e.ps,e.r,e.os,λ_=>none⟩
def bR.S(e:bR)(vs:yp)(N:List Nm)(I:fF)(X:kq)(Φ:Ctx)(r:Except (Wy e.pp e.pq) (Ue e.nv e.r e.os))(v:Value)(w':World):Prop:=
 ∃x q,r= .ok x/\isOk e.nv e.r e.os x q/\∃(N1 N2:List Nm) (D1 D2:List cD) (I1 I2:fF) (X1 X2:kq),Sem e.r v none none N D1 I1 X1 N1/\Ij (WJ N e.ps vs X) (λi=>vs[i]?) e.os N1 D2 I2 X2 N2/\D1++D2=ic _ q/\
  Sat ((dP I1++dP I2)++(fK I++Φ)) w'
def bR.Sp(e:bR)(I:fF)(Φ:Ctx)(r:Except (Wy e.pp e.pq) (Ue e.nv e.r e.os))(c:xc)(w':World):Prop:=
 ∃p,r= .error p/\∃(v:Value) (N1:List Nm) (I1:fF) (X1:kq),c=iY v/\aoc e.pp e.pq p v I1 X1 N1/\Sat (dP I1++(aC e.lp [] (fK I)++Φ)) w'
def bR.Ok(P:Program)(Γg:Ctx)(e:bR):Prop:=Enters P e.f/\∀s r,e.m s=some r->∀(vs:yp) (N:List Nm) (I:fF) (X:kq) (Φ:Ctx) (w:World),
 wB e.ps vs [] [] [] (ic _ s) I X N->Sat (dP I++Φ) w->(∀it∈Γg,it∈Φ)->mw P e.f vs w (e.S vs N I X Φ r) (e.Sp I Φ r)
theorem Sat.move{A B C:Ctx}{x:Item}{w:World}(h:Sat (A++x::(B++C)) w):Sat (A++(B++x::C)) w:=by
 refine h.Cz (λj k=>(j<A.length/\k=j)\/(A.length<=j/\j<A.length+B.length/\k=j+1)\/(j=A.length+B.length/\k=A.length)\/(A.length+B.length<j/\k=j)) (λj jt a=>?_) (λj k q b m l=>by omega);by_cases e:j<A.length
 .rw [cG e] at a;exact .inr ⟨j,jt,.inl ⟨e,rfl⟩,by rw [cG e];exact a,ck.refl⟩
 .rw [cy (by omega)] at a;by_cases i:j<A.length+B.length
  .rw [cG (by omega)] at a;refine .inr ⟨j+1,jt,.inr (.inl ⟨by omega,i,rfl⟩),?_,ck.refl⟩;rw [cy (by omega)];have:j+1-A.length=(j-A.length)+1:=by omega
   rw [this,cH,cG (by omega)];exact a
  .rw [cy (by omega)] at a;by_cases g:j=A.length+B.length
   .subst g;rw [show A.length+B.length-A.length-B.length=0 by omega] at a;simp at a;subst a;exact .inr ⟨A.length,x,.inr (.inr (.inl ⟨rfl,rfl⟩)),by simp,ck.refl⟩
   .refine .inr ⟨j,jt,.inr (.inr (.inr ⟨by omega,rfl⟩)),?_,ck.refl⟩;rw [cy (by omega)];have f:j-A.length-B.length=(j-A.length-B.length-1)+1:=by omega
    rw [f,cH] at a;have d:j-A.length=(j-A.length-1)+1:=by omega
    rw [d,cH,cy (by omega)];have c:j-A.length-1-B.length=j-A.length-B.length-1:=by omega
    rw [c];exact a
theorem Sat.swp{w:World}{B C:Ctx}:∀{A P:Ctx},Sat (P++(A++(B++C))) w->Sat (P++(B++(A++C))) w
 |[],_,h=>h
 |x::A,P,h=>by
  have c:Sat ((P++[x])++(A++(B++C))) w:=by simpa using h
  have b:=Sat.swp (A:=A) c;have a:Sat (P++x::(B++(A++C))) w:=by simpa using b
  exact a.move
def dL:List Row->List Row
 |[]=>[]
 |r::G=>aC r.cW (r::dL G) (dL G)
abbrev JZ(b:Bool)(H:List Row):List Row:=aC b (dL H) H
theorem Gr{c:Nat}:{G:List Row}->bJ c G=true->bJ c (dL G)=true
 |[],_=>rfl
 |r::G,h=>by
  simp only [bJ,ar] at h;unfold dL;cases r.cW
  .exact Gr h.2
  .show bJ c (r::dL G)=true;simp only [bJ,ar];exact ⟨h.1,Gr h.2⟩
theorem arM{c:Nat}{b:Bool}{G:List Row}(h:bJ c G=true):bJ c (JZ b G)=true:=by
 cases b
 .exact h
 .exact Gr h
theorem rC{r:Row}:{G:List Row}->r∈dL G->r∈G/\r.cW=true
 |[],h=>by cases h
 |x::G,h=>by
  unfold dL at h;cases hx:x.cW <;> rw [hx] at h
  .exact ⟨cb _ (rC h).1,(rC h).2⟩
  .rcases List.mem_cons.1 h with rfl|h
   .exact ⟨cz .., hx⟩
   .exact ⟨cb _ (rC h).1,(rC h).2⟩
theorem O9{G H:List Row}:dL (G++H)=dL G++dL H:=by
 induction G with
 |nil=>rfl
 |cons r G ih=>
  show aC r.cW (r::dL (G++H)) (dL (G++H))=aC r.cW (r::dL G) (dL G)++dL H;rw [ih];cases r.cW <;> rfl
theorem anv{ρ:aB}{T:aE}{w:World}{Γ:Ctx}(h:Sat Γ w){H:List Row}(b:∀r∈H,r.item ρ T∈Γ):Sat (ab ρ T (dL H)++Γ) w:=by
 refine h.aoM _ (List.all_eq_true.2 λit bQ=>?_) ?_
 .obtain ⟨r,a,rfl⟩:=List.mem_map.1 bQ;exact Row.anM (rC a).2
 .have:∀l:List Item,(∀it∈l,it.P Γ.M w)->ak3 Γ.M w l:=λl=>by
   induction l with
   |nil=>intro _;trivial
   |cons x l ih=>intro hl;exact ⟨hl x (cz ..),ih λit bQ=>hl it (cb _ bQ)⟩
  refine this _ λit bQ=>?_;obtain ⟨r,a,rfl⟩:=List.mem_map.1 bQ;exact h.all _ (b r (rC a).1)
theorem asw{L:xb}{A B:Ctx}(h:∀i,some i∈L->i<A.length):∃a,jD L (A++B)=a++B/\a.length=A.length:=by
 induction L with
 |nil=>exact ⟨A,rfl,rfl⟩
 |cons o L ih=>
  obtain ⟨a,c,b⟩:=ih (λi hi=>h i (cb _ hi));cases o with
  |none=>exact ⟨a,c,b⟩
  |some i=>
   refine ⟨a.set i gT,?_,by rw [v7,b]⟩;show (jD L (A++B)).set i gT=_;have:=h i (cz ..);rw [c,List.set_append_left _ _ (by omega)]
theorem Sat.NI{w:World}{B C:Ctx}:∀{A:Ctx},Sat (B++(A++C)) w->Sat (B++C) w
 |[],h=>h
 |_x::A,h=>Sat.NI (A:=A) (Sat.C0 h)
def NJ{R:Type}(st:aG)(pp:Pt)(G1:List Row)(KP:AV->aG->Option R)(p:fy (nC pp)):Option R:=
 match fill (ux [] st.c) pp none none 0 (ic _ p) with
 |⟨v,R1,k,_,_⟩=>KP v { st with c:=st.c+k,G:=R1.map (·.2)++G1 }
abbrev alX{R:Type}(st:aG)(pp:Pt):(pq:Option Pt)->(G1:List Row)->(KP:AV->aG->Option R)->Wy pp pq->Option R
 |none,G1,KP,p=>NJ st pp G1 KP p
 |some q,G1,KP,p=>afF p (NJ st pp G1 KP) (NJ st q G1 KP)
def aeA{R:Type}(fr:Fr)(st:aG)(d:zb)(args:List AV)(e:bR)(KP:Bool->AV->aG->Option R)(K:cT R):Option (Option R):=
 match Jt (cJ (eV st.G fr.H e.ps args) st.G) fr.H e.ps args [] [] [] with
  |some mr=>aC (EW (mr.S.map λx=>dQ (cJ (eV st.G fr.H e.ps args) st.G) fr.H x.2)&&SJ (cJ (eV st.G fr.H e.ps args) st.G).length (BR (cJ (eV st.G fr.H e.ps args) st.G) fr.H mr.S)&&R9 st.c mr.B&&AV.cr st.c args&&Uv st.c mr.X&&tf (yy mr.B e.ps args mr.X) e.os) (match cQ (oN e.ps) mr.D with
   |some s=>some (nk (e.m s) (alX st e.pp e.pq (aC e.lp (dL (cJ (eV st.G fr.H e.ps args) st.G)) (ll (sV (BR (cJ (eV st.G fr.H e.ps args) st.G) fr.H mr.S) 0 (cJ (eV st.G fr.H e.ps args) st.G)))) (KP e.lp))
     (λx=>auf e.nv e.r e.os x (P2 fr st none d args e.oe mr (ll (sV (BR (cJ (eV st.G fr.H e.ps args) st.G) fr.H mr.S) 0 (cJ (eV st.G fr.H e.ps args) st.G))) K)))
   |none=>none) none
  |none=>none
def NG{R:Type}(fr:Fr)(st:aG)(d:zb)(f:FuncId)(args:List AV)(KP:Bool->AV->aG->Option R)(K:cT R):List bR->Option (Option R)
 |[]=>none
 |e::tp=>aC (Nat.beq e.f f) (match aeA fr st d args e KP K with
   |some r=>some r
   |none=>NG fr st d f args KP K tp) (NG fr st d f args KP K tp)
def ajv{R:Type}(tp:List bR)(T:aE)(fr:Fr)(st:aG)(o:Oper)(KP:Bool->AV->aG->Option R)(K:cT R):Option (Option R):=match o.guard with
 |some _=>none
 |none=>(match o.op with
  | .panic x=>(match bE T st.E fr.F none x with
   |some (.ifc t v)=>some (KP false (.ifc t v) st)
   |_=>none)
  | .call c=>(match c.callee with
   | .value fo=>(match bE T st.E fr.F none fo with
    |some (.fn f a b)=>(match rW T st.E fr.F none c.args.toList with
     |some vs=>aC (oG o.dst T&&Nq fr.n o.dst&&st.low fr) (NG fr st o.dst f (a++vs++b) KP K tp) none
     |none=>none)
    |_=>none)
   |_=>none)
  |_=>none)
section
variable {P : Program} {R : Type} {r : R} {K : cT R} {KP : Bool -> AV -> aG -> Option R} {b : Bool} {T : aE} {fr : Fr} {st : aG} {d : zb} {ρ : aB} {Φ Γg : Ctx} {w : World}
def afP(r:R)(KP:Bool->AV->aG->Option R)(T:aE)(fr:Fr)(st:aG)(ρ:aB)(Φ:Ctx)(v:Value)(w':World):Prop:=
 ∃(b:Bool) (ρ':aB) (st':aG) (av:AV),KP b av st'=some r/\aZ st.c ρ ρ'/\st.c<=st'.c/\st'.E=st.E/\av.val ρ'=v/\Sat (ab ρ' T st'.G++(ab ρ' T (JZ b fr.H)++Φ)) w'/\az ρ' T st.E fr.F=az ρ T st.E fr.F
theorem Ma{pp:Pt}{f:List Row}{p:fy (nC pp)}{v:Value}{w':World}{e:List Nm}{m:fF}{w:kq}
  (hl:st.low fr=true) (o:bJ st.c f=true) (u:Sem pp v none none [] (ic _ p) m w e)
  (z:Sat (dP m++(ab ρ T f++(ab ρ T (JZ b fr.H)++Φ))) w') (h:NJ st pp f (KP b) p=some r):afP r KP T fr st ρ Φ v w':=by
 have n:=vK _ _ _ _ _ _ _ _ _ u;have d:=aaR (ρ:=ρ) (c:=st.c) (N:=[]) (B:=[]) (N2:=e) .nil n rfl;have a:aZ st.c ρ (λi=>aC (Nat.blt i st.c) (ρ i) ((e[i-st.c]?).getD dB)):=λj D=>by
  have:Nat.blt j st.c=true:=by simpa using D
  simp only [this]
 generalize y:(λi=>aC (Nat.blt i st.c) (ρ i) ((e[i-st.c]?).getD dB))=ρ' at d a;obtain ⟨l,t,s,q,g⟩:=Dg (T:=T) pp v none none [] (ic _ p) m w e u (H7 _) d (by simp) [];rw [l5,qa] at l t s q g;unfold NJ at h;generalize fill (ux [] st.c) pp none none 0 (ic _ p)=L at l t s q g h;obtain ⟨x,G,k,J,I⟩:=L;simp only at l t s q g;dsimp only at h;have F:=bm (T:=T) a o;have E:=bm (T:=T) a (arM (b:=b) (aG.cS.1 hl).2.2.2);refine ⟨b,ρ',_,x,h,a,qI _ _,rfl,l,?_,oh hl a⟩;show Sat (ab ρ' T (G.map (·.2)++f)++(ab ρ' T (JZ b fr.H)++Φ)) w';rw [bu,F,E,bb];exact Sat.leL (A:=[]) (B:=dP m) (C:=ab ρ T f++(ab ρ T (JZ b fr.H)++Φ)) (by simpa using z) g.rw
theorem Xq{pp:Pt}:{pq:Option Pt}->{a:List Row}->{p:Wy pp pq}->{v:Value}->{w':World}->{f:List Nm}->{d:fF}->{e:kq}->
  st.low fr=true->bJ st.c a=true->aoc pp pq p v d e f->Sat (dP d++(ab ρ T a++(ab ρ T (JZ b fr.H)++Φ))) w'->alX st pp pq a (KP b) p=some r->afP r KP T fr st ρ Φ v w'
 |none,_,_,_,_,_,_,_,hl,hG,h1,hs,h=>Ma hl hG h1 hs h
 |some _,_,.inl _,_,_,_,_,_,hl,hG,h1,hs,h=>Ma hl hG h1 hs h
 |some _,_,.inr _,_,_,_,_,_,hl,hG,h1,hs,h=>Ma hl hG h1 hs h
theorem ank{e:bR}{args:List AV}(hl:st.low fr=true)(n:Sat (ab ρ T st.G++(ab ρ T fr.H++Φ)) w)(he:e.Ok P Γg)(l:∀it∈Γg,it∈Φ)(h:aeA fr st d args e KP K=some (some r)):
  mw P e.f (AV.ao ρ args) w (bc r K T fr st none d ρ Φ) (λc w'=>∃v,c=iY v/\afP r KP T fr st ρ Φ v w'):=by
 have D:=s9 (ids:=eV st.G fr.H e.ps args) (aG.cS.1 hl).2.2.1;replace n:=ka (ids:=eV st.G fr.H e.ps args) n;unfold aeA at h;generalize cJ (eV st.G fr.H e.ps args) st.G=a at D n h;have hd:=anv n (H:=a++fr.H) (λr hr=>List.mem_append.2 ((List.mem_append.1 hr).imp (λh=>List.mem_map_of_mem h) (λh=>qR _ (List.mem_map_of_mem h))));replace hd:Sat (ab ρ T a++(ab ρ T fr.H++(ab ρ T (dL (a++fr.H))++Φ))) w:=by exact Sat.swp (P:=ab ρ T a) (Sat.swp (P:=[]) hd)
 have M:=l;replace l:∀it∈Γg,it∈ab ρ T (dL (a++fr.H))++Φ:=λit bQ=>gj _ (M it bQ);generalize J:ab ρ T (dL (a++fr.H))++Φ=g at hd l;have hdr:∀{A:Ctx} {w':World},Sat (A++g) w'->Sat (A++Φ) w':=λ{A w'} h=>by rw [<-J] at h;exact Sat.NI h
 replace n:=hd;split at h
 .rename_i m hm;obtain ⟨h1,Y⟩:=aK h;simp only [ar] at h1;obtain ⟨⟨⟨⟨⟨h3,h4⟩,h5⟩,h6⟩,h7⟩,h9⟩:=h1;split at Y
  .rename_i s O;simp only [cC] at Y;obtain ⟨N,I,s1,n1,a1⟩:=A5 n e.ps args [] [] [] m [] hm (.inl rfl) .nil;rw [<-C9 _ O] at s1;obtain ⟨p1,p2⟩:=P8 n a1;have o:=Ao h3;obtain ⟨q1,_⟩:=Ah n p1 o;have F:∀(L:xb) (G:List Row) (k:Nat),bJ st.c G=true->bJ st.c (ll (sV L k G))=true:=λL G=>by
    induction G with
    |nil=>intro k _;rfl
    |cons r G ih=>
     intro k V;simp only [bJ,ar] at V;show bJ st.c (ll ((aC (ld k L) .gone r)::sV L (k+1) G))=true;cases ld k L
     .cases r <;> first|exact ih (k+1) V.2|(simp only [ll,bJ,ar];exact ⟨V.1,ih (k+1) V.2⟩)
     .exact ih (k+1) V.2
   have t:=F (BR a fr.H m.S) a 0 D;have Q:∀it∈Γg,it∈jD (m.S.map λx=>dQ a fr.H x.2) (ab ρ T a++(ab ρ T fr.H++g)):=λit bQ=>by
    obtain ⟨k,hk⟩:=List.mem_iff_getElem?.1 (l it bQ);have hk2:(ab ρ T a++(ab ρ T fr.H++g))[a.length+fr.H.length+k]? =some it:=by
     rw [cy (by simp [ab];omega),cy (by simp [ab];omega)];have:a.length+fr.H.length+k-(ab ρ T a).length-(ab ρ T fr.H).length=k:=by simp [ab];omega
     rw [this];exact hk
    refine qf (i:=a.length+fr.H.length+k) ?_;rw [Da,hk2];intro R;obtain ⟨x,_,hx⟩:=List.mem_map.1 R;have:=VB hx;omega
   have u:=λrr hr=>he.2 s rr hr (AV.ao ρ args) N I (eB ρ m.X) _ w (by simpa only [AV.ao] using s1) q1 Q;have j:∀{A:Ctx} {w':World},Sat (A++(fK I++jD (m.S.map λx=>dQ a fr.H x.2) (ab ρ T a++(ab ρ T fr.H++g)))) w'->Sat (A++(ab ρ T (ll (sV (BR a fr.H m.S) 0 a))++(ab ρ T fr.H++Φ))) w':=λ{A w'} c4=>by have W:=JF p2 o c4;rw [VY a1,E5 h4] at W;have c6:=F9 W;rw [<-bb (ab ρ T (ll (sV (BR a fr.H m.S) 0 a))),<-bb A] at c6;have c7:=hdr c6;rwa [bb A,bb] at c7
   rcases ajD Y with ⟨p,hq,hk⟩|⟨q,hq,hk⟩
   .refine (u _ hq).mono (λv w' y=>?_) (λc w' y=>?_)
    .obtain ⟨x',q',z,_⟩:=y;cases z
    .obtain ⟨p',C,v,N1,I1,X1,c1,Z,E⟩:=y;cases C;refine ⟨v,c1,?_⟩;cases U:e.lp with
     |false=>rw [U] at E hk;exact Xq (b:=false) hl t Z (j E) hk
     |true=>
      rw [U] at E hk;obtain ⟨A',e1,_⟩:=asw (L:=m.S.map λx=>dQ a fr.H x.2) (A:=ab ρ T a++ab ρ T fr.H) (B:=g) (λi hi=>by obtain ⟨x,_,hx⟩:=List.mem_map.1 hi;have:=VB hx;simp only [ab,du,List.length_map];omega)
      rw [bb] at e1;rw [e1] at E;have W:Sat (dP I1++g) w':=Sat.NI (A:=A') E;rw [<-J,O9,bu,bb] at W;exact Xq (b:=true) hl (Gr D) Z W hk
   .refine (u _ hq).mono (λv w' y=>?_) (λc w' y=>?_)
    .obtain ⟨x',q',z,hi,N1,N2,D1,D2,I1,I2,X1,X2,c1,Z,E,c4⟩:=y;cases z;exact Oc (e:=e.oe) hl t n1 h5 h6 h7 h9 c1 Z E aE.get_none (j c4) (.inl rfl) (asl hi hk)
    .obtain ⟨p',C,_⟩:=y;cases C
  .cases Y
 .cases h
theorem ON{f:FuncId}{args:List AV}(hl:st.low fr=true)(g:Sat (ab ρ T st.G++(ab ρ T fr.H++Φ)) w)(a:∀it∈Γg,it∈Φ):∀{tp:List bR},(∀e∈tp,e.Ok P Γg)->NG fr st d f args KP K tp=some (some r)->
  Enters P f/\mw P f (AV.ao ρ args) w (bc r K T fr st none d ρ Φ) (λc w'=>∃v,c=iY v/\afP r KP T fr st ρ Φ v w')
 |[],_,h=>by cases h
 |e::tp,htp,h=>by
  unfold NG at h;rcases eb h with ⟨k,b⟩|⟨_,b⟩
  .split at b
   next l i=>cases b;have:=aS k;subst this;exact ⟨(htp e (cz ..)).1,ank hl g (htp e (cz ..)) a i⟩
   .exact ON hl g a (λe j=>htp e (cb _ j)) b
  .exact ON hl g a (λe j=>htp e (cb _ j)) b
variable {σ : za} {Q : bD} {D : x3} {ops rest : zf} {tp : List bR}
theorem aqG{o:Oper}(h1:fJ T st.E fr.F)(V:Sat (ab ρ T st.G++(ab ρ T fr.H++Φ)) w)(M:∀it∈Γg,it∈Φ)(R:∀e∈tp,e.Ok P Γg)
  (h:ajv tp T fr st o KP K=some (some r))
  (p:∀st' ρ' w',fJ T st'.E fr.F->aZ st.c ρ ρ'->st.c<=st'.c->K st'=some r->ab ρ' T fr.H=ab ρ T fr.H->Sat (ab ρ' T st'.G++(ab ρ' T fr.H++Φ)) w'->WL P σ ops.toArray Q fr.n D rest (az ρ' T st'.E fr.F) w')
  (g:∀b v st' ρ' w',aZ st.c ρ ρ'->st.c<=st'.c->KP b v st'=some r->st'.E=st.E->az ρ' T st.E fr.F=az ρ T st.E fr.F->Sat (ab ρ' T st'.G++(ab ρ' T (JZ b fr.H)++Φ)) w'->At Q (.panic (iY (v.val ρ'))) fr.n D (az ρ' T st'.E fr.F) w'):
  WL P σ ops.toArray Q fr.n D (o::rest) (az ρ T st.E fr.F) w:=by
 obtain ⟨dst,op,ty,pos,af,gd⟩:=o;unfold ajv at h;split at h
 .cases h
 rename_i s;simp only at s;subst s;split at h
 .rename_i x j;simp only at j;subst j;split at h
  next t v hx=>have hk:=qe h;have m:=aW (ρ:=ρ) hx;rw [aE.get_none] at m;simp only [AV.val] at m;refine aqw m ?_;have:=g false (.ifc t v) st ρ w .refl (ch _) hk rfl rfl V;simp only [AV.val] at this;exact this
  .cases h
 .rename_i c j;simp only at j;subst j;obtain ⟨A,xs,tys⟩:=c;obtain ⟨xs⟩:=xs;simp only at h;split at h
  .rename_i fo;split at h
   .rename_i f a b S;split at h
    .rename_i vs N;obtain ⟨X,h3⟩:=aK h;simp only [ar] at X;obtain ⟨⟨U,hd⟩,hl⟩:=X;obtain ⟨u,W⟩:=ON hl V M R h3;have d:=aW (ρ:=ρ) S;have i:=gW (ρ:=ρ) N;rw [aE.get_none] at d i;simp only [AV.val] at d;have k:AV.ao ρ (a++vs++b)=AV.ao ρ a++AV.ao ρ vs++AV.ao ρ b:=by rw [dJ,dJ]
     have y:∀v w',bc r K T fr st none dst ρ Φ v w'->WL P σ ops.toArray Q fr.n D rest (rP dst true v (az ρ T st.E fr.F)) w':=λv w' O=>by obtain ⟨ρ',st',av,L,J,I,q,C,B,z,Z⟩:=O;have:=p st' ρ' w' (by rw [q];exact h1.out U none av) J I L z Z;rw [q,vW,C,B,aE.get_none] at this;exact this
     have l:∀c w',(∃v,c=iY v/\afP r KP T fr st ρ Φ v w')->At Q (.panic c) fr.n D (az ρ T st.E fr.F) w':=λc w' O=>by obtain ⟨v,rfl,Y,ρ',st',av,L,J,I,q,C,B,z⟩:=O;have:=g Y av st' ρ' w' J I L q z B;rw [C,q,z] at this;exact this
     cases dst with
     |none=>exact amc u d i k W y l
     |some dd=>exact agD u d i k hd W y l
    .cases h
   .cases h
  .cases h
 .cases h
end
theorem Sat.apr{A B:Ctx}{x:Item}{w:World}(h:Sat (A++x::B) w):Sat (x::(A++B)) w:=by
 refine h.Cz (λj k=>(j=0/\k=A.length)\/(0<j/\j<=A.length/\k+1=j)\/(A.length<j/\k=j)) (λj jt a=>?_) (λj k q b d c=>by omega);cases j with
 |zero=>
  simp only [gx,cC] at a;subst a;exact .inr ⟨A.length,x,.inl ⟨rfl,rfl⟩,by simp,ck.refl⟩
 |succ j=>
  simp only [cH] at a;by_cases e:j<A.length
  .rw [cG e] at a;exact .inr ⟨j,jt,.inr (.inl ⟨by omega,by omega,rfl⟩),by rw [cG e];exact a,ck.refl⟩
  .rw [cy (by omega)] at a;refine .inr ⟨j+1,jt,.inr (.inr ⟨by omega,rfl⟩),?_,ck.refl⟩;rw [cy (by omega)];have:j+1-A.length=(j-A.length)+1:=by omega
   rw [this,cH];exact a
theorem Sat.auu{Γ:Ctx}{it new:Item}{w:World}(h:Sat (it::Γ) w)(a:∀b∈new.own,b∈it.own)(c:∀M',Mv (Ctx.M (it::Γ)) w M' w->new.P M' w):Sat (new::Γ) w:=by have:=h.ra (i:=0) (it:=it) (new:=new) (w':=w) rfl ⟨rfl,rfl,rfl,ch _,λ_ _ _=>rfl⟩ (λb hb=>⟨h.lt (Ctx.DZ.2 (.inl (a b hb))),.inl (a b hb)⟩) (λM' m _=>c M' m);simpa using this
def Lz(X:Cx)(T:aE)(fr:Fr)(st:aG)(o:Oper):Option (TypeId×List AV×List AV):=match o.op,o.guard with
 | .alloc t,none=>(match adp X.P t with
  |some cs=>some (t,[],cs)
  |none=>none)
 | .buildSlice t len ps,none=>(match fR X.P t with
  |some e=>(match lJ X.P e with
   |some z=>(match rW T st.E fr.F none (ps.toList.map (·.2)) with
    |some vs=>(match Cy (λi=>some (i*z.1,z.1)) ((ps.toList.map (·.1)).zip vs) (aaB len (z.2.2.cells.toList.map kr)) with
     |some cs=>aC ( Nat.beq z.2.2.cells.size z.1&&Nat.ble (len*z.1) 16777216&&(Nat.blt 0 (len*z.1)||Nat.beq len 0&&ps.toList.isEmpty) ) (some (e,vs,cs)) none
     |none=>none)
    |none=>none)
   |none=>none)
  |none=>none)
 |_,_=>none
theorem aeP{X:Cx}{T:aE}{fr:Fr}{st:aG}{ρ:aB}{o:Oper}{e:TypeId}{vs cs:List AV}(h:Lz X T fr st o=some (e,vs,cs))(w:World):
  na X.P (az ρ T st.E fr.F) o w (Hn o w.heap.size) (w.alloc (.cells (AV.ao ρ cs).toArray e)):=by
 obtain ⟨dst,op,ty,pos,af,gd⟩:=o;unfold Lz at h;simp only at h;split at h
 .rename_i t;split at h
  .rename_i p a;cases h;unfold adp at a;split at a
   next z k=>cases a;obtain ⟨n,b,z⟩:=z;have:=Kp (P:=X.P) (E:=az ρ T st.E fr.F) (w:=w) (dst:=dst) (ty:=ty) (pos:=pos) (af:=af) (zs:=z.cells.toList) (cU k) (by simp);rw [mH];exact this
   .cases a
  .cases h
 .rename_i t len ps;obtain ⟨ps⟩:=ps;split at h
  .rename_i e' q;split at h
   .rename_i z k;obtain ⟨n,bytes,z⟩:=z;split at h
    .rename_i s m;split at h
     .rename_i p a;obtain ⟨r,v⟩:=aK h;cases v;simp only [ar,dk] at r;obtain ⟨⟨A,y⟩,g⟩:=r;have f:z.cells.size=n:=aS A;have d:=gW (ρ:=ρ) m;rw [aE.get_none] at d;have c:=yX (ρ:=ρ) a;rw [Eu,Va,mH] at c;rcases g with g|⟨g,u⟩
      .have i:0<n:=by
        have:0<len*n:=by simpa using g
        exact s7 (λe=>by simp [e] at this)
       have j:sn n len z.cells.toList ((ps.map (·.1)).zip (AV.ao ρ vs))=some (AV.ao ρ cs).toArray:=by unfold sn;have l:=GI z.cells.toList (by simp [f];exact i) len;simp only [de,f] at l;simp only [de,f];rw [<-c,<-l]
       exact p7 (P:=X.P) (w:=w) (dst:=dst) (ty:=ty) (pos:=pos) (af:=af) (cm q) (cU k) (zs:=z.cells.toList) (by simp) g y d j
      .have x:len=0:=aS g;subst x;have l:ps=[]:=by simpa using u
       subst l;have:cs=[]:=by simp only [List.map_nil,List.zip_nil_left,aaB,List.replicate_zero,List.flatten_nil,Cy,cC] at a;exact a.symm
       subst this;exact uW (P:=X.P) (E:=az ρ T st.E fr.F) (w:=w) (dst:=dst) (ty:=ty) (pos:=pos) (af:=af) (cm q) (cU k)
     .cases h
    .cases h
   .cases h
  .cases h
 .cases h
def aom{R:Type}(X:Cx)(T:aE)(fr:Fr)(st:aG)(o:Oper)(K:cT R):Option R:=match Lz X T fr st o,o.dst with
 |some p,some d=>(match o.op with
  | .buildSlice _ len _=>(match CQ X.tys p.1 with
   |some u=>(match rdL (cJ (AV.fq (.agg p.2.1)++(p.2.1.map AV.fq).flatten) st.G) fr.H u len p.2.2 with
    |some xs=>aC (st.low fr&&Nat.ble len 9223372036854775807) (K { st with c:=st.c+1,E:=cN (some d) none (.sl st.c) st.E,G:= .own st.c u p.1 xs st.c::cJ (AV.fq (.agg p.2.1)++(p.2.1.map AV.fq).flatten) st.G }) none
    |none=>none)
   |none=>none)
  |_=>aC (st.low fr&&AV.cr st.c p.2.2) (aj8 st d p.1 p.2.2 K) none)
 |_,_=>none
section
variable {X : Cx} {R : Type} {r : R} {K : cT R} {T : aE} {fr : Fr} {st : aG} {ρ : aB} {Φ : Ctx} {w : World}
theorem arL{o:Oper}{b:Nat}{e':TypeId}{k:yp}(g:Sat (ab ρ T st.G++(ab ρ T fr.H++(box b e' k::Φ))) w)
  (J:∀e vs cs,Lz X T fr st o=some (e,vs,cs)->e'=e/\k=AV.ao ρ cs) (h:aom X T fr st o K=some r):
  bc r K T fr st none o.dst ρ Φ (Hn o b) w:=by
 obtain ⟨dst,op,ty,pos,af,gd⟩:=o;unfold aom at h;simp only at h;split at h
 .rename_i p d hp;obtain ⟨e,vs,cs⟩:=p;obtain ⟨rfl,rfl⟩:=J _ _ _ hp;split at h
  .rename_i t len ps;split at h
   .rename_i u N;split at h
    .rename_i xs n;obtain ⟨A,z⟩:=aK h;simp only [ar] at A;obtain ⟨hl,L⟩:=A;have s:=s9 (ids:=AV.fq (.agg vs)++(vs.map AV.fq).flatten) (aG.cS.1 hl).2.2.1;replace g:=ka (ids:=AV.fq (.agg vs)++(vs.map AV.fq).flatten) g;simp only at z;generalize cJ (AV.fq (.agg vs)++(vs.map AV.fq).flatten) st.G=G at z s g n;obtain ⟨I,F⟩:=YM (ρ:=ρ) (T:=T) g _ _ _ n;have f:Sat ((ab ρ T G++ab ρ T fr.H)++box b e' (AV.ao ρ cs)::Φ) w:=by rw [bb];exact g
     have a:=f.apr;have mv:Mv (Ctx.M (ab ρ T G++(ab ρ T fr.H++(box b e' (AV.ao ρ cs)::Φ)))) w (Ctx.M (box b e' (AV.ao ρ cs)::((ab ρ T G++ab ρ T fr.H)++Φ))) w:=Mv.weaken w λc B=>by
      obtain ⟨it,hi,hb⟩:=B;refine ⟨it,?_,hb⟩;simp only [qi,List.mem_append] at hi ⊢;rcases hi with h|(h|h)|h
      .exact .inr (.inr (.inl h))
      .exact .inl h
      .exact .inr (.inl h)
      .exact .inr (.inr (.inr h))
     refine bc.new (ρ':=ρ.set st.c { dB with v:=(some ⟨b,0,none⟩,len,len),y:=⟨.l u,xs⟩ }) (av:= .sl st.c) hl z aB.bg (jm _) rfl (by simp only [AV.val,aB.bM];rfl) ?_;show Sat (ab _ T (_::G)++_) w;have e:=bm (T:=T) (aB.bg (ρ:=ρ) (j:=st.c) (x:={ dB with v:=(some ⟨b,0,none⟩,len,len),y:=⟨.l u,xs⟩ })) s;rw [ab,et];rw [ab] at e;rw [e];have hb:fM w b e' (AV.ao ρ cs):=a.at_ (i:=0) rfl;have q:Sat ((Row.own st.c u e' xs st.c).item (ρ.set st.c { dB with v:=(some ⟨b,0,none⟩,len,len),y:=⟨.l u,xs⟩ }) T::((ab ρ T G++ab ρ T fr.H)++Φ)) w:=by
      refine a.auu (λc B=>?_) (λM' m=>?_)
      .simp only [Row.item,aB.bM] at B;exact Df B
      .simp only [Row.item,aB.bM];exact ⟨(bU.of (iI.fresh hb I L (F.mv (mv.trans m)))).Eg,trivial⟩
     rw [bb] at q;exact q
    .cases h
   .cases h
  .rename_i C;obtain ⟨A,z⟩:=aK h;simp only [ar] at A;obtain ⟨hl,E⟩:=A;have f:Sat ((ab ρ T st.G++ab ρ T fr.H)++box b e' (AV.ao ρ cs)::Φ) w:=by rw [bb];exact g
   have a:=f.apr;rw [bb] at a;have ev:Hn ⟨some d,op,ty,pos,af,gd⟩ b= .pointer (some ⟨b,0,none⟩):=by
    unfold Hn;split
    next D=>exact (C _ _ _ D).elim
    .rfl
   rw [ev];refine bc.new (ρ':=ρ.set st.c { dB with b:=b }) (av:= .ptr st.c 0) hl z aB.bg (jm _) rfl (by simp only [AV.val,aB.bM]) ?_;show Sat (ab _ T (_::st.G)++_) w;have e:=bm (T:=T) (aB.bg (ρ:=ρ) (j:=st.c) (x:={ dB with b:=b })) (aG.cS.1 hl).2.2.1;rw [ab,et];rw [ab] at e;rw [e];simp only [Row.item,aB.bM];rw [AV.cn aB.bg _ E];exact a
 .cases h
end
variable {o : Oper}
abbrev ajx{R:Type}(fr:Fr)(KP:AV->aG->Option R)(T:aE)(v:AV)(st:aG):Option R:=aC (Ee T fr st) (KP v (AA T st)) none
def BK{R:Type}(X:Cx)(tb:List aq)(tp:List bR)(KP:Bool->AV->aG->Option R)(ops:zf)(fr:Fr):zf->aE->aG->cT R->Option R
 |[],T,st,K=>aC (Ee T fr st) (K (AA T st)) none
 |o::l,T,st,K=>match ajv tp T fr st o (λb=>ajx fr (KP b) T) (λst=>BK X tb tp KP ops fr l T st K) with
  |some q=>q
  |none=>stepG ops T fr st o λT g=>opD X tb T fr st g o λst=>BK X tb tp KP ops fr l T st K
section
variable {R : Type} {X : Cx} {tb : List aq} {tp : List bR} {KP : Bool -> AV -> aG -> Option R} {b : Bool} {σ : za} {Q : bD} {D : x3} {ops : zf} {r : R} {fr : Fr} {Φ : Ctx} {K : cT R}
theorem aij{T:aE}{v:AV}{st:aG}{ρ:aB}{w:World}(d:FT T fr)(h:ajx fr (KP b) T v st=some r)(j:Sat (ab ρ T st.G++(ab ρ T (JZ b fr.H)++Φ)) w):
  ∃st',KP b v st'=some r/\st'.c=st.c/\jX (az ρ [] st'.E fr.F) (az ρ T st.E fr.F)/\Sat (ab ρ [] st'.G++(ab ρ [] (JZ b fr.H)++Φ)) w:=by
 unfold ajx at h;obtain ⟨e,l⟩:=aK h;have k:Ee T ⟨fr.F,JZ b fr.H,fr.n⟩ st=true:=by unfold Ee at e ⊢;exact e
 obtain ⟨i,g,f⟩:=Ke (fr:=⟨fr.F,JZ b fr.H,fr.n⟩) k ⟨d.1,λr a=>d.2 r (by
  cases b
  .exact a
  .exact (rC a).1)⟩ j
 exact ⟨_,l,i,g,f⟩
theorem Kc{rest:zf}(g:∀it∈X.Γ,it∈Φ)(m:∀e∈tb,e.Ok X.P X.Γ)(k:∀e∈tp,e.Ok X.P X.Γ):∀{l:zf} {T:aE} {st:aG} {ρ:aB} {w:World},fJ T st.E fr.F->o6 ops fr.n T->FT T fr->Sat (ab ρ T st.G++(ab ρ T fr.H++Φ)) w->
  BK X tb tp KP ops fr l T st K=some r->
  (∀st' ρ' w',aZ st.c ρ ρ'->st.c<=st'.c->K st'=some r->Sat (ab ρ' [] st'.G++(ab ρ' [] fr.H++Φ)) w'->WL X.P σ ops.toArray Q fr.n D rest (az ρ' [] st'.E fr.F) w')->
  (∀b v st' ρ' w',aZ st.c ρ ρ'->st.c<=st'.c->KP b v st'=some r->Sat (ab ρ' [] st'.G++(ab ρ' [] (JZ b fr.H)++Φ)) w'->At Q (.panic (iY (v.val ρ'))) fr.n D (az ρ' [] st'.E fr.F) w')->
  WL X.P σ ops.toArray Q fr.n D (l++rest) (az ρ T st.E fr.F) w
 |[],T,st,ρ,w,h1,h2,p,hs,h,next,pnext=>by
  unfold BK at h;obtain ⟨U,S⟩:=aK h;obtain ⟨C,M,B⟩:=Ke U p hs;exact λa p hd=>next _ ρ w .refl (by rw [C];exact ch _) S B a (p.nB M) hd
 |o::l,T,st,ρ,w,h1,h2,p,hs,h,next,pnext=>by
  unfold BK at h;split at h
  .rename_i q R;subst h;refine aqG h1 hs g k R (λst' ρ' w' A y i J Y I=>?_) (λz v st' ρ' w' A N L W V y=>?_)
   .exact Kc g m k A h2 p I J (λd f j x u t s=>next d f j (y.trans x i) (cK i u) t s) (λz v d f j x u t s=>pnext z v d f j (y.trans x i) (cK i u) t s)
   .obtain ⟨d,C,M,O,B⟩:=aij p L y;exact (pnext z v d ρ' w' A (by omega) C B).nB _ O
  .exact ad1 (K:=λT st=>BK X tb tp KP ops fr l T st K) h1 h2 rfl (λ_ h=>h) p hs g m h (λT' st' ρ' w' A N L y i J Y I=>
    Kc g m k A N L I J (λd f j x u t s=>next d f j (y.trans x i) (cK i u) t s) (λz v d f j x u t s=>pnext z v d f j (y.trans x i) (cK i u) t s))
theorem aaA(f:∀it∈X.Γ,it∈Φ)(i:∀e∈tb,e.Ok X.P X.Γ)(g:∀e∈tp,e.Ok X.P X.Γ){l:zf}{T:aE}{st:aG}{ρ:aB}{w:World}(o:fJ T st.E fr.F)(m:o6 ops fr.n T)(k:FT T fr)(j:Sat (ab ρ T st.G++(ab ρ T fr.H++Φ)) w)
  (h:BK X tb tp KP ops fr l T st K=some r)
  (d:∀st' ρ' w',aZ st.c ρ ρ'->st.c<=st'.c->K st'=some r->Sat (ab ρ' [] st'.G++(ab ρ' [] fr.H++Φ)) w'->At Q .normal fr.n D (az ρ' [] st'.E fr.F) w')
  (a:∀b v st' ρ' w',aZ st.c ρ ρ'->st.c<=st'.c->KP b v st'=some r->Sat (ab ρ' [] st'.G++(ab ρ' [] (JZ b fr.H)++Φ)) w'->At Q (.panic (iY (v.val ρ'))) fr.n D (az ρ' [] st'.E fr.F) w'):
  WL X.P σ ops.toArray Q fr.n D l (az ρ T st.E fr.F) w:=by
 have:=Kc (σ:=σ) (Q:=Q) (D:=D) (rest:=[]) f i g o m k j h (λst' ρ' w' t s q p=>ct (d st' ρ' w' t s q p)) a;rwa [l5] at this
end
def mf(c:Nat):List AV->List AV×List Row×Nat
 |[]=>([],[],c)
 |v::vs=>match v with
  | .nv u=>match mf c vs with
   |(cs,R,c)=>(.nv u::cs,R,c)
  |v=>match mf (c+1) vs with
   |(cs,R,c')=>(.nv c::cs,.eq c v::R,c')
structure aqF(c:Nat)(vs:List AV)(ρ ρ':aB)(x:List AV×List Row×Nat):Prop where
 ag:aZ c ρ ρ'
 le:c<=x.2.2
 eq:AV.ao ρ' x.1=AV.ao ρ vs
 lw:AV.cr x.2.2 x.1=true
 rl:bJ x.2.2 x.2.1=true
 rp:∀r∈x.2.1,(r.item ρ' []).cW=true/\∀M w,(r.item ρ' []).P M w
 rg:∀r∈x.2.1,r.gd=none
theorem A6{c d:Nat}(a:c<=d):{G:List Row}->bJ c G=true->bJ d G=true
 |[],_=>rfl
 |r::G,h=>by simp only [bJ,ar] at h ⊢;exact ⟨Row.gA a h.1,A6 a h.2⟩
theorem ur{c:Nat}:{G H:List Row}->bJ c G=true->bJ c H=true->bJ c (G++H)=true
 |[],_,_,h=>h
 |r::G,H,h,k=>by simp only [mj,bJ,ar] at h ⊢;exact ⟨h.1,ur h.2 k⟩
theorem KN:{vs:List AV}->{c:Nat}->{ρ:aB}->AV.cr c vs=true->∃ρ',aqF c vs ρ ρ' (mf c vs)
 |[],c,ρ,h=>⟨ρ,.refl,ch _,rfl,rfl,rfl,(λ_ h=>by cases h),λ_ h=>by cases h⟩
 |v::vs,c,ρ,h=>by
  simp only [AV.cr,ar] at h;have a:(∀u,v≠ .nv u)->mf c (v::vs)=(match mf (c+1) vs with|(cs,R,f)=>(.nv c::cs,.eq c v::R,f))->∃ρ',aqF c (v::vs) ρ ρ' (mf c (v::vs)):=λ_ e=>by
   have g:aZ c ρ (ρ.set c { dB with x:=v.val ρ }):=aB.bg;obtain ⟨ρ',l⟩:=KN (c:=c+1) (ρ:=ρ.set c { dB with x:=v.val ρ }) (AV.kT (jm c) _ h.2);rw [e];generalize mf (c+1) vs=L at l;obtain ⟨cs,R,f⟩:=L;have d:aZ c ρ ρ':=g.trans l.ag (jm _);have hx:(ρ' c).x=v.val ρ:=by rw [l.ag _ (mV _),aB.bM]
   have i:c+1<=f:=l.le;refine ⟨ρ',d,cK (jm _) l.le,?_,?_,?_,?_,?_⟩
   .simp only [AV.ao,AV.val,hx];rw [l.eq,AV.cn g _ h.2]
   .simp only [AV.cr,AV.low,ar,hW];exact ⟨by omega,l.lw⟩
   .simp only [bJ,Row.low,ar,hW];exact ⟨⟨by omega,AV.gA (by omega) _ h.1⟩,l.rl⟩
   .intro r b;rcases List.mem_cons.1 b with rfl|b
    .exact ⟨rfl,λM w=>by show (ρ' c).x=v.val ρ';rw [hx,AV.mA d _ h.1]⟩
    .exact l.rp r b
   .intro r b;rcases List.mem_cons.1 b with rfl|b
    .rfl
    .exact l.rg r b
  cases v with
  |nv u=>
   obtain ⟨ρ',l⟩:=KN (c:=c) (ρ:=ρ) h.2;unfold mf;dsimp only;generalize mf c vs=L at l;obtain ⟨cs,R,f⟩:=L;refine ⟨ρ',l.ag,l.le,?_,?_,l.rl,l.rp,l.rg⟩
   .simp only [AV.ao];rw [l.eq,AV.mA l.ag _ h.1]
   .simp only [AV.cr,ar];exact ⟨AV.gA l.le _ h.1,l.lw⟩
  |_=>exact a (λu h=>by cases h) rfl
def am6{R:Type}(X:Cx)(T:aE)(fr:Fr)(st:aG)(g:GK)(op:Op)(dst:zb)(K:cT R):Option R:=match op,dst with
 | .indexAddr t x y,some d=>(match fR X.P t with
  |some _=>ajq X T fr st g d t x y K
  |none=>(match bE T st.E fr.F g x with
   |some (.gp _)=>adf X T fr st g d t x y K
   |_=>gone g (ald X T fr st d t x y K)))
 | .slice t x lo hi mx,some d=>agH X T fr st g d t x lo hi mx K
 | .call ⟨.builtin .unsafeSliceData,⟨[x]⟩,_⟩,some d=>gone g (adn T fr st d x K)
 | .call ⟨.builtin .len,⟨[x]⟩,⟨[t]⟩⟩,some d=>akA X T fr st g d t x K
 |_,_=>none
def afO{R:Type}(X:Cx)(T:aE)(fr:Fr)(st:aG)(g:GK)(o:Oper)(K:cT R):Option R:=
 match akY X T st.E fr.F g o.op with
 |some cv=>L7 cv.1 (g.map λ_=>T.get g) (K { st with E:=cN o.dst g cv.2 st.E })
 |none=>match ajJ X T st.E fr.F [] fr.H g o.op with
  |some cv=>L7 cv.1 (g.map λ_=>T.get g) (K { st with E:=cN o.dst g cv.2 st.E })
  |none=>aC (st.low fr) (am6 X T fr st g o.op o.dst K) none
def bB(p:Row->Bool):List Row->List Row
 |[]=>[]
 |r::G=>aC (p r) (r::bB p G) (bB p G)
def dp(r:Row):Bool:= !r.cW
theorem Sat.Av{w:World}{B:Ctx}:∀{A:Ctx},Sat (A++B) w->Sat B w
 |[],h=>h
 |_x::A,h=>Sat.Av (A:=A) (Sat.C0 (A:=[]) h)
section
variable {ρ : aB} {T : aE} {w : World}
theorem sM{p:Row->Bool}{H:List Row}{Φ:Ctx}:∀{G:List Row} {A:Ctx},Sat (A++(ab ρ T G++(ab ρ T H++Φ))) w->Sat (A++(ab ρ T (bB p G)++(ab ρ T (bB (λr=> !(p r)) G++H)++Φ))) w
 |[],_,h=>h
 |r::G,A,h=>by
  unfold bB;cases hp:p r
  .have b:Sat ((A++[r.item ρ T])++(ab ρ T G++(ab ρ T H++Φ))) w:=by simpa [ab] using h
   have a:=sM (p:=p) (G:=G) b;have c:Sat (A++r.item ρ T::(ab ρ T (bB p G)++(ab ρ T (bB (λr=> !(p r)) G++H)++Φ))) w:=by simpa using a
   exact c.move
  .have b:Sat ((A++[r.item ρ T])++(ab ρ T G++(ab ρ T H++Φ))) w:=by simpa [ab] using h
   have a:=sM (p:=p) (G:=G) b;simpa [ab] using a
end
abbrev po(fr:Fr)(A:List Row)(st:aG):Fr:=⟨fr.F,bB (λr=> !(dp r)) st.G++(A++fr.H),fr.n⟩
abbrev stM(st:aG):aG:={ st with G:=bB dp st.G }
abbrev w8:=Nat×Nat×Nat×zh
def Qg:List AV->Option zh
 |[]=>some []
 |v::l=>(match v with
  | .nv u=>(match Qg l with
   |some us=>some (u::us)
   |none=>none)
  |_=>none)
def afn:List AV->zh->Bool
 |_,[]=>true
 |l,n::ns=>(match l with
  | .nv u::l=>Nat.beq u n&&afn l ns
  |_=>false)
def Oy(G:List Row):List w8->Bool
 |[]=>true
 |x::Pd=>(match ob (Ar x.2.1) G with
  |some (_,.box _ _ cs)=> !(Nat.beq x.2.2.1 1000000000)&&afn (cs.drop x.2.2.1) x.2.2.2
  |_=>false)&&Oy G Pd
def pdF(G:List Row):List w8->Bool
 |[]=>true
 |x::Pd=>(Nat.beq x.2.2.1 1000000000||(match ob (Ar x.2.1) G with
  |some (_,.box _ _ cs)=> !(Nat.beq x.2.2.1 1000000000)&&afn (cs.drop x.2.2.1) x.2.2.2
  |_=>false))&&pdF G Pd
def fT(ops:zf)(k:Nat):List w8->List w8
 |[]=>[]
 |x::Pd=>aC (waits .any ops.toArray k x.1) (fT ops k Pd) (x::fT ops k Pd)
def szA(P:Program)(t:TypeId):za:=match P.underlying t with
 |some d=>aC (kJ d) (match lJ P t with
  |some z=>some z.1
  |none=>none) (some 1)
 |none=>none
def alg{R:Type}(X:Cx)(T:aE)(fr:Fr)(st:aG)(g:GK)(k:Nat)(o:Oper)(K:List Row->w8->aG->Option R):Option (Option R):=match o.op,o.dst with
 | .load t x,some d=>(match bE T st.E fr.F g x with
  |some (.ptr id off)=>(match ob (Ar id) st.G with
   |some (j,.box _ bt cs)=>some (match szA X.P t with
    |some n=>(match lQ X.P t ((cs.drop off).map (uN st.G fr.H)) with
     |some v=>(match Qg (mf st.c ((cs.drop off).take n)).1 with
      |some us=>aC (st.low fr&&v.low st.c&&Nat.ble (off+n) cs.length&& !(Nat.beq off 1000000000)) (
        K (mf st.c ((cs.drop off).take n)).2.1 (k,id,off,us) { st with c:=(mf st.c ((cs.drop off).take n)).2.2,E:=cN (some d) g v st.E,G:=st.G.set j (.box id bt (wa cs off (mf st.c ((cs.drop off).take n)).1)) } ) none
      |none=>none)
     |none=>none)
    |none=>none)
   |_=>none)
  |_=>none)
 |_,_=>none
def are(T:aE)(fr:Fr)(st:aG)(g:GK)(o:Oper):Option (Tmp×TypeId×Nat×Nat):=match o.op,o.dst with
 | .load t x,some d=>(match bE T st.E fr.F g x with
  |some (.adr q off)=>(match AN T [] fr.H g (.adr q off) with
   |some _=>none
   |none=>(match eI st.G fr.H (VL q) with
    |some _=>some (d,t,q,off)
    |none=>none))
  |_=>none)
 |_,_=>none
def Qa{R:Type}(X:Cx)(tb:List aq)(tp:List bR)(KP:AV->aG->Option R)(ops:zf)(fr:Fr)(A:List Row)(T:aE)(st:aG)(o:Oper)(K:aE->cT R):Option R:=
 match ajv tp T (po fr A st) (stM st) o (λb v st'=>aC b none (ajx fr KP T v { st' with G:=st'.G++(bB (λr=> !(dp r)) st.G++A) })) (K T) with
 |some q=>q
 |none=>stepG ops T (po fr A st) (stM st) o λT g=>opD X tb T (po fr A st) (stM st) g o (K T)
def at0(X:Cx)(T:aE)(fr:Fr)(st:aG)(ops:zf)(k:Nat)(fl:zh)(rest:OT)(f:Nat):Bool:=(match ops[f]? with
 |some o=>(match Lz X T fr st o,o.dst with
  |some _,some d=>jC o&&Nat.blt d fr.n&&(match ew st.E fr.F d with|some _=>false|none=>true)&&(o.looksAt ops.toArray).all (λt=> !(Nat.beq t d))
  |_,_=>false)
 |none=>false)&&(k::rest.ops).all (λj=>rq ops.toArray j f)&&(fl++rest.Xo).all (λj=>Nat.beq j f||rq ops.toArray j f)
def alp{R:Type}(X:Cx)(ops:zf)(fr:Fr)(T:aE):zh->aG->cT R->Option R
 |[],st,K=>K st
 |f::fs,st,K=>(match ops[f]? with
  |some o=>aC (oG o.dst T&& !(dN f fs)) (aom X T fr st o λst=>alp X ops fr T fs st K) none
  |none=>none)
abbrev frA(fr:Fr)(A:List Row):Fr:=⟨fr.F,A++fr.H,fr.n⟩
def pR{R:Type}(X:Cx)(tb:List aq)(tp:List bR)(KP:AV->aG->Option R)(ops:zf)(fr:Fr):OT->List Row->List w8->aE->aG->cT R->Option R
 | .nil,A,_,T,st,K=>aC (Ee T fr { st with G:=st.G++A }) (K (AA T { st with G:=st.G++A })) none
 | .q k _ rest,A,Pd,T,st,K=>(match ops[k]? with
  |some o=>stepG ops T (po fr A st) (stM st) o λT g=>match alg X T (po fr A st) (stM st) g k o (λR p st'=>pR X tb tp KP ops fr rest (R++(bB (λr=> !(dp r)) st.G++A)) (p::Pd) T st' K) with
   |some q=>q
   |none=>(match are T (po fr A st) (stM st) g o with
    |some p=>aC ((stM st).low (po fr A st)) (Yt X T (po fr A st) (stM st) g p.1 p.2.1 p.2.2.1 p.2.2.2 λst'=>pR X tb tp KP ops fr rest (bB (λr=> !(dp r)) st.G++A) ((k,p.2.2.1,1000000000,[])::Pd) T st' K) none
    |none=>afO X T (po fr A st) (stM st) g o λst'=>pR X tb tp KP ops fr rest (bB (λr=> !(dp r)) st.G++A) Pd T st' K)
  |none=>none)
 | .l k _ rest,A,Pd,T,st,K=>(match ops[k]? with
  |some o=>Qa X tb tp KP ops fr A T st o λT st'=>aC (Oy st'.G (fT ops k Pd)) (pR X tb tp KP ops fr rest (bB (λr=> !(dp r)) st.G++A) (fT ops k Pd) T st' K) none
  |none=>none)
 | .l2 _ k₁ r₁ k₂ r₂,A,Pd,T,st,K=>both
  (match ops[k₁]? with
  |some o=>Qa X tb tp KP ops fr A T st o λT st'=>aC (Oy st'.G (fT ops k₁ Pd)) (pR X tb tp KP ops fr r₁ (bB (λr=> !(dp r)) st.G++A) (fT ops k₁ Pd) T st' K) none
  |none=>none)
  (match ops[k₂]? with
  |some o=>Qa X tb tp KP ops fr A T st o λT st'=>aC (Oy st'.G (fT ops k₂ Pd)) (pR X tb tp KP ops fr r₂ (bB (λr=> !(dp r)) st.G++A) (fT ops k₂ Pd) T st' K) none
  |none=>none)
 | .f k _ fl fs rest,A,Pd,T,st,K=>aC (fl.all (at0 X T (frA fr A) st ops k fl rest)&&pdF st.G Pd) (alp X ops (frA fr A) T fs st λst=>(match ops[k]? with
  |some o=>Qa X tb tp KP ops fr A T st o λT st'=>aC (Oy st'.G (fT ops k Pd)) (pR X tb tp KP ops fr rest (bB (λr=> !(dp r)) st.G++A) (fT ops k Pd) T st' K) none
  |none=>none)) none
section
variable {R : Type} {X : Cx} {tb : List aq} {tp : List bR} {KP : AV -> aG -> Option R} {σ : za} {Q : bD} {D : x3} {ops : zf} {r : R} {fr : Fr} {Φ : Ctx} {K : cT R}
theorem amw{T:aE}{st:aG}{g:GK}{ρ:aB}{w:World}(j:∀it∈X.Γ,it∈Φ)(m:fJ T st.E fr.F)(e:Sat (ab ρ T st.G++(ab ρ T fr.H++Φ)) w)(h:afO X T fr st g o K=some r):
  ∃(v:Value) (J:World->Prop),(∀w',(∃b,Sat (ab ρ T fr.H++b) w')->J w')/\(∀w',J w'->bq X.P (az ρ T st.E fr.F) (T.get g) o w' v)/\bc r K T fr st g o.dst ρ Φ v w:=by
 obtain ⟨dst,op,ty,pos,af,gd⟩:=o;unfold afO at h;simp only at h;have c:∀{O:Value->World->Prop},Ub X.P T g (az ρ T st.E fr.F) ⟨dst,op,ty,pos,af,gd⟩ w O->∃(v:Value) (J:World->Prop),(∀w',(∃b,Sat (ab ρ T fr.H++b) w')->J w')/\(∀w',J w'->bq X.P (az ρ T st.E fr.F) (T.get g) ⟨dst,op,ty,pos,af,gd⟩ w' v)/\O v w:=λh=>by obtain ⟨v,d,a⟩:=h;exact ⟨v,λ_=>True,λ_ _=>trivial,λw' _=>d w',a⟩
 split at h
 next cv f=>obtain ⟨d,a⟩:=sx h;exact c ⟨_,λw'=>ad7 m f d,bc.jw a (ch _) rfl rfl e⟩
 .split at h
  next cv f=>obtain ⟨d,a⟩:=sx h;refine ⟨_,λw'=>∃b,Sat (ab ρ T fr.H++b) w',λ_ h=>h,λw' l=>?_,bc.jw a (ch _) rfl rfl e⟩;obtain ⟨b,i⟩:=l;exact agw (G:=[]) (Φ:=b) i f d
  .obtain ⟨d,a⟩:=aK h;unfold am6 at a;split at a
   .split at a
    .exact c (aiB d e a)
    .split at a
     .exact c (agk d j e a)
     .obtain ⟨rfl,k⟩:=dA a;exact c (aif e k)
   .exact c (Z1 d e a)
   .obtain ⟨rfl,k⟩:=dA a;exact c (agc d e k)
   .exact c (ao9 e a)
   .cases a
def BF(ρ:aB)(x:w8)(w:World):Prop:=Nat.beq x.2.2.1 1000000000=false/\∃cs t,fM w (ρ x.2.1).b t cs/\(cs.drop x.2.2.1).take x.2.2.2.length=x.2.2.2.map λu=>(ρ u).x
def ajY(c:Nat)(Pd:List w8):Prop:= ∀x,x∈Pd->x.2.1<c/\∀u,u∈x.2.2.2->u<c
theorem Dy{ρ ρ':aB}{c:Nat}(a:aZ c ρ ρ'){x:w8}(hx:x.2.1<c/\∀u,u∈x.2.2.2->u<c){w:World}:BF ρ' x w↔BF ρ x w:=by
 unfold BF;rw [a _ hx.1];have:(x.2.2.2.map λu=>(ρ' u).x)=x.2.2.2.map λu=>(ρ u).x:=sw λu b=>by rw [a _ (hx.2 u b)]
 rw [this]
theorem abe{ρ:aB}:∀{l:List AV} {us:zh},afn l us=true->(AV.ao ρ l).take us.length=us.map λu=>(ρ u).x
 |l,[],_=>by simp
 |l,n::ns,h=>by
  unfold afn at h;split at h
  next u l'=>simp only [ar] at h;have e:=aS h.1;subst e;simp only [AV.ao,AV.val,c9,qV,et];rw [abe h.2]
  .cases h
theorem WO{ρ:aB}:∀{l:List AV} {us:zh},Qg l=some us->AV.ao ρ l=us.map (λu=>(ρ u).x)/\us.length=l.length
 |[],us,h=>by cases h;simp [AV.ao]
 |v::l,us,h=>by
  unfold Qg at h;split at h
  .rename_i u;split at h
   next b a=>cases h;obtain ⟨d,c⟩:=WO (ρ:=ρ) a;simp [AV.ao,AV.val,d,c]
   .cases h
  .cases h
theorem aa9{c:Nat}:∀{l:List AV} {us:zh},Qg l=some us->AV.cr c l=true->∀u,u∈us->u<c
 |[],us,h,_,u,a=>by cases h;cases a
 |v::l,us,h,hl,u,a=>by
  unfold Qg at h;split at h
  .rename_i u';split at h
   .rename_i d b;cases h;simp only [AV.cr,AV.low,ar,hW] at hl;rcases List.mem_cons.1 a with rfl|a
    .exact hl.1
    .exact aa9 b hl.2 u a
   .cases h
  .cases h
theorem afp{ρ:aB}{T:aE}{G:List Row}{B:Ctx}{w:World}(c:Sat (ab ρ T G++B) w):∀{Pd:List w8},Oy G Pd=true->∀x,x∈Pd->BF ρ x w
 |[],_,x,hx=>by cases hx
 |y::Pd,h,x,hx=>by
  simp only [Oy,ar] at h;rcases List.mem_cons.1 hx with rfl|hx
  .have a:=h.1;split at a
   next j id t cs d=>obtain ⟨f,e⟩:=mY d;have:id=x.2.1:=aS e;subst this;have hb:fM w (ρ x.2.1).b t (AV.ao ρ cs):=c.at_ (gw f);simp only [ar] at a;refine ⟨by simpa using a.1,_,t,hb,?_⟩;rw [<-AV.iK];exact abe a.2
   .cases a
  .exact afp c h.2 x hx
theorem alM{ρ:aB}{T:aE}{G:List Row}{B:Ctx}{w:World}(b:Sat (ab ρ T G++B) w):∀{Pd:List w8},pdF G Pd=true->∀x,x∈Pd->BF ρ x w\/Nat.beq x.2.2.1 1000000000=true
 |[],_,x,hx=>by cases hx
 |y::Pd,h,x,hx=>by
  simp only [pdF,ar,dk] at h;rcases List.mem_cons.1 hx with rfl|hx
  .rcases h.1 with a|a
   .exact .inr a
   .exact .inl (afp b (Pd:=[x]) (by simp only [Oy,ar];exact ⟨a,trivial⟩) x (cz ..))
  .exact alM b h.2 x hx
theorem xK{k:Nat}:∀{Pd:List w8} {x:w8},x∈fT ops k Pd↔x∈Pd/\waits .any ops.toArray k x.1=false
 |[],x=>by simp [fT]
 |y::Pd,x=>by
  unfold fT;cases c:waits .any ops.toArray k y.1
  .show x∈y::fT ops k Pd↔_;rw [qi,qi,xK];constructor
   .rintro (rfl|⟨b,a⟩)
    .exact ⟨.inl rfl,c⟩
    .exact ⟨.inr b,a⟩
   .rintro ⟨rfl|b,a⟩
    .exact .inl rfl
    .exact .inr ⟨b,a⟩
  .show x∈fT ops k Pd↔_;rw [qi,xK];constructor
   .rintro ⟨b,a⟩;exact ⟨.inr b,a⟩
   .rintro ⟨rfl|b,a⟩
    .rw [c] at a;cases a
    .exact ⟨b,a⟩
theorem ai6{pend:fv}{w:World}(h:∀p,p∈pend->p.2 w):iq pend w:=by
 induction pend with
 |nil=>trivial
 |cons p l ih=>exact ⟨h p (cz ..),ih λq a=>h q (cb _ a)⟩
theorem arY{P:Program}{ρ:aB}{Ev:Env}{g:Bool}{t:TypeId}{n:Nat}{l:List AV}{v:AV}{q:Addr}{w:World}{dst:zb}{ty:TypeId}{pos:String}{af:zd}{gd:Option (Nat×Bool)}
  (hx:au Ev g x (.pointer (some q))) (hn:szA P t=some n) (j:lQ P t l=some v) (hl:n<=l.length) (k:bW w q ((AV.ao ρ l).take n)):bq P Ev g ⟨dst,.load t x,ty,pos,af,gd⟩ w (v.val ρ):=by
 have s:lQ P t (l.drop 0)=some v:=by simpa using j
 obtain ⟨d,n',bytes,z,c1,u,b⟩:=oS (X:=⟨P,[],[],[],(λ_ h=>nomatch h),0,[],[],(λ_ h=>nomatch h),[]⟩) (ρ:=ρ) s;have c1:P.underlying t=some d:=c1;unfold szA at hn;rw [c1] at hn;rcases eb hn with ⟨hd,i⟩|⟨hd,i⟩
 .split at i
  .rename_i o c;obtain ⟨m,y,o⟩:=o;cases i;unfold lQ at j;rw [c1] at j;rcases eb j with ⟨_,f⟩|⟨f,_⟩
   .rw [c] at f;obtain ⟨_,r⟩:=aK f;cases r;simp only [AV.val,AV.kP];exact PS c1 hd (cU c) hx (λ_=>k) (by rw [cx,AV.bw];exact ed hl)
   .rw [hd] at f;cases f
  .cases i
 .cases i;rw [hd] at b;simp only [cL,j3] at b;refine NW c1 hd hx (λ_=>?_);have e:(AV.ao ρ l).take 1=[v.val ρ]:=by
   cases p:AV.ao ρ l with
   |nil=>rw [p] at b;cases b
   |cons a l=>rw [p] at b;cases b;rfl
  rw [e] at k;exact k
theorem ah5{l:yp}{off n:Nat}(h:off+n<=l.length):pj l off ((l.drop off).take n)=l:=by
 unfold pj;have b:((l.drop off).take n).length=n:=by rw [cx,cO];omega
 rw [b];have a:(l.drop off).take n++l.drop (off+n)=l.drop off:=by rw [<-l7,qN]
 rw [bb,a,qN]
theorem aqz{T:aE}{st:aG}{g:GK}{k:Nat}{ρ:aB}{w:World}{KQ:List Row->w8->aG->Option R}(hs:Sat (ab ρ T st.G++(ab ρ T fr.H++Φ)) w)(h:alg X T fr st g k o KQ=some (some r)):
  ∃(v:Value) (ρ':aB) (st':aG) (av:AV) (C:List Row) (p:w8),KQ C p st'=some r/\aZ st.c ρ ρ'/\st.c<=st'.c/\st'.E=cN o.dst g av st.E/\av.val ρ'=v/\az ρ' T st.E fr.F=az ρ T st.E fr.F/\ab ρ' T fr.H=ab ρ T fr.H/\
   Sat (ab ρ' T st'.G++(ab ρ' T (C++fr.H)++Φ)) w/\p.1=k/\BF ρ' p w/\(p.2.1<st'.c/\∀u,u∈p.2.2.2->u<st'.c)/\(∀w',BF ρ' p w'->bq X.P (az ρ T st.E fr.F) (T.get g) o w' v):=by
 obtain ⟨dst,op,ty,pos,af,gd⟩:=o;unfold alg at h;simp only at h;split at h
 .rename_i t x d;split at h
  .rename_i id off hx;split at h
   .rename_i j s N cs hf;simp only [cC] at h;split at h
    .rename_i n hn;split at h
     .rename_i v hv;split at h
      .rename_i us J;obtain ⟨Z,h2⟩:=aK h;simp only [ar,Nat.ble_eq] at Z;obtain ⟨⟨⟨hl,hvl⟩,hle⟩,hmk⟩:=Z;obtain ⟨l1,l2,l3,l4⟩:=aG.cS.1 hl;obtain ⟨f1,f2⟩:=mY hf;have:s=id:=aS f2;subst this;have z:j<st.G.length:=(List.getElem?_eq_some_iff.1 f1).1;have f:=sP l3 f1;simp only [Row.low,ar,hW] at f;have S:∀{l:List AV} {c m q:Nat},AV.cr c l=true->AV.cr c ((l.drop m).take q)=true:=λ{l c m q} h=>by
        have dr:∀(l:List AV) (m:Nat),AV.cr c l=true->AV.cr c (l.drop m)=true:=λl=>by
         induction l with
         |nil=>intro m h;simp [AV.cr]
         |cons a l ih=>
          intro m h;cases m with
          |zero=>exact h
          |succ m=>simp only [AV.cr,ar] at h;exact ih m h.2
        have tk:∀(l:List AV) (m:Nat),AV.cr c l=true->AV.cr c (l.take m)=true:=λl=>by
         induction l with
         |nil=>intro m h;simp [AV.cr]
         |cons a l ih=>
          intro m h;cases m with
          |zero=>rfl
          |succ m=>simp only [AV.cr,ar,qV] at h ⊢; exact ⟨h.1,ih m h.2⟩
        exact tk _ _ (dr _ _ h)
       obtain ⟨ρ',I⟩:=KN (ρ:=ρ) (S (m:=off) (q:=n) f.2);obtain ⟨i1,i2⟩:=WO (ρ:=ρ') J;have V:=aa9 J I.lw;generalize mf st.c ((cs.drop off).take n)=L at h2 I J i1 i2 V;obtain ⟨ls,C,c'⟩:=L;have Y:st.c<=c':=I.le;have i:aZ st.c ρ ρ':=I.ag;have K:AV.ao ρ' ls=AV.ao ρ ((cs.drop off).take n):=I.eq;have hb:fM w (ρ s).b N (AV.ao ρ cs):=hs.at_ (gw f1);have W:AV.ao ρ' cs=AV.ao ρ cs:=AV.cn i _ f.2;have Q:v.val ρ'=v.val ρ:=AV.mA i _ hvl;have D:us.length=n:=by
        have e1:(AV.ao ρ' ls).length=n:=by rw [K,AV.bw,cx,cO];omega
        rw [i2,<-AV.bw (ρ:=ρ') (l:=ls)];exact e1
       have eG:=bm (T:=T) i l3;have eH:=bm (T:=T) i l4;have e3:(us.map λu=>(ρ' u).x)=((AV.ao ρ cs).drop off).take n:=by rw [<-i1,K,AV.kP,AV.iK]
       refine ⟨v.val ρ,ρ',_,v,C,(k,s,off,us),h2,i,Y,rfl,Q,oh hl i,eH,?_,rfl,⟨by simpa using hmk,AV.ao ρ cs,N,?_,?_⟩,⟨eW f.1 Y,V⟩,λw' hw=>?_⟩
       .show Sat (ab ρ' T (st.G.set j _)++(ab ρ' T (C++fr.H)++Φ)) w;rw [fV z,eG];have e4:(Row.box s N (wa cs off ls)).item ρ' T=(Row.box s N cs).item ρ T:=by simp only [Row.item];rw [i _ f.1,<-AH,W,K,AV.kP,AV.iK,ah5 (by rw [AV.bw];exact hle)]
        have hi:=gw (ρ:=ρ) (T:=T) (Φ:=ab ρ' T (C++fr.H)++Φ) f1;have e5:(ab ρ T st.G++(ab ρ' T (C++fr.H)++Φ)).set j ((Row.box s N (wa cs off ls)).item ρ' T)=ab ρ T st.G++(ab ρ' T (C++fr.H)++Φ):=by
         rw [e4];apply qF;intro q;by_cases hq:q=j
         .subst hq;rw [qL (List.getElem?_eq_some_iff.1 hi).1,hi]
         .rw [qD (λh=>hq h.symm)]
        rw [e5,bu,eH,bb];have ins:∀(L:List Item) (A B:Ctx),Sat (A++B) w->(∀it∈L,it.own=[]/\∀M w,it.P M w)->Sat (A++(L++B)) w:=λL=>by
         induction L with
         |nil=>intro A B h _;exact h
         |cons x L ih=>
          intro A B h hL;have Z:=ih A B h (λit bQ=>hL it (cb _ bQ));have hx:=hL x (cz ..);refine Z.Cz (λj k=>(j<A.length/\k=j)\/(A.length<j/\k+1=j)) (λj jt z=>?_) (λj k q hjk Z h2=>by omega);by_cases e:j<A.length
          .rw [cG e] at z;exact .inr ⟨j,jt,.inl ⟨e,rfl⟩,by rw [cG e];exact z,ck.refl⟩
          .rw [cy (by omega)] at z;by_cases e2:j=A.length
           .subst e2;simp at z;subst z;exact .inl hx
           .refine .inr ⟨j-1,jt,.inr ⟨by omega,by omega⟩,?_,ck.refl⟩;rw [cy (by omega)];have:j-A.length=(j-1-A.length)+1:=by omega
            rw [this,mj,cH] at z;exact z
        refine ins (ab ρ' T C) (ab ρ T st.G) (ab ρ T fr.H++Φ) hs (λit bQ=>?_);obtain ⟨y,U,rfl⟩:=List.mem_map.1 bQ;have h9:=I.rp y U;have h10:y.item ρ' T=y.item ρ' []:=by have hgd:y.gd=none:=I.rg y U;exact Row.EP (by rw [hgd,aE.get_none,aE.get_none])
        rw [h10];exact ⟨(y.item ρ' []).hp h9.1,h9.2⟩
       .show fM w (ρ' s).b N _;rw [i _ f.1];exact hb
       .show ((AV.ao ρ cs).drop off).take us.length=us.map λu=>(ρ' u).x;rw [D,e3]
       .obtain ⟨_,csv,t2,b1,b2⟩:=hw;have b1:fM w' (ρ' s).b t2 csv:=b1;have b2:(csv.drop off).take us.length=us.map λu=>(ρ' u).x:=b2;rw [i _ f.1] at b1;rw [D,e3] at b2;have O:=aW (ρ:=ρ) hx;simp only [AV.val] at O;have e6:AV.ao ρ ((cs.drop off).map (uN st.G fr.H))=(AV.ao ρ cs).drop off:=by rw [PE hs,AV.iK]
        refine arY O hn hv (by rw [List.length_map,cO];omega) ?_;rw [e6];refine b1.part off ?_;have:(((AV.ao ρ cs).drop off).take n).length=n:=by rw [cx,cO,AV.bw];omega
        rw [this];exact b2
      .cases h
     .cases h
    .cases h
   .cases h
  .cases h
 .cases h
theorem No{e:OT}{k mk_:Nat}{pend:fv}{EV:List tA}{T T':aE}{g:GK}{fr1:Fr}{st1:aG}{ρ:aB}{w:World}{v:Value}{J:World->Prop}(hn:fr1.n=fr.n)(p:anK ops fr fr1 st1 ρ o T T' g)(A:ops[k]? =some o)(t:∀x∈EV,rq ops.toArray k x.1=true)(i:J w)
  (r:∀w',J w'->bq X.P (az ρ T' st1.E fr1.F) (T'.get g) o w' v) (c:GC X.P σ ops.toArray Q fr.n D e EV ((k,J)::pend) (rP o.dst (T'.get g) v (az ρ T' st1.E fr1.F)) w):
  GC X.P σ ops.toArray Q fr.n D (.q k mk_ e) EV pend (az ρ T' st1.E fr1.F) w:=by
 have m:ops.toArray[k]? =some o:=by simpa using A
 have f:=p.ds;rw [hn] at f;intro a d u B;have j:∀v,∀x∈EV,vn X.P ops.toArray (a.put o.dst v) x:=λv x hx=>(B x hx).put m (t x hx);simp only [ji,m];cases s:g with
 |none=>
  subst s;rw [aE.get_none] at r c;refine ⟨v,J,i,.inl ⟨by simp [Region.wanted,p.gg],λw' h=>r w' h _ a d rfl⟩,?_⟩;exact c _ (d.rP f) (by rw [jq];exact u) (j _)
 |some gk=>
  obtain ⟨rj,par,b,H,G,z,C⟩:=p.gk gk s;rw [hn] at z;subst s;have l:=Ge (ops:=ops.toArray) p.gg (by simpa using H) G d z;rw [C] at l;cases y:T'.get (some gk)
  .rw [y] at l c;refine ⟨undef,J,i,.inr ⟨l,rfl⟩,?_⟩;exact c _ (d.rP (g:=false) (v:=v) f) (by rw [jq];exact u) (j _)
  .rw [y] at l r c;refine ⟨v,J,i,.inl ⟨l,λw' h=>r w' h _ a d rfl⟩,?_⟩;exact c _ (d.rP f) (by rw [jq];exact u) (j _)
theorem atO{G H:List Row}{s:Src}{a:Row}{q c:Nat}(h:s.at_ G H a)(hk:VL q a=true)(g:bJ c G=true)(f:bJ c H=true):q<c:=by
 have key:∀{L:List Row},bJ c L=true->a∈L->q<c:=λ{L} hl b=>by
  have d:a.low c=true:=by
   induction L with
   |nil=>cases b
   |cons x L ih=>
    simp only [bJ,ar] at hl;rcases List.mem_cons.1 b with rfl|b
    .exact hl.1
    .exact ih hl.2 b
  unfold VL at hk;split at hk
  .have e:=aS hk;subst e;simp only [Row.low,ar,hW] at d;exact d.1.1
  .cases hk
 cases s with
 |top i=>exact key g (qf h)
 |cJ i=>exact key f (qf h)
 |nilI t=>exact h.elim
 |nilO t e=>exact h.elim
 |nilM k v=>exact h.elim
def HP(ρ:aB)(T:aE)(fr:Fr)(A:List Row)(Pd:List w8)(pend:fv)(w:World):Prop:= ∀p,p∈pend->∀w',(∃Φ',Sat (ab ρ T (A++fr.H)++Φ') w')->(∀x,x∈Pd->x.1=p.1->BF ρ x w'\/(Nat.beq x.2.2.1 1000000000=true/\Ext w w'))->p.2 w'
def fG(EV:List tA):Ctx:=EV.map λx=>box x.2.1 x.2.2.1 x.2.2.2
def ZL(ops:zf)(order:OT)(EV:List tA):Prop:= ∀x∈EV,(∀j∈order.ops,rq ops.toArray j x.1=true)/\∀j∈order.Xo,j=x.1\/rq ops.toArray j x.1=true
theorem KC{B:Ctx}{w:World}{p:tA->Bool}:∀{EV:List tA} {A:Ctx},Sat (A++(fG EV++B)) w->Sat (A++(fG (EV.filter p)++B)) w
 |[],_,h=>h
 |x::EV,A,h=>by
  rw [qo];split
  .have a:Sat ((A++[box x.2.1 x.2.2.1 x.2.2.2])++(fG EV++B)) w:=by simpa [fG] using h
   have:=KC (p:=p) a;simpa [fG] using this
  .exact KC (p:=p) (Sat.C0 (A:=A) (B:=fG EV++B) h)
theorem UH{B:Ctx}{w:World}:∀{EV:List tA} {A:Ctx},Sat (A++(fG EV++B)) w->Sat (A++B) w
 |[],_,h=>h
 |_::EV,A,h=>UH (EV:=EV) (Sat.C0 (A:=A) (B:=fG EV++B) h)
theorem Fits.jw{n:Nat}{E:Env}{a:Act}{d:Tmp}{v:Value}(h:Fits n E a)(e:a.tmps.getD d undef=v):Fits n ((d,true,v)::E) a:=by
 refine ⟨h.size,λt g c b=>?_⟩;simp only [look] at b;cases hb:Nat.beq d t
 .rw [hb,bd] at b;exact h.at_ t g c b
 .rw [hb,cw] at b;have:=aS hb;subst this;cases b;exact e
theorem Fits.auL{n:Nat}{E:Env}{a:Act}{d:Tmp}(h:Fits n E a)(hd:look E d=none)(v:Value):Fits n E (a.put (some d) v):=by
 refine ⟨by simp [Act.put,h.size],λt g f b=>?_⟩;have c:d≠t:=λe=>by subst e;rw [hd] at b;cases b
 have:=Act.eval_put (a:=a) (dst:=some d) (v:=v) (x:= .tmp t) (λe i j=>c (by cases i;cases j;rfl));exact Eq.trans this (h.at_ t g f b)
theorem asH{X:Cx}{T:aE}{fr:Fr}{st:aG}{p:TypeId×List AV×List AV}(h:Lz X T fr st o=some p):o.guard=none/\∀cs b,o.op≠ .select cs b:=by
 unfold Lz at h;split at h
 next d c=>exact ⟨c,λcs b a=>by rw [d] at a;cases a⟩
 next d c=>exact ⟨c,λcs b a=>by rw [d] at a;cases a⟩
 .cases h
theorem vn.same{P:Program}{ops:zc}{a:Act}{x:tA}{X:Cx}{T:aE}{fr:Fr}{st:aG}{ρ:aB}(k:X.P=P)(h:vn P ops a x)(i:ops[x.1]? =some o)(j:Fits fr.n (az ρ T st.E fr.F) a):
  ∀e vs cs,Lz X T fr st o=some (e,vs,cs)->x.2.2.1=e/\x.2.2.2=AV.ao ρ cs:=λe vs cs l=>by
 subst k;obtain ⟨q,d,b,g,u,t,s,r,p⟩:=h;rw [i] at g;cases g;have f:=aeP (ρ:=ρ) l b _ a j;rw [p] at f;have m:b.alloc (.cells x.2.2.2.toArray x.2.2.1)=b.alloc (.cells (AV.ao ρ cs).toArray e):=by injection f
 have c:(some (Obj.cells x.2.2.2.toArray x.2.2.1):Option Obj)=some (.cells (AV.ao ρ cs).toArray e):=by rw [<-heap_alloc_new b (.cells x.2.2.2.toArray x.2.2.1),<-heap_alloc_new b (.cells (AV.ao ρ cs).toArray e),m]
 simp only [cC,Obj.cells.injEq] at c;exact ⟨c.2.1,by simpa using c.1⟩
theorem aji{frx:Fr}{T:aE}{w:World}{a:Act}{N:cT R}:∀{k:zh} {EV:List tA} {st:aG} {ρ:aB},fJ T st.E frx.F->Sat (ab ρ T st.G++(ab ρ T frx.H++(fG EV++Φ))) w->Fits frx.n (az ρ T st.E frx.F) a->
  (∀x∈EV,vn X.P ops.toArray a x)->(∀f∈k,f∈EV.map (·.1))->alp X ops frx T k st N=some r->
  ∃st' ρ',N st'=some r/\aZ st.c ρ ρ'/\st.c<=st'.c/\fJ T st'.E frx.F/\Fits frx.n (az ρ' T st'.E frx.F) a/\ab ρ' T frx.H=ab ρ T frx.H/\
   Sat (ab ρ' T st'.G++(ab ρ' T frx.H++(fG (EV.filter λx=> !(dN x.1 k))++Φ))) w
 |[],EV,st,ρ,ht,hs,hf,hC,_,h=>by
  refine ⟨st,ρ,h,.refl,ch _,ht,hf,rfl,?_⟩;have e:(EV.filter λx=> !(dN x.1 []))=EV:=by rw [List.filter_eq_self];intro x _;rfl
  rw [e];exact hs
 |f::k,EV,st,ρ,ht,hs,hf,hC,hin,h=>by
  unfold alp at h;split at h
  .rename_i o ho;obtain ⟨m,h2⟩:=aK h;simp only [ar,eF] at m;obtain ⟨x,hx,v⟩:=List.mem_map.1 (hin f (cz ..));subst v;obtain ⟨i,g,M⟩:=List.append_of_mem hx;have l:ops.toArray[x.1]? =some o:=by simpa using ho
   have D:Sat (((ab ρ T st.G++ab ρ T frx.H)++fG i)++box x.2.1 x.2.2.1 x.2.2.2::(fG g++Φ)) w:=by
    have e:ab ρ T st.G++(ab ρ T frx.H++(fG EV++Φ))=((ab ρ T st.G++ab ρ T frx.H)++fG i)++box x.2.1 x.2.2.1 x.2.2.2::(fG g++Φ):=by rw [M];simp [fG]
    rw [<-e];exact hs
   have C:Sat ([]++box x.2.1 x.2.2.1 x.2.2.2::((ab ρ T st.G++ab ρ T frx.H)++(fG i++(fG g++Φ)))) w:=by have:=D.apr;simpa using this
   have B:Sat (ab ρ T st.G++(ab ρ T frx.H++(box x.2.1 x.2.2.1 x.2.2.2::(fG i++(fG g++Φ))))) w:=by have:=C.move;simpa using this
   have L:=hC x hx;obtain ⟨o2,d,w0,I,Q,r3,r4,O,r6⟩:=id L;rw [l] at I;cases I;obtain ⟨b,st1,av,k1,k2,K,J,k5,k6,k7,k8⟩:=arL B (vn.same rfl L l hf) h2;have e1:az b T st1.E frx.F=(d,true,Hn o x.2.1)::az ρ T st.E frx.F:=by rw [J,vW,k5,k6,Q,aE.get_none];rfl
   have A:Sat (ab b T st1.G++(ab b T frx.H++(fG (EV.filter λy=> !(Nat.beq x.1 y.1))++Φ))) w:=by
    have e2:(EV.filter λy=> !(Nat.beq x.1 y.1))=(i++g).filter λy=> !(Nat.beq x.1 y.1):=by rw [M];simp
    rw [e2];have:Sat ((ab b T st1.G++ab b T frx.H)++(fG (i++g)++Φ)) w:=by
     have e3:fG (i++g)=fG i++fG g:=by simp [fG]
     rw [e3];simpa using k8
    have:=KC (p:=λy=> !(Nat.beq x.1 y.1)) this;simpa using this
   have z:fJ T st1.E frx.F:=by rw [J];exact ht.out m.1 none av
   obtain ⟨s,q,q1,Z,Y,W,V,U,S⟩:=aji z A (by rw [e1];exact hf.jw O) (λy u=>hC y (List.mem_filter.1 u).1) (λf' j=>by obtain ⟨y,u,t⟩:=List.mem_map.1 (hin f' (cb _ j));subst t;refine List.mem_map.2 ⟨y,List.mem_filter.2 ⟨u,?_⟩,rfl⟩;rw [eF,mi];intro hb;have:=aS hb;rw [<-this] at j;rw [dM.2 j] at m;cases m.2) k1
   refine ⟨s,q,q1,k2.trans Z K,cK K Y,W,V,U.trans k7,?_⟩;have e4:((EV.filter λy=> !(Nat.beq x.1 y.1)).filter λy=> !(dN y.1 k))=EV.filter λy=> !(dN y.1 (x.1::k)):=by
    rw [qX];congr 1
    funext y
    simp only [dN,Bool.not_or];exact Bool.and_comm ..
   rw [<-e4];exact S
  .cases h
theorem arN(hΓ:∀it∈X.Γ,it∈Φ)(htb:∀e∈tb,e.Ok X.P X.Γ)(htp:∀e∈tp,e.Ok X.P X.Γ):∀{U:OT} {EV:List tA} {A:List Row} {Pd:List w8} {T:aE} {st:aG} {ρ:aB} {w:World} {pend:fv},fJ T st.E fr.F->o6 ops fr.n T->FT T fr->ZL ops U EV->ajY st.c Pd->Sat (ab ρ T st.G++(ab ρ T (A++fr.H)++(fG EV++Φ))) w->
  HP ρ T fr A Pd pend w->pR X tb tp KP ops fr U A Pd T st K=some r->
  (∀st' ρ' w',aZ st.c ρ ρ'->st.c<=st'.c->K st'=some r->Sat (ab ρ' [] st'.G++(ab ρ' [] fr.H++Φ)) w'->At Q .normal fr.n D (az ρ' [] st'.E fr.F) w')->
  (∀v st' ρ' w',aZ st.c ρ ρ'->st.c<=st'.c->KP v st'=some r->Sat (ab ρ' [] st'.G++(ab ρ' [] fr.H++Φ)) w'->DG Q (iY (v.val ρ')) D w')->
  GC X.P σ ops.toArray Q fr.n D U EV pend (az ρ T st.E fr.F) w:=by
 intro U
 -- a loud operation, the rest by induction
 have loud:∀(rest:OT) (k mk:Nat),(∀{EV:List tA} {A:List Row} {Pd:List w8} {T:aE} {st:aG} {ρ:aB} {w:World} {pend:fv},fJ T st.E fr.F->o6 ops fr.n T->FT T fr->ZL ops rest EV->ajY st.c Pd->Sat (ab ρ T st.G++(ab ρ T (A++fr.H)++(fG EV++Φ))) w->
   HP ρ T fr A Pd pend w->pR X tb tp KP ops fr rest A Pd T st K=some r->
   (∀st' ρ' w',aZ st.c ρ ρ'->st.c<=st'.c->K st'=some r->Sat (ab ρ' [] st'.G++(ab ρ' [] fr.H++Φ)) w'->At Q .normal fr.n D (az ρ' [] st'.E fr.F) w')->
   (∀v st' ρ' w',aZ st.c ρ ρ'->st.c<=st'.c->KP v st'=some r->Sat (ab ρ' [] st'.G++(ab ρ' [] fr.H++Φ)) w'->DG Q (iY (v.val ρ')) D w')->
   GC X.P σ ops.toArray Q fr.n D rest EV pend (az ρ T st.E fr.F) w)->
   ∀{EV:List tA} {A:List Row} {Pd:List w8} {T:aE} {st:aG} {ρ:aB} {w:World} {pend:fv},fJ T st.E fr.F->o6 ops fr.n T->FT T fr->(∀x∈EV,rq ops.toArray k x.1=true)->ZL ops rest EV->ajY st.c Pd->Sat (ab ρ T st.G++(ab ρ T (A++fr.H)++(fG EV++Φ))) w->
   HP ρ T fr A Pd pend w->
   (match ops[k]? with
    |some o=>Qa X tb tp KP ops fr A T st o λT st'=>aC (Oy st'.G (fT ops k Pd)) (pR X tb tp KP ops fr rest (bB (λr=> !(dp r)) st.G++A) (fT ops k Pd) T st' K) none
    |none=>none)=some r->
   (∀st' ρ' w',aZ st.c ρ ρ'->st.c<=st'.c->K st'=some r->Sat (ab ρ' [] st'.G++(ab ρ' [] fr.H++Φ)) w'->At Q .normal fr.n D (az ρ' [] st'.E fr.F) w')->
   (∀v st' ρ' w',aZ st.c ρ ρ'->st.c<=st'.c->KP v st'=some r->Sat (ab ρ' [] st'.G++(ab ρ' [] fr.H++Φ)) w'->DG Q (iY (v.val ρ')) D w')->
   GC X.P σ ops.toArray Q fr.n D (.l k mk rest) EV pend (az ρ T st.E fr.F) w:=by
  intro rest k mk ih EV A Pd T st ρ w pend h1 h2 hf hfk i C hs hp h L s;have W:∀it∈X.Γ,it∈fG EV++Φ:=λit bQ=>gj _ (hΓ it bQ);split at h
  .rename_i o ho;have hs1:=sM (A:=[]) (p:=dp) hs;refine apd (k:=k) (mk:=mk) (o:=o) (by simpa using ho) hfk rfl ?_;have fin:∀T' st' ρ' w',fJ T' st'.E (po fr A st).F->o6 ops (po fr A st).n T'->FT T' fr->aZ (stM st).c ρ ρ'->(stM st).c<=st'.c->(aC (Oy st'.G (fT ops k Pd)) (pR X tb tp KP ops fr rest (bB (λr=> !(dp r)) st.G++A) (fT ops k Pd) T' st' K) none)=some r->ab ρ' T' (po fr A st).H=ab ρ T (po fr A st).H->Sat (ab ρ' T' st'.G++(ab ρ' T' (po fr A st).H++(fG EV++Φ))) w'->
     WL X.P σ ops.toArray (QKE X.P σ ops.toArray Q rest EV (still .any ops.toArray k pend)) fr.n D [] (az ρ' T' st'.E (po fr A st).F) w':=by
    intro T' st' ρ' w' a1 a2 a3 a4 a5 a6 a7 a8;obtain ⟨a9,a10⟩:=aK a6;have e1:bB (λr=> !(dp r)) st.G++(A++fr.H)=(bB (λr=> !(dp r)) st.G++A)++fr.H:=by rw [bb]
    have hs8:Sat (ab ρ' T' st'.G++(ab ρ' T' ((bB (λr=> !(dp r)) st.G++A)++fr.H)++(fG EV++Φ))) w':=by rw [<-e1];exact a8
    have conv:∀z,(∃y,Sat (ab ρ' T' ((bB (λr=> !(dp r)) st.G++A)++fr.H)++y) z)->∃y,Sat (ab ρ T (A++fr.H)++y) z:=λz hw=>by
     obtain ⟨y,R⟩:=hw;refine ⟨y,?_⟩;rw [<-e1] at R;have V:Sat (ab ρ T (bB (λr=> !(dp r)) st.G++(A++fr.H))++y) z:=by rw [<-a7];exact R
     rw [bu,bb] at V;exact V.Av
    have mem:∀p,p∈still .any ops.toArray k pend->p∈pend/\∀x,x∈Pd->x.1=p.1->x∈fT ops k Pd:=λp S=>by unfold still at S;rw [List.mem_filter] at S;exact ⟨S.1,λx hx he=>xK.2 ⟨hx,by rw [he];simpa using S.2⟩⟩
    have hBF:=afp (B:=ab ρ' T' ((bB (λr=> !(dp r)) st.G++A)++fr.H)++(fG EV++Φ)) hs8 a9;have HP':HP ρ' T' fr (bB (λr=> !(dp r)) st.G++A) (fT ops k Pd) (still .any ops.toArray k pend) w':=λp S z hw hB=>by obtain ⟨m1,m2⟩:=mem p S;exact hp p m1 z (conv z hw) (λx hx he=>(hB x (m2 x hx he) he).elim (λh=> .inl ((Dy a4 (C x hx)).1 h)) (λh=>by have:=(hBF x (m2 x hx he)).1;rw [h.1] at this;cases this))
    refine ct (ats (ai6 λp S=>HP' p S w' ⟨fG EV++Φ,hs8.Av⟩ (λx hx _=> .inl (hBF x hx))) ?_);exact ih a1 a2 a3 i (λx hx=>⟨eW (C x (xK.1 hx).1).1 a5,λu hu=>eW ((C x (xK.1 hx).1).2 u hu) a5⟩) hs8 HP' a10 (λI N z b1 b2 b3 b4=>L I N z (a4.trans b1 a5) (cK a5 b2) b3 b4) (λv I N z b1 b2 b3 b4=>s v I N z (a4.trans b1 a5) (cK a5 b2) b3 b4)
   unfold Qa at h;split at h
   .rename_i q hq;subst h;refine aqG (fr:=po fr A st) (st:=stM st) h1 hs1 W htp hq (λst' ρ' w' a1 a4 a5 a6 a7 a8=>fin T st' ρ' w' a1 h2 hf a4 a5 a6 a7 a8) (λlb v st' ρ' w' a1 a2 a3 ae1 ae2 a4=>?_);cases lb with
    |true=>cases a3
    |false=>
    have a4':Sat (ab ρ' T ({ st' with G:=st'.G++(bB (λr=> !(dp r)) st.G++A) }:aG).G++(ab ρ' T fr.H++(fG EV++Φ))) w':=by
     have e2:(po fr A st).H=(bB (λr=> !(dp r)) st.G++A)++fr.H:=by rw [bb]
     rw [e2,bu,bb] at a4;show Sat (ab ρ' T (st'.G++(bB (λr=> !(dp r)) st.G++A))++_) w';rw [bu,bb];exact a4
    obtain ⟨I,k1,Z,_,M⟩:=aij (fr:=fr) (KP:=λ_=>KP) (b:=false) hf a3 a4';rw [<-bb] at M;replace M:=UH M;rw [bb] at M;have k2':I.c=st'.c:=Z;have:=s v I ρ' w' a1 (by rw [k2'];exact a2) k1 M;exact afd this
   .exact ad1 (fr:=po fr A st) (st:=stM st) (fr0:=fr) (K:=λT st'=>aC (Oy st'.G (fT ops k Pd)) (pR X tb tp KP ops fr rest (bB (λr=> !(dp r)) st.G++A) (fT ops k Pd) T st' K) none) h1 h2 rfl (λr hr=>gj _ (gj _ hr)) hf hs1 W htb h fin
  .cases h
 induction U with
 |nil=>
  intro EV A Pd T st ρ w pend h1 h2 hf i C hs hp h L s;have W:∀it∈X.Γ,it∈fG EV++Φ:=λit bQ=>gj _ (hΓ it bQ);unfold pR at h;obtain ⟨h3,h4⟩:=aK h;have hs':Sat (ab ρ T ({ st with G:=st.G++A }:aG).G++(ab ρ T fr.H++(fG EV++Φ))) w:=by show Sat (ab ρ T (st.G++A)++_) w;rw [bu,bb];rw [bu,bb] at hs;exact hs
  obtain ⟨k1,Z,M⟩:=Ke h3 hf hs';rw [<-bb] at M;replace M:=UH M;rw [bb] at M;exact ast ((L _ ρ w .refl (by rw [k1];exact ch _) h4 M).nB _ Z)
 |q k m rest ih=>
  intro EV A Pd T st ρ w pend h1 h2 hf i C hs hp h L s;have hevr:ZL ops rest EV:=λx hx=>⟨λj hj=>(i x hx).1 j (cb _ hj),(i x hx).2⟩;have W:∀it∈X.Γ,it∈fG EV++Φ:=λit bQ=>gj _ (hΓ it bQ);unfold pR at h;split at h
  .rename_i o ho;have hs1:=sM (A:=[]) (p:=dp) hs;obtain ⟨T',g,hk,so⟩:=aeR (ρ:=ρ) (fr0:=fr) (fr:=po fr A st) (st:=stM st) h1 h2 rfl (λr hr=>gj _ (gj _ hr)) hf h;have hs':Sat (ab ρ T' (stM st).G++(ab ρ T' (po fr A st).H++(fG EV++Φ))) w:=by rw [so.eg,so.eh];exact hs1
   have he:az ρ T st.E fr.F=az ρ T' st.E fr.F:=by have e1:=so.ee;have e2:=so.ef;rw [az,az,e1,e2]
   rw [he];have e1:bB (λr=> !(dp r)) st.G++(A++fr.H)=(bB (λr=> !(dp r)) st.G++A)++fr.H:=by rw [bb]
   -- from what stands then to what stands now
   have conv0:∀z y,Sat (ab ρ T' (bB (λr=> !(dp r)) st.G++(A++fr.H))++y) z->∃y,Sat (ab ρ T (A++fr.H)++y) z:=λz y R=>by
    refine ⟨y,?_⟩;have V:Sat (ab ρ T (bB (λr=> !(dp r)) st.G++(A++fr.H))++y) z:=by rw [<-so.eh];exact R
    rw [bu,bb] at V;exact V.Av
   split at hk
   .rename_i q hq;subst hk;obtain ⟨v,ρ',st',av,Rq,p,k1,Z,M,k4,k5,k6,k7,k8,k9,k10,k11,k12⟩:=aqz (fr:=po fr A st) (st:=stM st) hs' hq;have e2:Rq++(bB (λr=> !(dp r)) st.G++(A++fr.H))=(Rq++(bB (λr=> !(dp r)) st.G++A))++fr.H:=by simp
    refine No (fr1:=po fr A st) (st1:=stM st) (J:=BF ρ' p) rfl so ho (λx hx=>(i x hx).1 k (cz ..)) k10 k12 ?_;have:=ih (A:=Rq++(bB (λr=> !(dp r)) st.G++A)) (Pd:=p::Pd) (T:=T') (st:=st') (ρ:=ρ') (w:=w) (pend:=(k,BF ρ' p)::pend) (by rw [k4];exact so.t1.out so.ak g av) so.t2 so.ft hevr (λx hx=>?_) (by rw [<-e2];exact k8) (λq Y z hw hB=>?_) k1 (λI N z b1 b2 b3 b4=>L I N z (Z.trans b1 M) (cK M b2) b3 b4) (λv I N z b1 b2 b3 b4=>s v I N z (Z.trans b1 M) (cK M b2) b3 b4)
    .rw [k4,vW,k5,k6] at this;exact this
    .rcases List.mem_cons.1 hx with rfl|hx
     .exact k11
     .exact ⟨eW (C x hx).1 M,λu hu=>eW ((C x hx).2 u hu) M⟩
    .rcases List.mem_cons.1 Y with rfl|Y
     .exact (hB p (cz ..) k9).elim id (λh=>by have:=k10.1;rw [h.1] at this;cases this)
     .obtain ⟨y,R⟩:=hw;rw [<-e2,bu,bb] at R;have hΦ1:=R.Av;have V:Sat (ab ρ T' (bB (λr=> !(dp r)) st.G++(A++fr.H))++y) z:=by rw [<-k7];exact hΦ1
      exact hp q Y z (conv0 z y V) (λx hx he=>(hB x (cb _ hx) he).imp (Dy Z (C x hx)).1 id)
   .split at hk
    .rename_i p hpo;obtain ⟨lw,hk⟩:=aK hk;obtain ⟨dst,op,ty,pos,af,gd⟩:=o;unfold are at hpo;split at hpo
     .rename_i t x d hop hdst;simp only at hop hdst;subst hop hdst;split at hpo
      .rename_i q off hx;split at hpo
       .cases hpo
       split at hpo
       .rename_i sr hkn;cases hpo;obtain ⟨v,hr,hO⟩:=aaV (ty:=ty) (pos:=pos) (af:=af) (gd:=gd) lw hs' hx hk;obtain ⟨ρ',st',av,k1,Z,M,k4,k5,k6,k7,k8⟩:=hO;have hq:q<st.c:=by obtain ⟨_,_,l3,l4⟩:=aG.cS.1 lw;obtain ⟨f1,f2⟩:=cp hkn;exact atO f1 f2 l3 l4
        refine No (fr1:=po fr A st) (st1:=stM st) (J:=λw'=>Ext w w') (v:=v) rfl so ho (λx hx=>(i x hx).1 k (cz ..)) (Ext.refl w) (λw' hw'=>hr w' hw') ?_;have:=ih (A:=bB (λr=> !(dp r)) st.G++A) (Pd:=(k,q,1000000000,[])::Pd) (T:=T') (st:=st') (ρ:=ρ') (w:=w) (pend:=(k,λw'=>Ext w w')::pend) (by rw [k4];exact so.t1.out so.ak g av) so.t2 so.ft hevr (λx hx=>?_) (by rw [<-e1];exact k8) (λq' Y z hw hB=>?_) k1 (λI N z b1 b2 b3 b4=>L I N z (Z.trans b1 M) (cK M b2) b3 b4) (λv I N z b1 b2 b3 b4=>s v I N z (Z.trans b1 M) (cK M b2) b3 b4)
        .rw [k4,vW,k5,k6] at this;exact this
        .rcases List.mem_cons.1 hx with rfl|hx
         .exact ⟨eW hq M,λu hu=>by cases hu⟩
         .exact ⟨eW (C x hx).1 M,λu hu=>eW ((C x hx).2 u hu) M⟩
        .obtain ⟨y,R⟩:=hw;rw [<-e1] at R;have hΦ1:Sat (ab ρ T' (bB (λr=> !(dp r)) st.G++(A++fr.H))++y) z:=by rw [<-k7];exact R
         rcases List.mem_cons.1 Y with rfl|Y
         .exact (hB (k,q,1000000000,[]) (cz ..) rfl).elim (λh=>by have:=h.1;simp at this) (λh=>h.2)
         .exact hp q' Y z (conv0 z y hΦ1) (λx hx he=>(hB x (cb _ hx) he).imp (Dy Z (C x hx)).1 id)
       .cases hpo
      .cases hpo
     .cases hpo
    .obtain ⟨v,J,hJ,hr,hO⟩:=amw (fr:=po fr A st) (st:=stM st) W so.t1 hs' hk;obtain ⟨ρ',st',av,k1,Z,M,k4,k5,k6,k7,k8⟩:=hO;refine No (fr1:=po fr A st) (st1:=stM st) rfl so ho (λx hx=>(i x hx).1 k (cz ..)) (hJ w ⟨fG EV++Φ,hs'.Av⟩) hr ?_;have:=ih (A:=bB (λr=> !(dp r)) st.G++A) (Pd:=Pd) (T:=T') (st:=st') (ρ:=ρ') (w:=w) (pend:=(k,J)::pend) (by rw [k4];exact so.t1.out so.ak g av) so.t2 so.ft hevr (λx hx=>⟨eW (C x hx).1 M,λu hu=>eW ((C x hx).2 u hu) M⟩) (by rw [<-e1];exact k8) (λq Y z hw hB=>?_) k1 (λI N z b1 b2 b3 b4=>L I N z (Z.trans b1 M) (cK M b2) b3 b4) (λv I N z b1 b2 b3 b4=>s v I N z (Z.trans b1 M) (cK M b2) b3 b4)
     .rw [k4,vW,k5,k6] at this;exact this
     .obtain ⟨y,R⟩:=hw;rw [<-e1] at R;have hΦ1:Sat (ab ρ T' (bB (λr=> !(dp r)) st.G++(A++fr.H))++y) z:=by rw [<-k7];exact R
      rcases List.mem_cons.1 Y with rfl|Y
      .exact hJ z ⟨y,hΦ1⟩
      .exact hp q Y z (conv0 z y hΦ1) (λx hx he=>(hB x hx he).imp (Dy Z (C x hx)).1 id)
  .cases h
 |l k m rest ih=>
  intro EV A Pd T st ρ w pend h1 h2 hf i C hs hp h L s;have W:∀it∈X.Γ,it∈fG EV++Φ:=λit bQ=>gj _ (hΓ it bQ);unfold pR at h;exact loud rest k m (λ{EV A Pd T st ρ w pend}=>ih) h1 h2 hf (λx hx=>(i x hx).1 k (cz ..)) (λx hx=>⟨λj hj=>(i x hx).1 j (cb _ hj),(i x hx).2⟩) C hs hp h L s
 |l2 m k1 r1 Z r2 ih1 ih2=>
  intro EV A Pd T st ρ w pend h1 h2 hf i C hs hp h L s;have W:∀it∈X.Γ,it∈fG EV++Φ:=λit bQ=>gj _ (hΓ it bQ);unfold pR at h;obtain ⟨h3,h4⟩:=aa4 h;exact ati (loud r1 k1 m (λ{EV A Pd T st ρ w pend}=>ih1) h1 h2 hf (λx hx=>(i x hx).1 k1 (cz ..)) (λx hx=>⟨λj hj=>(i x hx).1 j (cb _ (cb _ (qR _ hj))),λj hj=>(i x hx).2 j (qR _ hj)⟩) C hs hp h3 L s)
   (loud r2 Z m (λ{EV A Pd T st ρ w pend}=>ih2) h1 h2 hf (λx hx=>(i x hx).1 Z (cb _ (cz ..))) (λx hx=>⟨λj hj=>(i x hx).1 j (cb _ (cb _ (gj _ hj))),λj hj=>(i x hx).2 j (gj _ hj)⟩) C hs hp h4 L s)
 |f k m fl fs rest ih=>
  intro EV A Pd T st ρ w₀ pend h1 h2 hf i C hs hp h L s;unfold pR at h;obtain ⟨hc,h⟩:=aK h;simp only [ar,qp] at hc;obtain ⟨hfl,hpd0⟩:=hc;have hrun:∀f∈fl,∃o p d,ops[f]? =some o/\Lz X T (frA fr A) st o=some p/\o.dst=some d/\jC o=true/\Nat.blt d fr.n=true/\ew st.E fr.F d=none/\(∀t∈o.looksAt ops.toArray,t≠d)/\
    (∀j∈k::rest.ops,rq ops.toArray j f=true)/\∀j∈fl++rest.Xo,j=f\/rq ops.toArray j f=true:=λf hf=>by
   have:=hfl f hf;unfold at0 at this;simp only [ar,qp,dk] at this;obtain ⟨⟨g1,g2⟩,g3⟩:=this;split at g1
   .rename_i o ho;split at g1
    .rename_i p d hp hd;simp only [ar,qp] at g1;obtain ⟨⟨⟨g4,g5⟩,g6⟩,g7⟩:=g1;refine ⟨o,p,d,ho,hp,hd,g4,g5,?_,λt ht hc=>?_,g2,λj hj=>(g3 j hj).imp aS id⟩
     .split at g6
      .cases g6
      .assumption
     .have:=g7 t ht;rw [hc] at this;simp at this
    .cases g1
   .cases g1
  have nxp:∀(EV:List tA) (a:Act) (w:World),Ext w₀ w->ZL ops (.f k m fl fs rest) EV->Sat (ab ρ T st.G++(ab ρ T (A++fr.H)++(fG EV++Φ))) w->Fits fr.n (az ρ T st.E fr.F) a->a.defers=D->(∀x∈EV,vn X.P ops.toArray a x)->
    (∀f∈fs,f∈EV.map (·.1))->wpOpIn (FW σ) 0 X.P ops.toArray (QN Q) k (λa' w'=>iq (still .any ops.toArray k pend) w'/\ji X.P σ ops.toArray (QN Q) rest ((EV.map (·.1)).filter λf=> !(dN f fs)) (still .any ops.toArray k pend) a' w') a w:=by
   intro EV a w hx0 i hs O hD hC hall;obtain ⟨st1,ρ1,k1,Z,M,k4,k5,k6,k7⟩:=aji (frx:=frA fr A) h1 hs O hC hall h;have hev':∀x∈EV.filter (λx=> !(dN x.1 fs)),(∀j∈k::rest.ops,rq ops.toArray j x.1=true)/\∀j∈rest.Xo,j=x.1\/rq ops.toArray j x.1=true:=λx hx=>
    ⟨(i x (List.mem_filter.1 hx).1).1,λj hj=>(i x (List.mem_filter.1 hx).1).2 j (gj _ hj)⟩
   have HP':HP ρ1 T fr A Pd pend w:=λp S z hw hB=>by have k6:ab ρ1 T (A++fr.H)=ab ρ T (A++fr.H):=k6;rw [k6] at hw;exact hp p S z hw (λx hx he=>(hB x hx he).imp (Dy Z (C x hx)).1 (λh=>⟨h.1,hx0.trans h.2⟩))
   have hl:=loud rest k 0 (λ{EV A Pd T st ρ w pend}=>ih) (EV:=EV.filter λx=> !(dN x.1 fs)) (pend:=pend) k4 h2 hf (λx hx=>(hev' x hx).1 k (cz ..)) (λx hx=>⟨λj hj=>(hev' x hx).1 j (cb _ hj),(hev' x hx).2⟩)
    (λx hx=>⟨eW (C x hx).1 M,λu hu=>eW ((C x hx).2 u hu) M⟩) k7 HP' k1 (λI N z b1 b2 b3 b4=>L I N z (Z.trans b1 M) (cK M b2) b3 b4) (λv I N z b1 b2 b3 b4=>s v I N z (Z.trans b1 M) (cK M b2) b3 b4)
   have:=hl a k5 hD (λx hx=>hC x (List.mem_filter.1 hx).1);simp only [ji] at this;have e:(EV.map (·.1)).filter (λf=> !(dN f fs))=(EV.filter λx=> !(dN x.1 fs)).map (·.1):=by rw [List.filter_map];rfl
   rw [e];split at this
   .exact this.elim
   .exact this
  have main:∀(nf:Nat) (EV:List tA) (a:Act) (w:World),Ext w₀ w->ZL ops (.f k m fl fs rest) EV->Sat (ab ρ T st.G++(ab ρ T (A++fr.H)++(fG EV++Φ))) w->Fits fr.n (az ρ T st.E fr.F) a->a.defers=D->(∀x∈EV,vn X.P ops.toArray a x)->
    wpE X.P σ ops.toArray (QN Q) fl pend (λea a w=>(∀f∈fs,f∈ea)->wpOpIn (FW σ) 0 X.P ops.toArray (QN Q) k (λa' w'=>iq (still .any ops.toArray k pend) w'/\ji X.P σ ops.toArray (QN Q) rest (ea.filter λf=> !(dN f fs)) (still .any ops.toArray k pend) a' w') a w) nf (EV.map (·.1)) a w:=by
   intro nf
   induction nf with
   |zero=>exact λEV a w hx0 i hs O hD hC=>nxp EV a w hx0 i hs O hD hC
   |succ nf ihf=>
    intro EV a w hx0 i hs O hD hC;refine ⟨nxp EV a w hx0 i hs O hD hC,λf hf' hm=>?_⟩;obtain ⟨o,p,d,r1,r2,r3,r4,r5,r6,r7,r8,r9⟩:=hrun f hf';obtain ⟨e,vs,cs⟩:=p;obtain ⟨gn,ns⟩:=asH r2;have ho':ops.toArray[f]? =some o:=by simpa using r1
    have hR:=aeP (ρ:=ρ) r2 w _ a O;have hw:Region.wanted o (yielded ops.toArray a.tmps)=true:=by simp [Region.wanted,gn]
    have hdn:look (az ρ T st.E fr.F) d=none:=by rw [hZ,r6];rfl
    have hne:∀x∈EV,f≠x.1:=λx hx hc=>by have:dN f (EV.map (·.1))=true:=dM.2 (List.mem_map.2 ⟨x,hx,hc.symm⟩);rw [hm] at this;cases this
    have hs1:Sat (box w.heap.size e (AV.ao ρ cs)::(ab ρ T st.G++(ab ρ T (A++fr.H)++(fG EV++Φ)))) (w.alloc (.cells (AV.ao ρ cs).toArray e)):=hs.push (fp _ _) (λb hb=>by
     have:b=w.heap.size:=by simpa [box] using hb
     subst this;simp) (λ_ _=>heap_alloc_new w _)
    have hs2:Sat (ab ρ T st.G++(ab ρ T (A++fr.H)++(fG ((f,w.heap.size,e,AV.ao ρ cs)::EV)++Φ))) (w.alloc (.cells (AV.ao ρ cs).toArray e)):=by
     have h0:Sat ([]++box w.heap.size e (AV.ao ρ cs)::((ab ρ T st.G++ab ρ T (A++fr.H))++(fG EV++Φ))) (w.alloc (.cells (AV.ao ρ cs).toArray e)):=by rw [bb];exact hs1
     have:=h0.move;rw [qO,bb] at this;exact this
    have hfit':=O.auL hdn (Hn o w.heap.size);have hflo:∀x∈(f,w.heap.size,e,AV.ao ρ cs)::EV,vn X.P ops.toArray (a.put o.dst (Hn o w.heap.size)) x:=λx hx=>by
     rcases List.mem_cons.1 hx with rfl|hx
     .refine ⟨o,d,w,ho',r3,ns,rfl,?_,?_⟩
      .rw [r3];have hlt:d<a.tmps.size:=by rw [O.size];simpa using r5
       show (a.tmps.setIfInBounds d _).getD d undef=_;simp [Array.getD,hlt]
      .rw [execOp_put (ops:=ops.toArray) o ns a o.dst _ (λt ht hc=>r7 t hc (by rw [r3] at ht;exact (qe ht).symm))];exact hR
     .refine (hC x hx).put ho' ?_;rcases (i x hx).2 f (qR _ hf') with h9|h9
      .exact absurd h9 (hne x hx)
      .exact h9
    unfold wpOpIn;simp only [ho',hw,oi];refine lW r4 ?_;rw [hR,Oper.uponIn_value];refine ⟨ai6 λp S=>hp p S _ ⟨fG ((f,w.heap.size,e,AV.ao ρ cs)::EV)++Φ,hs2.Av⟩ (λx hx _=>(alM hs2 hpd0 x hx).imp id (λh=>⟨h,hx0.trans (fp _ _)⟩)),?_⟩;have:=ihf ((f,w.heap.size,e,AV.ao ρ cs)::EV) (a.put o.dst (Hn o w.heap.size)) _ (hx0.trans (fp _ _)) (λx hx=>?_) hs2 (by rw [r3];exact hfit') (by rw [jq];exact hD) hflo
    .exact this
    .rcases List.mem_cons.1 hx with rfl|hx
     .exact ⟨r8,r9⟩
     .exact i x hx
  intro a O hD hC;simp only [ji];exact main fl.length EV a w₀ (Ext.refl _) i hs O hD hC
end
def cY:Code->Nat
 | .region _ ops _=>ops.toList.foldl (λm o=>match o.dst with|some d=>Nat.lor m (Nat.shiftLeft 1 d)|none=>m) 0
 | .seq a b=>Nat.lor (cY a) (cY b)
 | .cond _ a b=>Nat.lor (cY a) (cY b)
 | .block _ c=>cY c
 | .loop c=>cY c
 | .scope c=>cY c
 | .rangeFunc _ ps a b=>Nat.lor (ps.toList.foldl (λm d=>Nat.lor m (Nat.shiftLeft 1 d)) 0) (Nat.lor (cY a) (cY b))
 |_=>0
def VP(t:Nat):List (Bool×Nat×Pt)->Bool
 |[]=>false
 |x::l=>(!x.1&&Nat.beq x.2.1 t)||VP t l
def xr(m:Nat)(vs:List (Bool×Nat×Pt))(t:Nat):Bool:= !(Nat.testBit m t)&& !(VP t vs)
def nj(m:Nat)(vs:List (Bool×Nat×Pt)):aH->aH
 |[]=>[]
 |x::E=>aC ( xr m vs x.1 ) ( x::nj m vs E ) ( nj m vs E )
def ox(m:Nat)(vs:List (Bool×Nat×Pt)):aH->aH
 |[]=>[]
 |x::E=>aC ( xr m vs x.1 ) ( ox m vs E ) ( x::ox m vs E )
theorem abp{m:Nat}{vs:List (Bool×Nat×Pt)}{t:Nat}:{E:aH}->bH E t=aC (xr m vs t) (bH (nj m vs E) t) (bH (ox m vs E) t)/\bH (aC (xr m vs t) (ox m vs E) (nj m vs E)) t=none
 |[]=>by cases xr m vs t <;> exact ⟨rfl,rfl⟩
 |(t',g,v)::E=>by
  obtain ⟨b,a⟩:=abp (m:=m) (vs:=vs) (t:=t) (E:=E);cases hb:Nat.beq t' t
  .rw [fz hb];unfold nj ox;cases c:xr m vs t' <;> cases d:xr m vs t <;> rw [d] at b a <;> first
    |exact ⟨by rw [fz hb];exact b,a⟩
    |exact ⟨b,by rw [fz hb];exact a⟩
    |exact ⟨b,a⟩
  .have e:=aS hb;subst e;rw [iG hb];unfold nj ox;cases c:xr m vs t' <;> rw [c] at a
   .exact ⟨(iG hb).symm,a⟩
   .exact ⟨(iG hb).symm,a⟩
theorem alx{m:Nat}{vs:List (Bool×Nat×Pt)}{t:Nat}{E F:aH}:ew (ox m vs E) (nj m vs E++F) t=ew E F t:=by
 have app:∀A B:aH,bH (A++B) t=match bH A t with|some x=>some x|none=>bH B t:=λA B=>by
  induction A with
  |nil=>rfl
  |cons x A ih=>
   obtain ⟨t',g,v⟩:=x;cases hb:Nat.beq t' t
   .rw [mj,fz hb,fz hb];exact ih
   .rw [mj,iG hb,iG hb]
 obtain ⟨b,a⟩:=abp (m:=m) (vs:=vs) (t:=t) (E:=E);unfold ew;rw [app];cases hk:xr m vs t <;> rw [hk] at b a
 .rw [show bH (nj m vs E) t=none from a,b]
 .rw [show bH (ox m vs E) t=none from a,b];rfl
theorem anw{ρ:aB}{E E' F a:aH}(h:∀t,ew E' a t=ew E F t):jX (az ρ [] E' a) (az ρ [] E F):=λt p hp=>by rw [hZ] at hp ⊢;rw [<-h];exact hp
mutual
def AV.ids:AV->zh
 | .ptr id _|.sl id|.adr id _|.mp id|.nv id|.sfp id _|.bs id _=>[id]
 | .agg l|.tuple l=>AV.af5 l
 | .fn _ a b=>AV.af5 a++AV.af5 b
 | .ifc _ v=>v.ids
 |_=>[]
def AV.af5:List AV->zh
 |[]=>[]
 |v::l=>v.ids++AV.af5 l
end
def aqB(res:AV->AV)(ids:zh):List Row->zh
 |[]=>[]
 |r::G=>(match r with
  | .box j _ vs=>aC (uL j ids) (AV.af5 (vs.map res)) []
  |_=>[])++aqB res ids G
def reach(st:aG)(fr:Fr)(ts:zh):zh:=
 let a:=(ts.map λt=>match ew st.E fr.F t with
  |some (_,v)=>v.ids
  |none=>[]).flatten
 let b:=a++aqB (uN st.G fr.H) a st.G
 b++aqB (uN st.G fr.H) b st.G
def gB(ids:zh)(r:Row):Bool:=uL r.id ids
def mB(ids:zh)(c:Nat):List Row->List Row×List Row×Nat
 |[]=>([],[],c)
 |r::G=>match r with
  | .box j t vs=>aC ( uL j ids ) ( match mf c vs with
   |(cs,R,c)=>match mB ids c G with
    |(G,R',c)=>(.box j t cs::G,R++R',c) )<|match mB ids c G with
   |(G,R',c)=>(.box j t vs::G,R',c)
  |r=>match mB ids c G with
   |(G,R',c)=>(r::G,R',c)
def gN:List Row->List (List AV)
 |[]=>[]
 |r::G=>(match r with
  | .box _ _ cs=>cs::gN G
  |_=>gN G)
structure aqK(c:Nat)(G:List Row)(ρ ρ':aB)(x:List Row×List Row×Nat):Prop where
 ag:aZ c ρ ρ'
 le:c<=x.2.2
 eq:ab ρ' [] x.1=ab ρ [] G
 lw:bJ x.2.2 x.1=true
 rl:bJ x.2.2 x.2.1=true
 rp:∀r∈x.2.1,(r.item ρ' []).cW=true/\∀M w,(r.item ρ' []).P M w
 bx:(gN x.1).map (AV.ao ρ')=(gN G).map (AV.ao ρ)
theorem Ny{ρ ρ':aB}{c:Nat}(a:aZ c ρ ρ'):{G:List Row}->bJ c G=true->(gN G).map (AV.ao ρ')=(gN G).map (AV.ao ρ)
 |[],_=>rfl
 |r::G,h=>by
  simp only [bJ,ar] at h;have ih:=Ny a h.2;cases r with
  |box j t cs=>
   have b:=h.1;simp only [Row.low,ar] at b;show AV.ao ρ' cs::(gN G).map (AV.ao ρ')=AV.ao ρ cs::(gN G).map (AV.ao ρ);rw [ih,AV.cn a _ b.2]
  |_=>exact ih
theorem LZ{ids:zh}:{G:List Row}->{c:Nat}->{ρ:aB}->bJ c G=true->∃ρ',aqK c G ρ ρ' (mB ids c G)
 |[],c,ρ,h=>⟨ρ,.refl,ch _,rfl,rfl,rfl,(λ_ h=>by cases h),rfl⟩
 |r::G,c,ρ,h=>by
  simp only [bJ,ar] at h;have f:(∀t cs j,r= .box j t cs->uL j ids=false)->mB ids c (r::G)=(match mB ids c G with|(G,s,c)=>(r::G,s,c))->∃ρ',aqK c (r::G) ρ ρ' (mB ids c (r::G)):=λ_ e=>by
   obtain ⟨ρ',l⟩:=LZ (ids:=ids) (c:=c) (ρ:=ρ) h.2;rw [e];generalize mB ids c G=L at l;obtain ⟨q,R,A⟩:=L;refine ⟨ρ',l.ag,l.le,?_,?_,l.rl,l.rp,?_⟩
   .have:=l.eq;simp only [ab,et] at this ⊢;rw [this,Row.CI l.ag h.1]
   .simp only [bJ,ar];exact ⟨Row.gA l.le h.1,l.lw⟩
   .have hb:(gN q).map (AV.ao ρ')=(gN G).map (AV.ao ρ):=l.bx;cases r with
    |box j t cs=>
     have w:=h.1;simp only [Row.low,ar] at w;show AV.ao ρ' cs::(gN q).map (AV.ao ρ')=AV.ao ρ cs::(gN G).map (AV.ao ρ);rw [hb,AV.cn l.ag _ w.2]
    |_=>exact hb
  cases r with
  |box j t vs=>
   cases v:uL j ids
   .exact f (λt cs j h=>by cases h;exact v) (by simp only [mB,v])
   .have b:=h.1;simp only [Row.low,ar,hW] at b;obtain ⟨k,a⟩:=KN (ρ:=ρ) b.2;have e:mB ids c (.box j t vs::G)=(match mf c vs with
     |(cs,R,c)=>match mB ids c G with
      |(G,s,c)=>(.box j t cs::G,R++s,c)):=by simp only [mB,v]
    rw [e];generalize mf c vs=L at a;obtain ⟨cs,R,c1⟩:=L;obtain ⟨d,g⟩:=LZ (ids:=ids) (c:=c1) (ρ:=k) (A6 a.le h.2);dsimp only;generalize mB ids c1 G=L at g;obtain ⟨q,s,z⟩:=L;have o:c<=c1:=a.le;have i:c1<=z:=g.le;have p:aZ c ρ d:=a.ag.trans g.ag a.le;refine ⟨d,p,cK o i,?_,?_,ur (A6 i a.rl) g.rl,?_,?_⟩
    .have y:=g.eq;simp only [ab,et,Row.item] at y ⊢;have m:AV.cr c1 cs=true:=a.lw;have n:AV.ao k cs=AV.ao ρ vs:=a.eq;rw [y,p _ b.1,AV.cn g.ag _ m,n];have:=bm (T:=[]) a.ag h.2;simp only [ab] at this;rw [this]
    .simp only [bJ,Row.low,ar,hW];exact ⟨⟨by omega,AV.kT i _ a.lw⟩,g.lw⟩
    .intro r b;rcases List.mem_append.1 b with b|b
     .have u:r.low c1=true:=by
       have key:∀{R:List Row},bJ c1 R=true->∀r∈R,r.low c1=true:=λ{R}=>by
        induction R with
        |nil=>intro _ r h;cases h
        |cons x R ih=>
         intro h r b;simp only [bJ,ar] at h;rcases List.mem_cons.1 b with rfl|b
         .exact h.1
         .exact ih h.2 r b
       exact key a.rl r b
      rw [Row.CI g.ag u];exact a.rp r b
     .exact g.rp r b
    .have hb:(gN q).map (AV.ao d)=(gN G).map (AV.ao k):=g.bx;show AV.ao d cs::(gN q).map (AV.ao d)=AV.ao ρ vs::(gN G).map (AV.ao ρ);have m:AV.cr c1 cs=true:=a.lw;have n:AV.ao k cs=AV.ao ρ vs:=a.eq;rw [hb,AV.cn g.ag _ m,n,Ny a.ag h.2]
  |_=>exact f (λt cs j h=>by cases h) rfl
variable {G : List Row}
def A4(E F:aH)(t:Nat):Option AV:=match ew E F t with
 |some (none,v)=>some v
 |_=>none
theorem Hy{ρ:aB}{E F:aH}{t:Nat}{v:AV}(h:A4 E F t=some v):look (az ρ [] E F) t=some (true,v.val ρ):=by
 unfold A4 at h;split at h
 next b a=>cases h;rw [hZ,a];simp
 .cases h
def W8(st:aG)(fr:Fr):List (Bool×Nat×Pt)->zh
 |[]=>[]
 |x::l=>(aC x.1 (match ew st.E fr.F x.2.1 with
  |some (_,v)=>v.ids
  |none=>[]) [])++W8 st fr l
mutual
def alj(G H:List Row):Pt->AV->zh
 | .own _ _ _,v=>v.ids
 | .mp _ _ _,v=>v.ids
 | .it,v=>v.ids
 | .bx _ _ _ vs,v=>(match v with
  | .ptr j _=>j::Qz G H vs (cellsOf G H j)
  |_=>[])
 | .agg l,v=>(match v with
  | .agg vs=>Qz G H l vs
  |_=>[])
 | .cQ l,v=>(match v with
  | .tuple vs=>Qz G H l vs
  |_=>[])
 | .fn _ a b,v=>(match v with
  | .fn _ a' b'=>Qz G H a a'++Qz G H b b'
  |_=>[])
 | .sty p,v=>alj G H p v
 | .ifc _ p,v=>(match v with
  | .ifc _ u=>alj G H p u
  |_=>[])
 | .dat _ o,v=>aC (o.all (λx=>x.isNone)) [] v.ids
 |_,_=>[]
def Qz(G H:List Row):List Pt->List AV->zh
 |[],_=>[]
 |p::l,vs=>(match vs with
  |v::vs=>alj G H p (uN G H v)++Qz G H l vs
  |[]=>[])
end
def ap3(st:aG)(fr:Fr):List (Bool×Nat×Pt)->zh
 |[]=>[]
 |x::l=>(match ew st.E fr.F x.2.1 with
  |some (_,v)=>alj st.G fr.H x.2.2 (uN st.G fr.H v)
  |none=>[])++ap3 st fr l
structure En where
 fr:Fr
 E:aH
 G:List Row
 Et:aH
 Gt:List Row
 c:Nat
 fix:Nat->iD
def apL(E F:aH)(G:List Row)(t:Nat):iD:=match ew E F t with
 |some (_,v)=>some (v,match v with
  | .ptr j _=>cellsOf G [] j
  |_=>[])
 |none=>none
def enter(fr:Fr)(tm:Tm)(m:Nat)(st:aG):En:=
 let ids:=ap3 st fr tm.vs++reach st fr tm.th
 match mB (W8 st fr tm.vs) st.c (bB (gB ids) st.G) with
 |(Gt,R,c)=>⟨⟨nj m tm.vs st.E++fr.F,(R++bB (λr=> !(gB ids r)) st.G)++fr.H,fr.n⟩,nj m tm.vs st.E,R++bB (λr=> !(gB ids r)) st.G,ox m tm.vs st.E,Gt,c,apL st.E fr.F Gt⟩
structure ava(fr:Fr)(st:aG)(Φ:Ctx)(w:World)(ρ ρ':aB)(en:En):Prop where
 ag:aZ st.c ρ ρ'
 le:st.c<=en.c
 ff:en.fr.F=en.E++fr.F
 fh:en.fr.H=en.G++fr.H
 fn:en.fr.n=fr.n
 lF:aH.low en.c en.fr.F=true
 lH:bJ en.c en.fr.H=true
 sub:jX (az ρ' [] en.Et en.fr.F) (az ρ [] st.E fr.F)
 sat:Sat (ab ρ' [] en.Gt++(ab ρ' [] en.fr.H++Φ)) w
 fx:∀t q,en.fix t=some q->q.1.low en.c=true/\AV.cr en.c q.2=true
theorem aH.gA{c d:Nat}(a:c<=d):{E:aH}->E.low c=true->E.low d=true
 |[],_=>rfl
 |x::E,h=>by simp only [aH.low,ar] at h ⊢;exact ⟨AV.gA a _ h.1,aH.gA a h.2⟩
theorem aH.LJ{c:Nat}:{E F:aH}->E.low c=true->F.low c=true->aH.low c (E++F)=true
 |[],_,_,h=>h
 |x::E,F,h,k=>by simp only [mj,aH.low,ar] at h ⊢;exact ⟨h.1,aH.LJ h.2 k⟩
theorem Kb{c:Nat}:{E:aH}->E.low c=true->{t:Nat}->{x:GK×AV}->bH E t=some x->x.2.low c=true
 |[],_,_,_,h=>by cases h
 |(t',g,v)::E,h,t,x,hx=>by
  simp only [aH.low,ar] at h;cases hb:Nat.beq t' t
  .rw [fz hb] at hx;exact Kb h.2 hx
  .rw [iG hb] at hx;cases hx;exact h.1
theorem NF{c m:Nat}{vs:List (Bool×Nat×Pt)}:{E:aH}->E.low c=true->(nj m vs E).low c=true
 |[],_=>rfl
 |x::E,h=>by
  simp only [aH.low,ar] at h;unfold nj;cases xr m vs x.1
  .exact NF h.2
  .show aH.low c (x::nj m vs E)=true;simp only [aH.low,ar];exact ⟨h.1,NF h.2⟩
theorem Oz{c m:Nat}{vs:List (Bool×Nat×Pt)}:{E:aH}->E.low c=true->(ox m vs E).low c=true
 |[],_=>rfl
 |x::E,h=>by
  simp only [aH.low,ar] at h;unfold ox;cases xr m vs x.1
  .show aH.low c (x::ox m vs E)=true;simp only [aH.low,ar];exact ⟨h.1,Oz h.2⟩
  .exact Oz h.2
theorem GZ{c:Nat}{p:Row->Bool}:{G:List Row}->bJ c G=true->bJ c (bB p G)=true
 |[],_=>rfl
 |r::G,h=>by
  simp only [bJ,ar] at h;unfold bB;cases p r
  .exact GZ h.2
  .show bJ c (r::bB p G)=true;simp only [bJ,ar];exact ⟨h.1,GZ h.2⟩
theorem ahb{c:Nat}{j:Nat}(h:bJ c G=true):AV.cr c (cellsOf G [] j)=true:=by
 unfold cellsOf;split
 .rename_i s d t cs b;obtain ⟨a,_⟩:=cp b;cases s with
  |top i=>
   have:=sP h (show G[i]? =some _ from a);simp only [Row.low,ar] at this;exact this.2
  |cJ i=>have a:([]:List Row)[i]? =some _:=a;simp at a
  |nilI=>exact a.elim
  |nilO=>exact a.elim
  |nilM=>exact a.elim
 .rfl
theorem apV{c:Nat}{E F:aH}(e:E.low c=true)(d:F.low c=true)(b:bJ c G=true){t:Nat}{q:AV×List AV}(h:apL E F G t=some q):q.1.low c=true/\AV.cr c q.2=true:=by
 unfold apL at h;split at h
 .rename_i v a;cases h;refine ⟨?_,?_⟩
  .unfold ew at a;split at a
   next x hx=>cases a;exact Kb e hx
   .exact Kb d a
  .split
   .exact ahb b
   .rfl
 .cases h
theorem y8{fr:Fr}{tm:Tm}{m:Nat}{st:aG}{ρ:aB}{Φ:Ctx}{w:World}(hl:st.low fr=true)(C:Sat (ab ρ [] st.G++(ab ρ [] fr.H++Φ)) w):∃ρ',ava fr st Φ w ρ ρ' (enter fr tm m st):=by
 obtain ⟨f,e,s,o⟩:=aG.cS.1 hl;unfold enter;dsimp only;generalize ap3 st fr tm.vs++reach st fr tm.th=ids;have i:=sM (A:=[]) (p:=gB ids) C;obtain ⟨ρ',l⟩:=LZ (ids:=W8 st fr tm.vs) (c:=st.c) (ρ:=ρ) (GZ (p:=gB ids) s);generalize mB (W8 st fr tm.vs) st.c (bB (gB ids) st.G)=L at l;obtain ⟨Gt,R,c⟩:=L;have a:st.c<=c:=l.le;have v:=NF (m:=m) (vs:=tm.vs) f;have hp:=GZ (p:=λr=> !(gB ids r)) s;refine ⟨ρ',l.ag,a,rfl,rfl,rfl,?_,?_,?_,?_,λt q I=>?_⟩
 .exact aH.LJ (aH.gA a v) (aH.gA a e)
 .exact ur (ur l.rl (A6 a hp)) (A6 a o)
 .have n:az ρ' [] (ox m tm.vs st.E) (nj m tm.vs st.E++fr.F)=az ρ [] (ox m tm.vs st.E) (nj m tm.vs st.E++fr.F):=by rw [az,az,sa l.ag (Oz f),sa l.ag (aH.LJ v e)]
  show jX (az ρ' [] (ox m tm.vs st.E) (nj m tm.vs st.E++fr.F)) _;rw [n];exact anw λt=>alx
 .show Sat (ab ρ' [] Gt++(ab ρ' [] ((R++bB (λr=> !(gB ids r)) st.G)++fr.H)++Φ)) w;have n:ab ρ' [] Gt=ab ρ [] (bB (gB ids) st.G):=l.eq;have T:ab ρ' [] (bB (λr=> !(gB ids r)) st.G++fr.H)=ab ρ [] (bB (λr=> !(gB ids r)) st.G++fr.H):=bm l.ag (ur hp o);rw [bb,bu,n,T];have g:Sat (ab ρ [] (bB (gB ids) st.G)++(ab ρ [] (bB (λr=> !(gB ids r)) st.G++fr.H)++Φ)) w:=by simpa using i
  have d:∀(L:List Item) (A B:Ctx),(∀it∈L,it.cW=true/\∀M w,it.P M w)->Sat (A++B) w->Sat (A++(L++B)) w:=λL A B u h=>by
   have z:=DB h L (λit bQ=>⟨(u it bQ).1,(u it bQ).2 _ _⟩);have mv:∀(L:List Item) (A B:Ctx),Sat (L++(A++B)) w->Sat (A++(L++B)) w:=λL=>by
    induction L with
    |nil=>intro A B h;exact h
    |cons x L ih=>
     intro A B h;have y:Sat ([]++x::((L++A)++B)) w:=by simpa using h
     have Q:Sat ([]++((L++A)++x::B)) w:=y.move;have O:Sat (L++(A++x::B)) w:=by simpa using Q
     have N:Sat (A++(L++x::B)) w:=ih _ _ O;have K:Sat (A++(L++[x]++B)) w:=by simpa using N
     -- x goes ahead of L
     refine K.Cz (λj k=>(j<A.length/\k=j)\/(j=A.length/\k=A.length+L.length)\/(A.length<j/\j<=A.length+L.length/\k+1=j)\/(A.length+L.length<j/\k=j)) (λj jt b=>?_) (λj k q J z y=>by omega);by_cases c1:j<A.length
     .rw [cG c1] at b;exact .inr ⟨j,jt,.inl ⟨c1,rfl⟩,by rw [cG c1];exact b,ck.refl⟩
     .rw [cy (by omega)] at b;by_cases V:j=A.length
      .subst V;simp at b;subst b;refine .inr ⟨A.length+L.length,x,.inr (.inl ⟨rfl,rfl⟩),?_,ck.refl⟩;rw [cy (by omega)];have:A.length+L.length-A.length=L.length:=by omega
       rw [this];simp
      .have S:j-A.length=(j-A.length-1)+1:=by omega
       rw [S,mj,cH] at b;by_cases U:j<=A.length+L.length
       .rw [cG (by omega)] at b;refine .inr ⟨j-1,jt,.inr (.inr (.inl ⟨by omega,U,by omega⟩)),?_,ck.refl⟩;rw [cy (by omega),bb,cG (by omega)];rw [show j-1-A.length=j-A.length-1 by omega];exact b
       .rw [cy (by omega)] at b;refine .inr ⟨j,jt,.inr (.inr (.inr ⟨by omega,rfl⟩)),?_,ck.refl⟩;rw [cy (by omega),cy (by simp;omega)];have:j-A.length-(L++[x]).length=j-A.length-1-L.length:=by simp;omega
        rw [this];exact b
   exact mv L A B z
  have:=d (ab ρ' [] R) (ab ρ [] (bB (gB ids) st.G)) (ab ρ [] (bB (λr=> !(gB ids r)) st.G++fr.H)++Φ) (λit bQ=>by obtain ⟨r,D,rfl⟩:=List.mem_map.1 bQ;exact l.rp r D) g
  simpa using this
 .exact apV (aH.gA a f) (aH.gA a e) l.lw I
def W5(G H:List Row)(look:Nat->Option AV)(fix:Nat->iD):List (Bool×Nat×Pt)->zh
 |[]=>[]
 |x::l=>(match (aC x.1 ((fix x.2.1).map (·.1)) (look x.2.1)) with
  |some v=>uA G H x.2.2 v
  |none=>[])++W5 G H look fix l
def Xt(F:aH)(vs:List (Bool×Nat×Pt)):aH->Bool
 |[]=>true
 |x::E=>(VP x.1 vs||tg (bH F x.1))&&Xt F vs E
def Qb(en:En)(tm:Tm)(E:aH)(G:List Row):List Row:=cJ (W5 G en.fr.H (A4 E en.fr.F) en.fix tm.vs) G
def lI(en:En)(tm:Tm)(E:aH)(G:List Row):Option (fy (iB tm.vs)):=
 match mtV (Qb en tm E G) en.fr.H (A4 E en.fr.F) en.fix tm.vs [] with
 |some mr=>aC (EW (mr.S.map λx=>dQ (Qb en tm E G) en.fr.H x.2)&&SJ (Qb en tm E G).length (mr.S.map λx=>dQ (Qb en tm E G) en.fr.H x.2)&&Xt en.fr.F tm.vs E) (cQ _ mr.D) none
 |none=>none
def rowsOf(R:List (Bool×Row)):List Row:=R.map (·.2)
def df(en:En)(tm:Tm)(s:fy (iB tm.vs))(h:HT):aG:=match fZ (λn=>en.c+n) en.fix tm.vs 0 (ic _ s) with
 |⟨E,R,k,_⟩=>⟨en.c+k,E,rowsOf R,h⟩
def ik(en:En)(tm:Tm)(s:fy (iB tm.vs))(h:HT):aG:=match fZ (λn=>en.c+n) en.fix tm.vs 0 (ic _ s) with
 |⟨E,R,k,_⟩=>⟨en.c+k,E++en.E,rowsOf R++en.G,h⟩
def y7(e:XE)(en:En)(st:aG):aG:=match e with
 | .panL _=>{ st with E:=st.E++en.E,G:=st.G++dL en.G }
 |_=>{ st with E:=st.E++en.E,G:=st.G++en.G }
theorem Sat.Xb{w:World}{A C:Ctx}:∀{B:Ctx},Sat (A++(B++C)) w->Sat (A++C) w
 |[],h=>h
 |_x::B,h=>Sat.Xb (B:=B) (Sat.C0 h)
theorem aa8{nm:Nat->Nat}{fix:Nat->iD}{t:Nat}:{l:List (Bool×Nat×Pt)}->{n:Nat}->{D:List cD}->VP t l=true->bH (fZ nm fix l n D).E t≠none
 |[],n,D,h=>by cases h
 |(b,t',p)::l,n,D,h=>by
  unfold fZ;dsimp only;generalize fill nm p (aC b (fix t') none) none n D=L;obtain ⟨v,R,k,c,j⟩:=L;dsimp only;generalize d:fZ nm fix l k c=f;obtain ⟨a,m,i,g⟩:=f;dsimp only;have ih:VP t l=true->bH a t≠none:=λe=>by have:=aa8 (nm:=nm) (fix:=fix) (n:=k) (D:=c) e;rw [d] at this;exact this
  simp only [VP,dk,ar] at h;cases b
  .show bH ((t',none,v)::a) t≠none;cases hb:Nat.beq t' t
   .rw [fz hb];rcases h with ⟨_,h⟩|h
    .rw [hb] at h;cases h
    .exact ih h
   .rw [iG hb];simp
  .show bH a t≠none;rcases h with ⟨h,_⟩|h
   .cases h
   .exact ih h
theorem adU{F:aH}{vs:List (Bool×Nat×Pt)}{t:Nat}:{E:aH}->{x:GK×AV}->Xt F vs E=true->bH E t=some x->VP t vs=true\/bH F t=none
 |[],x,_,h=>by cases h
 |(t',g,v)::E,x,hb,h=>by
  simp only [Xt,ar,dk] at hb;cases b:Nat.beq t' t
  .rw [fz b] at h;exact adU hb.2 h
  .have e:=aS b;subst e;rcases hb.1 with a|a
   .exact .inl a
   .cases c:bH F t' with
    |none=>exact .inr rfl
    |some y=>rw [c] at a;cases a
section
variable {en : En} {tm : Tm} {Φ : Ctx} {w : World} {ρ : aB}
theorem pA{E:aH}{s:fy (iB tm.vs)}(lF:aH.low en.c en.fr.F=true)(lH:bJ en.c en.fr.H=true)(fx:∀t q,en.fix t=some q->q.1.low en.c=true/\AV.cr en.c q.2=true)
  (hs:Sat (ab ρ [] G++(ab ρ [] en.fr.H++Φ)) w) (h:lI en tm E G=some s):
  ∃ρ' E' R k D,fZ (λn=>en.c+n) en.fix tm.vs 0 (ic _ s)=⟨E',R,k,D⟩/\aZ en.c ρ ρ'/\jX (az ρ' [] E' en.fr.F) (az ρ [] E en.fr.F)/\Sat (ab ρ' [] (rowsOf R)++(ab ρ' [] en.fr.H++Φ)) w:=by
 unfold lI at h;have d:=ka (ids:=W5 G en.fr.H (A4 E en.fr.F) en.fix tm.vs) hs;change Sat (ab ρ [] (Qb en tm E G)++_) w at d;generalize Qb en tm E G=G' at h d;split at h
 .rename_i P Q;obtain ⟨S,h2⟩:=aK h;simp only [ar] at S;obtain ⟨⟨h3,h4⟩,h5⟩:=S;obtain ⟨N,I,o,n1,a1⟩:=W4 d tm.vs [] P [] Q .nil;rw [<-C9 _ h2] at o;obtain ⟨Z,_⟩:=P8 d a1;obtain ⟨O,_⟩:=Ah d Z (Ao h3);rw [E5 h4] at O;have Y:=O.Xb
  -- names
  have b:aZ en.c ρ (λi=>aC (Nat.blt i en.c) (ρ i) ((N[i-en.c]?).getD dB)):=λj hj=>by
   have:Nat.blt j en.c=true:=by simpa using hj
   simp only [this]
  have l:w6 (λi=>aC (Nat.blt i en.c) (ρ i) ((N[i-en.c]?).getD dB)) (λn=>en.c+n) 0 N:=λi a ha=>by
   have:Nat.blt (en.c+i) en.c=false:=by
    cases hb:Nat.blt (en.c+i) en.c
    .rfl
    .simp only [hW] at hb;omega
   simp only [this,show en.c+i-en.c=i by omega,ha,qg];exact ⟨trivial,trivial,trivial,λ_=>trivial⟩
  generalize (λi=>aC (Nat.blt i en.c) (ρ i) ((N[i-en.c]?).getD dB))=ρ' at b l;have e1:(λi=>fY ρ (en.fix i))=λi=>fY ρ' (en.fix i):=by
   funext i
   cases hq:en.fix i with
   |none=>rfl
   |some q=>
    obtain ⟨k1,k2⟩:=fx i q hq;show some (q.1.val ρ,AV.ao ρ q.2)=some (q.1.val ρ',AV.ao ρ' q.2);rw [AV.mA b _ k1,AV.cn b _ k2]
  rw [e1] at o;obtain ⟨M,V,U,K⟩:=Vf (T:=[]) (nm:=λn=>en.c+n) tm.vs [] (ic _ s) I (eB ρ P.X) N o (afU Q) l (qk _) [];simp only [l5,qa] at M V U K;generalize hF:fZ (λn=>en.c+n) en.fix tm.vs 0 (ic _ s)=L at M V U K;obtain ⟨E',R,k,D⟩:=L;refine ⟨ρ',E',R,k,D,rfl,b,λt p hp=>?_,?_⟩
  .rw [hZ] at hp;cases hk:bH E' t with
   |some x=>
    have r:look (aH.env ρ' [] E') t=some (aE.get [] x.1,x.2.val ρ'):=by rw [uO,hk];rfl
    obtain ⟨c1,g⟩:=M t _ r;have J:ew E' en.fr.F t=some x:=by unfold ew;rw [hk]
    rw [J] at hp;simp only [lk,cC] at hp;subst hp;simp only at c1 g;cases f:A4 E en.fr.F t with
    |none=>rw [f] at g;cases g
    |some v=>
     rw [f] at g;simp only [lk,cC] at g;rw [Hy f,c1,g]
   |none=>
    have J:ew E' en.fr.F t=bH en.fr.F t:=by unfold ew;rw [hk]
    rw [J] at hp;cases e:bH en.fr.F t with
    |none=>rw [e] at hp;cases hp
    |some y=>
     rw [e] at hp;simp only [lk,cC] at hp;have u:bH E t=none:=by
      cases u:bH E t with
      |none=>rfl
      |some z=>
       rcases adU h5 u with m|m
       .have:=aa8 (nm:=λn=>en.c+n) (fix:=en.fix) (n:=0) (D:=ic _ s) m;rw [hF] at this;exact (this hk).elim
       .rw [e] at m;cases m
     rw [hZ];unfold ew;rw [u,e,<-hp];simp only [lk];rw [AV.mA b _ (Kb lF e)]
  .have W:=Sat.leL (A:=[]) (B:=dP I) (C:=ab ρ [] en.fr.H++Φ) Y K.rw;rw [bm b lH];exact W
 .cases h
end
variable {fr : Fr}
def art(P:Program)(o:Oper):Bool:=match o.op with
 | .store ..|.alloc _|.box ..|.buildSlice ..|.makeSlice ..|.makeMap ..|.mapUpdate ..|.insert ..|.range ..|.next ..|.defer _|.panic _=>true
 | .convert s d _=>isStr P s&& !(isStr P d)
 | .call ⟨.builtin b,_,_⟩=>(match b with
  | .len|.cap|.min|.max|.unsafeSliceData=>false
  |_=>true)
 | .call _=>true
 |_=>false
def aju(q:Bool)(m:Nat):Nat->List (Nat×Bool)->za
 |_,[]=>none
 |k,x::l=>aC ( Y4 x.2 (!q)&& !(Nat.testBit m k)&&Ki x.1 m ) ( some k )<|aju q m (k+1) l
def aft(l:List (Nat×Bool)):Nat->Nat->OT
 |0,_=> .nil
 |n+1,m=>match aju true m 0 l with
  |some k=> .q k m (aft l n (bit m k))
  |none=>match aju false m 0 l with
   |none=> .nil
   |some k=>match aju false m (k+1) (l.drop (k+1)) with
    |none=> .l k m (aft l n (bit m k))
    |some j=> .l2 m k (aft l n (bit m k)) j (aft l n (bit m j))
def avk(o:Oper):Bool:=match o.op,o.guard with
 | .alloc _,none=>true
 | .buildSlice .., none=>true
 |_,_=>false
def akd(kd m:Nat):Nat->List (Nat×Nat)->Option (Nat×Nat)
 |_,[]=>none
 |k,x::l=>aC ( Nat.beq x.2 kd&& !(Nat.testBit m k)&&Ki x.1 m ) ( some (k,x.1) )<|akd kd m (k+1) l
def Wb(m:Nat):Nat->List (Nat×Nat)->zh
 |_,[]=>[]
 |k,x::l=>aC ( Nat.beq x.2 2&& !(Nat.testBit m k)&&Ki x.1 m ) ( k::Wb m (k+1) l )<|Wb m (k+1) l
def aqr(l:List (Nat×Nat)):Nat->Nat->OT
 |0,_=> .nil
 |n+1,m=>match akd 0 m 0 l with
  |some p=> .q p.1 m (aqr l n (bit m p.1))
  |none=>match (match akd 1 (jr m (Wb m 0 l)) 0 l with
    |some p=>some p
    |none=>akd 0 (jr m (Wb m 0 l)) 0 l) with
   |none=> .nil
   |some p=> .f p.1 m (Wb m 0 l) ((Wb m 0 l).filter λf=>Nat.testBit p.2 f) (aqr l n (bit (jr m ((Wb m 0 l).filter λf=>Nat.testBit p.2 f)) p.1))
def ari{R:Type}(X:Cx)(tb:List aq)(tp:List bR)(KP:AV->aG->Option R)(ops:zc)(fr:Fr)(th:zh)(t:OT)(st:aG)(K:cT R):Option R:=
 aC ( X.P.follows .mixedOrders&&aer ops (ops.toList.map λo=>gJ o.after.toList) t ) (
  pR X tb tp KP ops.toList fr t (bB (λr=> !(gB (reach st fr th) r)) st.G) [] [] { st with G:=bB (gB (reach st fr th)) st.G } K ) none
def ao2(fr:Fr)(st:aG):zh->zh
 |[]=>[]
 |t::th=>aC (Nat.ble 20000 t) ((match ew st.E fr.F (t-20000) with
  |some (_,v)=>AV.fq v++(match v with
   | .ptr id _=>(match ob (Ar id) st.G with
    |some (_,.box _ _ cs)=>((cs.map (uN st.G fr.H)).map AV.fq).flatten
    |_=>[])
   |_=>[])
  |none=>[])++ao2 fr st th) (ao2 fr st th)
def Uo(fr:Fr)(st:aG)(th:zh):aG:=match ao2 fr st th with
 |[]=>st
 |ids=>{ st with G:=cJ ids st.G }
theorem aiq{st:aG}{th:zh}{ρ:aB}{T:aE}{B:Ctx}{w:World}(h:Sat (ab ρ T st.G++B) w):
  (Uo fr st th).c=st.c/\(Uo fr st th).E=st.E/\Sat (ab ρ T (Uo fr st th).G++B) w:=by
 unfold Uo;split
 .exact ⟨rfl,rfl,h⟩
 .exact ⟨rfl,rfl,ka h⟩
def KT{R:Type}(X:Cx)(tb:List aq)(tp:List bR)(KP:AV->aG->Option R)(ops:zc)(fr:Fr)(th:zh)(st:aG)(K:cT R):Option R:=
 ari X tb tp KP ops fr th (cond (dN 40000 th) (aqr (ops.toList.map λo=>(gJ o.after.toList,cond (avk o) 2 (cond (art X.P o) 1 0))) ops.toList.length 0) (aft (ops.toList.map λo=>(gJ o.after.toList,art X.P o)) ops.toList.length 0)) (Uo fr st th) K
abbrev brk{R:Type}(i:Nat)(K:XE->aG->Option R):XE->aG->Option R
 | .ext j,st=>aC ( Nat.beq j i ) ( K .nrm st ) ( K (.ext j) st )
 |e,st=>K e st
abbrev wA{R:Type}(K1:aG->Option R)(K:XE->aG->Option R):XE->aG->Option R
 | .nrm,st=>K1 st
 |e,st=>K e st
abbrev cnd{R:Type}(b:Bool)(d1 d2:HT->Option R)(h:HT):Option R:=match h with
 | .c p q=>cond b (d1 p) (d2 q)
 |h=>cond b (d1 h) (d2 h)
def aeH(fr:Fr)(st:aG):aG:=match st.h with
 | .r (30000::th) h=>Uo fr { st with h:=h } th
 |_=>st
theorem asU{st:aG}{ρ:aB}{T:aE}{B:Ctx}{w:World}(h:Sat (ab ρ T st.G++B) w):
  (aeH fr st).c=st.c/\(aeH fr st).E=st.E/\Sat (ab ρ T (aeH fr st).G++B) w:=by
 unfold aeH;split
 next th a _=>exact aiq (st:={ st with h:=a }) h
 .exact ⟨rfl,rfl,h⟩
def aqy(v:AV)(i:Nat):Option (Int×(Int->AV)):=match v with
 | .int k x=>(match i with
  |0=>some (x,.int k)
  |_=>none)
 | .agg l=>(match i with
  |0=>none
  |j+1=>(match l[j]? with
   |some (.int k x)=>some (x,λy=> .agg (l.set j (.int k y)))
   |_=>none))
 |_=>none
theorem arQ{v:AV}{i:Nat}{p:Int×(Int->AV)}(h:aqy v i=some p):p.2 p.1=v:=by
 unfold aqy at h;split at h
 .split at h
  .cases h;rfl
  .cases h
 .split at h
  .cases h
  .rename_i l j;split at h
   next k x hx=>cases h;simp only;congr 1;obtain ⟨b,a⟩:=List.getElem?_eq_some_iff.1 hx;rw [<-a];exact List.set_getElem_self b
   .cases h
 .cases h
def af7{R:Type}(F:aH)(t i:Nat)(k:aG->Option R):zh->HT->aG->Option R
 |v::vs,h,st=>(match h with
  | .c h hs=>(match ew st.E F t with
   |some (none,av)=>(match aqy av i with
    |some p=>cond (p.1==(v:Int)) (k { st with h:=h,E:=(t,none,p.2 (v:Int))::st.E }) (af7 F t i k vs hs st)
    |none=>none)
   |_=>none)
  |_=>none)
 |[],h,st=>(match h with
  | .n 77777 _=>none
  |h=>k { st with h:=h })
theorem aiQ{R:Type}{r:R}{F:aH}{t i:Nat}{k:aG->Option R}{st:aG}:∀{vs:zh} {h:HT},af7 F t i k vs h st=some r->
  ∃st',k st'=some r/\st'.c=st.c/\st'.G=st.G/\∀ρ T,jX (az ρ T st'.E F) (az ρ T st.E F)
 |[],h,hh=>by
  unfold af7 at hh;split at hh
  .cases hh
  .exact ⟨_,hh,rfl,rfl,λ_ _=> .refl⟩
 |v::vs,h,hh=>by
  unfold af7 at hh;split at hh
  .rename_i j f;split at hh
   .rename_i av b;split at hh
    .rename_i p hp;rcases uR hh with ⟨e,d⟩|⟨_,d⟩
     .refine ⟨_,d,rfl,rfl,λρ T u x hx=>?_⟩;have g:p.2 (v:Int)=av:=by rw [<-arQ hp,eq_of_beq e]
      have hl:look (az ρ T st.E F) t=some (true,av.val ρ):=by rw [hZ,b];simp
      show look (az ρ T st.E F) u=some x;rw [g] at hx;have a:look ((t,true,av.val ρ)::az ρ T st.E F) u=some x:=by simpa [az,aH.env] using hx
      unfold look at a;cases hb:Nat.beq t u
      .rw [hb] at a;exact a
      .rw [hb] at a;have:=aS hb;subst this;rw [hl];exact a
     .exact aiQ d
    .cases hh
   .cases hh
  .cases hh
abbrev frL(fr:Fr):Fr:=⟨fr.F,dL fr.H,fr.n⟩
abbrev stL(fr:Fr)(st:aG)(h:HT):aG:={ st with G:=st.G++bB dp fr.H,h:=h }
abbrev toL{R:Type}(K:XE->aG->Option R):XE->aG->Option R
 | .panE v,st=>K (.panL v) st
 |_,_=>none
abbrev as0{R:Type}(X:Cx)(tb:List aq)(tp:List bR)(ops:zc)(fr:Fr)(K:XE->aG->Option R)(st:aG):Option R:=
 BK X tb tp (λb v st=>K (aC b (.panL v) (.panE v)) st) ops.toList fr ops.toList [] st (K .nrm)
def den{R:Type}(X:Cx)(tb:List aq)(tp:List bR):Code->Fr->(XE->aG->Option R)->aG->Option R
 | .skip,_,K,st=>K .nrm st
 | .label _,_,K,st=>K .nrm st
 | .exit i,_,K,st=>K (.ext i) st
 | .goto l,_,K,st=>K (.gto l) st
 | .ret,_,K,st=>K .ret st
 | .block i c,fr,K,st=>den X tb tp c fr (brk i K) (aeH fr st)
 | .cond c x y,fr,K,st=>match bE [] st.E fr.F none c with
  |some (.bool b)=>cnd b (λh=>den X tb tp x fr K { st with h:=h }) (λh=>den X tb tp y fr K { st with h:=h }) st.h
  |_=>none
 | .seq x y,fr,K,st=>match st.h with
  | .j tm p q=>aC (st.low fr) (
   ah (λs:fy (iB tm.vs)=>den X tb tp y fr K (ik (enter fr tm (cY x) st) tm s q)) λk=>
   den X tb tp x (enter fr tm (cY x) st).fr (wA (λst'=>match lI (enter fr tm (cY x) st) tm st'.E st'.G with
     |some s=>k s
     |none=>none) (λe st'=>K e (y7 e (enter fr tm (cY x) st) st'))) ⟨(enter fr tm (cY x) st).c,(enter fr tm (cY x) st).Et,(enter fr tm (cY x) st).Gt,p⟩ ) none
  | .s h=>den X tb tp x fr (wA (den X tb tp y fr K) K) { st with h:=h }
  | .r (60000::t::i::vs) h=>af7 fr.F t i (λst=>den X tb tp x fr (wA (den X tb tp y fr K) K) st) vs h st
  |_=>den X tb tp x fr (wA (den X tb tp y fr K) K) st
 | .loop c,fr,K,st=>match st.h with
  | .l tm p=>aC (st.low fr) (
   match lI (enter fr tm (cY c) st) tm (enter fr tm (cY c) st).Et (enter fr tm (cY c) st).Gt with
   |some s=>aw (λagain s=>den X tb tp c (enter fr tm (cY c) st).fr (wA (λst'=>match lI (enter fr tm (cY c) st) tm st'.E st'.G with
      |some s=>again s
      |none=>none) (λe st'=>K e (y7 e (enter fr tm (cY c) st) st'))) (df (enter fr tm (cY c) st) tm s p)) X.fl s
   |none=>none ) none
  | .n k h=>aw (λagain st=>den X tb tp c fr (wA again K) st) k { st with h:=h }
  |_=>none
 | .region _ ops false,fr,K,st=>match st.h with
  | .r (80000::_) h=>as0 X tb tp ops (frL fr) (toL K) (stL fr st h)
  |_=>as0 X tb tp ops fr K st
 | .region _ ops true,fr,K,st=>match st.h with
  | .r th h=>KT X tb tp (λv st=>K (.iY v) st) ops fr th { st with h:=h } (K .nrm)
  |_=>KT X tb tp (λv st=>K (.iY v) st) ops fr [] st (K .nrm)
 |_,_,_,_=>none
def XE.ex:XE->Exit
 | .nrm=> .normal
 | .ret=> .ret
 | .ext i=> .exit i
 | .gto l=> .goto l
 | .iY _=> .goto 0
 | .panE _=> .goto 0
 | .panL _=> .goto 0
def Pv(Q:bD)(e:XE)(ρ:aB)(n:Nat)(D:x3)(E:Env)(w:World):Prop:=match e with
 | .iY v=>DG Q (iY (v.val ρ)) D w
 | .panE v=>At Q (.panic (iY (v.val ρ))) n D E w
 | .panL v=>At Q (.panic (iY (v.val ρ))) n D E w
 |e=>At Q e.ex n D E w
abbrev hx(e:XE)(fr:Fr):List Row:=match e with
 | .panL _=>dL fr.H
 |_=>fr.H
def jR{R:Type}(Q:bD)(D:x3)(fr:Fr)(Φ:Ctx)(c0:Nat)(ρ0:aB)(r:R)(K:XE->aG->Option R):Prop:=
 ∀e st ρ w,aZ c0 ρ0 ρ->c0<=st.c->K e st=some r->Sat (ab ρ [] st.G++(ab ρ [] (hx e fr)++Φ)) w->Pv Q e ρ fr.n D (az ρ [] st.E fr.F) w
theorem jR.less{R:Type}{Q:bD}{D:x3}{Φ:Ctx}{b c1:Nat}{ρ0 a:aB}{r:R}{K:XE->aG->Option R}(h:jR Q D fr Φ b ρ0 r K)(d:aZ b ρ0 a)(c:b<=c1):jR Q D fr Φ c1 a r K:=
 λe st ρ w j i g f=>h e st ρ w (d.trans j c) (cK c i) g f
section
variable {P : Program} {ρ : za} {Q : bD} {n : Nat} {D : x3} {E : Env} {w : World}
theorem VI{σ γ τ:Type}{F:(σ->Option τ)->σ->Option τ}{r:τ}(J:σ->γ->World->Prop)(c:σ->γ->Env){body:Code}
  {N:Nat} {b:σ} (k:aw F N b=some r) (f:γ) (u:J b f w) (q:jX (c b f) E)
  (round:∀again s g w,F again s=some r->J s g w->WC P ρ body (Exit.then (P3 again r J c n D) Q) n D (c s g) w):
  WC P ρ (.loop body) Q n D E w:=λa l hd=>
 JV (λm=>P3 (aw F m) r J c n D) N ⟨b,f,k,u,l.nB q,hd⟩ λm a w ⟨s,g,j,o,p,t⟩=>by
  obtain ⟨i,rfl,d⟩:=OI j;exact wpIn_mono (round (aw F i) s g w d o a p t) λe a w h=>by cases e <;> first|exact h|exact ⟨i,mV _,h⟩
theorem Py{σ γ τ:Type}{a:σ->Option τ}{r:τ}{J:σ->γ->World->Prop}{b:σ->γ->Env}
  (s:σ) (g:γ) (d:a s=some r) (f:J s g w) (c:jX (b s g) E):At (Exit.then (P3 a r J b n D) Q) .normal n D E w:=
 λh e hd=>⟨s,g,d,f,e.nB c,hd⟩
theorem aop{γ:Type}{J:γ->World->Prop}{a:γ->Env}(g:γ)(d:J g w)(b:jX (a g) E):At (Exit.then (V5 J a n D) Q) .normal n D E w:=
 λe c hd=>⟨g,d,c.nB b,hd⟩
theorem iz{K:Act->World->Prop}{e:XE}{ρ:aB}(a:e≠ .nrm)(h:Pv Q e ρ n D E w):Pv (Exit.then K Q) e ρ n D E w:=by cases e <;> first|exact (a rfl).elim|exact h
end
section
variable {X : Cx} {tb : List aq} {tp : List bR} {σ : za} {D : x3} {R : Type} {r : R} {Φ : Ctx}
theorem V2{Q:bD}{k i:Nat}{ρ0:aB}{K:XE->aG->Option R}(h:jR Q D fr Φ k ρ0 r K):jR (Exit.inBlock i Q) D fr Φ k ρ0 r (brk i K):=λe st ρ w d c b a=>by
 cases e with
 |nrm=>exact acU (h .nrm st ρ w d c b a)
 |ret=>exact ajF (h .ret st ρ w d c b a)
 |gto l=>exact ahY (h (.gto l) st ρ w d c b a)
 |iY v=>exact arw (h (.iY v) st ρ w d c b a)
 |panE v=>exact Ob (h (.panE v) st ρ w d c b a)
 |panL v=>exact Ob (h (.panL v) st ρ w d c b a)
 |ext j=>
  unfold brk at b;rcases eb b with ⟨g,f⟩|⟨g,f⟩
  .have:=aS g;subst this;exact ah0 (h .nrm st ρ w d c f a)
  .exact afh g (h (.ext j) st ρ w d c f a)
theorem nV{b:aG->Option R}{K:XE->aG->Option R}{e:XE}{st:aG}(a:e≠ .nrm):wA b K e st=K e st:=by cases e <;> first|exact (a rfl).elim|rfl
theorem vY{Q:bD}{d:Nat}{ρ0 a:aB}{en:En}{K:XE->aG->Option R}(h:jR Q D fr Φ d ρ0 r K)(ag:aZ d ρ0 a)(le:d<=en.c)(ff:en.fr.F=en.E++fr.F)(fh:en.fr.H=en.G++fr.H)(fn:en.fr.n=fr.n):
  ∀e st ρ w,aZ en.c a ρ->en.c<=st.c->K e (y7 e en st)=some r->Sat (ab ρ [] st.G++(ab ρ [] (hx e en.fr)++Φ)) w->Pv Q e ρ en.fr.n D (az ρ [] st.E en.fr.F) w:=λe st ρ w m l k g=>by
 have i:(y7 e en st).c=st.c:=by cases e <;> rfl
 have j:(y7 e en st).E=st.E++en.E:=by cases e <;> rfl
 have:=h e (y7 e en st) ρ w (ag.trans m le) (cK le (by rw [i];exact l)) k (by
  have f:∀(A B:List Row),Sat (ab ρ [] st.G++(ab ρ [] (A++B)++Φ)) w->Sat (ab ρ [] (st.G++A)++(ab ρ [] B++Φ)) w:=λA B h=>by rw [bu,bb];rw [bu,bb] at h;exact h
  cases e with
  |panL v=>
   have b:Sat (ab ρ [] st.G++(ab ρ [] (dL en.fr.H)++Φ)) w:=g;rw [fh,O9] at b;exact f _ _ b
  |_=>
   have b:Sat (ab ρ [] st.G++(ab ρ [] en.fr.H++Φ)) w:=g;rw [fh] at b;exact f _ _ b)
 rw [fn,ff];have o:az ρ [] st.E (en.E++fr.F)=az ρ [] (y7 e en st).E fr.F:=by rw [j];show aH.env ρ [] st.E++aH.env ρ [] (en.E++fr.F)=aH.env ρ [] (st.E++en.E)++aH.env ρ [] fr.F;rw [oW,oW,bb]
 rw [o];exact this
theorem aoP{Q:bD}{b:Nat}{ρ0:aB}{K:XE->aG->Option R}(h:jR Q D fr Φ b ρ0 r K):jR Q D (frL fr) Φ b ρ0 r (toL K):=λe st ρ w f d a c=>by
 cases e with
 |panE v=>exact h (.panL v) st ρ w f d a c
 |_=>cases a
theorem ar4{st:aG}{ρ:aB}{w:World}{d:HT}(b:Sat (ab ρ [] st.G++(ab ρ [] fr.H++Φ)) w):Sat (ab ρ [] (stL fr st d).G++(ab ρ [] (frL fr).H++Φ)) w:=by
 have a:=sM (p:=dp) (G:=fr.H) (H:=[]) (A:=ab ρ [] st.G) (Φ:=Φ) b;have c:∀H:List Row,bB (λr=> !(dp r)) H=dL H:=λH=>by
  induction H with
  |nil=>rfl
  |cons r H ih=>
   show aC (!(!r.cW)) (r::bB _ H) (bB _ H)=aC r.cW (r::dL H) (dL H);rw [ih,Bool.not_not]
 rw [l5,c] at a;show Sat (ab ρ [] (st.G++bB dp fr.H)++(ab ρ [] (dL fr.H)++Φ)) w;rw [bu,bb];exact a
theorem aiE{Q:bD}{st:aG}{ρ:aB}{w:World}{K:XE->aG->Option R}(i:∀it∈X.Γ,it∈Φ)(k:∀e∈tb,e.Ok X.P X.Γ)(j:∀e∈tp,e.Ok X.P X.Γ){id:Nat}{ops:zc}(p:Sat (ab ρ [] st.G++(ab ρ [] fr.H++Φ)) w)
  (h:BK X tb tp (λb v st=>K (aC b (.panL v) (.panE v)) st) ops.toList fr ops.toList [] st (K .nrm)=some r) (m:jR Q D fr Φ st.c ρ r K):WC X.P σ (.region id ops false) Q fr.n D (az ρ [] st.E fr.F) w:=by
 obtain ⟨l⟩:=ops;exact bA (aaA i k j (λx h=>by cases h) (λx h=>by cases h) ⟨λx _=>rfl,λx _=>rfl⟩ p h (λst' ρ' w' g f d a=>m .nrm st' ρ' w' g f d a) (λo v st' ρ' w' g f d a=>by
  cases o
  .exact m (.panE v) st' ρ' w' g f d a
  .exact m (.panL v) st' ρ' w' g f d a))
theorem UI{Q:bD}{st:aG}{ρ:aB}{w:World}{K:XE->aG->Option R}(d:∀it∈X.Γ,it∈Φ)(g:∀e∈tb,e.Ok X.P X.Γ)(f:∀e∈tp,e.Ok X.P X.Γ){id:Nat}{ops:zc}{th:zh}(a:Sat (ab ρ [] st.G++(ab ρ [] fr.H++Φ)) w)
  (h:KT X tb tp (λv st=>K (.iY v) st) ops fr th st (K .nrm)=some r) (b:jR Q D fr Φ st.c ρ r K):WC X.P σ (.region id ops true) Q fr.n D (az ρ [] st.E fr.F) w:=by
 obtain ⟨l⟩:=ops;unfold KT at h;generalize cond (dN 40000 th) _ _=t at h;obtain ⟨u,s,a⟩:=aiq (fr:=fr) (th:=th) a;rw [<-u] at b;rw [<-s];generalize Uo fr st th=st at h a b;unfold ari at h;obtain ⟨j,z⟩:=aK h;simp only [ar] at j;refine wH _ t j.1 j.2 (λB y=>?_);have i:=sM (A:=[]) (p:=gB (reach st fr th)) (a.ext y);exact GC.wd (arN (EV:=[]) (st:={ st with G:=bB (gB (reach st fr th)) st.G }) d g f (λx h=>by cases h) (λx h=>by cases h) ⟨λx _=>rfl,λx _=>rfl⟩ (λx h=>by cases h) (λx h=>by cases h) i (λp h=>by cases h) z (λst' ρ' w' q o m k=>b .nrm st' ρ' w' q o m k) (λv st' ρ' w' q o m k=>b (.iY v) st' ρ' w' q o m k))
theorem Vm{b:Bool}{f d2:HT->Option R}{h:HT}(d:cnd b f d2 h=some r):∃p q,(b=true->f p=some r)/\(b=false->d2 q=some r):=by
 unfold cnd at d;split at d
 .rename_i p q;rcases uR d with ⟨c,a⟩|⟨c,a⟩
  .exact ⟨p,q,λ_=>a,λe=>by rw [c] at e;cases e⟩
  .exact ⟨p,q,(λe=>by rw [c] at e;cases e),λ_=>a⟩
 .rcases uR d with ⟨c,a⟩|⟨c,a⟩
  .exact ⟨_,h,λ_=>a,λe=>by rw [c] at e;cases e⟩
  .exact ⟨h,_,(λe=>by rw [c] at e;cases e),λ_=>a⟩
theorem gf(j:∀it∈X.Γ,it∈Φ)(t:∀e∈tb,e.Ok X.P X.Γ)(o:∀e∈tp,e.Ok X.P X.Γ):∀(c:Code) {Q:bD} {fr:Fr} {K:XE->aG->Option R} {st:aG} {ρ:aB} {w:World},Sat (ab ρ [] st.G++(ab ρ [] fr.H++Φ)) w->
  den X tb tp c fr K st=some r->jR Q D fr Φ st.c ρ r K->WC X.P σ c Q fr.n D (az ρ [] st.E fr.F) w
 | .skip,Q,fr,K,st,ρ,w,hs,h,hK=>sQ (hK .nrm st ρ w .refl (ch _) (by unfold den at h;exact h) hs)
 | .label _,Q,fr,K,st,ρ,w,hs,h,hK=>aeh (hK .nrm st ρ w .refl (ch _) (by unfold den at h;exact h) hs)
 | .exit i,Q,fr,K,st,ρ,w,hs,h,hK=>aaL (hK (.ext i) st ρ w .refl (ch _) (by unfold den at h;exact h) hs)
 | .goto l,Q,fr,K,st,ρ,w,hs,h,hK=>aid (hK (.gto l) st ρ w .refl (ch _) (by unfold den at h;exact h) hs)
 | .ret,Q,fr,K,st,ρ,w,hs,h,hK=>A3 (hK .ret st ρ w .refl (ch _) (by unfold den at h;exact h) hs)
 | .block i c,Q,fr,K,st,ρ,w,hs,h,hK=>by
  obtain ⟨z1,z2,z3⟩:=asU (fr:=fr) hs;unfold den at h;rw [<-z2];rw [<-z1] at hK;exact UT (gf j t o c z3 h (V2 hK))
 | .cond c x y,Q,fr,K,st,ρ,w,hs,h,hK=>by
  unfold den at h;split at h
  next b hb=>have W:=bK (ρ:=ρ) hb;simp only [AV.val] at W;obtain ⟨p,q,h1,S⟩:=Vm h;exact jS W (λhb=>gf j t o x (st:={ st with h:=p }) hs (h1 hb) hK) (λhb=>gf j t o y (st:={ st with h:=q }) hs (S hb) hK)
  .cases h
 | .seq x y,Q,fr,K,st,ρ,w,hs,h,hK=>by
  have N:∀T,den X tb tp x fr (wA (den X tb tp y fr K) K) { st with h:=T }=some r->WC X.P σ (.seq x y) Q fr.n D (az ρ [] st.E fr.F) w:=λT hd=>by
   refine bF (gf j t o x (st:={ st with h:=T }) hs hd (λe st' ρ' w' I M z C=>?_));by_cases v:e= .nrm
   .subst v;exact bn (gf j t o y C z (hK.less I M))
   .rw [nV v] at z;exact iz v (hK e st' ρ' w' I M z C)
  unfold den at h;split at h
  .rename_i tm p q Z;obtain ⟨hl,S⟩:=aK h;obtain ⟨J,en⟩:=y8 (tm:=tm) (m:=cY x) hl hs;generalize enter fr tm (cY x) st=f at S en;unfold ah at S;refine akP (γ:=fy (iB tm.vs)×aB) (λg w'=>den X tb tp y fr K (ik f tm g.1 q)=some r/\aZ f.c J g.2/\Sat (ab g.2 [] (ik f tm g.1 q).G++(ab g.2 [] fr.H++Φ)) w') (λg=>az g.2 [] (ik f tm g.1 q).E fr.F) (λg w' hg=>?_) ?_
   .obtain ⟨g1,g2,g3⟩:=hg;refine gf j t o y g3 g1 (hK.less (en.ag.trans g2 en.le) ?_);have:f.c<=(ik f tm g.1 q).c:=by unfold ik;generalize fZ (λn=>f.c+n) f.fix tm.vs 0 (ic _ g.1)=L;obtain ⟨a,b,c,d⟩:=L;exact qI _ _
    exact cK en.le this
   .have hx:=gf j t o x (fr:=f.fr) (st:=⟨f.c,f.Et,f.Gt,p⟩) (ρ:=J) (Q:=Exit.then (V5 (λ(g:fy (iB tm.vs)×aB) w'=>den X tb tp y fr K (ik f tm g.1 q)=some r/\aZ f.c J g.2/\Sat (ab g.2 [] (ik f tm g.1 q).G++(ab g.2 [] fr.H++Φ)) w') (λg=>az g.2 [] (ik f tm g.1 q).E fr.F) fr.n D) Q) en.sat S (λe st' ρ' w' I M z C=>?_)
    .rw [en.fn] at hx;exact hx.nB _ en.sub
    .by_cases v:e= .nrm
     .subst v;have B:(match lI f tm st'.E st'.G with|some s=>den X tb tp y fr K (ik f tm s q)|none=>none)=some r:=z;split at B
      .rename_i s hb;obtain ⟨u,E',V,k,DD,b1,b2,b3,b4⟩:=pA en.lF en.lH en.fx C hb;have eJ:ik f tm s q=⟨f.c+k,E'++f.E,rowsOf V++f.G,q⟩:=by unfold ik;rw [b1]
       rw [en.fn];refine aop (s,u) ⟨B,I.trans b2 (ch _),?_⟩ ?_
       .rw [eJ];show Sat (ab u [] (rowsOf V++f.G)++_) w';rw [bu,bb];rw [en.fh,bu,bb] at b4;exact b4
       .rw [eJ];show jX (aH.env u [] (E'++f.E)++_) _;rw [en.ff] at b3;have e2:az u [] E' (f.E++fr.F)=aH.env u [] (E'++f.E)++aH.env u [] fr.F:=by show aH.env u [] E'++aH.env u [] (f.E++fr.F)=_;rw [oW,oW,bb]
        rw [<-e2,en.ff];exact b3
      .cases B
     .rw [nV v] at z;have:=vY hK en.ag en.le en.ff en.fh en.fn e st' ρ' w' I M z C;exact iz v this
  next T Z=>exact N T h
  .obtain ⟨st',k1,k2,k3,k4⟩:=aiQ h;have hs':Sat (ab ρ [] st'.G++(ab ρ [] fr.H++Φ)) w:=by rw [k3];exact hs
   have Y:jR Q D fr Φ st'.c ρ r K:=by rw [k2];exact hK
   refine WC.nB _ (k4 ρ []) (bF (gf j t o x (st:=st') hs' k1 (λe st2 ρ' w' I M z C=>?_)));by_cases v:e= .nrm
   .subst v;exact bn (gf j t o y C z (Y.less I M))
   .rw [nV v] at z;exact iz v (Y e st2 ρ' w' I M z C)
  .exact N st.h h
 | .loop c,Q,fr,K,st,ρ,w,hs,h,hK=>by
  unfold den at h;split at h
  .rename_i tm p Z;obtain ⟨hl,S⟩:=aK h;obtain ⟨J,en⟩:=y8 (tm:=tm) (m:=cY c) hl hs;generalize enter fr tm (cY c) st=f at S en;split at S
   .rename_i s0 hb0;obtain ⟨u,E',V,k,DD,b1,b2,b3,b4⟩:=pA en.lF en.lH en.fx en.sat hb0;have eL:∀s E' V k DD,fZ (λn=>f.c+n) f.fix tm.vs 0 (ic _ s)=⟨E',V,k,DD⟩->df f tm s p=⟨f.c+k,E',rowsOf V,p⟩:=λs E' V k DD hb=>by unfold df;rw [hb]
    refine VI (γ:=aB) (λs g w'=>aZ f.c J g/\Sat (ab g [] (df f tm s p).G++(ab g [] f.fr.H++Φ)) w') (λs g=>az g [] (df f tm s p).E f.fr.F) S u ⟨b2,?_⟩ ?_ (λA s g w' U O=>?_)
    .rw [eL _ _ _ _ _ b1];exact b4
    .rw [eL _ _ _ _ _ b1];exact b3.trans en.sub
    .have hx:=gf j t o c (fr:=f.fr) (st:=df f tm s p) (ρ:=g) (Q:=Exit.then (P3 A r (λs g w'=>aZ f.c J g/\Sat (ab g [] (df f tm s p).G++(ab g [] f.fr.H++Φ)) w') (λs g=>az g [] (df f tm s p).E f.fr.F) fr.n D) Q) O.2 U (λe st' ρ' w2 I M z C=>?_)
     .rw [en.fn] at hx;exact hx
     .have W:f.c<=(df f tm s p).c:=by unfold df;generalize fZ (λn=>f.c+n) f.fix tm.vs 0 (ic _ s)=L;obtain ⟨a,b,c,d⟩:=L;exact qI _ _
      by_cases v:e= .nrm
      .subst v;have B:(match lI f tm st'.E st'.G with|some s=>A s|none=>none)=some r:=z;split at B
       .rename_i s' hb;obtain ⟨ρ3,E2,R2,k2,DD2,d1,d2,d3,d4⟩:=pA en.lF en.lH en.fx C hb;rw [en.fn];refine Py s' ρ3 B ⟨(O.1.trans (I.less W) (ch _)).trans d2 (ch _),?_⟩ ?_
        .rw [eL _ _ _ _ _ d1];exact d4
        .rw [eL _ _ _ _ _ d1];exact d3
       .cases B
      .rw [nV v] at z;have:=vY hK en.ag en.le en.ff en.fh en.fn e st' ρ' w2 (O.1.trans (I.less W) (ch _)) (cK W M) z C;exact iz v this
   .cases S
  .rename_i k T Z;refine VI (γ:=aB) (λs g w'=>aZ st.c ρ g/\st.c<=s.c/\Sat (ab g [] s.G++(ab g [] fr.H++Φ)) w') (λs g=>az g [] s.E fr.F) h ρ ⟨.refl,ch _,hs⟩ .refl (λA s g w' U O=>?_);refine gf j t o c (st:=s) O.2.2 U (λe st' ρ' w2 I M z C=>?_);by_cases v:e= .nrm
   .subst v;exact Py st' ρ' z ⟨O.1.trans I O.2.1,cK O.2.1 M,C⟩ .refl
   .rw [nV v] at z;exact iz v (hK e st' ρ' w2 (O.1.trans I O.2.1) (cK O.2.1 M) z C)
  .cases h
 | .region id ops false,Q,fr,K,st,ρ,w,hs,h,hK=>by
  unfold den at h;split at h
  .exact aiE (fr:=frL fr) (st:=stL fr st _) j t o (ar4 hs) h (aoP hK)
  .exact aiE j t o hs h hK
 | .region id ops true,Q,fr,K,st,ρ,w,hs,h,hK=>by
  unfold den at h;split at h
  next th T Z=>exact UI (st:={ st with h:=T }) j t o hs h hK
  .exact UI j t o hs h hK
 | .scope _,Q,fr,K,st,ρ,w,hs,h,hK=>by unfold den at h;cases h
 | .rangeFunc _ _ _ _,Q,fr,K,st,ρ,w,hs,h,hK=>by unfold den at h;cases h
end
def oB(l:Nat):Code->Bool
 | .label j=>j==l
 | .seq x y=>oB l x||oB l y
 |_=>false
theorem ar5{l:Nat}:(c:Code)->oB l c=false->findLabel c l=none:=λc=>by
 induction c with
 |label j=>
  intro h;unfold oB at h;unfold findLabel;rw [h];rfl
 |seq x y b a=>
  intro h;simp only [oB,qh] at h;simp only [findLabel,b h.1,a h.2]
 |_=>intro _;rfl
theorem adO{l:Nat}:(c:Code)->oB l c=true->∃r,findLabel c l=some r:=λc=>by
 induction c with
 |label j=>
  intro h;unfold oB at h;unfold findLabel;rw [h];exact ⟨_,rfl⟩
 |seq x y b a=>
  intro h;simp only [oB,dk] at h;unfold findLabel;cases hx:findLabel x l with
  |some r=>exact ⟨_,rfl⟩
  |none=>
   rcases h with h|h
   .obtain ⟨r,d⟩:=b h;rw [hx] at d;cases d
   .exact a h
 |_=>intro h;cases h
def ID(P:Program)(ρ:za)(l:Nat):Code->bD->bD
 | .seq x y,Q=>aC (oB l x) (ID P ρ l x (Exit.then (y.wpIn (FW ρ) 0 P Q) Q)) (ID P ρ l y Q)
 |_,Q=>Q
theorem aqx{P:Program}{ρ:za}{l:Nat}:(c:Code)->{r:Code}->{Q:bD}->{a:Act}->{w:World}->findLabel c l=some r->ID P ρ l c Q .normal a w->r.wpIn (FW ρ) 0 P Q a w:=λc=>by
 induction c with
 |label j=>
  intro r Q a w b h;unfold findLabel at b;split at b
  .cases b;exact wpIn_skip h
  .cases b
 |seq x y f e=>
  intro r Q a w b h;unfold ID at h;unfold findLabel at b;cases hx:oB l x
  .rw [hx] at h;rw [ar5 x hx] at b;exact e b h
  .rw [hx] at h;obtain ⟨g,d⟩:=adO x hx;rw [d] at b;cases b;exact wpIn_seq (f d h)
 |_=>intro r Q a w b h;cases b
def Eb(l:Nat):Code->Nat
 | .seq x y=>aC (oB l x) (Nat.lor (Eb l x) (cY y)) (Eb l y)
 |_=>0
def BX(st:aG):aG:=match st.h with
 | .s h=>{ st with h:=h }
 |_=>st
abbrev gtk{R:Type}(l:Nat)(A:aG->Option R)(K:XE->aG->Option R):XE->aG->Option R
 | .gto j,st=>aC (Nat.beq j l) (A st) none
 |e,st=>K e st
def Qu{R:Type}(X:Cx)(tb:List aq)(tp:List bR)(l:Nat)(fr:Fr):Code->(XE->aG->Option R)->aG->Option R
 | .seq x y,K,st=>aC (oB l x) (Qu X tb tp l fr x (wA (den X tb tp y fr K) K) st) (Qu X tb tp l fr y K st)
 | .label _,K,st=>K .nrm st
 |_,_,_=>none
def Pp{R:Type}(X:Cx)(tb:List aq)(tp:List bR)(l:Nat)(fr:Fr)(K:XE->aG->Option R)(KL:aG->Option R):Code->aG->Option R
 | .seq x y,st=>aC (oB l x) (Pp X tb tp l fr K KL x (BX st)) (den X tb tp x fr (wA (λst=>Pp X tb tp l fr K KL y st) K) (BX st))
 | .label _,st=>KL st
 |_,_=>none
def aqk{R:Type}(X:Cx)(tb:List aq)(tp:List bR)(c:Code)(fr:Fr)(K:XE->aG->Option R)(st:aG):Option R:=match st.h with
 | .n l (.j tm p q)=>aC (oB l c) (
   Pp X tb tp l fr (gtk l (λ_=>none) K) (λst1=>aC (st1.low fr) (
     match lI (enter fr tm (Eb l c) st1) tm (enter fr tm (Eb l c) st1).Et (enter fr tm (Eb l c) st1).Gt with
     |some s=>aw (λagain s=>Qu X tb tp l (enter fr tm (Eb l c) st1).fr c (gtk l (λst'=>match lI (enter fr tm (Eb l c) st1) tm st'.E st'.G with
       |some s=>again s
       |none=>none) (λe st'=>K e (y7 e (enter fr tm (Eb l c) st1) st'))) (df (enter fr tm (Eb l c) st1) tm s q)) X.fl s
     |none=>none) none) c { st with h:=p }) none
 |_=>none
section
variable {X : Cx} {tb : List aq} {tp : List bR} {σ : za} {D : x3} {R : Type} {r : R} {Φ : Ctx}
theorem aix{Q:bD}{l n:Nat}{E:Env}{w:World}{e:XE}{ρ:aB}{J:Act->World->Prop}(a:∀j,e≠ .gto j)(h:Pv Q e ρ n D E w):Pv (Exit.jump l J Q) e ρ n D E w:=by cases e <;> first|exact ((a _) rfl).elim|exact h
theorem aog{l:Nat}(k:∀it∈X.Γ,it∈Φ)(o:∀e∈tb,e.Ok X.P X.Γ)(m:∀e∈tp,e.Ok X.P X.Γ):∀(c:Code) {Q:bD} {fr:Fr} {K:XE->aG->Option R} {st:aG} {ρ:aB} {w:World},Sat (ab ρ [] st.G++(ab ρ [] fr.H++Φ)) w->
  Qu X tb tp l fr c K st=some r->jR Q D fr Φ st.c ρ r K->∀a,Fits fr.n (az ρ [] st.E fr.F) a->a.defers=D->ID X.P σ l c Q .normal a w:=λc=>by
 induction c with
 |label j=>intro Q fr K st ρ w b h d a f hd;exact d .nrm st ρ w .refl (ch _) h b a f hd
 |seq x y i g=>
  intro Q fr K st ρ w b h d a f hd;unfold Qu at h;unfold ID;cases hx:oB l x
  .rw [hx] at h;exact g b h d a f hd
  .rw [hx] at h;refine i (Q:=Exit.then (y.wpIn (FW σ) 0 X.P Q) Q) b h (λe st' ρ' w' u t q s=>?_) a f hd;by_cases p:e= .nrm
   .subst p;exact bn (gf k o m y s q (d.less u t))
   .rw [nV p] at q;exact iz p (d e st' ρ' w' u t q s)
 |_=>intro Q fr K st ρ w b h;cases h
theorem ai7{st:aG}:(BX st).c=st.c/\(BX st).E=st.E/\(BX st).G=st.G:=by unfold BX;split <;> exact ⟨rfl,rfl,rfl⟩
theorem amA{l:Nat}(z:∀it∈X.Γ,it∈Φ)(B:∀e∈tb,e.Ok X.P X.Γ)(A:∀e∈tp,e.Ok X.P X.Γ){W:bD}{fr:Fr}{K:XE->aG->Option R}{Y:aG->Option R}{q:Nat}{ρ0:aB}(Z:jR W D fr Φ q ρ0 r K):∀(c:Code) {Q:bD} {st:aG} {ρ:aB} {w:World},
  (∀e (E:Env) (ρ:aB) w,e≠ .nrm->Pv W e ρ fr.n D E w->Pv Q e ρ fr.n D E w)->
  (∀st1 b f,aZ q ρ0 b->q<=st1.c->Y st1=some r->Sat (ab b [] st1.G++(ab b [] fr.H++Φ)) f->∀a,Fits fr.n (az b [] st1.E fr.F) a->a.defers=D->ID X.P σ l c Q .normal a f)->
  oB l c=true->aZ q ρ0 ρ->q<=st.c->Sat (ab ρ [] st.G++(ab ρ [] fr.H++Φ)) w->
  Pp X tb tp l fr K Y c st=some r->WC X.P σ c Q fr.n D (az ρ [] st.E fr.F) w:=λc=>by
 induction c with
 |label j=>intro Q st ρ w o p _ m d s h;exact aeh (λa k hd=>p st ρ w m d h s a k hd)
 |seq x y v u=>
  intro Q st ρ w o p t m d s h;obtain ⟨U,T,S⟩:=ai7 (st:=st);unfold Pp at h;cases hx:oB l x
  .rw [hx] at h;simp only [oB,hx,qs] at t;refine bF ?_;have:=gf (σ:=σ) (D:=D) z B A x (fr:=fr) (st:=BX st) (ρ:=ρ) (w:=w) (Q:=Exit.then (y.wpIn (FW σ) 0 X.P Q) Q) (by rw [S];exact s) h (λe st' ρ' w' O N M V=>?_)
   .rw [T] at this;exact this
   .rw [U] at O N;by_cases g:e= .nrm
    .subst g;refine bn (u o (λst1 b f L J I C a k hd=>?_) t (m.trans O d) (cK d N) V M);have:=p st1 b f L J I C a k hd;unfold ID at this;rw [hx] at this;exact this
    .rw [nV g] at M;exact iz g (o _ _ _ _ g (Z e st' ρ' w' (m.trans O d) (cK d N) M V))
  .rw [hx] at h;refine bF ?_;have:=v (Q:=Exit.then (y.wpIn (FW σ) 0 X.P Q) Q) (st:=BX st) (ρ:=ρ) (w:=w) (λe E ρ w i g=>iz i (o e E ρ w i g)) (λst1 b f L J I C a k hd=>?_) hx m (by rw [U];exact d) (by rw [S];exact s) h
   .rw [T] at this;exact this
   .have:=p st1 b f L J I C a k hd;unfold ID at this;rw [hx] at this;exact this
 |_=>intro Q st ρ w o p t;cases t
theorem asN{c:Code}{Q:bD}{K:XE->aG->Option R}{st:aG}{ρ:aB}{w:World}(Y:∀it∈X.Γ,it∈Φ)(htb:∀e∈tb,e.Ok X.P X.Γ)(Z:∀e∈tp,e.Ok X.P X.Γ)(hs:Sat (ab ρ [] st.G++(ab ρ [] fr.H++Φ)) w)
  (h:aqk X tb tp c fr K st=some r) (hK:jR Q D fr Φ st.c ρ r K):WC X.P σ (.scope c) Q fr.n D (az ρ [] st.E fr.F) w:=by
 unfold aqk at h;split at h
 .rename_i l tm p q hh;obtain ⟨B,h0⟩:=aK h;obtain ⟨rest,v⟩:=adO c B
  -- what holds at the label
  let F:En->(fy (iB tm.vs)->Option R)->fy (iB tm.vs)->Option R:=λf J s=>Qu X tb tp l f.fr c (gtk l (λst'=>match lI f tm st'.E st'.G with
     |some s=>J s
     |none=>none) (λe st'=>K e (y7 e f st'))) (df f tm s q)
  let I:Nat->Act->World->Prop:=λm a w=>∃(f:En) (o:aB),(f.fr.F=f.E++fr.F/\f.fr.H=f.G++fr.H/\f.fr.n=fr.n/\aH.low f.c f.fr.F=true/\bJ f.c f.fr.H=true/\(∀t q,f.fix t=some q->q.1.low f.c=true/\AV.cr f.c q.2=true))/\aZ st.c ρ o/\st.c<=f.c/\
   P3 (aw (F f) m) r (λs (g:aB) w'=>aZ f.c o g/\Sat (ab g [] (df f tm s q).G++(ab g [] f.fr.H++Φ)) w') (λs g=>az g [] (df f tm s q).E f.fr.F) fr.n D a w
  have i:∀m a w,I m a w->ID X.P σ l c (Exit.jump l (λC w'=>∃N<m,I N C w') Q) .normal a w:=by
   rintro m a w ⟨f,o,⟨ff,fh,fn,lF,lH,fx⟩,hag,hle,s,g,hm,hJ,hF,hD⟩;obtain ⟨N,rfl,hm'⟩:=OI hm;have eL:∀s E' R' k DD,fZ (λn=>f.c+n) f.fix tm.vs 0 (ic _ s)=⟨E',R',k,DD⟩->df f tm s q=⟨f.c+k,E',rowsOf R',q⟩:=λs E' R' k DD hb=>by unfold df;rw [hb]
   have hc:f.c<=(df f tm s q).c:=by unfold df;generalize fZ (λn=>f.c+n) f.fix tm.vs 0 (ic _ s)=L;obtain ⟨a,b,c,d⟩:=L;exact qI _ _
   refine aog (σ:=σ) (D:=D) Y htb Z c (fr:=f.fr) (st:=df f tm s q) (ρ:=g) (Q:=Exit.jump l (λC w'=>∃m''<N+1,I m'' C w') Q) hJ.2 hm' (λe st' ρ' w2 U T A S=>?_) a (by rw [fn];exact hF) hD;by_cases u:∃j,e= .gto j
   .obtain ⟨j,rfl⟩:=u;unfold gtk at A;obtain ⟨hj,O⟩:=aK A;have:=aS hj;subst this;dsimp only at O;split at O
    .rename_i s' hb;obtain ⟨V,E2,R2,k2,DD2,d1,d2,d3,d4⟩:=pA lF lH fx S hb;refine λa2' hf2 hd2=>⟨rfl,N,mV _,f,o,⟨ff,fh,fn,lF,lH,fx⟩,hag,hle,s',V,O,⟨(hJ.1.trans (U.less hc) (ch _)).trans d2 (ch _),?_⟩,?_,hd2⟩
     .rw [eL _ _ _ _ _ d1];exact d4
     .rw [fn] at hf2;show Fits fr.n (az V [] (df f tm s' q).E f.fr.F) a2';rw [eL _ _ _ _ _ d1];exact hf2.nB d3
    .cases O
   .have z:∀j,e≠ .gto j:=λj hj=>u ⟨j,hj⟩;have M:K e (y7 e f st')=some r:=by cases e <;> first|exact ((z _) rfl).elim|exact A
    exact aix z (vY hK hag hle ff fh fn e st' ρ' w2 (hJ.1.trans (U.less hc) (ch _)) (cK hc T) M S)
  refine λa hf hd=>WN l I v ?_ (λm a w hI=>aqx c v (i m a w hI))
  -- the way to the label
  have hK':jR (Exit.jump l (λa w=>∃m,I m a w) Q) D fr Φ st.c ρ r (gtk l (λ_=>none) K):=λe st1 ρ' w' U T A S=>by
   by_cases u:∃j,e= .gto j
   .obtain ⟨j,rfl⟩:=u;unfold gtk at A;obtain ⟨_,O⟩:=aK A;cases O
   .have z:∀j,e≠ .gto j:=λj hj=>u ⟨j,hj⟩;have M:K e st1=some r:=by cases e <;> first|exact ((z _) rfl).elim|exact A
    exact aix z (hK e st1 ρ' w' U T M S)
  refine amA (σ:=σ) Y htb Z hK' c (Q:=Exit.jump l (λa w=>∃m,I m a w) Q) (st:={ st with h:=p }) (ρ:=ρ) (λ_ _ _ _ _ h=>h) (λst1 ρ' w' U T A S C hf' hd'=>?_) B .refl (ch _) hs h0 a hf hd;obtain ⟨hl,h2⟩:=aK A;obtain ⟨o,en⟩:=y8 (tm:=tm) (m:=Eb l c) hl S;generalize enter fr tm (Eb l c) st1=f at h2 en;split at h2
  .rename_i s0 hb0;obtain ⟨W,E',R',k,DD,b1,b2,b3,b4⟩:=pA en.lF en.lH en.fx en.sat hb0;have eL:df f tm s0 q=⟨f.c+k,E',rowsOf R',q⟩:=by unfold df;rw [b1]
   have key:I X.fl C w':=by
    refine ⟨f,o,⟨en.ff,en.fh,en.fn,en.lF,en.lH,en.fx⟩,U.trans en.ag T,cK T en.le,s0,W,h2,⟨b2,?_⟩,?_,hd'⟩
    .rw [eL];exact b4
    .show Fits fr.n (az W [] (df f tm s0 q).E f.fr.F) C;rw [eL];exact hf'.nB (b3.trans en.sub)
   have mono:∀(c:Code) (Q1 Q2:bD),(∀e a w,Q1 e a w->Q2 e a w)->∀a w,ID X.P σ l c Q1 .normal a w->ID X.P σ l c Q2 .normal a w:=λc=>by
    induction c with
    |seq x y ihx ihy=>
     intro Q1 Q2 hq a w h;unfold ID at h ⊢;cases hx:oB l x
     .rw [hx] at h;exact ihy Q1 Q2 hq a w h
     .rw [hx] at h;refine ihx _ _ (λe a w u=>?_) a w h;cases e with
      |normal=>exact wpIn_mono u hq
      |_=>exact hq _ _ _ u
    |_=>intro Q1 Q2 hq a w h;exact hq _ _ _ h
   exact mono c _ _ (λe a w u=>by
    cases e <;> first|exact u|exact ⟨u.1,let ⟨N,_,hI⟩:=u.2;⟨N,hI⟩⟩) C w' (i X.fl C w' key)
  .cases h2
 .cases h
end
end
end Go.Proofs.YthhmkmmmbcjghaaGreatDoor
