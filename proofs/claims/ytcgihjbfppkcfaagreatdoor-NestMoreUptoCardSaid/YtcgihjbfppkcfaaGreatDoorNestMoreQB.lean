/- Own texts for NestMoreQ, cut and joined by a program. -/
import Derived.Test.YtcgihjbfppkcfaaGreatDoorNestMoreQA
import Derived.Lib.AppendStr
import Derived.Lib.UnsafeStr
import Derived.Lib.Builder
import Derived.Laws.Externs
import Derived.RecoverIn
set_option linter.all false
namespace Go.Proofs.YtcgihjbfppkcfaaGreatDoor
open IntKind (u8)
noncomputable section
variable {e t' : TypeId} {x y : Operand}
section
variable {P : Program} {E : Env} {w : World} {g : Bool}
variable {dst : ze} {ty : TypeId} {pos : String} {af : zg} {gd : wi}
abbrev C8(f:Bool)(b:Nat):Value:= .pointer (bif f then some ⟨b,0,none⟩ else none)
theorem ahe{t:TypeId}{f:Bool}{b:Nat}(ht:P.underlying t=some (.pointer e))(hx:aq E g x (C8 f b))(a:aq E g y (.pointer none)):
  bc P E g ⟨dst,.binOp .eql t x y t',ty,pos,af,gd⟩ w (.bool (!f)):=
 cC (P:=P) hx a (by
  rw [Sem.run_bind,gV rfl,Result.andThen_ok];have h:∀d:Nat,(Op.equalIn (d+1) t (C8 f b) (.pointer none)).run P w= .ok (!f) w:=λd=>by cases f <;> simp [Op.equalIn,run_underlying ht,C8]
  simp only [binOp];simp [Op.equal,Op.maxDepth,h 9999])
theorem ahq{t:TypeId}{f:Bool}{b n bytes:Nat}{z:Value}(ht:P.underlying t=some (.pointer e))(a:TI P e n bytes z)(hx:aq E g x (C8 f b))(c:aq E g y (.pointer (some ⟨b,0,none⟩))):
  bc P E g ⟨dst,.binOp .neq t x y t',ty,pos,af,gd⟩ w (.bool (!f)):=
 cC (P:=P) hx c (by
  rw [Sem.run_bind,gV rfl,Result.andThen_ok];obtain ⟨j,i,_⟩:=a.out;cases f
  .have h:∀d:Nat,(Op.equalIn (d+1) t (.pointer none) (.pointer (some ⟨b,0,none⟩))).run P w= .ok false w:=λd=>by simp [Op.equalIn,run_underlying ht]
   show (binOp .neq t (.pointer none) (.pointer (some ⟨b,0,none⟩))).run P w=_;simp only [binOp];simp [Op.equal,Op.maxDepth,h 9999]
  .exact Lib.run_neq_ptr_same w _ ht i)
theorem Vh{κ ν:Type}{ke:κ->Value}{vi:ν->Value}{t kt f:TypeId}{o:zd}{dd:Option (List (κ×ν))}(ht:P.underlying t=some (.map kt f))(hx:aq E g x (.map o))(c:aq E g y (.map none))(hm:sX ke vi w (.map o) dd):
  bc P E g ⟨dst,.binOp .eql t x y t',ty,pos,af,gd⟩ w (.bool (Option.isNone dd)):=
 cC (P:=P) hx c (by
  rw [Sem.run_bind,gV rfl,Result.andThen_ok];rcases hm with ⟨e,rfl⟩|⟨b,i,a,l,e,rfl,_,_⟩
  .cases e;have h:∀d:Nat,(Op.equalIn (d+1) t (.map none) (.map none)).run P w= .ok true w:=λd=>by simp [Op.equalIn,run_underlying ht]
   simp only [binOp];simp [Op.equal,Op.maxDepth,h 9999]
  .cases e;have h:∀d:Nat,(Op.equalIn (d+1) t (.map (some b)) (.map none)).run P w= .ok false w:=λd=>by simp [Op.equalIn,run_underlying ht]
   simp only [binOp];simp [Op.equal,Op.maxDepth,h 9999])
theorem SG{κ ν:Type}{ke:κ->Value}{vi:ν->Value}{t kt f:TypeId}{o:zd}{dd:Option (List (κ×ν))}(ht:P.underlying t=some (.map kt f))(hx:aq E g x (.map o))(c:aq E g y (.map none))(hm:sX ke vi w (.map o) dd):
  bc P E g ⟨dst,.binOp .neq t x y t',ty,pos,af,gd⟩ w (.bool (!(Option.isNone dd))):=
 cC (P:=P) hx c (by
  rw [Sem.run_bind,gV rfl,Result.andThen_ok];rcases hm with ⟨e,rfl⟩|⟨b,i,a,l,e,rfl,_,_⟩
  .cases e;have h:∀d:Nat,(Op.equalIn (d+1) t (.map none) (.map none)).run P w= .ok true w:=λd=>by simp [Op.equalIn,run_underlying ht]
   simp only [binOp];simp [Op.equal,Op.maxDepth,h 9999]
  .cases e;have h:∀d:Nat,(Op.equalIn (d+1) t (.map (some b)) (.map none)).run P w= .ok false w:=λd=>by simp [Op.equalIn,run_underlying ht]
   simp only [binOp];simp [Op.equal,Op.maxDepth,h 9999])
theorem adJ{t kt b:TypeId}(ht:P.underlying t=some (.map kt b))(hx:aq E g x (.map none))(a:aq E g y (.map none)):
  bc P E g ⟨dst,.binOp .eql t x y t',ty,pos,af,gd⟩ w (.bool true):=Vh (κ:=Unit) (ν:=Unit) (ke:=λ_=>undef) (vi:=λ_=>undef) (dd:=none) ht hx a (.inl ⟨rfl,rfl⟩)
theorem adA{t kt b:TypeId}(ht:P.underlying t=some (.map kt b))(hx:aq E g x (.map none))(a:aq E g y (.map none)):
  bc P E g ⟨dst,.binOp .neq t x y t',ty,pos,af,gd⟩ w (.bool false):=SG (κ:=Unit) (ν:=Unit) (ke:=λ_=>undef) (vi:=λ_=>undef) (dd:=none) ht hx a (.inl ⟨rfl,rfl⟩)
theorem Zr{s d e':TypeId}{b n bytes:Nat}{z:Value}{vs:zb}(h:P.underlying s=some (.pointer e))(hd:P.underlying d=some .unsafePointer)(c:TI P e n bytes z)(hn:Nat.blt 0 n=true)
  (hx:aq E g x (.pointer (some ⟨b,0,none⟩))) (hb:gG w b e' vs) (f:Nat.blt 0 vs.length=true):bc P E g ⟨dst,.convert s d x,ty,pos,af,gd⟩ w (.pointer (some ⟨b,0,none⟩)):=
 λn' a m l=>by
  obtain ⟨j,k,i,_⟩:=c.out;have sH:w.shape? b=some (e',vs.toArray.size):=by unfold World.shape?;rw [show w.heap[b]? =_ from hb]
  have p:0<n:=by simpa using hn
  have o:0<vs.length:=by simpa using f
  have:=Lib.run_to_unsafe (P:=P) w (cells:=vs.toArray.size) (⟨b,0,none⟩:Addr) h hd k (by omega) sH (by simpa using o);simp [execOp,hx n' a m l,this]
theorem V3{s d e':TypeId}{b n bytes:Nat}{z:Value}{vs:zb}(f:P.underlying s=some .unsafePointer)(hd:P.underlying d=some (.pointer e))(c:TI P e n bytes z)
  (hx:aq E g x (.pointer (some ⟨b,0,none⟩))) (hb:gG w b e' vs) (hl:liesAt P P.depth e' (vs.length/P.cellsOf e') 0 e 1=true):bc P E g ⟨dst,.convert s d x,ty,pos,af,gd⟩ w (.pointer (some ⟨b,0,none⟩)):=
 λn' a l k=>by
  obtain ⟨j,i,h,_⟩:=c.out;have sH:w.shape? b=some (e',vs.length):=by unfold World.shape?;rw [show w.heap[b]? =_ from hb];simp
  have:=Lib.run_from_unsafe (P:=P) w (⟨b,0,none⟩:Addr) f hd i sH hl;simp [execOp,hx n' a l k,this]
def amc(P:Program)(f:FuncId):Prop:= ∀(v:Value) (w:World),(callFunc f #[v]).run P w= .ok (.value v) w
theorem akQ{f:FuncId}{v:Value}{tys:Array TypeId}(hS:amc P f)(hx:aq E g x v):bc P E g ⟨dst,.call ⟨.value (.func f),#[x],tys⟩,ty,pos,af,gd⟩ w v:=
 λn' a c b=>by have:=hS v w;have e:a.eval (.func f)= .func (.func f) #[] #[]:=rfl;simp only [execOp,resolve,e,Deferred.ofValue,Sem.run_bind,Sem.run_pure,Result.andThen_ok,invoke];simpa [hx n' a c b] using this
end
theorem agu(s:aE):Lib.strCells ⟨s.toArray⟩=s.map λb=>Value.int .u8 (b.toNat:Int):=by simp [Lib.strCells]
theorem LI{M:Nat->Prop}{w:World}:∀s:aE,cX (RI .u8) M w (Lib.strCells ⟨s.toArray⟩) (aQ s):=λs=>by rw [agu];exact Mr s
theorem gM(s:aE):(aQ s).length=s.length:=by simp [aQ]
section
variable {P : Program} {w : World} {M : Nat -> Prop}
theorem Ae(t u q e:TypeId)(ht:P.underlying t=some (.slice e))(I:P.underlying u=some .string)(W:TI P e 1 1 (.int .u8 0))
  {v:Value} {xs:zk} {s:aE} (ho:ky (RI .u8) e M w v xs) (hM:∀b∈dT v,M b) (f:aH (xs.length+s.length) 1=true):
  ∃v' w',(Builtin.append_ #[t,u] q #[v,S s]).run P w= .ok v' w'/\mK (dT v) w w'/\(∀b∈dT v',b<w'.heap.size/\(b∈dT v\/w.heap.size<=b))/\
   (∀M',Mv M w M' w'->ky (RI .u8) e M' w' v' (xs++aQ s)):=by
 obtain ⟨i,hi,r,O,hz⟩:=W.out;simp only [aH,au,Nat.mul_one] at f;have hb1:=ei f.1;have Q:=ei f.2;have a:(⟨s.toArray⟩:ByteArray).size=s.length:=tS s;obtain ⟨cells,d,hA⟩:=ho;have J:cX (RI .u8) M w (Lib.strCells ⟨s.toArray⟩) (aQ s):=LI s;have R:=hA.append J;have h:(RI .u8).n=1:=rfl;have H:cells.length=xs.length:=by have:=hA.1;rw [h] at this;omega
 have F:(Lib.strCells ⟨s.toArray⟩).length=s.length:=by rw [Lib.strCells_length,a]
 have k:(cells++Lib.strCells ⟨s.toArray⟩).length=(xs++aQ s).length*1:=by simp [H,F,gM]
 have p:∀(lx:Nat),lx<xs.length+s.length->
   (w.drew.alloc (.cells (cells.toArray++(Lib.strCells ⟨s.toArray⟩).toArray++Builtin.zeroCells (Value.int .u8 0).cells (grownCap w (xs.length+s.length) lx e-(xs.length+s.length))) e)).ownsRow 0 e 1
    (.slice (some ⟨w.heap.size,0,none⟩) (xs.length+s.length) (grownCap w (xs.length+s.length) lx e)) (xs++aQ s).length (cells++Lib.strCells ⟨s.toArray⟩):=by
  intro lx hold;have Z:=grownCap_ge w (xs.length+s.length) lx e;have z:grownCap w (xs.length+s.length) lx e<=maxLen:=grownCap_le_maxLen w (xs.length+s.length) lx e (by simpa [maxLen] using Q);refine ⟨k,.inr ⟨w.heap.size,_,_,by simp [gM],pA _,heap_alloc_new w.drew _,by simpa [gM] using Z,z,?_,?_⟩⟩
  .have U:(Value.int u8 0).cells.size=1:=rfl;simp only [qV,qh,size_zeroCells,U,H,F];omega
  .simp only [Array.toList_append,cp];rw [<-cp,<-k];exact tA
 have B:∀o C,mK C w (w.drew.alloc o):=λo C=>⟨rfl,rfl,rfl,by simp,λb hb _=>heap_alloc_old w.drew o hb⟩;have A:∀(n cap:Nat) (o:Obj),∀b∈dT (.slice (some ⟨w.heap.size,0,none⟩) n cap),b<(w.drew.alloc o).heap.size/\(b∈dT v\/w.heap.size<=b):=λn cap o b hb=>by
  have:b=w.heap.size:=by simpa [dT,Value.ownBlock] using hb
  subst this;exact ⟨by simp,.inr (cK _)⟩
 by_cases hm:s.length=0
 .have Y:s=[]:=er hm;subst Y;refine ⟨v,w,?_,(Ext.refl w).xt _,λb hb=>⟨(d.lt b (by simpa [dT] using hb)).2,.inl hb⟩,λM' m=>⟨cells,by simpa [aQ] using d,by simpa [aQ] using hA.mv m⟩⟩;rcases d.2 with ⟨rfl,h0⟩|⟨g,cap,cur,rfl,_,T,D,z,N,_⟩
  .have K:=Lib.run_firstCells_string (P:=P) w 1 ⟨#[]⟩;have e0:(⟨#[]⟩:ByteArray).size=0:=rfl;rw [e0] at K;simp [S,Builtin.append_,run_underlying ht,run_underlying I,sizeOf,typeInfo,hi,r,Builtin.lenOf,K,ByteArray.size]
  .have K:=Lib.run_firstCells_string (P:=P) w 1 ⟨#[]⟩;have e0:(⟨#[]⟩:ByteArray).size=0:=rfl;rw [e0] at K;simp [S,Builtin.append_,run_underlying ht,run_underlying I,sizeOf,typeInfo,hi,r,Builtin.lenOf,K,ByteArray.size,storeCells,Lib.strCells,D]
 .rcases d.2 with ⟨rfl,h0⟩|⟨g,cap,cur,rfl,_,T,D,z,N,E⟩
  .have V:xs=[]:=er h0;subst V;have hc0:cells=[]:=er (by simpa using H);subst hc0;have G:=run_append_nil_string (P:=P) w t u q e i (.int .u8 0) ht I hi hz ⟨s.toArray⟩ (by rw [a];omega) (by rw [a];simp at Q;omega) (by rw [a,O];simp at hb1;omega);have y:=p 0 (by simp;omega);have e1:((⟨s.toArray⟩:ByteArray).data.map λb=>Value.int .u8 b.toNat)=(Lib.strCells ⟨s.toArray⟩).toArray:=by apply Array.ext';simp [Lib.strCells]
   rw [e1,a] at G;simp only [qe,mj,pF,tx] at y;exact ⟨_,_,G,B _ _,A _ _ _,λM' m=>⟨_,by simpa [h] using y,by simpa using J.mv m⟩⟩
  .by_cases c:xs.length+s.length<=cap
   .have L:cur.size=cap:=by simpa [h] using N
    have G:=Lib.run_append_room_string (P:=P) w t u q e i ht I hi r g xs.length cap cur T ⟨s.toArray⟩ (by rw [a];exact c) (by rw [a,L];exact c);refine ⟨_,_,G,⟨rfl,rfl,rfl,by simp,λb hb hbg=>setRow_other w g b _ (by simpa [dT,Value.ownBlock] using hbg)⟩,λb hb=>?_,λM' m=>⟨cells++Lib.strCells ⟨s.toArray⟩,⟨k,.inr ⟨g,cap,_,by simp [gM,a],pA _,setRow_heap w g cur _ e _ T,by simpa [gM] using c,z,?_,?_⟩⟩,R.mv m⟩⟩
    .have:b=g:=by simpa [dT,Value.ownBlock] using hb
     subst this;exact ⟨by simpa using (Array.getElem?_eq_some_iff.1 T).1,.inl (by simp [dT,Value.ownBlock])⟩
    .simp only [qh,et,dq,iQ,fb,F,a,h];omega
    .have X:cur.toList.take xs.length=cells:=by simpa [h] using E
     have e:∀(l:zb),l.toArray.toList=l:=λl=>by simp
     rw [e,X,h,<-k];exact tA
   .have holds:∀j x,cells[j]? =some x->w.cell? ((⟨g,0,none⟩:Addr).add j)=some x:=d.cells (g:=g) rfl;have G:=Lib.run_append_grow_string (P:=P) w t u q e i (.int .u8 0) ht I hi hz ⟨g,0,none⟩ xs.length cap cells (by rw [r];omega) holds ⟨s.toArray⟩ (by rw [a];omega) (by rw [a];omega)
     (by rw [a,O];exact growslice_fits (by omega) (by omega))
    have y:=p cap (by omega);rw [a] at G;exact ⟨_,_,G,B _ _,A _ _ _,λM' m=>⟨_,by simpa [h] using y,R.mv m⟩⟩
theorem CL(t u c e:TypeId)(ht:P.underlying t=some (.slice e))(p:P.underlying u=some .string)(k:TI P e 1 1 (.int .u8 0))
  {a0:Option Addr} {s:aE} (a:aH s.length 1=true):
  ((Builtin.append_ #[t,u] c #[.slice a0 0 0,S s]).run P w= .ok (.slice a0 0 0) w/\s=[])\/
  ∃g w',(Builtin.append_ #[t,u] c #[.slice a0 0 0,S s]).run P w= .ok g w'/\Ext w w'/\(∀b∈dT g,b<w'.heap.size/\w.heap.size<=b)/\(∀M',Mv M w M' w'->ky (RI .u8) e M' w' g (aQ s)):=by
 obtain ⟨i,hi,q,z,E⟩:=k.out;by_cases hm:s=[]
 .subst hm;refine .inl ⟨?_,rfl⟩;have B:=Lib.run_firstCells_string (P:=P) w 1 ⟨#[]⟩;have J:(⟨#[]⟩:ByteArray).size=0:=rfl;rw [J] at B;cases a0 <;> simp [S,Builtin.append_,run_underlying ht,run_underlying p,sizeOf,typeInfo,hi,q,Builtin.lenOf,B,ByteArray.size,storeCells,Lib.strCells]
 .refine .inr ?_;cases a0 with
  |none=>
   obtain ⟨g,w',l,hC,C,H⟩:=Ae (M:=M) (w:=w) t u c e ht p k (ky.nil) (s:=s) (λb hb=>by simp [dT,Value.ownBlock] at hb) (by simpa using a);refine ⟨g,w',l,⟨hC.os,hC.tape,hC.output,hC.size,λb hb=>hC.block b hb (by simp [dT,Value.ownBlock])⟩,λb hb=>⟨(C b hb).1,?_⟩,λM' m=>by simpa using H M' m⟩;rcases (C b hb).2 with h|h
   .simp [dT,Value.ownBlock] at h
   .exact h
  |some D=>
   have d:(⟨s.toArray⟩:ByteArray).size=s.length:=tS s;simp only [aH,au,Nat.mul_one] at a;have G:=ei a.1;have A:=ei a.2;have K:0<s.length:=List.length_pos_iff.2 hm;have l:=Lib.run_append_grow_string (P:=P) w t u c e i (.int .u8 0) ht p hi E D 0 0 [] (by simp) (by intro j v F;simp at F) ⟨s.toArray⟩ (by rw [d];omega) (by rw [d];omega) (by rw [d,z];exact growslice_fits (by omega) (by omega));rw [d] at l;simp only [mj] at l;have r:(Builtin.append_ #[t,u] c #[.slice (some D) 0 0,S s]).run P w=_:=l;have x:=grownCap_ge w s.length 0 e;have y:grownCap w s.length 0 e<=maxLen:=grownCap_le_maxLen w s.length 0 e (by simpa [maxLen] using A);have f:(Lib.strCells ⟨s.toArray⟩).length=s.length:=by rw [Lib.strCells_length,d]
   refine ⟨_,_,r,⟨rfl,rfl,rfl,by simp,λb hb=>heap_alloc_old w.drew _ hb⟩,λb hb=>?_,λM' m=>⟨Lib.strCells ⟨s.toArray⟩,⟨by simp [f,gM,RI],.inr ⟨w.heap.size,_,_,by simp [gM],pA _,heap_alloc_new w.drew _,by simpa [gM] using x,y,?_,?_⟩⟩,(LI s)⟩⟩
   .have:b=w.heap.size:=by simpa [dT,Value.ownBlock] using hb
    subst this;exact ⟨by simp,cK _⟩
   .have o:(Value.int u8 0).cells.size=1:=rfl;simp only [qV,qh,size_zeroCells,o,f,qe];show _=_*1;omega
   .have I:(aQ s).length*(RI .u8).n=(Lib.strCells ⟨s.toArray⟩).length:=by simp [gM,f,RI]
    rw [I];simp
end
section
variable {P : Program} {ρ : zd} {Q : bg} {n : Nat} {D : xg} {E : Env} {w : World} {ops : zf} {rest : zi} {Γ : Ctx} {i : Nat}
variable {d : Tmp} {ty : TypeId} {pos : String} {af : zg}
theorem ahD{v:Value}{t u:TypeId}{R:zl}{xs:zk}{s:aE}(H:Sat Γ w)(i:Nat)(hi:Γ[i]? =some (jS (RI .u8) e v xs R))
  (ht:P.underlying t=some (.slice e)) (G:P.underlying u=some .string) (o:TI P e 1 1 (.int .u8 0)) (hx:aq E true x v) (q:aq E true y (S s))
  (f:aH (xs.length+s.length) 1=true) (hn:Nat.blt d n=true)
  (h:∀(p:jU) l w',Sat (Γ.set i (jS (RI .u8) e (sl p) (xs++aQ s) l)) w'->WL P ρ ops Q n D rest ((d,true,sl p)::E) w'):
  WL P ρ ops Q n D (⟨some d,.call ⟨.builtin .append,#[x,y],#[t,u]⟩,ty,pos,af,none⟩::rest) E w:=by
 have key:∃c l w',pn P E ⟨some d,.call ⟨.builtin .append,#[x,y],#[t,u]⟩,ty,pos,af,none⟩ w c w'/\mK R w w'/\(∀b∈l,b<w'.heap.size/\(b∈R\/w.heap.size<=b))/\∀M',Mv Γ.M w M' w'->cj (RI .u8) e M' w' c (xs++aQ s) l:=by
  have k:=H.own hi;have J:∀b∈R,Γ.M b:=λb hb=>Ctx.lh hi hb;rcases k with ⟨rfl,B⟩|⟨rfl,rfl,⟨a0,rfl⟩,z⟩
  .obtain ⟨c,w',j,hC,F,k⟩:=Ae t u ty e ht G o B J f;exact ⟨c,dT c,w',(λn' a g=>by simp [execOp,resolve,invoke,builtin,hx n' a g rfl,q n' a g rfl,j]),hC,F,λM' m=>cj.of (k M' m)⟩
  .rcases CL (M:=Γ.M) (w:=w) t u ty e ht G o (a0:=a0) (s:=s) (by simpa using f) with ⟨j,rfl⟩|⟨c,w',j,K,I,k⟩
   .exact ⟨.slice a0 0 0,[],w,(λn' a g=>by simp [execOp,resolve,invoke,builtin,hx n' a g rfl,q n' a g rfl,j]),(Ext.refl w).xt _,(λb hb=>by cases hb),λM' m=>by simpa [aQ] using cj.empty (e:=e) (z.mv m)⟩
   .exact ⟨c,dT c,w',(λn' a g=>by simp [execOp,resolve,invoke,builtin,hx n' a g rfl,q n' a g rfl,j]),K.xt _,(λb hb=>⟨(I b hb).1,.inr (I b hb).2⟩),λM' m=>cj.of (by simpa using k M' m)⟩
 obtain ⟨c,l,w',j,hC,F,k⟩:=key;have hS:=H.mJ hi (new:=jS (RI .u8) e c (xs++aQ s) l) hC F (λM' m _=>k M' m);have r:∃p,c=sl p:=by have C:i<Γ.length:=(List.getElem?_eq_some_iff.1 hi).1;have B:=hS.own (i:=i) (A:=RI .u8) (e:=e) (v:=c) (xs:=xs++aQ s) (R:=l) (by rw [sj C]);obtain ⟨a,cap,r⟩:=B.len;exact ⟨(a,_,cap),r⟩
 obtain ⟨p,rfl⟩:=r;exact yc j rfl rfl rfl hn (h _ _ _ hS)
def Roomy(v:Value):Prop:= ∃g len cap,v= .slice (some ⟨g,0,none⟩) len (cap+1)
theorem ajB{g:Bool}{dst:ze}{gd:Option (Nat×Bool)}{v:jU}{c:Array TypeId}(hx:aq E g x (sl v))(h:g=true->Roomy (sl v)):bc P E g ⟨dst,.call ⟨.builtin .unsafeSliceData,#[x],c⟩,ty,pos,af,gd⟩ w (.pointer v.1):=
 λn a i d=>by obtain ⟨b,len,cap,e⟩:=h d;obtain ⟨k,f,j⟩:=v;simp only [sl,Value.slice.injEq] at e;obtain ⟨rfl,rfl,rfl⟩:=e;have:=Lib.run_unsafeSliceData_row (P:=P) w c ty ⟨b,0,none⟩ f (cap+1) (by omega);simp [execOp,resolve,invoke,builtin,hx n a i d,sl,this]
theorem Iz{P:Program}{w:World}:∀(l:zk) (a:Addr) (acc:ByteArray),(∀(j:Nat) (x:Int),l[j]? =some x->w.cell? (a.add j)=some (.int .u8 x))->
  (loadBytes a acc l.length).run P w= .ok ⟨acc.data++(strOf l).toArray⟩ w
 |[],a,acc,_=>by simp [loadBytes,strOf]
 |x::l,a,acc,h=>by
  have d:w.cell? a=some (.int .u8 x):=by have:=h 0 x rfl;simpa [Addr.add] using this
  have ih:=Iz (P:=P) l (a.add 1) (acc.push (UInt8.ofNat x.toNat)) (λj y c=>by
   have:=h (j+1) y (by simpa using c);have e:(a.add 1).add j=a.add (j+1):=by
    unfold Addr.add;by_cases b:j=0
    .subst b;simp
    .simp [b];omega
   rw [e];exact this)
  simp only [eb,loadBytes,Sem.run_bind,run_load,d,Result.andThen];have f:(x.toNat).toUInt8=UInt8.ofNat x.toNat:=rfl;rw [f,ih];congr 1;apply ByteArray.ext;simp [ByteArray.push,strOf]
end
open Go.Lib
theorem O{E:Env}{g:Bool}{t:Tmp}{v:Value}(h:look E t=some (true,v)):aq E g (.tmp t) v:=aq.t h
section
variable {P : Program} {ρ : zd} {Q : bg} {n : Nat} {D : xg} {E : Env} {w : World} {ops : zf} {rest : zi}
theorem Wo{o:Oper}{d:Tmp}{v:Value}(b:bc P E true o w v)(a:(j8 o,o.guard,o.dst,Nat.blt d n)=(true,none,some d,true))
  (h:WL P ρ ops Q n D rest ((d,true,v)::E) w):WL P ρ ops Q n D (o::rest) E w:=
 aL b (congrArg (·.1) a) (congrArg (·.2.1) a) (congrArg (·.2.2.1) a) (congrArg (·.2.2.2) a) h
end
variable {dd : TypeDesc} {v : Value}
def Dj{E A B:Type}(m:Option (Except E A))(k:A->Option (Except E B)):Option (Except E B):=m.bind λa=>match a with
 | .error p=>some (.error p)
 | .ok x=>k x
def gH{E A B:Type}(m:Option (Except E A))(kp:E->Option B)(k:A->Option B):Option B:=m.bind λa=>match a with
 | .error p=>kp p
 | .ok x=>k x
theorem ahs{E A B:Type}{m:Option (Except E A)}{b:E->Option B}{k:A->Option B}{r:B}(h:gH m b k=some r):(∃p,m=some (.error p)/\b p=some r)\/∃x,m=some (.ok x)/\k x=some r:=by
 cases m with
 |none=>cases h
 |some a=>
  cases a with
  |error p=>exact .inl ⟨p,rfl,h⟩
  |ok x=>exact .inr ⟨x,rfl,h⟩
abbrev kg(v:Value):xa:=[{ v:=v,recovered:=false }]
section
variable {P : Program} {ρ : zd} {Q : bg} {n : Nat} {D : xg} {E : Env} {w : World} {ops : zf} {rest : zi} {Φ : Ctx}
theorem alw{t:TypeId}{dst:ze}{ty:TypeId}{pos:String}{af:zg}(hx:aq E true x (.iface t v))
  (h:At Q (.panic (kg (.iface t v))) n D E w):WL P ρ ops Q n D (⟨dst,.panic x,ty,pos,af,none⟩::rest) E w:=λa b c=>
 wpListIn_plain rfl λK d=>ox rfl (by
  have e:(execOp a.eval (⟨dst,.panic x,ty,pos,af,none⟩:Oper)).run P w= .halt (.panic (.iface t v)) w:=by simp only [execOp,hx n a b rfl];rfl
  rw [e];exact h a b c)
theorem ahE{fn:Func}{S:Value->World->Prop}{Sp:xa->World->Prop}{ps:xa}(h:Sp ps w):D8 (BP P fn S Sp) ps [] w:=λa hd=>by show LeavesInM _ _ _ _ _ _ a.defers _ _;rw [hd];exact h
variable {g : Bool} {dst : ze} {ty : TypeId} {pos : String} {af : zg} {gd : wi}
theorem YB{s t:TypeId}(ht:P.underlying t=some dd)(hd:iV dd=false)(hx:aq E g x (.iface t v)):bc P E g ⟨dst,.typeAssert x s t true,ty,pos,af,gd⟩ w (.tuple #[v,.bool true]):=
 λn a c b=>by simp only [execOp,hx n a c b,Instr.typeAssert,Sem.run_bind,run_underlying ht,Result.andThen_ok];cases dd <;> first|(dsimp only;rw [du rfl];rfl)|(simp [iV] at hd)
theorem YY{z:Value}{s t:TypeId}{size bytes:Nat}(ht:P.underlying t=some dd)(hd:iV dd=false)(b:TI P t size bytes z)(hx:aq E g x .nilIface):bc P E g ⟨dst,.typeAssert x s t true,ty,pos,af,gd⟩ w (.tuple #[z,.bool false]):=
 λn a d c=>by simp only [execOp,hx n a d c,Instr.typeAssert,Sem.run_bind,run_underlying ht,Result.andThen_ok];cases dd <;> first|(simp [iV] at hd;done)|(simp only [Sem.run_bind,b.zero w,Result.andThen_ok,qT];rfl)
theorem YX{z:Value}{s t u:TypeId}{size bytes:Nat}(b:u≠t)(ht:P.underlying t=some dd)(hd:iV dd=false)(c:TI P t size bytes z)(hx:aq E g x (.iface u v)):bc P E g ⟨dst,.typeAssert x s t true,ty,pos,af,gd⟩ w (.tuple #[z,.bool false]):=
 λn a e d=>by simp only [execOp,hx n a e d,Instr.typeAssert,Sem.run_bind,run_underlying ht,Result.andThen_ok];cases dd <;> first|(simp [iV] at hd;done)|(dsimp only;rw [dk (by first|exact b|exact b.symm)];simp only [Sem.run_bind,c.zero w,Result.andThen_ok,qT];rfl)
def Oi(P:Program)(f:FuncId)(args:zb)(u:FrameMode)(w:World)(R:FrameMode->World->Prop):Prop:=
 CallsDIn (FW none) 0 P f args.toArray u w λe u' w'=>e= .returned (.tuple #[])/\R u' w'
abbrev P5(f:FuncId)(cap:zb):Deferred:={ target:= .fn (.func f) cap.toArray,args:= #[] }
theorem alW{f:FuncId}{fo:Operand}{cap:zb}{tys:Array TypeId}{ty:TypeId}{pos:String}{af:zg}(b:aq E true fo (.func (.func f) #[] cap.toArray))
  (h:WL P none ops Q n (P5 f cap::D) rest E w):WL P none ops Q n D (⟨none,.defer ⟨.value fo,#[],tys⟩,ty,pos,af,none⟩::rest) E w:=λa c g=>
 wpListIn_plain rfl λK d=>by
  refine ⟨λ_ _=>trivial,?_⟩;have e:((⟨none,.defer ⟨.value fo,#[],tys⟩,ty,pos,af,none⟩:Oper).semAt (FW none).round a.eval).run P w= .ok (.defer (P5 f cap)) w:=by show (execOp a.eval (⟨none,.defer ⟨.value fo,#[],tys⟩,ty,pos,af,none⟩:Oper)).run P w=_;simp only [execOp,resolve,b n a c rfl,Deferred.ofValue,Sem.run_bind,Sem.run_pure,Result.andThen_ok];rw [show (#[]++Array.map a.eval #[]:za)= #[] by simp]
  rw [e,Oper.uponIn_defer];refine d _ _ (h _ ⟨c.size,c.at_⟩ ?_);show P5 f cap::a.defers=_;rw [g]
theorem PR{a:Act}(h:Fits n E a)(ds:xg):Fits n E { a with defers:=ds }:=⟨h.size,h.at_⟩
theorem US{fn:Func}{f:FuncId}{cap:zb}{tmps:za}{R:Ending->World->Prop}{u:FrameMode}{ds:xg}(a:u≠ .run)(b:Enters P f)
  (c:Oi P f cap u w λu' w'=>LeavesInM (FW none) 0 P fn tmps R ds (settle u') w'):LeavesInM (FW none) 0 P fn tmps R (P5 f cap::ds) u w:=by
 refine ⟨a,.inr ⟨JP,.func f,cap.toArray,f,cap.toArray,rfl,?_,λ_ _=>trivial,?_⟩⟩
 .have:=b cap.toArray w;simpa [P5,invoke] using this
 .refine CallsDIn.mono c λe u' w' h=>?_;obtain ⟨rfl,h⟩:=h;exact h
theorem aio{fn:Func}{S:Value->World->Prop}{Sp:xa->World->Prop}{f:FuncId}{cap:zb}{T:World->Prop}(d:Enters P f)
  (g:Oi P f cap .returning w λu' w'=>u'= .returning/\T w') (h:∀w',T w'->At (BP P fn S Sp) .ret n [] E w'):At (BP P fn S Sp) .ret n [P5 f cap] E w:=λa c hd=>by
 show LeavesInM _ _ _ _ _ _ a.defers _ _;rw [hd];refine US (by simp) d (CallsDIn.mono g λe u' w' hx=>?_);obtain ⟨b,rfl,i⟩:=hx;exact ⟨b,h w' i { a with defers:=[] } (PR c []) rfl⟩
theorem afp{fn:Func}{S:Value->World->Prop}{Sp:xa->World->Prop}{f:FuncId}{cap:zb}{T:World->Prop}(d:Enters P f)
  (g:Oi P f cap (.panicking (kg v)) w λu' w'=>u'= .panicking [{ v:=v,recovered:=true }]/\T w') (h:∀w',T w'->At (BP P fn S Sp) .ret n [] E w'):At (BP P fn S Sp) (.panic (kg v)) n [P5 f cap] E w:=λa c hd=>by
 show LeavesInM _ _ _ _ _ _ a.defers _ _;rw [hd];refine US (by simp) d (CallsDIn.mono g λe u' w' hx=>?_);obtain ⟨b,rfl,i⟩:=hx;exact ⟨b,h w' i { a with defers:=[] } (PR c []) rfl⟩
def QB(T:World->Prop):bg:=λe a w=>match e with
 | .normal=>a.defers=[]/\T w
 | .ret=>a.defers=[]/\T w
 |_=>False
theorem asG{T:World->Prop}(h:T w):At (QB T) .normal n [] E w:=λ_ _ hd=>⟨hd,h⟩
theorem ar3{T:World->Prop}(h:T w):At (QB T) .ret n [] E w:=λ_ _ hd=>⟨hd,h⟩
def Ze(o:Oper):Bool:=match o.op with
 | .move _=>true
 | .assign _=>true
 | .alloc _=>true
 | .extract _ _=>true
 | .store _ _ _=>true
 | .typeAssert _ _ _ _=>true
 | .binOp .neq _ _ _ _=>true
 |_=>false
def aa7:Result Next->Prop
 | .ok (.value _) _=>True
 | .ok .skip _=>True
 | .halt _ _=>True
 |_=>False
theorem ary{m:Sem Value}{w:World}:aa7 ((do pure (Next.value (<-m)):Sem Next).run P w):=by rw [Sem.run_bind];cases m.run P w <;> trivial
theorem ar5{m:Sem Unit}{w:World}:aa7 ((do m;pure Next.skip:Sem Next).run P w):=by rw [Sem.run_bind];cases m.run P w <;> trivial
theorem anp{o:Oper}(h:Ze o=true)(ev:Operand->Value)(w:World):aa7 ((execOp ev o).run P w):=by obtain ⟨dst,op,ty,pos,af,g⟩:=o;cases op <;> first|(cases h;done)|exact ary|exact ar5|trivial
theorem aaE{ops:zf}{f:bg}{QS:Exit->Act->List Frame->World->Prop}{cs:List Frame}(hQ:∀e a w,f e a w->QS e a cs w):∀(l:zi) (k:Nat),l.all Ze=true->(∀j,l[j]? =ops[k+j]?)->∀(a:Act) (w:World),wpListIn (FW none) 0 P ops f l a w->
  wpOpsSIn (FW none) 0 P ops QS (List.range' k l.length) a cs w
 |[],k,_,_,a,w,h=>hQ _ _ _ h
 |o::l,k,hc,hk,a,w,h=>by
  have i:ops[k]? =some o:=by simpa using (hk 0).symm
  rw [qp,au] at hc;have ih:=aaE (ops:=ops) hQ l (k+1) hc.2 (λj=>by have:=hk (j+1);simpa [q8,Nat.add_comm 1 j] using this);rw [eb,List.range'_succ];simp only [wpOpsSIn,i];simp only [wpListIn] at h;refine ⟨λ_ _=>trivial,?_⟩;split at h
  .rename_i d;rw [du d];have c:=h.2;have b:=anp (P:=P) hc.1 a.eval w;rw [show (o.semAt (FW none).round a.eval)=execOp a.eval o from rfl] at c;generalize (execOp a.eval o).run P w=r at c b;cases r with
   |ok x w'=>
    cases x <;> first|exact b.elim|exact ih _ _ c
   |halt g w'=>
    cases g <;> first|exact hQ _ _ _ c|exact c.elim
  next d=>rw [dk d];exact ih _ _ h.2
theorem arM{fn:Func}{c₀:Frame}{cs:List Frame}{T:World->Prop}{u':FrameMode}(b:fn.results= #[]){e:Exit}{a:Act}{w:World}(h:QB T e a w):
  bodyPostS P fn c₀ cs (λe c w'=>e= .returned (.tuple #[])/\c=u'/\T w') e a ({ c₀ with mode:=u' }::cs) w:=by
 have d:(results fn a.tmps).run P w= .ok (.tuple #[]) w:=by rw [Vg,b];simp
 cases e <;> first|exact ⟨h.1,u',rfl,_,d,rfl,rfl,h.2⟩|exact h.elim
theorem WA{f:FuncId}{fn:Func}{id:Nat}{ops:zf}{l:zi}{y:Code}{d:Tmp}{ty:TypeId}{pos:String}{af:zg}{tys:Array TypeId}{cap:zb}{u u':FrameMode}{T:World->Prop}
  (I:P.funcs[f]? =some fn) (hb:fn.body=some (.seq (.region id ops false) y)) (c:ops.toList=⟨some d,.call ⟨.builtin .recover,#[],tys⟩,ty,pos,af,none⟩::l) (q:l.all Ze=true) (o:fn.results= #[]) (hn:fn.ntmps=n) (hl:Nat.ble cap.length n=true) (hd:Nat.blt d n=true)
  (H:(u= .returning/\u'= .returning/\v= .nilIface)\/(u= .panicking (kg v)/\u'= .panicking [{ v:=v,recovered:=true }]))
  (h:WL P none ops (Exit.then (y.wpIn (FW none) 0 P (QB T)) (QB T)) n [] l ((d,true,v)::iota 0 cap) w):Oi P f cap u w λr w'=>r=u'/\T w':=by
 refine callsDIn_of_wpSIn I hb trivial λc₀ cs F=>?_;have k:Fits n (iota 0 cap) { tmps:=cap.toArray++Array.replicate (fn.ntmps-cap.toArray.size) undef,defers:=[] }:=by
  refine ⟨?_,λt g v ht=>?_⟩
  .have:cap.length<=n:=by simpa using hl
   simp [hn];omega
  .obtain ⟨j,rfl,B,rfl⟩:=Od cap 0 t g v ht;have D:j<cap.length:=by
    rcases qE j cap.length with h|h
    .exact h
    .rw [l7 h] at B;cases B
   simp only [Cw,ca,mj,Array.getD_eq_getD_getElem?];rw [Array.getElem?_append_left (by simpa using D)];simp [B]
 have z:({ tmps:=cap.toArray++Array.replicate (fn.ntmps-cap.toArray.size) undef,defers:=[] }:Act).defers=[]:=rfl;generalize ({ tmps:=cap.toArray++Array.replicate (fn.ntmps-cap.toArray.size) undef,defers:=[] }:Act)=a0 at k z;refine wpSIn_seq (wpSIn_region ?_);have C:ops.size=l.length+1:=by rw [<-fb,c];rfl
 rw [C,List.range_eq_range',List.range'_succ];have K:ops[0]? =some ⟨some d,.call ⟨.builtin .recover,#[],tys⟩,ty,pos,af,none⟩:=by rw [<-so,c];rfl
 have D:∀j,l[j]? =ops[1+j]? :=λj=>by rw [<-so,c,Nat.add_comm 1 j];rfl
 have s:(execOp a0.eval (⟨some d,.call ⟨.builtin .recover,#[],tys⟩,ty,pos,af,none⟩:Oper)).run P w= .ok .recover w:=by simp [execOp,resolve,invoke,builtin]
 have x:Fits n ((d,true,v)::iota 0 cap) (a0.put (some d) v):=k.put (g:=true) (v:=v) hd;have m:=aaE (cs:={ c₀ with mode:=u' }::cs) (QS:=Exit.thenS (y.wpSIn (FW none) 0 P (bodyPostS P fn c₀ cs λe r w'=>e= .returned (.tuple #[])/\r=u'/\T w')) (bodyPostS P fn c₀ cs λe r w'=>e= .returned (.tuple #[])/\r=u'/\T w'))
  (λe a w p=>by
   cases e with
   |normal=>exact wpSIn_of_wpIn rfl (Code.wpIn_mono (λe a w p=>arM o p) p)
   |exit i=>exact False.elim p
   |goto i=>exact False.elim p
   |ret=>exact arM (P:=P) (c₀:=c₀) (cs:=cs) (u':=u') (T:=T) (e:= .ret) o p
   |panic i=>exact False.elim p
   |outgrown=>exact False.elim p) l 1 q D _ _ (h _ x z)
 simp only [wpOpsSIn,K];refine ⟨λ_ _=>trivial,?_⟩;rw [du (by simp [Region.wanted]),s];rcases H with ⟨A,G,J⟩|⟨A,G⟩
 .have b:recoverD (c₀::cs)=none:=by simp [recoverD,F,A]
  have E:({ c₀ with mode:=u' }:Frame)=c₀:=by rw [G,<-A,<-F]
  simp only [b];rw [E,J] at m;exact m
 .have b:recoverD (c₀::cs)=some (v,{ c₀ with mode:=u' }::cs):=by simp [recoverD,F,A,G,kg]
  simp only [b];exact m
end
variable {vs : zb} {w : World}
inductive Ex where
 |mk (op n at_:Int) (l:List Ex)
instance:Inhabited Ex:=⟨.mk 0 0 0 []⟩
def Ex.op:Ex->Int
 | .mk o _ _ _=>o
def Ex.n:Ex->Int
 | .mk _ n _ _=>n
def Ex.at_:Ex->Int
 | .mk _ _ a _=>a
def Ex.l:Ex->List Ex
 | .mk _ _ _ l=>l
mutual
def Ex.sz:Ex->Nat
 | .mk _ _ _ l=>xK l+1
def xK:List Ex->Nat
 |[]=>0
 |x::r=>Ex.sz x+xK r
end
theorem Ex.ahv(e:Ex):e.sz=xK e.l+1:=by cases e;simp only [Ex.sz,Ex.l]
inductive yh(M:Nat->Prop)(w:World):zb->Ex->Prop
 |nil (op n a:Int) (ad:Option Addr):yh M w [.int .i64 op,.int .i64 n,.int .i64 a,sl (ad,0,0)] (.mk op n a [])
 |some (op n a:Int) (l:List Ex) (b off cap:Nat) (cs:za) (e:TypeId) (fr:Nat×Nat) (hM:¬M b) (hb:w.heap[b]? =some (.cells cs e fr)) (hc:l.length<=cap) (ho:off+cap*4<=cs.size)
   (hl:((cs.toList.drop off).take (l.length*4)).length=l.length*4) (h:∀i (hi:i<l.length),yh M w ((((cs.toList.drop off).take (l.length*4)).drop (i*4)).take 4) l[i]):
   yh M w [.int .i64 op,.int .i64 n,.int .i64 a,sl (some ⟨b,off,none⟩,l.length,cap)] (.mk op n a l)
theorem yh.len{M:Nat->Prop}{x:Ex}(h:yh M w vs x):vs.length=4:=by cases h <;> rfl
theorem yh.mv{M M':Nat->Prop}{w':World}{x:Ex}(h:yh M w vs x)(m:Mv M w M' w'):yh M' w' vs x:=by
 induction h with
 |nil op n a k=>exact .nil op n a k
 |some op n a l b c cap cs e fr g hb f d hl _ ih=>
  obtain ⟨j,i⟩:=m.2 b (Array.getElem?_eq_some_iff.1 hb).1 g;exact .some op n a l b c cap cs e fr j (by rw [i];exact hb) f d hl ih
def KG:fm Ex where
 n:=4
 rd:=yh
 len:=yh.len
 one h:=by cases h <;> simp [Value.oneCell',sl]
 mv:=yh.mv
theorem KW{M:Nat->Prop}{x:Ex}(h:KG.rd M w vs x):∃v:jU,vs=[(.int .i64 x.op),(.int .i64 x.n),(.int .i64 x.at_),(sl v)]/\bT KG M w (sl v) x.l:=by
 cases h with
 |nil op n a i=>exact ⟨_,rfl,.inl ⟨⟨_,rfl⟩,rfl⟩⟩
 |some op n a l b c cap cs e fr g hb f d hl h=>exact ⟨_,rfl,.inr ⟨b,c,cap,cs,e,fr,rfl,g,hb,f,d,hl,h⟩⟩
theorem Qb{M:Nat->Prop}{op n a:Int}{l:List Ex}(h:(LU KG).rd M w [v] l):KG.rd M w [(.int .i64 op),(.int .i64 n),(.int .i64 a),v] (.mk op n a l):=by
 obtain ⟨p,hp,h⟩:=h;have d:v=sl p:=by simpa using hp
 subst d;rcases h with ⟨⟨k,h⟩,rfl⟩|⟨b,c,cap,cs,e,fr,h,j,hb,i,g,hl,f⟩
 .rw [h];exact .nil op n a k
 .rw [h];exact .some op n a l b c cap cs e fr j hb i g hl f
abbrev aD{α:Type}(c:Bool)(a b:α):α:=match c with
 |true=>a
 |false=>b
inductive Ty where
 |i (k:IntKind)
 |bo
 |s
 |un
 |n
 |p (x y:Ty)
 |l (x:Ty)
 |mp (k v:Ty)
 |ex
 deriving DecidableEq
def Ty.T:Ty->Type
 | .i _=>Int
 | .bo=>Bool
 | .s=>aE
 | .un=>Unit
 | .n=>Nat
 | .p x y=>x.T×y.T
 | .l x=>List x.T
 | .mp k v=>Option (List (k.T×v.T))
 | .ex=>Ex
def RNo(α:Type):fm α where
 n:=0
 rd _ _ _ _:=False
 len h:=h.elim
 one h:=h.elim
 mv h _:=h.elim
def RIf:fm Nat where
 n:=1
 rd _ _ vs x:=vs=[.iface x (.agg #[])]
 len h:=by rw [h];rfl
 one h:=by rw [h];simp [Value.oneCell']
 mv h _:=h
def Ty.rep:(t:Ty)->fm t.T
 | .i k=>RI k
 | .bo=>RB
 | .s=>RS
 | .un=>RU
 | .n=>RIf
 | .p x y=>RP x.rep y.rep
 | .l x=>LU x.rep
 | .mp _ _=>RNo _
 | .ex=>KG
structure cq where
 t:Ty
 x:t.T
def cq.as(t:Ty)(d:cq):Option t.T:=if h:d.t=t then some (h▸d.x) else none
theorem cq.OI{t:Ty}{d:cq}{x:t.T}(h:d.as t=some x):d=⟨t,x⟩:=by
 unfold cq.as at h;split at h
 .obtain ⟨t',y⟩:=d;grind
 .cases h
theorem cq.apq{t:Ty}{x:t.T}:cq.as t ⟨t,x⟩=some x:=by simp [cq.as]
inductive AV where
 |int (k:IntKind) (x:Int)
 |bool (x:Bool)
 |str (x:aE)
 |agg (l:List AV)
 |tuple (l:List AV)
 |ptr (id off:Nat)
 |sl (id:Nat)
 |adr (id off:Nat)
 |fn (f:FuncId) (a b:List AV)
 |ifc (t:TypeId) (v:AV)
 |mp (id:Nat)
 |gp (b:Nat)
 |nv (id:Nat)
 |sfp (id:Nat) (f:Bool)
 |raw (v:Value)
structure Nm where
 b:Nat
 v:jU
 a:Addr
 m:zd
 x:Value
 y:cq
abbrev ay:=Nat->Nm
def dB:Nm:=⟨0,(none,0,0),⟨0,0,none⟩,none,.bool false,⟨.un,()⟩⟩
mutual
def AV.val(ρ:ay):AV->Value
 | .int k x=> .int k x
 | .bool x=> .bool x
 | .str x=>S x
 | .agg l=> .agg (AV.al ρ l).toArray
 | .tuple l=> .tuple (AV.al ρ l).toArray
 | .ptr id off=> .pointer (some ⟨(ρ id).b,off,none⟩)
 | .sl id=>Go.Proofs.YtcgihjbfppkcfaaGreatDoor.sl (ρ id).v
 | .adr id off=> .pointer (some ((ρ id).a.add off))
 | .fn f a b=> .func (.func f) (AV.al ρ a).toArray (AV.al ρ b).toArray
 | .ifc t v=> .iface t (v.val ρ)
 | .mp id=> .map (ρ id).m
 | .gp b=> .pointer (some ⟨b,0,none⟩)
 | .nv id=>(ρ id).x
 | .sfp id f=>C8 f (ρ id).b
 | .raw v=>v
def AV.al(ρ:ay):List AV->zb
 |[]=>[]
 |v::l=>v.val ρ::AV.al ρ l
end
mutual
def AV.low(c:Nat):AV->Bool
 | .agg l|.tuple l=>AV.cn c l
 | .fn _ a b=>AV.cn c a&&AV.cn c b
 | .ifc _ v=>v.low c
 | .ptr id _|.sl id|.adr id _|.mp id|.nv id|.sfp id _=>Nat.blt id c
 |_=>true
def AV.cn(c:Nat):List AV->Bool
 |[]=>true
 |v::l=>v.low c&&AV.cn c l
end
def aS(c:Nat)(ρ ρ':ay):Prop:= ∀j,j<c->ρ' j=ρ j
theorem aS.refl{c:Nat}{ρ:ay}:aS c ρ ρ:=λ_ _=>rfl
theorem aS.trans{c d:Nat}{a b e:ay}(h:aS c a b)(k:aS d b e)(f:c<=d):aS c a e:=λj g=>(k j (gj g f)).trans (h j g)
theorem aS.less{c d:Nat}{a b:ay}(h:aS d a b)(e:c<=d):aS c a b:=λj f=>h j (gj f e)
mutual
theorem AV.pb{ρ ρ':ay}{c:Nat}(ha:aS c ρ ρ'):(v:AV)->v.low c=true->v.val ρ'=v.val ρ
 | .int _ _,_|.bool _,_|.str _,_|.raw _,_|.gp _,_=>by simp [AV.val]
 | .agg l,h=>by simp [AV.val];rw [AV.cd ha l (by grind [AV.low])]
 | .tuple l,h=>by simp [AV.val];rw [AV.cd ha l (by grind [AV.low])]
 | .fn _ a b,h=>by
  simp [AV.low,au] at h;simp only [AV.val];rw [AV.cd ha a h.1,AV.cd ha b h.2]
 | .ifc _ v,h=>by simp [AV.val];rw [AV.pb ha v (by grind [AV.low])]
 | .ptr _ _,h=>by simp [AV.val];rw [ha _ (by grind [AV.low,Nat.blt_eq])]
 | .sl _,h=>by simp [AV.val];rw [ha _ (by grind [AV.low,Nat.blt_eq])]
 | .adr _ _,h=>by simp [AV.val];rw [ha _ (by grind [AV.low,Nat.blt_eq])]
 | .mp _,h=>by simp [AV.val];rw [ha _ (by grind [AV.low,Nat.blt_eq])]
 | .nv _,h=>by simp [AV.val];rw [ha _ (by grind [AV.low,Nat.blt_eq])]
 | .sfp _ _,h=>by simp [AV.val];rw [ha _ (by grind [AV.low,Nat.blt_eq])]
theorem AV.cd{ρ ρ':ay}{c:Nat}(ha:aS c ρ ρ'):(l:List AV)->AV.cn c l=true->AV.al ρ' l=AV.al ρ l
 |[],_=>by simp [AV.al]
 |v::l,h=>by simp [AV.cn,au] at h;simp only [AV.al];rw [AV.pb ha v h.1,AV.cd ha l h.2]
end
mutual
theorem AV.hZ{c d:Nat}(e:c<=d):(v:AV)->v.low c=true->v.low d=true
 | .int _ _,_|.bool _,_|.str _,_|.raw _,_|.gp _,_=>by simp [AV.low]
 | .agg l,h=>by exact AV.mI e l h
 | .tuple l,h=>by exact AV.mI e l h
 | .fn _ a b,h=>by simp [AV.low,au] at h ⊢; exact ⟨AV.mI e a h.1,AV.mI e b h.2⟩
 | .ifc _ v,h=>by exact AV.hZ e v h
 | .ptr _ _,h=>by grind [AV.low,Nat.blt_eq]
 | .sl _,h=>by grind [AV.low,Nat.blt_eq]
 | .adr _ _,h=>by grind [AV.low,Nat.blt_eq]
 | .mp _,h=>by grind [AV.low,Nat.blt_eq]
 | .nv _,h=>by grind [AV.low,Nat.blt_eq]
 | .sfp _ _,h=>by grind [AV.low,Nat.blt_eq]
theorem AV.mI{c d:Nat}(a:c<=d):(l:List AV)->AV.cn c l=true->AV.cn d l=true
 |[],_=>by simp [AV.cn]
 |v::l,h=>by simp [AV.cn,au] at h ⊢;exact ⟨AV.hZ a v h.1,AV.mI a l h.2⟩
end
theorem P7{c:Nat}:{l m:List AV}->AV.cn c l=true->AV.cn c m=true->AV.cn c (l++m)=true
 |[],m,_,h=>h
 |v::l,m,h,k=>by simp [qa,AV.cn,au] at h ⊢;exact ⟨h.1,P7 h.2 k⟩
theorem AV.ab0{ρ:ay}{l:List AV}{i:Nat}{v:AV}(h:l[i]? =some v):(AV.al ρ l)[i]? =some (v.val ρ):=by
 induction l generalizing i with
 |nil=>simp at h
 |cons u l ih=>
  grind [AV.al,List.getElem?_cons_succ]
theorem AV.jQ{ρ:ay}:{l:List AV}->{k:Nat}->AV.al ρ (l.drop k)=(AV.al ρ l).drop k
 |l,0=>by simp
 |[],k+1=>by simp [AV.al]
 |v::l,k+1=>by simp;exact AV.jQ
theorem AV.mH{ρ:ay}:{l:List AV}->{k:Nat}->AV.al ρ (l.take k)=(AV.al ρ l).take k
 |l,0=>by simp [AV.al]
 |[],k+1=>by simp [AV.al]
 |v::l,k+1=>by simp [AV.al,q5];rw [AV.mH]
theorem AV.bG{ρ:ay}:{l:List AV}->(AV.al ρ l).length=l.length
 |[]=>by simp [AV.al]
 |v::l=>by simp [AV.al,AV.bG]
theorem dv{ρ:ay}:{l m:List AV}->AV.al ρ (l++m)=AV.al ρ l++AV.al ρ m
 |[],m=>by simp [AV.al]
 |v::l,m=>by simp [qa,AV.al];rw [dv]
abbrev GK:=Option (Nat×Bool)
inductive Row where
 |box (id:Nat) (t:TypeId) (vs:List AV)
 |sli (g:GK) (id:Nat) (t:Ty) (l:List t.T) (clip:Bool)
 |own (id:Nat) (t:Ty) (e:TypeId) (l:List t.T) (ver:Nat)
 |kn (g:GK) (q id ver:Nat) (t:Ty) (i:Int) (x:t.T)
 |elm (g:GK) (id:Nat) (vs:List AV)
 |mp (id:Nat) (k v:Ty) (d:Option (List (k.T×v.T)))
 |it (id:Nat) (s:aE) (p:Nat)
 |eq (id:Nat) (v:AV)
 |gone
inductive Pt where
 |int (k:IntKind)|bool|str
 |sli (t:Ty)
 |own (t:Ty) (e:TypeId) (m:Bool)
 |slr (n:Nat)
 |bx (t:TypeId) (off:Nat) (m:Bool) (vs:List Pt)
 |ptr (n off:Nat)
 |mp (k v:Ty) (m:Bool)
 |it
 |agg (l:List Pt)|cU (l:List Pt)
 |fn (f:FuncId) (a b:List Pt)
 |ifc (t:TypeId) (p:Pt)
 |nT (v:AV)
 |dat (t:Ty) (o:wb)
 |ifn
 |sfp
 |same
abbrev aF:=List (Nat×GK×AV)
structure Tm where
 vs:List (Bool×Nat×Pt)
 th:zl
inductive HT where
 |o
 |c (a b:HT)
 |l (t:Tm) (a:HT)
 |j (t:Tm) (a b:HT)
 |s (a:HT)
 |n (k:Nat) (a:HT)
 |r (th:zl) (a:HT)
structure aC where
 c:Nat
 E:aF
 G:List Row
 h:HT
structure Fr where
 F:aF
 H:List Row
 n:Nat
inductive XE where
 |nrm|ret
 |ext (i:Nat)
 |gto (l:Nat)
 |kg (v:AV)
 |panE (v:AV)
 |panL (v:AV)
def V2:Bool->Bool->Bool
 |true,b=>b
 |false,b=> !b
theorem aeq:{a b:Bool}->V2 a b=true->a=b
 |true,_,h=>h.symm
 |false,b,h=>by grind [V2]
theorem ai0:(a:Bool)->V2 a a=true
 |true=>rfl
 |false=>rfl
def GK.eq:GK->GK->Bool
 |none,none=>true
 |some (j,p),some (k,q)=>Nat.beq j k&&V2 p q
 |_,_=>false
theorem GK.eq_eq:{a b:GK}->a.eq b=true->a=b
 |none,none,_=>rfl
 |some (j,p),some (k,q),h=>by simp only [GK.eq,au] at h;rw [b0 h.1,aeq h.2]
abbrev aB:=List ((Nat×Bool)×GK×Nat×Bool)
def A7(p b:Bool):Bool:=match p with
 |true=>b
 |false=> !b
theorem OB(p b:Bool):A7 p b=(b==p):=by cases p <;> cases b <;> rfl
def aB.get:aB->GK->Bool
 |_,none=>true
 |[],some _=>false
 |(k,par,_,b)::T,some k'=>aD ( GK.eq (some k) (some k') ) ( (aB.get T par&&A7 k.2 b) )<|aB.get T (some k')
@[simp] theorem aB.get_none {T : aB} : T.get none = true := by cases T <;> rfl
theorem aB.QC{k:Nat×Bool}{par:GK}{rj:Nat}{b:Bool}{T:aB}{x:GK}(h:(!(GK.eq (some k) x))=true):aB.get ((k,par,rj,b)::T) x=T.get x:=by
 cases x with
 |none=>simp
 |some a=>
  grind [aB.get,GK.eq]
theorem GK.aeO:(k:Nat×Bool)->GK.eq (some k) (some k)=true:=λk=>by simp [GK.eq,ai0]
theorem aB.ani{k:Nat×Bool}{par:GK}{rj:Nat}{b:Bool}{T:aB}:aB.get ((k,par,rj,b)::T) (some k)=(T.get par&&A7 k.2 b):=by simp [aB.get,GK.aeO]
def B9(p:jU):zl:=match p.2.2 with
 |0=>[]
 |_+1=>dT (sl p)
section
variable {α : Type} {A : fm α} {e : TypeId} {M M' : Nat -> Prop} {w w' : World}
theorem cj.canon{p:jU}{xs:List α}{R:zl}(h:cj A e M w (sl p) xs R):(∀b∈B9 p,b∈R)/\∀(M':Nat->Prop) (w':World),cj A e M' w' (sl p) xs R->cj A e M' w' (sl p) xs (B9 p):=by
 obtain ⟨a,n,cap⟩:=p;cases cap with
 |zero=>
  refine ⟨λb hb=>(by cases hb),λM' w' d=>?_⟩;have hx:xs=[]:=by
   rcases d with ⟨_,d⟩|⟨_,d,_⟩
   .obtain ⟨cells,⟨_,j⟩,_⟩:=d;rcases j with ⟨_,q⟩|⟨g,c,cur,f,m,l,o,r⟩
    .grind
    .simp [sl] at f;grind
   .exact d
  obtain ⟨k,s,hl⟩:=d.len;simp [sl,Value.slice.injEq] at hl;have hn:n=0:=by rw [hl.2.1,hx];rfl
  subst hn;exact .inr ⟨rfl,hx,⟨a,rfl⟩,bT.emp⟩
 |succ c=>
  have key:∀(M':Nat->Prop) (w':World),cj A e M' w' (sl (a,n,c+1)) xs R->R=dT (sl (a,n,c+1)):=λM' w' d=>by
   rcases d with ⟨d,_⟩|⟨_,_,⟨k,d⟩,_⟩
   .exact d
   .simp only [sl,Value.slice.injEq] at d;omega
  have i:=key _ _ h;subst i;exact ⟨λb hb=>hb,λM' w' d=>d⟩
theorem cj.NU{p:jU}{xs:List α}{R:zl}(h:cj A e M w (sl p) xs R):cj A e M w (sl p) xs (B9 p):=h.canon.2 _ _ h
def tQ(A:fm α)(e:TypeId)(p:jU)(l:List α)(q:Prop):Item where
 own:=B9 p
 P M w:=cj A e M w (sl p) l (B9 p)/\q
 lt h:=h.1.lt
 db h m k _:=⟨h.1.db k m,h.2⟩
 cP:=false
 hp h:=by cases h
def MB(g:Bool)(A:fm α)(p:jU)(l:List α)(clip:Bool):Item where
 own:=[]
 P M w:=g=true->bT A M w (sl p) l/\(clip=true->p.2.2=l.length)
 lt _ b hb:=by cases hb
 db h m _ _:=λhg=>⟨(h hg).1.mv m,(h hg).2⟩
 cP:=true
 hp _:=rfl
def Zc(p:Prop):Item where
 own:=[]
 P _ _:=p
 lt _ b hb:=by cases hb
 db h _ _ _:=h
 cP:=true
 hp _:=rfl
end
def Hx:(t:Ty)->t.T->Value
 | .i k,x=> .int k x
 | .s,x=>S x
 | .bo,x=> .bool x
 |_,_=> .bool false
def Row.item(ρ:ay)(T:aB):Row->Item
 | .box id t vs=>Go.Proofs.YtcgihjbfppkcfaaGreatDoor.box (ρ id).b t (AV.al ρ vs)
 | .sli g id t l b=>MB (T.get g) t.rep (ρ id).v l b
 | .own id t e l ver=>tQ t.rep e (ρ id).v l ((ρ ver).y=⟨.l t,l⟩)
 | .kn g q id ver t i x=>Zc (T.get g=true->∃l:List t.T,(ρ ver).y=⟨.l t,l⟩/\idx l i=some x/\(ρ q).a=vk (Go.Proofs.YtcgihjbfppkcfaaGreatDoor.sl (ρ id).v) i t.rep.n)
 | .elm g id vs=>elem (T.get g) (ρ id).a (AV.al ρ vs)
 | .mp id k v d=>omap (Hx k) (Hx v) (.map (ρ id).m) d
 | .it id s p=>iter (ρ id).b s p
 | .eq id v=>Zc ((ρ id).x=v.val ρ)
 | .gone=>Zc True
abbrev ab(ρ:ay)(T:aB)(G:List Row):Ctx:=G.map (Row.item ρ T)
def Row.low(c:Nat):Row->Bool
 | .box id _ vs=>Nat.blt id c&&AV.cn c vs
 | .sli _ id _ _ _|.mp id _ _ _|.it id _ _=>Nat.blt id c
 | .own id _ _ _ ver=>Nat.blt id c&&Nat.blt ver c
 | .kn _ q id ver _ _ _=>Nat.blt q c&&Nat.blt id c&&Nat.blt ver c
 | .elm _ id vs=>Nat.blt id c&&AV.cn c vs
 | .eq id v=>Nat.blt id c&&v.low c
 | .gone=>true
def bD(c:Nat):List Row->Bool
 |[]=>true
 |r::G=>r.low c&&bD c G
theorem Row.Dt{ρ ρ':ay}{T:aB}{c:Nat}(ha:aS c ρ ρ'){r:Row}(h:r.low c=true):r.item ρ' T=r.item ρ T:=by
 cases r <;> simp [Row.low,au,j0] at h
 .simp [Row.item];rw [ha _ h.1,AV.cd ha _ h.2]
 .simp [Row.item];rw [ha _ h]
 .simp [Row.item];rw [ha _ h.1,ha _ h.2]
 .simp [Row.item];rw [ha _ h.1.1,ha _ h.1.2,ha _ h.2]
 .simp [Row.item];rw [ha _ h.1,AV.cd ha _ h.2]
 .simp [Row.item];rw [ha _ h]
 .simp [Row.item];rw [ha _ h]
 .simp [Row.item];rw [ha _ h.1,AV.pb ha _ h.2]
 .simp [Row.item]
theorem ba{ρ ρ':ay}{T:aB}{c:Nat}(ha:aS c ρ ρ'):{G:List Row}->bD c G=true->ab ρ' T G=ab ρ T G
 |[],_=>rfl
 |r::G,h=>by simp [bD,au] at h;simp only [e9];rw [Row.Dt ha h.1];have:=ba (T:=T) ha h.2;grind
def aF.env(ρ:ay)(T:aB):aF->Env
 |[]=>[]
 |(t,g,v)::E=>(t,T.get g,v.val ρ)::aF.env ρ T E
def aF.low(c:Nat):aF->Bool
 |[]=>true
 |x::E=>x.2.2.low c&&aF.low c E
theorem uv{ρ ρ':ay}{T:aB}{c:Nat}(ha:aS c ρ ρ'):{E:aF}->E.low c=true->aF.env ρ' T E=aF.env ρ T E
 |[],_=>rfl
 |(t,g,v)::E,h=>by simp [aF.low,au] at h;simp only [aF.env];rw [AV.pb ha v h.1,uv ha h.2]
def aC.low(fr:Fr)(st:aC):Bool:=aF.low st.c st.E&&aF.low st.c fr.F&&bD st.c st.G&&bD st.c fr.H
def ay.set(ρ:ay)(j:Nat)(x:Nm):ay:=λi=>aD (Nat.beq i j) x (ρ i)
theorem ay.bK{ρ:ay}{j:Nat}{x:Nm}:ρ.set j x j=x:=by simp [ay.set]
theorem ay.aX{ρ:ay}{j:Nat}{x:Nm}:aS j ρ (ρ.set j x):=λi hi=>by grind [ay.set,Nat.beq,absurd,Nat.eq_of_beq_eq_true,Nat.ne_of_lt]
def lP(E' E:Env):Prop:= ∀t p,look E' t=some p->look E t=some p
theorem lP.refl{E:Env}:lP E E:=λ_ _ h=>h
theorem lP.trans{A B C:Env}(h:lP A B)(k:lP B C):lP A C:=λt p hp=>k t p (h t p hp)
theorem Fits.rE{n:Nat}{E E':Env}{a:Act}(h:Fits n E a)(b:lP E' E):Fits n E' a:=⟨h.size,λt g v ht=>h.at_ t g v (b t _ ht)⟩
theorem WC.rE{P:Program}{ρ:zd}{c:Code}{Q:bg}{n:Nat}{D:xg}{E:Env}{w:World}(E':Env)(b:lP E' E)(h:WC P ρ c Q n D E' w):WC P ρ c Q n D E w:=
 λa d hd=>h a (d.rE b) hd
theorem At.rE{e:Exit}{Q:bg}{n:Nat}{D:xg}{E:Env}{w:World}(E':Env)(b:lP E' E)(h:At Q e n D E' w):At Q e n D E w:=
 λa c hd=>h a (c.rE b) hd
theorem Ik{A B:Env}{t:Nat}:look (A++B) t=match look A t with
  |some p=>some p
  |none=>look B t:=by
 induction A with
 |nil=>rfl
 |cons x A ih=>
  simp [qa,look];grind
theorem sq{ρ:ay}{T:aB}:{E F:aF}->aF.env ρ T (E++F)=aF.env ρ T E++aF.env ρ T F
 |[],_=>rfl
 |(t,g,v)::E,F=>by simp [qa,aF.env];rw [sq]
theorem bh{ρ:ay}{T:aB}{G H:List Row}:ab ρ T (G++H)=ab ρ T G++ab ρ T H:=rJ
variable {Φ : Ctx} {ρ : ay}
theorem aI{α:Type}{c:Bool}{a:Option α}{r:α}(h:aD c a none=some r):c=true/\a=some r:=by grind
theorem O2{α:Type}{c:Bool}{a:Option α}{r:α}(h:aD c none a=some r):c=false/\a=some r:=by grind
theorem ek{α:Type}{c:Bool}{a b:Option α}{r:α}(h:aD c a b=some r):(c=true/\a=some r)\/(c=false/\b=some r):=by grind
def aB.imp:aB->GK->GK->Bool
 |_,_,none=>true
 |[],_,some _=>false
 |_,none,some _=>false
 |(k,par,_,_)::T,some g,some g'=>GK.eq (some g) (some g')||(aD ( GK.eq (some k) (some g) ) ( aB.imp T par (some g') )<|aB.imp T (some g) (some g'))&& !(GK.eq (some k) (some g'))
theorem aB.mV:{T:aB}->{g a:GK}->T.imp g a=true->T.get g=true->T.get a=true
 |T,g,none,_,_=>by simp
 |[],g,some a,h,_=>by simp [aB.imp] at h
 |_::_,none,some a,h,_=>by simp [aB.imp] at h
 |(k,par,rj,b)::T,some g,some a,h,hg=>by
  simp only [aB.imp,fi,au] at h;rcases h with h|⟨c,d⟩
  .grind [GK.eq_eq]
  .rw [aB.QC d];cases hb:GK.eq (some k) (some g)
   .rw [hb] at c;rw [aB.QC (by rw [hb];rfl)] at hg;exact aB.mV c hg
   .rw [hb] at c;simp [aB.get,hb,au] at hg;exact aB.mV c hg.1
def bC:aF->Nat->Option (GK×AV)
 |[],_=>none
 |(r,g,v)::E,t=>aD ( Nat.beq r t ) ( some (g,v) )<|bC E t
def ey(E F:aF)(t:Nat):Option (GK×AV):=match bC E t with
 |some x=>some x
 |none=>bC F t
theorem A5{ρ:ay}{T:aB}{t:Nat}:{E:aF}->look (aF.env ρ T E) t=(bC E t).map λx=>(T.get x.1,x.2.val ρ)
 |[]=>rfl
 |(r,g',v')::E=>by
  simp [bC,aF.env,look];cases hb:Nat.beq r t
  .exact A5
  .rfl
abbrev az(ρ:ay)(T:aB)(E F:aF):Env:=aF.env ρ T E++aF.env ρ T F
theorem ja{T:aB}{t:Nat}{E F:aF}:look (az ρ T E F) t=(ey E F t).map λx=>(T.get x.1,x.2.val ρ):=by grind [Ik,A5,ey,bC]
def nT:Value->AV
 | .int k x=> .int k x
 | .bool x=> .bool x
 | .string b=> .str b.data.toList
 |v=> .raw v
theorem aeU:(nT v).val ρ=v:=by cases v <;> simp [nT,AV.val,S]
theorem sg{ρ:ay}:{l:zb}->AV.al ρ (l.map nT)=l
 |[]=>by simp [AV.al]
 |v::l=>by simp only [e9,AV.al];rw [aeU,sg]
theorem apP{c:Nat}:(nT v).low c=true:=by cases v <;> simp [nT,AV.low]
theorem aau{c:Nat}:{l:zb}->AV.cn c (l.map nT)=true
 |[]=>by simp [AV.cn]
 |v::l=>by simp only [e9,AV.cn];rw [apP,aau];rfl
def bz(T:aB)(E F:aF)(g:GK):Operand->Option AV
 | .tmp t=>match ey E F t with
  |some x=>aD ( T.imp g x.1 ) ( some x.2 )<|none
  |none=>none
 | .const v=>some (nT v)
 | .func f=>some (.fn f [] [])
 | .global f=>some (.gp f)
theorem aP{T:aB}{E F:aF}{g:GK}{v:AV}(h:bz T E F g x=some v):aq (az ρ T E F) (T.get g) x (v.val ρ):=by
 cases x with
 |tmp t=>
  unfold bz at h;dsimp only at h;cases hl:ey E F t with
  |none=>rw [hl] at h;cases h
  |some x=>
   rw [hl] at h;obtain ⟨b,a⟩:=aI h;cases a;exact aq.g (by rw [ja,hl];rfl) (aB.mV b)
 |const u=>cases h;rw [aeU];exact aq.c
 |func f=>cases h;grind [AV.val,AV.al,aq.f]
 |global f=>cases h;grind [AV.val,aq.gl]
theorem bL{T:aB}{E F:aF}{v:AV}(h:bz T E F none x=some v):aq (az ρ T E F) true x (v.val ρ):=by have:=aP (ρ:=ρ) h;simp_all
def vN(T:aB)(E F:aF)(g:GK):x3->Option (List AV)
 |[]=>some []
 |x::l=>match bz T E F g x with
  |some v=>match vN T E F g l with
   |some vs=>some (v::vs)
   |none=>none
  |none=>none
theorem jT{ρ:ay}{T:aB}{E F:aF}{g:GK}:{xs:x3}->{vs:List AV}->vN T E F g xs=some vs->kl (az ρ T E F) (T.get g) xs (AV.al ρ vs)
 |[],vs,h=>by cases h;exact .nil
 |x::l,vs,h=>by
  unfold vN at h;split at h
  .rename_i v b;split at h
   next us a=>cases h;exact .cons (aP b) (jT a)
   .cases h
  .cases h
def tv(p:Row->Bool):List Row->Option (Nat×Row)
 |[]=>none
 |r::G=>aD ( p r ) ( some (0,r) )<|match tv p G with
  |some x=>some (x.1+1,x.2)
  |none=>none
theorem pz{p:Row->Bool}:{G:List Row}->{i:Nat}->{r:Row}->tv p G=some (i,r)->G[i]? =some r/\p r=true
 |[],_,_,h=>by cases h
 |r0::G,i,r,h=>by
  rcases ek h with ⟨b,a⟩|⟨b,a⟩
  .grind
  .split at a
   next x hx=>obtain ⟨d,c⟩:=pz hx;grind
   .cases a
def rD(id:Nat):Row->Bool
 | .sli _ j _ _ _|.own j _ _ _ _=>Nat.beq j id
 |_=>false
def Bq(id:Nat):Row->Bool
 | .box j _ _=>Nat.beq j id
 |_=>false
def afF(id:Nat):Row->Bool
 | .mp j _ _ _=>Nat.beq j id
 |_=>false
def arD(id:Nat):Row->Bool
 | .it j _ _=>Nat.beq j id
 |_=>false
def isEq(id:Nat):Row->Bool
 | .eq j _=>Nat.beq j id
 |_=>false
def Se(q:Nat):Row->Bool
 | .kn _ j _ _ _ _ _=>Nat.beq j q
 |_=>false
def as2(id:Nat):Row->Bool
 | .elm _ j _=>Nat.beq j id
 |_=>false
def Row.id:Row->Nat
 | .box j _ _|.sli _ j _ _ _|.own j _ _ _ _|.mp j _ _ _|.it j _ _|.eq j _|.elm _ j _|.kn _ j _ _ _ _ _=>j
 | .gone=>0
def Row.cP:Row->Bool
 | .sli ..|.elm ..|.eq ..|.kn ..|.gone=>true
 |_=>false
theorem Row.aj4{T:aB}{r:Row}(h:r.cP=true):(r.item ρ T).cP=true:=by cases r <;> first|rfl|cases h
theorem iM{T:aB}{G:List Row}{i:Nat}{r:Row}(h:G[i]? =some r):(ab ρ T G++Φ)[i]? =some (r.item ρ T):=by grind
theorem Xh{T:aB}{G H:List Row}{i:Nat}{r:Row}(h:H[i]? =some r):(ab ρ T G++(ab ρ T H++Φ))[G.length+i]? =some (r.item ρ T):=by grind
inductive Src where
 |top (i:Nat)
 |cB (i:Nat)
 |nilI (t:Ty)
 |nilO (t:Ty) (e:TypeId)
 |nilM (k v:Ty)
def eM(G H:List Row)(p:Row->Bool):Option (Src×Row):=match tv p G with
 |some x=>some (.top x.1,x.2)
 |none=>match tv p H with
  |some x=>some (.cB x.1,x.2)
  |none=>none
def Src.at_(G H:List Row):Src->Row->Prop
 | .top i,r=>G[i]? =some r
 | .cB i,r=>H[i]? =some r
 |_,_=>False
theorem bY{p:Row->Bool}{G H:List Row}{s:Src}{r:Row}(h:eM G H p=some (s,r)):s.at_ G H r/\p r=true:=by
 unfold eM at h;split at h
 next x hx=>cases h;exact pz hx
 .split at h
  next x hx=>cases h;exact pz hx
  .cases h
theorem Src.item{T:aB}{G H:List Row}{s:Src}{r:Row}(h:s.at_ G H r):∃i:Nat,(ab ρ T G++(ab ρ T H++Φ))[i]? =some (r.item ρ T):=by
 cases s with
 |top i=>exact ⟨i,iM h⟩
 |cB i=>exact ⟨G.length+i,Xh h⟩
 |nilI=>exact h.elim
 |nilO=>exact h.elim
 |nilM=>exact h.elim
theorem Src.holds{T:aB}{G H:List Row}{s:Src}{r:Row}(a:Sat (ab ρ T G++(ab ρ T H++Φ)) w)(h:s.at_ G H r):(r.item ρ T).P (Ctx.M (ab ρ T G++(ab ρ T H++Φ))) w:=by obtain ⟨i,hi⟩:=Src.item h;exact a.at_ hi
def wJ(n:Nat):zl->Bool
 |[]=>false
 |m::l=>Nat.beq n m||wJ n l
theorem Z4{n:Nat}:{l:zl}->(wJ n l=true↔n∈l)
 |[]=>by simp [wJ]
 |m::l=>by simp only [wJ,fi,qd];rw [Z4,Nat.beq_eq]
variable {cv : y2 × AV}
structure W7 where
 f:FuncId
 run:{R:Type}->List AV->List Row->aC->(AV->aC->Option R)->Option R
def W7.Ok(P:Program)(i:W7):Prop:=Enters P i.f/\∀{R:Type} (r:R) (args:List AV) (H:List Row) (st:aC) (K:AV->aC->Option R) (ρ:ay) (Φ:Ctx) (w:World),Sat (ab ρ [] st.G++(ab ρ [] H++Φ)) w->
 i.run args H st K=some r->ju P i.f (AV.al ρ args) w λv w'=>∃(ρ':ay) (st':aC) (av:AV),K av st'=some r/\aS st.c ρ ρ'/\st.c<=st'.c/\av.val ρ'=v/\Sat (ab ρ' [] st'.G++(ab ρ' [] H++Φ)) w'
structure Cx where
 P:Program
 tys:List (TypeId×Ty)
 gls:List (Nat×Nat×cq)
 ids:List FuncId
 idsOk:∀f,f∈ids->amc P f
 fl:Nat
 ks:List TypeId
 inl:List W7
 inlOk:∀i,i∈inl->i.Ok P
 oc:List (Nat×Nat):=[]
def DF{α:Type}:List (Nat×α)->Nat->Option α
 |[],_=>none
 |x::l,n=>aD ( Nat.beq x.1 n ) ( some x.2 )<|DF l n
def Ld{ρ:Type}(c:y2)(g:y2)(k:Option ρ):Option ρ:=match c with
 |none=>k
 |some c=>match g with
  |none=>aN c k
  |some g=>KU g c k
theorem tX{ρ:Type}{T:aB}{c:y2}{g:GK}{k:Option ρ}{r:ρ}(h:Ld c (g.map λ_=>T.get g) k=some r):(∀b,c=some b->T.get g=true->b=true)/\k=some r:=by
 unfold Ld at h;split at h
 .grind
 .split at h
  .grind [jE]
  .rename_i e a;cases g with
   |none=>cases a
   |some d=>
    grind [Option.some.injEq,ai6]
abbrev CV:=Option (y2×AV)
def pv(v:AV):CV:=some (none,v)
def jW(a b:IntKind):Bool:=decide (a=b)
theorem oq{a b:IntKind}(h:jW a b=true):a=b:=by simpa [jW] using h
def agJ(k k':IntKind)(m l:Int):BinOp->CV
 | .add=>aD ( jW k k' ) ( pv (.int k (k.wrap (m+l))) ) none
 | .sub=>aD ( jW k k' ) ( pv (.int k (k.wrap (m-l))) ) none
 | .mul=>aD ( jW k k' ) ( pv (.int k (k.wrap (m*l))) ) none
 | .quo=>aD ( jW k k' ) ( some (some (l != 0),.int k (k.wrap (m.tdiv l))) ) none
 | .rem=>aD ( jW k k' ) ( some (some (l != 0),.int k (m.tmod l)) ) none
 | .eql=>aD ( jW k k' ) ( pv (.bool (m==l)) ) none
 | .neq=>aD ( jW k k' ) ( pv (.bool (m != l)) ) none
 | .lss=>aD ( jW k k' ) ( pv (.bool (decide (m<l))) ) none
 | .leq=>aD ( jW k k' ) ( pv (.bool (decide (m<=l))) ) none
 | .gtr=>aD ( jW k k' ) ( pv (.bool (decide (l<m))) ) none
 | .geq=>aD ( jW k k' ) ( pv (.bool (decide (l<=m))) ) none
 | .shr=>some (some (decide (0<=l)),.int k (iP k m l))
 | .shl=>some (some (decide (0<=l)),.int k (lM k m l))
 | .and=>aD ( jW k k' ) ( pv (.int k (rm k m l)) ) none
 | .or=>aD ( jW k k' ) ( pv (.int k (vt k m l)) ) none
 | .xor=>aD ( jW k k' ) ( pv (.int k (Fe k m l)) ) none
 | .andNot=>aD ( jW k k' ) ( pv (.int k (aej k m l)) ) none
def ahL(m l:aE):BinOp->CV
 | .eql=>pv (.bool (m==l))
 | .neq=>pv (.bool (m != l))
 | .add=>some (some (aq8 m l),.str (m++l))
 | .lss=>pv (.bool (LL m l))
 | .leq=>pv (.bool (LL m l||m==l))
 | .gtr=>pv (.bool (!(LL m l||m==l)))
 | .geq=>pv (.bool (!(LL m l)))
 |_=>none
def aiI(m l:Bool):BinOp->CV
 | .eql=>pv (.bool (m==l))
 | .neq=>pv (.bool (m != l))
 |_=>none
def tyK(P:Program)(t:TypeId):Option IntKind:=match P.underlying t with
 |some (.int k)=>some k
 |_=>none
theorem Uy{P:Program}{t:TypeId}{k:IntKind}(h:tyK P t=some k):P.underlying t=some (.int k):=by grind [tyK]
def isStr(P:Program)(t:TypeId):Bool:=match P.underlying t with
 |some .string=>true
 |_=>false
theorem uu{P:Program}{t:TypeId}(h:isStr P t=true):P.underlying t=some .string:=by grind [isStr]
def isBool(P:Program)(t:TypeId):Bool:=match P.underlying t with
 |some .bool=>true
 |_=>false
theorem XT{P:Program}{t:TypeId}(h:isBool P t=true):P.underlying t=some .bool:=by grind [isBool]
def ama(P:Program)(t:TypeId):Bool:=match P.underlying t with
 |some _=>true
 |none=>false
theorem aro{P:Program}{t:TypeId}(h:ama P t=true):∃d,P.underlying t=some d:=by grind [ama]
def ahW(P:Program)(t:TypeId)(op:BinOp):AV->AV->CV
 | .int k m,.int k' l=>agJ k k' m l op
 | .str m,.str l=>ahL m l op
 | .bool m,.bool l=>aD ( isBool P t ) ( aiI m l op ) none
 |_,_=>none
def amv:UnOp->AV->CV
 | .not,.bool b=>pv (.bool (!b))
 | .neg,.int k m=>pv (.int k (k.wrap (0-m)))
 |_,_=>none
def an1:AV->Bool
 | .ptr _ _|.adr _ _|.fn _ _ _=>true
 |_=>false
def rO(P:Program)(Ev:Env)(ρ:ay)(g:Bool)(o:Oper)(w:World)(cv:y2×AV):Prop:=
 (∀b,cv.1=some b->g=true->b=true)->bc P Ev g o w (cv.2.val ρ)
section
variable {P : Program} {ρ : ay} {g : Bool} {w : World} {dst : ze} {ty : TypeId} {pos : String} {af : zg} {gd : wi} {Ev : Env}
theorem rO.pv{o:Oper}{v:AV}(h:pv v=some cv)(a:bc P Ev g o w (v.val ρ)):rO P Ev ρ g o w cv:=by cases h;exact λ_=>a
theorem ajD{t:TypeId}{op:BinOp}{k f:IntKind}{m l:Int}(hx:aq Ev g x (.int k m))(c:aq Ev g y (.int f l))(h:agJ k f m l op=some cv):
  rO P Ev ρ g ⟨dst,.binOp op t x y t',ty,pos,af,gd⟩ w cv:=by
 have key:∀{a:CV},aD (jW k f) a none=some cv->k=f/\a=some cv:=λh=>⟨oq (aI h).1,(aI h).2⟩;cases op <;> simp [agJ] at h
 case shr=>cases h;exact λe=>apN hx c (λd=>e _ rfl d)
 case shl=>cases h;exact λe=>ap0 hx c (λd=>e _ rfl d)
 case quo=>
  obtain ⟨rfl,b⟩:=key h;cases b;exact λe n a i d=>aoU hx c (by grind) n a i d
 case rem=>
  obtain ⟨rfl,b⟩:=key h;cases b;exact λe n a i d=>aoH hx c (by grind) n a i d
 case add=>obtain ⟨rfl,b⟩:=key h;exact .pv b (xm hx c)
 case sub=>obtain ⟨rfl,b⟩:=key h;exact .pv b (afs hx c)
 case mul=>obtain ⟨rfl,b⟩:=key h;exact .pv b (ap5 hx c)
 case eql=>obtain ⟨rfl,b⟩:=key h;exact .pv b (xD hx c)
 case neq=>obtain ⟨rfl,b⟩:=key h;exact .pv b (aqd hx c)
 case lss=>obtain ⟨rfl,b⟩:=key h;exact .pv b (afr hx c)
 case leq=>obtain ⟨rfl,b⟩:=key h;exact .pv b (ao9 hx c)
 case gtr=>obtain ⟨rfl,b⟩:=key h;exact .pv b (WT hx c)
 case geq=>obtain ⟨rfl,b⟩:=key h;exact .pv b (aqk hx c)
 case and=>obtain ⟨rfl,b⟩:=key h;exact .pv b (alv hx c)
 case or=>obtain ⟨rfl,b⟩:=key h;exact .pv b (aqv hx c)
 case xor=>obtain ⟨rfl,b⟩:=key h;exact .pv b (ak1 hx c)
 case andNot=>obtain ⟨rfl,b⟩:=key h;exact .pv b (adb hx c)
theorem ai7{t:TypeId}{op:BinOp}{m l:aE}(hx:aq Ev g x (S m))(a:aq Ev g y (S l))(h:ahL m l op=some cv):
  rO P Ev ρ g ⟨dst,.binOp op t x y t',ty,pos,af,gd⟩ w cv:=by
 unfold ahL at h;split at h
 .exact .pv h (aoN hx a)
 .exact .pv h (aqq hx a)
 .cases h;exact λc=>ao4 hx a (λb=>c _ rfl b)
 .exact .pv h (aps hx a)
 .exact .pv h (ao1 hx a)
 .exact .pv h (apX hx a)
 .exact .pv h (apU hx a)
 .cases h
theorem ajF{t:TypeId}{op:BinOp}{a b:AV}(hx:aq Ev g x (a.val ρ))(d:aq Ev g y (b.val ρ))(h:ahW P t op a b=some cv):
  rO P Ev ρ g ⟨dst,.binOp op t x y t',ty,pos,af,gd⟩ w cv:=by
 unfold ahW at h;split at h
 .grind [AV.val,ajD]
 .grind [AV.val,ai7]
 .obtain ⟨e,c⟩:=aI h;unfold aiI at c;split at c
  .exact .pv c (ap1 (XT e) hx d)
  .exact .pv c (apw (XT e) hx d)
  .cases c
 .cases h
theorem anW{t:TypeId}{op:UnOp}{u:AV}(hx:aq Ev g x (u.val ρ))(h:amv op u=some cv):
  rO P Ev ρ g ⟨dst,.unOp op t x,ty,pos,af,gd⟩ w cv:=by
 unfold amv at h;split at h
 .exact .pv h (acO hx)
 .exact .pv h (aqF hx)
 .cases h
theorem aiL{v:AV}(hx:aq Ev g x (v.val ρ))(h:an1 v=true):bc P Ev g ⟨dst,.nilCheck x,ty,pos,af,gd⟩ w (v.val ρ):=by
 cases v with
 |ptr id c=>grind [AV.val,acq]
 |adr id c=>grind [AV.val,acq]
 |fn f a b=>grind [AV.val,am1]
 |_=>cases h
end
def pH(P:Program)(t:TypeId):Option (Nat×Nat×Value):=match P.info? t with
 |some i=>match i.zero with
  |some z=>some (i.size,i.bytes,z)
  |none=>none
 |none=>none
theorem cT{P:Program}{t:TypeId}{n bytes:Nat}{z:Value}(h:pH P t=some (n,bytes,z)):TI P t n bytes z:=by
 unfold pH at h;split at h
 .rename_i i hi;split at h
  next b a=>cases h;simp [TI,hi,a]
  .cases h
 .cases h
def agK(P:Program)(t:TypeId)(k:Nat):Option (TypeId×Nat×Nat):=match P.underlying t with
 |some (.struct fs)=>match fs.toList[k]? with
  |some f=>match P.info? f.type with
   |some i=>some (f.type,f.offset,i.size)
   |none=>none
  |none=>none
 |_=>none
theorem aff{P:Program}{t ft:TypeId}{k a n:Nat}(h:agK P t k=some (ft,a,n)):∃fs f i,P.underlying t=some (.struct fs)/\fs[k]? =some f/\f.type=ft/\f.offset=a/\P.info? ft=some i/\i.size=n:=by unfold agK at h;grind
def n3(P:Program)(t:TypeId)(cs:List AV):Option AV:=match P.underlying t with
 |some d=>aD ( nn d ) ( (match pH P t with
   |some x=>aD ( Nat.ble x.1 cs.length ) ( some (.agg (cs.take x.1)) )<|none
   |none=>none)
  )<|cs.head?
 |none=>none
def dR:AV->List AV
 | .agg l=>l
 | .raw v=>v.cells.toList.map nT
 |v=>[v]
def MO:AV->Bool
 | .nv _=>false
 |_=>true
theorem BR{ρ:ay}{v:AV}(h:MO v=true):(v.val ρ).cells=(AV.al ρ (dR v)).toArray:=by
 cases v <;> simp [dR,AV.val] <;> try rfl
 .cases h
 .rw [sg]
def xF(vs:List AV)(k:Nat)(us:List AV):List AV:=vs.take k++us++vs.drop (k+us.length)
theorem Bx{ρ:ay}{vs us:List AV}{k:Nat}:sN (AV.al ρ vs) k (AV.al ρ us)=AV.al ρ (xF vs k us):=by simp [sN,xF,dv,AV.mH,AV.jQ,AV.bG]
def GF(place:Nat->Option (Nat×Nat)):List (Nat×AV)->List AV->Option (List AV)
 |[],cs=>some cs
 |(i,v)::l,cs=>match place i with
  |some (off,n)=>aD ( MO v&&(Nat.beq (dR v).length n&&Nat.ble (off+n) cs.length) ) ( GF place l (xF cs off (dR v)) )<|none
  |none=>none
theorem XM{a:Nat}:∀(us:zb) (k:Nat) (cs:zb),a+k+us.length<=cs.length->
  (us.zipIdx k).foldl (λcs (x:Value×Nat)=>cs.setIfInBounds (a+x.2) x.1) cs.toArray=(sN cs (a+k) us).toArray
 |[],k,cs,_=>by simp [sN]
 |u::us,k,cs,h=>by
  simp at h;simp;rw [XM us (k+1) (cs.set (a+k) u) (by grind)];simp [sN];have b:a+k<cs.length:=by omega
  have c:(cs.set (a+k) u).take (a+(k+1))=cs.take (a+k)++[u]:=by rw [show a+(k+1)=(a+k)+1 from rfl,qu,sj b,List.take_set_of_le (cK _)];rfl
  grind [List.drop_set_of_lt,List.length_cons]
theorem EL{ρ:ay}{a:Nat->Option (Nat×Nat)}:{ps:List (Nat×AV)}->{cs b:List AV}->GF a ps cs=some b->
  Instr.fill a (AV.al ρ cs).toArray (ps.map λp=>(p.1,p.2.val ρ))=some (AV.al ρ b).toArray
 |[],cs,b,h=>by cases h;rfl
 |(i,v)::l,cs,b,h=>by
  unfold GF at h;split at h
  .obtain ⟨c,f⟩:=aI h;simp at c;obtain ⟨d,j,g⟩:=c;have ih:=EL (ρ:=ρ) f;unfold Instr.fill;have e:=BR (ρ:=ρ) d;simp_all [XM,AV.bG,Bx]
  .cases h
def yS{α β:Type}(f:α->Option β):List α->Option (List β)
 |[]=>some []
 |x::l=>match f x with
  |some y=>match yS f l with
   |some ys=>some (y::ys)
   |none=>none
  |none=>none
theorem Xo{P:Program}{w:World}{α β:Type}{f:α->Sem β}{g:α->Option β}(a:∀x y,g x=some y->(f x).run P w= .ok y w):∀{l:List α} {ys:List β},yS g l=some ys->(l.mapM f).run P w= .ok ys w
 |[],ys,h=>by cases h;simp
 |x::l,ys,h=>by
  unfold yS at h;split at h
  .rename_i y c;split at h
   next zs b=>cases h;rw [List.mapM_cons,Sem.run_bind,a x y c,Result.andThen_ok,Sem.run_bind,Xo a b,Result.andThen_ok,Sem.run_pure]
   .cases h
  .cases h
theorem SN{P:Program}{w:World}{α β:Type}{f:α->Sem β}{g:α->Option β}(a:∀x y,g x=some y->(f x).run P w= .ok y w){l:Array α}{ys:List β}(h:yS g l.toList=some ys):(l.mapM f).run P w= .ok ys.toArray w:=by rw [Array.mapM_eq_mapM_toList,Sem.run_map,Xo a h];rfl
def aj2(P:Program)(f:Field):Option (Nat×Nat):=match P.info? f.type with
 |some i=>some (f.offset,i.size)
 |none=>none
def Zn(P:Program)(t:TypeId)(ps:List (Nat×AV)):Option (List AV):=match pH P t with
 |some z=>(match P.underlying t with
  |some (.struct fs)=>(match yS (aj2 P) fs.toList with
   |some pl=>GF (λi=>pl[i]?) ps (z.2.2.cells.toList.map nT)
   |none=>none)
  |some (.array _ e)=>(match P.info? e with
   |some i=>GF (λk=>some (k*i.size,i.size)) ps (z.2.2.cells.toList.map nT)
   |none=>none)
  |_=>none)
 |none=>none
theorem ajV{P:Program}{t:TypeId}{ρ:ay}{w:World}{ps:List (Nat×AV)}{cs:List AV}(h:Zn P t ps=some cs):
  (Instr.build t (ps.map λp=>(p.1,p.2.val ρ)).toArray).run P w= .ok (.agg (AV.al ρ cs).toArray) w:=by
 unfold Zn at h;split at h
 .rename_i z i;have c:=cT i;have g:=c.zero w;unfold Instr.build;split at h
  .rename_i l a;simp [run_underlying a];split at h
   .rename_i pl d;have m:(l.mapM λf=>do pure (f.offset,<-sizeOf f.type):Sem (Array (Nat×Nat))).run P w= .ok pl.toArray w:=SN (λf y b=>by
     unfold aj2 at b;split at b
     .simp_all [sizeOf,typeInfo]
     .cases b) d
    have j:=EL (ρ:=ρ) h;simp_all [sg,Result.andThen_ok]
   .cases h
  .rename_i k e a;simp [run_underlying a];split at h
   .have j:=EL (ρ:=ρ) h;simp_all [sg,sizeOf,typeInfo,Result.andThen_ok]
   .cases h
  .cases h
 .cases h
theorem Ki{ρ:ay}:∀(a:zl) (vs:List AV),(a.zip vs).map (λp=>(p.1,p.2.val ρ))=a.zip (AV.al ρ vs)
 |[],_=>by simp
 |_::_,[]=>by simp [AV.al]
 |i::a,v::vs=>by simp [List.zip_cons_cons,e9,AV.al];rw [Ki]
def gf(T:aB)(E F:aF):Prop:= ∀x,x∈T->ey E F x.2.2.1=some (x.2.1,.bool x.2.2.2)/\T.get (some x.1)=(T.get x.2.1&&A7 x.1.2 x.2.2.2)
def keyOf(r:Nat)(pol:Bool):aB->Option ((Nat×Bool)×GK×Nat×Bool)
 |[]=>none
 |x::T=>aD ( Nat.beq x.2.2.1 r&&V2 x.1.2 pol ) ( some x )<|keyOf r pol T
theorem abJ{r:Nat}{a:Bool}:{T:aB}->{x:(Nat×Bool)×GK×Nat×Bool}->keyOf r a T=some x->x∈T/\x.2.2.1=r/\x.1.2=a
 |[],x,h=>by cases h
 |y::T,x,h=>by
  rcases ek h with ⟨e,b⟩|⟨_,b⟩
  .grind [List.mem_cons_self,Nat.eq_of_beq_eq_true,aeq]
  .obtain ⟨d,c⟩:=abJ b;grind
def aou(T:aB)(E F:aF)(g:GK)(c x:Operand):Option (Bool×Bool):=match bz T E F g x with
 |some (.bool y)=>(match bz T E F g c with
  |some (.bool b)=>some (b,y)
  |_=>none)
 |_=>none
def anY(T:aB)(E F:aF)(g:GK)(pol:Bool)(c x:Operand):Option (Bool×Bool):=match c with
 | .tmp r=>(match keyOf r pol T with
  |some k=>aD ( T.imp g k.2.1 ) ( match bz T E F (some k.1) x with
    |some (.bool y)=>some (k.2.2.2,y)
    |_=>none
   ) none
  |none=>none)
 |_=>none
def Y5(T:aB)(E F:aF)(g:GK)(pol:Bool)(c x:Operand):Option (Bool×Bool):=match aou T E F g c x with
 |some y=>some y
 |none=>anY T E F g pol c x
theorem aa1{ρ:ay}{T:aB}{E F:aF}{g:GK}{d b y:Bool}{c:Operand}(s:gf T E F)(h:Y5 T E F g d c x=some (b,y)):
  aq (az ρ T E F) (T.get g) c (.bool b)/\aq (az ρ T E F) (T.get g&&A7 d b) x (.bool y):=by
 have j:∀{p q:Bool} {u:Value},aq (az ρ T E F) p x u->aq (az ρ T E F) (p&&q) x u:=λh n a i l=>h n a i (au _ _▸l).1;unfold Y5 at h;split at h
 .rename_i z e;unfold aou at e;split at e
  .rename_i o hx;split at e
   next C r=>have m:=aP (ρ:=ρ) hx;have f:=aP (ρ:=ρ) r;grind [AV.val]
   .cases e
  .cases e
 .unfold anY at h;split at h
  .split at h
   .rename_i k hk;obtain ⟨m,f⟩:=aI h;split at f
    next o hx=>cases f;obtain ⟨k1,B,A⟩:=abJ hk;obtain ⟨w,v⟩:=s _ k1;have t:=aP (ρ:=ρ) hx;refine ⟨aq.g (by grind [ja,AV.val]) (aB.mV m),λn a i l=>t n a i ?_⟩;grind [aB.mV]
    .cases f
   .cases h
  .cases h
def isF:Operand->Bool
 | .const (.bool b)=> !b
 |_=>false
def al0:Operand->Bool
 | .const (.bool b)=>b
 |_=>false
theorem aso(h:isF x=true):x= .const (.bool false):=by unfold isF at h;grind
theorem apY(h:al0 x=true):x= .const (.bool true):=by unfold al0 at h;grind
def OR(P:Program)(t:TypeId):Bool:=match P.underlying t with
 |some d=> !(iV d)
 |none=>false
theorem SY{P:Program}{t:TypeId}(h:OR P t=true):∃d,P.underlying t=some d/\iV d=false:=by grind [OR]
def loA(T:aB)(E F:aF)(g:GK):Option Operand->zc
 |none=>some 0
 |some y=>match bz T E F g y with
  |some (.int _ i)=>some i
  |_=>none
def PT(T:aB)(E F:aF)(g:GK):Option Operand->Option zc
 |none=>some none
 |some y=>match bz T E F g y with
  |some (.int _ i)=>some (some i)
  |_=>none
theorem Vl{ρ:ay}{T:aB}{E F:aF}{g:GK}{lo:Option Operand}{i:Int}(h:loA T E F g lo=some i):(match (motive:=Option Operand->Prop) lo with|none=>i=0|some y=>∃k,aq (az ρ T E F) (T.get g) y (.int k i)):=by
 cases lo with
 |none=>cases h;rfl
 |some y=>
  unfold loA at h;dsimp only at h;split at h
  next k j a=>have:=aP (ρ:=ρ) a;grind [AV.val]
  .cases h
theorem UT{ρ:ay}{T:aB}{E F:aF}{g:GK}{hi:Option Operand}{j:zc}{len:Nat}(h:PT T E F g hi=some j):(match (motive:=Option Operand->Prop) hi with|none=>(j.getD (len:Int))=(len:Int)|some y=>∃k,aq (az ρ T E F) (T.get g) y (.int k (j.getD (len:Int)))):=by
 cases hi with
 |none=>cases h;rfl
 |some y=>
  unfold PT at h;dsimp only at h;split at h
  next k j a=>have:=aP (ρ:=ρ) a;grind [AV.val]
  .cases h
def aaT(X:Cx)(T:aB)(E F:aF)(g:GK)(c:Callee)(xs:x3)(ts:List TypeId):CV:=match c,xs,ts with
 | .builtin .len,[x],[t]=>aD ( isStr X.P t ) ( (match bz T E F g x with
   |some (.str l)=>pv (.int .i64 (l.length:Int))
   |_=>none)
  ) none
 | .builtin .max,[x,y],[_,_]=>(match bz T E F g x,bz T E F g y with
  |some (.int k m),some (.int k' l)=>aD ( jW k k' ) ( pv (.int k (max m l)) ) none
  |_,_=>none)
 | .builtin .min,[x,y],[_,_]=>(match bz T E F g x,bz T E F g y with
  |some (.int k m),some (.int k' l)=>aD ( jW k k' ) ( pv (.int k (min m l)) ) none
  |_,_=>none)
 |_,_,_=>none
def akR(X:Cx)(T:aB)(E F:aF)(g:GK):Op->CV
 | .move x=>(match bz T E F g x with
  |some v=>pv v
  |none=>none)
 | .assign x=>(match bz T E F g x with
  |some v=>pv v
  |none=>none)
 | .pick c a b=>aD ( isF b ) ( (match Y5 T E F g true c a with
   |some y=>pv (.bool (y.1&&y.2))
   |none=>none)
  )<|aD ( al0 a ) ( (match Y5 T E F g false c b with
   |some y=>pv (.bool (y.1||y.2))
   |none=>none)
  ) none
 | .nilCheck x=>(match bz T E F g x with
  |some v=>aD ( an1 v ) ( pv v ) none
  |none=>none)
 | .extract x i=>(match bz T E F g x with
  |some (.tuple l)=>(match l[i]? with
   |some v=>pv v
   |none=>none)
  |_=>none)
 | .unOp op _ x=>(match bz T E F g x with
  |some v=>amv op v
  |none=>none)
 | .binOp op t x y _=>(match bz T E F g x with
  |some u=>(match bz T E F g y with
   |some v=>ahW X.P t op u v
   |none=>none)
  |none=>none)
 | .convert s d x=>(match bz T E F g x with
  |some (.int _ m)=>aD ( ama X.P s ) (match tyK X.P d with
   |some k=>pv (.int k (k.wrap m))
   |none=>none) none
  |_=>none)
 | .index t x y=>aD ( isStr X.P t ) ( (match bz T E F g x,bz T E F g y with
   |some (.str l),some (.int _ i)=>some (some (uN i l.length),.int .u8 (nk l i))
   |_,_=>none)
  ) none
 | .slice t x lo hi none=>aD ( isStr X.P t ) ( (match bz T E F g x with
   |some (.str l)=>(match loA T E F g lo with
    |some i=>(match PT T E F g hi with
     |some j=>some (some (df i (j.getD (l.length:Int)) l.length),.str (cut l i (j.getD (l.length:Int))))
     |none=>none)
    |none=>none)
   |_=>none)
  ) none
 | .field t x k=>(match bz T E F g x with
  |some (.agg cs)=>(match agK X.P t k with
   |some f=>(match n3 X.P f.1 (cs.drop f.2.1) with
    |some v=>pv v
    |none=>none)
   |none=>none)
  |_=>none)
 | .fieldAddr t x k=>(match agK X.P t k with
  |some f=>aD ( Nat.beq f.2.2 0 ) none (match bz T E F g x with
   |some (.ptr id o)=>pv (.ptr id (o+f.2.1))
   |some (.adr id o)=>pv (.adr id (o+f.2.1))
   |_=>none)
  |none=>none)
 | .build t ps=>(match vN T E F g (ps.toList.map (·.2)) with
  |some vs=>(match Zn X.P t ((ps.toList.map (·.1)).zip vs) with
   |some cs=>pv (.agg cs)
   |none=>none)
  |none=>none)
 | .makeFunc (.func f) a b=>(match vN T E F g a.toList with
  |some us=>(match vN T E F g b.toList with
   |some vs=>pv (.fn f us vs)
   |none=>none)
  |none=>none)
 | .makeInterface t x=>(match bz T E F g x with
  |some v=>aD ( OR X.P t ) ( pv (.ifc t v) ) none
  |none=>none)
 | .typeAssert x _ t false=>(match bz T E F g x with
  |some (.ifc t' v)=>aD ( Nat.beq t t'&&OR X.P t ) ( pv v ) none
  |_=>none)
 | .call c=>aaT X T E F g c.callee c.args.toList c.argTypes.toList
 |_=>none
theorem add_plain{b o k:Nat}:(⟨b,o,none⟩:Addr).add k=⟨b,o+k,none⟩:=by grind [Addr.add]
theorem add_add{a:Addr}{j k:Nat}:(a.add j).add k=a.add (j+k):=by
 by_cases b:j=0
 .simp_all [Addr.add]
 grind [Addr.add,Nat.add_assoc]
theorem head_get{α:Type}{l:List α}{v:α}(h:l.head? =some v):l[0]? =some v:=by
 cases l with
 |nil=>simp at h
 |cons a l=>simpa using h
section
variable {X : Cx} {ρ : ay} {T : aB} {E F : aF} {g : GK} {w : World} {dst : ze} {ty : TypeId} {pos : String} {af : zg} {gd : wi}
theorem su{t:TypeId}{a:Nat}{cs:List AV}{v:AV}(h:n3 X.P t (cs.drop a)=some v):∃d n bytes z,X.P.underlying t=some d/\(nn d=true->TI X.P t n bytes z)/\
  (if nn d then some (.agg (((AV.al ρ cs).drop a).take n).toArray) else (AV.al ρ cs)[a]?)=some (v.val ρ):=by
 unfold n3 at h;split at h
 .rename_i d hd;rcases ek h with ⟨e,b⟩|⟨e,b⟩
  .split at b
   next x hx=>obtain ⟨n,bytes,z⟩:=x;obtain ⟨f,c⟩:=aI b;cases c;refine ⟨d,n,bytes,z,hd,λ_=>cT hx,?_⟩;simp_all [AV.val,AV.mH,AV.jQ]
   .cases b
  simp_all [AV.ab0,AV.jQ]
 .cases h
theorem agG{c:Callee}{xs:Array Operand}{f:Array TypeId}(h:aaT X T E F g c xs.toList f.toList=some cv):
  rO X.P (az ρ T E F) ρ (T.get g) ⟨dst,.call ⟨c,xs,f⟩,ty,pos,af,gd⟩ w cv:=by
 obtain ⟨xs⟩:=xs;obtain ⟨f⟩:=f;unfold aaT at h;split at h
 .rename_i x t e d;subst e;subst d;obtain ⟨b,a⟩:=aI h;split at a
  next l hx=>have:=aP (ρ:=ρ) hx;exact .pv a (alV (uu b) this)
  .cases a
 .rename_i x y t t' e d;subst e;subst d;split at h
  next k m o l hx i=>obtain ⟨b,a⟩:=aI h;have:=oq b;subst this;have n:=aP (ρ:=ρ) hx;have j:=aP (ρ:=ρ) i;exact .pv a (akJ n j (akP _ _ _ _ _))
  .cases h
 .rename_i x y t t' e d;subst e;subst d;split at h
  next k m o l hx i=>obtain ⟨b,a⟩:=aI h;have:=oq b;subst this;have n:=aP (ρ:=ρ) hx;have j:=aP (ρ:=ρ) i;exact .pv a (akL n j (amR _ _ _ _ _))
  .cases h
 .cases h
theorem anI{op:Op}(R:gf T E F)(h:akR X T E F g op=some cv):
  rO X.P (az ρ T E F) ρ (T.get g) ⟨dst,op,ty,pos,af,gd⟩ w cv:=by
 unfold akR at h;split at h
 .split at h
  next v s=>exact .pv h (aM (aP s))
  .cases h
 .split at h
  next v s=>exact .pv h (dm (aP s))
  .cases h
 .rename_i c a b;rcases ek h with ⟨r,p⟩|⟨_,p⟩
  .have:=aso r;subst this;split at p
   next y B=>obtain ⟨k1,t⟩:=aa1 (ρ:=ρ) (b:=y.1) (y:=y.2) R B;exact .pv p (apJ k1 (by simpa [A7] using t))
   .cases p
  .obtain ⟨r,p⟩:=aI p;have:=apY r;subst this;split at p
   next y B=>obtain ⟨k1,t⟩:=aa1 (ρ:=ρ) (b:=y.1) (y:=y.2) R B;exact .pv p (aq3 k1 (by simpa [A7] using t))
   .cases p
 .split at h
  next v s=>obtain ⟨r,p⟩:=aI h;exact .pv p (aiL (aP s) r)
  .cases h
 .split at h
  .rename_i l s;split at h
   next v hl=>have q:=aP (ρ:=ρ) s;simp only [AV.val] at q;exact .pv h (ac7 q (AV.ab0 hl))
   .cases h
  .cases h
 .split at h
  next v s=>exact anW (aP s) h
  .cases h
 .split at h
  .rename_i u W;split at h
   next v s=>exact ajF (aP W) (aP s) h
   .cases h
  .cases h
 .split at h
  .rename_i k' m hx;obtain ⟨r,p⟩:=aI h;obtain ⟨ds,L⟩:=aro r;split at p
   next k hk=>have q:=aP (ρ:=ρ) hx;simp only [AV.val] at q;exact .pv p (Z1 L (Uy hk) q)
   .cases p
  .cases h
 .obtain ⟨r,p⟩:=aI h;split at p
  next l k i hx B=>have q:=aP (ρ:=ρ) hx;have S:=aP (ρ:=ρ) B;simp only [AV.val] at q S;cases p;exact λN=>alg (uu r) q S (λC=>N _ rfl C)
  .cases p
 .obtain ⟨r,p⟩:=aI h;split at p
  .rename_i l hx;split at p
   .rename_i i hi;split at p
    next j Y=>have q:=aP (ρ:=ρ) hx;simp only [AV.val] at q;cases p;exact λN=>aln (uu r) q (Vl hi) (UT Y) (λC=>N _ rfl C)
    .cases p
   .cases p
  .cases p
 .split at h
  .rename_i cs hx;split at h
   .rename_i f G;obtain ⟨ft,A,n⟩:=f;split at h
    .rename_i v s;obtain ⟨U,f,i,k1,t,I,H,Q,O⟩:=aff G;obtain ⟨d,n',bytes,z,c1,c2,J⟩:=su (ρ:=ρ) s;have q:=aP (ρ:=ρ) hx;simp only [AV.val] at q;cases hd:nn d
     .refine .pv h (λV a G C=>?_);have Z:=q V a G C;rw [hd] at J;simp only [eF,qn] at J;have hp:=ahS (P:=X.P) (w:=w) c1 hd J;subst I;subst H;simp only [execOp,Z,Instr.field,Sem.run_bind,run_underlying k1,Result.andThen_ok,t,asAgg,Sem.run_pure,hp]
     .exact .pv h (akb k1 t I H c1 (c2 hd) q J)
    .cases h
   .cases h
  .cases h
 .split at h
  .rename_i f G;obtain ⟨ft,A,n⟩:=f;obtain ⟨U,f,i,k1,t,I,H,Q,O⟩:=aff G;obtain ⟨r,p⟩:=O2 h;have D:adY X.P _ _ A:=⟨U,f,i,k1,t,H,by rw [I];exact Q,by rw [O];exact Nat.ne_of_beq_eq_false r⟩;split at p
   next id o hx=>have q:=aP (ρ:=ρ) hx;refine .pv p ?_;have:=Lz (dst:=dst) (ty:=ty) (pos:=pos) (af:=af) (gd:=gd) (w:=w) D q;rwa [add_plain] at this
   next id o hx=>have q:=aP (ρ:=ρ) hx;refine .pv p ?_;have:=Lz (dst:=dst) (ty:=ty) (pos:=pos) (af:=af) (gd:=gd) (w:=w) D q;rwa [add_add] at this
   .cases p
  .cases h
 .split at h
  .rename_i vs x;split at h
   .rename_i cs M;refine .pv h ?_;simp [AV.val];have q:=jT (ρ:=ρ) x;have:=ah9 (w:=w) (dst:=dst) (ty:=ty) (pos:=pos) (af:=af) (gd:=gd) q (λw=>by rw [<-Ki];exact ajV M)
    simpa using this
   .cases h
  .cases h
 .rename_i f a b;split at h
  .rename_i us K;split at h
   next vs x=>refine .pv h ?_;simp [AV.val];have:=Oe (P:=X.P) (w:=w) (dst:=dst) (ty:=ty) (pos:=pos) (af:=af) (gd:=gd) (fn:= .func f) (jT (ρ:=ρ) K) (jT x);simpa using this
   .cases h
  .cases h
 .split at h
  .obtain ⟨r,p⟩:=aI h;obtain ⟨d,k1,t⟩:=SY r;refine .pv p ?_;grind [AV.val,ade,aP]
  .cases h
 .split at h
  next t' v s=>obtain ⟨r,p⟩:=aI h;simp only [au] at r;obtain ⟨d,k1,t⟩:=SY r.2;have q:=aP (ρ:=ρ) s;have e:=b0 r.1;subst e;exact .pv p (adh k1 t q)
  .cases h
 .exact agG h
 .cases h
end
def yp(G H:List Row):AV->AV
 | .nv u=>(match eM G H (isEq u) with
  |some (_,.eq _ v)=>v
  |_=> .nv u)
 |v=>v
theorem ZT{ρ:ay}{T:aB}{G H:List Row}{Φ:Ctx}{w:World}(a:Sat (ab ρ T G++(ab ρ T H++Φ)) w){v:AV}:(yp G H v).val ρ=v.val ρ:=by
 unfold yp;split
 .rename_i u;split
  next s j e h=>obtain ⟨d,c⟩:=bY h;have b:=Src.holds a d;have:j=u:=b0 c;subst this;simp only [AV.val];exact b.symm
  .rfl
 .rfl
theorem M5{ρ:ay}{T:aB}{G H:List Row}{Φ:Ctx}{w:World}(a:Sat (ab ρ T G++(ab ρ T H++Φ)) w):(l:List AV)->AV.al ρ (l.map (yp G H))=AV.al ρ l
 |[]=>rfl
 |v::l=>by simp only [e9,AV.al];rw [ZT a,M5 a l]
def SZ:Ty->Bool
 | .i _|.bo|.s|.un|.n=>true
 | .p x y=>SZ x&&SZ y
 |_=>false
def BB:(t:Ty)->t.T->List AV
 | .i k,x=>[.int k x]
 | .bo,x=>[.bool x]
 | .s,x=>[.str x]
 | .n,x=>[.ifc x (.agg [])]
 | .p a b,x=>BB a x.1++BB b x.2
 |_,_=>[]
theorem Rb{ρ:ay}{M:Nat->Prop}{w:World}:(t:Ty)->(x:t.T)->(vs:zb)->SZ t=true->t.rep.rd M w vs x->vs=AV.al ρ (BB t x)
 | .i k,x,vs,_,h=>by simp only [BB,AV.al,AV.val];exact h
 | .bo,x,vs,_,h=>by simp only [BB,AV.al,AV.val];exact h
 | .s,x,vs,_,h=>by simp only [BB,AV.al,AV.val];exact h
 | .un,x,vs,_,h=>by simp only [BB,AV.al];exact h
 | .p a b,x,vs,hf,h=>by
  simp only [SZ,au] at hf;obtain ⟨us,c,rfl,e,d⟩:=h;rw [BB,dv,<-Rb a x.1 us hf.1 e,<-Rb b x.2 c hf.2 d]
 | .l _,_,_,hf,_=>by cases hf
 | .ex,_,_,hf,_=>by cases hf
 | .n,x,vs,_,h=>by simp only [BB,AV.al,AV.val];exact h
 | .mp _ _,_,_,hf,_=>by cases hf
def aak(T:aB)(G H:List Row)(g:GK)(q off:Nat):Option (List AV):=match eM G H (Se q) with
 |some (_,.kn g' _ id ver u _ x)=>aD ( T.imp g g'&&SZ u ) ( match eM G H (rD id) with
  |some (_,.own _ _ _ _ ver')=>aD ( Nat.beq ver ver' ) ( some ((BB u x).drop off) ) none
  |_=>none ) none
 |_=>none
theorem OG{t t':Ty}{l:List t.T}{l':List t'.T}{y:cq}(h:y=⟨.l t,l⟩)(a:y=⟨.l t',l'⟩):∃e:t=t',e▸l=l':=by rw [h] at a;cases a;exact ⟨rfl,rfl⟩
theorem ajZ{ρ:ay}{T:aB}{G H:List Row}{Φ:Ctx}{w:World}{g:GK}{q c:Nat}{vs:List AV}(p:Sat (ab ρ T G++(ab ρ T H++Φ)) w)(h:aak T G H g q c=some vs)(v:T.get g=true):
  bO w ((ρ q).a.add c) (AV.al ρ vs):=by
 unfold aak at h;split at h
 .rename_i s O q' id d u i t x;obtain ⟨n,m⟩:=aI h;simp only [au] at n;split at m
  next N f u' e l b k=>obtain ⟨A,z⟩:=aI m;cases z;obtain ⟨E,D⟩:=bY x;obtain ⟨C,B⟩:=bY k;have J:q'=q:=b0 D;have I:f=id:=b0 B;have e3:d=b:=b0 A;subst J;subst I;subst e3;obtain ⟨y,j⟩:=Src.holds p C;obtain ⟨l0,M,L,K⟩:=(Src.holds p E) (aB.mV n.1 v);obtain ⟨e4,r⟩:=OG M j;subst e4;simp only at r;subst r;obtain ⟨_,us,o,F⟩:=y.atA L;rw [Rb (ρ:=ρ) u t us n.2 F] at o;rw [<-K] at o;refine o.sub _ ?_;rw [AV.jQ,fa (cK _)]
  .cases m
 .cases h
def BQ(T:aB)(G H:List Row)(g:GK):AV->Option (List AV)
 | .ptr id off=>(match eM G H (Bq id) with
  |some (_,.box _ _ vs)=>some ((vs.drop off).map (yp G H))
  |_=>none)
 | .adr id off=>(match eM G H (as2 id) with
  |some (_,.elm g' _ vs)=>aD ( T.imp g g' ) ( some (vs.drop off) ) none
  |_=>aak T G H g id off)
 |_=>none
theorem NJ{ρ:ay}{T:aB}{G H:List Row}{Φ:Ctx}{w:World}{g:GK}{v:AV}{vs:List AV}(d:Sat (ab ρ T G++(ab ρ T H++Φ)) w)(h:BQ T G H g v=some vs)(k:T.get g=true):
  ∃p,v.val ρ= .pointer (some p)/\bO w p (AV.al ρ vs):=by
 have sub:∀{p:Addr} {us:List AV} {c:Nat},bO w p (AV.al ρ us)->bO w (p.add c) (AV.al ρ (us.drop c)):=λh=>by refine h.sub _ ?_;rw [AV.jQ,fa (cK _)]
 unfold BQ at h;split at h
 .rename_i id c;split at h
  next s j t us e=>cases h;obtain ⟨i,f⟩:=bY e;have:j=id:=b0 f;subst this;have hb:gG w (ρ j).b t (AV.al ρ us):=Src.holds d i;refine ⟨⟨(ρ j).b,c,none⟩,by simp only [AV.val],?_⟩;rw [M5 d,AV.jQ];exact hb.part c (by rw [fa (cK _)])
  .cases h
 .rename_i id c;split at h
  next s n j us e=>obtain ⟨m,l⟩:=aI h;cases l;obtain ⟨i,f⟩:=bY e;have:j=id:=b0 f;subst this;have hb:=Src.holds d i;exact ⟨_,by simp only [AV.val],sub (hb (aB.mV m k)).2⟩
  .exact ⟨(ρ id).a.add c,by simp only [AV.val],ajZ d h k⟩
 .cases h
def abT(t:Ty)(v:AV):Option t.T:=match t,v with
 | .i k,.int k' x=>aD ( jW k k' ) ( some x ) none
 | .s,.str x=>some x
 | .bo,.bool x=>some x
 |_,_=>none
theorem Wp{ρ:ay}{t:Ty}{v:AV}{x:t.T}(h:abT t v=some x):v.val ρ=Hx t x:=by
 unfold abT at h;split at h
 .obtain ⟨b,a⟩:=aI h;have:=oq b;subst this;cases a;simp only [AV.val];rfl
 .cases h;simp only [AV.val];rfl
 .cases h;simp only [AV.val];rfl
 .cases h
def af5(t:Ty)(x:t.T):AV:=match t,x with
 | .i k,x=> .int k x
 | .s,x=> .str x
 | .bo,x=> .bool x
 |_,_=> .bool false
theorem afb{ρ:ay}{t:Ty}{x:t.T}:(af5 t x).val ρ=Hx t x:=by cases t <;> simp only [af5,Hx,AV.val]
instance keyBEq(t:Ty):BEq t.T:=match t with
 | .i _=>(inferInstance:BEq Int)
 | .s=>(inferInstance:BEq aE)
 | .bo=>(inferInstance:BEq Bool)
 |_=>⟨λ_ _=>false⟩
def Ty.uy:(t:Ty)->t.T
 | .i _=>(0:Int)
 | .bo=>false
 | .s=>([]:aE)
 | .un=>()
 | .n=>(0:Nat)
 | .p x y=>(x.uy,y.uy)
 | .l x=>([]:List x.T)
 | .mp k v=>(none:Option (List (k.T×v.T)))
 | .ex=>Ex.mk 0 0 0 []
def afL(P:Program)(kt:TypeId)(k:Ty):Bool:=match k with
 | .i k=>(match tyK P kt with
  |some k'=>jW k k'
  |none=>false)
 | .s=>isStr P kt
 |_=>false
theorem WU{P:Program}{kt:TypeId}{k:Ty}(h:afL P kt k=true):FO P kt (Hx k):=by
 unfold afL at h;split at h
 .split at h
  next a hk=>have:=oq h;subst this;exact FO.int (Uy hk)
  .cases h
 .exact FO.str (uu h)
 .cases h
def ag0(v:Ty)(z:Value):Bool:=match v,z with
 | .i k,.int k' x=>jW k k'&&decide (x=0)
 | .bo,.bool b=> !b
 | .s,.string b=>b.data.toList.isEmpty
 |_,_=>false
theorem al5{v:Ty}{z:Value}(h:ag0 v z=true):z=Hx v v.uy:=by
 unfold ag0 at h;split at h
 .simp only [au,eT] at h;have:=oq h.1;subst this;rw [h.2];rfl
 .rename_i b;cases b
  .rfl
  .cases h
 .rename_i b;have:b.data.toList=[]:=by simpa using h
  show _=S [];unfold S;rw [<-this]
 .cases h
def VP(P:Program)(t:TypeId):Option (TypeId×TypeId):=match P.underlying t with
 |some (.map k v)=>some (k,v)
 |_=>none
theorem AQ{P:Program}{t:TypeId}{p:TypeId×TypeId}(h:VP P t=some p):P.underlying t=some (.map p.1 p.2):=by
 unfold VP at h;split at h
 next k v hk=>cases h;exact hk
 .cases h
def jr(P:Program)(t:TypeId):Option TypeId:=match P.underlying t with
 |some (.slice e)=>some e
 |_=>none
theorem cu{P:Program}{t:TypeId}(h:jr P t=some e):P.underlying t=some (.slice e):=by
 unfold jr at h;split at h
 next k hk=>cases h;exact hk
 .cases h
structure SlA where
 g:GK
 t:Ty
 l:List t.T
def Yd(G H:List Row)(id:Nat):Option SlA:=match eM G H (rD id) with
 |some (_,.sli g _ t l _)=>some ⟨g,t,l⟩
 |some (_,.own _ t _ l _)=>some ⟨none,t,l⟩
 |_=>none
theorem acS{ρ:ay}{T:aB}{G H:List Row}{Φ:Ctx}{w:World}{id:Nat}{s:SlA}(f:Sat (ab ρ T G++(ab ρ T H++Φ)) w)(h:Yd G H id=some s)(k:T.get s.g=true):
  (bT s.t.rep (Ctx.M (ab ρ T G++(ab ρ T H++Φ))) w (sl (ρ id).v) s.l)\/∃e,cj s.t.rep e (Ctx.M (ab ρ T G++(ab ρ T H++Φ))) w (sl (ρ id).v) s.l (B9 (ρ id).v):=by
 unfold Yd at h;split at h
 next i g j t l b a=>cases h;obtain ⟨d,c⟩:=bY a;have:j=id:=b0 c;subst this;exact .inl ((Src.holds f d) k).1
 next i j t e l ks a=>cases h;obtain ⟨d,c⟩:=bY a;have:j=id:=b0 c;subst this;exact .inr ⟨e,(Src.holds f d).1⟩
 .cases h
theorem VX{ρ:ay}{T:aB}{G H:List Row}{Φ:Ctx}{w:World}{id:Nat}{s:SlA}(a:Sat (ab ρ T G++(ab ρ T H++Φ)) w)(h:Yd G H id=some s)(b:T.get s.g=true):Qq (sl (ρ id).v) s.l.length:=by
 rcases acS a h b with h|⟨e,h⟩
 .exact h.len
 .exact h.len
theorem apy{ρ:ay}{T:aB}{G H:List Row}{Φ:Ctx}{w:World}{id:Nat}{s:SlA}(a:Sat (ab ρ T G++(ab ρ T H++Φ)) w)(h:Yd G H id=some s)(b:T.get s.g=true):bT s.t.rep (λ_=>False) w (sl (ρ id).v) s.l:=by
 rcases acS a h b with h|⟨e,h⟩
 .exact h.mv (Mv.weaken w λ_ h=>h.elim)
 .exact h.freeze (λ_ _ h=>h) (Mv.weaken w λ_ h=>h.elim)
def isU8:Ty->Bool
 | .i .u8=>true
 |_=>false
def alY(T:aB)(G H:List Row)(g:GK)(v:AV):Option zk:=match v with
 | .sl id=>(match Yd G H id with
  |some ⟨g',.i .u8,l⟩=>aD ( T.imp g g' ) ( some l ) none
  |_=>none)
 | .raw (.slice none 0 0)=>some []
 |_=>none
theorem apA{ρ:ay}{T:aB}{G H:List Row}{Φ:Ctx}{w:World}{g:GK}{v:AV}{l:zk}(a:Sat (ab ρ T G++(ab ρ T H++Φ)) w)(h:alY T G H g v=some l)(b:T.get g=true):bT (RI .u8) (λ_=>False) w (v.val ρ) l:=by
 unfold alY at h;split at h
 .split at h
  next e l' hl=>obtain ⟨d,c⟩:=aI h;cases c;have:=apy a hl (aB.mV d b);simp only [AV.val];exact this
  .cases h
 .cases h;simp only [AV.val];exact bT.nil
 .cases h
def abq(X:Cx)(T:aB)(E F:aF)(G H:List Row)(g:GK)(c:Callee)(xs:x3)(ts:List TypeId):CV:=match c,xs,ts with
 | .builtin .len,[x],[t]=>(match jr X.P t with
  |some _=>(match bz T E F g x with
   |some (.sl id)=>(match Yd G H id with
    |some s=>aD ( T.imp g s.g ) ( pv (.int .i64 (s.l.length:Int)) ) none
    |none=>none)
   |some (.raw (.slice none 0 0))=>pv (.int .i64 0)
   |_=>none)
  |none=>none)
 |_,_,_=>none
def afx(X:Cx)(T:aB)(E F:aF)(G H:List Row)(g:GK)(op:BinOp)(t:TypeId)(x y:Operand):CV:=match VP X.P t with
 |some _=>(match bz T E F g y with
  |some (.raw (.map none))=>(match bz T E F g x with
   |some (.mp id)=>(match eM G H (afF id) with
    |some (_,.mp _ _ _ d)=>(match op with
     | .eql=>pv (.bool (Option.isNone d))
     | .neq=>pv (.bool (!(Option.isNone d)))
     |_=>none)
    |_=>none)
   |some (.raw (.map none))=>(match op with
    | .eql=>pv (.bool true)
    | .neq=>pv (.bool false)
    |_=>none)
   |_=>none)
  |_=>none)
 |none=>none
def anD(X:Cx)(T:aB)(E F:aF)(G H:List Row)(g:GK):Op->CV
 | .load t x=>(match bz T E F g x with
  |some v=>(match BQ T G H g v with
   |some cs=>(match n3 X.P t cs with
    |some v=>pv v
    |none=>none)
   |none=>none)
  |none=>none)
 | .convert s d x=>aD ( isStr X.P d ) ( (match jr X.P s with
  |some e=>(match tyK X.P e with
   |some .u8=>(match bz T E F g x with
    |some v=>(match alY T G H g v with
     |some l=>pv (.str (strOf l))
     |none=>none)
    |none=>none)
   |_=>none)
  |none=>none) ) none
 | .lookup t x y ok=>(match VP X.P t with
  |some p=>(match bz T E F g x with
   |some (.mp id)=>(match bz T E F g y with
    |some kv=>(match eM G H (afF id) with
     |some (_,.mp _ k v d)=>(match pH X.P p.2 with
      |some z=>aD ( afL X.P p.1 k&&ag0 v z.2.2 ) ( (match abT k kv with
       |some key=>aD ( ok ) ( pv (.tuple [af5 v (ez d key v.uy),.bool (WM d key)]) )<|pv (af5 v (ez d key v.uy))
       |none=>none) ) none
      |none=>none)
     |_=>none)
    |none=>none)
   |_=>none)
  |none=>none)
 | .call c=>abq X T E F G H g c.callee c.args.toList c.argTypes.toList
 | .binOp op t x y _=>afx X T E F G H g op t x y
 |_=>none
section
variable {X : Cx} {ρ : ay} {T : aB} {E F : aF} {G H : List Row} {Φ : Ctx} {g : GK} {w : World} {dst : ze} {ty : TypeId} {pos : String} {af : zg} {gd : wi}
theorem afK{P:Program}{Ev:Env}{b:Bool}{o:Oper}(h:b=true->bc P Ev b o w v):bc P Ev b o w v:=λn a d c=>h c n a d c
theorem anQ{t:TypeId}{u v:AV}{cs:List AV}(k:Sat (ab ρ T G++(ab ρ T H++Φ)) w)(hx:bz T E F g x=some u)(f:BQ T G H g u=some cs)(h:n3 X.P t cs=some v):
  bc X.P (az ρ T E F) (T.get g) ⟨dst,.load t x,ty,pos,af,gd⟩ w (v.val ρ):=afK λm=>by
 obtain ⟨p,hp,f⟩:=NJ k f m;have b:=aP (ρ:=ρ) hx;rw [hp] at b;have s:n3 X.P t (cs.drop 0)=some v:=by simpa using h
 obtain ⟨d,n,bytes,z,c1,y,c⟩:=su (ρ:=ρ) s;cases hd:nn d
 .rw [hd] at c;simp only [eF,qn] at c;refine Ni c1 hd b (λ_=>?_);have:=f.sub (us:=[v.val ρ]) 0 (by
   cases e:AV.al ρ cs with
   |nil=>rw [e] at c;cases c
   |cons a l=>rw [e] at c;cases c;simp)
  simpa [Addr.add] using this
 .unfold n3 at h;rw [c1] at h;rcases ek h with ⟨_,i⟩|⟨j,_⟩
  .split at i
   .rename_i q e;obtain ⟨n,bytes,z⟩:=q;obtain ⟨r,o⟩:=aI i;cases o;have hl:n<=cs.length:=ei r;simp only [AV.val];refine NV c1 hd (cT e) b (λ_=>?_) ?_
    .have:=f.sub (us:=AV.al ρ (cs.take n)) 0 (by rw [AV.mH,n9,dq,AV.bG,hV hl])
     simpa [Addr.add] using this
    .rw [AV.bG,dq,hV hl]
   .cases i
  .rw [hd] at j;cases j
theorem ah0{c:Callee}{xs:Array Operand}{b:Array TypeId}(k:Sat (ab ρ T G++(ab ρ T H++Φ)) w)(h:abq X T E F G H g c xs.toList b.toList=some cv):
  rO X.P (az ρ T E F) ρ (T.get g) ⟨dst,.call ⟨c,xs,b⟩,ty,pos,af,gd⟩ w cv:=by
 obtain ⟨xs⟩:=xs;obtain ⟨b⟩:=b;unfold abq at h;split at h
 .rename_i x t j i;simp only at j i;subst j;subst i;split at h
  .rename_i e f;split at h
   .rename_i id hx;have a:=aP (ρ:=ρ) hx;simp only [AV.val] at a;split at h
    next s d=>obtain ⟨o,m⟩:=aI h;exact .pv m (afK λl=>MU (cu f) a (VX k d (aB.mV o l)))
    .cases h
   next hx=>have a:=aP (ρ:=ρ) hx;simp only [AV.val] at a;exact .pv h (MU (n:=0) (cu f) a ⟨_,_,rfl⟩)
   .cases h
  .cases h
 .cases h
theorem aiZ{op:BinOp}{t:TypeId}(e:Sat (ab ρ T G++(ab ρ T H++Φ)) w)(h:afx X T E F G H g op t x y=some cv):
  rO X.P (az ρ T E F) ρ (T.get g) ⟨dst,.binOp op t x y t',ty,pos,af,gd⟩ w cv:=by
 unfold afx at h;split at h
 .rename_i p hp;split at h
  .rename_i c;have b:=aP (ρ:=ρ) c;simp only [AV.val] at b;split at h
   .rename_i id hx;have a:=aP (ρ:=ρ) hx;simp only [AV.val] at a;split at h
    .rename_i s j k v d f;obtain ⟨l,i⟩:=bY f;have:j=id:=b0 i;subst this;have hb:=Src.holds e l;split at h
     .exact .pv h (Vh (AQ hp) a b hb)
     .exact .pv h (SG (AQ hp) a b hb)
     .cases h
    .cases h
   .rename_i hx;have a:=aP (ρ:=ρ) hx;simp only [AV.val] at a;split at h
    .exact .pv h (adJ (AQ hp) a b)
    .exact .pv h (adA (AQ hp) a b)
    .cases h
   .cases h
  .cases h
 .cases h
theorem anw{op:Op}(f:Sat (ab ρ T G++(ab ρ T H++Φ)) w)(h:anD X T E F G H g op=some cv):
  rO X.P (az ρ T E F) ρ (T.get g) ⟨dst,op,ty,pos,af,gd⟩ w cv:=by
 unfold anD at h;split at h
 .split at h
  .rename_i v o;split at h
   .rename_i cs q;split at h
    next O n=>exact .pv h (anQ f o q n)
    .cases h
   .cases h
  .cases h
 .obtain ⟨b,a⟩:=aI h;split at a
  .rename_i e D;split at a
   .rename_i hk;split at a
    .rename_i v o;split at a
     next l hl=>refine .pv a (afK λB=>?_);have m:=aP (ρ:=ρ) o;simp only [AV.val];exact apF (M:=λ_=>False) (cu D) (Uy hk) (uu b) m (λ_=>apA f hl B)
     .cases a
    .cases a
   .cases a
  .cases a
 .rename_i t x y ok;split at h
  .rename_i p hp;split at h
   .rename_i id hx;split at h
    .rename_i Q A;split at h
     .rename_i s j k v d C;split at h
      .rename_i z u;obtain ⟨b,a⟩:=aI h;simp only [au] at b;split at a
       .rename_i key i;obtain ⟨J,I⟩:=bY C;have:j=id:=b0 I;subst this;have hb:=Src.holds f J;have m:=aP (ρ:=ρ) hx;have r:=aP (ρ:=ρ) A;simp only [AV.val] at m;rw [Wp i] at r;obtain ⟨N,L,K⟩:=z;have c:(zeroValue p.2).run X.P w= .ok (Hx v v.uy) w:=by rw [<-al5 b.2];exact (cT u).zero w
        cases ok
        .refine .pv a ?_;rw [afb];exact agp (WU b.1) (AQ hp) c m r (λ_=>hb)
        .refine .pv a ?_;simp only [AV.val,AV.al];rw [afb];exact aa0 (WU b.1) (AQ hp) c m r (λ_=>hb)
       .cases a
      .cases h
     .cases h
    .cases h
   .cases h
  .cases h
 .exact ah0 f h
 .exact aiZ f h
 .cases h
end
def bN(P:Program)(E:Env)(o:Oper)(w:World)(R:Value->World->Prop):Prop:=
 ∀n a,Fits n E a->(∃v w',(execOp a.eval o).run P w= .ok (.value v) w'/\R v w')\/(∃w',(execOp a.eval o).run P w= .ok .skip w'/\R undef w')\/
  (∃(f:FuncId) (args:zb),(execOp a.eval o).run P w= .ok (.enter f args.toArray) w/\ju P f args w R)
section
variable {P : Program} {σ : zd} {Q : bg} {n : Nat} {D : xg} {E : Env} {w : World} {ops : zf} {rest : zi} {o : Oper} {R S : Value -> World -> Prop}
theorem bN.run(h:bc P E true o w v)(k:R v w):bN P E o w R:=λn a b=> .inl ⟨v,w,h n a b rfl,k⟩
theorem bN.tf{w':World}(h:pn P E o w v w')(k:R v w'):bN P E o w R:=λn a b=> .inl ⟨v,w',h n a b,k⟩
theorem bN.agk{w':World}(h:Rd P E o w w')(k:R undef w'):bN P E o w R:=λn a b=> .inr (.inl ⟨w',h n a b,k⟩)
theorem bN.upon(hd:bN P E o w R){a:Act}(e:Fits n E a){next:Act->World->Prop}(h:∀v w',R v w'->next (a.put o.dst v) w'):o.uponIn (FW σ) 0 P a next Q ((execOp a.eval o).run P w):=by
 rcases hd n a e with ⟨v,w',c,b⟩|⟨w',c,b⟩|⟨f,args,c,b⟩
 .rw [c,Oper.uponIn_value];exact h _ _ b
 .rw [c,Oper.uponIn_skip];exact h _ _ b
 .rw [c];exact KA b (λv w' d=>h v w' d) (λ_ _ d=>d.elim)
def uj(dst:ze)(g:Bool)(v:Value)(E:Env):Env:=match dst with
 |some d=>(d,g,v)::E
 |none=>E
def MA(n:Nat):ze->Bool
 |some d=>Nat.blt d n
 |none=>true
theorem Fits.uj{E:Env}{a:Act}(h:Fits n E a){d:ze}{g:Bool}{v:Value}(hd:MA n d=true):Fits n (uj d g v E) (a.put d (Cw g v)):=by
 cases d with
 |none=>exact h
 |some d=>exact h.put hd
theorem aqi(hd:bN P E o w R)(hp:j8 o=true)(d:o.guard=none)(hn:MA n o.dst=true)
  (h:∀v w',R v w'->WL P σ ops Q n D rest (uj o.dst true v E) w'):WL P σ ops Q n D (o::rest) E w:=λa b f=>
 wpListIn_plain d λK e=>ox hp (hd.upon b λv w' c=>e _ _ (h v w' c _ (b.uj hn) (by rw [kL];exact f)))
theorem ak5{j:Nat}{b:Bool}{rj:Tmp}{m p:Bool}{g:Bool}(hd:g=true->bN P E o w R)(s:g=false->∃v,R v w)(hp:j8 o=true)(i:o.guard=some (j,b))(q:(ops[j]?).bind (·.dst)=some rj)
  (hl:look E rj=some (m,.bool p)) (f:Nat.blt rj n=true) (r:(m&&(p==b))=g) (hn:MA n o.dst=true)
  (h:∀v w',R v w'->WL P σ ops Q n D rest (uj o.dst g v E) w'):WL P σ ops Q n D (o::rest) E w:=λa c l=>
 wpListIn_step λK k=>by
  rw [GG i q hl c f,r];cases g
  .simp only [eF,qn];obtain ⟨v,e⟩:=s rfl;have:=c.uj (d:=o.dst) (g:=false) (v:=v) hn;exact ⟨λ_ _=>trivial,k _ _ (h _ _ e _ this (by rw [kL];exact l))⟩
  .simp only [qT];exact ox hp ((hd rfl).upon c λv w' e=>k _ _ (h v w' e _ (c.uj hn) (by rw [kL];exact l)))
end
abbrev cL(R:Type):=aC->Option R
def cO(dst:ze)(g:GK)(v:AV)(E:aF):aF:=match dst with
 |some d=>(d,g,v)::E
 |none=>E
def aU{R:Type}(r:R)(K:cL R)(T:aB)(fr:Fr)(st:aC)(g:GK)(dst:ze)(ρ:ay)(Φ:Ctx)(v:Value)(w':World):Prop:=
 ∃(ρ':ay) (st':aC) (av:AV),K st'=some r/\aS st.c ρ ρ'/\st.c<=st'.c/\st'.E=cO dst g av st.E/\av.val ρ'=v/\az ρ' T st.E fr.F=az ρ T st.E fr.F/\
  ab ρ' T fr.H=ab ρ T fr.H/\Sat (ab ρ' T st'.G++(ab ρ' T fr.H++Φ)) w'
def mZ(P:Program)(T:aB)(g:GK)(Ev:Env)(o:Oper)(w:World)(O:Value->World->Prop):Prop:=
 (T.get g=true->bN P Ev o w O)/\(T.get g=false->∃v,O v w)
section
variable {R : Type} {r : R} {K : cL R} {T : aB} {fr : Fr} {st st' : aC} {g : GK} {dst : ze} {ρ ρ' : ay} {Φ : Ctx} {v : Value} {w w' : World}
theorem aC.cJ:st.low fr=true↔aF.low st.c st.E=true/\aF.low st.c fr.F=true/\bD st.c st.G=true/\bD st.c fr.H=true:=by simp only [aC.low,au,and_assoc]
theorem rY(hl:st.low fr=true)(ha:aS st.c ρ ρ'):az ρ' T st.E fr.F=az ρ T st.E fr.F:=by obtain ⟨b,a,_,_⟩:=aC.cJ.1 hl;rw [az,uv ha b,uv ha a]
theorem aU.new{av:AV}(hl:st.low fr=true)(f:K st'=some r)(ha:aS st.c ρ ρ')(d:st.c<=st'.c)(h:st'.E=cO dst g av st.E)(a:av.val ρ'=v)
  (b:Sat (ab ρ' T st'.G++(ab ρ T fr.H++Φ)) w'):aU r K T fr st g dst ρ Φ v w':=by
 have e:=ba (T:=T) ha (aC.cJ.1 hl).2.2.2;exact ⟨ρ',st',av,f,ha,d,h,a,rY hl ha,e,by rw [e];exact b⟩
theorem aU.lx{av:AV}(e:K st'=some r)(d:st.c<=st'.c)(f:st'.E=cO dst g av st.E)(a:av.val ρ=v)
  (b:Sat (ab ρ T st'.G++(ab ρ T fr.H++Φ)) w'):aU r K T fr st g dst ρ Φ v w':=
 ⟨ρ,st',av,e,.refl,d,f,a,rfl,rfl,b⟩
theorem aU.push{av:AV}{x:Nm}{row:Row}(hl:st.low fr=true)(a:K { st with c:=st.c+1,E:=cO dst g av st.E,G:=row::st.G }=some r)(hv:av.val (ρ.set st.c x)=v)
  (hs:Sat (row.item (ρ.set st.c x) T::(ab ρ T st.G++(ab ρ T fr.H++Φ))) w'):aU r K T fr st g dst ρ Φ v w':=by
 refine aU.new hl a ay.aX (j6 _) rfl hv ?_;have e:=ba (T:=T) (ay.aX (ρ:=ρ) (j:=st.c) (x:=x)) (aC.cJ.1 hl).2.2.1;show Sat (ab (ρ.set st.c x) T (row::st.G)++_) w';rw [ab,e9];rw [ab] at e;rw [e];exact hs
theorem gE{G:List Row}{row:Row}{j:Nat}{Δ:Ctx}(a:j<G.length):ab ρ T (G.set j row)++Δ=(ab ρ T G++Δ).set j (row.item ρ T):=by rw [List.set_append_left _ _ (by simpa [ab] using a)];simp only [ab,List.map_set]
theorem aU.mJ{av:AV}{x:Nm}{row:Row}{j:Nat}(hl:st.low fr=true)(a:j<st.G.length)(b:K { st with c:=st.c+1,E:=cO dst g av st.E,G:=st.G.set j row }=some r)(hv:av.val (ρ.set st.c x)=v)
  (hs:Sat ((ab ρ T st.G++(ab ρ T fr.H++Φ)).set j (row.item (ρ.set st.c x) T)) w'):aU r K T fr st g dst ρ Φ v w':=by
 refine aU.new hl b ay.aX (j6 _) rfl hv ?_;have e:=ba (T:=T) (ay.aX (ρ:=ρ) (j:=st.c) (x:=x)) (aC.cJ.1 hl).2.2.1;show Sat (ab (ρ.set st.c x) T (st.G.set j row)++_) w';rw [gE a,e];exact hs
end
def Qe(P:Program)(T:aB)(g:GK)(Ev:Env)(o:Oper)(w:World)(O:Value->World->Prop):Prop:= ∃v,(∀w',bc P Ev (T.get g) o w' v)/\O v w
theorem Qe.Zu{P:Program}{T:aB}{g:GK}{Ev:Env}{o:Oper}{w:World}{O:Value->World->Prop}(h:Qe P T g Ev o w O):mZ P T g Ev o w O:=by obtain ⟨v,c,a⟩:=h;exact ⟨λb=>bN.run (by have:=c w;rwa [b] at this) a,λ_=>⟨v,a⟩⟩
theorem bN.gd{P:Program}{E:Env}{dst:ze}{op:Op}{ty:TypeId}{pos:String}{af:zg}{gd:Option (Nat×Bool)}{w:World}{R:Value->World->Prop}(h:bN P E ⟨dst,op,ty,pos,af,none⟩ w R):bN P E ⟨dst,op,ty,pos,af,gd⟩ w R:=
 λn a b=>h n a b
def Ty.n':Ty->Nat
 | .i _|.bo|.s|.l _|.n=>1
 | .un|.mp _ _=>0
 | .p x y=>x.n'+y.n'
 | .ex=>4
theorem Ty.EX:(t:Ty)->t.rep.n=t.n'
 | .i _|.bo|.s|.l _|.un|.n|.mp _ _|.ex=>rfl
 | .p x y=>by show x.rep.n+y.rep.n=_;rw [Ty.EX x,Ty.EX y];rfl
def eo:(t:Ty)->t.T->Nat->List AV×List Row×Nat
 | .i k,x,c=>([.int k x],[],c)
 | .bo,x,c=>([.bool x],[],c)
 | .s,x,c=>([.str x],[],c)
 | .un,_,c=>([],[],c)
 | .n,x,c=>([.ifc x (.agg [])],[],c)
 | .mp _ _,_,c=>([],[],c)
 | .p a b,x,c=>match eo a x.1 c with
  |(u,p,c)=>match eo b x.2 c with
   |(v,q,c)=>(u++v,p++q,c)
 | .l t,x,c=>([.sl c],[.sli none c t x false],c+1)
 | .ex,x,c=>([.int .i64 x.op,.int .i64 x.n,.int .i64 x.at_,.sl c],[.sli none c .ex x.l false],c+1)
structure asD(T:aB)(M:Nat->Prop)(w:World)(vs:zb)(c:Nat)(ρ ρ':ay)(m:List AV×List Row×Nat):Prop where
 ag:aS c ρ ρ'
 le:c<=m.2.2
 lw:AV.cn m.2.2 m.1=true
 eq:AV.al ρ' m.1=vs
 rl:∀r∈m.2.1,r.low m.2.2=true
 rs:∀r∈m.2.1,∃j t l,r= .sli none j t l false
 rp:∀r∈m.2.1,(r.item ρ' T).P M w
theorem Row.hZ{c d:Nat}(a:c<=d){r:Row}(h:r.low c=true):r.low d=true:=by
 cases r <;> simp only [Row.low,au,j0] at h ⊢
 .exact ⟨by omega,AV.mI a _ h.2⟩
 .omega
 .omega
 .omega
 .exact ⟨by omega,AV.mI a _ h.2⟩
 .omega
 .omega
 .exact ⟨by omega,AV.hZ a _ h.2⟩
theorem Jz{T:aB}{M:Nat->Prop}{w:World}:(t:Ty)->(x:t.T)->(c:Nat)->(vs:zb)->t.rep.rd M w vs x->(ρ:ay)->∃ρ',asD T M w vs c ρ ρ' (eo t x c)
 | .i k,x,c,vs,h,ρ=>⟨ρ,.refl,cK _,rfl,by cases h;simp [eo,AV.al,AV.val],(λ_ h=>by cases h),(λ_ h=>by cases h),(λ_ h=>by cases h)⟩
 | .bo,x,c,vs,h,ρ=>⟨ρ,.refl,cK _,rfl,by cases h;simp [eo,AV.al,AV.val],(λ_ h=>by cases h),(λ_ h=>by cases h),(λ_ h=>by cases h)⟩
 | .s,x,c,vs,h,ρ=>⟨ρ,.refl,cK _,rfl,by cases h;simp [eo,AV.al,AV.val],(λ_ h=>by cases h),(λ_ h=>by cases h),(λ_ h=>by cases h)⟩
 | .un,x,c,vs,h,ρ=>⟨ρ,.refl,cK _,rfl,by cases h;simp [eo,AV.al],(λ_ h=>by cases h),(λ_ h=>by cases h),(λ_ h=>by cases h)⟩
 | .n,x,c,vs,h,ρ=>⟨ρ,.refl,cK _,rfl,by cases h;simp [eo,AV.al,AV.val],(λ_ h=>by cases h),(λ_ h=>by cases h),(λ_ h=>by cases h)⟩
 | .mp _ _,x,c,vs,h,ρ=>h.elim
 | .p a b,x,c,vs,h,ρ=>by
  obtain ⟨us,j,rfl,q,o⟩:=h;obtain ⟨g,m1⟩:=Jz (T:=T) a x.1 c us q ρ;obtain ⟨f,e⟩:=Jz (T:=T) b x.2 (eo a x.1 c).2.2 j o g;refine ⟨f,m1.ag.trans e.ag m1.le,dx m1.le e.le,P7 (AV.mI e.le _ m1.lw) e.lw,?_,λr d=>?_,λr d=>?_,λr d=>?_⟩
  .simp only [eo,dv];rw [AV.cd e.ag _ m1.lw,m1.eq,e.eq]
  .rcases List.mem_append.1 d with d|d
   .exact Row.hZ e.le (m1.rl r d)
   .exact e.rl r d
  .rcases List.mem_append.1 d with d|d
   .exact m1.rs r d
   .exact e.rs r d
  .rcases List.mem_append.1 d with d|d
   .rw [Row.Dt e.ag (m1.rl r d)];exact m1.rp r d
   .exact e.rp r d
 | .l t,x,c,vs,h,ρ=>by
  obtain ⟨v,rfl,h⟩:=h;refine ⟨ρ.set c { dB with v:=v },ay.aX,j6 _,by simp [eo,AV.cn,AV.low],by simp [eo,AV.al,AV.val,ay.bK],λr d=>?_,λr d=>?_,λr d=>?_⟩
  .simp only [eo,l9] at d;subst d;simp [Row.low,eo]
  .simp only [eo,l9] at d;subst d;exact ⟨_,_,_,rfl⟩
  .simp only [eo,l9] at d;subst d;simp only [Row.item,ay.bK];exact λ_=>⟨h,λhb=>by cases hb⟩
 | .ex,x,c,vs,h,ρ=>by
  obtain ⟨v,rfl,m⟩:=KW h;refine ⟨ρ.set c { dB with v:=v },ay.aX,j6 _,by simp [eo,AV.cn,AV.low],by simp [eo,AV.al,AV.val,ay.bK],λr d=>?_,λr d=>?_,λr d=>?_⟩
  .simp only [eo,l9] at d;subst d;simp [Row.low,eo]
  .simp only [eo,l9] at d;subst d;exact ⟨_,_,_,rfl⟩
  .simp only [eo,l9] at d;subst d;simp only [Row.item,ay.bK];exact λ_=>⟨m,λhb=>by cases hb⟩
theorem MH:(t:Ty)->(x:t.T)->(c:Nat)->c<=(eo t x c).2.2
 | .i _,_,_|.bo,_,_|.s,_,_|.un,_,_|.n,_,_|.mp _ _,_,_=>cK _
 | .p a b,x,c=>dx (MH a x.1 c) (MH b x.2 _)
 | .l _,_,_|.ex,_,_=>j6 _
theorem Ou:(t:Ty)->(x:t.T)->(c:Nat)->∀r∈(eo t x c).2.1,∃j t l,r= .sli none j t l false
 | .i _,_,_,_,h|.bo,_,_,_,h|.s,_,_,_,h|.un,_,_,_,h|.n,_,_,_,h|.mp _ _,_,_,_,h=>by cases h
 | .p a b,x,c,r,h=>by
  rcases List.mem_append.1 h with h|h
  .exact Ou a x.1 c r h
  .exact Ou b x.2 _ r h
 | .l _,_,_,r,h=>by
  simp only [eo,l9] at h;subst h;exact ⟨_,_,_,rfl⟩
 | .ex,_,_,r,h=>by simp only [eo,l9] at h;subst h;exact ⟨_,_,_,rfl⟩
def x7(g:GK)(r:Row):Row:=match g,r with
 |none,r=>r
 |some g,.sli _ id t l b=> .sli (some g) id t l b
 |some _,r=>r
theorem xx{ρ:ay}{T:aB}{g:GK}{M:Nat->Prop}{w:World}{j:Nat}{t:Ty}{l:List t.T}(h:T.get g=true->((Row.sli none j t l false).item ρ T).P M w):
  ((x7 g (.sli none j t l false)).item ρ T).cP=true/\((x7 g (.sli none j t l false)).item ρ T).P M w:=by
 cases g with
 |none=>exact ⟨rfl,h (aB.get_none)⟩
 |some k=>
  refine ⟨rfl,λa=>?_⟩;exact h a (aB.get_none)
theorem EY{Γ:Ctx}{w:World}(h:Sat Γ w):∀(new:List Item),(∀it∈new,it.cP=true/\it.P Γ.M w)->Sat (new++Γ) w:=λnew hn=>by
 have key:∀new:List Item,(∀it∈new,it.cP=true/\it.P Γ.M w)->new.all (·.cP)=true/\ahn Γ.M w new:=λnew=>by
  induction new with
  |nil=>exact λ_=>⟨rfl,trivial⟩
  |cons it l ih=>
   intro hn;obtain ⟨f,e⟩:=ih (λa b=>hn a (cb _ b));obtain ⟨d,c⟩:=hn it (c8 ..);exact ⟨by simp only [qp,au];exact ⟨d,f⟩,c,e⟩
 exact h.alX new (key new hn).1 (key new hn).2
def vD(G H:List Row)(t:Ty)(v:AV):Option (List t.T):=match v with
 | .sl j=>(match eM G H (rD j) with
  |some (_,.sli none _ t' l _)=>cq.asL t ⟨.l t',l⟩
  |_=>none)
 | .raw (.slice none 0 0)=>some []
 |_=>none where cq.asL (t:Ty) (d:cq):Option (List t.T):=d.as (.l t)
theorem uw{t t':Ty}{l:List t'.T}{l':List t.T}(h:vD.cq.asL t ⟨.l t',l⟩=some l'):∃e:t'=t,e▸l=l':=by have:=cq.OI h;cases this;exact ⟨rfl,rfl⟩
theorem OK{ρ:ay}{T:aB}{G H:List Row}{Φ:Ctx}{w:World}{t:Ty}{v:AV}{l:List t.T}(c:Sat (ab ρ T G++(ab ρ T H++Φ)) w)(h:vD G H t v=some l):
  bT t.rep (Ctx.M (ab ρ T G++(ab ρ T H++Φ))) w (v.val ρ) l:=by
 unfold vD at h;split at h
 .rename_i j;split at h
  next s a t' l' b d=>obtain ⟨f,e⟩:=bY d;have:a=j:=b0 e;subst this;obtain ⟨rfl,rfl⟩:=uw h;simp only [AV.val];exact ((Src.holds c f) aB.get_none).1
  .cases h
 .cases h;simp only [AV.val];exact bT.nil
 .cases h
def tV(G H:List Row):(t:Ty)->List AV->Option (t.T×List AV)
 | .i k,vs=>(match vs with
  | .int k' x::vs=>aD ( jW k k' ) ( some (x,vs) ) none
  |_=>none)
 | .bo,vs=>(match vs with
  | .bool x::vs=>some (x,vs)
  |_=>none)
 | .s,vs=>(match vs with
  | .str x::vs=>some (x,vs)
  |_=>none)
 | .un,vs=>some ((),vs)
 | .n,vs=>(match vs with
  | .ifc t (.agg [])::vs=>some (t,vs)
  |_=>none)
 | .p a b,vs=>(match tV G H a vs with
  |some x=>(match tV G H b x.2 with
   |some y=>some ((x.1,y.1),y.2)
   |none=>none)
  |none=>none)
 | .l t,vs=>(match vs with
  |v::vs=>(match vD G H t v with
   |some l=>some (l,vs)
   |none=>none)
  |_=>none)
 | .ex,vs=>(match vs with
  | .int .i64 a:: .int .i64 b:: .int .i64 c::v::vs=>(match vD G H .ex v with
   |some l=>some (Ex.mk a b c l,vs)
   |none=>none)
  |_=>none)
 |_,_=>none
theorem Ug{ρ:ay}{T:aB}{G H:List Row}{Φ:Ctx}{w:World}(d:Sat (ab ρ T G++(ab ρ T H++Φ)) w):(t:Ty)->(vs:List AV)->(x:t.T×List AV)->tV G H t vs=some x->
  ∃us,vs=us++x.2/\t.rep.rd (Ctx.M (ab ρ T G++(ab ρ T H++Φ))) w (AV.al ρ us) x.1
 | .i k,vs,x,h=>by
  unfold tV at h;split at h
  next r y us=>obtain ⟨g,f⟩:=aI h;have:=oq g;subst this;cases f;exact ⟨[.int k y],rfl,by simp only [AV.al,AV.val];rfl⟩
  .cases h
 | .bo,vs,x,h=>by
  unfold tV at h;split at h
  next y us=>cases h;exact ⟨[.bool y],rfl,by simp only [AV.al,AV.val];rfl⟩
  .cases h
 | .s,vs,x,h=>by
  unfold tV at h;split at h
  next y us=>cases h;exact ⟨[.str y],rfl,by simp only [AV.al,AV.val];rfl⟩
  .cases h
 | .un,vs,x,h=>by
  unfold tV at h;cases h;exact ⟨[],rfl,by simp only [AV.al];rfl⟩
 | .n,vs,x,h=>by
  unfold tV at h;split at h
  next t us=>cases h;exact ⟨[.ifc t (.agg [])],rfl,by simp only [AV.al,AV.val];rfl⟩
  .cases h
 | .mp _ _,vs,x,h=>by unfold tV at h;cases h
 | .p a b,vs,x,h=>by
  unfold tV at h;split at h
  .rename_i y m;split at h
   next z j=>cases h;obtain ⟨us,q,g⟩:=Ug d a vs y m;obtain ⟨e,o,f⟩:=Ug d b y.2 z j;refine ⟨us++e,by rw [q,o,cp],?_⟩;rw [dv];exact ⟨_,_,rfl,g,f⟩
   .cases h
  .cases h
 | .l t,vs,x,h=>by
  unfold tV at h;split at h
  .rename_i v us;split at h
   next l hl=>cases h;refine ⟨[v],rfl,?_⟩;simp only [AV.al];exact (OK d hl).rsl
   .cases h
  .cases h
 | .ex,vs,x,h=>by
  unfold tV at h;split at h
  .rename_i a b c v us;split at h
   next l hl=>cases h;refine ⟨[.int .i64 a,.int .i64 b,.int .i64 c,v],rfl,?_⟩;simp only [AV.al,AV.val];exact Qb (OK d hl).rsl
   .cases h
  .cases h
def rd1(G H:List Row)(t:Ty)(vs:List AV):Option t.T:=match tV G H t vs with
 |some (x,[])=>some x
 |_=>none
theorem ain{ρ:ay}{T:aB}{G H:List Row}{Φ:Ctx}{w:World}(c:Sat (ab ρ T G++(ab ρ T H++Φ)) w){t:Ty}{vs:List AV}{x:t.T}(h:rd1 G H t vs=some x):
  t.rep.rd (Ctx.M (ab ρ T G++(ab ρ T H++Φ))) w (AV.al ρ vs) x:=by
 unfold rd1 at h;split at h
 next y b=>cases h;obtain ⟨us,a,d⟩:=Ug c t vs _ b;simp only [ko] at a;rw [a];exact d
 .cases h
def Zm(G H:List Row)(t:Ty):Nat->List AV->Option (List t.T)
 |0,vs=>(match vs with
  |[]=>some []
  |_=>none)
 |k+1,vs=>(match tV G H t vs with
  |some x=>(match Zm G H t k x.2 with
   |some l=>some (x.1::l)
   |none=>none)
  |none=>none)
theorem Um{ρ:ay}{T:aB}{G H:List Row}{Φ:Ctx}{w:World}(a:Sat (ab ρ T G++(ab ρ T H++Φ)) w){t:Ty}:(k:Nat)->(vs:List AV)->(l:List t.T)->Zm G H t k vs=some l->
  l.length=k/\cX t.rep (Ctx.M (ab ρ T G++(ab ρ T H++Φ))) w (AV.al ρ vs) l
 |0,vs,l,h=>by
  unfold Zm at h;split at h
  .cases h;exact ⟨rfl,by simp only [AV.al];exact cX.nil⟩
  .cases h
 |k+1,vs,l,h=>by
  unfold Zm at h;split at h
  .rename_i x hx;split at h
   next l' hl=>cases h;obtain ⟨us,e,d⟩:=Ug a t vs x hx;obtain ⟨c,b⟩:=Um a k x.2 l' hl;refine ⟨by simp [c],?_⟩;rw [e,dv];exact cX.cons d b
   .cases h
  .cases h
def cB(ids:zl):List Row->List Row
 |[]=>[]
 |r::G=>(match r with
  | .own id t e l ver=>aD ( wJ id ids ) ( .sli none id t l false )<| .own id t e l ver
  |r=>r)::cB ids G
theorem aeb{ρ:ay}{T:aB}{ids:zl}{w:World}:{G:List Row}->{A B:Ctx}->Sat (A++(ab ρ T G++B)) w->Sat (A++(ab ρ T (cB ids G)++B)) w
 |[],_,_,h=>h
 |r::G,A,B,h=>by
  have step:∀c:Row,Sat (A++(ab ρ T (c::G)++B)) w->Sat (A++(ab ρ T (c::cB ids G)++B)) w:=λc h=>by
   have f:Sat ((A++[c.item ρ T])++(ab ρ T G++B)) w:=by simpa [ab] using h
   have:=aeb (ids:=ids) f;simpa [ab] using this
  unfold cB;split
  .rename_i id t e l a;cases hm:wJ id ids
   .exact step _ h
   .refine step _ ?_;have hi:(A++(ab ρ T (Row.own id t e l a::G)++B))[A.length]? =some (tQ t.rep e (ρ id).v l ((ρ a).y=⟨.l t,l⟩)):=by rw [de (cK _)];simp [ab,Row.item]
    have d:=h.mJ hi (new:=(Row.sli none id t l false).item ρ T) ((Ext.refl w).xt _) (λb hb=>by cases hb) (λM' m hn=>λ_=>⟨(h.at_ hi).1.freeze (λb hb=>hn b hb (λhb=>by cases hb)) m,λhb=>by cases hb⟩);rw [sv _ _ (cK _)] at d;simpa [ab] using d
  .exact step _ h
theorem vf{c:Nat}{ids:zl}:{G:List Row}->bD c G=true->bD c (cB ids G)=true
 |[],_=>rfl
 |r::G,h=>by
  simp only [bD,au] at h;unfold cB;simp only [bD,au];refine ⟨?_,vf h.2⟩;split
  .rename_i id t e l b;have a:=h.1;simp only [Row.low,au] at a;cases wJ id ids
   .simp only [Row.low,au];exact a
   .simp only [Row.low];exact a.1
  .exact h.1
theorem lQ{ρ:ay}{T:aB}{ids:zl}{w:World}{G:List Row}{B:Ctx}(h:Sat (ab ρ T G++B) w):Sat (ab ρ T (cB ids G)++B) w:=aeb (A:=[]) h
def AV.fF:AV->zl
 | .sl id=>[id]
 | .agg l=>sls0 l
 |_=>[] where sls0:List AV->zl
 |[]=>[]
 | .sl id::l=>id::sls0 l
 |_::l=>sls0 l
section
variable {X : Cx} {R : Type} {r : R} {K : cL R} {T : aB} {fr : Fr} {st : aC} {g : GK} {d : Tmp} {ρ : ay} {Φ : Ctx} {w : World} {ty : TypeId} {pos : String} {af : zg} {gd : wi}
theorem mZ.none_{P:Program}{Ev:Env}{o:Oper}{O:Value->World->Prop}(h:bN P Ev o w O):mZ P T none Ev o w O:=⟨λ_=>h,λa=>by simp_all⟩
def Zb(P:Program)(t:TypeId):Option (List AV):=match pH P t with
 |some z=>some (z.2.2.cells.toList.map nT)
 |none=>none
def agi(st:aC)(d:Tmp)(t:TypeId)(cs:List AV)(K:cL R):Option R:=K { st with c:=st.c+1,E:=cO (some d) none (.ptr st.c 0) st.E,G:= .box st.c t cs::st.G }
theorem aaS{t:TypeId}{cs:List AV}(hl:st.low fr=true)(e:Sat (ab ρ T st.G++(ab ρ T fr.H++Φ)) w)(a:AV.cn st.c cs=true)(h:agi st d t cs K=some r):
  aU r K T fr st none (some d) ρ Φ (.pointer (some ⟨w.heap.size,0,none⟩)) (w.alloc (.cells (AV.al ρ cs).toArray t)):=by
 refine aU.push (x:={ dB with b:=w.heap.size }) hl h (by simp [AV.val,ay.bK]) ?_;simp [Row.item,ay.bK];rw [AV.cd ay.aX _ a];exact e.push (gz _ _) (λb hb=>by simp_all [box]) (λ_ _=>heap_alloc_new w _)
def abf(X:Cx)(st:aC)(d:Tmp)(t:TypeId)(K:cL R):Option R:=match Zb X.P t with
 |some cs=>agi st d t cs K
 |none=>none
theorem akC{t:TypeId}(hl:st.low fr=true)(e:Sat (ab ρ T st.G++(ab ρ T fr.H++Φ)) w)(h:abf X st d t K=some r):
  mZ X.P T none (az ρ T st.E fr.F) ⟨some d,.alloc t,ty,pos,af,gd⟩ w (aU r K T fr st none (some d) ρ Φ):=by
 unfold abf at h;split at h
 .rename_i cs a;unfold Zb at a;split at a
  next z c=>cases a;obtain ⟨n,b,z⟩:=z;refine .none_ (bN.gd (bN.tf (Ka (zs:=z.cells.toList) (cT c) (by simp)) ?_));have:=aaS hl e aau h;rwa [sg] at this
  .cases a
 .cases h
def anP(T:aB)(fr:Fr)(st:aC)(d:Tmp)(t:TypeId)(x:Operand)(K:cL R):Option R:=match bz T st.E fr.F none x with
 |some v=>aD ( MO v&&AV.cn st.c (dR v) ) ( agi st d t (dR v) K ) none
 |none=>none
theorem apR{t:TypeId}(hl:st.low fr=true)(c:Sat (ab ρ T st.G++(ab ρ T fr.H++Φ)) w)(h:anP T fr st d t x K=some r):
  mZ X.P T none (az ρ T st.E fr.F) ⟨some d,.box t x,ty,pos,af,gd⟩ w (aU r K T fr st none (some d) ρ Φ):=by
 unfold anP at h;split at h
 next v b=>obtain ⟨a,e⟩:=aI h;simp at a;exact .none_ (bN.gd (bN.tf (akY (bL b) (BR a.1)) (aaS hl c a.2 e)))
 .cases h
def agz:AV->Bool
 | .agg _|.tuple _|.nv _=>false
 | .raw v=>v.oneCell'
 |_=>true
theorem alE{v:AV}(h:agz v=true):(v.val ρ).oneCell'=true:=by
 cases v with
 |agg l=>cases h
 |tuple l=>cases h
 |nv l=>cases h
 |raw v=>exact h
 |_=>rfl
theorem ON:{l:List AV}->l.all agz=true->(AV.al ρ l).all Value.oneCell'=true
 |[],_=>by simp [AV.al]
 |v::l,h=>by simp only [qp,au] at h;simp only [AV.al,qp,au];exact ⟨alE h.1,ON h.2⟩
def abH(P:Program)(st:aC)(t:TypeId)(id off:Nat)(v:AV)(K:cL R):Option R:=match tv (Bq id) st.G with
 |some (j,.box _ e vs)=>(match pH P t with
  |some z=>aD ( MO v&&(dR v).all agz&&Nat.beq (dR v).length z.1&&Nat.ble (off+(dR v).length) vs.length ) (
    K { st with G:=st.G.set j (.box id e (xF vs off (dR v))) } ) none
  |none=>none)
 |_=>none
theorem ah3{t:TypeId}{id a:Nat}{v:AV}(i:Sat (ab ρ T st.G++(ab ρ T fr.H++Φ)) w)(hx:bz T st.E fr.F none x=some (.ptr id a))(o:bz T st.E fr.F none y=some v)(h:abH X.P st t id a v K=some r):
  bN X.P (az ρ T st.E fr.F) ⟨none,.store t x y,ty,pos,af,gd⟩ w (aU r K T fr st none none ρ Φ):=by
 unfold abH at h;split at h
 .rename_i j d e vs s;split at h
  .rename_i z n;obtain ⟨l,u⟩:=aI h;simp only [au] at l;obtain ⟨⟨⟨C,B⟩,J⟩,I⟩:=l;obtain ⟨m,A⟩:=pz s;have  :=b0 A;subst this;have g:=bL (ρ:=ρ) hx;have f:=bL (ρ:=ρ) o;have hi:=iM (ρ:=ρ) (T:=T) (Φ:=ab ρ T fr.H++Φ) m;have hb  :=i.at_ hi;obtain ⟨p,hC,k⟩:=ahh (cT n) g f (BR C) (by grind [AV.bG,Nat.eq_of_beq_eq_true]) (ON B) hb (by grind [AV.bG]) Bx;refine bN.gd (bN.agk p (aU.lx (av:= .raw undef) u (cK _) rfl (by simp [AV.val]) ?_));have q  :=(List.getElem?_eq_some_iff.1 m).1;rw [gE q];refine i.mJ hi hC (λc D=>?_) (λ_ _ _=>k);have:c=(ρ d).b:=by grind [Row.item,box]
   subst this;exact ⟨k.lt,.inl (by simp [Row.item,box])⟩
  .cases h
 .cases h
theorem ae0{t:Ty}{p:jU}{l l':List t.T}{q q':Prop}{i:Nat}{Γ:Ctx}{w':World}(b:Sat Γ w)(hi:Γ[i]? =some (tQ t.rep e p l q))(f:q')(hC:mK (dT (sl p)) w w')(a:w'.heap.size=w.heap.size)(g:B9 p=dT (sl p))
  (h:∀M',Mv Γ.M w M' w'->ky t.rep e M' w' (sl p) l'):Sat (Γ.set i (tQ t.rep e p l' q')) w':=by
 refine b.mJ hi (by rw [<-g] at hC;exact hC) (λc d=>⟨by rw [a];exact (b.at_ hi).1.lt c d,.inl d⟩) (λM' m _=>⟨?_,f⟩);grind [cj,B9,cj.of]
theorem vg{c:Nat}:∀{G:List Row} {j:Nat} {r:Row},bD c G=true->G[j]? =some r->r.low c=true:=λ{G}=>by
 induction G with
 |nil=>grind
 |cons r0 G ih=>
  intro j r h a;simp [bD] at h;grind
def ZP(P:Program)(fr:Fr)(st:aC)(t:TypeId)(q off:Nat)(v:AV)(K:cL R):Option R:=
 match eM (cB (AV.fF.sls0 (dR v)) st.G) fr.H (Se q) with
 |some (_,.kn none _ id ver u i x)=>(match tv (rD id) (cB (AV.fF.sls0 (dR v)) st.G) with
  |some (j,.own _ u' e l ver')=>(match pH P t with
   |some z=>aD ( Nat.beq ver ver'&&MO v&&(dR v).all agz&&Nat.beq (dR v).length z.1&&AV.cn st.c (dR v) ) (
     aD ( Nat.beq off 0&&Nat.beq (dR v).length u'.n' ) ( match rd1 (cB (AV.fF.sls0 (dR v)) st.G) fr.H u' (dR v) with
      |some y=>K { st with c:=st.c+1,G:=(cB (AV.fF.sls0 (dR v)) st.G).set j (.own id u' e (List.set l i.toNat y) st.c) }
      |none=>none )<|
      aD ( Nat.ble (off+(dR v).length) (eo u x (st.c+1)).1.length ) ( match rd1 ((eo u x (st.c+1)).2.1++cB (AV.fF.sls0 (dR v)) st.G) fr.H u' (xF (eo u x (st.c+1)).1 off (dR v)) with
       |some y=>K { st with c:=(eo u x (st.c+1)).2.2,G:=(eo u x (st.c+1)).2.1++(cB (AV.fF.sls0 (dR v)) st.G).set j (.own id u' e (List.set l i.toNat y) st.c) }
       |none=>none ) none ) none
   |none=>none)
  |_=>none)
 |_=>none
theorem aj0{t:TypeId}{q N:Nat}{v:AV}(hl:st.low fr=true)(p:Sat (ab ρ T st.G++(ab ρ T fr.H++Φ)) w)(hx:bz T st.E fr.F none x=some (.adr q N))(hy:bz T st.E fr.F none y=some v)(h:ZP X.P fr st t q N v K=some r):
  bN X.P (az ρ T st.E fr.F) ⟨none,.store t x y,ty,pos,af,gd⟩ w (aU r K T fr st none none ρ Φ):=by
 unfold ZP at h;have g:=vf (ids:=AV.fF.sls0 (dR v)) (aC.cJ.1 hl).2.2.1;replace p:=lQ (ids:=AV.fF.sls0 (dR v)) p;generalize cB (AV.fF.sls0 (dR v)) st.G=G at h g p;split at h
 .rename_i s q' id Y u i xe hf;split at h
  .rename_i j B u' e l ver' S;split at h
   .rename_i z hz;obtain ⟨n,bytes,z⟩:=z;obtain ⟨h1,h2⟩:=aI h;simp only [au] at h1;obtain ⟨⟨⟨⟨a1,a2⟩,a3⟩,a4⟩,a5⟩:=h1;obtain ⟨f1,f2⟩:=bY hf;obtain ⟨k1,k2⟩:=pz S;have e1  :=b0 f2;have e2  :=b0 k2;have e3  :=b0 a1;subst e1;subst e2;subst e3;have o:=bL (ρ:=ρ) hx;have O:=bL (ρ:=ρ) hy;simp [AV.val] at o;obtain ⟨l0,b1,b2,b3⟩:=(Src.holds p f1) aB.get_none;have hi:=iM (ρ:=ρ) (T:=T) (Φ:=ab ρ T fr.H++Φ) k1;obtain ⟨c1,c2⟩:=p.at_ hi;obtain ⟨e4,e5⟩:=OG b1 c2;subst e4;subst e5;obtain ⟨o1,o2⟩:=c1.jS b2;obtain ⟨o3,M,o4,Z⟩:=c1.atA b2;have hj  :=(List.getElem?_eq_some_iff.1 k1).1;have U:(AV.al ρ (dR v)).length=n:=by rw [AV.bG];exact b0 a4
    rw [b3] at o;rcases ek h2 with ⟨h3,V⟩|⟨_,V⟩
    .simp only [au] at h3;have e6  :=b0 h3.1;subst e6;split at V
     .rename_i A k;have f:=ain p k;have I  :=u.rep.len Z;have hlu  :=u.rep.len f;have Q:sN M 0 (AV.al ρ (dR v))=AV.al ρ (dR v):=by unfold sN;simp only [tJ,pF];rw [qf (by omega),ko]
      obtain ⟨w',S,hC,C,hP⟩:=LP (cT hz) o O (BR a2) U (ON a3) o3 o1 o4 I (qI (by omega)) Q f (λb hb=>Ctx.lh hi (by rw [<-o2] at hb;exact hb));refine bN.gd (bN.agk S (aU.new (ρ':=ρ.set st.c { dB with y:=⟨.l u,List.set l0 i.toNat A⟩ }) (av:= .raw undef) hl V ay.aX (j6 _) rfl (by simp [AV.val]) ?_));rw [gE hj,ba ay.aX g];have:=ae0 (q':=((ρ.set st.c { dB with y:=⟨.l u,List.set l0 i.toNat A⟩ }) st.c).y=⟨.l u,List.set l0 i.toNat A⟩) p hi (by rw [ay.bK]) hC C o2 hP;have J:(ρ.set st.c { dB with y:=⟨.l u,List.set l0 i.toNat A⟩ }) B=ρ B:=by have a:=vg g k1;simp [Row.low,au,j0] at a;exact ay.aX _ a.1
      simp [Row.item,J];exact this
     .cases V
    .obtain ⟨h5,W⟩:=aI V;split at W
     .rename_i A k;obtain ⟨d,m1⟩:=Jz (T:=T) u xe (st.c+1) M Z (ρ.set st.c { dB with y:=⟨.l u,List.set l0 i.toNat A⟩ });have ag  :=ay.aX.trans m1.ag (j6 _);generalize eo u xe (st.c+1)=m at h5 W k m1;have D  :=EY p _ (λit bJ=>by obtain ⟨r,R,rfl⟩:=List.mem_map.1 bJ;obtain ⟨j1,t1,l1,rfl⟩:=m1.rs _ R;exact ⟨rfl,m1.rp _ R⟩)
      have eG:=ba (T:=T) ag g;have eH:=ba (T:=T) ag (aC.cJ.1 hl).2.2.2;have hs2:Sat (ab d T (m.2.1++G)++(ab d T fr.H++Φ)) w:=by rw [bh,cp,eG,eH];exact D
      have f:=ain hs2 k;rw [bh,cp,eG,eH,<-Bx,m1.eq,AV.cd ag _ a5] at f;have L:(ab d T m.2.1++(ab ρ T G++(ab ρ T fr.H++Φ)))[m.2.1.length+j]? =some ((Row.own B u e l0 Y).item ρ T):=by
       rw [de (by simp )];have:m.2.1.length+j-(ab d T m.2.1).length=j:=by simp 
       rw [this];exact hi
      obtain ⟨d1,d2⟩:=D.at_ L;obtain ⟨p1,p2⟩:=d1.jS b2;have I  :=u.rep.len Z;obtain ⟨w',S,hC,C,hP⟩:=LP (cT hz) o O (BR a2) U (ON a3) o3 p1 o4 I (by have:=m1.eq;rw [<-this,AV.bG,AV.bG];exact h5) rfl f (λb hb=>Ctx.lh L (by rw [<-p2] at hb;exact hb))
      refine bN.gd (bN.agk S (aU.new (av:= .raw undef) hl W ag (dx (j6 _) m1.le) rfl (by simp [AV.val]) ?_));have hy1:(d st.c).y=⟨.l u,List.set l0 i.toNat A⟩:=by rw [m1.ag _ (l5 _),ay.bK]
      have:=ae0 D L hy1 hC C p2 hP;have a:=vg g k1;simp [Row.low,au,j0] at a;rw [bh,cp,gE hj,eG];rw [sv _ _ (by simp )] at this;have e7:m.2.1.length+j-(ab d T m.2.1).length=j:=by simp 
      rw [e7] at this;simp [Row.item,ag _ a.1];exact this
     .cases W
   .cases h
  .cases h
 .cases h
end
section
variable {X : Cx} {R : Type} {r : R} {K : cL R} {T : aB} {fr : Fr} {st : aC} {g : GK} {d : Tmp} {ρ : ay} {Φ : Ctx} {w : World} {ty : TypeId} {pos : String} {af : zg} {gd : wi}
def Y6{α:Type}(T:aB)(g:GK)(z:α)(m:Option α)(k:α->Option R):Option R:=match g with
 |none=>m.bind k
 |some _=>bn (T.get g) z m k
theorem Dn{α:Type}{z:α}{m:Option α}{k:α->Option R}(h:Y6 T g z m k=some r):∃y,(T.get g=true->m=some y)/\k y=some r:=by
 unfold Y6 at h;split at h
 .obtain ⟨y,b,a⟩:=iF h;exact ⟨y,λ_=>b,a⟩
 .obtain ⟨y,b,_,a⟩:=Ub h;exact ⟨y,b,a⟩
def ar1(T:aB)(g:GK)(st:aC)(d:Tmp)(t:Ty)(l:List t.T)(i:Int)(K:cL R):Option R:=
 Y6 T g t.uy (idx l i) λx=>K { st with c:=(eo t x (st.c+1)).2.2,E:=cO (some d) g (.adr st.c 0) st.E,G:= .elm g st.c (eo t x (st.c+1)).1::((eo t x (st.c+1)).2.1.map (x7 g)++st.G) }
def arV(T:aB)(g:GK)(st:aC)(d:Tmp)(id ver:Nat)(t:Ty)(l:List t.T)(i:Int)(K:cL R):Option R:=
 Y6 T g t.uy (idx l i) λx=>K { st with c:=st.c+1,E:=cO (some d) g (.adr st.c 0) st.E,G:= .kn g st.c id ver t i x::st.G }
def agL(X:Cx)(T:aB)(fr:Fr)(st:aC)(g:GK)(d:Tmp)(t:TypeId)(x y:Operand)(K:cL R):Option R:=match jr X.P t with
 |some e=>(match pH X.P e with
  |some z=>(match bz T st.E fr.F g x with
   |some (.sl id)=>(match bz T st.E fr.F g y with
    |some (.int _ i)=>(match eM st.G fr.H (rD id) with
     |some (_,.sli g' _ t l _)=>aD ( T.imp g g'&&Nat.beq z.1 t.n' ) ( ar1 T g st d t l i K ) none
     |some (_,.own _ t _ l ver)=>aD ( Nat.beq z.1 t.n' ) ( arV T g st d id ver t l i K ) none
     |_=>none)
    |_=>none)
   |_=>none)
  |none=>none)
 |none=>none
theorem ae5{t:TypeId}(hl:st.low fr=true)(Q:Sat (ab ρ T st.G++(ab ρ T fr.H++Φ)) w)(h:agL X T fr st g d t x y K=some r):
  Qe X.P T g (az ρ T st.E fr.F) ⟨some d,.indexAddr t x y,ty,pos,af,gd⟩ w (aU r K T fr st g (some d) ρ Φ):=by
 unfold agL at h;split at h
 .rename_i e he;split at h
  .rename_i z hz;obtain ⟨n,bytes,z⟩:=z;split at h
   .rename_i id hx;split at h
    .rename_i k i hy;have D:=aP (ρ:=ρ) hx;have C:=aP (ρ:=ρ) hy;simp only [AV.val] at D C;split at h
     .rename_i s g' m t l b W;obtain ⟨O,Y⟩:=aI h;simp only [au] at O;have hn:n=t.rep.n:=(b0 O.2).trans t.EX.symm;obtain ⟨J,Z⟩:=bY W;have:m=id:=b0 Z;subst this;obtain ⟨u,R,b2⟩:=Dn Y;have hT:=Src.holds Q J
      -- the element, where g holds
      have key:∃(p:Addr) (f:ay),aS st.c ρ f/\(f st.c).a=p/\(T.get g=true->Cz (sl (ρ m).v) i n p)/\
        ∀it∈ab f T (.elm g st.c (eo t u (st.c+1)).1::((eo t u (st.c+1)).2.1.map (x7 g))),it.cP=true/\it.P (Ctx.M (ab ρ T st.G++(ab ρ T fr.H++Φ))) w:=by
       cases B:T.get g
       .refine ⟨⟨0,0,none⟩,ρ.set st.c dB,ay.aX,by rw [ay.bK];rfl,(λh=>by cases h),λit bJ=>?_⟩;rw [ab,e9] at bJ;rcases List.mem_cons.1 bJ with rfl|bJ
        .exact ⟨rfl,λh=>by rw [B] at h;cases h⟩
        .obtain ⟨r1,I,rfl⟩:=List.mem_map.1 bJ;obtain ⟨r2,q,rfl⟩:=List.mem_map.1 I;obtain ⟨j1,t1,l1,rfl⟩:=Ou _ _ _ _ q;exact xx (λh=>by rw [B] at h;cases h)
       .have hS:=(hT (aB.mV O.1 B)).1;obtain ⟨e1,vs,e2,e3,e4⟩:=hS.atA (R B);obtain ⟨f,m1⟩:=Jz (T:=T) t u (st.c+1) vs e3 (ρ.set st.c { dB with a:=vk (sl (ρ m).v) i t.rep.n });have N:(f st.c).a=vk (sl (ρ m).v) i t.rep.n:=by rw [m1.ag _ (l5 _),ay.bK]
        refine ⟨vk (sl (ρ m).v) i t.rep.n,f,ay.aX.trans m1.ag (j6 _),N,λ_=>by rw [hn];exact e1,λit bJ=>?_⟩;rw [ab,e9] at bJ;rcases List.mem_cons.1 bJ with rfl|bJ
        .refine ⟨rfl,λ_=>?_⟩;show ¬Ctx.M _ (f st.c).a.block/\bO w (f st.c).a _;rw [N,m1.eq];exact ⟨e4,e2⟩
        .obtain ⟨r1,I,rfl⟩:=List.mem_map.1 bJ;obtain ⟨r2,q,rfl⟩:=List.mem_map.1 I;have V:=m1.rp _ q;obtain ⟨j1,t1,l1,rfl⟩:=m1.rs _ q;exact xx (λ_=>V)
      obtain ⟨p,f,k1,k2,k3,k4⟩:=key;have U:=EY Q _ k4;have eG:=ba (T:=T) k1 (aC.cJ.1 hl).2.2.1;have o:aU r K T fr st g (some d) ρ Φ (.pointer (some p)) w:=by
       refine aU.new (ρ':=f) hl b2 k1 (dx (j6 _) (MH _ _ _)) rfl (by simp only [AV.val,k2];simp [Addr.add]) ?_;show Sat (ab f T (Row.elm g st.c _::(_++st.G))++_) w;have e8:ab f T (Row.elm g st.c (eo t u (st.c+1)).1::((eo t u (st.c+1)).2.1.map (x7 g)++st.G))=ab f T (.elm g st.c (eo t u (st.c+1)).1::((eo t u (st.c+1)).2.1.map (x7 g)))++ab f T st.G:=by simp [ab]
       rw [e8,eG,cp];exact U
      exact ⟨_,λw'=>P6 (cu he) (cT hz) D C k3,o⟩
     .rename_i s m t e' l L W;obtain ⟨O,Y⟩:=aI h;have hn:n=t.rep.n:=(b0 O).trans t.EX.symm;obtain ⟨J,Z⟩:=bY W;have:m=id:=b0 Z;subst this;obtain ⟨u,R,b2⟩:=Dn Y;obtain ⟨hO,S⟩:=Src.holds Q J;have A:m<st.c/\L<st.c:=by
       have:(Row.own m t e' l L).low st.c=true:=by
        cases s with
        |top j=>exact vg (aC.cJ.1 hl).2.2.1 J
        |cB j=>exact vg (aC.cJ.1 hl).2.2.2 J
        |_=>exact J.elim
       simpa only [Row.low,au,j0] using this
      have o:aU r K T fr st g (some d) ρ Φ (.pointer (some (vk (sl (ρ m).v) i t.rep.n))) w:=by refine aU.push (x:={ dB with a:=vk (sl (ρ m).v) i t.rep.n }) hl b2 (by simp only [AV.val,ay.bK];simp [Addr.add]) (Q.add rfl ?_);intro B;rw [ay.aX _ A.1,ay.aX _ A.2,ay.bK];exact ⟨l,S,R B,rfl⟩
      exact ⟨_,λw'=>P6 (cu he) (cT hz) D C (λB=>by rw [hn];exact (hO.atA (R B)).1),o⟩
     .cases h
    .cases h
   .cases h
  .cases h
 .cases h
def Sz(X:Cx)(T:aB)(fr:Fr)(st:aC)(g:GK)(d:Tmp)(t:TypeId)(q off:Nat)(K:cL R):Option R:=match eM st.G fr.H (Se q) with
 |some (_,.kn g' _ id ver u _ x)=>(match eM st.G fr.H (rD id) with
  |some (_,.own _ _ _ _ ver')=>aD ( Nat.beq ver ver'&&T.imp g g' ) ( match n3 X.P t ((eo u x st.c).1.drop off) with
   |some v=>K { st with c:=(eo u x st.c).2.2,E:=cO (some d) g v st.E,G:=(eo u x st.c).2.1.map (x7 g)++st.G }
   |none=>none ) none
  |_=>none)
 |_=>none
theorem Xw{t:TypeId}{q f:Nat}(hl:st.low fr=true)(V:Sat (ab ρ T st.G++(ab ρ T fr.H++Φ)) w)(hx:bz T st.E fr.F g x=some (.adr q f))(h:Sz X T fr st g d t q f K=some r):
  ∃v,(∀w',Ext w w'->bc X.P (az ρ T st.E fr.F) (T.get g) ⟨some d,.load t x,ty,pos,af,gd⟩ w' v)/\aU r K T fr st g (some d) ρ Φ v w:=by
 unfold Sz at h;split at h
 .rename_i s g' q' id N u i m hf;split at h
  .rename_i s2 O u' e l B Y;obtain ⟨h1,Z⟩:=aI h;simp only [au] at h1;split at Z
   .rename_i v J;obtain ⟨f1,f2⟩:=bY hf;obtain ⟨f3,f4⟩:=bY Y;have e1:q'=q:=b0 f2;have e2:O=id:=b0 f4;have e3:N=B:=b0 h1.1;subst e1;subst e2;subst e3;have j:=aP (ρ:=ρ) hx;simp only [AV.val] at j;have hF:=Src.holds V f1;obtain ⟨hO,R⟩:=Src.holds V f3;have key:∃(b:ay) (vs:zb),aS st.c ρ b/\AV.al b (eo u m st.c).1=vs/\(T.get g=true->bO w (ρ q').a vs)/\
      ∀it∈ab b T ((eo u m st.c).2.1.map (x7 g)),it.cP=true/\it.P (Ctx.M (ab ρ T st.G++(ab ρ T fr.H++Φ))) w:=by
     cases I:T.get g
     .refine ⟨ρ,_,.refl,rfl,(λh=>by cases h),λit bJ=>?_⟩;obtain ⟨r1,p,rfl⟩:=List.mem_map.1 bJ;obtain ⟨r2,k,rfl⟩:=List.mem_map.1 p;obtain ⟨j1,t1,l1,rfl⟩:=Ou _ _ _ _ k;exact xx (λh=>by rw [I] at h;cases h)
     .obtain ⟨l0,b1,b2,b3⟩:=hF (aB.mV h1.2 I);obtain ⟨e4,e5⟩:=OG b1 R;subst e4;simp only at e5;subst e5;obtain ⟨_,vs,e6,e7⟩:=hO.atA b2;obtain ⟨b,m1⟩:=Jz (T:=T) u m st.c vs e7 ρ;refine ⟨b,vs,m1.ag,m1.eq,λ_=>by rw [b3];exact e6,λit bJ=>?_⟩;obtain ⟨r1,p,rfl⟩:=List.mem_map.1 bJ;obtain ⟨r2,k,rfl⟩:=List.mem_map.1 p;have W:=m1.rp _ k;obtain ⟨j1,t1,l1,rfl⟩:=m1.rs _ k;exact xx (λ_=>W)
    obtain ⟨b,vs,k1,k2,k3,k4⟩:=key;have U:=EY V _ k4;have eG:=ba (T:=T) k1 (aC.cJ.1 hl).2.2.1;have C:aU r K T fr st g (some d) ρ Φ (v.val b) w:=by refine aU.new (ρ':=b) hl Z k1 (MH _ _ _) rfl rfl ?_;show Sat (ab b T (_++st.G)++_) w;rw [bh,eG,cp];exact U
    refine ⟨_,λw' S=>afK λI=>?_,C⟩;rw [I] at j ⊢;have hc:=(k3 I).ext S;have o:bO w' ((ρ q').a.add f) (AV.al b ((eo u m st.c).1.drop f)):=by refine hc.sub _ ?_;rw [AV.jQ,k2,fa (cK _)]
    have h':n3 X.P t (((eo u m st.c).1.drop f).drop 0)=some v:=by simpa using J
    obtain ⟨dd,n,bytes,z,c1,c2,A⟩:=su (ρ:=b) h';cases hd:nn dd
    .rw [hd] at A;simp only [eF,qn] at A;refine Ni c1 hd j (λ_=>?_);have:=o.sub (us:=[v.val b]) 0 (by
      cases hq:AV.al b ((eo u m st.c).1.drop f) with
      |nil=>rw [hq] at A;cases A
      |cons a l=>rw [hq] at A;cases A;simp)
     simpa [Addr.add] using this
    .unfold n3 at J;rw [c1] at J;rcases ek J with ⟨_,y⟩|⟨y,_⟩
     .split at y
      .rename_i z2 Q;obtain ⟨n2,L,z2⟩:=z2;obtain ⟨h4,h5⟩:=aI y;cases h5;have D:n2<=((eo u m st.c).1.drop f).length:=ei h4;simp only [AV.val];refine NV c1 hd (cT Q) j (λ_=>?_) ?_
       .have:=o.sub (us:=AV.al b (((eo u m st.c).1.drop f).take n2)) 0 (by rw [AV.mH,n9,dq,AV.bG,hV D])
        simpa [Addr.add] using this
       .rw [AV.bG,dq,hV D]
      .cases y
     .rw [hd] at y;cases y
   .cases Z
  .cases h
 .cases h
theorem amL{t:TypeId}{q a:Nat}(hl:st.low fr=true)(e:Sat (ab ρ T st.G++(ab ρ T fr.H++Φ)) w)(hx:bz T st.E fr.F g x=some (.adr q a))(h:Sz X T fr st g d t q a K=some r):
  mZ X.P T g (az ρ T st.E fr.F) ⟨some d,.load t x,ty,pos,af,gd⟩ w (aU r K T fr st g (some d) ρ Φ):=by
 obtain ⟨v,c,b⟩:=Xw (ty:=ty) (pos:=pos) (af:=af) (gd:=gd) hl e hx h;refine ⟨λf=>bN.gd (bN.run ?_ b),λ_=>⟨_,b⟩⟩;rw [f] at c;exact c w (Ext.refl w)
end
section
variable {X : Cx} {R : Type} {r : R} {K : cL R} {T : aB} {fr : Fr} {st : aC} {g : GK} {d : Tmp} {ρ : ay} {Φ : Ctx} {w : World} {ty : TypeId} {pos : String} {af : zg} {gd : wi}
def Zi:Operand->Operand->Bool
 | .tmp a,.tmp b=>Nat.beq a b
 | .const (.int .i64 a),.const (.int .i64 b)=>decide (a=b)
 |_,_=>false
theorem acu(h:Zi x y=true):x=y:=by
 unfold Zi at h;split at h
 .rw [b0 h]
 .rw [qB h]
 .cases h
def ahF(_T:aB)(g:GK)(st:aC)(d:Tmp)(G:List Row)(t:Ty)(l:List t.T)(i j:Int)(clip:Bool)(K:cL R):Option R:=
 K { st with c:=st.c+1,E:=cO (some d) g (.sl st.c) st.E,G:= .sli g st.c t (aV l i j) clip::G }
def acm(X:Cx)(T:aB)(fr:Fr)(st:aC)(g:GK)(d:Tmp)(t:TypeId)(x:Operand)(lo hi mx:Option Operand)(K:cL R):Option R:=match jr X.P t with
 |some e=>(match pH X.P e with
  |some z=>(match bz T st.E fr.F g x with
   |some (.sl id)=>(match loA T st.E fr.F g lo with
    |some i=>(match PT T st.E fr.F g hi with
     |some j=>(match eM (cB [id] st.G) fr.H (rD id) with
      |some (_,.sli g' _ u l _)=>aD ( T.imp g g'&&Nat.beq z.1 u.n' ) ( match mx with
       |none=>Ld (some (df i (j.getD (l.length:Int)) l.length)) (g.map λ_=>T.get g) (ahF T g st d (cB [id] st.G) u l i (j.getD (l.length:Int)) false K)
       |some y=>(match hi with
        |some h=>(match bz T st.E fr.F g y with
         |some (.int _ m)=>aD (Zi h y) ( Ld (some (kM i m m l.length)) (g.map λ_=>T.get g) (ahF T g st d (cB [id] st.G) u l i m true K) )
          ( Ld (some (kM i m m l.length&&(j.getD (l.length:Int)==m))) (g.map λ_=>T.get g) (ahF T g st d (cB [id] st.G) u l i m true K) )
         |_=>none)
        |none=>none) ) none
      |_=>none)
     |none=>none)
    |none=>none)
   |_=>none)
  |none=>none)
 |none=>none
theorem Sd{G:List Row}{t:Ty}{l:List t.T}{i j:Int}{a:Bool}{p:jU}(hl:st.low fr=true)(b:bD st.c G=true)(f:Sat (ab ρ T G++(ab ρ T fr.H++Φ)) w)
  (hp:T.get g=true->bT t.rep (Ctx.M (ab ρ T G++(ab ρ T fr.H++Φ))) w (sl p) (aV l i j)/\(a=true->p.2.2=(aV l i j).length)) (h:ahF T g st d G t l i j a K=some r):
  aU r K T fr st g (some d) ρ Φ (sl p) w:=by
 refine aU.new (ρ':=ρ.set st.c { dB with v:=p }) hl h ay.aX (j6 _) rfl (by simp only [AV.val,ay.bK]) ?_;show Sat (ab _ T (_::G)++_) w;have e:=ba (T:=T) (ay.aX (ρ:=ρ) (j:=st.c) (x:={ dB with v:=p })) b;rw [ab,e9];rw [ab] at e;rw [e];refine f.add rfl ?_;simp only [Row.item,ay.bK];exact hp
theorem Vt{t:TypeId}{lo hi mx:Option Operand}(hl:st.low fr=true)(I:Sat (ab ρ T st.G++(ab ρ T fr.H++Φ)) w)(h:acm X T fr st g d t x lo hi mx K=some r):
  Qe X.P T g (az ρ T st.E fr.F) ⟨some d,.slice t x lo hi mx,ty,pos,af,gd⟩ w (aU r K T fr st g (some d) ρ Φ):=by
 unfold acm at h;split at h
 .rename_i e W;split at h
  .rename_i z hz;obtain ⟨n,bytes,z⟩:=z;split at h
   .rename_i id hx;split at h
    .rename_i i hi;split at h
     .rename_i j hj;replace I:=lQ (ids:=[id]) I;have C:=vf (ids:=[id]) (aC.cJ.1 hl).2.2.1;have A:=aP (ρ:=ρ) hx;simp only [AV.val] at A;split at h
      .rename_i s g' o u l b V;obtain ⟨Z,D⟩:=aI h;simp only [au] at Z;have hn:n=u.rep.n:=(b0 Z.2).trans u.EX.symm;obtain ⟨f1,f2⟩:=bY V;have:o=id:=b0 f2;subst this;have hT:=Src.holds I f1;have hS:T.get g=true->bT u.rep _ w (sl (ρ o).v) l:=λc=>(hT (aB.mV Z.1 c)).1;have B:=cT hz;rw [hn] at B;split at D
       .obtain ⟨O,L⟩:=tX D;obtain ⟨p,k1,J⟩:=bT.atF hS (λc=>O _ rfl c);have f:=Sd (p:=p) hl C I (λc=>⟨J c,λhb=>by cases hb⟩) L;exact ⟨_,λw'=>GQ (cu W) B A (λc=>(hS c).len) (Vl hi) (UT hj) k1,f⟩
       .rename_i y;split at D
        .rename_i Q;split at D
         .rename_i k m hy;have q:=aP (ρ:=ρ) hy;simp only [AV.val] at q;rcases ek D with ⟨h5,Y⟩|⟨_,Y⟩
          .have:=acu h5;subst this;obtain ⟨O,L⟩:=tX Y;have key:∃p:jU,(T.get g=true->OM (sl (ρ o).v) i m m u.rep.n (sl p))/\(T.get g=true->bT u.rep (Ctx.M (ab ρ T (cB [o] st.G)++(ab ρ T fr.H++Φ))) w (sl p) (aV l i m)/\(true=true->p.2.2=(aV l i m).length)):=by
            cases c:T.get g
            .exact ⟨(none,0,0),(λh=>by cases h),(λh=>by cases h)⟩
            .obtain ⟨p,S,R⟩:=bT.anZ (hS c) (O _ rfl c);exact ⟨_,λ_=>S,λ_=>⟨R,λ_=>rfl⟩⟩
           obtain ⟨p,k1,J⟩:=key;have f:=Sd (p:=p) hl C I J L;exact ⟨_,λw'=>Ve (lo:=lo) (hi:=some Q) (cu W) B A (λc=>(hS c).len) (Vl hi) ⟨k,q⟩ q k1,f⟩
          .obtain ⟨O,L⟩:=tX Y;have N:T.get g=true->kM i m m l.length=true/\j.getD (l.length:Int)=m:=λc=>by have:=O _ rfl c;simp only [au,n4] at this;exact this
           have key:∃p:jU,(T.get g=true->OM (sl (ρ o).v) i m m u.rep.n (sl p))/\(T.get g=true->bT u.rep (Ctx.M (ab ρ T (cB [o] st.G)++(ab ρ T fr.H++Φ))) w (sl p) (aV l i m)/\(true=true->p.2.2=(aV l i m).length)):=by
            cases c:T.get g
            .exact ⟨(none,0,0),(λh=>by cases h),(λh=>by cases h)⟩
            .obtain ⟨p,S,R⟩:=bT.anZ (hS c) (N c).1;exact ⟨_,λ_=>S,λ_=>⟨R,λ_=>rfl⟩⟩
           obtain ⟨p,k1,J⟩:=key;have f:=Sd (p:=p) hl C I J L;have U:∃k,aq (az ρ T st.E fr.F) (T.get g) Q (.int k m):=by obtain ⟨k,hk⟩:∃k,aq (az ρ T st.E fr.F) (T.get g) Q (.int k (j.getD (l.length:Int))):=UT (ρ:=ρ) (len:=l.length) hj;exact ⟨k,λn a V c=>by rw [hk n a V c,(N c).2]⟩
           exact ⟨_,λw'=>Ve (lo:=lo) (hi:=some Q) (cu W) B A (λc=>(hS c).len) (Vl hi) U q k1,f⟩
         .cases D
        .cases D
      .cases h
     .cases h
    .cases h
   .cases h
  .cases h
 .cases h
def aaw(len:Nat)(z:List AV):List AV:=(List.replicate len z).flatten
theorem acy{len:Nat}{z:List AV}:AV.al ρ (aaw len z)=(List.replicate len (AV.al ρ z)).flatten:=by
 unfold aaw
 induction len with
 |zero=>simp [AV.al]
 |succ n ih=>simp only [qP,List.flatten_cons,dv,ih]
def unR(T:aB)(g:GK):List Row->List Row
 |[]=>[]
 |r::G=>(match r with
  | .sli g' id t l c=>aD (T.imp g g') (.sli none id t l c) (.sli g' id t l c)
  |r=>r)::unR T g G
def unG(T:aB)(g:GK)(G:List Row):List Row:=match g with
 |none=>G
 |some _=>unR T g G
theorem XB{ρ:ay}{T:aB}{g:GK}(b:T.get g=true):{G:List Row}->ab ρ T (unR T g G)=ab ρ T G
 |[]=>rfl
 |r::G=>by
  have ih:=XB (ρ:=ρ) b (G:=G);unfold unR;simp only [ab,e9] at ih ⊢;rw [ih];congr 1;cases r with
  |sli a id t l c=>
   show Row.item ρ T (aD (T.imp g a) (.sli none id t l c) (.sli a id t l c))=_;cases h:T.imp g a with
   |false=>rfl
   |true=>
    show Row.item ρ T (.sli none id t l c)=_;simp only [Row.item,aB.get_none,aB.mV h b]
  |_=>rfl
theorem Ha{ρ:ay}{T:aB}{g:GK}(a:T.get g=true){G:List Row}:ab ρ T (unG T g G)=ab ρ T G:=by
 cases g with
 |none=>rfl
 |some k=>exact XB a
def anF(X:Cx)(T:aB)(fr:Fr)(st:aC)(g:GK)(d:Tmp)(t:TypeId)(len:Nat)(ps:List (Nat×Operand))(K:cL R):Option R:=match jr X.P t with
 |some e=>(match DF X.tys e with
  |some u=>(match pH X.P e with
   |some z=>(match vN T st.E fr.F g (ps.map (·.2)) with
    |some vs=>(match GF (λi=>some (i*z.1,z.1)) ((ps.map (·.1)).zip vs) (aaw len (z.2.2.cells.toList.map nT)) with
     |some cs=>(match Zm (unG T g (cB (AV.fF (.agg vs)++(vs.map AV.fF).flatten) st.G)) (unG T g fr.H) u len cs with
      |some xs=>aD ( Nat.beq z.1 u.n'&&Nat.beq z.2.2.cells.size z.1&&Nat.ble (len*z.1) 16777216 ) ( match g with
       |none=>aD ( Nat.blt 0 (len*z.1)||Nat.beq len 0&&ps.isEmpty ) ( K { st with c:=st.c+1,E:=cO (some d) none (.sl st.c) st.E,G:= .own st.c u e xs st.c::cB (AV.fF (.agg vs)++(vs.map AV.fF).flatten) st.G } ) none
       |some _=>aD ( Nat.blt 0 (len*z.1)||Nat.beq len 0&&ps.isEmpty ) ( K { st with c:=st.c+1,E:=cO (some d) g (.sl st.c) st.E,G:= .sli g st.c u xs false::cB (AV.fF (.agg vs)++(vs.map AV.fF).flatten) st.G } ) none ) none
      |none=>none)
     |none=>none)
    |none=>none)
   |none=>none)
  |none=>none)
 |none=>none
theorem AW{t:Ty}{p:jU}{l:List t.T}{G:List Row}{w':World}{st':aC}(hl:st.low fr=true)(a:bD st.c G=true)(f:Sat (ab ρ T G++(ab ρ T fr.H++Φ)) w)(i:Ext w w')
  (g:∀b∈B9 p,b<w'.heap.size/\w.heap.size<=b) (h:∀M',Mv (Ctx.M (ab ρ T G++(ab ρ T fr.H++Φ))) w M' w'->cj t.rep e M' w' (sl p) l (B9 p))
  (lB:st'={ st with c:=st.c+1,E:=cO (some d) none (.sl st.c) st.E,G:= .own st.c t e l st.c::G }) (hK:K st'=some r):aU r K T fr st none (some d) ρ Φ (sl p) w':=by
 subst lB;refine aU.new (ρ':=ρ.set st.c { dB with v:=p,y:=⟨.l t,l⟩ }) hl hK ay.aX (j6 _) rfl (by simp only [AV.val,ay.bK]) ?_;show Sat (ab _ T (_::G)++_) w';have e:=ba (T:=T) (ay.aX (ρ:=ρ) (j:=st.c) (x:={ dB with v:=p,y:=⟨.l t,l⟩ })) a;rw [ab,e9];rw [ab] at e;rw [e];refine f.push i (λb hb=>?_) (λM' m=>?_)
 .simp only [Row.item,ay.bK] at hb;exact g b hb
 .simp only [Row.item,ay.bK];exact ⟨h M' m,trivial⟩
theorem NZ{b n c:Nat}:dT (sl (some ⟨b,0,none⟩,n,c))=[b]:=rfl
theorem Jo{p:jU}{b:Nat}(h:b∈B9 p):b∈dT (sl p):=by
 unfold B9 at h;split at h
 .cases h
 .exact h
theorem apr{t:TypeId}{len:Nat}{ps:Array (Nat×Operand)}(hl:st.low fr=true)(y:Sat (ab ρ T st.G++(ab ρ T fr.H++Φ)) w)(h:anF X T fr st g d t len ps.toList K=some r):
  mZ X.P T g (az ρ T st.E fr.F) ⟨some d,.buildSlice t len ps,ty,pos,af,gd⟩ w (aU r K T fr st g (some d) ρ Φ):=by
 obtain ⟨ps⟩:=ps;simp only at h;unfold anF at h;split at h
 .rename_i e N;split at h
  .rename_i u hu;split at h
   .rename_i z hz;obtain ⟨n,bytes,z⟩:=z;split at h
    .rename_i vs R;split at h
     .rename_i cs S;have q:=vf (ids:=AV.fF (.agg vs)++(vs.map AV.fF).flatten) (aC.cJ.1 hl).2.2.1;replace y:=lQ (ids:=AV.fF (.agg vs)++(vs.map AV.fF).flatten) y;generalize cB (AV.fF (.agg vs)++(vs.map AV.fF).flatten) st.G=G at h q y;split at h
      .rename_i xs Q;obtain ⟨O,Z⟩:=aI h;simp only [au] at O;obtain ⟨⟨a1,a2⟩,W⟩:=O;have hn:n=u.rep.n:=(b0 a1).trans u.EX.symm;have C:z.cells.size=n:=b0 a2;have hk:T.get g=true->xs.length=len/\cX u.rep (Ctx.M (ab ρ T G++(ab ρ T fr.H++Φ))) w (AV.al ρ cs) xs:=λA=>by have:=Um (ρ:=ρ) (T:=T) (Φ:=Φ) (w:=w) (by rw [Ha A,Ha A];exact y) _ _ _ Q;rwa [Ha A,Ha A] at this
       have s:=cT hz;have o:=EL (ρ:=ρ) S;rw [Ki,acy,sg] at o;have B:0<n->Bj n len z.cells.toList ((ps.map (·.1)).zip (AV.al ρ vs))=some (AV.al ρ cs).toArray:=λa=>by unfold Bj;have I:=Oj z.cells.toList (by simp [C];exact a) len;simp only [fb,C] at I;simp only [fb,C];rw [<-o,<-I]
       have i:=jT (ρ:=ρ) R;subst hn;cases g with
       |none=>
        obtain ⟨k1,J⟩:=hk aB.get_none;obtain ⟨l,L⟩:=aI Z;simp only [fi,au] at l;have i:kl (az ρ T st.E fr.F) true (ps.map (·.2)) (AV.al ρ vs):=by simpa using i
        rcases l with l|⟨l,U⟩
        .have a:0<u.rep.n:=by
          have:0<len*u.rep.n:=by simpa using l
          exact Nat.pos_of_ne_zero (λe=>by simp [e] at this)
         have f:=yt (P:=X.P) (w:=w) (dst:=some d) (ty:=ty) (pos:=pos) (af:=af) (cu N) s (zs:=z.cells.toList) (by simp) l W i (B a);have Y:len*1<=len*u.rep.n:=Nat.mul_le_mul_left _ a;have h9:=ei W;have h8:Nat.ble len 9223372036854775807=true:=qI (by omega);refine .none_ (bN.gd (bN.tf f ?_));have:=AW (d:=d) (t:=u) (e:=e) (p:=(some ⟨w.heap.size,0,none⟩,len,len)) hl q y (gz w (.cells (AV.al ρ cs).toArray e)) (λb hb=>by have:=Jo hb;rw [NZ] at this;simp only [l9] at this;subst this;simp) (λM' m=>(cj.of (ky.fresh (heap_alloc_new w _) k1 h8 (J.mv m))).NU) rfl L
         exact this
        .have V:len=0:=b0 l;subst V;have I:ps=[]:=by simpa using U
         subst I;have D:xs=[]:=er k1;subst D;have f:=wR (P:=X.P) (E:=az ρ T st.E fr.F) (w:=w) (dst:=some d) (ty:=ty) (pos:=pos) (af:=af) (cu N) s;refine .none_ (bN.gd (bN.tf f ?_));have:=AW (d:=d) (t:=u) (e:=e) (p:=(some ⟨w.heap.size,0,none⟩,0,0)) hl q y (gz w (.cells ([]:zb).toArray e)) (λb hb=>by have:=Jo hb;rw [NZ] at this;simp only [l9] at this;subst this;simp) (λM' m=>(cj.of (ky.fresh (heap_alloc_new w _) rfl rfl cX.nil)).NU) rfl L
         exact this
       |some k=>
        obtain ⟨l,L⟩:=aI Z;simp only [fi,au] at l;refine ⟨λA=>?_,λA=>?_⟩
        .obtain ⟨k1,J⟩:=hk A;rw [A] at i;have key:∃cells:zb,pn X.P (az ρ T st.E fr.F) ⟨some d,.buildSlice t len ⟨ps⟩,ty,pos,af,none⟩ w (.slice (some ⟨w.heap.size,0,none⟩) len len) (w.alloc (.cells cells.toArray e))/\cX u.rep (Ctx.M (ab ρ T G++(ab ρ T fr.H++Φ))) w cells xs:=by
          rcases l with l|⟨l,U⟩
          .have a:0<u.rep.n:=by
            have:0<len*u.rep.n:=by simpa using l
            exact Nat.pos_of_ne_zero (λe=>by simp [e] at this)
           exact ⟨AV.al ρ cs,yt (P:=X.P) (w:=w) (dst:=some d) (ty:=ty) (pos:=pos) (af:=af) (cu N) s (zs:=z.cells.toList) (by simp) l W i (B a),J⟩
          .have V:len=0:=b0 l;subst V;have I:ps=[]:=by simpa using U
           subst I;have D:xs=[]:=er k1;subst D;exact ⟨[],wR (P:=X.P) (E:=az ρ T st.E fr.F) (w:=w) (dst:=some d) (ty:=ty) (pos:=pos) (af:=af) (cu N) s,cX.nil⟩
         obtain ⟨cells,f,J⟩:=key;refine bN.gd (bN.tf f ?_);have O:=y.ext (gz w (.cells cells.toArray e));have hf:bT u.rep (Ctx.M (ab ρ T G++(ab ρ T fr.H++Φ))) (w.alloc (.cells cells.toArray e)) (sl (some ⟨w.heap.size,0,none⟩,len,len)) xs:=
          bT.fresh (heap_alloc_new w _) (λhm=>by have:=y.lt hm;omega) k1 (J.mv ((gz w _).mv _))
         refine aU.new (ρ':=ρ.set st.c { dB with v:=(some ⟨w.heap.size,0,none⟩,len,len) }) (av:= .sl st.c) hl L ay.aX (j6 _) rfl (by simp only [AV.val,ay.bK];rfl) ?_;show Sat (ab _ T (_::G)++_) _;have e:=ba (T:=T) (ay.aX (ρ:=ρ) (j:=st.c) (x:={ dB with v:=(some ⟨w.heap.size,0,none⟩,len,len) })) q;rw [ab,e9];rw [ab] at e;rw [e];refine O.add rfl ?_;simp only [Row.item,ay.bK];exact λ_=>⟨hf,λhb=>by cases hb⟩
        .refine ⟨_,aU.new (ρ':=ρ.set st.c dB) (av:= .sl st.c) hl L ay.aX (j6 _) rfl rfl ?_⟩;show Sat (ab _ T (_::G)++_) _;have e:=ba (T:=T) (ay.aX (ρ:=ρ) (j:=st.c) (x:=dB)) q;rw [ab,e9];rw [ab] at e;rw [e];refine y.add rfl ?_;exact λh=>by rw [A] at h;cases h
      .cases h
     .cases h
    .cases h
   .cases h
  .cases h
 .cases h
end
section
variable {X : Cx} {R : Type} {r : R} {K : cL R} {T : aB} {fr : Fr} {st : aC} {g : GK} {d : Tmp} {ρ : ay} {Φ : Ctx} {w : World} {ty : TypeId} {pos : String} {af : zg} {gd : wi}
def agd(X:Cx)(T:aB)(fr:Fr)(st:aC)(d:Tmp)(t:TypeId)(x y:Operand)(K:cL R):Option R:=match jr X.P t with
 |some e=>(match DF X.tys e with
  |some u=>(match pH X.P e with
   |some z=>(match bz T st.E fr.F none x with
    |some (.int _ l)=>aD ( Zi x y&&Nat.beq z.1 u.n'&&Nat.beq z.2.2.cells.size z.1&&Nat.blt 0 z.1 ) (
     match rd1 [] [] u (z.2.2.cells.toList.map nT) with
     |some zx=>aN (decide (0<=l)) (aN (aH l.toNat z.2.1) (K { st with c:=st.c+1,E:=cO (some d) none (.sl st.c) st.E,G:= .own st.c u e (List.replicate l.toNat zx) st.c::st.G }))
     |none=>none ) none
    |_=>none)
   |none=>none)
  |none=>none)
 |none=>none
theorem aaL{t:Ty}{v:AV}{l:List t.T}(h:vD [] [] t v=some l):∀(M:Nat->Prop) (w:World),bT t.rep M w (v.val ρ) l:=by unfold vD at h;grind [eM,tv,AV.val,bT.nil]
theorem Vp:(t:Ty)->(vs:List AV)->(x:t.T×List AV)->tV [] [] t vs=some x->∃us,vs=us++x.2/\∀(M:Nat->Prop) (w:World),t.rep.rd M w (AV.al ρ us) x.1
 | .i k,vs,x,h=>by
  unfold tV at h;split at h
  next m y us=>obtain ⟨f,e⟩:=aI h;have:=oq f;subst this;cases e;exact ⟨[.int k y],rfl,λM w=>by rfl⟩
  .cases h
 | .bo,vs,x,h=>by
  unfold tV at h;split at h
  next y us=>cases h;exact ⟨[.bool y],rfl,λM w=>by rfl⟩
  .cases h
 | .s,vs,x,h=>by
  unfold tV at h;split at h
  next y us=>cases h;exact ⟨[.str y],rfl,λM w=>by rfl⟩
  .cases h
 | .un,vs,x,h=>by
  cases h;exact ⟨[],rfl,λM w=>by rfl⟩
 | .n,vs,x,h=>by
  unfold tV at h;split at h
  next t us=>cases h;exact ⟨[.ifc t (.agg [])],rfl,λM w=>by rfl⟩
  .cases h
 | .mp _ _,vs,x,h=>by grind [tV]
 | .p a b,vs,x,h=>by
  unfold tV at h;split at h
  .rename_i y j;split at h
   next z g=>cases h;obtain ⟨us,q,f⟩:=Vp a vs y j;obtain ⟨d,o,e⟩:=Vp b y.2 z g;refine ⟨us++d,by grind,λM w=>?_⟩;rw [dv];exact ⟨_,_,rfl,f M w,e M w⟩
   .cases h
  .cases h
 | .l t,vs,x,h=>by
  unfold tV at h;split at h
  .rename_i v us;split at h
   next l hl=>cases h;refine ⟨[v],rfl,λM w=>?_⟩;exact (aaL hl M w).rsl
   .cases h
  .cases h
 | .ex,vs,x,h=>by
  unfold tV at h;split at h
  .rename_i a b c v us;split at h
   next l hl=>cases h;refine ⟨[.int .i64 a,.int .i64 b,.int .i64 c,v],rfl,λM w=>?_⟩;exact Qb (aaL hl M w).rsl
   .cases h
  .cases h
theorem amh{t:TypeId}(hl:st.low fr=true)(A:Sat (ab ρ T st.G++(ab ρ T fr.H++Φ)) w)(h:agd X T fr st d t x y K=some r):
  mZ X.P T none (az ρ T st.E fr.F) ⟨some d,.makeSlice t x y,ty,pos,af,gd⟩ w (aU r K T fr st none (some d) ρ Φ):=by
 unfold agd at h;split at h
 .rename_i e D;split at h
  .rename_i u Y;split at h
   .rename_i z v;obtain ⟨n,bytes,z⟩:=z;split at h
    .rename_i k l hx;obtain ⟨q,o⟩:=aI h;simp only [au] at q;obtain ⟨⟨⟨V,U⟩,S⟩,R⟩:=q;have:=acu V;subst this;have hn  :=(b0 U).trans u.EX.symm;have f  :=b0 S;split at o
     .rename_i s a;obtain ⟨Q,N⟩:=jE o;obtain ⟨O,L⟩:=jE N;have c:=bL (ρ:=ρ) hx;have j:=cT v;subst hn;have g:∀(M:Nat->Prop) (w:World),u.rep.rd M w z.cells.toList s:=by
       unfold rd1 at a;split at a
       next W i=>obtain ⟨us,e1,Z⟩:=Vp (ρ:=ρ) u _ _ i;grind [sg]
       .cases a
      obtain ⟨w',B,J,C,I⟩:=aiD (cu D) j (by simp) (by simpa using f) (by simpa using R) c c Q O g;refine .none_ (bN.gd (bN.tf B ?_));exact AW (p:=(some ⟨w.heap.size,0,none⟩,l.toNat,l.toNat)) hl (aC.cJ.1 hl).2.2.1 A J (λb hb=>by
       have:=Jo hb;simp_all [NZ,l9]) (λM' m=>(cj.of (I M')).NU) rfl L
     .cases o
    .cases h
   .cases h
  .cases h
 .cases h
def alD(X:Cx)(T:aB)(fr:Fr)(st:aC)(d:Tmp)(t:TypeId)(x y:Operand)(K:cL R):Option R:=match jr X.P t with
 |some e=>(match DF X.tys e with
  |some u=>(match pH X.P e with
   |some z=>(match bz T st.E fr.F none x with
    |some a=>(match bz T st.E fr.F none y with
     |some b=>aD ( Nat.beq z.1 u.n'&&Nat.beq z.2.2.cells.size z.1&&Nat.blt 0 z.1 ) ( match vD (cB b.fF st.G) fr.H u b with
      |some ys=>(match a with
       | .sl id=>(match eM (cB b.fF st.G) fr.H (rD id) with
        |some (.top j,.own _ u' e' xs _)=>aD ( Nat.beq e e' ) ( match vD.cq.asL u ⟨.l u',xs⟩ with
         |some xs=>aN (aH (xs.length+ys.length) z.2.1) (K { st with c:=st.c+1,E:=cO (some d) none (.sl st.c) st.E,G:=(cB b.fF st.G).set j (.own st.c u e (xs++ys) st.c) })
         |none=>none ) none
        |some (_,.sli none _ u' xs true)=>(match vD.cq.asL u ⟨.l u',xs⟩ with
         |some xs=>(match ys with
          |y::ys=>aN (aH (xs.length+(y::ys).length) z.2.1) (K { st with c:=st.c+1,E:=cO (some d) none (.sl st.c) st.E,G:= .own st.c u e (xs++y::ys) st.c::cB b.fF st.G })
          |[]=>none)
         |none=>none)
        |_=>none)
       | .raw (.slice none 0 0)=>aN (aH (([]:List u.T).length+ys.length) z.2.1) (K { st with c:=st.c+1,E:=cO (some d) none (.sl st.c) st.E,G:= .own st.c u e ([]++ys) st.c::cB b.fF st.G })
       |_=>none)
      |none=>none ) none
     |none=>none)
    |none=>none)
   |none=>none)
  |none=>none)
 |none=>none
theorem apK{t:TypeId}(hl:st.low fr=true)(s:Sat (ab ρ T st.G++(ab ρ T fr.H++Φ)) w)(h:alD X T fr st d t x y K=some r):
  mZ X.P T none (az ρ T st.E fr.F) ⟨some d,.call ⟨.builtin .append,#[x,y],#[t,t]⟩,ty,pos,af,gd⟩ w (aU r K T fr st none (some d) ρ Φ):=by
 unfold alD at h;split at h
 .rename_i e he;split at h
  .rename_i u hu;split at h
   .rename_i z hz;obtain ⟨n,bytes,z⟩:=z;split at h
    .rename_i a hx;split at h
     .rename_i b hy;obtain ⟨h1,g⟩:=aI h;simp only [au] at h1;obtain ⟨⟨a1,a2⟩,a3⟩:=h1;have hn:n=u.rep.n:=(b0 a1).trans u.EX.symm;have D:z.cells.size=n:=b0 a2;have N:=cT hz;subst hn;have A:=vf (ids:=b.fF) (aC.cJ.1 hl).2.2.1;replace s:=lQ (ids:=b.fF) s;generalize cB b.fF st.G=G at g A s;have o:=bL (ρ:=ρ) hx;have J:=bL (ρ:=ρ) hy;have B:0<u.rep.n:=by simpa using a3
      split at g
      .rename_i ys hys;have I:=OK s hys;split at g
       .rename_i id;simp only [AV.val] at o;split at g
        .rename_i j k u' e' i ver O;obtain ⟨h3,h4⟩:=aI g;have:=b0 h3;subst this;split at h4
         .rename_i xs L;obtain ⟨eu,ex⟩:=uw L;subst eu;simp only at ex;subst ex;obtain ⟨Z,Y⟩:=jE h4;obtain ⟨f1,f2⟩:=bY O;have:k=id:=b0 f2;subst this;have hi:=iM (ρ:=ρ) (T:=T) (Φ:=ab ρ T fr.H++Φ) f1;obtain ⟨hO,_⟩:=s.at_ hi;obtain ⟨Q,R',w',U,hC,hR,C⟩:=Hl (P:=X.P) (E:=az ρ T st.E fr.F) (w:=w) (dst:=some d) (ty:=ty) (pos:=pos) (af:=af) (cu he) N D B o J hO I (λb hb=>Ctx.lh hi hb) Z;have mv0:Mv (Ctx.M (ab ρ T G++(ab ρ T fr.H++Φ))) w (Ctx.M (ab ρ T G++(ab ρ T fr.H++Φ))) w':=⟨hC.size,λb hb hn=>⟨hn,hC.block b hb (λhc=>hn (Ctx.lh hi hc))⟩⟩;have f:=C _ mv0;have q:∃p:jU,Q=sl p:=by obtain ⟨a,cap,q⟩:=f.len;exact ⟨(a,_,cap),q⟩
          obtain ⟨p,rfl⟩:=q;have hj:j<G.length:=(List.getElem?_eq_some_iff.1 f1).1;refine .none_ (bN.gd (bN.tf U (aU.new (ρ':=ρ.set st.c { dB with v:=p,y:=⟨.l u',i++ys⟩ }) hl Y ay.aX (j6 _) rfl (by simp only [AV.val,ay.bK]) ?_)));show Sat (ab _ T (G.set j _)++_) _;rw [gE hj,ba ay.aX A];refine s.mJ hi hC (λb hb=>?_) (λM' m _=>?_)
          .simp only [Row.item,ay.bK] at hb;exact hR b (f.canon.1 b hb)
          .simp [Row.item,ay.bK];exact ⟨f.canon.2 _ _ (C M' m),trivial⟩
         .cases h4
        .rename_i s' k u' i O;split at g
         .rename_i xs L;obtain ⟨eu,ex⟩:=uw L;subst eu;subst ex;split at g
          .obtain ⟨Z,Y⟩:=jE g;obtain ⟨f1,f2⟩:=bY O;have  :=b0 f2;subst this;obtain ⟨hS,hcl⟩:=(Src.holds s f1) aB.get_none;obtain ⟨ad,cap,V⟩:=hS.len;have ep:(ρ k).v=((ρ k).v.1,i.length,i.length):=by simp [sl] at V;grind
           rw [ep] at hS o;obtain ⟨i',hi',R,hby,hzz⟩:=N.out;subst hby
           obtain ⟨Q,w',U,W,hB,C⟩:=Uh t ty e i' z (cu he) hi' hzz R D hS I (List.cons_ne_nil _ _) Z;have f:=cj.of (C _ (W.mv _));have q:∃p:jU,Q=sl p:=by obtain ⟨a,cap,q⟩:=f.len;exact ⟨(a,_,cap),q⟩
           obtain ⟨p,rfl⟩:=q;have S:pn X.P (az ρ T st.E fr.F) ⟨some d,.call ⟨.builtin .append,#[x,y],#[t,t]⟩,ty,pos,af,none⟩ w (sl p) w':=λn' a O=>by simp [execOp,resolve,invoke,builtin,o n' a O rfl,J n' a O rfl,show (Builtin.append_ #[t,t] ty #[sl ((ρ k).v.1,i.length,i.length),AV.val ρ b]).run X.P w=_ from U]
           refine .none_ (bN.gd (bN.tf S ?_));exact AW hl A s W (λb hb=>hB b (Jo hb)) (λM' m=>(cj.of (C M' m)).NU) rfl Y
          .cases g
         .cases g
        .cases g
       .obtain ⟨Z,Y⟩:=jE g;obtain ⟨Q,R',w',U,hC,hR,C⟩:=Hl (cu he) N D B o J cj.nil I (λb hb=>by cases hb) Z;have W:Ext w w':=⟨hC.os,hC.tape,hC.output,hC.size,λb hb=>hC.block b hb (λh=>by cases h)⟩;have f:=C _ (W.mv _);have q:∃p:jU,Q=sl p:=by obtain ⟨a,cap,q⟩:=f.len;exact ⟨(a,_,cap),q⟩
        obtain ⟨p,rfl⟩:=q;refine .none_ (bN.gd (bN.tf U ?_));exact AW hl A s W (λb hb=>by
         obtain ⟨q1,q2⟩:=hR b (f.canon.1 b hb);grind) (λM' m=>f.canon.2 _ _ (C M' m)) rfl Y
       .cases g
      .cases g
     .cases h
    .cases h
   .cases h
  .cases h
 .cases h
end
def both{R:Type}(a b:Option R):Option R:=open Classical in if a=b then a else none
theorem XV{R:Type}{a b:Option R}{r:R}(h:both a b=some r):a=some r/\b=some r:=by grind [both]
inductive Sh where
 |l
 |b (x y:Sh)
def eI:Sh->(R:Type)->Option R->Option R
 | .l,_,a=>a
 | .b x y,R,a=>both (eI x R a) (eI y R a)
theorem abz{R:Type}{a:Option R}:(s:Sh)->eI s R a=a
 | .l=>rfl
 | .b x y=>by show both (eI x R a) (eI y R a)=a;rw [abz x,abz y];unfold both;simp
theorem fT:eI=λ_ _ a=>a:=funext λs=>funext λ_=>funext λ_=>abz s
def A4{α R:Type}(l:List α)(k1 k0:Option R):Option R:=match l with
 |[]=>both k1 k0
 |_::_=>k0
theorem XS{α R:Type}{l:List α}{k1 a:Option R}{r:R}(h:A4 l k1 a=some r):a=some r/\(l=[]->k1=some r):=by unfold A4 at h;grind [XV]
theorem oJ{α:Type}{l:List α}{b:Nat}:A4 l (some []) (aN (aH (List.length ([]:List α)+List.length l) b)<|some (([]:List α)++l))=aN (aH (List.length l) b) (some l):=by
 cases l with
 |nil=>
  show both (some []) (aN (aH 0 b) (some []))=aN (aH 0 b) (some []);grind [both,aN]
 |cons x l=>show aN (aH (0+(l.length+1)) b) _=_;rw [mj];rfl
section
variable {X : Cx} {R : Type} {r : R} {K : cL R} {T : aB} {fr : Fr} {st : aC} {g : GK} {d : Tmp} {ρ : ay} {Φ : Ctx} {w : World} {ty : TypeId} {pos : String} {af : zg} {gd : wi}
def agj(X:Cx)(st:aC)(d:Tmp)(t:TypeId)(K:cL R):Option R:=match VP X.P t with
 |some p=>(match DF X.tys p.1 with
  |some k=>(match DF X.tys p.2 with
   |some v=>K { st with c:=st.c+1,E:=cO (some d) none (.mp st.c) st.E,G:= .mp st.c k v (some [])::st.G }
   |none=>none)
  |none=>none)
 |none=>none
theorem ak6{t:TypeId}(hl:st.low fr=true)(e:Sat (ab ρ T st.G++(ab ρ T fr.H++Φ)) w)(h:agj X st d t K=some r):
  mZ X.P T none (az ρ T st.E fr.F) ⟨some d,.makeMap t none,ty,pos,af,gd⟩ w (aU r K T fr st none (some d) ρ Φ):=by
 unfold agj at h;split at h
 .split at h
  .split at h
   .have c:pn X.P (az ρ T st.E fr.F) ⟨some d,.makeMap t none,ty,pos,af,none⟩ w (.map (some w.heap.size)) (w.alloc (.map #[] 0)):=λn a f=>by simp [execOp,Instr.makeMap]
    refine .none_ (bN.gd (bN.tf c (aU.push (x:={ dB with m:=some w.heap.size }) hl h (by simp [AV.val,ay.bK]) ?_)));simp [Row.item,ay.bK];exact e.push (gz _ _) (λb hb=>by
     simp_all [omap,Ly]) (λM' m=> .inr ⟨_,#[],0,[],rfl,rfl,by show (w.heap.push _)[w.heap.size]? =_;simp,rfl⟩)
   .cases h
  .cases h
 .cases h
def ahl(X:Cx)(T:aB)(fr:Fr)(st:aC)(t:TypeId)(x y z:Operand)(K:cL R):Option R:=match VP X.P t with
 |some p=>(match bz T st.E fr.F none x with
  |some (.mp id)=>(match tv (afF id) st.G with
   |some (j,.mp _ k v md)=>(match bz T st.E fr.F none y with
    |some kv=>(match bz T st.E fr.F none z with
     |some vv=>(match abT k kv with
      |some key=>(match abT v vv with
       |some val=>aD ( afL X.P p.1 k ) ( md.bind λl=>K { st with G:=st.G.set j (.mp id k v (some (l6 l key val))) } ) none
       |none=>none)
      |none=>none)
     |none=>none)
    |none=>none)
   |_=>none)
  |_=>none)
 |none=>none
theorem anb{t:TypeId}{z:Operand}(i:Sat (ab ρ T st.G++(ab ρ T fr.H++Φ)) w)(h:ahl X T fr st t x y z K=some r):
  mZ X.P T none (az ρ T st.E fr.F) ⟨none,.mapUpdate t x y z,ty,pos,af,gd⟩ w (aU r K T fr st none none ρ Φ):=by
 unfold ahl at h;split at h
 .rename_i p hp;split at h
  .rename_i id hx;split at h
   .rename_i j o k v md C;split at h
    .rename_i N s;split at h
     .rename_i M q;split at h
      .rename_i key e;split at h
       next val d=>obtain ⟨J,I⟩:=aI h;obtain ⟨l,g,D⟩:=iF I;subst g;obtain ⟨n,L⟩:=pz C;have  :=b0 L;subst this;have f:=bL (ρ:=ρ) hx;have c:=bL (ρ:=ρ) s;have a:=bL (ρ:=ρ) q;rw [Wp e] at c;rw [Wp d] at a;have hi:=iM (ρ:=ρ) (T:=T) (Φ:=ab ρ T fr.H++Φ) n;obtain ⟨w',A,hC,u,hm⟩:=VT (WU J) (AQ hp) f c a (i.omap hi);refine .none_ (bN.gd (bN.agk A (aU.lx (av:= .raw undef) D (cK _) rfl (by simp [AV.val]) ?_)));have B  :=(List.getElem?_eq_some_iff.1 n).1;rw [gE B];exact i.mJ hi hC (λb hb=>⟨hm.lt b hb,.inl hb⟩) (λM' m _=>hm)
       .cases h
      .cases h
     .cases h
    .cases h
   .cases h
  .cases h
 .cases h
def anH(X:Cx)(T:aB)(fr:Fr)(st:aC)(d:Tmp)(t:TypeId)(x:Operand)(K:cL R):Option R:=match bz T st.E fr.F none x with
 |some (.str s)=>aD ( isStr X.P t ) ( K { st with c:=st.c+1,E:=cO (some d) none (.ptr st.c 0) st.E,G:= .it st.c s 0::st.G } ) none
 |_=>none
theorem ap7{t:TypeId}(hl:st.low fr=true)(f:Sat (ab ρ T st.G++(ab ρ T fr.H++Φ)) w)(h:anH X T fr st d t x K=some r):
  mZ X.P T none (az ρ T st.E fr.F) ⟨some d,.range t x,ty,pos,af,gd⟩ w (aU r K T fr st none (some d) ρ Φ):=by
 unfold anH at h;split at h
 .rename_i s hx;obtain ⟨j,i⟩:=aI h;have c:=bL (ρ:=ρ) hx;simp [AV.val] at c;have e:pn X.P (az ρ T st.E fr.F) ⟨some d,.range t x,ty,pos,af,none⟩ w (.pointer (some ⟨w.heap.size,0,none⟩)) (w.alloc (.stringIter ⟨s.toArray⟩ 0)):=λn' a g=>by simp [execOp,c n' a g rfl,Instr.range,run_underlying (uu j),S]
  refine .none_ (bN.gd (bN.tf e (aU.push (x:={ dB with b:=w.heap.size }) hl i (by simp [AV.val,ay.bK]) ?_)));simp [Row.item,ay.bK];exact f.push (gz _ _) (λb hb=>by
   simp_all [iter]) (λ_ _=>heap_alloc_new w _)
 .cases h
def amx(T:aB)(fr:Fr)(st:aC)(d:Tmp)(x:Operand)(K:cL R):Option R:=match bz T st.E fr.F none x with
 |some (.ptr id 0)=>(match tv (arD id) st.G with
  |some (j,.it _ s p)=>cond (decide (p<s.length)) (K { st with E:=cO (some d) none (.tuple [.bool true,.int .i64 (p:Int),.int .i32 (aiP s p)]) st.E,G:=st.G.set j (.it id s (xE s p)) })
   (K { st with E:=cO (some d) none (.tuple [.bool false]) st.E })
  |_=>none)
 |_=>none
theorem aoF(m:Sat (ab ρ T st.G++(ab ρ T fr.H++Φ)) w)(h:amx T fr st d x K=some r):
  mZ X.P T none (az ρ T st.E fr.F) ⟨some d,.next x true,ty,pos,af,gd⟩ w (aU r K T fr st none (some d) ρ Φ):=by
 unfold amx at h;split at h
 .rename_i id hx;split at h
  .rename_i j e s p l;obtain ⟨u,A⟩:=pz l;have:e=id:=b0 A;subst this;have g:=bL (ρ:=ρ) hx;simp [AV.val] at g;have hi:=iM (ρ:=ρ) (T:=T) (Φ:=ab ρ T fr.H++Φ) u;have hI  :=m.iter hi;have t:(getObj (ρ e).b).run X.P w= .ok (.stringIter ⟨s.toArray⟩ p) w:=by simp [getObj,Sem.run];rw [hI]
   rcases wN h with ⟨n,q⟩|⟨n,q⟩
   .have k  :=by simpa using n
    have v:=(Array.getElem?_eq_some_iff.1 hI).1;have o:ach { w with heap:=w.heap.setIfInBounds (ρ e).b (.stringIter ⟨s.toArray⟩ (xE s p)) } (ρ e).b s (xE s p):=by show (w.heap.setIfInBounds (ρ e).b _)[(ρ e).b]? =_;grind
    have hC:mK [(ρ e).b] w { w with heap:=w.heap.setIfInBounds (ρ e).b (.stringIter ⟨s.toArray⟩ (xE s p)) }:=⟨rfl,rfl,rfl,by grind,λc _ z=>by grind⟩
    have lB:(setObj (ρ e).b (.stringIter ⟨s.toArray⟩ (xE s p))).run X.P w= .ok () { w with heap:=w.heap.setIfInBounds (ρ e).b (.stringIter ⟨s.toArray⟩ (xE s p)) }:=by simp [setObj,Sem.run];rw [hI]
    have i:p<(⟨s.toArray⟩:ByteArray).size:=by exact k
    have B:xE s p=p+(Utf8.decode ⟨s.toArray⟩ p).2:=rfl;have f:pn X.P (az ρ T st.E fr.F) ⟨some d,.next x true,ty,pos,af,none⟩ w (.tuple #[.bool true,.int .i64 (p),.int .i32 (aiP s p)]) { w with heap:=w.heap.setIfInBounds (ρ e).b (.stringIter ⟨s.toArray⟩ (xE s p)) }:=λn' a l=>by rw [B] at lB ⊢;simp only [execOp,g n' a l rfl,Instr.next,Sem.run_bind,t,Result.andThen_ok,du i,lB];rfl
    refine .none_ (bN.gd (bN.tf f (aU.lx q (cK _) rfl (by simp [AV.val,AV.al]) ?_)));have y  :=(List.getElem?_eq_some_iff.1 u).1;rw [gE y];exact m.mJ hi hC (λc C=>by
     grind [Row.item,Go.Proofs.YtcgihjbfppkcfaaGreatDoor.iter,Array.getElem?_eq_some_iff]) (λ_ _ _=>o)
   .have k:¬p<s.length:=by simpa using n
    have f:pn X.P (az ρ T st.E fr.F) ⟨some d,.next x true,ty,pos,af,none⟩ w (.tuple #[.bool false]) w:=λn' a l=>by
     have i:¬p<(⟨s.toArray⟩:ByteArray).size:=by exact k
     simp [execOp,g n' a l rfl,Instr.next,Sem.run_bind,t,Result.andThen_ok,dk i,Sem.run_pure]
    exact .none_ (bN.gd (bN.tf f (aU.lx q (cK _) rfl (by simp [AV.val,AV.al]) m)))
  .cases h
 .cases h
def amN(X:Cx)(T:aB)(fr:Fr)(st:aC)(g:GK)(d:Tmp)(s dt:TypeId)(x:Operand)(K:cL R):Option R:=match bz T st.E fr.F g x with
 |some (.str l)=>aD ( isStr X.P s ) ( match jr X.P dt with
  |some e=>(match tyK X.P e with
   |some .u8=>K { st with c:=st.c+1,E:=cO (some d) g (.sl st.c) st.E,G:= .sli g st.c (.i .u8) (aQ l) false::st.G }
   |_=>none)
  |none=>none ) none
 |_=>none
theorem aqp{s j:TypeId}(hl:st.low fr=true)(c:Sat (ab ρ T st.G++(ab ρ T fr.H++Φ)) w)(h:amN X T fr st g d s j x K=some r):
  mZ X.P T g (az ρ T st.E fr.F) ⟨some d,.convert s j x,ty,pos,af,gd⟩ w (aU r K T fr st g (some d) ρ Φ):=by
 unfold amN at h;split at h
 .rename_i l hx;obtain ⟨t,a⟩:=aI h;split at a
  .rename_i e n;split at a
   .rename_i hk;have b:=aP (ρ:=ρ) hx;refine ⟨λf=>?_,λf=>?_⟩
    .rw [f] at b;obtain ⟨u,w',k,q,m,o⟩:=ans (w:=w) (uu t) (cu n) (Uy hk) b;have i:=o (Ctx.M (ab ρ T st.G++(ab ρ T fr.H++Φ))) (λhm=>by have:=c.lt hm;omega);obtain ⟨p,rfl⟩:=i.rD;refine bN.gd (bN.tf k (aU.push (x:={ dB with v:=p }) hl a (by simp [AV.val,ay.bK]) ((c.ext q).add rfl ?_)));simp [Row.item,ay.bK];exact λ_=>⟨i,λhb=>by cases hb⟩
    .exact ⟨_,aU.push (x:=dB) hl a rfl (c.add rfl λh=>by rw [f] at h;cases h)⟩
   .cases a
  .cases a
 .cases h
def anc(X:Cx)(T:aB)(fr:Fr)(st:aC)(d:Tmp)(op:BinOp)(t:TypeId)(x y:Operand)(K:cL R):Option R:=match jr X.P t with
 |some _=>(match bz T st.E fr.F none x with
  |some (.sl id)=>(match bz T st.E fr.F none y with
   |some (.raw (.slice none 0 0))=>(match Yd st.G fr.H id with
    |some ⟨none,_,l⟩=>(match op with
     | .eql=>A4 l (K { st with E:=cO (some d) none (.bool true) st.E }) (K { st with E:=cO (some d) none (.bool false) st.E })
     | .neq=>A4 l (K { st with E:=cO (some d) none (.bool false) st.E }) (K { st with E:=cO (some d) none (.bool true) st.E })
     |_=>none)
    |_=>none)
   |_=>none)
  |_=>none)
 |none=>none
theorem apg{op:BinOp}{t:TypeId}(i:Sat (ab ρ T st.G++(ab ρ T fr.H++Φ)) w)(h:anc X T fr st d op t x y K=some r):
  mZ X.P T none (az ρ T st.E fr.F) ⟨some d,.binOp op t x y t',ty,pos,af,gd⟩ w (aU r K T fr st none (some d) ρ Φ):=by
 unfold anc at h;split at h
 .rename_i e k;split at h
  .rename_i id hx;split at h
   .rename_i n;split at h
    .rename_i u l g;have f:=bL (ρ:=ρ) hx;have c:=bL (ρ:=ρ) n;simp [AV.val] at f c;have a:=VX i g aB.get_none;have j:(Bt (sl (ρ id).v)=true/\l=[])\/Bt (sl (ρ id).v)=false:=by
      rcases acS i g aB.get_none with hS|⟨e',o⟩
      .grind [ac6]
      .exact adz o
     have mk:∀b:Bool,K { st with E:=cO (some d) none (.bool b) st.E }=some r->aU r K T fr st none (some d) ρ Φ (.bool b) w:=λb hb=>aU.lx hb (cK _) rfl (by simp [AV.val]) i;split at h
     .obtain ⟨m,k1⟩:=XS h;refine .none_ (bN.gd (bN.run (ac2 (cu k) f a c) ?_));grind
     .obtain ⟨m,k1⟩:=XS h;refine .none_ (bN.gd (bN.run (adE (cu k) f a c) ?_));grind
     .cases h
    .cases h
   .cases h
  .cases h
 .cases h
def ahr(i:Int)(m:Nat)(k:Nat->Option R):Nat->Nat->Option R
 |0,_=>none
 |n+1,j=>cond (i==(j:Int)) (k (j*m)) (ahr i m k n (j+1))
theorem NA{i:Int}{m:Nat}{k:Nat->Option R}:∀{n j:Nat},ahr i m k n j=some r->∃q,j<=q/\q<j+n/\i=(q:Int)/\k (q*m)=some r
 |0,j,h=>by cases h
 |n+1,j,h=>by
  rcases wN h with ⟨f,a⟩|⟨_,a⟩
  .grind
  .obtain ⟨q,e,d,c,b⟩:=NA a;grind
end
def fQ:List Ty->Type
 |[]=>Unit
 |[t]=>t.T
 |t::u::ts=>t.T×fQ (u::ts)
def jc:(ts:List Ty)->fQ ts->List cq
 |[],_=>[]
 |[t],x=>[⟨t,x⟩]
 |t::u::ts,x=>⟨t,x.1⟩::jc (u::ts) x.2
def cU:(ts:List Ty)->List cq->Option (fQ ts)
 |[],D=>(match D with
  |[]=>some ()
  |_=>none)
 |[t],D=>(match D with
  |[d]=>d.as t
  |_=>none)
 |t::u::ts,D=>(match D with
  |d::D=>(match d.as t with
   |some x=>(match cU (u::ts) D with
    |some y=>some (x,y)
    |none=>none)
   |none=>none)
  |_=>none)
theorem DM:(a:List Ty)->{D:List cq}->{s:fQ a}->cU a D=some s->jc a s=D
 |[],D,s,h=>by
  unfold cU at h;split at h
  .rfl
  .cases h
 |[t],D,s,h=>by
  match D,h with
  |[d],h=>rw [cq.OI h];rfl
  |[],h=>cases h
  |_::_::_,h=>cases h
 |t::u::a,D,s,h=>by
  unfold cU at h;split at h
  .split at h
   .rename_i x hx;split at h
    next y b=>cases h;show ⟨t,x⟩::jc (u::a) y=_;rw [DM (u::a) b,cq.OI hx]
    .cases h
   .cases h
  .cases h
def agQ:(ts:List Ty)->fQ ts
 |[]=>()
 |[t]=>t.uy
 |t::u::ts=>(t.uy,agQ (u::ts))
mutual
def rR:Pt->List Ty
 | .int k=>[.i k]
 | .bool=>[.bo]
 | .str=>[.s]
 | .sli t=>[.l t]
 | .own t _ _=>[.l t]
 | .bx _ _ _ vs=>rZ vs
 | .mp k v _=>[.mp k v]
 | .it=>[.s,.n]
 | .agg l=>rZ l
 | .cU l=>rZ l
 | .fn _ a b=>rZ a++rZ b
 | .ifc _ p=>rR p
 | .dat t _=>[t]
 | .ifn=>[.n]
 | .sfp=>[.bo]
 |_=>[]
def rZ:List Pt->List Ty
 |[]=>[]
 |p::l=>rR p++rZ l
end
def jH:List (Bool×Nat×Pt)->List Ty
 |[]=>[]
 |x::l=>rR x.2.2++jH l
abbrev Fx:=Option (Value×zb)
def yk(fx:Fx)(v:Value):Prop:= ∀p,fx=some p->v=p.1
def fxC(fx:Fx):zb:=match fx with
 |some p=>p.2
 |none=>[]
def Zf:Pt->Bool
 | .agg _=>true
 | .fn _ _ _=>true
 | .ifc _ _=>true
 |_=>false
def fx1(p:Pt)(fxs:zb):Fx:=match fxs with
 |[]=>none
 |u::_=>aD (Zf p) none (some (u,[]))
abbrev ga:=List (Bool×Item)
abbrev lU:=List (Nat×zb)
def oe(e:Nat):Nat:=e/2
def ow(e:Nat):Bool:=Nat.beq (e%2) 1
def R5:(t:Ty)->t.T->zb->wb->List Nm->ga->List Nm->wb->Prop
 | .i k,x,cs,o,N,I,N',o'=>cs=[.int k x]/\I=[]/\N'=N/\o'=o
 | .bo,x,cs,o,N,I,N',o'=>cs=[.bool x]/\I=[]/\N'=N/\o'=o
 | .s,x,cs,o,N,I,N',o'=>cs=[S x]/\I=[]/\N'=N/\o'=o
 | .un,_,cs,o,N,I,N',o'=>cs=[]/\I=[]/\N'=N/\o'=o
 | .p a b,x,cs,o,N,I,N',o'=>∃c1 c2 N1 I1 I2 o1,R5 a x.1 c1 o N I1 N1 o1/\R5 b x.2 c2 o1 N1 I2 N' o'/\cs=c1++c2/\I=I1++I2
 | .l t,x,cs,o,N,I,N',o'=>∃a:Nm,cs=[sl a.v]/\N'=N++[a]/\((o=none::o'/\I=[(false,MB true t.rep a.v x false)])\/∃e,o=some e::o'/\I=[(ow e,tQ t.rep (oe e) a.v x True)]/\a.y=⟨.l t,x⟩)
 | .ex,x,cs,o,N,I,N',o'=>∃a:Nm,cs=[.int .i64 x.op,.int .i64 x.n,.int .i64 x.at_,sl a.v]/\N'=N++[a]/\((o=none::o'/\I=[(false,MB true KG a.v x.l false)])\/∃e,o=some e::o'/\I=[(ow e,tQ KG (oe e) a.v x.l True)]/\a.y=⟨.l .ex,x.l⟩)
 |_,_,_,_,_,_,_,_=>False
mutual
def Sem:Pt->Value->Fx->Option Value->List Nm->List cq->ga->lU->List Nm->Prop
 | .int k,v,_,_,N,D,I,X,N'=>∃x,v= .int k x/\D=[⟨.i k,x⟩]/\I=[]/\X=[]/\N'=N
 | .bool,v,_,_,N,D,I,X,N'=>∃x,v= .bool x/\D=[⟨.bo,x⟩]/\I=[]/\X=[]/\N'=N
 | .str,v,_,_,N,D,I,X,N'=>∃x,v=S x/\D=[⟨.s,x⟩]/\I=[]/\X=[]/\N'=N
 | .sli t,v,_,_,N,D,I,X,N'=>∃(a:Nm) (l:List t.T),v=sl a.v/\D=[⟨.l t,l⟩]/\I=[(false,MB true t.rep a.v l false)]/\X=[]/\N'=N++[a]
 | .own t e m,v,fx,_,N,D,I,X,N'=>∃(a:Nm) (l:List t.T),v=sl a.v/\yk fx v/\D=[⟨.l t,l⟩]/\I=[(m,tQ t.rep e a.v l True)]/\X=[]/\N'=N++[a]/\a.y=⟨.l t,l⟩
 | .slr n,v,_,_,N,D,I,X,N'=>∃a:Nm,N[n]? =some a/\v=sl a.v/\D=[]/\I=[]/\X=[]/\N'=N
 | .bx t off m vs,v,fx,_,N,D,I,X,N'=>∃(a:Nm) (cs:zb) (I':ga) (X':lU),v= .pointer (some ⟨a.b,off,none⟩)/\yk fx v/\yX vs cs [] (fxC fx) (N++[a]) D I' X' N'/\I=(m,box a.b t cs)::I'/\X=(aD m [(N.length,cs)] [])++X'
 | .ptr n off,v,_,_,N,D,I,X,N'=>∃a:Nm,N[n]? =some a/\v= .pointer (some ⟨a.b,off,none⟩)/\D=[]/\I=[]/\X=[]/\N'=N
 | .mp k u m,v,fx,_,N,D,I,X,N'=>∃(a:Nm) (d:Option (List (k.T×u.T))),v= .map a.m/\yk fx v/\D=[⟨.mp k u,d⟩]/\I=[(m,omap (Hx k) (Hx u) (.map a.m) d)]/\X=[]/\N'=N++[a]
 | .it,v,fx,_,N,D,I,X,N'=>∃(a:Nm) (s:aE) (p:Nat),v= .pointer (some ⟨a.b,0,none⟩)/\yk fx v/\D=[⟨.s,s⟩,⟨.n,p⟩]/\I=[(true,iter a.b s p)]/\X=[]/\N'=N++[a]
 | .agg l,v,fx,_,N,D,I,X,N'=>∃cs:zb,v= .agg cs.toArray/\yk fx v/\yX l cs (aD fx.isSome cs []) [] N D I X N'
 | .cU l,v,_,_,N,D,I,X,N'=>∃cs:zb,v= .tuple cs.toArray/\yX l cs [] [] N D I X N'
 | .fn f a b,v,fx,_,N,D,I,X,N'=>∃(us vs:zb) (D1 D2:List cq) (I1 I2:ga) (X1 X2:lU) (N1:List Nm),v= .func (.func f) us.toArray vs.toArray/\yk fx v/\yX a us [] [] N D1 I1 X1 N1/\yX b vs (aD fx.isSome vs []) [] N1 D2 I2 X2 N'/\D=D1++D2/\I=I1++I2/\X=X1++X2
 | .ifc t p,v,fx,_,N,D,I,X,N'=>∃u,v= .iface t u/\yk fx v/\Sem p u (fx1 p (aD fx.isSome [u] [])) none N D I X N'
 | .nT c,v,_,_,N,D,I,X,N'=>(v=c.val (λ_=>dB)/\∀ρ,c.val ρ=c.val (λ_=>dB))/\D=[]/\I=[]/\X=[]/\N'=N
 | .dat t o,v,_,_,N,D,I,X,N'=>∃(cs:zb) (x:t.T) (o':wb),v= .agg cs.toArray/\D=[⟨t,x⟩]/\R5 t x cs o N I N' o'/\X=[]
 | .ifn,v,_,_,N,D,I,X,N'=>∃x:Nat,v= .iface x (.agg #[])/\D=[⟨.n,x⟩]/\I=[]/\X=[]/\N'=N
 | .sfp,v,_,_,N,D,I,X,N'=>∃(a:Nm) (f:Bool),N[N.length-1]? =some a/\v=C8 f a.b/\D=[⟨.bo,f⟩]/\I=[]/\X=[]/\N'=N
 | .same,v,fx,sm,N,D,I,X,N'=>((∃p,fx=some p/\v=p.1)\/(fx=none/\sm=some v))/\D=[]/\I=[]/\X=[]/\N'=N
def yX:List Pt->zb->zb->zb->List Nm->List cq->ga->lU->List Nm->Prop
 |[],vs,_,_,N,D,I,X,N'=>vs=[]/\D=[]/\I=[]/\X=[]/\N'=N
 |p::l,vs,fxs,sms,N,D,I,X,N'=>∃(v:Value) (vs':zb) (D1 D2:List cq) (I1 I2:ga) (X1 X2:lU) (N1:List Nm),vs=v::vs'/\Sem p v (fx1 p fxs) sms.head? N D1 I1 X1 N1/\yX l vs' fxs.tail sms.tail N1 D2 I2 X2 N'/\D=D1++D2/\I=I1++I2/\X=X1++X2
end
def Io(fix:Nat->Fx)(val:Nat->Option Value):List (Bool×Nat×Pt)->List Nm->List cq->ga->lU->List Nm->Prop
 |[],N,D,I,X,N'=>D=[]/\I=[]/\X=[]/\N'=N
 |x::l,N,D,I,X,N'=>∃(v:Value) (D1 D2:List cq) (I1 I2:ga) (X1 X2:lU) (N1:List Nm),(aD x.1 ((fix x.2.1).map (·.1)) (val x.2.1))=some v/\Sem x.2.2 v (aD x.1 (fix x.2.1) none) none N D1 I1 X1 N1/\Io fix val l N1 D2 I2 X2 N'/\D=D1++D2/\I=I1++I2/\X=X1++X2
mutual
def AV.same:AV->AV->Bool
 | .fn f a b,v=>(match v with
  | .fn f' a' b'=>Nat.beq f f'&&AV.OE a a'&&AV.OE b b'
  |_=>false)
 | .tuple l,v=>(match l with
  |[]=>(match v with
   | .tuple l=>l.isEmpty
   |_=>false)
  |_=>false)
 | .int k x,v=>(match v with
  | .int k' x'=>jW k k'&&(x==x')
  |_=>false)
 | .raw u,v=>(match v with
  | .raw u'=>(match u,u' with
   | .slice none m n,.slice none m' n'=>Nat.beq m m'&&Nat.beq n n'
   | .pointer none,.pointer none=>true
   | .nilFunc,.nilFunc=>true
   | .nilIface,.nilIface=>true
   | .map none,.map none=>true
   |_,_=>false)
  |_=>false)
 |_,_=>false
def AV.OE:List AV->List AV->Bool
 |[],l'=>l'.isEmpty
 |v::l,l'=>(match l' with
  |v'::l'=>AV.same v v'&&AV.OE l l'
  |[]=>false)
end
mutual
theorem AV.JZ{ρ ρ':ay}:(v:AV)->(c:AV)->AV.same v c=true->c.val ρ'=v.val ρ
 | .fn f a b,c,h=>by
  unfold AV.same at h;split at h
  next g e d=>simp only [au] at h;simp only [AV.val];rw [b0 h.1.1,AV.MC a e h.1.2,AV.MC b d h.2]
  .cases h
 | .tuple l,c,h=>by
  unfold AV.same at h;grind [AV.val,AV.al]
 | .raw u,c,h=>by
  unfold AV.same at h;split at h
  .split at h
   .simp_all [AV.val]
   .simp [AV.val]
   .simp [AV.val]
   .simp [AV.val]
   .simp [AV.val]
   .cases h
  .cases h
 | .int k x,c,h=>by
  unfold AV.same at h;split at h
  .simp only [au] at h;simp only [AV.val];rw [oq h.1,eq_of_beq h.2]
  .cases h
 | .bool _,c,h|.str _,c,h|.agg _,c,h|.ptr _ _,c,h|.sl _,c,h|.adr _ _,c,h|.ifc _ _,c,h|.mp _,c,h|.gp _,c,h|.nv _,c,h|.sfp _ _,c,h=>by grind [AV.same]
theorem AV.MC{ρ ρ':ay}:(l:List AV)->(l':List AV)->AV.OE l l'=true->AV.al ρ' l'=AV.al ρ l
 |[],l',h=>by
  unfold AV.OE at h;have  :=by simpa using h
  subst this;rfl
 |v::l,l',h=>by
  unfold AV.OE at h;split at h
  next a l'=>simp at h;simp only [AV.al];rw [AV.JZ v a h.1,AV.MC l l' h.2]
  .cases h
end
structure MR where
 B:w4
 S:List (Bool×Src)
 D:List cq
 X:List (Nat×List AV)
def Zs(G H:List Row)(t:Ty)(v:AV):Option (zd×Src×List t.T):=match v with
 | .sl j=>(match eM G H (rD j) with
  |some (s,.sli none _ t' l _)=>(match vD.cq.asL t ⟨.l t',l⟩ with
   |some l=>some (some j,s,l)
   |none=>none)
  |_=>none)
 | .raw (.slice none 0 0)=>some (none,.nilI t,[])
 |_=>none
def Zj(G H:List Row)(t:Ty)(e:TypeId)(v:AV):Option (zd×Src×List t.T):=match v with
 | .sl j=>(match eM G H (rD j) with
  |some (s,.own _ t' e' l _)=>aD ( Nat.beq e e' ) ( match vD.cq.asL t ⟨.l t',l⟩ with
   |some l=>some (some j,s,l)
   |none=>none
   ) none
  |_=>none)
 | .raw (.slice none 0 0)=>some (none,.nilO t e,[])
 |_=>none
structure DR(t:Ty) where
 x:t.T
 vs:List AV
 o:wb
 B:w4
 S:List (Bool×Src)
def HI(G H:List Row):(t:Ty)->List AV->wb->w4->Option (DR t)
 | .i k,vs,o,B=>(match vs with
  | .int k' x::vs=>aD ( jW k k' ) ( some ⟨x,vs,o,B,[]⟩ ) none
  |_=>none)
 | .bo,vs,o,B=>(match vs with
  | .bool x::vs=>some ⟨x,vs,o,B,[]⟩
  |_=>none)
 | .s,vs,o,B=>(match vs with
  | .str x::vs=>some ⟨x,vs,o,B,[]⟩
  |_=>none)
 | .un,vs,o,B=>some ⟨(),vs,o,B,[]⟩
 | .p a b,vs,o,B=>(match HI G H a vs o B with
  |some d=>(match HI G H b d.vs d.o d.B with
   |some e=>some ⟨(d.x,e.x),e.vs,e.o,e.B,d.S++e.S⟩
   |none=>none)
  |none=>none)
 | .l t,vs,o,B=>(match vs with
  |v::vs=>(match o with
   |none::o=>(match Zs G H t v with
    |some q=>some ⟨q.2.2,vs,o,B++[q.1],[(false,q.2.1)]⟩
    |none=>none)
   |some e::o=>(match Zj G H t (oe e) v with
    |some q=>some ⟨q.2.2,vs,o,B++[q.1],[(ow e,q.2.1)]⟩
    |none=>none)
   |[]=>none)
  |[]=>none)
 | .ex,vs,o,B=>(match vs with
  | .int .i64 a:: .int .i64 b:: .int .i64 c::v::vs=>(match o with
   |none::o=>(match Zs G H .ex v with
    |some q=>some ⟨Ex.mk a b c q.2.2,vs,o,B++[q.1],[(false,q.2.1)]⟩
    |none=>none)
   |some e::o=>(match Zj G H .ex (oe e) v with
    |some q=>some ⟨Ex.mk a b c q.2.2,vs,o,B++[q.1],[(ow e,q.2.1)]⟩
    |none=>none)
   |[]=>none)
  |_=>none)
 |_,_,_,_=>none
def RX:zd->zd->Bool
 |some a,some b=>Nat.beq a b
 |none,none=>true
 |_,_=>false
theorem aqc{a b:zd}(h:RX a b=true):a=b:=by unfold RX at h;grind [Nat.eq_of_beq_eq_true]
abbrev jx:=Option (AV×List AV)
def tn(p:Pt)(fxs:List AV):jx:=match fxs with
 |[]=>none
 |u::_=>aD (Zf p) none (some (u,[]))
def uf(p:Pt)(fx:jx):Bool:=match p with
 | .agg _=>(match fx with
  |some (.agg _,_)=>true
  |some _=>false
  |none=>true)
 | .fn _ _ _=>(match fx with
  |some (.fn _ _ _,_)=>true
  |some _=>false
  |none=>true)
 | .ifc _ _=>(match fx with
  |some (.ifc _ _,_)=>true
  |some _=>false
  |none=>true)
 |_=>true
def jh(fx:jx):List AV:=match fx with
 |some (.agg us,_)=>us
 |some (.fn _ _ b,_)=>b
 |some (.ifc _ u,_)=>[u]
 |_=>[]
def J9(fx:jx):List AV:=match fx with
 |some p=>p.2
 |none=>[]
def nvs(v:AV)(fx:jx)(sm:Option AV):Bool:=match fx with
 |some _=>true
 |none=>(match sm with
  |some (.nv u)=>(match v with
   | .nv w=>Nat.beq u w
   |_=>false)
  |_=>false)
def abP:Pt->Bool
 | .same=>true
 |_=>false
mutual
def mt(G H:List Row):Pt->AV->jx->Option AV->w4->Option MR
 | .int k,v,_,_,B=>(match v with
  | .int k' x=>aD (jW k k') (some ⟨B,[],[⟨.i k,x⟩],[]⟩) none
  |_=>none)
 | .bool,v,_,_,B=>(match v with
  | .bool x=>some ⟨B,[],[⟨.bo,x⟩],[]⟩
  |_=>none)
 | .str,v,_,_,B=>(match v with
  | .str x=>some ⟨B,[],[⟨.s,x⟩],[]⟩
  |_=>none)
 | .sli t,v,_,_,B=>(match Zs G H t v with
  |some q=>some ⟨B++[q.1],[(false,q.2.1)],[⟨.l t,q.2.2⟩],[]⟩
  |none=>none)
 | .own t e m,v,_,_,B=>(match Zj G H t e v with
  |some q=>some ⟨B++[q.1],[(m,q.2.1)],[⟨.l t,q.2.2⟩],[]⟩
  |none=>none)
 | .slr n,v,_,_,B=>(match v with
  | .sl j=>aD (RX ((B[n]?).getD none) (some j)) (some ⟨B,[],[],[]⟩) none
  |_=>none)
 | .bx t off m vs,v,fx,_,B=>(match v with
  | .ptr j off'=>aD (Nat.beq off off') (match eM G H (Bq j) with
   |some (s,.box _ t' cs)=>aD (Nat.beq t t') (match Jf G H vs cs [] (J9 fx) (B++[some j]) with
     |some r=>some ⟨r.B,(m,s)::r.S,r.D,(aD m [(B.length,cs)] [])++r.X⟩
     |none=>none) none
   |_=>none) none
  |_=>none)
 | .ptr n off,v,_,_,B=>(match v with
  | .ptr j off'=>aD (Nat.beq off off'&&RX ((B[n]?).getD none) (some j)) (some ⟨B,[],[],[]⟩) none
  |_=>none)
 | .mp k u m,v,_,_,B=>(match v with
  | .mp j=>(match eM G H (afF j) with
   |some (s,.mp _ k' u' d)=>(match cq.as (.mp k u) ⟨.mp k' u',d⟩ with
    |some d=>some ⟨B++[some j],[(m,s)],[⟨.mp k u,d⟩],[]⟩
    |none=>none)
   |_=>none)
  | .raw (.map none)=>some ⟨B++[none],[(m,.nilM k u)],[⟨.mp k u,(none:Option (List (k.T×u.T)))⟩],[]⟩
  |_=>none)
 | .it,v,_,_,B=>(match v with
  | .ptr j 0=>(match eM G H (arD j) with
   |some (s,.it _ x p)=>some ⟨B++[some j],[(true,s)],[⟨.s,x⟩,⟨.n,p⟩],[]⟩
   |_=>none)
  |_=>none)
 | .agg l,v,fx,_,B=>(match v with
  | .agg vs=>aD (uf (.agg l) fx) (Jf G H l vs (aD fx.isSome vs []) [] B) none
  |_=>none)
 | .cU l,v,_,_,B=>(match v with
  | .tuple vs=>Jf G H l vs [] [] B
  |_=>none)
 | .fn f a b,v,fx,_,B=>(match v with
  | .fn f' a' b'=>aD (Nat.beq f f'&&uf (.fn f a b) fx) (match Jf G H a a' [] [] B with
   |some r=>(match Jf G H b b' (aD fx.isSome b' []) [] r.B with
    |some q=>some ⟨q.B,r.S++q.S,r.D++q.D,r.X++q.X⟩
    |none=>none)
   |none=>none) none
  |_=>none)
 | .ifc t p,v,fx,_,B=>(match v with
  | .ifc t' u=>aD (Nat.beq t t'&&uf (.ifc t p) fx) (mt G H p u (tn p (aD fx.isSome [u] [])) none B) none
  |_=>none)
 | .nT c,v,_,_,B=>aD (AV.same c v) (some ⟨B,[],[],[]⟩) none
 | .dat t o,v,_,_,B=>(match v with
  | .agg cs=>(match HI G H t cs o B with
   |some ⟨x,[],_,B',S⟩=>some ⟨B',S,[⟨t,x⟩],[]⟩
   |_=>none)
  |_=>none)
 | .ifn,v,_,_,B=>(match v with
  | .ifc t (.agg [])=>some ⟨B,[],[⟨.n,t⟩],[]⟩
  |_=>none)
 | .sfp,v,_,_,B=>(match v with
  | .raw (.pointer none)=>(match B[B.length-1]? with
   |some _=>some ⟨B,[],[⟨.bo,false⟩],[]⟩
   |none=>none)
  | .sfp j f=>aD (RX ((B[B.length-1]?).getD none) (some j)) (some ⟨B,[],[⟨.bo,f⟩],[]⟩) none
  | .ptr j 0=>aD (RX ((B[B.length-1]?).getD none) (some j)) (some ⟨B,[],[⟨.bo,true⟩],[]⟩) none
  |_=>none)
 | .same,v,fx,sm,B=>aD (nvs v fx sm) (some ⟨B,[],[],[]⟩) none
def Jf(G H:List Row):List Pt->List AV->List AV->List AV->w4->Option MR
 |[],vs,_,_,B=>(match vs with
  |[]=>some ⟨B,[],[],[]⟩
  |_=>none)
 |p::l,vs,fxs,sms,B=>(match vs with
  |v::vs=>(match mt G H p (aD (abP p) v (yp G H v)) (tn p fxs) sms.head? B with
   |some r=>(match Jf G H l vs fxs.tail sms.tail r.B with
    |some q=>some ⟨q.B,r.S++q.S,r.D++q.D,r.X++q.X⟩
    |none=>none)
   |none=>none)
  |[]=>none)
end
def uQ(fix:Nat->jx):List (Bool×Nat×Pt)->Bool
 |[]=>true
 |x::l=>uf x.2.2 (aD x.1 (fix x.2.1) none)&&uQ fix l
theorem aqo{G H:List Row}{p:Pt}{v:AV}{fx:jx}{a:Option AV}{B:w4}{r:MR}(h:mt G H p v fx a B=some r):uf p fx=true:=by
 cases p <;> first|rfl|skip
 .unfold mt at h;grind
 .unfold mt at h;grind
 .unfold mt at h;grind
def mtV(G H:List Row)(look:Nat->Option AV)(fix:Nat->jx):List (Bool×Nat×Pt)->w4->Option MR
 |[],B=>some ⟨B,[],[],[]⟩
 |x::l,B=>(match (aD x.1 ((fix x.2.1).map (·.1)) (look x.2.1)) with
  |some v=>(match mt G H x.2.2 v (aD x.1 (fix x.2.1) none) none B with
   |some r=>(match mtV G H look fix l r.B with
    |some q=>some ⟨q.B,r.S++q.S,r.D++q.D,r.X++q.X⟩
    |none=>none)
   |none=>none)
  |none=>none)
theorem abu{G H:List Row}{b:Nat->Option AV}{fix:Nat->jx}:{l:List (Bool×Nat×Pt)}->{B:w4}->{r:MR}->mtV G H b fix l B=some r->uQ fix l=true
 |[],_,_,_=>rfl
 |x::l,B,r,h=>by
  unfold mtV at h;split at h
  .split at h
   .rename_i q c;split at h
    next d a=>simp [uQ,au];exact ⟨aqo c,abu a⟩
    .cases h
   .cases h
  .cases h
end
end Go.Proofs.YtcgihjbfppkcfaaGreatDoor
