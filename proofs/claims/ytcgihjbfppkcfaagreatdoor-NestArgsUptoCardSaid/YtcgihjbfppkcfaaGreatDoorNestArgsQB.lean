/- Own texts for NestArgsQ, cut and joined by a program. -/
import Derived.Test.YtcgihjbfppkcfaaGreatDoorNestArgsQA
import Derived.Lib.AppendStr
import Derived.Lib.UnsafeStr
import Derived.Lib.Builder
import Derived.Laws.Externs
import Derived.RecoverIn
set_option linter.all false
namespace Go.Proofs.YtcgihjbfppkcfaaGreatDoor
open IntKind (u8)
noncomputable section
variable {e t' : TypeId} {x y : Operand}
section
variable {P : Program} {E : Env} {w : World} {g : Bool}
variable {dst : zf} {ty : TypeId} {pos : String} {af : zh} {gd : w4}
abbrev DI(f:Bool)(b:Nat):Value:= .pointer (bif f then some ⟨b,0,none⟩ else none)
theorem agx{t:TypeId}{f:Bool}{b:Nat}(ht:P.underlying t=some (.pointer e))(hx:ar E g x (DI f b))(a:ar E g y (.pointer none)):
  bc P E g ⟨dst,.binOp .eql t x y t',ty,pos,af,gd⟩ w (.bool (!f)):=
 cD (P:=P) hx a (by
  rw [Sem.run_bind,gX rfl,Result.andThen_ok];have h:∀d:Nat,(Op.equalIn (d+1) t (DI f b) (.pointer none)).run P w= .ok (!f) w:=λd=>by cases f <;> simp [Op.equalIn,run_underlying ht,DI]
  simp only [binOp];simp [Op.equal,Op.maxDepth,h 9999])
theorem af0{t:TypeId}{f:Bool}{b n bytes:Nat}{z:Value}(ht:P.underlying t=some (.pointer e))(a:TI P e n bytes z)(hx:ar E g x (DI f b))(c:ar E g y (.pointer (some ⟨b,0,none⟩))):
  bc P E g ⟨dst,.binOp .neq t x y t',ty,pos,af,gd⟩ w (.bool (!f)):=
 cD (P:=P) hx c (by
  rw [Sem.run_bind,gX rfl,Result.andThen_ok];obtain ⟨j,i,_⟩:=a.out;cases f
  .have h:∀d:Nat,(Op.equalIn (d+1) t (.pointer none) (.pointer (some ⟨b,0,none⟩))).run P w= .ok false w:=λd=>by simp [Op.equalIn,run_underlying ht]
   show (binOp .neq t (.pointer none) (.pointer (some ⟨b,0,none⟩))).run P w=_;simp only [binOp];simp [Op.equal,Op.maxDepth,h 9999]
  .exact Lib.run_neq_ptr_same w _ ht i)
theorem UT{κ ν:Type}{ke:κ->Value}{vi:ν->Value}{t kt f:TypeId}{o:ze}{dd:Option (List (κ×ν))}(ht:P.underlying t=some (.map kt f))(hx:ar E g x (.map o))(c:ar E g y (.map none))(hm:te ke vi w (.map o) dd):
  bc P E g ⟨dst,.binOp .eql t x y t',ty,pos,af,gd⟩ w (.bool (Option.isNone dd)):=
 cD (P:=P) hx c (by
  rw [Sem.run_bind,gX rfl,Result.andThen_ok];rcases hm with ⟨e,rfl⟩|⟨b,i,a,l,e,rfl,_,_⟩
  .cases e;have h:∀d:Nat,(Op.equalIn (d+1) t (.map none) (.map none)).run P w= .ok true w:=λd=>by simp [Op.equalIn,run_underlying ht]
   simp only [binOp];simp [Op.equal,Op.maxDepth,h 9999]
  .cases e;have h:∀d:Nat,(Op.equalIn (d+1) t (.map (some b)) (.map none)).run P w= .ok false w:=λd=>by simp [Op.equalIn,run_underlying ht]
   simp only [binOp];simp [Op.equal,Op.maxDepth,h 9999])
theorem Un{κ ν:Type}{ke:κ->Value}{vi:ν->Value}{t kt f:TypeId}{o:ze}{dd:Option (List (κ×ν))}(ht:P.underlying t=some (.map kt f))(hx:ar E g x (.map o))(c:ar E g y (.map none))(hm:te ke vi w (.map o) dd):
  bc P E g ⟨dst,.binOp .neq t x y t',ty,pos,af,gd⟩ w (.bool (!(Option.isNone dd))):=
 cD (P:=P) hx c (by
  rw [Sem.run_bind,gX rfl,Result.andThen_ok];rcases hm with ⟨e,rfl⟩|⟨b,i,a,l,e,rfl,_,_⟩
  .cases e;have h:∀d:Nat,(Op.equalIn (d+1) t (.map none) (.map none)).run P w= .ok true w:=λd=>by simp [Op.equalIn,run_underlying ht]
   simp only [binOp];simp [Op.equal,Op.maxDepth,h 9999]
  .cases e;have h:∀d:Nat,(Op.equalIn (d+1) t (.map (some b)) (.map none)).run P w= .ok false w:=λd=>by simp [Op.equalIn,run_underlying ht]
   simp only [binOp];simp [Op.equal,Op.maxDepth,h 9999])
theorem ac2{t kt b:TypeId}(ht:P.underlying t=some (.map kt b))(hx:ar E g x (.map none))(a:ar E g y (.map none)):
  bc P E g ⟨dst,.binOp .eql t x y t',ty,pos,af,gd⟩ w (.bool true):=UT (κ:=Unit) (ν:=Unit) (ke:=λ_=>undef) (vi:=λ_=>undef) (dd:=none) ht hx a (.inl ⟨rfl,rfl⟩)
theorem adD{t kt b:TypeId}(ht:P.underlying t=some (.map kt b))(hx:ar E g x (.map none))(a:ar E g y (.map none)):
  bc P E g ⟨dst,.binOp .neq t x y t',ty,pos,af,gd⟩ w (.bool false):=Un (κ:=Unit) (ν:=Unit) (ke:=λ_=>undef) (vi:=λ_=>undef) (dd:=none) ht hx a (.inl ⟨rfl,rfl⟩)
theorem ZE{s d e':TypeId}{b n bytes:Nat}{z:Value}{vs:zc}(h:P.underlying s=some (.pointer e))(hd:P.underlying d=some .unsafePointer)(c:TI P e n bytes z)(hn:Nat.blt 0 n=true)
  (hx:ar E g x (.pointer (some ⟨b,0,none⟩))) (hb:gI w b e' vs) (f:Nat.blt 0 vs.length=true):bc P E g ⟨dst,.convert s d x,ty,pos,af,gd⟩ w (.pointer (some ⟨b,0,none⟩)):=
 λn' a m l=>by
  obtain ⟨j,k,i,_⟩:=c.out;have sK:w.shape? b=some (e',vs.toArray.size):=by unfold World.shape?;rw [show w.heap[b]? =_ from hb]
  have p:0<n:=by simpa using hn
  have o:0<vs.length:=by simpa using f
  have:=Lib.run_to_unsafe (P:=P) w (cells:=vs.toArray.size) (⟨b,0,none⟩:Addr) h hd k (by omega) sK (by simpa using o);simp [execOp,hx n' a m l,this]
theorem Vu{s d e':TypeId}{b n bytes:Nat}{z:Value}{vs:zc}(f:P.underlying s=some .unsafePointer)(hd:P.underlying d=some (.pointer e))(c:TI P e n bytes z)
  (hx:ar E g x (.pointer (some ⟨b,0,none⟩))) (hb:gI w b e' vs) (hl:liesAt P P.depth e' (vs.length/P.cellsOf e') 0 e 1=true):bc P E g ⟨dst,.convert s d x,ty,pos,af,gd⟩ w (.pointer (some ⟨b,0,none⟩)):=
 λn' a l k=>by
  obtain ⟨j,i,h,_⟩:=c.out;have sK:w.shape? b=some (e',vs.length):=by unfold World.shape?;rw [show w.heap[b]? =_ from hb];simp
  have:=Lib.run_from_unsafe (P:=P) w (⟨b,0,none⟩:Addr) f hd i sK hl;simp [execOp,hx n' a l k,this]
def alc(P:Program)(f:FuncId):Prop:= ∀(v:Value) (w:World),(callFunc f #[v]).run P w= .ok (.value v) w
theorem alI{f:FuncId}{v:Value}{tys:Array TypeId}(hS:alc P f)(hx:ar E g x v):bc P E g ⟨dst,.call ⟨.value (.func f),#[x],tys⟩,ty,pos,af,gd⟩ w v:=
 λn' a c b=>by have:=hS v w;have e:a.eval (.func f)= .func (.func f) #[] #[]:=rfl;simp only [execOp,resolve,e,Deferred.ofValue,Sem.run_bind,Sem.run_pure,Result.andThen_ok,invoke];simpa [hx n' a c b] using this
end
theorem agQ(s:aE):Lib.strCells ⟨s.toArray⟩=s.map λb=>Value.int .u8 (b.toNat:Int):=by simp [Lib.strCells]
theorem L8{M:Nat->Prop}{w:World}:∀s:aE,cV (RI .u8) M w (Lib.strCells ⟨s.toArray⟩) (aQ s):=λs=>by rw [agQ];exact NZ s
theorem gO(s:aE):(aQ s).length=s.length:=by simp [aQ]
section
variable {P : Program} {w : World} {M : Nat -> Prop}
theorem yH(t u q e:TypeId)(ht:P.underlying t=some (.slice e))(I:P.underlying u=some .string)(W:TI P e 1 1 (.int .u8 0))
  {v:Value} {xs:zl} {s:aE} (ho:kD (RI .u8) e M w v xs) (hM:∀b∈dW v,M b) (f:aH (xs.length+s.length) 1=true):
  ∃v' w',(Builtin.append_ #[t,u] q #[v,S s]).run P w= .ok v' w'/\mO (dW v) w w'/\(∀b∈dW v',b<w'.heap.size/\(b∈dW v\/w.heap.size<=b))/\
   (∀M',Mv M w M' w'->kD (RI .u8) e M' w' v' (xs++aQ s)):=by
 obtain ⟨i,hi,r,O,hz⟩:=W.out;simp only [aH,au,Nat.mul_one] at f;have hb1:=ei f.1;have Q:=ei f.2;have a:(⟨s.toArray⟩:ByteArray).size=s.length:=uu s;obtain ⟨cells,d,hA⟩:=ho;have J:cV (RI .u8) M w (Lib.strCells ⟨s.toArray⟩) (aQ s):=L8 s;have R:=hA.append J;have h:(RI .u8).n=1:=rfl;have H:cells.length=xs.length:=by have:=hA.1;rw [h] at this;omega
 have F:(Lib.strCells ⟨s.toArray⟩).length=s.length:=by rw [Lib.strCells_length,a]
 have k:(cells++Lib.strCells ⟨s.toArray⟩).length=(xs++aQ s).length*1:=by simp [H,F,gO]
 have p:∀(lC:Nat),lC<xs.length+s.length->
   (w.drew.alloc (.cells (cells.toArray++(Lib.strCells ⟨s.toArray⟩).toArray++Builtin.zeroCells (Value.int .u8 0).cells (grownCap w (xs.length+s.length) lC e-(xs.length+s.length))) e)).ownsRow 0 e 1
    (.slice (some ⟨w.heap.size,0,none⟩) (xs.length+s.length) (grownCap w (xs.length+s.length) lC e)) (xs++aQ s).length (cells++Lib.strCells ⟨s.toArray⟩):=by
  intro lC hold;have Z:=grownCap_ge w (xs.length+s.length) lC e;have z:grownCap w (xs.length+s.length) lC e<=maxLen:=grownCap_le_maxLen w (xs.length+s.length) lC e (by simpa [maxLen] using Q);refine ⟨k,.inr ⟨w.heap.size,_,_,by simp [gO],pF _,heap_alloc_new w.drew _,by simpa [gO] using Z,z,?_,?_⟩⟩
  .have U:(Value.int u8 0).cells.size=1:=rfl;simp only [qW,qi,size_zeroCells,U,H,F];omega
  .simp only [Array.toList_append,cx];rw [<-cx,<-k];exact tJ
 have B:∀o C,mO C w (w.drew.alloc o):=λo C=>⟨rfl,rfl,rfl,by simp,λb hb _=>heap_alloc_old w.drew o hb⟩;have A:∀(n cap:Nat) (o:Obj),∀b∈dW (.slice (some ⟨w.heap.size,0,none⟩) n cap),b<(w.drew.alloc o).heap.size/\(b∈dW v\/w.heap.size<=b):=λn cap o b hb=>by
  have:b=w.heap.size:=by simpa [dW,Value.ownBlock] using hb
  subst this;exact ⟨by simp,.inr (cK _)⟩
 by_cases hm:s.length=0
 .have Y:s=[]:=et hm;subst Y;refine ⟨v,w,?_,(Ext.refl w).xt _,λb hb=>⟨(d.lt b (by simpa [dW] using hb)).2,.inl hb⟩,λM' m=>⟨cells,by simpa [aQ] using d,by simpa [aQ] using hA.mv m⟩⟩;rcases d.2 with ⟨rfl,h0⟩|⟨g,cap,cur,rfl,_,T,D,z,N,_⟩
  .have K:=Lib.run_firstCells_string (P:=P) w 1 ⟨#[]⟩;have e0:(⟨#[]⟩:ByteArray).size=0:=rfl;rw [e0] at K;simp [S,Builtin.append_,run_underlying ht,run_underlying I,sizeOf,typeInfo,hi,r,Builtin.lenOf,K,ByteArray.size]
  .have K:=Lib.run_firstCells_string (P:=P) w 1 ⟨#[]⟩;have e0:(⟨#[]⟩:ByteArray).size=0:=rfl;rw [e0] at K;simp [S,Builtin.append_,run_underlying ht,run_underlying I,sizeOf,typeInfo,hi,r,Builtin.lenOf,K,ByteArray.size,storeCells,Lib.strCells,D]
 .rcases d.2 with ⟨rfl,h0⟩|⟨g,cap,cur,rfl,_,T,D,z,N,E⟩
  .have V:xs=[]:=et h0;subst V;have hc0:cells=[]:=et (by simpa using H);subst hc0;have G:=run_append_nil_string (P:=P) w t u q e i (.int .u8 0) ht I hi hz ⟨s.toArray⟩ (by rw [a];omega) (by rw [a];simp at Q;omega) (by rw [a,O];simp at hb1;omega);have y:=p 0 (by simp;omega);have e1:((⟨s.toArray⟩:ByteArray).data.map λb=>Value.int .u8 b.toNat)=(Lib.strCells ⟨s.toArray⟩).toArray:=by apply Array.ext';simp [Lib.strCells]
   rw [e1,a] at G;simp only [qf,mN,p5,tx] at y;exact ⟨_,_,G,B _ _,A _ _ _,λM' m=>⟨_,by simpa [h] using y,by simpa using J.mv m⟩⟩
  .by_cases c:xs.length+s.length<=cap
   .have L:cur.size=cap:=by simpa [h] using N
    have G:=Lib.run_append_room_string (P:=P) w t u q e i ht I hi r g xs.length cap cur T ⟨s.toArray⟩ (by rw [a];exact c) (by rw [a,L];exact c);refine ⟨_,_,G,⟨rfl,rfl,rfl,by simp,λb hb hbg=>setRow_other w g b _ (by simpa [dW,Value.ownBlock] using hbg)⟩,λb hb=>?_,λM' m=>⟨cells++Lib.strCells ⟨s.toArray⟩,⟨k,.inr ⟨g,cap,_,by simp [gO,a],pF _,setRow_heap w g cur _ e _ T,by simpa [gO] using c,z,?_,?_⟩⟩,R.mv m⟩⟩
    .have:b=g:=by simpa [dW,Value.ownBlock] using hb
     subst this;exact ⟨by simpa using (Array.getElem?_eq_some_iff.1 T).1,.inl (by simp [dW,Value.ownBlock])⟩
    .simp only [qi,eF,dq,j0,fi,F,a,h];omega
    .have X:cur.toList.take xs.length=cells:=by simpa [h] using E
     have e:∀(l:zc),l.toArray.toList=l:=λl=>by simp
     rw [e,X,h,<-k];exact tJ
   .have holds:∀j x,cells[j]? =some x->w.cell? ((⟨g,0,none⟩:Addr).add j)=some x:=d.cells (g:=g) rfl;have G:=Lib.run_append_grow_string (P:=P) w t u q e i (.int .u8 0) ht I hi hz ⟨g,0,none⟩ xs.length cap cells (by rw [r];omega) holds ⟨s.toArray⟩ (by rw [a];omega) (by rw [a];omega)
     (by rw [a,O];exact growslice_fits (by omega) (by omega))
    have y:=p cap (by omega);rw [a] at G;exact ⟨_,_,G,B _ _,A _ _ _,λM' m=>⟨_,by simpa [h] using y,R.mv m⟩⟩
theorem CP(t u c e:TypeId)(ht:P.underlying t=some (.slice e))(p:P.underlying u=some .string)(k:TI P e 1 1 (.int .u8 0))
  {a0:Option Addr} {s:aE} (a:aH s.length 1=true):
  ((Builtin.append_ #[t,u] c #[.slice a0 0 0,S s]).run P w= .ok (.slice a0 0 0) w/\s=[])\/
  ∃g w',(Builtin.append_ #[t,u] c #[.slice a0 0 0,S s]).run P w= .ok g w'/\Ext w w'/\(∀b∈dW g,b<w'.heap.size/\w.heap.size<=b)/\(∀M',Mv M w M' w'->kD (RI .u8) e M' w' g (aQ s)):=by
 obtain ⟨i,hi,q,z,E⟩:=k.out;by_cases hm:s=[]
 .subst hm;refine .inl ⟨?_,rfl⟩;have B:=Lib.run_firstCells_string (P:=P) w 1 ⟨#[]⟩;have J:(⟨#[]⟩:ByteArray).size=0:=rfl;rw [J] at B;cases a0 <;> simp [S,Builtin.append_,run_underlying ht,run_underlying p,sizeOf,typeInfo,hi,q,Builtin.lenOf,B,ByteArray.size,storeCells,Lib.strCells]
 .refine .inr ?_;cases a0 with
  |none=>
   obtain ⟨g,w',l,hC,C,H⟩:=yH (M:=M) (w:=w) t u c e ht p k (kD.nil) (s:=s) (λb hb=>by simp [dW,Value.ownBlock] at hb) (by simpa using a);refine ⟨g,w',l,⟨hC.os,hC.tape,hC.output,hC.size,λb hb=>hC.block b hb (by simp [dW,Value.ownBlock])⟩,λb hb=>⟨(C b hb).1,?_⟩,λM' m=>by simpa using H M' m⟩;rcases (C b hb).2 with h|h
   .simp [dW,Value.ownBlock] at h
   .exact h
  |some D=>
   have d:(⟨s.toArray⟩:ByteArray).size=s.length:=uu s;simp only [aH,au,Nat.mul_one] at a;have G:=ei a.1;have A:=ei a.2;have K:0<s.length:=List.length_pos_iff.2 hm;have l:=Lib.run_append_grow_string (P:=P) w t u c e i (.int .u8 0) ht p hi E D 0 0 [] (by simp) (by intro j v F;simp at F) ⟨s.toArray⟩ (by rw [d];omega) (by rw [d];omega) (by rw [d,z];exact growslice_fits (by omega) (by omega));rw [d] at l;simp only [mN] at l;have r:(Builtin.append_ #[t,u] c #[.slice (some D) 0 0,S s]).run P w=_:=l;have x:=grownCap_ge w s.length 0 e;have y:grownCap w s.length 0 e<=maxLen:=grownCap_le_maxLen w s.length 0 e (by simpa [maxLen] using A);have f:(Lib.strCells ⟨s.toArray⟩).length=s.length:=by rw [Lib.strCells_length,d]
   refine ⟨_,_,r,⟨rfl,rfl,rfl,by simp,λb hb=>heap_alloc_old w.drew _ hb⟩,λb hb=>?_,λM' m=>⟨Lib.strCells ⟨s.toArray⟩,⟨by simp [f,gO,RI],.inr ⟨w.heap.size,_,_,by simp [gO],pF _,heap_alloc_new w.drew _,by simpa [gO] using x,y,?_,?_⟩⟩,(L8 s)⟩⟩
   .have:b=w.heap.size:=by simpa [dW,Value.ownBlock] using hb
    subst this;exact ⟨by simp,cK _⟩
   .have o:(Value.int u8 0).cells.size=1:=rfl;simp only [qW,qi,size_zeroCells,o,f,qf];show _=_*1;omega
   .have I:(aQ s).length*(RI .u8).n=(Lib.strCells ⟨s.toArray⟩).length:=by simp [gO,f,RI]
    rw [I];simp
end
section
variable {P : Program} {ρ : ze} {Q : bh} {n : Nat} {D : x3} {E : Env} {w : World} {ops : zg} {rest : zj} {Γ : Ctx} {i : Nat}
variable {d : Tmp} {ty : TypeId} {pos : String} {af : zh}
theorem afC{v:Value}{t u:TypeId}{R:zm}{xs:zl}{s:aE}(H:Sat Γ w)(i:Nat)(hi:Γ[i]? =some (jW (RI .u8) e v xs R))
  (ht:P.underlying t=some (.slice e)) (G:P.underlying u=some .string) (o:TI P e 1 1 (.int .u8 0)) (hx:ar E true x v) (q:ar E true y (S s))
  (f:aH (xs.length+s.length) 1=true) (hn:Nat.blt d n=true)
  (h:∀(p:jU) l w',Sat (Γ.set i (jW (RI .u8) e (sl p) (xs++aQ s) l)) w'->WL P ρ ops Q n D rest ((d,true,sl p)::E) w'):
  WL P ρ ops Q n D (⟨some d,.call ⟨.builtin .append,#[x,y],#[t,u]⟩,ty,pos,af,none⟩::rest) E w:=by
 have key:∃c l w',pr P E ⟨some d,.call ⟨.builtin .append,#[x,y],#[t,u]⟩,ty,pos,af,none⟩ w c w'/\mO R w w'/\(∀b∈l,b<w'.heap.size/\(b∈R\/w.heap.size<=b))/\∀M',Mv Γ.M w M' w'->cj (RI .u8) e M' w' c (xs++aQ s) l:=by
  have k:=H.own hi;have J:∀b∈R,Γ.M b:=λb hb=>Ctx.lh hi hb;rcases k with ⟨rfl,B⟩|⟨rfl,rfl,⟨a0,rfl⟩,z⟩
  .obtain ⟨c,w',j,hC,F,k⟩:=yH t u ty e ht G o B J f;exact ⟨c,dW c,w',(λn' a g=>by simp [execOp,resolve,invoke,builtin,hx n' a g rfl,q n' a g rfl,j]),hC,F,λM' m=>cj.of (k M' m)⟩
  .rcases CP (M:=Γ.M) (w:=w) t u ty e ht G o (a0:=a0) (s:=s) (by simpa using f) with ⟨j,rfl⟩|⟨c,w',j,K,I,k⟩
   .exact ⟨.slice a0 0 0,[],w,(λn' a g=>by simp [execOp,resolve,invoke,builtin,hx n' a g rfl,q n' a g rfl,j]),(Ext.refl w).xt _,(λb hb=>by cases hb),λM' m=>by simpa [aQ] using cj.empty (e:=e) (z.mv m)⟩
   .exact ⟨c,dW c,w',(λn' a g=>by simp [execOp,resolve,invoke,builtin,hx n' a g rfl,q n' a g rfl,j]),K.xt _,(λb hb=>⟨(I b hb).1,.inr (I b hb).2⟩),λM' m=>cj.of (by simpa using k M' m)⟩
 obtain ⟨c,l,w',j,hC,F,k⟩:=key;have hS:=H.mM hi (new:=jW (RI .u8) e c (xs++aQ s) l) hC F (λM' m _=>k M' m);have r:∃p,c=sl p:=by have C:i<Γ.length:=(List.getElem?_eq_some_iff.1 hi).1;have B:=hS.own (i:=i) (A:=RI .u8) (e:=e) (v:=c) (xs:=xs++aQ s) (R:=l) (by rw [sj C]);obtain ⟨a,cap,r⟩:=B.len;exact ⟨(a,_,cap),r⟩
 obtain ⟨p,rfl⟩:=r;exact yI j rfl rfl rfl hn (h _ _ _ hS)
def Roomy(v:Value):Prop:= ∃g len cap,v= .slice (some ⟨g,0,none⟩) len (cap+1)
theorem ajT{g:Bool}{dst:zf}{gd:Option (Nat×Bool)}{v:jU}{c:Array TypeId}(hx:ar E g x (sl v))(h:g=true->Roomy (sl v)):bc P E g ⟨dst,.call ⟨.builtin .unsafeSliceData,#[x],c⟩,ty,pos,af,gd⟩ w (.pointer v.1):=
 λn a i d=>by obtain ⟨b,len,cap,e⟩:=h d;obtain ⟨k,f,j⟩:=v;simp only [sl,Value.slice.injEq] at e;obtain ⟨rfl,rfl,rfl⟩:=e;have:=Lib.run_unsafeSliceData_row (P:=P) w c ty ⟨b,0,none⟩ f (cap+1) (by omega);simp [execOp,resolve,invoke,builtin,hx n a i d,sl,this]
theorem JF{P:Program}{w:World}:∀(l:zl) (a:Addr) (acc:ByteArray),(∀(j:Nat) (x:Int),l[j]? =some x->w.cell? (a.add j)=some (.int .u8 x))->
  (loadBytes a acc l.length).run P w= .ok ⟨acc.data++(strOf l).toArray⟩ w
 |[],a,acc,_=>by simp [loadBytes,strOf]
 |x::l,a,acc,h=>by
  have d:w.cell? a=some (.int .u8 x):=by have:=h 0 x rfl;simpa [Addr.add] using this
  have ih:=JF (P:=P) l (a.add 1) (acc.push (UInt8.ofNat x.toNat)) (λj y c=>by
   have:=h (j+1) y (by simpa using c);have e:(a.add 1).add j=a.add (j+1):=by
    unfold Addr.add;by_cases b:j=0
    .subst b;simp
    .simp [b];omega
   rw [e];exact this)
  simp only [eb,loadBytes,Sem.run_bind,run_load,d,Result.andThen];have f:(x.toNat).toUInt8=UInt8.ofNat x.toNat:=rfl;rw [f,ih];congr 1;apply ByteArray.ext;simp [ByteArray.push,strOf]
end
open Go.Lib
theorem O{E:Env}{g:Bool}{t:Tmp}{v:Value}(h:look E t=some (true,v)):ar E g (.tmp t) v:=ar.t h
section
variable {P : Program} {ρ : ze} {Q : bh} {n : Nat} {D : x3} {E : Env} {w : World} {ops : zg} {rest : zj}
theorem Wo{o:Oper}{d:Tmp}{v:Value}(b:bc P E true o w v)(a:(kg o,o.guard,o.dst,Nat.blt d n)=(true,none,some d,true))
  (h:WL P ρ ops Q n D rest ((d,true,v)::E) w):WL P ρ ops Q n D (o::rest) E w:=
 aL b (congrArg (·.1) a) (congrArg (·.2.1) a) (congrArg (·.2.2.1) a) (congrArg (·.2.2.2) a) h
end
variable {dd : TypeDesc} {v : Value}
def C0{E A B:Type}(m:Option (Except E A))(k:A->Option (Except E B)):Option (Except E B):=m.bind λa=>match a with
 | .error p=>some (.error p)
 | .ok x=>k x
def gH{E A B:Type}(m:Option (Except E A))(kp:E->Option B)(k:A->Option B):Option B:=m.bind λa=>match a with
 | .error p=>kp p
 | .ok x=>k x
theorem ahj{E A B:Type}{m:Option (Except E A)}{b:E->Option B}{k:A->Option B}{r:B}(h:gH m b k=some r):(∃p,m=some (.error p)/\b p=some r)\/∃x,m=some (.ok x)/\k x=some r:=by
 cases m with
 |none=>cases h
 |some a=>
  cases a with
  |error p=>exact .inl ⟨p,rfl,h⟩
  |ok x=>exact .inr ⟨x,rfl,h⟩
abbrev kh(v:Value):xa:=[{ v:=v,recovered:=false }]
section
variable {P : Program} {ρ : ze} {Q : bh} {n : Nat} {D : x3} {E : Env} {w : World} {ops : zg} {rest : zj} {Φ : Ctx}
theorem amH{t:TypeId}{dst:zf}{ty:TypeId}{pos:String}{af:zh}(hx:ar E true x (.iface t v))
  (h:At Q (.panic (kh (.iface t v))) n D E w):WL P ρ ops Q n D (⟨dst,.panic x,ty,pos,af,none⟩::rest) E w:=λa b c=>
 wpListIn_plain rfl λK d=>oy rfl (by
  have e:(execOp a.eval (⟨dst,.panic x,ty,pos,af,none⟩:Oper)).run P w= .halt (.panic (.iface t v)) w:=by simp only [execOp,hx n a b rfl];rfl
  rw [e];exact h a b c)
theorem ahR{fn:Func}{S:Value->World->Prop}{Sp:xa->World->Prop}{ps:xa}(h:Sp ps w):EH (BP P fn S Sp) ps [] w:=λa hd=>by show LeavesInM _ _ _ _ _ _ a.defers _ _;rw [hd];exact h
variable {g : Bool} {dst : zf} {ty : TypeId} {pos : String} {af : zh} {gd : w4}
theorem Yu{s t:TypeId}(ht:P.underlying t=some dd)(hd:iY dd=false)(hx:ar E g x (.iface t v)):bc P E g ⟨dst,.typeAssert x s t true,ty,pos,af,gd⟩ w (.tuple #[v,.bool true]):=
 λn a c b=>by simp only [execOp,hx n a c b,Instr.typeAssert,Sem.run_bind,run_underlying ht,Result.andThen_ok];cases dd <;> first|(dsimp only;rw [du rfl];rfl)|(simp [iY] at hd)
theorem Y2{z:Value}{s t:TypeId}{size bytes:Nat}(ht:P.underlying t=some dd)(hd:iY dd=false)(b:TI P t size bytes z)(hx:ar E g x .nilIface):bc P E g ⟨dst,.typeAssert x s t true,ty,pos,af,gd⟩ w (.tuple #[z,.bool false]):=
 λn a d c=>by simp only [execOp,hx n a d c,Instr.typeAssert,Sem.run_bind,run_underlying ht,Result.andThen_ok];cases dd <;> first|(simp [iY] at hd;done)|(simp only [Sem.run_bind,b.zero w,Result.andThen_ok,qU];rfl)
theorem Yt{z:Value}{s t u:TypeId}{size bytes:Nat}(b:u≠t)(ht:P.underlying t=some dd)(hd:iY dd=false)(c:TI P t size bytes z)(hx:ar E g x (.iface u v)):bc P E g ⟨dst,.typeAssert x s t true,ty,pos,af,gd⟩ w (.tuple #[z,.bool false]):=
 λn a e d=>by simp only [execOp,hx n a e d,Instr.typeAssert,Sem.run_bind,run_underlying ht,Result.andThen_ok];cases dd <;> first|(simp [iY] at hd;done)|(dsimp only;rw [dk (by first|exact b|exact b.symm)];simp only [Sem.run_bind,c.zero w,Result.andThen_ok,qU];rfl)
def OC(P:Program)(f:FuncId)(args:zc)(u:FrameMode)(w:World)(R:FrameMode->World->Prop):Prop:=
 CallsDIn (FW none) 0 P f args.toArray u w λe u' w'=>e= .returned (.tuple #[])/\R u' w'
abbrev Ql(f:FuncId)(cap:zc):Deferred:={ target:= .fn (.func f) cap.toArray,args:= #[] }
theorem alk{f:FuncId}{fo:Operand}{cap:zc}{tys:Array TypeId}{ty:TypeId}{pos:String}{af:zh}(b:ar E true fo (.func (.func f) #[] cap.toArray))
  (h:WL P none ops Q n (Ql f cap::D) rest E w):WL P none ops Q n D (⟨none,.defer ⟨.value fo,#[],tys⟩,ty,pos,af,none⟩::rest) E w:=λa c g=>
 wpListIn_plain rfl λK d=>by
  refine ⟨λ_ _=>trivial,?_⟩;have e:((⟨none,.defer ⟨.value fo,#[],tys⟩,ty,pos,af,none⟩:Oper).semAt (FW none).round a.eval).run P w= .ok (.defer (Ql f cap)) w:=by show (execOp a.eval (⟨none,.defer ⟨.value fo,#[],tys⟩,ty,pos,af,none⟩:Oper)).run P w=_;simp only [execOp,resolve,b n a c rfl,Deferred.ofValue,Sem.run_bind,Sem.run_pure,Result.andThen_ok];rw [show (#[]++Array.map a.eval #[]:zb)= #[] by simp]
  rw [e,Oper.uponIn_defer];refine d _ _ (h _ ⟨c.size,c.at_⟩ ?_);show Ql f cap::a.defers=_;rw [g]
theorem P8{a:Act}(h:Fits n E a)(ds:x3):Fits n E { a with defers:=ds }:=⟨h.size,h.at_⟩
theorem SS{fn:Func}{f:FuncId}{cap:zc}{tmps:zb}{R:Ending->World->Prop}{u:FrameMode}{ds:x3}(a:u≠ .run)(b:Enters P f)
  (c:OC P f cap u w λu' w'=>LeavesInM (FW none) 0 P fn tmps R ds (settle u') w'):LeavesInM (FW none) 0 P fn tmps R (Ql f cap::ds) u w:=by
 refine ⟨a,.inr ⟨J3,.func f,cap.toArray,f,cap.toArray,rfl,?_,λ_ _=>trivial,?_⟩⟩
 .have:=b cap.toArray w;simpa [Ql,invoke] using this
 .refine CallsDIn.mono c λe u' w' h=>?_;obtain ⟨rfl,h⟩:=h;exact h
theorem ajX{fn:Func}{S:Value->World->Prop}{Sp:xa->World->Prop}{f:FuncId}{cap:zc}{T:World->Prop}(d:Enters P f)
  (g:OC P f cap .returning w λu' w'=>u'= .returning/\T w') (h:∀w',T w'->At (BP P fn S Sp) .ret n [] E w'):At (BP P fn S Sp) .ret n [Ql f cap] E w:=λa c hd=>by
 show LeavesInM _ _ _ _ _ _ a.defers _ _;rw [hd];refine SS (by simp) d (CallsDIn.mono g λe u' w' hx=>?_);obtain ⟨b,rfl,i⟩:=hx;exact ⟨b,h w' i { a with defers:=[] } (P8 c []) rfl⟩
theorem adQ{fn:Func}{S:Value->World->Prop}{Sp:xa->World->Prop}{f:FuncId}{cap:zc}{T:World->Prop}(d:Enters P f)
  (g:OC P f cap (.panicking (kh v)) w λu' w'=>u'= .panicking [{ v:=v,recovered:=true }]/\T w') (h:∀w',T w'->At (BP P fn S Sp) .ret n [] E w'):At (BP P fn S Sp) (.panic (kh v)) n [Ql f cap] E w:=λa c hd=>by
 show LeavesInM _ _ _ _ _ _ a.defers _ _;rw [hd];refine SS (by simp) d (CallsDIn.mono g λe u' w' hx=>?_);obtain ⟨b,rfl,i⟩:=hx;exact ⟨b,h w' i { a with defers:=[] } (P8 c []) rfl⟩
def QB(T:World->Prop):bh:=λe a w=>match e with
 | .normal=>a.defers=[]/\T w
 | .ret=>a.defers=[]/\T w
 |_=>False
theorem asP{T:World->Prop}(h:T w):At (QB T) .normal n [] E w:=λ_ _ hd=>⟨hd,h⟩
theorem arR{T:World->Prop}(h:T w):At (QB T) .ret n [] E w:=λ_ _ hd=>⟨hd,h⟩
def Y7(o:Oper):Bool:=match o.op with
 | .move _=>true
 | .assign _=>true
 | .alloc _=>true
 | .extract _ _=>true
 | .store _ _ _=>true
 | .typeAssert _ _ _ _=>true
 | .binOp .neq _ _ _ _=>true
 |_=>false
def abr:Result Next->Prop
 | .ok (.value _) _=>True
 | .ok .skip _=>True
 | .halt _ _=>True
 |_=>False
theorem arD{m:Sem Value}{w:World}:abr ((do pure (Next.value (<-m)):Sem Next).run P w):=by rw [Sem.run_bind];cases m.run P w <;> trivial
theorem arV{m:Sem Unit}{w:World}:abr ((do m;pure Next.skip:Sem Next).run P w):=by rw [Sem.run_bind];cases m.run P w <;> trivial
theorem alE{o:Oper}(h:Y7 o=true)(ev:Operand->Value)(w:World):abr ((execOp ev o).run P w):=by obtain ⟨dst,op,ty,pos,af,g⟩:=o;cases op <;> first|(cases h;done)|exact arD|exact arV|trivial
theorem aaf{ops:zg}{f:bh}{QS:Exit->Act->List Frame->World->Prop}{cs:List Frame}(hQ:∀e a w,f e a w->QS e a cs w):∀(l:zj) (k:Nat),l.all Y7=true->(∀j,l[j]? =ops[k+j]?)->∀(a:Act) (w:World),wpListIn (FW none) 0 P ops f l a w->
  wpOpsSIn (FW none) 0 P ops QS (List.range' k l.length) a cs w
 |[],k,_,_,a,w,h=>hQ _ _ _ h
 |o::l,k,hc,hk,a,w,h=>by
  have i:ops[k]? =some o:=by simpa using (hk 0).symm
  rw [qp,au] at hc;have ih:=aaf (ops:=ops) hQ l (k+1) hc.2 (λj=>by have:=hk (j+1);simpa [q8,Nat.add_comm 1 j] using this);rw [eb,List.range'_succ];simp only [wpOpsSIn,i];simp only [wpListIn] at h;refine ⟨λ_ _=>trivial,?_⟩;split at h
  .rename_i d;rw [du d];have c:=h.2;have b:=alE (P:=P) hc.1 a.eval w;rw [show (o.semAt (FW none).round a.eval)=execOp a.eval o from rfl] at c;generalize (execOp a.eval o).run P w=r at c b;cases r with
   |ok x w'=>
    cases x <;> first|exact b.elim|exact ih _ _ c
   |halt g w'=>
    cases g <;> first|exact hQ _ _ _ c|exact c.elim
  next d=>rw [dk d];exact ih _ _ h.2
theorem ari{fn:Func}{c₀:Frame}{cs:List Frame}{T:World->Prop}{u':FrameMode}(b:fn.results= #[]){e:Exit}{a:Act}{w:World}(h:QB T e a w):
  bodyPostS P fn c₀ cs (λe c w'=>e= .returned (.tuple #[])/\c=u'/\T w') e a ({ c₀ with mode:=u' }::cs) w:=by
 have d:(results fn a.tmps).run P w= .ok (.tuple #[]) w:=by rw [SA,b];simp
 cases e <;> first|exact ⟨h.1,u',rfl,_,d,rfl,rfl,h.2⟩|exact h.elim
theorem V0{f:FuncId}{fn:Func}{id:Nat}{ops:zg}{l:zj}{y:Code}{d:Tmp}{ty:TypeId}{pos:String}{af:zh}{tys:Array TypeId}{cap:zc}{u u':FrameMode}{T:World->Prop}
  (I:P.funcs[f]? =some fn) (hb:fn.body=some (.seq (.region id ops false) y)) (c:ops.toList=⟨some d,.call ⟨.builtin .recover,#[],tys⟩,ty,pos,af,none⟩::l) (q:l.all Y7=true) (o:fn.results= #[]) (hn:fn.ntmps=n) (hl:Nat.ble cap.length n=true) (hd:Nat.blt d n=true)
  (H:(u= .returning/\u'= .returning/\v= .nilIface)\/(u= .panicking (kh v)/\u'= .panicking [{ v:=v,recovered:=true }]))
  (h:WL P none ops (Exit.then (y.wpIn (FW none) 0 P (QB T)) (QB T)) n [] l ((d,true,v)::iota 0 cap) w):OC P f cap u w λr w'=>r=u'/\T w':=by
 refine callsDIn_of_wpSIn I hb trivial λc₀ cs F=>?_;have k:Fits n (iota 0 cap) { tmps:=cap.toArray++Array.replicate (fn.ntmps-cap.toArray.size) undef,defers:=[] }:=by
  refine ⟨?_,λt g v ht=>?_⟩
  .have:cap.length<=n:=by simpa using hl
   simp [hn];omega
  .obtain ⟨j,rfl,B,rfl⟩:=Nr cap 0 t g v ht;have D:j<cap.length:=by
    rcases qE j cap.length with h|h
    .exact h
    .rw [ma h] at B;cases B
   simp only [CC,ca,mN,Array.getD_eq_getD_getElem?];rw [Array.getElem?_append_left (by simpa using D)];simp [B]
 have z:({ tmps:=cap.toArray++Array.replicate (fn.ntmps-cap.toArray.size) undef,defers:=[] }:Act).defers=[]:=rfl;generalize ({ tmps:=cap.toArray++Array.replicate (fn.ntmps-cap.toArray.size) undef,defers:=[] }:Act)=a0 at k z;refine wpSIn_seq (wpSIn_region ?_);have C:ops.size=l.length+1:=by rw [<-fi,c];rfl
 rw [C,List.range_eq_range',List.range'_succ];have K:ops[0]? =some ⟨some d,.call ⟨.builtin .recover,#[],tys⟩,ty,pos,af,none⟩:=by rw [<-so,c];rfl
 have D:∀j,l[j]? =ops[1+j]? :=λj=>by rw [<-so,c,Nat.add_comm 1 j];rfl
 have s:(execOp a0.eval (⟨some d,.call ⟨.builtin .recover,#[],tys⟩,ty,pos,af,none⟩:Oper)).run P w= .ok .recover w:=by simp [execOp,resolve,invoke,builtin]
 have x:Fits n ((d,true,v)::iota 0 cap) (a0.put (some d) v):=k.put (g:=true) (v:=v) hd;have m:=aaf (cs:={ c₀ with mode:=u' }::cs) (QS:=Exit.thenS (y.wpSIn (FW none) 0 P (bodyPostS P fn c₀ cs λe r w'=>e= .returned (.tuple #[])/\r=u'/\T w')) (bodyPostS P fn c₀ cs λe r w'=>e= .returned (.tuple #[])/\r=u'/\T w'))
  (λe a w p=>by
   cases e with
   |normal=>exact wpSIn_of_wpIn rfl (Code.wpIn_mono (λe a w p=>ari o p) p)
   |exit i=>exact False.elim p
   |goto i=>exact False.elim p
   |ret=>exact ari (P:=P) (c₀:=c₀) (cs:=cs) (u':=u') (T:=T) (e:= .ret) o p
   |panic i=>exact False.elim p
   |outgrown=>exact False.elim p) l 1 q D _ _ (h _ x z)
 simp only [wpOpsSIn,K];refine ⟨λ_ _=>trivial,?_⟩;rw [du (by simp [Region.wanted]),s];rcases H with ⟨A,G,J⟩|⟨A,G⟩
 .have b:recoverD (c₀::cs)=none:=by simp [recoverD,F,A]
  have E:({ c₀ with mode:=u' }:Frame)=c₀:=by rw [G,<-A,<-F]
  simp only [b];rw [E,J] at m;exact m
 .have b:recoverD (c₀::cs)=some (v,{ c₀ with mode:=u' }::cs):=by simp [recoverD,F,A,G,kh]
  simp only [b];exact m
end
variable {vs : zc} {w : World}
inductive Ex where
 |mk (op n at_:Int) (l:List Ex)
instance:Inhabited Ex:=⟨.mk 0 0 0 []⟩
def Ex.op:Ex->Int
 | .mk o _ _ _=>o
def Ex.n:Ex->Int
 | .mk _ n _ _=>n
def Ex.at_:Ex->Int
 | .mk _ _ a _=>a
def Ex.l:Ex->List Ex
 | .mk _ _ _ l=>l
mutual
def Ex.sz:Ex->Nat
 | .mk _ _ _ l=>xx l+1
def xx:List Ex->Nat
 |[]=>0
 |x::r=>Ex.sz x+xx r
end
theorem Ex.af1(e:Ex):e.sz=xx e.l+1:=by cases e;simp only [Ex.sz,Ex.l]
inductive yW(M:Nat->Prop)(w:World):zc->Ex->Prop
 |nil (op n a:Int) (ad:Option Addr):yW M w [.int .i64 op,.int .i64 n,.int .i64 a,sl (ad,0,0)] (.mk op n a [])
 |some (op n a:Int) (l:List Ex) (b off cap:Nat) (cs:zb) (e:TypeId) (fr:Nat×Nat) (hM:¬M b) (hb:w.heap[b]? =some (.cells cs e fr)) (hc:l.length<=cap) (ho:off+cap*4<=cs.size)
   (hl:((cs.toList.drop off).take (l.length*4)).length=l.length*4) (h:∀i (hi:i<l.length),yW M w ((((cs.toList.drop off).take (l.length*4)).drop (i*4)).take 4) l[i]):
   yW M w [.int .i64 op,.int .i64 n,.int .i64 a,sl (some ⟨b,off,none⟩,l.length,cap)] (.mk op n a l)
theorem yW.len{M:Nat->Prop}{x:Ex}(h:yW M w vs x):vs.length=4:=by cases h <;> rfl
theorem yW.mv{M M':Nat->Prop}{w':World}{x:Ex}(h:yW M w vs x)(m:Mv M w M' w'):yW M' w' vs x:=by
 induction h with
 |nil op n a k=>exact .nil op n a k
 |some op n a l b c cap cs e fr g hb f d hl _ ih=>
  obtain ⟨j,i⟩:=m.2 b (Array.getElem?_eq_some_iff.1 hb).1 g;exact .some op n a l b c cap cs e fr j (by rw [i];exact hb) f d hl ih
def K4:fp Ex where
 n:=4
 rd:=yW
 len:=yW.len
 one h:=by cases h <;> simp [Value.oneCell',sl]
 mv:=yW.mv
theorem Ka{M:Nat->Prop}{x:Ex}(h:K4.rd M w vs x):∃v:jU,vs=[(.int .i64 x.op),(.int .i64 x.n),(.int .i64 x.at_),(sl v)]/\bT K4 M w (sl v) x.l:=by
 cases h with
 |nil op n a i=>exact ⟨_,rfl,.inl ⟨⟨_,rfl⟩,rfl⟩⟩
 |some op n a l b c cap cs e fr g hb f d hl h=>exact ⟨_,rfl,.inr ⟨b,c,cap,cs,e,fr,rfl,g,hb,f,d,hl,h⟩⟩
theorem PY{M:Nat->Prop}{op n a:Int}{l:List Ex}(h:(LP K4).rd M w [v] l):K4.rd M w [(.int .i64 op),(.int .i64 n),(.int .i64 a),v] (.mk op n a l):=by
 obtain ⟨p,hp,h⟩:=h;have d:v=sl p:=by simpa using hp
 subst d;rcases h with ⟨⟨k,h⟩,rfl⟩|⟨b,c,cap,cs,e,fr,h,j,hb,i,g,hl,f⟩
 .rw [h];exact .nil op n a k
 .rw [h];exact .some op n a l b c cap cs e fr j hb i g hl f
abbrev aD{α:Type}(c:Bool)(a b:α):α:=match c with
 |true=>a
 |false=>b
inductive Ty where
 |i (k:IntKind)
 |bo
 |s
 |un
 |n
 |p (x y:Ty)
 |l (x:Ty)
 |mp (k v:Ty)
 |ex
 deriving DecidableEq
def Ty.T:Ty->Type
 | .i _=>Int
 | .bo=>Bool
 | .s=>aE
 | .un=>Unit
 | .n=>Nat
 | .p x y=>x.T×y.T
 | .l x=>List x.T
 | .mp k v=>Option (List (k.T×v.T))
 | .ex=>Ex
def RNo(α:Type):fp α where
 n:=0
 rd _ _ _ _:=False
 len h:=h.elim
 one h:=h.elim
 mv h _:=h.elim
def RIf:fp Nat where
 n:=1
 rd _ _ vs x:=vs=[.iface x (.agg #[])]
 len h:=by rw [h];rfl
 one h:=by rw [h];simp [Value.oneCell']
 mv h _:=h
def Ty.rep:(t:Ty)->fp t.T
 | .i k=>RI k
 | .bo=>RB
 | .s=>RS
 | .un=>RU
 | .n=>RIf
 | .p x y=>RP x.rep y.rep
 | .l x=>LP x.rep
 | .mp _ _=>RNo _
 | .ex=>K4
structure cr where
 t:Ty
 x:t.T
def cr.as(t:Ty)(d:cr):Option t.T:=if h:d.t=t then some (h▸d.x) else none
theorem cr.Pp{t:Ty}{d:cr}{x:t.T}(h:d.as t=some x):d=⟨t,x⟩:=by
 unfold cr.as at h;split at h
 .obtain ⟨t',y⟩:=d;grind
 .cases h
theorem cr.apG{t:Ty}{x:t.T}:cr.as t ⟨t,x⟩=some x:=by simp [cr.as]
inductive AV where
 |int (k:IntKind) (x:Int)
 |bool (x:Bool)
 |str (x:aE)
 |agg (l:List AV)
 |tuple (l:List AV)
 |ptr (id off:Nat)
 |sl (id:Nat)
 |adr (id off:Nat)
 |fn (f:FuncId) (a b:List AV)
 |ifc (t:TypeId) (v:AV)
 |mp (id:Nat)
 |gp (b:Nat)
 |nv (id:Nat)
 |sfp (id:Nat) (f:Bool)
 |raw (v:Value)
structure Nm where
 b:Nat
 v:jU
 a:Addr
 m:ze
 x:Value
 y:cr
abbrev ay:=Nat->Nm
def dA:Nm:=⟨0,(none,0,0),⟨0,0,none⟩,none,.bool false,⟨.un,()⟩⟩
mutual
def AV.val(ρ:ay):AV->Value
 | .int k x=> .int k x
 | .bool x=> .bool x
 | .str x=>S x
 | .agg l=> .agg (AV.al ρ l).toArray
 | .tuple l=> .tuple (AV.al ρ l).toArray
 | .ptr id off=> .pointer (some ⟨(ρ id).b,off,none⟩)
 | .sl id=>Go.Proofs.YtcgihjbfppkcfaaGreatDoor.sl (ρ id).v
 | .adr id off=> .pointer (some ((ρ id).a.add off))
 | .fn f a b=> .func (.func f) (AV.al ρ a).toArray (AV.al ρ b).toArray
 | .ifc t v=> .iface t (v.val ρ)
 | .mp id=> .map (ρ id).m
 | .gp b=> .pointer (some ⟨b,0,none⟩)
 | .nv id=>(ρ id).x
 | .sfp id f=>DI f (ρ id).b
 | .raw v=>v
def AV.al(ρ:ay):List AV->zc
 |[]=>[]
 |v::l=>v.val ρ::AV.al ρ l
end
mutual
def AV.low(c:Nat):AV->Bool
 | .agg l|.tuple l=>AV.cq c l
 | .fn _ a b=>AV.cq c a&&AV.cq c b
 | .ifc _ v=>v.low c
 | .ptr id _|.sl id|.adr id _|.mp id|.nv id|.sfp id _=>Nat.blt id c
 |_=>true
def AV.cq(c:Nat):List AV->Bool
 |[]=>true
 |v::l=>v.low c&&AV.cq c l
end
def aS(c:Nat)(ρ ρ':ay):Prop:= ∀j,j<c->ρ' j=ρ j
theorem aS.refl{c:Nat}{ρ:ay}:aS c ρ ρ:=λ_ _=>rfl
theorem aS.trans{c d:Nat}{a b e:ay}(h:aS c a b)(k:aS d b e)(f:c<=d):aS c a e:=λj g=>(k j (gr g f)).trans (h j g)
theorem aS.less{c d:Nat}{a b:ay}(h:aS d a b)(e:c<=d):aS c a b:=λj f=>h j (gr f e)
mutual
theorem AV.oB{ρ ρ':ay}{c:Nat}(ha:aS c ρ ρ'):(v:AV)->v.low c=true->v.val ρ'=v.val ρ
 | .int _ _,_|.bool _,_|.str _,_|.raw _,_|.gp _,_=>by simp [AV.val]
 | .agg l,h=>by simp [AV.val];rw [AV.cd ha l (by grind [AV.low])]
 | .tuple l,h=>by simp [AV.val];rw [AV.cd ha l (by grind [AV.low])]
 | .fn _ a b,h=>by
  simp [AV.low,au] at h;simp only [AV.val];rw [AV.cd ha a h.1,AV.cd ha b h.2]
 | .ifc _ v,h=>by simp [AV.val];rw [AV.oB ha v (by grind [AV.low])]
 | .ptr _ _,h=>by simp [AV.val];rw [ha _ (by grind [AV.low,Nat.blt_eq])]
 | .sl _,h=>by simp [AV.val];rw [ha _ (by grind [AV.low,Nat.blt_eq])]
 | .adr _ _,h=>by simp [AV.val];rw [ha _ (by grind [AV.low,Nat.blt_eq])]
 | .mp _,h=>by simp [AV.val];rw [ha _ (by grind [AV.low,Nat.blt_eq])]
 | .nv _,h=>by simp [AV.val];rw [ha _ (by grind [AV.low,Nat.blt_eq])]
 | .sfp _ _,h=>by simp [AV.val];rw [ha _ (by grind [AV.low,Nat.blt_eq])]
theorem AV.cd{ρ ρ':ay}{c:Nat}(ha:aS c ρ ρ'):(l:List AV)->AV.cq c l=true->AV.al ρ' l=AV.al ρ l
 |[],_=>by simp [AV.al]
 |v::l,h=>by simp [AV.cq,au] at h;simp only [AV.al];rw [AV.oB ha v h.1,AV.cd ha l h.2]
end
mutual
theorem AV.gZ{c d:Nat}(e:c<=d):(v:AV)->v.low c=true->v.low d=true
 | .int _ _,_|.bool _,_|.str _,_|.raw _,_|.gp _,_=>by simp [AV.low]
 | .agg l,h=>by exact AV.mL e l h
 | .tuple l,h=>by exact AV.mL e l h
 | .fn _ a b,h=>by simp [AV.low,au] at h ⊢; exact ⟨AV.mL e a h.1,AV.mL e b h.2⟩
 | .ifc _ v,h=>by exact AV.gZ e v h
 | .ptr _ _,h=>by grind [AV.low,Nat.blt_eq]
 | .sl _,h=>by grind [AV.low,Nat.blt_eq]
 | .adr _ _,h=>by grind [AV.low,Nat.blt_eq]
 | .mp _,h=>by grind [AV.low,Nat.blt_eq]
 | .nv _,h=>by grind [AV.low,Nat.blt_eq]
 | .sfp _ _,h=>by grind [AV.low,Nat.blt_eq]
theorem AV.mL{c d:Nat}(a:c<=d):(l:List AV)->AV.cq c l=true->AV.cq d l=true
 |[],_=>by simp [AV.cq]
 |v::l,h=>by simp [AV.cq,au] at h ⊢;exact ⟨AV.gZ a v h.1,AV.mL a l h.2⟩
end
theorem Qn{c:Nat}:{l m:List AV}->AV.cq c l=true->AV.cq c m=true->AV.cq c (l++m)=true
 |[],m,_,h=>h
 |v::l,m,h,k=>by simp [qb,AV.cq,au] at h ⊢;exact ⟨h.1,Qn h.2 k⟩
theorem AV.ab2{ρ:ay}{l:List AV}{i:Nat}{v:AV}(h:l[i]? =some v):(AV.al ρ l)[i]? =some (v.val ρ):=by
 induction l generalizing i with
 |nil=>simp at h
 |cons u l ih=>
  grind [AV.al,List.getElem?_cons_succ]
theorem AV.jV{ρ:ay}:{l:List AV}->{k:Nat}->AV.al ρ (l.drop k)=(AV.al ρ l).drop k
 |l,0=>by simp
 |[],k+1=>by simp [AV.al]
 |v::l,k+1=>by simp;exact AV.jV
theorem AV.mK{ρ:ay}:{l:List AV}->{k:Nat}->AV.al ρ (l.take k)=(AV.al ρ l).take k
 |l,0=>by simp [AV.al]
 |[],k+1=>by simp [AV.al]
 |v::l,k+1=>by simp [AV.al,q5];rw [AV.mK]
theorem AV.bF{ρ:ay}:{l:List AV}->(AV.al ρ l).length=l.length
 |[]=>by simp [AV.al]
 |v::l=>by simp [AV.al,AV.bF]
theorem dw{ρ:ay}:{l m:List AV}->AV.al ρ (l++m)=AV.al ρ l++AV.al ρ m
 |[],m=>by simp [AV.al]
 |v::l,m=>by simp [qb,AV.al];rw [dw]
abbrev GK:=Option (Nat×Bool)
inductive Row where
 |box (id:Nat) (t:TypeId) (vs:List AV)
 |sli (g:GK) (id:Nat) (t:Ty) (l:List t.T) (clip:Bool)
 |own (id:Nat) (t:Ty) (e:TypeId) (l:List t.T) (ver:Nat)
 |kn (g:GK) (q id ver:Nat) (t:Ty) (i:Int) (x:t.T)
 |elm (g:GK) (id:Nat) (vs:List AV)
 |mp (id:Nat) (k v:Ty) (d:Option (List (k.T×v.T)))
 |it (id:Nat) (s:aE) (p:Nat)
 |eq (id:Nat) (v:AV)
 |gone
inductive Pt where
 |int (k:IntKind)|bool|str
 |sli (t:Ty)
 |own (t:Ty) (e:TypeId) (m:Bool)
 |slr (n:Nat)
 |bx (t:TypeId) (off:Nat) (m:Bool) (vs:List Pt)
 |ptr (n off:Nat)
 |mp (k v:Ty) (m:Bool)
 |it
 |agg (l:List Pt)|cU (l:List Pt)
 |fn (f:FuncId) (a b:List Pt)
 |ifc (t:TypeId) (p:Pt)
 |nU (v:AV)
 |dat (t:Ty) (o:wi)
 |ifn
 |sfp
 |same
abbrev aF:=List (Nat×GK×AV)
structure Tm where
 vs:List (Bool×Nat×Pt)
 th:zm
inductive HT where
 |o
 |c (a b:HT)
 |l (t:Tm) (a:HT)
 |j (t:Tm) (a b:HT)
 |s (a:HT)
 |n (k:Nat) (a:HT)
 |r (th:zm) (a:HT)
structure aC where
 c:Nat
 E:aF
 G:List Row
 h:HT
structure Fr where
 F:aF
 H:List Row
 n:Nat
inductive XE where
 |nrm|ret
 |ext (i:Nat)
 |gto (l:Nat)
 |kh (v:AV)
 |panE (v:AV)
 |panL (v:AV)
def Xb:Bool->Bool->Bool
 |true,b=>b
 |false,b=> !b
theorem aeN:{a b:Bool}->Xb a b=true->a=b
 |true,_,h=>h.symm
 |false,b,h=>by grind [Xb]
theorem ait:(a:Bool)->Xb a a=true
 |true=>rfl
 |false=>rfl
def GK.eq:GK->GK->Bool
 |none,none=>true
 |some (j,p),some (k,q)=>Nat.beq j k&&Xb p q
 |_,_=>false
theorem GK.eq_eq:{a b:GK}->a.eq b=true->a=b
 |none,none,_=>rfl
 |some (j,p),some (k,q),h=>by simp only [GK.eq,au] at h;rw [b0 h.1,aeN h.2]
abbrev aB:=List ((Nat×Bool)×GK×Nat×Bool)
def AS(p b:Bool):Bool:=match p with
 |true=>b
 |false=> !b
theorem Pm(p b:Bool):AS p b=(b==p):=by cases p <;> cases b <;> rfl
def aB.get:aB->GK->Bool
 |_,none=>true
 |[],some _=>false
 |(k,par,_,b)::T,some k'=>aD ( GK.eq (some k) (some k') ) ( (aB.get T par&&AS k.2 b) )<|aB.get T (some k')
@[simp] theorem aB.get_none {T : aB} : T.get none = true := by cases T <;> rfl
theorem aB.Rd{k:Nat×Bool}{par:GK}{rj:Nat}{b:Bool}{T:aB}{x:GK}(h:(!(GK.eq (some k) x))=true):aB.get ((k,par,rj,b)::T) x=T.get x:=by
 cases x with
 |none=>simp
 |some a=>
  grind [aB.get,GK.eq]
theorem GK.adO:(k:Nat×Bool)->GK.eq (some k) (some k)=true:=λk=>by simp [GK.eq,ait]
theorem aB.amI{k:Nat×Bool}{par:GK}{rj:Nat}{b:Bool}{T:aB}:aB.get ((k,par,rj,b)::T) (some k)=(T.get par&&AS k.2 b):=by simp [aB.get,GK.adO]
def BO(p:jU):zm:=match p.2.2 with
 |0=>[]
 |_+1=>dW (sl p)
section
variable {α : Type} {A : fp α} {e : TypeId} {M M' : Nat -> Prop} {w w' : World}
theorem cj.canon{p:jU}{xs:List α}{R:zm}(h:cj A e M w (sl p) xs R):(∀b∈BO p,b∈R)/\∀(M':Nat->Prop) (w':World),cj A e M' w' (sl p) xs R->cj A e M' w' (sl p) xs (BO p):=by
 obtain ⟨a,n,cap⟩:=p;cases cap with
 |zero=>
  refine ⟨λb hb=>(by cases hb),λM' w' d=>?_⟩;have hx:xs=[]:=by
   rcases d with ⟨_,d⟩|⟨_,d,_⟩
   .obtain ⟨cells,⟨_,j⟩,_⟩:=d;rcases j with ⟨_,q⟩|⟨g,c,cur,f,m,l,o,r⟩
    .grind
    .simp [sl] at f;grind
   .exact d
  obtain ⟨k,s,hl⟩:=d.len;simp [sl,Value.slice.injEq] at hl;have hn:n=0:=by rw [hl.2.1,hx];rfl
  subst hn;exact .inr ⟨rfl,hx,⟨a,rfl⟩,bT.emp⟩
 |succ c=>
  have key:∀(M':Nat->Prop) (w':World),cj A e M' w' (sl (a,n,c+1)) xs R->R=dW (sl (a,n,c+1)):=λM' w' d=>by
   rcases d with ⟨d,_⟩|⟨_,_,⟨k,d⟩,_⟩
   .exact d
   .simp only [sl,Value.slice.injEq] at d;omega
  have i:=key _ _ h;subst i;exact ⟨λb hb=>hb,λM' w' d=>d⟩
theorem cj.M9{p:jU}{xs:List α}{R:zm}(h:cj A e M w (sl p) xs R):cj A e M w (sl p) xs (BO p):=h.canon.2 _ _ h
def uf(A:fp α)(e:TypeId)(p:jU)(l:List α)(q:Prop):Item where
 own:=BO p
 P M w:=cj A e M w (sl p) l (BO p)/\q
 lt h:=h.1.lt
 da h m k _:=⟨h.1.da k m,h.2⟩
 cO:=false
 hp h:=by cases h
def Od(g:Bool)(A:fp α)(p:jU)(l:List α)(clip:Bool):Item where
 own:=[]
 P M w:=g=true->bT A M w (sl p) l/\(clip=true->p.2.2=l.length)
 lt _ b hb:=by cases hb
 da h m _ _:=λhg=>⟨(h hg).1.mv m,(h hg).2⟩
 cO:=true
 hp _:=rfl
def Zi(p:Prop):Item where
 own:=[]
 P _ _:=p
 lt _ b hb:=by cases hb
 da h _ _ _:=h
 cO:=true
 hp _:=rfl
end
def HZ:(t:Ty)->t.T->Value
 | .i k,x=> .int k x
 | .s,x=>S x
 | .bo,x=> .bool x
 |_,_=> .bool false
def Row.item(ρ:ay)(T:aB):Row->Item
 | .box id t vs=>Go.Proofs.YtcgihjbfppkcfaaGreatDoor.box (ρ id).b t (AV.al ρ vs)
 | .sli g id t l b=>Od (T.get g) t.rep (ρ id).v l b
 | .own id t e l ver=>uf t.rep e (ρ id).v l ((ρ ver).y=⟨.l t,l⟩)
 | .kn g q id ver t i x=>Zi (T.get g=true->∃l:List t.T,(ρ ver).y=⟨.l t,l⟩/\idx l i=some x/\(ρ q).a=vq (Go.Proofs.YtcgihjbfppkcfaaGreatDoor.sl (ρ id).v) i t.rep.n)
 | .elm g id vs=>elem (T.get g) (ρ id).a (AV.al ρ vs)
 | .mp id k v d=>omap (HZ k) (HZ v) (.map (ρ id).m) d
 | .it id s p=>iter (ρ id).b s p
 | .eq id v=>Zi ((ρ id).x=v.val ρ)
 | .gone=>Zi True
abbrev ab(ρ:ay)(T:aB)(G:List Row):Ctx:=G.map (Row.item ρ T)
def Row.low(c:Nat):Row->Bool
 | .box id _ vs=>Nat.blt id c&&AV.cq c vs
 | .sli _ id _ _ _|.mp id _ _ _|.it id _ _=>Nat.blt id c
 | .own id _ _ _ ver=>Nat.blt id c&&Nat.blt ver c
 | .kn _ q id ver _ _ _=>Nat.blt q c&&Nat.blt id c&&Nat.blt ver c
 | .elm _ id vs=>Nat.blt id c&&AV.cq c vs
 | .eq id v=>Nat.blt id c&&v.low c
 | .gone=>true
def bD(c:Nat):List Row->Bool
 |[]=>true
 |r::G=>r.low c&&bD c G
theorem Row.Dr{ρ ρ':ay}{T:aB}{c:Nat}(ha:aS c ρ ρ'){r:Row}(h:r.low c=true):r.item ρ' T=r.item ρ T:=by
 cases r <;> simp [Row.low,au,j5] at h
 .simp [Row.item];rw [ha _ h.1,AV.cd ha _ h.2]
 .simp [Row.item];rw [ha _ h]
 .simp [Row.item];rw [ha _ h.1,ha _ h.2]
 .simp [Row.item];rw [ha _ h.1.1,ha _ h.1.2,ha _ h.2]
 .simp [Row.item];rw [ha _ h.1,AV.cd ha _ h.2]
 .simp [Row.item];rw [ha _ h]
 .simp [Row.item];rw [ha _ h]
 .simp [Row.item];rw [ha _ h.1,AV.oB ha _ h.2]
 .simp [Row.item]
theorem ba{ρ ρ':ay}{T:aB}{c:Nat}(ha:aS c ρ ρ'):{G:List Row}->bD c G=true->ab ρ' T G=ab ρ T G
 |[],_=>rfl
 |r::G,h=>by simp [bD,au] at h;simp only [e9];rw [Row.Dr ha h.1];have:=ba (T:=T) ha h.2;grind
def aF.env(ρ:ay)(T:aB):aF->Env
 |[]=>[]
 |(t,g,v)::E=>(t,T.get g,v.val ρ)::aF.env ρ T E
def aF.low(c:Nat):aF->Bool
 |[]=>true
 |x::E=>x.2.2.low c&&aF.low c E
theorem uk{ρ ρ':ay}{T:aB}{c:Nat}(ha:aS c ρ ρ'):{E:aF}->E.low c=true->aF.env ρ' T E=aF.env ρ T E
 |[],_=>rfl
 |(t,g,v)::E,h=>by simp [aF.low,au] at h;simp only [aF.env];rw [AV.oB ha v h.1,uk ha h.2]
def aC.low(fr:Fr)(st:aC):Bool:=aF.low st.c st.E&&aF.low st.c fr.F&&bD st.c st.G&&bD st.c fr.H
def ay.set(ρ:ay)(j:Nat)(x:Nm):ay:=λi=>aD (Nat.beq i j) x (ρ i)
theorem ay.bJ{ρ:ay}{j:Nat}{x:Nm}:ρ.set j x j=x:=by simp [ay.set]
theorem ay.aX{ρ:ay}{j:Nat}{x:Nm}:aS j ρ (ρ.set j x):=λi hi=>by grind [ay.set,Nat.beq,absurd,Nat.eq_of_beq_eq_true,Nat.ne_of_lt]
def lM(E' E:Env):Prop:= ∀t p,look E' t=some p->look E t=some p
theorem lM.refl{E:Env}:lM E E:=λ_ _ h=>h
theorem lM.trans{A B C:Env}(h:lM A B)(k:lM B C):lM A C:=λt p hp=>k t p (h t p hp)
theorem Fits.rz{n:Nat}{E E':Env}{a:Act}(h:Fits n E a)(b:lM E' E):Fits n E' a:=⟨h.size,λt g v ht=>h.at_ t g v (b t _ ht)⟩
theorem WC.rz{P:Program}{ρ:ze}{c:Code}{Q:bh}{n:Nat}{D:x3}{E:Env}{w:World}(E':Env)(b:lM E' E)(h:WC P ρ c Q n D E' w):WC P ρ c Q n D E w:=
 λa d hd=>h a (d.rz b) hd
theorem At.rz{e:Exit}{Q:bh}{n:Nat}{D:x3}{E:Env}{w:World}(E':Env)(b:lM E' E)(h:At Q e n D E' w):At Q e n D E w:=
 λa c hd=>h a (c.rz b) hd
theorem HL{A B:Env}{t:Nat}:look (A++B) t=match look A t with
  |some p=>some p
  |none=>look B t:=by
 induction A with
 |nil=>rfl
 |cons x A ih=>
  simp [qb,look];grind
theorem su{ρ:ay}{T:aB}:{E F:aF}->aF.env ρ T (E++F)=aF.env ρ T E++aF.env ρ T F
 |[],_=>rfl
 |(t,g,v)::E,F=>by simp [qb,aF.env];rw [su]
theorem bg{ρ:ay}{T:aB}{G H:List Row}:ab ρ T (G++H)=ab ρ T G++ab ρ T H:=rJ
variable {Φ : Ctx} {ρ : ay}
theorem aI{α:Type}{c:Bool}{a:Option α}{r:α}(h:aD c a none=some r):c=true/\a=some r:=by grind
theorem OG{α:Type}{c:Bool}{a:Option α}{r:α}(h:aD c none a=some r):c=false/\a=some r:=by grind
theorem eo{α:Type}{c:Bool}{a b:Option α}{r:α}(h:aD c a b=some r):(c=true/\a=some r)\/(c=false/\b=some r):=by grind
def aB.imp:aB->GK->GK->Bool
 |_,_,none=>true
 |[],_,some _=>false
 |_,none,some _=>false
 |(k,par,_,_)::T,some g,some g'=>GK.eq (some g) (some g')||(aD ( GK.eq (some k) (some g) ) ( aB.imp T par (some g') )<|aB.imp T (some g) (some g'))&& !(GK.eq (some k) (some g'))
theorem aB.np:{T:aB}->{g a:GK}->T.imp g a=true->T.get g=true->T.get a=true
 |T,g,none,_,_=>by simp
 |[],g,some a,h,_=>by simp [aB.imp] at h
 |_::_,none,some a,h,_=>by simp [aB.imp] at h
 |(k,par,rj,b)::T,some g,some a,h,hg=>by
  simp only [aB.imp,eZ,au] at h;rcases h with h|⟨c,d⟩
  .grind [GK.eq_eq]
  .rw [aB.Rd d];cases hb:GK.eq (some k) (some g)
   .rw [hb] at c;rw [aB.Rd (by rw [hb];rfl)] at hg;exact aB.np c hg
   .rw [hb] at c;simp [aB.get,hb,au] at hg;exact aB.np c hg.1
def bC:aF->Nat->Option (GK×AV)
 |[],_=>none
 |(r,g,v)::E,t=>aD ( Nat.beq r t ) ( some (g,v) )<|bC E t
def ez(E F:aF)(t:Nat):Option (GK×AV):=match bC E t with
 |some x=>some x
 |none=>bC F t
theorem A5{ρ:ay}{T:aB}{t:Nat}:{E:aF}->look (aF.env ρ T E) t=(bC E t).map λx=>(T.get x.1,x.2.val ρ)
 |[]=>rfl
 |(r,g',v')::E=>by
  simp [bC,aF.env,look];cases hb:Nat.beq r t
  .exact A5
  .rfl
abbrev az(ρ:ay)(T:aB)(E F:aF):Env:=aF.env ρ T E++aF.env ρ T F
theorem iW{T:aB}{t:Nat}{E F:aF}:look (az ρ T E F) t=(ez E F t).map λx=>(T.get x.1,x.2.val ρ):=by grind [HL,A5,ez,bC]
def nU:Value->AV
 | .int k x=> .int k x
 | .bool x=> .bool x
 | .string b=> .str b.data.toList
 |v=> .raw v
theorem ae8:(nU v).val ρ=v:=by cases v <;> simp [nU,AV.val,S]
theorem sf{ρ:ay}:{l:zc}->AV.al ρ (l.map nU)=l
 |[]=>by simp [AV.al]
 |v::l=>by simp only [e9,AV.al];rw [ae8,sf]
theorem aqu{c:Nat}:(nU v).low c=true:=by cases v <;> simp [nU,AV.low]
theorem ZV{c:Nat}:{l:zc}->AV.cq c (l.map nU)=true
 |[]=>by simp [AV.cq]
 |v::l=>by simp only [e9,AV.cq];rw [aqu,ZV];rfl
def bw(T:aB)(E F:aF)(g:GK):Operand->Option AV
 | .tmp t=>match ez E F t with
  |some x=>aD ( T.imp g x.1 ) ( some x.2 )<|none
  |none=>none
 | .const v=>some (nU v)
 | .func f=>some (.fn f [] [])
 | .global f=>some (.gp f)
theorem aP{T:aB}{E F:aF}{g:GK}{v:AV}(h:bw T E F g x=some v):ar (az ρ T E F) (T.get g) x (v.val ρ):=by
 cases x with
 |tmp t=>
  unfold bw at h;dsimp only at h;cases hl:ez E F t with
  |none=>rw [hl] at h;cases h
  |some x=>
   rw [hl] at h;obtain ⟨b,a⟩:=aI h;cases a;exact ar.g (by rw [iW,hl];rfl) (aB.np b)
 |const u=>cases h;rw [ae8];exact ar.c
 |func f=>cases h;grind [AV.val,AV.al,ar.f]
 |global f=>cases h;grind [AV.val,ar.gl]
theorem bK{T:aB}{E F:aF}{v:AV}(h:bw T E F none x=some v):ar (az ρ T E F) true x (v.val ρ):=by have:=aP (ρ:=ρ) h;simp_all
def vG(T:aB)(E F:aF)(g:GK):y2->Option (List AV)
 |[]=>some []
 |x::l=>match bw T E F g x with
  |some v=>match vG T E F g l with
   |some vs=>some (v::vs)
   |none=>none
  |none=>none
theorem jX{ρ:ay}{T:aB}{E F:aF}{g:GK}:{xs:y2}->{vs:List AV}->vG T E F g xs=some vs->kr (az ρ T E F) (T.get g) xs (AV.al ρ vs)
 |[],vs,h=>by cases h;exact .nil
 |x::l,vs,h=>by
  unfold vG at h;split at h
  .rename_i v b;split at h
   next us a=>cases h;exact .cons (aP b) (jX a)
   .cases h
  .cases h
def tE(p:Row->Bool):List Row->Option (Nat×Row)
 |[]=>none
 |r::G=>aD ( p r ) ( some (0,r) )<|match tE p G with
  |some x=>some (x.1+1,x.2)
  |none=>none
theorem pI{p:Row->Bool}:{G:List Row}->{i:Nat}->{r:Row}->tE p G=some (i,r)->G[i]? =some r/\p r=true
 |[],_,_,h=>by cases h
 |r0::G,i,r,h=>by
  rcases eo h with ⟨b,a⟩|⟨b,a⟩
  .grind
  .split at a
   next x hx=>obtain ⟨d,c⟩:=pI hx;grind
   .cases a
def rn(id:Nat):Row->Bool
 | .sli _ j _ _ _|.own j _ _ _ _=>Nat.beq j id
 |_=>false
def Bv(id:Nat):Row->Bool
 | .box j _ _=>Nat.beq j id
 |_=>false
def ag5(id:Nat):Row->Bool
 | .mp j _ _ _=>Nat.beq j id
 |_=>false
def aqJ(id:Nat):Row->Bool
 | .it j _ _=>Nat.beq j id
 |_=>false
def isEq(id:Nat):Row->Bool
 | .eq j _=>Nat.beq j id
 |_=>false
def Rm(q:Nat):Row->Bool
 | .kn _ j _ _ _ _ _=>Nat.beq j q
 |_=>false
def asS(id:Nat):Row->Bool
 | .elm _ j _=>Nat.beq j id
 |_=>false
def Row.id:Row->Nat
 | .box j _ _|.sli _ j _ _ _|.own j _ _ _ _|.mp j _ _ _|.it j _ _|.eq j _|.elm _ j _|.kn _ j _ _ _ _ _=>j
 | .gone=>0
def Row.cO:Row->Bool
 | .sli ..|.elm ..|.eq ..|.kn ..|.gone=>true
 |_=>false
theorem Row.ajz{T:aB}{r:Row}(h:r.cO=true):(r.item ρ T).cO=true:=by cases r <;> first|rfl|cases h
theorem iR{T:aB}{G:List Row}{i:Nat}{r:Row}(h:G[i]? =some r):(ab ρ T G++Φ)[i]? =some (r.item ρ T):=by grind
theorem XN{T:aB}{G H:List Row}{i:Nat}{r:Row}(h:H[i]? =some r):(ab ρ T G++(ab ρ T H++Φ))[G.length+i]? =some (r.item ρ T):=by grind
inductive Src where
 |top (i:Nat)
 |cB (i:Nat)
 |nilI (t:Ty)
 |nilO (t:Ty) (e:TypeId)
 |nilM (k v:Ty)
def eM(G H:List Row)(p:Row->Bool):Option (Src×Row):=match tE p G with
 |some x=>some (.top x.1,x.2)
 |none=>match tE p H with
  |some x=>some (.cB x.1,x.2)
  |none=>none
def Src.at_(G H:List Row):Src->Row->Prop
 | .top i,r=>G[i]? =some r
 | .cB i,r=>H[i]? =some r
 |_,_=>False
theorem bZ{p:Row->Bool}{G H:List Row}{s:Src}{r:Row}(h:eM G H p=some (s,r)):s.at_ G H r/\p r=true:=by
 unfold eM at h;split at h
 next x hx=>cases h;exact pI hx
 .split at h
  next x hx=>cases h;exact pI hx
  .cases h
theorem Src.item{T:aB}{G H:List Row}{s:Src}{r:Row}(h:s.at_ G H r):∃i:Nat,(ab ρ T G++(ab ρ T H++Φ))[i]? =some (r.item ρ T):=by
 cases s with
 |top i=>exact ⟨i,iR h⟩
 |cB i=>exact ⟨G.length+i,XN h⟩
 |nilI=>exact h.elim
 |nilO=>exact h.elim
 |nilM=>exact h.elim
theorem Src.holds{T:aB}{G H:List Row}{s:Src}{r:Row}(a:Sat (ab ρ T G++(ab ρ T H++Φ)) w)(h:s.at_ G H r):(r.item ρ T).P (Ctx.M (ab ρ T G++(ab ρ T H++Φ))) w:=by obtain ⟨i,hi⟩:=Src.item h;exact a.at_ hi
def wQ(n:Nat):zm->Bool
 |[]=>false
 |m::l=>Nat.beq n m||wQ n l
theorem aa8{n:Nat}:{l:zm}->(wQ n l=true↔n∈l)
 |[]=>by simp [wQ]
 |m::l=>by simp only [wQ,eZ,qe];rw [aa8,Nat.beq_eq]
variable {cv : za × AV}
structure XC where
 f:FuncId
 run:{R:Type}->List AV->List Row->aC->(AV->aC->Option R)->Option R
def XC.Ok(P:Program)(i:XC):Prop:=Enters P i.f/\∀{R:Type} (r:R) (args:List AV) (H:List Row) (st:aC) (K:AV->aC->Option R) (ρ:ay) (Φ:Ctx) (w:World),Sat (ab ρ [] st.G++(ab ρ [] H++Φ)) w->
 i.run args H st K=some r->jJ P i.f (AV.al ρ args) w λv w'=>∃(ρ':ay) (st':aC) (av:AV),K av st'=some r/\aS st.c ρ ρ'/\st.c<=st'.c/\av.val ρ'=v/\Sat (ab ρ' [] st'.G++(ab ρ' [] H++Φ)) w'
structure Cx where
 P:Program
 tys:List (TypeId×Ty)
 gls:List (Nat×Nat×cr)
 ids:List FuncId
 idsOk:∀f,f∈ids->alc P f
 fl:Nat
 ks:List TypeId
 inl:List XC
 inlOk:∀i,i∈inl->i.Ok P
 oc:List (Nat×Nat):=[]
def Dk{α:Type}:List (Nat×α)->Nat->Option α
 |[],_=>none
 |x::l,n=>aD ( Nat.beq x.1 n ) ( some x.2 )<|Dk l n
def JX{ρ:Type}(c:za)(g:za)(k:Option ρ):Option ρ:=match c with
 |none=>k
 |some c=>match g with
  |none=>aN c k
  |some g=>JR g c k
theorem tR{ρ:Type}{T:aB}{c:za}{g:GK}{k:Option ρ}{r:ρ}(h:JX c (g.map λ_=>T.get g) k=some r):(∀b,c=some b->T.get g=true->b=true)/\k=some r:=by
 unfold JX at h;split at h
 .grind
 .split at h
  .grind [jz]
  .rename_i e a;cases g with
   |none=>cases a
   |some d=>
    grind [Option.some.injEq,aks]
abbrev CV:=Option (za×AV)
def pv(v:AV):CV:=some (none,v)
def j3(a b:IntKind):Bool:=decide (a=b)
theorem om{a b:IntKind}(h:j3 a b=true):a=b:=by simpa [j3] using h
def agR(k k':IntKind)(m l:Int):BinOp->CV
 | .add=>aD ( j3 k k' ) ( pv (.int k (k.wrap (m+l))) ) none
 | .sub=>aD ( j3 k k' ) ( pv (.int k (k.wrap (m-l))) ) none
 | .mul=>aD ( j3 k k' ) ( pv (.int k (k.wrap (m*l))) ) none
 | .quo=>aD ( j3 k k' ) ( some (some (l != 0),.int k (k.wrap (m.tdiv l))) ) none
 | .rem=>aD ( j3 k k' ) ( some (some (l != 0),.int k (m.tmod l)) ) none
 | .eql=>aD ( j3 k k' ) ( pv (.bool (m==l)) ) none
 | .neq=>aD ( j3 k k' ) ( pv (.bool (m != l)) ) none
 | .lss=>aD ( j3 k k' ) ( pv (.bool (decide (m<l))) ) none
 | .leq=>aD ( j3 k k' ) ( pv (.bool (decide (m<=l))) ) none
 | .gtr=>aD ( j3 k k' ) ( pv (.bool (decide (l<m))) ) none
 | .geq=>aD ( j3 k k' ) ( pv (.bool (decide (l<=m))) ) none
 | .shr=>some (some (decide (0<=l)),.int k (iO k m l))
 | .shl=>some (some (decide (0<=l)),.int k (lN k m l))
 | .and=>aD ( j3 k k' ) ( pv (.int k (rB k m l)) ) none
 | .or=>aD ( j3 k k' ) ( pv (.int k (vu k m l)) ) none
 | .xor=>aD ( j3 k k' ) ( pv (.int k (Ez k m l)) ) none
 | .andNot=>aD ( j3 k k' ) ( pv (.int k (afe k m l)) ) none
def agj(m l:aE):BinOp->CV
 | .eql=>pv (.bool (m==l))
 | .neq=>pv (.bool (m != l))
 | .add=>some (some (arU m l),.str (m++l))
 | .lss=>pv (.bool (LQ m l))
 | .leq=>pv (.bool (LQ m l||m==l))
 | .gtr=>pv (.bool (!(LQ m l||m==l)))
 | .geq=>pv (.bool (!(LQ m l)))
 |_=>none
def ajo(m l:Bool):BinOp->CV
 | .eql=>pv (.bool (m==l))
 | .neq=>pv (.bool (m != l))
 |_=>none
def tyK(P:Program)(t:TypeId):Option IntKind:=match P.underlying t with
 |some (.int k)=>some k
 |_=>none
theorem UJ{P:Program}{t:TypeId}{k:IntKind}(h:tyK P t=some k):P.underlying t=some (.int k):=by grind [tyK]
def isStr(P:Program)(t:TypeId):Bool:=match P.underlying t with
 |some .string=>true
 |_=>false
theorem tZ{P:Program}{t:TypeId}(h:isStr P t=true):P.underlying t=some .string:=by grind [isStr]
def isBool(P:Program)(t:TypeId):Bool:=match P.underlying t with
 |some .bool=>true
 |_=>false
theorem XK{P:Program}{t:TypeId}(h:isBool P t=true):P.underlying t=some .bool:=by grind [isBool]
def ana(P:Program)(t:TypeId):Bool:=match P.underlying t with
 |some _=>true
 |none=>false
theorem arS{P:Program}{t:TypeId}(h:ana P t=true):∃d,P.underlying t=some d:=by grind [ana]
def ag1(P:Program)(t:TypeId)(op:BinOp):AV->AV->CV
 | .int k m,.int k' l=>agR k k' m l op
 | .str m,.str l=>agj m l op
 | .bool m,.bool l=>aD ( isBool P t ) ( ajo m l op ) none
 |_,_=>none
def alp:UnOp->AV->CV
 | .not,.bool b=>pv (.bool (!b))
 | .neg,.int k m=>pv (.int k (k.wrap (0-m)))
 |_,_=>none
def aox:AV->Bool
 | .ptr _ _|.adr _ _|.fn _ _ _=>true
 |_=>false
def rm(P:Program)(Ev:Env)(ρ:ay)(g:Bool)(o:Oper)(w:World)(cv:za×AV):Prop:=
 (∀b,cv.1=some b->g=true->b=true)->bc P Ev g o w (cv.2.val ρ)
section
variable {P : Program} {ρ : ay} {g : Bool} {w : World} {dst : zf} {ty : TypeId} {pos : String} {af : zh} {gd : w4} {Ev : Env}
theorem rm.pv{o:Oper}{v:AV}(h:pv v=some cv)(a:bc P Ev g o w (v.val ρ)):rm P Ev ρ g o w cv:=by cases h;exact λ_=>a
theorem aim{t:TypeId}{op:BinOp}{k f:IntKind}{m l:Int}(hx:ar Ev g x (.int k m))(c:ar Ev g y (.int f l))(h:agR k f m l op=some cv):
  rm P Ev ρ g ⟨dst,.binOp op t x y t',ty,pos,af,gd⟩ w cv:=by
 have key:∀{a:CV},aD (j3 k f) a none=some cv->k=f/\a=some cv:=λh=>⟨om (aI h).1,(aI h).2⟩;cases op <;> simp [agR] at h
 case shr=>cases h;exact λe=>ao6 hx c (λd=>e _ rfl d)
 case shl=>cases h;exact λe=>apk hx c (λd=>e _ rfl d)
 case quo=>
  obtain ⟨rfl,b⟩:=key h;cases b;exact λe n a i d=>apq hx c (by grind) n a i d
 case rem=>
  obtain ⟨rfl,b⟩:=key h;cases b;exact λe n a i d=>apw hx c (by grind) n a i d
 case add=>obtain ⟨rfl,b⟩:=key h;exact .pv b (xz hx c)
 case sub=>obtain ⟨rfl,b⟩:=key h;exact .pv b (ae5 hx c)
 case mul=>obtain ⟨rfl,b⟩:=key h;exact .pv b (aqw hx c)
 case eql=>obtain ⟨rfl,b⟩:=key h;exact .pv b (xu hx c)
 case neq=>obtain ⟨rfl,b⟩:=key h;exact .pv b (aqq hx c)
 case lss=>obtain ⟨rfl,b⟩:=key h;exact .pv b (aee hx c)
 case leq=>obtain ⟨rfl,b⟩:=key h;exact .pv b (api hx c)
 case gtr=>obtain ⟨rfl,b⟩:=key h;exact .pv b (WX hx c)
 case geq=>obtain ⟨rfl,b⟩:=key h;exact .pv b (aqh hx c)
 case and=>obtain ⟨rfl,b⟩:=key h;exact .pv b (ali hx c)
 case or=>obtain ⟨rfl,b⟩:=key h;exact .pv b (aoO hx c)
 case xor=>obtain ⟨rfl,b⟩:=key h;exact .pv b (anG hx c)
 case andNot=>obtain ⟨rfl,b⟩:=key h;exact .pv b (adI hx c)
theorem ai4{t:TypeId}{op:BinOp}{m l:aE}(hx:ar Ev g x (S m))(a:ar Ev g y (S l))(h:agj m l op=some cv):
  rm P Ev ρ g ⟨dst,.binOp op t x y t',ty,pos,af,gd⟩ w cv:=by
 unfold agj at h;split at h
 .exact .pv h (aqo hx a)
 .exact .pv h (aqH hx a)
 .cases h;exact λc=>aps hx a (λb=>c _ rfl b)
 .exact .pv h (apX hx a)
 .exact .pv h (apy hx a)
 .exact .pv h (aqr hx a)
 .exact .pv h (aqm hx a)
 .cases h
theorem akz{t:TypeId}{op:BinOp}{a b:AV}(hx:ar Ev g x (a.val ρ))(d:ar Ev g y (b.val ρ))(h:ag1 P t op a b=some cv):
  rm P Ev ρ g ⟨dst,.binOp op t x y t',ty,pos,af,gd⟩ w cv:=by
 unfold ag1 at h;split at h
 .grind [AV.val,aim]
 .grind [AV.val,ai4]
 .obtain ⟨e,c⟩:=aI h;unfold ajo at c;split at c
  .exact .pv c (apE (XK e) hx d)
  .exact .pv c (aqC (XK e) hx d)
  .cases c
 .cases h
theorem amu{t:TypeId}{op:UnOp}{u:AV}(hx:ar Ev g x (u.val ρ))(h:alp op u=some cv):
  rm P Ev ρ g ⟨dst,.unOp op t x,ty,pos,af,gd⟩ w cv:=by
 unfold alp at h;split at h
 .exact .pv h (Zy hx)
 .exact .pv h (aoR hx)
 .cases h
theorem aiX{v:AV}(hx:ar Ev g x (v.val ρ))(h:aox v=true):bc P Ev g ⟨dst,.nilCheck x,ty,pos,af,gd⟩ w (v.val ρ):=by
 cases v with
 |ptr id c=>grind [AV.val,aba]
 |adr id c=>grind [AV.val,aba]
 |fn f a b=>grind [AV.val,alu]
 |_=>cases h
end
def pL(P:Program)(t:TypeId):Option (Nat×Nat×Value):=match P.info? t with
 |some i=>match i.zero with
  |some z=>some (i.size,i.bytes,z)
  |none=>none
 |none=>none
theorem cT{P:Program}{t:TypeId}{n bytes:Nat}{z:Value}(h:pL P t=some (n,bytes,z)):TI P t n bytes z:=by
 unfold pL at h;split at h
 .rename_i i hi;split at h
  next b a=>cases h;simp [TI,hi,a]
  .cases h
 .cases h
def agr(P:Program)(t:TypeId)(k:Nat):Option (TypeId×Nat×Nat):=match P.underlying t with
 |some (.struct fs)=>match fs.toList[k]? with
  |some f=>match P.info? f.type with
   |some i=>some (f.type,f.offset,i.size)
   |none=>none
  |none=>none
 |_=>none
theorem aeS{P:Program}{t ft:TypeId}{k a n:Nat}(h:agr P t k=some (ft,a,n)):∃fs f i,P.underlying t=some (.struct fs)/\fs[k]? =some f/\f.type=ft/\f.offset=a/\P.info? ft=some i/\i.size=n:=by unfold agr at h;grind
def od(P:Program)(t:TypeId)(cs:List AV):Option AV:=match P.underlying t with
 |some d=>aD ( nD d ) ( (match pL P t with
   |some x=>aD ( Nat.ble x.1 cs.length ) ( some (.agg (cs.take x.1)) )<|none
   |none=>none)
  )<|cs.head?
 |none=>none
def dU:AV->List AV
 | .agg l=>l
 | .raw v=>v.cells.toList.map nU
 |v=>[v]
def Nq:AV->Bool
 | .nv _=>false
 |_=>true
theorem Ca{ρ:ay}{v:AV}(h:Nq v=true):(v.val ρ).cells=(AV.al ρ (dU v)).toArray:=by
 cases v <;> simp [dU,AV.val] <;> try rfl
 .cases h
 .rw [sf]
def xH(vs:List AV)(k:Nat)(us:List AV):List AV:=vs.take k++us++vs.drop (k+us.length)
theorem Bw{ρ:ay}{vs us:List AV}{k:Nat}:sJ (AV.al ρ vs) k (AV.al ρ us)=AV.al ρ (xH vs k us):=by simp [sJ,xH,dw,AV.mK,AV.jV,AV.bF]
def Hi(place:Nat->Option (Nat×Nat)):List (Nat×AV)->List AV->Option (List AV)
 |[],cs=>some cs
 |(i,v)::l,cs=>match place i with
  |some (off,n)=>aD ( Nq v&&(Nat.beq (dU v).length n&&Nat.ble (off+n) cs.length) ) ( Hi place l (xH cs off (dU v)) )<|none
  |none=>none
theorem Xe{a:Nat}:∀(us:zc) (k:Nat) (cs:zc),a+k+us.length<=cs.length->
  (us.zipIdx k).foldl (λcs (x:Value×Nat)=>cs.setIfInBounds (a+x.2) x.1) cs.toArray=(sJ cs (a+k) us).toArray
 |[],k,cs,_=>by simp [sJ]
 |u::us,k,cs,h=>by
  simp at h;simp;rw [Xe us (k+1) (cs.set (a+k) u) (by grind)];simp [sJ];have b:a+k<cs.length:=by omega
  have c:(cs.set (a+k) u).take (a+(k+1))=cs.take (a+k)++[u]:=by rw [show a+(k+1)=(a+k)+1 from rfl,qu,sj b,List.take_set_of_le (cK _)];rfl
  grind [List.drop_set_of_lt,List.length_cons]
theorem Fa{ρ:ay}{a:Nat->Option (Nat×Nat)}:{ps:List (Nat×AV)}->{cs b:List AV}->Hi a ps cs=some b->
  Instr.fill a (AV.al ρ cs).toArray (ps.map λp=>(p.1,p.2.val ρ))=some (AV.al ρ b).toArray
 |[],cs,b,h=>by cases h;rfl
 |(i,v)::l,cs,b,h=>by
  unfold Hi at h;split at h
  .obtain ⟨c,f⟩:=aI h;simp at c;obtain ⟨d,j,g⟩:=c;have ih:=Fa (ρ:=ρ) f;unfold Instr.fill;have e:=Ca (ρ:=ρ) d;simp_all [Xe,AV.bF,Bw]
  .cases h
def yi{α β:Type}(f:α->Option β):List α->Option (List β)
 |[]=>some []
 |x::l=>match f x with
  |some y=>match yi f l with
   |some ys=>some (y::ys)
   |none=>none
  |none=>none
theorem Xq{P:Program}{w:World}{α β:Type}{f:α->Sem β}{g:α->Option β}(a:∀x y,g x=some y->(f x).run P w= .ok y w):∀{l:List α} {ys:List β},yi g l=some ys->(l.mapM f).run P w= .ok ys w
 |[],ys,h=>by cases h;simp
 |x::l,ys,h=>by
  unfold yi at h;split at h
  .rename_i y c;split at h
   next zs b=>cases h;rw [List.mapM_cons,Sem.run_bind,a x y c,Result.andThen_ok,Sem.run_bind,Xq a b,Result.andThen_ok,Sem.run_pure]
   .cases h
  .cases h
theorem UU{P:Program}{w:World}{α β:Type}{f:α->Sem β}{g:α->Option β}(a:∀x y,g x=some y->(f x).run P w= .ok y w){l:Array α}{ys:List β}(h:yi g l.toList=some ys):(l.mapM f).run P w= .ok ys.toArray w:=by rw [Array.mapM_eq_mapM_toList,Sem.run_map,Xq a h];rfl
def aiy(P:Program)(f:Field):Option (Nat×Nat):=match P.info? f.type with
 |some i=>some (f.offset,i.size)
 |none=>none
def Z5(P:Program)(t:TypeId)(ps:List (Nat×AV)):Option (List AV):=match pL P t with
 |some z=>(match P.underlying t with
  |some (.struct fs)=>(match yi (aiy P) fs.toList with
   |some pl=>Hi (λi=>pl[i]?) ps (z.2.2.cells.toList.map nU)
   |none=>none)
  |some (.array _ e)=>(match P.info? e with
   |some i=>Hi (λk=>some (k*i.size,i.size)) ps (z.2.2.cells.toList.map nU)
   |none=>none)
  |_=>none)
 |none=>none
theorem akC{P:Program}{t:TypeId}{ρ:ay}{w:World}{ps:List (Nat×AV)}{cs:List AV}(h:Z5 P t ps=some cs):
  (Instr.build t (ps.map λp=>(p.1,p.2.val ρ)).toArray).run P w= .ok (.agg (AV.al ρ cs).toArray) w:=by
 unfold Z5 at h;split at h
 .rename_i z i;have c:=cT i;have g:=c.zero w;unfold Instr.build;split at h
  .rename_i l a;simp [run_underlying a];split at h
   .rename_i pl d;have m:(l.mapM λf=>do pure (f.offset,<-sizeOf f.type):Sem (Array (Nat×Nat))).run P w= .ok pl.toArray w:=UU (λf y b=>by
     unfold aiy at b;split at b
     .simp_all [sizeOf,typeInfo]
     .cases b) d
    have j:=Fa (ρ:=ρ) h;simp_all [sf,Result.andThen_ok]
   .cases h
  .rename_i k e a;simp [run_underlying a];split at h
   .have j:=Fa (ρ:=ρ) h;simp_all [sf,sizeOf,typeInfo,Result.andThen_ok]
   .cases h
  .cases h
 .cases h
theorem Ll{ρ:ay}:∀(a:zm) (vs:List AV),(a.zip vs).map (λp=>(p.1,p.2.val ρ))=a.zip (AV.al ρ vs)
 |[],_=>by simp
 |_::_,[]=>by simp [AV.al]
 |i::a,v::vs=>by simp [List.zip_cons_cons,e9,AV.al];rw [Ll]
def gq(T:aB)(E F:aF):Prop:= ∀x,x∈T->ez E F x.2.2.1=some (x.2.1,.bool x.2.2.2)/\T.get (some x.1)=(T.get x.2.1&&AS x.1.2 x.2.2.2)
def keyOf(r:Nat)(pol:Bool):aB->Option ((Nat×Bool)×GK×Nat×Bool)
 |[]=>none
 |x::T=>aD ( Nat.beq x.2.2.1 r&&Xb x.1.2 pol ) ( some x )<|keyOf r pol T
theorem aaw{r:Nat}{a:Bool}:{T:aB}->{x:(Nat×Bool)×GK×Nat×Bool}->keyOf r a T=some x->x∈T/\x.2.2.1=r/\x.1.2=a
 |[],x,h=>by cases h
 |y::T,x,h=>by
  rcases eo h with ⟨e,b⟩|⟨_,b⟩
  .grind [List.mem_cons_self,Nat.eq_of_beq_eq_true,aeN]
  .obtain ⟨d,c⟩:=aaw b;grind
def aov(T:aB)(E F:aF)(g:GK)(c x:Operand):Option (Bool×Bool):=match bw T E F g x with
 |some (.bool y)=>(match bw T E F g c with
  |some (.bool b)=>some (b,y)
  |_=>none)
 |_=>none
def aom(T:aB)(E F:aF)(g:GK)(pol:Bool)(c x:Operand):Option (Bool×Bool):=match c with
 | .tmp r=>(match keyOf r pol T with
  |some k=>aD ( T.imp g k.2.1 ) ( match bw T E F (some k.1) x with
    |some (.bool y)=>some (k.2.2.2,y)
    |_=>none
   ) none
  |none=>none)
 |_=>none
def Zo(T:aB)(E F:aF)(g:GK)(pol:Bool)(c x:Operand):Option (Bool×Bool):=match aov T E F g c x with
 |some y=>some y
 |none=>aom T E F g pol c x
theorem Zv{ρ:ay}{T:aB}{E F:aF}{g:GK}{d b y:Bool}{c:Operand}(s:gq T E F)(h:Zo T E F g d c x=some (b,y)):
  ar (az ρ T E F) (T.get g) c (.bool b)/\ar (az ρ T E F) (T.get g&&AS d b) x (.bool y):=by
 have j:∀{p q:Bool} {u:Value},ar (az ρ T E F) p x u->ar (az ρ T E F) (p&&q) x u:=λh n a i l=>h n a i (au _ _▸l).1;unfold Zo at h;split at h
 .rename_i z e;unfold aov at e;split at e
  .rename_i o hx;split at e
   next C r=>have m:=aP (ρ:=ρ) hx;have f:=aP (ρ:=ρ) r;grind [AV.val]
   .cases e
  .cases e
 .unfold aom at h;split at h
  .split at h
   .rename_i k hk;obtain ⟨m,f⟩:=aI h;split at f
    next o hx=>cases f;obtain ⟨k1,B,A⟩:=aaw hk;obtain ⟨w,v⟩:=s _ k1;have t:=aP (ρ:=ρ) hx;refine ⟨ar.g (by grind [iW,AV.val]) (aB.np m),λn a i l=>t n a i ?_⟩;grind [aB.np]
    .cases f
   .cases h
  .cases h
def isF:Operand->Bool
 | .const (.bool b)=> !b
 |_=>false
def amo:Operand->Bool
 | .const (.bool b)=>b
 |_=>false
theorem arc(h:isF x=true):x= .const (.bool false):=by unfold isF at h;grind
theorem apY(h:amo x=true):x= .const (.bool true):=by unfold amo at h;grind
def Pf(P:Program)(t:TypeId):Bool:=match P.underlying t with
 |some d=> !(iY d)
 |none=>false
theorem Vr{P:Program}{t:TypeId}(h:Pf P t=true):∃d,P.underlying t=some d/\iY d=false:=by grind [Pf]
def loA(T:aB)(E F:aF)(g:GK):Option Operand->zd
 |none=>some 0
 |some y=>match bw T E F g y with
  |some (.int _ i)=>some i
  |_=>none
def P4(T:aB)(E F:aF)(g:GK):Option Operand->Option zd
 |none=>some none
 |some y=>match bw T E F g y with
  |some (.int _ i)=>some (some i)
  |_=>none
theorem SO{ρ:ay}{T:aB}{E F:aF}{g:GK}{lo:Option Operand}{i:Int}(h:loA T E F g lo=some i):(match (motive:=Option Operand->Prop) lo with|none=>i=0|some y=>∃k,ar (az ρ T E F) (T.get g) y (.int k i)):=by
 cases lo with
 |none=>cases h;rfl
 |some y=>
  unfold loA at h;dsimp only at h;split at h
  next k j a=>have:=aP (ρ:=ρ) a;grind [AV.val]
  .cases h
theorem Vf{ρ:ay}{T:aB}{E F:aF}{g:GK}{hi:Option Operand}{j:zd}{len:Nat}(h:P4 T E F g hi=some j):(match (motive:=Option Operand->Prop) hi with|none=>(j.getD (len:Int))=(len:Int)|some y=>∃k,ar (az ρ T E F) (T.get g) y (.int k (j.getD (len:Int)))):=by
 cases hi with
 |none=>cases h;rfl
 |some y=>
  unfold P4 at h;dsimp only at h;split at h
  next k j a=>have:=aP (ρ:=ρ) a;grind [AV.val]
  .cases h
def acR(X:Cx)(T:aB)(E F:aF)(g:GK)(c:Callee)(xs:y2)(ts:List TypeId):CV:=match c,xs,ts with
 | .builtin .len,[x],[t]=>aD ( isStr X.P t ) ( (match bw T E F g x with
   |some (.str l)=>pv (.int .i64 (l.length:Int))
   |_=>none)
  ) none
 | .builtin .max,[x,y],[_,_]=>(match bw T E F g x,bw T E F g y with
  |some (.int k m),some (.int k' l)=>aD ( j3 k k' ) ( pv (.int k (max m l)) ) none
  |_,_=>none)
 | .builtin .min,[x,y],[_,_]=>(match bw T E F g x,bw T E F g y with
  |some (.int k m),some (.int k' l)=>aD ( j3 k k' ) ( pv (.int k (min m l)) ) none
  |_,_=>none)
 |_,_,_=>none
def alA(X:Cx)(T:aB)(E F:aF)(g:GK):Op->CV
 | .move x=>(match bw T E F g x with
  |some v=>pv v
  |none=>none)
 | .assign x=>(match bw T E F g x with
  |some v=>pv v
  |none=>none)
 | .pick c a b=>aD ( isF b ) ( (match Zo T E F g true c a with
   |some y=>pv (.bool (y.1&&y.2))
   |none=>none)
  )<|aD ( amo a ) ( (match Zo T E F g false c b with
   |some y=>pv (.bool (y.1||y.2))
   |none=>none)
  ) none
 | .nilCheck x=>(match bw T E F g x with
  |some v=>aD ( aox v ) ( pv v ) none
  |none=>none)
 | .extract x i=>(match bw T E F g x with
  |some (.tuple l)=>(match l[i]? with
   |some v=>pv v
   |none=>none)
  |_=>none)
 | .unOp op _ x=>(match bw T E F g x with
  |some v=>alp op v
  |none=>none)
 | .binOp op t x y _=>(match bw T E F g x with
  |some u=>(match bw T E F g y with
   |some v=>ag1 X.P t op u v
   |none=>none)
  |none=>none)
 | .convert s d x=>(match bw T E F g x with
  |some (.int _ m)=>aD ( ana X.P s ) (match tyK X.P d with
   |some k=>pv (.int k (k.wrap m))
   |none=>none) none
  |_=>none)
 | .index t x y=>aD ( isStr X.P t ) ( (match bw T E F g x,bw T E F g y with
   |some (.str l),some (.int _ i)=>some (some (uR i l.length),.int .u8 (nh l i))
   |_,_=>none)
  ) none
 | .slice t x lo hi none=>aD ( isStr X.P t ) ( (match bw T E F g x with
   |some (.str l)=>(match loA T E F g lo with
    |some i=>(match P4 T E F g hi with
     |some j=>some (some (db i (j.getD (l.length:Int)) l.length),.str (cut l i (j.getD (l.length:Int))))
     |none=>none)
    |none=>none)
   |_=>none)
  ) none
 | .field t x k=>(match bw T E F g x with
  |some (.agg cs)=>(match agr X.P t k with
   |some f=>(match od X.P f.1 (cs.drop f.2.1) with
    |some v=>pv v
    |none=>none)
   |none=>none)
  |_=>none)
 | .fieldAddr t x k=>(match agr X.P t k with
  |some f=>aD ( Nat.beq f.2.2 0 ) none (match bw T E F g x with
   |some (.ptr id o)=>pv (.ptr id (o+f.2.1))
   |some (.adr id o)=>pv (.adr id (o+f.2.1))
   |_=>none)
  |none=>none)
 | .build t ps=>(match vG T E F g (ps.toList.map (·.2)) with
  |some vs=>(match Z5 X.P t ((ps.toList.map (·.1)).zip vs) with
   |some cs=>pv (.agg cs)
   |none=>none)
  |none=>none)
 | .makeFunc (.func f) a b=>(match vG T E F g a.toList with
  |some us=>(match vG T E F g b.toList with
   |some vs=>pv (.fn f us vs)
   |none=>none)
  |none=>none)
 | .makeInterface t x=>(match bw T E F g x with
  |some v=>aD ( Pf X.P t ) ( pv (.ifc t v) ) none
  |none=>none)
 | .typeAssert x _ t false=>(match bw T E F g x with
  |some (.ifc t' v)=>aD ( Nat.beq t t'&&Pf X.P t ) ( pv v ) none
  |_=>none)
 | .call c=>acR X T E F g c.callee c.args.toList c.argTypes.toList
 |_=>none
theorem add_plain{b o k:Nat}:(⟨b,o,none⟩:Addr).add k=⟨b,o+k,none⟩:=by grind [Addr.add]
theorem add_add{a:Addr}{j k:Nat}:(a.add j).add k=a.add (j+k):=by
 by_cases b:j=0
 .simp_all [Addr.add]
 grind [Addr.add,Nat.add_assoc]
theorem head_get{α:Type}{l:List α}{v:α}(h:l.head? =some v):l[0]? =some v:=by
 cases l with
 |nil=>simp at h
 |cons a l=>simpa using h
section
variable {X : Cx} {ρ : ay} {T : aB} {E F : aF} {g : GK} {w : World} {dst : zf} {ty : TypeId} {pos : String} {af : zh} {gd : w4}
theorem sE{t:TypeId}{a:Nat}{cs:List AV}{v:AV}(h:od X.P t (cs.drop a)=some v):∃d n bytes z,X.P.underlying t=some d/\(nD d=true->TI X.P t n bytes z)/\
  (if nD d then some (.agg (((AV.al ρ cs).drop a).take n).toArray) else (AV.al ρ cs)[a]?)=some (v.val ρ):=by
 unfold od at h;split at h
 .rename_i d hd;rcases eo h with ⟨e,b⟩|⟨e,b⟩
  .split at b
   next x hx=>obtain ⟨n,bytes,z⟩:=x;obtain ⟨f,c⟩:=aI b;cases c;refine ⟨d,n,bytes,z,hd,λ_=>cT hx,?_⟩;simp_all [AV.val,AV.mK,AV.jV]
   .cases b
  simp_all [AV.ab2,AV.jV]
 .cases h
theorem ahZ{c:Callee}{xs:Array Operand}{f:Array TypeId}(h:acR X T E F g c xs.toList f.toList=some cv):
  rm X.P (az ρ T E F) ρ (T.get g) ⟨dst,.call ⟨c,xs,f⟩,ty,pos,af,gd⟩ w cv:=by
 obtain ⟨xs⟩:=xs;obtain ⟨f⟩:=f;unfold acR at h;split at h
 .rename_i x t e d;subst e;subst d;obtain ⟨b,a⟩:=aI h;split at a
  next l hx=>have:=aP (ρ:=ρ) hx;exact .pv a (amk (tZ b) this)
  .cases a
 .rename_i x y t t' e d;subst e;subst d;split at h
  next k m o l hx i=>obtain ⟨b,a⟩:=aI h;have:=om b;subst this;have n:=aP (ρ:=ρ) hx;have j:=aP (ρ:=ρ) i;exact .pv a (am8 n j (am5 _ _ _ _ _))
  .cases h
 .rename_i x y t t' e d;subst e;subst d;split at h
  next k m o l hx i=>obtain ⟨b,a⟩:=aI h;have:=om b;subst this;have n:=aP (ρ:=ρ) hx;have j:=aP (ρ:=ρ) i;exact .pv a (am2 n j (amf _ _ _ _ _))
  .cases h
 .cases h
theorem amr{op:Op}(R:gq T E F)(h:alA X T E F g op=some cv):
  rm X.P (az ρ T E F) ρ (T.get g) ⟨dst,op,ty,pos,af,gd⟩ w cv:=by
 unfold alA at h;split at h
 .split at h
  next v s=>exact .pv h (aM (aP s))
  .cases h
 .split at h
  next v s=>exact .pv h (dp (aP s))
  .cases h
 .rename_i c a b;rcases eo h with ⟨r,p⟩|⟨_,p⟩
  .have:=arc r;subst this;split at p
   next y B=>obtain ⟨k1,t⟩:=Zv (ρ:=ρ) (b:=y.1) (y:=y.2) R B;exact .pv p (apb k1 (by simpa [AS] using t))
   .cases p
  .obtain ⟨r,p⟩:=aI p;have:=apY r;subst this;split at p
   next y B=>obtain ⟨k1,t⟩:=Zv (ρ:=ρ) (b:=y.1) (y:=y.2) R B;exact .pv p (aqN k1 (by simpa [AS] using t))
   .cases p
 .split at h
  next v s=>obtain ⟨r,p⟩:=aI h;exact .pv p (aiX (aP s) r)
  .cases h
 .split at h
  .rename_i l s;split at h
   next v hl=>have q:=aP (ρ:=ρ) s;simp only [AV.val] at q;exact .pv h (adp q (AV.ab2 hl))
   .cases h
  .cases h
 .split at h
  next v s=>exact amu (aP s) h
  .cases h
 .split at h
  .rename_i u W;split at h
   next v s=>exact akz (aP W) (aP s) h
   .cases h
  .cases h
 .split at h
  .rename_i k' m hx;obtain ⟨r,p⟩:=aI h;obtain ⟨ds,L⟩:=arS r;split at p
   next k hk=>have q:=aP (ρ:=ρ) hx;simp only [AV.val] at q;exact .pv p (ab8 L (UJ hk) q)
   .cases p
  .cases h
 .obtain ⟨r,p⟩:=aI h;split at p
  next l k i hx B=>have q:=aP (ρ:=ρ) hx;have S:=aP (ρ:=ρ) B;simp only [AV.val] at q S;cases p;exact λN=>anA (tZ r) q S (λC=>N _ rfl C)
  .cases p
 .obtain ⟨r,p⟩:=aI h;split at p
  .rename_i l hx;split at p
   .rename_i i hi;split at p
    next j Y=>have q:=aP (ρ:=ρ) hx;simp only [AV.val] at q;cases p;exact λN=>ak7 (tZ r) q (SO hi) (Vf Y) (λC=>N _ rfl C)
    .cases p
   .cases p
  .cases p
 .split at h
  .rename_i cs hx;split at h
   .rename_i f G;obtain ⟨ft,A,n⟩:=f;split at h
    .rename_i v s;obtain ⟨U,f,i,k1,t,I,H,Q,O⟩:=aeS G;obtain ⟨d,n',bytes,z,c1,c2,J⟩:=sE (ρ:=ρ) s;have q:=aP (ρ:=ρ) hx;simp only [AV.val] at q;cases hd:nD d
     .refine .pv h (λV a G C=>?_);have Z:=q V a G C;rw [hd] at J;simp only [eT,qn] at J;have hp:=agI (P:=X.P) (w:=w) c1 hd J;subst I;subst H;simp only [execOp,Z,Instr.field,Sem.run_bind,run_underlying k1,Result.andThen_ok,t,asAgg,Sem.run_pure,hp]
     .exact .pv h (akp k1 t I H c1 (c2 hd) q J)
    .cases h
   .cases h
  .cases h
 .split at h
  .rename_i f G;obtain ⟨ft,A,n⟩:=f;obtain ⟨U,f,i,k1,t,I,H,Q,O⟩:=aeS G;obtain ⟨r,p⟩:=OG h;have D:aem X.P _ _ A:=⟨U,f,i,k1,t,H,by rw [I];exact Q,by rw [O];exact Nat.ne_of_beq_eq_false r⟩;split at p
   next id o hx=>have q:=aP (ρ:=ρ) hx;refine .pv p ?_;have:=L4 (dst:=dst) (ty:=ty) (pos:=pos) (af:=af) (gd:=gd) (w:=w) D q;rwa [add_plain] at this
   next id o hx=>have q:=aP (ρ:=ρ) hx;refine .pv p ?_;have:=L4 (dst:=dst) (ty:=ty) (pos:=pos) (af:=af) (gd:=gd) (w:=w) D q;rwa [add_add] at this
   .cases p
  .cases h
 .split at h
  .rename_i vs x;split at h
   .rename_i cs M;refine .pv h ?_;simp [AV.val];have q:=jX (ρ:=ρ) x;have:=ajD (w:=w) (dst:=dst) (ty:=ty) (pos:=pos) (af:=af) (gd:=gd) q (λw=>by rw [<-Ll];exact akC M)
    simpa using this
   .cases h
  .cases h
 .rename_i f a b;split at h
  .rename_i us K;split at h
   next vs x=>refine .pv h ?_;simp [AV.val];have:=MG (P:=X.P) (w:=w) (dst:=dst) (ty:=ty) (pos:=pos) (af:=af) (gd:=gd) (fn:= .func f) (jX (ρ:=ρ) K) (jX x);simpa using this
   .cases h
  .cases h
 .split at h
  .obtain ⟨r,p⟩:=aI h;obtain ⟨d,k1,t⟩:=Vr r;refine .pv p ?_;grind [AV.val,adJ,aP]
  .cases h
 .split at h
  next t' v s=>obtain ⟨r,p⟩:=aI h;simp only [au] at r;obtain ⟨d,k1,t⟩:=Vr r.2;have q:=aP (ρ:=ρ) s;have e:=b0 r.1;subst e;exact .pv p (adH k1 t q)
  .cases h
 .exact ahZ h
 .cases h
end
def y6(G H:List Row):AV->AV
 | .nv u=>(match eM G H (isEq u) with
  |some (_,.eq _ v)=>v
  |_=> .nv u)
 |v=>v
theorem abd{ρ:ay}{T:aB}{G H:List Row}{Φ:Ctx}{w:World}(a:Sat (ab ρ T G++(ab ρ T H++Φ)) w){v:AV}:(y6 G H v).val ρ=v.val ρ:=by
 unfold y6;split
 .rename_i u;split
  next s j e h=>obtain ⟨d,c⟩:=bZ h;have b:=Src.holds a d;have:j=u:=b0 c;subst this;simp only [AV.val];exact b.symm
  .rfl
 .rfl
theorem NX{ρ:ay}{T:aB}{G H:List Row}{Φ:Ctx}{w:World}(a:Sat (ab ρ T G++(ab ρ T H++Φ)) w):(l:List AV)->AV.al ρ (l.map (y6 G H))=AV.al ρ l
 |[]=>rfl
 |v::l=>by simp only [e9,AV.al];rw [abd a,NX a l]
def UE:Ty->Bool
 | .i _|.bo|.s|.un|.n=>true
 | .p x y=>UE x&&UE y
 |_=>false
def BG:(t:Ty)->t.T->List AV
 | .i k,x=>[.int k x]
 | .bo,x=>[.bool x]
 | .s,x=>[.str x]
 | .n,x=>[.ifc x (.agg [])]
 | .p a b,x=>BG a x.1++BG b x.2
 |_,_=>[]
theorem QR{ρ:ay}{M:Nat->Prop}{w:World}:(t:Ty)->(x:t.T)->(vs:zc)->UE t=true->t.rep.rd M w vs x->vs=AV.al ρ (BG t x)
 | .i k,x,vs,_,h=>by simp only [BG,AV.al,AV.val];exact h
 | .bo,x,vs,_,h=>by simp only [BG,AV.al,AV.val];exact h
 | .s,x,vs,_,h=>by simp only [BG,AV.al,AV.val];exact h
 | .un,x,vs,_,h=>by simp only [BG,AV.al];exact h
 | .p a b,x,vs,hf,h=>by
  simp only [UE,au] at hf;obtain ⟨us,c,rfl,e,d⟩:=h;rw [BG,dw,<-QR a x.1 us hf.1 e,<-QR b x.2 c hf.2 d]
 | .l _,_,_,hf,_=>by cases hf
 | .ex,_,_,hf,_=>by cases hf
 | .n,x,vs,_,h=>by simp only [BG,AV.al,AV.val];exact h
 | .mp _ _,_,_,hf,_=>by cases hf
def aaO(T:aB)(G H:List Row)(g:GK)(q off:Nat):Option (List AV):=match eM G H (Rm q) with
 |some (_,.kn g' _ id ver u _ x)=>aD ( T.imp g g'&&UE u ) ( match eM G H (rn id) with
  |some (_,.own _ _ _ _ ver')=>aD ( Nat.beq ver ver' ) ( some ((BG u x).drop off) ) none
  |_=>none ) none
 |_=>none
theorem O9{t t':Ty}{l:List t.T}{l':List t'.T}{y:cr}(h:y=⟨.l t,l⟩)(a:y=⟨.l t',l'⟩):∃e:t=t',e▸l=l':=by rw [h] at a;cases a;exact ⟨rfl,rfl⟩
theorem ajW{ρ:ay}{T:aB}{G H:List Row}{Φ:Ctx}{w:World}{g:GK}{q c:Nat}{vs:List AV}(p:Sat (ab ρ T G++(ab ρ T H++Φ)) w)(h:aaO T G H g q c=some vs)(v:T.get g=true):
  bN w ((ρ q).a.add c) (AV.al ρ vs):=by
 unfold aaO at h;split at h
 .rename_i s O q' id d u i t x;obtain ⟨n,m⟩:=aI h;simp only [au] at n;split at m
  next N f u' e l b k=>obtain ⟨A,z⟩:=aI m;cases z;obtain ⟨E,D⟩:=bZ x;obtain ⟨C,B⟩:=bZ k;have J:q'=q:=b0 D;have I:f=id:=b0 B;have e3:d=b:=b0 A;subst J;subst I;subst e3;obtain ⟨y,j⟩:=Src.holds p C;obtain ⟨l0,M,L,K⟩:=(Src.holds p E) (aB.np n.1 v);obtain ⟨e4,r⟩:=O9 M j;subst e4;simp only at r;subst r;obtain ⟨_,us,o,F⟩:=y.atA L;rw [QR (ρ:=ρ) u t us n.2 F] at o;rw [<-K] at o;refine o.sub _ ?_;rw [AV.jV,fb (cK _)]
  .cases m
 .cases h
def B9(T:aB)(G H:List Row)(g:GK):AV->Option (List AV)
 | .ptr id off=>(match eM G H (Bv id) with
  |some (_,.box _ _ vs)=>some ((vs.drop off).map (y6 G H))
  |_=>none)
 | .adr id off=>(match eM G H (asS id) with
  |some (_,.elm g' _ vs)=>aD ( T.imp g g' ) ( some (vs.drop off) ) none
  |_=>aaO T G H g id off)
 |_=>none
theorem Nl{ρ:ay}{T:aB}{G H:List Row}{Φ:Ctx}{w:World}{g:GK}{v:AV}{vs:List AV}(d:Sat (ab ρ T G++(ab ρ T H++Φ)) w)(h:B9 T G H g v=some vs)(k:T.get g=true):
  ∃p,v.val ρ= .pointer (some p)/\bN w p (AV.al ρ vs):=by
 have sub:∀{p:Addr} {us:List AV} {c:Nat},bN w p (AV.al ρ us)->bN w (p.add c) (AV.al ρ (us.drop c)):=λh=>by refine h.sub _ ?_;rw [AV.jV,fb (cK _)]
 unfold B9 at h;split at h
 .rename_i id c;split at h
  next s j t us e=>cases h;obtain ⟨i,f⟩:=bZ e;have:j=id:=b0 f;subst this;have hb:gI w (ρ j).b t (AV.al ρ us):=Src.holds d i;refine ⟨⟨(ρ j).b,c,none⟩,by simp only [AV.val],?_⟩;rw [NX d,AV.jV];exact hb.part c (by rw [fb (cK _)])
  .cases h
 .rename_i id c;split at h
  next s n j us e=>obtain ⟨m,l⟩:=aI h;cases l;obtain ⟨i,f⟩:=bZ e;have:j=id:=b0 f;subst this;have hb:=Src.holds d i;exact ⟨_,by simp only [AV.val],sub (hb (aB.np m k)).2⟩
  .exact ⟨(ρ id).a.add c,by simp only [AV.val],ajW d h k⟩
 .cases h
def acv(t:Ty)(v:AV):Option t.T:=match t,v with
 | .i k,.int k' x=>aD ( j3 k k' ) ( some x ) none
 | .s,.str x=>some x
 | .bo,.bool x=>some x
 |_,_=>none
theorem W5{ρ:ay}{t:Ty}{v:AV}{x:t.T}(h:acv t v=some x):v.val ρ=HZ t x:=by
 unfold acv at h;split at h
 .obtain ⟨b,a⟩:=aI h;have:=om b;subst this;cases a;simp only [AV.val];rfl
 .cases h;simp only [AV.val];rfl
 .cases h;simp only [AV.val];rfl
 .cases h
def agk(t:Ty)(x:t.T):AV:=match t,x with
 | .i k,x=> .int k x
 | .s,x=> .str x
 | .bo,x=> .bool x
 |_,_=> .bool false
theorem aen{ρ:ay}{t:Ty}{x:t.T}:(agk t x).val ρ=HZ t x:=by cases t <;> simp only [agk,HZ,AV.val]
instance keyBEq(t:Ty):BEq t.T:=match t with
 | .i _=>(inferInstance:BEq Int)
 | .s=>(inferInstance:BEq aE)
 | .bo=>(inferInstance:BEq Bool)
 |_=>⟨λ_ _=>false⟩
def Ty.uM:(t:Ty)->t.T
 | .i _=>(0:Int)
 | .bo=>false
 | .s=>([]:aE)
 | .un=>()
 | .n=>(0:Nat)
 | .p x y=>(x.uM,y.uM)
 | .l x=>([]:List x.T)
 | .mp k v=>(none:Option (List (k.T×v.T)))
 | .ex=>Ex.mk 0 0 0 []
def ahE(P:Program)(kt:TypeId)(k:Ty):Bool:=match k with
 | .i k=>(match tyK P kt with
  |some k'=>j3 k k'
  |none=>false)
 | .s=>isStr P kt
 |_=>false
theorem Wx{P:Program}{kt:TypeId}{k:Ty}(h:ahE P kt k=true):ET P kt (HZ k):=by
 unfold ahE at h;split at h
 .split at h
  next a hk=>have:=om h;subst this;exact ET.int (UJ hk)
  .cases h
 .exact ET.str (tZ h)
 .cases h
def ahX(v:Ty)(z:Value):Bool:=match v,z with
 | .i k,.int k' x=>j3 k k'&&decide (x=0)
 | .bo,.bool b=> !b
 | .s,.string b=>b.data.toList.isEmpty
 |_,_=>false
theorem amO{v:Ty}{z:Value}(h:ahX v z=true):z=HZ v v.uM:=by
 unfold ahX at h;split at h
 .simp only [au,er] at h;have:=om h.1;subst this;rw [h.2];rfl
 .rename_i b;cases b
  .rfl
  .cases h
 .rename_i b;have:b.data.toList=[]:=by simpa using h
  show _=S [];unfold S;rw [<-this]
 .cases h
def VX(P:Program)(t:TypeId):Option (TypeId×TypeId):=match P.underlying t with
 |some (.map k v)=>some (k,v)
 |_=>none
theorem AJ{P:Program}{t:TypeId}{p:TypeId×TypeId}(h:VX P t=some p):P.underlying t=some (.map p.1 p.2):=by
 unfold VX at h;split at h
 next k v hk=>cases h;exact hk
 .cases h
def jK(P:Program)(t:TypeId):Option TypeId:=match P.underlying t with
 |some (.slice e)=>some e
 |_=>none
theorem cw{P:Program}{t:TypeId}(h:jK P t=some e):P.underlying t=some (.slice e):=by
 unfold jK at h;split at h
 next k hk=>cases h;exact hk
 .cases h
structure SlA where
 g:GK
 t:Ty
 l:List t.T
def XM(G H:List Row)(id:Nat):Option SlA:=match eM G H (rn id) with
 |some (_,.sli g _ t l _)=>some ⟨g,t,l⟩
 |some (_,.own _ t _ l _)=>some ⟨none,t,l⟩
 |_=>none
theorem abX{ρ:ay}{T:aB}{G H:List Row}{Φ:Ctx}{w:World}{id:Nat}{s:SlA}(f:Sat (ab ρ T G++(ab ρ T H++Φ)) w)(h:XM G H id=some s)(k:T.get s.g=true):
  (bT s.t.rep (Ctx.M (ab ρ T G++(ab ρ T H++Φ))) w (sl (ρ id).v) s.l)\/∃e,cj s.t.rep e (Ctx.M (ab ρ T G++(ab ρ T H++Φ))) w (sl (ρ id).v) s.l (BO (ρ id).v):=by
 unfold XM at h;split at h
 next i g j t l b a=>cases h;obtain ⟨d,c⟩:=bZ a;have:j=id:=b0 c;subst this;exact .inl ((Src.holds f d) k).1
 next i j t e l ks a=>cases h;obtain ⟨d,c⟩:=bZ a;have:j=id:=b0 c;subst this;exact .inr ⟨e,(Src.holds f d).1⟩
 .cases h
theorem VI{ρ:ay}{T:aB}{G H:List Row}{Φ:Ctx}{w:World}{id:Nat}{s:SlA}(a:Sat (ab ρ T G++(ab ρ T H++Φ)) w)(h:XM G H id=some s)(b:T.get s.g=true):PZ (sl (ρ id).v) s.l.length:=by
 rcases abX a h b with h|⟨e,h⟩
 .exact h.len
 .exact h.len
theorem apu{ρ:ay}{T:aB}{G H:List Row}{Φ:Ctx}{w:World}{id:Nat}{s:SlA}(a:Sat (ab ρ T G++(ab ρ T H++Φ)) w)(h:XM G H id=some s)(b:T.get s.g=true):bT s.t.rep (λ_=>False) w (sl (ρ id).v) s.l:=by
 rcases abX a h b with h|⟨e,h⟩
 .exact h.mv (Mv.weaken w λ_ h=>h.elim)
 .exact h.freeze (λ_ _ h=>h) (Mv.weaken w λ_ h=>h.elim)
def isU8:Ty->Bool
 | .i .u8=>true
 |_=>false
def anj(T:aB)(G H:List Row)(g:GK)(v:AV):Option zl:=match v with
 | .sl id=>(match XM G H id with
  |some ⟨g',.i .u8,l⟩=>aD ( T.imp g g' ) ( some l ) none
  |_=>none)
 | .raw (.slice none 0 0)=>some []
 |_=>none
theorem ap3{ρ:ay}{T:aB}{G H:List Row}{Φ:Ctx}{w:World}{g:GK}{v:AV}{l:zl}(a:Sat (ab ρ T G++(ab ρ T H++Φ)) w)(h:anj T G H g v=some l)(b:T.get g=true):bT (RI .u8) (λ_=>False) w (v.val ρ) l:=by
 unfold anj at h;split at h
 .split at h
  next e l' hl=>obtain ⟨d,c⟩:=aI h;cases c;have:=apu a hl (aB.np d b);simp only [AV.val];exact this
  .cases h
 .cases h;simp only [AV.val];exact bT.nil
 .cases h
def ZJ(X:Cx)(T:aB)(E F:aF)(G H:List Row)(g:GK)(c:Callee)(xs:y2)(ts:List TypeId):CV:=match c,xs,ts with
 | .builtin .len,[x],[t]=>(match jK X.P t with
  |some _=>(match bw T E F g x with
   |some (.sl id)=>(match XM G H id with
    |some s=>aD ( T.imp g s.g ) ( pv (.int .i64 (s.l.length:Int)) ) none
    |none=>none)
   |some (.raw (.slice none 0 0))=>pv (.int .i64 0)
   |_=>none)
  |none=>none)
 |_,_,_=>none
def agu(X:Cx)(T:aB)(E F:aF)(G H:List Row)(g:GK)(op:BinOp)(t:TypeId)(x y:Operand):CV:=match VX X.P t with
 |some _=>(match bw T E F g y with
  |some (.raw (.map none))=>(match bw T E F g x with
   |some (.mp id)=>(match eM G H (ag5 id) with
    |some (_,.mp _ _ _ d)=>(match op with
     | .eql=>pv (.bool (Option.isNone d))
     | .neq=>pv (.bool (!(Option.isNone d)))
     |_=>none)
    |_=>none)
   |some (.raw (.map none))=>(match op with
    | .eql=>pv (.bool true)
    | .neq=>pv (.bool false)
    |_=>none)
   |_=>none)
  |_=>none)
 |none=>none
def akT(X:Cx)(T:aB)(E F:aF)(G H:List Row)(g:GK):Op->CV
 | .load t x=>(match bw T E F g x with
  |some v=>(match B9 T G H g v with
   |some cs=>(match od X.P t cs with
    |some v=>pv v
    |none=>none)
   |none=>none)
  |none=>none)
 | .convert s d x=>aD ( isStr X.P d ) ( (match jK X.P s with
  |some e=>(match tyK X.P e with
   |some .u8=>(match bw T E F g x with
    |some v=>(match anj T G H g v with
     |some l=>pv (.str (strOf l))
     |none=>none)
    |none=>none)
   |_=>none)
  |none=>none) ) none
 | .lookup t x y ok=>(match VX X.P t with
  |some p=>(match bw T E F g x with
   |some (.mp id)=>(match bw T E F g y with
    |some kv=>(match eM G H (ag5 id) with
     |some (_,.mp _ k v d)=>(match pL X.P p.2 with
      |some z=>aD ( ahE X.P p.1 k&&ahX v z.2.2 ) ( (match acv k kv with
       |some key=>aD ( ok ) ( pv (.tuple [agk v (eA d key v.uM),.bool (VM d key)]) )<|pv (agk v (eA d key v.uM))
       |none=>none) ) none
      |none=>none)
     |_=>none)
    |none=>none)
   |_=>none)
  |none=>none)
 | .call c=>ZJ X T E F G H g c.callee c.args.toList c.argTypes.toList
 | .binOp op t x y _=>agu X T E F G H g op t x y
 |_=>none
section
variable {X : Cx} {ρ : ay} {T : aB} {E F : aF} {G H : List Row} {Φ : Ctx} {g : GK} {w : World} {dst : zf} {ty : TypeId} {pos : String} {af : zh} {gd : w4}
theorem ahq{P:Program}{Ev:Env}{b:Bool}{o:Oper}(h:b=true->bc P Ev b o w v):bc P Ev b o w v:=λn a d c=>h c n a d c
theorem amP{t:TypeId}{u v:AV}{cs:List AV}(k:Sat (ab ρ T G++(ab ρ T H++Φ)) w)(hx:bw T E F g x=some u)(f:B9 T G H g u=some cs)(h:od X.P t cs=some v):
  bc X.P (az ρ T E F) (T.get g) ⟨dst,.load t x,ty,pos,af,gd⟩ w (v.val ρ):=ahq λm=>by
 obtain ⟨p,hp,f⟩:=Nl k f m;have b:=aP (ρ:=ρ) hx;rw [hp] at b;have s:od X.P t (cs.drop 0)=some v:=by simpa using h
 obtain ⟨d,n,bytes,z,c1,y,c⟩:=sE (ρ:=ρ) s;cases hd:nD d
 .rw [hd] at c;simp only [eT,qn] at c;refine Of c1 hd b (λ_=>?_);have:=f.sub (us:=[v.val ρ]) 0 (by
   cases e:AV.al ρ cs with
   |nil=>rw [e] at c;cases c
   |cons a l=>rw [e] at c;cases c;simp)
  simpa [Addr.add] using this
 .unfold od at h;rw [c1] at h;rcases eo h with ⟨_,i⟩|⟨j,_⟩
  .split at i
   .rename_i q e;obtain ⟨n,bytes,z⟩:=q;obtain ⟨r,o⟩:=aI i;cases o;have hl:n<=cs.length:=ei r;simp only [AV.val];refine MO c1 hd (cT e) b (λ_=>?_) ?_
    .have:=f.sub (us:=AV.al ρ (cs.take n)) 0 (by rw [AV.mK,n9,dq,AV.bF,iQ hl])
     simpa [Addr.add] using this
    .rw [AV.bF,dq,iQ hl]
   .cases i
  .rw [hd] at j;cases j
theorem ahI{c:Callee}{xs:Array Operand}{b:Array TypeId}(k:Sat (ab ρ T G++(ab ρ T H++Φ)) w)(h:ZJ X T E F G H g c xs.toList b.toList=some cv):
  rm X.P (az ρ T E F) ρ (T.get g) ⟨dst,.call ⟨c,xs,b⟩,ty,pos,af,gd⟩ w cv:=by
 obtain ⟨xs⟩:=xs;obtain ⟨b⟩:=b;unfold ZJ at h;split at h
 .rename_i x t j i;simp only at j i;subst j;subst i;split at h
  .rename_i e f;split at h
   .rename_i id hx;have a:=aP (ρ:=ρ) hx;simp only [AV.val] at a;split at h
    next s d=>obtain ⟨o,m⟩:=aI h;exact .pv m (ahq λl=>Nx (cw f) a (VI k d (aB.np o l)))
    .cases h
   next hx=>have a:=aP (ρ:=ρ) hx;simp only [AV.val] at a;exact .pv h (Nx (n:=0) (cw f) a ⟨_,_,rfl⟩)
   .cases h
  .cases h
 .cases h
theorem aiw{op:BinOp}{t:TypeId}(e:Sat (ab ρ T G++(ab ρ T H++Φ)) w)(h:agu X T E F G H g op t x y=some cv):
  rm X.P (az ρ T E F) ρ (T.get g) ⟨dst,.binOp op t x y t',ty,pos,af,gd⟩ w cv:=by
 unfold agu at h;split at h
 .rename_i p hp;split at h
  .rename_i c;have b:=aP (ρ:=ρ) c;simp only [AV.val] at b;split at h
   .rename_i id hx;have a:=aP (ρ:=ρ) hx;simp only [AV.val] at a;split at h
    .rename_i s j k v d f;obtain ⟨l,i⟩:=bZ f;have:j=id:=b0 i;subst this;have hb:=Src.holds e l;split at h
     .exact .pv h (UT (AJ hp) a b hb)
     .exact .pv h (Un (AJ hp) a b hb)
     .cases h
    .cases h
   .rename_i hx;have a:=aP (ρ:=ρ) hx;simp only [AV.val] at a;split at h
    .exact .pv h (ac2 (AJ hp) a b)
    .exact .pv h (adD (AJ hp) a b)
    .cases h
   .cases h
  .cases h
 .cases h
theorem anf{op:Op}(f:Sat (ab ρ T G++(ab ρ T H++Φ)) w)(h:akT X T E F G H g op=some cv):
  rm X.P (az ρ T E F) ρ (T.get g) ⟨dst,op,ty,pos,af,gd⟩ w cv:=by
 unfold akT at h;split at h
 .split at h
  .rename_i v o;split at h
   .rename_i cs q;split at h
    next O n=>exact .pv h (amP f o q n)
    .cases h
   .cases h
  .cases h
 .obtain ⟨b,a⟩:=aI h;split at a
  .rename_i e D;split at a
   .rename_i hk;split at a
    .rename_i v o;split at a
     next l hl=>refine .pv a (ahq λB=>?_);have m:=aP (ρ:=ρ) o;simp only [AV.val];exact aqF (M:=λ_=>False) (cw D) (UJ hk) (tZ b) m (λ_=>ap3 f hl B)
     .cases a
    .cases a
   .cases a
  .cases a
 .rename_i t x y ok;split at h
  .rename_i p hp;split at h
   .rename_i id hx;split at h
    .rename_i Q A;split at h
     .rename_i s j k v d C;split at h
      .rename_i z u;obtain ⟨b,a⟩:=aI h;simp only [au] at b;split at a
       .rename_i key i;obtain ⟨J,I⟩:=bZ C;have:j=id:=b0 I;subst this;have hb:=Src.holds f J;have m:=aP (ρ:=ρ) hx;have r:=aP (ρ:=ρ) A;simp only [AV.val] at m;rw [W5 i] at r;obtain ⟨N,L,K⟩:=z;have c:(zeroValue p.2).run X.P w= .ok (HZ v v.uM) w:=by rw [<-amO b.2];exact (cT u).zero w
        cases ok
        .refine .pv a ?_;rw [aen];exact ahF (Wx b.1) (AJ hp) c m r (λ_=>hb)
        .refine .pv a ?_;simp only [AV.val,AV.al];rw [aen];exact acx (Wx b.1) (AJ hp) c m r (λ_=>hb)
       .cases a
      .cases h
     .cases h
    .cases h
   .cases h
  .cases h
 .exact ahI f h
 .exact aiw f h
 .cases h
end
def bL(P:Program)(E:Env)(o:Oper)(w:World)(R:Value->World->Prop):Prop:=
 ∀n a,Fits n E a->(∃v w',(execOp a.eval o).run P w= .ok (.value v) w'/\R v w')\/(∃w',(execOp a.eval o).run P w= .ok .skip w'/\R undef w')\/
  (∃(f:FuncId) (args:zc),(execOp a.eval o).run P w= .ok (.enter f args.toArray) w/\jJ P f args w R)
section
variable {P : Program} {σ : ze} {Q : bh} {n : Nat} {D : x3} {E : Env} {w : World} {ops : zg} {rest : zj} {o : Oper} {R S : Value -> World -> Prop}
theorem bL.run(h:bc P E true o w v)(k:R v w):bL P E o w R:=λn a b=> .inl ⟨v,w,h n a b rfl,k⟩
theorem bL.tl{w':World}(h:pr P E o w v w')(k:R v w'):bL P E o w R:=λn a b=> .inl ⟨v,w',h n a b,k⟩
theorem bL.afT{w':World}(h:Sc P E o w w')(k:R undef w'):bL P E o w R:=λn a b=> .inr (.inl ⟨w',h n a b,k⟩)
theorem bL.upon(hd:bL P E o w R){a:Act}(e:Fits n E a){next:Act->World->Prop}(h:∀v w',R v w'->next (a.put o.dst v) w'):o.uponIn (FW σ) 0 P a next Q ((execOp a.eval o).run P w):=by
 rcases hd n a e with ⟨v,w',c,b⟩|⟨w',c,b⟩|⟨f,args,c,b⟩
 .rw [c,Oper.uponIn_value];exact h _ _ b
 .rw [c,Oper.uponIn_skip];exact h _ _ b
 .rw [c];exact Kj b (λv w' d=>h v w' d) (λ_ _ d=>d.elim)
def uP(dst:zf)(g:Bool)(v:Value)(E:Env):Env:=match dst with
 |some d=>(d,g,v)::E
 |none=>E
def Nj(n:Nat):zf->Bool
 |some d=>Nat.blt d n
 |none=>true
theorem Fits.uP{E:Env}{a:Act}(h:Fits n E a){d:zf}{g:Bool}{v:Value}(hd:Nj n d=true):Fits n (uP d g v E) (a.put d (CC g v)):=by
 cases d with
 |none=>exact h
 |some d=>exact h.put hd
theorem aqb(hd:bL P E o w R)(hp:kg o=true)(d:o.guard=none)(hn:Nj n o.dst=true)
  (h:∀v w',R v w'->WL P σ ops Q n D rest (uP o.dst true v E) w'):WL P σ ops Q n D (o::rest) E w:=λa b f=>
 wpListIn_plain d λK e=>oy hp (hd.upon b λv w' c=>e _ _ (h v w' c _ (b.uP hn) (by rw [kH];exact f)))
theorem alN{j:Nat}{b:Bool}{rj:Tmp}{m p:Bool}{g:Bool}(hd:g=true->bL P E o w R)(s:g=false->∃v,R v w)(hp:kg o=true)(i:o.guard=some (j,b))(q:(ops[j]?).bind (·.dst)=some rj)
  (hl:look E rj=some (m,.bool p)) (f:Nat.blt rj n=true) (r:(m&&(p==b))=g) (hn:Nj n o.dst=true)
  (h:∀v w',R v w'->WL P σ ops Q n D rest (uP o.dst g v E) w'):WL P σ ops Q n D (o::rest) E w:=λa c l=>
 wpListIn_step λK k=>by
  rw [G0 i q hl c f,r];cases g
  .simp only [eT,qn];obtain ⟨v,e⟩:=s rfl;have:=c.uP (d:=o.dst) (g:=false) (v:=v) hn;exact ⟨λ_ _=>trivial,k _ _ (h _ _ e _ this (by rw [kH];exact l))⟩
  .simp only [qU];exact oy hp ((hd rfl).upon c λv w' e=>k _ _ (h v w' e _ (c.uP hn) (by rw [kH];exact l)))
end
abbrev cL(R:Type):=aC->Option R
def cM(dst:zf)(g:GK)(v:AV)(E:aF):aF:=match dst with
 |some d=>(d,g,v)::E
 |none=>E
def aU{R:Type}(r:R)(K:cL R)(T:aB)(fr:Fr)(st:aC)(g:GK)(dst:zf)(ρ:ay)(Φ:Ctx)(v:Value)(w':World):Prop:=
 ∃(ρ':ay) (st':aC) (av:AV),K st'=some r/\aS st.c ρ ρ'/\st.c<=st'.c/\st'.E=cM dst g av st.E/\av.val ρ'=v/\az ρ' T st.E fr.F=az ρ T st.E fr.F/\
  ab ρ' T fr.H=ab ρ T fr.H/\Sat (ab ρ' T st'.G++(ab ρ' T fr.H++Φ)) w'
def ny(P:Program)(T:aB)(g:GK)(Ev:Env)(o:Oper)(w:World)(O:Value->World->Prop):Prop:=
 (T.get g=true->bL P Ev o w O)/\(T.get g=false->∃v,O v w)
section
variable {R : Type} {r : R} {K : cL R} {T : aB} {fr : Fr} {st st' : aC} {g : GK} {dst : zf} {ρ ρ' : ay} {Φ : Ctx} {v : Value} {w w' : World}
theorem aC.cJ:st.low fr=true↔aF.low st.c st.E=true/\aF.low st.c fr.F=true/\bD st.c st.G=true/\bD st.c fr.H=true:=by simp only [aC.low,au,and_assoc]
theorem sd(hl:st.low fr=true)(ha:aS st.c ρ ρ'):az ρ' T st.E fr.F=az ρ T st.E fr.F:=by obtain ⟨b,a,_,_⟩:=aC.cJ.1 hl;rw [az,uk ha b,uk ha a]
theorem aU.new{av:AV}(hl:st.low fr=true)(f:K st'=some r)(ha:aS st.c ρ ρ')(d:st.c<=st'.c)(h:st'.E=cM dst g av st.E)(a:av.val ρ'=v)
  (b:Sat (ab ρ' T st'.G++(ab ρ T fr.H++Φ)) w'):aU r K T fr st g dst ρ Φ v w':=by
 have e:=ba (T:=T) ha (aC.cJ.1 hl).2.2.2;exact ⟨ρ',st',av,f,ha,d,h,a,sd hl ha,e,by rw [e];exact b⟩
theorem aU.lC{av:AV}(e:K st'=some r)(d:st.c<=st'.c)(f:st'.E=cM dst g av st.E)(a:av.val ρ=v)
  (b:Sat (ab ρ T st'.G++(ab ρ T fr.H++Φ)) w'):aU r K T fr st g dst ρ Φ v w':=
 ⟨ρ,st',av,e,.refl,d,f,a,rfl,rfl,b⟩
theorem aU.push{av:AV}{x:Nm}{row:Row}(hl:st.low fr=true)(a:K { st with c:=st.c+1,E:=cM dst g av st.E,G:=row::st.G }=some r)(hv:av.val (ρ.set st.c x)=v)
  (hs:Sat (row.item (ρ.set st.c x) T::(ab ρ T st.G++(ab ρ T fr.H++Φ))) w'):aU r K T fr st g dst ρ Φ v w':=by
 refine aU.new hl a ay.aX (j6 _) rfl hv ?_;have e:=ba (T:=T) (ay.aX (ρ:=ρ) (j:=st.c) (x:=x)) (aC.cJ.1 hl).2.2.1;show Sat (ab (ρ.set st.c x) T (row::st.G)++_) w';rw [ab,e9];rw [ab] at e;rw [e];exact hs
theorem gG{G:List Row}{row:Row}{j:Nat}{Δ:Ctx}(a:j<G.length):ab ρ T (G.set j row)++Δ=(ab ρ T G++Δ).set j (row.item ρ T):=by rw [List.set_append_left _ _ (by simpa [ab] using a)];simp only [ab,List.map_set]
theorem aU.mM{av:AV}{x:Nm}{row:Row}{j:Nat}(hl:st.low fr=true)(a:j<st.G.length)(b:K { st with c:=st.c+1,E:=cM dst g av st.E,G:=st.G.set j row }=some r)(hv:av.val (ρ.set st.c x)=v)
  (hs:Sat ((ab ρ T st.G++(ab ρ T fr.H++Φ)).set j (row.item (ρ.set st.c x) T)) w'):aU r K T fr st g dst ρ Φ v w':=by
 refine aU.new hl b ay.aX (j6 _) rfl hv ?_;have e:=ba (T:=T) (ay.aX (ρ:=ρ) (j:=st.c) (x:=x)) (aC.cJ.1 hl).2.2.1;show Sat (ab (ρ.set st.c x) T (st.G.set j row)++_) w';rw [gG a,e];exact hs
end
def Qa(P:Program)(T:aB)(g:GK)(Ev:Env)(o:Oper)(w:World)(O:Value->World->Prop):Prop:= ∃v,(∀w',bc P Ev (T.get g) o w' v)/\O v w
theorem Qa.ok2{P:Program}{T:aB}{g:GK}{Ev:Env}{o:Oper}{w:World}{O:Value->World->Prop}(h:Qa P T g Ev o w O):ny P T g Ev o w O:=by obtain ⟨v,c,a⟩:=h;exact ⟨λb=>bL.run (by have:=c w;rwa [b] at this) a,λ_=>⟨v,a⟩⟩
theorem bL.gd{P:Program}{E:Env}{dst:zf}{op:Op}{ty:TypeId}{pos:String}{af:zh}{gd:Option (Nat×Bool)}{w:World}{R:Value->World->Prop}(h:bL P E ⟨dst,op,ty,pos,af,none⟩ w R):bL P E ⟨dst,op,ty,pos,af,gd⟩ w R:=
 λn a b=>h n a b
def Ty.n':Ty->Nat
 | .i _|.bo|.s|.l _|.n=>1
 | .un|.mp _ _=>0
 | .p x y=>x.n'+y.n'
 | .ex=>4
theorem Ty.Ee:(t:Ty)->t.rep.n=t.n'
 | .i _|.bo|.s|.l _|.un|.n|.mp _ _|.ex=>rfl
 | .p x y=>by show x.rep.n+y.rep.n=_;rw [Ty.Ee x,Ty.Ee y];rfl
def ew:(t:Ty)->t.T->Nat->List AV×List Row×Nat
 | .i k,x,c=>([.int k x],[],c)
 | .bo,x,c=>([.bool x],[],c)
 | .s,x,c=>([.str x],[],c)
 | .un,_,c=>([],[],c)
 | .n,x,c=>([.ifc x (.agg [])],[],c)
 | .mp _ _,_,c=>([],[],c)
 | .p a b,x,c=>match ew a x.1 c with
  |(u,p,c)=>match ew b x.2 c with
   |(v,q,c)=>(u++v,p++q,c)
 | .l t,x,c=>([.sl c],[.sli none c t x false],c+1)
 | .ex,x,c=>([.int .i64 x.op,.int .i64 x.n,.int .i64 x.at_,.sl c],[.sli none c .ex x.l false],c+1)
structure ath(T:aB)(M:Nat->Prop)(w:World)(vs:zc)(c:Nat)(ρ ρ':ay)(m:List AV×List Row×Nat):Prop where
 ag:aS c ρ ρ'
 le:c<=m.2.2
 lw:AV.cq m.2.2 m.1=true
 eq:AV.al ρ' m.1=vs
 rl:∀r∈m.2.1,r.low m.2.2=true
 rs:∀r∈m.2.1,∃j t l,r= .sli none j t l false
 rp:∀r∈m.2.1,(r.item ρ' T).P M w
theorem Row.gZ{c d:Nat}(a:c<=d){r:Row}(h:r.low c=true):r.low d=true:=by
 cases r <;> simp only [Row.low,au,j5] at h ⊢
 .exact ⟨by omega,AV.mL a _ h.2⟩
 .omega
 .omega
 .omega
 .exact ⟨by omega,AV.mL a _ h.2⟩
 .omega
 .omega
 .exact ⟨by omega,AV.gZ a _ h.2⟩
theorem JA{T:aB}{M:Nat->Prop}{w:World}:(t:Ty)->(x:t.T)->(c:Nat)->(vs:zc)->t.rep.rd M w vs x->(ρ:ay)->∃ρ',ath T M w vs c ρ ρ' (ew t x c)
 | .i k,x,c,vs,h,ρ=>⟨ρ,.refl,cK _,rfl,by cases h;simp [ew,AV.al,AV.val],(λ_ h=>by cases h),(λ_ h=>by cases h),(λ_ h=>by cases h)⟩
 | .bo,x,c,vs,h,ρ=>⟨ρ,.refl,cK _,rfl,by cases h;simp [ew,AV.al,AV.val],(λ_ h=>by cases h),(λ_ h=>by cases h),(λ_ h=>by cases h)⟩
 | .s,x,c,vs,h,ρ=>⟨ρ,.refl,cK _,rfl,by cases h;simp [ew,AV.al,AV.val],(λ_ h=>by cases h),(λ_ h=>by cases h),(λ_ h=>by cases h)⟩
 | .un,x,c,vs,h,ρ=>⟨ρ,.refl,cK _,rfl,by cases h;simp [ew,AV.al],(λ_ h=>by cases h),(λ_ h=>by cases h),(λ_ h=>by cases h)⟩
 | .n,x,c,vs,h,ρ=>⟨ρ,.refl,cK _,rfl,by cases h;simp [ew,AV.al,AV.val],(λ_ h=>by cases h),(λ_ h=>by cases h),(λ_ h=>by cases h)⟩
 | .mp _ _,x,c,vs,h,ρ=>h.elim
 | .p a b,x,c,vs,h,ρ=>by
  obtain ⟨us,j,rfl,q,o⟩:=h;obtain ⟨g,m1⟩:=JA (T:=T) a x.1 c us q ρ;obtain ⟨f,e⟩:=JA (T:=T) b x.2 (ew a x.1 c).2.2 j o g;refine ⟨f,m1.ag.trans e.ag m1.le,dx m1.le e.le,Qn (AV.mL e.le _ m1.lw) e.lw,?_,λr d=>?_,λr d=>?_,λr d=>?_⟩
  .simp only [ew,dw];rw [AV.cd e.ag _ m1.lw,m1.eq,e.eq]
  .rcases List.mem_append.1 d with d|d
   .exact Row.gZ e.le (m1.rl r d)
   .exact e.rl r d
  .rcases List.mem_append.1 d with d|d
   .exact m1.rs r d
   .exact e.rs r d
  .rcases List.mem_append.1 d with d|d
   .rw [Row.Dr e.ag (m1.rl r d)];exact m1.rp r d
   .exact e.rp r d
 | .l t,x,c,vs,h,ρ=>by
  obtain ⟨v,rfl,h⟩:=h;refine ⟨ρ.set c { dA with v:=v },ay.aX,j6 _,by simp [ew,AV.cq,AV.low],by simp [ew,AV.al,AV.val,ay.bJ],λr d=>?_,λr d=>?_,λr d=>?_⟩
  .simp only [ew,mi] at d;subst d;simp [Row.low,ew]
  .simp only [ew,mi] at d;subst d;exact ⟨_,_,_,rfl⟩
  .simp only [ew,mi] at d;subst d;simp only [Row.item,ay.bJ];exact λ_=>⟨h,λhb=>by cases hb⟩
 | .ex,x,c,vs,h,ρ=>by
  obtain ⟨v,rfl,m⟩:=Ka h;refine ⟨ρ.set c { dA with v:=v },ay.aX,j6 _,by simp [ew,AV.cq,AV.low],by simp [ew,AV.al,AV.val,ay.bJ],λr d=>?_,λr d=>?_,λr d=>?_⟩
  .simp only [ew,mi] at d;subst d;simp [Row.low,ew]
  .simp only [ew,mi] at d;subst d;exact ⟨_,_,_,rfl⟩
  .simp only [ew,mi] at d;subst d;simp only [Row.item,ay.bJ];exact λ_=>⟨m,λhb=>by cases hb⟩
theorem ND:(t:Ty)->(x:t.T)->(c:Nat)->c<=(ew t x c).2.2
 | .i _,_,_|.bo,_,_|.s,_,_|.un,_,_|.n,_,_|.mp _ _,_,_=>cK _
 | .p a b,x,c=>dx (ND a x.1 c) (ND b x.2 _)
 | .l _,_,_|.ex,_,_=>j6 _
theorem NF:(t:Ty)->(x:t.T)->(c:Nat)->∀r∈(ew t x c).2.1,∃j t l,r= .sli none j t l false
 | .i _,_,_,_,h|.bo,_,_,_,h|.s,_,_,_,h|.un,_,_,_,h|.n,_,_,_,h|.mp _ _,_,_,_,h=>by cases h
 | .p a b,x,c,r,h=>by
  rcases List.mem_append.1 h with h|h
  .exact NF a x.1 c r h
  .exact NF b x.2 _ r h
 | .l _,_,_,r,h=>by
  simp only [ew,mi] at h;subst h;exact ⟨_,_,_,rfl⟩
 | .ex,_,_,r,h=>by simp only [ew,mi] at h;subst h;exact ⟨_,_,_,rfl⟩
def yp(g:GK)(r:Row):Row:=match g,r with
 |none,r=>r
 |some g,.sli _ id t l b=> .sli (some g) id t l b
 |some _,r=>r
theorem xI{ρ:ay}{T:aB}{g:GK}{M:Nat->Prop}{w:World}{j:Nat}{t:Ty}{l:List t.T}(h:T.get g=true->((Row.sli none j t l false).item ρ T).P M w):
  ((yp g (.sli none j t l false)).item ρ T).cO=true/\((yp g (.sli none j t l false)).item ρ T).P M w:=by
 cases g with
 |none=>exact ⟨rfl,h (aB.get_none)⟩
 |some k=>
  refine ⟨rfl,λa=>?_⟩;exact h a (aB.get_none)
theorem Fe{Γ:Ctx}{w:World}(h:Sat Γ w):∀(new:List Item),(∀it∈new,it.cO=true/\it.P Γ.M w)->Sat (new++Γ) w:=λnew hn=>by
 have key:∀new:List Item,(∀it∈new,it.cO=true/\it.P Γ.M w)->new.all (·.cO)=true/\agU Γ.M w new:=λnew=>by
  induction new with
  |nil=>exact λ_=>⟨rfl,trivial⟩
  |cons it l ih=>
   intro hn;obtain ⟨f,e⟩:=ih (λa b=>hn a (cp _ b));obtain ⟨d,c⟩:=hn it (c8 ..);exact ⟨by simp only [qp,au];exact ⟨d,f⟩,c,e⟩
 exact h.akJ new (key new hn).1 (key new hn).2
def vN(G H:List Row)(t:Ty)(v:AV):Option (List t.T):=match v with
 | .sl j=>(match eM G H (rn j) with
  |some (_,.sli none _ t' l _)=>cr.asL t ⟨.l t',l⟩
  |_=>none)
 | .raw (.slice none 0 0)=>some []
 |_=>none where cr.asL (t:Ty) (d:cr):Option (List t.T):=d.as (.l t)
theorem um{t t':Ty}{l:List t'.T}{l':List t.T}(h:vN.cr.asL t ⟨.l t',l⟩=some l'):∃e:t'=t,e▸l=l':=by have:=cr.Pp h;cases this;exact ⟨rfl,rfl⟩
theorem Pn{ρ:ay}{T:aB}{G H:List Row}{Φ:Ctx}{w:World}{t:Ty}{v:AV}{l:List t.T}(c:Sat (ab ρ T G++(ab ρ T H++Φ)) w)(h:vN G H t v=some l):
  bT t.rep (Ctx.M (ab ρ T G++(ab ρ T H++Φ))) w (v.val ρ) l:=by
 unfold vN at h;split at h
 .rename_i j;split at h
  next s a t' l' b d=>obtain ⟨f,e⟩:=bZ d;have:a=j:=b0 e;subst this;obtain ⟨rfl,rfl⟩:=um h;simp only [AV.val];exact ((Src.holds c f) aB.get_none).1
  .cases h
 .cases h;simp only [AV.val];exact bT.nil
 .cases h
def uy(G H:List Row):(t:Ty)->List AV->Option (t.T×List AV)
 | .i k,vs=>(match vs with
  | .int k' x::vs=>aD ( j3 k k' ) ( some (x,vs) ) none
  |_=>none)
 | .bo,vs=>(match vs with
  | .bool x::vs=>some (x,vs)
  |_=>none)
 | .s,vs=>(match vs with
  | .str x::vs=>some (x,vs)
  |_=>none)
 | .un,vs=>some ((),vs)
 | .n,vs=>(match vs with
  | .ifc t (.agg [])::vs=>some (t,vs)
  |_=>none)
 | .p a b,vs=>(match uy G H a vs with
  |some x=>(match uy G H b x.2 with
   |some y=>some ((x.1,y.1),y.2)
   |none=>none)
  |none=>none)
 | .l t,vs=>(match vs with
  |v::vs=>(match vN G H t v with
   |some l=>some (l,vs)
   |none=>none)
  |_=>none)
 | .ex,vs=>(match vs with
  | .int .i64 a:: .int .i64 b:: .int .i64 c::v::vs=>(match vN G H .ex v with
   |some l=>some (Ex.mk a b c l,vs)
   |none=>none)
  |_=>none)
 |_,_=>none
theorem S8{ρ:ay}{T:aB}{G H:List Row}{Φ:Ctx}{w:World}(d:Sat (ab ρ T G++(ab ρ T H++Φ)) w):(t:Ty)->(vs:List AV)->(x:t.T×List AV)->uy G H t vs=some x->
  ∃us,vs=us++x.2/\t.rep.rd (Ctx.M (ab ρ T G++(ab ρ T H++Φ))) w (AV.al ρ us) x.1
 | .i k,vs,x,h=>by
  unfold uy at h;split at h
  next r y us=>obtain ⟨g,f⟩:=aI h;have:=om g;subst this;cases f;exact ⟨[.int k y],rfl,by simp only [AV.al,AV.val];rfl⟩
  .cases h
 | .bo,vs,x,h=>by
  unfold uy at h;split at h
  next y us=>cases h;exact ⟨[.bool y],rfl,by simp only [AV.al,AV.val];rfl⟩
  .cases h
 | .s,vs,x,h=>by
  unfold uy at h;split at h
  next y us=>cases h;exact ⟨[.str y],rfl,by simp only [AV.al,AV.val];rfl⟩
  .cases h
 | .un,vs,x,h=>by
  unfold uy at h;cases h;exact ⟨[],rfl,by simp only [AV.al];rfl⟩
 | .n,vs,x,h=>by
  unfold uy at h;split at h
  next t us=>cases h;exact ⟨[.ifc t (.agg [])],rfl,by simp only [AV.al,AV.val];rfl⟩
  .cases h
 | .mp _ _,vs,x,h=>by unfold uy at h;cases h
 | .p a b,vs,x,h=>by
  unfold uy at h;split at h
  .rename_i y m;split at h
   next z j=>cases h;obtain ⟨us,q,g⟩:=S8 d a vs y m;obtain ⟨e,o,f⟩:=S8 d b y.2 z j;refine ⟨us++e,by rw [q,o,cx],?_⟩;rw [dw];exact ⟨_,_,rfl,g,f⟩
   .cases h
  .cases h
 | .l t,vs,x,h=>by
  unfold uy at h;split at h
  .rename_i v us;split at h
   next l hl=>cases h;refine ⟨[v],rfl,?_⟩;simp only [AV.al];exact (Pn d hl).rsl
   .cases h
  .cases h
 | .ex,vs,x,h=>by
  unfold uy at h;split at h
  .rename_i a b c v us;split at h
   next l hl=>cases h;refine ⟨[.int .i64 a,.int .i64 b,.int .i64 c,v],rfl,?_⟩;simp only [AV.al,AV.val];exact PY (Pn d hl).rsl
   .cases h
  .cases h
def rd1(G H:List Row)(t:Ty)(vs:List AV):Option t.T:=match uy G H t vs with
 |some (x,[])=>some x
 |_=>none
theorem ajw{ρ:ay}{T:aB}{G H:List Row}{Φ:Ctx}{w:World}(c:Sat (ab ρ T G++(ab ρ T H++Φ)) w){t:Ty}{vs:List AV}{x:t.T}(h:rd1 G H t vs=some x):
  t.rep.rd (Ctx.M (ab ρ T G++(ab ρ T H++Φ))) w (AV.al ρ vs) x:=by
 unfold rd1 at h;split at h
 next y b=>cases h;obtain ⟨us,a,d⟩:=S8 c t vs _ b;simp only [ko] at a;rw [a];exact d
 .cases h
def rdL(G H:List Row)(t:Ty):Nat->List AV->Option (List t.T)
 |0,vs=>(match vs with
  |[]=>some []
  |_=>none)
 |k+1,vs=>(match uy G H t vs with
  |some x=>(match rdL G H t k x.2 with
   |some l=>some (x.1::l)
   |none=>none)
  |none=>none)
theorem UZ{ρ:ay}{T:aB}{G H:List Row}{Φ:Ctx}{w:World}(a:Sat (ab ρ T G++(ab ρ T H++Φ)) w){t:Ty}:(k:Nat)->(vs:List AV)->(l:List t.T)->rdL G H t k vs=some l->
  l.length=k/\cV t.rep (Ctx.M (ab ρ T G++(ab ρ T H++Φ))) w (AV.al ρ vs) l
 |0,vs,l,h=>by
  unfold rdL at h;split at h
  .cases h;exact ⟨rfl,by simp only [AV.al];exact cV.nil⟩
  .cases h
 |k+1,vs,l,h=>by
  unfold rdL at h;split at h
  .rename_i x hx;split at h
   next l' hl=>cases h;obtain ⟨us,e,d⟩:=S8 a t vs x hx;obtain ⟨c,b⟩:=UZ a k x.2 l' hl;refine ⟨by simp [c],?_⟩;rw [e,dw];exact cV.cons d b
   .cases h
  .cases h
def cB(ids:zm):List Row->List Row
 |[]=>[]
 |r::G=>(match r with
  | .own id t e l ver=>aD ( wQ id ids ) ( .sli none id t l false )<| .own id t e l ver
  |r=>r)::cB ids G
theorem aeA{ρ:ay}{T:aB}{ids:zm}{w:World}:{G:List Row}->{A B:Ctx}->Sat (A++(ab ρ T G++B)) w->Sat (A++(ab ρ T (cB ids G)++B)) w
 |[],_,_,h=>h
 |r::G,A,B,h=>by
  have step:∀c:Row,Sat (A++(ab ρ T (c::G)++B)) w->Sat (A++(ab ρ T (c::cB ids G)++B)) w:=λc h=>by
   have f:Sat ((A++[c.item ρ T])++(ab ρ T G++B)) w:=by simpa [ab] using h
   have:=aeA (ids:=ids) f;simpa [ab] using this
  unfold cB;split
  .rename_i id t e l a;cases hm:wQ id ids
   .exact step _ h
   .refine step _ ?_;have hi:(A++(ab ρ T (Row.own id t e l a::G)++B))[A.length]? =some (uf t.rep e (ρ id).v l ((ρ a).y=⟨.l t,l⟩)):=by rw [de (cK _)];simp [ab,Row.item]
    have d:=h.mM hi (new:=(Row.sli none id t l false).item ρ T) ((Ext.refl w).xt _) (λb hb=>by cases hb) (λM' m hn=>λ_=>⟨(h.at_ hi).1.freeze (λb hb=>hn b hb (λhb=>by cases hb)) m,λhb=>by cases hb⟩);rw [sv _ _ (cK _)] at d;simpa [ab] using d
  .exact step _ h
theorem uX{c:Nat}{ids:zm}:{G:List Row}->bD c G=true->bD c (cB ids G)=true
 |[],_=>rfl
 |r::G,h=>by
  simp only [bD,au] at h;unfold cB;simp only [bD,au];refine ⟨?_,uX h.2⟩;split
  .rename_i id t e l b;have a:=h.1;simp only [Row.low,au] at a;cases wQ id ids
   .simp only [Row.low,au];exact a
   .simp only [Row.low];exact a.1
  .exact h.1
theorem lQ{ρ:ay}{T:aB}{ids:zm}{w:World}{G:List Row}{B:Ctx}(h:Sat (ab ρ T G++B) w):Sat (ab ρ T (cB ids G)++B) w:=aeA (A:=[]) h
def AV.fJ:AV->zm
 | .sl id=>[id]
 | .agg l=>sls0 l
 |_=>[] where sls0:List AV->zm
 |[]=>[]
 | .sl id::l=>id::sls0 l
 |_::l=>sls0 l
section
variable {X : Cx} {R : Type} {r : R} {K : cL R} {T : aB} {fr : Fr} {st : aC} {g : GK} {d : Tmp} {ρ : ay} {Φ : Ctx} {w : World} {ty : TypeId} {pos : String} {af : zh} {gd : w4}
theorem ny.none_{P:Program}{Ev:Env}{o:Oper}{O:Value->World->Prop}(h:bL P Ev o w O):ny P T none Ev o w O:=⟨λ_=>h,λa=>by simp_all⟩
def Za(P:Program)(t:TypeId):Option (List AV):=match pL P t with
 |some z=>some (z.2.2.cells.toList.map nU)
 |none=>none
def ahJ(st:aC)(d:Tmp)(t:TypeId)(cs:List AV)(K:cL R):Option R:=K { st with c:=st.c+1,E:=cM (some d) none (.ptr st.c 0) st.E,G:= .box st.c t cs::st.G }
theorem aap{t:TypeId}{cs:List AV}(hl:st.low fr=true)(e:Sat (ab ρ T st.G++(ab ρ T fr.H++Φ)) w)(a:AV.cq st.c cs=true)(h:ahJ st d t cs K=some r):
  aU r K T fr st none (some d) ρ Φ (.pointer (some ⟨w.heap.size,0,none⟩)) (w.alloc (.cells (AV.al ρ cs).toArray t)):=by
 refine aU.push (x:={ dA with b:=w.heap.size }) hl h (by simp [AV.val,ay.bJ]) ?_;simp [Row.item,ay.bJ];rw [AV.cd ay.aX _ a];exact e.push (gw _ _) (λb hb=>by simp_all [box]) (λ_ _=>heap_alloc_new w _)
def aaZ(X:Cx)(st:aC)(d:Tmp)(t:TypeId)(K:cL R):Option R:=match Za X.P t with
 |some cs=>ahJ st d t cs K
 |none=>none
theorem ah9{t:TypeId}(hl:st.low fr=true)(e:Sat (ab ρ T st.G++(ab ρ T fr.H++Φ)) w)(h:aaZ X st d t K=some r):
  ny X.P T none (az ρ T st.E fr.F) ⟨some d,.alloc t,ty,pos,af,gd⟩ w (aU r K T fr st none (some d) ρ Φ):=by
 unfold aaZ at h;split at h
 .rename_i cs a;unfold Za at a;split at a
  next z c=>cases a;obtain ⟨n,b,z⟩:=z;refine .none_ (bL.gd (bL.tl (LA (zs:=z.cells.toList) (cT c) (by simp)) ?_));have:=aap hl e ZV h;rwa [sf] at this
  .cases a
 .cases h
def akU(T:aB)(fr:Fr)(st:aC)(d:Tmp)(t:TypeId)(x:Operand)(K:cL R):Option R:=match bw T st.E fr.F none x with
 |some v=>aD ( Nq v&&AV.cq st.c (dU v) ) ( ahJ st d t (dU v) K ) none
 |none=>none
theorem aqD{t:TypeId}(hl:st.low fr=true)(c:Sat (ab ρ T st.G++(ab ρ T fr.H++Φ)) w)(h:akU T fr st d t x K=some r):
  ny X.P T none (az ρ T st.E fr.F) ⟨some d,.box t x,ty,pos,af,gd⟩ w (aU r K T fr st none (some d) ρ Φ):=by
 unfold akU at h;split at h
 next v b=>obtain ⟨a,e⟩:=aI h;simp at a;exact .none_ (bL.gd (bL.tl (aml (bK b) (Ca a.1)) (aap hl c a.2 e)))
 .cases h
def ags:AV->Bool
 | .agg _|.tuple _|.nv _=>false
 | .raw v=>v.oneCell'
 |_=>true
theorem amq{v:AV}(h:ags v=true):(v.val ρ).oneCell'=true:=by
 cases v with
 |agg l=>cases h
 |tuple l=>cases h
 |nv l=>cases h
 |raw v=>exact h
 |_=>rfl
theorem OK:{l:List AV}->l.all ags=true->(AV.al ρ l).all Value.oneCell'=true
 |[],_=>by simp [AV.al]
 |v::l,h=>by simp only [qp,au] at h;simp only [AV.al,qp,au];exact ⟨amq h.1,OK h.2⟩
def aat(P:Program)(st:aC)(t:TypeId)(id off:Nat)(v:AV)(K:cL R):Option R:=match tE (Bv id) st.G with
 |some (j,.box _ e vs)=>(match pL P t with
  |some z=>aD ( Nq v&&(dU v).all ags&&Nat.beq (dU v).length z.1&&Nat.ble (off+(dU v).length) vs.length ) (
    K { st with G:=st.G.set j (.box id e (xH vs off (dU v))) } ) none
  |none=>none)
 |_=>none
theorem aio{t:TypeId}{id a:Nat}{v:AV}(i:Sat (ab ρ T st.G++(ab ρ T fr.H++Φ)) w)(hx:bw T st.E fr.F none x=some (.ptr id a))(o:bw T st.E fr.F none y=some v)(h:aat X.P st t id a v K=some r):
  bL X.P (az ρ T st.E fr.F) ⟨none,.store t x y,ty,pos,af,gd⟩ w (aU r K T fr st none none ρ Φ):=by
 unfold aat at h;split at h
 .rename_i j d e vs s;split at h
  .rename_i z n;obtain ⟨l,u⟩:=aI h;simp only [au] at l;obtain ⟨⟨⟨C,B⟩,J⟩,I⟩:=l;obtain ⟨m,A⟩:=pI s;have  :=b0 A;subst this;have g:=bK (ρ:=ρ) hx;have f:=bK (ρ:=ρ) o;have hi:=iR (ρ:=ρ) (T:=T) (Φ:=ab ρ T fr.H++Φ) m;have hb  :=i.at_ hi;obtain ⟨p,hC,k⟩:=afV (cT n) g f (Ca C) (by grind [AV.bF,Nat.eq_of_beq_eq_true]) (OK B) hb (by grind [AV.bF]) Bw;refine bL.gd (bL.afT p (aU.lC (av:= .raw undef) u (cK _) rfl (by simp [AV.val]) ?_));have q  :=(List.getElem?_eq_some_iff.1 m).1;rw [gG q];refine i.mM hi hC (λc D=>?_) (λ_ _ _=>k);have:c=(ρ d).b:=by grind [Row.item,box]
   subst this;exact ⟨k.lt,.inl (by simp [Row.item,box])⟩
  .cases h
 .cases h
theorem adU{t:Ty}{p:jU}{l l':List t.T}{q q':Prop}{i:Nat}{Γ:Ctx}{w':World}(b:Sat Γ w)(hi:Γ[i]? =some (uf t.rep e p l q))(f:q')(hC:mO (dW (sl p)) w w')(a:w'.heap.size=w.heap.size)(g:BO p=dW (sl p))
  (h:∀M',Mv Γ.M w M' w'->kD t.rep e M' w' (sl p) l'):Sat (Γ.set i (uf t.rep e p l' q')) w':=by
 refine b.mM hi (by rw [<-g] at hC;exact hC) (λc d=>⟨by rw [a];exact (b.at_ hi).1.lt c d,.inl d⟩) (λM' m _=>⟨?_,f⟩);grind [cj,BO,cj.of]
theorem vj{c:Nat}:∀{G:List Row} {j:Nat} {r:Row},bD c G=true->G[j]? =some r->r.low c=true:=λ{G}=>by
 induction G with
 |nil=>grind
 |cons r0 G ih=>
  intro j r h a;simp [bD] at h;grind
def aah(P:Program)(fr:Fr)(st:aC)(t:TypeId)(q off:Nat)(v:AV)(K:cL R):Option R:=
 match eM (cB (AV.fJ.sls0 (dU v)) st.G) fr.H (Rm q) with
 |some (_,.kn none _ id ver u i x)=>(match tE (rn id) (cB (AV.fJ.sls0 (dU v)) st.G) with
  |some (j,.own _ u' e l ver')=>(match pL P t with
   |some z=>aD ( Nat.beq ver ver'&&Nq v&&(dU v).all ags&&Nat.beq (dU v).length z.1&&AV.cq st.c (dU v) ) (
     aD ( Nat.beq off 0&&Nat.beq (dU v).length u'.n' ) ( match rd1 (cB (AV.fJ.sls0 (dU v)) st.G) fr.H u' (dU v) with
      |some y=>K { st with c:=st.c+1,G:=(cB (AV.fJ.sls0 (dU v)) st.G).set j (.own id u' e (List.set l i.toNat y) st.c) }
      |none=>none )<|
      aD ( Nat.ble (off+(dU v).length) (ew u x (st.c+1)).1.length ) ( match rd1 ((ew u x (st.c+1)).2.1++cB (AV.fJ.sls0 (dU v)) st.G) fr.H u' (xH (ew u x (st.c+1)).1 off (dU v)) with
       |some y=>K { st with c:=(ew u x (st.c+1)).2.2,G:=(ew u x (st.c+1)).2.1++(cB (AV.fJ.sls0 (dU v)) st.G).set j (.own id u' e (List.set l i.toNat y) st.c) }
       |none=>none ) none ) none
   |none=>none)
  |_=>none)
 |_=>none
theorem aiz{t:TypeId}{q N:Nat}{v:AV}(hl:st.low fr=true)(p:Sat (ab ρ T st.G++(ab ρ T fr.H++Φ)) w)(hx:bw T st.E fr.F none x=some (.adr q N))(hy:bw T st.E fr.F none y=some v)(h:aah X.P fr st t q N v K=some r):
  bL X.P (az ρ T st.E fr.F) ⟨none,.store t x y,ty,pos,af,gd⟩ w (aU r K T fr st none none ρ Φ):=by
 unfold aah at h;have g:=uX (ids:=AV.fJ.sls0 (dU v)) (aC.cJ.1 hl).2.2.1;replace p:=lQ (ids:=AV.fJ.sls0 (dU v)) p;generalize cB (AV.fJ.sls0 (dU v)) st.G=G at h g p;split at h
 .rename_i s q' id Y u i xe hf;split at h
  .rename_i j B u' e l ver' S;split at h
   .rename_i z hz;obtain ⟨n,bytes,z⟩:=z;obtain ⟨h1,h2⟩:=aI h;simp only [au] at h1;obtain ⟨⟨⟨⟨a1,a2⟩,a3⟩,a4⟩,a5⟩:=h1;obtain ⟨f1,f2⟩:=bZ hf;obtain ⟨k1,k2⟩:=pI S;have e1  :=b0 f2;have e2  :=b0 k2;have e3  :=b0 a1;subst e1;subst e2;subst e3;have o:=bK (ρ:=ρ) hx;have O:=bK (ρ:=ρ) hy;simp [AV.val] at o;obtain ⟨l0,b1,b2,b3⟩:=(Src.holds p f1) aB.get_none;have hi:=iR (ρ:=ρ) (T:=T) (Φ:=ab ρ T fr.H++Φ) k1;obtain ⟨c1,c2⟩:=p.at_ hi;obtain ⟨e4,e5⟩:=O9 b1 c2;subst e4;subst e5;obtain ⟨o1,o2⟩:=c1.jW b2;obtain ⟨o3,M,o4,Z⟩:=c1.atA b2;have hj  :=(List.getElem?_eq_some_iff.1 k1).1;have U:(AV.al ρ (dU v)).length=n:=by rw [AV.bF];exact b0 a4
    rw [b3] at o;rcases eo h2 with ⟨h3,V⟩|⟨_,V⟩
    .simp only [au] at h3;have e6  :=b0 h3.1;subst e6;split at V
     .rename_i A k;have f:=ajw p k;have I  :=u.rep.len Z;have hlu  :=u.rep.len f;have Q:sJ M 0 (AV.al ρ (dU v))=AV.al ρ (dU v):=by unfold sJ;simp only [ua,p5];rw [qg (by omega),ko]
      obtain ⟨w',S,hC,C,hP⟩:=LK (cT hz) o O (Ca a2) U (OK a3) o3 o1 o4 I (qI (by omega)) Q f (λb hb=>Ctx.lh hi (by rw [<-o2] at hb;exact hb));refine bL.gd (bL.afT S (aU.new (ρ':=ρ.set st.c { dA with y:=⟨.l u,List.set l0 i.toNat A⟩ }) (av:= .raw undef) hl V ay.aX (j6 _) rfl (by simp [AV.val]) ?_));rw [gG hj,ba ay.aX g];have:=adU (q':=((ρ.set st.c { dA with y:=⟨.l u,List.set l0 i.toNat A⟩ }) st.c).y=⟨.l u,List.set l0 i.toNat A⟩) p hi (by rw [ay.bJ]) hC C o2 hP;have J:(ρ.set st.c { dA with y:=⟨.l u,List.set l0 i.toNat A⟩ }) B=ρ B:=by have a:=vj g k1;simp [Row.low,au,j5] at a;exact ay.aX _ a.1
      simp [Row.item,J];exact this
     .cases V
    .obtain ⟨h5,W⟩:=aI V;split at W
     .rename_i A k;obtain ⟨d,m1⟩:=JA (T:=T) u xe (st.c+1) M Z (ρ.set st.c { dA with y:=⟨.l u,List.set l0 i.toNat A⟩ });have ag  :=ay.aX.trans m1.ag (j6 _);generalize ew u xe (st.c+1)=m at h5 W k m1;have D  :=Fe p _ (λit bI=>by obtain ⟨r,R,rfl⟩:=List.mem_map.1 bI;obtain ⟨j1,t1,l1,rfl⟩:=m1.rs _ R;exact ⟨rfl,m1.rp _ R⟩)
      have eG:=ba (T:=T) ag g;have eH:=ba (T:=T) ag (aC.cJ.1 hl).2.2.2;have hs2:Sat (ab d T (m.2.1++G)++(ab d T fr.H++Φ)) w:=by rw [bg,cx,eG,eH];exact D
      have f:=ajw hs2 k;rw [bg,cx,eG,eH,<-Bw,m1.eq,AV.cd ag _ a5] at f;have L:(ab d T m.2.1++(ab ρ T G++(ab ρ T fr.H++Φ)))[m.2.1.length+j]? =some ((Row.own B u e l0 Y).item ρ T):=by
       rw [de (by simp )];have:m.2.1.length+j-(ab d T m.2.1).length=j:=by simp 
       rw [this];exact hi
      obtain ⟨d1,d2⟩:=D.at_ L;obtain ⟨p1,p2⟩:=d1.jW b2;have I  :=u.rep.len Z;obtain ⟨w',S,hC,C,hP⟩:=LK (cT hz) o O (Ca a2) U (OK a3) o3 p1 o4 I (by have:=m1.eq;rw [<-this,AV.bF,AV.bF];exact h5) rfl f (λb hb=>Ctx.lh L (by rw [<-p2] at hb;exact hb))
      refine bL.gd (bL.afT S (aU.new (av:= .raw undef) hl W ag (dx (j6 _) m1.le) rfl (by simp [AV.val]) ?_));have hy1:(d st.c).y=⟨.l u,List.set l0 i.toNat A⟩:=by rw [m1.ag _ (l7 _),ay.bJ]
      have:=adU D L hy1 hC C p2 hP;have a:=vj g k1;simp [Row.low,au,j5] at a;rw [bg,cx,gG hj,eG];rw [sv _ _ (by simp )] at this;have e7:m.2.1.length+j-(ab d T m.2.1).length=j:=by simp 
      rw [e7] at this;simp [Row.item,ag _ a.1];exact this
     .cases W
   .cases h
  .cases h
 .cases h
end
section
variable {X : Cx} {R : Type} {r : R} {K : cL R} {T : aB} {fr : Fr} {st : aC} {g : GK} {d : Tmp} {ρ : ay} {Φ : Ctx} {w : World} {ty : TypeId} {pos : String} {af : zh} {gd : w4}
def Zk{α:Type}(T:aB)(g:GK)(z:α)(m:Option α)(k:α->Option R):Option R:=match g with
 |none=>m.bind k
 |some _=>bm (T.get g) z m k
theorem DJ{α:Type}{z:α}{m:Option α}{k:α->Option R}(h:Zk T g z m k=some r):∃y,(T.get g=true->m=some y)/\k y=some r:=by
 unfold Zk at h;split at h
 .obtain ⟨y,b,a⟩:=iJ h;exact ⟨y,λ_=>b,a⟩
 .obtain ⟨y,b,_,a⟩:=Vd h;exact ⟨y,b,a⟩
def aro(T:aB)(g:GK)(st:aC)(d:Tmp)(t:Ty)(l:List t.T)(i:Int)(K:cL R):Option R:=
 Zk T g t.uM (idx l i) λx=>K { st with c:=(ew t x (st.c+1)).2.2,E:=cM (some d) g (.adr st.c 0) st.E,G:= .elm g st.c (ew t x (st.c+1)).1::((ew t x (st.c+1)).2.1.map (yp g)++st.G) }
def ase(T:aB)(g:GK)(st:aC)(d:Tmp)(id ver:Nat)(t:Ty)(l:List t.T)(i:Int)(K:cL R):Option R:=
 Zk T g t.uM (idx l i) λx=>K { st with c:=st.c+1,E:=cM (some d) g (.adr st.c 0) st.E,G:= .kn g st.c id ver t i x::st.G }
def agi(X:Cx)(T:aB)(fr:Fr)(st:aC)(g:GK)(d:Tmp)(t:TypeId)(x y:Operand)(K:cL R):Option R:=match jK X.P t with
 |some e=>(match pL X.P e with
  |some z=>(match bw T st.E fr.F g x with
   |some (.sl id)=>(match bw T st.E fr.F g y with
    |some (.int _ i)=>(match eM st.G fr.H (rn id) with
     |some (_,.sli g' _ t l _)=>aD ( T.imp g g'&&Nat.beq z.1 t.n' ) ( aro T g st d t l i K ) none
     |some (_,.own _ t _ l ver)=>aD ( Nat.beq z.1 t.n' ) ( ase T g st d id ver t l i K ) none
     |_=>none)
    |_=>none)
   |_=>none)
  |none=>none)
 |none=>none
theorem adY{t:TypeId}(hl:st.low fr=true)(Q:Sat (ab ρ T st.G++(ab ρ T fr.H++Φ)) w)(h:agi X T fr st g d t x y K=some r):
  Qa X.P T g (az ρ T st.E fr.F) ⟨some d,.indexAddr t x y,ty,pos,af,gd⟩ w (aU r K T fr st g (some d) ρ Φ):=by
 unfold agi at h;split at h
 .rename_i e he;split at h
  .rename_i z hz;obtain ⟨n,bytes,z⟩:=z;split at h
   .rename_i id hx;split at h
    .rename_i k i hy;have D:=aP (ρ:=ρ) hx;have C:=aP (ρ:=ρ) hy;simp only [AV.val] at D C;split at h
     .rename_i s g' m t l b W;obtain ⟨O,Y⟩:=aI h;simp only [au] at O;have hn:n=t.rep.n:=(b0 O.2).trans t.Ee.symm;obtain ⟨J,Z⟩:=bZ W;have:m=id:=b0 Z;subst this;obtain ⟨u,R,b2⟩:=DJ Y;have hT:=Src.holds Q J
      -- the element, where g holds
      have key:∃(p:Addr) (f:ay),aS st.c ρ f/\(f st.c).a=p/\(T.get g=true->Cz (sl (ρ m).v) i n p)/\
        ∀it∈ab f T (.elm g st.c (ew t u (st.c+1)).1::((ew t u (st.c+1)).2.1.map (yp g))),it.cO=true/\it.P (Ctx.M (ab ρ T st.G++(ab ρ T fr.H++Φ))) w:=by
       cases B:T.get g
       .refine ⟨⟨0,0,none⟩,ρ.set st.c dA,ay.aX,by rw [ay.bJ];rfl,(λh=>by cases h),λit bI=>?_⟩;rw [ab,e9] at bI;rcases List.mem_cons.1 bI with rfl|bI
        .exact ⟨rfl,λh=>by rw [B] at h;cases h⟩
        .obtain ⟨r1,I,rfl⟩:=List.mem_map.1 bI;obtain ⟨r2,q,rfl⟩:=List.mem_map.1 I;obtain ⟨j1,t1,l1,rfl⟩:=NF _ _ _ _ q;exact xI (λh=>by rw [B] at h;cases h)
       .have hS:=(hT (aB.np O.1 B)).1;obtain ⟨e1,vs,e2,e3,e4⟩:=hS.atA (R B);obtain ⟨f,m1⟩:=JA (T:=T) t u (st.c+1) vs e3 (ρ.set st.c { dA with a:=vq (sl (ρ m).v) i t.rep.n });have N:(f st.c).a=vq (sl (ρ m).v) i t.rep.n:=by rw [m1.ag _ (l7 _),ay.bJ]
        refine ⟨vq (sl (ρ m).v) i t.rep.n,f,ay.aX.trans m1.ag (j6 _),N,λ_=>by rw [hn];exact e1,λit bI=>?_⟩;rw [ab,e9] at bI;rcases List.mem_cons.1 bI with rfl|bI
        .refine ⟨rfl,λ_=>?_⟩;show ¬Ctx.M _ (f st.c).a.block/\bN w (f st.c).a _;rw [N,m1.eq];exact ⟨e4,e2⟩
        .obtain ⟨r1,I,rfl⟩:=List.mem_map.1 bI;obtain ⟨r2,q,rfl⟩:=List.mem_map.1 I;have V:=m1.rp _ q;obtain ⟨j1,t1,l1,rfl⟩:=m1.rs _ q;exact xI (λ_=>V)
      obtain ⟨p,f,k1,k2,k3,k4⟩:=key;have U:=Fe Q _ k4;have eG:=ba (T:=T) k1 (aC.cJ.1 hl).2.2.1;have o:aU r K T fr st g (some d) ρ Φ (.pointer (some p)) w:=by
       refine aU.new (ρ':=f) hl b2 k1 (dx (j6 _) (ND _ _ _)) rfl (by simp only [AV.val,k2];simp [Addr.add]) ?_;show Sat (ab f T (Row.elm g st.c _::(_++st.G))++_) w;have e8:ab f T (Row.elm g st.c (ew t u (st.c+1)).1::((ew t u (st.c+1)).2.1.map (yp g)++st.G))=ab f T (.elm g st.c (ew t u (st.c+1)).1::((ew t u (st.c+1)).2.1.map (yp g)))++ab f T st.G:=by simp [ab]
       rw [e8,eG,cx];exact U
      exact ⟨_,λw'=>Qw (cw he) (cT hz) D C k3,o⟩
     .rename_i s m t e' l L W;obtain ⟨O,Y⟩:=aI h;have hn:n=t.rep.n:=(b0 O).trans t.Ee.symm;obtain ⟨J,Z⟩:=bZ W;have:m=id:=b0 Z;subst this;obtain ⟨u,R,b2⟩:=DJ Y;obtain ⟨hO,S⟩:=Src.holds Q J;have A:m<st.c/\L<st.c:=by
       have:(Row.own m t e' l L).low st.c=true:=by
        cases s with
        |top j=>exact vj (aC.cJ.1 hl).2.2.1 J
        |cB j=>exact vj (aC.cJ.1 hl).2.2.2 J
        |_=>exact J.elim
       simpa only [Row.low,au,j5] using this
      have o:aU r K T fr st g (some d) ρ Φ (.pointer (some (vq (sl (ρ m).v) i t.rep.n))) w:=by refine aU.push (x:={ dA with a:=vq (sl (ρ m).v) i t.rep.n }) hl b2 (by simp only [AV.val,ay.bJ];simp [Addr.add]) (Q.add rfl ?_);intro B;rw [ay.aX _ A.1,ay.aX _ A.2,ay.bJ];exact ⟨l,S,R B,rfl⟩
      exact ⟨_,λw'=>Qw (cw he) (cT hz) D C (λB=>by rw [hn];exact (hO.atA (R B)).1),o⟩
     .cases h
    .cases h
   .cases h
  .cases h
 .cases h
def S2(X:Cx)(T:aB)(fr:Fr)(st:aC)(g:GK)(d:Tmp)(t:TypeId)(q off:Nat)(K:cL R):Option R:=match eM st.G fr.H (Rm q) with
 |some (_,.kn g' _ id ver u _ x)=>(match eM st.G fr.H (rn id) with
  |some (_,.own _ _ _ _ ver')=>aD ( Nat.beq ver ver'&&T.imp g g' ) ( match od X.P t ((ew u x st.c).1.drop off) with
   |some v=>K { st with c:=(ew u x st.c).2.2,E:=cM (some d) g v st.E,G:=(ew u x st.c).2.1.map (yp g)++st.G }
   |none=>none ) none
  |_=>none)
 |_=>none
theorem Xl{t:TypeId}{q f:Nat}(hl:st.low fr=true)(V:Sat (ab ρ T st.G++(ab ρ T fr.H++Φ)) w)(hx:bw T st.E fr.F g x=some (.adr q f))(h:S2 X T fr st g d t q f K=some r):
  ∃v,(∀w',Ext w w'->bc X.P (az ρ T st.E fr.F) (T.get g) ⟨some d,.load t x,ty,pos,af,gd⟩ w' v)/\aU r K T fr st g (some d) ρ Φ v w:=by
 unfold S2 at h;split at h
 .rename_i s g' q' id N u i m hf;split at h
  .rename_i s2 O u' e l B Y;obtain ⟨h1,Z⟩:=aI h;simp only [au] at h1;split at Z
   .rename_i v J;obtain ⟨f1,f2⟩:=bZ hf;obtain ⟨f3,f4⟩:=bZ Y;have e1:q'=q:=b0 f2;have e2:O=id:=b0 f4;have e3:N=B:=b0 h1.1;subst e1;subst e2;subst e3;have j:=aP (ρ:=ρ) hx;simp only [AV.val] at j;have hF:=Src.holds V f1;obtain ⟨hO,R⟩:=Src.holds V f3;have key:∃(b:ay) (vs:zc),aS st.c ρ b/\AV.al b (ew u m st.c).1=vs/\(T.get g=true->bN w (ρ q').a vs)/\
      ∀it∈ab b T ((ew u m st.c).2.1.map (yp g)),it.cO=true/\it.P (Ctx.M (ab ρ T st.G++(ab ρ T fr.H++Φ))) w:=by
     cases I:T.get g
     .refine ⟨ρ,_,.refl,rfl,(λh=>by cases h),λit bI=>?_⟩;obtain ⟨r1,p,rfl⟩:=List.mem_map.1 bI;obtain ⟨r2,k,rfl⟩:=List.mem_map.1 p;obtain ⟨j1,t1,l1,rfl⟩:=NF _ _ _ _ k;exact xI (λh=>by rw [I] at h;cases h)
     .obtain ⟨l0,b1,b2,b3⟩:=hF (aB.np h1.2 I);obtain ⟨e4,e5⟩:=O9 b1 R;subst e4;simp only at e5;subst e5;obtain ⟨_,vs,e6,e7⟩:=hO.atA b2;obtain ⟨b,m1⟩:=JA (T:=T) u m st.c vs e7 ρ;refine ⟨b,vs,m1.ag,m1.eq,λ_=>by rw [b3];exact e6,λit bI=>?_⟩;obtain ⟨r1,p,rfl⟩:=List.mem_map.1 bI;obtain ⟨r2,k,rfl⟩:=List.mem_map.1 p;have W:=m1.rp _ k;obtain ⟨j1,t1,l1,rfl⟩:=m1.rs _ k;exact xI (λ_=>W)
    obtain ⟨b,vs,k1,k2,k3,k4⟩:=key;have U:=Fe V _ k4;have eG:=ba (T:=T) k1 (aC.cJ.1 hl).2.2.1;have C:aU r K T fr st g (some d) ρ Φ (v.val b) w:=by refine aU.new (ρ':=b) hl Z k1 (ND _ _ _) rfl rfl ?_;show Sat (ab b T (_++st.G)++_) w;rw [bg,eG,cx];exact U
    refine ⟨_,λw' S=>ahq λI=>?_,C⟩;rw [I] at j ⊢;have hc:=(k3 I).ext S;have o:bN w' ((ρ q').a.add f) (AV.al b ((ew u m st.c).1.drop f)):=by refine hc.sub _ ?_;rw [AV.jV,k2,fb (cK _)]
    have h':od X.P t (((ew u m st.c).1.drop f).drop 0)=some v:=by simpa using J
    obtain ⟨dd,n,bytes,z,c1,c2,A⟩:=sE (ρ:=b) h';cases hd:nD dd
    .rw [hd] at A;simp only [eT,qn] at A;refine Of c1 hd j (λ_=>?_);have:=o.sub (us:=[v.val b]) 0 (by
      cases hq:AV.al b ((ew u m st.c).1.drop f) with
      |nil=>rw [hq] at A;cases A
      |cons a l=>rw [hq] at A;cases A;simp)
     simpa [Addr.add] using this
    .unfold od at J;rw [c1] at J;rcases eo J with ⟨_,y⟩|⟨y,_⟩
     .split at y
      .rename_i z2 Q;obtain ⟨n2,L,z2⟩:=z2;obtain ⟨h4,h5⟩:=aI y;cases h5;have D:n2<=((ew u m st.c).1.drop f).length:=ei h4;simp only [AV.val];refine MO c1 hd (cT Q) j (λ_=>?_) ?_
       .have:=o.sub (us:=AV.al b (((ew u m st.c).1.drop f).take n2)) 0 (by rw [AV.mK,n9,dq,AV.bF,iQ D])
        simpa [Addr.add] using this
       .rw [AV.bF,dq,iQ D]
      .cases y
     .rw [hd] at y;cases y
   .cases Z
  .cases h
 .cases h
theorem alX{t:TypeId}{q a:Nat}(hl:st.low fr=true)(e:Sat (ab ρ T st.G++(ab ρ T fr.H++Φ)) w)(hx:bw T st.E fr.F g x=some (.adr q a))(h:S2 X T fr st g d t q a K=some r):
  ny X.P T g (az ρ T st.E fr.F) ⟨some d,.load t x,ty,pos,af,gd⟩ w (aU r K T fr st g (some d) ρ Φ):=by
 obtain ⟨v,c,b⟩:=Xl (ty:=ty) (pos:=pos) (af:=af) (gd:=gd) hl e hx h;refine ⟨λf=>bL.gd (bL.run ?_ b),λ_=>⟨_,b⟩⟩;rw [f] at c;exact c w (Ext.refl w)
end
section
variable {X : Cx} {R : Type} {r : R} {K : cL R} {T : aB} {fr : Fr} {st : aC} {g : GK} {d : Tmp} {ρ : ay} {Φ : Ctx} {w : World} {ty : TypeId} {pos : String} {af : zh} {gd : w4}
def Zd:Operand->Operand->Bool
 | .tmp a,.tmp b=>Nat.beq a b
 | .const (.int .i64 a),.const (.int .i64 b)=>decide (a=b)
 |_,_=>false
theorem aax(h:Zd x y=true):x=y:=by
 unfold Zd at h;split at h
 .rw [b0 h]
 .rw [qB h]
 .cases h
def ahG(_T:aB)(g:GK)(st:aC)(d:Tmp)(G:List Row)(t:Ty)(l:List t.T)(i j:Int)(clip:Bool)(K:cL R):Option R:=
 K { st with c:=st.c+1,E:=cM (some d) g (.sl st.c) st.E,G:= .sli g st.c t (aV l i j) clip::G }
def acS(X:Cx)(T:aB)(fr:Fr)(st:aC)(g:GK)(d:Tmp)(t:TypeId)(x:Operand)(lo hi mx:Option Operand)(K:cL R):Option R:=match jK X.P t with
 |some e=>(match pL X.P e with
  |some z=>(match bw T st.E fr.F g x with
   |some (.sl id)=>(match loA T st.E fr.F g lo with
    |some i=>(match P4 T st.E fr.F g hi with
     |some j=>(match eM (cB [id] st.G) fr.H (rn id) with
      |some (_,.sli g' _ u l _)=>aD ( T.imp g g'&&Nat.beq z.1 u.n' ) ( match mx with
       |none=>JX (some (db i (j.getD (l.length:Int)) l.length)) (g.map λ_=>T.get g) (ahG T g st d (cB [id] st.G) u l i (j.getD (l.length:Int)) false K)
       |some y=>(match hi with
        |some h=>(match bw T st.E fr.F g y with
         |some (.int _ m)=>aD (Zd h y) ( JX (some (kR i m m l.length)) (g.map λ_=>T.get g) (ahG T g st d (cB [id] st.G) u l i m true K) )
          ( JX (some (kR i m m l.length&&(j.getD (l.length:Int)==m))) (g.map λ_=>T.get g) (ahG T g st d (cB [id] st.G) u l i m true K) )
         |_=>none)
        |none=>none) ) none
      |_=>none)
     |none=>none)
    |none=>none)
   |_=>none)
  |none=>none)
 |none=>none
theorem Ru{G:List Row}{t:Ty}{l:List t.T}{i j:Int}{a:Bool}{p:jU}(hl:st.low fr=true)(b:bD st.c G=true)(f:Sat (ab ρ T G++(ab ρ T fr.H++Φ)) w)
  (hp:T.get g=true->bT t.rep (Ctx.M (ab ρ T G++(ab ρ T fr.H++Φ))) w (sl p) (aV l i j)/\(a=true->p.2.2=(aV l i j).length)) (h:ahG T g st d G t l i j a K=some r):
  aU r K T fr st g (some d) ρ Φ (sl p) w:=by
 refine aU.new (ρ':=ρ.set st.c { dA with v:=p }) hl h ay.aX (j6 _) rfl (by simp only [AV.val,ay.bJ]) ?_;show Sat (ab _ T (_::G)++_) w;have e:=ba (T:=T) (ay.aX (ρ:=ρ) (j:=st.c) (x:={ dA with v:=p })) b;rw [ab,e9];rw [ab] at e;rw [e];refine f.add rfl ?_;simp only [Row.item,ay.bJ];exact hp
theorem Wy{t:TypeId}{lo hi mx:Option Operand}(hl:st.low fr=true)(I:Sat (ab ρ T st.G++(ab ρ T fr.H++Φ)) w)(h:acS X T fr st g d t x lo hi mx K=some r):
  Qa X.P T g (az ρ T st.E fr.F) ⟨some d,.slice t x lo hi mx,ty,pos,af,gd⟩ w (aU r K T fr st g (some d) ρ Φ):=by
 unfold acS at h;split at h
 .rename_i e W;split at h
  .rename_i z hz;obtain ⟨n,bytes,z⟩:=z;split at h
   .rename_i id hx;split at h
    .rename_i i hi;split at h
     .rename_i j hj;replace I:=lQ (ids:=[id]) I;have C:=uX (ids:=[id]) (aC.cJ.1 hl).2.2.1;have A:=aP (ρ:=ρ) hx;simp only [AV.val] at A;split at h
      .rename_i s g' o u l b V;obtain ⟨Z,D⟩:=aI h;simp only [au] at Z;have hn:n=u.rep.n:=(b0 Z.2).trans u.Ee.symm;obtain ⟨f1,f2⟩:=bZ V;have:o=id:=b0 f2;subst this;have hT:=Src.holds I f1;have hS:T.get g=true->bT u.rep _ w (sl (ρ o).v) l:=λc=>(hT (aB.np Z.1 c)).1;have B:=cT hz;rw [hn] at B;split at D
       .obtain ⟨O,L⟩:=tR D;obtain ⟨p,k1,J⟩:=bT.atw hS (λc=>O _ rfl c);have f:=Ru (p:=p) hl C I (λc=>⟨J c,λhb=>by cases hb⟩) L;exact ⟨_,λw'=>He (cw W) B A (λc=>(hS c).len) (SO hi) (Vf hj) k1,f⟩
       .rename_i y;split at D
        .rename_i Q;split at D
         .rename_i k m hy;have q:=aP (ρ:=ρ) hy;simp only [AV.val] at q;rcases eo D with ⟨h5,Y⟩|⟨_,Y⟩
          .have:=aax h5;subst this;obtain ⟨O,L⟩:=tR Y;have key:∃p:jU,(T.get g=true->OW (sl (ρ o).v) i m m u.rep.n (sl p))/\(T.get g=true->bT u.rep (Ctx.M (ab ρ T (cB [o] st.G)++(ab ρ T fr.H++Φ))) w (sl p) (aV l i m)/\(true=true->p.2.2=(aV l i m).length)):=by
            cases c:T.get g
            .exact ⟨(none,0,0),(λh=>by cases h),(λh=>by cases h)⟩
            .obtain ⟨p,S,R⟩:=bT.an0 (hS c) (O _ rfl c);exact ⟨_,λ_=>S,λ_=>⟨R,λ_=>rfl⟩⟩
           obtain ⟨p,k1,J⟩:=key;have f:=Ru (p:=p) hl C I J L;exact ⟨_,λw'=>UM (lo:=lo) (hi:=some Q) (cw W) B A (λc=>(hS c).len) (SO hi) ⟨k,q⟩ q k1,f⟩
          .obtain ⟨O,L⟩:=tR Y;have N:T.get g=true->kR i m m l.length=true/\j.getD (l.length:Int)=m:=λc=>by have:=O _ rfl c;simp only [au,n6] at this;exact this
           have key:∃p:jU,(T.get g=true->OW (sl (ρ o).v) i m m u.rep.n (sl p))/\(T.get g=true->bT u.rep (Ctx.M (ab ρ T (cB [o] st.G)++(ab ρ T fr.H++Φ))) w (sl p) (aV l i m)/\(true=true->p.2.2=(aV l i m).length)):=by
            cases c:T.get g
            .exact ⟨(none,0,0),(λh=>by cases h),(λh=>by cases h)⟩
            .obtain ⟨p,S,R⟩:=bT.an0 (hS c) (N c).1;exact ⟨_,λ_=>S,λ_=>⟨R,λ_=>rfl⟩⟩
           obtain ⟨p,k1,J⟩:=key;have f:=Ru (p:=p) hl C I J L;have U:∃k,ar (az ρ T st.E fr.F) (T.get g) Q (.int k m):=by obtain ⟨k,hk⟩:∃k,ar (az ρ T st.E fr.F) (T.get g) Q (.int k (j.getD (l.length:Int))):=Vf (ρ:=ρ) (len:=l.length) hj;exact ⟨k,λn a V c=>by rw [hk n a V c,(N c).2]⟩
           exact ⟨_,λw'=>UM (lo:=lo) (hi:=some Q) (cw W) B A (λc=>(hS c).len) (SO hi) U q k1,f⟩
         .cases D
        .cases D
      .cases h
     .cases h
    .cases h
   .cases h
  .cases h
 .cases h
def acT(len:Nat)(z:List AV):List AV:=(List.replicate len z).flatten
theorem acQ{len:Nat}{z:List AV}:AV.al ρ (acT len z)=(List.replicate len (AV.al ρ z)).flatten:=by
 unfold acT
 induction len with
 |zero=>simp [AV.al]
 |succ n ih=>simp only [qP,List.flatten_cons,dw,ih]
def unR(T:aB)(g:GK):List Row->List Row
 |[]=>[]
 |r::G=>(match r with
  | .sli g' id t l c=>aD (T.imp g g') (.sli none id t l c) (.sli g' id t l c)
  |r=>r)::unR T g G
def unG(T:aB)(g:GK)(G:List Row):List Row:=match g with
 |none=>G
 |some _=>unR T g G
theorem Yd{ρ:ay}{T:aB}{g:GK}(b:T.get g=true):{G:List Row}->ab ρ T (unR T g G)=ab ρ T G
 |[]=>rfl
 |r::G=>by
  have ih:=Yd (ρ:=ρ) b (G:=G);unfold unR;simp only [ab,e9] at ih ⊢;rw [ih];congr 1;cases r with
  |sli a id t l c=>
   show Row.item ρ T (aD (T.imp g a) (.sli none id t l c) (.sli a id t l c))=_;cases h:T.imp g a with
   |false=>rfl
   |true=>
    show Row.item ρ T (.sli none id t l c)=_;simp only [Row.item,aB.get_none,aB.np h b]
  |_=>rfl
theorem GX{ρ:ay}{T:aB}{g:GK}(a:T.get g=true){G:List Row}:ab ρ T (unG T g G)=ab ρ T G:=by
 cases g with
 |none=>rfl
 |some k=>exact Yd a
def alw(X:Cx)(T:aB)(fr:Fr)(st:aC)(g:GK)(d:Tmp)(t:TypeId)(len:Nat)(ps:List (Nat×Operand))(K:cL R):Option R:=match jK X.P t with
 |some e=>(match Dk X.tys e with
  |some u=>(match pL X.P e with
   |some z=>(match vG T st.E fr.F g (ps.map (·.2)) with
    |some vs=>(match Hi (λi=>some (i*z.1,z.1)) ((ps.map (·.1)).zip vs) (acT len (z.2.2.cells.toList.map nU)) with
     |some cs=>(match rdL (unG T g (cB (AV.fJ (.agg vs)++(vs.map AV.fJ).flatten) st.G)) (unG T g fr.H) u len cs with
      |some xs=>aD ( Nat.beq z.1 u.n'&&Nat.beq z.2.2.cells.size z.1&&Nat.ble (len*z.1) 16777216 ) ( match g with
       |none=>aD ( Nat.blt 0 (len*z.1)||Nat.beq len 0&&ps.isEmpty ) ( K { st with c:=st.c+1,E:=cM (some d) none (.sl st.c) st.E,G:= .own st.c u e xs st.c::cB (AV.fJ (.agg vs)++(vs.map AV.fJ).flatten) st.G } ) none
       |some _=>aD ( Nat.blt 0 (len*z.1)||Nat.beq len 0&&ps.isEmpty ) ( K { st with c:=st.c+1,E:=cM (some d) g (.sl st.c) st.E,G:= .sli g st.c u xs false::cB (AV.fJ (.agg vs)++(vs.map AV.fJ).flatten) st.G } ) none ) none
      |none=>none)
     |none=>none)
    |none=>none)
   |none=>none)
  |none=>none)
 |none=>none
theorem AT{t:Ty}{p:jU}{l:List t.T}{G:List Row}{w':World}{st':aC}(hl:st.low fr=true)(a:bD st.c G=true)(f:Sat (ab ρ T G++(ab ρ T fr.H++Φ)) w)(i:Ext w w')
  (g:∀b∈BO p,b<w'.heap.size/\w.heap.size<=b) (h:∀M',Mv (Ctx.M (ab ρ T G++(ab ρ T fr.H++Φ))) w M' w'->cj t.rep e M' w' (sl p) l (BO p))
  (kl:st'={ st with c:=st.c+1,E:=cM (some d) none (.sl st.c) st.E,G:= .own st.c t e l st.c::G }) (hK:K st'=some r):aU r K T fr st none (some d) ρ Φ (sl p) w':=by
 subst kl;refine aU.new (ρ':=ρ.set st.c { dA with v:=p,y:=⟨.l t,l⟩ }) hl hK ay.aX (j6 _) rfl (by simp only [AV.val,ay.bJ]) ?_;show Sat (ab _ T (_::G)++_) w';have e:=ba (T:=T) (ay.aX (ρ:=ρ) (j:=st.c) (x:={ dA with v:=p,y:=⟨.l t,l⟩ })) a;rw [ab,e9];rw [ab] at e;rw [e];refine f.push i (λb hb=>?_) (λM' m=>?_)
 .simp only [Row.item,ay.bJ] at hb;exact g b hb
 .simp only [Row.item,ay.bJ];exact ⟨h M' m,trivial⟩
theorem MQ{b n c:Nat}:dW (sl (some ⟨b,0,none⟩,n,c))=[b]:=rfl
theorem Jy{p:jU}{b:Nat}(h:b∈BO p):b∈dW (sl p):=by
 unfold BO at h;split at h
 .cases h
 .exact h
theorem aph{t:TypeId}{len:Nat}{ps:Array (Nat×Operand)}(hl:st.low fr=true)(y:Sat (ab ρ T st.G++(ab ρ T fr.H++Φ)) w)(h:alw X T fr st g d t len ps.toList K=some r):
  ny X.P T g (az ρ T st.E fr.F) ⟨some d,.buildSlice t len ps,ty,pos,af,gd⟩ w (aU r K T fr st g (some d) ρ Φ):=by
 obtain ⟨ps⟩:=ps;simp only at h;unfold alw at h;split at h
 .rename_i e N;split at h
  .rename_i u hu;split at h
   .rename_i z hz;obtain ⟨n,bytes,z⟩:=z;split at h
    .rename_i vs R;split at h
     .rename_i cs S;have q:=uX (ids:=AV.fJ (.agg vs)++(vs.map AV.fJ).flatten) (aC.cJ.1 hl).2.2.1;replace y:=lQ (ids:=AV.fJ (.agg vs)++(vs.map AV.fJ).flatten) y;generalize cB (AV.fJ (.agg vs)++(vs.map AV.fJ).flatten) st.G=G at h q y;split at h
      .rename_i xs Q;obtain ⟨O,Z⟩:=aI h;simp only [au] at O;obtain ⟨⟨a1,a2⟩,W⟩:=O;have hn:n=u.rep.n:=(b0 a1).trans u.Ee.symm;have C:z.cells.size=n:=b0 a2;have hk:T.get g=true->xs.length=len/\cV u.rep (Ctx.M (ab ρ T G++(ab ρ T fr.H++Φ))) w (AV.al ρ cs) xs:=λA=>by have:=UZ (ρ:=ρ) (T:=T) (Φ:=Φ) (w:=w) (by rw [GX A,GX A];exact y) _ _ _ Q;rwa [GX A,GX A] at this
       have s:=cT hz;have o:=Fa (ρ:=ρ) S;rw [Ll,acQ,sf] at o;have B:0<n->AN n len z.cells.toList ((ps.map (·.1)).zip (AV.al ρ vs))=some (AV.al ρ cs).toArray:=λa=>by unfold AN;have I:=Np z.cells.toList (by simp [C];exact a) len;simp only [fi,C] at I;simp only [fi,C];rw [<-o,<-I]
       have i:=jX (ρ:=ρ) R;subst hn;cases g with
       |none=>
        obtain ⟨k1,J⟩:=hk aB.get_none;obtain ⟨l,L⟩:=aI Z;simp only [eZ,au] at l;have i:kr (az ρ T st.E fr.F) true (ps.map (·.2)) (AV.al ρ vs):=by simpa using i
        rcases l with l|⟨l,U⟩
        .have a:0<u.rep.n:=by
          have:0<len*u.rep.n:=by simpa using l
          exact Nat.pos_of_ne_zero (λe=>by simp [e] at this)
         have f:=yd (P:=X.P) (w:=w) (dst:=some d) (ty:=ty) (pos:=pos) (af:=af) (cw N) s (zs:=z.cells.toList) (by simp) l W i (B a);have Y:len*1<=len*u.rep.n:=Nat.mul_le_mul_left _ a;have h9:=ei W;have h8:Nat.ble len 9223372036854775807=true:=qI (by omega);refine .none_ (bL.gd (bL.tl f ?_));have:=AT (d:=d) (t:=u) (e:=e) (p:=(some ⟨w.heap.size,0,none⟩,len,len)) hl q y (gw w (.cells (AV.al ρ cs).toArray e)) (λb hb=>by have:=Jy hb;rw [MQ] at this;simp only [mi] at this;subst this;simp) (λM' m=>(cj.of (kD.fresh (heap_alloc_new w _) k1 h8 (J.mv m))).M9) rfl L
         exact this
        .have V:len=0:=b0 l;subst V;have I:ps=[]:=by simpa using U
         subst I;have D:xs=[]:=et k1;subst D;have f:=wL (P:=X.P) (E:=az ρ T st.E fr.F) (w:=w) (dst:=some d) (ty:=ty) (pos:=pos) (af:=af) (cw N) s;refine .none_ (bL.gd (bL.tl f ?_));have:=AT (d:=d) (t:=u) (e:=e) (p:=(some ⟨w.heap.size,0,none⟩,0,0)) hl q y (gw w (.cells ([]:zc).toArray e)) (λb hb=>by have:=Jy hb;rw [MQ] at this;simp only [mi] at this;subst this;simp) (λM' m=>(cj.of (kD.fresh (heap_alloc_new w _) rfl rfl cV.nil)).M9) rfl L
         exact this
       |some k=>
        obtain ⟨l,L⟩:=aI Z;simp only [eZ,au] at l;refine ⟨λA=>?_,λA=>?_⟩
        .obtain ⟨k1,J⟩:=hk A;rw [A] at i;have key:∃cells:zc,pr X.P (az ρ T st.E fr.F) ⟨some d,.buildSlice t len ⟨ps⟩,ty,pos,af,none⟩ w (.slice (some ⟨w.heap.size,0,none⟩) len len) (w.alloc (.cells cells.toArray e))/\cV u.rep (Ctx.M (ab ρ T G++(ab ρ T fr.H++Φ))) w cells xs:=by
          rcases l with l|⟨l,U⟩
          .have a:0<u.rep.n:=by
            have:0<len*u.rep.n:=by simpa using l
            exact Nat.pos_of_ne_zero (λe=>by simp [e] at this)
           exact ⟨AV.al ρ cs,yd (P:=X.P) (w:=w) (dst:=some d) (ty:=ty) (pos:=pos) (af:=af) (cw N) s (zs:=z.cells.toList) (by simp) l W i (B a),J⟩
          .have V:len=0:=b0 l;subst V;have I:ps=[]:=by simpa using U
           subst I;have D:xs=[]:=et k1;subst D;exact ⟨[],wL (P:=X.P) (E:=az ρ T st.E fr.F) (w:=w) (dst:=some d) (ty:=ty) (pos:=pos) (af:=af) (cw N) s,cV.nil⟩
         obtain ⟨cells,f,J⟩:=key;refine bL.gd (bL.tl f ?_);have O:=y.ext (gw w (.cells cells.toArray e));have hf:bT u.rep (Ctx.M (ab ρ T G++(ab ρ T fr.H++Φ))) (w.alloc (.cells cells.toArray e)) (sl (some ⟨w.heap.size,0,none⟩,len,len)) xs:=
          bT.fresh (heap_alloc_new w _) (λhm=>by have:=y.lt hm;omega) k1 (J.mv ((gw w _).mv _))
         refine aU.new (ρ':=ρ.set st.c { dA with v:=(some ⟨w.heap.size,0,none⟩,len,len) }) (av:= .sl st.c) hl L ay.aX (j6 _) rfl (by simp only [AV.val,ay.bJ];rfl) ?_;show Sat (ab _ T (_::G)++_) _;have e:=ba (T:=T) (ay.aX (ρ:=ρ) (j:=st.c) (x:={ dA with v:=(some ⟨w.heap.size,0,none⟩,len,len) })) q;rw [ab,e9];rw [ab] at e;rw [e];refine O.add rfl ?_;simp only [Row.item,ay.bJ];exact λ_=>⟨hf,λhb=>by cases hb⟩
        .refine ⟨_,aU.new (ρ':=ρ.set st.c dA) (av:= .sl st.c) hl L ay.aX (j6 _) rfl rfl ?_⟩;show Sat (ab _ T (_::G)++_) _;have e:=ba (T:=T) (ay.aX (ρ:=ρ) (j:=st.c) (x:=dA)) q;rw [ab,e9];rw [ab] at e;rw [e];refine y.add rfl ?_;exact λh=>by rw [A] at h;cases h
      .cases h
     .cases h
    .cases h
   .cases h
  .cases h
 .cases h
end
section
variable {X : Cx} {R : Type} {r : R} {K : cL R} {T : aB} {fr : Fr} {st : aC} {g : GK} {d : Tmp} {ρ : ay} {Φ : Ctx} {w : World} {ty : TypeId} {pos : String} {af : zh} {gd : w4}
def agG(X:Cx)(T:aB)(fr:Fr)(st:aC)(d:Tmp)(t:TypeId)(x y:Operand)(K:cL R):Option R:=match jK X.P t with
 |some e=>(match Dk X.tys e with
  |some u=>(match pL X.P e with
   |some z=>(match bw T st.E fr.F none x with
    |some (.int _ l)=>aD ( Zd x y&&Nat.beq z.1 u.n'&&Nat.beq z.2.2.cells.size z.1&&Nat.blt 0 z.1 ) (
     match rd1 [] [] u (z.2.2.cells.toList.map nU) with
     |some zx=>aN (decide (0<=l)) (aN (aH l.toNat z.2.1) (K { st with c:=st.c+1,E:=cM (some d) none (.sl st.c) st.E,G:= .own st.c u e (List.replicate l.toNat zx) st.c::st.G }))
     |none=>none ) none
    |_=>none)
   |none=>none)
  |none=>none)
 |none=>none
theorem aa3{t:Ty}{v:AV}{l:List t.T}(h:vN [] [] t v=some l):∀(M:Nat->Prop) (w:World),bT t.rep M w (v.val ρ) l:=by unfold vN at h;grind [eM,tE,AV.val,bT.nil]
theorem Wk:(t:Ty)->(vs:List AV)->(x:t.T×List AV)->uy [] [] t vs=some x->∃us,vs=us++x.2/\∀(M:Nat->Prop) (w:World),t.rep.rd M w (AV.al ρ us) x.1
 | .i k,vs,x,h=>by
  unfold uy at h;split at h
  next m y us=>obtain ⟨f,e⟩:=aI h;have:=om f;subst this;cases e;exact ⟨[.int k y],rfl,λM w=>by rfl⟩
  .cases h
 | .bo,vs,x,h=>by
  unfold uy at h;split at h
  next y us=>cases h;exact ⟨[.bool y],rfl,λM w=>by rfl⟩
  .cases h
 | .s,vs,x,h=>by
  unfold uy at h;split at h
  next y us=>cases h;exact ⟨[.str y],rfl,λM w=>by rfl⟩
  .cases h
 | .un,vs,x,h=>by
  cases h;exact ⟨[],rfl,λM w=>by rfl⟩
 | .n,vs,x,h=>by
  unfold uy at h;split at h
  next t us=>cases h;exact ⟨[.ifc t (.agg [])],rfl,λM w=>by rfl⟩
  .cases h
 | .mp _ _,vs,x,h=>by grind [uy]
 | .p a b,vs,x,h=>by
  unfold uy at h;split at h
  .rename_i y j;split at h
   next z g=>cases h;obtain ⟨us,q,f⟩:=Wk a vs y j;obtain ⟨d,o,e⟩:=Wk b y.2 z g;refine ⟨us++d,by grind,λM w=>?_⟩;rw [dw];exact ⟨_,_,rfl,f M w,e M w⟩
   .cases h
  .cases h
 | .l t,vs,x,h=>by
  unfold uy at h;split at h
  .rename_i v us;split at h
   next l hl=>cases h;refine ⟨[v],rfl,λM w=>?_⟩;exact (aa3 hl M w).rsl
   .cases h
  .cases h
 | .ex,vs,x,h=>by
  unfold uy at h;split at h
  .rename_i a b c v us;split at h
   next l hl=>cases h;refine ⟨[.int .i64 a,.int .i64 b,.int .i64 c,v],rfl,λM w=>?_⟩;exact PY (aa3 hl M w).rsl
   .cases h
  .cases h
theorem amz{t:TypeId}(hl:st.low fr=true)(A:Sat (ab ρ T st.G++(ab ρ T fr.H++Φ)) w)(h:agG X T fr st d t x y K=some r):
  ny X.P T none (az ρ T st.E fr.F) ⟨some d,.makeSlice t x y,ty,pos,af,gd⟩ w (aU r K T fr st none (some d) ρ Φ):=by
 unfold agG at h;split at h
 .rename_i e D;split at h
  .rename_i u Y;split at h
   .rename_i z v;obtain ⟨n,bytes,z⟩:=z;split at h
    .rename_i k l hx;obtain ⟨q,o⟩:=aI h;simp only [au] at q;obtain ⟨⟨⟨V,U⟩,S⟩,R⟩:=q;have:=aax V;subst this;have hn  :=(b0 U).trans u.Ee.symm;have f  :=b0 S;split at o
     .rename_i s a;obtain ⟨Q,N⟩:=jz o;obtain ⟨O,L⟩:=jz N;have c:=bK (ρ:=ρ) hx;have j:=cT v;subst hn;have g:∀(M:Nat->Prop) (w:World),u.rep.rd M w z.cells.toList s:=by
       unfold rd1 at a;split at a
       next W i=>obtain ⟨us,e1,Z⟩:=Wk (ρ:=ρ) u _ _ i;grind [sf]
       .cases a
      obtain ⟨w',B,J,C,I⟩:=ajv (cw D) j (by simp) (by simpa using f) (by simpa using R) c c Q O g;refine .none_ (bL.gd (bL.tl B ?_));exact AT (p:=(some ⟨w.heap.size,0,none⟩,l.toNat,l.toNat)) hl (aC.cJ.1 hl).2.2.1 A J (λb hb=>by
       have:=Jy hb;simp_all [MQ,mi]) (λM' m=>(cj.of (I M')).M9) rfl L
     .cases o
    .cases h
   .cases h
  .cases h
 .cases h
def alq(X:Cx)(T:aB)(fr:Fr)(st:aC)(d:Tmp)(t:TypeId)(x y:Operand)(K:cL R):Option R:=match jK X.P t with
 |some e=>(match Dk X.tys e with
  |some u=>(match pL X.P e with
   |some z=>(match bw T st.E fr.F none x with
    |some a=>(match bw T st.E fr.F none y with
     |some b=>aD ( Nat.beq z.1 u.n'&&Nat.beq z.2.2.cells.size z.1&&Nat.blt 0 z.1 ) ( match vN (cB b.fJ st.G) fr.H u b with
      |some ys=>(match a with
       | .sl id=>(match eM (cB b.fJ st.G) fr.H (rn id) with
        |some (.top j,.own _ u' e' xs _)=>aD ( Nat.beq e e' ) ( match vN.cr.asL u ⟨.l u',xs⟩ with
         |some xs=>aN (aH (xs.length+ys.length) z.2.1) (K { st with c:=st.c+1,E:=cM (some d) none (.sl st.c) st.E,G:=(cB b.fJ st.G).set j (.own st.c u e (xs++ys) st.c) })
         |none=>none ) none
        |some (_,.sli none _ u' xs true)=>(match vN.cr.asL u ⟨.l u',xs⟩ with
         |some xs=>(match ys with
          |y::ys=>aN (aH (xs.length+(y::ys).length) z.2.1) (K { st with c:=st.c+1,E:=cM (some d) none (.sl st.c) st.E,G:= .own st.c u e (xs++y::ys) st.c::cB b.fJ st.G })
          |[]=>none)
         |none=>none)
        |_=>none)
       | .raw (.slice none 0 0)=>aN (aH (([]:List u.T).length+ys.length) z.2.1) (K { st with c:=st.c+1,E:=cM (some d) none (.sl st.c) st.E,G:= .own st.c u e ([]++ys) st.c::cB b.fJ st.G })
       |_=>none)
      |none=>none ) none
     |none=>none)
    |none=>none)
   |none=>none)
  |none=>none)
 |none=>none
theorem apF{t:TypeId}(hl:st.low fr=true)(s:Sat (ab ρ T st.G++(ab ρ T fr.H++Φ)) w)(h:alq X T fr st d t x y K=some r):
  ny X.P T none (az ρ T st.E fr.F) ⟨some d,.call ⟨.builtin .append,#[x,y],#[t,t]⟩,ty,pos,af,gd⟩ w (aU r K T fr st none (some d) ρ Φ):=by
 unfold alq at h;split at h
 .rename_i e he;split at h
  .rename_i u hu;split at h
   .rename_i z hz;obtain ⟨n,bytes,z⟩:=z;split at h
    .rename_i a hx;split at h
     .rename_i b hy;obtain ⟨h1,g⟩:=aI h;simp only [au] at h1;obtain ⟨⟨a1,a2⟩,a3⟩:=h1;have hn:n=u.rep.n:=(b0 a1).trans u.Ee.symm;have D:z.cells.size=n:=b0 a2;have N:=cT hz;subst hn;have A:=uX (ids:=b.fJ) (aC.cJ.1 hl).2.2.1;replace s:=lQ (ids:=b.fJ) s;generalize cB b.fJ st.G=G at g A s;have o:=bK (ρ:=ρ) hx;have J:=bK (ρ:=ρ) hy;have B:0<u.rep.n:=by simpa using a3
      split at g
      .rename_i ys hys;have I:=Pn s hys;split at g
       .rename_i id;simp only [AV.val] at o;split at g
        .rename_i j k u' e' i ver O;obtain ⟨h3,h4⟩:=aI g;have:=b0 h3;subst this;split at h4
         .rename_i xs L;obtain ⟨eu,ex⟩:=um L;subst eu;simp only at ex;subst ex;obtain ⟨Z,Y⟩:=jz h4;obtain ⟨f1,f2⟩:=bZ O;have:k=id:=b0 f2;subst this;have hi:=iR (ρ:=ρ) (T:=T) (Φ:=ab ρ T fr.H++Φ) f1;obtain ⟨hO,_⟩:=s.at_ hi;obtain ⟨Q,R',w',U,hC,hR,C⟩:=Iv (P:=X.P) (E:=az ρ T st.E fr.F) (w:=w) (dst:=some d) (ty:=ty) (pos:=pos) (af:=af) (cw he) N D B o J hO I (λb hb=>Ctx.lh hi hb) Z;have mv0:Mv (Ctx.M (ab ρ T G++(ab ρ T fr.H++Φ))) w (Ctx.M (ab ρ T G++(ab ρ T fr.H++Φ))) w':=⟨hC.size,λb hb hn=>⟨hn,hC.block b hb (λhc=>hn (Ctx.lh hi hc))⟩⟩;have f:=C _ mv0;have q:∃p:jU,Q=sl p:=by obtain ⟨a,cap,q⟩:=f.len;exact ⟨(a,_,cap),q⟩
          obtain ⟨p,rfl⟩:=q;have hj:j<G.length:=(List.getElem?_eq_some_iff.1 f1).1;refine .none_ (bL.gd (bL.tl U (aU.new (ρ':=ρ.set st.c { dA with v:=p,y:=⟨.l u',i++ys⟩ }) hl Y ay.aX (j6 _) rfl (by simp only [AV.val,ay.bJ]) ?_)));show Sat (ab _ T (G.set j _)++_) _;rw [gG hj,ba ay.aX A];refine s.mM hi hC (λb hb=>?_) (λM' m _=>?_)
          .simp only [Row.item,ay.bJ] at hb;exact hR b (f.canon.1 b hb)
          .simp [Row.item,ay.bJ];exact ⟨f.canon.2 _ _ (C M' m),trivial⟩
         .cases h4
        .rename_i s' k u' i O;split at g
         .rename_i xs L;obtain ⟨eu,ex⟩:=um L;subst eu;subst ex;split at g
          .obtain ⟨Z,Y⟩:=jz g;obtain ⟨f1,f2⟩:=bZ O;have  :=b0 f2;subst this;obtain ⟨hS,hcl⟩:=(Src.holds s f1) aB.get_none;obtain ⟨ad,cap,V⟩:=hS.len;have ep:(ρ k).v=((ρ k).v.1,i.length,i.length):=by simp [sl] at V;grind
           rw [ep] at hS o;obtain ⟨i',hi',R,hby,hzz⟩:=N.out;subst hby
           obtain ⟨Q,w',U,W,hB,C⟩:=Uh t ty e i' z (cw he) hi' hzz R D hS I (List.cons_ne_nil _ _) Z;have f:=cj.of (C _ (W.mv _));have q:∃p:jU,Q=sl p:=by obtain ⟨a,cap,q⟩:=f.len;exact ⟨(a,_,cap),q⟩
           obtain ⟨p,rfl⟩:=q;have S:pr X.P (az ρ T st.E fr.F) ⟨some d,.call ⟨.builtin .append,#[x,y],#[t,t]⟩,ty,pos,af,none⟩ w (sl p) w':=λn' a O=>by simp [execOp,resolve,invoke,builtin,o n' a O rfl,J n' a O rfl,show (Builtin.append_ #[t,t] ty #[sl ((ρ k).v.1,i.length,i.length),AV.val ρ b]).run X.P w=_ from U]
           refine .none_ (bL.gd (bL.tl S ?_));exact AT hl A s W (λb hb=>hB b (Jy hb)) (λM' m=>(cj.of (C M' m)).M9) rfl Y
          .cases g
         .cases g
        .cases g
       .obtain ⟨Z,Y⟩:=jz g;obtain ⟨Q,R',w',U,hC,hR,C⟩:=Iv (cw he) N D B o J cj.nil I (λb hb=>by cases hb) Z;have W:Ext w w':=⟨hC.os,hC.tape,hC.output,hC.size,λb hb=>hC.block b hb (λh=>by cases h)⟩;have f:=C _ (W.mv _);have q:∃p:jU,Q=sl p:=by obtain ⟨a,cap,q⟩:=f.len;exact ⟨(a,_,cap),q⟩
        obtain ⟨p,rfl⟩:=q;refine .none_ (bL.gd (bL.tl U ?_));exact AT hl A s W (λb hb=>by
         obtain ⟨q1,q2⟩:=hR b (f.canon.1 b hb);grind) (λM' m=>f.canon.2 _ _ (C M' m)) rfl Y
       .cases g
      .cases g
     .cases h
    .cases h
   .cases h
  .cases h
 .cases h
end
def both{R:Type}(a b:Option R):Option R:=open Classical in if a=b then a else none
theorem XF{R:Type}{a b:Option R}{r:R}(h:both a b=some r):a=some r/\b=some r:=by grind [both]
inductive Sh where
 |l
 |b (x y:Sh)
def eO:Sh->(R:Type)->Option R->Option R
 | .l,_,a=>a
 | .b x y,R,a=>both (eO x R a) (eO y R a)
theorem ZO{R:Type}{a:Option R}:(s:Sh)->eO s R a=a
 | .l=>rfl
 | .b x y=>by show both (eO x R a) (eO y R a)=a;rw [ZO x,ZO y];unfold both;simp
theorem fU:eO=λ_ _ a=>a:=funext λs=>funext λ_=>funext λ_=>ZO s
def AQ{α R:Type}(l:List α)(k1 k0:Option R):Option R:=match l with
 |[]=>both k1 k0
 |_::_=>k0
theorem Xs{α R:Type}{l:List α}{k1 a:Option R}{r:R}(h:AQ l k1 a=some r):a=some r/\(l=[]->k1=some r):=by unfold AQ at h;grind [XF]
theorem o9{α:Type}{l:List α}{b:Nat}:AQ l (some []) (aN (aH (List.length ([]:List α)+List.length l) b)<|some (([]:List α)++l))=aN (aH (List.length l) b) (some l):=by
 cases l with
 |nil=>
  show both (some []) (aN (aH 0 b) (some []))=aN (aH 0 b) (some []);grind [both,aN]
 |cons x l=>show aN (aH (0+(l.length+1)) b) _=_;rw [mN];rfl
section
variable {X : Cx} {R : Type} {r : R} {K : cL R} {T : aB} {fr : Fr} {st : aC} {g : GK} {d : Tmp} {ρ : ay} {Φ : Ctx} {w : World} {ty : TypeId} {pos : String} {af : zh} {gd : w4}
def ahw(X:Cx)(st:aC)(d:Tmp)(t:TypeId)(K:cL R):Option R:=match VX X.P t with
 |some p=>(match Dk X.tys p.1 with
  |some k=>(match Dk X.tys p.2 with
   |some v=>K { st with c:=st.c+1,E:=cM (some d) none (.mp st.c) st.E,G:= .mp st.c k v (some [])::st.G }
   |none=>none)
  |none=>none)
 |none=>none
theorem anC{t:TypeId}(hl:st.low fr=true)(e:Sat (ab ρ T st.G++(ab ρ T fr.H++Φ)) w)(h:ahw X st d t K=some r):
  ny X.P T none (az ρ T st.E fr.F) ⟨some d,.makeMap t none,ty,pos,af,gd⟩ w (aU r K T fr st none (some d) ρ Φ):=by
 unfold ahw at h;split at h
 .split at h
  .split at h
   .have c:pr X.P (az ρ T st.E fr.F) ⟨some d,.makeMap t none,ty,pos,af,none⟩ w (.map (some w.heap.size)) (w.alloc (.map #[] 0)):=λn a f=>by simp [execOp,Instr.makeMap]
    refine .none_ (bL.gd (bL.tl c (aU.push (x:={ dA with m:=some w.heap.size }) hl h (by simp [AV.val,ay.bJ]) ?_)));simp [Row.item,ay.bJ];exact e.push (gw _ _) (λb hb=>by
     simp_all [omap,Lg]) (λM' m=> .inr ⟨_,#[],0,[],rfl,rfl,by show (w.heap.push _)[w.heap.size]? =_;simp,rfl⟩)
   .cases h
  .cases h
 .cases h
def ahL(X:Cx)(T:aB)(fr:Fr)(st:aC)(t:TypeId)(x y z:Operand)(K:cL R):Option R:=match VX X.P t with
 |some p=>(match bw T st.E fr.F none x with
  |some (.mp id)=>(match tE (ag5 id) st.G with
   |some (j,.mp _ k v md)=>(match bw T st.E fr.F none y with
    |some kv=>(match bw T st.E fr.F none z with
     |some vv=>(match acv k kv with
      |some key=>(match acv v vv with
       |some val=>aD ( ahE X.P p.1 k ) ( md.bind λl=>K { st with G:=st.G.set j (.mp id k v (some (l6 l key val))) } ) none
       |none=>none)
      |none=>none)
     |none=>none)
    |none=>none)
   |_=>none)
  |_=>none)
 |none=>none
theorem am4{t:TypeId}{z:Operand}(i:Sat (ab ρ T st.G++(ab ρ T fr.H++Φ)) w)(h:ahL X T fr st t x y z K=some r):
  ny X.P T none (az ρ T st.E fr.F) ⟨none,.mapUpdate t x y z,ty,pos,af,gd⟩ w (aU r K T fr st none none ρ Φ):=by
 unfold ahL at h;split at h
 .rename_i p hp;split at h
  .rename_i id hx;split at h
   .rename_i j o k v md C;split at h
    .rename_i N s;split at h
     .rename_i M q;split at h
      .rename_i key e;split at h
       next val d=>obtain ⟨J,I⟩:=aI h;obtain ⟨l,g,D⟩:=iJ I;subst g;obtain ⟨n,L⟩:=pI C;have  :=b0 L;subst this;have f:=bK (ρ:=ρ) hx;have c:=bK (ρ:=ρ) s;have a:=bK (ρ:=ρ) q;rw [W5 e] at c;rw [W5 d] at a;have hi:=iR (ρ:=ρ) (T:=T) (Φ:=ab ρ T fr.H++Φ) n;obtain ⟨w',A,hC,u,hm⟩:=Xa (Wx J) (AJ hp) f c a (i.omap hi);refine .none_ (bL.gd (bL.afT A (aU.lC (av:= .raw undef) D (cK _) rfl (by simp [AV.val]) ?_)));have B  :=(List.getElem?_eq_some_iff.1 n).1;rw [gG B];exact i.mM hi hC (λb hb=>⟨hm.lt b hb,.inl hb⟩) (λM' m _=>hm)
       .cases h
      .cases h
     .cases h
    .cases h
   .cases h
  .cases h
 .cases h
def ald(X:Cx)(T:aB)(fr:Fr)(st:aC)(d:Tmp)(t:TypeId)(x:Operand)(K:cL R):Option R:=match bw T st.E fr.F none x with
 |some (.str s)=>aD ( isStr X.P t ) ( K { st with c:=st.c+1,E:=cM (some d) none (.ptr st.c 0) st.E,G:= .it st.c s 0::st.G } ) none
 |_=>none
theorem aqi{t:TypeId}(hl:st.low fr=true)(f:Sat (ab ρ T st.G++(ab ρ T fr.H++Φ)) w)(h:ald X T fr st d t x K=some r):
  ny X.P T none (az ρ T st.E fr.F) ⟨some d,.range t x,ty,pos,af,gd⟩ w (aU r K T fr st none (some d) ρ Φ):=by
 unfold ald at h;split at h
 .rename_i s hx;obtain ⟨j,i⟩:=aI h;have c:=bK (ρ:=ρ) hx;simp [AV.val] at c;have e:pr X.P (az ρ T st.E fr.F) ⟨some d,.range t x,ty,pos,af,none⟩ w (.pointer (some ⟨w.heap.size,0,none⟩)) (w.alloc (.stringIter ⟨s.toArray⟩ 0)):=λn' a g=>by simp [execOp,c n' a g rfl,Instr.range,run_underlying (tZ j),S]
  refine .none_ (bL.gd (bL.tl e (aU.push (x:={ dA with b:=w.heap.size }) hl i (by simp [AV.val,ay.bJ]) ?_)));simp [Row.item,ay.bJ];exact f.push (gw _ _) (λb hb=>by
   simp_all [iter]) (λ_ _=>heap_alloc_new w _)
 .cases h
def ang(T:aB)(fr:Fr)(st:aC)(d:Tmp)(x:Operand)(K:cL R):Option R:=match bw T st.E fr.F none x with
 |some (.ptr id 0)=>(match tE (aqJ id) st.G with
  |some (j,.it _ s p)=>cond (decide (p<s.length)) (K { st with E:=cM (some d) none (.tuple [.bool true,.int .i64 (p:Int),.int .i32 (aiT s p)]) st.E,G:=st.G.set j (.it id s (xB s p)) })
   (K { st with E:=cM (some d) none (.tuple [.bool false]) st.E })
  |_=>none)
 |_=>none
theorem apQ(m:Sat (ab ρ T st.G++(ab ρ T fr.H++Φ)) w)(h:ang T fr st d x K=some r):
  ny X.P T none (az ρ T st.E fr.F) ⟨some d,.next x true,ty,pos,af,gd⟩ w (aU r K T fr st none (some d) ρ Φ):=by
 unfold ang at h;split at h
 .rename_i id hx;split at h
  .rename_i j e s p l;obtain ⟨u,A⟩:=pI l;have:e=id:=b0 A;subst this;have g:=bK (ρ:=ρ) hx;simp [AV.val] at g;have hi:=iR (ρ:=ρ) (T:=T) (Φ:=ab ρ T fr.H++Φ) u;have hI  :=m.iter hi;have t:(getObj (ρ e).b).run X.P w= .ok (.stringIter ⟨s.toArray⟩ p) w:=by simp [getObj,Sem.run];rw [hI]
   rcases wK h with ⟨n,q⟩|⟨n,q⟩
   .have k  :=by simpa using n
    have v:=(Array.getElem?_eq_some_iff.1 hI).1;have o:Zq { w with heap:=w.heap.setIfInBounds (ρ e).b (.stringIter ⟨s.toArray⟩ (xB s p)) } (ρ e).b s (xB s p):=by show (w.heap.setIfInBounds (ρ e).b _)[(ρ e).b]? =_;grind
    have hC:mO [(ρ e).b] w { w with heap:=w.heap.setIfInBounds (ρ e).b (.stringIter ⟨s.toArray⟩ (xB s p)) }:=⟨rfl,rfl,rfl,by grind,λc _ z=>by grind⟩
    have kl:(setObj (ρ e).b (.stringIter ⟨s.toArray⟩ (xB s p))).run X.P w= .ok () { w with heap:=w.heap.setIfInBounds (ρ e).b (.stringIter ⟨s.toArray⟩ (xB s p)) }:=by simp [setObj,Sem.run];rw [hI]
    have i:p<(⟨s.toArray⟩:ByteArray).size:=by exact k
    have B:xB s p=p+(Utf8.decode ⟨s.toArray⟩ p).2:=rfl;have f:pr X.P (az ρ T st.E fr.F) ⟨some d,.next x true,ty,pos,af,none⟩ w (.tuple #[.bool true,.int .i64 (p),.int .i32 (aiT s p)]) { w with heap:=w.heap.setIfInBounds (ρ e).b (.stringIter ⟨s.toArray⟩ (xB s p)) }:=λn' a l=>by rw [B] at kl ⊢;simp only [execOp,g n' a l rfl,Instr.next,Sem.run_bind,t,Result.andThen_ok,du i,kl];rfl
    refine .none_ (bL.gd (bL.tl f (aU.lC q (cK _) rfl (by simp [AV.val,AV.al]) ?_)));have y  :=(List.getElem?_eq_some_iff.1 u).1;rw [gG y];exact m.mM hi hC (λc C=>by
     grind [Row.item,Go.Proofs.YtcgihjbfppkcfaaGreatDoor.iter,Array.getElem?_eq_some_iff]) (λ_ _ _=>o)
   .have k:¬p<s.length:=by simpa using n
    have f:pr X.P (az ρ T st.E fr.F) ⟨some d,.next x true,ty,pos,af,none⟩ w (.tuple #[.bool false]) w:=λn' a l=>by
     have i:¬p<(⟨s.toArray⟩:ByteArray).size:=by exact k
     simp [execOp,g n' a l rfl,Instr.next,Sem.run_bind,t,Result.andThen_ok,dk i,Sem.run_pure]
    exact .none_ (bL.gd (bL.tl f (aU.lC q (cK _) rfl (by simp [AV.val,AV.al]) m)))
  .cases h
 .cases h
def anZ(X:Cx)(T:aB)(fr:Fr)(st:aC)(g:GK)(d:Tmp)(s dt:TypeId)(x:Operand)(K:cL R):Option R:=match bw T st.E fr.F g x with
 |some (.str l)=>aD ( isStr X.P s ) ( match jK X.P dt with
  |some e=>(match tyK X.P e with
   |some .u8=>K { st with c:=st.c+1,E:=cM (some d) g (.sl st.c) st.E,G:= .sli g st.c (.i .u8) (aQ l) false::st.G }
   |_=>none)
  |none=>none ) none
 |_=>none
theorem apK{s j:TypeId}(hl:st.low fr=true)(c:Sat (ab ρ T st.G++(ab ρ T fr.H++Φ)) w)(h:anZ X T fr st g d s j x K=some r):
  ny X.P T g (az ρ T st.E fr.F) ⟨some d,.convert s j x,ty,pos,af,gd⟩ w (aU r K T fr st g (some d) ρ Φ):=by
 unfold anZ at h;split at h
 .rename_i l hx;obtain ⟨t,a⟩:=aI h;split at a
  .rename_i e n;split at a
   .rename_i hk;have b:=aP (ρ:=ρ) hx;refine ⟨λf=>?_,λf=>?_⟩
    .rw [f] at b;obtain ⟨u,w',k,q,m,o⟩:=al9 (w:=w) (tZ t) (cw n) (UJ hk) b;have i:=o (Ctx.M (ab ρ T st.G++(ab ρ T fr.H++Φ))) (λhm=>by have:=c.lt hm;omega);obtain ⟨p,rfl⟩:=i.rn;refine bL.gd (bL.tl k (aU.push (x:={ dA with v:=p }) hl a (by simp [AV.val,ay.bJ]) ((c.ext q).add rfl ?_)));simp [Row.item,ay.bJ];exact λ_=>⟨i,λhb=>by cases hb⟩
    .exact ⟨_,aU.push (x:=dA) hl a rfl (c.add rfl λh=>by rw [f] at h;cases h)⟩
   .cases a
  .cases a
 .cases h
def anP(X:Cx)(T:aB)(fr:Fr)(st:aC)(d:Tmp)(op:BinOp)(t:TypeId)(x y:Operand)(K:cL R):Option R:=match jK X.P t with
 |some _=>(match bw T st.E fr.F none x with
  |some (.sl id)=>(match bw T st.E fr.F none y with
   |some (.raw (.slice none 0 0))=>(match XM st.G fr.H id with
    |some ⟨none,_,l⟩=>(match op with
     | .eql=>AQ l (K { st with E:=cM (some d) none (.bool true) st.E }) (K { st with E:=cM (some d) none (.bool false) st.E })
     | .neq=>AQ l (K { st with E:=cM (some d) none (.bool false) st.E }) (K { st with E:=cM (some d) none (.bool true) st.E })
     |_=>none)
    |_=>none)
   |_=>none)
  |_=>none)
 |none=>none
theorem aqk{op:BinOp}{t:TypeId}(i:Sat (ab ρ T st.G++(ab ρ T fr.H++Φ)) w)(h:anP X T fr st d op t x y K=some r):
  ny X.P T none (az ρ T st.E fr.F) ⟨some d,.binOp op t x y t',ty,pos,af,gd⟩ w (aU r K T fr st none (some d) ρ Φ):=by
 unfold anP at h;split at h
 .rename_i e k;split at h
  .rename_i id hx;split at h
   .rename_i n;split at h
    .rename_i u l g;have f:=bK (ρ:=ρ) hx;have c:=bK (ρ:=ρ) n;simp [AV.val] at f c;have a:=VI i g aB.get_none;have j:(BA (sl (ρ id).v)=true/\l=[])\/BA (sl (ρ id).v)=false:=by
      rcases abX i g aB.get_none with hS|⟨e',o⟩
      .grind [ac1]
      .exact adt o
     have mk:∀b:Bool,K { st with E:=cM (some d) none (.bool b) st.E }=some r->aU r K T fr st none (some d) ρ Φ (.bool b) w:=λb hb=>aU.lC hb (cK _) rfl (by simp [AV.val]) i;split at h
     .obtain ⟨m,k1⟩:=Xs h;refine .none_ (bL.gd (bL.run (ade (cw k) f a c) ?_));grind
     .obtain ⟨m,k1⟩:=Xs h;refine .none_ (bL.gd (bL.run (adC (cw k) f a c) ?_));grind
     .cases h
    .cases h
   .cases h
  .cases h
 .cases h
def ag8(i:Int)(m:Nat)(k:Nat->Option R):Nat->Nat->Option R
 |0,_=>none
 |n+1,j=>cond (i==(j:Int)) (k (j*m)) (ag8 i m k n (j+1))
theorem ME{i:Int}{m:Nat}{k:Nat->Option R}:∀{n j:Nat},ag8 i m k n j=some r->∃q,j<=q/\q<j+n/\i=(q:Int)/\k (q*m)=some r
 |0,j,h=>by cases h
 |n+1,j,h=>by
  rcases wK h with ⟨f,a⟩|⟨_,a⟩
  .grind
  .obtain ⟨q,e,d,c,b⟩:=ME a;grind
end
def fS:List Ty->Type
 |[]=>Unit
 |[t]=>t.T
 |t::u::ts=>t.T×fS (u::ts)
def jb:(ts:List Ty)->fS ts->List cr
 |[],_=>[]
 |[t],x=>[⟨t,x⟩]
 |t::u::ts,x=>⟨t,x.1⟩::jb (u::ts) x.2
def cU:(ts:List Ty)->List cr->Option (fS ts)
 |[],D=>(match D with
  |[]=>some ()
  |_=>none)
 |[t],D=>(match D with
  |[d]=>d.as t
  |_=>none)
 |t::u::ts,D=>(match D with
  |d::D=>(match d.as t with
   |some x=>(match cU (u::ts) D with
    |some y=>some (x,y)
    |none=>none)
   |none=>none)
  |_=>none)
theorem DQ:(a:List Ty)->{D:List cr}->{s:fS a}->cU a D=some s->jb a s=D
 |[],D,s,h=>by
  unfold cU at h;split at h
  .rfl
  .cases h
 |[t],D,s,h=>by
  match D,h with
  |[d],h=>rw [cr.Pp h];rfl
  |[],h=>cases h
  |_::_::_,h=>cases h
 |t::u::a,D,s,h=>by
  unfold cU at h;split at h
  .split at h
   .rename_i x hx;split at h
    next y b=>cases h;show ⟨t,x⟩::jb (u::a) y=_;rw [DQ (u::a) b,cr.Pp hx]
    .cases h
   .cases h
  .cases h
def ahd:(ts:List Ty)->fS ts
 |[]=>()
 |[t]=>t.uM
 |t::u::ts=>(t.uM,ahd (u::ts))
mutual
def rT:Pt->List Ty
 | .int k=>[.i k]
 | .bool=>[.bo]
 | .str=>[.s]
 | .sli t=>[.l t]
 | .own t _ _=>[.l t]
 | .bx _ _ _ vs=>sG vs
 | .mp k v _=>[.mp k v]
 | .it=>[.s,.n]
 | .agg l=>sG l
 | .cU l=>sG l
 | .fn _ a b=>sG a++sG b
 | .ifc _ p=>rT p
 | .dat t _=>[t]
 | .ifn=>[.n]
 | .sfp=>[.bo]
 |_=>[]
def sG:List Pt->List Ty
 |[]=>[]
 |p::l=>rT p++sG l
end
def jo:List (Bool×Nat×Pt)->List Ty
 |[]=>[]
 |x::l=>rT x.2.2++jo l
abbrev Fx:=Option (Value×zc)
def yc(fx:Fx)(v:Value):Prop:= ∀p,fx=some p->v=p.1
def fxC(fx:Fx):zc:=match fx with
 |some p=>p.2
 |none=>[]
def Zb:Pt->Bool
 | .agg _=>true
 | .fn _ _ _=>true
 | .ifc _ _=>true
 |_=>false
def fx1(p:Pt)(fxs:zc):Fx:=match fxs with
 |[]=>none
 |u::_=>aD (Zb p) none (some (u,[]))
abbrev gf:=List (Bool×Item)
abbrev lT:=List (Nat×zc)
def oe(e:Nat):Nat:=e/2
def ow(e:Nat):Bool:=Nat.beq (e%2) 1
def QJ:(t:Ty)->t.T->zc->wi->List Nm->gf->List Nm->wi->Prop
 | .i k,x,cs,o,N,I,N',o'=>cs=[.int k x]/\I=[]/\N'=N/\o'=o
 | .bo,x,cs,o,N,I,N',o'=>cs=[.bool x]/\I=[]/\N'=N/\o'=o
 | .s,x,cs,o,N,I,N',o'=>cs=[S x]/\I=[]/\N'=N/\o'=o
 | .un,_,cs,o,N,I,N',o'=>cs=[]/\I=[]/\N'=N/\o'=o
 | .p a b,x,cs,o,N,I,N',o'=>∃c1 c2 N1 I1 I2 o1,QJ a x.1 c1 o N I1 N1 o1/\QJ b x.2 c2 o1 N1 I2 N' o'/\cs=c1++c2/\I=I1++I2
 | .l t,x,cs,o,N,I,N',o'=>∃a:Nm,cs=[sl a.v]/\N'=N++[a]/\((o=none::o'/\I=[(false,Od true t.rep a.v x false)])\/∃e,o=some e::o'/\I=[(ow e,uf t.rep (oe e) a.v x True)]/\a.y=⟨.l t,x⟩)
 | .ex,x,cs,o,N,I,N',o'=>∃a:Nm,cs=[.int .i64 x.op,.int .i64 x.n,.int .i64 x.at_,sl a.v]/\N'=N++[a]/\((o=none::o'/\I=[(false,Od true K4 a.v x.l false)])\/∃e,o=some e::o'/\I=[(ow e,uf K4 (oe e) a.v x.l True)]/\a.y=⟨.l .ex,x.l⟩)
 |_,_,_,_,_,_,_,_=>False
mutual
def Sem:Pt->Value->Fx->Option Value->List Nm->List cr->gf->lT->List Nm->Prop
 | .int k,v,_,_,N,D,I,X,N'=>∃x,v= .int k x/\D=[⟨.i k,x⟩]/\I=[]/\X=[]/\N'=N
 | .bool,v,_,_,N,D,I,X,N'=>∃x,v= .bool x/\D=[⟨.bo,x⟩]/\I=[]/\X=[]/\N'=N
 | .str,v,_,_,N,D,I,X,N'=>∃x,v=S x/\D=[⟨.s,x⟩]/\I=[]/\X=[]/\N'=N
 | .sli t,v,_,_,N,D,I,X,N'=>∃(a:Nm) (l:List t.T),v=sl a.v/\D=[⟨.l t,l⟩]/\I=[(false,Od true t.rep a.v l false)]/\X=[]/\N'=N++[a]
 | .own t e m,v,fx,_,N,D,I,X,N'=>∃(a:Nm) (l:List t.T),v=sl a.v/\yc fx v/\D=[⟨.l t,l⟩]/\I=[(m,uf t.rep e a.v l True)]/\X=[]/\N'=N++[a]/\a.y=⟨.l t,l⟩
 | .slr n,v,_,_,N,D,I,X,N'=>∃a:Nm,N[n]? =some a/\v=sl a.v/\D=[]/\I=[]/\X=[]/\N'=N
 | .bx t off m vs,v,fx,_,N,D,I,X,N'=>∃(a:Nm) (cs:zc) (I':gf) (X':lT),v= .pointer (some ⟨a.b,off,none⟩)/\yc fx v/\yA vs cs [] (fxC fx) (N++[a]) D I' X' N'/\I=(m,box a.b t cs)::I'/\X=(aD m [(N.length,cs)] [])++X'
 | .ptr n off,v,_,_,N,D,I,X,N'=>∃a:Nm,N[n]? =some a/\v= .pointer (some ⟨a.b,off,none⟩)/\D=[]/\I=[]/\X=[]/\N'=N
 | .mp k u m,v,fx,_,N,D,I,X,N'=>∃(a:Nm) (d:Option (List (k.T×u.T))),v= .map a.m/\yc fx v/\D=[⟨.mp k u,d⟩]/\I=[(m,omap (HZ k) (HZ u) (.map a.m) d)]/\X=[]/\N'=N++[a]
 | .it,v,fx,_,N,D,I,X,N'=>∃(a:Nm) (s:aE) (p:Nat),v= .pointer (some ⟨a.b,0,none⟩)/\yc fx v/\D=[⟨.s,s⟩,⟨.n,p⟩]/\I=[(true,iter a.b s p)]/\X=[]/\N'=N++[a]
 | .agg l,v,fx,_,N,D,I,X,N'=>∃cs:zc,v= .agg cs.toArray/\yc fx v/\yA l cs (aD fx.isSome cs []) [] N D I X N'
 | .cU l,v,_,_,N,D,I,X,N'=>∃cs:zc,v= .tuple cs.toArray/\yA l cs [] [] N D I X N'
 | .fn f a b,v,fx,_,N,D,I,X,N'=>∃(us vs:zc) (D1 D2:List cr) (I1 I2:gf) (X1 X2:lT) (N1:List Nm),v= .func (.func f) us.toArray vs.toArray/\yc fx v/\yA a us [] [] N D1 I1 X1 N1/\yA b vs (aD fx.isSome vs []) [] N1 D2 I2 X2 N'/\D=D1++D2/\I=I1++I2/\X=X1++X2
 | .ifc t p,v,fx,_,N,D,I,X,N'=>∃u,v= .iface t u/\yc fx v/\Sem p u (fx1 p (aD fx.isSome [u] [])) none N D I X N'
 | .nU c,v,_,_,N,D,I,X,N'=>(v=c.val (λ_=>dA)/\∀ρ,c.val ρ=c.val (λ_=>dA))/\D=[]/\I=[]/\X=[]/\N'=N
 | .dat t o,v,_,_,N,D,I,X,N'=>∃(cs:zc) (x:t.T) (o':wi),v= .agg cs.toArray/\D=[⟨t,x⟩]/\QJ t x cs o N I N' o'/\X=[]
 | .ifn,v,_,_,N,D,I,X,N'=>∃x:Nat,v= .iface x (.agg #[])/\D=[⟨.n,x⟩]/\I=[]/\X=[]/\N'=N
 | .sfp,v,_,_,N,D,I,X,N'=>∃(a:Nm) (f:Bool),N[N.length-1]? =some a/\v=DI f a.b/\D=[⟨.bo,f⟩]/\I=[]/\X=[]/\N'=N
 | .same,v,fx,sm,N,D,I,X,N'=>((∃p,fx=some p/\v=p.1)\/(fx=none/\sm=some v))/\D=[]/\I=[]/\X=[]/\N'=N
def yA:List Pt->zc->zc->zc->List Nm->List cr->gf->lT->List Nm->Prop
 |[],vs,_,_,N,D,I,X,N'=>vs=[]/\D=[]/\I=[]/\X=[]/\N'=N
 |p::l,vs,fxs,sms,N,D,I,X,N'=>∃(v:Value) (vs':zc) (D1 D2:List cr) (I1 I2:gf) (X1 X2:lT) (N1:List Nm),vs=v::vs'/\Sem p v (fx1 p fxs) sms.head? N D1 I1 X1 N1/\yA l vs' fxs.tail sms.tail N1 D2 I2 X2 N'/\D=D1++D2/\I=I1++I2/\X=X1++X2
end
def H2(fix:Nat->Fx)(val:Nat->Option Value):List (Bool×Nat×Pt)->List Nm->List cr->gf->lT->List Nm->Prop
 |[],N,D,I,X,N'=>D=[]/\I=[]/\X=[]/\N'=N
 |x::l,N,D,I,X,N'=>∃(v:Value) (D1 D2:List cr) (I1 I2:gf) (X1 X2:lT) (N1:List Nm),(aD x.1 ((fix x.2.1).map (·.1)) (val x.2.1))=some v/\Sem x.2.2 v (aD x.1 (fix x.2.1) none) none N D1 I1 X1 N1/\H2 fix val l N1 D2 I2 X2 N'/\D=D1++D2/\I=I1++I2/\X=X1++X2
mutual
def AV.same:AV->AV->Bool
 | .fn f a b,v=>(match v with
  | .fn f' a' b'=>Nat.beq f f'&&AV.OO a a'&&AV.OO b b'
  |_=>false)
 | .tuple l,v=>(match l with
  |[]=>(match v with
   | .tuple l=>l.isEmpty
   |_=>false)
  |_=>false)
 | .int k x,v=>(match v with
  | .int k' x'=>j3 k k'&&(x==x')
  |_=>false)
 | .raw u,v=>(match v with
  | .raw u'=>(match u,u' with
   | .slice none m n,.slice none m' n'=>Nat.beq m m'&&Nat.beq n n'
   | .pointer none,.pointer none=>true
   | .nilFunc,.nilFunc=>true
   | .nilIface,.nilIface=>true
   | .map none,.map none=>true
   |_,_=>false)
  |_=>false)
 |_,_=>false
def AV.OO:List AV->List AV->Bool
 |[],l'=>l'.isEmpty
 |v::l,l'=>(match l' with
  |v'::l'=>AV.same v v'&&AV.OO l l'
  |[]=>false)
end
mutual
theorem AV.Kb{ρ ρ':ay}:(v:AV)->(c:AV)->AV.same v c=true->c.val ρ'=v.val ρ
 | .fn f a b,c,h=>by
  unfold AV.same at h;split at h
  next g e d=>simp only [au] at h;simp only [AV.val];rw [b0 h.1.1,AV.M5 a e h.1.2,AV.M5 b d h.2]
  .cases h
 | .tuple l,c,h=>by
  unfold AV.same at h;grind [AV.val,AV.al]
 | .raw u,c,h=>by
  unfold AV.same at h;split at h
  .split at h
   .simp_all [AV.val]
   .simp [AV.val]
   .simp [AV.val]
   .simp [AV.val]
   .simp [AV.val]
   .cases h
  .cases h
 | .int k x,c,h=>by
  unfold AV.same at h;split at h
  .simp only [au] at h;simp only [AV.val];rw [om h.1,eq_of_beq h.2]
  .cases h
 | .bool _,c,h|.str _,c,h|.agg _,c,h|.ptr _ _,c,h|.sl _,c,h|.adr _ _,c,h|.ifc _ _,c,h|.mp _,c,h|.gp _,c,h|.nv _,c,h|.sfp _ _,c,h=>by grind [AV.same]
theorem AV.M5{ρ ρ':ay}:(l:List AV)->(l':List AV)->AV.OO l l'=true->AV.al ρ' l'=AV.al ρ l
 |[],l',h=>by
  unfold AV.OO at h;have  :=by simpa using h
  subst this;rfl
 |v::l,l',h=>by
  unfold AV.OO at h;split at h
  next a l'=>simp at h;simp only [AV.al];rw [AV.Kb v a h.1,AV.M5 l l' h.2]
  .cases h
end
structure MR where
 B:w5
 S:List (Bool×Src)
 D:List cr
 X:List (Nat×List AV)
def acD(G H:List Row)(t:Ty)(v:AV):Option (ze×Src×List t.T):=match v with
 | .sl j=>(match eM G H (rn j) with
  |some (s,.sli none _ t' l _)=>(match vN.cr.asL t ⟨.l t',l⟩ with
   |some l=>some (some j,s,l)
   |none=>none)
  |_=>none)
 | .raw (.slice none 0 0)=>some (none,.nilI t,[])
 |_=>none
def Zs(G H:List Row)(t:Ty)(e:TypeId)(v:AV):Option (ze×Src×List t.T):=match v with
 | .sl j=>(match eM G H (rn j) with
  |some (s,.own _ t' e' l _)=>aD ( Nat.beq e e' ) ( match vN.cr.asL t ⟨.l t',l⟩ with
   |some l=>some (some j,s,l)
   |none=>none
   ) none
  |_=>none)
 | .raw (.slice none 0 0)=>some (none,.nilO t e,[])
 |_=>none
structure DR(t:Ty) where
 x:t.T
 vs:List AV
 o:wi
 B:w5
 S:List (Bool×Src)
def Iy(G H:List Row):(t:Ty)->List AV->wi->w5->Option (DR t)
 | .i k,vs,o,B=>(match vs with
  | .int k' x::vs=>aD ( j3 k k' ) ( some ⟨x,vs,o,B,[]⟩ ) none
  |_=>none)
 | .bo,vs,o,B=>(match vs with
  | .bool x::vs=>some ⟨x,vs,o,B,[]⟩
  |_=>none)
 | .s,vs,o,B=>(match vs with
  | .str x::vs=>some ⟨x,vs,o,B,[]⟩
  |_=>none)
 | .un,vs,o,B=>some ⟨(),vs,o,B,[]⟩
 | .p a b,vs,o,B=>(match Iy G H a vs o B with
  |some d=>(match Iy G H b d.vs d.o d.B with
   |some e=>some ⟨(d.x,e.x),e.vs,e.o,e.B,d.S++e.S⟩
   |none=>none)
  |none=>none)
 | .l t,vs,o,B=>(match vs with
  |v::vs=>(match o with
   |none::o=>(match acD G H t v with
    |some q=>some ⟨q.2.2,vs,o,B++[q.1],[(false,q.2.1)]⟩
    |none=>none)
   |some e::o=>(match Zs G H t (oe e) v with
    |some q=>some ⟨q.2.2,vs,o,B++[q.1],[(ow e,q.2.1)]⟩
    |none=>none)
   |[]=>none)
  |[]=>none)
 | .ex,vs,o,B=>(match vs with
  | .int .i64 a:: .int .i64 b:: .int .i64 c::v::vs=>(match o with
   |none::o=>(match acD G H .ex v with
    |some q=>some ⟨Ex.mk a b c q.2.2,vs,o,B++[q.1],[(false,q.2.1)]⟩
    |none=>none)
   |some e::o=>(match Zs G H .ex (oe e) v with
    |some q=>some ⟨Ex.mk a b c q.2.2,vs,o,B++[q.1],[(ow e,q.2.1)]⟩
    |none=>none)
   |[]=>none)
  |_=>none)
 |_,_,_,_=>none
def Si:ze->ze->Bool
 |some a,some b=>Nat.beq a b
 |none,none=>true
 |_,_=>false
theorem apa{a b:ze}(h:Si a b=true):a=b:=by unfold Si at h;grind [Nat.eq_of_beq_eq_true]
abbrev jB:=Option (AV×List AV)
def tn(p:Pt)(fxs:List AV):jB:=match fxs with
 |[]=>none
 |u::_=>aD (Zb p) none (some (u,[]))
def uN(p:Pt)(fx:jB):Bool:=match p with
 | .agg _=>(match fx with
  |some (.agg _,_)=>true
  |some _=>false
  |none=>true)
 | .fn _ _ _=>(match fx with
  |some (.fn _ _ _,_)=>true
  |some _=>false
  |none=>true)
 | .ifc _ _=>(match fx with
  |some (.ifc _ _,_)=>true
  |some _=>false
  |none=>true)
 |_=>true
def jj(fx:jB):List AV:=match fx with
 |some (.agg us,_)=>us
 |some (.fn _ _ b,_)=>b
 |some (.ifc _ u,_)=>[u]
 |_=>[]
def Li(fx:jB):List AV:=match fx with
 |some p=>p.2
 |none=>[]
def nvs(v:AV)(fx:jB)(sm:Option AV):Bool:=match fx with
 |some _=>true
 |none=>(match sm with
  |some (.nv u)=>(match v with
   | .nv w=>Nat.beq u w
   |_=>false)
  |_=>false)
def abw:Pt->Bool
 | .same=>true
 |_=>false
mutual
def mt(G H:List Row):Pt->AV->jB->Option AV->w5->Option MR
 | .int k,v,_,_,B=>(match v with
  | .int k' x=>aD (j3 k k') (some ⟨B,[],[⟨.i k,x⟩],[]⟩) none
  |_=>none)
 | .bool,v,_,_,B=>(match v with
  | .bool x=>some ⟨B,[],[⟨.bo,x⟩],[]⟩
  |_=>none)
 | .str,v,_,_,B=>(match v with
  | .str x=>some ⟨B,[],[⟨.s,x⟩],[]⟩
  |_=>none)
 | .sli t,v,_,_,B=>(match acD G H t v with
  |some q=>some ⟨B++[q.1],[(false,q.2.1)],[⟨.l t,q.2.2⟩],[]⟩
  |none=>none)
 | .own t e m,v,_,_,B=>(match Zs G H t e v with
  |some q=>some ⟨B++[q.1],[(m,q.2.1)],[⟨.l t,q.2.2⟩],[]⟩
  |none=>none)
 | .slr n,v,_,_,B=>(match v with
  | .sl j=>aD (Si ((B[n]?).getD none) (some j)) (some ⟨B,[],[],[]⟩) none
  |_=>none)
 | .bx t off m vs,v,fx,_,B=>(match v with
  | .ptr j off'=>aD (Nat.beq off off') (match eM G H (Bv j) with
   |some (s,.box _ t' cs)=>aD (Nat.beq t t') (match IL G H vs cs [] (Li fx) (B++[some j]) with
     |some r=>some ⟨r.B,(m,s)::r.S,r.D,(aD m [(B.length,cs)] [])++r.X⟩
     |none=>none) none
   |_=>none) none
  |_=>none)
 | .ptr n off,v,_,_,B=>(match v with
  | .ptr j off'=>aD (Nat.beq off off'&&Si ((B[n]?).getD none) (some j)) (some ⟨B,[],[],[]⟩) none
  |_=>none)
 | .mp k u m,v,_,_,B=>(match v with
  | .mp j=>(match eM G H (ag5 j) with
   |some (s,.mp _ k' u' d)=>(match cr.as (.mp k u) ⟨.mp k' u',d⟩ with
    |some d=>some ⟨B++[some j],[(m,s)],[⟨.mp k u,d⟩],[]⟩
    |none=>none)
   |_=>none)
  | .raw (.map none)=>some ⟨B++[none],[(m,.nilM k u)],[⟨.mp k u,(none:Option (List (k.T×u.T)))⟩],[]⟩
  |_=>none)
 | .it,v,_,_,B=>(match v with
  | .ptr j 0=>(match eM G H (aqJ j) with
   |some (s,.it _ x p)=>some ⟨B++[some j],[(true,s)],[⟨.s,x⟩,⟨.n,p⟩],[]⟩
   |_=>none)
  |_=>none)
 | .agg l,v,fx,_,B=>(match v with
  | .agg vs=>aD (uN (.agg l) fx) (IL G H l vs (aD fx.isSome vs []) [] B) none
  |_=>none)
 | .cU l,v,_,_,B=>(match v with
  | .tuple vs=>IL G H l vs [] [] B
  |_=>none)
 | .fn f a b,v,fx,_,B=>(match v with
  | .fn f' a' b'=>aD (Nat.beq f f'&&uN (.fn f a b) fx) (match IL G H a a' [] [] B with
   |some r=>(match IL G H b b' (aD fx.isSome b' []) [] r.B with
    |some q=>some ⟨q.B,r.S++q.S,r.D++q.D,r.X++q.X⟩
    |none=>none)
   |none=>none) none
  |_=>none)
 | .ifc t p,v,fx,_,B=>(match v with
  | .ifc t' u=>aD (Nat.beq t t'&&uN (.ifc t p) fx) (mt G H p u (tn p (aD fx.isSome [u] [])) none B) none
  |_=>none)
 | .nU c,v,_,_,B=>aD (AV.same c v) (some ⟨B,[],[],[]⟩) none
 | .dat t o,v,_,_,B=>(match v with
  | .agg cs=>(match Iy G H t cs o B with
   |some ⟨x,[],_,B',S⟩=>some ⟨B',S,[⟨t,x⟩],[]⟩
   |_=>none)
  |_=>none)
 | .ifn,v,_,_,B=>(match v with
  | .ifc t (.agg [])=>some ⟨B,[],[⟨.n,t⟩],[]⟩
  |_=>none)
 | .sfp,v,_,_,B=>(match v with
  | .raw (.pointer none)=>(match B[B.length-1]? with
   |some _=>some ⟨B,[],[⟨.bo,false⟩],[]⟩
   |none=>none)
  | .sfp j f=>aD (Si ((B[B.length-1]?).getD none) (some j)) (some ⟨B,[],[⟨.bo,f⟩],[]⟩) none
  | .ptr j 0=>aD (Si ((B[B.length-1]?).getD none) (some j)) (some ⟨B,[],[⟨.bo,true⟩],[]⟩) none
  |_=>none)
 | .same,v,fx,sm,B=>aD (nvs v fx sm) (some ⟨B,[],[],[]⟩) none
def IL(G H:List Row):List Pt->List AV->List AV->List AV->w5->Option MR
 |[],vs,_,_,B=>(match vs with
  |[]=>some ⟨B,[],[],[]⟩
  |_=>none)
 |p::l,vs,fxs,sms,B=>(match vs with
  |v::vs=>(match mt G H p (aD (abw p) v (y6 G H v)) (tn p fxs) sms.head? B with
   |some r=>(match IL G H l vs fxs.tail sms.tail r.B with
    |some q=>some ⟨q.B,r.S++q.S,r.D++q.D,r.X++q.X⟩
    |none=>none)
   |none=>none)
  |[]=>none)
end
def uV(fix:Nat->jB):List (Bool×Nat×Pt)->Bool
 |[]=>true
 |x::l=>uN x.2.2 (aD x.1 (fix x.2.1) none)&&uV fix l
theorem aoI{G H:List Row}{p:Pt}{v:AV}{fx:jB}{a:Option AV}{B:w5}{r:MR}(h:mt G H p v fx a B=some r):uN p fx=true:=by
 cases p <;> first|rfl|skip
 .unfold mt at h;grind
 .unfold mt at h;grind
 .unfold mt at h;grind
def mtV(G H:List Row)(look:Nat->Option AV)(fix:Nat->jB):List (Bool×Nat×Pt)->w5->Option MR
 |[],B=>some ⟨B,[],[],[]⟩
 |x::l,B=>(match (aD x.1 ((fix x.2.1).map (·.1)) (look x.2.1)) with
  |some v=>(match mt G H x.2.2 v (aD x.1 (fix x.2.1) none) none B with
   |some r=>(match mtV G H look fix l r.B with
    |some q=>some ⟨q.B,r.S++q.S,r.D++q.D,r.X++q.X⟩
    |none=>none)
   |none=>none)
  |none=>none)
theorem ace{G H:List Row}{b:Nat->Option AV}{fix:Nat->jB}:{l:List (Bool×Nat×Pt)}->{B:w5}->{r:MR}->mtV G H b fix l B=some r->uV fix l=true
 |[],_,_,_=>rfl
 |x::l,B,r,h=>by
  unfold mtV at h;split at h
  .split at h
   .rename_i q c;split at h
    next d a=>simp [uV,au];exact ⟨aoI c,ace a⟩
    .cases h
   .cases h
  .cases h
end
end Go.Proofs.YtcgihjbfppkcfaaGreatDoor
