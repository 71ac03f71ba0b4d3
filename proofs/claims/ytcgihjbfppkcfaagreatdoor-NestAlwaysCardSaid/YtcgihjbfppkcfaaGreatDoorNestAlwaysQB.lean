/- Own texts for NestAlwaysQ, cut and joined by a program. -/
import Derived.Test.YtcgihjbfppkcfaaGreatDoorNestAlwaysQA
import Derived.Lib.AppendStr
import Derived.Lib.UnsafeStr
import Derived.Lib.Builder
import Derived.Laws.Externs
import Derived.RecoverIn
set_option linter.all false
namespace Go.Proofs.YtcgihjbfppkcfaaGreatDoor
open IntKind (u8)
noncomputable section
variable {e t' : TypeId} {x y : Operand}
section
variable {P : Program} {E : Env} {w : World} {g : Bool}
variable {dst : zh} {ty : TypeId} {pos : String} {af : zj} {gd : xb}
abbrev BI(f:Bool)(b:Nat):Value:= .pointer (bif f then some ⟨b,0,none⟩ else none)
theorem ad2{t:TypeId}{f:Bool}{b:Nat}(ht:P.underlying t=some (.pointer e))(hx:al E g x (BI f b))(a:al E g y (.pointer none)):
  bc P E g ⟨dst,.binOp .eql t x y t',ty,pos,af,gd⟩ w (.bool (!f)):=
 cw (P:=P) hx a (by
  rw [Sem.run_bind,gD rfl,Result.andThen_ok];have h:∀d:Nat,(Op.equalIn (d+1) t (BI f b) (.pointer none)).run P w= .ok (!f) w:=λd=>by cases f <;> simp [Op.equalIn,run_underlying ht,BI]
  simp only [binOp];simp [Op.equal,Op.maxDepth,h 9999])
theorem afc{t:TypeId}{f:Bool}{b n bytes:Nat}{z:Value}(ht:P.underlying t=some (.pointer e))(a:TI P e n bytes z)(hx:al E g x (BI f b))(c:al E g y (.pointer (some ⟨b,0,none⟩))):
  bc P E g ⟨dst,.binOp .neq t x y t',ty,pos,af,gd⟩ w (.bool (!f)):=
 cw (P:=P) hx c (by
  rw [Sem.run_bind,gD rfl,Result.andThen_ok];obtain ⟨j,i,_⟩:=a.out;cases f
  .have h:∀d:Nat,(Op.equalIn (d+1) t (.pointer none) (.pointer (some ⟨b,0,none⟩))).run P w= .ok false w:=λd=>by simp [Op.equalIn,run_underlying ht]
   show (binOp .neq t (.pointer none) (.pointer (some ⟨b,0,none⟩))).run P w=_;simp only [binOp];simp [Op.equal,Op.maxDepth,h 9999]
  .exact Lib.run_neq_ptr_same w _ ht i)
theorem QV{κ ν:Type}{ke:κ->Value}{vi:ν->Value}{t kt f:TypeId}{o:zg}{dd:Option (List (κ×ν))}(ht:P.underlying t=some (.map kt f))(hx:al E g x (.map o))(c:al E g y (.map none))(hm:rv ke vi w (.map o) dd):
  bc P E g ⟨dst,.binOp .eql t x y t',ty,pos,af,gd⟩ w (.bool (Option.isNone dd)):=
 cw (P:=P) hx c (by
  rw [Sem.run_bind,gD rfl,Result.andThen_ok];rcases hm with ⟨e,rfl⟩|⟨b,i,a,l,e,rfl,_,_⟩
  .cases e;have h:∀d:Nat,(Op.equalIn (d+1) t (.map none) (.map none)).run P w= .ok true w:=λd=>by simp [Op.equalIn,run_underlying ht]
   simp only [binOp];simp [Op.equal,Op.maxDepth,h 9999]
  .cases e;have h:∀d:Nat,(Op.equalIn (d+1) t (.map (some b)) (.map none)).run P w= .ok false w:=λd=>by simp [Op.equalIn,run_underlying ht]
   simp only [binOp];simp [Op.equal,Op.maxDepth,h 9999])
theorem PG{κ ν:Type}{ke:κ->Value}{vi:ν->Value}{t kt f:TypeId}{o:zg}{dd:Option (List (κ×ν))}(ht:P.underlying t=some (.map kt f))(hx:al E g x (.map o))(c:al E g y (.map none))(hm:rv ke vi w (.map o) dd):
  bc P E g ⟨dst,.binOp .neq t x y t',ty,pos,af,gd⟩ w (.bool (!(Option.isNone dd))):=
 cw (P:=P) hx c (by
  rw [Sem.run_bind,gD rfl,Result.andThen_ok];rcases hm with ⟨e,rfl⟩|⟨b,i,a,l,e,rfl,_,_⟩
  .cases e;have h:∀d:Nat,(Op.equalIn (d+1) t (.map none) (.map none)).run P w= .ok true w:=λd=>by simp [Op.equalIn,run_underlying ht]
   simp only [binOp];simp [Op.equal,Op.maxDepth,h 9999]
  .cases e;have h:∀d:Nat,(Op.equalIn (d+1) t (.map (some b)) (.map none)).run P w= .ok false w:=λd=>by simp [Op.equalIn,run_underlying ht]
   simp only [binOp];simp [Op.equal,Op.maxDepth,h 9999])
theorem aaA{t kt b:TypeId}(ht:P.underlying t=some (.map kt b))(hx:al E g x (.map none))(a:al E g y (.map none)):
  bc P E g ⟨dst,.binOp .eql t x y t',ty,pos,af,gd⟩ w (.bool true):=QV (κ:=Unit) (ν:=Unit) (ke:=λ_=>undef) (vi:=λ_=>undef) (dd:=none) ht hx a (.inl ⟨rfl,rfl⟩)
theorem aaz{t kt b:TypeId}(ht:P.underlying t=some (.map kt b))(hx:al E g x (.map none))(a:al E g y (.map none)):
  bc P E g ⟨dst,.binOp .neq t x y t',ty,pos,af,gd⟩ w (.bool false):=PG (κ:=Unit) (ν:=Unit) (ke:=λ_=>undef) (vi:=λ_=>undef) (dd:=none) ht hx a (.inl ⟨rfl,rfl⟩)
theorem WJ{s d e':TypeId}{b n bytes:Nat}{z:Value}{vs:ze}(h:P.underlying s=some (.pointer e))(hd:P.underlying d=some .unsafePointer)(c:TI P e n bytes z)(hn:Nat.blt 0 n=true)
  (hx:al E g x (.pointer (some ⟨b,0,none⟩))) (hb:gf w b e' vs) (f:Nat.blt 0 vs.length=true):bc P E g ⟨dst,.convert s d x,ty,pos,af,gd⟩ w (.pointer (some ⟨b,0,none⟩)):=
 λn' a m l=>by
  obtain ⟨j,k,i,_⟩:=c.out;have pr:w.shape? b=some (e',vs.toArray.size):=by unfold World.shape?;rw [show w.heap[b]? =_ from hb]
  have p:0<n:=by simpa using hn
  have o:0<vs.length:=by simpa using f
  have:=Lib.run_to_unsafe (P:=P) w (cells:=vs.toArray.size) (⟨b,0,none⟩:Addr) h hd k (by omega) pr (by simpa using o);simp [execOp,hx n' a m l,this]
theorem Rx{s d e':TypeId}{b n bytes:Nat}{z:Value}{vs:ze}(f:P.underlying s=some .unsafePointer)(hd:P.underlying d=some (.pointer e))(c:TI P e n bytes z)
  (hx:al E g x (.pointer (some ⟨b,0,none⟩))) (hb:gf w b e' vs) (hl:liesAt P P.depth e' (vs.length/P.cellsOf e') 0 e 1=true):bc P E g ⟨dst,.convert s d x,ty,pos,af,gd⟩ w (.pointer (some ⟨b,0,none⟩)):=
 λn' a l k=>by
  obtain ⟨j,i,h,_⟩:=c.out;have pr:w.shape? b=some (e',vs.length):=by unfold World.shape?;rw [show w.heap[b]? =_ from hb];simp
  have:=Lib.run_from_unsafe (P:=P) w (⟨b,0,none⟩:Addr) f hd i pr hl;simp [execOp,hx n' a l k,this]
def aim(P:Program)(f:FuncId):Prop:= ∀(v:Value) (w:World),(callFunc f #[v]).run P w= .ok (.value v) w
theorem ai1{f:FuncId}{v:Value}{tys:Array TypeId}(hS:aim P f)(hx:al E g x v):bc P E g ⟨dst,.call ⟨.value (.func f),#[x],tys⟩,ty,pos,af,gd⟩ w v:=
 λn' a c b=>by have:=hS v w;have e:a.eval (.func f)= .func (.func f) #[] #[]:=rfl;simp only [execOp,resolve,e,Deferred.ofValue,Sem.run_bind,Sem.run_pure,Result.andThen_ok,invoke];simpa [hx n' a c b] using this
end
theorem aeH(s:aE):Lib.strCells ⟨s.toArray⟩=s.map λb=>Value.int .u8 (b.toNat:Int):=by simp [Lib.strCells]
theorem Jl{M:Nat->Prop}{w:World}:∀s:aE,cS (RI .u8) M w (Lib.strCells ⟨s.toArray⟩) (aP s):=λs=>by rw [aeH];exact JU s
theorem fX(s:aE):(aP s).length=s.length:=by simp [aP]
section
variable {P : Program} {w : World} {M : Nat -> Prop}
theorem wQ(t u q e:TypeId)(ht:P.underlying t=some (.slice e))(I:P.underlying u=some .string)(W:TI P e 1 1 (.int .u8 0))
  {v:Value} {xs:zn} {s:aE} (ho:jX (RI .u8) e M w v xs) (hM:∀b∈dL v,M b) (f:aH (xs.length+s.length) 1=true):
  ∃v' w',(Builtin.append_ #[t,u] q #[v,S s]).run P w= .ok v' w'/\lE (dL v) w w'/\(∀b∈dL v',b<w'.heap.size/\(b∈dL v\/w.heap.size<=b))/\
   (∀M',Mv M w M' w'->jX (RI .u8) e M' w' v' (xs++aP s)):=by
 obtain ⟨i,hi,r,O,hz⟩:=W.out;simp only [aH,an,Nat.mul_one] at f;have hb1:=er f.1;have Q:=er f.2;have a:(⟨s.toArray⟩:ByteArray).size=s.length:=sx s;obtain ⟨cells,d,hA⟩:=ho;have J:cS (RI .u8) M w (Lib.strCells ⟨s.toArray⟩) (aP s):=Jl s;have R:=hA.append J;have h:(RI .u8).n=1:=rfl;have H:cells.length=xs.length:=by have:=hA.1;rw [h] at this;omega
 have F:(Lib.strCells ⟨s.toArray⟩).length=s.length:=by rw [Lib.strCells_length,a]
 have k:(cells++Lib.strCells ⟨s.toArray⟩).length=(xs++aP s).length*1:=by simp [H,F,fX]
 have p:∀(kQ:Nat),kQ<xs.length+s.length->
   (w.drew.alloc (.cells (cells.toArray++(Lib.strCells ⟨s.toArray⟩).toArray++Builtin.zeroCells (Value.int .u8 0).cells (grownCap w (xs.length+s.length) kQ e-(xs.length+s.length))) e)).ownsRow 0 e 1
    (.slice (some ⟨w.heap.size,0,none⟩) (xs.length+s.length) (grownCap w (xs.length+s.length) kQ e)) (xs++aP s).length (cells++Lib.strCells ⟨s.toArray⟩):=by
  intro kQ hold;have Z:=grownCap_ge w (xs.length+s.length) kQ e;have z:grownCap w (xs.length+s.length) kQ e<=maxLen:=grownCap_le_maxLen w (xs.length+s.length) kQ e (by simpa [maxLen] using Q);refine ⟨k,.inr ⟨w.heap.size,_,_,by simp [fX],pF _,heap_alloc_new w.drew _,by simpa [fX] using Z,z,?_,?_⟩⟩
  .have U:(Value.int u8 0).cells.size=1:=rfl;simp only [qR,qj,size_zeroCells,U,H,F];omega
  .simp only [Array.toList_append,cb];rw [<-cb,<-k];exact ub
 have B:∀o C,lE C w (w.drew.alloc o):=λo C=>⟨rfl,rfl,rfl,by simp,λb hb _=>heap_alloc_old w.drew o hb⟩;have A:∀(n cap:Nat) (o:Obj),∀b∈dL (.slice (some ⟨w.heap.size,0,none⟩) n cap),b<(w.drew.alloc o).heap.size/\(b∈dL v\/w.heap.size<=b):=λn cap o b hb=>by
  have:b=w.heap.size:=by simpa [dL,Value.ownBlock] using hb
  subst this;exact ⟨by simp,.inr (c8 _)⟩
 by_cases hm:s.length=0
 .have Y:s=[]:=ej hm;subst Y;refine ⟨v,w,?_,(Ext.refl w).vV _,λb hb=>⟨(d.lt b (by simpa [dL] using hb)).2,.inl hb⟩,λM' m=>⟨cells,by simpa [aP] using d,by simpa [aP] using hA.mv m⟩⟩;rcases d.2 with ⟨rfl,h0⟩|⟨g,cap,cur,rfl,_,T,D,z,N,_⟩
  .have K:=Lib.run_firstCells_string (P:=P) w 1 ⟨#[]⟩;have e0:(⟨#[]⟩:ByteArray).size=0:=rfl;rw [e0] at K;simp [S,Builtin.append_,run_underlying ht,run_underlying I,sizeOf,typeInfo,hi,r,Builtin.lenOf,K,ByteArray.size]
  .have K:=Lib.run_firstCells_string (P:=P) w 1 ⟨#[]⟩;have e0:(⟨#[]⟩:ByteArray).size=0:=rfl;rw [e0] at K;simp [S,Builtin.append_,run_underlying ht,run_underlying I,sizeOf,typeInfo,hi,r,Builtin.lenOf,K,ByteArray.size,storeCells,Lib.strCells,D]
 .rcases d.2 with ⟨rfl,h0⟩|⟨g,cap,cur,rfl,_,T,D,z,N,E⟩
  .have V:xs=[]:=ej h0;subst V;have hc0:cells=[]:=ej (by simpa using H);subst hc0;have G:=run_append_nil_string (P:=P) w t u q e i (.int .u8 0) ht I hi hz ⟨s.toArray⟩ (by rw [a];omega) (by rw [a];simp at Q;omega) (by rw [a,O];simp at hb1;omega);have y:=p 0 (by simp;omega);have e1:((⟨s.toArray⟩:ByteArray).data.map λb=>Value.int .u8 b.toNat)=(Lib.strCells ⟨s.toArray⟩).toArray:=by apply Array.ext';simp [Lib.strCells]
   rw [e1,a] at G;simp only [qg,nI,l9,ua] at y;exact ⟨_,_,G,B _ _,A _ _ _,λM' m=>⟨_,by simpa [h] using y,by simpa using J.mv m⟩⟩
  .by_cases c:xs.length+s.length<=cap
   .have L:cur.size=cap:=by simpa [h] using N
    have G:=Lib.run_append_room_string (P:=P) w t u q e i ht I hi r g xs.length cap cur T ⟨s.toArray⟩ (by rw [a];exact c) (by rw [a,L];exact c);refine ⟨_,_,G,⟨rfl,rfl,rfl,by simp,λb hb hbg=>setRow_other w g b _ (by simpa [dL,Value.ownBlock] using hbg)⟩,λb hb=>?_,λM' m=>⟨cells++Lib.strCells ⟨s.toArray⟩,⟨k,.inr ⟨g,cap,_,by simp [fX,a],pF _,setRow_heap w g cur _ e _ T,by simpa [fX] using c,z,?_,?_⟩⟩,R.mv m⟩⟩
    .have:b=g:=by simpa [dL,Value.ownBlock] using hb
     subst this;exact ⟨by simpa using (Array.getElem?_eq_some_iff.1 T).1,.inl (by simp [dL,Value.ownBlock])⟩
    .simp only [qj,eP,dk,j5,fb,F,a,h];omega
    .have X:cur.toList.take xs.length=cells:=by simpa [h] using E
     have e:∀(l:ze),l.toArray.toList=l:=λl=>by simp
     rw [e,X,h,<-k];exact ub
   .have holds:∀j x,cells[j]? =some x->w.cell? ((⟨g,0,none⟩:Addr).add j)=some x:=d.cells (g:=g) rfl;have G:=Lib.run_append_grow_string (P:=P) w t u q e i (.int .u8 0) ht I hi hz ⟨g,0,none⟩ xs.length cap cells (by rw [r];omega) holds ⟨s.toArray⟩ (by rw [a];omega) (by rw [a];omega)
     (by rw [a,O];exact growslice_fits (by omega) (by omega))
    have y:=p cap (by omega);rw [a] at G;exact ⟨_,_,G,B _ _,A _ _ _,λM' m=>⟨_,by simpa [h] using y,R.mv m⟩⟩
theorem Bc(t u c e:TypeId)(ht:P.underlying t=some (.slice e))(p:P.underlying u=some .string)(k:TI P e 1 1 (.int .u8 0))
  {a0:Option Addr} {s:aE} (a:aH s.length 1=true):
  ((Builtin.append_ #[t,u] c #[.slice a0 0 0,S s]).run P w= .ok (.slice a0 0 0) w/\s=[])\/
  ∃g w',(Builtin.append_ #[t,u] c #[.slice a0 0 0,S s]).run P w= .ok g w'/\Ext w w'/\(∀b∈dL g,b<w'.heap.size/\w.heap.size<=b)/\(∀M',Mv M w M' w'->jX (RI .u8) e M' w' g (aP s)):=by
 obtain ⟨i,hi,q,z,E⟩:=k.out;by_cases hm:s=[]
 .subst hm;refine .inl ⟨?_,rfl⟩;have B:=Lib.run_firstCells_string (P:=P) w 1 ⟨#[]⟩;have J:(⟨#[]⟩:ByteArray).size=0:=rfl;rw [J] at B;cases a0 <;> simp [S,Builtin.append_,run_underlying ht,run_underlying p,sizeOf,typeInfo,hi,q,Builtin.lenOf,B,ByteArray.size,storeCells,Lib.strCells]
 .refine .inr ?_;cases a0 with
  |none=>
   obtain ⟨g,w',l,hC,C,H⟩:=wQ (M:=M) (w:=w) t u c e ht p k (jX.nil) (s:=s) (λb hb=>by simp [dL,Value.ownBlock] at hb) (by simpa using a);refine ⟨g,w',l,⟨hC.os,hC.tape,hC.output,hC.size,λb hb=>hC.block b hb (by simp [dL,Value.ownBlock])⟩,λb hb=>⟨(C b hb).1,?_⟩,λM' m=>by simpa using H M' m⟩;rcases (C b hb).2 with h|h
   .simp [dL,Value.ownBlock] at h
   .exact h
  |some D=>
   have d:(⟨s.toArray⟩:ByteArray).size=s.length:=sx s;simp only [aH,an,Nat.mul_one] at a;have G:=er a.1;have A:=er a.2;have K:0<s.length:=List.length_pos_iff.2 hm;have l:=Lib.run_append_grow_string (P:=P) w t u c e i (.int .u8 0) ht p hi E D 0 0 [] (by simp) (by intro j v F;simp at F) ⟨s.toArray⟩ (by rw [d];omega) (by rw [d];omega) (by rw [d,z];exact growslice_fits (by omega) (by omega));rw [d] at l;simp only [nI] at l;have r:(Builtin.append_ #[t,u] c #[.slice (some D) 0 0,S s]).run P w=_:=l;have x:=grownCap_ge w s.length 0 e;have y:grownCap w s.length 0 e<=maxLen:=grownCap_le_maxLen w s.length 0 e (by simpa [maxLen] using A);have f:(Lib.strCells ⟨s.toArray⟩).length=s.length:=by rw [Lib.strCells_length,d]
   refine ⟨_,_,r,⟨rfl,rfl,rfl,by simp,λb hb=>heap_alloc_old w.drew _ hb⟩,λb hb=>?_,λM' m=>⟨Lib.strCells ⟨s.toArray⟩,⟨by simp [f,fX,RI],.inr ⟨w.heap.size,_,_,by simp [fX],pF _,heap_alloc_new w.drew _,by simpa [fX] using x,y,?_,?_⟩⟩,(Jl s)⟩⟩
   .have:b=w.heap.size:=by simpa [dL,Value.ownBlock] using hb
    subst this;exact ⟨by simp,c8 _⟩
   .have o:(Value.int u8 0).cells.size=1:=rfl;simp only [qR,qj,size_zeroCells,o,f,qg];show _=_*1;omega
   .have I:(aP s).length*(RI .u8).n=(Lib.strCells ⟨s.toArray⟩).length:=by simp [fX,f,RI]
    rw [I];simp
end
section
variable {P : Program} {ρ : zg} {Q : bm} {n : Nat} {D : za} {E : Env} {w : World} {ops : zi} {rest : zl} {Γ : Ctx} {i : Nat}
variable {d : Tmp} {ty : TypeId} {pos : String} {af : zj}
theorem ad4{v:Value}{t u:TypeId}{R:zo}{xs:zn}{s:aE}(H:Sat Γ w)(i:Nat)(hi:Γ[i]? =some (jq (RI .u8) e v xs R))
  (ht:P.underlying t=some (.slice e)) (G:P.underlying u=some .string) (o:TI P e 1 1 (.int .u8 0)) (hx:al E true x v) (q:al E true y (S s))
  (f:aH (xs.length+s.length) 1=true) (hn:Nat.blt d n=true)
  (h:∀(p:ju) l w',Sat (Γ.set i (jq (RI .u8) e (sl p) (xs++aP s) l)) w'->WL P ρ ops Q n D rest ((d,true,sl p)::E) w'):
  WL P ρ ops Q n D (⟨some d,.call ⟨.builtin .append,#[x,y],#[t,u]⟩,ty,pos,af,none⟩::rest) E w:=by
 have key:∃c l w',om P E ⟨some d,.call ⟨.builtin .append,#[x,y],#[t,u]⟩,ty,pos,af,none⟩ w c w'/\lE R w w'/\(∀b∈l,b<w'.heap.size/\(b∈R\/w.heap.size<=b))/\∀M',Mv Γ.M w M' w'->cf (RI .u8) e M' w' c (xs++aP s) l:=by
  have k:=H.own hi;have J:∀b∈R,Γ.M b:=λb hb=>Ctx.kG hi hb;rcases k with ⟨rfl,B⟩|⟨rfl,rfl,⟨a0,rfl⟩,z⟩
  .obtain ⟨c,w',j,hC,F,k⟩:=wQ t u ty e ht G o B J f;exact ⟨c,dL c,w',(λn' a g=>by simp [execOp,resolve,invoke,builtin,hx n' a g rfl,q n' a g rfl,j]),hC,F,λM' m=>cf.of (k M' m)⟩
  .rcases Bc (M:=Γ.M) (w:=w) t u ty e ht G o (a0:=a0) (s:=s) (by simpa using f) with ⟨j,rfl⟩|⟨c,w',j,K,I,k⟩
   .exact ⟨.slice a0 0 0,[],w,(λn' a g=>by simp [execOp,resolve,invoke,builtin,hx n' a g rfl,q n' a g rfl,j]),(Ext.refl w).vV _,(λb hb=>by cases hb),λM' m=>by simpa [aP] using cf.empty (e:=e) (z.mv m)⟩
   .exact ⟨c,dL c,w',(λn' a g=>by simp [execOp,resolve,invoke,builtin,hx n' a g rfl,q n' a g rfl,j]),K.vV _,(λb hb=>⟨(I b hb).1,.inr (I b hb).2⟩),λM' m=>cf.of (by simpa using k M' m)⟩
 obtain ⟨c,l,w',j,hC,F,k⟩:=key;have hS:=H.lJ hi (new:=jq (RI .u8) e c (xs++aP s) l) hC F (λM' m _=>k M' m);have r:∃p,c=sl p:=by have C:i<Γ.length:=(List.getElem?_eq_some_iff.1 hi).1;have B:=hS.own (i:=i) (A:=RI .u8) (e:=e) (v:=c) (xs:=xs++aP s) (R:=l) (by rw [so C]);obtain ⟨a,cap,r⟩:=B.len;exact ⟨(a,_,cap),r⟩
 obtain ⟨p,rfl⟩:=r;exact xq j rfl rfl rfl hn (h _ _ _ hS)
def Roomy(v:Value):Prop:= ∃g len cap,v= .slice (some ⟨g,0,none⟩) len (cap+1)
theorem ahf{g:Bool}{dst:zh}{gd:Option (Nat×Bool)}{v:ju}{c:Array TypeId}(hx:al E g x (sl v))(h:g=true->Roomy (sl v)):bc P E g ⟨dst,.call ⟨.builtin .unsafeSliceData,#[x],c⟩,ty,pos,af,gd⟩ w (.pointer v.1):=
 λn a i d=>by obtain ⟨b,len,cap,e⟩:=h d;obtain ⟨k,f,j⟩:=v;simp only [sl,Value.slice.injEq] at e;obtain ⟨rfl,rfl,rfl⟩:=e;have:=Lib.run_unsafeSliceData_row (P:=P) w c ty ⟨b,0,none⟩ f (cap+1) (by omega);simp [execOp,resolve,invoke,builtin,hx n a i d,sl,this]
theorem Hn{P:Program}{w:World}:∀(l:zn) (a:Addr) (acc:ByteArray),(∀(j:Nat) (x:Int),l[j]? =some x->w.cell? (a.add j)=some (.int .u8 x))->
  (loadBytes a acc l.length).run P w= .ok ⟨acc.data++(strOf l).toArray⟩ w
 |[],a,acc,_=>by simp [loadBytes,strOf]
 |x::l,a,acc,h=>by
  have d:w.cell? a=some (.int .u8 x):=by have:=h 0 x rfl;simpa [Addr.add] using this
  have ih:=Hn (P:=P) l (a.add 1) (acc.push (UInt8.ofNat x.toNat)) (λj y c=>by
   have:=h (j+1) y (by simpa using c);have e:(a.add 1).add j=a.add (j+1):=by
    unfold Addr.add;by_cases b:j=0
    .subst b;simp
    .simp [b];omega
   rw [e];exact this)
  simp only [ei,loadBytes,Sem.run_bind,run_load,d,Result.andThen];have f:(x.toNat).toUInt8=UInt8.ofNat x.toNat:=rfl;rw [f,ih];congr 1;apply ByteArray.ext;simp [ByteArray.push,strOf]
end
open Go.Lib
theorem O{E:Env}{g:Bool}{t:Tmp}{v:Value}(h:look E t=some (true,v)):al E g (.tmp t) v:=al.t h
section
variable {P : Program} {ρ : zg} {Q : bm} {n : Nat} {D : za} {E : Env} {w : World} {ops : zi} {rest : zl}
theorem Wo{o:Oper}{d:Tmp}{v:Value}(b:bc P E true o w v)(a:(jH o,o.guard,o.dst,Nat.blt d n)=(true,none,some d,true))
  (h:WL P ρ ops Q n D rest ((d,true,v)::E) w):WL P ρ ops Q n D (o::rest) E w:=
 aK b (congrArg (·.1) a) (congrArg (·.2.1) a) (congrArg (·.2.2.1) a) (congrArg (·.2.2.2) a) h
end
variable {dd : TypeDesc} {v : Value}
def Bz{E A B:Type}(m:Option (Except E A))(k:A->Option (Except E B)):Option (Except E B):=m.bind λa=>match a with
 | .error p=>some (.error p)
 | .ok x=>k x
def fZ{E A B:Type}(m:Option (Except E A))(kp:E->Option B)(k:A->Option B):Option B:=m.bind λa=>match a with
 | .error p=>kp p
 | .ok x=>k x
theorem adv{E A B:Type}{m:Option (Except E A)}{b:E->Option B}{k:A->Option B}{r:B}(h:fZ m b k=some r):(∃p,m=some (.error p)/\b p=some r)\/∃x,m=some (.ok x)/\k x=some r:=by
 cases m with
 |none=>cases h
 |some a=>
  cases a with
  |error p=>exact .inl ⟨p,rfl,h⟩
  |ok x=>exact .inr ⟨x,rfl,h⟩
abbrev jI(v:Value):x7:=[{ v:=v,recovered:=false }]
section
variable {P : Program} {ρ : zg} {Q : bm} {n : Nat} {D : za} {E : Env} {w : World} {ops : zi} {rest : zl} {Φ : Ctx}
theorem akp{t:TypeId}{dst:zh}{ty:TypeId}{pos:String}{af:zj}(hx:al E true x (.iface t v))
  (h:At Q (.panic (jI (.iface t v))) n D E w):WL P ρ ops Q n D (⟨dst,.panic x,ty,pos,af,none⟩::rest) E w:=λa b c=>
 wpListIn_plain rfl λK d=>ni rfl (by
  have e:(execOp a.eval (⟨dst,.panic x,ty,pos,af,none⟩:Oper)).run P w= .halt (.panic (.iface t v)) w:=by simp only [execOp,hx n a b rfl];rfl
  rw [e];exact h a b c)
theorem afi{fn:Func}{S:Value->World->Prop}{Sp:x7->World->Prop}{ps:x7}(h:Sp ps w):Dk (BP P fn S Sp) ps [] w:=λa hd=>by show LeavesInM _ _ _ _ _ _ a.defers _ _;rw [hd];exact h
variable {g : Bool} {dst : zh} {ty : TypeId} {pos : String} {af : zj} {gd : xb}
theorem Wd{s t:TypeId}(ht:P.underlying t=some dd)(hd:iz dd=false)(hx:al E g x (.iface t v)):bc P E g ⟨dst,.typeAssert x s t true,ty,pos,af,gd⟩ w (.tuple #[v,.bool true]):=
 λn a c b=>by simp only [execOp,hx n a c b,Instr.typeAssert,Sem.run_bind,run_underlying ht,Result.andThen_ok];cases dd <;> first|(dsimp only;rw [du rfl];rfl)|(simp [iz] at hd)
theorem VZ{z:Value}{s t:TypeId}{size bytes:Nat}(ht:P.underlying t=some dd)(hd:iz dd=false)(b:TI P t size bytes z)(hx:al E g x .nilIface):bc P E g ⟨dst,.typeAssert x s t true,ty,pos,af,gd⟩ w (.tuple #[z,.bool false]):=
 λn a d c=>by simp only [execOp,hx n a d c,Instr.typeAssert,Sem.run_bind,run_underlying ht,Result.andThen_ok];cases dd <;> first|(simp [iz] at hd;done)|(simp only [Sem.run_bind,b.zero w,Result.andThen_ok,q9];rfl)
theorem Wh{z:Value}{s t u:TypeId}{size bytes:Nat}(b:u≠t)(ht:P.underlying t=some dd)(hd:iz dd=false)(c:TI P t size bytes z)(hx:al E g x (.iface u v)):bc P E g ⟨dst,.typeAssert x s t true,ty,pos,af,gd⟩ w (.tuple #[z,.bool false]):=
 λn a e d=>by simp only [execOp,hx n a e d,Instr.typeAssert,Sem.run_bind,run_underlying ht,Result.andThen_ok];cases dd <;> first|(simp [iz] at hd;done)|(dsimp only;rw [df (by first|exact b|exact b.symm)];simp only [Sem.run_bind,c.zero w,Result.andThen_ok,q9];rfl)
def JV(P:Program)(f:FuncId)(args:ze)(u:FrameMode)(w:World)(R:FrameMode->World->Prop):Prop:=
 CallsDIn (FW none) 0 P f args.toArray u w λe u' w'=>e= .returned (.tuple #[])/\R u' w'
abbrev Nq(f:FuncId)(cap:ze):Deferred:={ target:= .fn (.func f) cap.toArray,args:= #[] }
theorem ajl{f:FuncId}{fo:Operand}{cap:ze}{tys:Array TypeId}{ty:TypeId}{pos:String}{af:zj}(b:al E true fo (.func (.func f) #[] cap.toArray))
  (h:WL P none ops Q n (Nq f cap::D) rest E w):WL P none ops Q n D (⟨none,.defer ⟨.value fo,#[],tys⟩,ty,pos,af,none⟩::rest) E w:=λa c g=>
 wpListIn_plain rfl λK d=>by
  refine ⟨λ_ _=>trivial,?_⟩;have e:((⟨none,.defer ⟨.value fo,#[],tys⟩,ty,pos,af,none⟩:Oper).semAt (FW none).round a.eval).run P w= .ok (.defer (Nq f cap)) w:=by show (execOp a.eval (⟨none,.defer ⟨.value fo,#[],tys⟩,ty,pos,af,none⟩:Oper)).run P w=_;simp only [execOp,resolve,b n a c rfl,Deferred.ofValue,Sem.run_bind,Sem.run_pure,Result.andThen_ok];rw [show (#[]++Array.map a.eval #[]:zd)= #[] by simp]
  rw [e,Oper.uponIn_defer];refine d _ _ (h _ ⟨c.size,c.at_⟩ ?_);show Nq f cap::a.defers=_;rw [g]
theorem Nt{a:Act}(h:Fits n E a)(ds:za):Fits n E { a with defers:=ds }:=⟨h.size,h.at_⟩
theorem Ri{fn:Func}{f:FuncId}{cap:ze}{tmps:zd}{R:Ending->World->Prop}{u:FrameMode}{ds:za}(a:u≠ .run)(b:Enters P f)
  (c:JV P f cap u w λu' w'=>LeavesInM (FW none) 0 P fn tmps R ds (settle u') w'):LeavesInM (FW none) 0 P fn tmps R (Nq f cap::ds) u w:=by
 refine ⟨a,.inr ⟨ID,.func f,cap.toArray,f,cap.toArray,rfl,?_,λ_ _=>trivial,?_⟩⟩
 .have:=b cap.toArray w;simpa [Nq,invoke] using this
 .refine CallsDIn.mono c λe u' w' h=>?_;obtain ⟨rfl,h⟩:=h;exact h
theorem ahT{fn:Func}{S:Value->World->Prop}{Sp:x7->World->Prop}{f:FuncId}{cap:ze}{T:World->Prop}(d:Enters P f)
  (g:JV P f cap .returning w λu' w'=>u'= .returning/\T w') (h:∀w',T w'->At (BP P fn S Sp) .ret n [] E w'):At (BP P fn S Sp) .ret n [Nq f cap] E w:=λa c hd=>by
 show LeavesInM _ _ _ _ _ _ a.defers _ _;rw [hd];refine Ri (by simp) d (CallsDIn.mono g λe u' w' hx=>?_);obtain ⟨b,rfl,i⟩:=hx;exact ⟨b,h w' i { a with defers:=[] } (Nt c []) rfl⟩
theorem abw{fn:Func}{S:Value->World->Prop}{Sp:x7->World->Prop}{f:FuncId}{cap:ze}{T:World->Prop}(d:Enters P f)
  (g:JV P f cap (.panicking (jI v)) w λu' w'=>u'= .panicking [{ v:=v,recovered:=true }]/\T w') (h:∀w',T w'->At (BP P fn S Sp) .ret n [] E w'):At (BP P fn S Sp) (.panic (jI v)) n [Nq f cap] E w:=λa c hd=>by
 show LeavesInM _ _ _ _ _ _ a.defers _ _;rw [hd];refine Ri (by simp) d (CallsDIn.mono g λe u' w' hx=>?_);obtain ⟨b,rfl,i⟩:=hx;exact ⟨b,h w' i { a with defers:=[] } (Nt c []) rfl⟩
def QB(T:World->Prop):bm:=λe a w=>match e with
 | .normal=>a.defers=[]/\T w
 | .ret=>a.defers=[]/\T w
 |_=>False
theorem aqj{T:World->Prop}(h:T w):At (QB T) .normal n [] E w:=λ_ _ hd=>⟨hd,h⟩
theorem aoC{T:World->Prop}(h:T w):At (QB T) .ret n [] E w:=λ_ _ hd=>⟨hd,h⟩
def Wy(o:Oper):Bool:=match o.op with
 | .move _=>true
 | .assign _=>true
 | .alloc _=>true
 | .extract _ _=>true
 | .store _ _ _=>true
 | .typeAssert _ _ _ _=>true
 | .binOp .neq _ _ _ _=>true
 |_=>false
def aab:Result Next->Prop
 | .ok (.value _) _=>True
 | .ok .skip _=>True
 | .halt _ _=>True
 |_=>False
theorem an7{m:Sem Value}{w:World}:aab ((do pure (Next.value (<-m)):Sem Next).run P w):=by rw [Sem.run_bind];cases m.run P w <;> trivial
theorem apd{m:Sem Unit}{w:World}:aab ((do m;pure Next.skip:Sem Next).run P w):=by rw [Sem.run_bind];cases m.run P w <;> trivial
theorem ajJ{o:Oper}(h:Wy o=true)(ev:Operand->Value)(w:World):aab ((execOp ev o).run P w):=by obtain ⟨dst,op,ty,pos,af,g⟩:=o;cases op <;> first|(cases h;done)|exact an7|exact apd|trivial
theorem Yj{ops:zi}{f:bm}{QS:Exit->Act->List Frame->World->Prop}{cs:List Frame}(hQ:∀e a w,f e a w->QS e a cs w):∀(l:zl) (k:Nat),l.all Wy=true->(∀j,l[j]? =ops[k+j]?)->∀(a:Act) (w:World),wpListIn (FW none) 0 P ops f l a w->
  wpOpsSIn (FW none) 0 P ops QS (List.range' k l.length) a cs w
 |[],k,_,_,a,w,h=>hQ _ _ _ h
 |o::l,k,hc,hk,a,w,h=>by
  have i:ops[k]? =some o:=by simpa using (hk 0).symm
  rw [qp,an] at hc;have ih:=Yj (ops:=ops) hQ l (k+1) hc.2 (λj=>by have:=hk (j+1);simpa [rJ,Nat.add_comm 1 j] using this);rw [ei,List.range'_succ];simp only [wpOpsSIn,i];simp only [wpListIn] at h;refine ⟨λ_ _=>trivial,?_⟩;split at h
  .rename_i d;rw [du d];have c:=h.2;have b:=ajJ (P:=P) hc.1 a.eval w;rw [show (o.semAt (FW none).round a.eval)=execOp a.eval o from rfl] at c;generalize (execOp a.eval o).run P w=r at c b;cases r with
   |ok x w'=>
    cases x <;> first|exact b.elim|exact ih _ _ c
   |halt g w'=>
    cases g <;> first|exact hQ _ _ _ c|exact c.elim
  next d=>rw [df d];exact ih _ _ h.2
theorem ao6{fn:Func}{c₀:Frame}{cs:List Frame}{T:World->Prop}{u':FrameMode}(b:fn.results= #[]){e:Exit}{a:Act}{w:World}(h:QB T e a w):
  bodyPostS P fn c₀ cs (λe c w'=>e= .returned (.tuple #[])/\c=u'/\T w') e a ({ c₀ with mode:=u' }::cs) w:=by
 have d:(results fn a.tmps).run P w= .ok (.tuple #[]) w:=by rw [Rc,b];simp
 cases e <;> first|exact ⟨h.1,u',rfl,_,d,rfl,rfl,h.2⟩|exact h.elim
theorem Si{f:FuncId}{fn:Func}{id:Nat}{ops:zi}{l:zl}{y:Code}{d:Tmp}{ty:TypeId}{pos:String}{af:zj}{tys:Array TypeId}{cap:ze}{u u':FrameMode}{T:World->Prop}
  (I:P.funcs[f]? =some fn) (hb:fn.body=some (.seq (.region id ops false) y)) (c:ops.toList=⟨some d,.call ⟨.builtin .recover,#[],tys⟩,ty,pos,af,none⟩::l) (q:l.all Wy=true) (o:fn.results= #[]) (hn:fn.ntmps=n) (hl:Nat.ble cap.length n=true) (hd:Nat.blt d n=true)
  (H:(u= .returning/\u'= .returning/\v= .nilIface)\/(u= .panicking (jI v)/\u'= .panicking [{ v:=v,recovered:=true }]))
  (h:WL P none ops (Exit.then (y.wpIn (FW none) 0 P (QB T)) (QB T)) n [] l ((d,true,v)::iota 0 cap) w):JV P f cap u w λr w'=>r=u'/\T w':=by
 refine callsDIn_of_wpSIn I hb trivial λc₀ cs F=>?_;have k:Fits n (iota 0 cap) { tmps:=cap.toArray++Array.replicate (fn.ntmps-cap.toArray.size) undef,defers:=[] }:=by
  refine ⟨?_,λt g v ht=>?_⟩
  .have:cap.length<=n:=by simpa using hl
   simp [hn];omega
  .obtain ⟨j,rfl,B,rfl⟩:=Kl cap 0 t g v ht;have D:j<cap.length:=by
    rcases qE j cap.length with h|h
    .exact h
    .rw [l7 h] at B;cases B
   simp only [Bb,cp,nI,Array.getD_eq_getD_getElem?];rw [Array.getElem?_append_left (by simpa using D)];simp [B]
 have z:({ tmps:=cap.toArray++Array.replicate (fn.ntmps-cap.toArray.size) undef,defers:=[] }:Act).defers=[]:=rfl;generalize ({ tmps:=cap.toArray++Array.replicate (fn.ntmps-cap.toArray.size) undef,defers:=[] }:Act)=a0 at k z;refine wpSIn_seq (wpSIn_region ?_);have C:ops.size=l.length+1:=by rw [<-fb,c];rfl
 rw [C,List.range_eq_range',List.range'_succ];have K:ops[0]? =some ⟨some d,.call ⟨.builtin .recover,#[],tys⟩,ty,pos,af,none⟩:=by rw [<-sv,c];rfl
 have D:∀j,l[j]? =ops[1+j]? :=λj=>by rw [<-sv,c,Nat.add_comm 1 j];rfl
 have s:(execOp a0.eval (⟨some d,.call ⟨.builtin .recover,#[],tys⟩,ty,pos,af,none⟩:Oper)).run P w= .ok .recover w:=by simp [execOp,resolve,invoke,builtin]
 have x:Fits n ((d,true,v)::iota 0 cap) (a0.put (some d) v):=k.put (g:=true) (v:=v) hd;have m:=Yj (cs:={ c₀ with mode:=u' }::cs) (QS:=Exit.thenS (y.wpSIn (FW none) 0 P (bodyPostS P fn c₀ cs λe r w'=>e= .returned (.tuple #[])/\r=u'/\T w')) (bodyPostS P fn c₀ cs λe r w'=>e= .returned (.tuple #[])/\r=u'/\T w'))
  (λe a w p=>by
   cases e with
   |normal=>exact wpSIn_of_wpIn rfl (Code.wpIn_mono (λe a w p=>ao6 o p) p)
   |exit i=>exact False.elim p
   |goto i=>exact False.elim p
   |ret=>exact ao6 (P:=P) (c₀:=c₀) (cs:=cs) (u':=u') (T:=T) (e:= .ret) o p
   |panic i=>exact False.elim p
   |outgrown=>exact False.elim p) l 1 q D _ _ (h _ x z)
 simp only [wpOpsSIn,K];refine ⟨λ_ _=>trivial,?_⟩;rw [du (by simp [Region.wanted]),s];rcases H with ⟨A,G,J⟩|⟨A,G⟩
 .have b:recoverD (c₀::cs)=none:=by simp [recoverD,F,A]
  have E:({ c₀ with mode:=u' }:Frame)=c₀:=by rw [G,<-A,<-F]
  simp only [b];rw [E,J] at m;exact m
 .have b:recoverD (c₀::cs)=some (v,{ c₀ with mode:=u' }::cs):=by simp [recoverD,F,A,G,jI]
  simp only [b];exact m
end
variable {vs : ze} {w : World}
inductive Ex where
 |mk (op n at_:Int) (l:List Ex)
instance:Inhabited Ex:=⟨.mk 0 0 0 []⟩
def Ex.op:Ex->Int
 | .mk o _ _ _=>o
def Ex.n:Ex->Int
 | .mk _ n _ _=>n
def Ex.at_:Ex->Int
 | .mk _ _ a _=>a
def Ex.l:Ex->List Ex
 | .mk _ _ _ l=>l
mutual
def Ex.sz:Ex->Nat
 | .mk _ _ _ l=>EJ l+1
def EJ:List Ex->Nat
 |[]=>0
 |x::r=>Ex.sz x+EJ r
end
theorem Ex.aj6(e:Ex):e.sz=EJ e.l+1:=by cases e;simp only [Ex.sz,Ex.l]
inductive wT(M:Nat->Prop)(w:World):ze->Ex->Prop
 |nil (op n a:Int) (ad:Option Addr):wT M w [.int .i64 op,.int .i64 n,.int .i64 a,sl (ad,0,0)] (.mk op n a [])
 |some (op n a:Int) (l:List Ex) (b off cap:Nat) (cs:zd) (e:TypeId) (fr:Nat×Nat) (hM:¬M b) (hb:w.heap[b]? =some (.cells cs e fr)) (hc:l.length<=cap) (ho:off+cap*4<=cs.size)
   (hl:((cs.toList.drop off).take (l.length*4)).length=l.length*4) (h:∀i (hi:i<l.length),wT M w ((((cs.toList.drop off).take (l.length*4)).drop (i*4)).take 4) l[i]):
   wT M w [.int .i64 op,.int .i64 n,.int .i64 a,sl (some ⟨b,off,none⟩,l.length,cap)] (.mk op n a l)
theorem wT.len{M:Nat->Prop}{x:Ex}(h:wT M w vs x):vs.length=4:=by cases h <;> rfl
theorem wT.mv{M M':Nat->Prop}{w':World}{x:Ex}(h:wT M w vs x)(m:Mv M w M' w'):wT M' w' vs x:=by
 induction h with
 |nil op n a k=>exact .nil op n a k
 |some op n a l b c cap cs e fr g hb f d hl _ ih=>
  obtain ⟨j,i⟩:=m.2 b (Array.getElem?_eq_some_iff.1 hb).1 g;exact .some op n a l b c cap cs e fr j (by rw [i];exact hb) f d hl ih
def Jf:eS Ex where
 n:=4
 rd:=wT
 len:=wT.len
 one h:=by cases h <;> simp [Value.oneCell',sl]
 mv:=wT.mv
theorem Je{M:Nat->Prop}{x:Ex}(h:Jf.rd M w vs x):∃v:ju,vs=[(.int .i64 x.op),(.int .i64 x.n),(.int .i64 x.at_),(sl v)]/\bS Jf M w (sl v) x.l:=by
 cases h with
 |nil op n a i=>exact ⟨_,rfl,.inl ⟨⟨_,rfl⟩,rfl⟩⟩
 |some op n a l b c cap cs e fr g hb f d hl h=>exact ⟨_,rfl,.inr ⟨b,c,cap,cs,e,fr,rfl,g,hb,f,d,hl,h⟩⟩
theorem Nz{M:Nat->Prop}{op n a:Int}{l:List Ex}(h:(Jk Jf).rd M w [v] l):Jf.rd M w [(.int .i64 op),(.int .i64 n),(.int .i64 a),v] (.mk op n a l):=by
 obtain ⟨p,hp,h⟩:=h;have d:v=sl p:=by simpa using hp
 subst d;rcases h with ⟨⟨k,h⟩,rfl⟩|⟨b,c,cap,cs,e,fr,h,j,hb,i,g,hl,f⟩
 .rw [h];exact .nil op n a k
 .rw [h];exact .some op n a l b c cap cs e fr j hb i g hl f
abbrev aD{α:Type}(c:Bool)(a b:α):α:=match c with
 |true=>a
 |false=>b
inductive Ty where
 |i (k:IntKind)
 |bo
 |s
 |un
 |n
 |p (x y:Ty)
 |l (x:Ty)
 |mp (k v:Ty)
 |ex
 deriving DecidableEq
def Ty.T:Ty->Type
 | .i _=>Int
 | .bo=>Bool
 | .s=>aE
 | .un=>Unit
 | .n=>Nat
 | .p x y=>x.T×y.T
 | .l x=>List x.T
 | .mp k v=>Option (List (k.T×v.T))
 | .ex=>Ex
def RNo(α:Type):eS α where
 n:=0
 rd _ _ _ _:=False
 len h:=h.elim
 one h:=h.elim
 mv h _:=h.elim
def RIf:eS Nat where
 n:=1
 rd _ _ vs x:=vs=[.iface x (.agg #[])]
 len h:=by rw [h];rfl
 one h:=by rw [h];simp [Value.oneCell']
 mv h _:=h
def Ty.rep:(t:Ty)->eS t.T
 | .i k=>RI k
 | .bo=>RB
 | .s=>RS
 | .un=>RU
 | .n=>RIf
 | .p x y=>RP x.rep y.rep
 | .l x=>Jk x.rep
 | .mp _ _=>RNo _
 | .ex=>Jf
structure ck where
 t:Ty
 x:t.T
def ck.as(t:Ty)(d:ck):Option t.T:=if h:d.t=t then some (h▸d.x) else none
theorem ck.MA{t:Ty}{d:ck}{x:t.T}(h:d.as t=some x):d=⟨t,x⟩:=by
 unfold ck.as at h;split at h
 .obtain ⟨t',y⟩:=d;grind
 .cases h
theorem ck.amH{t:Ty}{x:t.T}:ck.as t ⟨t,x⟩=some x:=by simp [ck.as]
inductive AV where
 |int (k:IntKind) (x:Int)
 |bool (x:Bool)
 |str (x:aE)
 |agg (l:List AV)
 |tuple (l:List AV)
 |ptr (id off:Nat)
 |sl (id:Nat)
 |adr (id off:Nat)
 |fn (f:FuncId) (a b:List AV)
 |ifc (t:TypeId) (v:AV)
 |mp (id:Nat)
 |gp (b:Nat)
 |nv (id:Nat)
 |sfp (id:Nat) (f:Bool)
 |raw (v:Value)
structure Nm where
 b:Nat
 v:ju
 a:Addr
 m:zg
 x:Value
 y:ck
abbrev aw:=Nat->Nm
def dm:Nm:=⟨0,(none,0,0),⟨0,0,none⟩,none,.bool false,⟨.un,()⟩⟩
mutual
def AV.val(ρ:aw):AV->Value
 | .int k x=> .int k x
 | .bool x=> .bool x
 | .str x=>S x
 | .agg l=> .agg (AV.aj ρ l).toArray
 | .tuple l=> .tuple (AV.aj ρ l).toArray
 | .ptr id off=> .pointer (some ⟨(ρ id).b,off,none⟩)
 | .sl id=>Go.Proofs.YtcgihjbfppkcfaaGreatDoor.sl (ρ id).v
 | .adr id off=> .pointer (some ((ρ id).a.add off))
 | .fn f a b=> .func (.func f) (AV.aj ρ a).toArray (AV.aj ρ b).toArray
 | .ifc t v=> .iface t (v.val ρ)
 | .mp id=> .map (ρ id).m
 | .gp b=> .pointer (some ⟨b,0,none⟩)
 | .nv id=>(ρ id).x
 | .sfp id f=>BI f (ρ id).b
 | .raw v=>v
def AV.aj(ρ:aw):List AV->ze
 |[]=>[]
 |v::l=>v.val ρ::AV.aj ρ l
end
mutual
def AV.low(c:Nat):AV->Bool
 | .agg l|.tuple l=>AV.cj c l
 | .fn _ a b=>AV.cj c a&&AV.cj c b
 | .ifc _ v=>v.low c
 | .ptr id _|.sl id|.adr id _|.mp id|.nv id|.sfp id _=>Nat.blt id c
 |_=>true
def AV.cj(c:Nat):List AV->Bool
 |[]=>true
 |v::l=>v.low c&&AV.cj c l
end
def aQ(c:Nat)(ρ ρ':aw):Prop:= ∀j,j<c->ρ' j=ρ j
theorem aQ.refl{c:Nat}{ρ:aw}:aQ c ρ ρ:=λ_ _=>rfl
theorem aQ.trans{c d:Nat}{a b e:aw}(h:aQ c a b)(k:aQ d b e)(f:c<=d):aQ c a e:=λj g=>(k j (hU g f)).trans (h j g)
theorem aQ.less{c d:Nat}{a b:aw}(h:aQ d a b)(e:c<=d):aQ c a b:=λj f=>h j (hU f e)
mutual
theorem AV.nW{ρ ρ':aw}{c:Nat}(ha:aQ c ρ ρ'):(v:AV)->v.low c=true->v.val ρ'=v.val ρ
 | .int _ _,_|.bool _,_|.str _,_|.raw _,_|.gp _,_=>by simp [AV.val]
 | .agg l,h=>by simp [AV.val];rw [AV.bZ ha l (by grind [AV.low])]
 | .tuple l,h=>by simp [AV.val];rw [AV.bZ ha l (by grind [AV.low])]
 | .fn _ a b,h=>by
  simp [AV.low,an] at h;simp only [AV.val];rw [AV.bZ ha a h.1,AV.bZ ha b h.2]
 | .ifc _ v,h=>by simp [AV.val];rw [AV.nW ha v (by grind [AV.low])]
 | .ptr _ _,h=>by simp [AV.val];rw [ha _ (by grind [AV.low,Nat.blt_eq])]
 | .sl _,h=>by simp [AV.val];rw [ha _ (by grind [AV.low,Nat.blt_eq])]
 | .adr _ _,h=>by simp [AV.val];rw [ha _ (by grind [AV.low,Nat.blt_eq])]
 | .mp _,h=>by simp [AV.val];rw [ha _ (by grind [AV.low,Nat.blt_eq])]
 | .nv _,h=>by simp [AV.val];rw [ha _ (by grind [AV.low,Nat.blt_eq])]
 | .sfp _ _,h=>by simp [AV.val];rw [ha _ (by grind [AV.low,Nat.blt_eq])]
theorem AV.bZ{ρ ρ':aw}{c:Nat}(ha:aQ c ρ ρ'):(l:List AV)->AV.cj c l=true->AV.aj ρ' l=AV.aj ρ l
 |[],_=>by simp [AV.aj]
 |v::l,h=>by simp [AV.cj,an] at h;simp only [AV.aj];rw [AV.nW ha v h.1,AV.bZ ha l h.2]
end
mutual
theorem AV.gC{c d:Nat}(e:c<=d):(v:AV)->v.low c=true->v.low d=true
 | .int _ _,_|.bool _,_|.str _,_|.raw _,_|.gp _,_=>by simp [AV.low]
 | .agg l,h=>by exact AV.lI e l h
 | .tuple l,h=>by exact AV.lI e l h
 | .fn _ a b,h=>by simp [AV.low,an] at h ⊢; exact ⟨AV.lI e a h.1,AV.lI e b h.2⟩
 | .ifc _ v,h=>by exact AV.gC e v h
 | .ptr _ _,h=>by grind [AV.low,Nat.blt_eq]
 | .sl _,h=>by grind [AV.low,Nat.blt_eq]
 | .adr _ _,h=>by grind [AV.low,Nat.blt_eq]
 | .mp _,h=>by grind [AV.low,Nat.blt_eq]
 | .nv _,h=>by grind [AV.low,Nat.blt_eq]
 | .sfp _ _,h=>by grind [AV.low,Nat.blt_eq]
theorem AV.lI{c d:Nat}(a:c<=d):(l:List AV)->AV.cj c l=true->AV.cj d l=true
 |[],_=>by simp [AV.cj]
 |v::l,h=>by simp [AV.cj,an] at h ⊢;exact ⟨AV.gC a v h.1,AV.lI a l h.2⟩
end
theorem Nn{c:Nat}:{l m:List AV}->AV.cj c l=true->AV.cj c m=true->AV.cj c (l++m)=true
 |[],m,_,h=>h
 |v::l,m,h,k=>by simp [qd,AV.cj,an] at h ⊢;exact ⟨h.1,Nn h.2 k⟩
theorem AV.Xe{ρ:aw}{l:List AV}{i:Nat}{v:AV}(h:l[i]? =some v):(AV.aj ρ l)[i]? =some (v.val ρ):=by
 induction l generalizing i with
 |nil=>simp at h
 |cons u l ih=>
  grind [AV.aj,List.getElem?_cons_succ]
theorem AV.js{ρ:aw}:{l:List AV}->{k:Nat}->AV.aj ρ (l.drop k)=(AV.aj ρ l).drop k
 |l,0=>by simp
 |[],k+1=>by simp [AV.aj]
 |v::l,k+1=>by simp;exact AV.js
theorem AV.lG{ρ:aw}:{l:List AV}->{k:Nat}->AV.aj ρ (l.take k)=(AV.aj ρ l).take k
 |l,0=>by simp [AV.aj]
 |[],k+1=>by simp [AV.aj]
 |v::l,k+1=>by simp [AV.aj,q5];rw [AV.lG]
theorem AV.bD{ρ:aw}:{l:List AV}->(AV.aj ρ l).length=l.length
 |[]=>by simp [AV.aj]
 |v::l=>by simp [AV.aj,AV.bD]
theorem dh{ρ:aw}:{l m:List AV}->AV.aj ρ (l++m)=AV.aj ρ l++AV.aj ρ m
 |[],m=>by simp [AV.aj]
 |v::l,m=>by simp [qd,AV.aj];rw [dh]
abbrev GK:=Option (Nat×Bool)
inductive Row where
 |box (id:Nat) (t:TypeId) (vs:List AV)
 |sli (g:GK) (id:Nat) (t:Ty) (l:List t.T) (clip:Bool)
 |own (id:Nat) (t:Ty) (e:TypeId) (l:List t.T) (ver:Nat)
 |kn (g:GK) (q id ver:Nat) (t:Ty) (i:Int) (x:t.T)
 |elm (g:GK) (id:Nat) (vs:List AV)
 |mp (id:Nat) (k v:Ty) (d:Option (List (k.T×v.T)))
 |it (id:Nat) (s:aE) (p:Nat)
 |eq (id:Nat) (v:AV)
 |gone
inductive Pt where
 |int (k:IntKind)|bool|str
 |sli (t:Ty)
 |own (t:Ty) (e:TypeId) (m:Bool)
 |slr (n:Nat)
 |bx (t:TypeId) (off:Nat) (m:Bool) (vs:List Pt)
 |ptr (n off:Nat)
 |mp (k v:Ty) (m:Bool)
 |it
 |agg (l:List Pt)|cQ (l:List Pt)
 |fn (f:FuncId) (a b:List Pt)
 |ifc (t:TypeId) (p:Pt)
 |mQ (v:AV)
 |dat (t:Ty) (o:xa)
 |ifn
 |sfp
 |same
abbrev aF:=List (Nat×GK×AV)
structure Tm where
 vs:List (Bool×Nat×Pt)
 th:zo
inductive HT where
 |o
 |c (a b:HT)
 |l (t:Tm) (a:HT)
 |j (t:Tm) (a b:HT)
 |s (a:HT)
 |n (k:Nat) (a:HT)
 |r (th:zo) (a:HT)
structure aB where
 c:Nat
 E:aF
 G:List Row
 h:HT
structure Fr where
 F:aF
 H:List Row
 n:Nat
inductive XE where
 |nrm|ret
 |ext (i:Nat)
 |gto (l:Nat)
 |jI (v:AV)
 |panE (v:AV)
 |panL (v:AV)
def Ub:Bool->Bool->Bool
 |true,b=>b
 |false,b=> !b
theorem acM:{a b:Bool}->Ub a b=true->a=b
 |true,_,h=>h.symm
 |false,b,h=>by grind [Ub]
theorem agj:(a:Bool)->Ub a a=true
 |true=>rfl
 |false=>rfl
def GK.eq:GK->GK->Bool
 |none,none=>true
 |some (j,p),some (k,q)=>Nat.beq j k&&Ub p q
 |_,_=>false
theorem GK.eq_eq:{a b:GK}->a.eq b=true->a=b
 |none,none,_=>rfl
 |some (j,p),some (k,q),h=>by simp only [GK.eq,an] at h;rw [b0 h.1,acM h.2]
abbrev aA:=List ((Nat×Bool)×GK×Nat×Bool)
def yo(p b:Bool):Bool:=match p with
 |true=>b
 |false=> !b
theorem L5(p b:Bool):yo p b=(b==p):=by cases p <;> cases b <;> rfl
def aA.get:aA->GK->Bool
 |_,none=>true
 |[],some _=>false
 |(k,par,_,b)::T,some k'=>aD ( GK.eq (some k) (some k') ) ( (aA.get T par&&yo k.2 b) )<|aA.get T (some k')
@[simp] theorem aA.get_none {T : aA} : T.get none = true := by cases T <;> rfl
theorem aA.N8{k:Nat×Bool}{par:GK}{rj:Nat}{b:Bool}{T:aA}{x:GK}(h:(!(GK.eq (some k) x))=true):aA.get ((k,par,rj,b)::T) x=T.get x:=by
 cases x with
 |none=>simp
 |some a=>
  grind [aA.get,GK.eq]
theorem GK.abr:(k:Nat×Bool)->GK.eq (some k) (some k)=true:=λk=>by simp [GK.eq,agj]
theorem aA.akZ{k:Nat×Bool}{par:GK}{rj:Nat}{b:Bool}{T:aA}:aA.get ((k,par,rj,b)::T) (some k)=(T.get par&&yo k.2 b):=by simp [aA.get,GK.abr]
def Aw(p:ju):zo:=match p.2.2 with
 |0=>[]
 |_+1=>dL (sl p)
section
variable {α : Type} {A : eS α} {e : TypeId} {M M' : Nat -> Prop} {w w' : World}
theorem cf.canon{p:ju}{xs:List α}{R:zo}(h:cf A e M w (sl p) xs R):(∀b∈Aw p,b∈R)/\∀(M':Nat->Prop) (w':World),cf A e M' w' (sl p) xs R->cf A e M' w' (sl p) xs (Aw p):=by
 obtain ⟨a,n,cap⟩:=p;cases cap with
 |zero=>
  refine ⟨λb hb=>(by cases hb),λM' w' d=>?_⟩;have hx:xs=[]:=by
   rcases d with ⟨_,d⟩|⟨_,d,_⟩
   .obtain ⟨cells,⟨_,j⟩,_⟩:=d;rcases j with ⟨_,q⟩|⟨g,c,cur,f,m,l,o,r⟩
    .grind
    .simp [sl] at f;grind
   .exact d
  obtain ⟨k,s,hl⟩:=d.len;simp [sl,Value.slice.injEq] at hl;have hn:n=0:=by rw [hl.2.1,hx];rfl
  subst hn;exact .inr ⟨rfl,hx,⟨a,rfl⟩,bS.emp⟩
 |succ c=>
  have key:∀(M':Nat->Prop) (w':World),cf A e M' w' (sl (a,n,c+1)) xs R->R=dL (sl (a,n,c+1)):=λM' w' d=>by
   rcases d with ⟨d,_⟩|⟨_,_,⟨k,d⟩,_⟩
   .exact d
   .simp only [sl,Value.slice.injEq] at d;omega
  have i:=key _ _ h;subst i;exact ⟨λb hb=>hb,λM' w' d=>d⟩
theorem cf.Lm{p:ju}{xs:List α}{R:zo}(h:cf A e M w (sl p) xs R):cf A e M w (sl p) xs (Aw p):=h.canon.2 _ _ h
def te(A:eS α)(e:TypeId)(p:ju)(l:List α)(q:Prop):Item where
 own:=Aw p
 P M w:=cf A e M w (sl p) l (Aw p)/\q
 lt h:=h.1.lt
 cX h m k _:=⟨h.1.cX k m,h.2⟩
 cL:=false
 hp h:=by cases h
def LQ(g:Bool)(A:eS α)(p:ju)(l:List α)(clip:Bool):Item where
 own:=[]
 P M w:=g=true->bS A M w (sl p) l/\(clip=true->p.2.2=l.length)
 lt _ b hb:=by cases hb
 cX h m _ _:=λhg=>⟨(h hg).1.mv m,(h hg).2⟩
 cL:=true
 hp _:=rfl
def Wu(p:Prop):Item where
 own:=[]
 P _ _:=p
 lt _ b hb:=by cases hb
 cX h _ _ _:=h
 cL:=true
 hp _:=rfl
end
def FB:(t:Ty)->t.T->Value
 | .i k,x=> .int k x
 | .s,x=>S x
 | .bo,x=> .bool x
 |_,_=> .bool false
def Row.item(ρ:aw)(T:aA):Row->Item
 | .box id t vs=>Go.Proofs.YtcgihjbfppkcfaaGreatDoor.box (ρ id).b t (AV.aj ρ vs)
 | .sli g id t l b=>LQ (T.get g) t.rep (ρ id).v l b
 | .own id t e l ver=>te t.rep e (ρ id).v l ((ρ ver).y=⟨.l t,l⟩)
 | .kn g q id ver t i x=>Wu (T.get g=true->∃l:List t.T,(ρ ver).y=⟨.l t,l⟩/\idx l i=some x/\(ρ q).a=tW (Go.Proofs.YtcgihjbfppkcfaaGreatDoor.sl (ρ id).v) i t.rep.n)
 | .elm g id vs=>elem (T.get g) (ρ id).a (AV.aj ρ vs)
 | .mp id k v d=>omap (FB k) (FB v) (.map (ρ id).m) d
 | .it id s p=>iter (ρ id).b s p
 | .eq id v=>Wu ((ρ id).x=v.val ρ)
 | .gone=>Wu True
abbrev ab(ρ:aw)(T:aA)(G:List Row):Ctx:=G.map (Row.item ρ T)
def Row.low(c:Nat):Row->Bool
 | .box id _ vs=>Nat.blt id c&&AV.cj c vs
 | .sli _ id _ _ _|.mp id _ _ _|.it id _ _=>Nat.blt id c
 | .own id _ _ _ ver=>Nat.blt id c&&Nat.blt ver c
 | .kn _ q id ver _ _ _=>Nat.blt q c&&Nat.blt id c&&Nat.blt ver c
 | .elm _ id vs=>Nat.blt id c&&AV.cj c vs
 | .eq id v=>Nat.blt id c&&v.low c
 | .gone=>true
def bB(c:Nat):List Row->Bool
 |[]=>true
 |r::G=>r.low c&&bB c G
theorem Row.Bq{ρ ρ':aw}{T:aA}{c:Nat}(ha:aQ c ρ ρ'){r:Row}(h:r.low c=true):r.item ρ' T=r.item ρ T:=by
 cases r <;> simp [Row.low,an,j6] at h
 .simp [Row.item];rw [ha _ h.1,AV.bZ ha _ h.2]
 .simp [Row.item];rw [ha _ h]
 .simp [Row.item];rw [ha _ h.1,ha _ h.2]
 .simp [Row.item];rw [ha _ h.1.1,ha _ h.1.2,ha _ h.2]
 .simp [Row.item];rw [ha _ h.1,AV.bZ ha _ h.2]
 .simp [Row.item];rw [ha _ h]
 .simp [Row.item];rw [ha _ h]
 .simp [Row.item];rw [ha _ h.1,AV.nW ha _ h.2]
 .simp [Row.item]
theorem aZ{ρ ρ':aw}{T:aA}{c:Nat}(ha:aQ c ρ ρ'):{G:List Row}->bB c G=true->ab ρ' T G=ab ρ T G
 |[],_=>rfl
 |r::G,h=>by simp [bB,an] at h;simp only [eT];rw [Row.Bq ha h.1];have:=aZ (T:=T) ha h.2;grind
def aF.env(ρ:aw)(T:aA):aF->Env
 |[]=>[]
 |(t,g,v)::E=>(t,T.get g,v.val ρ)::aF.env ρ T E
def aF.low(c:Nat):aF->Bool
 |[]=>true
 |x::E=>x.2.2.low c&&aF.low c E
theorem sD{ρ ρ':aw}{T:aA}{c:Nat}(ha:aQ c ρ ρ'):{E:aF}->E.low c=true->aF.env ρ' T E=aF.env ρ T E
 |[],_=>rfl
 |(t,g,v)::E,h=>by simp [aF.low,an] at h;simp only [aF.env];rw [AV.nW ha v h.1,sD ha h.2]
def aB.low(fr:Fr)(st:aB):Bool:=aF.low st.c st.E&&aF.low st.c fr.F&&bB st.c st.G&&bB st.c fr.H
def aw.set(ρ:aw)(j:Nat)(x:Nm):aw:=λi=>aD (Nat.beq i j) x (ρ i)
theorem aw.bG{ρ:aw}{j:Nat}{x:Nm}:ρ.set j x j=x:=by simp [aw.set]
theorem aw.aX{ρ:aw}{j:Nat}{x:Nm}:aQ j ρ (ρ.set j x):=λi hi=>by grind [aw.set,Nat.beq,absurd,Nat.eq_of_beq_eq_true,Nat.ne_of_lt]
def kT(E' E:Env):Prop:= ∀t p,look E' t=some p->look E t=some p
theorem kT.refl{E:Env}:kT E E:=λ_ _ h=>h
theorem kT.trans{A B C:Env}(h:kT A B)(k:kT B C):kT A C:=λt p hp=>k t p (h t p hp)
theorem Fits.oJ{n:Nat}{E E':Env}{a:Act}(h:Fits n E a)(b:kT E' E):Fits n E' a:=⟨h.size,λt g v ht=>h.at_ t g v (b t _ ht)⟩
theorem WC.oJ{P:Program}{ρ:zg}{c:Code}{Q:bm}{n:Nat}{D:za}{E:Env}{w:World}(E':Env)(b:kT E' E)(h:WC P ρ c Q n D E' w):WC P ρ c Q n D E w:=
 λa d hd=>h a (d.oJ b) hd
theorem At.oJ{e:Exit}{Q:bm}{n:Nat}{D:za}{E:Env}{w:World}(E':Env)(b:kT E' E)(h:At Q e n D E' w):At Q e n D E w:=
 λa c hd=>h a (c.oJ b) hd
theorem Fh{A B:Env}{t:Nat}:look (A++B) t=match look A t with
  |some p=>some p
  |none=>look B t:=by
 induction A with
 |nil=>rfl
 |cons x A ih=>
  simp [qd,look];grind
theorem pK{ρ:aw}{T:aA}:{E F:aF}->aF.env ρ T (E++F)=aF.env ρ T E++aF.env ρ T F
 |[],_=>rfl
 |(t,g,v)::E,F=>by simp [qd,aF.env];rw [pK]
theorem bg{ρ:aw}{T:aA}{G H:List Row}:ab ρ T (G++H)=ab ρ T G++ab ρ T H:=sj
variable {Φ : Ctx} {ρ : aw}
theorem aI{α:Type}{c:Bool}{a:Option α}{r:α}(h:aD c a none=some r):c=true/\a=some r:=by grind
theorem Mi{α:Type}{c:Bool}{a:Option α}{r:α}(h:aD c none a=some r):c=false/\a=some r:=by grind
theorem dR{α:Type}{c:Bool}{a b:Option α}{r:α}(h:aD c a b=some r):(c=true/\a=some r)\/(c=false/\b=some r):=by grind
def aA.imp:aA->GK->GK->Bool
 |_,_,none=>true
 |[],_,some _=>false
 |_,none,some _=>false
 |(k,par,_,_)::T,some g,some g'=>GK.eq (some g) (some g')||(aD ( GK.eq (some k) (some g) ) ( aA.imp T par (some g') )<|aA.imp T (some g) (some g'))&& !(GK.eq (some k) (some g'))
theorem aA.my:{T:aA}->{g a:GK}->T.imp g a=true->T.get g=true->T.get a=true
 |T,g,none,_,_=>by simp
 |[],g,some a,h,_=>by simp [aA.imp] at h
 |_::_,none,some a,h,_=>by simp [aA.imp] at h
 |(k,par,rj,b)::T,some g,some a,h,hg=>by
  simp only [aA.imp,fi,an] at h;rcases h with h|⟨c,d⟩
  .grind [GK.eq_eq]
  .rw [aA.N8 d];cases hb:GK.eq (some k) (some g)
   .rw [hb] at c;rw [aA.N8 (by rw [hb];rfl)] at hg;exact aA.my c hg
   .rw [hb] at c;simp [aA.get,hb,an] at hg;exact aA.my c hg.1
def bA:aF->Nat->Option (GK×AV)
 |[],_=>none
 |(r,g,v)::E,t=>aD ( Nat.beq r t ) ( some (g,v) )<|bA E t
def dW(E F:aF)(t:Nat):Option (GK×AV):=match bA E t with
 |some x=>some x
 |none=>bA F t
theorem yE{ρ:aw}{T:aA}{t:Nat}:{E:aF}->look (aF.env ρ T E) t=(bA E t).map λx=>(T.get x.1,x.2.val ρ)
 |[]=>rfl
 |(r,g',v')::E=>by
  simp [bA,aF.env,look];cases hb:Nat.beq r t
  .exact yE
  .rfl
abbrev ay(ρ:aw)(T:aA)(E F:aF):Env:=aF.env ρ T E++aF.env ρ T F
theorem iC{T:aA}{t:Nat}{E F:aF}:look (ay ρ T E F) t=(dW E F t).map λx=>(T.get x.1,x.2.val ρ):=by grind [Fh,yE,dW,bA]
def mQ:Value->AV
 | .int k x=> .int k x
 | .bool x=> .bool x
 | .string b=> .str b.data.toList
 |v=> .raw v
theorem abL:(mQ v).val ρ=v:=by cases v <;> simp [mQ,AV.val,S]
theorem pD{ρ:aw}:{l:ze}->AV.aj ρ (l.map mQ)=l
 |[]=>by simp [AV.aj]
 |v::l=>by simp only [eT,AV.aj];rw [abL,pD]
theorem am6{c:Nat}:(mQ v).low c=true:=by cases v <;> simp [mQ,AV.low]
theorem Y2{c:Nat}:{l:ze}->AV.cj c (l.map mQ)=true
 |[]=>by simp [AV.cj]
 |v::l=>by simp only [eT,AV.cj];rw [am6,Y2];rfl
def bu(T:aA)(E F:aF)(g:GK):Operand->Option AV
 | .tmp t=>match dW E F t with
  |some x=>aD ( T.imp g x.1 ) ( some x.2 )<|none
  |none=>none
 | .const v=>some (mQ v)
 | .func f=>some (.fn f [] [])
 | .global f=>some (.gp f)
theorem aO{T:aA}{E F:aF}{g:GK}{v:AV}(h:bu T E F g x=some v):al (ay ρ T E F) (T.get g) x (v.val ρ):=by
 cases x with
 |tmp t=>
  unfold bu at h;dsimp only at h;cases hl:dW E F t with
  |none=>rw [hl] at h;cases h
  |some x=>
   rw [hl] at h;obtain ⟨b,a⟩:=aI h;cases a;exact al.g (by rw [iC,hl];rfl) (aA.my b)
 |const u=>cases h;rw [abL];exact al.c
 |func f=>cases h;grind [AV.val,AV.aj,al.f]
 |global f=>cases h;grind [AV.val,al.gl]
theorem bK{T:aA}{E F:aF}{v:AV}(h:bu T E F none x=some v):al (ay ρ T E F) true x (v.val ρ):=by have:=aO (ρ:=ρ) h;simp_all
def uk(T:aA)(E F:aF)(g:GK):zb->Option (List AV)
 |[]=>some []
 |x::l=>match bu T E F g x with
  |some v=>match uk T E F g l with
   |some vs=>some (v::vs)
   |none=>none
  |none=>none
theorem jo{ρ:aw}{T:aA}{E F:aF}{g:GK}:{xs:zb}->{vs:List AV}->uk T E F g xs=some vs->jV (ay ρ T E F) (T.get g) xs (AV.aj ρ vs)
 |[],vs,h=>by cases h;exact .nil
 |x::l,vs,h=>by
  unfold uk at h;split at h
  .rename_i v b;split at h
   next us a=>cases h;exact .cons (aO b) (jo a)
   .cases h
  .cases h
def rS(p:Row->Bool):List Row->Option (Nat×Row)
 |[]=>none
 |r::G=>aD ( p r ) ( some (0,r) )<|match rS p G with
  |some x=>some (x.1+1,x.2)
  |none=>none
theorem n7{p:Row->Bool}:{G:List Row}->{i:Nat}->{r:Row}->rS p G=some (i,r)->G[i]? =some r/\p r=true
 |[],_,_,h=>by cases h
 |r0::G,i,r,h=>by
  rcases dR h with ⟨b,a⟩|⟨b,a⟩
  .grind
  .split at a
   next x hx=>obtain ⟨d,c⟩:=n7 hx;grind
   .cases a
def oV(id:Nat):Row->Bool
 | .sli _ j _ _ _|.own j _ _ _ _=>Nat.beq j id
 |_=>false
def yW(id:Nat):Row->Bool
 | .box j _ _=>Nat.beq j id
 |_=>false
def aeM(id:Nat):Row->Bool
 | .mp j _ _ _=>Nat.beq j id
 |_=>false
def apw(id:Nat):Row->Bool
 | .it j _ _=>Nat.beq j id
 |_=>false
def isEq(id:Nat):Row->Bool
 | .eq j _=>Nat.beq j id
 |_=>false
def Pm(q:Nat):Row->Bool
 | .kn _ j _ _ _ _ _=>Nat.beq j q
 |_=>false
def aqb(id:Nat):Row->Bool
 | .elm _ j _=>Nat.beq j id
 |_=>false
def Row.id:Row->Nat
 | .box j _ _|.sli _ j _ _ _|.own j _ _ _ _|.mp j _ _ _|.it j _ _|.eq j _|.elm _ j _|.kn _ j _ _ _ _ _=>j
 | .gone=>0
def Row.cL:Row->Bool
 | .sli ..|.elm ..|.eq ..|.kn ..|.gone=>true
 |_=>false
theorem Row.ahp{T:aA}{r:Row}(h:r.cL=true):(r.item ρ T).cL=true:=by cases r <;> first|rfl|cases h
theorem ik{T:aA}{G:List Row}{i:Nat}{r:Row}(h:G[i]? =some r):(ab ρ T G++Φ)[i]? =some (r.item ρ T):=by grind
theorem Vr{T:aA}{G H:List Row}{i:Nat}{r:Row}(h:H[i]? =some r):(ab ρ T G++(ab ρ T H++Φ))[G.length+i]? =some (r.item ρ T):=by grind
inductive Src where
 |top (i:Nat)
 |cu (i:Nat)
 |nilI (t:Ty)
 |nilO (t:Ty) (e:TypeId)
 |nilM (k v:Ty)
def eo(G H:List Row)(p:Row->Bool):Option (Src×Row):=match rS p G with
 |some x=>some (.top x.1,x.2)
 |none=>match rS p H with
  |some x=>some (.cu x.1,x.2)
  |none=>none
def Src.at_(G H:List Row):Src->Row->Prop
 | .top i,r=>G[i]? =some r
 | .cu i,r=>H[i]? =some r
 |_,_=>False
theorem bW{p:Row->Bool}{G H:List Row}{s:Src}{r:Row}(h:eo G H p=some (s,r)):s.at_ G H r/\p r=true:=by
 unfold eo at h;split at h
 next x hx=>cases h;exact n7 hx
 .split at h
  next x hx=>cases h;exact n7 hx
  .cases h
theorem Src.item{T:aA}{G H:List Row}{s:Src}{r:Row}(h:s.at_ G H r):∃i:Nat,(ab ρ T G++(ab ρ T H++Φ))[i]? =some (r.item ρ T):=by
 cases s with
 |top i=>exact ⟨i,ik h⟩
 |cu i=>exact ⟨G.length+i,Vr h⟩
 |nilI=>exact h.elim
 |nilO=>exact h.elim
 |nilM=>exact h.elim
theorem Src.holds{T:aA}{G H:List Row}{s:Src}{r:Row}(a:Sat (ab ρ T G++(ab ρ T H++Φ)) w)(h:s.at_ G H r):(r.item ρ T).P (Ctx.M (ab ρ T G++(ab ρ T H++Φ))) w:=by obtain ⟨i,hi⟩:=Src.item h;exact a.at_ hi
def vn(n:Nat):zo->Bool
 |[]=>false
 |m::l=>Nat.beq n m||vn n l
theorem YH{n:Nat}:{l:zo}->(vn n l=true↔n∈l)
 |[]=>by simp [vn]
 |m::l=>by simp only [vn,fi,oi];rw [YH,Nat.beq_eq]
variable {cv : zc × AV}
structure UO where
 f:FuncId
 run:{R:Type}->List AV->List Row->aB->(AV->aB->Option R)->Option R
def UO.Ok(P:Program)(i:UO):Prop:=Enters P i.f/\∀{R:Type} (r:R) (args:List AV) (H:List Row) (st:aB) (K:AV->aB->Option R) (ρ:aw) (Φ:Ctx) (w:World),Sat (ab ρ [] st.G++(ab ρ [] H++Φ)) w->
 i.run args H st K=some r->jg P i.f (AV.aj ρ args) w λv w'=>∃(ρ':aw) (st':aB) (av:AV),K av st'=some r/\aQ st.c ρ ρ'/\st.c<=st'.c/\av.val ρ'=v/\Sat (ab ρ' [] st'.G++(ab ρ' [] H++Φ)) w'
structure Cx where
 P:Program
 tys:List (TypeId×Ty)
 gls:List (Nat×Nat×ck)
 ids:List FuncId
 idsOk:∀f,f∈ids->aim P f
 fl:Nat
 ks:List TypeId
 inl:List UO
 inlOk:∀i,i∈inl->i.Ok P
 oc:List (Nat×Nat):=[]
def Bs{α:Type}:List (Nat×α)->Nat->Option α
 |[],_=>none
 |x::l,n=>aD ( Nat.beq x.1 n ) ( some x.2 )<|Bs l n
def HA{ρ:Type}(c:zc)(g:zc)(k:Option ρ):Option ρ:=match c with
 |none=>k
 |some c=>match g with
  |none=>aM c k
  |some g=>IE g c k
theorem sX{ρ:Type}{T:aA}{c:zc}{g:GK}{k:Option ρ}{r:ρ}(h:HA c (g.map λ_=>T.get g) k=some r):(∀b,c=some b->T.get g=true->b=true)/\k=some r:=by
 unfold HA at h;split at h
 .grind
 .split at h
  .grind [iS]
  .rename_i e a;cases g with
   |none=>cases a
   |some d=>
    grind [Option.some.injEq,ahk]
abbrev CV:=Option (zc×AV)
def pv(v:AV):CV:=some (none,v)
def jB(a b:IntKind):Bool:=decide (a=b)
theorem nb{a b:IntKind}(h:jB a b=true):a=b:=by simpa [jB] using h
def acX(k k':IntKind)(m l:Int):BinOp->CV
 | .add=>aD ( jB k k' ) ( pv (.int k (k.wrap (m+l))) ) none
 | .sub=>aD ( jB k k' ) ( pv (.int k (k.wrap (m-l))) ) none
 | .mul=>aD ( jB k k' ) ( pv (.int k (k.wrap (m*l))) ) none
 | .quo=>aD ( jB k k' ) ( some (some (l != 0),.int k (k.wrap (m.tdiv l))) ) none
 | .rem=>aD ( jB k k' ) ( some (some (l != 0),.int k (m.tmod l)) ) none
 | .eql=>aD ( jB k k' ) ( pv (.bool (m==l)) ) none
 | .neq=>aD ( jB k k' ) ( pv (.bool (m != l)) ) none
 | .lss=>aD ( jB k k' ) ( pv (.bool (decide (m<l))) ) none
 | .leq=>aD ( jB k k' ) ( pv (.bool (decide (m<=l))) ) none
 | .gtr=>aD ( jB k k' ) ( pv (.bool (decide (l<m))) ) none
 | .geq=>aD ( jB k k' ) ( pv (.bool (decide (l<=m))) ) none
 | .shr=>some (some (decide (0<=l)),.int k (iq k m l))
 | .shl=>some (some (decide (0<=l)),.int k (kX k m l))
 | .and=>aD ( jB k k' ) ( pv (.int k (o8 k m l)) ) none
 | .or=>aD ( jB k k' ) ( pv (.int k (tX k m l)) ) none
 | .xor=>aD ( jB k k' ) ( pv (.int k (Cu k m l)) ) none
 | .andNot=>aD ( jB k k' ) ( pv (.int k (abh k m l)) ) none
def ac8(m l:aE):BinOp->CV
 | .eql=>pv (.bool (m==l))
 | .neq=>pv (.bool (m != l))
 | .add=>some (some (aom m l),.str (m++l))
 | .lss=>pv (.bool (Jh m l))
 | .leq=>pv (.bool (Jh m l||m==l))
 | .gtr=>pv (.bool (!(Jh m l||m==l)))
 | .geq=>pv (.bool (!(Jh m l)))
 |_=>none
def agX(m l:Bool):BinOp->CV
 | .eql=>pv (.bool (m==l))
 | .neq=>pv (.bool (m != l))
 |_=>none
def tyK(P:Program)(t:TypeId):Option IntKind:=match P.underlying t with
 |some (.int k)=>some k
 |_=>none
theorem Pz{P:Program}{t:TypeId}{k:IntKind}(h:tyK P t=some k):P.underlying t=some (.int k):=by grind [tyK]
def isStr(P:Program)(t:TypeId):Bool:=match P.underlying t with
 |some .string=>true
 |_=>false
theorem sY{P:Program}{t:TypeId}(h:isStr P t=true):P.underlying t=some .string:=by grind [isStr]
def isBool(P:Program)(t:TypeId):Bool:=match P.underlying t with
 |some .bool=>true
 |_=>false
theorem Up{P:Program}{t:TypeId}(h:isBool P t=true):P.underlying t=some .bool:=by grind [isBool]
def akn(P:Program)(t:TypeId):Bool:=match P.underlying t with
 |some _=>true
 |none=>false
theorem aol{P:Program}{t:TypeId}(h:akn P t=true):∃d,P.underlying t=some d:=by grind [akn]
def aeb(P:Program)(t:TypeId)(op:BinOp):AV->AV->CV
 | .int k m,.int k' l=>acX k k' m l op
 | .str m,.str l=>ac8 m l op
 | .bool m,.bool l=>aD ( isBool P t ) ( agX m l op ) none
 |_,_=>none
def aj0:UnOp->AV->CV
 | .not,.bool b=>pv (.bool (!b))
 | .neg,.int k m=>pv (.int k (k.wrap (0-m)))
 |_,_=>none
def alQ:AV->Bool
 | .ptr _ _|.adr _ _|.fn _ _ _=>true
 |_=>false
def oQ(P:Program)(Ev:Env)(ρ:aw)(g:Bool)(o:Oper)(w:World)(cv:zc×AV):Prop:=
 (∀b,cv.1=some b->g=true->b=true)->bc P Ev g o w (cv.2.val ρ)
section
variable {P : Program} {ρ : aw} {g : Bool} {w : World} {dst : zh} {ty : TypeId} {pos : String} {af : zj} {gd : xb} {Ev : Env}
theorem oQ.pv{o:Oper}{v:AV}(h:pv v=some cv)(a:bc P Ev g o w (v.val ρ)):oQ P Ev ρ g o w cv:=by cases h;exact λ_=>a
theorem agV{t:TypeId}{op:BinOp}{k f:IntKind}{m l:Int}(hx:al Ev g x (.int k m))(c:al Ev g y (.int f l))(h:acX k f m l op=some cv):
  oQ P Ev ρ g ⟨dst,.binOp op t x y t',ty,pos,af,gd⟩ w cv:=by
 have key:∀{a:CV},aD (jB k f) a none=some cv->k=f/\a=some cv:=λh=>⟨nb (aI h).1,(aI h).2⟩;cases op <;> simp [acX] at h
 case shr=>cases h;exact λe=>anm hx c (λd=>e _ rfl d)
 case shl=>cases h;exact λe=>am9 hx c (λd=>e _ rfl d)
 case quo=>
  obtain ⟨rfl,b⟩:=key h;cases b;exact λe n a i d=>amh hx c (by grind) n a i d
 case rem=>
  obtain ⟨rfl,b⟩:=key h;cases b;exact λe n a i d=>anH hx c (by grind) n a i d
 case add=>obtain ⟨rfl,b⟩:=key h;exact .pv b (vT hx c)
 case sub=>obtain ⟨rfl,b⟩:=key h;exact .pv b (abd hx c)
 case mul=>obtain ⟨rfl,b⟩:=key h;exact .pv b (amp hx c)
 case eql=>obtain ⟨rfl,b⟩:=key h;exact .pv b (vL hx c)
 case neq=>obtain ⟨rfl,b⟩:=key h;exact .pv b (amb hx c)
 case lss=>obtain ⟨rfl,b⟩:=key h;exact .pv b (acH hx c)
 case leq=>obtain ⟨rfl,b⟩:=key h;exact .pv b (anR hx c)
 case gtr=>obtain ⟨rfl,b⟩:=key h;exact .pv b (Uc hx c)
 case geq=>obtain ⟨rfl,b⟩:=key h;exact .pv b (anu hx c)
 case and=>obtain ⟨rfl,b⟩:=key h;exact .pv b (alb hx c)
 case or=>obtain ⟨rfl,b⟩:=key h;exact .pv b (amR hx c)
 case xor=>obtain ⟨rfl,b⟩:=key h;exact .pv b (ai0 hx c)
 case andNot=>obtain ⟨rfl,b⟩:=key h;exact .pv b (aaX hx c)
theorem af8{t:TypeId}{op:BinOp}{m l:aE}(hx:al Ev g x (S m))(a:al Ev g y (S l))(h:ac8 m l op=some cv):
  oQ P Ev ρ g ⟨dst,.binOp op t x y t',ty,pos,af,gd⟩ w cv:=by
 unfold ac8 at h;split at h
 .exact .pv h (anA hx a)
 .exact .pv h (ann hx a)
 .cases h;exact λc=>anx hx a (λb=>c _ rfl b)
 .exact .pv h (anE hx a)
 .exact .pv h (amd hx a)
 .exact .pv h (amW hx a)
 .exact .pv h (ant hx a)
 .cases h
theorem af6{t:TypeId}{op:BinOp}{a b:AV}(hx:al Ev g x (a.val ρ))(d:al Ev g y (b.val ρ))(h:aeb P t op a b=some cv):
  oQ P Ev ρ g ⟨dst,.binOp op t x y t',ty,pos,af,gd⟩ w cv:=by
 unfold aeb at h;split at h
 .grind [AV.val,agV]
 .grind [AV.val,af8]
 .obtain ⟨e,c⟩:=aI h;unfold agX at c;split at c
  .exact .pv c (anW (Up e) hx d)
  .exact .pv c (al6 (Up e) hx d)
  .cases c
 .cases h
theorem aii{t:TypeId}{op:UnOp}{u:AV}(hx:al Ev g x (u.val ρ))(h:aj0 op u=some cv):
  oQ P Ev ρ g ⟨dst,.unOp op t x,ty,pos,af,gd⟩ w cv:=by
 unfold aj0 at h;split at h
 .exact .pv h (YR hx)
 .exact .pv h (anj hx)
 .cases h
theorem ahs{v:AV}(hx:al Ev g x (v.val ρ))(h:alQ v=true):bc P Ev g ⟨dst,.nilCheck x,ty,pos,af,gd⟩ w (v.val ρ):=by
 cases v with
 |ptr id c=>grind [AV.val,Xs]
 |adr id c=>grind [AV.val,Xs]
 |fn f a b=>grind [AV.val,aiO]
 |_=>cases h
end
def oz(P:Program)(t:TypeId):Option (Nat×Nat×Value):=match P.info? t with
 |some i=>match i.zero with
  |some z=>some (i.size,i.bytes,z)
  |none=>none
 |none=>none
theorem cP{P:Program}{t:TypeId}{n bytes:Nat}{z:Value}(h:oz P t=some (n,bytes,z)):TI P t n bytes z:=by
 unfold oz at h;split at h
 .rename_i i hi;split at h
  next b a=>cases h;simp [TI,hi,a]
  .cases h
 .cases h
def adp(P:Program)(t:TypeId)(k:Nat):Option (TypeId×Nat×Nat):=match P.underlying t with
 |some (.struct fs)=>match fs.toList[k]? with
  |some f=>match P.info? f.type with
   |some i=>some (f.type,f.offset,i.size)
   |none=>none
  |none=>none
 |_=>none
theorem abe{P:Program}{t ft:TypeId}{k a n:Nat}(h:adp P t k=some (ft,a,n)):∃fs f i,P.underlying t=some (.struct fs)/\fs[k]? =some f/\f.type=ft/\f.offset=a/\P.info? ft=some i/\i.size=n:=by unfold adp at h;grind
def mX(P:Program)(t:TypeId)(cs:List AV):Option AV:=match P.underlying t with
 |some d=>aD ( mB d ) ( (match oz P t with
   |some x=>aD ( Nat.ble x.1 cs.length ) ( some (.agg (cs.take x.1)) )<|none
   |none=>none)
  )<|cs.head?
 |none=>none
def dJ:AV->List AV
 | .agg l=>l
 | .raw v=>v.cells.toList.map mQ
 |v=>[v]
def Ku:AV->Bool
 | .nv _=>false
 |_=>true
theorem As{ρ:aw}{v:AV}(h:Ku v=true):(v.val ρ).cells=(AV.aj ρ (dJ v)).toArray:=by
 cases v <;> simp [dJ,AV.val] <;> try rfl
 .cases h
 .rw [pD]
def vH(vs:List AV)(k:Nat)(us:List AV):List AV:=vs.take k++us++vs.drop (k+us.length)
theorem Ae{ρ:aw}{vs us:List AV}{k:Nat}:p8 (AV.aj ρ vs) k (AV.aj ρ us)=AV.aj ρ (vH vs k us):=by simp [p8,vH,dh,AV.lG,AV.js,AV.bD]
def Ei(place:Nat->Option (Nat×Nat)):List (Nat×AV)->List AV->Option (List AV)
 |[],cs=>some cs
 |(i,v)::l,cs=>match place i with
  |some (off,n)=>aD ( Ku v&&(Nat.beq (dJ v).length n&&Nat.ble (off+n) cs.length) ) ( Ei place l (vH cs off (dJ v)) )<|none
  |none=>none
theorem UQ{a:Nat}:∀(us:ze) (k:Nat) (cs:ze),a+k+us.length<=cs.length->
  (us.zipIdx k).foldl (λcs (x:Value×Nat)=>cs.setIfInBounds (a+x.2) x.1) cs.toArray=(p8 cs (a+k) us).toArray
 |[],k,cs,_=>by simp [p8]
 |u::us,k,cs,h=>by
  simp at h;simp;rw [UQ us (k+1) (cs.set (a+k) u) (by grind)];simp [p8];have b:a+k<cs.length:=by omega
  have c:(cs.set (a+k) u).take (a+(k+1))=cs.take (a+k)++[u]:=by rw [show a+(k+1)=(a+k)+1 from rfl,qt,so b,List.take_set_of_le (c8 _)];rfl
  grind [List.drop_set_of_lt,List.length_cons]
theorem Cr{ρ:aw}{a:Nat->Option (Nat×Nat)}:{ps:List (Nat×AV)}->{cs b:List AV}->Ei a ps cs=some b->
  Instr.fill a (AV.aj ρ cs).toArray (ps.map λp=>(p.1,p.2.val ρ))=some (AV.aj ρ b).toArray
 |[],cs,b,h=>by cases h;rfl
 |(i,v)::l,cs,b,h=>by
  unfold Ei at h;split at h
  .obtain ⟨c,f⟩:=aI h;simp at c;obtain ⟨d,j,g⟩:=c;have ih:=Cr (ρ:=ρ) f;unfold Instr.fill;have e:=As (ρ:=ρ) d;simp_all [UQ,AV.bD,Ae]
  .cases h
def wS{α β:Type}(f:α->Option β):List α->Option (List β)
 |[]=>some []
 |x::l=>match f x with
  |some y=>match wS f l with
   |some ys=>some (y::ys)
   |none=>none
  |none=>none
theorem U0{P:Program}{w:World}{α β:Type}{f:α->Sem β}{g:α->Option β}(a:∀x y,g x=some y->(f x).run P w= .ok y w):∀{l:List α} {ys:List β},wS g l=some ys->(l.mapM f).run P w= .ok ys w
 |[],ys,h=>by cases h;simp
 |x::l,ys,h=>by
  unfold wS at h;split at h
  .rename_i y c;split at h
   next zs b=>cases h;rw [List.mapM_cons,Sem.run_bind,a x y c,Result.andThen_ok,Sem.run_bind,U0 a b,Result.andThen_ok,Sem.run_pure]
   .cases h
  .cases h
theorem QW{P:Program}{w:World}{α β:Type}{f:α->Sem β}{g:α->Option β}(a:∀x y,g x=some y->(f x).run P w= .ok y w){l:Array α}{ys:List β}(h:wS g l.toList=some ys):(l.mapM f).run P w= .ok ys.toArray w:=by rw [Array.mapM_eq_mapM_toList,Sem.run_map,U0 a h];rfl
def afO(P:Program)(f:Field):Option (Nat×Nat):=match P.info? f.type with
 |some i=>some (f.offset,i.size)
 |none=>none
def Zv(P:Program)(t:TypeId)(ps:List (Nat×AV)):Option (List AV):=match oz P t with
 |some z=>(match P.underlying t with
  |some (.struct fs)=>(match wS (afO P) fs.toList with
   |some pl=>Ei (λi=>pl[i]?) ps (z.2.2.cells.toList.map mQ)
   |none=>none)
  |some (.array _ e)=>(match P.info? e with
   |some i=>Ei (λk=>some (k*i.size,i.size)) ps (z.2.2.cells.toList.map mQ)
   |none=>none)
  |_=>none)
 |none=>none
theorem agt{P:Program}{t:TypeId}{ρ:aw}{w:World}{ps:List (Nat×AV)}{cs:List AV}(h:Zv P t ps=some cs):
  (Instr.build t (ps.map λp=>(p.1,p.2.val ρ)).toArray).run P w= .ok (.agg (AV.aj ρ cs).toArray) w:=by
 unfold Zv at h;split at h
 .rename_i z i;have c:=cP i;have g:=c.zero w;unfold Instr.build;split at h
  .rename_i l a;simp [run_underlying a];split at h
   .rename_i pl d;have m:(l.mapM λf=>do pure (f.offset,<-sizeOf f.type):Sem (Array (Nat×Nat))).run P w= .ok pl.toArray w:=QW (λf y b=>by
     unfold afO at b;split at b
     .simp_all [sizeOf,typeInfo]
     .cases b) d
    have j:=Cr (ρ:=ρ) h;simp_all [pD,Result.andThen_ok]
   .cases h
  .rename_i k e a;simp [run_underlying a];split at h
   .have j:=Cr (ρ:=ρ) h;simp_all [pD,sizeOf,typeInfo,Result.andThen_ok]
   .cases h
  .cases h
 .cases h
theorem HQ{ρ:aw}:∀(a:zo) (vs:List AV),(a.zip vs).map (λp=>(p.1,p.2.val ρ))=a.zip (AV.aj ρ vs)
 |[],_=>by simp
 |_::_,[]=>by simp [AV.aj]
 |i::a,v::vs=>by simp [List.zip_cons_cons,eT,AV.aj];rw [HQ]
def fL(T:aA)(E F:aF):Prop:= ∀x,x∈T->dW E F x.2.2.1=some (x.2.1,.bool x.2.2.2)/\T.get (some x.1)=(T.get x.2.1&&yo x.1.2 x.2.2.2)
def keyOf(r:Nat)(pol:Bool):aA->Option ((Nat×Bool)×GK×Nat×Bool)
 |[]=>none
 |x::T=>aD ( Nat.beq x.2.2.1 r&&Ub x.1.2 pol ) ( some x )<|keyOf r pol T
theorem Zq{r:Nat}{a:Bool}:{T:aA}->{x:(Nat×Bool)×GK×Nat×Bool}->keyOf r a T=some x->x∈T/\x.2.2.1=r/\x.1.2=a
 |[],x,h=>by cases h
 |y::T,x,h=>by
  rcases dR h with ⟨e,b⟩|⟨_,b⟩
  .grind [List.mem_cons_self,Nat.eq_of_beq_eq_true,acM]
  .obtain ⟨d,c⟩:=Zq b;grind
def alv(T:aA)(E F:aF)(g:GK)(c x:Operand):Option (Bool×Bool):=match bu T E F g x with
 |some (.bool y)=>(match bu T E F g c with
  |some (.bool b)=>some (b,y)
  |_=>none)
 |_=>none
def alo(T:aA)(E F:aF)(g:GK)(pol:Bool)(c x:Operand):Option (Bool×Bool):=match c with
 | .tmp r=>(match keyOf r pol T with
  |some k=>aD ( T.imp g k.2.1 ) ( match bu T E F (some k.1) x with
    |some (.bool y)=>some (k.2.2.2,y)
    |_=>none
   ) none
  |none=>none)
 |_=>none
def Wq(T:aA)(E F:aF)(g:GK)(pol:Bool)(c x:Operand):Option (Bool×Bool):=match alv T E F g c x with
 |some y=>some y
 |none=>alo T E F g pol c x
theorem Xp{ρ:aw}{T:aA}{E F:aF}{g:GK}{d b y:Bool}{c:Operand}(s:fL T E F)(h:Wq T E F g d c x=some (b,y)):
  al (ay ρ T E F) (T.get g) c (.bool b)/\al (ay ρ T E F) (T.get g&&yo d b) x (.bool y):=by
 have j:∀{p q:Bool} {u:Value},al (ay ρ T E F) p x u->al (ay ρ T E F) (p&&q) x u:=λh n a i l=>h n a i (an _ _▸l).1;unfold Wq at h;split at h
 .rename_i z e;unfold alv at e;split at e
  .rename_i o hx;split at e
   next C r=>have m:=aO (ρ:=ρ) hx;have f:=aO (ρ:=ρ) r;grind [AV.val]
   .cases e
  .cases e
 .unfold alo at h;split at h
  .split at h
   .rename_i k hk;obtain ⟨m,f⟩:=aI h;split at f
    next o hx=>cases f;obtain ⟨k1,B,A⟩:=Zq hk;obtain ⟨w,v⟩:=s _ k1;have t:=aO (ρ:=ρ) hx;refine ⟨al.g (by grind [iC,AV.val]) (aA.my m),λn a i l=>t n a i ?_⟩;grind [aA.my]
    .cases f
   .cases h
  .cases h
def isF:Operand->Bool
 | .const (.bool b)=> !b
 |_=>false
def aj5:Operand->Bool
 | .const (.bool b)=>b
 |_=>false
theorem aoZ(h:isF x=true):x= .const (.bool false):=by unfold isF at h;grind
theorem amI(h:aj5 x=true):x= .const (.bool true):=by unfold aj5 at h;grind
def Md(P:Program)(t:TypeId):Bool:=match P.underlying t with
 |some d=> !(iz d)
 |none=>false
theorem PE{P:Program}{t:TypeId}(h:Md P t=true):∃d,P.underlying t=some d/\iz d=false:=by grind [Md]
def loA(T:aA)(E F:aF)(g:GK):Option Operand->zf
 |none=>some 0
 |some y=>match bu T E F g y with
  |some (.int _ i)=>some i
  |_=>none
def NC(T:aA)(E F:aF)(g:GK):Option Operand->Option zf
 |none=>some none
 |some y=>match bu T E F g y with
  |some (.int _ i)=>some (some i)
  |_=>none
theorem Qw{ρ:aw}{T:aA}{E F:aF}{g:GK}{lo:Option Operand}{i:Int}(h:loA T E F g lo=some i):(match (motive:=Option Operand->Prop) lo with|none=>i=0|some y=>∃k,al (ay ρ T E F) (T.get g) y (.int k i)):=by
 cases lo with
 |none=>cases h;rfl
 |some y=>
  unfold loA at h;dsimp only at h;split at h
  next k j a=>have:=aO (ρ:=ρ) a;grind [AV.val]
  .cases h
theorem PM{ρ:aw}{T:aA}{E F:aF}{g:GK}{hi:Option Operand}{j:zf}{len:Nat}(h:NC T E F g hi=some j):(match (motive:=Option Operand->Prop) hi with|none=>(j.getD (len:Int))=(len:Int)|some y=>∃k,al (ay ρ T E F) (T.get g) y (.int k (j.getD (len:Int)))):=by
 cases hi with
 |none=>cases h;rfl
 |some y=>
  unfold NC at h;dsimp only at h;split at h
  next k j a=>have:=aO (ρ:=ρ) a;grind [AV.val]
  .cases h
def ZY(X:Cx)(T:aA)(E F:aF)(g:GK)(c:Callee)(xs:zb)(ts:List TypeId):CV:=match c,xs,ts with
 | .builtin .len,[x],[t]=>aD ( isStr X.P t ) ( (match bu T E F g x with
   |some (.str l)=>pv (.int .i64 (l.length:Int))
   |_=>none)
  ) none
 | .builtin .max,[x,y],[_,_]=>(match bu T E F g x,bu T E F g y with
  |some (.int k m),some (.int k' l)=>aD ( jB k k' ) ( pv (.int k (max m l)) ) none
  |_,_=>none)
 | .builtin .min,[x,y],[_,_]=>(match bu T E F g x,bu T E F g y with
  |some (.int k m),some (.int k' l)=>aD ( jB k k' ) ( pv (.int k (min m l)) ) none
  |_,_=>none)
 |_,_,_=>none
def ak7(X:Cx)(T:aA)(E F:aF)(g:GK):Op->CV
 | .move x=>(match bu T E F g x with
  |some v=>pv v
  |none=>none)
 | .assign x=>(match bu T E F g x with
  |some v=>pv v
  |none=>none)
 | .pick c a b=>aD ( isF b ) ( (match Wq T E F g true c a with
   |some y=>pv (.bool (y.1&&y.2))
   |none=>none)
  )<|aD ( aj5 a ) ( (match Wq T E F g false c b with
   |some y=>pv (.bool (y.1||y.2))
   |none=>none)
  ) none
 | .nilCheck x=>(match bu T E F g x with
  |some v=>aD ( alQ v ) ( pv v ) none
  |none=>none)
 | .extract x i=>(match bu T E F g x with
  |some (.tuple l)=>(match l[i]? with
   |some v=>pv v
   |none=>none)
  |_=>none)
 | .unOp op _ x=>(match bu T E F g x with
  |some v=>aj0 op v
  |none=>none)
 | .binOp op t x y _=>(match bu T E F g x with
  |some u=>(match bu T E F g y with
   |some v=>aeb X.P t op u v
   |none=>none)
  |none=>none)
 | .convert s d x=>(match bu T E F g x with
  |some (.int _ m)=>aD ( akn X.P s ) (match tyK X.P d with
   |some k=>pv (.int k (k.wrap m))
   |none=>none) none
  |_=>none)
 | .index t x y=>aD ( isStr X.P t ) ( (match bu T E F g x,bu T E F g y with
   |some (.str l),some (.int _ i)=>some (some (oL i l.length),.int .u8 (mz l i))
   |_,_=>none)
  ) none
 | .slice t x lo hi none=>aD ( isStr X.P t ) ( (match bu T E F g x with
   |some (.str l)=>(match loA T E F g lo with
    |some i=>(match NC T E F g hi with
     |some j=>some (some (cR i (j.getD (l.length:Int)) l.length),.str (cut l i (j.getD (l.length:Int))))
     |none=>none)
    |none=>none)
   |_=>none)
  ) none
 | .field t x k=>(match bu T E F g x with
  |some (.agg cs)=>(match adp X.P t k with
   |some f=>(match mX X.P f.1 (cs.drop f.2.1) with
    |some v=>pv v
    |none=>none)
   |none=>none)
  |_=>none)
 | .fieldAddr t x k=>(match adp X.P t k with
  |some f=>aD ( Nat.beq f.2.2 0 ) none (match bu T E F g x with
   |some (.ptr id o)=>pv (.ptr id (o+f.2.1))
   |some (.adr id o)=>pv (.adr id (o+f.2.1))
   |_=>none)
  |none=>none)
 | .build t ps=>(match uk T E F g (ps.toList.map (·.2)) with
  |some vs=>(match Zv X.P t ((ps.toList.map (·.1)).zip vs) with
   |some cs=>pv (.agg cs)
   |none=>none)
  |none=>none)
 | .makeFunc (.func f) a b=>(match uk T E F g a.toList with
  |some us=>(match uk T E F g b.toList with
   |some vs=>pv (.fn f us vs)
   |none=>none)
  |none=>none)
 | .makeInterface t x=>(match bu T E F g x with
  |some v=>aD ( Md X.P t ) ( pv (.ifc t v) ) none
  |none=>none)
 | .typeAssert x _ t false=>(match bu T E F g x with
  |some (.ifc t' v)=>aD ( Nat.beq t t'&&Md X.P t ) ( pv v ) none
  |_=>none)
 | .call c=>ZY X T E F g c.callee c.args.toList c.argTypes.toList
 |_=>none
theorem add_plain{b o k:Nat}:(⟨b,o,none⟩:Addr).add k=⟨b,o+k,none⟩:=by grind [Addr.add]
theorem add_add{a:Addr}{j k:Nat}:(a.add j).add k=a.add (j+k):=by
 by_cases b:j=0
 .simp_all [Addr.add]
 grind [Addr.add,Nat.add_assoc]
theorem head_get{α:Type}{l:List α}{v:α}(h:l.head? =some v):l[0]? =some v:=by
 cases l with
 |nil=>simp at h
 |cons a l=>simpa using h
section
variable {X : Cx} {ρ : aw} {T : aA} {E F : aF} {g : GK} {w : World} {dst : zh} {ty : TypeId} {pos : String} {af : zj} {gd : xb}
theorem pI{t:TypeId}{a:Nat}{cs:List AV}{v:AV}(h:mX X.P t (cs.drop a)=some v):∃d n bytes z,X.P.underlying t=some d/\(mB d=true->TI X.P t n bytes z)/\
  (if mB d then some (.agg (((AV.aj ρ cs).drop a).take n).toArray) else (AV.aj ρ cs)[a]?)=some (v.val ρ):=by
 unfold mX at h;split at h
 .rename_i d hd;rcases dR h with ⟨e,b⟩|⟨e,b⟩
  .split at b
   next x hx=>obtain ⟨n,bytes,z⟩:=x;obtain ⟨f,c⟩:=aI b;cases c;refine ⟨d,n,bytes,z,hd,λ_=>cP hx,?_⟩;simp_all [AV.val,AV.lG,AV.js]
   .cases b
  simp_all [AV.Xe,AV.js]
 .cases h
theorem aea{c:Callee}{xs:Array Operand}{f:Array TypeId}(h:ZY X T E F g c xs.toList f.toList=some cv):
  oQ X.P (ay ρ T E F) ρ (T.get g) ⟨dst,.call ⟨c,xs,f⟩,ty,pos,af,gd⟩ w cv:=by
 obtain ⟨xs⟩:=xs;obtain ⟨f⟩:=f;unfold ZY at h;split at h
 .rename_i x t e d;subst e;subst d;obtain ⟨b,a⟩:=aI h;split at a
  next l hx=>have:=aO (ρ:=ρ) hx;exact .pv a (ajm (sY b) this)
  .cases a
 .rename_i x y t t' e d;subst e;subst d;split at h
  next k m o l hx i=>obtain ⟨b,a⟩:=aI h;have:=nb b;subst this;have n:=aO (ρ:=ρ) hx;have j:=aO (ρ:=ρ) i;exact .pv a (aku n j (ajo _ _ _ _ _))
  .cases h
 .rename_i x y t t' e d;subst e;subst d;split at h
  next k m o l hx i=>obtain ⟨b,a⟩:=aI h;have:=nb b;subst this;have n:=aO (ρ:=ρ) hx;have j:=aO (ρ:=ρ) i;exact .pv a (akU n j (akA _ _ _ _ _))
  .cases h
 .cases h
theorem ajq{op:Op}(R:fL T E F)(h:ak7 X T E F g op=some cv):
  oQ X.P (ay ρ T E F) ρ (T.get g) ⟨dst,op,ty,pos,af,gd⟩ w cv:=by
 unfold ak7 at h;split at h
 .split at h
  next v s=>exact .pv h (aL (aO s))
  .cases h
 .split at h
  next v s=>exact .pv h (db (aO s))
  .cases h
 .rename_i c a b;rcases dR h with ⟨r,p⟩|⟨_,p⟩
  .have:=aoZ r;subst this;split at p
   next y B=>obtain ⟨k1,t⟩:=Xp (ρ:=ρ) (b:=y.1) (y:=y.2) R B;exact .pv p (amw k1 (by simpa [yo] using t))
   .cases p
  .obtain ⟨r,p⟩:=aI p;have:=amI r;subst this;split at p
   next y B=>obtain ⟨k1,t⟩:=Xp (ρ:=ρ) (b:=y.1) (y:=y.2) R B;exact .pv p (ao0 k1 (by simpa [yo] using t))
   .cases p
 .split at h
  next v s=>obtain ⟨r,p⟩:=aI h;exact .pv p (ahs (aO s) r)
  .cases h
 .split at h
  .rename_i l s;split at h
   next v hl=>have q:=aO (ρ:=ρ) s;simp only [AV.val] at q;exact .pv h (aaB q (AV.Xe hl))
   .cases h
  .cases h
 .split at h
  next v s=>exact aii (aO s) h
  .cases h
 .split at h
  .rename_i u W;split at h
   next v s=>exact af6 (aO W) (aO s) h
   .cases h
  .cases h
 .split at h
  .rename_i k' m hx;obtain ⟨r,p⟩:=aI h;obtain ⟨ds,L⟩:=aol r;split at p
   next k hk=>have q:=aO (ρ:=ρ) hx;simp only [AV.val] at q;exact .pv p (Yq L (Pz hk) q)
   .cases p
  .cases h
 .obtain ⟨r,p⟩:=aI h;split at p
  next l k i hx B=>have q:=aO (ρ:=ρ) hx;have S:=aO (ρ:=ρ) B;simp only [AV.val] at q S;cases p;exact λN=>ak5 (sY r) q S (λC=>N _ rfl C)
  .cases p
 .obtain ⟨r,p⟩:=aI h;split at p
  .rename_i l hx;split at p
   .rename_i i hi;split at p
    next j Y=>have q:=aO (ρ:=ρ) hx;simp only [AV.val] at q;cases p;exact λN=>akd (sY r) q (Qw hi) (PM Y) (λC=>N _ rfl C)
    .cases p
   .cases p
  .cases p
 .split at h
  .rename_i cs hx;split at h
   .rename_i f G;obtain ⟨ft,A,n⟩:=f;split at h
    .rename_i v s;obtain ⟨U,f,i,k1,t,I,H,Q,O⟩:=abe G;obtain ⟨d,n',bytes,z,c1,c2,J⟩:=pI (ρ:=ρ) s;have q:=aO (ρ:=ρ) hx;simp only [AV.val] at q;cases hd:mB d
     .refine .pv h (λV a G C=>?_);have Z:=q V a G C;rw [hd] at J;simp only [e9,qw] at J;have hp:=aev (P:=X.P) (w:=w) c1 hd J;subst I;subst H;simp only [execOp,Z,Instr.field,Sem.run_bind,run_underlying k1,Result.andThen_ok,t,asAgg,Sem.run_pure,hp]
     .exact .pv h (afJ k1 t I H c1 (c2 hd) q J)
    .cases h
   .cases h
  .cases h
 .split at h
  .rename_i f G;obtain ⟨ft,A,n⟩:=f;obtain ⟨U,f,i,k1,t,I,H,Q,O⟩:=abe G;obtain ⟨r,p⟩:=Mi h;have D:abM X.P _ _ A:=⟨U,f,i,k1,t,H,by rw [I];exact Q,by rw [O];exact Nat.ne_of_beq_eq_false r⟩;split at p
   next id o hx=>have q:=aO (ρ:=ρ) hx;refine .pv p ?_;have:=Jw (dst:=dst) (ty:=ty) (pos:=pos) (af:=af) (gd:=gd) (w:=w) D q;rwa [add_plain] at this
   next id o hx=>have q:=aO (ρ:=ρ) hx;refine .pv p ?_;have:=Jw (dst:=dst) (ty:=ty) (pos:=pos) (af:=af) (gd:=gd) (w:=w) D q;rwa [add_add] at this
   .cases p
  .cases h
 .split at h
  .rename_i vs x;split at h
   .rename_i cs M;refine .pv h ?_;simp [AV.val];have q:=jo (ρ:=ρ) x;have:=agl (w:=w) (dst:=dst) (ty:=ty) (pos:=pos) (af:=af) (gd:=gd) q (λw=>by rw [<-HQ];exact agt M)
    simpa using this
   .cases h
  .cases h
 .rename_i f a b;split at h
  .rename_i us K;split at h
   next vs x=>refine .pv h ?_;simp [AV.val];have:=LK (P:=X.P) (w:=w) (dst:=dst) (ty:=ty) (pos:=pos) (af:=af) (gd:=gd) (fn:= .func f) (jo (ρ:=ρ) K) (jo x);simpa using this
   .cases h
  .cases h
 .split at h
  .obtain ⟨r,p⟩:=aI h;obtain ⟨d,k1,t⟩:=PE r;refine .pv p ?_;grind [AV.val,aar,aO]
  .cases h
 .split at h
  next t' v s=>obtain ⟨r,p⟩:=aI h;simp only [an] at r;obtain ⟨d,k1,t⟩:=PE r.2;have q:=aO (ρ:=ρ) s;have e:=b0 r.1;subst e;exact .pv p (aaD k1 t q)
  .cases h
 .exact aea h
 .cases h
end
def wP(G H:List Row):AV->AV
 | .nv u=>(match eo G H (isEq u) with
  |some (_,.eq _ v)=>v
  |_=> .nv u)
 |v=>v
theorem Z5{ρ:aw}{T:aA}{G H:List Row}{Φ:Ctx}{w:World}(a:Sat (ab ρ T G++(ab ρ T H++Φ)) w){v:AV}:(wP G H v).val ρ=v.val ρ:=by
 unfold wP;split
 .rename_i u;split
  next s j e h=>obtain ⟨d,c⟩:=bW h;have b:=Src.holds a d;have:j=u:=b0 c;subst this;simp only [AV.val];exact b.symm
  .rfl
 .rfl
theorem J4{ρ:aw}{T:aA}{G H:List Row}{Φ:Ctx}{w:World}(a:Sat (ab ρ T G++(ab ρ T H++Φ)) w):(l:List AV)->AV.aj ρ (l.map (wP G H))=AV.aj ρ l
 |[]=>rfl
 |v::l=>by simp only [eT,AV.aj];rw [Z5 a,J4 a l]
def QZ:Ty->Bool
 | .i _|.bo|.s|.un|.n=>true
 | .p x y=>QZ x&&QZ y
 |_=>false
def y7:(t:Ty)->t.T->List AV
 | .i k,x=>[.int k x]
 | .bo,x=>[.bool x]
 | .s,x=>[.str x]
 | .n,x=>[.ifc x (.agg [])]
 | .p a b,x=>y7 a x.1++y7 b x.2
 |_,_=>[]
theorem OI{ρ:aw}{M:Nat->Prop}{w:World}:(t:Ty)->(x:t.T)->(vs:ze)->QZ t=true->t.rep.rd M w vs x->vs=AV.aj ρ (y7 t x)
 | .i k,x,vs,_,h=>by simp only [y7,AV.aj,AV.val];exact h
 | .bo,x,vs,_,h=>by simp only [y7,AV.aj,AV.val];exact h
 | .s,x,vs,_,h=>by simp only [y7,AV.aj,AV.val];exact h
 | .un,x,vs,_,h=>by simp only [y7,AV.aj];exact h
 | .p a b,x,vs,hf,h=>by
  simp only [QZ,an] at hf;obtain ⟨us,c,rfl,e,d⟩:=h;rw [y7,dh,<-OI a x.1 us hf.1 e,<-OI b x.2 c hf.2 d]
 | .l _,_,_,hf,_=>by cases hf
 | .ex,_,_,hf,_=>by cases hf
 | .n,x,vs,_,h=>by simp only [y7,AV.aj,AV.val];exact h
 | .mp _ _,_,_,hf,_=>by cases hf
def Yr(T:aA)(G H:List Row)(g:GK)(q off:Nat):Option (List AV):=match eo G H (Pm q) with
 |some (_,.kn g' _ id ver u _ x)=>aD ( T.imp g g'&&QZ u ) ( match eo G H (oV id) with
  |some (_,.own _ _ _ _ ver')=>aD ( Nat.beq ver ver' ) ( some ((y7 u x).drop off) ) none
  |_=>none ) none
 |_=>none
theorem Mj{t t':Ty}{l:List t.T}{l':List t'.T}{y:ck}(h:y=⟨.l t,l⟩)(a:y=⟨.l t',l'⟩):∃e:t=t',e▸l=l':=by rw [h] at a;cases a;exact ⟨rfl,rfl⟩
theorem ah4{ρ:aw}{T:aA}{G H:List Row}{Φ:Ctx}{w:World}{g:GK}{q c:Nat}{vs:List AV}(p:Sat (ab ρ T G++(ab ρ T H++Φ)) w)(h:Yr T G H g q c=some vs)(v:T.get g=true):
  bL w ((ρ q).a.add c) (AV.aj ρ vs):=by
 unfold Yr at h;split at h
 .rename_i s P q' id d u i t x;obtain ⟨n,m⟩:=aI h;simp only [an] at n;split at m
  next N f u' e l b k=>obtain ⟨A,z⟩:=aI m;cases z;obtain ⟨E,D⟩:=bW x;obtain ⟨C,B⟩:=bW k;have J:q'=q:=b0 D;have I:f=id:=b0 B;have e3:d=b:=b0 A;subst J;subst I;subst e3;obtain ⟨y,j⟩:=Src.holds p C;obtain ⟨O,M,L,K⟩:=(Src.holds p E) (aA.my n.1 v);obtain ⟨e4,r⟩:=Mj M j;subst e4;simp only at r;subst r;obtain ⟨_,us,o,F⟩:=y.Xo L;rw [OI (ρ:=ρ) u t us n.2 F] at o;rw [<-K] at o;refine o.sub _ ?_;rw [AV.js,gx (c8 _)]
  .cases m
 .cases h
def An(T:aA)(G H:List Row)(g:GK):AV->Option (List AV)
 | .ptr id off=>(match eo G H (yW id) with
  |some (_,.box _ _ vs)=>some ((vs.drop off).map (wP G H))
  |_=>none)
 | .adr id off=>(match eo G H (aqb id) with
  |some (_,.elm g' _ vs)=>aD ( T.imp g g' ) ( some (vs.drop off) ) none
  |_=>Yr T G H g id off)
 |_=>none
theorem KO{ρ:aw}{T:aA}{G H:List Row}{Φ:Ctx}{w:World}{g:GK}{v:AV}{vs:List AV}(d:Sat (ab ρ T G++(ab ρ T H++Φ)) w)(h:An T G H g v=some vs)(k:T.get g=true):
  ∃p,v.val ρ= .pointer (some p)/\bL w p (AV.aj ρ vs):=by
 have sub:∀{p:Addr} {us:List AV} {c:Nat},bL w p (AV.aj ρ us)->bL w (p.add c) (AV.aj ρ (us.drop c)):=λh=>by refine h.sub _ ?_;rw [AV.js,gx (c8 _)]
 unfold An at h;split at h
 .rename_i id c;split at h
  next s j t us e=>cases h;obtain ⟨i,f⟩:=bW e;have:j=id:=b0 f;subst this;have hb:gf w (ρ j).b t (AV.aj ρ us):=Src.holds d i;refine ⟨⟨(ρ j).b,c,none⟩,by simp only [AV.val],?_⟩;rw [J4 d,AV.js];exact hb.part c (by rw [gx (c8 _)])
  .cases h
 .rename_i id c;split at h
  next s n j us e=>obtain ⟨m,l⟩:=aI h;cases l;obtain ⟨i,f⟩:=bW e;have:j=id:=b0 f;subst this;have hb:=Src.holds d i;exact ⟨_,by simp only [AV.val],sub (hb (aA.my m k)).2⟩
  .exact ⟨(ρ id).a.add c,by simp only [AV.val],ah4 d h k⟩
 .cases h
def WG(t:Ty)(v:AV):Option t.T:=match t,v with
 | .i k,.int k' x=>aD ( jB k k' ) ( some x ) none
 | .s,.str x=>some x
 | .bo,.bool x=>some x
 |_,_=>none
theorem R5{ρ:aw}{t:Ty}{v:AV}{x:t.T}(h:WG t v=some x):v.val ρ=FB t x:=by
 unfold WG at h;split at h
 .obtain ⟨b,a⟩:=aI h;have:=nb b;subst this;cases a;simp only [AV.val];rfl
 .cases h;simp only [AV.val];rfl
 .cases h;simp only [AV.val];rfl
 .cases h
def aff(t:Ty)(x:t.T):AV:=match t,x with
 | .i k,x=> .int k x
 | .s,x=> .str x
 | .bo,x=> .bool x
 |_,_=> .bool false
theorem acd{ρ:aw}{t:Ty}{x:t.T}:(aff t x).val ρ=FB t x:=by cases t <;> simp only [aff,FB,AV.val]
instance keyBEq(t:Ty):BEq t.T:=match t with
 | .i _=>(inferInstance:BEq Int)
 | .s=>(inferInstance:BEq aE)
 | .bo=>(inferInstance:BEq Bool)
 |_=>⟨λ_ _=>false⟩
def Ty.tl:(t:Ty)->t.T
 | .i _=>(0:Int)
 | .bo=>false
 | .s=>([]:aE)
 | .un=>()
 | .n=>(0:Nat)
 | .p x y=>(x.tl,y.tl)
 | .l x=>([]:List x.T)
 | .mp k v=>(none:Option (List (k.T×v.T)))
 | .ex=>Ex.mk 0 0 0 []
def aeZ(P:Program)(kt:TypeId)(k:Ty):Bool:=match k with
 | .i k=>(match tyK P kt with
  |some k'=>jB k k'
  |none=>false)
 | .s=>isStr P kt
 |_=>false
theorem SE{P:Program}{kt:TypeId}{k:Ty}(h:aeZ P kt k=true):CT P kt (FB k):=by
 unfold aeZ at h;split at h
 .split at h
  next a hk=>have:=nb h;subst this;exact CT.int (Pz hk)
  .cases h
 .exact CT.str (sY h)
 .cases h
def adV(v:Ty)(z:Value):Bool:=match v,z with
 | .i k,.int k' x=>jB k k'&&decide (x=0)
 | .bo,.bool b=> !b
 | .s,.string b=>b.data.toList.isEmpty
 |_,_=>false
theorem ald{v:Ty}{z:Value}(h:adV v z=true):z=FB v v.tl:=by
 unfold adV at h;split at h
 .simp only [an,gj] at h;have:=nb h.1;subst this;rw [h.2];rfl
 .rename_i b;cases b
  .rfl
  .cases h
 .rename_i b;have:b.data.toList=[]:=by simpa using h
  show _=S [];unfold S;rw [<-this]
 .cases h
def Sn(P:Program)(t:TypeId):Option (TypeId×TypeId):=match P.underlying t with
 |some (.map k v)=>some (k,v)
 |_=>none
theorem yL{P:Program}{t:TypeId}{p:TypeId×TypeId}(h:Sn P t=some p):P.underlying t=some (.map p.1 p.2):=by
 unfold Sn at h;split at h
 next k v hk=>cases h;exact hk
 .cases h
def iR(P:Program)(t:TypeId):Option TypeId:=match P.underlying t with
 |some (.slice e)=>some e
 |_=>none
theorem cq{P:Program}{t:TypeId}(h:iR P t=some e):P.underlying t=some (.slice e):=by
 unfold iR at h;split at h
 next k hk=>cases h;exact hk
 .cases h
structure SlA where
 g:GK
 t:Ty
 l:List t.T
def UI(G H:List Row)(id:Nat):Option SlA:=match eo G H (oV id) with
 |some (_,.sli g _ t l _)=>some ⟨g,t,l⟩
 |some (_,.own _ t _ l _)=>some ⟨none,t,l⟩
 |_=>none
theorem YU{ρ:aw}{T:aA}{G H:List Row}{Φ:Ctx}{w:World}{id:Nat}{s:SlA}(f:Sat (ab ρ T G++(ab ρ T H++Φ)) w)(h:UI G H id=some s)(k:T.get s.g=true):
  (bS s.t.rep (Ctx.M (ab ρ T G++(ab ρ T H++Φ))) w (sl (ρ id).v) s.l)\/∃e,cf s.t.rep e (Ctx.M (ab ρ T G++(ab ρ T H++Φ))) w (sl (ρ id).v) s.l (Aw (ρ id).v):=by
 unfold UI at h;split at h
 next i g j t l b a=>cases h;obtain ⟨d,c⟩:=bW a;have:j=id:=b0 c;subst this;exact .inl ((Src.holds f d) k).1
 next i j t e l ks a=>cases h;obtain ⟨d,c⟩:=bW a;have:j=id:=b0 c;subst this;exact .inr ⟨e,(Src.holds f d).1⟩
 .cases h
theorem Sw{ρ:aw}{T:aA}{G H:List Row}{Φ:Ctx}{w:World}{id:Nat}{s:SlA}(a:Sat (ab ρ T G++(ab ρ T H++Φ)) w)(h:UI G H id=some s)(b:T.get s.g=true):NR (sl (ρ id).v) s.l.length:=by
 rcases YU a h b with h|⟨e,h⟩
 .exact h.len
 .exact h.len
theorem amy{ρ:aw}{T:aA}{G H:List Row}{Φ:Ctx}{w:World}{id:Nat}{s:SlA}(a:Sat (ab ρ T G++(ab ρ T H++Φ)) w)(h:UI G H id=some s)(b:T.get s.g=true):bS s.t.rep (λ_=>False) w (sl (ρ id).v) s.l:=by
 rcases YU a h b with h|⟨e,h⟩
 .exact h.mv (Mv.weaken w λ_ h=>h.elim)
 .exact h.freeze (λ_ _ h=>h) (Mv.weaken w λ_ h=>h.elim)
def isU8:Ty->Bool
 | .i .u8=>true
 |_=>false
def ala(T:aA)(G H:List Row)(g:GK)(v:AV):Option zn:=match v with
 | .sl id=>(match UI G H id with
  |some ⟨g',.i .u8,l⟩=>aD ( T.imp g g' ) ( some l ) none
  |_=>none)
 | .raw (.slice none 0 0)=>some []
 |_=>none
theorem amu{ρ:aw}{T:aA}{G H:List Row}{Φ:Ctx}{w:World}{g:GK}{v:AV}{l:zn}(a:Sat (ab ρ T G++(ab ρ T H++Φ)) w)(h:ala T G H g v=some l)(b:T.get g=true):bS (RI .u8) (λ_=>False) w (v.val ρ) l:=by
 unfold ala at h;split at h
 .split at h
  next e l' hl=>obtain ⟨d,c⟩:=aI h;cases c;have:=amy a hl (aA.my d b);simp only [AV.val];exact this
  .cases h
 .cases h;simp only [AV.val];exact bS.nil
 .cases h
def Z0(X:Cx)(T:aA)(E F:aF)(G H:List Row)(g:GK)(c:Callee)(xs:zb)(ts:List TypeId):CV:=match c,xs,ts with
 | .builtin .len,[x],[t]=>(match iR X.P t with
  |some _=>(match bu T E F g x with
   |some (.sl id)=>(match UI G H id with
    |some s=>aD ( T.imp g s.g ) ( pv (.int .i64 (s.l.length:Int)) ) none
    |none=>none)
   |some (.raw (.slice none 0 0))=>pv (.int .i64 0)
   |_=>none)
  |none=>none)
 |_,_,_=>none
def aet(X:Cx)(T:aA)(E F:aF)(G H:List Row)(g:GK)(op:BinOp)(t:TypeId)(x y:Operand):CV:=match Sn X.P t with
 |some _=>(match bu T E F g y with
  |some (.raw (.map none))=>(match bu T E F g x with
   |some (.mp id)=>(match eo G H (aeM id) with
    |some (_,.mp _ _ _ d)=>(match op with
     | .eql=>pv (.bool (Option.isNone d))
     | .neq=>pv (.bool (!(Option.isNone d)))
     |_=>none)
    |_=>none)
   |some (.raw (.map none))=>(match op with
    | .eql=>pv (.bool true)
    | .neq=>pv (.bool false)
    |_=>none)
   |_=>none)
  |_=>none)
 |none=>none
def alf(X:Cx)(T:aA)(E F:aF)(G H:List Row)(g:GK):Op->CV
 | .load t x=>(match bu T E F g x with
  |some v=>(match An T G H g v with
   |some cs=>(match mX X.P t cs with
    |some v=>pv v
    |none=>none)
   |none=>none)
  |none=>none)
 | .convert s d x=>aD ( isStr X.P d ) ( (match iR X.P s with
  |some e=>(match tyK X.P e with
   |some .u8=>(match bu T E F g x with
    |some v=>(match ala T G H g v with
     |some l=>pv (.str (strOf l))
     |none=>none)
    |none=>none)
   |_=>none)
  |none=>none) ) none
 | .lookup t x y ok=>(match Sn X.P t with
  |some p=>(match bu T E F g x with
   |some (.mp id)=>(match bu T E F g y with
    |some kv=>(match eo G H (aeM id) with
     |some (_,.mp _ k v d)=>(match oz X.P p.2 with
      |some z=>aD ( aeZ X.P p.1 k&&adV v z.2.2 ) ( (match WG k kv with
       |some key=>aD ( ok ) ( pv (.tuple [aff v (dV d key v.tl),.bool (RM d key)]) )<|pv (aff v (dV d key v.tl))
       |none=>none) ) none
      |none=>none)
     |_=>none)
    |none=>none)
   |_=>none)
  |none=>none)
 | .call c=>Z0 X T E F G H g c.callee c.args.toList c.argTypes.toList
 | .binOp op t x y _=>aet X T E F G H g op t x y
 |_=>none
section
variable {X : Cx} {ρ : aw} {T : aA} {E F : aF} {G H : List Row} {Φ : Ctx} {g : GK} {w : World} {dst : zh} {ty : TypeId} {pos : String} {af : zj} {gd : xb}
theorem ae5{P:Program}{Ev:Env}{b:Bool}{o:Oper}(h:b=true->bc P Ev b o w v):bc P Ev b o w v:=λn a d c=>h c n a d c
theorem akv{t:TypeId}{u v:AV}{cs:List AV}(k:Sat (ab ρ T G++(ab ρ T H++Φ)) w)(hx:bu T E F g x=some u)(f:An T G H g u=some cs)(h:mX X.P t cs=some v):
  bc X.P (ay ρ T E F) (T.get g) ⟨dst,.load t x,ty,pos,af,gd⟩ w (v.val ρ):=ae5 λm=>by
 obtain ⟨p,hp,f⟩:=KO k f m;have b:=aO (ρ:=ρ) hx;rw [hp] at b;have s:mX X.P t (cs.drop 0)=some v:=by simpa using h
 obtain ⟨d,n,bytes,z,c1,y,c⟩:=pI (ρ:=ρ) s;cases hd:mB d
 .rw [hd] at c;simp only [e9,qw] at c;refine Kp c1 hd b (λ_=>?_);have:=f.sub (us:=[v.val ρ]) 0 (by
   cases e:AV.aj ρ cs with
   |nil=>rw [e] at c;cases c
   |cons a l=>rw [e] at c;cases c;simp)
  simpa [Addr.add] using this
 .unfold mX at h;rw [c1] at h;rcases dR h with ⟨_,i⟩|⟨j,_⟩
  .split at i
   .rename_i q e;obtain ⟨n,bytes,z⟩:=q;obtain ⟨r,o⟩:=aI i;cases o;have hl:n<=cs.length:=er r;simp only [AV.val];refine KV c1 hd (cP e) b (λ_=>?_) ?_
    .have:=f.sub (us:=AV.aj ρ (cs.take n)) 0 (by rw [AV.lG,p5,dk,AV.bD,j0 hl])
     simpa [Addr.add] using this
    .rw [AV.bD,dk,j0 hl]
   .cases i
  .rw [hd] at j;cases j
theorem aeV{c:Callee}{xs:Array Operand}{b:Array TypeId}(k:Sat (ab ρ T G++(ab ρ T H++Φ)) w)(h:Z0 X T E F G H g c xs.toList b.toList=some cv):
  oQ X.P (ay ρ T E F) ρ (T.get g) ⟨dst,.call ⟨c,xs,b⟩,ty,pos,af,gd⟩ w cv:=by
 obtain ⟨xs⟩:=xs;obtain ⟨b⟩:=b;unfold Z0 at h;split at h
 .rename_i x t j i;simp only at j i;subst j;subst i;split at h
  .rename_i e f;split at h
   .rename_i id hx;have a:=aO (ρ:=ρ) hx;simp only [AV.val] at a;split at h
    next s d=>obtain ⟨o,m⟩:=aI h;exact .pv m (ae5 λl=>LG (cq f) a (Sw k d (aA.my o l)))
    .cases h
   next hx=>have a:=aO (ρ:=ρ) hx;simp only [AV.val] at a;exact .pv h (LG (n:=0) (cq f) a ⟨_,_,rfl⟩)
   .cases h
  .cases h
 .cases h
theorem agS{op:BinOp}{t:TypeId}(e:Sat (ab ρ T G++(ab ρ T H++Φ)) w)(h:aet X T E F G H g op t x y=some cv):
  oQ X.P (ay ρ T E F) ρ (T.get g) ⟨dst,.binOp op t x y t',ty,pos,af,gd⟩ w cv:=by
 unfold aet at h;split at h
 .rename_i p hp;split at h
  .rename_i c;have b:=aO (ρ:=ρ) c;simp only [AV.val] at b;split at h
   .rename_i id hx;have a:=aO (ρ:=ρ) hx;simp only [AV.val] at a;split at h
    .rename_i s j k v d f;obtain ⟨l,i⟩:=bW f;have:j=id:=b0 i;subst this;have hb:=Src.holds e l;split at h
     .exact .pv h (QV (yL hp) a b hb)
     .exact .pv h (PG (yL hp) a b hb)
     .cases h
    .cases h
   .rename_i hx;have a:=aO (ρ:=ρ) hx;simp only [AV.val] at a;split at h
    .exact .pv h (aaA (yL hp) a b)
    .exact .pv h (aaz (yL hp) a b)
    .cases h
   .cases h
  .cases h
 .cases h
theorem aja{op:Op}(f:Sat (ab ρ T G++(ab ρ T H++Φ)) w)(h:alf X T E F G H g op=some cv):
  oQ X.P (ay ρ T E F) ρ (T.get g) ⟨dst,op,ty,pos,af,gd⟩ w cv:=by
 unfold alf at h;split at h
 .split at h
  .rename_i v o;split at h
   .rename_i cs q;split at h
    next O n=>exact .pv h (akv f o q n)
    .cases h
   .cases h
  .cases h
 .obtain ⟨b,a⟩:=aI h;split at a
  .rename_i e D;split at a
   .rename_i hk;split at a
    .rename_i v o;split at a
     next l hl=>refine .pv a (ae5 λB=>?_);have m:=aO (ρ:=ρ) o;simp only [AV.val];exact ama (M:=λ_=>False) (cq D) (Pz hk) (sY b) m (λ_=>amu f hl B)
     .cases a
    .cases a
   .cases a
  .cases a
 .rename_i t x y ok;split at h
  .rename_i p hp;split at h
   .rename_i id hx;split at h
    .rename_i Q A;split at h
     .rename_i s j k v d C;split at h
      .rename_i z u;obtain ⟨b,a⟩:=aI h;simp only [an] at b;split at a
       .rename_i key i;obtain ⟨J,I⟩:=bW C;have:j=id:=b0 I;subst this;have hb:=Src.holds f J;have m:=aO (ρ:=ρ) hx;have r:=aO (ρ:=ρ) A;simp only [AV.val] at m;rw [R5 i] at r;obtain ⟨N,L,K⟩:=z;have c:(zeroValue p.2).run X.P w= .ok (FB v v.tl) w:=by rw [<-ald b.2];exact (cP u).zero w
        cases ok
        .refine .pv a ?_;rw [acd];exact ac4 (SE b.1) (yL hp) c m r (λ_=>hb)
        .refine .pv a ?_;simp only [AV.val,AV.aj];rw [acd];exact ZV (SE b.1) (yL hp) c m r (λ_=>hb)
       .cases a
      .cases h
     .cases h
    .cases h
   .cases h
  .cases h
 .exact aeV f h
 .exact agS f h
 .cases h
end
def bI(P:Program)(E:Env)(o:Oper)(w:World)(R:Value->World->Prop):Prop:=
 ∀n a,Fits n E a->(∃v w',(execOp a.eval o).run P w= .ok (.value v) w'/\R v w')\/(∃w',(execOp a.eval o).run P w= .ok .skip w'/\R undef w')\/
  (∃(f:FuncId) (args:ze),(execOp a.eval o).run P w= .ok (.enter f args.toArray) w/\jg P f args w R)
section
variable {P : Program} {σ : zg} {Q : bm} {n : Nat} {D : za} {E : Env} {w : World} {ops : zi} {rest : zl} {o : Oper} {R S : Value -> World -> Prop}
theorem bI.run(h:bc P E true o w v)(k:R v w):bI P E o w R:=λn a b=> .inl ⟨v,w,h n a b rfl,k⟩
theorem bI.ru{w':World}(h:om P E o w v w')(k:R v w'):bI P E o w R:=λn a b=> .inl ⟨v,w',h n a b,k⟩
theorem bI.ac1{w':World}(h:N6 P E o w w')(k:R undef w'):bI P E o w R:=λn a b=> .inr (.inl ⟨w',h n a b,k⟩)
theorem bI.upon(hd:bI P E o w R){a:Act}(e:Fits n E a){next:Act->World->Prop}(h:∀v w',R v w'->next (a.put o.dst v) w'):o.uponIn (FW σ) 0 P a next Q ((execOp a.eval o).run P w):=by
 rcases hd n a e with ⟨v,w',c,b⟩|⟨w',c,b⟩|⟨f,args,c,b⟩
 .rw [c,Oper.uponIn_value];exact h _ _ b
 .rw [c,Oper.uponIn_skip];exact h _ _ b
 .rw [c];exact Hy b (λv w' d=>h v w' d) (λ_ _ d=>d.elim)
def sF(dst:zh)(g:Bool)(v:Value)(E:Env):Env:=match dst with
 |some d=>(d,g,v)::E
 |none=>E
def K0(n:Nat):zh->Bool
 |some d=>Nat.blt d n
 |none=>true
theorem Fits.sF{E:Env}{a:Act}(h:Fits n E a){d:zh}{g:Bool}{v:Value}(hd:K0 n d=true):Fits n (sF d g v E) (a.put d (Bb g v)):=by
 cases d with
 |none=>exact h
 |some d=>exact h.put hd
theorem am0(hd:bI P E o w R)(hp:jH o=true)(d:o.guard=none)(hn:K0 n o.dst=true)
  (h:∀v w',R v w'->WL P σ ops Q n D rest (sF o.dst true v E) w'):WL P σ ops Q n D (o::rest) E w:=λa b f=>
 wpListIn_plain d λK e=>ni hp (hd.upon b λv w' c=>e _ _ (h v w' c _ (b.sF hn) (by rw [kh];exact f)))
theorem aiG{j:Nat}{b:Bool}{rj:Tmp}{m p:Bool}{g:Bool}(hd:g=true->bI P E o w R)(s:g=false->∃v,R v w)(hp:jH o=true)(i:o.guard=some (j,b))(q:(ops[j]?).bind (·.dst)=some rj)
  (hl:look E rj=some (m,.bool p)) (f:Nat.blt rj n=true) (r:(m&&(p==b))=g) (hn:K0 n o.dst=true)
  (h:∀v w',R v w'->WL P σ ops Q n D rest (sF o.dst g v E) w'):WL P σ ops Q n D (o::rest) E w:=λa c l=>
 wpListIn_step λK k=>by
  rw [E5 i q hl c f,r];cases g
  .simp only [e9,qw];obtain ⟨v,e⟩:=s rfl;have:=c.sF (d:=o.dst) (g:=false) (v:=v) hn;exact ⟨λ_ _=>trivial,k _ _ (h _ _ e _ this (by rw [kh];exact l))⟩
  .simp only [q9];exact ni hp ((hd rfl).upon c λv w' e=>k _ _ (h v w' e _ (c.sF hn) (by rw [kh];exact l)))
end
abbrev cF(R:Type):=aB->Option R
def cJ(dst:zh)(g:GK)(v:AV)(E:aF):aF:=match dst with
 |some d=>(d,g,v)::E
 |none=>E
def aU{R:Type}(r:R)(K:cF R)(T:aA)(fr:Fr)(st:aB)(g:GK)(dst:zh)(ρ:aw)(Φ:Ctx)(v:Value)(w':World):Prop:=
 ∃(ρ':aw) (st':aB) (av:AV),K st'=some r/\aQ st.c ρ ρ'/\st.c<=st'.c/\st'.E=cJ dst g av st.E/\av.val ρ'=v/\ay ρ' T st.E fr.F=ay ρ T st.E fr.F/\
  ab ρ' T fr.H=ab ρ T fr.H/\Sat (ab ρ' T st'.G++(ab ρ' T fr.H++Φ)) w'
def lW(P:Program)(T:aA)(g:GK)(Ev:Env)(o:Oper)(w:World)(O:Value->World->Prop):Prop:=
 (T.get g=true->bI P Ev o w O)/\(T.get g=false->∃v,O v w)
section
variable {R : Type} {r : R} {K : cF R} {T : aA} {fr : Fr} {st st' : aB} {g : GK} {dst : zh} {ρ ρ' : aw} {Φ : Ctx} {v : Value} {w w' : World}
theorem aB.cE:st.low fr=true↔aF.low st.c st.E=true/\aF.low st.c fr.F=true/\bB st.c st.G=true/\bB st.c fr.H=true:=by simp only [aB.low,an,and_assoc]
theorem pC(hl:st.low fr=true)(ha:aQ st.c ρ ρ'):ay ρ' T st.E fr.F=ay ρ T st.E fr.F:=by obtain ⟨b,a,_,_⟩:=aB.cE.1 hl;rw [ay,sD ha b,sD ha a]
theorem aU.new{av:AV}(hl:st.low fr=true)(f:K st'=some r)(ha:aQ st.c ρ ρ')(d:st.c<=st'.c)(h:st'.E=cJ dst g av st.E)(a:av.val ρ'=v)
  (b:Sat (ab ρ' T st'.G++(ab ρ T fr.H++Φ)) w'):aU r K T fr st g dst ρ Φ v w':=by
 have e:=aZ (T:=T) ha (aB.cE.1 hl).2.2.2;exact ⟨ρ',st',av,f,ha,d,h,a,pC hl ha,e,by rw [e];exact b⟩
theorem aU.kQ{av:AV}(e:K st'=some r)(d:st.c<=st'.c)(f:st'.E=cJ dst g av st.E)(a:av.val ρ=v)
  (b:Sat (ab ρ T st'.G++(ab ρ T fr.H++Φ)) w'):aU r K T fr st g dst ρ Φ v w':=
 ⟨ρ,st',av,e,.refl,d,f,a,rfl,rfl,b⟩
theorem aU.push{av:AV}{x:Nm}{row:Row}(hl:st.low fr=true)(a:K { st with c:=st.c+1,E:=cJ dst g av st.E,G:=row::st.G }=some r)(hv:av.val (ρ.set st.c x)=v)
  (hs:Sat (row.item (ρ.set st.c x) T::(ab ρ T st.G++(ab ρ T fr.H++Φ))) w'):aU r K T fr st g dst ρ Φ v w':=by
 refine aU.new hl a aw.aX (l5 _) rfl hv ?_;have e:=aZ (T:=T) (aw.aX (ρ:=ρ) (j:=st.c) (x:=x)) (aB.cE.1 hl).2.2.1;show Sat (ab (ρ.set st.c x) T (row::st.G)++_) w';rw [ab,eT];rw [ab] at e;rw [e];exact hs
theorem fV{G:List Row}{row:Row}{j:Nat}{Δ:Ctx}(a:j<G.length):ab ρ T (G.set j row)++Δ=(ab ρ T G++Δ).set j (row.item ρ T):=by rw [List.set_append_left _ _ (by simpa [ab] using a)];simp only [ab,List.map_set]
theorem aU.lJ{av:AV}{x:Nm}{row:Row}{j:Nat}(hl:st.low fr=true)(a:j<st.G.length)(b:K { st with c:=st.c+1,E:=cJ dst g av st.E,G:=st.G.set j row }=some r)(hv:av.val (ρ.set st.c x)=v)
  (hs:Sat ((ab ρ T st.G++(ab ρ T fr.H++Φ)).set j (row.item (ρ.set st.c x) T)) w'):aU r K T fr st g dst ρ Φ v w':=by
 refine aU.new hl b aw.aX (l5 _) rfl hv ?_;have e:=aZ (T:=T) (aw.aX (ρ:=ρ) (j:=st.c) (x:=x)) (aB.cE.1 hl).2.2.1;show Sat (ab (ρ.set st.c x) T (st.G.set j row)++_) w';rw [fV a,e];exact hs
end
def NT(P:Program)(T:aA)(g:GK)(Ev:Env)(o:Oper)(w:World)(O:Value->World->Prop):Prop:= ∃v,(∀w',bc P Ev (T.get g) o w' v)/\O v w
theorem NT.Zw{P:Program}{T:aA}{g:GK}{Ev:Env}{o:Oper}{w:World}{O:Value->World->Prop}(h:NT P T g Ev o w O):lW P T g Ev o w O:=by obtain ⟨v,c,a⟩:=h;exact ⟨λb=>bI.run (by have:=c w;rwa [b] at this) a,λ_=>⟨v,a⟩⟩
theorem bI.gd{P:Program}{E:Env}{dst:zh}{op:Op}{ty:TypeId}{pos:String}{af:zj}{gd:Option (Nat×Bool)}{w:World}{R:Value->World->Prop}(h:bI P E ⟨dst,op,ty,pos,af,none⟩ w R):bI P E ⟨dst,op,ty,pos,af,gd⟩ w R:=
 λn a b=>h n a b
def Ty.n':Ty->Nat
 | .i _|.bo|.s|.l _|.n=>1
 | .un|.mp _ _=>0
 | .p x y=>x.n'+y.n'
 | .ex=>4
theorem Ty.CJ:(t:Ty)->t.rep.n=t.n'
 | .i _|.bo|.s|.l _|.un|.n|.mp _ _|.ex=>rfl
 | .p x y=>by show x.rep.n+y.rep.n=_;rw [Ty.CJ x,Ty.CJ y];rfl
def dS:(t:Ty)->t.T->Nat->List AV×List Row×Nat
 | .i k,x,c=>([.int k x],[],c)
 | .bo,x,c=>([.bool x],[],c)
 | .s,x,c=>([.str x],[],c)
 | .un,_,c=>([],[],c)
 | .n,x,c=>([.ifc x (.agg [])],[],c)
 | .mp _ _,_,c=>([],[],c)
 | .p a b,x,c=>match dS a x.1 c with
  |(u,p,c)=>match dS b x.2 c with
   |(v,q,c)=>(u++v,p++q,c)
 | .l t,x,c=>([.sl c],[.sli none c t x false],c+1)
 | .ex,x,c=>([.int .i64 x.op,.int .i64 x.n,.int .i64 x.at_,.sl c],[.sli none c .ex x.l false],c+1)
structure apU(T:aA)(M:Nat->Prop)(w:World)(vs:ze)(c:Nat)(ρ ρ':aw)(m:List AV×List Row×Nat):Prop where
 ag:aQ c ρ ρ'
 le:c<=m.2.2
 lw:AV.cj m.2.2 m.1=true
 eq:AV.aj ρ' m.1=vs
 rl:∀r∈m.2.1,r.low m.2.2=true
 rs:∀r∈m.2.1,∃j t l,r= .sli none j t l false
 rp:∀r∈m.2.1,(r.item ρ' T).P M w
theorem Row.gC{c d:Nat}(a:c<=d){r:Row}(h:r.low c=true):r.low d=true:=by
 cases r <;> simp only [Row.low,an,j6] at h ⊢
 .exact ⟨by omega,AV.lI a _ h.2⟩
 .omega
 .omega
 .omega
 .exact ⟨by omega,AV.lI a _ h.2⟩
 .omega
 .omega
 .exact ⟨by omega,AV.gC a _ h.2⟩
theorem Gn{T:aA}{M:Nat->Prop}{w:World}:(t:Ty)->(x:t.T)->(c:Nat)->(vs:ze)->t.rep.rd M w vs x->(ρ:aw)->∃ρ',apU T M w vs c ρ ρ' (dS t x c)
 | .i k,x,c,vs,h,ρ=>⟨ρ,.refl,c8 _,rfl,by cases h;simp [dS,AV.aj,AV.val],(λ_ h=>by cases h),(λ_ h=>by cases h),(λ_ h=>by cases h)⟩
 | .bo,x,c,vs,h,ρ=>⟨ρ,.refl,c8 _,rfl,by cases h;simp [dS,AV.aj,AV.val],(λ_ h=>by cases h),(λ_ h=>by cases h),(λ_ h=>by cases h)⟩
 | .s,x,c,vs,h,ρ=>⟨ρ,.refl,c8 _,rfl,by cases h;simp [dS,AV.aj,AV.val],(λ_ h=>by cases h),(λ_ h=>by cases h),(λ_ h=>by cases h)⟩
 | .un,x,c,vs,h,ρ=>⟨ρ,.refl,c8 _,rfl,by cases h;simp [dS,AV.aj],(λ_ h=>by cases h),(λ_ h=>by cases h),(λ_ h=>by cases h)⟩
 | .n,x,c,vs,h,ρ=>⟨ρ,.refl,c8 _,rfl,by cases h;simp [dS,AV.aj,AV.val],(λ_ h=>by cases h),(λ_ h=>by cases h),(λ_ h=>by cases h)⟩
 | .mp _ _,x,c,vs,h,ρ=>h.elim
 | .p a b,x,c,vs,h,ρ=>by
  obtain ⟨us,j,rfl,q,o⟩:=h;obtain ⟨g,m1⟩:=Gn (T:=T) a x.1 c us q ρ;obtain ⟨f,e⟩:=Gn (T:=T) b x.2 (dS a x.1 c).2.2 j o g;refine ⟨f,m1.ag.trans e.ag m1.le,ec m1.le e.le,Nn (AV.lI e.le _ m1.lw) e.lw,?_,λr d=>?_,λr d=>?_,λr d=>?_⟩
  .simp only [dS,dh];rw [AV.bZ e.ag _ m1.lw,m1.eq,e.eq]
  .rcases List.mem_append.1 d with d|d
   .exact Row.gC e.le (m1.rl r d)
   .exact e.rl r d
  .rcases List.mem_append.1 d with d|d
   .exact m1.rs r d
   .exact e.rs r d
  .rcases List.mem_append.1 d with d|d
   .rw [Row.Bq e.ag (m1.rl r d)];exact m1.rp r d
   .exact e.rp r d
 | .l t,x,c,vs,h,ρ=>by
  obtain ⟨v,rfl,h⟩:=h;refine ⟨ρ.set c { dm with v:=v },aw.aX,l5 _,by simp [dS,AV.cj,AV.low],by simp [dS,AV.aj,AV.val,aw.bG],λr d=>?_,λr d=>?_,λr d=>?_⟩
  .simp only [dS,mj] at d;subst d;simp [Row.low,dS]
  .simp only [dS,mj] at d;subst d;exact ⟨_,_,_,rfl⟩
  .simp only [dS,mj] at d;subst d;simp only [Row.item,aw.bG];exact λ_=>⟨h,λhb=>by cases hb⟩
 | .ex,x,c,vs,h,ρ=>by
  obtain ⟨v,rfl,m⟩:=Je h;refine ⟨ρ.set c { dm with v:=v },aw.aX,l5 _,by simp [dS,AV.cj,AV.low],by simp [dS,AV.aj,AV.val,aw.bG],λr d=>?_,λr d=>?_,λr d=>?_⟩
  .simp only [dS,mj] at d;subst d;simp [Row.low,dS]
  .simp only [dS,mj] at d;subst d;exact ⟨_,_,_,rfl⟩
  .simp only [dS,mj] at d;subst d;simp only [Row.item,aw.bG];exact λ_=>⟨m,λhb=>by cases hb⟩
theorem JT:(t:Ty)->(x:t.T)->(c:Nat)->c<=(dS t x c).2.2
 | .i _,_,_|.bo,_,_|.s,_,_|.un,_,_|.n,_,_|.mp _ _,_,_=>c8 _
 | .p a b,x,c=>ec (JT a x.1 c) (JT b x.2 _)
 | .l _,_,_|.ex,_,_=>l5 _
theorem KJ:(t:Ty)->(x:t.T)->(c:Nat)->∀r∈(dS t x c).2.1,∃j t l,r= .sli none j t l false
 | .i _,_,_,_,h|.bo,_,_,_,h|.s,_,_,_,h|.un,_,_,_,h|.n,_,_,_,h|.mp _ _,_,_,_,h=>by cases h
 | .p a b,x,c,r,h=>by
  rcases List.mem_append.1 h with h|h
  .exact KJ a x.1 c r h
  .exact KJ b x.2 _ r h
 | .l _,_,_,r,h=>by
  simp only [dS,mj] at h;subst h;exact ⟨_,_,_,rfl⟩
 | .ex,_,_,r,h=>by simp only [dS,mj] at h;subst h;exact ⟨_,_,_,rfl⟩
def xT(g:GK)(r:Row):Row:=match g,r with
 |none,r=>r
 |some g,.sli _ id t l b=> .sli (some g) id t l b
 |some _,r=>r
theorem vQ{ρ:aw}{T:aA}{g:GK}{M:Nat->Prop}{w:World}{j:Nat}{t:Ty}{l:List t.T}(h:T.get g=true->((Row.sli none j t l false).item ρ T).P M w):
  ((xT g (.sli none j t l false)).item ρ T).cL=true/\((xT g (.sli none j t l false)).item ρ T).P M w:=by
 cases g with
 |none=>exact ⟨rfl,h (aA.get_none)⟩
 |some k=>
  refine ⟨rfl,λa=>?_⟩;exact h a (aA.get_none)
theorem Ck{Γ:Ctx}{w:World}(h:Sat Γ w):∀(new:List Item),(∀it∈new,it.cL=true/\it.P Γ.M w)->Sat (new++Γ) w:=λnew hn=>by
 have key:∀new:List Item,(∀it∈new,it.cL=true/\it.P Γ.M w)->new.all (·.cL)=true/\ad5 Γ.M w new:=λnew=>by
  induction new with
  |nil=>exact λ_=>⟨rfl,trivial⟩
  |cons it l ih=>
   intro hn;obtain ⟨f,e⟩:=ih (λa b=>hn a (b7 _ b));obtain ⟨d,c⟩:=hn it (cx ..);exact ⟨by simp only [qp,an];exact ⟨d,f⟩,c,e⟩
 exact h.akF new (key new hn).1 (key new hn).2
def ug(G H:List Row)(t:Ty)(v:AV):Option (List t.T):=match v with
 | .sl j=>(match eo G H (oV j) with
  |some (_,.sli none _ t' l _)=>ck.asL t ⟨.l t',l⟩
  |_=>none)
 | .raw (.slice none 0 0)=>some []
 |_=>none where ck.asL (t:Ty) (d:ck):Option (List t.T):=d.as (.l t)
theorem sd{t t':Ty}{l:List t'.T}{l':List t.T}(h:ug.ck.asL t ⟨.l t',l⟩=some l'):∃e:t'=t,e▸l=l':=by have:=ck.MA h;cases this;exact ⟨rfl,rfl⟩
theorem Mg{ρ:aw}{T:aA}{G H:List Row}{Φ:Ctx}{w:World}{t:Ty}{v:AV}{l:List t.T}(c:Sat (ab ρ T G++(ab ρ T H++Φ)) w)(h:ug G H t v=some l):
  bS t.rep (Ctx.M (ab ρ T G++(ab ρ T H++Φ))) w (v.val ρ) l:=by
 unfold ug at h;split at h
 .rename_i j;split at h
  next s a t' l' b d=>obtain ⟨f,e⟩:=bW d;have:a=j:=b0 e;subst this;obtain ⟨rfl,rfl⟩:=sd h;simp only [AV.val];exact ((Src.holds c f) aA.get_none).1
  .cases h
 .cases h;simp only [AV.val];exact bS.nil
 .cases h
def sE(G H:List Row):(t:Ty)->List AV->Option (t.T×List AV)
 | .i k,vs=>(match vs with
  | .int k' x::vs=>aD ( jB k k' ) ( some (x,vs) ) none
  |_=>none)
 | .bo,vs=>(match vs with
  | .bool x::vs=>some (x,vs)
  |_=>none)
 | .s,vs=>(match vs with
  | .str x::vs=>some (x,vs)
  |_=>none)
 | .un,vs=>some ((),vs)
 | .n,vs=>(match vs with
  | .ifc t (.agg [])::vs=>some (t,vs)
  |_=>none)
 | .p a b,vs=>(match sE G H a vs with
  |some x=>(match sE G H b x.2 with
   |some y=>some ((x.1,y.1),y.2)
   |none=>none)
  |none=>none)
 | .l t,vs=>(match vs with
  |v::vs=>(match ug G H t v with
   |some l=>some (l,vs)
   |none=>none)
  |_=>none)
 | .ex,vs=>(match vs with
  | .int .i64 a:: .int .i64 b:: .int .i64 c::v::vs=>(match ug G H .ex v with
   |some l=>some (Ex.mk a b c l,vs)
   |none=>none)
  |_=>none)
 |_,_=>none
theorem QC{ρ:aw}{T:aA}{G H:List Row}{Φ:Ctx}{w:World}(d:Sat (ab ρ T G++(ab ρ T H++Φ)) w):(t:Ty)->(vs:List AV)->(x:t.T×List AV)->sE G H t vs=some x->
  ∃us,vs=us++x.2/\t.rep.rd (Ctx.M (ab ρ T G++(ab ρ T H++Φ))) w (AV.aj ρ us) x.1
 | .i k,vs,x,h=>by
  unfold sE at h;split at h
  next r y us=>obtain ⟨g,f⟩:=aI h;have:=nb g;subst this;cases f;exact ⟨[.int k y],rfl,by simp only [AV.aj,AV.val];rfl⟩
  .cases h
 | .bo,vs,x,h=>by
  unfold sE at h;split at h
  next y us=>cases h;exact ⟨[.bool y],rfl,by simp only [AV.aj,AV.val];rfl⟩
  .cases h
 | .s,vs,x,h=>by
  unfold sE at h;split at h
  next y us=>cases h;exact ⟨[.str y],rfl,by simp only [AV.aj,AV.val];rfl⟩
  .cases h
 | .un,vs,x,h=>by
  unfold sE at h;cases h;exact ⟨[],rfl,by simp only [AV.aj];rfl⟩
 | .n,vs,x,h=>by
  unfold sE at h;split at h
  next t us=>cases h;exact ⟨[.ifc t (.agg [])],rfl,by simp only [AV.aj,AV.val];rfl⟩
  .cases h
 | .mp _ _,vs,x,h=>by unfold sE at h;cases h
 | .p a b,vs,x,h=>by
  unfold sE at h;split at h
  .rename_i y m;split at h
   next z j=>cases h;obtain ⟨us,q,g⟩:=QC d a vs y m;obtain ⟨e,o,f⟩:=QC d b y.2 z j;refine ⟨us++e,by rw [q,o,cb],?_⟩;rw [dh];exact ⟨_,_,rfl,g,f⟩
   .cases h
  .cases h
 | .l t,vs,x,h=>by
  unfold sE at h;split at h
  .rename_i v us;split at h
   next l hl=>cases h;refine ⟨[v],rfl,?_⟩;simp only [AV.aj];exact (Mg d hl).rsl
   .cases h
  .cases h
 | .ex,vs,x,h=>by
  unfold sE at h;split at h
  .rename_i a b c v us;split at h
   next l hl=>cases h;refine ⟨[.int .i64 a,.int .i64 b,.int .i64 c,v],rfl,?_⟩;simp only [AV.aj,AV.val];exact Nz (Mg d hl).rsl
   .cases h
  .cases h
def rd1(G H:List Row)(t:Ty)(vs:List AV):Option t.T:=match sE G H t vs with
 |some (x,[])=>some x
 |_=>none
theorem agr{ρ:aw}{T:aA}{G H:List Row}{Φ:Ctx}{w:World}(c:Sat (ab ρ T G++(ab ρ T H++Φ)) w){t:Ty}{vs:List AV}{x:t.T}(h:rd1 G H t vs=some x):
  t.rep.rd (Ctx.M (ab ρ T G++(ab ρ T H++Φ))) w (AV.aj ρ vs) x:=by
 unfold rd1 at h;split at h
 next y b=>cases h;obtain ⟨us,a,d⟩:=QC c t vs _ b;simp only [ma] at a;rw [a];exact d
 .cases h
def Xn(G H:List Row)(t:Ty):Nat->List AV->Option (List t.T)
 |0,vs=>(match vs with
  |[]=>some []
  |_=>none)
 |k+1,vs=>(match sE G H t vs with
  |some x=>(match Xn G H t k x.2 with
   |some l=>some (x.1::l)
   |none=>none)
  |none=>none)
theorem Rf{ρ:aw}{T:aA}{G H:List Row}{Φ:Ctx}{w:World}(a:Sat (ab ρ T G++(ab ρ T H++Φ)) w){t:Ty}:(k:Nat)->(vs:List AV)->(l:List t.T)->Xn G H t k vs=some l->
  l.length=k/\cS t.rep (Ctx.M (ab ρ T G++(ab ρ T H++Φ))) w (AV.aj ρ vs) l
 |0,vs,l,h=>by
  unfold Xn at h;split at h
  .cases h;exact ⟨rfl,by simp only [AV.aj];exact cS.nil⟩
  .cases h
 |k+1,vs,l,h=>by
  unfold Xn at h;split at h
  .rename_i x hx;split at h
   next l' hl=>cases h;obtain ⟨us,e,d⟩:=QC a t vs x hx;obtain ⟨c,b⟩:=Rf a k x.2 l' hl;refine ⟨by simp [c],?_⟩;rw [e,dh];exact cS.cons d b
   .cases h
  .cases h
def cu(ids:zo):List Row->List Row
 |[]=>[]
 |r::G=>(match r with
  | .own id t e l ver=>aD ( vn id ids ) ( .sli none id t l false )<| .own id t e l ver
  |r=>r)::cu ids G
theorem abY{ρ:aw}{T:aA}{ids:zo}{w:World}:{G:List Row}->{A B:Ctx}->Sat (A++(ab ρ T G++B)) w->Sat (A++(ab ρ T (cu ids G)++B)) w
 |[],_,_,h=>h
 |r::G,A,B,h=>by
  have step:∀c:Row,Sat (A++(ab ρ T (c::G)++B)) w->Sat (A++(ab ρ T (c::cu ids G)++B)) w:=λc h=>by
   have f:Sat ((A++[c.item ρ T])++(ab ρ T G++B)) w:=by simpa [ab] using h
   have:=abY (ids:=ids) f;simpa [ab] using this
  unfold cu;split
  .rename_i id t e l a;cases hm:vn id ids
   .exact step _ h
   .refine step _ ?_;have hi:(A++(ab ρ T (Row.own id t e l a::G)++B))[A.length]? =some (te t.rep e (ρ id).v l ((ρ a).y=⟨.l t,l⟩)):=by rw [de (c8 _)];simp [ab,Row.item]
    have d:=h.lJ hi (new:=(Row.sli none id t l false).item ρ T) ((Ext.refl w).vV _) (λb hb=>by cases hb) (λM' m hn=>λ_=>⟨(h.at_ hi).1.freeze (λb hb=>hn b hb (λhb=>by cases hb)) m,λhb=>by cases hb⟩);rw [s5 _ _ (c8 _)] at d;simpa [ab] using d
  .exact step _ h
theorem tP{c:Nat}{ids:zo}:{G:List Row}->bB c G=true->bB c (cu ids G)=true
 |[],_=>rfl
 |r::G,h=>by
  simp only [bB,an] at h;unfold cu;simp only [bB,an];refine ⟨?_,tP h.2⟩;split
  .rename_i id t e l b;have a:=h.1;simp only [Row.low,an] at a;cases vn id ids
   .simp only [Row.low,an];exact a
   .simp only [Row.low];exact a.1
  .exact h.1
theorem kY{ρ:aw}{T:aA}{ids:zo}{w:World}{G:List Row}{B:Ctx}(h:Sat (ab ρ T G++B) w):Sat (ab ρ T (cu ids G)++B) w:=abY (A:=[]) h
def AV.fg:AV->zo
 | .sl id=>[id]
 | .agg l=>sls0 l
 |_=>[] where sls0:List AV->zo
 |[]=>[]
 | .sl id::l=>id::sls0 l
 |_::l=>sls0 l
section
variable {X : Cx} {R : Type} {r : R} {K : cF R} {T : aA} {fr : Fr} {st : aB} {g : GK} {d : Tmp} {ρ : aw} {Φ : Ctx} {w : World} {ty : TypeId} {pos : String} {af : zj} {gd : xb}
theorem lW.none_{P:Program}{Ev:Env}{o:Oper}{O:Value->World->Prop}(h:bI P Ev o w O):lW P T none Ev o w O:=⟨λ_=>h,λa=>by simp_all⟩
def Wk(P:Program)(t:TypeId):Option (List AV):=match oz P t with
 |some z=>some (z.2.2.cells.toList.map mQ)
 |none=>none
def afo(st:aB)(d:Tmp)(t:TypeId)(cs:List AV)(K:cF R):Option R:=K { st with c:=st.c+1,E:=cJ (some d) none (.ptr st.c 0) st.E,G:= .box st.c t cs::st.G }
theorem WV{t:TypeId}{cs:List AV}(hl:st.low fr=true)(e:Sat (ab ρ T st.G++(ab ρ T fr.H++Φ)) w)(a:AV.cj st.c cs=true)(h:afo st d t cs K=some r):
  aU r K T fr st none (some d) ρ Φ (.pointer (some ⟨w.heap.size,0,none⟩)) (w.alloc (.cells (AV.aj ρ cs).toArray t)):=by
 refine aU.push (x:={ dm with b:=w.heap.size }) hl h (by simp [AV.val,aw.bG]) ?_;simp [Row.item,aw.bG];rw [AV.bZ aw.aX _ a];exact e.push (fO _ _) (λb hb=>by simp_all [box]) (λ_ _=>heap_alloc_new w _)
def Xz(X:Cx)(st:aB)(d:Tmp)(t:TypeId)(K:cF R):Option R:=match Wk X.P t with
 |some cs=>afo st d t cs K
 |none=>none
theorem af1{t:TypeId}(hl:st.low fr=true)(e:Sat (ab ρ T st.G++(ab ρ T fr.H++Φ)) w)(h:Xz X st d t K=some r):
  lW X.P T none (ay ρ T st.E fr.F) ⟨some d,.alloc t,ty,pos,af,gd⟩ w (aU r K T fr st none (some d) ρ Φ):=by
 unfold Xz at h;split at h
 .rename_i cs a;unfold Wk at a;split at a
  next z c=>cases a;obtain ⟨n,b,z⟩:=z;refine .none_ (bI.gd (bI.ru (H5 (zs:=z.cells.toList) (cP c) (by simp)) ?_));have:=WV hl e Y2 h;rwa [pD] at this
  .cases a
 .cases h
def ajv(T:aA)(fr:Fr)(st:aB)(d:Tmp)(t:TypeId)(x:Operand)(K:cF R):Option R:=match bu T st.E fr.F none x with
 |some v=>aD ( Ku v&&AV.cj st.c (dJ v) ) ( afo st d t (dJ v) K ) none
 |none=>none
theorem anw{t:TypeId}(hl:st.low fr=true)(c:Sat (ab ρ T st.G++(ab ρ T fr.H++Φ)) w)(h:ajv T fr st d t x K=some r):
  lW X.P T none (ay ρ T st.E fr.F) ⟨some d,.box t x,ty,pos,af,gd⟩ w (aU r K T fr st none (some d) ρ Φ):=by
 unfold ajv at h;split at h
 next v b=>obtain ⟨a,e⟩:=aI h;simp at a;exact .none_ (bI.gd (bI.ru (aij (bK b) (As a.1)) (WV hl c a.2 e)))
 .cases h
def ur:AV->Bool
 | .agg _|.tuple _|.nv _=>false
 | .raw v=>v.oneCell'
 |_=>true
theorem akP{v:AV}(h:ur v=true):(v.val ρ).oneCell'=true:=by
 cases v with
 |agg l=>cases h
 |tuple l=>cases h
 |nv l=>cases h
 |raw v=>exact h
 |_=>rfl
theorem Mc:{l:List AV}->l.all ur=true->(AV.aj ρ l).all Value.oneCell'=true
 |[],_=>by simp [AV.aj]
 |v::l,h=>by simp only [qp,an] at h;simp only [AV.aj,qp,an];exact ⟨akP h.1,Mc h.2⟩
def ZH(P:Program)(st:aB)(t:TypeId)(id off:Nat)(v:AV)(K:cF R):Option R:=match rS (yW id) st.G with
 |some (j,.box _ e vs)=>(match oz P t with
  |some z=>aD ( Ku v&&(dJ v).all ur&&Nat.beq (dJ v).length z.1&&Nat.ble (off+(dJ v).length) vs.length ) (
    K { st with G:=st.G.set j (.box id e (vH vs off (dJ v))) } ) none
  |none=>none)
 |_=>none
theorem aga{t:TypeId}{id a:Nat}{v:AV}(i:Sat (ab ρ T st.G++(ab ρ T fr.H++Φ)) w)(hx:bu T st.E fr.F none x=some (.ptr id a))(o:bu T st.E fr.F none y=some v)(h:ZH X.P st t id a v K=some r):
  bI X.P (ay ρ T st.E fr.F) ⟨none,.store t x y,ty,pos,af,gd⟩ w (aU r K T fr st none none ρ Φ):=by
 unfold ZH at h;split at h
 .rename_i j d e vs s;split at h
  .rename_i z n;obtain ⟨l,u⟩:=aI h;simp only [an] at l;obtain ⟨⟨⟨C,B⟩,J⟩,I⟩:=l;obtain ⟨m,A⟩:=n7 s;have  :=b0 A;subst this;have g:=bK (ρ:=ρ) hx;have f:=bK (ρ:=ρ) o;have hi:=ik (ρ:=ρ) (T:=T) (Φ:=ab ρ T fr.H++Φ) m;have hb  :=i.at_ hi;obtain ⟨p,hC,k⟩:=adU (cP n) g f (As C) (by grind [AV.bD,Nat.eq_of_beq_eq_true]) (Mc B) hb (by grind [AV.bD]) Ae;refine bI.gd (bI.ac1 p (aU.kQ (av:= .raw undef) u (c8 _) rfl (by simp [AV.val]) ?_));have q  :=(List.getElem?_eq_some_iff.1 m).1;rw [fV q];refine i.lJ hi hC (λc D=>?_) (λ_ _ _=>k);have:c=(ρ d).b:=by grind [Row.item,box]
   subst this;exact ⟨k.lt,.inl (by simp [Row.item,box])⟩
  .cases h
 .cases h
theorem acp{t:Ty}{p:ju}{l l':List t.T}{q q':Prop}{i:Nat}{Γ:Ctx}{w':World}(b:Sat Γ w)(hi:Γ[i]? =some (te t.rep e p l q))(f:q')(hC:lE (dL (sl p)) w w')(a:w'.heap.size=w.heap.size)(g:Aw p=dL (sl p))
  (h:∀M',Mv Γ.M w M' w'->jX t.rep e M' w' (sl p) l'):Sat (Γ.set i (te t.rep e p l' q')) w':=by
 refine b.lJ hi (by rw [<-g] at hC;exact hC) (λc d=>⟨by rw [a];exact (b.at_ hi).1.lt c d,.inl d⟩) (λM' m _=>⟨?_,f⟩);grind [cf,Aw,cf.of]
theorem tN{c:Nat}:∀{G:List Row} {j:Nat} {r:Row},bB c G=true->G[j]? =some r->r.low c=true:=λ{G}=>by
 induction G with
 |nil=>grind
 |cons r0 G ih=>
  intro j r h a;simp [bB] at h;grind
def Yv(P:Program)(fr:Fr)(st:aB)(t:TypeId)(q off:Nat)(v:AV)(K:cF R):Option R:=
 match eo (cu (AV.fg.sls0 (dJ v)) st.G) fr.H (Pm q) with
 |some (_,.kn none _ id ver u i x)=>(match rS (oV id) (cu (AV.fg.sls0 (dJ v)) st.G) with
  |some (j,.own _ u' e l ver')=>(match oz P t with
   |some z=>aD ( Nat.beq ver ver'&&Ku v&&(dJ v).all ur&&Nat.beq (dJ v).length z.1&&AV.cj st.c (dJ v) ) (
     aD ( Nat.beq off 0&&Nat.beq (dJ v).length u'.n' ) ( match rd1 (cu (AV.fg.sls0 (dJ v)) st.G) fr.H u' (dJ v) with
      |some y=>K { st with c:=st.c+1,G:=(cu (AV.fg.sls0 (dJ v)) st.G).set j (.own id u' e (List.set l i.toNat y) st.c) }
      |none=>none )<|
      aD ( Nat.ble (off+(dJ v).length) (dS u x (st.c+1)).1.length ) ( match rd1 ((dS u x (st.c+1)).2.1++cu (AV.fg.sls0 (dJ v)) st.G) fr.H u' (vH (dS u x (st.c+1)).1 off (dJ v)) with
       |some y=>K { st with c:=(dS u x (st.c+1)).2.2,G:=(dS u x (st.c+1)).2.1++(cu (AV.fg.sls0 (dJ v)) st.G).set j (.own id u' e (List.set l i.toNat y) st.c) }
       |none=>none ) none ) none
   |none=>none)
  |_=>none)
 |_=>none
theorem ag9{t:TypeId}{q O:Nat}{v:AV}(hl:st.low fr=true)(p:Sat (ab ρ T st.G++(ab ρ T fr.H++Φ)) w)(hx:bu T st.E fr.F none x=some (.adr q O))(hy:bu T st.E fr.F none y=some v)(h:Yv X.P fr st t q O v K=some r):
  bI X.P (ay ρ T st.E fr.F) ⟨none,.store t x y,ty,pos,af,gd⟩ w (aU r K T fr st none none ρ Φ):=by
 unfold Yv at h;have g:=tP (ids:=AV.fg.sls0 (dJ v)) (aB.cE.1 hl).2.2.1;replace p:=kY (ids:=AV.fg.sls0 (dJ v)) p;generalize cu (AV.fg.sls0 (dJ v)) st.G=G at h g p;split at h
 .rename_i s q' id Z u i xe hf;split at h
  .rename_i j C u' e l ver' U;split at h
   .rename_i z hz;obtain ⟨n,bytes,z⟩:=z;obtain ⟨h1,h2⟩:=aI h;simp only [an] at h1;obtain ⟨⟨⟨⟨a1,a2⟩,a3⟩,a4⟩,a5⟩:=h1;obtain ⟨f1,f2⟩:=bW hf;obtain ⟨k1,k2⟩:=n7 U;have e1  :=b0 f2;have e2  :=b0 k2;have e3  :=b0 a1;subst e1;subst e2;subst e3;have o:=bK (ρ:=ρ) hx;have Q:=bK (ρ:=ρ) hy;simp [AV.val] at o;obtain ⟨B,b1,b2,b3⟩:=(Src.holds p f1) aA.get_none;have hi:=ik (ρ:=ρ) (T:=T) (Φ:=ab ρ T fr.H++Φ) k1;obtain ⟨c1,c2⟩:=p.at_ hi;obtain ⟨e4,e5⟩:=Mj b1 c2;subst e4;subst e5;obtain ⟨o1,o2⟩:=c1.jq b2;obtain ⟨o3,N,o4,o5⟩:=c1.Xo b2;have hj  :=(List.getElem?_eq_some_iff.1 k1).1;have V:(AV.aj ρ (dJ v)).length=n:=by rw [AV.bD];exact b0 a4
    rw [b3] at o;rcases dR h2 with ⟨h3,W⟩|⟨_,W⟩
    .simp only [an] at h3;have e6  :=b0 h3.1;subst e6;split at W
     .rename_i A k;have f:=agr p k;have J  :=u.rep.len o5;have hlu  :=u.rep.len f;have R:p8 N 0 (AV.aj ρ (dJ v))=AV.aj ρ (dJ v):=by unfold p8;simp only [uc,l9];rw [qi (by omega),ma]
      obtain ⟨w',U,hC,D,hP⟩:=Jn (cP hz) o Q (As a2) V (Mc a3) o3 o1 o4 J (qH (by omega)) R f (λb hb=>Ctx.kG hi (by rw [<-o2] at hb;exact hb));refine bI.gd (bI.ac1 U (aU.new (ρ':=ρ.set st.c { dm with y:=⟨.l u,List.set B i.toNat A⟩ }) (av:= .raw undef) hl W aw.aX (l5 _) rfl (by simp [AV.val]) ?_));rw [fV hj,aZ aw.aX g];have:=acp (q':=((ρ.set st.c { dm with y:=⟨.l u,List.set B i.toNat A⟩ }) st.c).y=⟨.l u,List.set B i.toNat A⟩) p hi (by rw [aw.bG]) hC D o2 hP;have L:(ρ.set st.c { dm with y:=⟨.l u,List.set B i.toNat A⟩ }) C=ρ C:=by have a:=tN g k1;simp [Row.low,an,j6] at a;exact aw.aX _ a.1
      simp [Row.item,L];exact this
     .cases W
    .obtain ⟨h5,Y⟩:=aI W;split at Y
     .rename_i A k;obtain ⟨d,m1⟩:=Gn (T:=T) u xe (st.c+1) N o5 (ρ.set st.c { dm with y:=⟨.l u,List.set B i.toNat A⟩ });have ag  :=aw.aX.trans m1.ag (l5 _);generalize dS u xe (st.c+1)=m at h5 Y k m1;have I  :=Ck p _ (λit bH=>by obtain ⟨r,S,rfl⟩:=List.mem_map.1 bH;obtain ⟨j1,t1,l1,rfl⟩:=m1.rs _ S;exact ⟨rfl,m1.rp _ S⟩)
      have eG:=aZ (T:=T) ag g;have eH:=aZ (T:=T) ag (aB.cE.1 hl).2.2.2;have hs2:Sat (ab d T (m.2.1++G)++(ab d T fr.H++Φ)) w:=by rw [bg,cb,eG,eH];exact I
      have f:=agr hs2 k;rw [bg,cb,eG,eH,<-Ae,m1.eq,AV.bZ ag _ a5] at f;have M:(ab d T m.2.1++(ab ρ T G++(ab ρ T fr.H++Φ)))[m.2.1.length+j]? =some ((Row.own C u e B Z).item ρ T):=by
       rw [de (by simp )];have:m.2.1.length+j-(ab d T m.2.1).length=j:=by simp 
       rw [this];exact hi
      obtain ⟨d1,d2⟩:=I.at_ M;obtain ⟨p1,p2⟩:=d1.jq b2;have J  :=u.rep.len o5;obtain ⟨w',U,hC,D,hP⟩:=Jn (cP hz) o Q (As a2) V (Mc a3) o3 p1 o4 J (by have:=m1.eq;rw [<-this,AV.bD,AV.bD];exact h5) rfl f (λb hb=>Ctx.kG M (by rw [<-p2] at hb;exact hb))
      refine bI.gd (bI.ac1 U (aU.new (av:= .raw undef) hl Y ag (ec (l5 _) m1.le) rfl (by simp [AV.val]) ?_));have hy1:(d st.c).y=⟨.l u,List.set B i.toNat A⟩:=by rw [m1.ag _ (mE _),aw.bG]
      have:=acp I M hy1 hC D p2 hP;have a:=tN g k1;simp [Row.low,an,j6] at a;rw [bg,cb,fV hj,eG];rw [s5 _ _ (by simp )] at this;have e7:m.2.1.length+j-(ab d T m.2.1).length=j:=by simp 
      rw [e7] at this;simp [Row.item,ag _ a.1];exact this
     .cases Y
   .cases h
  .cases h
 .cases h
end
section
variable {X : Cx} {R : Type} {r : R} {K : cF R} {T : aA} {fr : Fr} {st : aB} {g : GK} {d : Tmp} {ρ : aw} {Φ : Ctx} {w : World} {ty : TypeId} {pos : String} {af : zj} {gd : xb}
def Wi{α:Type}(T:aA)(g:GK)(z:α)(m:Option α)(k:α->Option R):Option R:=match g with
 |none=>m.bind k
 |some _=>bF (T.get g) z m k
theorem Bx{α:Type}{z:α}{m:Option α}{k:α->Option R}(h:Wi T g z m k=some r):∃y,(T.get g=true->m=some y)/\k y=some r:=by
 unfold Wi at h;split at h
 .obtain ⟨y,b,a⟩:=ia h;exact ⟨y,λ_=>b,a⟩
 .obtain ⟨y,b,_,a⟩:=Rd h;exact ⟨y,b,a⟩
def apL(T:aA)(g:GK)(st:aB)(d:Tmp)(t:Ty)(l:List t.T)(i:Int)(K:cF R):Option R:=
 Wi T g t.tl (idx l i) λx=>K { st with c:=(dS t x (st.c+1)).2.2,E:=cJ (some d) g (.adr st.c 0) st.E,G:= .elm g st.c (dS t x (st.c+1)).1::((dS t x (st.c+1)).2.1.map (xT g)++st.G) }
def aot(T:aA)(g:GK)(st:aB)(d:Tmp)(id ver:Nat)(t:Ty)(l:List t.T)(i:Int)(K:cF R):Option R:=
 Wi T g t.tl (idx l i) λx=>K { st with c:=st.c+1,E:=cJ (some d) g (.adr st.c 0) st.E,G:= .kn g st.c id ver t i x::st.G }
def aeJ(X:Cx)(T:aA)(fr:Fr)(st:aB)(g:GK)(d:Tmp)(t:TypeId)(x y:Operand)(K:cF R):Option R:=match iR X.P t with
 |some e=>(match oz X.P e with
  |some z=>(match bu T st.E fr.F g x with
   |some (.sl id)=>(match bu T st.E fr.F g y with
    |some (.int _ i)=>(match eo st.G fr.H (oV id) with
     |some (_,.sli g' _ t l _)=>aD ( T.imp g g'&&Nat.beq z.1 t.n' ) ( apL T g st d t l i K ) none
     |some (_,.own _ t _ l ver)=>aD ( Nat.beq z.1 t.n' ) ( aot T g st d id ver t l i K ) none
     |_=>none)
    |_=>none)
   |_=>none)
  |none=>none)
 |none=>none
theorem acr{t:TypeId}(hl:st.low fr=true)(Q:Sat (ab ρ T st.G++(ab ρ T fr.H++Φ)) w)(h:aeJ X T fr st g d t x y K=some r):
  NT X.P T g (ay ρ T st.E fr.F) ⟨some d,.indexAddr t x y,ty,pos,af,gd⟩ w (aU r K T fr st g (some d) ρ Φ):=by
 unfold aeJ at h;split at h
 .rename_i e he;split at h
  .rename_i z hz;obtain ⟨n,bytes,z⟩:=z;split at h
   .rename_i id hx;split at h
    .rename_i k i hy;have D:=aO (ρ:=ρ) hx;have C:=aO (ρ:=ρ) hy;simp only [AV.val] at D C;split at h
     .rename_i s g' m t l b W;obtain ⟨O,Y⟩:=aI h;simp only [an] at O;have hn:n=t.rep.n:=(b0 O.2).trans t.CJ.symm;obtain ⟨J,Z⟩:=bW W;have:m=id:=b0 Z;subst this;obtain ⟨u,R,b2⟩:=Bx Y;have hT:=Src.holds Q J
      -- the element, where g holds
      have key:∃(p:Addr) (f:aw),aQ st.c ρ f/\(f st.c).a=p/\(T.get g=true->AP (sl (ρ m).v) i n p)/\
        ∀it∈ab f T (.elm g st.c (dS t u (st.c+1)).1::((dS t u (st.c+1)).2.1.map (xT g))),it.cL=true/\it.P (Ctx.M (ab ρ T st.G++(ab ρ T fr.H++Φ))) w:=by
       cases B:T.get g
       .refine ⟨⟨0,0,none⟩,ρ.set st.c dm,aw.aX,by rw [aw.bG];rfl,(λh=>by cases h),λit bH=>?_⟩;rw [ab,eT] at bH;rcases List.mem_cons.1 bH with rfl|bH
        .exact ⟨rfl,λh=>by rw [B] at h;cases h⟩
        .obtain ⟨r1,I,rfl⟩:=List.mem_map.1 bH;obtain ⟨r2,q,rfl⟩:=List.mem_map.1 I;obtain ⟨j1,t1,l1,rfl⟩:=KJ _ _ _ _ q;exact vQ (λh=>by rw [B] at h;cases h)
       .have hS:=(hT (aA.my O.1 B)).1;obtain ⟨e1,vs,e2,e3,e4⟩:=hS.Xo (R B);obtain ⟨f,m1⟩:=Gn (T:=T) t u (st.c+1) vs e3 (ρ.set st.c { dm with a:=tW (sl (ρ m).v) i t.rep.n });have N:(f st.c).a=tW (sl (ρ m).v) i t.rep.n:=by rw [m1.ag _ (mE _),aw.bG]
        refine ⟨tW (sl (ρ m).v) i t.rep.n,f,aw.aX.trans m1.ag (l5 _),N,λ_=>by rw [hn];exact e1,λit bH=>?_⟩;rw [ab,eT] at bH;rcases List.mem_cons.1 bH with rfl|bH
        .refine ⟨rfl,λ_=>?_⟩;show ¬Ctx.M _ (f st.c).a.block/\bL w (f st.c).a _;rw [N,m1.eq];exact ⟨e4,e2⟩
        .obtain ⟨r1,I,rfl⟩:=List.mem_map.1 bH;obtain ⟨r2,q,rfl⟩:=List.mem_map.1 I;have V:=m1.rp _ q;obtain ⟨j1,t1,l1,rfl⟩:=m1.rs _ q;exact vQ (λ_=>V)
      obtain ⟨p,f,k1,k2,k3,k4⟩:=key;have U:=Ck Q _ k4;have eG:=aZ (T:=T) k1 (aB.cE.1 hl).2.2.1;have o:aU r K T fr st g (some d) ρ Φ (.pointer (some p)) w:=by
       refine aU.new (ρ':=f) hl b2 k1 (ec (l5 _) (JT _ _ _)) rfl (by simp only [AV.val,k2];simp [Addr.add]) ?_;show Sat (ab f T (Row.elm g st.c _::(_++st.G))++_) w;have e8:ab f T (Row.elm g st.c (dS t u (st.c+1)).1::((dS t u (st.c+1)).2.1.map (xT g)++st.G))=ab f T (.elm g st.c (dS t u (st.c+1)).1::((dS t u (st.c+1)).2.1.map (xT g)))++ab f T st.G:=by simp [ab]
       rw [e8,eG,cb];exact U
      exact ⟨_,λw'=>Nw (cq he) (cP hz) D C k3,o⟩
     .rename_i s m t e' l L W;obtain ⟨O,Y⟩:=aI h;have hn:n=t.rep.n:=(b0 O).trans t.CJ.symm;obtain ⟨J,Z⟩:=bW W;have:m=id:=b0 Z;subst this;obtain ⟨u,R,b2⟩:=Bx Y;obtain ⟨hO,S⟩:=Src.holds Q J;have A:m<st.c/\L<st.c:=by
       have:(Row.own m t e' l L).low st.c=true:=by
        cases s with
        |top j=>exact tN (aB.cE.1 hl).2.2.1 J
        |cu j=>exact tN (aB.cE.1 hl).2.2.2 J
        |_=>exact J.elim
       simpa only [Row.low,an,j6] using this
      have o:aU r K T fr st g (some d) ρ Φ (.pointer (some (tW (sl (ρ m).v) i t.rep.n))) w:=by refine aU.push (x:={ dm with a:=tW (sl (ρ m).v) i t.rep.n }) hl b2 (by simp only [AV.val,aw.bG];simp [Addr.add]) (Q.add rfl ?_);intro B;rw [aw.aX _ A.1,aw.aX _ A.2,aw.bG];exact ⟨l,S,R B,rfl⟩
      exact ⟨_,λw'=>Nw (cq he) (cP hz) D C (λB=>by rw [hn];exact (hO.Xo (R B)).1),o⟩
     .cases h
    .cases h
   .cases h
  .cases h
 .cases h
def PX(X:Cx)(T:aA)(fr:Fr)(st:aB)(g:GK)(d:Tmp)(t:TypeId)(q off:Nat)(K:cF R):Option R:=match eo st.G fr.H (Pm q) with
 |some (_,.kn g' _ id ver u _ x)=>(match eo st.G fr.H (oV id) with
  |some (_,.own _ _ _ _ ver')=>aD ( Nat.beq ver ver'&&T.imp g g' ) ( match mX X.P t ((dS u x st.c).1.drop off) with
   |some v=>K { st with c:=(dS u x st.c).2.2,E:=cJ (some d) g v st.E,G:=(dS u x st.c).2.1.map (xT g)++st.G }
   |none=>none ) none
  |_=>none)
 |_=>none
theorem UB{t:TypeId}{q f:Nat}(hl:st.low fr=true)(V:Sat (ab ρ T st.G++(ab ρ T fr.H++Φ)) w)(hx:bu T st.E fr.F g x=some (.adr q f))(h:PX X T fr st g d t q f K=some r):
  ∃v,(∀w',Ext w w'->bc X.P (ay ρ T st.E fr.F) (T.get g) ⟨some d,.load t x,ty,pos,af,gd⟩ w' v)/\aU r K T fr st g (some d) ρ Φ v w:=by
 unfold PX at h;split at h
 .rename_i s g' q' id N u i m hf;split at h
  .rename_i s2 O u' e l B Y;obtain ⟨h1,Z⟩:=aI h;simp only [an] at h1;split at Z
   .rename_i v J;obtain ⟨f1,f2⟩:=bW hf;obtain ⟨f3,f4⟩:=bW Y;have e1:q'=q:=b0 f2;have e2:O=id:=b0 f4;have e3:N=B:=b0 h1.1;subst e1;subst e2;subst e3;have j:=aO (ρ:=ρ) hx;simp only [AV.val] at j;have hF:=Src.holds V f1;obtain ⟨hO,R⟩:=Src.holds V f3;have key:∃(b:aw) (vs:ze),aQ st.c ρ b/\AV.aj b (dS u m st.c).1=vs/\(T.get g=true->bL w (ρ q').a vs)/\
      ∀it∈ab b T ((dS u m st.c).2.1.map (xT g)),it.cL=true/\it.P (Ctx.M (ab ρ T st.G++(ab ρ T fr.H++Φ))) w:=by
     cases I:T.get g
     .refine ⟨ρ,_,.refl,rfl,(λh=>by cases h),λit bH=>?_⟩;obtain ⟨r1,p,rfl⟩:=List.mem_map.1 bH;obtain ⟨r2,k,rfl⟩:=List.mem_map.1 p;obtain ⟨j1,t1,l1,rfl⟩:=KJ _ _ _ _ k;exact vQ (λh=>by rw [I] at h;cases h)
     .obtain ⟨l0,b1,b2,b3⟩:=hF (aA.my h1.2 I);obtain ⟨e4,e5⟩:=Mj b1 R;subst e4;simp only at e5;subst e5;obtain ⟨_,vs,e6,e7⟩:=hO.Xo b2;obtain ⟨b,m1⟩:=Gn (T:=T) u m st.c vs e7 ρ;refine ⟨b,vs,m1.ag,m1.eq,λ_=>by rw [b3];exact e6,λit bH=>?_⟩;obtain ⟨r1,p,rfl⟩:=List.mem_map.1 bH;obtain ⟨r2,k,rfl⟩:=List.mem_map.1 p;have W:=m1.rp _ k;obtain ⟨j1,t1,l1,rfl⟩:=m1.rs _ k;exact vQ (λ_=>W)
    obtain ⟨b,vs,k1,k2,k3,k4⟩:=key;have U:=Ck V _ k4;have eG:=aZ (T:=T) k1 (aB.cE.1 hl).2.2.1;have C:aU r K T fr st g (some d) ρ Φ (v.val b) w:=by refine aU.new (ρ':=b) hl Z k1 (JT _ _ _) rfl rfl ?_;show Sat (ab b T (_++st.G)++_) w;rw [bg,eG,cb];exact U
    refine ⟨_,λw' S=>ae5 λI=>?_,C⟩;rw [I] at j ⊢;have hc:=(k3 I).ext S;have o:bL w' ((ρ q').a.add f) (AV.aj b ((dS u m st.c).1.drop f)):=by refine hc.sub _ ?_;rw [AV.js,k2,gx (c8 _)]
    have h':mX X.P t (((dS u m st.c).1.drop f).drop 0)=some v:=by simpa using J
    obtain ⟨dd,n,bytes,z,c1,c2,A⟩:=pI (ρ:=b) h';cases hd:mB dd
    .rw [hd] at A;simp only [e9,qw] at A;refine Kp c1 hd j (λ_=>?_);have:=o.sub (us:=[v.val b]) 0 (by
      cases hq:AV.aj b ((dS u m st.c).1.drop f) with
      |nil=>rw [hq] at A;cases A
      |cons a l=>rw [hq] at A;cases A;simp)
     simpa [Addr.add] using this
    .unfold mX at J;rw [c1] at J;rcases dR J with ⟨_,y⟩|⟨y,_⟩
     .split at y
      .rename_i z2 Q;obtain ⟨n2,L,z2⟩:=z2;obtain ⟨h4,h5⟩:=aI y;cases h5;have D:n2<=((dS u m st.c).1.drop f).length:=er h4;simp only [AV.val];refine KV c1 hd (cP Q) j (λ_=>?_) ?_
       .have:=o.sub (us:=AV.aj b (((dS u m st.c).1.drop f).take n2)) 0 (by rw [AV.lG,p5,dk,AV.bD,j0 D])
        simpa [Addr.add] using this
       .rw [AV.bD,dk,j0 D]
      .cases y
     .rw [hd] at y;cases y
   .cases Z
  .cases h
 .cases h
theorem akW{t:TypeId}{q a:Nat}(hl:st.low fr=true)(e:Sat (ab ρ T st.G++(ab ρ T fr.H++Φ)) w)(hx:bu T st.E fr.F g x=some (.adr q a))(h:PX X T fr st g d t q a K=some r):
  lW X.P T g (ay ρ T st.E fr.F) ⟨some d,.load t x,ty,pos,af,gd⟩ w (aU r K T fr st g (some d) ρ Φ):=by
 obtain ⟨v,c,b⟩:=UB (ty:=ty) (pos:=pos) (af:=af) (gd:=gd) hl e hx h;refine ⟨λf=>bI.gd (bI.run ?_ b),λ_=>⟨_,b⟩⟩;rw [f] at c;exact c w (Ext.refl w)
end
section
variable {X : Cx} {R : Type} {r : R} {K : cF R} {T : aA} {fr : Fr} {st : aB} {g : GK} {d : Tmp} {ρ : aw} {Φ : Ctx} {w : World} {ty : TypeId} {pos : String} {af : zj} {gd : xb}
def Wl:Operand->Operand->Bool
 | .tmp a,.tmp b=>Nat.beq a b
 | .const (.int .i64 a),.const (.int .i64 b)=>decide (a=b)
 |_,_=>false
theorem Z4(h:Wl x y=true):x=y:=by
 unfold Wl at h;split at h
 .rw [b0 h]
 .rw [qM h]
 .cases h
def aeG(_T:aA)(g:GK)(st:aB)(d:Tmp)(G:List Row)(t:Ty)(l:List t.T)(i j:Int)(clip:Bool)(K:cF R):Option R:=
 K { st with c:=st.c+1,E:=cJ (some d) g (.sl st.c) st.E,G:= .sli g st.c t (aT l i j) clip::G }
def Zi(X:Cx)(T:aA)(fr:Fr)(st:aB)(g:GK)(d:Tmp)(t:TypeId)(x:Operand)(lo hi mx:Option Operand)(K:cF R):Option R:=match iR X.P t with
 |some e=>(match oz X.P e with
  |some z=>(match bu T st.E fr.F g x with
   |some (.sl id)=>(match loA T st.E fr.F g lo with
    |some i=>(match NC T st.E fr.F g hi with
     |some j=>(match eo (cu [id] st.G) fr.H (oV id) with
      |some (_,.sli g' _ u l _)=>aD ( T.imp g g'&&Nat.beq z.1 u.n' ) ( match mx with
       |none=>HA (some (cR i (j.getD (l.length:Int)) l.length)) (g.map λ_=>T.get g) (aeG T g st d (cu [id] st.G) u l i (j.getD (l.length:Int)) false K)
       |some y=>(match hi with
        |some h=>(match bu T st.E fr.F g y with
         |some (.int _ m)=>aD (Wl h y) ( HA (some (kg i m m l.length)) (g.map λ_=>T.get g) (aeG T g st d (cu [id] st.G) u l i m true K) )
          ( HA (some (kg i m m l.length&&(j.getD (l.length:Int)==m))) (g.map λ_=>T.get g) (aeG T g st d (cu [id] st.G) u l i m true K) )
         |_=>none)
        |none=>none) ) none
      |_=>none)
     |none=>none)
    |none=>none)
   |_=>none)
  |none=>none)
 |none=>none
theorem Pc{G:List Row}{t:Ty}{l:List t.T}{i j:Int}{a:Bool}{p:ju}(hl:st.low fr=true)(b:bB st.c G=true)(f:Sat (ab ρ T G++(ab ρ T fr.H++Φ)) w)
  (hp:T.get g=true->bS t.rep (Ctx.M (ab ρ T G++(ab ρ T fr.H++Φ))) w (sl p) (aT l i j)/\(a=true->p.2.2=(aT l i j).length)) (h:aeG T g st d G t l i j a K=some r):
  aU r K T fr st g (some d) ρ Φ (sl p) w:=by
 refine aU.new (ρ':=ρ.set st.c { dm with v:=p }) hl h aw.aX (l5 _) rfl (by simp only [AV.val,aw.bG]) ?_;show Sat (ab _ T (_::G)++_) w;have e:=aZ (T:=T) (aw.aX (ρ:=ρ) (j:=st.c) (x:={ dm with v:=p })) b;rw [ab,eT];rw [ab] at e;rw [e];refine f.add rfl ?_;simp only [Row.item,aw.bG];exact hp
theorem RH{t:TypeId}{lo hi mx:Option Operand}(hl:st.low fr=true)(I:Sat (ab ρ T st.G++(ab ρ T fr.H++Φ)) w)(h:Zi X T fr st g d t x lo hi mx K=some r):
  NT X.P T g (ay ρ T st.E fr.F) ⟨some d,.slice t x lo hi mx,ty,pos,af,gd⟩ w (aU r K T fr st g (some d) ρ Φ):=by
 unfold Zi at h;split at h
 .rename_i e W;split at h
  .rename_i z hz;obtain ⟨n,bytes,z⟩:=z;split at h
   .rename_i id hx;split at h
    .rename_i i hi;split at h
     .rename_i j hj;replace I:=kY (ids:=[id]) I;have C:=tP (ids:=[id]) (aB.cE.1 hl).2.2.1;have A:=aO (ρ:=ρ) hx;simp only [AV.val] at A;split at h
      .rename_i s g' o u l b V;obtain ⟨Z,D⟩:=aI h;simp only [an] at Z;have hn:n=u.rep.n:=(b0 Z.2).trans u.CJ.symm;obtain ⟨f1,f2⟩:=bW V;have:o=id:=b0 f2;subst this;have hT:=Src.holds I f1;have hS:T.get g=true->bS u.rep _ w (sl (ρ o).v) l:=λc=>(hT (aA.my Z.1 c)).1;have B:=cP hz;rw [hn] at B;split at D
       .obtain ⟨O,L⟩:=sX D;obtain ⟨p,k1,J⟩:=bS.aqF hS (λc=>O _ rfl c);have f:=Pc (p:=p) hl C I (λc=>⟨J c,λhb=>by cases hb⟩) L;exact ⟨_,λw'=>EX (cq W) B A (λc=>(hS c).len) (Qw hi) (PM hj) k1,f⟩
       .rename_i y;split at D
        .rename_i Q;split at D
         .rename_i k m hy;have q:=aO (ρ:=ρ) hy;simp only [AV.val] at q;rcases dR D with ⟨h5,Y⟩|⟨_,Y⟩
          .have:=Z4 h5;subst this;obtain ⟨O,L⟩:=sX Y;have key:∃p:ju,(T.get g=true->L6 (sl (ρ o).v) i m m u.rep.n (sl p))/\(T.get g=true->bS u.rep (Ctx.M (ab ρ T (cu [o] st.G)++(ab ρ T fr.H++Φ))) w (sl p) (aT l i m)/\(true=true->p.2.2=(aT l i m).length)):=by
            cases c:T.get g
            .exact ⟨(none,0,0),(λh=>by cases h),(λh=>by cases h)⟩
            .obtain ⟨p,S,R⟩:=bS.alw (hS c) (O _ rfl c);exact ⟨_,λ_=>S,λ_=>⟨R,λ_=>rfl⟩⟩
           obtain ⟨p,k1,J⟩:=key;have f:=Pc (p:=p) hl C I J L;exact ⟨_,λw'=>Rb (lo:=lo) (hi:=some Q) (cq W) B A (λc=>(hS c).len) (Qw hi) ⟨k,q⟩ q k1,f⟩
          .obtain ⟨O,L⟩:=sX Y;have N:T.get g=true->kg i m m l.length=true/\j.getD (l.length:Int)=m:=λc=>by have:=O _ rfl c;simp only [an,n4] at this;exact this
           have key:∃p:ju,(T.get g=true->L6 (sl (ρ o).v) i m m u.rep.n (sl p))/\(T.get g=true->bS u.rep (Ctx.M (ab ρ T (cu [o] st.G)++(ab ρ T fr.H++Φ))) w (sl p) (aT l i m)/\(true=true->p.2.2=(aT l i m).length)):=by
            cases c:T.get g
            .exact ⟨(none,0,0),(λh=>by cases h),(λh=>by cases h)⟩
            .obtain ⟨p,S,R⟩:=bS.alw (hS c) (N c).1;exact ⟨_,λ_=>S,λ_=>⟨R,λ_=>rfl⟩⟩
           obtain ⟨p,k1,J⟩:=key;have f:=Pc (p:=p) hl C I J L;have U:∃k,al (ay ρ T st.E fr.F) (T.get g) Q (.int k m):=by obtain ⟨k,hk⟩:∃k,al (ay ρ T st.E fr.F) (T.get g) Q (.int k (j.getD (l.length:Int))):=PM (ρ:=ρ) (len:=l.length) hj;exact ⟨k,λn a V c=>by rw [hk n a V c,(N c).2]⟩
           exact ⟨_,λw'=>Rb (lo:=lo) (hi:=some Q) (cq W) B A (λc=>(hS c).len) (Qw hi) U q k1,f⟩
         .cases D
        .cases D
      .cases h
     .cases h
    .cases h
   .cases h
  .cases h
 .cases h
def Zn(len:Nat)(z:List AV):List AV:=(List.replicate len z).flatten
theorem Yx{len:Nat}{z:List AV}:AV.aj ρ (Zn len z)=(List.replicate len (AV.aj ρ z)).flatten:=by
 unfold Zn
 induction len with
 |zero=>simp [AV.aj]
 |succ n ih=>simp only [qN,List.flatten_cons,dh,ih]
def unR(T:aA)(g:GK):List Row->List Row
 |[]=>[]
 |r::G=>(match r with
  | .sli g' id t l c=>aD (T.imp g g') (.sli none id t l c) (.sli g' id t l c)
  |r=>r)::unR T g G
def unG(T:aA)(g:GK)(G:List Row):List Row:=match g with
 |none=>G
 |some _=>unR T g G
theorem UE{ρ:aw}{T:aA}{g:GK}(b:T.get g=true):{G:List Row}->ab ρ T (unR T g G)=ab ρ T G
 |[]=>rfl
 |r::G=>by
  have ih:=UE (ρ:=ρ) b (G:=G);unfold unR;simp only [ab,eT] at ih ⊢;rw [ih];congr 1;cases r with
  |sli a id t l c=>
   show Row.item ρ T (aD (T.imp g a) (.sli none id t l c) (.sli a id t l c))=_;cases h:T.imp g a with
   |false=>rfl
   |true=>
    show Row.item ρ T (.sli none id t l c)=_;simp only [Row.item,aA.get_none,aA.my h b]
  |_=>rfl
theorem ER{ρ:aw}{T:aA}{g:GK}(a:T.get g=true){G:List Row}:ab ρ T (unG T g G)=ab ρ T G:=by
 cases g with
 |none=>rfl
 |some k=>exact UE a
def ajn(X:Cx)(T:aA)(fr:Fr)(st:aB)(g:GK)(d:Tmp)(t:TypeId)(len:Nat)(ps:List (Nat×Operand))(K:cF R):Option R:=match iR X.P t with
 |some e=>(match Bs X.tys e with
  |some u=>(match oz X.P e with
   |some z=>(match uk T st.E fr.F g (ps.map (·.2)) with
    |some vs=>(match Ei (λi=>some (i*z.1,z.1)) ((ps.map (·.1)).zip vs) (Zn len (z.2.2.cells.toList.map mQ)) with
     |some cs=>(match Xn (unG T g (cu (AV.fg (.agg vs)++(vs.map AV.fg).flatten) st.G)) (unG T g fr.H) u len cs with
      |some xs=>aD ( Nat.beq z.1 u.n'&&Nat.beq z.2.2.cells.size z.1&&Nat.ble (len*z.1) 16777216 ) ( match g with
       |none=>aD ( Nat.blt 0 (len*z.1)||Nat.beq len 0&&ps.isEmpty ) ( K { st with c:=st.c+1,E:=cJ (some d) none (.sl st.c) st.E,G:= .own st.c u e xs st.c::cu (AV.fg (.agg vs)++(vs.map AV.fg).flatten) st.G } ) none
       |some _=>aD ( Nat.blt 0 (len*z.1)||Nat.beq len 0&&ps.isEmpty ) ( K { st with c:=st.c+1,E:=cJ (some d) g (.sl st.c) st.E,G:= .sli g st.c u xs false::cu (AV.fg (.agg vs)++(vs.map AV.fg).flatten) st.G } ) none ) none
      |none=>none)
     |none=>none)
    |none=>none)
   |none=>none)
  |none=>none)
 |none=>none
theorem yF{t:Ty}{p:ju}{l:List t.T}{G:List Row}{w':World}{st':aB}(hl:st.low fr=true)(a:bB st.c G=true)(f:Sat (ab ρ T G++(ab ρ T fr.H++Φ)) w)(i:Ext w w')
  (g:∀b∈Aw p,b<w'.heap.size/\w.heap.size<=b) (h:∀M',Mv (Ctx.M (ab ρ T G++(ab ρ T fr.H++Φ))) w M' w'->cf t.rep e M' w' (sl p) l (Aw p))
  (kC:st'={ st with c:=st.c+1,E:=cJ (some d) none (.sl st.c) st.E,G:= .own st.c t e l st.c::G }) (hK:K st'=some r):aU r K T fr st none (some d) ρ Φ (sl p) w':=by
 subst kC;refine aU.new (ρ':=ρ.set st.c { dm with v:=p,y:=⟨.l t,l⟩ }) hl hK aw.aX (l5 _) rfl (by simp only [AV.val,aw.bG]) ?_;show Sat (ab _ T (_::G)++_) w';have e:=aZ (T:=T) (aw.aX (ρ:=ρ) (j:=st.c) (x:={ dm with v:=p,y:=⟨.l t,l⟩ })) a;rw [ab,eT];rw [ab] at e;rw [e];refine f.push i (λb hb=>?_) (λM' m=>?_)
 .simp only [Row.item,aw.bG] at hb;exact g b hb
 .simp only [Row.item,aw.bG];exact ⟨h M' m,trivial⟩
theorem Ll{b n c:Nat}:dL (sl (some ⟨b,0,none⟩,n,c))=[b]:=rfl
theorem GN{p:ju}{b:Nat}(h:b∈Aw p):b∈dL (sl p):=by
 unfold Aw at h;split at h
 .cases h
 .exact h
theorem al7{t:TypeId}{len:Nat}{ps:Array (Nat×Operand)}(hl:st.low fr=true)(y:Sat (ab ρ T st.G++(ab ρ T fr.H++Φ)) w)(h:ajn X T fr st g d t len ps.toList K=some r):
  lW X.P T g (ay ρ T st.E fr.F) ⟨some d,.buildSlice t len ps,ty,pos,af,gd⟩ w (aU r K T fr st g (some d) ρ Φ):=by
 obtain ⟨ps⟩:=ps;simp only at h;unfold ajn at h;split at h
 .rename_i e N;split at h
  .rename_i u hu;split at h
   .rename_i z hz;obtain ⟨n,bytes,z⟩:=z;split at h
    .rename_i vs R;split at h
     .rename_i cs S;have q:=tP (ids:=AV.fg (.agg vs)++(vs.map AV.fg).flatten) (aB.cE.1 hl).2.2.1;replace y:=kY (ids:=AV.fg (.agg vs)++(vs.map AV.fg).flatten) y;generalize cu (AV.fg (.agg vs)++(vs.map AV.fg).flatten) st.G=G at h q y;split at h
      .rename_i xs Q;obtain ⟨O,Z⟩:=aI h;simp only [an] at O;obtain ⟨⟨a1,a2⟩,W⟩:=O;have hn:n=u.rep.n:=(b0 a1).trans u.CJ.symm;have C:z.cells.size=n:=b0 a2;have hk:T.get g=true->xs.length=len/\cS u.rep (Ctx.M (ab ρ T G++(ab ρ T fr.H++Φ))) w (AV.aj ρ cs) xs:=λA=>by have:=Rf (ρ:=ρ) (T:=T) (Φ:=Φ) (w:=w) (by rw [ER A,ER A];exact y) _ _ _ Q;rwa [ER A,ER A] at this
       have s:=cP hz;have o:=Cr (ρ:=ρ) S;rw [HQ,Yx,pD] at o;have B:0<n->yO n len z.cells.toList ((ps.map (·.1)).zip (AV.aj ρ vs))=some (AV.aj ρ cs).toArray:=λa=>by unfold yO;have I:=Ln z.cells.toList (by simp [C];exact a) len;simp only [fb,C] at I;simp only [fb,C];rw [<-o,<-I]
       have i:=jo (ρ:=ρ) R;subst hn;cases g with
       |none=>
        obtain ⟨k1,J⟩:=hk aA.get_none;obtain ⟨l,L⟩:=aI Z;simp only [fi,an] at l;have i:jV (ay ρ T st.E fr.F) true (ps.map (·.2)) (AV.aj ρ vs):=by simpa using i
        rcases l with l|⟨l,U⟩
        .have a:0<u.rep.n:=by
          have:0<len*u.rep.n:=by simpa using l
          exact Nat.pos_of_ne_zero (λe=>by simp [e] at this)
         have f:=xR (P:=X.P) (w:=w) (dst:=some d) (ty:=ty) (pos:=pos) (af:=af) (cq N) s (zs:=z.cells.toList) (by simp) l W i (B a);have Y:len*1<=len*u.rep.n:=Nat.mul_le_mul_left _ a;have h9:=er W;have h8:Nat.ble len 9223372036854775807=true:=qH (by omega);refine .none_ (bI.gd (bI.ru f ?_));have:=yF (d:=d) (t:=u) (e:=e) (p:=(some ⟨w.heap.size,0,none⟩,len,len)) hl q y (fO w (.cells (AV.aj ρ cs).toArray e)) (λb hb=>by have:=GN hb;rw [Ll] at this;simp only [mj] at this;subst this;simp) (λM' m=>(cf.of (jX.fresh (heap_alloc_new w _) k1 h8 (J.mv m))).Lm) rfl L
         exact this
        .have V:len=0:=b0 l;subst V;have I:ps=[]:=by simpa using U
         subst I;have D:xs=[]:=ej k1;subst D;have f:=vh (P:=X.P) (E:=ay ρ T st.E fr.F) (w:=w) (dst:=some d) (ty:=ty) (pos:=pos) (af:=af) (cq N) s;refine .none_ (bI.gd (bI.ru f ?_));have:=yF (d:=d) (t:=u) (e:=e) (p:=(some ⟨w.heap.size,0,none⟩,0,0)) hl q y (fO w (.cells ([]:ze).toArray e)) (λb hb=>by have:=GN hb;rw [Ll] at this;simp only [mj] at this;subst this;simp) (λM' m=>(cf.of (jX.fresh (heap_alloc_new w _) rfl rfl cS.nil)).Lm) rfl L
         exact this
       |some k=>
        obtain ⟨l,L⟩:=aI Z;simp only [fi,an] at l;refine ⟨λA=>?_,λA=>?_⟩
        .obtain ⟨k1,J⟩:=hk A;rw [A] at i;have key:∃cells:ze,om X.P (ay ρ T st.E fr.F) ⟨some d,.buildSlice t len ⟨ps⟩,ty,pos,af,none⟩ w (.slice (some ⟨w.heap.size,0,none⟩) len len) (w.alloc (.cells cells.toArray e))/\cS u.rep (Ctx.M (ab ρ T G++(ab ρ T fr.H++Φ))) w cells xs:=by
          rcases l with l|⟨l,U⟩
          .have a:0<u.rep.n:=by
            have:0<len*u.rep.n:=by simpa using l
            exact Nat.pos_of_ne_zero (λe=>by simp [e] at this)
           exact ⟨AV.aj ρ cs,xR (P:=X.P) (w:=w) (dst:=some d) (ty:=ty) (pos:=pos) (af:=af) (cq N) s (zs:=z.cells.toList) (by simp) l W i (B a),J⟩
          .have V:len=0:=b0 l;subst V;have I:ps=[]:=by simpa using U
           subst I;have D:xs=[]:=ej k1;subst D;exact ⟨[],vh (P:=X.P) (E:=ay ρ T st.E fr.F) (w:=w) (dst:=some d) (ty:=ty) (pos:=pos) (af:=af) (cq N) s,cS.nil⟩
         obtain ⟨cells,f,J⟩:=key;refine bI.gd (bI.ru f ?_);have O:=y.ext (fO w (.cells cells.toArray e));have hf:bS u.rep (Ctx.M (ab ρ T G++(ab ρ T fr.H++Φ))) (w.alloc (.cells cells.toArray e)) (sl (some ⟨w.heap.size,0,none⟩,len,len)) xs:=
          bS.fresh (heap_alloc_new w _) (λhm=>by have:=y.lt hm;omega) k1 (J.mv ((fO w _).mv _))
         refine aU.new (ρ':=ρ.set st.c { dm with v:=(some ⟨w.heap.size,0,none⟩,len,len) }) (av:= .sl st.c) hl L aw.aX (l5 _) rfl (by simp only [AV.val,aw.bG];rfl) ?_;show Sat (ab _ T (_::G)++_) _;have e:=aZ (T:=T) (aw.aX (ρ:=ρ) (j:=st.c) (x:={ dm with v:=(some ⟨w.heap.size,0,none⟩,len,len) })) q;rw [ab,eT];rw [ab] at e;rw [e];refine O.add rfl ?_;simp only [Row.item,aw.bG];exact λ_=>⟨hf,λhb=>by cases hb⟩
        .refine ⟨_,aU.new (ρ':=ρ.set st.c dm) (av:= .sl st.c) hl L aw.aX (l5 _) rfl rfl ?_⟩;show Sat (ab _ T (_::G)++_) _;have e:=aZ (T:=T) (aw.aX (ρ:=ρ) (j:=st.c) (x:=dm)) q;rw [ab,eT];rw [ab] at e;rw [e];refine y.add rfl ?_;exact λh=>by rw [A] at h;cases h
      .cases h
     .cases h
    .cases h
   .cases h
  .cases h
 .cases h
end
section
variable {X : Cx} {R : Type} {r : R} {K : cF R} {T : aA} {fr : Fr} {st : aB} {g : GK} {d : Tmp} {ρ : aw} {Φ : Ctx} {w : World} {ty : TypeId} {pos : String} {af : zj} {gd : xb}
def aeQ(X:Cx)(T:aA)(fr:Fr)(st:aB)(d:Tmp)(t:TypeId)(x y:Operand)(K:cF R):Option R:=match iR X.P t with
 |some e=>(match Bs X.tys e with
  |some u=>(match oz X.P e with
   |some z=>(match bu T st.E fr.F none x with
    |some (.int _ l)=>aD ( Wl x y&&Nat.beq z.1 u.n'&&Nat.beq z.2.2.cells.size z.1&&Nat.blt 0 z.1 ) (
     match rd1 [] [] u (z.2.2.cells.toList.map mQ) with
     |some zx=>aM (decide (0<=l)) (aM (aH l.toNat z.2.1) (K { st with c:=st.c+1,E:=cJ (some d) none (.sl st.c) st.E,G:= .own st.c u e (List.replicate l.toNat zx) st.c::st.G }))
     |none=>none ) none
    |_=>none)
   |none=>none)
  |none=>none)
 |none=>none
theorem Xj{t:Ty}{v:AV}{l:List t.T}(h:ug [] [] t v=some l):∀(M:Nat->Prop) (w:World),bS t.rep M w (v.val ρ) l:=by unfold ug at h;grind [eo,rS,AV.val,bS.nil]
theorem Sj:(t:Ty)->(vs:List AV)->(x:t.T×List AV)->sE [] [] t vs=some x->∃us,vs=us++x.2/\∀(M:Nat->Prop) (w:World),t.rep.rd M w (AV.aj ρ us) x.1
 | .i k,vs,x,h=>by
  unfold sE at h;split at h
  next m y us=>obtain ⟨f,e⟩:=aI h;have:=nb f;subst this;cases e;exact ⟨[.int k y],rfl,λM w=>by rfl⟩
  .cases h
 | .bo,vs,x,h=>by
  unfold sE at h;split at h
  next y us=>cases h;exact ⟨[.bool y],rfl,λM w=>by rfl⟩
  .cases h
 | .s,vs,x,h=>by
  unfold sE at h;split at h
  next y us=>cases h;exact ⟨[.str y],rfl,λM w=>by rfl⟩
  .cases h
 | .un,vs,x,h=>by
  cases h;exact ⟨[],rfl,λM w=>by rfl⟩
 | .n,vs,x,h=>by
  unfold sE at h;split at h
  next t us=>cases h;exact ⟨[.ifc t (.agg [])],rfl,λM w=>by rfl⟩
  .cases h
 | .mp _ _,vs,x,h=>by grind [sE]
 | .p a b,vs,x,h=>by
  unfold sE at h;split at h
  .rename_i y j;split at h
   next z g=>cases h;obtain ⟨us,q,f⟩:=Sj a vs y j;obtain ⟨d,o,e⟩:=Sj b y.2 z g;refine ⟨us++d,by grind,λM w=>?_⟩;rw [dh];exact ⟨_,_,rfl,f M w,e M w⟩
   .cases h
  .cases h
 | .l t,vs,x,h=>by
  unfold sE at h;split at h
  .rename_i v us;split at h
   next l hl=>cases h;refine ⟨[v],rfl,λM w=>?_⟩;exact (Xj hl M w).rsl
   .cases h
  .cases h
 | .ex,vs,x,h=>by
  unfold sE at h;split at h
  .rename_i a b c v us;split at h
   next l hl=>cases h;refine ⟨[.int .i64 a,.int .i64 b,.int .i64 c,v],rfl,λM w=>?_⟩;exact Nz (Xj hl M w).rsl
   .cases h
  .cases h
theorem alc{t:TypeId}(hl:st.low fr=true)(A:Sat (ab ρ T st.G++(ab ρ T fr.H++Φ)) w)(h:aeQ X T fr st d t x y K=some r):
  lW X.P T none (ay ρ T st.E fr.F) ⟨some d,.makeSlice t x y,ty,pos,af,gd⟩ w (aU r K T fr st none (some d) ρ Φ):=by
 unfold aeQ at h;split at h
 .rename_i e D;split at h
  .rename_i u Y;split at h
   .rename_i z v;obtain ⟨n,bytes,z⟩:=z;split at h
    .rename_i k l hx;obtain ⟨q,o⟩:=aI h;simp only [an] at q;obtain ⟨⟨⟨V,U⟩,S⟩,R⟩:=q;have:=Z4 V;subst this;have hn  :=(b0 U).trans u.CJ.symm;have f  :=b0 S;split at o
     .rename_i s a;obtain ⟨Q,N⟩:=iS o;obtain ⟨O,L⟩:=iS N;have c:=bK (ρ:=ρ) hx;have j:=cP v;subst hn;have g:∀(M:Nat->Prop) (w:World),u.rep.rd M w z.cells.toList s:=by
       unfold rd1 at a;split at a
       next W i=>obtain ⟨us,e1,Z⟩:=Sj (ρ:=ρ) u _ _ i;grind [pD]
       .cases a
      obtain ⟨w',B,J,C,I⟩:=agz (cq D) j (by simp) (by simpa using f) (by simpa using R) c c Q O g;refine .none_ (bI.gd (bI.ru B ?_));exact yF (p:=(some ⟨w.heap.size,0,none⟩,l.toNat,l.toNat)) hl (aB.cE.1 hl).2.2.1 A J (λb hb=>by
       have:=GN hb;simp_all [Ll,mj]) (λM' m=>(cf.of (I M')).Lm) rfl L
     .cases o
    .cases h
   .cases h
  .cases h
 .cases h
def ajk(X:Cx)(T:aA)(fr:Fr)(st:aB)(d:Tmp)(t:TypeId)(x y:Operand)(K:cF R):Option R:=match iR X.P t with
 |some e=>(match Bs X.tys e with
  |some u=>(match oz X.P e with
   |some z=>(match bu T st.E fr.F none x with
    |some a=>(match bu T st.E fr.F none y with
     |some b=>aD ( Nat.beq z.1 u.n'&&Nat.beq z.2.2.cells.size z.1&&Nat.blt 0 z.1 ) ( match ug (cu b.fg st.G) fr.H u b with
      |some ys=>(match a with
       | .sl id=>(match eo (cu b.fg st.G) fr.H (oV id) with
        |some (.top j,.own _ u' e' xs _)=>aD ( Nat.beq e e' ) ( match ug.ck.asL u ⟨.l u',xs⟩ with
         |some xs=>aM (aH (xs.length+ys.length) z.2.1) (K { st with c:=st.c+1,E:=cJ (some d) none (.sl st.c) st.E,G:=(cu b.fg st.G).set j (.own st.c u e (xs++ys) st.c) })
         |none=>none ) none
        |some (_,.sli none _ u' xs true)=>(match ug.ck.asL u ⟨.l u',xs⟩ with
         |some xs=>(match ys with
          |y::ys=>aM (aH (xs.length+(y::ys).length) z.2.1) (K { st with c:=st.c+1,E:=cJ (some d) none (.sl st.c) st.E,G:= .own st.c u e (xs++y::ys) st.c::cu b.fg st.G })
          |[]=>none)
         |none=>none)
        |_=>none)
       | .raw (.slice none 0 0)=>aM (aH (([]:List u.T).length+ys.length) z.2.1) (K { st with c:=st.c+1,E:=cJ (some d) none (.sl st.c) st.E,G:= .own st.c u e ([]++ys) st.c::cu b.fg st.G })
       |_=>none)
      |none=>none ) none
     |none=>none)
    |none=>none)
   |none=>none)
  |none=>none)
 |none=>none
theorem am5{t:TypeId}(hl:st.low fr=true)(s:Sat (ab ρ T st.G++(ab ρ T fr.H++Φ)) w)(h:ajk X T fr st d t x y K=some r):
  lW X.P T none (ay ρ T st.E fr.F) ⟨some d,.call ⟨.builtin .append,#[x,y],#[t,t]⟩,ty,pos,af,gd⟩ w (aU r K T fr st none (some d) ρ Φ):=by
 unfold ajk at h;split at h
 .rename_i e he;split at h
  .rename_i u hu;split at h
   .rename_i z hz;obtain ⟨n,bytes,z⟩:=z;split at h
    .rename_i a hx;split at h
     .rename_i b hy;obtain ⟨h1,g⟩:=aI h;simp only [an] at h1;obtain ⟨⟨a1,a2⟩,a3⟩:=h1;have hn:n=u.rep.n:=(b0 a1).trans u.CJ.symm;have D:z.cells.size=n:=b0 a2;have N:=cP hz;subst hn;have A:=tP (ids:=b.fg) (aB.cE.1 hl).2.2.1;replace s:=kY (ids:=b.fg) s;generalize cu b.fg st.G=G at g A s;have o:=bK (ρ:=ρ) hx;have J:=bK (ρ:=ρ) hy;have B:0<u.rep.n:=by simpa using a3
      split at g
      .rename_i ys hys;have I:=Mg s hys;split at g
       .rename_i id;simp only [AV.val] at o;split at g
        .rename_i j k u' e' i ver O;obtain ⟨h3,h4⟩:=aI g;have:=b0 h3;subst this;split at h4
         .rename_i xs L;obtain ⟨eu,ex⟩:=sd L;subst eu;simp only at ex;subst ex;obtain ⟨Z,Y⟩:=iS h4;obtain ⟨f1,f2⟩:=bW O;have:k=id:=b0 f2;subst this;have hi:=ik (ρ:=ρ) (T:=T) (Φ:=ab ρ T fr.H++Φ) f1;obtain ⟨hO,_⟩:=s.at_ hi;obtain ⟨Q,R',w',U,hC,hR,C⟩:=FX (P:=X.P) (E:=ay ρ T st.E fr.F) (w:=w) (dst:=some d) (ty:=ty) (pos:=pos) (af:=af) (cq he) N D B o J hO I (λb hb=>Ctx.kG hi hb) Z;have mv0:Mv (Ctx.M (ab ρ T G++(ab ρ T fr.H++Φ))) w (Ctx.M (ab ρ T G++(ab ρ T fr.H++Φ))) w':=⟨hC.size,λb hb hn=>⟨hn,hC.block b hb (λhc=>hn (Ctx.kG hi hc))⟩⟩;have f:=C _ mv0;have q:∃p:ju,Q=sl p:=by obtain ⟨a,cap,q⟩:=f.len;exact ⟨(a,_,cap),q⟩
          obtain ⟨p,rfl⟩:=q;have hj:j<G.length:=(List.getElem?_eq_some_iff.1 f1).1;refine .none_ (bI.gd (bI.ru U (aU.new (ρ':=ρ.set st.c { dm with v:=p,y:=⟨.l u',i++ys⟩ }) hl Y aw.aX (l5 _) rfl (by simp only [AV.val,aw.bG]) ?_)));show Sat (ab _ T (G.set j _)++_) _;rw [fV hj,aZ aw.aX A];refine s.lJ hi hC (λb hb=>?_) (λM' m _=>?_)
          .simp only [Row.item,aw.bG] at hb;exact hR b (f.canon.1 b hb)
          .simp [Row.item,aw.bG];exact ⟨f.canon.2 _ _ (C M' m),trivial⟩
         .cases h4
        .rename_i s' k u' i O;split at g
         .rename_i xs L;obtain ⟨eu,ex⟩:=sd L;subst eu;subst ex;split at g
          .obtain ⟨Z,Y⟩:=iS g;obtain ⟨f1,f2⟩:=bW O;have  :=b0 f2;subst this;obtain ⟨hS,hcl⟩:=(Src.holds s f1) aA.get_none;obtain ⟨ad,cap,V⟩:=hS.len;have ep:(ρ k).v=((ρ k).v.1,i.length,i.length):=by simp [sl] at V;grind
           rw [ep] at hS o;obtain ⟨i',hi',R,hby,hzz⟩:=N.out;subst hby
           obtain ⟨Q,w',U,W,hB,C⟩:=P0 t ty e i' z (cq he) hi' hzz R D hS I (List.cons_ne_nil _ _) Z;have f:=cf.of (C _ (W.mv _));have q:∃p:ju,Q=sl p:=by obtain ⟨a,cap,q⟩:=f.len;exact ⟨(a,_,cap),q⟩
           obtain ⟨p,rfl⟩:=q;have S:om X.P (ay ρ T st.E fr.F) ⟨some d,.call ⟨.builtin .append,#[x,y],#[t,t]⟩,ty,pos,af,none⟩ w (sl p) w':=λn' a O=>by simp [execOp,resolve,invoke,builtin,o n' a O rfl,J n' a O rfl,show (Builtin.append_ #[t,t] ty #[sl ((ρ k).v.1,i.length,i.length),AV.val ρ b]).run X.P w=_ from U]
           refine .none_ (bI.gd (bI.ru S ?_));exact yF hl A s W (λb hb=>hB b (GN hb)) (λM' m=>(cf.of (C M' m)).Lm) rfl Y
          .cases g
         .cases g
        .cases g
       .obtain ⟨Z,Y⟩:=iS g;obtain ⟨Q,R',w',U,hC,hR,C⟩:=FX (cq he) N D B o J cf.nil I (λb hb=>by cases hb) Z;have W:Ext w w':=⟨hC.os,hC.tape,hC.output,hC.size,λb hb=>hC.block b hb (λh=>by cases h)⟩;have f:=C _ (W.mv _);have q:∃p:ju,Q=sl p:=by obtain ⟨a,cap,q⟩:=f.len;exact ⟨(a,_,cap),q⟩
        obtain ⟨p,rfl⟩:=q;refine .none_ (bI.gd (bI.ru U ?_));exact yF hl A s W (λb hb=>by
         obtain ⟨q1,q2⟩:=hR b (f.canon.1 b hb);grind) (λM' m=>f.canon.2 _ _ (C M' m)) rfl Y
       .cases g
      .cases g
     .cases h
    .cases h
   .cases h
  .cases h
 .cases h
end
def both{R:Type}(a b:Option R):Option R:=open Classical in if a=b then a else none
theorem Uu{R:Type}{a b:Option R}{r:R}(h:both a b=some r):a=some r/\b=some r:=by grind [both]
inductive Sh where
 |l
 |b (x y:Sh)
def jr:Sh->(R:Type)->Option R->Option R
 | .l,_,a=>a
 | .b x y,R,a=>both (jr x R a) (jr y R a)
theorem Xv{R:Type}{a:Option R}:(s:Sh)->jr s R a=a
 | .l=>rfl
 | .b x y=>by show both (jr x R a) (jr y R a)=a;rw [Xv x,Xv y];unfold both;simp
theorem lg:jr=λ_ _ a=>a:=funext λs=>funext λ_=>funext λ_=>Xv s
def yk{α R:Type}(l:List α)(k1 k0:Option R):Option R:=match l with
 |[]=>both k1 k0
 |_::_=>k0
theorem Vt{α R:Type}{l:List α}{k1 a:Option R}{r:R}(h:yk l k1 a=some r):a=some r/\(l=[]->k1=some r):=by unfold yk at h;grind [Uu]
theorem ny{α:Type}{l:List α}{b:Nat}:yk l (some []) (aM (aH (List.length ([]:List α)+List.length l) b)<|some (([]:List α)++l))=aM (aH (List.length l) b) (some l):=by
 cases l with
 |nil=>
  show both (some []) (aM (aH 0 b) (some []))=aM (aH 0 b) (some []);grind [both,aM]
 |cons x l=>show aM (aH (0+(l.length+1)) b) _=_;rw [nI];rfl
section
variable {X : Cx} {R : Type} {r : R} {K : cF R} {T : aA} {fr : Fr} {st : aB} {g : GK} {d : Tmp} {ρ : aw} {Φ : Ctx} {w : World} {ty : TypeId} {pos : String} {af : zj} {gd : xb}
def adX(X:Cx)(st:aB)(d:Tmp)(t:TypeId)(K:cF R):Option R:=match Sn X.P t with
 |some p=>(match Bs X.tys p.1 with
  |some k=>(match Bs X.tys p.2 with
   |some v=>K { st with c:=st.c+1,E:=cJ (some d) none (.mp st.c) st.E,G:= .mp st.c k v (some [])::st.G }
   |none=>none)
  |none=>none)
 |none=>none
theorem aiL{t:TypeId}(hl:st.low fr=true)(e:Sat (ab ρ T st.G++(ab ρ T fr.H++Φ)) w)(h:adX X st d t K=some r):
  lW X.P T none (ay ρ T st.E fr.F) ⟨some d,.makeMap t none,ty,pos,af,gd⟩ w (aU r K T fr st none (some d) ρ Φ):=by
 unfold adX at h;split at h
 .split at h
  .split at h
   .have c:om X.P (ay ρ T st.E fr.F) ⟨some d,.makeMap t none,ty,pos,af,none⟩ w (.map (some w.heap.size)) (w.alloc (.map #[] 0)):=λn a f=>by simp [execOp,Instr.makeMap]
    refine .none_ (bI.gd (bI.ru c (aU.push (x:={ dm with m:=some w.heap.size }) hl h (by simp [AV.val,aw.bG]) ?_)));simp [Row.item,aw.bG];exact e.push (fO _ _) (λb hb=>by
     simp_all [omap,Ib]) (λM' m=> .inr ⟨_,#[],0,[],rfl,rfl,by show (w.heap.push _)[w.heap.size]? =_;simp,rfl⟩)
   .cases h
  .cases h
 .cases h
def adI(X:Cx)(T:aA)(fr:Fr)(st:aB)(t:TypeId)(x y z:Operand)(K:cF R):Option R:=match Sn X.P t with
 |some p=>(match bu T st.E fr.F none x with
  |some (.mp id)=>(match rS (aeM id) st.G with
   |some (j,.mp _ k v md)=>(match bu T st.E fr.F none y with
    |some kv=>(match bu T st.E fr.F none z with
     |some vv=>(match WG k kv with
      |some key=>(match WG v vv with
       |some val=>aD ( aeZ X.P p.1 k ) ( md.bind λl=>K { st with G:=st.G.set j (.mp id k v (some (lB l key val))) } ) none
       |none=>none)
      |none=>none)
     |none=>none)
    |none=>none)
   |_=>none)
  |_=>none)
 |none=>none
theorem ais{t:TypeId}{z:Operand}(i:Sat (ab ρ T st.G++(ab ρ T fr.H++Φ)) w)(h:adI X T fr st t x y z K=some r):
  lW X.P T none (ay ρ T st.E fr.F) ⟨none,.mapUpdate t x y z,ty,pos,af,gd⟩ w (aU r K T fr st none none ρ Φ):=by
 unfold adI at h;split at h
 .rename_i p hp;split at h
  .rename_i id hx;split at h
   .rename_i j o k v md C;split at h
    .rename_i N s;split at h
     .rename_i M q;split at h
      .rename_i key e;split at h
       next val d=>obtain ⟨J,I⟩:=aI h;obtain ⟨l,g,D⟩:=ia I;subst g;obtain ⟨n,L⟩:=n7 C;have  :=b0 L;subst this;have f:=bK (ρ:=ρ) hx;have c:=bK (ρ:=ρ) s;have a:=bK (ρ:=ρ) q;rw [R5 e] at c;rw [R5 d] at a;have hi:=ik (ρ:=ρ) (T:=T) (Φ:=ab ρ T fr.H++Φ) n;obtain ⟨w',A,hC,u,hm⟩:=SG (SE J) (yL hp) f c a (i.omap hi);refine .none_ (bI.gd (bI.ac1 A (aU.kQ (av:= .raw undef) D (c8 _) rfl (by simp [AV.val]) ?_)));have B  :=(List.getElem?_eq_some_iff.1 n).1;rw [fV B];exact i.lJ hi hC (λb hb=>⟨hm.lt b hb,.inl hb⟩) (λM' m _=>hm)
       .cases h
      .cases h
     .cases h
    .cases h
   .cases h
  .cases h
 .cases h
def ajL(X:Cx)(T:aA)(fr:Fr)(st:aB)(d:Tmp)(t:TypeId)(x:Operand)(K:cF R):Option R:=match bu T st.E fr.F none x with
 |some (.str s)=>aD ( isStr X.P t ) ( K { st with c:=st.c+1,E:=cJ (some d) none (.ptr st.c 0) st.E,G:= .it st.c s 0::st.G } ) none
 |_=>none
theorem anq{t:TypeId}(hl:st.low fr=true)(f:Sat (ab ρ T st.G++(ab ρ T fr.H++Φ)) w)(h:ajL X T fr st d t x K=some r):
  lW X.P T none (ay ρ T st.E fr.F) ⟨some d,.range t x,ty,pos,af,gd⟩ w (aU r K T fr st none (some d) ρ Φ):=by
 unfold ajL at h;split at h
 .rename_i s hx;obtain ⟨j,i⟩:=aI h;have c:=bK (ρ:=ρ) hx;simp [AV.val] at c;have e:om X.P (ay ρ T st.E fr.F) ⟨some d,.range t x,ty,pos,af,none⟩ w (.pointer (some ⟨w.heap.size,0,none⟩)) (w.alloc (.stringIter ⟨s.toArray⟩ 0)):=λn' a g=>by simp [execOp,c n' a g rfl,Instr.range,run_underlying (sY j),S]
  refine .none_ (bI.gd (bI.ru e (aU.push (x:={ dm with b:=w.heap.size }) hl i (by simp [AV.val,aw.bG]) ?_)));simp [Row.item,aw.bG];exact f.push (fO _ _) (λb hb=>by
   simp_all [iter]) (λ_ _=>heap_alloc_new w _)
 .cases h
def akX(T:aA)(fr:Fr)(st:aB)(d:Tmp)(x:Operand)(K:cF R):Option R:=match bu T st.E fr.F none x with
 |some (.ptr id 0)=>(match rS (apw id) st.G with
  |some (j,.it _ s p)=>cond (decide (p<s.length)) (K { st with E:=cJ (some d) none (.tuple [.bool true,.int .i64 (p:Int),.int .i32 (ag8 s p)]) st.E,G:=st.G.set j (.it id s (vX s p)) })
   (K { st with E:=cJ (some d) none (.tuple [.bool false]) st.E })
  |_=>none)
 |_=>none
theorem amc(m:Sat (ab ρ T st.G++(ab ρ T fr.H++Φ)) w)(h:akX T fr st d x K=some r):
  lW X.P T none (ay ρ T st.E fr.F) ⟨some d,.next x true,ty,pos,af,gd⟩ w (aU r K T fr st none (some d) ρ Φ):=by
 unfold akX at h;split at h
 .rename_i id hx;split at h
  .rename_i j e s p l;obtain ⟨u,A⟩:=n7 l;have:e=id:=b0 A;subst this;have g:=bK (ρ:=ρ) hx;simp [AV.val] at g;have hi:=ik (ρ:=ρ) (T:=T) (Φ:=ab ρ T fr.H++Φ) u;have hI  :=m.iter hi;have t:(getObj (ρ e).b).run X.P w= .ok (.stringIter ⟨s.toArray⟩ p) w:=by simp [getObj,Sem.run];rw [hI]
   rcases vq h with ⟨n,q⟩|⟨n,q⟩
   .have k  :=by simpa using n
    have v:=(Array.getElem?_eq_some_iff.1 hI).1;have o:ZS { w with heap:=w.heap.setIfInBounds (ρ e).b (.stringIter ⟨s.toArray⟩ (vX s p)) } (ρ e).b s (vX s p):=by show (w.heap.setIfInBounds (ρ e).b _)[(ρ e).b]? =_;grind
    have hC:lE [(ρ e).b] w { w with heap:=w.heap.setIfInBounds (ρ e).b (.stringIter ⟨s.toArray⟩ (vX s p)) }:=⟨rfl,rfl,rfl,by grind,λc _ z=>by grind⟩
    have kC:(setObj (ρ e).b (.stringIter ⟨s.toArray⟩ (vX s p))).run X.P w= .ok () { w with heap:=w.heap.setIfInBounds (ρ e).b (.stringIter ⟨s.toArray⟩ (vX s p)) }:=by simp [setObj,Sem.run];rw [hI]
    have i:p<(⟨s.toArray⟩:ByteArray).size:=by exact k
    have B:vX s p=p+(Utf8.decode ⟨s.toArray⟩ p).2:=rfl;have f:om X.P (ay ρ T st.E fr.F) ⟨some d,.next x true,ty,pos,af,none⟩ w (.tuple #[.bool true,.int .i64 (p),.int .i32 (ag8 s p)]) { w with heap:=w.heap.setIfInBounds (ρ e).b (.stringIter ⟨s.toArray⟩ (vX s p)) }:=λn' a l=>by rw [B] at kC ⊢;simp only [execOp,g n' a l rfl,Instr.next,Sem.run_bind,t,Result.andThen_ok,du i,kC];rfl
    refine .none_ (bI.gd (bI.ru f (aU.kQ q (c8 _) rfl (by simp [AV.val,AV.aj]) ?_)));have y  :=(List.getElem?_eq_some_iff.1 u).1;rw [fV y];exact m.lJ hi hC (λc C=>by
     grind [Row.item,Go.Proofs.YtcgihjbfppkcfaaGreatDoor.iter,Array.getElem?_eq_some_iff]) (λ_ _ _=>o)
   .have k:¬p<s.length:=by simpa using n
    have f:om X.P (ay ρ T st.E fr.F) ⟨some d,.next x true,ty,pos,af,none⟩ w (.tuple #[.bool false]) w:=λn' a l=>by
     have i:¬p<(⟨s.toArray⟩:ByteArray).size:=by exact k
     simp [execOp,g n' a l rfl,Instr.next,Sem.run_bind,t,Result.andThen_ok,df i,Sem.run_pure]
    exact .none_ (bI.gd (bI.ru f (aU.kQ q (c8 _) rfl (by simp [AV.val,AV.aj]) m)))
  .cases h
 .cases h
def aiF(X:Cx)(T:aA)(fr:Fr)(st:aB)(g:GK)(d:Tmp)(s dt:TypeId)(x:Operand)(K:cF R):Option R:=match bu T st.E fr.F g x with
 |some (.str l)=>aD ( isStr X.P s ) ( match iR X.P dt with
  |some e=>(match tyK X.P e with
   |some .u8=>K { st with c:=st.c+1,E:=cJ (some d) g (.sl st.c) st.E,G:= .sli g st.c (.i .u8) (aP l) false::st.G }
   |_=>none)
  |none=>none ) none
 |_=>none
theorem am1{s j:TypeId}(hl:st.low fr=true)(c:Sat (ab ρ T st.G++(ab ρ T fr.H++Φ)) w)(h:aiF X T fr st g d s j x K=some r):
  lW X.P T g (ay ρ T st.E fr.F) ⟨some d,.convert s j x,ty,pos,af,gd⟩ w (aU r K T fr st g (some d) ρ Φ):=by
 unfold aiF at h;split at h
 .rename_i l hx;obtain ⟨t,a⟩:=aI h;split at a
  .rename_i e n;split at a
   .rename_i hk;have b:=aO (ρ:=ρ) hx;refine ⟨λf=>?_,λf=>?_⟩
    .rw [f] at b;obtain ⟨u,w',k,q,m,o⟩:=ajK (w:=w) (sY t) (cq n) (Pz hk) b;have i:=o (Ctx.M (ab ρ T st.G++(ab ρ T fr.H++Φ))) (λhm=>by have:=c.lt hm;omega);obtain ⟨p,rfl⟩:=i.oV;refine bI.gd (bI.ru k (aU.push (x:={ dm with v:=p }) hl a (by simp [AV.val,aw.bG]) ((c.ext q).add rfl ?_)));simp [Row.item,aw.bG];exact λ_=>⟨i,λhb=>by cases hb⟩
    .exact ⟨_,aU.push (x:=dm) hl a rfl (c.add rfl λh=>by rw [f] at h;cases h)⟩
   .cases a
  .cases a
 .cases h
def ak6(X:Cx)(T:aA)(fr:Fr)(st:aB)(d:Tmp)(op:BinOp)(t:TypeId)(x y:Operand)(K:cF R):Option R:=match iR X.P t with
 |some _=>(match bu T st.E fr.F none x with
  |some (.sl id)=>(match bu T st.E fr.F none y with
   |some (.raw (.slice none 0 0))=>(match UI st.G fr.H id with
    |some ⟨none,_,l⟩=>(match op with
     | .eql=>yk l (K { st with E:=cJ (some d) none (.bool true) st.E }) (K { st with E:=cJ (some d) none (.bool false) st.E })
     | .neq=>yk l (K { st with E:=cJ (some d) none (.bool false) st.E }) (K { st with E:=cJ (some d) none (.bool true) st.E })
     |_=>none)
    |_=>none)
   |_=>none)
  |_=>none)
 |none=>none
theorem anF{op:BinOp}{t:TypeId}(i:Sat (ab ρ T st.G++(ab ρ T fr.H++Φ)) w)(h:ak6 X T fr st d op t x y K=some r):
  lW X.P T none (ay ρ T st.E fr.F) ⟨some d,.binOp op t x y t',ty,pos,af,gd⟩ w (aU r K T fr st none (some d) ρ Φ):=by
 unfold ak6 at h;split at h
 .rename_i e k;split at h
  .rename_i id hx;split at h
   .rename_i n;split at h
    .rename_i u l g;have f:=bK (ρ:=ρ) hx;have c:=bK (ρ:=ρ) n;simp [AV.val] at f c;have a:=Sw i g aA.get_none;have j:(y6 (sl (ρ id).v)=true/\l=[])\/y6 (sl (ρ id).v)=false:=by
      rcases YU i g aA.get_none with hS|⟨e',o⟩
      .grind [aaV]
      .exact aaR o
     have mk:∀b:Bool,K { st with E:=cJ (some d) none (.bool b) st.E }=some r->aU r K T fr st none (some d) ρ Φ (.bool b) w:=λb hb=>aU.kQ hb (c8 _) rfl (by simp [AV.val]) i;split at h
     .obtain ⟨m,k1⟩:=Vt h;refine .none_ (bI.gd (bI.run (aa1 (cq k) f a c) ?_));grind
     .obtain ⟨m,k1⟩:=Vt h;refine .none_ (bI.gd (bI.run (aan (cq k) f a c) ?_));grind
     .cases h
    .cases h
   .cases h
  .cases h
 .cases h
def ac2(i:Int)(m:Nat)(k:Nat->Option R):Nat->Nat->Option R
 |0,_=>none
 |n+1,j=>cond (i==(j:Int)) (k (j*m)) (ac2 i m k n (j+1))
theorem LX{i:Int}{m:Nat}{k:Nat->Option R}:∀{n j:Nat},ac2 i m k n j=some r->∃q,j<=q/\q<j+n/\i=(q:Int)/\k (q*m)=some r
 |0,j,h=>by cases h
 |n+1,j,h=>by
  rcases vq h with ⟨f,a⟩|⟨_,a⟩
  .grind
  .obtain ⟨q,e,d,c,b⟩:=LX a;grind
end
def fy:List Ty->Type
 |[]=>Unit
 |[t]=>t.T
 |t::u::ts=>t.T×fy (u::ts)
def iD:(ts:List Ty)->fy ts->List ck
 |[],_=>[]
 |[t],x=>[⟨t,x⟩]
 |t::u::ts,x=>⟨t,x.1⟩::iD (u::ts) x.2
def cQ:(ts:List Ty)->List ck->Option (fy ts)
 |[],D=>(match D with
  |[]=>some ()
  |_=>none)
 |[t],D=>(match D with
  |[d]=>d.as t
  |_=>none)
 |t::u::ts,D=>(match D with
  |d::D=>(match d.as t with
   |some x=>(match cQ (u::ts) D with
    |some y=>some (x,y)
    |none=>none)
   |none=>none)
  |_=>none)
theorem Cd:(a:List Ty)->{D:List ck}->{s:fy a}->cQ a D=some s->iD a s=D
 |[],D,s,h=>by
  unfold cQ at h;split at h
  .rfl
  .cases h
 |[t],D,s,h=>by
  match D,h with
  |[d],h=>rw [ck.MA h];rfl
  |[],h=>cases h
  |_::_::_,h=>cases h
 |t::u::a,D,s,h=>by
  unfold cQ at h;split at h
  .split at h
   .rename_i x hx;split at h
    next y b=>cases h;show ⟨t,x⟩::iD (u::a) y=_;rw [Cd (u::a) b,ck.MA hx]
    .cases h
   .cases h
  .cases h
def aeY:(ts:List Ty)->fy ts
 |[]=>()
 |[t]=>t.tl
 |t::u::ts=>(t.tl,aeY (u::ts))
mutual
def po:Pt->List Ty
 | .int k=>[.i k]
 | .bool=>[.bo]
 | .str=>[.s]
 | .sli t=>[.l t]
 | .own t _ _=>[.l t]
 | .bx _ _ _ vs=>pJ vs
 | .mp k v _=>[.mp k v]
 | .it=>[.s,.n]
 | .agg l=>pJ l
 | .cQ l=>pJ l
 | .fn _ a b=>pJ a++pJ b
 | .ifc _ p=>po p
 | .dat t _=>[t]
 | .ifn=>[.n]
 | .sfp=>[.bo]
 |_=>[]
def pJ:List Pt->List Ty
 |[]=>[]
 |p::l=>po p++pJ l
end
def iW:List (Bool×Nat×Pt)->List Ty
 |[]=>[]
 |x::l=>po x.2.2++iW l
abbrev Fx:=Option (Value×ze)
def xI(fx:Fx)(v:Value):Prop:= ∀p,fx=some p->v=p.1
def fxC(fx:Fx):ze:=match fx with
 |some p=>p.2
 |none=>[]
def Wm:Pt->Bool
 | .agg _=>true
 | .fn _ _ _=>true
 | .ifc _ _=>true
 |_=>false
def fx1(p:Pt)(fxs:ze):Fx:=match fxs with
 |[]=>none
 |u::_=>aD (Wm p) none (some (u,[]))
abbrev fI:=List (Bool×Item)
abbrev lh:=List (Nat×ze)
def oe(e:Nat):Nat:=e/2
def ow(e:Nat):Bool:=Nat.beq (e%2) 1
def OJ:(t:Ty)->t.T->ze->xa->List Nm->fI->List Nm->xa->Prop
 | .i k,x,cs,o,N,I,N',o'=>cs=[.int k x]/\I=[]/\N'=N/\o'=o
 | .bo,x,cs,o,N,I,N',o'=>cs=[.bool x]/\I=[]/\N'=N/\o'=o
 | .s,x,cs,o,N,I,N',o'=>cs=[S x]/\I=[]/\N'=N/\o'=o
 | .un,_,cs,o,N,I,N',o'=>cs=[]/\I=[]/\N'=N/\o'=o
 | .p a b,x,cs,o,N,I,N',o'=>∃c1 c2 N1 I1 I2 o1,OJ a x.1 c1 o N I1 N1 o1/\OJ b x.2 c2 o1 N1 I2 N' o'/\cs=c1++c2/\I=I1++I2
 | .l t,x,cs,o,N,I,N',o'=>∃a:Nm,cs=[sl a.v]/\N'=N++[a]/\((o=none::o'/\I=[(false,LQ true t.rep a.v x false)])\/∃e,o=some e::o'/\I=[(ow e,te t.rep (oe e) a.v x True)]/\a.y=⟨.l t,x⟩)
 | .ex,x,cs,o,N,I,N',o'=>∃a:Nm,cs=[.int .i64 x.op,.int .i64 x.n,.int .i64 x.at_,sl a.v]/\N'=N++[a]/\((o=none::o'/\I=[(false,LQ true Jf a.v x.l false)])\/∃e,o=some e::o'/\I=[(ow e,te Jf (oe e) a.v x.l True)]/\a.y=⟨.l .ex,x.l⟩)
 |_,_,_,_,_,_,_,_=>False
mutual
def Sem:Pt->Value->Fx->Option Value->List Nm->List ck->fI->lh->List Nm->Prop
 | .int k,v,_,_,N,D,I,X,N'=>∃x,v= .int k x/\D=[⟨.i k,x⟩]/\I=[]/\X=[]/\N'=N
 | .bool,v,_,_,N,D,I,X,N'=>∃x,v= .bool x/\D=[⟨.bo,x⟩]/\I=[]/\X=[]/\N'=N
 | .str,v,_,_,N,D,I,X,N'=>∃x,v=S x/\D=[⟨.s,x⟩]/\I=[]/\X=[]/\N'=N
 | .sli t,v,_,_,N,D,I,X,N'=>∃(a:Nm) (l:List t.T),v=sl a.v/\D=[⟨.l t,l⟩]/\I=[(false,LQ true t.rep a.v l false)]/\X=[]/\N'=N++[a]
 | .own t e m,v,fx,_,N,D,I,X,N'=>∃(a:Nm) (l:List t.T),v=sl a.v/\xI fx v/\D=[⟨.l t,l⟩]/\I=[(m,te t.rep e a.v l True)]/\X=[]/\N'=N++[a]/\a.y=⟨.l t,l⟩
 | .slr n,v,_,_,N,D,I,X,N'=>∃a:Nm,N[n]? =some a/\v=sl a.v/\D=[]/\I=[]/\X=[]/\N'=N
 | .bx t off m vs,v,fx,_,N,D,I,X,N'=>∃(a:Nm) (cs:ze) (I':fI) (X':lh),v= .pointer (some ⟨a.b,off,none⟩)/\xI fx v/\w7 vs cs [] (fxC fx) (N++[a]) D I' X' N'/\I=(m,box a.b t cs)::I'/\X=(aD m [(N.length,cs)] [])++X'
 | .ptr n off,v,_,_,N,D,I,X,N'=>∃a:Nm,N[n]? =some a/\v= .pointer (some ⟨a.b,off,none⟩)/\D=[]/\I=[]/\X=[]/\N'=N
 | .mp k u m,v,fx,_,N,D,I,X,N'=>∃(a:Nm) (d:Option (List (k.T×u.T))),v= .map a.m/\xI fx v/\D=[⟨.mp k u,d⟩]/\I=[(m,omap (FB k) (FB u) (.map a.m) d)]/\X=[]/\N'=N++[a]
 | .it,v,fx,_,N,D,I,X,N'=>∃(a:Nm) (s:aE) (p:Nat),v= .pointer (some ⟨a.b,0,none⟩)/\xI fx v/\D=[⟨.s,s⟩,⟨.n,p⟩]/\I=[(true,iter a.b s p)]/\X=[]/\N'=N++[a]
 | .agg l,v,fx,_,N,D,I,X,N'=>∃cs:ze,v= .agg cs.toArray/\xI fx v/\w7 l cs (aD fx.isSome cs []) [] N D I X N'
 | .cQ l,v,_,_,N,D,I,X,N'=>∃cs:ze,v= .tuple cs.toArray/\w7 l cs [] [] N D I X N'
 | .fn f a b,v,fx,_,N,D,I,X,N'=>∃(us vs:ze) (D1 D2:List ck) (I1 I2:fI) (X1 X2:lh) (N1:List Nm),v= .func (.func f) us.toArray vs.toArray/\xI fx v/\w7 a us [] [] N D1 I1 X1 N1/\w7 b vs (aD fx.isSome vs []) [] N1 D2 I2 X2 N'/\D=D1++D2/\I=I1++I2/\X=X1++X2
 | .ifc t p,v,fx,_,N,D,I,X,N'=>∃u,v= .iface t u/\xI fx v/\Sem p u (fx1 p (aD fx.isSome [u] [])) none N D I X N'
 | .mQ c,v,_,_,N,D,I,X,N'=>(v=c.val (λ_=>dm)/\∀ρ,c.val ρ=c.val (λ_=>dm))/\D=[]/\I=[]/\X=[]/\N'=N
 | .dat t o,v,_,_,N,D,I,X,N'=>∃(cs:ze) (x:t.T) (o':xa),v= .agg cs.toArray/\D=[⟨t,x⟩]/\OJ t x cs o N I N' o'/\X=[]
 | .ifn,v,_,_,N,D,I,X,N'=>∃x:Nat,v= .iface x (.agg #[])/\D=[⟨.n,x⟩]/\I=[]/\X=[]/\N'=N
 | .sfp,v,_,_,N,D,I,X,N'=>∃(a:Nm) (f:Bool),N[N.length-1]? =some a/\v=BI f a.b/\D=[⟨.bo,f⟩]/\I=[]/\X=[]/\N'=N
 | .same,v,fx,sm,N,D,I,X,N'=>((∃p,fx=some p/\v=p.1)\/(fx=none/\sm=some v))/\D=[]/\I=[]/\X=[]/\N'=N
def w7:List Pt->ze->ze->ze->List Nm->List ck->fI->lh->List Nm->Prop
 |[],vs,_,_,N,D,I,X,N'=>vs=[]/\D=[]/\I=[]/\X=[]/\N'=N
 |p::l,vs,fxs,sms,N,D,I,X,N'=>∃(v:Value) (vs':ze) (D1 D2:List ck) (I1 I2:fI) (X1 X2:lh) (N1:List Nm),vs=v::vs'/\Sem p v (fx1 p fxs) sms.head? N D1 I1 X1 N1/\w7 l vs' fxs.tail sms.tail N1 D2 I2 X2 N'/\D=D1++D2/\I=I1++I2/\X=X1++X2
end
def FE(fix:Nat->Fx)(val:Nat->Option Value):List (Bool×Nat×Pt)->List Nm->List ck->fI->lh->List Nm->Prop
 |[],N,D,I,X,N'=>D=[]/\I=[]/\X=[]/\N'=N
 |x::l,N,D,I,X,N'=>∃(v:Value) (D1 D2:List ck) (I1 I2:fI) (X1 X2:lh) (N1:List Nm),(aD x.1 ((fix x.2.1).map (·.1)) (val x.2.1))=some v/\Sem x.2.2 v (aD x.1 (fix x.2.1) none) none N D1 I1 X1 N1/\FE fix val l N1 D2 I2 X2 N'/\D=D1++D2/\I=I1++I2/\X=X1++X2
mutual
def AV.same:AV->AV->Bool
 | .fn f a b,v=>(match v with
  | .fn f' a' b'=>Nat.beq f f'&&AV.Mo a a'&&AV.Mo b b'
  |_=>false)
 | .tuple l,v=>(match l with
  |[]=>(match v with
   | .tuple l=>l.isEmpty
   |_=>false)
  |_=>false)
 | .int k x,v=>(match v with
  | .int k' x'=>jB k k'&&(x==x')
  |_=>false)
 | .raw u,v=>(match v with
  | .raw u'=>(match u,u' with
   | .slice none m n,.slice none m' n'=>Nat.beq m m'&&Nat.beq n n'
   | .pointer none,.pointer none=>true
   | .nilFunc,.nilFunc=>true
   | .nilIface,.nilIface=>true
   | .map none,.map none=>true
   |_,_=>false)
  |_=>false)
 |_,_=>false
def AV.Mo:List AV->List AV->Bool
 |[],l'=>l'.isEmpty
 |v::l,l'=>(match l' with
  |v'::l'=>AV.same v v'&&AV.Mo l l'
  |[]=>false)
end
mutual
theorem AV.IK{ρ ρ':aw}:(v:AV)->(c:AV)->AV.same v c=true->c.val ρ'=v.val ρ
 | .fn f a b,c,h=>by
  unfold AV.same at h;split at h
  next g e d=>simp only [an] at h;simp only [AV.val];rw [b0 h.1.1,AV.KE a e h.1.2,AV.KE b d h.2]
  .cases h
 | .tuple l,c,h=>by
  unfold AV.same at h;grind [AV.val,AV.aj]
 | .raw u,c,h=>by
  unfold AV.same at h;split at h
  .split at h
   .simp_all [AV.val]
   .simp [AV.val]
   .simp [AV.val]
   .simp [AV.val]
   .simp [AV.val]
   .cases h
  .cases h
 | .int k x,c,h=>by
  unfold AV.same at h;split at h
  .simp only [an] at h;simp only [AV.val];rw [nb h.1,eq_of_beq h.2]
  .cases h
 | .bool _,c,h|.str _,c,h|.agg _,c,h|.ptr _ _,c,h|.sl _,c,h|.adr _ _,c,h|.ifc _ _,c,h|.mp _,c,h|.gp _,c,h|.nv _,c,h|.sfp _ _,c,h=>by grind [AV.same]
theorem AV.KE{ρ ρ':aw}:(l:List AV)->(l':List AV)->AV.Mo l l'=true->AV.aj ρ' l'=AV.aj ρ l
 |[],l',h=>by
  unfold AV.Mo at h;have  :=by simpa using h
  subst this;rfl
 |v::l,l',h=>by
  unfold AV.Mo at h;split at h
  next a l'=>simp at h;simp only [AV.aj];rw [AV.IK v a h.1,AV.KE l l' h.2]
  .cases h
end
structure MR where
 B:xc
 S:List (Bool×Src)
 D:List ck
 X:List (Nat×List AV)
def YY(G H:List Row)(t:Ty)(v:AV):Option (zg×Src×List t.T):=match v with
 | .sl j=>(match eo G H (oV j) with
  |some (s,.sli none _ t' l _)=>(match ug.ck.asL t ⟨.l t',l⟩ with
   |some l=>some (some j,s,l)
   |none=>none)
  |_=>none)
 | .raw (.slice none 0 0)=>some (none,.nilI t,[])
 |_=>none
def Ya(G H:List Row)(t:Ty)(e:TypeId)(v:AV):Option (zg×Src×List t.T):=match v with
 | .sl j=>(match eo G H (oV j) with
  |some (s,.own _ t' e' l _)=>aD ( Nat.beq e e' ) ( match ug.ck.asL t ⟨.l t',l⟩ with
   |some l=>some (some j,s,l)
   |none=>none
   ) none
  |_=>none)
 | .raw (.slice none 0 0)=>some (none,.nilO t e,[])
 |_=>none
structure DR(t:Ty) where
 x:t.T
 vs:List AV
 o:xa
 B:xc
 S:List (Bool×Src)
def FU(G H:List Row):(t:Ty)->List AV->xa->xc->Option (DR t)
 | .i k,vs,o,B=>(match vs with
  | .int k' x::vs=>aD ( jB k k' ) ( some ⟨x,vs,o,B,[]⟩ ) none
  |_=>none)
 | .bo,vs,o,B=>(match vs with
  | .bool x::vs=>some ⟨x,vs,o,B,[]⟩
  |_=>none)
 | .s,vs,o,B=>(match vs with
  | .str x::vs=>some ⟨x,vs,o,B,[]⟩
  |_=>none)
 | .un,vs,o,B=>some ⟨(),vs,o,B,[]⟩
 | .p a b,vs,o,B=>(match FU G H a vs o B with
  |some d=>(match FU G H b d.vs d.o d.B with
   |some e=>some ⟨(d.x,e.x),e.vs,e.o,e.B,d.S++e.S⟩
   |none=>none)
  |none=>none)
 | .l t,vs,o,B=>(match vs with
  |v::vs=>(match o with
   |none::o=>(match YY G H t v with
    |some q=>some ⟨q.2.2,vs,o,B++[q.1],[(false,q.2.1)]⟩
    |none=>none)
   |some e::o=>(match Ya G H t (oe e) v with
    |some q=>some ⟨q.2.2,vs,o,B++[q.1],[(ow e,q.2.1)]⟩
    |none=>none)
   |[]=>none)
  |[]=>none)
 | .ex,vs,o,B=>(match vs with
  | .int .i64 a:: .int .i64 b:: .int .i64 c::v::vs=>(match o with
   |none::o=>(match YY G H .ex v with
    |some q=>some ⟨Ex.mk a b c q.2.2,vs,o,B++[q.1],[(false,q.2.1)]⟩
    |none=>none)
   |some e::o=>(match Ya G H .ex (oe e) v with
    |some q=>some ⟨Ex.mk a b c q.2.2,vs,o,B++[q.1],[(ow e,q.2.1)]⟩
    |none=>none)
   |[]=>none)
  |_=>none)
 |_,_,_,_=>none
def N7:zg->zg->Bool
 |some a,some b=>Nat.beq a b
 |none,none=>true
 |_,_=>false
theorem anT{a b:zg}(h:N7 a b=true):a=b:=by unfold N7 at h;grind [Nat.eq_of_beq_eq_true]
abbrev ja:=Option (AV×List AV)
def rA(p:Pt)(fxs:List AV):ja:=match fxs with
 |[]=>none
 |u::_=>aD (Wm p) none (some (u,[]))
def sf(p:Pt)(fx:ja):Bool:=match p with
 | .agg _=>(match fx with
  |some (.agg _,_)=>true
  |some _=>false
  |none=>true)
 | .fn _ _ _=>(match fx with
  |some (.fn _ _ _,_)=>true
  |some _=>false
  |none=>true)
 | .ifc _ _=>(match fx with
  |some (.ifc _ _,_)=>true
  |some _=>false
  |none=>true)
 |_=>true
def iG(fx:ja):List AV:=match fx with
 |some (.agg us,_)=>us
 |some (.fn _ _ b,_)=>b
 |some (.ifc _ u,_)=>[u]
 |_=>[]
def Iv(fx:ja):List AV:=match fx with
 |some p=>p.2
 |none=>[]
def nvs(v:AV)(fx:ja)(sm:Option AV):Bool:=match fx with
 |some _=>true
 |none=>(match sm with
  |some (.nv u)=>(match v with
   | .nv w=>Nat.beq u w
   |_=>false)
  |_=>false)
def Xy:Pt->Bool
 | .same=>true
 |_=>false
mutual
def mt(G H:List Row):Pt->AV->ja->Option AV->xc->Option MR
 | .int k,v,_,_,B=>(match v with
  | .int k' x=>aD (jB k k') (some ⟨B,[],[⟨.i k,x⟩],[]⟩) none
  |_=>none)
 | .bool,v,_,_,B=>(match v with
  | .bool x=>some ⟨B,[],[⟨.bo,x⟩],[]⟩
  |_=>none)
 | .str,v,_,_,B=>(match v with
  | .str x=>some ⟨B,[],[⟨.s,x⟩],[]⟩
  |_=>none)
 | .sli t,v,_,_,B=>(match YY G H t v with
  |some q=>some ⟨B++[q.1],[(false,q.2.1)],[⟨.l t,q.2.2⟩],[]⟩
  |none=>none)
 | .own t e m,v,_,_,B=>(match Ya G H t e v with
  |some q=>some ⟨B++[q.1],[(m,q.2.1)],[⟨.l t,q.2.2⟩],[]⟩
  |none=>none)
 | .slr n,v,_,_,B=>(match v with
  | .sl j=>aD (N7 ((B[n]?).getD none) (some j)) (some ⟨B,[],[],[]⟩) none
  |_=>none)
 | .bx t off m vs,v,fx,_,B=>(match v with
  | .ptr j off'=>aD (Nat.beq off off') (match eo G H (yW j) with
   |some (s,.box _ t' cs)=>aD (Nat.beq t t') (match F6 G H vs cs [] (Iv fx) (B++[some j]) with
     |some r=>some ⟨r.B,(m,s)::r.S,r.D,(aD m [(B.length,cs)] [])++r.X⟩
     |none=>none) none
   |_=>none) none
  |_=>none)
 | .ptr n off,v,_,_,B=>(match v with
  | .ptr j off'=>aD (Nat.beq off off'&&N7 ((B[n]?).getD none) (some j)) (some ⟨B,[],[],[]⟩) none
  |_=>none)
 | .mp k u m,v,_,_,B=>(match v with
  | .mp j=>(match eo G H (aeM j) with
   |some (s,.mp _ k' u' d)=>(match ck.as (.mp k u) ⟨.mp k' u',d⟩ with
    |some d=>some ⟨B++[some j],[(m,s)],[⟨.mp k u,d⟩],[]⟩
    |none=>none)
   |_=>none)
  | .raw (.map none)=>some ⟨B++[none],[(m,.nilM k u)],[⟨.mp k u,(none:Option (List (k.T×u.T)))⟩],[]⟩
  |_=>none)
 | .it,v,_,_,B=>(match v with
  | .ptr j 0=>(match eo G H (apw j) with
   |some (s,.it _ x p)=>some ⟨B++[some j],[(true,s)],[⟨.s,x⟩,⟨.n,p⟩],[]⟩
   |_=>none)
  |_=>none)
 | .agg l,v,fx,_,B=>(match v with
  | .agg vs=>aD (sf (.agg l) fx) (F6 G H l vs (aD fx.isSome vs []) [] B) none
  |_=>none)
 | .cQ l,v,_,_,B=>(match v with
  | .tuple vs=>F6 G H l vs [] [] B
  |_=>none)
 | .fn f a b,v,fx,_,B=>(match v with
  | .fn f' a' b'=>aD (Nat.beq f f'&&sf (.fn f a b) fx) (match F6 G H a a' [] [] B with
   |some r=>(match F6 G H b b' (aD fx.isSome b' []) [] r.B with
    |some q=>some ⟨q.B,r.S++q.S,r.D++q.D,r.X++q.X⟩
    |none=>none)
   |none=>none) none
  |_=>none)
 | .ifc t p,v,fx,_,B=>(match v with
  | .ifc t' u=>aD (Nat.beq t t'&&sf (.ifc t p) fx) (mt G H p u (rA p (aD fx.isSome [u] [])) none B) none
  |_=>none)
 | .mQ c,v,_,_,B=>aD (AV.same c v) (some ⟨B,[],[],[]⟩) none
 | .dat t o,v,_,_,B=>(match v with
  | .agg cs=>(match FU G H t cs o B with
   |some ⟨x,[],_,B',S⟩=>some ⟨B',S,[⟨t,x⟩],[]⟩
   |_=>none)
  |_=>none)
 | .ifn,v,_,_,B=>(match v with
  | .ifc t (.agg [])=>some ⟨B,[],[⟨.n,t⟩],[]⟩
  |_=>none)
 | .sfp,v,_,_,B=>(match v with
  | .raw (.pointer none)=>(match B[B.length-1]? with
   |some _=>some ⟨B,[],[⟨.bo,false⟩],[]⟩
   |none=>none)
  | .sfp j f=>aD (N7 ((B[B.length-1]?).getD none) (some j)) (some ⟨B,[],[⟨.bo,f⟩],[]⟩) none
  | .ptr j 0=>aD (N7 ((B[B.length-1]?).getD none) (some j)) (some ⟨B,[],[⟨.bo,true⟩],[]⟩) none
  |_=>none)
 | .same,v,fx,sm,B=>aD (nvs v fx sm) (some ⟨B,[],[],[]⟩) none
def F6(G H:List Row):List Pt->List AV->List AV->List AV->xc->Option MR
 |[],vs,_,_,B=>(match vs with
  |[]=>some ⟨B,[],[],[]⟩
  |_=>none)
 |p::l,vs,fxs,sms,B=>(match vs with
  |v::vs=>(match mt G H p (aD (Xy p) v (wP G H v)) (rA p fxs) sms.head? B with
   |some r=>(match F6 G H l vs fxs.tail sms.tail r.B with
    |some q=>some ⟨q.B,r.S++q.S,r.D++q.D,r.X++q.X⟩
    |none=>none)
   |none=>none)
  |[]=>none)
end
def tL(fix:Nat->ja):List (Bool×Nat×Pt)->Bool
 |[]=>true
 |x::l=>sf x.2.2 (aD x.1 (fix x.2.1) none)&&tL fix l
theorem anO{G H:List Row}{p:Pt}{v:AV}{fx:ja}{a:Option AV}{B:xc}{r:MR}(h:mt G H p v fx a B=some r):sf p fx=true:=by
 cases p <;> first|rfl|skip
 .unfold mt at h;grind
 .unfold mt at h;grind
 .unfold mt at h;grind
def WE(G H:List Row)(look:Nat->Option AV)(fix:Nat->ja):List (Bool×Nat×Pt)->xc->Option MR
 |[],B=>some ⟨B,[],[],[]⟩
 |x::l,B=>(match (aD x.1 ((fix x.2.1).map (·.1)) (look x.2.1)) with
  |some v=>(match mt G H x.2.2 v (aD x.1 (fix x.2.1) none) none B with
   |some r=>(match WE G H look fix l r.B with
    |some q=>some ⟨q.B,r.S++q.S,r.D++q.D,r.X++q.X⟩
    |none=>none)
   |none=>none)
  |none=>none)
theorem XZ{G H:List Row}{b:Nat->Option AV}{fix:Nat->ja}:{l:List (Bool×Nat×Pt)}->{B:xc}->{r:MR}->WE G H b fix l B=some r->tL fix l=true
 |[],_,_,_=>rfl
 |x::l,B,r,h=>by
  unfold WE at h;split at h
  .split at h
   .rename_i q c;split at h
    next d a=>simp [tL,an];exact ⟨anO c,XZ a⟩
    .cases h
   .cases h
  .cases h
end
end Go.Proofs.YtcgihjbfppkcfaaGreatDoor
