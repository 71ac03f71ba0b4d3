/- Own texts for ToolShows, cut and joined by a program. -/
import Derived.Test.YtkedhpmpejhekaaGreatDoorToolShowsA
import Derived.Lib.AppendZerosOnto
import Derived.Lib.Overlaps
import Derived.Lib.AppendStr
import Derived.Lib.UnsafeStr
import Derived.Lib.Builder
import Derived.Laws.Externs
import Derived.RecoverIn
set_option linter.all false
namespace Go.Proofs.YtkedhpmpejhekaaGreatDoor
open IntKind (u8)
theorem TI.zero{P:Program}{e:TypeId}{size bytes:Nat}{z:Value}(h:TI P e size bytes z)(w:World):(zeroValue e).run P w= .ok z w:=by obtain ⟨i,hi,_,_,a⟩:=h.out;simp [zeroValue,typeInfo,hi,a]
section
variable {α : Type} {A : dD α} {e : TypeId} {M : Nat -> Prop} {w : World} {v : Value} {xs : List α} {R : x8}
theorem bK.aqu{j:Int}(h:bK A e M w v xs R)(hc:db 0 j xs.length=true):∃p:fA,QU v 0 j A.n (sl p)/\bK A e M w (sl p) (bD xs 0 j) R:=by
 obtain ⟨⟨_,u⟩,d⟩:=Bn.1 hc;have f:bD xs 0 j=xs.take j.toNat:=by simp [bD]
 rw [f];rcases h with ⟨rfl,cells,⟨t,s⟩,l⟩|⟨rfl,rfl,⟨a,rfl⟩,r⟩
 .rcases s with ⟨rfl,m⟩|⟨g,off,cap,cur,rfl,q,c,o,k,i⟩
  .have hx:xs=[]:=cp m;subst hx;have b:j=0:=by simp at d;omega
   subst b;exact ⟨(none,0,0),⟨none,0,0,rfl,by omega,by omega,by omega,by omega,rfl⟩,.inl ⟨rfl,gb.nil⟩⟩
  .refine ⟨(some ⟨g,off,none⟩,j.toNat,cap),⟨_,_,cap,rfl,by omega,u,d,c,?_⟩,.inl ⟨rfl,cells.take (j.toNat*A.n),⟨?_,.inr ⟨g,off,cap,cur,by rw [b0,c8 (by omega)];rfl,q,?_,o,k,?_⟩⟩,l.take _⟩⟩
   .show Value.slice (some ⟨g,off,none⟩) j.toNat cap=_;simp [Addr.add]
   .rw [b0,b0,t];have:j.toNat<=xs.length:=by omega
    rw [c8 (ed _ this),c8 this]
   .rw [b0];omega
   .have:j.toNat<=xs.length:=by omega
    rw [b0,c8 this,<-i,n7,c8 (ed _ this)]
 .have b:j=0:=by simp at d;omega
  subst b;refine ⟨(a,0,0),⟨a,0,0,rfl,by omega,by omega,by omega,by omega,?_⟩,.inr ⟨rfl,by simp,⟨a,rfl⟩,r⟩⟩;show Value.slice a 0 0=_;simp
theorem bK.aqD{i:Int}(k:A.n=1)(h:bK A e M w v xs R)(hc:db i (xs.length:Int) xs.length=true):∃p:fA,QU v i (xs.length:Int) A.n (sl p)/\∃R',(∀b∈R',b∈R)/\bK A e M w (sl p) (bD xs i (xs.length:Int)) R':=by
 obtain ⟨⟨o,hi⟩,_⟩:=Bn.1 hc;have l:bD xs i (xs.length:Int)=xs.drop i.toNat:=by unfold bD;rw [hW];simp
 rw [l];rcases h with ⟨rfl,cells,⟨B,y⟩,m⟩|⟨rfl,rfl,⟨a,rfl⟩,x⟩
 .rcases y with ⟨rfl,s⟩|⟨g,off,cap,cur,rfl,u,c,z,r,q⟩
  .have hx:xs=[]:=cp s;subst hx;have d:i=0:=by simp at hi;omega
   subst d;exact ⟨(none,0,0),⟨none,0,0,rfl,by omega,by omega,by omega,by omega,rfl⟩,_,λb hb=>hb,.inl ⟨rfl,gb.nil⟩⟩
  .by_cases f:cap=i.toNat
   .refine ⟨(some ⟨g,off,none⟩,0,0),⟨_,_,cap,rfl,o,hi,by omega,c,?_⟩,[],(λb hb=>by cases hb),.inr ⟨rfl,q8 (by omega),⟨_,rfl⟩,bQ.emp⟩⟩;rw [lk f];simp only [sl];congr 1 <;> omega
   .have j:(⟨g,off,none⟩:Addr).add (i.toNat*A.n)=⟨g,off+i.toNat*A.n,none⟩:=by unfold Addr.add;split <;> simp_all
    have t:i.toNat*A.n+(cap-i.toNat)*A.n=cap*A.n:=by rw [<-p8];congr 1;omega
    refine ⟨(some ⟨g,off+i.toNat*A.n,none⟩,xs.length-i.toNat,cap-i.toNat),⟨_,_,cap,rfl,o,hi,by omega,c,?_⟩,_,λb hb=>hb,.inl ⟨rfl,cells.drop (i.toNat*A.n),⟨(m.drop _).1,.inr ⟨g,off+i.toNat*A.n,cap-i.toNat,cur,by rw [cq];rfl,u,?_,by omega,⟨by have:=r.1;omega,.inr k⟩,?_⟩⟩,m.drop _⟩⟩
    .rw [j0 f];simp [sl,j]
    .rw [cq];omega
    .rw [cq,<-q,qc,mj,Nat.sub_mul]
 .have d:i=0:=by simp at hi;omega
  subst d;refine ⟨(a,0,0),⟨a,0,0,rfl,by omega,by omega,by simp,by omega,?_⟩,[],λb hb=>hb,.inr ⟨rfl,by simp,⟨a,rfl⟩,x⟩⟩;show Value.slice a 0 0=_;simp
end
section
variable {P : Program} {ρ : xb} {Q : bu} {n : Nat} {D : v7} {E : Env} {w : World} {ops : xJ} {rest : x5} {Γ : Ctx} {i : Nat}
variable {d : Tmp} {ty : TypeId} {pos : String} {af : x3}
def LY(P:Program)(t:TypeId)(name:String)(f:FuncId)(b:Bool):Prop:=((P.info? t).bind λi=>(i.methods.find? (·.name==name)).map λm=>(m.path.toList,m.func))=some ([],some (f,b))
def Reach(P:Program)(w:World)(t:TypeId)(u:Value)(name:String)(f:FuncId)(v:Value):Prop:= ∀k,(method (k+1) t u name).run P w= .ok (f,v) w
theorem LY.out{t:TypeId}{a:String}{f:FuncId}{b:Bool}(h:LY P t a f b):∃i m,P.info? t=some i/\i.methods.find? (·.name==a)=some m/\m.path.toList=[]/\m.func=some (f,b):=by
 unfold LY at h;cases hi:P.info? t with
 |none=>rw [hi] at h;cases h
 |some i=>
  rw [hi] at h;simp only [b7] at h;cases c:i.methods.find? (·.name==a) with
  |none=>rw [c] at h;cases h
  |some m=>
   rw [c] at h;simp only [l7,b8,p0] at h;exact ⟨i,m,rfl,c,h.1,h.2⟩
theorem Reach.ptr{t e:TypeId}{u:Value}{a:String}{f:FuncId}(h:LY P t a f true)(b:P.underlying t=some (.pointer e)):Reach P w t u a f u:=λk=>by obtain ⟨i,m,hi,c,hp,d⟩:=h.out;unfold method;simp [typeInfo,hi,c,hp,d,follow,receiverAt,run_underlying b,Place.get]
theorem Reach.load{t e:TypeId}{a:Addr}{u:Value}{b:String}{f:FuncId}(h:LY P t b f false)(d:P.underlying t=some (.pointer e))(j:(loadVar e a).run P w= .ok u w):Reach P w t (.pointer (some a)) b f u:=λk=>by
 obtain ⟨i,m,hi,g,hp,l⟩:=h.out;have c:m.path= #[]:=by simpa using hp
 have e:∀s:String,Builtin.ssaWrapNilChk_ #[t] t #[.pointer (some a),strVal "",strVal s]=pure (.pointer (some a)):=λ_=>rfl;unfold method;simp [typeInfo,hi,g,l,c,follow,receiverAt,run_underlying d,Place.get,e,asAddr,j]
theorem alP{g:Bool}{f:FuncId}{r:Operand}{t:TypeId}{u u':Value}{b:String}{vs:w9}{xs:wo}{tys:Array TypeId}{dst:xc}{gd:Option (Nat×Bool)}
  (k:Enters P f) (i:ar E g r (.iface t u)) (j:g=true->Reach P w t u b f u') (c:gG E g xs vs) {a:Act} (e:Fits n E a) (d:g=true):
  (execOp a.eval ⟨dst,.call ⟨.invoke r b,xs.toArray,tys⟩,ty,pos,af,gd⟩).run P w= .ok (.enter f (u'::vs).toArray) w:=by
 have s:(Array.map a.eval xs.toArray)=vs.toArray:=by simp [c.map e d]
 have l:=k (u'::vs).toArray w;have h:=j d (P.types.size+99);have q:P.types.size+99+1=P.types.size+Made.depth:=rfl;rw [q] at h;have p:(#[Value.iface t u]++vs.toArray)[0]? =some (Value.iface t u):=by simp
 have o:(#[Value.iface t u]++vs.toArray).extract 1 (#[Value.iface t u]++vs.toArray).size=vs.toArray:=by simp
 have m:(#[u']++vs.toArray)=(u'::vs).toArray:=by simp
 simp only [execOp,resolve,i n a e d,s,Sem.run_bind,Sem.run_pure,Result.andThen_ok,invoke,p,o,callMethod,run_program,h,m,l]
end
section
variable {P : Program} {w : World}
theorem SP{α:Type}{A:dD α}{M:Nat->Prop}(t g e:TypeId)(i:TypeInfo)(z:Value)(V:P.underlying t=some (.slice e))(hi:P.info? e=some i)(T:i.zero=some z)(H:i.size=A.n)
  (s:z.cells.size=A.n) {p:Option Addr} {u:Value} {xs ys:List α} (hx:bQ A M w (.slice p xs.length xs.length) xs) (U:bQ A M w u ys) (o:ys≠[]) (a:aG (xs.length+ys.length) i.bytes=true):
  ∃v' w',(Builtin.append_ #[t,t] g #[.slice p xs.length xs.length,u]).run P w= .ok v' w'/\Ext w w'/\(∀b∈dv v',b<w'.heap.size/\w.heap.size<=b)/\(∀M',Mv M w M' w'->gb A e M' w' v' (xs++ys)):=by
 by_cases k:xs=[]
 .subst k;rcases rZ t g e i z V hi T H s hx U (by simpa using a) with ⟨_,h⟩|h
  .exact absurd h o
  .simpa using h
 simp only [aG,ae] at a;have O:=cj a.1;have N:=cj a.2;have hlx:0<xs.length:=List.length_pos_iff.2 k;have hly:0<ys.length:=List.length_pos_iff.2 o;rcases hx with ⟨⟨a0,R⟩,Q⟩|⟨b,off,cap,cs,e',fr,R,hMb,hb,hc,Z,q⟩
 .exact absurd Q k
 rcases U with ⟨_,Q⟩|⟨Y,f,C,S,e2,fr2,rfl,X,B,hc2,W,d⟩
 .exact absurd Q o
 simp only [Value.slice.injEq] at R;obtain ⟨rfl,_,y⟩:=R;subst y;have c:∀{b off cap:Nat} {cs:w5} {e':TypeId} {fr:Nat×Nat} {l:List α},w.heap[b]? =some (.cells cs e' fr)->∀j x,((cs.toList.drop off).take (l.length*A.n))[j]? =some x->w.cell? ((⟨b,off,none⟩:Addr).add j)=some x:=by
  intro b off cap cs e' fr l hb j x r;have key:bM w ⟨b,off,none⟩ ((cs.toList.drop off).take (l.length*A.n)):=⟨rfl,cs,e',fr,hb,λj u r=>by
   rw [kR] at r;split at r
   .simpa [j5] using r
   .cases r⟩
  exact key.cell r
 generalize K:(cs.toList.drop off).take (xs.length*A.n)=E at q;generalize J:(S.toList.drop f).take (ys.length*A.n)=D at d;have G:∀j x,E[j]? =some x->w.cell? ((⟨b,off,none⟩:Addr).add j)=some x:=by rw [<-K];exact c (cap:=0) hb
 have F:∀j x,D[j]? =some x->w.cell? ((⟨Y,f,none⟩:Addr).add j)=some x:=by rw [<-J];exact c (cap:=0) B
 have I:=grownCap_ge w (xs.length+ys.length) xs.length e;have L:grownCap w (xs.length+ys.length) xs.length e<=maxLen:=grownCap_le_maxLen w _ _ e (by simpa [maxLen] using N);have v:=run_append_grow (P:=P) w t g e i z V hi T ⟨b,off,none⟩ xs.length xs.length E (by rw [H];exact q.1) G ⟨Y,f,none⟩ ys.length C D (by rw [H];exact d.1) F (by omega) (by omega) (growslice_fits (by omega) O);refine ⟨_,_,v,⟨rfl,rfl,rfl,by simp,λb hb=>heap_alloc_old w.drew _ hb⟩,λb hb=>?_,λM' m=>⟨E++D,?_,(q.append d).mv m⟩⟩
 .have:b=w.heap.size:=by simpa [dv,Value.ownBlock] using hb
  subst this;exact ⟨by simp,bb _⟩
 .refine .of (b:=0) ⟨by rw [b9,q.1,d.1,b9,p8],.inr ⟨w.heap.size,_,_,by rw [b9],qd _,heap_alloc_new w.drew _,by rw [b9];exact I,L,?_,?_⟩⟩
  .simp only [qo,mi,size_zeroCells,s,q.1,d.1,<-p8];congr 1;omega
  .have hl:(E++D).length=(xs++ys).length*A.n:=by rw [b9,q.1,d.1,b9,p8]
   rw [<-hl];simp only [qT];exact q0
end
section
variable {P : Program} {ρ : xb} {Q : bu} {n : Nat} {D : v7} {E : Env} {w : World} {ops : xJ} {rest : x5} {Γ : Ctx}
variable {d : Tmp} {ty : TypeId} {pos : String} {af : x3}
theorem bQ.anF{α:Type}{A:dD α}{M:Nat->Prop}{v:Value}{xs:List α}{i j:Int}(h:bQ A M w v xs)(hc:jO i j j xs.length=true):
  ∃p:Option Addr,MO v i j j A.n (sl (p,(bD xs i j).length,(bD xs i j).length))/\bQ A M w (sl (p,(bD xs i j).length,(bD xs i j).length)) (bD xs i j):=by
 obtain ⟨p,b,a⟩:=bQ.aqv (g:=true) (λ_=>h) (λ_=>hc);have b:=b rfl;have a:=a rfl;obtain ⟨s,len,cap,hv,z,y,x,u,t,e⟩:=b;obtain ⟨o,pl,m⟩:=p;simp only [sl,Value.slice.injEq] at e;obtain ⟨r,k,f⟩:=e;obtain ⟨B,l,d⟩:=a.len;simp only [sl,Value.slice.injEq] at d;have c:pl=(bD xs i j).length:=d.2.1;have q:m=(bD xs i j).length:=by rw [f,<-c,k]
 subst q;rw [c] at a;refine ⟨o,⟨s,len,cap,hv,z,y,x,u,t,?_⟩,a⟩;simp only [sl,Value.slice.injEq];exact ⟨r,by rw [<-c];exact k,f⟩
end
section
variable {P : Program} {ρ : xb} {Q : bu} {n : Nat} {D : v7} {E : Env} {w : World} {ops : xJ} {rest : x5} {Γ : Ctx} {g : Bool}
variable {d d2 : Tmp} {ty ty2 : TypeId} {pos pos2 : String} {af af2 : x3}
end
section
variable {P : Program} {ρ : xb} {Q : bu} {n : Nat} {D : v7} {E : Env} {w : World} {ops : xJ} {rest : x5} {Γ : Ctx}
variable {ty : TypeId} {pos : String} {af : x3}
end
variable {α : Type} {A : dD α} {R : x8} {b : Nat} {e : TypeId} {v : Value} {vs : w9} {x : Operand} {z : Value}
def lX{α:Type}(xs:List α)(i:Int)(ys:List α):List α:=xs.take i.toNat++ys++xs.drop i.toNat
def QE(i:Int)(n:Nat):Bool:=decide (0<=i)&&decide (i<=n)
theorem alB{i:Int}{n:Nat}:QE i n=true↔0<=i/\i<=n:=by simp [QE]
section
variable {P : Program} {E : Env} {w : World} {g : Bool}
variable {dst : xc} {ty : TypeId} {pos : String} {af : x3} {gd : vb}
theorem rv{t ty e k bytes:Nat}(l:P.underlying t=some (.slice e))(g:TI P e k bytes z){b o dl dc:Nat}{cur:w5}{e':TypeId}{a:Addr}{ls sc:Nat}{cs:w9}
  (n:cs.length=Nat.min ls dl*k) (d:∀j v,cs[j]? =some v->w.cell? (a.add j)=some v) (p:w.heap[b]? =some (.cells cur e' (0,0))) (f:o+cs.length<=cur.size) (q:∀v∈cs,v.oneCell'=true):
  (Builtin.copy_ #[t,t] ty #[.slice (some ⟨b,o,none⟩) dl dc,.slice (some a) ls sc]).run P w= .ok (goInt (Nat.min ls dl)) (w.setRow b (cur.toList.take o++cs++cur.toList.drop (o+cs.length)).toArray):=by
 obtain ⟨i,hi,m,_,_⟩:=g.out;have h:=run_loadCells_list (P:=P) w a cs d;rw [n] at h;have c:=run_storeCells_at (P:=P) b o e' cs 0 cur w p (by simpa using f) q;simp only [qj] at c;simp [Builtin.copy_,run_underlying l,sizeOf,typeInfo,hi,m,Builtin.lenOf,Builtin.firstCells,h,c]
theorem Yn{a:Option Addr}{n c:Nat}{t:TypeId}(b:P.underlying t=some (.slice e))(hx:ar E g x (.slice a n c)):
  bg P E g ⟨dst,.call ⟨.builtin .cap,#[x],#[t]⟩,ty,pos,af,gd⟩ w (.int .i64 c):=λn' h f d=>by
 simp [execOp,resolve,invoke,builtin,hx n' h f d,Builtin.cap_,run_underlying b,goInt]
theorem my{x y:Operand}{b o n c i k bytes:Nat}{d:IntKind}{z:Value}{t e:TypeId}(h:P.underlying t=some (.slice e))(a:TI P e k bytes z)(hx:ar E g x (.slice (some ⟨b,o,none⟩) n c))(f:ar E g y (.int d (i:Int)))
  (q:i<=n) (j:n<=c) (p:i<c):bg P E g ⟨dst,.slice t x (some y) none none,ty,pos,af,gd⟩ w (.slice (some ⟨b,o+i*k,none⟩) (n-i) (c-i)):=by
 refine DG (lo:=some y) (hi:=none) h a hx (λ_=>⟨_,_,rfl⟩) ⟨_,f⟩ rfl (λ_=>⟨_,_,_,rfl,by omega,by omega,Int.le_refl _,j,?_⟩);have m:(i:Int).toNat=i:=by omega
 have l:((n:Nat):Int).toNat=n:=by omega
 rw [m,l,j0 (by omega)];simp [Addr.add]
theorem adq{x y:Operand}{a:Option Addr}{n c j k bytes:Nat}{m:IntKind}{z:Value}{t e:TypeId}(l:P.underlying t=some (.slice e))(h:TI P e k bytes z)(hx:ar E g x (.slice a n c))(i:ar E g y (.int m (j:Int)))
  (p:j<=c):bg P E g ⟨dst,.slice t x none (some y) none,ty,pos,af,gd⟩ w (.slice a j c):=by
 obtain ⟨q,hi,r,_,_⟩:=h.out;intro n' f d b;have s:((j:Nat):Int).toNat=j:=by omega
 by_cases hc:c=0
 .subst hc;have o:j=0:=by omega
  subst o;simp [execOp,hx n' f d b,i n' f d b,Instr.sliceAt,Instr.slice,Instr.sliceBounds,Instr.sliceBound,asIntOf,run_underlying l,sizeOf,typeInfo,hi]
 .cases a <;> simp [execOp,hx n' f d b,i n' f d b,Instr.sliceAt,Instr.slice,Instr.sliceBounds,Instr.sliceBound,asIntOf,run_underlying l,sizeOf,typeInfo,hi,p,Addr.add]
theorem ahk{f:FuncId}{xs:wo}{tys:Array TypeId}(a:gG E g xs vs)(hc:(callFunc f vs.toArray).run P w= .ok (.value v) w):
  bg P E g ⟨dst,.call ⟨.value (.func f),xs.toArray,tys⟩,ty,pos,af,gd⟩ w v:=λn' e c b=>by
 have d:(Array.map e.eval xs.toArray)=vs.toArray:=by simp [a.map c b]
 simp only [execOp,resolve,Act.eval,Deferred.ofValue,d,Sem.run_bind,Sem.run_pure,Result.andThen_ok,invoke];simpa using hc
theorem OY{y:Operand}{t t':TypeId}{u r:Value}{w':World}(hx:ar E true x u)(c:ar E true y v)(d:(Builtin.append_ #[t,t'] ty #[u,v]).run P w= .ok r w'):
  kM P E ⟨dst,.call ⟨.builtin .append,#[x,y],#[t,t']⟩,ty,pos,af,gd⟩ w r w':=λn a b=>by simp [execOp,resolve,invoke,builtin,hx n a b rfl,c n a b rfl,d]
theorem xE{y:Operand}{t t':TypeId}{u r:Value}{w':World}(hx:ar E true x u)(c:ar E true y v)(d:(Builtin.copy_ #[t,t'] ty #[u,v]).run P w= .ok r w'):
  kM P E ⟨dst,.call ⟨.builtin .copy,#[x,y],#[t,t']⟩,ty,pos,af,gd⟩ w r w':=λn a b=>by simp [execOp,resolve,invoke,builtin,hx n a b rfl,c n a b rfl,d]
end
section
variable {w : World}
theorem cell_of_heap{cur:w5}{fr:Nat×Nat}(hb:w.heap[b]? =some (.cells cur e fr))(o:Nat)(l:w9)(c:l=(cur.toList.drop o).take l.length):∀j v,l[j]? =some v->w.cell? ((⟨b,o,none⟩:Addr).add j)=some v:=by
 intro j v a;have key:bM w ⟨b,o,none⟩ l:=⟨rfl,cur,e,fr,hb,λj u a=>by
  rw [c,kR] at a;split at a
  .simpa [j5] using a
  .cases a⟩
 exact key.cell a
theorem js.trans{C:x8}{a b c:World}(h:js C a b)(k:js C b c):js C a c:=⟨k.os.trans h.os,k.tape.trans h.tape,k.output.trans h.output,cg h.size k.size,λi hi d=>(k.block i (dk hi h.size) d).trans (h.block i hi d)⟩
theorem uO(b:Nat)(row:w5):js [b] w (w.setRow b row):=⟨rfl,rfl,rfl,by simp,λc _ a=>setRow_other w b c _ (by simpa using a)⟩
theorem ajO{l:w9}{a n c:Nat}(ha:a<=n)(hb:vs.length=b)(hc:n+b<=c)(j:l.length=c):
  let d:=l.take (a+b)++(l.drop a).take (n-a)++l.drop (a+b+((l.drop a).take (n-a)).length);let e:=d.take a++vs++d.drop (a+vs.length)
  d.length=c/\e.length=c/\e.take (n+b)=(l.take n).take a++vs++(l.take n).drop a:=by
 intro d e;have i:((l.drop a).take (n-a)).length=n-a:=by rw [b0,cq];omega
 have f:d.length=c:=by simp only [d,b9,b0,cq,i];omega
 have h:e.length=c:=by simp only [e,b9,b0,cq,f];omega
 refine ⟨f,h,?_⟩;have t1:d.take a=(l.take n).take a:=by simp only [d];rw [aO,pc (by rw [b0];omega),n7,n7,c8 (by omega),c8 ha]
 have t2:(d.drop (a+vs.length)).take (n-a)=(l.take n).drop a:=by simp only [d];rw [aO,rM,hb];rw [eF (by rw [b0];omega),mo,b0,c8 (by omega),Nat.sub_self,l9,pc (by omega),hW (by omega),qc]
 simp only [e];rw [t1];have g:((l.take n).take a++vs).length=a+b:=by rw [b9,b0,b0];omega
 rw [qQ,hW (by omega),g,show n+b-(a+b)=n-a by omega,t2]
theorem akv{l z:w9}{a n:Nat}(ha:a<=n)(hb:vs.length=b)(g:l.length=n)(j:n+b<=a+z.length):
  let c:=l.take a++z;let d:=c.take a++vs++c.drop (a+vs.length);let e:=d.take (a+b)++l.drop a++d.drop (a+b+(l.drop a).length)
  d.length=c.length/\e.length=c.length/\e.take (n+b)=l.take a++vs++l.drop a:=by
 intro c d e;have k:c.length=a+z.length:=by simp only [c,b9,b0];omega
 have hd:(l.drop a).length=n-a:=by rw [cq,g]
 have i:d.length=c.length:=by simp only [d,b9,b0,cq];omega
 have h:e.length=c.length:=by simp only [e,b9,b0,hd,cq];omega
 refine ⟨i,h,?_⟩;have f:c.take a=l.take a:=by simp only [c];rw [pc (by rw [b0];omega),n7,Nat.min_self]
 have t1:d.take (a+b)=l.take a++vs:=by
  simp only [d];rw [f];have:(l.take a++vs).length=a+b:=by rw [b9,b0];omega
  rw [pc (by omega),hW (by omega)]
 simp only [e];rw [t1];have:(l.take a++vs++l.drop a).length=n+b:=by rw [b9,b9,b0,hd];omega
 rw [pc (by omega),hW (by omega)]
end
section
variable {P : Program} {w : World}
theorem agl{M:Nat->Prop}{u:Value}{t ty:TypeId}{bytes:Nat}(s:P.underlying t=some (.slice e))(k:TI P e A.n bytes z)
  (d:z.cells.size=A.n) (i:0<A.n) {xs ys:List α} (l:bK A e M w v xs R) (f:bQ A M w u ys) (C:∀b∈R,M b) (a:aG (xs.length+ys.length) bytes=true):
  ∃c R' w',(Builtin.append_ #[t,t] ty #[v,u]).run P w= .ok c w'/\js R w w'/\(∀b∈R',b<w'.heap.size/\(b∈R\/w.heap.size<=b))/\∀M',Mv M w M' w'->bK A e M' w' c (xs++ys) R':=by
 obtain ⟨q,j,x,o,r⟩:=k.out;subst o;rcases l with ⟨rfl,l⟩|⟨rfl,rfl,⟨a0,rfl⟩,g⟩
 .obtain ⟨c,w',h,E,B,p⟩:=GQ t ty e q z s j r x d l f C a i;exact ⟨c,dv c,w',h,E,B,λM' m=>bK.of (p M' m)⟩
 .rcases rZ t ty e q z s j r x d g f (by simpa using a) with ⟨h,rfl⟩|⟨c,w',h,D,y,p⟩
  .exact ⟨_,[],w,h,(Ext.refl w).rz _,(λb hb=>by cases hb),λM' m=>bK.empty (g.mv m)⟩
  .exact ⟨c,dv c,w',h,D.rz _,(λb hb=>⟨(y b hb).1,.inr (y b hb).2⟩),λM' m=>bK.of (by simpa using p M' m)⟩
theorem bK.shape{M:Nat->Prop}{xs:List α}(h:bK A e M w v xs R):∃p c,v= .slice p xs.length c/\xs.length<=c:=by
 rcases h with ⟨_,cells,⟨_,b⟩,_⟩|⟨_,rfl,⟨a,rfl⟩,_⟩
 .rcases b with ⟨rfl,d⟩|⟨g,off,cap,cur,rfl,_,hc,_⟩
  .exact ⟨none,0,by rw [d],by omega⟩
  .exact ⟨_,_,rfl,hc⟩
 .exact ⟨a,0,rfl,bb _⟩
theorem bK.row{M:Nat->Prop}{xs:List α}(h:bK A e M w v xs R)(hx:xs≠[]):
  ∃b off c cur,v= .slice (some ⟨b,off,none⟩) xs.length c/\R=[b]/\w.heap[b]? =some (.cells cur e (0,0))/\xs.length<=c/\c<=maxLen/\(off+c*A.n=cur.size/\(off=0\/A.n=1))/\cL A M w ((cur.toList.drop off).take (xs.length*A.n)) xs:=by
 rcases h with ⟨k,cells,⟨_,l⟩,f⟩|⟨_,h,_⟩
 .rcases l with ⟨_,m⟩|⟨g,off,cap,cur,rfl,j,hc,i,d,a⟩
  .exact absurd (cp m) hx
  .exact ⟨g,off,cap,cur,rfl,by rw [k];rfl,j,hc,i,d,by rw [a];exact f⟩
 .exact absurd h hx
theorem bK.mk_{M:Nat->Prop}{xs:List α}{off c:Nat}{cur:w5}(g:w.heap[b]? =some (.cells cur e (0,0)))(hc:xs.length<=c)(f:c<=maxLen)(d:off+c*A.n=cur.size/\(off=0\/A.n=1))(a:cL A M w ((cur.toList.drop off).take (xs.length*A.n)) xs):
  bK A e M w (.slice (some ⟨b,off,none⟩) xs.length c) xs [b]:= .inl ⟨rfl,_,⟨a.1,.inr ⟨b,off,c,cur,rfl,g,hc,f,d,rfl⟩⟩,a⟩
theorem bK.ap4{M:Nat->Prop}{xs:List α}(h:bK A e M w v xs R)(j:A.n≠1)(hx:xs≠[]):
  ∃b c cur,v= .slice (some ⟨b,0,none⟩) xs.length c/\R=[b]/\w.heap[b]? =some (.cells cur e (0,0))/\xs.length<=c/\c<=maxLen/\cur.size=c*A.n/\cL A M w (cur.toList.take (xs.length*A.n)) xs:=by
 obtain ⟨b,off,c,cur,hv,i,g,hc,f,a,d⟩:=h.row hx;have k:off=0:=a.2.resolve_right j;subst k;exact ⟨b,c,cur,hv,i,g,hc,f,by have:=a.1;omega,by simpa using d⟩
theorem bK.mk0{M:Nat->Prop}{xs:List α}{c:Nat}{cur:w5}(f:w.heap[b]? =some (.cells cur e (0,0)))(hc:xs.length<=c)(d:c<=maxLen)(g:cur.size=c*A.n)(a:cL A M w (cur.toList.take (xs.length*A.n)) xs):
  bK A e M w (.slice (some ⟨b,0,none⟩) xs.length c) xs [b]:=bK.mk_ f hc d ⟨by omega,.inl rfl⟩ (by simpa using a)
theorem alh{α:Type}{xs ys:List α}{i:Nat}(h:i<=xs.length):(lX xs (i:Int) ys).length=xs.length+ys.length:=by unfold lX;simp only [b9,b0,cq,qq];omega
theorem akF{xs ys:List α}:lX xs (xs.length:Int) ys=xs++ys:=by unfold lX;simp
theorem af7{α:Type}{A:dD α}{M:Nat->Prop}{a b:w9}{xs ys:List α}{i:Nat}(hx:cL A M w a xs)(c:cL A M w b ys):cL A M w (a.take (i*A.n)++b++a.drop (i*A.n)) (lX xs (i:Int) ys):=by unfold lX;rw [qq];exact ((hx.take i).append c).append (hx.drop i)
end
variable {E' : Env} {ps : Array Tmp} {r : LoopState -> Option Code -> Loop}
def sL(b:Nat)(o:Obj):Item where
 own:=[b]
 P _ w:=w.heap[b]? =some o
 lt h c hc:=by
  have:c=b:=by simpa using hc
  subst this;exact (Array.getElem?_eq_some_iff.1 h).1
 cK h _ k _:=(k b (by simp)).trans h
 cF:=false
 hp h:=by cases h
def pack{γ:Type}(Γ:γ->Ctx)(R:x8):Item where
 own:=R
 P M w:=(∀b∈R,b<w.heap.size)/\∃g,(∀b,(Γ g).M b↔b∈R)/\(∀it,it∈Γ g->it.P M w)/\
  (∀(i j:Nat) (it jt:Item),(Γ g)[i]? =some it->(Γ g)[j]? =some jt->i≠j->∀b,b∈it.own->b∉jt.own)
 lt h:=h.1
 cK {M M' w w'} h m k e:=by obtain ⟨h1,g,h2,h3,h4⟩:=h;exact ⟨λb hb=>dk (h1 b hb) m.1,g,h2,λit hi=>it.cK (h3 it hi) m (λb hb=>k b ((h2 b).1 ⟨it,hi,hb⟩)) e,h4⟩
 cF:=false
 hp h:=by cases h
structure Rec(n:Nat)(E:Env)(ps:Array Tmp)(assign body:Code)(b:Nat)(r:LoopState->Option Code->Loop):Prop where
 ex:∃fn tmps,Fits n E { tmps:=tmps,defers:=[] }/\r=λst pe=>{ state:=st,pending:=pe,fn,tmps,params:=ps,assign,body,defers:=b }
abbrev dz(l:Nat)(r:LoopState->Option Code->Loop)(st:LoopState)(pe:Option Code):Item:=sL l (.loop (r st pe))
def mk(ds:x8):v7:=ds.map λb=>{ target:= .collected b,args:= #[] }
def dJ(ds:x8):Item where
 own:=ds
 P _ w:=ds.Nodup/\∀b∈ds,w.heap[b]? =some (.deferred (some []))
 lt h b hb:=(Array.getElem?_eq_some_iff.1 (h.2 b hb)).1
 cK h _ k _:=⟨h.1,λb hb=>(k b hb).trans (h.2 b hb)⟩
 cF:=false
 hp h:=by cases h
section
variable {P : Program} {n : Nat} {D : v7} {E : Env} {w : World} {Γ : Ctx} {Q : bu}
theorem Sat.anO(a:Sat Γ w):Sat (dJ []::Γ) w:=a.push (Ext.refl w) (λb hb=>by cases hb) (λ_ _=>⟨List.nodup_nil,λb hb=>by cases hb⟩)
theorem Sat.PH{b:Nat}{ds:x8}(e:Sat (sL b (.deferred (some []))::dJ ds::Γ) w):Sat (dJ (b::ds)::Γ) w:=by
 have n:w.heap[b]? =some (.deferred (some [])):=e.at_ (i:=0) rfl;have k:ds.Nodup/\∀b∈ds,w.heap[b]? =some (.deferred (some [])):=e.at_ (i:=1) rfl;have m:b∉ds:=e.sep 0 1 _ _ rfl rfl (by omega) b (by simp [sL]);have l:∀c,Ctx.M (sL b (.deferred (some []))::dJ ds::Γ) c↔Ctx.M (dJ (b::ds)::Γ) c:=λc=>by
  simp only [Ctx.AM,sL,dJ,qC,List.not_mem_nil,or_false];constructor
  .rintro (h|h|h)
   .exact .inl (.inl h)
   .exact .inl (.inr h)
   .exact .inr h
  .rintro ((h|h)|h)
   .exact .inl h
   .exact .inr (.inl h)
   .exact .inr (.inr h)
 have mv:Mv (Ctx.M (sL b (.deferred (some []))::dJ ds::Γ)) w (Ctx.M (dJ (b::ds)::Γ)) w:=Mv.weaken w (λc hc=>(l c).2 hc);have a:∀(j:Nat) (jt:Item) (c:Nat),Γ[j]? =some jt->c∈b::ds->c∉jt.own:=λj jt c d hc=>by
  rcases List.mem_cons.1 hc with rfl|hc
  .exact e.sep 0 (j+2) _ jt rfl (by simpa using d) (by omega) c (by simp [sL])
  .exact e.sep 1 (j+2) _ jt rfl (by simpa using d) (by omega) c hc
 refine ⟨λit hi=>?_,λi j it jt hi d g c hc f=>?_⟩
 .rcases List.mem_cons.1 hi with rfl|hi
  .refine ⟨List.nodup_cons.2 ⟨m,k.1⟩,λc hc=>?_⟩;rcases List.mem_cons.1 hc with rfl|hc
   .exact n
   .exact k.2 c hc
  .exact it.cK (e.all it (aW _ (aW _ hi))) mv (λ_ _=>rfl) (fO.refl w)
 .cases i with
  |zero=>
   simp only [ec,b8] at hi;subst hi;cases j with
   |zero=>exact g rfl
   |succ j=>simp only [cf] at d;exact a j jt c d hc f
  |succ i=>
   simp only [cf] at hi;cases j with
   |zero=>
    simp only [ec,b8] at d;subst d;exact a i it c hi f hc
   |succ j=>
    simp only [cf] at d;exact e.sep (i+2) (j+2) it jt (by simpa using hi) (by simpa using d) (by omega) c hc f
theorem Sat.putObj{i b:Nat}{o d:Obj}(g:Sat Γ w)(hi:Γ[i]? =some (sL b o)):Sat (Γ.set i (sL b d)) (w.putObj b d):=by
 have hb:w.heap[b]? =some o:=g.at_ hi;have a:=(Array.getElem?_eq_some_iff.1 hb).1;have f:(w.putObj b d).heap[b]? =some d:=World.putObj_heap_same a;refine g.nd hi ⟨rfl,rfl,rfl,by simp,λc _ e=>World.putObj_heap_other (by simpa [sL] using e)⟩ (λc hc=>?_) (λ_ _ _=>f);have:c=b:=by simpa [sL] using hc
 subst this;exact ⟨by simpa using a,.inl (by simp [sL])⟩
def j9(P:Program)(ρ:xb)(l n:Nat)(D:v7)(Q:bu)(E:Env)(_v:Value)(w:World):Prop:=
 ∃j w',(Instr.endLoop l).run P w= .ok j w'/\match j with
  |none=>At Q .normal n D E w'
  |some c=>WC P ρ c Q n D E w'
theorem j9.go{l:Nat}{assign body:Code}(c:Rec n E' ps assign body b r)(a:Sat (dz l r .ready none::Γ) w)
  (h:∀w',Sat Γ w'->At Q .normal n D E w'):j9 P none l n D Q E v w:=by
 obtain ⟨fn,tmps,_,rfl⟩:=c.ex;have d:w.heap[l]? =some _:=a.at_ (i:=0) rfl;refine ⟨_,_,run_endLoop d (by simp),?_⟩;refine h _ ((a.putObj (i:=0) rfl).re 1 [] rfl)
theorem j9.jump{l:Nat}{assign body:Code}{c:Code}(d:Rec n E' ps assign body b r)(a:Sat (dz l r .done (some c)::Γ) w)
  (h:∀w',Sat Γ w'->WC P none c Q n D E w'):j9 P none l n D Q E v w:=by
 obtain ⟨fn,tmps,_,rfl⟩:=d.ex;have e:w.heap[l]? =some _:=a.at_ (i:=0) rfl;refine ⟨_,_,run_endLoop e (by simp),?_⟩;exact h _ ((a.putObj (i:=0) rfl).re 1 [] rfl)
def Yld(P:Program)(l:Nat)(vs:w9)(w:World)(S:Value->World->Prop):Prop:=
 ∃fn tmps assign body,(Instr.yield l vs.toArray).run P w= .ok (.round l fn tmps assign body) w/\RoundIn (FW none) 0 P l fn tmps assign body w (RE S (λ_ _=>False))
def abb:List Tmp->w9->Env->Env
 |p::ps,v::vs,E=>abb ps vs ((p,true,v)::E)
 |_,_,E=>E
theorem aaR:∀(ps:List Tmp) (vs:w9) {E:Env} {tmps:w5},ps.all (λp=>Nat.blt p n)=true->Fits n E { tmps:=tmps,defers:=[] }->
  Fits n (abb ps vs E) { tmps:=(ps.zip vs).foldl (λt (p,v)=>t.setIfInBounds p v) tmps,defers:=[] }
 |[],_,_,_,_,h=>h
 |_::_,[],_,_,_,h=>h
 |p::ps,v::vs,E,tmps,hp,h=>by simp only [qt,ae] at hp;have:=h.put (g:=true) (v:=v) hp.1;exact aaR ps vs hp.2 this
def akj(P:Program)(l:Nat)(body:Code)(Q:bu):Act->World->Prop:=λa w=>∃w',(Instr.beginRound l).run P w= .ok () w'/\body.wpIn (FW (some l)) 0 P Q a w'
theorem ap0{l:Nat}{ps:List Tmp}{assign body:Code}{S:Value->World->Prop}
  (g:Rec n E ps.toArray assign body b r) (f:Sat (dz l r .ready none::Γ) w) (j:Nat.beq vs.length ps.length=true) (hp:ps.all (λp=>Nat.blt p n)=true)
  (h:WC P (some l) assign (Exit.then (akj P l body (roundPost P l (RE S (λ_ _=>False)))) (λ_ _ _=>False)) n [] (abb ps vs E) w):Yld P l vs w S:=by
 obtain ⟨fn,tmps,k,rfl⟩:=g.ex;have m:w.heap[l]? =some _:=f.at_ (i:=0) rfl;have c:vs.length=ps.length:=ah j;refine ⟨fn,_,assign,body,run_yield m (by simp [c]),roundIn_of_wpIn trivial ?_⟩;have d:=aaR ps vs hp k;have e:((ps.toArray.zip vs.toArray).foldl (λtmps (t,a)=>tmps.setIfInBounds t a) tmps)=((ps.zip vs).foldl (λt (p,v)=>t.setIfInBounds p v) tmps):=by simp
 have:=h _ d rfl;rw [<-e] at this;exact this
theorem ak9{l i:Nat}{assign body:Code}(d:Rec n E' ps assign body b r)(c:Sat Γ w)(hi:Γ[i]? =some (dz l r .ready none))
  (h:∀w',Sat (Γ.set i (dz l r .busy none)) w'->WC P (some l) body Q n D E w'):At (Exit.then (akj P l body Q) (λ_ _ _=>False)) .normal n D E w:=λa e hd=>by
 obtain ⟨fn,tmps,_,rfl⟩:=d.ex;have f:w.heap[l]? =some _:=c.at_ hi;exact ⟨_,run_beginRound f rfl,h _ (c.putObj hi) a e hd⟩
theorem amS{l i:Nat}{assign body:Code}{S:Value->World->Prop}{Sp:vA->World->Prop}(d:Rec n E' ps assign body b r)(c:Sat Γ w)(hi:Γ[i]? =some (dz l r .busy none))
  (h:∀w',Sat (Γ.set i (dz l r .ready none)) w'->S (.bool true) w'):At (roundPost P l (RE S Sp)) .normal n D E w:=λa f hd=>by
 obtain ⟨fn,tmps,_,rfl⟩:=d.ex;have e:w.heap[l]? =some _:=c.at_ hi;exact ⟨_,_,run_endRound none e,h _ (c.putObj hi)⟩
theorem abT{l i:Nat}{assign body:Code}{S:Value->World->Prop}{Sp:vA->World->Prop}(d:Rec n E' ps assign body b r)(c:Sat Γ w)(hi:Γ[i]? =some (dz l r .busy none))
  (h:∀w',Sat (Γ.set i (dz l r .done (some .ret))) w'->S (.bool false) w'):At (roundPost P l (RE S Sp)) .ret n D E w:=λa f hd=>by
 obtain ⟨fn,tmps,_,rfl⟩:=d.ex;have e:w.heap[l]? =some _:=c.at_ hi;exact ⟨_,_,run_endRound (some .ret) e,h _ (c.putObj hi)⟩
theorem Zd{l i k:Nat}{assign body:Code}{S:Value->World->Prop}{Sp:vA->World->Prop}(d:Rec n E' ps assign body b r)(c:Sat Γ w)(hi:Γ[i]? =some (dz l r .busy none))
  (h:∀w',Sat (Γ.set i (dz l r .done (some (.exit k)))) w'->S (.bool false) w'):At (roundPost P l (RE S Sp)) (.exit k) n D E w:=λa f hd=>by
 obtain ⟨fn,tmps,_,rfl⟩:=d.ex;have e:w.heap[l]? =some _:=c.at_ hi;exact ⟨_,_,run_endRound (some (.exit k)) e,h _ (c.putObj hi)⟩
theorem ZV{l i k:Nat}{assign body:Code}{S:Value->World->Prop}{Sp:vA->World->Prop}(d:Rec n E' ps assign body b r)(c:Sat Γ w)(hi:Γ[i]? =some (dz l r .busy none))
  (h:∀w',Sat (Γ.set i (dz l r .done (some (.goto k)))) w'->S (.bool false) w'):At (roundPost P l (RE S Sp)) (.goto k) n D E w:=λa f hd=>by
 obtain ⟨fn,tmps,_,rfl⟩:=d.ex;have e:w.heap[l]? =some _:=c.at_ hi;exact ⟨_,_,run_endRound (some (.goto k)) e,h _ (c.putObj hi)⟩
end
section
variable {P : Program} {ρ : xb} {Q : bu} {n : Nat} {D : v7} {E : Env} {w : World} {ops : xJ} {rest : x5} {Γ : Ctx}
theorem ald{l:Nat}{fo:Operand}{xs:wo}{tys:Array TypeId}{d:Tmp}{ty:TypeId}{pos:String}{af:x3}{S:Value->World->Prop}
  (f:ar E true fo (.func (.yield l) #[] #[])) (b:gG E true xs vs) (k:Nat.blt d n=true) (j:Yld P l vs w S)
  (h:∀v w',S v w'->WL P ρ ops Q n D rest ((d,true,v)::E) w'):WL P ρ ops Q n D (⟨some d,.call ⟨.value fo,xs.toArray,tys⟩,ty,pos,af,none⟩::rest) E w:=λa g o=>
 wpListIn_plain rfl λK m=>j7 rfl (by
  obtain ⟨fn,tmps,assign,body,q,p⟩:=j;have s:(Array.map a.eval xs.toArray)=vs.toArray:=by simp [b.map g rfl]
  have r:(execOp a.eval ⟨some d,.call ⟨.value fo,xs.toArray,tys⟩,ty,pos,af,none⟩).run P w= .ok (.round l fn tmps assign body) w:=by simp only [execOp,resolve,f n a g rfl,Deferred.ofValue,s,Sem.run_bind,Sem.run_pure,Result.andThen_ok,invoke];simpa using q
  rw [r,Oper.uponIn_round];refine ⟨Ig,RoundIn.mono (F:=FW ρ) p λe w' i=>?_⟩;cases e with
  |returned v=>exact m _ _ (h v w' i _ (g.put k) o)
  |panicked c=>exact i.elim
  |outgrown=>exact i.elim)
theorem QC{fn:Func}{S:Value->World->Prop}{Sp:vA->World->Prop}:∀(ds:x8) {w:World},Sat (dJ ds::Γ) w->
  (∀w',Sat Γ w'->At (BP P fn S Sp) .ret n [] E w')->At (BP P fn S Sp) .ret n (mk ds) E w
 |[],w,hs,h=>h w (hs.re 1 [] rfl)
 |b::ds,w,hs,h=>λa k hd=>by
  have d:(b::ds).Nodup/\∀c∈b::ds,w.heap[c]? =some (.deferred (some [])):=hs.at_ (i:=0) rfl;have hb:=d.2 b (bj ..);have g:b∉ds:=(List.nodup_cons.1 d.1).1;have l:=(Array.getElem?_eq_some_iff.1 hb).1;have f:Sat ((dJ (b::ds)::Γ).set 0 (dJ ds)) (w.putObj b (.deferred none)):=by
   refine hs.nd (i:=0) rfl ⟨rfl,rfl,rfl,by simp,λc _ j=>World.putObj_heap_other (λe=>j (by subst e;exact bj ..))⟩ (λc hc=>⟨?_,.inl (aW _ hc)⟩) (λ_ _ _=>?_)
   .have:=(Array.getElem?_eq_some_iff.1 (d.2 c (aW _ hc))).1;simpa using this
   .exact ⟨(List.nodup_cons.1 d.1).2,λc hc=>(World.putObj_heap_other (λe=>g (by subst e;exact hc))).trans (d.2 c (aW _ hc))⟩
  have m:=QC ds f h { a with defers:=mk ds } ⟨k.size,k.at_⟩ rfl;show LeavesInM (FW none) 0 P fn a.tmps (RE S Sp) a.defers .returning w;rw [hd];exact ⟨by simp,.inl ⟨b,_,rfl,run_takeDeferred hb,m⟩⟩
theorem adn{fn:Func}{S:Value->World->Prop}{Sp:vA->World->Prop}(ds:x8)(a:Sat (dJ ds::Γ) w)
  (h:∀w',Sat Γ w'->At (BP P fn S Sp) .normal n [] E w'):At (BP P fn S Sp) .normal n (mk ds) E w:=QC (fn:=fn) (S:=S) (Sp:=Sp) ds a h
end
variable {t' : TypeId} {y : Operand}
section
variable {P : Program} {E : Env} {w : World} {g : Bool}
variable {dst : xc} {ty : TypeId} {pos : String} {af : x3} {gd : vb}
abbrev As(f:Bool)(b:Nat):Value:= .pointer (bif f then some ⟨b,0,none⟩ else none)
theorem aiw{t:TypeId}{f:Bool}(c:P.underlying t=some (.pointer e))(hx:ar E g x (As f b))(a:ar E g y (.pointer none)):
  bg P E g ⟨dst,.binOp .eql t x y t',ty,pos,af,gd⟩ w (.bool (!f)):=
 cw (P:=P) hx a (by
  rw [Sem.run_bind,dB rfl,Result.andThen_ok];have h:∀d:Nat,(Op.equalIn (d+1) t (As f b) (.pointer none)).run P w= .ok (!f) w:=λd=>by cases f <;> simp [Op.equalIn,run_underlying c,As]
  simp only [binOp];simp [Op.equal,Op.maxDepth,h 9999])
theorem agr{t:TypeId}{f:Bool}{n bytes:Nat}(c:P.underlying t=some (.pointer e))(a:TI P e n bytes z)(hx:ar E g x (As f b))(i:ar E g y (.pointer (some ⟨b,0,none⟩))):
  bg P E g ⟨dst,.binOp .neq t x y t',ty,pos,af,gd⟩ w (.bool (!f)):=
 cw (P:=P) hx i (by
  rw [Sem.run_bind,dB rfl,Result.andThen_ok];obtain ⟨j,k,_⟩:=a.out;cases f
  .have h:∀d:Nat,(Op.equalIn (d+1) t (.pointer none) (.pointer (some ⟨b,0,none⟩))).run P w= .ok false w:=λd=>by simp [Op.equalIn,run_underlying c]
   show (binOp .neq t (.pointer none) (.pointer (some ⟨b,0,none⟩))).run P w=_;simp only [binOp];simp [Op.equal,Op.maxDepth,h 9999]
  .exact Lib.run_neq_ptr_same w _ c k)
theorem UP{κ ν:Type}{ke:κ->Value}{vi:ν->Value}{t kt j:TypeId}{o:xb}{dd:Option (List (κ×ν))}(c:P.underlying t=some (.map kt j))(hx:ar E g x (.map o))(f:ar E g y (.map none))(i:nM ke vi w (.map o) dd):
  bg P E g ⟨dst,.binOp .eql t x y t',ty,pos,af,gd⟩ w (.bool (Option.isNone dd)):=
 cw (P:=P) hx f (by
  rw [Sem.run_bind,dB rfl,Result.andThen_ok];rcases i with ⟨e,rfl⟩|⟨b,k,a,l,e,rfl,_,_⟩
  .cases e;have h:∀d:Nat,(Op.equalIn (d+1) t (.map none) (.map none)).run P w= .ok true w:=λd=>by simp [Op.equalIn,run_underlying c]
   simp only [binOp];simp [Op.equal,Op.maxDepth,h 9999]
  .cases e;have h:∀d:Nat,(Op.equalIn (d+1) t (.map (some b)) (.map none)).run P w= .ok false w:=λd=>by simp [Op.equalIn,run_underlying c]
   simp only [binOp];simp [Op.equal,Op.maxDepth,h 9999])
theorem Sv{κ ν:Type}{ke:κ->Value}{vi:ν->Value}{t kt j:TypeId}{o:xb}{dd:Option (List (κ×ν))}(c:P.underlying t=some (.map kt j))(hx:ar E g x (.map o))(f:ar E g y (.map none))(i:nM ke vi w (.map o) dd):
  bg P E g ⟨dst,.binOp .neq t x y t',ty,pos,af,gd⟩ w (.bool (!(Option.isNone dd))):=
 cw (P:=P) hx f (by
  rw [Sem.run_bind,dB rfl,Result.andThen_ok];rcases i with ⟨e,rfl⟩|⟨b,k,a,l,e,rfl,_,_⟩
  .cases e;have h:∀d:Nat,(Op.equalIn (d+1) t (.map none) (.map none)).run P w= .ok true w:=λd=>by simp [Op.equalIn,run_underlying c]
   simp only [binOp];simp [Op.equal,Op.maxDepth,h 9999]
  .cases e;have h:∀d:Nat,(Op.equalIn (d+1) t (.map (some b)) (.map none)).run P w= .ok false w:=λd=>by simp [Op.equalIn,run_underlying c]
   simp only [binOp];simp [Op.equal,Op.maxDepth,h 9999])
theorem aeM{t kt c:TypeId}(b:P.underlying t=some (.map kt c))(hx:ar E g x (.map none))(a:ar E g y (.map none)):
  bg P E g ⟨dst,.binOp .eql t x y t',ty,pos,af,gd⟩ w (.bool true):=UP (κ:=Unit) (ν:=Unit) (ke:=λ_=>undef) (vi:=λ_=>undef) (dd:=none) b hx a (.inl ⟨rfl,rfl⟩)
theorem ad1{t kt c:TypeId}(b:P.underlying t=some (.map kt c))(hx:ar E g x (.map none))(a:ar E g y (.map none)):
  bg P E g ⟨dst,.binOp .neq t x y t',ty,pos,af,gd⟩ w (.bool false):=Sv (κ:=Unit) (ν:=Unit) (ke:=λ_=>undef) (vi:=λ_=>undef) (dd:=none) b hx a (.inl ⟨rfl,rfl⟩)
theorem adz{s d e':TypeId}{n bytes:Nat}(h:P.underlying s=some (.pointer e))(hd:P.underlying d=some .unsafePointer)(c:TI P e n bytes z)(i:Nat.blt 0 n=true)
  (hx:ar E g x (.pointer (some ⟨b,0,none⟩))) (hb:eM w b e' vs) (hv:Nat.blt 0 vs.length=true):bg P E g ⟨dst,.convert s d x,ty,pos,af,gd⟩ w (.pointer (some ⟨b,0,none⟩)):=
 λn' a o m=>by
  obtain ⟨j,l,k,_⟩:=c.out;have f:w.shape? b=some (e',vs.toArray.size):=by unfold World.shape?;rw [show w.heap[b]? =_ from hb]
  have q:0<n:=by simpa using i
  have p:0<vs.length:=by simpa using hv
  have:=Lib.run_to_unsafe (P:=P) w (cells:=vs.toArray.size) (⟨b,0,none⟩:Addr) h hd l (by omega) f (by simpa using p);simp [execOp,hx n' a o m,this]
theorem Wh{s d e':TypeId}{n bytes:Nat}(h:P.underlying s=some .unsafePointer)(hd:P.underlying d=some (.pointer e))(c:TI P e n bytes z)
  (hx:ar E g x (.pointer (some ⟨b,0,none⟩))) (hb:eM w b e' vs) (i:liesAt P P.depth e' (vs.length/P.cellsOf e') 0 e 1=true):bg P E g ⟨dst,.convert s d x,ty,pos,af,gd⟩ w (.pointer (some ⟨b,0,none⟩)):=
 λn' a o m=>by
  obtain ⟨j,l,k,_⟩:=c.out;have f:w.shape? b=some (e',vs.length):=by unfold World.shape?;rw [show w.heap[b]? =_ from hb];simp
  have:=Lib.run_from_unsafe (P:=P) w (⟨b,0,none⟩:Addr) h hd l f i;simp [execOp,hx n' a o m,this]
def ala(P:Program)(f:FuncId):Prop:= ∀(v:Value) (w:World),(callFunc f #[v]).run P w= .ok (.value v) w
theorem alR{f:FuncId}{tys:Array TypeId}(d:ala P f)(hx:ar E g x v):bg P E g ⟨dst,.call ⟨.value (.func f),#[x],tys⟩,ty,pos,af,gd⟩ w v:=
 λn' a c b=>by have:=d v w;have e:a.eval (.func f)= .func (.func f) #[] #[]:=rfl;simp only [execOp,resolve,e,Deferred.ofValue,Sem.run_bind,Sem.run_pure,Result.andThen_ok,invoke];simpa [hx n' a c b] using this
end
theorem ahc(s:aE):Lib.strCells ⟨s.toArray⟩=s.map λb=>Value.int .u8 (b.toNat:Int):=by simp [Lib.strCells]
theorem Jk{M:Nat->Prop}{w:World}:∀s:aE,cL (RI .u8) M w (Lib.strCells ⟨s.toArray⟩) (ba s):=λs=>by rw [ahc];exact K6 s
theorem eW(s:aE):(ba s).length=s.length:=by simp [ba]
section
variable {P : Program} {w : World} {M : Nat -> Prop}
theorem PR(t u ty e:TypeId)(i:TypeInfo)(k:P.underlying t=some (.slice e))(j:P.underlying u=some .string)(hi:P.info? e=some i)(h:i.size=1)
  (g off a b:Nat) (cur:w5) (l:w.heap[g]? =some (.cells cur e (0,0))) (s:ByteArray)
  (c:a+s.size<=b) (f:off+a+s.size<=cur.size):
  (Builtin.append_ #[t,u] ty #[.slice (some ⟨g,off,none⟩) a b,.string s]).run P w=
   .ok (.slice (some ⟨g,off,none⟩) (a+s.size) b) (w.setRow g (cur.toList.take (off+a)++Lib.strCells s++cur.toList.drop (off+a+s.size)).toArray):=by
 have m:=Lib.run_firstCells_string (P:=P) w 1 s;have d:=run_storeCells_at P g (off+a) e (Lib.strCells s) 0 cur w l (by simpa [Lib.strCells_length] using f) (Lib.strCells_oneCell s);simp only [qj,Lib.strCells_length] at d;simp [Builtin.append_,run_underlying k,run_underlying j,sizeOf,typeInfo,hi,h,Builtin.lenOf,c,m,Addr.add_lit,d]
theorem uH(t u r e:TypeId)(L:P.underlying t=some (.slice e))(J:P.underlying u=some .string)(X:TI P e 1 1 (.int .u8 0))
  {v:Value} {xs:x6} {s:aE} (ho:gb (RI .u8) e M w v xs) (hM:∀b∈dv v,M b) (c:aG (xs.length+s.length) 1=true):
  ∃v' w',(Builtin.append_ #[t,u] r #[v,S s]).run P w= .ok v' w'/\js (dv v) w w'/\(∀b∈dv v',b<w'.heap.size/\(b∈dv v\/w.heap.size<=b))/\
   (∀M',Mv M w M' w'->gb (RI .u8) e M' w' v' (xs++ba s)):=by
 obtain ⟨i,hi,y,R,hz⟩:=X.out;simp only [aG,ae,q9] at c;have hb1:=cj c.1;have T:=cj c.2;have a:(⟨s.toArray⟩:ByteArray).size=s.length:=ki s;have Z:=ho.lt;obtain ⟨cells,p,hA⟩:=ho;have N:cL (RI .u8) M w (Lib.strCells ⟨s.toArray⟩) (ba s):=Jk s;have U:=hA.append N;have d:(RI .u8).n=1:=rfl;have D:cells.length=xs.length:=by have:=hA.1;rw [d] at this;omega
 have z:(Lib.strCells ⟨s.toArray⟩).length=s.length:=by rw [Lib.strCells_length,a]
 have h:(cells++Lib.strCells ⟨s.toArray⟩).length=(xs++ba s).length*1:=by simp [D,z,eW]
 have q:∀(iu:Nat),iu<xs.length+s.length->
   (w.drew.alloc (.cells (cells.toArray++(Lib.strCells ⟨s.toArray⟩).toArray++Builtin.zeroCells (Value.int .u8 0).cells (grownCap w (xs.length+s.length) iu e-(xs.length+s.length))) e)).ownsRow 0 e 1
    (.slice (some ⟨w.heap.size,0,none⟩) (xs.length+s.length) (grownCap w (xs.length+s.length) iu e)) (xs++ba s).length (cells++Lib.strCells ⟨s.toArray⟩):=by
  intro iu hold;have hge:=grownCap_ge w (xs.length+s.length) iu e;have B:grownCap w (xs.length+s.length) iu e<=maxLen:=grownCap_le_maxLen w (xs.length+s.length) iu e (by simpa [maxLen] using T);refine ⟨h,.inr ⟨w.heap.size,_,_,by simp [eW],qd _,heap_alloc_new w.drew _,by simpa [eW] using hge,B,?_,?_⟩⟩
  .have V:(Value.int u8 0).cells.size=1:=rfl;simp only [qo,mi,size_zeroCells,V,D,z];omega
  .simp only [qT,aO];rw [<-aO,<-h];exact q0
 have F:∀o C,js C w (w.drew.alloc o):=λo C=>⟨rfl,rfl,rfl,by simp,λb hb _=>heap_alloc_old w.drew o hb⟩;have E:∀(n cap:Nat) (o:Obj),∀b∈dv (.slice (some ⟨w.heap.size,0,none⟩) n cap),b<(w.drew.alloc o).heap.size/\(b∈dv v\/w.heap.size<=b):=λn cap o b hb=>by
  have:b=w.heap.size:=by simpa [dv,Value.ownBlock] using hb
  subst this;exact ⟨by simp,.inr (bb _)⟩
 by_cases hm:s.length=0
 .have Y:s=[]:=cp hm;subst Y;refine ⟨v,w,?_,(Ext.refl w).rz _,λb hb=>⟨Z b hb,.inl hb⟩,λM' m=>⟨cells,by simpa [ba] using p,by simpa [ba] using hA.mv m⟩⟩;rcases p.2 with ⟨rfl,h0⟩|⟨g,off,cap,cur,rfl,O,G,B,I,_⟩
  .have Q:=Lib.run_firstCells_string (P:=P) w 1 ⟨#[]⟩;have e0:(⟨#[]⟩:ByteArray).size=0:=rfl;rw [e0] at Q;simp [S,Builtin.append_,run_underlying L,run_underlying J,sizeOf,typeInfo,hi,y,Builtin.lenOf,Q,ByteArray.size]
  .have Q:=Lib.run_firstCells_string (P:=P) w 1 ⟨#[]⟩;have e0:(⟨#[]⟩:ByteArray).size=0:=rfl;rw [e0] at Q;simp [S,Builtin.append_,run_underlying L,run_underlying J,sizeOf,typeInfo,hi,y,Builtin.lenOf,Q,ByteArray.size,storeCells,Lib.strCells,G]
 .rcases p.2 with ⟨rfl,h0⟩|⟨g,off,cap,cur,rfl,O,G,B,I,k⟩
  .have W:xs=[]:=cp h0;subst W;have hc0:cells=[]:=cp (by simpa using D);subst hc0;have H:=run_append_nil_string (P:=P) w t u r e i (.int .u8 0) L J hi hz ⟨s.toArray⟩ (by rw [a];omega) (by rw [a];simp at T;omega) (by rw [a,R];simp at hb1;omega);have A:=q 0 (by simp;omega);have e1:((⟨s.toArray⟩:ByteArray).data.map λb=>Value.int .u8 b.toNat)=(Lib.strCells ⟨s.toArray⟩).toArray:=by apply Array.ext';simp [Lib.strCells]
   rw [e1,a] at H;simp only [gj,hV,mo,qY] at A;exact ⟨_,_,H,F _ _,E _ _ _,λM' m=>⟨_,.of (by simpa [d] using A),by simpa using N.mv m⟩⟩
  .by_cases f:xs.length+s.length<=cap
   .have hcs':off+cap=cur.size:=by simpa [d] using I.1
    have H:=PR (P:=P) (w:=w) t u r e i L J hi y g off xs.length cap cur O ⟨s.toArray⟩ (by rw [a];exact f) (by rw [a];omega);refine ⟨_,_,H,⟨rfl,rfl,rfl,by simp,λb hb hbg=>setRow_other w g b _ (by simpa [dv,Value.ownBlock] using hbg)⟩,λb hb=>?_,λM' m=>⟨cells++Lib.strCells ⟨s.toArray⟩,⟨h,.inr ⟨g,off,cap,_,by simp [eW,a],setRow_heap w g cur _ e _ O,by simpa [eW] using f,B,⟨?_,I.2⟩,?_⟩⟩,U.mv m⟩⟩
    .have:b=g:=by simpa [dv,Value.ownBlock] using hb
     subst this;exact ⟨by simpa using (Array.getElem?_eq_some_iff.1 O).1,.inl (by simp [dv,Value.ownBlock])⟩
    .simp only [mi,b9,b0,cq,ch,z,a,d];omega
    .have K:(cur.toList.drop off).take xs.length=cells:=by simpa [d] using k
     have:=afZ (l:=cur.toList) (ns:=Lib.strCells ⟨s.toArray⟩) (off:=off) (m:=xs.length) (by rw [K];exact D.symm) (by have hl:cur.toList.length=cur.size:=ch;omega);rw [K,z] at this;rw [d,<-h,a];simpa using this
   .have holds:∀j x,cells[j]? =some x->w.cell? ((⟨g,off,none⟩:Addr).add j)=some x:=λj x hj=>(DY O k).cell hj;have H:=Lib.run_append_grow_string (P:=P) w t u r e i (.int .u8 0) L J hi hz ⟨g,off,none⟩ xs.length cap cells (by rw [y];omega) holds ⟨s.toArray⟩ (by rw [a];omega) (by rw [a];omega)
     (by rw [a,R];exact growslice_fits (by omega) (by omega))
    have A:=q cap (by omega);rw [a] at H;exact ⟨_,_,H,F _ _,E _ _ _,λM' m=>⟨_,.of (by simpa [d] using A),U.mv m⟩⟩
theorem yE(t u c e:TypeId)(r:P.underlying t=some (.slice e))(q:P.underlying u=some .string)(k:TI P e 1 1 (.int .u8 0))
  {a0:Option Addr} {s:aE} (a:aG s.length 1=true):
  ((Builtin.append_ #[t,u] c #[.slice a0 0 0,S s]).run P w= .ok (.slice a0 0 0) w/\s=[])\/
  ∃g w',(Builtin.append_ #[t,u] c #[.slice a0 0 0,S s]).run P w= .ok g w'/\Ext w w'/\(∀b∈dv g,b<w'.heap.size/\w.heap.size<=b)/\(∀M',Mv M w M' w'->gb (RI .u8) e M' w' g (ba s)):=by
 obtain ⟨i,hi,x,B,H⟩:=k.out;by_cases D:s=[]
 .subst D;refine .inl ⟨?_,rfl⟩;have E:=Lib.run_firstCells_string (P:=P) w 1 ⟨#[]⟩;have N:(⟨#[]⟩:ByteArray).size=0:=rfl;rw [N] at E;cases a0 <;> simp [S,Builtin.append_,run_underlying r,run_underlying q,sizeOf,typeInfo,hi,x,Builtin.lenOf,E,ByteArray.size,storeCells,Lib.strCells]
 .refine .inr ?_;cases a0 with
  |none=>
   obtain ⟨g,w',l,o,F,K⟩:=uH (M:=M) (w:=w) t u c e r q k (gb.nil) (s:=s) (λb hb=>by simp [dv,Value.ownBlock] at hb) (by simpa using a);refine ⟨g,w',l,⟨o.os,o.tape,o.output,o.size,λb hb=>o.block b hb (by simp [dv,Value.ownBlock])⟩,λb hb=>⟨(F b hb).1,?_⟩,λM' m=>by simpa using K M' m⟩;rcases (F b hb).2 with h|h
   .simp [dv,Value.ownBlock] at h
   .exact h
  |some G=>
   have d:(⟨s.toArray⟩:ByteArray).size=s.length:=ki s;simp only [aG,ae,q9] at a;have J:=cj a.1;have C:=cj a.2;have O:0<s.length:=List.length_pos_iff.2 D;have l:=Lib.run_append_grow_string (P:=P) w t u c e i (.int .u8 0) r q hi H G 0 0 [] (by simp) (by intro j v I;simp at I) ⟨s.toArray⟩ (by rw [d];omega) (by rw [d];omega) (by rw [d,B];exact growslice_fits (by omega) (by omega));rw [d] at l;simp only [hV] at l;have y:(Builtin.append_ #[t,u] c #[.slice (some G) 0 0,S s]).run P w=_:=l;have z:=grownCap_ge w s.length 0 e;have A:grownCap w s.length 0 e<=maxLen:=grownCap_le_maxLen w s.length 0 e (by simpa [maxLen] using C);have f:(Lib.strCells ⟨s.toArray⟩).length=s.length:=by rw [Lib.strCells_length,d]
   refine ⟨_,_,y,⟨rfl,rfl,rfl,by simp,λb hb=>heap_alloc_old w.drew _ hb⟩,λb hb=>?_,λM' m=>⟨Lib.strCells ⟨s.toArray⟩,.of (b:=0) ⟨by simp [f,eW,RI],.inr ⟨w.heap.size,_,_,by simp [eW],qd _,heap_alloc_new w.drew _,by simpa [eW] using z,A,?_,?_⟩⟩,(Jk s)⟩⟩
   .have:b=w.heap.size:=by simpa [dv,Value.ownBlock] using hb
    subst this;exact ⟨by simp,bb _⟩
   .have p:(Value.int u8 0).cells.size=1:=rfl;simp only [qo,mi,size_zeroCells,p,f,gj];show _=_*1;omega
   .have L:(ba s).length*(RI .u8).n=(Lib.strCells ⟨s.toArray⟩).length:=by simp [eW,f,RI]
    rw [L];simp
end
section
variable {P : Program} {ρ : xb} {Q : bu} {n : Nat} {D : v7} {E : Env} {w : World} {ops : xJ} {rest : x5} {Γ : Ctx} {i : Nat}
variable {d : Tmp} {ty : TypeId} {pos : String} {af : x3}
theorem ahS{t u:TypeId}{xs:x6}{s:aE}(I:Sat Γ w)(i:Nat)(hi:Γ[i]? =some (fX (RI .u8) e v xs R))
  (H:P.underlying t=some (.slice e)) (G:P.underlying u=some .string) (o:TI P e 1 1 (.int .u8 0)) (hx:ar E true x v) (q:ar E true y (S s))
  (f:aG (xs.length+s.length) 1=true) (L:Nat.blt d n=true)
  (h:∀(p:fA) l w',Sat (Γ.set i (fX (RI .u8) e (sl p) (xs++ba s) l)) w'->WL P ρ ops Q n D rest ((d,true,sl p)::E) w'):
  WL P ρ ops Q n D (⟨some d,.call ⟨.builtin .append,#[x,y],#[t,u]⟩,ty,pos,af,none⟩::rest) E w:=by
 have key:∃c l w',kM P E ⟨some d,.call ⟨.builtin .append,#[x,y],#[t,u]⟩,ty,pos,af,none⟩ w c w'/\js R w w'/\(∀b∈l,b<w'.heap.size/\(b∈R\/w.heap.size<=b))/\∀M',Mv Γ.M w M' w'->bK (RI .u8) e M' w' c (xs++ba s) l:=by
  have k:=I.own hi;have N:∀b∈R,Γ.M b:=λb hb=>Ctx.iH hi hb;rcases k with ⟨rfl,z⟩|⟨rfl,rfl,⟨a0,rfl⟩,r⟩
  .obtain ⟨c,w',j,F,C,k⟩:=uH t u ty e H G o z N f;exact ⟨c,dv c,w',(λn' a g=>by simp [execOp,resolve,invoke,builtin,hx n' a g rfl,q n' a g rfl,j]),F,C,λM' m=>bK.of (k M' m)⟩
  .rcases yE (M:=Γ.M) (w:=w) t u ty e H G o (a0:=a0) (s:=s) (by simpa using f) with ⟨j,rfl⟩|⟨c,w',j,O,K,k⟩
   .exact ⟨.slice a0 0 0,[],w,(λn' a g=>by simp [execOp,resolve,invoke,builtin,hx n' a g rfl,q n' a g rfl,j]),(Ext.refl w).rz _,(λb hb=>by cases hb),λM' m=>by simpa [ba] using bK.empty (e:=e) (r.mv m)⟩
   .exact ⟨c,dv c,w',(λn' a g=>by simp [execOp,resolve,invoke,builtin,hx n' a g rfl,q n' a g rfl,j]),O.rz _,(λb hb=>⟨(K b hb).1,.inr (K b hb).2⟩),λM' m=>bK.of (by simpa using k M' m)⟩
 obtain ⟨c,l,w',j,F,C,k⟩:=key;have J:=I.nd hi (new:=fX (RI .u8) e c (xs++ba s) l) F C (λM' m _=>k M' m);have hv:∃p,c=sl p:=by have B:i<Γ.length:=(List.getElem?_eq_some_iff.1 hi).1;have z:=J.own (i:=i) (A:=RI .u8) (e:=e) (v:=c) (xs:=xs++ba s) (R:=l) (by rw [qA B]);obtain ⟨a,cap,hv⟩:=z.len;exact ⟨(a,_,cap),hv⟩
 obtain ⟨p,rfl⟩:=hv;exact uV j rfl rfl rfl L (h _ _ _ J)
def Roomy(v:Value):Prop:= ∃g off len cap,v= .slice (some ⟨g,off,none⟩) len (cap+1)
theorem ajJ{g:Bool}{dst:xc}{gd:Option (Nat×Bool)}{v:fA}{c:Array TypeId}(hx:ar E g x (sl v))(hv:g=true->Roomy (sl v)):bg P E g ⟨dst,.call ⟨.builtin .unsafeSliceData,#[x],c⟩,ty,pos,af,gd⟩ w (.pointer v.1):=
 λn a h d=>by obtain ⟨b,off,len,cap,e⟩:=hv d;obtain ⟨j,f,i⟩:=v;simp only [sl,Value.slice.injEq] at e;obtain ⟨rfl,rfl,rfl⟩:=e;have:=Lib.run_unsafeSliceData_row (P:=P) w c ty ⟨b,off,none⟩ f (cap+1) (by omega);simp [execOp,resolve,invoke,builtin,hx n a h d,sl,this]
theorem FD{P:Program}{w:World}:∀(l:x6) (a:Addr) (b:ByteArray),(∀(j:Nat) (x:Int),l[j]? =some x->w.cell? (a.add j)=some (.int .u8 x))->
  (loadBytes a b l.length).run P w= .ok ⟨b.data++(strOf l).toArray⟩ w
 |[],a,b,_=>by simp [loadBytes,strOf]
 |x::l,a,b,h=>by
  have f:w.cell? a=some (.int .u8 x):=by have:=h 0 x rfl;simpa [Addr.add] using this
  have ih:=FD (P:=P) l (a.add 1) (b.push (UInt8.ofNat x.toNat)) (λj y d=>by
   have:=h (j+1) y (by simpa using d);have e:(a.add 1).add j=a.add (j+1):=by
    unfold Addr.add;by_cases c:j=0
    .subst c;simp
    .simp [c];omega
   rw [e];exact this)
  simp only [eb,loadBytes,Sem.run_bind,run_load,f,Result.andThen];have g:(x.toNat).toUInt8=UInt8.ofNat x.toNat:=rfl;rw [g,ih];congr 1;apply ByteArray.ext;simp [ByteArray.push,strOf]
end
open Go.Lib
theorem O{E:Env}{g:Bool}{t:Tmp}(h:look E t=some (true,v)):ar E g (.tmp t) v:=ar.t h
section
variable {P : Program} {ρ : xb} {Q : bu} {n : Nat} {D : v7} {E : Env} {w : World} {ops : xJ} {rest : x5}
end
variable {dd : TypeDesc}
def cP{E A B:Type}(m:Option (Except E A))(k:A->Option (Except E B)):Option (Except E B):=m.bind λa=>match a with
 | .error p=>some (.error p)
 | .ok x=>k x
def lh{E A B:Type}(m:Option (Except E A))(kp:E->Option B)(k:A->Option B):Option B:=m.bind λa=>match a with
 | .error p=>kp p
 | .ok x=>k x
theorem ail{E A B:Type}{m:Option (Except E A)}{b:E->Option B}{k:A->Option B}{r:B}(h:lh m b k=some r):(∃p,m=some (.error p)/\b p=some r)\/∃x,m=some (.ok x)/\k x=some r:=by
 cases m with
 |none=>cases h
 |some a=>
  cases a with
  |error p=>exact .inl ⟨p,rfl,h⟩
  |ok x=>exact .inr ⟨x,rfl,h⟩
abbrev gO(v:Value):vA:=[{ v:=v,recovered:=false }]
section
variable {P : Program} {ρ : xb} {Q : bu} {n : Nat} {D : v7} {E : Env} {w : World} {ops : xJ} {rest : x5} {Φ : Ctx}
theorem al0{t:TypeId}{dst:xc}{ty:TypeId}{pos:String}{af:x3}(hx:ar E true x (.iface t v))
  (h:At Q (.panic (gO (.iface t v))) n D E w):WL P ρ ops Q n D (⟨dst,.panic x,ty,pos,af,none⟩::rest) E w:=λa b c=>
 wpListIn_plain rfl λK d=>j7 rfl (by
  have e:(execOp a.eval (⟨dst,.panic x,ty,pos,af,none⟩:Oper)).run P w= .halt (.panic (.iface t v)) w:=by simp only [execOp,hx n a b rfl];rfl
  rw [e];exact h a b c)
theorem ahB{fn:Func}{S:Value->World->Prop}{Sp:vA->World->Prop}{ps:vA}(h:Sp ps w):BE (BP P fn S Sp) ps [] w:=λa hd=>by show LeavesInM _ _ _ _ _ _ a.defers _ _;rw [hd];exact h
variable {g : Bool} {dst : xc} {ty : TypeId} {pos : String} {af : x3} {gd : vb}
theorem YV{s t:TypeId}(b:P.underlying t=some dd)(hd:fK dd=false)(hx:ar E g x (.iface t v)):bg P E g ⟨dst,.typeAssert x s t true,ty,pos,af,gd⟩ w (.tuple #[v,.bool true]):=
 λn a d c=>by simp only [execOp,hx n a d c,Instr.typeAssert,Sem.run_bind,run_underlying b,Result.andThen_ok];cases dd <;> first|(dsimp only;rw [lk rfl];rfl)|(simp [fK] at hd)
theorem ZC{s t:TypeId}{size bytes:Nat}(c:P.underlying t=some dd)(hd:fK dd=false)(b:TI P t size bytes z)(hx:ar E g x .nilIface):bg P E g ⟨dst,.typeAssert x s t true,ty,pos,af,gd⟩ w (.tuple #[z,.bool false]):=
 λn a e d=>by simp only [execOp,hx n a e d,Instr.typeAssert,Sem.run_bind,run_underlying c,Result.andThen_ok];cases dd <;> first|(simp [fK] at hd;done)|(simp only [Sem.run_bind,b.zero w,Result.andThen_ok,qn];rfl)
theorem Z0{s t u:TypeId}{size bytes:Nat}(b:u≠t)(d:P.underlying t=some dd)(hd:fK dd=false)(c:TI P t size bytes z)(hx:ar E g x (.iface u v)):bg P E g ⟨dst,.typeAssert x s t true,ty,pos,af,gd⟩ w (.tuple #[z,.bool false]):=
 λn a f e=>by simp only [execOp,hx n a f e,Instr.typeAssert,Sem.run_bind,run_underlying d,Result.andThen_ok];cases dd <;> first|(simp [fK] at hd;done)|(dsimp only;rw [j0 (by first|exact b|exact b.symm)];simp only [Sem.run_bind,c.zero w,Result.andThen_ok,qn];rfl)
def FQ(P:Program)(f:FuncId)(args:w9)(u:FrameMode)(w:World)(R:FrameMode->World->Prop):Prop:=
 CallsDIn (FW none) 0 P f args.toArray u w λe u' w'=>e= .returned (.tuple #[])/\R u' w'
abbrev PH(f:FuncId)(cap:w9):Deferred:={ target:= .fn (.func f) cap.toArray,args:= #[] }
theorem amr{f:FuncId}{fo:Operand}{cap:w9}{tys:Array TypeId}{ty:TypeId}{pos:String}{af:x3}(b:ar E true fo (.func (.func f) #[] cap.toArray))
  (h:WL P none ops Q n (PH f cap::D) rest E w):WL P none ops Q n D (⟨none,.defer ⟨.value fo,#[],tys⟩,ty,pos,af,none⟩::rest) E w:=λa c g=>
 wpListIn_plain rfl λK d=>by
  refine ⟨λ_ _=>trivial,?_⟩;have e:((⟨none,.defer ⟨.value fo,#[],tys⟩,ty,pos,af,none⟩:Oper).semAt (FW none).round a.eval).run P w= .ok (.defer (PH f cap)) w:=by show (execOp a.eval (⟨none,.defer ⟨.value fo,#[],tys⟩,ty,pos,af,none⟩:Oper)).run P w=_;simp only [execOp,resolve,b n a c rfl,Deferred.ofValue,Sem.run_bind,Sem.run_pure,Result.andThen_ok];rw [show (#[]++Array.map a.eval #[]:w5)= #[] by simp]
  rw [e,Oper.uponIn_defer];refine d _ _ (h _ ⟨c.size,c.at_⟩ ?_);show PH f cap::a.defers=_;rw [g]
theorem PK{a:Act}(h:Fits n E a)(ds:v7):Fits n E { a with defers:=ds }:=⟨h.size,h.at_⟩
theorem UJ{fn:Func}{f:FuncId}{cap:w9}{tmps:w5}{R:Ending->World->Prop}{u:FrameMode}{ds:v7}(a:u≠ .run)(b:Enters P f)
  (hc:FQ P f cap u w λu' w'=>LeavesInM (FW none) 0 P fn tmps R ds (settle u') w'):LeavesInM (FW none) 0 P fn tmps R (PH f cap::ds) u w:=by
 refine ⟨a,.inr ⟨Ig,.func f,cap.toArray,f,cap.toArray,rfl,?_,λ_ _=>trivial,?_⟩⟩
 .have:=b cap.toArray w;simpa [PH,invoke] using this
 .refine CallsDIn.mono hc λe u' w' h=>?_;obtain ⟨rfl,h⟩:=h;exact h
theorem aiO{fn:Func}{S:Value->World->Prop}{Sp:vA->World->Prop}{f:FuncId}{cap:w9}{T:World->Prop}(d:Enters P f)
  (hc:FQ P f cap .returning w λu' w'=>u'= .returning/\T w') (h:∀w',T w'->At (BP P fn S Sp) .ret n [] E w'):At (BP P fn S Sp) .ret n [PH f cap] E w:=λa c hd=>by
 show LeavesInM _ _ _ _ _ _ a.defers _ _;rw [hd];refine UJ (by simp) d (CallsDIn.mono hc λe u' w' hx=>?_);obtain ⟨b,rfl,g⟩:=hx;exact ⟨b,h w' g { a with defers:=[] } (PK c []) rfl⟩
theorem afT{fn:Func}{S:Value->World->Prop}{Sp:vA->World->Prop}{f:FuncId}{cap:w9}{T:World->Prop}(d:Enters P f)
  (hc:FQ P f cap (.panicking (gO v)) w λu' w'=>u'= .panicking [{ v:=v,recovered:=true }]/\T w') (h:∀w',T w'->At (BP P fn S Sp) .ret n [] E w'):At (BP P fn S Sp) (.panic (gO v)) n [PH f cap] E w:=λa c hd=>by
 show LeavesInM _ _ _ _ _ _ a.defers _ _;rw [hd];refine UJ (by simp) d (CallsDIn.mono hc λe u' w' hx=>?_);obtain ⟨b,rfl,g⟩:=hx;exact ⟨b,h w' g { a with defers:=[] } (PK c []) rfl⟩
def QB(T:World->Prop):bu:=λe a w=>match e with
 | .normal=>a.defers=[]/\T w
 | .ret=>a.defers=[]/\T w
 |_=>False
theorem anv{T:World->Prop}(h:T w):At (QB T) .normal n [] E w:=λ_ _ hd=>⟨hd,h⟩
theorem aqn{T:World->Prop}(h:T w):At (QB T) .ret n [] E w:=λ_ _ hd=>⟨hd,h⟩
def Nl(o:Oper):Bool:=match o.op with
 | .move _=>true
 | .assign _=>true
 | .alloc _=>true
 | .extract _ _=>true
 | .store _ _ _=>true
 | .typeAssert _ _ _ _=>true
 | .binOp .neq _ _ _ _=>true
 | .load _ _=>true
 | .nilCheck _=>true
 | .fieldAddr _ _ _=>true
 |_=>false
def G2:Result Next->Prop
 | .ok (.value _) _=>True
 | .ok .skip _=>True
 | .halt _ _=>True
 |_=>False
theorem ap3{m:Sem Value}{w:World}:G2 ((do pure (Next.value (<-m)):Sem Next).run P w):=by rw [Sem.run_bind];cases m.run P w <;> trivial
theorem apV{m:Sem Unit}{w:World}:G2 ((do m;pure Next.skip:Sem Next).run P w):=by rw [Sem.run_bind];cases m.run P w <;> trivial
theorem Bp{m:Sem α}{k:α->Sem Next}{w:World}(h:∀a w,G2 ((k a).run P w)):G2 ((m >>= k).run P w):=by
 rw [Sem.run_bind];cases m.run P w with
 |ok a w=>exact h a w
 |halt _ _=>trivial
theorem alC{a:Operand->Value}{dst:xc}{ty:TypeId}{pos:String}{af:x3}{g:Option (Nat×Bool)}{w:World}:G2 ((execOp a ⟨dst,.nilCheck x,ty,pos,af,g⟩).run P w):=by
 unfold execOp;dsimp only;split
 .exact Bp λ_ _=>trivial
 .exact Bp λ_ _=>trivial
 .exact Bp λ_ _=>trivial
 .split
  .exact Bp λ_ _=>trivial
  .refine Bp λ_ _=>Bp λ_ _=>?_;split
   .exact Bp λ_ _=>trivial
   .exact trivial
  .trivial
 .trivial
theorem akR{o:Oper}(h:Nl o=true)(a:Operand->Value)(w:World):G2 ((execOp a o).run P w):=by obtain ⟨dst,op,ty,pos,af,g⟩:=o;cases op <;> first|(cases h;done)|exact ap3|exact apV|exact alC|trivial
theorem QY{ops:xJ}{g:bu}{QS:Exit->Act->List Frame->World->Prop}{cs:List Frame}(f:∀e a w,g e a w->QS e a cs w):∀(l:x5) (k:Nat),l.all Nl=true->(∀j,l[j]? =ops[k+j]?)->∀(a:Act) (w:World),wpListIn (FW none) 0 P ops g l a w->
  wpOpsSIn (FW none) 0 P ops QS (List.range' k l.length) a cs w
 |[],k,_,_,a,w,h=>f _ _ _ h
 |o::l,k,hc,hk,a,w,h=>by
  have m:ops[k]? =some o:=by simpa using (hk 0).symm
  rw [qt,ae] at hc;have ih:=QY (ops:=ops) f l (k+1) hc.2 (λj=>by have:=hk (j+1);simpa [qs,Nat.add_comm 1 j] using this);rw [eb,List.range'_succ];simp only [wpOpsSIn,m];simp only [wpListIn] at h;refine ⟨λ_ _=>trivial,?_⟩;split at h
  .rename_i d;rw [lk d];have c:=h.2;have b:=akR (P:=P) hc.1 a.eval w;rw [show (o.semAt (FW none).round a.eval)=execOp a.eval o from rfl] at c;generalize (execOp a.eval o).run P w=r at c b;cases r with
   |ok x w'=>
    cases x <;> first|exact b.elim|exact ih _ _ c
   |halt i w'=>
    cases i <;> first|exact f _ _ _ c|exact c.elim
  next d=>rw [j0 d];exact ih _ _ h.2
theorem akV{fn:Func}{c₀:Frame}{cs:List Frame}{T:World->Prop}{u':FrameMode}(b:fn.results= #[]){e:Exit}{a:Act}{w:World}(h:QB T e a w):
  bodyPostS P fn c₀ cs (λe c w'=>e= .returned (.tuple #[])/\c=u'/\T w') e a ({ c₀ with mode:=u' }::cs) w:=by
 have d:(results fn a.tmps).run P w= .ok (.tuple #[]) w:=by rw [SW,b];simp
 cases e <;> first|exact ⟨h.1,u',rfl,_,d,rfl,rfl,h.2⟩|exact h.elim
theorem Xy{f:FuncId}{fn:Func}{id:Nat}{ops:xJ}{l:x5}{y:Code}{d:Tmp}{ty:TypeId}{pos:String}{af:x3}{tys:Array TypeId}{cap:w9}{u u':FrameMode}{T:World->Prop}
  (J:P.funcs[f]? =some fn) (hb:fn.body=some (.seq (.region id ops false) y)) (c:ops.toList=⟨some d,.call ⟨.builtin .recover,#[],tys⟩,ty,pos,af,none⟩::l) (q:l.all Nl=true) (o:fn.results= #[]) (H:fn.ntmps=n) (I:Nat.ble cap.length n=true) (hd:Nat.blt d n=true)
  (F:(u= .returning/\u'= .returning/\v= .nilIface)\/(u= .panicking (gO v)/\u'= .panicking [{ v:=v,recovered:=true }]))
  (h:WL P none ops (Exit.then (y.wpIn (FW none) 0 P (QB T)) (QB T)) n [] l ((d,true,v)::iota 0 cap) w):FQ P f cap u w λr w'=>r=u'/\T w':=by
 refine callsDIn_of_wpSIn J hb trivial λc₀ cs hc=>?_;have k:Fits n (iota 0 cap) { tmps:=cap.toArray++Array.replicate (fn.ntmps-cap.toArray.size) undef,defers:=[] }:=by
  refine ⟨?_,λt g v G=>?_⟩
  .have:cap.length<=n:=by simpa using I
   simp [H];omega
  .obtain ⟨j,rfl,hv,rfl⟩:=DC cap 0 t g v G;have C:j<cap.length:=by
    rcases sq j cap.length with h|h
    .exact h
    .rw [j6 h] at hv;cases hv
   simp only [vO,c9,hV,kW];rw [qR (by simpa using C)];simp [hv]
 have z:({ tmps:=cap.toArray++Array.replicate (fn.ntmps-cap.toArray.size) undef,defers:=[] }:Act).defers=[]:=rfl;generalize ({ tmps:=cap.toArray++Array.replicate (fn.ntmps-cap.toArray.size) undef,defers:=[] }:Act)=a0 at k z;refine wpSIn_seq (wpSIn_region ?_);have B:ops.size=l.length+1:=by rw [<-ch,c];rfl
 rw [B,List.range_eq_range',List.range'_succ];have L:ops[0]? =some ⟨some d,.call ⟨.builtin .recover,#[],tys⟩,ty,pos,af,none⟩:=by rw [<-qk,c];rfl
 have C:∀j,l[j]? =ops[1+j]? :=λj=>by rw [<-qk,c,Nat.add_comm 1 j];rfl
 have s:(execOp a0.eval (⟨some d,.call ⟨.builtin .recover,#[],tys⟩,ty,pos,af,none⟩:Oper)).run P w= .ok .recover w:=by simp [execOp,resolve,invoke,builtin]
 have x:Fits n ((d,true,v)::iota 0 cap) (a0.put (some d) v):=k.put (g:=true) (v:=v) hd;have m:=QY (cs:={ c₀ with mode:=u' }::cs) (QS:=Exit.thenS (y.wpSIn (FW none) 0 P (bodyPostS P fn c₀ cs λe r w'=>e= .returned (.tuple #[])/\r=u'/\T w')) (bodyPostS P fn c₀ cs λe r w'=>e= .returned (.tuple #[])/\r=u'/\T w'))
  (λe a w p=>by
   cases e with
   |normal=>exact wpSIn_of_wpIn rfl (Code.wpIn_mono (λe a w p=>akV o p) p)
   |exit i=>exact False.elim p
   |goto i=>exact False.elim p
   |ret=>exact akV (P:=P) (c₀:=c₀) (cs:=cs) (u':=u') (T:=T) (e:= .ret) o p
   |panic i=>exact False.elim p
   |outgrown=>exact False.elim p) l 1 q C _ _ (h _ x z)
 simp only [wpOpsSIn,L];refine ⟨λ_ _=>trivial,?_⟩;rw [lk (by simp [Region.wanted]),s];rcases F with ⟨A,E,K⟩|⟨A,E⟩
 .have b:recoverD (c₀::cs)=none:=by simp [recoverD,hc,A]
  have D:({ c₀ with mode:=u' }:Frame)=c₀:=by rw [E,<-A,<-hc]
  simp only [b];rw [D,K] at m;exact m
 .have b:recoverD (c₀::cs)=some (v,{ c₀ with mode:=u' }::cs):=by simp [recoverD,hc,A,E,gO]
  simp only [b];exact m
theorem aet{f:FuncId}{fn:Func}{id:Nat}{ops:xJ}{cap:w9}{T:World->Prop}
  (u:P.funcs[f]? =some fn) (hb:fn.body=some (.region id ops false)) (c:ops.toList.all Nl=true) (d:fn.results= #[]) (q:fn.ntmps=n) (r:Nat.ble cap.length n=true)
  (h:WL P none ops (QB T) n [] ops.toList (iota 0 cap) w):FQ P f cap .returning w λk w'=>k= .returning/\T w':=by
 refine callsDIn_of_wpSIn u hb trivial λc₀ cs hc=>?_;have b:Fits n (iota 0 cap) { tmps:=cap.toArray++Array.replicate (fn.ntmps-cap.toArray.size) undef,defers:=[] }:=by
  refine ⟨?_,λt g v o=>?_⟩
  .have:cap.length<=n:=by simpa using r
   simp [q];omega
  .obtain ⟨j,rfl,hv,rfl⟩:=DC cap 0 t g v o;have s:j<cap.length:=by
    rcases sq j cap.length with h|h
    .exact h
    .rw [j6 h] at hv;cases hv
   simp only [vO,c9,hV,kW];rw [qR (by simpa using s)];simp [hv]
 have m:({ c₀ with mode:= .returning }:Frame)=c₀:=by rw [<-hc]
 refine wpSIn_region ?_;have l:ops.size=ops.toList.length:=by rw [ch]
 rw [l,List.range_eq_range'];have i:=QY (cs:=c₀::cs) (QS:=bodyPostS P fn c₀ cs λe k w'=>e= .returned (.tuple #[])/\k= .returning/\T w')
  (λe a w p=>by have:=akV (P:=P) (c₀:=c₀) (cs:=cs) (u':= .returning) (T:=T) (e:=e) d p;rw [m] at this;exact this) ops.toList 0 c (λj=>by rw [hV,qk]) _ _ (h _ b rfl)
 exact i
end
variable {w : World}
inductive Ex where
 |mk (op n at_:Int) (l:List Ex)
instance:Inhabited Ex:=⟨.mk 0 0 0 []⟩
def Ex.op:Ex->Int
 | .mk o _ _ _=>o
def Ex.n:Ex->Int
 | .mk _ n _ _=>n
def Ex.at_:Ex->Int
 | .mk _ _ a _=>a
def Ex.l:Ex->List Ex
 | .mk _ _ _ l=>l
mutual
def Ex.sz:Ex->Nat
 | .mk _ _ _ l=>szL l+1
def szL:List Ex->Nat
 |[]=>0
 |x::r=>Ex.sz x+szL r
end
inductive ug(M:Nat->Prop)(w:World):w9->Ex->Prop
 |nil (op n a:Int) (ad:Option Addr):ug M w [.int .i64 op,.int .i64 n,.int .i64 a,sl (ad,0,0)] (.mk op n a [])
 |some (op n a:Int) (l:List Ex) (b off cap:Nat) (cs:w5) (e:TypeId) (fr:Nat×Nat) (hM:¬M b) (hb:w.heap[b]? =some (.cells cs e fr)) (hc:l.length<=cap) (ho:off+cap*4<=cs.size)
   (hl:((cs.toList.drop off).take (l.length*4)).length=l.length*4) (h:∀i (hi:i<l.length),ug M w ((((cs.toList.drop off).take (l.length*4)).drop (i*4)).take 4) l[i]):
   ug M w [.int .i64 op,.int .i64 n,.int .i64 a,sl (some ⟨b,off,none⟩,l.length,cap)] (.mk op n a l)
theorem ug.len{M:Nat->Prop}{x:Ex}(h:ug M w vs x):vs.length=4:=by cases h <;> rfl
theorem ug.mv{M M':Nat->Prop}{w':World}{x:Ex}(h:ug M w vs x)(m:Mv M w M' w'):ug M' w' vs x:=by
 induction h with
 |nil op n a j=>exact .nil op n a j
 |some op n a l b off cap cs e fr f hb hc c d _ ih=>
  obtain ⟨i,g⟩:=m.2 b (Array.getElem?_eq_some_iff.1 hb).1 f;exact .some op n a l b off cap cs e fr i (by rw [g];exact hb) hc c d ih
def Io:dD Ex where
 n:=4
 rd:=ug
 len:=ug.len
 one h:=by cases h <;> simp [Value.oneCell',sl]
 mv:=ug.mv
theorem HB{M:Nat->Prop}{x:Ex}(h:Io.rd M w vs x):∃v:fA,vs=[(.int .i64 x.op),(.int .i64 x.n),(.int .i64 x.at_),(sl v)]/\bQ Io M w (sl v) x.l:=by
 cases h with
 |nil op n a g=>exact ⟨_,rfl,.inl ⟨⟨_,rfl⟩,rfl⟩⟩
 |some op n a l b off cap cs e fr f hb hc c d h=>exact ⟨_,rfl,.inr ⟨b,off,cap,cs,e,fr,rfl,f,hb,hc,c,d,h⟩⟩
theorem O1{M:Nat->Prop}{op n a:Int}{l:List Ex}(h:(Jf Io).rd M w [v] l):Io.rd M w [(.int .i64 op),(.int .i64 n),(.int .i64 a),v] (.mk op n a l):=by
 obtain ⟨p,hp,h⟩:=h;have hv:v=sl p:=by simpa using hp
 subst hv;rcases h with ⟨⟨i,h⟩,rfl⟩|⟨b,off,cap,cs,e,fr,h,g,hb,hc,d,f,c⟩
 .rw [h];exact .nil op n a i
 .rw [h];exact .some op n a l b off cap cs e fr g hb hc d f c
abbrev aA{α:Type}(c:Bool)(a b:α):α:=match c with
 |true=>a
 |false=>b
inductive Ty where
 |i (k:IntKind)
 |bo
 |s
 |un
 |n
 |p (x y:Ty)
 |l (x:Ty)
 |mp (k v:Ty)
 |ex
 deriving DecidableEq
def Ty.T:Ty->Type
 | .i _=>Int
 | .bo=>Bool
 | .s=>aE
 | .un=>Unit
 | .n=>Nat
 | .p x y=>x.T×y.T
 | .l x=>List x.T
 | .mp k v=>Option (List (k.T×v.T))
 | .ex=>Ex
def RNo(α:Type):dD α where
 n:=0
 rd _ _ _ _:=False
 len h:=h.elim
 one h:=h.elim
 mv h _:=h.elim
def RIf:dD Nat where
 n:=1
 rd _ _ vs x:=vs=[.iface x (.agg #[])]
 len h:=by rw [h];rfl
 one h:=by rw [h];simp [Value.oneCell']
 mv h _:=h
def Ty.rep:(t:Ty)->dD t.T
 | .i k=>RI k
 | .bo=>RB
 | .s=>RS
 | .un=>RU
 | .n=>RIf
 | .p x y=>RP x.rep y.rep
 | .l x=>Jf x.rep
 | .mp _ _=>RNo _
 | .ex=>Io
structure bZ where
 t:Ty
 x:t.T
def bZ.as(t:Ty)(d:bZ):Option t.T:=if h:d.t=t then some (h▸d.x) else none
theorem bZ.Ng{t:Ty}{d:bZ}{x:t.T}(h:d.as t=some x):d=⟨t,x⟩:=by
 unfold bZ.as at h;split at h
 next e=>obtain ⟨t',y⟩:=d;simp only at e;subst e;cases h;rfl
 .cases h
theorem bZ.anX{t:Ty}{x:t.T}:bZ.as t ⟨t,x⟩=some x:=by simp [bZ.as]
inductive AV where
 |int (k:IntKind) (x:Int)
 |bool (x:Bool)
 |str (x:aE)
 |agg (l:List AV)
 |tuple (l:List AV)
 |ptr (id off:Nat)
 |sl (id:Nat)
 |adr (id off:Nat)
 |fn (f:FuncId) (a b:List AV)
 |ifc (t:TypeId) (v:AV)
 |mp (id:Nat)
 |gp (b:Nat)
 |nv (id:Nat)
 |sfp (id:Nat) (f:Bool)
 |bs (id n:Nat)
 |raw (v:Value)
structure Nm where
 b:Nat
 v:fA
 a:Addr
 m:xb
 x:Value
 y:bZ
abbrev ay:=Nat->Nm
def cM:Nm:=⟨0,(none,0,0),⟨0,0,none⟩,none,.bool false,⟨.un,()⟩⟩
mutual
def AV.val(ρ:ay):AV->Value
 | .int k x=> .int k x
 | .bool x=> .bool x
 | .str x=>S x
 | .agg l=> .agg (AV.ao ρ l).toArray
 | .tuple l=> .tuple (AV.ao ρ l).toArray
 | .ptr id off=> .pointer (some ⟨(ρ id).b,off,none⟩)
 | .sl id=>Go.Proofs.YtkedhpmpejhekaaGreatDoor.sl (ρ id).v
 | .adr id off=> .pointer (some ((ρ id).a.add off))
 | .fn f a b=> .func (.func f) (AV.ao ρ a).toArray (AV.ao ρ b).toArray
 | .ifc t v=> .iface t (v.val ρ)
 | .mp id=> .map (ρ id).m
 | .gp b=> .pointer (some ⟨b,0,none⟩)
 | .nv id=>(ρ id).x
 | .sfp id f=>As f (ρ id).b
 | .bs id n=> .slice (some ⟨(ρ id).b,0,none⟩) n n
 | .raw v=>v
def AV.ao(ρ:ay):List AV->w9
 |[]=>[]
 |v::l=>v.val ρ::AV.ao ρ l
end
mutual
def AV.low(c:Nat):AV->Bool
 | .agg l|.tuple l=>AV.bX c l
 | .fn _ a b=>AV.bX c a&&AV.bX c b
 | .ifc _ v=>v.low c
 | .ptr id _|.sl id|.adr id _|.mp id|.nv id|.sfp id _|.bs id _=>Nat.blt id c
 |_=>true
def AV.bX(c:Nat):List AV->Bool
 |[]=>true
 |v::l=>v.low c&&AV.bX c l
end
def aT(c:Nat)(ρ ρ':ay):Prop:= ∀j,j<c->ρ' j=ρ j
theorem aT.refl{c:Nat}{ρ:ay}:aT c ρ ρ:=λ_ _=>rfl
theorem aT.trans{c d:Nat}{a b e:ay}(h:aT c a b)(k:aT d b e)(f:c<=d):aT c a e:=λj g=>(k j (dk g f)).trans (h j g)
theorem aT.less{c d:Nat}{a b:ay}(h:aT d a b)(e:c<=d):aT c a b:=λj f=>h j (dk f e)
mutual
theorem AV.kz{ρ ρ':ay}{c:Nat}(ha:aT c ρ ρ'):(v:AV)->v.low c=true->v.val ρ'=v.val ρ
 | .int _ _,_|.bool _,_|.str _,_|.raw _,_|.gp _,_=>by simp only [AV.val]
 | .agg l,h=>by simp only [AV.val];rw [AV.bU ha l (by simpa only [AV.low] using h)]
 | .tuple l,h=>by simp only [AV.val];rw [AV.bU ha l (by simpa only [AV.low] using h)]
 | .fn _ a b,h=>by
  simp only [AV.low,ae] at h;simp only [AV.val];rw [AV.bU ha a h.1,AV.bU ha b h.2]
 | .ifc _ v,h=>by simp only [AV.val];rw [AV.kz ha v (by simpa only [AV.low] using h)]
 | .ptr _ _,h=>by simp only [AV.val];rw [ha _ (by simpa only [AV.low,e9] using h)]
 | .sl _,h=>by simp only [AV.val];rw [ha _ (by simpa only [AV.low,e9] using h)]
 | .adr _ _,h=>by simp only [AV.val];rw [ha _ (by simpa only [AV.low,e9] using h)]
 | .mp _,h=>by simp only [AV.val];rw [ha _ (by simpa only [AV.low,e9] using h)]
 | .nv _,h=>by simp only [AV.val];rw [ha _ (by simpa only [AV.low,e9] using h)]
 | .sfp _ _,h=>by simp only [AV.val];rw [ha _ (by simpa only [AV.low,e9] using h)]
 | .bs _ _,h=>by simp only [AV.val];rw [ha _ (by simpa only [AV.low,e9] using h)]
theorem AV.bU{ρ ρ':ay}{c:Nat}(ha:aT c ρ ρ'):(l:List AV)->AV.bX c l=true->AV.ao ρ' l=AV.ao ρ l
 |[],_=>by simp only [AV.ao]
 |v::l,h=>by simp only [AV.bX,ae] at h;simp only [AV.ao];rw [AV.kz ha v h.1,AV.bU ha l h.2]
end
mutual
theorem AV.fe{c d:Nat}(e:c<=d):(v:AV)->v.low c=true->v.low d=true
 | .int _ _,_|.bool _,_|.str _,_|.raw _,_|.gp _,_=>by simp only [AV.low]
 | .agg l,h=>by simp only [AV.low] at h ⊢; exact AV.jr e l h
 | .tuple l,h=>by simp only [AV.low] at h ⊢; exact AV.jr e l h
 | .fn _ a b,h=>by simp only [AV.low,ae] at h ⊢; exact ⟨AV.jr e a h.1,AV.jr e b h.2⟩
 | .ifc _ v,h=>by simp only [AV.low] at h ⊢; exact AV.fe e v h
 | .ptr _ _,h=>by simp only [AV.low,e9] at h ⊢; omega
 | .sl _,h=>by simp only [AV.low,e9] at h ⊢; omega
 | .adr _ _,h=>by simp only [AV.low,e9] at h ⊢; omega
 | .mp _,h=>by simp only [AV.low,e9] at h ⊢; omega
 | .nv _,h=>by simp only [AV.low,e9] at h ⊢; omega
 | .sfp _ _,h=>by simp only [AV.low,e9] at h ⊢; omega
 | .bs _ _,h=>by simp only [AV.low,e9] at h ⊢; omega
theorem AV.jr{c d:Nat}(a:c<=d):(l:List AV)->AV.bX c l=true->AV.bX d l=true
 |[],_=>by simp only [AV.bX]
 |v::l,h=>by simp only [AV.bX,ae] at h ⊢;exact ⟨AV.fe a v h.1,AV.jr a l h.2⟩
end
theorem PB{c:Nat}:{l m:List AV}->AV.bX c l=true->AV.bX c m=true->AV.bX c (l++m)=true
 |[],m,_,h=>h
 |v::l,m,h,k=>by simp only [de,AV.bX,ae] at h ⊢;exact ⟨h.1,PB h.2 k⟩
theorem AV.abz{ρ:ay}{l:List AV}{i:Nat}{v:AV}(h:l[i]? =some v):(AV.ao ρ l)[i]? =some (v.val ρ):=by
 induction l generalizing i with
 |nil=>simp at h
 |cons u l ih=>
  cases i with
  |zero=>simp at h;subst h;simp [AV.ao]
  |succ i=>simp only [AV.ao,cf] at h ⊢; exact ih h
theorem AV.gC{ρ:ay}:{l:List AV}->{k:Nat}->AV.ao ρ (l.drop k)=(AV.ao ρ l).drop k
 |l,0=>by simp
 |[],k+1=>by simp [AV.ao]
 |v::l,k+1=>by simp only [AV.ao,List.drop_succ_cons];exact AV.gC
theorem AV.ju{ρ:ay}:{l:List AV}->{k:Nat}->AV.ao ρ (l.take k)=(AV.ao ρ l).take k
 |l,0=>by simp [AV.ao]
 |[],k+1=>by simp [AV.ao]
 |v::l,k+1=>by simp only [AV.ao,qU];rw [AV.ju]
theorem AV.bm{ρ:ay}:{l:List AV}->(AV.ao ρ l).length=l.length
 |[]=>by simp [AV.ao]
 |v::l=>by simp [AV.ao,AV.bm]
theorem cZ{ρ:ay}:{l m:List AV}->AV.ao ρ (l++m)=AV.ao ρ l++AV.ao ρ m
 |[],m=>by simp [AV.ao]
 |v::l,m=>by simp only [de,AV.ao];rw [cZ]
abbrev GK:=Option (Nat×Bool)
inductive Row where
 |box (id:Nat) (t:TypeId) (vs:List AV)
 |sli (g:GK) (id:Nat) (t:Ty) (l:List t.T) (clip:Bool)
 |own (id:Nat) (t:Ty) (e:TypeId) (l:List t.T) (ver:Nat)
 |kn (g:GK) (q id ver:Nat) (t:Ty) (i:Int) (x:t.T)
 |elm (g:GK) (id:Nat) (vs:List AV)
 |mp (id:Nat) (k v:Ty) (d:Option (List (k.T×v.T)))
 |it (id:Nat) (s:aE) (p:Nat)
 |eq (id:Nat) (v:AV)
 |gone
inductive Pt where
 |int (k:IntKind)|bool|str
 |sli (t:Ty)
 |own (t:Ty) (e:TypeId) (m:Bool)
 |slr (n:Nat)
 |bx (t:TypeId) (off:Nat) (m:Bool) (vs:List Pt)
 |ptr (n off:Nat)
 |mp (k v:Ty) (m:Bool)
 |it
 |agg (l:List Pt)|cG (l:List Pt)
 |fn (f:FuncId) (a b:List Pt)
 |ifc (t:TypeId) (p:Pt)
 |iU (v:AV)
 |dat (t:Ty) (o:u9)
 |ifn
 |sfp
 |sty (p:Pt)
 |same
abbrev aF:=List (Nat×GK×AV)
structure Tm where
 vs:List (Bool×Nat×Pt)
 th:x8
inductive HT where
 |o
 |c (a b:HT)
 |l (t:Tm) (a:HT)
 |j (t:Tm) (a b:HT)
 |s (a:HT)
 |n (k:Nat) (a:HT)
 |r (th:x8) (a:HT)
structure aC where
 c:Nat
 E:aF
 G:List Row
 h:HT
structure Fr where
 F:aF
 H:List Row
 n:Nat
inductive XE where
 |nrm|ret
 |ext (i:Nat)
 |gto (l:Nat)
 |gO (v:AV)
 |panE (v:AV)
 |panL (v:AV)
def WW:Bool->Bool->Bool
 |true,b=>b
 |false,b=> !b
theorem afv:{a b:Bool}->WW a b=true->a=b
 |true,_,h=>h.symm
 |false,b,h=>by cases b <;> simp_all [WW]
theorem aiT:(a:Bool)->WW a a=true
 |true=>rfl
 |false=>rfl
def GK.eq:GK->GK->Bool
 |none,none=>true
 |some (j,p),some (k,q)=>Nat.beq j k&&WW p q
 |_,_=>false
theorem GK.eq_eq:{a b:GK}->a.eq b=true->a=b
 |none,none,_=>rfl
 |some (j,p),some (k,q),h=>by simp only [GK.eq,ae] at h;rw [ah h.1,afv h.2]
abbrev aB:=List ((Nat×Bool)×GK×Nat×Bool)
def wj(p b:Bool):Bool:=match p with
 |true=>b
 |false=> !b
theorem MV(p b:Bool):wj p b=(b==p):=by cases p <;> cases b <;> rfl
def aB.get:aB->GK->Bool
 |_,none=>true
 |[],some _=>false
 |(k,par,_,b)::T,some k'=>aA ( GK.eq (some k) (some k') ) ( (aB.get T par&&wj k.2 b) )<|aB.get T (some k')
@[simp] theorem aB.get_none {T : aB} : T.get none = true := by cases T <;> rfl
theorem aB.PL{k:Nat×Bool}{par:GK}{rj:Nat}{b:Bool}{T:aB}{x:GK}(h:(!(GK.eq (some k) x))=true):aB.get ((k,par,rj,b)::T) x=T.get x:=by
 cases x with
 |none=>simp
 |some a=>
  simp only [aB.get];cases hb:GK.eq (some k) (some a)
  .rfl
  .rw [hb] at h;cases h
theorem GK.afW:(k:Nat×Bool)->GK.eq (some k) (some k)=true:=λk=>by simp [GK.eq,aiT]
theorem aB.ak4{k:Nat×Bool}{par:GK}{rj:Nat}{b:Bool}{T:aB}:aB.get ((k,par,rj,b)::T) (some k)=(T.get par&&wj k.2 b):=by simp only [aB.get,GK.afW]
def tf(p:fA):x8:=match p.2.2 with
 |0=>[]
 |_+1=>dv (sl p)
section
variable {α : Type} {A : dD α} {e : TypeId} {M M' : Nat -> Prop} {w w' : World}
theorem bK.canon{p:fA}{xs:List α}(h:bK A e M w (sl p) xs R):(∀b∈tf p,b∈R)/\∀(M':Nat->Prop) (w':World),bK A e M' w' (sl p) xs R->bK A e M' w' (sl p) xs (tf p):=by
 obtain ⟨a,n,cap⟩:=p;cases cap with
 |zero=>
  refine ⟨λb hb=>(by cases hb),λM' w' d=>?_⟩;have hx:xs=[]:=by
   rcases d with ⟨_,d⟩|⟨_,d,_⟩
   .obtain ⟨cells,⟨_,k⟩,_⟩:=d;rcases k with ⟨_,l⟩|⟨g,o,c,cur,hv,q,hc,r⟩
    .exact cp l
    .simp only [sl,Value.slice.injEq] at hv;exact cp (by omega)
   .exact d
  obtain ⟨m,s,f⟩:=d.len;simp only [sl,Value.slice.injEq] at f;have i:n=0:=by rw [f.2.1,hx];rfl
  subst i;exact .inr ⟨rfl,hx,⟨a,rfl⟩,bQ.emp⟩
 |succ c=>
  have key:∀(M':Nat->Prop) (w':World),bK A e M' w' (sl (a,n,c+1)) xs R->R=dv (sl (a,n,c+1)):=λM' w' d=>by
   rcases d with ⟨d,_⟩|⟨_,_,⟨m,d⟩,_⟩
   .exact d
   .simp only [sl,Value.slice.injEq] at d;omega
  have j:=key _ _ h;subst j;exact ⟨λb hb=>hb,λM' w' d=>d⟩
theorem bK.BA{p:fA}{xs:List α}(h:bK A e M w (sl p) xs R):bK A e M w (sl p) xs (tf p):=h.canon.2 _ _ h
def mJ(A:dD α)(e:TypeId)(p:fA)(l:List α)(q:Prop):Item where
 own:=tf p
 P M w:=bK A e M w (sl p) l (tf p)/\q
 lt h:=h.1.lt
 cK h m k _:=⟨h.1.cK k m,h.2⟩
 cF:=false
 hp h:=by cases h
def EY(g:Bool)(A:dD α)(p:fA)(l:List α)(clip:Bool):Item where
 own:=[]
 P M w:=g=true->bQ A M w (sl p) l/\(clip=true->p.2.2=l.length)
 lt _ b hb:=by cases hb
 cK h m _ _:=λhg=>⟨(h hg).1.mv m,(h hg).2⟩
 cF:=true
 hp _:=rfl
def aac(p:Prop):Item where
 own:=[]
 P _ _:=p
 lt _ b hb:=by cases hb
 cK h _ _ _:=h
 cF:=true
 hp _:=rfl
end
def EM:(t:Ty)->t.T->Value
 | .i k,x=> .int k x
 | .s,x=>S x
 | .bo,x=> .bool x
 | .p (.i a) (.i b),x=>UM a b x
 |_,_=> .bool false
def Row.item(ρ:ay)(T:aB):Row->Item
 | .box id t vs=>Go.Proofs.YtkedhpmpejhekaaGreatDoor.box (ρ id).b t (AV.ao ρ vs)
 | .sli g id t l b=>EY (T.get g) t.rep (ρ id).v l b
 | .own id t e l ver=>mJ t.rep e (ρ id).v l ((ρ ver).y=⟨.l t,l⟩)
 | .kn g q id ver t i x=>aac (T.get g=true->∃l:List t.T,(ρ ver).y=⟨.l t,l⟩/\idx l i=some x/\(ρ q).a=pH (Go.Proofs.YtkedhpmpejhekaaGreatDoor.sl (ρ id).v) i t.rep.n)
 | .elm g id vs=>elem (T.get g) (ρ id).a (AV.ao ρ vs)
 | .mp id k v d=>omap (EM k) (EM v) (.map (ρ id).m) d
 | .it id s p=>iter (ρ id).b s p
 | .eq id v=>aac ((ρ id).x=v.val ρ)
 | .gone=>aac True
abbrev ab(ρ:ay)(T:aB)(G:List Row):Ctx:=G.map (Row.item ρ T)
def Row.low(c:Nat):Row->Bool
 | .box id _ vs=>Nat.blt id c&&AV.bX c vs
 | .sli _ id _ _ _|.mp id _ _ _|.it id _ _=>Nat.blt id c
 | .own id _ _ _ ver=>Nat.blt id c&&Nat.blt ver c
 | .kn _ q id ver _ _ _=>Nat.blt q c&&Nat.blt id c&&Nat.blt ver c
 | .elm _ id vs=>Nat.blt id c&&AV.bX c vs
 | .eq id v=>Nat.blt id c&&v.low c
 | .gone=>true
def bC(c:Nat):List Row->Bool
 |[]=>true
 |r::G=>r.low c&&bC c G
theorem Row.Aa{ρ ρ':ay}{T:aB}{c:Nat}(ha:aT c ρ ρ'){r:Row}(h:r.low c=true):r.item ρ' T=r.item ρ T:=by
 cases r <;> simp only [Row.low,ae,e9] at h
 .simp only [Row.item];rw [ha _ h.1,AV.bU ha _ h.2]
 .simp only [Row.item];rw [ha _ h]
 .simp only [Row.item];rw [ha _ h.1,ha _ h.2]
 .simp only [Row.item];rw [ha _ h.1.1,ha _ h.1.2,ha _ h.2]
 .simp only [Row.item];rw [ha _ h.1,AV.bU ha _ h.2]
 .simp only [Row.item];rw [ha _ h]
 .simp only [Row.item];rw [ha _ h]
 .simp only [Row.item];rw [ha _ h.1,AV.kz ha _ h.2]
 .simp only [Row.item]
theorem bf{ρ ρ':ay}{T:aB}{c:Nat}(ha:aT c ρ ρ'):{G:List Row}->bC c G=true->ab ρ' T G=ab ρ T G
 |[],_=>rfl
 |r::G,h=>by simp only [bC,ae] at h;simp only [ab,cx];rw [Row.Aa ha h.1];have:=bf (T:=T) ha h.2;simp only [ab] at this;rw [this]
def aF.env(ρ:ay)(T:aB):aF->Env
 |[]=>[]
 |(t,g,v)::E=>(t,T.get g,v.val ρ)::aF.env ρ T E
def aF.low(c:Nat):aF->Bool
 |[]=>true
 |x::E=>x.2.2.low c&&aF.low c E
theorem oL{ρ ρ':ay}{T:aB}{c:Nat}(ha:aT c ρ ρ'):{E:aF}->E.low c=true->aF.env ρ' T E=aF.env ρ T E
 |[],_=>rfl
 |(t,g,v)::E,h=>by simp only [aF.low,ae] at h;simp only [aF.env];rw [AV.kz ha v h.1,oL ha h.2]
def aC.low(fr:Fr)(st:aC):Bool:=aF.low st.c st.E&&aF.low st.c fr.F&&bC st.c st.G&&bC st.c fr.H
def ay.set(ρ:ay)(j:Nat)(x:Nm):ay:=λi=>aA (Nat.beq i j) x (ρ i)
theorem ay.bB{ρ:ay}{j:Nat}{x:Nm}:ρ.set j x j=x:=by simp [ay.set]
theorem ay.aZ{ρ:ay}{j:Nat}{x:Nm}:aT j ρ (ρ.set j x):=λi hi=>by
 unfold ay.set;have:Nat.beq i j=false:=by
  cases hb:Nat.beq i j
  .rfl
  .exact absurd (ah hb) (Nat.ne_of_lt hi)
 rw [this]
def iT(E' E:Env):Prop:= ∀t p,look E' t=some p->look E t=some p
theorem iT.refl{E:Env}:iT E E:=λ_ _ h=>h
theorem iT.trans{A B C:Env}(h:iT A B)(k:iT B C):iT A C:=λt p hp=>k t p (h t p hp)
theorem Fits.lK{n:Nat}{E:Env}{a:Act}(h:Fits n E a)(c:iT E' E):Fits n E' a:=⟨h.size,λt g v b=>h.at_ t g v (c t _ b)⟩
theorem WC.lK{P:Program}{ρ:xb}{c:Code}{Q:bu}{n:Nat}{D:v7}{E:Env}{w:World}(E':Env)(b:iT E' E)(h:WC P ρ c Q n D E' w):WC P ρ c Q n D E w:=
 λa d hd=>h a (d.lK b) hd
theorem At.lK{e:Exit}{Q:bu}{n:Nat}{D:v7}{E:Env}{w:World}(E':Env)(b:iT E' E)(h:At Q e n D E' w):At Q e n D E w:=
 λa c hd=>h a (c.lK b) hd
theorem EK{A B:Env}{t:Nat}:look (A++B) t=match look A t with
  |some p=>some p
  |none=>look B t:=by
 induction A with
 |nil=>rfl
 |cons x A ih=>
  obtain ⟨r,g,v⟩:=x;simp only [de,look];cases Nat.beq r t
  .simp only [cy];exact ih
  .rfl
theorem mD{ρ:ay}{T:aB}:{E F:aF}->aF.env ρ T (E++F)=aF.env ρ T E++aF.env ρ T F
 |[],_=>rfl
 |(t,g,v)::E,F=>by simp only [de,aF.env];rw [mD]
theorem bk{ρ:ay}{T:aB}{G H:List Row}:ab ρ T (G++H)=ab ρ T G++ab ρ T H:=qB
variable {a : Option α} {Φ : Ctx} {ρ : ay}
theorem aI{c:Bool}{r:α}(h:aA c a none=some r):c=true/\a=some r:=by
 cases c
 .cases h
 .exact ⟨rfl,h⟩
theorem Nt{c:Bool}{r:α}(h:aA c none a=some r):c=false/\a=some r:=by
 cases c
 .exact ⟨rfl,h⟩
 .cases h
theorem dq{c:Bool}{b:Option α}{r:α}(h:aA c a b=some r):(c=true/\a=some r)\/(c=false/\b=some r):=by
 cases c
 .exact .inr ⟨rfl,h⟩
 .exact .inl ⟨rfl,h⟩
def aB.imp:aB->GK->GK->Bool
 |_,_,none=>true
 |[],_,some _=>false
 |_,none,some _=>false
 |(k,par,_,_)::T,some g,some g'=>GK.eq (some g) (some g')||(aA ( GK.eq (some k) (some g) ) ( aB.imp T par (some g') )<|aB.imp T (some g) (some g'))&& !(GK.eq (some k) (some g'))
theorem aB.jy:{T:aB}->{g g':GK}->T.imp g g'=true->T.get g=true->T.get g'=true
 |T,g,none,_,_=>by simp
 |[],g,some g',h,_=>by simp [aB.imp] at h
 |_::_,none,some g',h,_=>by simp [aB.imp] at h
 |(k,par,rj,b)::T,some g,some g',h,hg=>by
  simp only [aB.imp,c5,ae] at h;rcases h with h|⟨a,c⟩
  .rw [<-GK.eq_eq h];exact hg
  .rw [aB.PL c];cases hb:GK.eq (some k) (some g)
   .rw [hb] at a;rw [aB.PL (by rw [hb];rfl)] at hg;exact aB.jy a hg
   .rw [hb] at a;simp only [aB.get,hb,ae] at hg;exact aB.jy a hg.1
def bw:aF->Nat->Option (GK×AV)
 |[],_=>none
 |(r,g,v)::E,t=>aA ( Nat.beq r t ) ( some (g,v) )<|bw E t
def dC(E F:aF)(t:Nat):Option (GK×AV):=match bw E t with
 |some x=>some x
 |none=>bw F t
theorem sw{ρ:ay}{T:aB}{t:Nat}:{E:aF}->look (aF.env ρ T E) t=(bw E t).map λx=>(T.get x.1,x.2.val ρ)
 |[]=>rfl
 |(r,g',v')::E=>by
  simp only [bw,aF.env,look];cases hb:Nat.beq r t
  .simp only [cy];exact sw
  .rfl
abbrev au(ρ:ay)(T:aB)(E F:aF):Env:=aF.env ρ T E++aF.env ρ T F
theorem fM{T:aB}{t:Nat}{E F:aF}:look (au ρ T E F) t=(dC E F t).map λx=>(T.get x.1,x.2.val ρ):=by rw [EK,sw,sw];unfold dC;cases bw E t <;> rfl
def iU:Value->AV
 | .int k x=> .int k x
 | .bool x=> .bool x
 | .string b=> .str b.data.toList
 |v=> .raw v
theorem afP:(iU v).val ρ=v:=by cases v <;> simp [iU,AV.val,S]
theorem kP{ρ:ay}:{l:w9}->AV.ao ρ (l.map iU)=l
 |[]=>by simp [AV.ao]
 |v::l=>by simp only [cx,AV.ao];rw [afP,kP]
theorem aoC{c:Nat}:(iU v).low c=true:=by cases v <;> simp [iU,AV.low]
theorem acG{c:Nat}:{l:w9}->AV.bX c (l.map iU)=true
 |[]=>by simp [AV.bX]
 |v::l=>by simp only [cx,AV.bX];rw [aoC,acG];rfl
def br(T:aB)(E F:aF)(g:GK):Operand->Option AV
 | .tmp t=>match dC E F t with
  |some x=>aA ( T.imp g x.1 ) ( some x.2 )<|none
  |none=>none
 | .const v=>some (iU v)
 | .func f=>some (.fn f [] [])
 | .global f=>some (.gp f)
theorem aR{T:aB}{E F:aF}{g:GK}{v:AV}(h:br T E F g x=some v):ar (au ρ T E F) (T.get g) x (v.val ρ):=by
 cases x with
 |tmp t=>
  unfold br at h;dsimp only at h;cases a:dC E F t with
  |none=>rw [a] at h;cases h
  |some x=>
   rw [a] at h;obtain ⟨d,b⟩:=aI h;cases b;exact ar.g (g':=T.get x.1) (by rw [fM,a];rfl) (aB.jy d)
 |const u=>cases h;rw [afP];exact ar.c
 |func f=>cases h;simp only [AV.val,AV.ao];exact ar.f
 |global f=>cases h;simp only [AV.val];exact ar.gl
theorem bE{T:aB}{E F:aF}{v:AV}(h:br T E F none x=some v):ar (au ρ T E F) true x (v.val ρ):=by have:=aR (ρ:=ρ) h;rwa [aB.get_none] at this
def oP(T:aB)(E F:aF)(g:GK):wo->Option (List AV)
 |[]=>some []
 |x::l=>match br T E F g x with
  |some v=>match oP T E F g l with
   |some vs=>some (v::vs)
   |none=>none
  |none=>none
theorem fN{ρ:ay}{T:aB}{E F:aF}{g:GK}:{xs:wo}->{vs:List AV}->oP T E F g xs=some vs->gG (au ρ T E F) (T.get g) xs (AV.ao ρ vs)
 |[],vs,h=>by cases h;simp only [AV.ao];exact .nil
 |x::l,vs,h=>by
  unfold oP at h;split at h
  .rename_i v b;split at h
   next us a=>cases h;simp only [AV.ao];exact .cons (aR b) (fN a)
   .cases h
  .cases h
def mG(p:Row->Bool):List Row->Option (Nat×Row)
 |[]=>none
 |r::G=>aA ( p r ) ( some (0,r) )<|match mG p G with
  |some x=>some (x.1+1,x.2)
  |none=>none
theorem kL{p:Row->Bool}:{G:List Row}->{i:Nat}->{r:Row}->mG p G=some (i,r)->G[i]? =some r/\p r=true
 |[],_,_,h=>by cases h
 |r0::G,i,r,h=>by
  unfold mG at h;rcases dq h with ⟨b,a⟩|⟨b,a⟩
  .cases a;exact ⟨rfl,b⟩
  .split at a
   next x hx=>cases a;obtain ⟨d,c⟩:=kL (i:=x.1) (r:=x.2) hx;exact ⟨by simpa using d,c⟩
   .cases a
def lz(id:Nat):Row->Bool
 | .sli _ j _ _ _|.own j _ _ _ _=>Nat.beq j id
 |_=>false
def wO(id:Nat):Row->Bool
 | .box j _ _=>Nat.beq j id
 |_=>false
def aid(id:Nat):Row->Bool
 | .mp j _ _ _=>Nat.beq j id
 |_=>false
def aqs(id:Nat):Row->Bool
 | .it j _ _=>Nat.beq j id
 |_=>false
def isEq(id:Nat):Row->Bool
 | .eq j _=>Nat.beq j id
 |_=>false
def Qs(q:Nat):Row->Bool
 | .kn _ j _ _ _ _ _=>Nat.beq j q
 |_=>false
def aqz(id:Nat):Row->Bool
 | .elm _ j _=>Nat.beq j id
 |_=>false
def Row.id:Row->Nat
 | .box j _ _|.sli _ j _ _ _|.own j _ _ _ _|.mp j _ _ _|.it j _ _|.eq j _|.elm _ j _|.kn _ j _ _ _ _ _=>j
 | .gone=>0
def Row.cF:Row->Bool
 | .sli ..|.elm ..|.eq ..|.kn ..|.gone=>true
 |_=>false
theorem Row.ajo{T:aB}{r:Row}(h:r.cF=true):(r.item ρ T).cF=true:=by cases r <;> first|rfl|cases h
theorem fi{T:aB}{G:List Row}{i:Nat}{r:Row}(h:G[i]? =some r):(ab ρ T G++Φ)[i]? =some (r.item ρ T):=by have a:i<G.length:=(List.getElem?_eq_some_iff.1 h).1;rw [cd (by simpa [ab] using a)];simp [ab,h]
theorem Yp{T:aB}{G H:List Row}{i:Nat}{r:Row}(h:H[i]? =some r):(ab ρ T G++(ab ρ T H++Φ))[G.length+i]? =some (r.item ρ T):=by
 rw [b5 (by simp [ab])];have:G.length+i-(ab ρ T G).length=i:=by simp [ab]
 rw [this];exact fi h
inductive Src where
 |top (i:Nat)
 |cm (i:Nat)
 |nilI (t:Ty)
 |nilO (t:Ty) (e:TypeId)
 |nilM (k v:Ty)
def dH(G H:List Row)(p:Row->Bool):Option (Src×Row):=match mG p G with
 |some x=>some (.top x.1,x.2)
 |none=>match mG p H with
  |some x=>some (.cm x.1,x.2)
  |none=>none
def Src.at_(G H:List Row):Src->Row->Prop
 | .top i,r=>G[i]? =some r
 | .cm i,r=>H[i]? =some r
 |_,_=>False
theorem bW{p:Row->Bool}{G H:List Row}{s:Src}{r:Row}(h:dH G H p=some (s,r)):s.at_ G H r/\p r=true:=by
 unfold dH at h;split at h
 next x hx=>cases h;exact kL hx
 .split at h
  next x hx=>cases h;exact kL hx
  .cases h
theorem Src.item{T:aB}{G H:List Row}{s:Src}{r:Row}(h:s.at_ G H r):∃i:Nat,(ab ρ T G++(ab ρ T H++Φ))[i]? =some (r.item ρ T):=by
 cases s with
 |top i=>exact ⟨i,fi h⟩
 |cm i=>exact ⟨G.length+i,Yp h⟩
 |nilI=>exact h.elim
 |nilO=>exact h.elim
 |nilM=>exact h.elim
theorem Src.holds{T:aB}{G H:List Row}{s:Src}{r:Row}(a:Sat (ab ρ T G++(ab ρ T H++Φ)) w)(h:s.at_ G H r):(r.item ρ T).P (Ctx.M (ab ρ T G++(ab ρ T H++Φ))) w:=by obtain ⟨i,hi⟩:=Src.item (ρ:=ρ) (T:=T) (Φ:=Φ) h;exact a.at_ hi
def se(n:Nat):x8->Bool
 |[]=>false
 |m::l=>Nat.beq n m||se n l
theorem ab4{n:Nat}:{l:x8}->(se n l=true↔n∈l)
 |[]=>by simp [se]
 |m::l=>by simp only [se,c5,qC];rw [ab4,Nat.beq_eq]
variable {cv : w4 × AV}
structure YP where
 f:FuncId
 run:{R:Type}->List AV->List Row->aC->(AV->aC->Option R)->Option R
def YP.Ok(P:Program)(i:YP):Prop:=Enters P i.f/\∀{R:Type} (r:R) (args:List AV) (H:List Row) (st:aC) (K:AV->aC->Option R) (ρ:ay) (Φ:Ctx) (w:World),Sat (ab ρ [] st.G++(ab ρ [] H++Φ)) w->
 i.run args H st K=some r->fq P i.f (AV.ao ρ args) w λv w'=>∃(ρ':ay) (st':aC) (av:AV),K av st'=some r/\aT st.c ρ ρ'/\st.c<=st'.c/\av.val ρ'=v/\Sat (ab ρ' [] st'.G++(ab ρ' [] H++Φ)) w'
structure Cx where
 P:Program
 tys:List (TypeId×Ty)
 gls:List (Nat×Nat×bZ)
 ids:List FuncId
 idsOk:∀f,f∈ids->ala P f
 fl:Nat
 ks:List TypeId
 inl:List YP
 inlOk:∀i,i∈inl->i.Ok P
 oc:List (Nat×Nat):=[]
def yR{α:Type}:List (Nat×α)->Nat->Option α
 |[],_=>none
 |x::l,n=>aA ( Nat.beq x.1 n ) ( some x.2 )<|yR l n
def Ih{ρ:Type}(c:w4)(g:w4)(k:Option ρ):Option ρ:=match c with
 |none=>k
 |some c=>match g with
  |none=>aH c k
  |some g=>B2 g c k
theorem oy{ρ:Type}{T:aB}{c:w4}{g:GK}{k:Option ρ}{r:ρ}(h:Ih c (g.map λ_=>T.get g) k=some r):(∀b,c=some b->T.get g=true->b=true)/\k=some r:=by
 unfold Ih at h;split at h
 .exact ⟨λb hb=>(by cases hb),h⟩
 .split at h
  next a=>obtain ⟨e,d⟩:=ek h;exact ⟨λb hb _=>(by cases hb;exact e),d⟩
  .rename_i g' a;cases g with
   |none=>cases a
   |some i=>
    simp only [l7,b8] at a;subst a;obtain ⟨e,d⟩:=ajm h;exact ⟨λb hb f=>(by cases hb;exact e f),d⟩
abbrev CV:=Option (w4×AV)
def pv(v:AV):CV:=some (none,v)
def fm(a b:IntKind):Bool:=decide (a=b)
theorem gw{a b:IntKind}(h:fm a b=true):a=b:=by simpa [fm] using h
def aix(k k':IntKind)(m l:Int):BinOp->CV
 | .add=>aA ( fm k k' ) ( pv (.int k (k.wrap (m+l))) ) none
 | .sub=>aA ( fm k k' ) ( pv (.int k (k.wrap (m-l))) ) none
 | .mul=>aA ( fm k k' ) ( pv (.int k (k.wrap (m*l))) ) none
 | .quo=>aA ( fm k k' ) ( some (some (l != 0),.int k (k.wrap (m.tdiv l))) ) none
 | .rem=>aA ( fm k k' ) ( some (some (l != 0),.int k (m.tmod l)) ) none
 | .eql=>aA ( fm k k' ) ( pv (.bool (m==l)) ) none
 | .neq=>aA ( fm k k' ) ( pv (.bool (m != l)) ) none
 | .lss=>aA ( fm k k' ) ( pv (.bool (decide (m<l))) ) none
 | .leq=>aA ( fm k k' ) ( pv (.bool (decide (m<=l))) ) none
 | .gtr=>aA ( fm k k' ) ( pv (.bool (decide (l<m))) ) none
 | .geq=>aA ( fm k k' ) ( pv (.bool (decide (l<=m))) ) none
 | .shr=>some (some (decide (0<=l)),.int k (nA k m l))
 | .shl=>some (some (decide (0<=l)),.int k (bY k m l))
 | .and=>aA ( fm k k' ) ( pv (.int k (pT k m l)) ) none
 | .or=>aA ( fm k k' ) ( pv (.int k (dQ k m l)) ) none
 | .xor=>aA ( fm k k' ) ( pv (.int k (Xe k m l)) ) none
 | .andNot=>aA ( fm k k' ) ( pv (.int k (bJ k m l)) ) none
def agK(m l:aE):BinOp->CV
 | .eql=>pv (.bool (m==l))
 | .neq=>pv (.bool (m != l))
 | .add=>some (some (lZ m l),.str (m++l))
 | .lss=>pv (.bool (Jv m l))
 | .leq=>pv (.bool (Jv m l||m==l))
 | .gtr=>pv (.bool (!(Jv m l||m==l)))
 | .geq=>pv (.bool (!(Jv m l)))
 |_=>none
def aiL(m l:Bool):BinOp->CV
 | .eql=>pv (.bool (m==l))
 | .neq=>pv (.bool (m != l))
 |_=>none
def Yd(P:Program)(t:TypeId):Option IntKind:=match P.underlying t with
 |some (.int k)=>some k
 |_=>none
theorem Ga{P:Program}{t:TypeId}{k:IntKind}(h:Yd P t=some k):P.underlying t=some (.int k):=by
 unfold Yd at h;split at h
 next b a=>cases h;exact a
 .cases h
def isStr(P:Program)(t:TypeId):Bool:=match P.underlying t with
 |some .string=>true
 |_=>false
theorem oQ{P:Program}{t:TypeId}(h:isStr P t=true):P.underlying t=some .string:=by
 unfold isStr at h;split at h
 .assumption
 .cases h
def isBool(P:Program)(t:TypeId):Bool:=match P.underlying t with
 |some .bool=>true
 |_=>false
theorem Yi{P:Program}{t:TypeId}(h:isBool P t=true):P.underlying t=some .bool:=by
 unfold isBool at h;split at h
 .assumption
 .cases h
def ak5(P:Program)(t:TypeId):Bool:=match P.underlying t with
 |some _=>true
 |none=>false
theorem apB{P:Program}{t:TypeId}(h:ak5 P t=true):∃d,P.underlying t=some d:=by
 unfold ak5 at h;split at h
 next d hd=>exact ⟨d,hd⟩
 .cases h
def ahz(P:Program)(t:TypeId)(op:BinOp):AV->AV->CV
 | .int k m,.int k' l=>aix k k' m l op
 | .str m,.str l=>agK m l op
 | .bool m,.bool l=>aA ( isBool P t ) ( aiL m l op ) none
 |_,_=>none
def ak7:UnOp->AV->CV
 | .not,.bool b=>pv (.bool (!b))
 | .neg,.int k m=>pv (.int k (k.wrap (0-m)))
 |_,_=>none
def am8:AV->Bool
 | .ptr _ _|.adr _ _|.fn _ _ _=>true
 |_=>false
def lA(P:Program)(Ev:Env)(ρ:ay)(g:Bool)(o:Oper)(w:World)(cv:w4×AV):Prop:=
 (∀b,cv.1=some b->g=true->b=true)->bg P Ev g o w (cv.2.val ρ)
section
variable {P : Program} {ρ : ay} {g : Bool} {w : World} {dst : xc} {ty : TypeId} {pos : String} {af : x3} {gd : vb} {Ev : Env}
theorem lA.pv{o:Oper}{v:AV}(h:pv v=some cv)(a:bg P Ev g o w (v.val ρ)):lA P Ev ρ g o w cv:=by cases h;exact λ_=>a
theorem ajl{t:TypeId}{op:BinOp}{k e:IntKind}{m l:Int}(hx:ar Ev g x (.int k m))(c:ar Ev g y (.int e l))(h:aix k e m l op=some cv):
  lA P Ev ρ g ⟨dst,.binOp op t x y t',ty,pos,af,gd⟩ w cv:=by
 have key:∀{a:CV},aA (fm k e) a none=some cv->k=e/\a=some cv:=λh=>⟨gw (aI h).1,(aI h).2⟩;cases op <;> simp only [aix] at h
 case shr=>cases h;exact λhc=>aos hx c (λd=>hc _ rfl d)
 case shl=>cases h;exact λhc=>anS hx c (λd=>hc _ rfl d)
 case quo=>
  obtain ⟨rfl,b⟩:=key h;cases b;exact λhc n a f d=>ao4 hx c (by have:=hc _ rfl d;simpa using this) n a f d
 case rem=>
  obtain ⟨rfl,b⟩:=key h;cases b;exact λhc n a f d=>aoH hx c (by have:=hc _ rfl d;simpa using this) n a f d
 case add=>obtain ⟨rfl,b⟩:=key h;exact .pv b (s5 hx c)
 case sub=>obtain ⟨rfl,b⟩:=key h;exact .pv b (afB hx c)
 case mul=>obtain ⟨rfl,b⟩:=key h;exact .pv b (aoq hx c)
 case eql=>obtain ⟨rfl,b⟩:=key h;exact .pv b (py hx c)
 case neq=>obtain ⟨rfl,b⟩:=key h;exact .pv b (aoX hx c)
 case lss=>obtain ⟨rfl,b⟩:=key h;exact .pv b (af9 hx c)
 case leq=>obtain ⟨rfl,b⟩:=key h;exact .pv b (aov hx c)
 case gtr=>obtain ⟨rfl,b⟩:=key h;exact .pv b (Wk hx c)
 case geq=>obtain ⟨rfl,b⟩:=key h;exact .pv b (an9 hx c)
 case and=>obtain ⟨rfl,b⟩:=key h;exact .pv b (akY hx c)
 case or=>obtain ⟨rfl,b⟩:=key h;exact .pv b (aod hx c)
 case xor=>obtain ⟨rfl,b⟩:=key h;exact .pv b (alj hx c)
 case andNot=>obtain ⟨rfl,b⟩:=key h;exact .pv b (aeG hx c)
theorem ai9{t:TypeId}{op:BinOp}{m l:aE}(hx:ar Ev g x (S m))(a:ar Ev g y (S l))(h:agK m l op=some cv):
  lA P Ev ρ g ⟨dst,.binOp op t x y t',ty,pos,af,gd⟩ w cv:=by
 unfold agK at h;split at h
 .exact .pv h (aoN hx a)
 .exact .pv h (ao2 hx a)
 .cases h;exact λhc=>anM hx a (λb=>hc _ rfl b)
 .exact .pv h (aog hx a)
 .exact .pv h (aoT hx a)
 .exact .pv h (ao8 hx a)
 .exact .pv h (aoP hx a)
 .cases h
theorem ajh{t:TypeId}{op:BinOp}{a b:AV}(hx:ar Ev g x (a.val ρ))(c:ar Ev g y (b.val ρ))(h:ahz P t op a b=some cv):
  lA P Ev ρ g ⟨dst,.binOp op t x y t',ty,pos,af,gd⟩ w cv:=by
 unfold ahz at h;split at h
 .simp only [AV.val] at hx c;exact ajl hx c h
 .simp only [AV.val] at hx c;exact ai9 hx c h
 .simp only [AV.val] at hx c;obtain ⟨e,d⟩:=aI h;unfold aiL at d;split at d
  .exact .pv d (aot (Yi e) hx c)
  .exact .pv d (an8 (Yi e) hx c)
  .cases d
 .cases h
theorem alc{t:TypeId}{op:UnOp}{u:AV}(hx:ar Ev g x (u.val ρ))(h:ak7 op u=some cv):
  lA P Ev ρ g ⟨dst,.unOp op t x,ty,pos,af,gd⟩ w cv:=by
 unfold ak7 at h;split at h
 .simp only [AV.val] at hx;exact .pv h (aaX hx)
 .simp only [AV.val] at hx;exact .pv h (aoY hx)
 .cases h
theorem ajD{v:AV}(hx:ar Ev g x (v.val ρ))(h:am8 v=true):bg P Ev g ⟨dst,.nilCheck x,ty,pos,af,gd⟩ w (v.val ρ):=by
 cases v with
 |ptr id off=>simp only [AV.val] at hx ⊢; exact abR hx
 |adr id off=>simp only [AV.val] at hx ⊢; exact abR hx
 |fn f a b=>simp only [AV.val] at hx ⊢; exact ak6 hx
 |_=>cases h
end
def jS(P:Program)(t:TypeId):Option (Nat×Nat×Value):=match P.info? t with
 |some i=>match i.zero with
  |some z=>some (i.size,i.bytes,z)
  |none=>none
 |none=>none
theorem cE{P:Program}{t:TypeId}{n bytes:Nat}(h:jS P t=some (n,bytes,z)):TI P t n bytes z:=by
 unfold jS at h;split at h
 .rename_i i hi;split at h
  next b a=>cases h;simp [TI,hi,a]
  .cases h
 .cases h
def ah2(P:Program)(t:TypeId)(k:Nat):Option (TypeId×Nat×Nat):=match P.underlying t with
 |some (.struct fs)=>match fs.toList[k]? with
  |some f=>match P.info? f.type with
   |some i=>some (f.type,f.offset,i.size)
   |none=>none
  |none=>none
 |_=>none
theorem afz{P:Program}{t ft:TypeId}{k off n:Nat}(h:ah2 P t k=some (ft,off,n)):∃a f i,P.underlying t=some (.struct a)/\a[k]? =some f/\f.type=ft/\f.offset=off/\P.info? ft=some i/\i.size=n:=by
 unfold ah2 at h;split at h
 .rename_i a b;split at h
  .rename_i f c;split at h
   next i hi=>cases h;exact ⟨a,f,i,b,by simpa using c,rfl,rfl,hi,rfl⟩
   .cases h
  .cases h
 .cases h
def jY(P:Program)(t:TypeId)(cs:List AV):Option AV:=match P.underlying t with
 |some d=>aA ( jm d ) ( (match jS P t with
   |some x=>aA ( Nat.ble x.1 cs.length ) ( some (.agg (cs.take x.1)) )<|none
   |none=>none)
  )<|cs.head?
 |none=>none
def cV:AV->List AV
 | .agg l=>l
 | .raw v=>v.cells.toList.map iU
 |v=>[v]
def Md:AV->Bool
 | .nv _=>false
 |_=>true
theorem xo{ρ:ay}{v:AV}(h:Md v=true):(v.val ρ).cells=(AV.ao ρ (cV v)).toArray:=by
 cases v <;> simp only [cV,AV.val,AV.ao] <;> try rfl
 .cases h
 .rw [kP]
def tq(vs:List AV)(k:Nat)(us:List AV):List AV:=vs.take k++us++vs.drop (k+us.length)
theorem wY{ρ:ay}{vs us:List AV}{k:Nat}:mW (AV.ao ρ vs) k (AV.ao ρ us)=AV.ao ρ (tq vs k us):=by simp only [mW,tq,cZ,AV.ju,AV.gC,AV.bm]
def yX(place:Nat->Option (Nat×Nat)):List (Nat×AV)->List AV->Option (List AV)
 |[],cs=>some cs
 |(i,v)::l,cs=>match place i with
  |some (off,n)=>aA ( Md v&&(Nat.beq (cV v).length n&&Nat.ble (off+n) cs.length) ) ( yX place l (tq cs off (cV v)) )<|none
  |none=>none
theorem YO{off:Nat}:∀(us:w9) (k:Nat) (cs:w9),off+k+us.length<=cs.length->
  (us.zipIdx k).foldl (λcs (x:Value×Nat)=>cs.setIfInBounds (off+x.2) x.1) cs.toArray=(mW cs (off+k) us).toArray
 |[],k,cs,_=>by simp [mW]
 |u::us,k,cs,h=>by
  simp only [eb] at h;simp only [List.zipIdx_cons,List.foldl_cons,List.setIfInBounds_toArray];rw [YO us (k+1) (cs.set (off+k) u) (by rw [s3];omega)];congr 1;simp only [mW];have a:off+k<cs.length:=by omega
  have c:(cs.set (off+k) u).take (off+(k+1))=cs.take (off+k)++[u]:=by rw [show off+(k+1)=(off+k)+1 from rfl,List.take_add_one,qA a,List.take_set_of_le (bb _)];rfl
  have b:(cs.set (off+k) u).drop (off+(k+1)+us.length)=cs.drop (off+k+(u::us).length):=by rw [List.drop_set_of_lt (by omega)];congr 1;simp only [eb];omega
  rw [c,b];simp
theorem we{ρ:ay}{a:Nat->Option (Nat×Nat)}:{ps:List (Nat×AV)}->{cs b:List AV}->yX a ps cs=some b->
  Instr.fill a (AV.ao ρ cs).toArray (ps.map λp=>(p.1,p.2.val ρ))=some (AV.ao ρ b).toArray
 |[],cs,b,h=>by cases h;rfl
 |(i,v)::l,cs,b,h=>by
  unfold yX at h;split at h
  .rename_i off n hp;obtain ⟨d,g⟩:=aI h;simp only [ae,Nat.ble_eq] at d;obtain ⟨f,c,k⟩:=d;have c:=ah c;have ih:=we (ρ:=ρ) g;simp only [cx];unfold Instr.fill;simp only [hp];have e:=xo (ρ:=ρ) f;have j:¬(((v.val ρ).cells.size≠n||decide (off+(v.val ρ).cells.size>(AV.ao ρ cs).toArray.size))=true):=by rw [e];simp only [mi,AV.bm,c];simp;omega
   rw [j0 j,e];have:=YO (off:=off) (AV.ao ρ (cV v)) 0 (AV.ao ρ cs) (by rw [AV.bm,AV.bm];omega);simp only [qj] at this;rw [show (AV.ao ρ (cV v)).toArray.zipIdx=((AV.ao ρ (cV v)).zipIdx 0).toArray from by simp,List.foldl_toArray,this,wY];exact ih
  .cases h
variable {P : Program}
def uu{α β:Type}(f:α->Option β):List α->Option (List β)
 |[]=>some []
 |x::l=>match f x with
  |some y=>match uu f l with
   |some ys=>some (y::ys)
   |none=>none
  |none=>none
theorem YA{P:Program}{w:World}{α β:Type}{f:α->Sem β}{g:α->Option β}(a:∀x y,g x=some y->(f x).run P w= .ok y w):∀{l:List α} {ys:List β},uu g l=some ys->(l.mapM f).run P w= .ok ys w
 |[],ys,h=>by cases h;simp
 |x::l,ys,h=>by
  unfold uu at h;split at h
  .rename_i y c;split at h
   next zs b=>cases h;rw [List.mapM_cons,Sem.run_bind,a x y c,Result.andThen_ok,Sem.run_bind,YA a b,Result.andThen_ok,Sem.run_pure]
   .cases h
  .cases h
theorem SL{w:World}{β:Type}{f:α->Sem β}{g:α->Option β}(a:∀x y,g x=some y->(f x).run P w= .ok y w){l:Array α}{ys:List β}(h:uu g l.toList=some ys):(l.mapM f).run P w= .ok ys.toArray w:=by rw [Array.mapM_eq_mapM_toList,Sem.run_map,YA a h];rfl
def aaK(P:Program)(f:Field):Option (Nat×Nat):=match P.info? f.type with
 |some i=>some (f.offset,i.size)
 |none=>none
def abo(P:Program)(t:TypeId)(ps:List (Nat×AV)):Option (List AV):=match jS P t with
 |some z=>(match P.underlying t with
  |some (.struct fs)=>(match uu (aaK P) fs.toList with
   |some pl=>yX (λi=>pl[i]?) ps (z.2.2.cells.toList.map iU)
   |none=>none)
  |some (.array _ e)=>(match P.info? e with
   |some i=>yX (λk=>some (k*i.size,i.size)) ps (z.2.2.cells.toList.map iU)
   |none=>none)
  |_=>none)
 |none=>none
theorem aiQ{t:TypeId}{ρ:ay}{w:World}{ps:List (Nat×AV)}{cs:List AV}(h:abo P t ps=some cs):
  (Instr.build t (ps.map λp=>(p.1,p.2.val ρ)).toArray).run P w= .ok (.agg (AV.ao ρ cs).toArray) w:=by
 unfold abo at h;split at h
 .rename_i z m;obtain ⟨size,bytes,z⟩:=z;have j:=cE m;have d:=j.zero w;unfold Instr.build;simp only [Sem.run_bind,d,Result.andThen_ok];split at h
  .rename_i o a;simp only [run_underlying a,Result.andThen_ok];split at h
   .rename_i pl l;have n:(o.mapM λf=>do pure (f.offset,<-sizeOf f.type):Sem (Array (Nat×Nat))).run P w= .ok pl.toArray w:=SL (g:=aaK P) (λf y c=>by
     unfold aaK at c;split at c
     next i hi=>cases c;simp [sizeOf,typeInfo,hi]
     .cases c) l
    have b:=we (ρ:=ρ) h;rw [kP] at b;simp only [Sem.run_bind,n,Result.andThen_ok];have e:(λ(x:Nat)=>pl.toArray[x]?)=λi=>pl[i]? :=by funext i;simp
    rw [e];simp only [Array.toArray_toList] at b;rw [b];rfl
   .cases h
  .rename_i k e a;simp only [run_underlying a,Result.andThen_ok];split at h
   next i hi=>have b:=we (ρ:=ρ) h;rw [kP] at b;simp only [Array.toArray_toList] at b;simp only [Sem.run_bind,sizeOf,typeInfo,run_program,hi,Result.andThen_ok,Sem.run_pure];rw [b];rfl
   .cases h
  .cases h
 .cases h
theorem B4{ρ:ay}:∀(a:x8) (vs:List AV),(a.zip vs).map (λp=>(p.1,p.2.val ρ))=a.zip (AV.ao ρ vs)
 |[],_=>by simp
 |_::_,[]=>by simp [AV.ao]
 |i::a,v::vs=>by simp only [List.zip_cons_cons,cx,AV.ao];rw [B4]
def eK(T:aB)(E F:aF):Prop:= ∀x,x∈T->dC E F x.2.2.1=some (x.2.1,.bool x.2.2.2)/\T.get (some x.1)=(T.get x.2.1&&wj x.1.2 x.2.2.2)
def keyOf(r:Nat)(pol:Bool):aB->Option ((Nat×Bool)×GK×Nat×Bool)
 |[]=>none
 |x::T=>aA ( Nat.beq x.2.2.1 r&&WW x.1.2 pol ) ( some x )<|keyOf r pol T
theorem aaZ{r:Nat}{a:Bool}:{T:aB}->{x:(Nat×Bool)×GK×Nat×Bool}->keyOf r a T=some x->x∈T/\x.2.2.1=r/\x.1.2=a
 |[],x,h=>by cases h
 |y::T,x,h=>by
  unfold keyOf at h;rcases dq h with ⟨c,b⟩|⟨_,b⟩
  .cases b;simp only [ae] at c;exact ⟨bj .., ah c.1,afv c.2⟩
  .obtain ⟨e,d⟩:=aaZ b;exact ⟨aW _ e,d⟩
def am9(T:aB)(E F:aF)(g:GK)(c x:Operand):Option (Bool×Bool):=match br T E F g x with
 |some (.bool y)=>(match br T E F g c with
  |some (.bool b)=>some (b,y)
  |_=>none)
 |_=>none
def anh(T:aB)(E F:aF)(g:GK)(pol:Bool)(c x:Operand):Option (Bool×Bool):=match c with
 | .tmp r=>(match keyOf r pol T with
  |some k=>aA ( T.imp g k.2.1 ) ( match br T E F (some k.1) x with
    |some (.bool y)=>some (k.2.2.2,y)
    |_=>none
   ) none
  |none=>none)
 |_=>none
def aaf(T:aB)(E F:aF)(g:GK)(pol:Bool)(c x:Operand):Option (Bool×Bool):=match am9 T E F g c x with
 |some y=>some y
 |none=>anh T E F g pol c x
theorem ady{ρ:ay}{T:aB}{E F:aF}{g:GK}{i b y:Bool}{c:Operand}(D:eK T E F)(h:aaf T E F g i c x=some (b,y)):
  ar (au ρ T E F) (T.get g) c (.bool b)/\ar (au ρ T E F) (T.get g&&wj i b) x (.bool y):=by
 have f:∀{p q:Bool} {u:Value},ar (au ρ T E F) p x u->ar (au ρ T E F) (p&&q) x u:=λh n a m j=>h n a m (ae _ _▸j).1;unfold aaf at h;split at h
 .rename_i z d;cases h;unfold am9 at d;split at d
  .rename_i t hx;split at d
   next G hc=>cases d;have l:=aR (ρ:=ρ) hx;have e:=aR (ρ:=ρ) hc;simp only [AV.val] at l e;exact ⟨e,f l⟩
   .cases d
  .cases d
 .unfold anh at h;split at h
  .rename_i r;split at h
   .rename_i k C;obtain ⟨l,e⟩:=aI h;split at e
    next t hx=>cases e;obtain ⟨B,A,w⟩:=aaZ C;obtain ⟨o,v⟩:=D _ B;have s:=aR (ρ:=ρ) hx;simp only [AV.val] at s;rw [A] at o;refine ⟨ar.g (g':=T.get k.2.1) (by rw [fM,o];simp [AV.val]) (aB.jy l),λn a m j=>s n a m ?_⟩;rw [v,w];simp only [ae] at j ⊢;exact ⟨aB.jy l j.1,j.2⟩
    .cases e
   .cases h
  .cases h
def isF:Operand->Bool
 | .const (.bool b)=> !b
 |_=>false
def akN:Operand->Bool
 | .const (.bool b)=>b
 |_=>false
theorem aqd(h:isF x=true):x= .const (.bool false):=by
 unfold isF at h;split at h
 .rename_i b;cases b
  .rfl
  .cases h
 .cases h
theorem anL(h:akN x=true):x= .const (.bool true):=by
 unfold akN at h;split at h
 .rename_i b;cases b
  .cases h
  .rfl
 .cases h
def M4(P:Program)(t:TypeId):Bool:=match P.underlying t with
 |some d=> !(fK d)
 |none=>false
theorem Sr{t:TypeId}(h:M4 P t=true):∃d,P.underlying t=some d/\fK d=false:=by
 unfold M4 at h;split at h
 next d hd=>exact ⟨d,hd,by simpa using h⟩
 .cases h
def loA(T:aB)(E F:aF)(g:GK):Option Operand->xa
 |none=>some 0
 |some y=>match br T E F g y with
  |some (.int _ i)=>some i
  |_=>none
def hiA(T:aB)(E F:aF)(g:GK):Option Operand->Option xa
 |none=>some none
 |some y=>match br T E F g y with
  |some (.int _ i)=>some (some i)
  |_=>none
theorem LH{ρ:ay}{T:aB}{E F:aF}{g:GK}{lo:Option Operand}{i:Int}(h:loA T E F g lo=some i):(match (motive:=Option Operand->Prop) lo with|none=>i=0|some y=>∃k,ar (au ρ T E F) (T.get g) y (.int k i)):=by
 cases lo with
 |none=>cases h;rfl
 |some y=>
  unfold loA at h;dsimp only at h;split at h
  next k j a=>cases h;have:=aR (ρ:=ρ) a;simp only [AV.val] at this;exact ⟨k,this⟩
  .cases h
theorem Vk{ρ:ay}{T:aB}{E F:aF}{g:GK}{hi:Option Operand}{j:xa}{len:Nat}(h:hiA T E F g hi=some j):(match (motive:=Option Operand->Prop) hi with|none=>(j.getD (len:Int))=(len:Int)|some y=>∃k,ar (au ρ T E F) (T.get g) y (.int k (j.getD (len:Int)))):=by
 cases hi with
 |none=>cases h;rfl
 |some y=>
  unfold hiA at h;dsimp only at h;split at h
  next k j a=>cases h;have:=aR (ρ:=ρ) a;simp only [AV.val] at this;exact ⟨k,this⟩
  .cases h
def acP(X:Cx)(T:aB)(E F:aF)(g:GK)(c:Callee)(xs:wo)(ts:List TypeId):CV:=match c,xs,ts with
 | .builtin .len,[x],[t]=>aA ( isStr X.P t ) ( (match br T E F g x with
   |some (.str l)=>pv (.int .i64 (l.length:Int))
   |_=>none)
  ) none
 | .builtin .max,[x,y],[_,_]=>(match br T E F g x,br T E F g y with
  |some (.int k m),some (.int k' l)=>aA ( fm k k' ) ( pv (.int k (max m l)) ) none
  |_,_=>none)
 | .builtin .min,[x,y],[_,_]=>(match br T E F g x,br T E F g y with
  |some (.int k m),some (.int k' l)=>aA ( fm k k' ) ( pv (.int k (min m l)) ) none
  |_,_=>none)
 |_,_,_=>none
def ak1(X:Cx)(T:aB)(E F:aF)(g:GK):Op->CV
 | .move x=>(match br T E F g x with
  |some v=>pv v
  |none=>none)
 | .assign x=>(match br T E F g x with
  |some v=>pv v
  |none=>none)
 | .pick c a b=>aA ( isF b ) ( (match aaf T E F g true c a with
   |some y=>pv (.bool (y.1&&y.2))
   |none=>none)
  )<|aA ( akN a ) ( (match aaf T E F g false c b with
   |some y=>pv (.bool (y.1||y.2))
   |none=>none)
  ) none
 | .nilCheck x=>(match br T E F g x with
  |some v=>aA ( am8 v ) ( pv v ) none
  |none=>none)
 | .extract x i=>(match br T E F g x with
  |some (.tuple l)=>(match l[i]? with
   |some v=>pv v
   |none=>none)
  |_=>none)
 | .unOp op _ x=>(match br T E F g x with
  |some v=>ak7 op v
  |none=>none)
 | .binOp op t x y _=>(match br T E F g x with
  |some u=>(match br T E F g y with
   |some v=>ahz X.P t op u v
   |none=>none)
  |none=>none)
 | .convert s d x=>(match br T E F g x with
  |some (.int _ m)=>aA ( ak5 X.P s ) (match Yd X.P d with
   |some k=>pv (.int k (k.wrap m))
   |none=>none) none
  |_=>none)
 | .index t x y=>aA ( isStr X.P t ) ( (match br T E F g x,br T E F g y with
   |some (.str l),some (.int _ i)=>some (some (vt i l.length),.int .u8 (ir l i))
   |_,_=>none)
  ) none
 | .slice t x lo hi none=>aA ( isStr X.P t ) ( (match br T E F g x with
   |some (.str l)=>(match loA T E F g lo with
    |some i=>(match hiA T E F g hi with
     |some j=>some (some (db i (j.getD (l.length:Int)) l.length),.str (cut l i (j.getD (l.length:Int))))
     |none=>none)
    |none=>none)
   |_=>none)
  ) none
 | .field t x k=>(match br T E F g x with
  |some (.agg cs)=>(match ah2 X.P t k with
   |some f=>(match jY X.P f.1 (cs.drop f.2.1) with
    |some v=>pv v
    |none=>none)
   |none=>none)
  |_=>none)
 | .fieldAddr t x k=>(match ah2 X.P t k with
  |some f=>aA ( Nat.beq f.2.2 0 ) none (match br T E F g x with
   |some (.ptr id o)=>pv (.ptr id (o+f.2.1))
   |some (.adr id o)=>pv (.adr id (o+f.2.1))
   |_=>none)
  |none=>none)
 | .build t ps=>(match oP T E F g (ps.toList.map (·.2)) with
  |some vs=>(match abo X.P t ((ps.toList.map (·.1)).zip vs) with
   |some cs=>pv (.agg cs)
   |none=>none)
  |none=>none)
 | .makeFunc (.func f) a b=>(match oP T E F g a.toList with
  |some us=>(match oP T E F g b.toList with
   |some vs=>pv (.fn f us vs)
   |none=>none)
  |none=>none)
 | .makeInterface t x=>(match br T E F g x with
  |some v=>aA ( M4 X.P t ) ( pv (.ifc t v) ) none
  |none=>none)
 | .typeAssert x _ t false=>(match br T E F g x with
  |some (.ifc t' v)=>aA ( Nat.beq t t'&&M4 X.P t ) ( pv v ) none
  |_=>none)
 | .call c=>acP X T E F g c.callee c.args.toList c.argTypes.toList
 |_=>none
theorem add_plain{o k:Nat}:(⟨b,o,none⟩:Addr).add k=⟨b,o+k,none⟩:=by
 unfold Addr.add;split
 next h=>subst h;rfl
 .rfl
theorem add_add{a:Addr}{j k:Nat}:(a.add j).add k=a.add (j+k):=by
 by_cases c:j=0
 .subst c;have:a.add 0=a:=by simp [Addr.add]
  rw [this,hV]
 .by_cases b:k=0
  .subst b;simp [Addr.add]
  .simp [Addr.add,c,b,qs]
theorem amF{l:List α}{v:α}(h:l.head? =some v):l[0]? =some v:=by
 cases l with
 |nil=>simp at h
 |cons a l=>simpa using h
section
variable {X : Cx} {ρ : ay} {T : aB} {E F : aF} {g : GK} {w : World} {dst : xc} {ty : TypeId} {pos : String} {af : x3} {gd : vb}
theorem mm{t:TypeId}{off:Nat}{cs:List AV}{v:AV}(h:jY X.P t (cs.drop off)=some v):∃d n bytes z,X.P.underlying t=some d/\(jm d=true->TI X.P t n bytes z)/\
  (if jm d then some (.agg (((AV.ao ρ cs).drop off).take n).toArray) else (AV.ao ρ cs)[off]?)=some (v.val ρ):=by
 unfold jY at h;split at h
 .rename_i d hd;rcases dq h with ⟨b,a⟩|⟨b,a⟩
  .split at a
   next x hx=>obtain ⟨n,bytes,z⟩:=x;obtain ⟨c,e⟩:=aI a;cases e;refine ⟨d,n,bytes,z,hd,λ_=>cE hx,?_⟩;rw [lk b];simp only [AV.val,AV.ju,AV.gC]
   .cases a
  .refine ⟨d,0,0,.bool false,hd,(λh=>by rw [b] at h;cases h),?_⟩;rw [j0 (by rw [b];simp)];have c:=AV.abz (ρ:=ρ) (amF a);rw [AV.gC,j5] at c;simpa using c
 .cases h
theorem aho{c:Callee}{xs:Array Operand}{j:Array TypeId}(h:acP X T E F g c xs.toList j.toList=some cv):
  lA X.P (au ρ T E F) ρ (T.get g) ⟨dst,.call ⟨c,xs,j⟩,ty,pos,af,gd⟩ w cv:=by
 obtain ⟨xs⟩:=xs;obtain ⟨j⟩:=j;unfold acP at h;split at h
 .rename_i x t b a;simp only at b a;subst b;subst a;obtain ⟨i,d⟩:=aI h;split at d
  next l hx=>have:=aR (ρ:=ρ) hx;simp only [AV.val] at this;exact .pv d (alK (oQ i) this)
  .cases d
 .rename_i x y t t' b a;simp only at b a;subst b;subst a;split at h
  next k m o l hx n=>obtain ⟨i,d⟩:=aI h;have:=gw i;subst this;have f:=aR (ρ:=ρ) hx;have e:=aR (ρ:=ρ) n;simp only [AV.val] at f e;exact .pv d (akD f e (amH _ _ _ _ _))
  .cases h
 .rename_i x y t t' b a;simp only at b a;subst b;subst a;split at h
  next k m o l hx n=>obtain ⟨i,d⟩:=aI h;have:=gw i;subst this;have f:=aR (ρ:=ρ) hx;have e:=aR (ρ:=ρ) n;simp only [AV.val] at f e;exact .pv d (akT f e (als _ _ _ _ _))
  .cases h
 .cases h
theorem akz{op:Op}(Q:eK T E F)(h:ak1 X T E F g op=some cv):
  lA X.P (au ρ T E F) ρ (T.get g) ⟨dst,op,ty,pos,af,gd⟩ w cv:=by
 unfold ak1 at h;split at h
 .split at h
  next v hv=>exact .pv h (aL (aR hv))
  .cases h
 .split at h
  next v hv=>exact .pv h (cJ (aR hv))
  .cases h
 .rename_i c a b;rcases dq h with ⟨r,p⟩|⟨_,p⟩
  .have:=aqd r;subst this;split at p
   next y B=>obtain ⟨x,s⟩:=ady (ρ:=ρ) (b:=y.1) (y:=y.2) Q B;exact .pv p (aoi x (by simpa [wj] using s))
   .cases p
  .obtain ⟨r,p⟩:=aI p;have:=anL r;subst this;split at p
   next y B=>obtain ⟨x,s⟩:=ady (ρ:=ρ) (b:=y.1) (y:=y.2) Q B;exact .pv p (apo x (by simpa [wj] using s))
   .cases p
 .split at h
  next v hv=>obtain ⟨r,p⟩:=aI h;exact .pv p (ajD (aR hv) r)
  .cases h
 .split at h
  .rename_i l hv;split at h
   next v W=>have q:=aR (ρ:=ρ) hv;simp only [AV.val] at q;exact .pv h (adW q (AV.abz W))
   .cases h
  .cases h
 .split at h
  next v hv=>exact alc (aR hv) h
  .cases h
 .split at h
  .rename_i u V;split at h
   next v hv=>exact ajh (aR V) (aR hv) h
   .cases h
  .cases h
 .split at h
  .rename_i k' m hx;obtain ⟨r,p⟩:=aI h;obtain ⟨ds,L⟩:=apB r;split at p
   next k Y=>have q:=aR (ρ:=ρ) hx;simp only [AV.val] at q;exact .pv p (abE L (Ga Y) q)
   .cases p
  .cases h
 .obtain ⟨r,p⟩:=aI h;split at p
  next l k i hx B=>have q:=aR (ρ:=ρ) hx;have R:=aR (ρ:=ρ) B;simp only [AV.val] at q R;cases p;exact λhc=>akC (oQ r) q R (λC=>hc _ rfl C)
  .cases p
 .obtain ⟨r,p⟩:=aI h;split at p
  .rename_i l hx;split at p
   .rename_i i hi;split at p
    next j Z=>have q:=aR (ρ:=ρ) hx;simp only [AV.val] at q;cases p;exact λhc=>alI (oQ r) q (LH hi) (Vk Z) (λC=>hc _ rfl C)
    .cases p
   .cases p
  .cases p
 .split at h
  .rename_i cs hx;split at h
   .rename_i f G;obtain ⟨ft,off,n⟩:=f;split at h
    .rename_i v hv;obtain ⟨S,f,i,x,s,I,H,O,N⟩:=afz G;obtain ⟨d,n',bytes,z,c1,c2,J⟩:=mm (ρ:=ρ) hv;have q:=aR (ρ:=ρ) hx;simp only [AV.val] at q;cases hd:jm d
     .refine .pv h (λU a G C=>?_);have h5:=q U a G C;rw [hd] at J;simp only [oi,qF] at J;have hp:=agk (P:=X.P) (w:=w) c1 hd J;subst I;subst H;simp only [execOp,h5,Instr.field,Sem.run_bind,run_underlying x,Result.andThen_ok,s,asAgg,Sem.run_pure,hp]
     .exact .pv h (ajN x s I H c1 (c2 hd) q J)
    .cases h
   .cases h
  .cases h
 .split at h
  .rename_i f G;obtain ⟨ft,off,n⟩:=f;obtain ⟨S,f,i,x,s,I,H,O,N⟩:=afz G;obtain ⟨r,p⟩:=Nt h;have D:afe X.P _ _ off:=⟨S,f,i,x,s,H,by rw [I];exact O,by rw [N];exact Nat.ne_of_beq_eq_false r⟩;split at p
   next id o hx=>have q:=aR (ρ:=ρ) hx;simp only [AV.val] at q;refine .pv p ?_;simp only [AV.val];have:=Jj (dst:=dst) (ty:=ty) (pos:=pos) (af:=af) (gd:=gd) (w:=w) D q;rwa [add_plain] at this
   next id o hx=>have q:=aR (ρ:=ρ) hx;simp only [AV.val] at q;refine .pv p ?_;simp only [AV.val];have:=Jj (dst:=dst) (ty:=ty) (pos:=pos) (af:=af) (gd:=gd) (w:=w) D q;rwa [add_add] at this
   .cases p
  .cases h
 .rename_i t ps;split at h
  .rename_i vs A;split at h
   .rename_i cs M;refine .pv h ?_;simp only [AV.val];have q:=fN (ρ:=ρ) A;have:=ajb (P:=X.P) (w:=w) (dst:=dst) (ty:=ty) (pos:=pos) (af:=af) (gd:=gd) (t:=t) (v:= .agg (AV.ao ρ cs).toArray) q (λw=>by rw [<-B4];exact aiQ M)
    simpa using this
   .cases h
  .cases h
 .rename_i f a b;split at h
  .rename_i us K;split at h
   next vs A=>refine .pv h ?_;simp only [AV.val];have:=Ld (P:=X.P) (w:=w) (dst:=dst) (ty:=ty) (pos:=pos) (af:=af) (gd:=gd) (fn:= .func f) (fN (ρ:=ρ) K) (fN (ρ:=ρ) A);simpa using this
   .cases h
  .cases h
 .split at h
  next v hv=>obtain ⟨r,p⟩:=aI h;obtain ⟨d,x,s⟩:=Sr r;refine .pv p ?_;simp only [AV.val];exact aex x s (aR hv)
  .cases h
 .split at h
  next t' v hv=>obtain ⟨r,p⟩:=aI h;simp only [ae] at r;obtain ⟨d,x,s⟩:=Sr r.2;have q:=aR (ρ:=ρ) hv;simp only [AV.val] at q;have e:=ah r.1;subst e;exact .pv p (aeT x s q)
  .cases h
 .exact aho h
 .cases h
end
def sA(G H:List Row):AV->AV
 | .nv u=>(match dH G H (isEq u) with
  |some (_,.eq _ v)=>v
  |_=> .nv u)
 |v=>v
theorem Rz{ρ:ay}{T:aB}{G H:List Row}{Φ:Ctx}{w:World}(a:Sat (ab ρ T G++(ab ρ T H++Φ)) w){v:AV}:(sA G H v).val ρ=v.val ρ:=by
 unfold sA;split
 .rename_i u;split
  next s j e h=>obtain ⟨d,c⟩:=bW h;have b:=Src.holds a d;have:j=u:=ah c;subst this;simp only [AV.val];exact b.symm
  .rfl
 .rfl
theorem LO{ρ:ay}{T:aB}{G H:List Row}{Φ:Ctx}{w:World}(a:Sat (ab ρ T G++(ab ρ T H++Φ)) w):(l:List AV)->AV.ao ρ (l.map (sA G H))=AV.ao ρ l
 |[]=>rfl
 |v::l=>by simp only [cx,AV.ao];rw [Rz a,LO a l]
def Ut:Ty->Bool
 | .i _|.bo|.s|.un|.n=>true
 | .p x y=>Ut x&&Ut y
 |_=>false
def wM:(t:Ty)->t.T->List AV
 | .i k,x=>[.int k x]
 | .bo,x=>[.bool x]
 | .s,x=>[.str x]
 | .n,x=>[.ifc x (.agg [])]
 | .p a b,x=>wM a x.1++wM b x.2
 |_,_=>[]
theorem Qj{ρ:ay}{M:Nat->Prop}{w:World}:(t:Ty)->(x:t.T)->(vs:w9)->Ut t=true->t.rep.rd M w vs x->vs=AV.ao ρ (wM t x)
 | .i k,x,vs,_,h=>by simp only [wM,AV.ao,AV.val];exact h
 | .bo,x,vs,_,h=>by simp only [wM,AV.ao,AV.val];exact h
 | .s,x,vs,_,h=>by simp only [wM,AV.ao,AV.val];exact h
 | .un,x,vs,_,h=>by simp only [wM,AV.ao];exact h
 | .p a b,x,vs,hf,h=>by
  simp only [Ut,ae] at hf;obtain ⟨us,c,rfl,e,d⟩:=h;rw [wM,cZ,<-Qj a x.1 us hf.1 e,<-Qj b x.2 c hf.2 d]
 | .l _,_,_,hf,_=>by cases hf
 | .ex,_,_,hf,_=>by cases hf
 | .n,x,vs,_,h=>by simp only [wM,AV.ao,AV.val];exact h
 | .mp _ _,_,_,hf,_=>by cases hf
def acK(T:aB)(G H:List Row)(g:GK)(q off:Nat):Option (List AV):=match dH G H (Qs q) with
 |some (_,.kn g' _ id ver u _ x)=>aA ( T.imp g g'&&Ut u ) ( match dH G H (lz id) with
  |some (_,.own _ _ _ _ ver')=>aA ( Nat.beq ver ver' ) ( some ((wM u x).drop off) ) none
  |_=>none ) none
 |_=>none
theorem No{t t':Ty}{l:List t.T}{l':List t'.T}{y:bZ}(h:y=⟨.l t,l⟩)(a:y=⟨.l t',l'⟩):∃e:t=t',e▸l=l':=by rw [h] at a;cases a;exact ⟨rfl,rfl⟩
theorem akc{ρ:ay}{T:aB}{G H:List Row}{Φ:Ctx}{w:World}{g:GK}{q off:Nat}{vs:List AV}(o:Sat (ab ρ T G++(ab ρ T H++Φ)) w)(h:acK T G H g q off=some vs)(t:T.get g=true):
  bM w ((ρ q).a.add off) (AV.ao ρ vs):=by
 unfold acK at h;split at h
 .rename_i s g' q' id c u i r v;obtain ⟨m,k⟩:=aI h;simp only [ae] at m;split at k
  next O d u' e l b j=>obtain ⟨z,y⟩:=aI k;cases y;obtain ⟨D,C⟩:=bW v;obtain ⟨B,A⟩:=bW j;have K:q'=q:=ah C;have J:d=id:=ah A;have I:c=b:=ah z;subst K;subst J;subst I;obtain ⟨x,f⟩:=Src.holds o B;obtain ⟨P,N,M,L⟩:=(Src.holds o D) (aB.jy m.1 t);obtain ⟨F,p⟩:=No N f;subst F;simp only at p;subst p;obtain ⟨_,us,n,E⟩:=x.atA M;rw [Qj (ρ:=ρ) u r us m.2 E] at n;rw [<-L] at n;refine n.sub _ ?_;rw [AV.gC,hW (bb _)]
  .cases k
 .cases h
def xt(T:aB)(G H:List Row)(g:GK):AV->Option (List AV)
 | .ptr id off=>(match dH G H (wO id) with
  |some (_,.box _ _ vs)=>some ((vs.drop off).map (sA G H))
  |_=>none)
 | .adr id off=>(match dH G H (aqz id) with
  |some (_,.elm g' _ vs)=>aA ( T.imp g g' ) ( some (vs.drop off) ) none
  |_=>acK T G H g id off)
 |_=>none
theorem Kl{ρ:ay}{T:aB}{G H:List Row}{Φ:Ctx}{w:World}{g:GK}{v:AV}{vs:List AV}(c:Sat (ab ρ T G++(ab ρ T H++Φ)) w)(h:xt T G H g v=some vs)(i:T.get g=true):
  ∃p,v.val ρ= .pointer (some p)/\bM w p (AV.ao ρ vs):=by
 have sub:∀{p:Addr} {us:List AV} {off:Nat},bM w p (AV.ao ρ us)->bM w (p.add off) (AV.ao ρ (us.drop off)):=λh=>by refine h.sub _ ?_;rw [AV.gC,hW (bb _)]
 unfold xt at h;split at h
 .rename_i id off;split at h
  next s j t us d=>cases h;obtain ⟨f,e⟩:=bW d;have:j=id:=ah e;subst this;have hb:eM w (ρ j).b t (AV.ao ρ us):=Src.holds c f;refine ⟨⟨(ρ j).b,off,none⟩,by simp only [AV.val],?_⟩;rw [LO c,AV.gC];exact hb.part off (by rw [hW (bb _)])
  .cases h
 .rename_i id off;split at h
  next s g' j us d=>obtain ⟨l,k⟩:=aI h;cases k;obtain ⟨f,e⟩:=bW d;have:j=id:=ah e;subst this;have hb:=Src.holds c f;exact ⟨_,by simp only [AV.val],sub (hb (aB.jy l i)).2⟩
  .exact ⟨(ρ id).a.add off,by simp only [AV.val],akc c h i⟩
 .cases h
def ac9(t:Ty)(v:AV):Option t.T:=match t,v with
 | .i k,.int k' x=>aA ( fm k k' ) ( some x ) none
 | .s,.str x=>some x
 | .bo,.bool x=>some x
 | .p (.i a) (.i b),.agg [.int a' x,.int b' y]=>aA (fm a a'&&fm b b') (some (x,y)) none
 |_,_=>none
theorem WN{ρ:ay}{t:Ty}{v:AV}{x:t.T}(h:ac9 t v=some x):v.val ρ=EM t x:=by
 unfold ac9 at h;split at h
 .obtain ⟨a,b⟩:=aI h;have:=gw a;subst this;cases b;simp only [AV.val];rfl
 .cases h;simp only [AV.val];rfl
 .cases h;simp only [AV.val];rfl
 .obtain ⟨a,b⟩:=aI h;simp only [ae] at a;have d:=gw a.1;have c:=gw a.2;subst d;subst c;cases b;simp only [AV.val,AV.ao];rfl
 .cases h
def agu(t:Ty)(x:t.T):AV:=match t,x with
 | .i k,x=> .int k x
 | .s,x=> .str x
 | .bo,x=> .bool x
 | .p (.i a) (.i b),x=> .agg [.int a x.1,.int b x.2]
 |_,_=> .bool false
theorem aff{ρ:ay}{t:Ty}{x:t.T}:(agu t x).val ρ=EM t x:=by unfold agu EM;split <;> first|(simp only [AV.val];done)|(simp only [AV.val,AV.ao];rfl)
instance keyBEq(t:Ty):BEq t.T:=match t with
 | .i _=>(inferInstance:BEq Int)
 | .s=>(inferInstance:BEq aE)
 | .bo=>(inferInstance:BEq Bool)
 | .p (.i _) (.i _)=>(inferInstance:BEq (Int×Int))
 |_=>⟨λ_ _=>false⟩
def Ty.oh:(t:Ty)->t.T
 | .i _=>(0:Int)
 | .bo=>false
 | .s=>([]:aE)
 | .un=>()
 | .n=>(0:Nat)
 | .p x y=>(x.oh,y.oh)
 | .l x=>([]:List x.T)
 | .mp k v=>(none:Option (List (k.T×v.T)))
 | .ex=>Ex.mk 0 0 0 []
def aiu(P:Program)(kt:TypeId)(k:Ty):Bool:=match k with
 | .i k=>(match Yd P kt with
  |some k'=>fm k k'
  |none=>false)
 | .s=>isStr P kt
 | .p (.i a) (.i b)=>(match P.underlying kt with
  |some (.struct ⟨[f1,f2]⟩)=>(match Yd P f1.type,Yd P f2.type with
   |some a',some b'=>fm a a'&&fm b b'&& !(f1.name== "_")&& !(f2.name== "_")&&Nat.beq f1.offset 0&&Nat.beq f2.offset 1&& !(P.stoodInHeld kt)
   |_,_=>false)
  |_=>false)
 |_=>false
theorem Wm{P:Program}{kt:TypeId}{k:Ty}(h:aiu P kt k=true):sb P kt (EM k):=by
 unfold aiu at h;split at h
 .split at h
  next p j=>have:=gw h;subst this;exact sb.int (Ga j)
  .cases h
 .exact sb.str (oQ h)
 .split at h
  .rename_i r q i;split at h
   next t s m l=>simp only [ae,et,qJ,ne_eq] at h;obtain ⟨⟨⟨⟨⟨⟨g,f⟩,e⟩,d⟩,c⟩,b⟩,a⟩:=h;have o:=gw g;have n:=gw f;subst o;subst n;exact sb.pair i e d (ah c) (ah b) (Ga m) (Ga l) a
   .cases h
  .cases h
 .cases h
def agX(v:Ty)(z:Value):Bool:=match v,z with
 | .i k,.int k' x=>fm k k'&&decide (x=0)
 | .bo,.bool b=> !b
 | .s,.string b=>b.data.toList.isEmpty
 |_,_=>false
theorem amk{v:Ty}(h:agX v z=true):z=EM v v.oh:=by
 unfold agX at h;split at h
 .simp only [ae,n5] at h;have:=gw h.1;subst this;rw [h.2];rfl
 .rename_i b;cases b
  .rfl
  .cases h
 .rename_i b;have:b.data.toList=[]:=by simpa using h
  show _=S [];unfold S;rw [<-this]
 .cases h
def VL(P:Program)(t:TypeId):Option (TypeId×TypeId):=match P.underlying t with
 |some (.map k v)=>some (k,v)
 |_=>none
theorem wk{P:Program}{t:TypeId}{p:TypeId×TypeId}(h:VL P t=some p):P.underlying t=some (.map p.1 p.2):=by
 unfold VL at h;split at h
 next k v a=>cases h;exact a
 .cases h
def eT(P:Program)(t:TypeId):Option TypeId:=match P.underlying t with
 |some (.slice e)=>some e
 |_=>none
theorem bV{P:Program}{t:TypeId}(h:eT P t=some e):P.underlying t=some (.slice e):=by
 unfold eT at h;split at h
 next k a=>cases h;exact a
 .cases h
structure SlA where
 g:GK
 t:Ty
 l:List t.T
def Yt(G H:List Row)(id:Nat):Option SlA:=match dH G H (lz id) with
 |some (_,.sli g _ t l _)=>some ⟨g,t,l⟩
 |some (_,.own _ t _ l _)=>some ⟨none,t,l⟩
 |_=>none
theorem abj{ρ:ay}{T:aB}{G H:List Row}{Φ:Ctx}{w:World}{id:Nat}{s:SlA}(f:Sat (ab ρ T G++(ab ρ T H++Φ)) w)(h:Yt G H id=some s)(k:T.get s.g=true):
  (bQ s.t.rep (Ctx.M (ab ρ T G++(ab ρ T H++Φ))) w (sl (ρ id).v) s.l)\/∃e,bK s.t.rep e (Ctx.M (ab ρ T G++(ab ρ T H++Φ))) w (sl (ρ id).v) s.l (tf (ρ id).v):=by
 unfold Yt at h;split at h
 next i g j t l b a=>cases h;obtain ⟨d,c⟩:=bW a;have:j=id:=ah c;subst this;exact .inl ((Src.holds f d) k).1
 next i j t e l ks a=>cases h;obtain ⟨d,c⟩:=bW a;have:j=id:=ah c;subst this;exact .inr ⟨e,(Src.holds f d).1⟩
 .cases h
theorem WX{ρ:ay}{T:aB}{G H:List Row}{Φ:Ctx}{w:World}{id:Nat}{s:SlA}(a:Sat (ab ρ T G++(ab ρ T H++Φ)) w)(h:Yt G H id=some s)(b:T.get s.g=true):O5 (sl (ρ id).v) s.l.length:=by
 rcases abj a h b with h|⟨e,h⟩
 .exact h.len
 .exact h.len
theorem aoL{ρ:ay}{T:aB}{G H:List Row}{Φ:Ctx}{w:World}{id:Nat}{s:SlA}(a:Sat (ab ρ T G++(ab ρ T H++Φ)) w)(h:Yt G H id=some s)(b:T.get s.g=true):bQ s.t.rep (λ_=>False) w (sl (ρ id).v) s.l:=by
 rcases abj a h b with h|⟨e,h⟩
 .exact h.mv (Mv.weaken w λ_ h=>h.elim)
 .exact h.freeze (λ_ _ h=>h) (Mv.weaken w λ_ h=>h.elim)
def isU8:Ty->Bool
 | .i .u8=>true
 |_=>false
def alW(T:aB)(G H:List Row)(g:GK)(v:AV):Option x6:=match v with
 | .sl id=>(match Yt G H id with
  |some ⟨g',.i .u8,l⟩=>aA ( T.imp g g' ) ( some l ) none
  |_=>none)
 | .raw (.slice none 0 0)=>some []
 |_=>none
theorem aon{ρ:ay}{T:aB}{G H:List Row}{Φ:Ctx}{w:World}{g:GK}{v:AV}{l:x6}(a:Sat (ab ρ T G++(ab ρ T H++Φ)) w)(h:alW T G H g v=some l)(c:T.get g=true):bQ (RI .u8) (λ_=>False) w (v.val ρ) l:=by
 unfold alW at h;split at h
 .split at h
  next g' l' b=>obtain ⟨e,d⟩:=aI h;cases d;have:=aoL a b (aB.jy e c);simp only [AV.val];exact this
  .cases h
 .cases h;simp only [AV.val];exact bQ.nil
 .cases h
def abZ(X:Cx)(T:aB)(E F:aF)(G H:List Row)(g:GK)(c:Callee)(xs:wo)(ts:List TypeId):CV:=match c,xs,ts with
 | .builtin .len,[x],[t]=>(match eT X.P t with
  |some _=>(match br T E F g x with
   |some (.sl id)=>(match Yt G H id with
    |some s=>aA ( T.imp g s.g ) ( pv (.int .i64 (s.l.length:Int)) ) none
    |none=>none)
   |some (.raw (.slice none 0 0))=>pv (.int .i64 0)
   |_=>none)
  |none=>none)
 |_,_,_=>none
def ags(X:Cx)(T:aB)(E F:aF)(G H:List Row)(g:GK)(op:BinOp)(t:TypeId)(x y:Operand):CV:=match VL X.P t with
 |some _=>(match br T E F g y with
  |some (.raw (.map none))=>(match br T E F g x with
   |some (.mp id)=>(match dH G H (aid id) with
    |some (_,.mp _ _ _ d)=>(match op with
     | .eql=>pv (.bool (Option.isNone d))
     | .neq=>pv (.bool (!(Option.isNone d)))
     |_=>none)
    |_=>none)
   |some (.raw (.map none))=>(match op with
    | .eql=>pv (.bool true)
    | .neq=>pv (.bool false)
    |_=>none)
   |_=>none)
  |_=>none)
 |none=>none
def akZ(X:Cx)(T:aB)(E F:aF)(G H:List Row)(g:GK):Op->CV
 | .load t x=>(match br T E F g x with
  |some v=>(match xt T G H g v with
   |some cs=>(match jY X.P t cs with
    |some v=>pv v
    |none=>none)
   |none=>none)
  |none=>none)
 | .convert s d x=>aA ( isStr X.P d ) ( (match eT X.P s with
  |some e=>(match Yd X.P e with
   |some .u8=>(match br T E F g x with
    |some v=>(match alW T G H g v with
     |some l=>pv (.str (strOf l))
     |none=>none)
    |none=>none)
   |_=>none)
  |none=>none) ) none
 | .lookup t x y ok=>(match VL X.P t with
  |some p=>(match br T E F g x with
   |some (.mp id)=>(match br T E F g y with
    |some kv=>(match dH G H (aid id) with
     |some (_,.mp _ k v d)=>(match jS X.P p.2 with
      |some z=>aA ( aiu X.P p.1 k&&agX v z.2.2 ) ( (match ac9 k kv with
       |some key=>aA ( ok ) ( pv (.tuple [agu v (ll d key v.oh),.bool (QX d key)]) )<|pv (agu v (ll d key v.oh))
       |none=>none) ) none
      |none=>none)
     |_=>none)
    |none=>none)
   |_=>none)
  |none=>none)
 | .call c=>abZ X T E F G H g c.callee c.args.toList c.argTypes.toList
 | .binOp op t x y _=>ags X T E F G H g op t x y
 |_=>none
section
variable {X : Cx} {ρ : ay} {T : aB} {E F : aF} {G H : List Row} {Φ : Ctx} {g : GK} {w : World} {dst : xc} {ty : TypeId} {pos : String} {af : x3} {gd : vb}
theorem ahm{P:Program}{Ev:Env}{b:Bool}{o:Oper}(h:b=true->bg P Ev b o w v):bg P Ev b o w v:=λn a d c=>h c n a d c
theorem akp{t:TypeId}{u v:AV}{cs:List AV}(k:Sat (ab ρ T G++(ab ρ T H++Φ)) w)(hx:br T E F g x=some u)(hc:xt T G H g u=some cs)(h:jY X.P t cs=some v):
  bg X.P (au ρ T E F) (T.get g) ⟨dst,.load t x,ty,pos,af,gd⟩ w (v.val ρ):=ahm λm=>by
 obtain ⟨p,hp,hc⟩:=Kl k hc m;have b:=aR (ρ:=ρ) hx;rw [hp] at b;have s:jY X.P t (cs.drop 0)=some v:=by simpa using h
 obtain ⟨d,n,bytes,z,c1,y,c⟩:=mm (ρ:=ρ) s;cases hd:jm d
 .rw [hd] at c;simp only [oi,qF] at c;refine LW c1 hd b (λ_=>?_);have:=hc.sub (us:=[v.val ρ]) 0 (by
   cases e:AV.ao ρ cs with
   |nil=>rw [e] at c;cases c
   |cons a l=>rw [e] at c;cases c;simp)
  simpa [Addr.add] using this
 .unfold jY at h;rw [c1] at h;rcases dq h with ⟨_,f⟩|⟨j,_⟩
  .split at f
   .rename_i q e;obtain ⟨n,bytes,z⟩:=q;obtain ⟨r,o⟩:=aI f;cases o;have i:n<=cs.length:=cj r;simp only [AV.val];refine Lg c1 hd (cE e) b (λ_=>?_) ?_
    .have:=hc.sub (us:=AV.ao ρ (cs.take n)) 0 (by rw [AV.ju,l9,b0,AV.bm,c8 i])
     simpa [Addr.add] using this
    .rw [AV.bm,b0,c8 i]
   .cases f
  .rw [hd] at j;cases j
theorem aiv{c:Callee}{xs:Array Operand}{b:Array TypeId}(k:Sat (ab ρ T G++(ab ρ T H++Φ)) w)(h:abZ X T E F G H g c xs.toList b.toList=some cv):
  lA X.P (au ρ T E F) ρ (T.get g) ⟨dst,.call ⟨c,xs,b⟩,ty,pos,af,gd⟩ w cv:=by
 obtain ⟨xs⟩:=xs;obtain ⟨b⟩:=b;unfold abZ at h;split at h
 .rename_i x t j i;simp only at j i;subst j;subst i;split at h
  .rename_i e f;split at h
   .rename_i id hx;have a:=aR (ρ:=ρ) hx;simp only [AV.val] at a;split at h
    next s d=>obtain ⟨o,m⟩:=aI h;exact .pv m (ahm λl=>Dr (bV f) a (WX k d (aB.jy o l)))
    .cases h
   next hx=>have a:=aR (ρ:=ρ) hx;simp only [AV.val] at a;exact .pv h (Dr (n:=0) (bV f) a ⟨_,_,rfl⟩)
   .cases h
  .cases h
 .cases h
theorem ajH{op:BinOp}{t:TypeId}(e:Sat (ab ρ T G++(ab ρ T H++Φ)) w)(h:ags X T E F G H g op t x y=some cv):
  lA X.P (au ρ T E F) ρ (T.get g) ⟨dst,.binOp op t x y t',ty,pos,af,gd⟩ w cv:=by
 unfold ags at h;split at h
 .rename_i p hp;split at h
  .rename_i c;have b:=aR (ρ:=ρ) c;simp only [AV.val] at b;split at h
   .rename_i id hx;have a:=aR (ρ:=ρ) hx;simp only [AV.val] at a;split at h
    .rename_i s j k v d f;obtain ⟨l,i⟩:=bW f;have:j=id:=ah i;subst this;have hb:=Src.holds e l;split at h
     .exact .pv h (UP (wk hp) a b hb)
     .exact .pv h (Sv (wk hp) a b hb)
     .cases h
    .cases h
   .rename_i hx;have a:=aR (ρ:=ρ) hx;simp only [AV.val] at a;split at h
    .exact .pv h (aeM (wk hp) a b)
    .exact .pv h (ad1 (wk hp) a b)
    .cases h
   .cases h
  .cases h
 .cases h
theorem ams{op:Op}(f:Sat (ab ρ T G++(ab ρ T H++Φ)) w)(h:akZ X T E F G H g op=some cv):
  lA X.P (au ρ T E F) ρ (T.get g) ⟨dst,op,ty,pos,af,gd⟩ w cv:=by
 unfold akZ at h;split at h
 .split at h
  .rename_i v hv;split at h
   .rename_i cs o;split at h
    next Q n=>exact .pv h (akp f hv o n)
    .cases h
   .cases h
  .cases h
 .obtain ⟨b,a⟩:=aI h;split at a
  .rename_i e I;split at a
   .rename_i B;split at a
    .rename_i v hv;split at a
     next l A=>refine .pv a (ahm λC=>?_);have m:=aR (ρ:=ρ) hv;simp only [AV.val];exact anI (M:=λ_=>False) (bV I) (Ga B) (oQ b) m (λ_=>aon f A C)
     .cases a
    .cases a
   .cases a
  .cases a
 .rename_i t x y ok;split at h
  .rename_i p hp;split at h
   .rename_i id hx;split at h
    .rename_i R u;split at h
     .rename_i s j k v d D;split at h
      .rename_i z r;obtain ⟨b,a⟩:=aI h;simp only [ae] at b;split at a
       .rename_i key i;obtain ⟨K,J⟩:=bW D;have:j=id:=ah J;subst this;have hb:=Src.holds f K;have m:=aR (ρ:=ρ) hx;have q:=aR (ρ:=ρ) u;simp only [AV.val] at m;rw [WN i] at q;obtain ⟨O,N,L⟩:=z;have c:(zeroValue p.2).run X.P w= .ok (EM v v.oh) w:=by rw [<-amk b.2];exact (cE r).zero w
        cases ok
        .refine .pv a ?_;rw [aff];exact ah3 (Wm b.1) (wk hp) c m q (λ_=>hb)
        .refine .pv a ?_;simp only [AV.val,AV.ao];rw [aff];exact aa7 (Wm b.1) (wk hp) c m q (λ_=>hb)
       .cases a
      .cases h
     .cases h
    .cases h
   .cases h
  .cases h
 .exact aiv f h
 .exact ajH f h
 .cases h
end
def bF(P:Program)(E:Env)(o:Oper)(w:World)(R:Value->World->Prop):Prop:=
 ∀n a,Fits n E a->(∃v w',(execOp a.eval o).run P w= .ok (.value v) w'/\R v w')\/(∃w',(execOp a.eval o).run P w= .ok .skip w'/\R undef w')\/
  (∃(f:FuncId) (args:w9),(execOp a.eval o).run P w= .ok (.enter f args.toArray) w/\fq P f args w R)
section
variable {P : Program} {σ : xb} {Q : bu} {n : Nat} {D : v7} {E : Env} {w : World} {ops : xJ} {rest : x5} {o : Oper} {R S : Value -> World -> Prop}
theorem bF.run(h:bg P E true o w v)(k:R v w):bF P E o w R:=λn a b=> .inl ⟨v,w,h n a b rfl,k⟩
theorem bF.mC{w':World}(h:kM P E o w v w')(k:R v w'):bF P E o w R:=λn a b=> .inl ⟨v,w',h n a b,k⟩
theorem bF.agC{w':World}(h:P3 P E o w w')(k:R undef w'):bF P E o w R:=λn a b=> .inr (.inl ⟨w',h n a b,k⟩)
theorem bF.upon(hd:bF P E o w R){a:Act}(e:Fits n E a){b:Act->World->Prop}(h:∀v w',R v w'->b (a.put o.dst v) w'):o.uponIn (FW σ) 0 P a b Q ((execOp a.eval o).run P w):=by
 rcases hd n a e with ⟨v,w',d,c⟩|⟨w',d,c⟩|⟨f,args,d,c⟩
 .rw [d,Oper.uponIn_value];exact h _ _ c
 .rw [d,Oper.uponIn_skip];exact h _ _ c
 .rw [d];exact H9 c (λv w' hv=>h v w' hv) (λ_ _ hv=>hv.elim)
def pb(dst:xc)(g:Bool)(v:Value)(E:Env):Env:=match dst with
 |some d=>(d,g,v)::E
 |none=>E
def L6(n:Nat):xc->Bool
 |some d=>Nat.blt d n
 |none=>true
theorem Fits.pb{E:Env}{a:Act}(h:Fits n E a){d:xc}{g:Bool}{v:Value}(hd:L6 n d=true):Fits n (pb d g v E) (a.put d (vO g v)):=by
 cases d with
 |none=>exact h
 |some d=>exact h.put hd
theorem anR(hd:bF P E o w R)(hp:ix o=true)(d:o.guard=none)(c:L6 n o.dst=true)
  (h:∀v w',R v w'->WL P σ ops Q n D rest (pb o.dst true v E) w'):WL P σ ops Q n D (o::rest) E w:=λa b f=>
 wpListIn_plain d λK e=>j7 hp (hd.upon b λv w' hv=>e _ _ (h v w' hv _ (b.pb c) (by rw [il];exact f)))
theorem akt{j:Nat}{b:Bool}{rj:Tmp}{m p:Bool}{g:Bool}(hd:g=true->bF P E o w R)(t:g=false->∃v,R v w)(hp:ix o=true)(f:o.guard=some (j,b))(r:(ops[j]?).bind (·.dst)=some rj)
  (q:look E rj=some (m,.bool p)) (e:Nat.blt rj n=true) (s:(m&&(p==b))=g) (i:L6 n o.dst=true)
  (h:∀v w',R v w'->WL P σ ops Q n D rest (pb o.dst g v E) w'):WL P σ ops Q n D (o::rest) E w:=λa c l=>
 wpListIn_step λK k=>by
  rw [DU f r q c e,s];cases g
  .simp only [oi,qF];obtain ⟨v,hv⟩:=t rfl;have:=c.pb (d:=o.dst) (g:=false) (v:=v) i;exact ⟨λ_ _=>trivial,k _ _ (h _ _ hv _ this (by rw [il];exact l))⟩
  .simp only [qn];exact j7 hp ((hd rfl).upon c λv w' hv=>k _ _ (h v w' hv _ (c.pb i) (by rw [il];exact l)))
end
abbrev cB(R:Type):=aC->Option R
def cu(dst:xc)(g:GK)(v:AV)(E:aF):aF:=match dst with
 |some d=>(d,g,v)::E
 |none=>E
def aV{R:Type}(r:R)(K:cB R)(T:aB)(fr:Fr)(st:aC)(g:GK)(dst:xc)(ρ:ay)(Φ:Ctx)(v:Value)(w':World):Prop:=
 ∃(ρ':ay) (st':aC) (av:AV),K st'=some r/\aT st.c ρ ρ'/\st.c<=st'.c/\st'.E=cu dst g av st.E/\av.val ρ'=v/\au ρ' T st.E fr.F=au ρ T st.E fr.F/\
  ab ρ' T fr.H=ab ρ T fr.H/\Sat (ab ρ' T st'.G++(ab ρ' T fr.H++Φ)) w'
def iN(P:Program)(T:aB)(g:GK)(Ev:Env)(o:Oper)(w:World)(O:Value->World->Prop):Prop:=
 (T.get g=true->bF P Ev o w O)/\(T.get g=false->∃v,O v w)
section
variable {R : Type} {r : R} {K : cB R} {T : aB} {fr : Fr} {st st' : aC} {g : GK} {dst : xc} {ρ ρ' : ay} {Φ : Ctx} {v : Value} {w w' : World}
theorem aC.cC:st.low fr=true↔aF.low st.c st.E=true/\aF.low st.c fr.F=true/\bC st.c st.G=true/\bC st.c fr.H=true:=by simp only [aC.low,ae,and_assoc]
theorem mA(a:st.low fr=true)(ha:aT st.c ρ ρ'):au ρ' T st.E fr.F=au ρ T st.E fr.F:=by obtain ⟨d,b,_,_⟩:=aC.cC.1 a;rw [au,oL ha d,oL ha b]
theorem aV.new{av:AV}(a:st.low fr=true)(d:K st'=some r)(ha:aT st.c ρ ρ')(hc:st.c<=st'.c)(f:st'.E=cu dst g av st.E)(hv:av.val ρ'=v)
  (b:Sat (ab ρ' T st'.G++(ab ρ T fr.H++Φ)) w'):aV r K T fr st g dst ρ Φ v w':=by
 have e:=bf (T:=T) ha (aC.cC.1 a).2.2.2;exact ⟨ρ',st',av,d,ha,hc,f,hv,mA a ha,e,by rw [e];exact b⟩
theorem aV.iu{av:AV}(b:K st'=some r)(hc:st.c<=st'.c)(d:st'.E=cu dst g av st.E)(hv:av.val ρ=v)
  (a:Sat (ab ρ T st'.G++(ab ρ T fr.H++Φ)) w'):aV r K T fr st g dst ρ Φ v w':=
 ⟨ρ,st',av,b,.refl,hc,d,hv,rfl,rfl,a⟩
theorem aV.push{av:AV}{x:Nm}{row:Row}(a:st.low fr=true)(b:K { st with c:=st.c+1,E:=cu dst g av st.E,G:=row::st.G }=some r)(hv:av.val (ρ.set st.c x)=v)
  (hs:Sat (row.item (ρ.set st.c x) T::(ab ρ T st.G++(ab ρ T fr.H++Φ))) w'):aV r K T fr st g dst ρ Φ v w':=by
 refine aV.new a b ay.aZ (gy _) rfl hv ?_;have e:=bf (T:=T) (ay.aZ (ρ:=ρ) (j:=st.c) (x:=x)) (aC.cC.1 a).2.2.1;show Sat (ab (ρ.set st.c x) T (row::st.G)++_) w';rw [ab,cx];rw [ab] at e;rw [e];exact hs
theorem eU{G:List Row}{row:Row}{j:Nat}{Δ:Ctx}(a:j<G.length):ab ρ T (G.set j row)++Δ=(ab ρ T G++Δ).set j (row.item ρ T):=by rw [List.set_append_left _ _ (by simpa [ab] using a)];simp only [ab,List.map_set]
theorem aV.nd{av:AV}{x:Nm}{row:Row}{j:Nat}(a:st.low fr=true)(b:j<st.G.length)(d:K { st with c:=st.c+1,E:=cu dst g av st.E,G:=st.G.set j row }=some r)(hv:av.val (ρ.set st.c x)=v)
  (hs:Sat ((ab ρ T st.G++(ab ρ T fr.H++Φ)).set j (row.item (ρ.set st.c x) T)) w'):aV r K T fr st g dst ρ Φ v w':=by
 refine aV.new a d ay.aZ (gy _) rfl hv ?_;have e:=bf (T:=T) (ay.aZ (ρ:=ρ) (j:=st.c) (x:=x)) (aC.cC.1 a).2.2.1;show Sat (ab (ρ.set st.c x) T (st.G.set j row)++_) w';rw [eU b,e];exact hs
end
def KH(P:Program)(T:aB)(g:GK)(Ev:Env)(o:Oper)(w:World)(O:Value->World->Prop):Prop:= ∃v,(∀w',bg P Ev (T.get g) o w' v)/\O v w
theorem KH.ok2{T:aB}{g:GK}{Ev:Env}{o:Oper}{w:World}{O:Value->World->Prop}(h:KH P T g Ev o w O):iN P T g Ev o w O:=by obtain ⟨v,c,a⟩:=h;exact ⟨λb=>bF.run (by have:=c w;rwa [b] at this) a,λ_=>⟨v,a⟩⟩
theorem bF.gd{E:Env}{dst:xc}{op:Op}{ty:TypeId}{pos:String}{af:x3}{gd:Option (Nat×Bool)}{w:World}{R:Value->World->Prop}(h:bF P E ⟨dst,op,ty,pos,af,none⟩ w R):bF P E ⟨dst,op,ty,pos,af,gd⟩ w R:=
 λn a b=>h n a b
def Ty.n':Ty->Nat
 | .i _|.bo|.s|.l _|.n=>1
 | .un|.mp _ _=>0
 | .p x y=>x.n'+y.n'
 | .ex=>4
theorem Ty.BS:(t:Ty)->t.rep.n=t.n'
 | .i _|.bo|.s|.l _|.un|.n|.mp _ _|.ex=>rfl
 | .p x y=>by show x.rep.n+y.rep.n=_;rw [Ty.BS x,Ty.BS y];rfl
def dA:(t:Ty)->t.T->Nat->List AV×List Row×Nat
 | .i k,x,c=>([.int k x],[],c)
 | .bo,x,c=>([.bool x],[],c)
 | .s,x,c=>([.str x],[],c)
 | .un,_,c=>([],[],c)
 | .n,x,c=>([.ifc x (.agg [])],[],c)
 | .mp _ _,_,c=>([],[],c)
 | .p a b,x,c=>match dA a x.1 c with
  |(u,p,c)=>match dA b x.2 c with
   |(v,q,c)=>(u++v,p++q,c)
 | .l t,x,c=>([.sl c],[.sli none c t x false],c+1)
 | .ex,x,c=>([.int .i64 x.op,.int .i64 x.n,.int .i64 x.at_,.sl c],[.sli none c .ex x.l false],c+1)
structure aqK(T:aB)(M:Nat->Prop)(w:World)(vs:w9)(c:Nat)(ρ ρ':ay)(m:List AV×List Row×Nat):Prop where
 ag:aT c ρ ρ'
 le:c<=m.2.2
 lw:AV.bX m.2.2 m.1=true
 eq:AV.ao ρ' m.1=vs
 rl:∀r∈m.2.1,r.low m.2.2=true
 rs:∀r∈m.2.1,∃j t l,r= .sli none j t l false
 rp:∀r∈m.2.1,(r.item ρ' T).P M w
theorem Row.fe{c d:Nat}(a:c<=d){r:Row}(h:r.low c=true):r.low d=true:=by
 cases r <;> simp only [Row.low,ae,e9] at h ⊢
 .exact ⟨by omega,AV.jr a _ h.2⟩
 .omega
 .omega
 .omega
 .exact ⟨by omega,AV.jr a _ h.2⟩
 .omega
 .omega
 .exact ⟨by omega,AV.fe a _ h.2⟩
theorem FM{T:aB}{M:Nat->Prop}{w:World}:(t:Ty)->(x:t.T)->(c:Nat)->(vs:w9)->t.rep.rd M w vs x->(ρ:ay)->∃ρ',aqK T M w vs c ρ ρ' (dA t x c)
 | .i k,x,c,vs,h,ρ=>⟨ρ,.refl,bb _,rfl,by cases h;simp [dA,AV.ao,AV.val],(λ_ h=>by cases h),(λ_ h=>by cases h),(λ_ h=>by cases h)⟩
 | .bo,x,c,vs,h,ρ=>⟨ρ,.refl,bb _,rfl,by cases h;simp [dA,AV.ao,AV.val],(λ_ h=>by cases h),(λ_ h=>by cases h),(λ_ h=>by cases h)⟩
 | .s,x,c,vs,h,ρ=>⟨ρ,.refl,bb _,rfl,by cases h;simp [dA,AV.ao,AV.val],(λ_ h=>by cases h),(λ_ h=>by cases h),(λ_ h=>by cases h)⟩
 | .un,x,c,vs,h,ρ=>⟨ρ,.refl,bb _,rfl,by cases h;simp [dA,AV.ao],(λ_ h=>by cases h),(λ_ h=>by cases h),(λ_ h=>by cases h)⟩
 | .n,x,c,vs,h,ρ=>⟨ρ,.refl,bb _,rfl,by cases h;simp [dA,AV.ao,AV.val],(λ_ h=>by cases h),(λ_ h=>by cases h),(λ_ h=>by cases h)⟩
 | .mp _ _,x,c,vs,h,ρ=>h.elim
 | .p a b,x,c,vs,h,ρ=>by
  obtain ⟨us,m,rfl,u,q⟩:=h;obtain ⟨j,f⟩:=FM (T:=T) a x.1 c us u ρ;obtain ⟨g,e⟩:=FM (T:=T) b x.2 (dA a x.1 c).2.2 m q j;refine ⟨g,f.ag.trans e.ag f.le,cg f.le e.le,PB (AV.jr e.le _ f.lw) e.lw,?_,λr d=>?_,λr d=>?_,λr d=>?_⟩
  .simp only [dA,cZ];rw [AV.bU e.ag _ f.lw,f.eq,e.eq]
  .rcases List.mem_append.1 d with d|d
   .exact Row.fe e.le (f.rl r d)
   .exact e.rl r d
  .rcases List.mem_append.1 d with d|d
   .exact f.rs r d
   .exact e.rs r d
  .rcases List.mem_append.1 d with d|d
   .rw [Row.Aa e.ag (f.rl r d)];exact f.rp r d
   .exact e.rp r d
 | .l t,x,c,vs,h,ρ=>by
  obtain ⟨v,rfl,h⟩:=h;refine ⟨ρ.set c { cM with v:=v },ay.aZ,gy _,by simp [dA,AV.bX,AV.low],by simp [dA,AV.ao,AV.val,ay.bB],λr d=>?_,λr d=>?_,λr d=>?_⟩
  .simp only [dA,l5] at d;subst d;simp [Row.low,dA]
  .simp only [dA,l5] at d;subst d;exact ⟨_,_,_,rfl⟩
  .simp only [dA,l5] at d;subst d;simp only [Row.item,ay.bB];exact λ_=>⟨h,λhb=>by cases hb⟩
 | .ex,x,c,vs,h,ρ=>by
  obtain ⟨v,rfl,o⟩:=HB h;refine ⟨ρ.set c { cM with v:=v },ay.aZ,gy _,by simp [dA,AV.bX,AV.low],by simp [dA,AV.ao,AV.val,ay.bB],λr d=>?_,λr d=>?_,λr d=>?_⟩
  .simp only [dA,l5] at d;subst d;simp [Row.low,dA]
  .simp only [dA,l5] at d;subst d;exact ⟨_,_,_,rfl⟩
  .simp only [dA,l5] at d;subst d;simp only [Row.item,ay.bB];exact λ_=>⟨o,λhb=>by cases hb⟩
theorem Mw:(t:Ty)->(x:t.T)->(c:Nat)->c<=(dA t x c).2.2
 | .i _,_,_|.bo,_,_|.s,_,_|.un,_,_|.n,_,_|.mp _ _,_,_=>bb _
 | .p a b,x,c=>cg (Mw a x.1 c) (Mw b x.2 _)
 | .l _,_,_|.ex,_,_=>gy _
theorem KM:(t:Ty)->(x:t.T)->(c:Nat)->∀r∈(dA t x c).2.1,∃j t l,r= .sli none j t l false
 | .i _,_,_,_,h|.bo,_,_,_,h|.s,_,_,_,h|.un,_,_,_,h|.n,_,_,_,h|.mp _ _,_,_,_,h=>by cases h
 | .p a b,x,c,r,h=>by
  rcases List.mem_append.1 h with h|h
  .exact KM a x.1 c r h
  .exact KM b x.2 _ r h
 | .l _,_,_,r,h=>by
  simp only [dA,l5] at h;subst h;exact ⟨_,_,_,rfl⟩
 | .ex,_,_,r,h=>by simp only [dA,l5] at h;subst h;exact ⟨_,_,_,rfl⟩
def uA(g:GK)(r:Row):Row:=match g,r with
 |none,r=>r
 |some g,.sli _ id t l b=> .sli (some g) id t l b
 |some _,r=>r
theorem tv{ρ:ay}{T:aB}{g:GK}{M:Nat->Prop}{w:World}{j:Nat}{t:Ty}{l:List t.T}(h:T.get g=true->((Row.sli none j t l false).item ρ T).P M w):
  ((uA g (.sli none j t l false)).item ρ T).cF=true/\((uA g (.sli none j t l false)).item ρ T).P M w:=by
 cases g with
 |none=>exact ⟨rfl,h (aB.get_none)⟩
 |some k=>
  refine ⟨rfl,λa=>?_⟩;exact h a (aB.get_none)
theorem Bq{Γ:Ctx}{w:World}(h:Sat Γ w):∀(new:List Item),(∀it∈new,it.cF=true/\it.P Γ.M w)->Sat (new++Γ) w:=λnew a=>by
 have key:∀new:List Item,(∀it∈new,it.cF=true/\it.P Γ.M w)->new.all (·.cF)=true/\agJ Γ.M w new:=λnew=>by
  induction new with
  |nil=>exact λ_=>⟨rfl,trivial⟩
  |cons it l ih=>
   intro a;obtain ⟨f,e⟩:=ih (λjt b=>a jt (aW _ b));obtain ⟨d,c⟩:=a it (bj ..);exact ⟨by simp only [qt,ae];exact ⟨d,f⟩,c,e⟩
 exact h.amc new (key new a).1 (key new a).2
def pQ(G H:List Row)(t:Ty)(v:AV):Option (List t.T):=match v with
 | .sl j=>(match dH G H (lz j) with
  |some (_,.sli none _ t' l _)=>bZ.asL t ⟨.l t',l⟩
  |_=>none)
 | .raw (.slice none 0 0)=>some []
 |_=>none where bZ.asL (t:Ty) (d:bZ):Option (List t.T):=d.as (.l t)
theorem oH{t t':Ty}{l:List t'.T}{l':List t.T}(h:pQ.bZ.asL t ⟨.l t',l⟩=some l'):∃e:t'=t,e▸l=l':=by have:=bZ.Ng h;cases this;exact ⟨rfl,rfl⟩
theorem M9{ρ:ay}{T:aB}{G H:List Row}{Φ:Ctx}{w:World}{t:Ty}{v:AV}{l:List t.T}(c:Sat (ab ρ T G++(ab ρ T H++Φ)) w)(h:pQ G H t v=some l):
  bQ t.rep (Ctx.M (ab ρ T G++(ab ρ T H++Φ))) w (v.val ρ) l:=by
 unfold pQ at h;split at h
 .rename_i j;split at h
  next s a t' l' b d=>obtain ⟨f,e⟩:=bW d;have:a=j:=ah e;subst this;obtain ⟨rfl,rfl⟩:=oH h;simp only [AV.val];exact ((Src.holds c f) aB.get_none).1
  .cases h
 .cases h;simp only [AV.val];exact bQ.nil
 .cases h
def nX(G H:List Row):(t:Ty)->List AV->Option (t.T×List AV)
 | .i k,vs=>(match vs with
  | .int k' x::vs=>aA ( fm k k' ) ( some (x,vs) ) none
  |_=>none)
 | .bo,vs=>(match vs with
  | .bool x::vs=>some (x,vs)
  |_=>none)
 | .s,vs=>(match vs with
  | .str x::vs=>some (x,vs)
  |_=>none)
 | .un,vs=>some ((),vs)
 | .n,vs=>(match vs with
  | .ifc t (.agg [])::vs=>some (t,vs)
  |_=>none)
 | .p a b,vs=>(match nX G H a vs with
  |some x=>(match nX G H b x.2 with
   |some y=>some ((x.1,y.1),y.2)
   |none=>none)
  |none=>none)
 | .l t,vs=>(match vs with
  |v::vs=>(match pQ G H t v with
   |some l=>some (l,vs)
   |none=>none)
  |_=>none)
 | .ex,vs=>(match vs with
  | .int .i64 a:: .int .i64 b:: .int .i64 c::v::vs=>(match pQ G H .ex v with
   |some l=>some (Ex.mk a b c l,vs)
   |none=>none)
  |_=>none)
 |_,_=>none
theorem Sz{ρ:ay}{T:aB}{G H:List Row}{Φ:Ctx}{w:World}(d:Sat (ab ρ T G++(ab ρ T H++Φ)) w):(t:Ty)->(vs:List AV)->(x:t.T×List AV)->nX G H t vs=some x->
  ∃us,vs=us++x.2/\t.rep.rd (Ctx.M (ab ρ T G++(ab ρ T H++Φ))) w (AV.ao ρ us) x.1
 | .i k,vs,x,h=>by
  unfold nX at h;split at h
  next u y us=>obtain ⟨j,g⟩:=aI h;have:=gw j;subst this;cases g;exact ⟨[.int k y],rfl,by simp only [AV.ao,AV.val];rfl⟩
  .cases h
 | .bo,vs,x,h=>by
  unfold nX at h;split at h
  next y us=>cases h;exact ⟨[.bool y],rfl,by simp only [AV.ao,AV.val];rfl⟩
  .cases h
 | .s,vs,x,h=>by
  unfold nX at h;split at h
  next y us=>cases h;exact ⟨[.str y],rfl,by simp only [AV.ao,AV.val];rfl⟩
  .cases h
 | .un,vs,x,h=>by
  unfold nX at h;cases h;exact ⟨[],rfl,by simp only [AV.ao];rfl⟩
 | .n,vs,x,h=>by
  unfold nX at h;split at h
  next t us=>cases h;exact ⟨[.ifc t (.agg [])],rfl,by simp only [AV.ao,AV.val];rfl⟩
  .cases h
 | .mp _ _,vs,x,h=>by unfold nX at h;cases h
 | .p a b,vs,x,h=>by
  unfold nX at h;split at h
  .rename_i y o;split at h
   next z m=>cases h;obtain ⟨us,r,j⟩:=Sz d a vs y o;obtain ⟨e,q,g⟩:=Sz d b y.2 z m;refine ⟨us++e,by rw [r,q,aO],?_⟩;rw [cZ];exact ⟨_,_,rfl,j,g⟩
   .cases h
  .cases h
 | .l t,vs,x,h=>by
  unfold nX at h;split at h
  .rename_i v us;split at h
   next l f=>cases h;refine ⟨[v],rfl,?_⟩;simp only [AV.ao];exact (M9 d f).rsl
   .cases h
  .cases h
 | .ex,vs,x,h=>by
  unfold nX at h;split at h
  .rename_i a b c v us;split at h
   next l f=>cases h;refine ⟨[.int .i64 a,.int .i64 b,.int .i64 c,v],rfl,?_⟩;simp only [AV.ao,AV.val];exact O1 (M9 d f).rsl
   .cases h
  .cases h
def rd1(G H:List Row)(t:Ty)(vs:List AV):Option t.T:=match nX G H t vs with
 |some (x,[])=>some x
 |_=>none
theorem aj7{ρ:ay}{T:aB}{G H:List Row}{Φ:Ctx}{w:World}(c:Sat (ab ρ T G++(ab ρ T H++Φ)) w){t:Ty}{vs:List AV}{x:t.T}(h:rd1 G H t vs=some x):
  t.rep.rd (Ctx.M (ab ρ T G++(ab ρ T H++Φ))) w (AV.ao ρ vs) x:=by
 unfold rd1 at h;split at h
 next y b=>cases h;obtain ⟨us,a,d⟩:=Sz c t vs _ b;simp only [iq] at a;rw [a];exact d
 .cases h
def rdL(G H:List Row)(t:Ty):Nat->List AV->Option (List t.T)
 |0,vs=>(match vs with
  |[]=>some []
  |_=>none)
 |k+1,vs=>(match nX G H t vs with
  |some x=>(match rdL G H t k x.2 with
   |some l=>some (x.1::l)
   |none=>none)
  |none=>none)
theorem Um{ρ:ay}{T:aB}{G H:List Row}{Φ:Ctx}{w:World}(a:Sat (ab ρ T G++(ab ρ T H++Φ)) w){t:Ty}:(k:Nat)->(vs:List AV)->(l:List t.T)->rdL G H t k vs=some l->
  l.length=k/\cL t.rep (Ctx.M (ab ρ T G++(ab ρ T H++Φ))) w (AV.ao ρ vs) l
 |0,vs,l,h=>by
  unfold rdL at h;split at h
  .cases h;exact ⟨rfl,by simp only [AV.ao];exact cL.nil⟩
  .cases h
 |k+1,vs,l,h=>by
  unfold rdL at h;split at h
  .rename_i x hx;split at h
   next l' b=>cases h;obtain ⟨us,f,e⟩:=Sz a t vs x hx;obtain ⟨d,c⟩:=Um a k x.2 l' b;refine ⟨by simp [d],?_⟩;rw [f,cZ];exact cL.cons e c
   .cases h
  .cases h
def cm(ids:x8):List Row->List Row
 |[]=>[]
 |r::G=>(match r with
  | .own id t e l ver=>aA ( se id ids ) ( .sli none id t l false )<| .own id t e l ver
  |r=>r)::cm ids G
theorem afa{ρ:ay}{T:aB}{ids:x8}{w:World}:{G:List Row}->{A B:Ctx}->Sat (A++(ab ρ T G++B)) w->Sat (A++(ab ρ T (cm ids G)++B)) w
 |[],_,_,h=>h
 |r::G,A,B,h=>by
  have a:∀d:Row,Sat (A++(ab ρ T (d::G)++B)) w->Sat (A++(ab ρ T (d::cm ids G)++B)) w:=λd h=>by
   have i:Sat ((A++[d.item ρ T])++(ab ρ T G++B)) w:=by simpa [ab] using h
   have:=afa (ids:=ids) i;simpa [ab] using this
  unfold cm;split
  .rename_i id t e l c;cases j:se id ids
   .exact a _ h
   .refine a _ ?_;have hi:(A++(ab ρ T (Row.own id t e l c::G)++B))[A.length]? =some (mJ t.rep e (ρ id).v l ((ρ c).y=⟨.l t,l⟩)):=by rw [b5 (bb _)];simp [ab,Row.item]
    have f:=h.nd hi (new:=(Row.sli none id t l false).item ρ T) ((Ext.refl w).rz _) (λb hb=>by cases hb) (λM' m g=>λ_=>⟨(h.at_ hi).1.freeze (λb hb=>g b hb (λhb=>by cases hb)) m,λhb=>by cases hb⟩);rw [qP _ _ (bb _)] at f;simpa [ab] using f
  .exact a _ h
theorem pB{c:Nat}{ids:x8}:{G:List Row}->bC c G=true->bC c (cm ids G)=true
 |[],_=>rfl
 |r::G,h=>by
  simp only [bC,ae] at h;unfold cm;simp only [bC,ae];refine ⟨?_,pB h.2⟩;split
  .rename_i id t e l b;have a:=h.1;simp only [Row.low,ae] at a;cases se id ids
   .simp only [Row.low,ae];exact a
   .simp only [Row.low];exact a.1
  .exact h.1
theorem iP{ρ:ay}{T:aB}{ids:x8}{w:World}{G:List Row}{B:Ctx}(h:Sat (ab ρ T G++B) w):Sat (ab ρ T (cm ids G)++B) w:=afa (A:=[]) h
def AV.dZ:AV->x8
 | .sl id=>[id]
 | .agg l=>sls0 l
 |_=>[] where sls0:List AV->x8
 |[]=>[]
 | .sl id::l=>id::sls0 l
 |_::l=>sls0 l
section
variable {X : Cx} {R : Type} {r : R} {K : cB R} {T : aB} {fr : Fr} {st : aC} {g : GK} {d : Tmp} {ρ : ay} {Φ : Ctx} {w : World} {ty : TypeId} {pos : String} {af : x3} {gd : vb}
theorem iN.none_{Ev:Env}{o:Oper}{O:Value->World->Prop}(h:bF P Ev o w O):iN P T none Ev o w O:=⟨λ_=>h,λa=>by rw [aB.get_none] at a;cases a⟩
def aah(P:Program)(t:TypeId):Option (List AV):=match jS P t with
 |some z=>some (z.2.2.cells.toList.map iU)
 |none=>none
def aii(st:aC)(d:Tmp)(t:TypeId)(cs:List AV)(K:cB R):Option R:=K { st with c:=st.c+1,E:=cu (some d) none (.ptr st.c 0) st.E,G:= .box st.c t cs::st.G }
theorem ac0{t:TypeId}{cs:List AV}(f:st.low fr=true)(e:Sat (ab ρ T st.G++(ab ρ T fr.H++Φ)) w)(a:AV.bX st.c cs=true)(h:aii st d t cs K=some r):
  aV r K T fr st none (some d) ρ Φ (.pointer (some ⟨w.heap.size,0,none⟩)) (w.alloc (.cells (AV.ao ρ cs).toArray t)):=by
 refine aV.push (x:={ cM with b:=w.heap.size }) f h (by simp only [AV.val,ay.bB]) ?_;simp only [Row.item,ay.bB];rw [AV.bU ay.aZ _ a];exact e.push (dY _ _) (λb hb=>by
  have:b=w.heap.size:=by simpa [box] using hb
  subst this;simp) (λ_ _=>heap_alloc_new w _)
def adt(X:Cx)(st:aC)(d:Tmp)(t:TypeId)(K:cB R):Option R:=match aah X.P t with
 |some cs=>aii st d t cs K
 |none=>none
theorem aj8{t:TypeId}(f:st.low fr=true)(e:Sat (ab ρ T st.G++(ab ρ T fr.H++Φ)) w)(h:adt X st d t K=some r):
  iN X.P T none (au ρ T st.E fr.F) ⟨some d,.alloc t,ty,pos,af,gd⟩ w (aV r K T fr st none (some d) ρ Φ):=by
 unfold adt at h;split at h
 .rename_i cs a;unfold aah at a;split at a
  next z c=>cases a;obtain ⟨n,b,z⟩:=z;refine .none_ (bF.gd (bF.mC (IX (zs:=z.cells.toList) (cE c) (by simp)) ?_));have:=ac0 f e acG h;rwa [kP] at this
  .cases a
 .cases h
def amJ(T:aB)(fr:Fr)(st:aC)(d:Tmp)(t:TypeId)(x:Operand)(K:cB R):Option R:=match br T st.E fr.F none x with
 |some v=>aA ( Md v&&AV.bX st.c (cV v) ) ( aii st d t (cV v) K ) none
 |none=>none
theorem an4{t:TypeId}(c:st.low fr=true)(b:Sat (ab ρ T st.G++(ab ρ T fr.H++Φ)) w)(h:amJ T fr st d t x K=some r):
  iN X.P T none (au ρ T st.E fr.F) ⟨some d,.box t x,ty,pos,af,gd⟩ w (aV r K T fr st none (some d) ρ Φ):=by
 unfold amJ at h;split at h
 next v hv=>obtain ⟨a,e⟩:=aI h;simp only [ae] at a;exact .none_ (bF.gd (bF.mC (amw (bE hv) (xo a.1)) (ac0 c b a.2 e)))
 .cases h
def agN:AV->Bool
 | .agg _|.tuple _|.nv _=>false
 | .raw v=>v.oneCell'
 |_=>true
theorem ak0{v:AV}(h:agN v=true):(v.val ρ).oneCell'=true:=by
 cases v with
 |agg l=>cases h
 |tuple l=>cases h
 |nv l=>cases h
 |raw v=>simp only [AV.val];exact h
 |_=>simp only [AV.val];rfl
theorem M8:{l:List AV}->l.all agN=true->(AV.ao ρ l).all Value.oneCell'=true
 |[],_=>by simp [AV.ao]
 |v::l,h=>by simp only [qt,ae] at h;simp only [AV.ao,qt,ae];exact ⟨ak0 h.1,M8 h.2⟩
def ab0(P:Program)(st:aC)(t:TypeId)(id off:Nat)(v:AV)(K:cB R):Option R:=match mG (wO id) st.G with
 |some (j,.box _ e vs)=>(match jS P t with
  |some z=>aA ( Md v&&(cV v).all agN&&Nat.beq (cV v).length z.1&&Nat.ble (off+(cV v).length) vs.length ) (
    K { st with G:=st.G.set j (.box id e (tq vs off (cV v))) } ) none
  |none=>none)
 |_=>none
theorem ajk{t:TypeId}{id off:Nat}{v:AV}(g:Sat (ab ρ T st.G++(ab ρ T fr.H++Φ)) w)(hx:br T st.E fr.F none x=some (.ptr id off))(o:br T st.E fr.F none y=some v)(h:ab0 X.P st t id off v K=some r):
  bF X.P (au ρ T st.E fr.F) ⟨none,.store t x y,ty,pos,af,gd⟩ w (aV r K T fr st none none ρ Φ):=by
 unfold ab0 at h;split at h
 .rename_i j a e vs s;split at h
  .rename_i z m;obtain ⟨n,bytes,z⟩:=z;obtain ⟨k,A⟩:=aI h;simp only [ae] at k;obtain ⟨⟨⟨J,I⟩,D⟩,C⟩:=k;obtain ⟨l,B⟩:=kL s;have:a=id:=ah B;subst this;have d:=bE (ρ:=ρ) hx;have f:=bE (ρ:=ρ) o;simp only [AV.val] at d;have hi:=fi (ρ:=ρ) (T:=T) (Φ:=ab ρ T fr.H++Φ) l;have hb:eM w (ρ a).b e (AV.ao ρ vs):=g.at_ hi;obtain ⟨p,u,i⟩:=ag6 (P:=X.P) (E:=au ρ T st.E fr.F) (w:=w) (dst:=none) (ty:=ty) (pos:=pos) (af:=af) (cE m) d f (xo J) (by rw [AV.bm];exact ah D) (M8 I) hb (by rw [AV.bm,AV.bm];exact C) wY;refine bF.gd (bF.agC p (aV.iu (av:= .raw undef) A (bb _) rfl (by simp only [AV.val]) ?_));have q:j<st.G.length:=(List.getElem?_eq_some_iff.1 l).1;show Sat (ab ρ T (st.G.set j _)++_) _;rw [eU q];refine g.nd hi u (λc hc=>?_) (λ_ _ _=>i);have:c=(ρ a).b:=by simpa [Row.item,box] using hc
   subst this;exact ⟨i.lt,.inl (by simp [Row.item,box])⟩
  .cases h
 .cases h
theorem agi{t:Ty}{p:fA}{l l':List t.T}{q q':Prop}{i:Nat}{Γ:Ctx}{w':World}(b:Sat Γ w)(hi:Γ[i]? =some (mJ t.rep e p l q))(g:q')(f:js (dv (sl p)) w w')(a:w'.heap.size=w.heap.size)(d:tf p=dv (sl p))
  (h:∀M',Mv Γ.M w M' w'->gb t.rep e M' w' (sl p) l'):Sat (Γ.set i (mJ t.rep e p l' q')) w':=by
 refine b.nd hi (by rw [<-d] at f;exact f) (λc hc=>⟨by rw [a];exact (b.at_ hi).1.lt c hc,.inl hc⟩) (λM' m _=>⟨?_,g⟩);show bK t.rep e M' w' (sl p) l' (tf p);rw [d];exact bK.of (h M' m)
theorem pz{c:Nat}:∀{G:List Row} {j:Nat} {r:Row},bC c G=true->G[j]? =some r->r.low c=true:=λ{G}=>by
 induction G with
 |nil=>intro j r _ h;simp at h
 |cons b G ih=>
  intro j r h a;simp only [bC,ae] at h;cases j with
  |zero=>simp at a;subst a;exact h.1
  |succ j=>exact ih h.2 (by simpa using a)
def adM(P:Program)(fr:Fr)(st:aC)(t:TypeId)(q off:Nat)(v:AV)(K:cB R):Option R:=
 match dH (cm (AV.dZ.sls0 (cV v)) st.G) fr.H (Qs q) with
 |some (_,.kn none _ id ver u i x)=>(match mG (lz id) (cm (AV.dZ.sls0 (cV v)) st.G) with
  |some (j,.own _ u' e l ver')=>(match jS P t with
   |some z=>aA ( Nat.beq ver ver'&&Md v&&(cV v).all agN&&Nat.beq (cV v).length z.1&&AV.bX st.c (cV v) ) (
     aA ( Nat.beq off 0&&Nat.beq (cV v).length u'.n' ) ( match rd1 (cm (AV.dZ.sls0 (cV v)) st.G) fr.H u' (cV v) with
      |some y=>K { st with c:=st.c+1,G:=(cm (AV.dZ.sls0 (cV v)) st.G).set j (.own id u' e (List.set l i.toNat y) st.c) }
      |none=>none )<|
      aA ( Nat.ble (off+(cV v).length) (dA u x (st.c+1)).1.length ) ( match rd1 ((dA u x (st.c+1)).2.1++cm (AV.dZ.sls0 (cV v)) st.G) fr.H u' (tq (dA u x (st.c+1)).1 off (cV v)) with
       |some y=>K { st with c:=(dA u x (st.c+1)).2.2,G:=(dA u x (st.c+1)).2.1++(cm (AV.dZ.sls0 (cV v)) st.G).set j (.own id u' e (List.set l i.toNat y) st.c) }
       |none=>none ) none ) none
   |none=>none)
  |_=>none)
 |_=>none
theorem ajq{t:TypeId}{q off:Nat}{v:AV}(hl:st.low fr=true)(C:Sat (ab ρ T st.G++(ab ρ T fr.H++Φ)) w)(hx:br T st.E fr.F none x=some (.adr q off))(hy:br T st.E fr.F none y=some v)(h:adM X.P fr st t q off v K=some r):
  bF X.P (au ρ T st.E fr.F) ⟨none,.store t x y,ty,pos,af,gd⟩ w (aV r K T fr st none none ρ Φ):=by
 unfold adM at h;have g:=pB (ids:=AV.dZ.sls0 (cV v)) (aC.cC.1 hl).2.2.1;replace C:=iP (ids:=AV.dZ.sls0 (cV v)) C;generalize cm (AV.dZ.sls0 (cV v)) st.G=G at h g C;split at h
 .rename_i s q' id R u i xe hf;split at h
  .rename_i j o u' e l Q Y;split at h
   .rename_i z hz;obtain ⟨n,bytes,z⟩:=z;obtain ⟨h1,h2⟩:=aI h;simp only [ae] at h1;obtain ⟨⟨⟨⟨a1,a2⟩,a3⟩,a4⟩,a5⟩:=h1;obtain ⟨f1,f2⟩:=bW hf;obtain ⟨S,k2⟩:=kL Y;have e1:q'=q:=ah f2;have e2:o=id:=ah k2;have e3:R=Q:=ah a1;subst e1;subst e2;subst e3;have A:=bE (ρ:=ρ) hx;have U:=bE (ρ:=ρ) hy;simp only [AV.val] at A;obtain ⟨I,b1,b2,b3⟩:=(Src.holds C f1) aB.get_none;have hi:=fi (ρ:=ρ) (T:=T) (Φ:=ab ρ T fr.H++Φ) S;obtain ⟨c1,c2⟩:=C.at_ hi;obtain ⟨e4,e5⟩:=No b1 c2;subst e4;simp only at e5;subst e5;obtain ⟨o1,o2⟩:=c1.fX b2;obtain ⟨o3,k,o4,o5⟩:=c1.atA b2;have hj:j<G.length:=(List.getElem?_eq_some_iff.1 S).1;have Z:(AV.ao ρ (cV v)).length=n:=by rw [AV.bm];exact ah a4
    rw [b3] at A;rcases dq h2 with ⟨h3,h4⟩|⟨_,h4⟩
    .simp only [ae] at h3;have e6:off=0:=ah h3.1;subst e6;split at h4
     .rename_i D p;have f:=aj7 C p;have M:k.length=u.rep.n:=u.rep.len o5;have hlu:(AV.ao ρ (cV v)).length=u.rep.n:=u.rep.len f;have V:mW k 0 (AV.ao ρ (cV v))=AV.ao ρ (cV v):=by unfold mW;simp only [List.take_zero,mo,hV];rw [eF (by omega),iq]
      obtain ⟨w',Y,hC,J,hP⟩:=Jq (P:=X.P) (E:=au ρ T st.E fr.F) (w:=w) (dst:=none) (ty:=ty) (pos:=pos) (af:=af) (cE hz) A U (xo a2) Z (M8 a3) o3 o1 o4 M (qf (by omega)) V f (λb hb=>Ctx.iH hi (by rw [<-o2] at hb;exact hb));refine bF.gd (bF.agC Y (aV.new (ρ':=ρ.set st.c { cM with y:=⟨.l u,List.set I i.toNat D⟩ }) (av:= .raw undef) hl h4 ay.aZ (gy _) rfl (by simp only [AV.val]) ?_));show Sat (ab _ T (G.set j _)++_) _;rw [eU hj,bf ay.aZ g];have:=agi (q':=((ρ.set st.c { cM with y:=⟨.l u,List.set I i.toNat D⟩ }) st.c).y=⟨.l u,List.set I i.toNat D⟩) C hi (by rw [ay.bB]) hC J o2 hP;have hlt:=(List.getElem?_eq_some_iff.1 S).2;have N:(ρ.set st.c { cM with y:=⟨.l u,List.set I i.toNat D⟩ }) o=ρ o:=by have d:=pz g S;simp only [Row.low,ae,e9] at d;exact ay.aZ _ d.1
      simp only [Row.item,N];exact this
     .cases h4
    .obtain ⟨h5,h6⟩:=aI h4;split at h6
     .rename_i D p;obtain ⟨a,B⟩:=FM (T:=T) u xe (st.c+1) k o5 (ρ.set st.c { cM with y:=⟨.l u,List.set I i.toNat D⟩ });have ag:aT st.c ρ a:=ay.aZ.trans B.ag (gy _);generalize dA u xe (st.c+1)=m at h5 h6 p B;have L:Sat (ab a T m.2.1++(ab ρ T G++(ab ρ T fr.H++Φ))) w:=Bq C _ (λit hit=>by obtain ⟨r,W,rfl⟩:=List.mem_map.1 hit;obtain ⟨j1,t1,l1,rfl⟩:=B.rs _ W;exact ⟨rfl,B.rp _ W⟩)
      have eG:=bf (T:=T) ag g;have eH:=bf (T:=T) ag (aC.cC.1 hl).2.2.2;have hs2:Sat (ab a T (m.2.1++G)++(ab a T fr.H++Φ)) w:=by rw [bk,aO,eG,eH];exact L
      have f:=aj7 hs2 p;rw [bk,aO,eG,eH,<-wY,B.eq,AV.bU ag _ a5] at f;have O:(ab a T m.2.1++(ab ρ T G++(ab ρ T fr.H++Φ)))[m.2.1.length+j]? =some ((Row.own o u e I R).item ρ T):=by
       rw [b5 (by simp [ab])];have:m.2.1.length+j-(ab a T m.2.1).length=j:=by simp [ab]
       rw [this];exact hi
      obtain ⟨d1,d2⟩:=L.at_ O;obtain ⟨p1,p2⟩:=d1.fX b2;have M:k.length=u.rep.n:=u.rep.len o5;obtain ⟨w',Y,hC,J,hP⟩:=Jq (P:=X.P) (E:=au ρ T st.E fr.F) (w:=w) (dst:=none) (ty:=ty) (pos:=pos) (af:=af) (cE hz) A U (xo a2) Z (M8 a3) o3 p1 o4 M (by have:=B.eq;rw [<-this,AV.bm,AV.bm];exact h5) rfl f (λb hb=>Ctx.iH O (by rw [<-p2] at hb;exact hb))
      refine bF.gd (bF.agC Y (aV.new (ρ':=a) (av:= .raw undef) hl h6 ag (cg (gy _) B.le) rfl (by simp only [AV.val]) ?_));have hy1:(a st.c).y=⟨.l u,List.set I i.toNat D⟩:=by rw [B.ag _ (qh _),ay.bB]
      have:=agi L O hy1 hC J p2 hP;have d:=pz g S;simp only [Row.low,ae,e9] at d;show Sat (ab a T (m.2.1++G.set j _)++_) _;rw [bk,aO,eU hj,eG];rw [qP _ _ (by simp [ab])] at this;have e7:m.2.1.length+j-(ab a T m.2.1).length=j:=by simp [ab]
      rw [e7] at this;simp only [Row.item,ag _ d.1];exact this
     .cases h6
   .cases h
  .cases h
 .cases h
end
section
variable {X : Cx} {R : Type} {r : R} {K : cB R} {T : aB} {fr : Fr} {st : aC} {g : GK} {d : Tmp} {ρ : ay} {Φ : Ctx} {w : World} {ty : TypeId} {pos : String} {af : x3} {gd : vb}
def aab{α:Type}(T:aB)(g:GK)(z:α)(m:Option α)(k:α->Option R):Option R:=match g with
 |none=>m.bind k
 |some _=>bz (T.get g) z m k
theorem Ag{z:α}{m:Option α}{k:α->Option R}(h:aab T g z m k=some r):∃y,(T.get g=true->m=some y)/\k y=some r:=by
 unfold aab at h;split at h
 .obtain ⟨y,b,a⟩:=Ae h;exact ⟨y,λ_=>b,a⟩
 .obtain ⟨y,b,_,a⟩:=SJ h;exact ⟨y,b,a⟩
def apU(T:aB)(g:GK)(st:aC)(d:Tmp)(t:Ty)(l:List t.T)(i:Int)(K:cB R):Option R:=
 aab T g t.oh (idx l i) λx=>K { st with c:=(dA t x (st.c+1)).2.2,E:=cu (some d) g (.adr st.c 0) st.E,G:= .elm g st.c (dA t x (st.c+1)).1::((dA t x (st.c+1)).2.1.map (uA g)++st.G) }
def aqq(T:aB)(g:GK)(st:aC)(d:Tmp)(id ver:Nat)(t:Ty)(l:List t.T)(i:Int)(K:cB R):Option R:=
 aab T g t.oh (idx l i) λx=>K { st with c:=st.c+1,E:=cu (some d) g (.adr st.c 0) st.E,G:= .kn g st.c id ver t i x::st.G }
def ahw(X:Cx)(T:aB)(fr:Fr)(st:aC)(g:GK)(d:Tmp)(t:TypeId)(x y:Operand)(K:cB R):Option R:=match eT X.P t with
 |some e=>(match jS X.P e with
  |some z=>(match br T st.E fr.F g x with
   |some (.sl id)=>(match br T st.E fr.F g y with
    |some (.int _ i)=>(match dH st.G fr.H (lz id) with
     |some (_,.sli g' _ t l _)=>aA ( T.imp g g'&&Nat.beq z.1 t.n' ) ( apU T g st d t l i K ) none
     |some (_,.own _ t _ l ver)=>aA ( Nat.beq z.1 t.n' ) ( aqq T g st d id ver t l i K ) none
     |_=>none)
    |_=>none)
   |_=>none)
  |none=>none)
 |none=>none
theorem afo{t:TypeId}(Q:st.low fr=true)(U:Sat (ab ρ T st.G++(ab ρ T fr.H++Φ)) w)(h:ahw X T fr st g d t x y K=some r):
  KH X.P T g (au ρ T st.E fr.F) ⟨some d,.indexAddr t x y,ty,pos,af,gd⟩ w (aV r K T fr st g (some d) ρ Φ):=by
 unfold ahw at h;split at h
 .rename_i e he;split at h
  .rename_i z hz;obtain ⟨n,bytes,z⟩:=z;split at h
   .rename_i id hx;split at h
    .rename_i k i hy;have I:=aR (ρ:=ρ) hx;have D:=aR (ρ:=ρ) hy;simp only [AV.val] at I D;split at h
     .rename_i s g' m t l b hf;obtain ⟨S,h2⟩:=aI h;simp only [ae] at S;have hn:n=t.rep.n:=(ah S.2).trans t.BS.symm;obtain ⟨L,f2⟩:=bW hf;have:m=id:=ah f2;subst this;obtain ⟨A,V,b2⟩:=Ag h2;have hT:=Src.holds U L
      -- the element, where g holds
      have key:∃(p:Addr) (f:ay),aT st.c ρ f/\(f st.c).a=p/\(T.get g=true->x9 (sl (ρ m).v) i n p)/\
        ∀it∈ab f T (.elm g st.c (dA t A (st.c+1)).1::((dA t A (st.c+1)).2.1.map (uA g))),it.cF=true/\it.P (Ctx.M (ab ρ T st.G++(ab ρ T fr.H++Φ))) w:=by
       cases C:T.get g
       .refine ⟨⟨0,0,none⟩,ρ.set st.c cM,ay.aZ,by rw [ay.bB];rfl,(λh=>by cases h),λit o=>?_⟩;rw [ab,cx] at o;rcases List.mem_cons.1 o with rfl|o
        .exact ⟨rfl,λh=>by rw [C] at h;cases h⟩
        .obtain ⟨r1,J,rfl⟩:=List.mem_map.1 o;obtain ⟨r2,u,rfl⟩:=List.mem_map.1 J;obtain ⟨j1,t1,l1,rfl⟩:=KM _ _ _ _ u;exact tv (λh=>by rw [C] at h;cases h)
       .have hS:=(hT (aB.jy S.1 C)).1;obtain ⟨e1,vs,e2,e3,e4⟩:=hS.atA (V C);obtain ⟨f,O⟩:=FM (T:=T) t A (st.c+1) vs e3 (ρ.set st.c { cM with a:=pH (sl (ρ m).v) i t.rep.n });have R:(f st.c).a=pH (sl (ρ m).v) i t.rep.n:=by rw [O.ag _ (qh _),ay.bB]
        refine ⟨pH (sl (ρ m).v) i t.rep.n,f,ay.aZ.trans O.ag (gy _),R,λ_=>by rw [hn];exact e1,λit o=>?_⟩;rw [ab,cx] at o;rcases List.mem_cons.1 o with rfl|o
        .refine ⟨rfl,λ_=>?_⟩;show ¬Ctx.M _ (f st.c).a.block/\bM w (f st.c).a _;rw [R,O.eq];exact ⟨e4,e2⟩
        .obtain ⟨r1,J,rfl⟩:=List.mem_map.1 o;obtain ⟨r2,u,rfl⟩:=List.mem_map.1 J;have Z:=O.rp _ u;obtain ⟨j1,t1,l1,rfl⟩:=O.rs _ u;exact tv (λ_=>Z)
      obtain ⟨p,f,k1,k2,k3,k4⟩:=key;have Y:=Bq U _ k4;have eG:=bf (T:=T) k1 (aC.cC.1 Q).2.2.1;have q:aV r K T fr st g (some d) ρ Φ (.pointer (some p)) w:=by
       refine aV.new (ρ':=f) Q b2 k1 (cg (gy _) (Mw _ _ _)) rfl (by simp only [AV.val,k2];simp [Addr.add]) ?_;show Sat (ab f T (Row.elm g st.c _::(_++st.G))++_) w;have e8:ab f T (Row.elm g st.c (dA t A (st.c+1)).1::((dA t A (st.c+1)).2.1.map (uA g)++st.G))=ab f T (.elm g st.c (dA t A (st.c+1)).1::((dA t A (st.c+1)).2.1.map (uA g)))++ab f T st.G:=by simp [ab]
       rw [e8,eG,aO];exact Y
      exact ⟨_,λw'=>EN (bV he) (cE hz) I D k3,q⟩
     .rename_i s m t e' l N hf;obtain ⟨S,h2⟩:=aI h;have hn:n=t.rep.n:=(ah S).trans t.BS.symm;obtain ⟨L,f2⟩:=bW hf;have:m=id:=ah f2;subst this;obtain ⟨A,V,b2⟩:=Ag h2;obtain ⟨hO,W⟩:=Src.holds U L;have B:m<st.c/\N<st.c:=by
       have:(Row.own m t e' l N).low st.c=true:=by
        cases s with
        |top j=>exact pz (aC.cC.1 Q).2.2.1 L
        |cm j=>exact pz (aC.cC.1 Q).2.2.2 L
        |_=>exact L.elim
       simpa only [Row.low,ae,e9] using this
      have q:aV r K T fr st g (some d) ρ Φ (.pointer (some (pH (sl (ρ m).v) i t.rep.n))) w:=by refine aV.push (x:={ cM with a:=pH (sl (ρ m).v) i t.rep.n }) Q b2 (by simp only [AV.val,ay.bB];simp [Addr.add]) (U.add rfl ?_);intro C;rw [ay.aZ _ B.1,ay.aZ _ B.2,ay.bB];exact ⟨l,W,V C,rfl⟩
      exact ⟨_,λw'=>EN (bV he) (cE hz) I D (λC=>by rw [hn];exact (hO.atA (V C)).1),q⟩
     .cases h
    .cases h
   .cases h
  .cases h
 .cases h
def UC(X:Cx)(T:aB)(fr:Fr)(st:aC)(g:GK)(d:Tmp)(t:TypeId)(q off:Nat)(K:cB R):Option R:=match dH st.G fr.H (Qs q) with
 |some (_,.kn g' _ id ver u _ x)=>(match dH st.G fr.H (lz id) with
  |some (_,.own _ _ _ _ ver')=>aA ( Nat.beq ver ver'&&T.imp g g' ) ( match jY X.P t ((dA u x st.c).1.drop off) with
   |some v=>K { st with c:=(dA u x st.c).2.2,E:=cu (some d) g v st.E,G:=(dA u x st.c).2.1.map (uA g)++st.G }
   |none=>none ) none
  |_=>none)
 |_=>none
theorem YI{t:TypeId}{q off:Nat}(hl:st.low fr=true)(V:Sat (ab ρ T st.G++(ab ρ T fr.H++Φ)) w)(hx:br T st.E fr.F g x=some (.adr q off))(h:UC X T fr st g d t q off K=some r):
  ∃v,(∀w',Ext w w'->bg X.P (au ρ T st.E fr.F) (T.get g) ⟨some d,.load t x,ty,pos,af,gd⟩ w' v)/\aV r K T fr st g (some d) ρ Φ v w:=by
 unfold UC at h;split at h
 .rename_i s g' q' id N u i k hf;split at h
  .rename_i s2 O u' e l B Y;obtain ⟨h1,Z⟩:=aI h;simp only [ae] at h1;split at Z
   .rename_i v hv;obtain ⟨f1,f2⟩:=bW hf;obtain ⟨f3,f4⟩:=bW Y;have e1:q'=q:=ah f2;have e2:O=id:=ah f4;have e3:N=B:=ah h1.1;subst e1;subst e2;subst e3;have f:=aR (ρ:=ρ) hx;simp only [AV.val] at f;have hF:=Src.holds V f1;obtain ⟨hO,R⟩:=Src.holds V f3;have key:∃(b:ay) (vs:w9),aT st.c ρ b/\AV.ao b (dA u k st.c).1=vs/\(T.get g=true->bM w (ρ q').a vs)/\
      ∀it∈ab b T ((dA u k st.c).2.1.map (uA g)),it.cF=true/\it.P (Ctx.M (ab ρ T st.G++(ab ρ T fr.H++Φ))) w:=by
     cases I:T.get g
     .refine ⟨ρ,_,.refl,rfl,(λh=>by cases h),λit p=>?_⟩;obtain ⟨r1,o,rfl⟩:=List.mem_map.1 p;obtain ⟨r2,j,rfl⟩:=List.mem_map.1 o;obtain ⟨j1,t1,l1,rfl⟩:=KM _ _ _ _ j;exact tv (λh=>by rw [I] at h;cases h)
     .obtain ⟨l0,b1,b2,b3⟩:=hF (aB.jy h1.2 I);obtain ⟨e4,e5⟩:=No b1 R;subst e4;simp only at e5;subst e5;obtain ⟨_,vs,e6,e7⟩:=hO.atA b2;obtain ⟨b,J⟩:=FM (T:=T) u k st.c vs e7 ρ;refine ⟨b,vs,J.ag,J.eq,λ_=>by rw [b3];exact e6,λit p=>?_⟩;obtain ⟨r1,o,rfl⟩:=List.mem_map.1 p;obtain ⟨r2,j,rfl⟩:=List.mem_map.1 o;have W:=J.rp _ j;obtain ⟨j1,t1,l1,rfl⟩:=J.rs _ j;exact tv (λ_=>W)
    obtain ⟨b,vs,k1,k2,k3,k4⟩:=key;have U:=Bq V _ k4;have eG:=bf (T:=T) k1 (aC.cC.1 hl).2.2.1;have C:aV r K T fr st g (some d) ρ Φ (v.val b) w:=by refine aV.new (ρ':=b) hl Z k1 (Mw _ _ _) rfl rfl ?_;show Sat (ab b T (_++st.G)++_) w;rw [bk,eG,aO];exact U
    refine ⟨_,λw' S=>ahm λI=>?_,C⟩;rw [I] at f ⊢;have hc:=(k3 I).ext S;have m:bM w' ((ρ q').a.add off) (AV.ao b ((dA u k st.c).1.drop off)):=by refine hc.sub _ ?_;rw [AV.gC,k2,hW (bb _)]
    have h':jY X.P t (((dA u k st.c).1.drop off).drop 0)=some v:=by simpa using hv
    obtain ⟨dd,n,bytes,z,c1,c2,A⟩:=mm (ρ:=b) h';cases hd:jm dd
    .rw [hd] at A;simp only [oi,qF] at A;refine LW c1 hd f (λ_=>?_);have:=m.sub (us:=[v.val b]) 0 (by
      cases hq:AV.ao b ((dA u k st.c).1.drop off) with
      |nil=>rw [hq] at A;cases A
      |cons a l=>rw [hq] at A;cases A;simp)
     simpa [Addr.add] using this
    .unfold jY at hv;rw [c1] at hv;rcases dq hv with ⟨_,y⟩|⟨y,_⟩
     .split at y
      .rename_i z2 Q;obtain ⟨n2,L,z2⟩:=z2;obtain ⟨h4,h5⟩:=aI y;cases h5;have D:n2<=((dA u k st.c).1.drop off).length:=cj h4;simp only [AV.val];refine Lg c1 hd (cE Q) f (λ_=>?_) ?_
       .have:=m.sub (us:=AV.ao b (((dA u k st.c).1.drop off).take n2)) 0 (by rw [AV.ju,l9,b0,AV.bm,c8 D])
        simpa [Addr.add] using this
       .rw [AV.bm,b0,c8 D]
      .cases y
     .rw [hd] at y;cases y
   .cases Z
  .cases h
 .cases h
theorem akJ{t:TypeId}{q off:Nat}(e:st.low fr=true)(c:Sat (ab ρ T st.G++(ab ρ T fr.H++Φ)) w)(hx:br T st.E fr.F g x=some (.adr q off))(h:UC X T fr st g d t q off K=some r):
  iN X.P T g (au ρ T st.E fr.F) ⟨some d,.load t x,ty,pos,af,gd⟩ w (aV r K T fr st g (some d) ρ Φ):=by
 obtain ⟨v,b,a⟩:=YI (ty:=ty) (pos:=pos) (af:=af) (gd:=gd) e c hx h;refine ⟨λf=>bF.gd (bF.run ?_ a),λ_=>⟨_,a⟩⟩;rw [f] at b;exact b w (Ext.refl w)
end
end Go.Proofs.YtkedhpmpejhekaaGreatDoor
