/- Own texts for TopStores, cut and joined by a program. -/
import Derived.Test.YtdolcddlmodkkaaGreatDoorTopStoresA
import Derived.Lib.AppendZerosOnto
import Derived.Lib.Overlaps
import Derived.Lib.AppendStr
import Derived.Lib.UnsafeStr
import Derived.Lib.Builder
import Derived.Laws.Externs
import Derived.RecoverIn
set_option linter.all false
namespace Go.Proofs.YtdolcddlmodkkaaGreatDoor
open IntKind (u8)
theorem TI.zero{P:Program}{e:TypeId}{size bytes:Nat}{z:Value}(h:TI P e size bytes z)(w:World):(zeroValue e).run P w= .ok z w:=by obtain ⟨i,hi,_,_,a⟩:=h.out;simp [zeroValue,typeInfo,hi,a]
section
variable {α : Type} {A : eB α} {e : TypeId} {M : Nat -> Prop} {w : World} {v : Value} {xs : List α} {R : zC}
theorem bR.avi{j:Int}(h:bR A e M w v xs R)(r:dW 0 j xs.length=true):∃p:gP,VH v 0 j A.n (sl p)/\bR A e M w (sl p) (br xs 0 j) R:=by
 obtain ⟨⟨_,x⟩,d⟩:=y4.1 r;have f:br xs 0 j=xs.take j.toNat:=by simp [br]
 rw [f];rcases h with ⟨rfl,cells,⟨u,t⟩,l⟩|⟨rfl,rfl,⟨a,rfl⟩,s⟩
 .rcases t with ⟨rfl,m⟩|⟨g,off,cap,cur,rfl,q,c,o,k,i⟩
  .have hx:xs=[]:=eb m;subst hx;have b:j=0:=by simp at d;omega
   subst b;exact ⟨(none,0,0),⟨none,0,0,rfl,by omega,by omega,by omega,by omega,rfl⟩,.inl ⟨rfl,iv.nil⟩⟩
  .refine ⟨(some ⟨g,off,none⟩,j.toNat,cap),⟨_,_,cap,rfl,by omega,x,d,c,?_⟩,.inl ⟨rfl,cells.take (j.toNat*A.n),⟨?_,.inr ⟨g,off,cap,cur,by rw [b9,et (by omega)];rfl,q,?_,o,k,?_⟩⟩,l.take _⟩⟩
   .show Value.slice (some ⟨g,off,none⟩) j.toNat cap=_;simp [Addr.add]
   .rw [b9,b9,u];have:j.toNat<=xs.length:=by omega
    rw [et (jy _ this),et this]
   .rw [b9];omega
   .have:j.toNat<=xs.length:=by omega
    rw [b9,et this,<-i,pF,et (jy _ this)]
 .have b:j=0:=by simp at d;omega
  subst b;refine ⟨(a,0,0),⟨a,0,0,rfl,by omega,by omega,by omega,by omega,?_⟩,.inr ⟨rfl,by simp,⟨a,rfl⟩,s⟩⟩;show Value.slice a 0 0=_;simp
theorem bR.avs{i:Int}(k:A.n=1)(h:bR A e M w v xs R)(x:dW i (xs.length:Int) xs.length=true):∃p:gP,VH v i (xs.length:Int) A.n (sl p)/\∃R',(∀b∈R',b∈R)/\bR A e M w (sl p) (br xs i (xs.length:Int)) R':=by
 obtain ⟨⟨o,hi⟩,_⟩:=y4.1 x;have l:br xs i (xs.length:Int)=xs.drop i.toNat:=by unfold br;rw [ei];simp
 rw [l];rcases h with ⟨rfl,cells,⟨C,z⟩,m⟩|⟨rfl,rfl,⟨a,rfl⟩,y⟩
 .rcases z with ⟨rfl,s⟩|⟨g,off,cap,cur,rfl,u,c,B,r,q⟩
  .have hx:xs=[]:=eb s;subst hx;have d:i=0:=by simp at hi;omega
   subst d;exact ⟨(none,0,0),⟨none,0,0,rfl,by omega,by omega,by omega,by omega,rfl⟩,_,λb hb=>hb,.inl ⟨rfl,iv.nil⟩⟩
  .by_cases f:cap=i.toNat
   .refine ⟨(some ⟨g,off,none⟩,0,0),⟨_,_,cap,rfl,o,hi,by omega,c,?_⟩,[],(λb hb=>by cases hb),.inr ⟨rfl,w5 (by omega),⟨_,rfl⟩,bW.emp⟩⟩;rw [cN f];simp only [sl];congr 1 <;> omega
   .have j:(⟨g,off,none⟩:Addr).add (i.toNat*A.n)=⟨g,off+i.toNat*A.n,none⟩:=by unfold Addr.add;split <;> simp_all
    have t:i.toNat*A.n+(cap-i.toNat)*A.n=cap*A.n:=by rw [<-qe];congr 1;omega
    refine ⟨(some ⟨g,off+i.toNat*A.n,none⟩,xs.length-i.toNat,cap-i.toNat),⟨_,_,cap,rfl,o,hi,by omega,c,?_⟩,_,λb hb=>hb,.inl ⟨rfl,cells.drop (i.toNat*A.n),⟨(m.drop _).1,.inr ⟨g,off+i.toNat*A.n,cap-i.toNat,cur,by rw [ec];rfl,u,?_,by omega,⟨by have:=r.1;omega,.inr k⟩,?_⟩⟩,m.drop _⟩⟩
    .rw [cx f];simp [sl,j]
    .rw [ec];omega
    .rw [ec,<-q,qn,n9,Nat.sub_mul]
 .have d:i=0:=by simp at hi;omega
  subst d;refine ⟨(a,0,0),⟨a,0,0,rfl,by omega,by omega,by simp,by omega,?_⟩,[],λb hb=>hb,.inr ⟨rfl,by simp,⟨a,rfl⟩,y⟩⟩;show Value.slice a 0 0=_;simp
end
section
variable {P : Program} {ρ : zt} {Q : bD} {n : Nat} {D : zm} {E : Env} {w : World} {ops : zv} {rest : zz} {Γ : Ctx} {i : Nat}
variable {d : Tmp} {ty : TypeId} {pos : String} {af : zw}
def OL(P:Program)(t:TypeId)(name:String)(f:FuncId)(b:Bool):Prop:=((P.info? t).bind λi=>(i.methods.find? (·.name==name)).map λm=>(m.path.toList,m.func))=some ([],some (f,b))
def Reach(P:Program)(w:World)(t:TypeId)(u:Value)(name:String)(f:FuncId)(v:Value):Prop:= ∀k,(method (k+1) t u name).run P w= .ok (f,v) w
theorem OL.out{t:TypeId}{a:String}{f:FuncId}{b:Bool}(h:OL P t a f b):∃i m,P.info? t=some i/\i.methods.find? (·.name==a)=some m/\m.path.toList=[]/\m.func=some (f,b):=by
 unfold OL at h;cases hi:P.info? t with
 |none=>rw [hi] at h;cases h
 |some i=>
  rw [hi] at h;simp only [q8] at h;cases c:i.methods.find? (·.name==a) with
  |none=>rw [c] at h;cases h
  |some m=>
   rw [c] at h;simp only [mj,cH,p8] at h;exact ⟨i,m,rfl,c,h.1,h.2⟩
theorem Reach.ptr{t e:TypeId}{u:Value}{a:String}{f:FuncId}(h:OL P t a f true)(b:P.underlying t=some (.pointer e)):Reach P w t u a f u:=λk=>by obtain ⟨i,m,hi,c,hp,d⟩:=h.out;unfold method;simp [typeInfo,hi,c,hp,d,follow,receiverAt,run_underlying b,Place.get]
theorem Reach.load{t e:TypeId}{a:Addr}{u:Value}{b:String}{f:FuncId}(h:OL P t b f false)(d:P.underlying t=some (.pointer e))(j:(loadVar e a).run P w= .ok u w):Reach P w t (.pointer (some a)) b f u:=λk=>by
 obtain ⟨i,m,hi,g,hp,l⟩:=h.out;have c:m.path= #[]:=by simpa using hp
 have e:∀s:String,Builtin.ssaWrapNilChk_ #[t] t #[.pointer (some a),strVal "",strVal s]=pure (.pointer (some a)):=λ_=>rfl;unfold method;simp [typeInfo,hi,g,l,c,follow,receiverAt,run_underlying d,Place.get,e,asAddr,j]
theorem apy{g:Bool}{f:FuncId}{r:Operand}{t:TypeId}{u u':Value}{b:String}{vs:zq}{xs:zn}{tys:Array TypeId}{dst:zu}{gd:Option (Nat×Bool)}
  (k:Enters P f) (i:aw E g r (.iface t u)) (j:g=true->Reach P w t u b f u') (c:iQ E g xs vs) {a:Act} (e:Fits n E a) (d:g=true):
  (execOp a.eval ⟨dst,.call ⟨.invoke r b,xs.toArray,tys⟩,ty,pos,af,gd⟩).run P w= .ok (.enter f (u'::vs).toArray) w:=by
 have e1:(Array.map a.eval xs.toArray)=vs.toArray:=by simp [c.map e d]
 have l:=k (u'::vs).toArray w;have h:=j d (P.types.size+99);have e2:P.types.size+99+1=P.types.size+Made.depth:=rfl;rw [e2] at h;have e3:(#[Value.iface t u]++vs.toArray)[0]? =some (Value.iface t u):=by simp
 have o:(#[Value.iface t u]++vs.toArray).extract 1 (#[Value.iface t u]++vs.toArray).size=vs.toArray:=by simp
 have m:(#[u']++vs.toArray)=(u'::vs).toArray:=by simp
 simp only [execOp,resolve,i n a e d,e1,Sem.run_bind,Sem.run_pure,Result.andThen_ok,invoke,e3,o,callMethod,run_program,h,m,l]
end
section
variable {P : Program} {w : World}
theorem Xo{α:Type}{A:eB α}{M:Nat->Prop}(t g e:TypeId)(i:TypeInfo)(z:Value)(V:P.underlying t=some (.slice e))(hi:P.info? e=some i)(T:i.zero=some z)(H:i.size=A.n)
  (s:z.cells.size=A.n) {p:Option Addr} {u:Value} {xs ys:List α} (hx:bW A M w (.slice p xs.length xs.length) xs) (U:bW A M w u ys) (o:ys≠[]) (a:aH (xs.length+ys.length) i.bytes=true):
  ∃v' w',(Builtin.append_ #[t,t] g #[.slice p xs.length xs.length,u]).run P w= .ok v' w'/\Ext w w'/\(∀b∈dV v',b<w'.heap.size/\w.heap.size<=b)/\(∀M',Mv M w M' w'->iv A e M' w' v' (xs++ys)):=by
 by_cases k:xs=[]
 .subst k;rcases vO t g e i z V hi T H s hx U (by simpa using a) with ⟨_,h⟩|h
  .exact absurd h o
  .simpa using h
 simp only [aH,ah] at a;have O:=dk a.1;have N:=dk a.2;have hlx:0<xs.length:=List.length_pos_iff.2 k;have hly:0<ys.length:=List.length_pos_iff.2 o;rcases hx with ⟨⟨a0,R⟩,Q⟩|⟨b,off,cap,cs,e',fr,R,hMb,hb,hc,Z,q⟩
 .exact absurd Q k
 rcases U with ⟨_,Q⟩|⟨Y,f,C,S,e2,fr2,rfl,X,B,hc2,W,d⟩
 .exact absurd Q o
 simp only [Value.slice.injEq] at R;obtain ⟨rfl,_,y⟩:=R;subst y;have c:∀{b off cap:Nat} {cs:zp} {e':TypeId} {fr:Nat×Nat} {l:List α},w.heap[b]? =some (.cells cs e' fr)->∀j x,((cs.toList.drop off).take (l.length*A.n))[j]? =some x->w.cell? ((⟨b,off,none⟩:Addr).add j)=some x:=by
  intro b off cap cs e' fr l hb j x r;have key:bT w ⟨b,off,none⟩ ((cs.toList.drop off).take (l.length*A.n)):=⟨rfl,cs,e',fr,hb,λj u r=>by
   rw [mo] at r;split at r
   .simpa [lk] using r
   .cases r⟩
  exact key.cell r
 generalize K:(cs.toList.drop off).take (xs.length*A.n)=E at q;generalize J:(S.toList.drop f).take (ys.length*A.n)=D at d;have G:∀j x,E[j]? =some x->w.cell? ((⟨b,off,none⟩:Addr).add j)=some x:=by rw [<-K];exact c (cap:=0) hb
 have F:∀j x,D[j]? =some x->w.cell? ((⟨Y,f,none⟩:Addr).add j)=some x:=by rw [<-J];exact c (cap:=0) B
 have I:=grownCap_ge w (xs.length+ys.length) xs.length e;have L:grownCap w (xs.length+ys.length) xs.length e<=maxLen:=grownCap_le_maxLen w _ _ e (by simpa [maxLen] using N);have v:=run_append_grow (P:=P) w t g e i z V hi T ⟨b,off,none⟩ xs.length xs.length E (by rw [H];exact q.1) G ⟨Y,f,none⟩ ys.length C D (by rw [H];exact d.1) F (by omega) (by omega) (growslice_fits (by omega) O);refine ⟨_,_,v,⟨rfl,rfl,rfl,by simp,λb hb=>heap_alloc_old w.drew _ hb⟩,λb hb=>?_,λM' m=>⟨E++D,?_,(q.append d).mv m⟩⟩
 .have:b=w.heap.size:=by simpa [dV,Value.ownBlock] using hb
  subst this;exact ⟨by simp,b7 _⟩
 .refine .of (b:=0) ⟨by rw [cO,q.1,d.1,cO,qe],.inr ⟨w.heap.size,_,_,by rw [cO],qf _,heap_alloc_new w.drew _,by rw [cO];exact I,L,?_,?_⟩⟩
  .simp only [qJ,n7,size_zeroCells,s,q.1,d.1,<-qe];congr 1;omega
  .have hl:(E++D).length=(xs++ys).length*A.n:=by rw [cO,q.1,d.1,cO,qe]
   rw [<-hl];simp only [s3];exact v7
end
section
variable {P : Program} {ρ : zt} {Q : bD} {n : Nat} {D : zm} {E : Env} {w : World} {ops : zv} {rest : zz} {Γ : Ctx}
variable {d : Tmp} {ty : TypeId} {pos : String} {af : zw}
theorem bW.arK{α:Type}{A:eB α}{M:Nat->Prop}{v:Value}{xs:List α}{i j:Int}(h:bW A M w v xs)(o:jT i j j xs.length=true):
  ∃p:Option Addr,Qx v i j j A.n (sl (p,(br xs i j).length,(br xs i j).length))/\bW A M w (sl (p,(br xs i j).length,(br xs i j).length)) (br xs i j):=by
 obtain ⟨p,b,a⟩:=bW.avo (g:=true) (λ_=>h) (λ_=>o);have b:=b rfl;have a:=a rfl;obtain ⟨r,len,cap,m,y,x,u,t,s,e⟩:=b;obtain ⟨l,pl,k⟩:=p;simp only [sl,Value.slice.injEq] at e;obtain ⟨e1,e2,e3⟩:=e;obtain ⟨z,f,d⟩:=a.len;simp only [sl,Value.slice.injEq] at d;have c:pl=(br xs i j).length:=d.2.1;have q:k=(br xs i j).length:=by rw [e3,<-c,e2]
 subst q;rw [c] at a;refine ⟨l,⟨r,len,cap,m,y,x,u,t,s,?_⟩,a⟩;simp only [sl,Value.slice.injEq];exact ⟨e1,by rw [<-c];exact e2,e3⟩
end
section
variable {P : Program} {ρ : zt} {Q : bD} {n : Nat} {D : zm} {E : Env} {w : World} {ops : zv} {rest : zz} {Γ : Ctx} {g : Bool}
variable {d d2 : Tmp} {ty ty2 : TypeId} {pos pos2 : String} {af af2 : zw}
end
section
variable {P : Program} {ρ : zt} {Q : bD} {n : Nat} {D : zm} {E : Env} {w : World} {ops : zv} {rest : zz} {Γ : Ctx}
variable {ty : TypeId} {pos : String} {af : zw}
end
variable {α : Type} {A : eB α} {R : zC} {b : Nat} {e : TypeId} {v : Value} {vs : zq} {x : Operand} {z : Value}
def kE{α:Type}(xs:List α)(i:Int)(ys:List α):List α:=xs.take i.toNat++ys++xs.drop i.toNat
def BY(i:Int)(n:Nat):Bool:=decide (0<=i)&&decide (i<=n)
theorem afn{i:Int}{n:Nat}:BY i n=true↔0<=i/\i<=n:=by simp [BY]
section
variable {P : Program} {E : Env} {w : World} {g : Bool}
variable {dst : zu} {ty : TypeId} {pos : String} {af : zw} {gd : zg}
theorem uQ{t ty e k bytes:Nat}(h:P.underlying t=some (.slice e))(f:TI P e k bytes z){b o dl dc:Nat}{cur:zp}{e':TypeId}{a:Addr}{ls sc:Nat}{cs:zq}
  (m:cs.length=Nat.min ls dl*k) (c:∀j v,cs[j]? =some v->w.cell? (a.add j)=some v) (n:w.heap[b]? =some (.cells cur e' (0,0))) (d:o+cs.length<=cur.size) (p:∀v∈cs,v.oneCell'=true):
  (Builtin.copy_ #[t,t] ty #[.slice (some ⟨b,o,none⟩) dl dc,.slice (some a) ls sc]).run P w= .ok (goInt (Nat.min ls dl)) (w.setRow b (cur.toList.take o++cs++cur.toList.drop (o+cs.length)).toArray):=by
 obtain ⟨i,hi,l,_,_⟩:=f.out;have g:=run_loadCells_list (P:=P) w a cs c;rw [m] at g;have tT:=run_storeCells_at (P:=P) b o e' cs 0 cur w n (by simpa using d) p;simp only [qu] at tT;simp [Builtin.copy_,run_underlying h,sizeOf,typeInfo,hi,l,Builtin.lenOf,Builtin.firstCells,g,tT]
theorem abw{a:Option Addr}{n c:Nat}{t:TypeId}(b:P.underlying t=some (.slice e))(hx:aw E g x (.slice a n c)):
  bk P E g ⟨dst,.call ⟨.builtin .cap,#[x],#[t]⟩,ty,pos,af,gd⟩ w (.int .i64 c):=λn' h f d=>by
 simp [execOp,resolve,invoke,builtin,hx n' h f d,Builtin.cap_,run_underlying b,goInt]
theorem oN{x y:Operand}{b o n c i k bytes:Nat}{d:IntKind}{z:Value}{t e:TypeId}(h:P.underlying t=some (.slice e))(a:TI P e k bytes z)(hx:aw E g x (.slice (some ⟨b,o,none⟩) n c))(f:aw E g y (.int d (i:Int)))
  (m:i<=n) (j:n<=c) (l:i<c):bk P E g ⟨dst,.slice t x (some y) none none,ty,pos,af,gd⟩ w (.slice (some ⟨b,o+i*k,none⟩) (n-i) (c-i)):=by
 refine G4 (lo:=some y) (hi:=none) h a hx (λ_=>⟨_,_,rfl⟩) ⟨_,f⟩ rfl (λ_=>⟨_,_,_,rfl,by omega,by omega,Int.le_refl _,j,?_⟩);have e1:(i:Int).toNat=i:=by omega
 have e2:((n:Nat):Int).toNat=n:=by omega
 rw [e1,e2,cx (by omega)];simp [Addr.add]
theorem afN{x y:Operand}{a:Option Addr}{n c j k bytes:Nat}{m:IntKind}{z:Value}{t e:TypeId}(l:P.underlying t=some (.slice e))(h:TI P e k bytes z)(hx:aw E g x (.slice a n c))(i:aw E g y (.int m (j:Int)))
  (q:j<=c):bk P E g ⟨dst,.slice t x none (some y) none,ty,pos,af,gd⟩ w (.slice a j c):=by
 obtain ⟨r,hi,s,_,_⟩:=h.out;intro n' f d b;have e1:((j:Nat):Int).toNat=j:=by omega
 by_cases p:c=0
 .subst p;have o:j=0:=by omega
  subst o;simp [execOp,hx n' f d b,i n' f d b,Instr.sliceAt,Instr.slice,Instr.sliceBounds,Instr.sliceBound,asIntOf,run_underlying l,sizeOf,typeInfo,hi]
 .cases a <;> simp [execOp,hx n' f d b,i n' f d b,Instr.sliceAt,Instr.slice,Instr.sliceBounds,Instr.sliceBound,asIntOf,run_underlying l,sizeOf,typeInfo,hi,q,Addr.add]
theorem akZ{f:FuncId}{xs:zn}{tys:Array TypeId}(a:iQ E g xs vs)(d:(callFunc f vs.toArray).run P w= .ok (.value v) w):
  bk P E g ⟨dst,.call ⟨.value (.func f),xs.toArray,tys⟩,ty,pos,af,gd⟩ w v:=λn' e c b=>by
 have e1:(Array.map e.eval xs.toArray)=vs.toArray:=by simp [a.map c b]
 simp only [execOp,resolve,Act.eval,Deferred.ofValue,e1,Sem.run_bind,Sem.run_pure,Result.andThen_ok,invoke];simpa using d
theorem Ua{y:Operand}{t t':TypeId}{u r:Value}{w':World}(hx:aw E true x u)(c:aw E true y v)(d:(Builtin.append_ #[t,t'] ty #[u,v]).run P w= .ok r w'):
  ny P E ⟨dst,.call ⟨.builtin .append,#[x,y],#[t,t']⟩,ty,pos,af,gd⟩ w r w':=λn a b=>by simp [execOp,resolve,invoke,builtin,hx n a b rfl,c n a b rfl,d]
theorem A6{y:Operand}{t t':TypeId}{u r:Value}{w':World}(hx:aw E true x u)(c:aw E true y v)(d:(Builtin.copy_ #[t,t'] ty #[u,v]).run P w= .ok r w'):
  ny P E ⟨dst,.call ⟨.builtin .copy,#[x,y],#[t,t']⟩,ty,pos,af,gd⟩ w r w':=λn a b=>by simp [execOp,resolve,invoke,builtin,hx n a b rfl,c n a b rfl,d]
end
section
variable {w : World}
theorem cell_of_heap{cur:zp}{fr:Nat×Nat}(hb:w.heap[b]? =some (.cells cur e fr))(o:Nat)(l:zq)(c:l=(cur.toList.drop o).take l.length):∀j v,l[j]? =some v->w.cell? ((⟨b,o,none⟩:Addr).add j)=some v:=by
 intro j v a;have key:bT w ⟨b,o,none⟩ l:=⟨rfl,cur,e,fr,hb,λj u a=>by
  rw [c,mo] at a;split at a
  .simpa [lk] using a
  .cases a⟩
 exact key.cell a
theorem kP.trans{C:zC}{a b c:World}(h:kP C a b)(k:kP C b c):kP C a c:=⟨k.os.trans h.os,k.tape.trans h.tape,k.output.trans h.output,c9 h.size k.size,λi hi d=>(k.block i (gr hi h.size) d).trans (h.block i hi d)⟩
theorem xN(b:Nat)(row:zp):kP [b] w (w.setRow b row):=⟨rfl,rfl,rfl,by simp,λc _ a=>setRow_other w b c _ (by simpa using a)⟩
theorem an6{l:zq}{a n c:Nat}(h:a<=n)(hb:vs.length=b)(m:n+b<=c)(k:l.length=c):
  let d:=l.take (a+b)++(l.drop a).take (n-a)++l.drop (a+b+((l.drop a).take (n-a)).length);let e:=d.take a++vs++d.drop (a+vs.length)
  d.length=c/\e.length=c/\e.take (n+b)=(l.take n).take a++vs++(l.take n).drop a:=by
 intro d e;have j:((l.drop a).take (n-a)).length=n-a:=by rw [b9,ec];omega
 have f:d.length=c:=by simp only [d,cO,b9,ec,j];omega
 have i:e.length=c:=by simp only [e,cO,b9,ec,f];omega
 refine ⟨f,i,?_⟩;have t1:d.take a=(l.take n).take a:=by simp only [d];rw [b0,p5 (by rw [b9];omega),pF,pF,et (by omega),et h]
 have t2:(d.drop (a+vs.length)).take (n-a)=(l.take n).drop a:=by simp only [d];rw [b0,rJ,hb];rw [mE (by rw [b9];omega),qs,b9,et (by omega),vb,qa,p5 (by omega),ei (by omega),qn]
 simp only [e];rw [t1];have g:((l.take n).take a++vs).length=a+b:=by rw [cO,b9,b9];omega
 rw [q9,ei (by omega),g,show n+b-(a+b)=n-a by omega,t2]
theorem apn{l z:zq}{a n:Nat}(m:a<=n)(hb:vs.length=b)(h:l.length=n)(k:n+b<=a+z.length):
  let c:=l.take a++z;let d:=c.take a++vs++c.drop (a+vs.length);let e:=d.take (a+b)++l.drop a++d.drop (a+b+(l.drop a).length)
  d.length=c.length/\e.length=c.length/\e.take (n+b)=l.take a++vs++l.drop a:=by
 intro c d e;have o:c.length=a+z.length:=by simp only [c,cO,b9];omega
 have f:(l.drop a).length=n-a:=by rw [ec,h]
 have j:d.length=c.length:=by simp only [d,cO,b9,ec];omega
 have i:e.length=c.length:=by simp only [e,cO,b9,f,ec];omega
 refine ⟨j,i,?_⟩;have g:c.take a=l.take a:=by simp only [c];rw [p5 (by rw [b9];omega),pF,Nat.min_self]
 have t1:d.take (a+b)=l.take a++vs:=by
  simp only [d];rw [g];have:(l.take a++vs).length=a+b:=by rw [cO,b9];omega
  rw [p5 (by omega),ei (by omega)]
 simp only [e];rw [t1];have:(l.take a++vs++l.drop a).length=n+b:=by rw [cO,cO,b9,f];omega
 rw [p5 (by omega),ei (by omega)]
end
section
variable {P : Program} {w : World}
theorem aml{M:Nat->Prop}{u:Value}{t ty:TypeId}{bytes:Nat}(r:P.underlying t=some (.slice e))(j:TI P e A.n bytes z)
  (c:z.cells.size=A.n) (h:0<A.n) {xs ys:List α} (k:bR A e M w v xs R) (d:bW A M w u ys) (B:∀b∈R,M b) (a:aH (xs.length+ys.length) bytes=true):
  ∃v' R' w',(Builtin.append_ #[t,t] ty #[v,u]).run P w= .ok v' w'/\kP R w w'/\(∀b∈R',b<w'.heap.size/\(b∈R\/w.heap.size<=b))/\∀M',Mv M w M' w'->bR A e M' w' v' (xs++ys) R':=by
 obtain ⟨p,i,s,l,q⟩:=j.out;subst l;rcases k with ⟨rfl,k⟩|⟨rfl,rfl,⟨a0,rfl⟩,f⟩
 .obtain ⟨v',w',g,D,y,o⟩:=JX t ty e p z r i q s c k d B a h;exact ⟨v',dV v',w',g,D,y,λM' m=>bR.of (o M' m)⟩
 .rcases vO t ty e p z r i q s c f d (by simpa using a) with ⟨g,rfl⟩|⟨v',w',g,C,x,o⟩
  .exact ⟨_,[],w,g,(Ext.refl w).uP _,(λb hb=>by cases hb),λM' m=>bR.empty (f.mv m)⟩
  .exact ⟨v',dV v',w',g,C.uP _,(λb hb=>⟨(x b hb).1,.inr (x b hb).2⟩),λM' m=>bR.of (by simpa using o M' m)⟩
theorem bR.shape{M:Nat->Prop}{xs:List α}(h:bR A e M w v xs R):∃p c,v= .slice p xs.length c/\xs.length<=c:=by
 rcases h with ⟨_,cells,⟨_,d⟩,_⟩|⟨_,rfl,⟨a,rfl⟩,_⟩
 .rcases d with ⟨rfl,f⟩|⟨g,off,cap,cur,rfl,_,b,_⟩
  .exact ⟨none,0,by rw [f],by omega⟩
  .exact ⟨_,_,rfl,b⟩
 .exact ⟨a,0,rfl,b7 _⟩
theorem bR.row{M:Nat->Prop}{xs:List α}(h:bR A e M w v xs R)(hx:xs≠[]):
  ∃b off c cur,v= .slice (some ⟨b,off,none⟩) xs.length c/\R=[b]/\w.heap[b]? =some (.cells cur e (0,0))/\xs.length<=c/\c<=maxLen/\(off+c*A.n=cur.size/\(off=0\/A.n=1))/\db A M w ((cur.toList.drop off).take (xs.length*A.n)) xs:=by
 rcases h with ⟨l,cells,⟨_,m⟩,f⟩|⟨_,h,_⟩
 .rcases m with ⟨_,o⟩|⟨g,off,cap,cur,rfl,j,k,i,d,a⟩
  .exact absurd (eb o) hx
  .exact ⟨g,off,cap,cur,rfl,by rw [l];rfl,j,k,i,d,by rw [a];exact f⟩
 .exact absurd h hx
theorem bR.mk_{M:Nat->Prop}{xs:List α}{off c:Nat}{cur:zp}(g:w.heap[b]? =some (.cells cur e (0,0)))(h:xs.length<=c)(f:c<=maxLen)(d:off+c*A.n=cur.size/\(off=0\/A.n=1))(a:db A M w ((cur.toList.drop off).take (xs.length*A.n)) xs):
  bR A e M w (.slice (some ⟨b,off,none⟩) xs.length c) xs [b]:= .inl ⟨rfl,_,⟨a.1,.inr ⟨b,off,c,cur,rfl,g,h,f,d,rfl⟩⟩,a⟩
theorem bR.auR{M:Nat->Prop}{xs:List α}(h:bR A e M w v xs R)(l:A.n≠1)(hx:xs≠[]):
  ∃b c cur,v= .slice (some ⟨b,0,none⟩) xs.length c/\R=[b]/\w.heap[b]? =some (.cells cur e (0,0))/\xs.length<=c/\c<=maxLen/\cur.size=c*A.n/\db A M w (cur.toList.take (xs.length*A.n)) xs:=by
 obtain ⟨b,off,c,cur,d,k,i,j,g,a,f⟩:=h.row hx;have m:off=0:=a.2.resolve_right l;subst m;exact ⟨b,c,cur,d,k,i,j,g,by have:=a.1;omega,by simpa using f⟩
theorem bR.mk0{M:Nat->Prop}{xs:List α}{c:Nat}{cur:zp}(f:w.heap[b]? =some (.cells cur e (0,0)))(g:xs.length<=c)(d:c<=maxLen)(h:cur.size=c*A.n)(a:db A M w (cur.toList.take (xs.length*A.n)) xs):
  bR A e M w (.slice (some ⟨b,0,none⟩) xs.length c) xs [b]:=bR.mk_ f g d ⟨by omega,.inl rfl⟩ (by simpa using a)
theorem aqj{α:Type}{xs ys:List α}{i:Nat}(h:i<=xs.length):(kE xs (i:Int) ys).length=xs.length+ys.length:=by unfold kE;simp only [cO,b9,ec,e9];omega
theorem aoR{xs ys:List α}:kE xs (xs.length:Int) ys=xs++ys:=by unfold kE;simp
theorem ajw{α:Type}{A:eB α}{M:Nat->Prop}{a b:zq}{xs ys:List α}{i:Nat}(hx:db A M w a xs)(c:db A M w b ys):db A M w (a.take (i*A.n)++b++a.drop (i*A.n)) (kE xs (i:Int) ys):=by unfold kE;rw [e9];exact ((hx.take i).append c).append (hx.drop i)
end
variable {E' : Env} {ps : Array Tmp} {r : LoopState -> Option Code -> Loop}
def vQ(b:Nat)(o:Obj):Item where
 own:=[b]
 P _ w:=w.heap[b]? =some o
 lt h c hc:=by
  have:c=b:=by simpa using hc
  subst this;exact (Array.getElem?_eq_some_iff.1 h).1
 cE h _ k _:=(k b (by simp)).trans h
 cV:=false
 hp h:=by cases h
def pack{γ:Type}(Γ:γ->Ctx)(R:zC):Item where
 own:=R
 P M w:=(∀b∈R,b<w.heap.size)/\∃g,(∀b,(Γ g).M b↔b∈R)/\(∀it,it∈Γ g->it.P M w)/\
  (∀(i j:Nat) (it jt:Item),(Γ g)[i]? =some it->(Γ g)[j]? =some jt->i≠j->∀b,b∈it.own->b∉jt.own)
 lt h:=h.1
 cE {M M' w w'} h m k e:=by obtain ⟨h1,g,h2,h3,h4⟩:=h;exact ⟨λb hb=>gr (h1 b hb) m.1,g,h2,λit hi=>it.cE (h3 it hi) m (λb hb=>k b ((h2 b).1 ⟨it,hi,hb⟩)) e,h4⟩
 cV:=false
 hp h:=by cases h
structure Rec(n:Nat)(E:Env)(ps:Array Tmp)(assign body:Code)(b:Nat)(r:LoopState->Option Code->Loop):Prop where
 ex:∃fn tmps,Fits n E { tmps:=tmps,defers:=[] }/\r=λst pe=>{ state:=st,pending:=pe,fn,tmps,params:=ps,assign,body,defers:=b }
abbrev dX(l:Nat)(r:LoopState->Option Code->Loop)(st:LoopState)(pe:Option Code):Item:=vQ l (.loop (r st pe))
def mk(ds:zC):zm:=ds.map λb=>{ target:= .collected b,args:= #[] }
def eN(ds:zC):Item where
 own:=ds
 P _ w:=ds.Nodup/\∀b∈ds,w.heap[b]? =some (.deferred (some []))
 lt h b hb:=(Array.getElem?_eq_some_iff.1 (h.2 b hb)).1
 cE h _ k _:=⟨h.1,λb hb=>(k b hb).trans (h.2 b hb)⟩
 cV:=false
 hp h:=by cases h
section
variable {P : Program} {n : Nat} {D : zm} {E : Env} {w : World} {Γ : Ctx} {Q : bD}
theorem Sat.asV(a:Sat Γ w):Sat (eN []::Γ) w:=a.push (Ext.refl w) (λb hb=>by cases hb) (λ_ _=>⟨qN,λb hb=>by cases hb⟩)
theorem Sat.Sq{b:Nat}{ds:zC}(f:Sat (vQ b (.deferred (some []))::eN ds::Γ) w):Sat (eN (b::ds)::Γ) w:=by
 have o:w.heap[b]? =some (.deferred (some [])):=f.at_ (i:=0) rfl;have l:ds.Nodup/\∀b∈ds,w.heap[b]? =some (.deferred (some [])):=f.at_ (i:=1) rfl;have n:b∉ds:=f.sep 0 1 _ _ rfl rfl (by omega) b (by simp [vQ]);have m:∀c,Ctx.M (vQ b (.deferred (some []))::eN ds::Γ) c↔Ctx.M (eN (b::ds)::Γ) c:=λc=>by
  simp only [Ctx.EY,vQ,eN,pa,xc,or_false];constructor
  .rintro (h|h|h)
   .exact .inl (.inl h)
   .exact .inl (.inr h)
   .exact .inr h
  .rintro ((h|h)|h)
   .exact .inl h
   .exact .inr (.inl h)
   .exact .inr (.inr h)
 have mv:Mv (Ctx.M (vQ b (.deferred (some []))::eN ds::Γ)) w (Ctx.M (eN (b::ds)::Γ)) w:=Mv.weaken w (λc a=>(m c).2 a);have d:∀(j:Nat) (jt:Item) (c:Nat),Γ[j]? =some jt->c∈b::ds->c∉jt.own:=λj jt c e a=>by
  rcases List.mem_cons.1 a with rfl|a
  .exact f.sep 0 (j+2) _ jt rfl (by simpa using e) (by omega) c (by simp [vQ])
  .exact f.sep 1 (j+2) _ jt rfl (by simpa using e) (by omega) c a
 refine ⟨λit hi=>?_,λi j it jt hi e k c a g=>?_⟩
 .rcases List.mem_cons.1 hi with rfl|hi
  .refine ⟨List.nodup_cons.2 ⟨n,l.1⟩,λc a=>?_⟩;rcases List.mem_cons.1 a with rfl|a
   .exact o
   .exact l.2 c a
  .exact it.cE (f.all it (cb _ (cb _ hi))) mv (λ_ _=>rfl) (hU.refl w)
 .cases i with
  |zero=>
   simp only [gy,cH] at hi;subst hi;cases j with
   |zero=>exact k rfl
   |succ j=>simp only [c8] at e;exact d j jt c e a g
  |succ i=>
   simp only [c8] at hi;cases j with
   |zero=>
    simp only [gy,cH] at e;subst e;exact d i it c hi g a
   |succ j=>
    simp only [c8] at e;exact f.sep (i+2) (j+2) it jt (by simpa using hi) (by simpa using e) (by omega) c a g
theorem Sat.putObj{i b:Nat}{o d:Obj}(g:Sat Γ w)(hi:Γ[i]? =some (vQ b o)):Sat (Γ.set i (vQ b d)) (w.putObj b d):=by
 have hb:w.heap[b]? =some o:=g.at_ hi;have a:=(Array.getElem?_eq_some_iff.1 hb).1;have f:(w.putObj b d).heap[b]? =some d:=World.putObj_heap_same a;refine g.iP hi ⟨rfl,rfl,rfl,by simp,λc _ e=>World.putObj_heap_other (by simpa [vQ] using e)⟩ (λc h=>?_) (λ_ _ _=>f);have:c=b:=by simpa [vQ] using h
 subst this;exact ⟨by simpa using a,.inl (by simp [vQ])⟩
def lW(P:Program)(ρ:zt)(l n:Nat)(D:zm)(Q:bD)(E:Env)(_v:Value)(w:World):Prop:=
 ∃j w',(Instr.endLoop l).run P w= .ok j w'/\match j with
  |none=>At Q .normal n D E w'
  |some c=>WC P ρ c Q n D E w'
theorem lW.go{l:Nat}{assign body:Code}(c:Rec n E' ps assign body b r)(a:Sat (dX l r .ready none::Γ) w)
  (h:∀w',Sat Γ w'->At Q .normal n D E w'):lW P none l n D Q E v w:=by
 obtain ⟨fn,tmps,_,rfl⟩:=c.ex;have d:w.heap[l]? =some _:=a.at_ (i:=0) rfl;refine ⟨_,_,run_endLoop d (by simp),?_⟩;refine h _ ((a.putObj (i:=0) rfl).re 1 [] rfl)
theorem lW.jump{l:Nat}{assign body:Code}{c:Code}(d:Rec n E' ps assign body b r)(a:Sat (dX l r .done (some c)::Γ) w)
  (h:∀w',Sat Γ w'->WC P none c Q n D E w'):lW P none l n D Q E v w:=by
 obtain ⟨fn,tmps,_,rfl⟩:=d.ex;have e:w.heap[l]? =some _:=a.at_ (i:=0) rfl;refine ⟨_,_,run_endLoop e (by simp),?_⟩;exact h _ ((a.putObj (i:=0) rfl).re 1 [] rfl)
def Yld(P:Program)(l:Nat)(vs:zq)(w:World)(S:Value->World->Prop):Prop:=
 ∃fn tmps assign body,(Instr.yield l vs.toArray).run P w= .ok (.round l fn tmps assign body) w/\RoundIn (FW none) 0 P l fn tmps assign body w (RE S (λ_ _=>False))
def agW:List Tmp->zq->Env->Env
 |p::ps,v::vs,E=>agW ps vs ((p,true,v)::E)
 |_,_,E=>E
theorem agh:∀(ps:List Tmp) (vs:zq) {E:Env} {tmps:zp},ps.all (λp=>Nat.blt p n)=true->Fits n E { tmps:=tmps,defers:=[] }->
  Fits n (agW ps vs E) { tmps:=(ps.zip vs).foldl (λt (p,v)=>t.setIfInBounds p v) tmps,defers:=[] }
 |[],_,_,_,_,h=>h
 |_::_,[],_,_,_,h=>h
 |p::ps,v::vs,E,tmps,hp,h=>by simp only [qX,ah] at hp;have:=h.put (g:=true) (v:=v) hp.1;exact agh ps vs hp.2 this
def anF(P:Program)(l:Nat)(body:Code)(Q:bD):Act->World->Prop:=λa w=>∃w',(Instr.beginRound l).run P w= .ok () w'/\body.wpIn (FW (some l)) 0 P Q a w'
theorem atX{l:Nat}{ps:List Tmp}{assign body:Code}{S:Value->World->Prop}
  (g:Rec n E ps.toArray assign body b r) (f:Sat (dX l r .ready none::Γ) w) (j:Nat.beq vs.length ps.length=true) (hp:ps.all (λp=>Nat.blt p n)=true)
  (h:WC P (some l) assign (Exit.then (anF P l body (roundPost P l (RE S (λ_ _=>False)))) (λ_ _ _=>False)) n [] (agW ps vs E) w):Yld P l vs w S:=by
 obtain ⟨fn,tmps,k,rfl⟩:=g.ex;have m:w.heap[l]? =some _:=f.at_ (i:=0) rfl;have c:vs.length=ps.length:=ai j;refine ⟨fn,_,assign,body,run_yield m (by simp [c]),roundIn_of_wpIn trivial ?_⟩;have d:=agh ps vs hp k;have e:((ps.toArray.zip vs.toArray).foldl (λtmps (t,a)=>tmps.setIfInBounds t a) tmps)=((ps.zip vs).foldl (λt (p,v)=>t.setIfInBounds p v) tmps):=by simp
 have:=h _ d rfl;rw [<-e] at this;exact this
theorem ap7{l i:Nat}{assign body:Code}(d:Rec n E' ps assign body b r)(c:Sat Γ w)(hi:Γ[i]? =some (dX l r .ready none))
  (h:∀w',Sat (Γ.set i (dX l r .busy none)) w'->WC P (some l) body Q n D E w'):At (Exit.then (anF P l body Q) (λ_ _ _=>False)) .normal n D E w:=λa e f=>by
 obtain ⟨fn,tmps,_,rfl⟩:=d.ex;have g:w.heap[l]? =some _:=c.at_ hi;exact ⟨_,run_beginRound g rfl,h _ (c.putObj hi) a e f⟩
theorem aoy{l i:Nat}{assign body:Code}{S:Value->World->Prop}{Sp:zj->World->Prop}(d:Rec n E' ps assign body b r)(c:Sat Γ w)(hi:Γ[i]? =some (dX l r .busy none))
  (h:∀w',Sat (Γ.set i (dX l r .ready none)) w'->S (.bool true) w'):At (roundPost P l (RE S Sp)) .normal n D E w:=λa f g=>by
 obtain ⟨fn,tmps,_,rfl⟩:=d.ex;have e:w.heap[l]? =some _:=c.at_ hi;exact ⟨_,_,run_endRound none e,h _ (c.putObj hi)⟩
theorem afF{l i:Nat}{assign body:Code}{S:Value->World->Prop}{Sp:zj->World->Prop}(d:Rec n E' ps assign body b r)(c:Sat Γ w)(hi:Γ[i]? =some (dX l r .busy none))
  (h:∀w',Sat (Γ.set i (dX l r .done (some .ret))) w'->S (.bool false) w'):At (roundPost P l (RE S Sp)) .ret n D E w:=λa f g=>by
 obtain ⟨fn,tmps,_,rfl⟩:=d.ex;have e:w.heap[l]? =some _:=c.at_ hi;exact ⟨_,_,run_endRound (some .ret) e,h _ (c.putObj hi)⟩
theorem acY{l i k:Nat}{assign body:Code}{S:Value->World->Prop}{Sp:zj->World->Prop}(d:Rec n E' ps assign body b r)(c:Sat Γ w)(hi:Γ[i]? =some (dX l r .busy none))
  (h:∀w',Sat (Γ.set i (dX l r .done (some (.exit k)))) w'->S (.bool false) w'):At (roundPost P l (RE S Sp)) (.exit k) n D E w:=λa f g=>by
 obtain ⟨fn,tmps,_,rfl⟩:=d.ex;have e:w.heap[l]? =some _:=c.at_ hi;exact ⟨_,_,run_endRound (some (.exit k)) e,h _ (c.putObj hi)⟩
theorem acq{l i k:Nat}{assign body:Code}{S:Value->World->Prop}{Sp:zj->World->Prop}(d:Rec n E' ps assign body b r)(c:Sat Γ w)(hi:Γ[i]? =some (dX l r .busy none))
  (h:∀w',Sat (Γ.set i (dX l r .done (some (.goto k)))) w'->S (.bool false) w'):At (roundPost P l (RE S Sp)) (.goto k) n D E w:=λa f g=>by
 obtain ⟨fn,tmps,_,rfl⟩:=d.ex;have e:w.heap[l]? =some _:=c.at_ hi;exact ⟨_,_,run_endRound (some (.goto k)) e,h _ (c.putObj hi)⟩
end
section
variable {P : Program} {ρ : zt} {Q : bD} {n : Nat} {D : zm} {E : Env} {w : World} {ops : zv} {rest : zz} {Γ : Ctx}
theorem apY{l:Nat}{fo:Operand}{xs:zn}{tys:Array TypeId}{d:Tmp}{ty:TypeId}{pos:String}{af:zw}{S:Value->World->Prop}
  (f:aw E true fo (.func (.yield l) #[] #[])) (b:iQ E true xs vs) (k:Nat.blt d n=true) (j:Yld P l vs w S)
  (h:∀v w',S v w'->WL P ρ ops Q n D rest ((d,true,v)::E) w'):WL P ρ ops Q n D (⟨some d,.call ⟨.value fo,xs.toArray,tys⟩,ty,pos,af,none⟩::rest) E w:=λa g o=>
 wpListIn_plain rfl λK m=>lY rfl (by
  obtain ⟨fn,tmps,assign,body,q,p⟩:=j;have e1:(Array.map a.eval xs.toArray)=vs.toArray:=by simp [b.map g rfl]
  have e2:(execOp a.eval ⟨some d,.call ⟨.value fo,xs.toArray,tys⟩,ty,pos,af,none⟩).run P w= .ok (.round l fn tmps assign body) w:=by simp only [execOp,resolve,f n a g rfl,Deferred.ofValue,e1,Sem.run_bind,Sem.run_pure,Result.andThen_ok,invoke];simpa using q
  rw [e2,Oper.uponIn_round];refine ⟨Kk,RoundIn.mono (F:=FW ρ) p λe w' i=>?_⟩;cases e with
  |returned v=>exact m _ _ (h v w' i _ (g.put k) o)
  |panicked c=>exact i.elim
  |outgrown=>exact i.elim)
theorem UK{fn:Func}{S:Value->World->Prop}{Sp:zj->World->Prop}:∀(ds:zC) {w:World},Sat (eN ds::Γ) w->
  (∀w',Sat Γ w'->At (BP P fn S Sp) .ret n [] E w')->At (BP P fn S Sp) .ret n (mk ds) E w
 |[],w,hs,h=>h w (hs.re 1 [] rfl)
 |b::ds,w,hs,h=>λa l o=>by
  have f:(b::ds).Nodup/\∀c∈b::ds,w.heap[c]? =some (.deferred (some [])):=hs.at_ (i:=0) rfl;have hb:=f.2 b (ct ..);have j:b∉ds:=(List.nodup_cons.1 f.1).1;have m:=(Array.getElem?_eq_some_iff.1 hb).1;have g:Sat ((eN (b::ds)::Γ).set 0 (eN ds)) (w.putObj b (.deferred none)):=by
   refine hs.iP (i:=0) rfl ⟨rfl,rfl,rfl,by simp,λc _ k=>World.putObj_heap_other (λe=>k (by subst e;exact ct ..))⟩ (λc d=>⟨?_,.inl (cb _ d)⟩) (λ_ _ _=>?_)
   .have:=(Array.getElem?_eq_some_iff.1 (f.2 c (cb _ d))).1;simpa using this
   .exact ⟨(List.nodup_cons.1 f.1).2,λc d=>(World.putObj_heap_other (λe=>j (by subst e;exact d))).trans (f.2 c (cb _ d))⟩
  have p:=UK ds g h { a with defers:=mk ds } ⟨l.size,l.at_⟩ rfl;show LeavesInM (FW none) 0 P fn a.tmps (RE S Sp) a.defers .returning w;rw [o];exact ⟨by simp,.inl ⟨b,_,rfl,run_takeDeferred hb,p⟩⟩
theorem aew{fn:Func}{S:Value->World->Prop}{Sp:zj->World->Prop}(ds:zC)(a:Sat (eN ds::Γ) w)
  (h:∀w',Sat Γ w'->At (BP P fn S Sp) .normal n [] E w'):At (BP P fn S Sp) .normal n (mk ds) E w:=UK (fn:=fn) (S:=S) (Sp:=Sp) ds a h
end
variable {t' : TypeId} {y : Operand}
section
variable {P : Program} {E : Env} {w : World} {g : Bool}
variable {dst : zu} {ty : TypeId} {pos : String} {af : zw} {gd : zg}
abbrev Dd(f:Bool)(b:Nat):Value:= .pointer (bif f then some ⟨b,0,none⟩ else none)
theorem alO{t:TypeId}{f:Bool}(c:P.underlying t=some (.pointer e))(hx:aw E g x (Dd f b))(a:aw E g y (.pointer none)):
  bk P E g ⟨dst,.binOp .eql t x y t',ty,pos,af,gd⟩ w (.bool (!f)):=
 cQ (P:=P) hx a (by
  rw [Sem.run_bind,eo rfl,Result.andThen_ok];have h:∀d:Nat,(Op.equalIn (d+1) t (Dd f b) (.pointer none)).run P w= .ok (!f) w:=λd=>by cases f <;> simp [Op.equalIn,run_underlying c,Dd]
  simp only [binOp];simp [Op.equal,Op.maxDepth,h 9999])
theorem aj0{t:TypeId}{f:Bool}{n bytes:Nat}(c:P.underlying t=some (.pointer e))(a:TI P e n bytes z)(hx:aw E g x (Dd f b))(i:aw E g y (.pointer (some ⟨b,0,none⟩))):
  bk P E g ⟨dst,.binOp .neq t x y t',ty,pos,af,gd⟩ w (.bool (!f)):=
 cQ (P:=P) hx i (by
  rw [Sem.run_bind,eo rfl,Result.andThen_ok];obtain ⟨j,k,_⟩:=a.out;cases f
  .have h:∀d:Nat,(Op.equalIn (d+1) t (.pointer none) (.pointer (some ⟨b,0,none⟩))).run P w= .ok false w:=λd=>by simp [Op.equalIn,run_underlying c]
   show (binOp .neq t (.pointer none) (.pointer (some ⟨b,0,none⟩))).run P w=_;simp only [binOp];simp [Op.equal,Op.maxDepth,h 9999]
  .exact Lib.run_neq_ptr_same w _ c k)
theorem YF{κ ν:Type}{ke:κ->Value}{vi:ν->Value}{t kt j:TypeId}{o:zt}{dd:Option (List (κ×ν))}(c:P.underlying t=some (.map kt j))(hx:aw E g x (.map o))(f:aw E g y (.map none))(i:rE ke vi w (.map o) dd):
  bk P E g ⟨dst,.binOp .eql t x y t',ty,pos,af,gd⟩ w (.bool (Option.isNone dd)):=
 cQ (P:=P) hx f (by
  rw [Sem.run_bind,eo rfl,Result.andThen_ok];rcases i with ⟨e,rfl⟩|⟨b,k,a,l,e,rfl,_,_⟩
  .cases e;have h:∀d:Nat,(Op.equalIn (d+1) t (.map none) (.map none)).run P w= .ok true w:=λd=>by simp [Op.equalIn,run_underlying c]
   simp only [binOp];simp [Op.equal,Op.maxDepth,h 9999]
  .cases e;have h:∀d:Nat,(Op.equalIn (d+1) t (.map (some b)) (.map none)).run P w= .ok false w:=λd=>by simp [Op.equalIn,run_underlying c]
   simp only [binOp];simp [Op.equal,Op.maxDepth,h 9999])
theorem Yz{κ ν:Type}{ke:κ->Value}{vi:ν->Value}{t kt j:TypeId}{o:zt}{dd:Option (List (κ×ν))}(c:P.underlying t=some (.map kt j))(hx:aw E g x (.map o))(f:aw E g y (.map none))(i:rE ke vi w (.map o) dd):
  bk P E g ⟨dst,.binOp .neq t x y t',ty,pos,af,gd⟩ w (.bool (!(Option.isNone dd))):=
 cQ (P:=P) hx f (by
  rw [Sem.run_bind,eo rfl,Result.andThen_ok];rcases i with ⟨e,rfl⟩|⟨b,k,a,l,e,rfl,_,_⟩
  .cases e;have h:∀d:Nat,(Op.equalIn (d+1) t (.map none) (.map none)).run P w= .ok true w:=λd=>by simp [Op.equalIn,run_underlying c]
   simp only [binOp];simp [Op.equal,Op.maxDepth,h 9999]
  .cases e;have h:∀d:Nat,(Op.equalIn (d+1) t (.map (some b)) (.map none)).run P w= .ok false w:=λd=>by simp [Op.equalIn,run_underlying c]
   simp only [binOp];simp [Op.equal,Op.maxDepth,h 9999])
theorem ah1{t kt c:TypeId}(b:P.underlying t=some (.map kt c))(hx:aw E g x (.map none))(a:aw E g y (.map none)):
  bk P E g ⟨dst,.binOp .eql t x y t',ty,pos,af,gd⟩ w (.bool true):=YF (κ:=Unit) (ν:=Unit) (ke:=λ_=>undef) (vi:=λ_=>undef) (dd:=none) b hx a (.inl ⟨rfl,rfl⟩)
theorem ahA{t kt c:TypeId}(b:P.underlying t=some (.map kt c))(hx:aw E g x (.map none))(a:aw E g y (.map none)):
  bk P E g ⟨dst,.binOp .neq t x y t',ty,pos,af,gd⟩ w (.bool false):=Yz (κ:=Unit) (ν:=Unit) (ke:=λ_=>undef) (vi:=λ_=>undef) (dd:=none) b hx a (.inl ⟨rfl,rfl⟩)
theorem aeh{s d e':TypeId}{n bytes:Nat}(h:P.underlying s=some (.pointer e))(p:P.underlying d=some .unsafePointer)(c:TI P e n bytes z)(i:Nat.blt 0 n=true)
  (hx:aw E g x (.pointer (some ⟨b,0,none⟩))) (hb:fL w b e' vs) (f:Nat.blt 0 vs.length=true):bk P E g ⟨dst,.convert s d x,ty,pos,af,gd⟩ w (.pointer (some ⟨b,0,none⟩)):=
 λn' a o m=>by
  obtain ⟨j,l,k,_⟩:=c.out;have EK:w.shape? b=some (e',vs.toArray.size):=by unfold World.shape?;rw [show w.heap[b]? =_ from hb]
  have r:0<n:=by simpa using i
  have q:0<vs.length:=by simpa using f
  have:=Lib.run_to_unsafe (P:=P) w (cells:=vs.toArray.size) (⟨b,0,none⟩:Addr) h p l (by omega) EK (by simpa using q);simp [execOp,hx n' a o m,this]
theorem ZD{s d e':TypeId}{n bytes:Nat}(f:P.underlying s=some .unsafePointer)(o:P.underlying d=some (.pointer e))(c:TI P e n bytes z)
  (hx:aw E g x (.pointer (some ⟨b,0,none⟩))) (hb:fL w b e' vs) (h:liesAt P P.depth e' (vs.length/P.cellsOf e') 0 e 1=true):bk P E g ⟨dst,.convert s d x,ty,pos,af,gd⟩ w (.pointer (some ⟨b,0,none⟩)):=
 λn' a m l=>by
  obtain ⟨j,k,i,_⟩:=c.out;have EK:w.shape? b=some (e',vs.length):=by unfold World.shape?;rw [show w.heap[b]? =_ from hb];simp
  have:=Lib.run_from_unsafe (P:=P) w (⟨b,0,none⟩:Addr) f o k EK h;simp [execOp,hx n' a m l,this]
def ao3(P:Program)(f:FuncId):Prop:= ∀(v:Value) (w:World),(callFunc f #[v]).run P w= .ok (.value v) w
theorem ap3{f:FuncId}{tys:Array TypeId}(d:ao3 P f)(hx:aw E g x v):bk P E g ⟨dst,.call ⟨.value (.func f),#[x],tys⟩,ty,pos,af,gd⟩ w v:=
 λn' a c b=>by have:=d v w;have e:a.eval (.func f)= .func (.func f) #[] #[]:=rfl;simp only [execOp,resolve,e,Deferred.ofValue,Sem.run_bind,Sem.run_pure,Result.andThen_ok,invoke];simpa [hx n' a c b] using this
end
theorem ak9(s:aS):Lib.strCells ⟨s.toArray⟩=s.map λb=>Value.int .u8 (b.toNat:Int):=by simp [Lib.strCells]
theorem Ms{M:Nat->Prop}{w:World}:∀s:aS,db (RI .u8) M w (Lib.strCells ⟨s.toArray⟩) (bS s):=λs=>by rw [ak9];exact Ps s
theorem fU(s:aS):(bS s).length=s.length:=by simp [bS]
section
variable {P : Program} {w : World} {M : Nat -> Prop}
theorem VF(t u ty e:TypeId)(i:TypeInfo)(j:P.underlying t=some (.slice e))(h:P.underlying u=some .string)(hi:P.info? e=some i)(f:i.size=1)
  (g off a b:Nat) (cur:zp) (k:w.heap[g]? =some (.cells cur e (0,0))) (s:ByteArray)
  (c:a+s.size<=b) (d:off+a+s.size<=cur.size):
  (Builtin.append_ #[t,u] ty #[.slice (some ⟨g,off,none⟩) a b,.string s]).run P w=
   .ok (.slice (some ⟨g,off,none⟩) (a+s.size) b) (w.setRow g (cur.toList.take (off+a)++Lib.strCells s++cur.toList.drop (off+a+s.size)).toArray):=by
 have l:=Lib.run_firstCells_string (P:=P) w 1 s;have tT:=run_storeCells_at P g (off+a) e (Lib.strCells s) 0 cur w k (by simpa [Lib.strCells_length] using d) (Lib.strCells_oneCell s);simp only [qu,Lib.strCells_length] at tT;simp [Builtin.append_,run_underlying j,run_underlying h,sizeOf,typeInfo,hi,f,Builtin.lenOf,c,l,Addr.add_lit,tT]
theorem xH(t u r e:TypeId)(L:P.underlying t=some (.slice e))(J:P.underlying u=some .string)(X:TI P e 1 1 (.int .u8 0))
  {v:Value} {xs:zB} {s:aS} (ho:iv (RI .u8) e M w v xs) (hM:∀b∈dV v,M b) (c:aH (xs.length+s.length) 1=true):
  ∃v' w',(Builtin.append_ #[t,u] r #[v,S s]).run P w= .ok v' w'/\kP (dV v) w w'/\(∀b∈dV v',b<w'.heap.size/\(b∈dV v\/w.heap.size<=b))/\
   (∀M',Mv M w M' w'->iv (RI .u8) e M' w' v' (xs++bS s)):=by
 obtain ⟨i,hi,y,R,hz⟩:=X.out;simp only [aH,ah,xa] at c;have hb1:=dk c.1;have T:=dk c.2;have a:(⟨s.toArray⟩:ByteArray).size=s.length:=mz s;have Z:=ho.lt;obtain ⟨cells,p,hA⟩:=ho;have N:db (RI .u8) M w (Lib.strCells ⟨s.toArray⟩) (bS s):=Ms s;have U:=hA.append N;have d:(RI .u8).n=1:=rfl;have D:cells.length=xs.length:=by have:=hA.1;rw [d] at this;omega
 have z:(Lib.strCells ⟨s.toArray⟩).length=s.length:=by rw [Lib.strCells_length,a]
 have h:(cells++Lib.strCells ⟨s.toArray⟩).length=(xs++bS s).length*1:=by simp [D,z,fU]
 have q:∀(jP:Nat),jP<xs.length+s.length->
   (w.drew.alloc (.cells (cells.toArray++(Lib.strCells ⟨s.toArray⟩).toArray++Builtin.zeroCells (Value.int .u8 0).cells (grownCap w (xs.length+s.length) jP e-(xs.length+s.length))) e)).ownsRow 0 e 1
    (.slice (some ⟨w.heap.size,0,none⟩) (xs.length+s.length) (grownCap w (xs.length+s.length) jP e)) (xs++bS s).length (cells++Lib.strCells ⟨s.toArray⟩):=by
  intro jP hold;have hge:=grownCap_ge w (xs.length+s.length) jP e;have B:grownCap w (xs.length+s.length) jP e<=maxLen:=grownCap_le_maxLen w (xs.length+s.length) jP e (by simpa [maxLen] using T);refine ⟨h,.inr ⟨w.heap.size,_,_,by simp [fU],qf _,heap_alloc_new w.drew _,by simpa [fU] using hge,B,?_,?_⟩⟩
  .have V:(Value.int u8 0).cells.size=1:=rfl;simp only [qJ,n7,size_zeroCells,V,D,z];omega
  .simp only [s3,b0];rw [<-b0,<-h];exact v7
 have F:∀o C,kP C w (w.drew.alloc o):=λo C=>⟨rfl,rfl,rfl,by simp,λb hb _=>heap_alloc_old w.drew o hb⟩;have E:∀(n cap:Nat) (o:Obj),∀b∈dV (.slice (some ⟨w.heap.size,0,none⟩) n cap),b<(w.drew.alloc o).heap.size/\(b∈dV v\/w.heap.size<=b):=λn cap o b hb=>by
  have:b=w.heap.size:=by simpa [dV,Value.ownBlock] using hb
  subst this;exact ⟨by simp,.inr (b7 _)⟩
 by_cases hm:s.length=0
 .have Y:s=[]:=eb hm;subst Y;refine ⟨v,w,?_,(Ext.refl w).uP _,λb hb=>⟨Z b hb,.inl hb⟩,λM' m=>⟨cells,by simpa [bS] using p,by simpa [bS] using hA.mv m⟩⟩;rcases p.2 with ⟨rfl,h0⟩|⟨g,off,cap,cur,rfl,O,G,B,I,_⟩
  .have Q:=Lib.run_firstCells_string (P:=P) w 1 ⟨#[]⟩;have e0:(⟨#[]⟩:ByteArray).size=0:=rfl;rw [e0] at Q;simp [S,Builtin.append_,run_underlying L,run_underlying J,sizeOf,typeInfo,hi,y,Builtin.lenOf,Q,ByteArray.size]
  .have Q:=Lib.run_firstCells_string (P:=P) w 1 ⟨#[]⟩;have e0:(⟨#[]⟩:ByteArray).size=0:=rfl;rw [e0] at Q;simp [S,Builtin.append_,run_underlying L,run_underlying J,sizeOf,typeInfo,hi,y,Builtin.lenOf,Q,ByteArray.size,storeCells,Lib.strCells,G]
 .rcases p.2 with ⟨rfl,h0⟩|⟨g,off,cap,cur,rfl,O,G,B,I,k⟩
  .have W:xs=[]:=eb h0;subst W;have hc0:cells=[]:=eb (by simpa using D);subst hc0;have H:=run_append_nil_string (P:=P) w t u r e i (.int .u8 0) L J hi hz ⟨s.toArray⟩ (by rw [a];omega) (by rw [a];simp at T;omega) (by rw [a,R];simp at hb1;omega);have A:=q 0 (by simp;omega);have e1:((⟨s.toArray⟩:ByteArray).data.map λb=>Value.int .u8 b.toNat)=(Lib.strCells ⟨s.toArray⟩).toArray:=by apply Array.ext';simp [Lib.strCells]
   rw [e1,a] at H;simp only [qg,l7,qs,vc] at A;exact ⟨_,_,H,F _ _,E _ _ _,λM' m=>⟨_,.of (by simpa [d] using A),by simpa using N.mv m⟩⟩
  .by_cases f:xs.length+s.length<=cap
   .have hcs':off+cap=cur.size:=by simpa [d] using I.1
    have H:=VF (P:=P) (w:=w) t u r e i L J hi y g off xs.length cap cur O ⟨s.toArray⟩ (by rw [a];exact f) (by rw [a];omega);refine ⟨_,_,H,⟨rfl,rfl,rfl,by simp,λb hb hbg=>setRow_other w g b _ (by simpa [dV,Value.ownBlock] using hbg)⟩,λb hb=>?_,λM' m=>⟨cells++Lib.strCells ⟨s.toArray⟩,⟨h,.inr ⟨g,off,cap,_,by simp [fU,a],setRow_heap w g cur _ e _ O,by simpa [fU] using f,B,⟨?_,I.2⟩,?_⟩⟩,U.mv m⟩⟩
    .have:b=g:=by simpa [dV,Value.ownBlock] using hb
     subst this;exact ⟨by simpa using (Array.getElem?_eq_some_iff.1 O).1,.inl (by simp [dV,Value.ownBlock])⟩
    .simp only [n7,cO,b9,ec,de,z,a,d];omega
    .have K:(cur.toList.drop off).take xs.length=cells:=by simpa [d] using k
     have:=ajA (l:=cur.toList) (ns:=Lib.strCells ⟨s.toArray⟩) (off:=off) (m:=xs.length) (by rw [K];exact D.symm) (by have hl:cur.toList.length=cur.size:=de;omega);rw [K,z] at this;rw [d,<-h,a];simpa using this
   .have holds:∀j x,cells[j]? =some x->w.cell? ((⟨g,off,none⟩:Addr).add j)=some x:=λj x hj=>(Gc O k).cell hj;have H:=Lib.run_append_grow_string (P:=P) w t u r e i (.int .u8 0) L J hi hz ⟨g,off,none⟩ xs.length cap cells (by rw [y];omega) holds ⟨s.toArray⟩ (by rw [a];omega) (by rw [a];omega)
     (by rw [a,R];exact growslice_fits (by omega) (by omega))
    have A:=q cap (by omega);rw [a] at H;exact ⟨_,_,H,F _ _,E _ _ _,λM' m=>⟨_,.of (by simpa [d] using A),U.mv m⟩⟩
theorem Cz(t u c e:TypeId)(q:P.underlying t=some (.slice e))(p:P.underlying u=some .string)(g:TI P e 1 1 (.int .u8 0))
  {a0:Option Addr} {s:aS} (a:aH s.length 1=true):
  ((Builtin.append_ #[t,u] c #[.slice a0 0 0,S s]).run P w= .ok (.slice a0 0 0) w/\s=[])\/
  ∃v' w',(Builtin.append_ #[t,u] c #[.slice a0 0 0,S s]).run P w= .ok v' w'/\Ext w w'/\(∀b∈dV v',b<w'.heap.size/\w.heap.size<=b)/\(∀M',Mv M w M' w'->iv (RI .u8) e M' w' v' (bS s)):=by
 obtain ⟨i,hi,r,A,G⟩:=g.out;by_cases C:s=[]
 .subst C;refine .inl ⟨?_,rfl⟩;have D:=Lib.run_firstCells_string (P:=P) w 1 ⟨#[]⟩;have K:(⟨#[]⟩:ByteArray).size=0:=rfl;rw [K] at D;cases a0 <;> simp [S,Builtin.append_,run_underlying q,run_underlying p,sizeOf,typeInfo,hi,r,Builtin.lenOf,D,ByteArray.size,storeCells,Lib.strCells]
 .refine .inr ?_;cases a0 with
  |none=>
   obtain ⟨v',w',k,l,E,J⟩:=xH (M:=M) (w:=w) t u c e q p g (iv.nil) (s:=s) (λb hb=>by simp [dV,Value.ownBlock] at hb) (by simpa using a);refine ⟨v',w',k,⟨l.os,l.tape,l.output,l.size,λb hb=>l.block b hb (by simp [dV,Value.ownBlock])⟩,λb hb=>⟨(E b hb).1,?_⟩,λM' m=>by simpa using J M' m⟩;rcases (E b hb).2 with h|h
   .simp [dV,Value.ownBlock] at h
   .exact h
  |some F=>
   have d:(⟨s.toArray⟩:ByteArray).size=s.length:=mz s;simp only [aH,ah,xa] at a;have I:=dk a.1;have B:=dk a.2;have L:0<s.length:=List.length_pos_iff.2 C;have k:=Lib.run_append_grow_string (P:=P) w t u c e i (.int .u8 0) q p hi G F 0 0 [] (by simp) (by intro j v H;simp at H) ⟨s.toArray⟩ (by rw [d];omega) (by rw [d];omega) (by rw [d,A];exact growslice_fits (by omega) (by omega));rw [d] at k;simp only [l7] at k;have x:(Builtin.append_ #[t,u] c #[.slice (some F) 0 0,S s]).run P w=_:=k;have y:=grownCap_ge w s.length 0 e;have z:grownCap w s.length 0 e<=maxLen:=grownCap_le_maxLen w s.length 0 e (by simpa [maxLen] using B);have f:(Lib.strCells ⟨s.toArray⟩).length=s.length:=by rw [Lib.strCells_length,d]
   refine ⟨_,_,x,⟨rfl,rfl,rfl,by simp,λb hb=>heap_alloc_old w.drew _ hb⟩,λb hb=>?_,λM' m=>⟨Lib.strCells ⟨s.toArray⟩,.of (b:=0) ⟨by simp [f,fU,RI],.inr ⟨w.heap.size,_,_,by simp [fU],qf _,heap_alloc_new w.drew _,by simpa [fU] using y,z,?_,?_⟩⟩,(Ms s)⟩⟩
   .have:b=w.heap.size:=by simpa [dV,Value.ownBlock] using hb
    subst this;exact ⟨by simp,b7 _⟩
   .have o:(Value.int u8 0).cells.size=1:=rfl;simp only [qJ,n7,size_zeroCells,o,f,qg];show _=_*1;omega
   .have e1:(bS s).length*(RI .u8).n=(Lib.strCells ⟨s.toArray⟩).length:=by simp [fU,f,RI]
    rw [e1];simp
end
section
variable {P : Program} {ρ : zt} {Q : bD} {n : Nat} {D : zm} {E : Env} {w : World} {ops : zv} {rest : zz} {Γ : Ctx} {i : Nat}
variable {d : Tmp} {ty : TypeId} {pos : String} {af : zw}
theorem akF{t u:TypeId}{xs:zB}{s:aS}(I:Sat Γ w)(i:Nat)(hi:Γ[i]? =some (iB (RI .u8) e v xs R))
  (H:P.underlying t=some (.slice e)) (G:P.underlying u=some .string) (l:TI P e 1 1 (.int .u8 0)) (hx:aw E true x v) (o:aw E true y (S s))
  (c:aH (xs.length+s.length) 1=true) (L:Nat.blt d n=true)
  (h:∀(p:gP) k w',Sat (Γ.set i (iB (RI .u8) e (sl p) (xs++bS s) k)) w'->WL P ρ ops Q n D rest ((d,true,sl p)::E) w'):
  WL P ρ ops Q n D (⟨some d,.call ⟨.builtin .append,#[x,y],#[t,u]⟩,ty,pos,af,none⟩::rest) E w:=by
 have key:∃v' k w',ny P E ⟨some d,.call ⟨.builtin .append,#[x,y],#[t,u]⟩,ty,pos,af,none⟩ w v' w'/\kP R w w'/\(∀b∈k,b<w'.heap.size/\(b∈R\/w.heap.size<=b))/\∀M',Mv Γ.M w M' w'->bR (RI .u8) e M' w' v' (xs++bS s) k:=by
  have j:=I.own hi;have N:∀b∈R,Γ.M b:=λb hb=>Ctx.j7 hi hb;rcases j with ⟨rfl,z⟩|⟨rfl,rfl,⟨a0,rfl⟩,r⟩
  .obtain ⟨v',w',g,F,C,j⟩:=xH t u ty e H G l z N c;exact ⟨v',dV v',w',(λn' a f=>by simp [execOp,resolve,invoke,builtin,hx n' a f rfl,o n' a f rfl,g]),F,C,λM' m=>bR.of (j M' m)⟩
  .rcases Cz (M:=Γ.M) (w:=w) t u ty e H G l (a0:=a0) (s:=s) (by simpa using c) with ⟨g,rfl⟩|⟨v',w',g,O,K,j⟩
   .exact ⟨.slice a0 0 0,[],w,(λn' a f=>by simp [execOp,resolve,invoke,builtin,hx n' a f rfl,o n' a f rfl,g]),(Ext.refl w).uP _,(λb hb=>by cases hb),λM' m=>by simpa [bS] using bR.empty (e:=e) (r.mv m)⟩
   .exact ⟨v',dV v',w',(λn' a f=>by simp [execOp,resolve,invoke,builtin,hx n' a f rfl,o n' a f rfl,g]),O.uP _,(λb hb=>⟨(K b hb).1,.inr (K b hb).2⟩),λM' m=>bR.of (by simpa using j M' m)⟩
 obtain ⟨v',k,w',g,F,C,j⟩:=key;have J:=I.iP hi (new:=iB (RI .u8) e v' (xs++bS s) k) F C (λM' m _=>j M' m);have q:∃p,v'=sl p:=by have B:i<Γ.length:=(List.getElem?_eq_some_iff.1 hi).1;have z:=J.own (i:=i) (A:=RI .u8) (e:=e) (v:=v') (xs:=xs++bS s) (R:=k) (by rw [qP B]);obtain ⟨a,cap,q⟩:=z.len;exact ⟨(a,_,cap),q⟩
 obtain ⟨p,rfl⟩:=q;exact xP g rfl rfl rfl L (h _ _ _ J)
def Roomy(v:Value):Prop:= ∃g off len cap,v= .slice (some ⟨g,off,none⟩) len (cap+1)
theorem aok{g:Bool}{dst:zu}{gd:Option (Nat×Bool)}{v:gP}{c:Array TypeId}(hx:aw E g x (sl v))(h:g=true->Roomy (sl v)):bk P E g ⟨dst,.call ⟨.builtin .unsafeSliceData,#[x],c⟩,ty,pos,af,gd⟩ w (.pointer v.1):=
 λn a i d=>by obtain ⟨b,off,len,cap,e⟩:=h d;obtain ⟨k,f,j⟩:=v;simp only [sl,Value.slice.injEq] at e;obtain ⟨rfl,rfl,rfl⟩:=e;have:=Lib.run_unsafeSliceData_row (P:=P) w c ty ⟨b,off,none⟩ f (cap+1) (by omega);simp [execOp,resolve,invoke,builtin,hx n a i d,sl,this]
theorem J0{P:Program}{w:World}:∀(l:zB) (a:Addr) (acc:ByteArray),(∀(j:Nat) (x:Int),l[j]? =some x->w.cell? (a.add j)=some (.int .u8 x))->
  (loadBytes a acc l.length).run P w= .ok ⟨acc.data++(strOf l).toArray⟩ w
 |[],a,acc,_=>by simp [loadBytes,strOf]
 |x::l,a,acc,h=>by
  have d:w.cell? a=some (.int .u8 x):=by have:=h 0 x rfl;simpa [Addr.add] using this
  have ih:=J0 (P:=P) l (a.add 1) (acc.push (UInt8.ofNat x.toNat)) (λj y c=>by
   have:=h (j+1) y (by simpa using c);have e:(a.add 1).add j=a.add (j+1):=by
    unfold Addr.add;by_cases b:j=0
    .subst b;simp
    .simp [b];omega
   rw [e];exact this)
  simp only [p0,loadBytes,Sem.run_bind,run_load,d,Result.andThen];have e2:(x.toNat).toUInt8=UInt8.ofNat x.toNat:=rfl;rw [e2,ih];congr 1;apply ByteArray.ext;simp [ByteArray.push,strOf]
end
open Go.Lib
theorem O{E:Env}{g:Bool}{t:Tmp}(h:look E t=some (true,v)):aw E g (.tmp t) v:=aw.t h
section
variable {P : Program} {ρ : zt} {Q : bD} {n : Nat} {D : zm} {E : Env} {w : World} {ops : zv} {rest : zz}
theorem Wo{o:Oper}{d:Tmp}{v:Value}(b:bk P E true o w v)(a:(jc o,o.guard,o.dst,Nat.blt d n)=(true,none,some d,true))
  (h:WL P ρ ops Q n D rest ((d,true,v)::E) w):WL P ρ ops Q n D (o::rest) E w:=
 aL b (congrArg (·.1) a) (congrArg (·.2.1) a) (congrArg (·.2.2.1) a) (congrArg (·.2.2.2) a) h
end
variable {dd : TypeDesc}
def dn{E A B:Type}(m:Option (Except E A))(k:A->Option (Except E B)):Option (Except E B):=m.bind λa=>match a with
 | .error p=>some (.error p)
 | .ok x=>k x
def my{E A B:Type}(m:Option (Except E A))(kp:E->Option B)(k:A->Option B):Option B:=m.bind λa=>match a with
 | .error p=>kp p
 | .ok x=>k x
theorem aj1{E A B:Type}{m:Option (Except E A)}{b:E->Option B}{k:A->Option B}{r:B}(h:my m b k=some r):(∃p,m=some (.error p)/\b p=some r)\/∃x,m=some (.ok x)/\k x=some r:=by
 cases m with
 |none=>cases h
 |some a=>
  cases a with
  |error p=>exact .inl ⟨p,rfl,h⟩
  |ok x=>exact .inr ⟨x,rfl,h⟩
abbrev je(v:Value):zj:=[{ v:=v,recovered:=false }]
section
variable {P : Program} {ρ : zt} {Q : bD} {n : Nat} {D : zm} {E : Env} {w : World} {ops : zv} {rest : zz} {Φ : Ctx}
theorem aot{t:TypeId}{dst:zu}{ty:TypeId}{pos:String}{af:zw}(hx:aw E true x (.iface t v))
  (h:At Q (.panic (je (.iface t v))) n D E w):WL P ρ ops Q n D (⟨dst,.panic x,ty,pos,af,none⟩::rest) E w:=λa b c=>
 wpListIn_plain rfl λK d=>lY rfl (by
  have e:(execOp a.eval (⟨dst,.panic x,ty,pos,af,none⟩:Oper)).run P w= .halt (.panic (.iface t v)) w:=by simp only [execOp,hx n a b rfl];rfl
  rw [e];exact h a b c)
theorem akQ{fn:Func}{S:Value->World->Prop}{Sp:zj->World->Prop}{ps:zj}(h:Sp ps w):Fc (BP P fn S Sp) ps [] w:=λa b=>by show LeavesInM _ _ _ _ _ _ a.defers _ _;rw [b];exact h
variable {g : Bool} {dst : zu} {ty : TypeId} {pos : String} {af : zw} {gd : zg}
theorem acF{s t:TypeId}(b:P.underlying t=some dd)(e:gY dd=false)(hx:aw E g x (.iface t v)):bk P E g ⟨dst,.typeAssert x s t true,ty,pos,af,gd⟩ w (.tuple #[v,.bool true]):=
 λn a d c=>by simp only [execOp,hx n a d c,Instr.typeAssert,Sem.run_bind,run_underlying b,Result.andThen_ok];cases dd <;> first|(dsimp only;rw [cN rfl];rfl)|(simp [gY] at e)
theorem acO{s t:TypeId}{size bytes:Nat}(c:P.underlying t=some dd)(f:gY dd=false)(b:TI P t size bytes z)(hx:aw E g x .nilIface):bk P E g ⟨dst,.typeAssert x s t true,ty,pos,af,gd⟩ w (.tuple #[z,.bool false]):=
 λn a e d=>by simp only [execOp,hx n a e d,Instr.typeAssert,Sem.run_bind,run_underlying c,Result.andThen_ok];cases dd <;> first|(simp [gY] at f;done)|(simp only [Sem.run_bind,b.zero w,Result.andThen_ok,qQ];rfl)
theorem acd{s t u:TypeId}{size bytes:Nat}(b:u≠t)(d:P.underlying t=some dd)(h:gY dd=false)(c:TI P t size bytes z)(hx:aw E g x (.iface u v)):bk P E g ⟨dst,.typeAssert x s t true,ty,pos,af,gd⟩ w (.tuple #[z,.bool false]):=
 λn a f e=>by simp only [execOp,hx n a f e,Instr.typeAssert,Sem.run_bind,run_underlying d,Result.andThen_ok];cases dd <;> first|(simp [gY] at h;done)|(dsimp only;rw [cx (by first|exact b|exact b.symm)];simp only [Sem.run_bind,c.zero w,Result.andThen_ok,qQ];rfl)
def Ja(P:Program)(f:FuncId)(args:zq)(u:FrameMode)(w:World)(R:FrameMode->World->Prop):Prop:=
 CallsDIn (FW none) 0 P f args.toArray u w λe u' w'=>e= .returned (.tuple #[])/\R u' w'
abbrev Sq(f:FuncId)(cap:zq):Deferred:={ target:= .fn (.func f) cap.toArray,args:= #[] }
theorem aqg{f:FuncId}{fo:Operand}{cap:zq}{tys:Array TypeId}{ty:TypeId}{pos:String}{af:zw}(b:aw E true fo (.func (.func f) #[] cap.toArray))
  (h:WL P none ops Q n (Sq f cap::D) rest E w):WL P none ops Q n D (⟨none,.defer ⟨.value fo,#[],tys⟩,ty,pos,af,none⟩::rest) E w:=λa c g=>
 wpListIn_plain rfl λK d=>by
  refine ⟨λ_ _=>trivial,?_⟩;have e:((⟨none,.defer ⟨.value fo,#[],tys⟩,ty,pos,af,none⟩:Oper).semAt (FW none).round a.eval).run P w= .ok (.defer (Sq f cap)) w:=by show (execOp a.eval (⟨none,.defer ⟨.value fo,#[],tys⟩,ty,pos,af,none⟩:Oper)).run P w=_;simp only [execOp,resolve,b n a c rfl,Deferred.ofValue,Sem.run_bind,Sem.run_pure,Result.andThen_ok];rw [show (#[]++Array.map a.eval #[]:zp)= #[] by simp]
  rw [e,Oper.uponIn_defer];refine d _ _ (h _ ⟨c.size,c.at_⟩ ?_);show Sq f cap::a.defers=_;rw [g]
theorem S8{a:Act}(h:Fits n E a)(ds:zm):Fits n E { a with defers:=ds }:=⟨h.size,h.at_⟩
theorem Wr{fn:Func}{f:FuncId}{cap:zq}{tmps:zp}{R:Ending->World->Prop}{u:FrameMode}{ds:zm}(a:u≠ .run)(b:Enters P f)
  (c:Ja P f cap u w λu' w'=>LeavesInM (FW none) 0 P fn tmps R ds (settle u') w'):LeavesInM (FW none) 0 P fn tmps R (Sq f cap::ds) u w:=by
 refine ⟨a,.inr ⟨Kk,.func f,cap.toArray,f,cap.toArray,rfl,?_,λ_ _=>trivial,?_⟩⟩
 .have:=b cap.toArray w;simpa [Sq,invoke] using this
 .refine CallsDIn.mono c λe u' w' h=>?_;obtain ⟨rfl,h⟩:=h;exact h
theorem anB{fn:Func}{S:Value->World->Prop}{Sp:zj->World->Prop}{f:FuncId}{cap:zq}{T:World->Prop}(d:Enters P f)
  (i:Ja P f cap .returning w λu' w'=>u'= .returning/\T w') (h:∀w',T w'->At (BP P fn S Sp) .ret n [] E w'):At (BP P fn S Sp) .ret n [Sq f cap] E w:=λa c g=>by
 show LeavesInM _ _ _ _ _ _ a.defers _ _;rw [g];refine Wr (by simp) d (CallsDIn.mono i λe u' w' hx=>?_);obtain ⟨b,rfl,j⟩:=hx;exact ⟨b,h w' j { a with defers:=[] } (S8 c []) rfl⟩
theorem ajF{fn:Func}{S:Value->World->Prop}{Sp:zj->World->Prop}{f:FuncId}{cap:zq}{T:World->Prop}(d:Enters P f)
  (i:Ja P f cap (.panicking (je v)) w λu' w'=>u'= .panicking [{ v:=v,recovered:=true }]/\T w') (h:∀w',T w'->At (BP P fn S Sp) .ret n [] E w'):At (BP P fn S Sp) (.panic (je v)) n [Sq f cap] E w:=λa c g=>by
 show LeavesInM _ _ _ _ _ _ a.defers _ _;rw [g];refine Wr (by simp) d (CallsDIn.mono i λe u' w' hx=>?_);obtain ⟨b,rfl,j⟩:=hx;exact ⟨b,h w' j { a with defers:=[] } (S8 c []) rfl⟩
def QB(T:World->Prop):bD:=λe a w=>match e with
 | .normal=>a.defers=[]/\T w
 | .ret=>a.defers=[]/\T w
 |_=>False
theorem arn{T:World->Prop}(h:T w):At (QB T) .normal n [] E w:=λ_ _ a=>⟨a,h⟩
theorem auN{T:World->Prop}(h:T w):At (QB T) .ret n [] E w:=λ_ _ a=>⟨a,h⟩
def QJ(o:Oper):Bool:=match o.op with
 | .move _=>true
 | .assign _=>true
 | .alloc _=>true
 | .extract _ _=>true
 | .store _ _ _=>true
 | .typeAssert _ _ _ _=>true
 | .binOp .neq _ _ _ _=>true
 | .load _ _=>true
 | .nilCheck _=>true
 | .fieldAddr _ _ _=>true
 |_=>false
def Jq:Result Next->Prop
 | .ok (.value _) _=>True
 | .ok .skip _=>True
 | .halt _ _=>True
 |_=>False
theorem auK{m:Sem Value}{w:World}:Jq ((do pure (Next.value (<-m)):Sem Next).run P w):=by rw [Sem.run_bind];cases m.run P w <;> trivial
theorem atJ{m:Sem Unit}{w:World}:Jq ((do m;pure Next.skip:Sem Next).run P w):=by rw [Sem.run_bind];cases m.run P w <;> trivial
theorem Ek{m:Sem α}{k:α->Sem Next}{w:World}(h:∀a w,Jq ((k a).run P w)):Jq ((m >>= k).run P w):=by
 rw [Sem.run_bind];cases m.run P w with
 |ok a w=>exact h a w
 |halt _ _=>trivial
theorem apA{a:Operand->Value}{dst:zu}{ty:TypeId}{pos:String}{af:zw}{g:Option (Nat×Bool)}{w:World}:Jq ((execOp a ⟨dst,.nilCheck x,ty,pos,af,g⟩).run P w):=by
 unfold execOp;dsimp only;split
 .exact Ek λ_ _=>trivial
 .exact Ek λ_ _=>trivial
 .exact Ek λ_ _=>trivial
 .split
  .exact Ek λ_ _=>trivial
  .refine Ek λ_ _=>Ek λ_ _=>?_;split
   .exact Ek λ_ _=>trivial
   .exact trivial
  .trivial
 .trivial
theorem aoM{o:Oper}(h:QJ o=true)(a:Operand->Value)(w:World):Jq ((execOp a o).run P w):=by obtain ⟨dst,op,ty,pos,af,g⟩:=o;cases op <;> first|(cases h;done)|exact auK|exact atJ|exact apA|trivial
theorem VU{ops:zv}{g:bD}{QS:Exit->Act->List Frame->World->Prop}{cs:List Frame}(f:∀e a w,g e a w->QS e a cs w):∀(l:zz) (k:Nat),l.all QJ=true->(∀j,l[j]? =ops[k+j]?)->∀(a:Act) (w:World),wpListIn (FW none) 0 P ops g l a w->
  wpOpsSIn (FW none) 0 P ops QS (List.range' k l.length) a cs w
 |[],k,_,_,a,w,h=>f _ _ _ h
 |o::l,k,hc,hk,a,w,h=>by
  have m:ops[k]? =some o:=by simpa using (hk 0).symm
  rw [qX,ah] at hc;have ih:=VU (ops:=ops) f l (k+1) hc.2 (λj=>by have:=hk (j+1);simpa [qC,Nat.add_comm 1 j] using this);rw [p0,List.range'_succ];simp only [wpOpsSIn,m];simp only [wpListIn] at h;refine ⟨λ_ _=>trivial,?_⟩;split at h
  .rename_i d;rw [cN d];have c:=h.2;have b:=aoM (P:=P) hc.1 a.eval w;rw [show (o.semAt (FW none).round a.eval)=execOp a.eval o from rfl] at c;generalize (execOp a.eval o).run P w=r at c b;cases r with
   |ok x w'=>
    cases x <;> first|exact b.elim|exact ih _ _ c
   |halt i w'=>
    cases i <;> first|exact f _ _ _ c|exact c.elim
  next d=>rw [cx d];exact ih _ _ h.2
theorem apO{fn:Func}{c₀:Frame}{cs:List Frame}{T:World->Prop}{u':FrameMode}(b:fn.results= #[]){e:Exit}{a:Act}{w:World}(h:QB T e a w):
  bodyPostS P fn c₀ cs (λe c w'=>e= .returned (.tuple #[])/\c=u'/\T w') e a ({ c₀ with mode:=u' }::cs) w:=by
 have d:(results fn a.tmps).run P w= .ok (.tuple #[]) w:=by rw [XU,b];simp
 cases e <;> first|exact ⟨h.1,u',rfl,_,d,rfl,rfl,h.2⟩|exact h.elim
theorem aaV{f:FuncId}{fn:Func}{id:Nat}{ops:zv}{l:zz}{y:Code}{d:Tmp}{ty:TypeId}{pos:String}{af:zw}{tys:Array TypeId}{cap:zq}{u u':FrameMode}{T:World->Prop}
  (L:P.funcs[f]? =some fn) (hb:fn.body=some (.seq (.region id ops false) y)) (c:ops.toList=⟨some d,.call ⟨.builtin .recover,#[],tys⟩,ty,pos,af,none⟩::l) (q:l.all QJ=true) (o:fn.results= #[]) (J:fn.ntmps=n) (K:Nat.ble cap.length n=true) (M:Nat.blt d n=true)
  (H:(u= .returning/\u'= .returning/\v= .nilIface)\/(u= .panicking (je v)/\u'= .panicking [{ v:=v,recovered:=true }]))
  (h:WL P none ops (Exit.then (y.wpIn (FW none) 0 P (QB T)) (QB T)) n [] l ((d,true,v)::iota 0 cap) w):Ja P f cap u w λr w'=>r=u'/\T w':=by
 refine callsDIn_of_wpSIn L hb trivial λc₀ cs F=>?_;have k:Fits n (iota 0 cap) { tmps:=cap.toArray++Array.replicate (fn.ntmps-cap.toArray.size) undef,defers:=[] }:=by
  refine ⟨?_,λt g v I=>?_⟩
  .have:cap.length<=n:=by simpa using K
   simp [J];omega
  .obtain ⟨j,rfl,B,rfl⟩:=GO cap 0 t g v I;have D:j<cap.length:=by
    rcases ql j cap.length with h|h
    .exact h
    .rw [cw h] at B;cases B
   simp only [y6,cr,l7,nA];rw [so (by simpa using D)];simp [B]
 have z:({ tmps:=cap.toArray++Array.replicate (fn.ntmps-cap.toArray.size) undef,defers:=[] }:Act).defers=[]:=rfl;generalize ({ tmps:=cap.toArray++Array.replicate (fn.ntmps-cap.toArray.size) undef,defers:=[] }:Act)=a0 at k z;refine wpSIn_seq (wpSIn_region ?_);have C:ops.size=l.length+1:=by rw [<-de,c];rfl
 rw [C,List.range_eq_range',List.range'_succ];have O:ops[0]? =some ⟨some d,.call ⟨.builtin .recover,#[],tys⟩,ty,pos,af,none⟩:=by rw [<-qE,c];rfl
 have D:∀j,l[j]? =ops[1+j]? :=λj=>by rw [<-qE,c,Nat.add_comm 1 j];rfl
 have s:(execOp a0.eval (⟨some d,.call ⟨.builtin .recover,#[],tys⟩,ty,pos,af,none⟩:Oper)).run P w= .ok .recover w:=by simp [execOp,resolve,invoke,builtin]
 have x:Fits n ((d,true,v)::iota 0 cap) (a0.put (some d) v):=k.put (g:=true) (v:=v) M;have m:=VU (cs:={ c₀ with mode:=u' }::cs) (QS:=Exit.thenS (y.wpSIn (FW none) 0 P (bodyPostS P fn c₀ cs λe r w'=>e= .returned (.tuple #[])/\r=u'/\T w')) (bodyPostS P fn c₀ cs λe r w'=>e= .returned (.tuple #[])/\r=u'/\T w'))
  (λe a w p=>by
   cases e with
   |normal=>exact wpSIn_of_wpIn rfl (Code.wpIn_mono (λe a w p=>apO o p) p)
   |exit i=>exact False.elim p
   |goto i=>exact False.elim p
   |ret=>exact apO (P:=P) (c₀:=c₀) (cs:=cs) (u':=u') (T:=T) (e:= .ret) o p
   |panic i=>exact False.elim p
   |outgrown=>exact False.elim p) l 1 q D _ _ (h _ x z)
 simp only [wpOpsSIn,O];refine ⟨λ_ _=>trivial,?_⟩;rw [cN (by simp [Region.wanted]),s];rcases H with ⟨A,G,N⟩|⟨A,G⟩
 .have b:recoverD (c₀::cs)=none:=by simp [recoverD,F,A]
  have E:({ c₀ with mode:=u' }:Frame)=c₀:=by rw [G,<-A,<-F]
  simp only [b];rw [E,N] at m;exact m
 .have b:recoverD (c₀::cs)=some (v,{ c₀ with mode:=u' }::cs):=by simp [recoverD,F,A,G,je]
  simp only [b];exact m
theorem ahH{f:FuncId}{fn:Func}{id:Nat}{ops:zv}{cap:zq}{T:World->Prop}
  (x:P.funcs[f]? =some fn) (hb:fn.body=some (.region id ops false)) (c:ops.toList.all QJ=true) (d:fn.results= #[]) (r:fn.ntmps=n) (s:Nat.ble cap.length n=true)
  (h:WL P none ops (QB T) n [] ops.toList (iota 0 cap) w):Ja P f cap .returning w λk w'=>k= .returning/\T w':=by
 refine callsDIn_of_wpSIn x hb trivial λc₀ cs y=>?_;have b:Fits n (iota 0 cap) { tmps:=cap.toArray++Array.replicate (fn.ntmps-cap.toArray.size) undef,defers:=[] }:=by
  refine ⟨?_,λt g v p=>?_⟩
  .have:cap.length<=n:=by simpa using s
   simp [r];omega
  .obtain ⟨j,rfl,l,rfl⟩:=GO cap 0 t g v p;have u:j<cap.length:=by
    rcases ql j cap.length with h|h
    .exact h
    .rw [cw h] at l;cases l
   simp only [y6,cr,l7,nA];rw [so (by simpa using u)];simp [l]
 have o:({ c₀ with mode:= .returning }:Frame)=c₀:=by rw [<-y]
 refine wpSIn_region ?_;have m:ops.size=ops.toList.length:=by rw [de]
 rw [m,List.range_eq_range'];have i:=VU (cs:=c₀::cs) (QS:=bodyPostS P fn c₀ cs λe k w'=>e= .returned (.tuple #[])/\k= .returning/\T w')
  (λe a w q=>by have:=apO (P:=P) (c₀:=c₀) (cs:=cs) (u':= .returning) (T:=T) (e:=e) d q;rw [o] at this;exact this) ops.toList 0 c (λj=>by rw [l7,qE]) _ _ (h _ b rfl)
 exact i
end
variable {w : World}
inductive Ex where
 |mk (op n at_:Int) (l:List Ex)
instance:Inhabited Ex:=⟨.mk 0 0 0 []⟩
def Ex.op:Ex->Int
 | .mk o _ _ _=>o
def Ex.n:Ex->Int
 | .mk _ n _ _=>n
def Ex.at_:Ex->Int
 | .mk _ _ a _=>a
def Ex.l:Ex->List Ex
 | .mk _ _ _ l=>l
mutual
def Ex.sz:Ex->Nat
 | .mk _ _ _ l=>szL l+1
def szL:List Ex->Nat
 |[]=>0
 |x::r=>Ex.sz x+szL r
end
inductive xq(M:Nat->Prop)(w:World):zq->Ex->Prop
 |nil (op n a:Int) (ad:Option Addr):xq M w [.int .i64 op,.int .i64 n,.int .i64 a,sl (ad,0,0)] (.mk op n a [])
 |some (op n a:Int) (l:List Ex) (b off cap:Nat) (cs:zp) (e:TypeId) (fr:Nat×Nat) (hM:¬M b) (hb:w.heap[b]? =some (.cells cs e fr)) (hc:l.length<=cap) (ho:off+cap*4<=cs.size)
   (hl:((cs.toList.drop off).take (l.length*4)).length=l.length*4) (h:∀i (hi:i<l.length),xq M w ((((cs.toList.drop off).take (l.length*4)).drop (i*4)).take 4) l[i]):
   xq M w [.int .i64 op,.int .i64 n,.int .i64 a,sl (some ⟨b,off,none⟩,l.length,cap)] (.mk op n a l)
theorem xq.len{M:Nat->Prop}{x:Ex}(h:xq M w vs x):vs.length=4:=by cases h <;> rfl
theorem xq.mv{M M':Nat->Prop}{w':World}{x:Ex}(h:xq M w vs x)(m:Mv M w M' w'):xq M' w' vs x:=by
 induction h with
 |nil op n a k=>exact .nil op n a k
 |some op n a l b off cap cs e fr g hb f c d _ ih=>
  obtain ⟨j,i⟩:=m.2 b (Array.getElem?_eq_some_iff.1 hb).1 g;exact .some op n a l b off cap cs e fr j (by rw [i];exact hb) f c d ih
def J7:eB Ex where
 n:=4
 rd:=xq
 len:=xq.len
 one h:=by cases h <;> simp [Value.oneCell',sl]
 mv:=xq.mv
theorem LZ{M:Nat->Prop}{x:Ex}(h:J7.rd M w vs x):∃v:gP,vs=[(.int .i64 x.op),(.int .i64 x.n),(.int .i64 x.at_),(sl v)]/\bW J7 M w (sl v) x.l:=by
 cases h with
 |nil op n a i=>exact ⟨_,rfl,.inl ⟨⟨_,rfl⟩,rfl⟩⟩
 |some op n a l b off cap cs e fr g hb f c d h=>exact ⟨_,rfl,.inr ⟨b,off,cap,cs,e,fr,rfl,g,hb,f,c,d,h⟩⟩
theorem Sj{M:Nat->Prop}{op n a:Int}{l:List Ex}(h:(Mw J7).rd M w [v] l):J7.rd M w [(.int .i64 op),(.int .i64 n),(.int .i64 a),v] (.mk op n a l):=by
 obtain ⟨p,hp,h⟩:=h;have c:v=sl p:=by simpa using hp
 subst c;rcases h with ⟨⟨k,h⟩,rfl⟩|⟨b,off,cap,cs,e,fr,h,j,hb,i,f,g,d⟩
 .rw [h];exact .nil op n a k
 .rw [h];exact .some op n a l b off cap cs e fr j hb i f g d
abbrev aC{α:Type}(c:Bool)(a b:α):α:=match c with
 |true=>a
 |false=>b
inductive Ty where
 |i (k:IntKind)
 |bo
 |s
 |un
 |n
 |p (x y:Ty)
 |l (x:Ty)
 |mp (k v:Ty)
 |ex
 deriving DecidableEq
def Ty.T:Ty->Type
 | .i _=>Int
 | .bo=>Bool
 | .s=>aS
 | .un=>Unit
 | .n=>Nat
 | .p x y=>x.T×y.T
 | .l x=>List x.T
 | .mp k v=>Option (List (k.T×v.T))
 | .ex=>Ex
def RNo(α:Type):eB α where
 n:=0
 rd _ _ _ _:=False
 len h:=h.elim
 one h:=h.elim
 mv h _:=h.elim
def RIf:eB Nat where
 n:=1
 rd _ _ vs x:=vs=[.iface x (.agg #[])]
 len h:=by rw [h];rfl
 one h:=by rw [h];simp [Value.oneCell']
 mv h _:=h
def Ty.rep:(t:Ty)->eB t.T
 | .i k=>RI k
 | .bo=>RB
 | .s=>RS
 | .un=>RU
 | .n=>RIf
 | .p x y=>RP x.rep y.rep
 | .l x=>Mw x.rep
 | .mp _ _=>RNo _
 | .ex=>J7
structure cn where
 t:Ty
 x:t.T
def cn.as(t:Ty)(d:cn):Option t.T:=if h:d.t=t then some (h▸d.x) else none
theorem cn.QH{t:Ty}{d:cn}{x:t.T}(h:d.as t=some x):d=⟨t,x⟩:=by
 unfold cn.as at h;split at h
 next e=>obtain ⟨t',y⟩:=d;simp only at e;subst e;cases h;rfl
 .cases h
theorem cn.atb{t:Ty}{x:t.T}:cn.as t ⟨t,x⟩=some x:=by simp [cn.as]
inductive AV where
 |int (k:IntKind) (x:Int)
 |bool (x:Bool)
 |str (x:aS)
 |agg (l:List AV)
 |tuple (l:List AV)
 |ptr (id off:Nat)
 |sl (id:Nat)
 |adr (id off:Nat)
 |fn (f:FuncId) (a b:List AV)
 |ifc (t:TypeId) (v:AV)
 |mp (id:Nat)
 |gp (b:Nat)
 |nv (id:Nat)
 |sfp (id:Nat) (f:Bool)
 |bs (id n:Nat)
 |raw (v:Value)
structure Nm where
 b:Nat
 v:gP
 a:Addr
 m:zt
 x:Value
 y:cn
abbrev aB:=Nat->Nm
def df:Nm:=⟨0,(none,0,0),⟨0,0,none⟩,none,.bool false,⟨.un,()⟩⟩
mutual
def AV.val(ρ:aB):AV->Value
 | .int k x=> .int k x
 | .bool x=> .bool x
 | .str x=>S x
 | .agg l=> .agg (AV.ar ρ l).toArray
 | .tuple l=> .tuple (AV.ar ρ l).toArray
 | .ptr id off=> .pointer (some ⟨(ρ id).b,off,none⟩)
 | .sl id=>Go.Proofs.YtdolcddlmodkkaaGreatDoor.sl (ρ id).v
 | .adr id off=> .pointer (some ((ρ id).a.add off))
 | .fn f a b=> .func (.func f) (AV.ar ρ a).toArray (AV.ar ρ b).toArray
 | .ifc t v=> .iface t (v.val ρ)
 | .mp id=> .map (ρ id).m
 | .gp b=> .pointer (some ⟨b,0,none⟩)
 | .nv id=>(ρ id).x
 | .sfp id f=>Dd f (ρ id).b
 | .bs id n=> .slice (some ⟨(ρ id).b,0,none⟩) n n
 | .raw v=>v
def AV.ar(ρ:aB):List AV->zq
 |[]=>[]
 |v::l=>v.val ρ::AV.ar ρ l
end
mutual
def AV.low(c:Nat):AV->Bool
 | .agg l|.tuple l=>AV.cm c l
 | .fn _ a b=>AV.cm c a&&AV.cm c b
 | .ifc _ v=>v.low c
 | .ptr id _|.sl id|.adr id _|.mp id|.nv id|.sfp id _|.bs id _=>Nat.blt id c
 |_=>true
def AV.cm(c:Nat):List AV->Bool
 |[]=>true
 |v::l=>v.low c&&AV.cm c l
end
def aW(c:Nat)(ρ ρ':aB):Prop:= ∀j,j<c->ρ' j=ρ j
theorem aW.refl{c:Nat}{ρ:aB}:aW c ρ ρ:=λ_ _=>rfl
theorem aW.trans{c d:Nat}{a b e:aB}(h:aW c a b)(k:aW d b e)(f:c<=d):aW c a e:=λj g=>(k j (gr g f)).trans (h j g)
theorem aW.less{c d:Nat}{a b:aB}(h:aW d a b)(e:c<=d):aW c a b:=λj f=>h j (gr f e)
mutual
theorem AV.mJ{ρ ρ':aB}{c:Nat}(d:aW c ρ ρ'):(v:AV)->v.low c=true->v.val ρ'=v.val ρ
 | .int _ _,_|.bool _,_|.str _,_|.raw _,_|.gp _,_=>by simp only [AV.val]
 | .agg l,h=>by simp only [AV.val];rw [AV.cj d l (by simpa only [AV.low] using h)]
 | .tuple l,h=>by simp only [AV.val];rw [AV.cj d l (by simpa only [AV.low] using h)]
 | .fn _ a b,h=>by
  simp only [AV.low,ah] at h;simp only [AV.val];rw [AV.cj d a h.1,AV.cj d b h.2]
 | .ifc _ v,h=>by simp only [AV.val];rw [AV.mJ d v (by simpa only [AV.low] using h)]
 | .ptr _ _,h=>by simp only [AV.val];rw [d _ (by simpa only [AV.low,j5] using h)]
 | .sl _,h=>by simp only [AV.val];rw [d _ (by simpa only [AV.low,j5] using h)]
 | .adr _ _,h=>by simp only [AV.val];rw [d _ (by simpa only [AV.low,j5] using h)]
 | .mp _,h=>by simp only [AV.val];rw [d _ (by simpa only [AV.low,j5] using h)]
 | .nv _,h=>by simp only [AV.val];rw [d _ (by simpa only [AV.low,j5] using h)]
 | .sfp _ _,h=>by simp only [AV.val];rw [d _ (by simpa only [AV.low,j5] using h)]
 | .bs _ _,h=>by simp only [AV.val];rw [d _ (by simpa only [AV.low,j5] using h)]
theorem AV.cj{ρ ρ':aB}{c:Nat}(a:aW c ρ ρ'):(l:List AV)->AV.cm c l=true->AV.ar ρ' l=AV.ar ρ l
 |[],_=>by simp only [AV.ar]
 |v::l,h=>by simp only [AV.cm,ah] at h;simp only [AV.ar];rw [AV.mJ a v h.1,AV.cj a l h.2]
end
mutual
theorem AV.gq{c d:Nat}(e:c<=d):(v:AV)->v.low c=true->v.low d=true
 | .int _ _,_|.bool _,_|.str _,_|.raw _,_|.gp _,_=>by simp only [AV.low]
 | .agg l,h=>by simp only [AV.low] at h ⊢; exact AV.kO e l h
 | .tuple l,h=>by simp only [AV.low] at h ⊢; exact AV.kO e l h
 | .fn _ a b,h=>by simp only [AV.low,ah] at h ⊢; exact ⟨AV.kO e a h.1,AV.kO e b h.2⟩
 | .ifc _ v,h=>by simp only [AV.low] at h ⊢; exact AV.gq e v h
 | .ptr _ _,h=>by simp only [AV.low,j5] at h ⊢; omega
 | .sl _,h=>by simp only [AV.low,j5] at h ⊢; omega
 | .adr _ _,h=>by simp only [AV.low,j5] at h ⊢; omega
 | .mp _,h=>by simp only [AV.low,j5] at h ⊢; omega
 | .nv _,h=>by simp only [AV.low,j5] at h ⊢; omega
 | .sfp _ _,h=>by simp only [AV.low,j5] at h ⊢; omega
 | .bs _ _,h=>by simp only [AV.low,j5] at h ⊢; omega
theorem AV.kO{c d:Nat}(a:c<=d):(l:List AV)->AV.cm c l=true->AV.cm d l=true
 |[],_=>by simp only [AV.cm]
 |v::l,h=>by simp only [AV.cm,ah] at h ⊢;exact ⟨AV.gq a v h.1,AV.kO a l h.2⟩
end
theorem Sf{c:Nat}:{l m:List AV}->AV.cm c l=true->AV.cm c m=true->AV.cm c (l++m)=true
 |[],m,_,h=>h
 |v::l,m,h,k=>by simp only [n5,AV.cm,ah] at h ⊢;exact ⟨h.1,Sf h.2 k⟩
theorem AV.agT{ρ:aB}{l:List AV}{i:Nat}{v:AV}(h:l[i]? =some v):(AV.ar ρ l)[i]? =some (v.val ρ):=by
 induction l generalizing i with
 |nil=>simp at h
 |cons u l ih=>
  cases i with
  |zero=>simp at h;subst h;simp [AV.ar]
  |succ i=>simp only [AV.ar,c8] at h ⊢; exact ih h
theorem AV.iM{ρ:aB}:{l:List AV}->{k:Nat}->AV.ar ρ (l.drop k)=(AV.ar ρ l).drop k
 |l,0=>by simp
 |[],k+1=>by simp [AV.ar]
 |v::l,k+1=>by simp only [AV.ar,List.drop_succ_cons];exact AV.iM
theorem AV.kM{ρ:aB}:{l:List AV}->{k:Nat}->AV.ar ρ (l.take k)=(AV.ar ρ l).take k
 |l,0=>by simp [AV.ar]
 |[],k+1=>by simp [AV.ar]
 |v::l,k+1=>by simp only [AV.ar,tj];rw [AV.kM]
theorem AV.bu{ρ:aB}:{l:List AV}->(AV.ar ρ l).length=l.length
 |[]=>by simp [AV.ar]
 |v::l=>by simp [AV.ar,AV.bu]
theorem dA{ρ:aB}:{l m:List AV}->AV.ar ρ (l++m)=AV.ar ρ l++AV.ar ρ m
 |[],m=>by simp [AV.ar]
 |v::l,m=>by simp only [n5,AV.ar];rw [dA]
abbrev GK:=Option (Nat×Bool)
inductive Row where
 |box (id:Nat) (t:TypeId) (vs:List AV)
 |sli (g:GK) (id:Nat) (t:Ty) (l:List t.T) (clip:Bool)
 |own (id:Nat) (t:Ty) (e:TypeId) (l:List t.T) (ver:Nat)
 |kn (g:GK) (q id ver:Nat) (t:Ty) (i:Int) (x:t.T)
 |elm (g:GK) (id:Nat) (vs:List AV)
 |mp (id:Nat) (k v:Ty) (d:Option (List (k.T×v.T)))
 |it (id:Nat) (s:aS) (p:Nat)
 |eq (id:Nat) (v:AV)
 |gone
inductive Pt where
 |int (k:IntKind)|bool|str
 |sli (t:Ty)
 |own (t:Ty) (e:TypeId) (m:Bool)
 |slr (n:Nat)
 |bx (t:TypeId) (off:Nat) (m:Bool) (vs:List Pt)
 |ptr (n off:Nat)
 |mp (k v:Ty) (m:Bool)
 |it
 |agg (l:List Pt)|cB (l:List Pt)
 |fn (f:FuncId) (a b:List Pt)
 |ifc (t:TypeId) (p:Pt)
 |kB (v:AV)
 |dat (t:Ty) (o:zf)
 |ifn
 |sfp
 |sty (p:Pt)
 |same
abbrev aG:=List (Nat×GK×AV)
structure Tm where
 vs:List (Bool×Nat×Pt)
 th:zC
inductive HT where
 |o
 |c (a b:HT)
 |l (t:Tm) (a:HT)
 |j (t:Tm) (a b:HT)
 |s (a:HT)
 |n (k:Nat) (a:HT)
 |r (th:zC) (a:HT)
structure aE where
 c:Nat
 E:aG
 G:List Row
 h:HT
structure Fr where
 F:aG
 H:List Row
 n:Nat
inductive XE where
 |nrm|ret
 |ext (i:Nat)
 |gto (l:Nat)
 |je (v:AV)
 |panE (v:AV)
 |panL (v:AV)
def aap:Bool->Bool->Bool
 |true,b=>b
 |false,b=> !b
theorem aiJ:{a b:Bool}->aap a b=true->a=b
 |true,_,h=>h.symm
 |false,b,h=>by cases b <;> simp_all [aap]
theorem amr:(a:Bool)->aap a a=true
 |true=>rfl
 |false=>rfl
def GK.eq:GK->GK->Bool
 |none,none=>true
 |some (j,p),some (k,q)=>Nat.beq j k&&aap p q
 |_,_=>false
theorem GK.eq_eq:{a b:GK}->a.eq b=true->a=b
 |none,none,_=>rfl
 |some (j,p),some (k,q),h=>by simp only [GK.eq,ah] at h;rw [ai h.1,aiJ h.2]
abbrev aD:=List ((Nat×Bool)×GK×Nat×Bool)
def yZ(p b:Bool):Bool:=match p with
 |true=>b
 |false=> !b
theorem Qb(p b:Bool):yZ p b=(b==p):=by cases p <;> cases b <;> rfl
def aD.get:aD->GK->Bool
 |_,none=>true
 |[],some _=>false
 |(k,par,_,b)::T,some k'=>aC ( GK.eq (some k) (some k') ) ( (aD.get T par&&yZ k.2 b) )<|aD.get T (some k')
@[simp] theorem aD.get_none {T : aD} : T.get none = true := by cases T <;> rfl
theorem aD.Vz{k:Nat×Bool}{par:GK}{rj:Nat}{b:Bool}{T:aD}{x:GK}(h:(!(GK.eq (some k) x))=true):aD.get ((k,par,rj,b)::T) x=T.get x:=by
 cases x with
 |none=>simp
 |some a=>
  simp only [aD.get];cases hb:GK.eq (some k) (some a)
  .rfl
  .rw [hb] at h;cases h
theorem GK.ai8:(k:Nat×Bool)->GK.eq (some k) (some k)=true:=λk=>by simp [GK.eq,amr]
theorem aD.aq7{k:Nat×Bool}{par:GK}{rj:Nat}{b:Bool}{T:aD}:aD.get ((k,par,rj,b)::T) (some k)=(T.get par&&yZ k.2 b):=by simp only [aD.get,GK.ai8]
def wg(p:gP):zC:=match p.2.2 with
 |0=>[]
 |_+1=>dV (sl p)
section
variable {α : Type} {A : eB α} {e : TypeId} {M M' : Nat -> Prop} {w w' : World}
theorem bR.canon{p:gP}{xs:List α}(h:bR A e M w (sl p) xs R):(∀b∈wg p,b∈R)/\∀(M':Nat->Prop) (w':World),bR A e M' w' (sl p) xs R->bR A e M' w' (sl p) xs (wg p):=by
 obtain ⟨a,n,cap⟩:=p;cases cap with
 |zero=>
  refine ⟨λb hb=>(by cases hb),λM' w' d=>?_⟩;have hx:xs=[]:=by
   rcases d with ⟨_,d⟩|⟨_,d,_⟩
   .obtain ⟨cells,⟨_,l⟩,_⟩:=d;rcases l with ⟨_,m⟩|⟨g,o,c,cur,i,s,t,r⟩
    .exact eb m
    .simp only [sl,Value.slice.injEq] at i;exact eb (by omega)
   .exact d
  obtain ⟨q,u,f⟩:=d.len;simp only [sl,Value.slice.injEq] at f;have j:n=0:=by rw [f.2.1,hx];rfl
  subst j;exact .inr ⟨rfl,hx,⟨a,rfl⟩,bW.emp⟩
 |succ c=>
  have key:∀(M':Nat->Prop) (w':World),bR A e M' w' (sl (a,n,c+1)) xs R->R=dV (sl (a,n,c+1)):=λM' w' d=>by
   rcases d with ⟨d,_⟩|⟨_,_,⟨q,d⟩,_⟩
   .exact d
   .simp only [sl,Value.slice.injEq] at d;omega
  have k:=key _ _ h;subst k;exact ⟨λb hb=>hb,λM' w' d=>d⟩
theorem bR.D9{p:gP}{xs:List α}(h:bR A e M w (sl p) xs R):bR A e M w (sl p) xs (wg p):=h.canon.2 _ _ h
def pw(A:eB α)(e:TypeId)(p:gP)(l:List α)(q:Prop):Item where
 own:=wg p
 P M w:=bR A e M w (sl p) l (wg p)/\q
 lt h:=h.1.lt
 cE h m k _:=⟨h.1.cE k m,h.2⟩
 cV:=false
 hp h:=by cases h
def Is(g:Bool)(A:eB α)(p:gP)(l:List α)(clip:Bool):Item where
 own:=[]
 P M w:=g=true->bW A M w (sl p) l/\(clip=true->p.2.2=l.length)
 lt _ b hb:=by cases hb
 cE h m _ _:=λhg=>⟨(h hg).1.mv m,(h hg).2⟩
 cV:=true
 hp _:=rfl
def adK(p:Prop):Item where
 own:=[]
 P _ _:=p
 lt _ b hb:=by cases hb
 cE h _ _ _:=h
 cV:=true
 hp _:=rfl
end
def Hy:(t:Ty)->t.T->Value
 | .i k,x=> .int k x
 | .s,x=>S x
 | .bo,x=> .bool x
 | .p (.i a) (.i b),x=>XT a b x
 |_,_=> .bool false
def Row.item(ρ:aB)(T:aD):Row->Item
 | .box id t vs=>Go.Proofs.YtdolcddlmodkkaaGreatDoor.box (ρ id).b t (AV.ar ρ vs)
 | .sli g id t l b=>Is (T.get g) t.rep (ρ id).v l b
 | .own id t e l ver=>pw t.rep e (ρ id).v l ((ρ ver).y=⟨.l t,l⟩)
 | .kn g q id ver t i x=>adK (T.get g=true->∃l:List t.T,(ρ ver).y=⟨.l t,l⟩/\idx l i=some x/\(ρ q).a=tW (Go.Proofs.YtdolcddlmodkkaaGreatDoor.sl (ρ id).v) i t.rep.n)
 | .elm g id vs=>elem (T.get g) (ρ id).a (AV.ar ρ vs)
 | .mp id k v d=>omap (Hy k) (Hy v) (.map (ρ id).m) d
 | .it id s p=>iter (ρ id).b s p
 | .eq id v=>adK ((ρ id).x=v.val ρ)
 | .gone=>adK True
abbrev ab(ρ:aB)(T:aD)(G:List Row):Ctx:=G.map (Row.item ρ T)
def Row.low(c:Nat):Row->Bool
 | .box id _ vs=>Nat.blt id c&&AV.cm c vs
 | .sli _ id _ _ _|.mp id _ _ _|.it id _ _=>Nat.blt id c
 | .own id _ _ _ ver=>Nat.blt id c&&Nat.blt ver c
 | .kn _ q id ver _ _ _=>Nat.blt q c&&Nat.blt id c&&Nat.blt ver c
 | .elm _ id vs=>Nat.blt id c&&AV.cm c vs
 | .eq id v=>Nat.blt id c&&v.low c
 | .gone=>true
def bI(c:Nat):List Row->Bool
 |[]=>true
 |r::G=>r.low c&&bI c G
theorem Row.CK{ρ ρ':aB}{T:aD}{c:Nat}(a:aW c ρ ρ'){r:Row}(h:r.low c=true):r.item ρ' T=r.item ρ T:=by
 cases r <;> simp only [Row.low,ah,j5] at h
 .simp only [Row.item];rw [a _ h.1,AV.cj a _ h.2]
 .simp only [Row.item];rw [a _ h]
 .simp only [Row.item];rw [a _ h.1,a _ h.2]
 .simp only [Row.item];rw [a _ h.1.1,a _ h.1.2,a _ h.2]
 .simp only [Row.item];rw [a _ h.1,AV.cj a _ h.2]
 .simp only [Row.item];rw [a _ h]
 .simp only [Row.item];rw [a _ h]
 .simp only [Row.item];rw [a _ h.1,AV.mJ a _ h.2]
 .simp only [Row.item]
theorem bh{ρ ρ':aB}{T:aD}{c:Nat}(a:aW c ρ ρ'):{G:List Row}->bI c G=true->ab ρ' T G=ab ρ T G
 |[],_=>rfl
 |r::G,h=>by simp only [bI,ah] at h;simp only [ab,er];rw [Row.CK a h.1];have:=bh (T:=T) a h.2;simp only [ab] at this;rw [this]
def aG.env(ρ:aB)(T:aD):aG->Env
 |[]=>[]
 |(t,g,v)::E=>(t,T.get g,v.val ρ)::aG.env ρ T E
def aG.low(c:Nat):aG->Bool
 |[]=>true
 |x::E=>x.2.2.low c&&aG.low c E
theorem sH{ρ ρ':aB}{T:aD}{c:Nat}(a:aW c ρ ρ'):{E:aG}->E.low c=true->aG.env ρ' T E=aG.env ρ T E
 |[],_=>rfl
 |(t,g,v)::E,h=>by simp only [aG.low,ah] at h;simp only [aG.env];rw [AV.mJ a v h.1,sH a h.2]
def aE.low(fr:Fr)(st:aE):Bool:=aG.low st.c st.E&&aG.low st.c fr.F&&bI st.c st.G&&bI st.c fr.H
def aB.set(ρ:aB)(j:Nat)(x:Nm):aB:=λi=>aC (Nat.beq i j) x (ρ i)
theorem aB.bH{ρ:aB}{j:Nat}{x:Nm}:ρ.set j x j=x:=by simp [aB.set]
theorem aB.bd{ρ:aB}{j:Nat}{x:Nm}:aW j ρ (ρ.set j x):=λi hi=>by
 unfold aB.set;have:Nat.beq i j=false:=by
  cases hb:Nat.beq i j
  .rfl
  .exact absurd (ai hb) (Nat.ne_of_lt hi)
 rw [this]
def j9(E' E:Env):Prop:= ∀t p,look E' t=some p->look E t=some p
theorem j9.refl{E:Env}:j9 E E:=λ_ _ h=>h
theorem j9.trans{A B C:Env}(h:j9 A B)(k:j9 B C):j9 A C:=λt p hp=>k t p (h t p hp)
theorem Fits.nS{n:Nat}{E:Env}{a:Act}(h:Fits n E a)(c:j9 E' E):Fits n E' a:=⟨h.size,λt g v b=>h.at_ t g v (c t _ b)⟩
theorem WC.nS{P:Program}{ρ:zt}{c:Code}{Q:bD}{n:Nat}{D:zm}{E:Env}{w:World}(E':Env)(b:j9 E' E)(h:WC P ρ c Q n D E' w):WC P ρ c Q n D E w:=
 λa d e=>h a (d.nS b) e
theorem At.nS{e:Exit}{Q:bD}{n:Nat}{D:zm}{E:Env}{w:World}(E':Env)(b:j9 E' E)(h:At Q e n D E' w):At Q e n D E w:=
 λa c d=>h a (c.nS b) d
theorem HS{A B:Env}{t:Nat}:look (A++B) t=match look A t with
  |some p=>some p
  |none=>look B t:=by
 induction A with
 |nil=>rfl
 |cons x A ih=>
  obtain ⟨r,g,v⟩:=x;simp only [n5,look];cases Nat.beq r t
  .simp only [aZ];exact ih
  .rfl
theorem o9{ρ:aB}{T:aD}:{E F:aG}->aG.env ρ T (E++F)=aG.env ρ T E++aG.env ρ T F
 |[],_=>rfl
 |(t,g,v)::E,F=>by simp only [n5,aG.env];rw [o9]
theorem bp{ρ:aB}{T:aD}{G H:List Row}:ab ρ T (G++H)=ab ρ T G++ab ρ T H:=q0
variable {a : Option α} {Φ : Ctx} {ρ : aB}
theorem aI{c:Bool}{r:α}(h:aC c a none=some r):c=true/\a=some r:=by
 cases c
 .cases h
 .exact ⟨rfl,h⟩
theorem QL{c:Bool}{r:α}(h:aC c none a=some r):c=false/\a=some r:=by
 cases c
 .exact ⟨rfl,h⟩
 .cases h
theorem dT{c:Bool}{b:Option α}{r:α}(h:aC c a b=some r):(c=true/\a=some r)\/(c=false/\b=some r):=by
 cases c
 .exact .inr ⟨rfl,h⟩
 .exact .inl ⟨rfl,h⟩
def aD.imp:aD->GK->GK->Bool
 |_,_,none=>true
 |[],_,some _=>false
 |_,none,some _=>false
 |(k,par,_,_)::T,some g,some g'=>GK.eq (some g) (some g')||(aC ( GK.eq (some k) (some g) ) ( aD.imp T par (some g') )<|aD.imp T (some g) (some g'))&& !(GK.eq (some k) (some g'))
theorem aD.kT:{T:aD}->{g g':GK}->T.imp g g'=true->T.get g=true->T.get g'=true
 |T,g,none,_,_=>by simp
 |[],g,some g',h,_=>by simp [aD.imp] at h
 |_::_,none,some g',h,_=>by simp [aD.imp] at h
 |(k,par,rj,b)::T,some g,some g',h,hg=>by
  simp only [aD.imp,eF,ah] at h;rcases h with h|⟨a,c⟩
  .rw [<-GK.eq_eq h];exact hg
  .rw [aD.Vz c];cases hb:GK.eq (some k) (some g)
   .rw [hb] at a;rw [aD.Vz (by rw [hb];rfl)] at hg;exact aD.kT a hg
   .rw [hb] at a;simp only [aD.get,hb,ah] at hg;exact aD.kT a hg.1
def bE:aG->Nat->Option (GK×AV)
 |[],_=>none
 |(r,g,v)::E,t=>aC ( Nat.beq r t ) ( some (g,v) )<|bE E t
def ek(E F:aG)(t:Nat):Option (GK×AV):=match bE E t with
 |some x=>some x
 |none=>bE F t
theorem vR{ρ:aB}{T:aD}{t:Nat}:{E:aG}->look (aG.env ρ T E) t=(bE E t).map λx=>(T.get x.1,x.2.val ρ)
 |[]=>rfl
 |(r,g',v')::E=>by
  simp only [bE,aG.env,look];cases hb:Nat.beq r t
  .simp only [aZ];exact vR
  .rfl
abbrev az(ρ:aB)(T:aD)(E F:aG):Env:=aG.env ρ T E++aG.env ρ T F
theorem hZ{T:aD}{t:Nat}{E F:aG}:look (az ρ T E F) t=(ek E F t).map λx=>(T.get x.1,x.2.val ρ):=by rw [HS,vR,vR];unfold ek;cases bE E t <;> rfl
def kB:Value->AV
 | .int k x=> .int k x
 | .bool x=> .bool x
 | .string b=> .str b.data.toList
 |v=> .raw v
theorem aiR:(kB v).val ρ=v:=by cases v <;> simp [kB,AV.val,S]
theorem nk{ρ:aB}:{l:zq}->AV.ar ρ (l.map kB)=l
 |[]=>by simp [AV.ar]
 |v::l=>by simp only [er,AV.ar];rw [aiR,nk]
theorem atc{c:Nat}:(kB v).low c=true:=by cases v <;> simp [kB,AV.low]
theorem aet{c:Nat}:{l:zq}->AV.cm c (l.map kB)=true
 |[]=>by simp [AV.cm]
 |v::l=>by simp only [er,AV.cm];rw [atc,aet];rfl
def bC(T:aD)(E F:aG)(g:GK):Operand->Option AV
 | .tmp t=>match ek E F t with
  |some x=>aC ( T.imp g x.1 ) ( some x.2 )<|none
  |none=>none
 | .const v=>some (kB v)
 | .func f=>some (.fn f [] [])
 | .global f=>some (.gp f)
theorem aV{T:aD}{E F:aG}{g:GK}{v:AV}(h:bC T E F g x=some v):aw (az ρ T E F) (T.get g) x (v.val ρ):=by
 cases x with
 |tmp t=>
  unfold bC at h;dsimp only at h;cases a:ek E F t with
  |none=>rw [a] at h;cases h
  |some x=>
   rw [a] at h;obtain ⟨d,b⟩:=aI h;cases b;exact aw.g (g':=T.get x.1) (by rw [hZ,a];rfl) (aD.kT d)
 |const u=>cases h;rw [aiR];exact aw.c
 |func f=>cases h;simp only [AV.val,AV.ar];exact aw.f
 |global f=>cases h;simp only [AV.val];exact aw.gl
theorem bL{T:aD}{E F:aG}{v:AV}(h:bC T E F none x=some v):aw (az ρ T E F) true x (v.val ρ):=by have:=aV (ρ:=ρ) h;rwa [aD.get_none] at this
def sy(T:aD)(E F:aG)(g:GK):zn->Option (List AV)
 |[]=>some []
 |x::l=>match bC T E F g x with
  |some v=>match sy T E F g l with
   |some vs=>some (v::vs)
   |none=>none
  |none=>none
theorem ie{ρ:aB}{T:aD}{E F:aG}{g:GK}:{xs:zn}->{vs:List AV}->sy T E F g xs=some vs->iQ (az ρ T E F) (T.get g) xs (AV.ar ρ vs)
 |[],vs,h=>by cases h;simp only [AV.ar];exact .nil
 |x::l,vs,h=>by
  unfold sy at h;split at h
  .rename_i v b;split at h
   next us a=>cases h;simp only [AV.ar];exact .cons (aV b) (ie a)
   .cases h
  .cases h
def pz(p:Row->Bool):List Row->Option (Nat×Row)
 |[]=>none
 |r::G=>aC ( p r ) ( some (0,r) )<|match pz p G with
  |some x=>some (x.1+1,x.2)
  |none=>none
theorem mZ{p:Row->Bool}:{G:List Row}->{i:Nat}->{r:Row}->pz p G=some (i,r)->G[i]? =some r/\p r=true
 |[],_,_,h=>by cases h
 |r0::G,i,r,h=>by
  unfold pz at h;rcases dT h with ⟨b,a⟩|⟨b,a⟩
  .cases a;exact ⟨rfl,b⟩
  .split at a
   next x hx=>cases a;obtain ⟨d,c⟩:=mZ (i:=x.1) (r:=x.2) hx;exact ⟨by simpa using d,c⟩
   .cases a
def ox(id:Nat):Row->Bool
 | .sli _ j _ _ _|.own j _ _ _ _=>Nat.beq j id
 |_=>false
def A4(id:Nat):Row->Bool
 | .box j _ _=>Nat.beq j id
 |_=>false
def alJ(id:Nat):Row->Bool
 | .mp j _ _ _=>Nat.beq j id
 |_=>false
def atE(id:Nat):Row->Bool
 | .it j _ _=>Nat.beq j id
 |_=>false
def isEq(id:Nat):Row->Bool
 | .eq j _=>Nat.beq j id
 |_=>false
def UA(q:Nat):Row->Bool
 | .kn _ j _ _ _ _ _=>Nat.beq j q
 |_=>false
def avw(id:Nat):Row->Bool
 | .elm _ j _=>Nat.beq j id
 |_=>false
def Row.id:Row->Nat
 | .box j _ _|.sli _ j _ _ _|.own j _ _ _ _|.mp j _ _ _|.it j _ _|.eq j _|.elm _ j _|.kn _ j _ _ _ _ _=>j
 | .gone=>0
def Row.cV:Row->Bool
 | .sli ..|.elm ..|.eq ..|.kn ..|.gone=>true
 |_=>false
theorem Row.anW{T:aD}{r:Row}(h:r.cV=true):(r.item ρ T).cV=true:=by cases r <;> first|rfl|cases h
theorem gm{T:aD}{G:List Row}{i:Nat}{r:Row}(h:G[i]? =some r):(ab ρ T G++Φ)[i]? =some (r.item ρ T):=by have a:i<G.length:=(List.getElem?_eq_some_iff.1 h).1;rw [cy (by simpa [ab] using a)];simp [ab,h]
theorem abV{T:aD}{G H:List Row}{i:Nat}{r:Row}(h:H[i]? =some r):(ab ρ T G++(ab ρ T H++Φ))[G.length+i]? =some (r.item ρ T):=by
 rw [ca (by simp [ab])];have:G.length+i-(ab ρ T G).length=i:=by simp [ab]
 rw [this];exact gm h
inductive Src where
 |top (i:Nat)
 |cP (i:Nat)
 |nilI (t:Ty)
 |nilO (t:Ty) (e:TypeId)
 |nilM (k v:Ty)
def eK(G H:List Row)(p:Row->Bool):Option (Src×Row):=match pz p G with
 |some x=>some (.top x.1,x.2)
 |none=>match pz p H with
  |some x=>some (.cP x.1,x.2)
  |none=>none
def Src.at_(G H:List Row):Src->Row->Prop
 | .top i,r=>G[i]? =some r
 | .cP i,r=>H[i]? =some r
 |_,_=>False
theorem ck{p:Row->Bool}{G H:List Row}{s:Src}{r:Row}(h:eK G H p=some (s,r)):s.at_ G H r/\p r=true:=by
 unfold eK at h;split at h
 next x hx=>cases h;exact mZ hx
 .split at h
  next x hx=>cases h;exact mZ hx
  .cases h
theorem Src.item{T:aD}{G H:List Row}{s:Src}{r:Row}(h:s.at_ G H r):∃i:Nat,(ab ρ T G++(ab ρ T H++Φ))[i]? =some (r.item ρ T):=by
 cases s with
 |top i=>exact ⟨i,gm h⟩
 |cP i=>exact ⟨G.length+i,abV h⟩
 |nilI=>exact h.elim
 |nilO=>exact h.elim
 |nilM=>exact h.elim
theorem Src.holds{T:aD}{G H:List Row}{s:Src}{r:Row}(a:Sat (ab ρ T G++(ab ρ T H++Φ)) w)(h:s.at_ G H r):(r.item ρ T).P (Ctx.M (ab ρ T G++(ab ρ T H++Φ))) w:=by obtain ⟨i,hi⟩:=Src.item (ρ:=ρ) (T:=T) (Φ:=Φ) h;exact a.at_ hi
def vf(n:Nat):zC->Bool
 |[]=>false
 |m::l=>Nat.beq n m||vf n l
theorem af0{n:Nat}:{l:zC}->(vf n l=true↔n∈l)
 |[]=>by simp [vf]
 |m::l=>by simp only [vf,eF,pa];rw [af0,Nat.beq_eq]
variable {cv : zo × AV}
structure Inl where
 f:FuncId
 run:{R:Type}->List AV->List Row->aE->(AV->aE->Option R)->Option R
def Inl.Ok(P:Program)(i:Inl):Prop:=Enters P i.f/\∀{R:Type} (r:R) (args:List AV) (H:List Row) (st:aE) (K:AV->aE->Option R) (ρ:aB) (Φ:Ctx) (w:World),Sat (ab ρ [] st.G++(ab ρ [] H++Φ)) w->
 i.run args H st K=some r->gK P i.f (AV.ar ρ args) w λv w'=>∃(ρ':aB) (st':aE) (av:AV),K av st'=some r/\aW st.c ρ ρ'/\st.c<=st'.c/\av.val ρ'=v/\Sat (ab ρ' [] st'.G++(ab ρ' [] H++Φ)) w'
structure Cx where
 P:Program
 tys:List (TypeId×Ty)
 gls:List (Nat×Nat×cn)
 ids:List FuncId
 idsOk:∀f,f∈ids->ao3 P f
 fl:Nat
 ks:List TypeId
 inl:List Inl
 inlOk:∀i,i∈inl->i.Ok P
 oc:List (Nat×Nat):=[]
def C2{α:Type}:List (Nat×α)->Nat->Option α
 |[],_=>none
 |x::l,n=>aC ( Nat.beq x.1 n ) ( some x.2 )<|C2 l n
def Kd{ρ:Type}(c:zo)(g:zo)(k:Option ρ):Option ρ:=match c with
 |none=>k
 |some c=>match g with
  |none=>aJ c k
  |some g=>aaE g c k
theorem sP{ρ:Type}{T:aD}{c:zo}{g:GK}{k:Option ρ}{r:ρ}(h:Kd c (g.map λ_=>T.get g) k=some r):(∀b,c=some b->T.get g=true->b=true)/\k=some r:=by
 unfold Kd at h;split at h
 .exact ⟨λb hb=>(by cases hb),h⟩
 .split at h
  next a=>obtain ⟨e,d⟩:=fj h;exact ⟨λb hb _=>(by cases hb;exact e),d⟩
  .rename_i g' a;cases g with
   |none=>cases a
   |some i=>
    simp only [mj,cH] at a;subst a;obtain ⟨e,d⟩:=amN h;exact ⟨λb hb f=>(by cases hb;exact e f),d⟩
abbrev CV:=Option (zo×AV)
def pv(v:AV):CV:=some (none,v)
def gF(a b:IntKind):Bool:=decide (a=b)
theorem iI{a b:IntKind}(h:gF a b=true):a=b:=by simpa [gF] using h
def amf(k k':IntKind)(m l:Int):BinOp->CV
 | .add=>aC ( gF k k' ) ( pv (.int k (k.wrap (m+l))) ) none
 | .sub=>aC ( gF k k' ) ( pv (.int k (k.wrap (m-l))) ) none
 | .mul=>aC ( gF k k' ) ( pv (.int k (k.wrap (m*l))) ) none
 | .quo=>aC ( gF k k' ) ( some (some (l != 0),.int k (k.wrap (m.tdiv l))) ) none
 | .rem=>aC ( gF k k' ) ( some (some (l != 0),.int k (m.tmod l)) ) none
 | .eql=>aC ( gF k k' ) ( pv (.bool (m==l)) ) none
 | .neq=>aC ( gF k k' ) ( pv (.bool (m != l)) ) none
 | .lss=>aC ( gF k k' ) ( pv (.bool (decide (m<l))) ) none
 | .leq=>aC ( gF k k' ) ( pv (.bool (decide (m<=l))) ) none
 | .gtr=>aC ( gF k k' ) ( pv (.bool (decide (l<m))) ) none
 | .geq=>aC ( gF k k' ) ( pv (.bool (decide (l<=m))) ) none
 | .shr=>some (some (decide (0<=l)),.int k (gT k m l))
 | .shl=>some (some (decide (0<=l)),.int k (bZ k m l))
 | .and=>aC ( gF k k' ) ( pv (.int k (kb k m l)) ) none
 | .or=>aC ( gF k k' ) ( pv (.int k (ed k m l)) ) none
 | .xor=>aC ( gF k k' ) ( pv (.int k (Fb k m l)) ) none
 | .andNot=>aC ( gF k k' ) ( pv (.int k (bP k m l)) ) none
def alQ(m l:aS):BinOp->CV
 | .eql=>pv (.bool (m==l))
 | .neq=>pv (.bool (m != l))
 | .add=>some (some (ae3 m l),.str (m++l))
 | .lss=>pv (.bool (Mt m l))
 | .leq=>pv (.bool (Mt m l||m==l))
 | .gtr=>pv (.bool (!(Mt m l||m==l)))
 | .geq=>pv (.bool (!(Mt m l)))
 |_=>none
def aoo(m l:Bool):BinOp->CV
 | .eql=>pv (.bool (m==l))
 | .neq=>pv (.bool (m != l))
 |_=>none
def tyK(P:Program)(t:TypeId):Option IntKind:=match P.underlying t with
 |some (.int k)=>some k
 |_=>none
theorem JL{P:Program}{t:TypeId}{k:IntKind}(h:tyK P t=some k):P.underlying t=some (.int k):=by
 unfold tyK at h;split at h
 next b a=>cases h;exact a
 .cases h
def isStr(P:Program)(t:TypeId):Bool:=match P.underlying t with
 |some .string=>true
 |_=>false
theorem sN{P:Program}{t:TypeId}(h:isStr P t=true):P.underlying t=some .string:=by
 unfold isStr at h;split at h
 .assumption
 .cases h
def isBool(P:Program)(t:TypeId):Bool:=match P.underlying t with
 |some .bool=>true
 |_=>false
theorem abF{P:Program}{t:TypeId}(h:isBool P t=true):P.underlying t=some .bool:=by
 unfold isBool at h;split at h
 .assumption
 .cases h
def ap6(P:Program)(t:TypeId):Bool:=match P.underlying t with
 |some _=>true
 |none=>false
theorem avg{P:Program}{t:TypeId}(h:ap6 P t=true):∃d,P.underlying t=some d:=by
 unfold ap6 at h;split at h
 next d a=>exact ⟨d,a⟩
 .cases h
def akk(P:Program)(t:TypeId)(op:BinOp):AV->AV->CV
 | .int k m,.int k' l=>amf k k' m l op
 | .str m,.str l=>alQ m l op
 | .bool m,.bool l=>aC ( isBool P t ) ( aoo m l op ) none
 |_,_=>none
def aoQ:UnOp->AV->CV
 | .not,.bool b=>pv (.bool (!b))
 | .neg,.int k m=>pv (.int k (k.wrap (0-m)))
 |_,_=>none
def arA:AV->Bool
 | .ptr _ _|.adr _ _|.fn _ _ _=>true
 |_=>false
def nY(P:Program)(Ev:Env)(ρ:aB)(g:Bool)(o:Oper)(w:World)(cv:zo×AV):Prop:=
 (∀b,cv.1=some b->g=true->b=true)->bk P Ev g o w (cv.2.val ρ)
section
variable {P : Program} {ρ : aB} {g : Bool} {w : World} {dst : zu} {ty : TypeId} {pos : String} {af : zw} {gd : zg} {Ev : Env}
theorem nY.pv{o:Oper}{v:AV}(h:pv v=some cv)(a:bk P Ev g o w (v.val ρ)):nY P Ev ρ g o w cv:=by cases h;exact λ_=>a
theorem amK{t:TypeId}{op:BinOp}{k f:IntKind}{m l:Int}(hx:aw Ev g x (.int k m))(c:aw Ev g y (.int f l))(h:amf k f m l op=some cv):
  nY P Ev ρ g ⟨dst,.binOp op t x y t',ty,pos,af,gd⟩ w cv:=by
 have key:∀{a:CV},aC (gF k f) a none=some cv->k=f/\a=some cv:=λh=>⟨iI (aI h).1,(aI h).2⟩;cases op <;> simp only [amf] at h
 case shr=>cases h;exact λe=>asz hx c (λd=>e _ rfl d)
 case shl=>cases h;exact λe=>asg hx c (λd=>e _ rfl d)
 case quo=>
  obtain ⟨rfl,b⟩:=key h;cases b;exact λe n a i d=>ast hx c (by have:=e _ rfl d;simpa using this) n a i d
 case rem=>
  obtain ⟨rfl,b⟩:=key h;cases b;exact λe n a i d=>asI hx c (by have:=e _ rfl d;simpa using this) n a i d
 case add=>obtain ⟨rfl,b⟩:=key h;exact .pv b (vW hx c)
 case sub=>obtain ⟨rfl,b⟩:=key h;exact .pv b (aju hx c)
 case mul=>obtain ⟨rfl,b⟩:=key h;exact .pv b (ath hx c)
 case eql=>obtain ⟨rfl,b⟩:=key h;exact .pv b (tO hx c)
 case neq=>obtain ⟨rfl,b⟩:=key h;exact .pv b (asa hx c)
 case lss=>obtain ⟨rfl,b⟩:=key h;exact .pv b (ajK hx c)
 case leq=>obtain ⟨rfl,b⟩:=key h;exact .pv b (asY hx c)
 case gtr=>obtain ⟨rfl,b⟩:=key h;exact .pv b (ZA hx c)
 case geq=>obtain ⟨rfl,b⟩:=key h;exact .pv b (asU hx c)
 case and=>obtain ⟨rfl,b⟩:=key h;exact .pv b (apK hx c)
 case or=>obtain ⟨rfl,b⟩:=key h;exact .pv b (atl hx c)
 case xor=>obtain ⟨rfl,b⟩:=key h;exact .pv b (aov hx c)
 case andNot=>obtain ⟨rfl,b⟩:=key h;exact .pv b (ahR hx c)
theorem anV{t:TypeId}{op:BinOp}{m l:aS}(hx:aw Ev g x (S m))(a:aw Ev g y (S l))(h:alQ m l op=some cv):
  nY P Ev ρ g ⟨dst,.binOp op t x y t',ty,pos,af,gd⟩ w cv:=by
 unfold alQ at h;split at h
 .exact .pv h (ar3 hx a)
 .exact .pv h (asb hx a)
 .cases h;exact λc=>atm hx a (λb=>c _ rfl b)
 .exact .pv h (ass hx a)
 .exact .pv h (atf hx a)
 .exact .pv h (asM hx a)
 .exact .pv h (asK hx a)
 .cases h
theorem anf{t:TypeId}{op:BinOp}{a b:AV}(hx:aw Ev g x (a.val ρ))(c:aw Ev g y (b.val ρ))(h:akk P t op a b=some cv):
  nY P Ev ρ g ⟨dst,.binOp op t x y t',ty,pos,af,gd⟩ w cv:=by
 unfold akk at h;split at h
 .simp only [AV.val] at hx c;exact amK hx c h
 .simp only [AV.val] at hx c;exact anV hx c h
 .simp only [AV.val] at hx c;obtain ⟨e,d⟩:=aI h;unfold aoo at d;split at d
  .exact .pv d (ata (abF e) hx c)
  .exact .pv d (asP (abF e) hx c)
  .cases d
 .cases h
theorem apH{t:TypeId}{op:UnOp}{u:AV}(hx:aw Ev g x (u.val ρ))(h:aoQ op u=some cv):
  nY P Ev ρ g ⟨dst,.unOp op t x,ty,pos,af,gd⟩ w cv:=by
 unfold aoQ at h;split at h
 .simp only [AV.val] at hx;exact .pv h (afu hx)
 .simp only [AV.val] at hx;exact .pv h (atv hx)
 .cases h
theorem anQ{v:AV}(hx:aw Ev g x (v.val ρ))(h:arA v=true):bk P Ev g ⟨dst,.nilCheck x,ty,pos,af,gd⟩ w (v.val ρ):=by
 cases v with
 |ptr id off=>simp only [AV.val] at hx ⊢; exact afA hx
 |adr id off=>simp only [AV.val] at hx ⊢; exact afA hx
 |fn f a b=>simp only [AV.val] at hx ⊢; exact api hx
 |_=>cases h
end
def lK(P:Program)(t:TypeId):Option (Nat×Nat×Value):=match P.info? t with
 |some i=>match i.zero with
  |some z=>some (i.size,i.bytes,z)
  |none=>none
 |none=>none
theorem cW{P:Program}{t:TypeId}{n bytes:Nat}(h:lK P t=some (n,bytes,z)):TI P t n bytes z:=by
 unfold lK at h;split at h
 .rename_i i hi;split at h
  next b a=>cases h;simp [TI,hi,a]
  .cases h
 .cases h
def alU(P:Program)(t:TypeId)(k:Nat):Option (TypeId×Nat×Nat):=match P.underlying t with
 |some (.struct fs)=>match fs.toList[k]? with
  |some f=>match P.info? f.type with
   |some i=>some (f.type,f.offset,i.size)
   |none=>none
  |none=>none
 |_=>none
theorem ajI{P:Program}{t ft:TypeId}{k off n:Nat}(h:alU P t k=some (ft,off,n)):∃a f i,P.underlying t=some (.struct a)/\a[k]? =some f/\f.type=ft/\f.offset=off/\P.info? ft=some i/\i.size=n:=by
 unfold alU at h;split at h
 .rename_i a b;split at h
  .rename_i f c;split at h
   next i hi=>cases h;exact ⟨a,f,i,b,by simpa using c,rfl,rfl,hi,rfl⟩
   .cases h
  .cases h
 .cases h
def lN(P:Program)(t:TypeId)(cs:List AV):Option AV:=match P.underlying t with
 |some d=>aC ( kI d ) ( (match lK P t with
   |some x=>aC ( Nat.ble x.1 cs.length ) ( some (.agg (cs.take x.1)) )<|none
   |none=>none)
  )<|cs.head?
 |none=>none
def dx:AV->List AV
 | .agg l=>l
 | .raw v=>v.cells.toList.map kB
 |v=>[v]
def OS:AV->Bool
 | .nv _=>false
 |_=>true
theorem Bw{ρ:aB}{v:AV}(h:OS v=true):(v.val ρ).cells=(AV.ar ρ (dx v)).toArray:=by
 cases v <;> simp only [dx,AV.val,AV.ar] <;> try rfl
 .cases h
 .rw [nk]
def vV(vs:List AV)(k:Nat)(us:List AV):List AV:=vs.take k++us++vs.drop (k+us.length)
theorem AM{ρ:aB}{vs us:List AV}{k:Nat}:pE (AV.ar ρ vs) k (AV.ar ρ us)=AV.ar ρ (vV vs k us):=by simp only [pE,vV,dA,AV.kM,AV.iM,AV.bu]
def Da(place:Nat->Option (Nat×Nat)):List (Nat×AV)->List AV->Option (List AV)
 |[],cs=>some cs
 |(i,v)::l,cs=>match place i with
  |some (off,n)=>aC ( OS v&&(Nat.beq (dx v).length n&&Nat.ble (off+n) cs.length) ) ( Da place l (vV cs off (dx v)) )<|none
  |none=>none
theorem ab1{off:Nat}:∀(us:zq) (k:Nat) (cs:zq),off+k+us.length<=cs.length->
  (us.zipIdx k).foldl (λcs (x:Value×Nat)=>cs.setIfInBounds (off+x.2) x.1) cs.toArray=(pE cs (off+k) us).toArray
 |[],k,cs,_=>by simp [pE]
 |u::us,k,cs,h=>by
  simp only [p0] at h;simp only [List.zipIdx_cons,List.foldl_cons,List.setIfInBounds_toArray];rw [ab1 us (k+1) (cs.set (off+k) u) (by rw [oi];omega)];congr 1;simp only [pE];have a:off+k<cs.length:=by omega
  have e1:(cs.set (off+k) u).take (off+(k+1))=cs.take (off+k)++[u]:=by rw [show off+(k+1)=(off+k)+1 from rfl,qL,qP a,List.take_set_of_le (b7 _)];rfl
  have e2:(cs.set (off+k) u).drop (off+(k+1)+us.length)=cs.drop (off+k+(u::us).length):=by rw [List.drop_set_of_lt (by omega)];congr 1;simp only [p0];omega
  rw [e1,e2];simp
theorem y9{ρ:aB}{a:Nat->Option (Nat×Nat)}:{ps:List (Nat×AV)}->{cs b:List AV}->Da a ps cs=some b->
  Instr.fill a (AV.ar ρ cs).toArray (ps.map λp=>(p.1,p.2.val ρ))=some (AV.ar ρ b).toArray
 |[],cs,b,h=>by cases h;rfl
 |(i,v)::l,cs,b,h=>by
  unfold Da at h;split at h
  .rename_i off n hp;obtain ⟨d,g⟩:=aI h;simp only [ah,Nat.ble_eq] at d;obtain ⟨f,c,j⟩:=d;have c:=ai c;have ih:=y9 (ρ:=ρ) g;simp only [er];unfold Instr.fill;simp only [hp];have e:=Bw (ρ:=ρ) f;have e1:¬(((v.val ρ).cells.size≠n||decide (off+(v.val ρ).cells.size>(AV.ar ρ cs).toArray.size))=true):=by rw [e];simp only [n7,AV.bu,c];simp;omega
   rw [cx e1,e];have:=ab1 (off:=off) (AV.ar ρ (dx v)) 0 (AV.ar ρ cs) (by rw [AV.bu,AV.bu];omega);simp only [qu] at this;rw [show (AV.ar ρ (dx v)).toArray.zipIdx=((AV.ar ρ (dx v)).zipIdx 0).toArray from by simp,List.foldl_toArray,this,AM];exact ih
  .cases h
variable {P : Program}
def yp{α β:Type}(f:α->Option β):List α->Option (List β)
 |[]=>some []
 |x::l=>match f x with
  |some y=>match yp f l with
   |some ys=>some (y::ys)
   |none=>none
  |none=>none
theorem abL{P:Program}{w:World}{α β:Type}{f:α->Sem β}{g:α->Option β}(a:∀x y,g x=some y->(f x).run P w= .ok y w):∀{l:List α} {ys:List β},yp g l=some ys->(l.mapM f).run P w= .ok ys w
 |[],ys,h=>by cases h;simp
 |x::l,ys,h=>by
  unfold yp at h;split at h
  .rename_i y c;split at h
   next zs b=>cases h;rw [List.mapM_cons,Sem.run_bind,a x y c,Result.andThen_ok,Sem.run_bind,abL a b,Result.andThen_ok,Sem.run_pure]
   .cases h
  .cases h
theorem Ww{w:World}{β:Type}{f:α->Sem β}{g:α->Option β}(a:∀x y,g x=some y->(f x).run P w= .ok y w){l:Array α}{ys:List β}(h:yp g l.toList=some ys):(l.mapM f).run P w= .ok ys.toArray w:=by rw [Array.mapM_eq_mapM_toList,Sem.run_map,abL a h];rfl
def agp(P:Program)(f:Field):Option (Nat×Nat):=match P.info? f.type with
 |some i=>some (f.offset,i.size)
 |none=>none
def ahg(P:Program)(t:TypeId)(ps:List (Nat×AV)):Option (List AV):=match lK P t with
 |some z=>(match P.underlying t with
  |some (.struct fs)=>(match yp (agp P) fs.toList with
   |some pl=>Da (λi=>pl[i]?) ps (z.2.2.cells.toList.map kB)
   |none=>none)
  |some (.array _ e)=>(match P.info? e with
   |some i=>Da (λk=>some (k*i.size,i.size)) ps (z.2.2.cells.toList.map kB)
   |none=>none)
  |_=>none)
 |none=>none
theorem an9{t:TypeId}{ρ:aB}{w:World}{ps:List (Nat×AV)}{cs:List AV}(h:ahg P t ps=some cs):
  (Instr.build t (ps.map λp=>(p.1,p.2.val ρ)).toArray).run P w= .ok (.agg (AV.ar ρ cs).toArray) w:=by
 unfold ahg at h;split at h
 .rename_i z m;obtain ⟨size,bytes,z⟩:=z;have j:=cW m;have d:=j.zero w;unfold Instr.build;simp only [Sem.run_bind,d,Result.andThen_ok];split at h
  .rename_i o a;simp only [run_underlying a,Result.andThen_ok];split at h
   .rename_i pl l;have n:(o.mapM λf=>do pure (f.offset,<-sizeOf f.type):Sem (Array (Nat×Nat))).run P w= .ok pl.toArray w:=Ww (g:=agp P) (λf y c=>by
     unfold agp at c;split at c
     next i hi=>cases c;simp [sizeOf,typeInfo,hi]
     .cases c) l
    have b:=y9 (ρ:=ρ) h;rw [nk] at b;simp only [Sem.run_bind,n,Result.andThen_ok];have e:(λ(x:Nat)=>pl.toArray[x]?)=λi=>pl[i]? :=by funext i;simp
    rw [e];simp only [Array.toArray_toList] at b;rw [b];rfl
   .cases h
  .rename_i k e a;simp only [run_underlying a,Result.andThen_ok];split at h
   next i hi=>have b:=y9 (ρ:=ρ) h;rw [nk] at b;simp only [Array.toArray_toList] at b;simp only [Sem.run_bind,sizeOf,typeInfo,run_program,hi,Result.andThen_ok,Sem.run_pure];rw [b];rfl
   .cases h
  .cases h
 .cases h
theorem E7{ρ:aB}:∀(a:zC) (vs:List AV),(a.zip vs).map (λp=>(p.1,p.2.val ρ))=a.zip (AV.ar ρ vs)
 |[],_=>by simp
 |_::_,[]=>by simp [AV.ar]
 |i::a,v::vs=>by simp only [List.zip_cons_cons,er,AV.ar];rw [E7]
def fM(T:aD)(E F:aG):Prop:= ∀x,x∈T->ek E F x.2.2.1=some (x.2.1,.bool x.2.2.2)/\T.get (some x.1)=(T.get x.2.1&&yZ x.1.2 x.2.2.2)
def keyOf(r:Nat)(pol:Bool):aD->Option ((Nat×Bool)×GK×Nat×Bool)
 |[]=>none
 |x::T=>aC ( Nat.beq x.2.2.1 r&&aap x.1.2 pol ) ( some x )<|keyOf r pol T
theorem afJ{r:Nat}{a:Bool}:{T:aD}->{x:(Nat×Bool)×GK×Nat×Bool}->keyOf r a T=some x->x∈T/\x.2.2.1=r/\x.1.2=a
 |[],x,h=>by cases h
 |y::T,x,h=>by
  unfold keyOf at h;rcases dT h with ⟨c,b⟩|⟨_,b⟩
  .cases b;simp only [ah] at c;exact ⟨ct .., ai c.1,aiJ c.2⟩
  .obtain ⟨e,d⟩:=afJ b;exact ⟨cb _ e,d⟩
def arz(T:aD)(E F:aG)(g:GK)(c x:Operand):Option (Bool×Bool):=match bC T E F g x with
 |some (.bool y)=>(match bC T E F g c with
  |some (.bool b)=>some (b,y)
  |_=>none)
 |_=>none
def art(T:aD)(E F:aG)(g:GK)(pol:Bool)(c x:Operand):Option (Bool×Bool):=match c with
 | .tmp r=>(match keyOf r pol T with
  |some k=>aC ( T.imp g k.2.1 ) ( match bC T E F (some k.1) x with
    |some (.bool y)=>some (k.2.2.2,y)
    |_=>none
   ) none
  |none=>none)
 |_=>none
def adS(T:aD)(E F:aG)(g:GK)(pol:Bool)(c x:Operand):Option (Bool×Bool):=match arz T E F g c x with
 |some y=>some y
 |none=>art T E F g pol c x
theorem afb{ρ:aB}{T:aD}{E F:aG}{g:GK}{i b y:Bool}{c:Operand}(G:fM T E F)(h:adS T E F g i c x=some (b,y)):
  aw (az ρ T E F) (T.get g) c (.bool b)/\aw (az ρ T E F) (T.get g&&yZ i b) x (.bool y):=by
 have f:∀{p q:Bool} {u:Value},aw (az ρ T E F) p x u->aw (az ρ T E F) (p&&q) x u:=λh n a m j=>h n a m (ah _ _▸j).1;unfold adS at h;split at h
 .rename_i z d;cases h;unfold arz at d;split at d
  .rename_i t hx;split at d
   next H D=>cases d;have l:=aV (ρ:=ρ) hx;have e:=aV (ρ:=ρ) D;simp only [AV.val] at l e;exact ⟨e,f l⟩
   .cases d
  .cases d
 .unfold art at h;split at h
  .rename_i r;split at h
   .rename_i k C;obtain ⟨l,e⟩:=aI h;split at e
    next t hx=>cases e;obtain ⟨B,A,w⟩:=afJ C;obtain ⟨o,v⟩:=G _ B;have s:=aV (ρ:=ρ) hx;simp only [AV.val] at s;rw [A] at o;refine ⟨aw.g (g':=T.get k.2.1) (by rw [hZ,o];simp [AV.val]) (aD.kT l),λn a m j=>s n a m ?_⟩;rw [v,w];simp only [ah] at j ⊢;exact ⟨aD.kT l j.1,j.2⟩
    .cases e
   .cases h
  .cases h
def isF:Operand->Bool
 | .const (.bool b)=> !b
 |_=>false
def apC:Operand->Bool
 | .const (.bool b)=>b
 |_=>false
theorem aul(h:isF x=true):x= .const (.bool false):=by
 unfold isF at h;split at h
 .rename_i b;cases b
  .rfl
  .cases h
 .cases h
theorem atk(h:apC x=true):x= .const (.bool true):=by
 unfold apC at h;split at h
 .rename_i b;cases b
  .cases h
  .rfl
 .cases h
def Qd(P:Program)(t:TypeId):Bool:=match P.underlying t with
 |some d=> !(gY d)
 |none=>false
theorem Xc{t:TypeId}(h:Qd P t=true):∃d,P.underlying t=some d/\gY d=false:=by
 unfold Qd at h;split at h
 next d a=>exact ⟨d,a,by simpa using h⟩
 .cases h
def loA(T:aD)(E F:aG)(g:GK):Option Operand->zr
 |none=>some 0
 |some y=>match bC T E F g y with
  |some (.int _ i)=>some i
  |_=>none
def SX(T:aD)(E F:aG)(g:GK):Option Operand->Option zr
 |none=>some none
 |some y=>match bC T E F g y with
  |some (.int _ i)=>some (some i)
  |_=>none
theorem Nr{ρ:aB}{T:aD}{E F:aG}{g:GK}{lo:Option Operand}{i:Int}(h:loA T E F g lo=some i):(match (motive:=Option Operand->Prop) lo with|none=>i=0|some y=>∃k,aw (az ρ T E F) (T.get g) y (.int k i)):=by
 cases lo with
 |none=>cases h;rfl
 |some y=>
  unfold loA at h;dsimp only at h;split at h
  next k j a=>cases h;have:=aV (ρ:=ρ) a;simp only [AV.val] at this;exact ⟨k,this⟩
  .cases h
theorem Wl{ρ:aB}{T:aD}{E F:aG}{g:GK}{hi:Option Operand}{j:zr}{len:Nat}(h:SX T E F g hi=some j):(match (motive:=Option Operand->Prop) hi with|none=>(j.getD (len:Int))=(len:Int)|some y=>∃k,aw (az ρ T E F) (T.get g) y (.int k (j.getD (len:Int)))):=by
 cases hi with
 |none=>cases h;rfl
 |some y=>
  unfold SX at h;dsimp only at h;split at h
  next k j a=>cases h;have:=aV (ρ:=ρ) a;simp only [AV.val] at this;exact ⟨k,this⟩
  .cases h
def agO(X:Cx)(T:aD)(E F:aG)(g:GK)(c:Callee)(xs:zn)(ts:List TypeId):CV:=match c,xs,ts with
 | .builtin .len,[x],[t]=>aC ( isStr X.P t ) ( (match bC T E F g x with
   |some (.str l)=>pv (.int .i64 (l.length:Int))
   |_=>none)
  ) none
 | .builtin .max,[x,y],[_,_]=>(match bC T E F g x,bC T E F g y with
  |some (.int k m),some (.int k' l)=>aC ( gF k k' ) ( pv (.int k (max m l)) ) none
  |_,_=>none)
 | .builtin .min,[x,y],[_,_]=>(match bC T E F g x,bC T E F g y with
  |some (.int k m),some (.int k' l)=>aC ( gF k k' ) ( pv (.int k (min m l)) ) none
  |_,_=>none)
 |_,_,_=>none
def apk(X:Cx)(T:aD)(E F:aG)(g:GK):Op->CV
 | .move x=>(match bC T E F g x with
  |some v=>pv v
  |none=>none)
 | .assign x=>(match bC T E F g x with
  |some v=>pv v
  |none=>none)
 | .pick c a b=>aC ( isF b ) ( (match adS T E F g true c a with
   |some y=>pv (.bool (y.1&&y.2))
   |none=>none)
  )<|aC ( apC a ) ( (match adS T E F g false c b with
   |some y=>pv (.bool (y.1||y.2))
   |none=>none)
  ) none
 | .nilCheck x=>(match bC T E F g x with
  |some v=>aC ( arA v ) ( pv v ) none
  |none=>none)
 | .extract x i=>(match bC T E F g x with
  |some (.tuple l)=>(match l[i]? with
   |some v=>pv v
   |none=>none)
  |_=>none)
 | .unOp op _ x=>(match bC T E F g x with
  |some v=>aoQ op v
  |none=>none)
 | .binOp op t x y _=>(match bC T E F g x with
  |some u=>(match bC T E F g y with
   |some v=>akk X.P t op u v
   |none=>none)
  |none=>none)
 | .convert s d x=>(match bC T E F g x with
  |some (.int _ m)=>aC ( ap6 X.P s ) (match tyK X.P d with
   |some k=>pv (.int k (k.wrap m))
   |none=>none) none
  |_=>none)
 | .index t x y=>aC ( isStr X.P t ) ( (match bC T E F g x,bC T E F g y with
   |some (.str l),some (.int _ i)=>some (some (wG i l.length),.int .u8 (oh l i))
   |_,_=>none)
  ) none
 | .slice t x lo hi none=>aC ( isStr X.P t ) ( (match bC T E F g x with
   |some (.str l)=>(match loA T E F g lo with
    |some i=>(match SX T E F g hi with
     |some j=>some (some (dW i (j.getD (l.length:Int)) l.length),.str (cut l i (j.getD (l.length:Int))))
     |none=>none)
    |none=>none)
   |_=>none)
  ) none
 | .field t x k=>(match bC T E F g x with
  |some (.agg cs)=>(match alU X.P t k with
   |some f=>(match lN X.P f.1 (cs.drop f.2.1) with
    |some v=>pv v
    |none=>none)
   |none=>none)
  |_=>none)
 | .fieldAddr t x k=>(match alU X.P t k with
  |some f=>aC ( Nat.beq f.2.2 0 ) none (match bC T E F g x with
   |some (.ptr id o)=>pv (.ptr id (o+f.2.1))
   |some (.adr id o)=>pv (.adr id (o+f.2.1))
   |_=>none)
  |none=>none)
 | .build t ps=>(match sy T E F g (ps.toList.map (·.2)) with
  |some vs=>(match ahg X.P t ((ps.toList.map (·.1)).zip vs) with
   |some cs=>pv (.agg cs)
   |none=>none)
  |none=>none)
 | .makeFunc (.func f) a b=>(match sy T E F g a.toList with
  |some us=>(match sy T E F g b.toList with
   |some vs=>pv (.fn f us vs)
   |none=>none)
  |none=>none)
 | .makeInterface t x=>(match bC T E F g x with
  |some v=>aC ( Qd X.P t ) ( pv (.ifc t v) ) none
  |none=>none)
 | .typeAssert x _ t false=>(match bC T E F g x with
  |some (.ifc t' v)=>aC ( Nat.beq t t'&&Qd X.P t ) ( pv v ) none
  |_=>none)
 | .call c=>agO X T E F g c.callee c.args.toList c.argTypes.toList
 |_=>none
theorem add_plain{o k:Nat}:(⟨b,o,none⟩:Addr).add k=⟨b,o+k,none⟩:=by
 unfold Addr.add;split
 next h=>subst h;rfl
 .rfl
theorem add_add{a:Addr}{j k:Nat}:(a.add j).add k=a.add (j+k):=by
 by_cases c:j=0
 .subst c;have:a.add 0=a:=by simp [Addr.add]
  rw [this,l7]
 .by_cases b:k=0
  .subst b;simp [Addr.add]
  .simp [Addr.add,c,b,qC]
theorem apu{l:List α}{v:α}(h:l.head? =some v):l[0]? =some v:=by
 cases l with
 |nil=>simp at h
 |cons a l=>simpa using h
section
variable {X : Cx} {ρ : aB} {T : aD} {E F : aG} {g : GK} {w : World} {dst : zu} {ty : TypeId} {pos : String} {af : zw} {gd : zg}
theorem oM{t:TypeId}{off:Nat}{cs:List AV}{v:AV}(h:lN X.P t (cs.drop off)=some v):∃d n bytes z,X.P.underlying t=some d/\(kI d=true->TI X.P t n bytes z)/\
  (if kI d then some (.agg (((AV.ar ρ cs).drop off).take n).toArray) else (AV.ar ρ cs)[off]?)=some (v.val ρ):=by
 unfold lN at h;split at h
 .rename_i d e;rcases dT h with ⟨b,a⟩|⟨b,a⟩
  .split at a
   next x hx=>obtain ⟨n,bytes,z⟩:=x;obtain ⟨c,f⟩:=aI a;cases f;refine ⟨d,n,bytes,z,e,λ_=>cW hx,?_⟩;rw [cN b];simp only [AV.val,AV.kM,AV.iM]
   .cases a
  .refine ⟨d,0,0,.bool false,e,(λh=>by rw [b] at h;cases h),?_⟩;rw [cx (by rw [b];simp)];have c:=AV.agT (ρ:=ρ) (apu a);rw [AV.iM,lk] at c;simpa using c
 .cases h
theorem alm{c:Callee}{xs:Array Operand}{f:Array TypeId}(h:agO X T E F g c xs.toList f.toList=some cv):
  nY X.P (az ρ T E F) ρ (T.get g) ⟨dst,.call ⟨c,xs,f⟩,ty,pos,af,gd⟩ w cv:=by
 obtain ⟨xs⟩:=xs;obtain ⟨f⟩:=f;unfold agO at h;split at h
 .rename_i x t e1 e2;simp only at e1 e2;subst e1;subst e2;obtain ⟨e,a⟩:=aI h;split at a
  next l hx=>have:=aV (ρ:=ρ) hx;simp only [AV.val] at this;exact .pv a (aqw (sN e) this)
  .cases a
 .rename_i x y t t' e1 e2;simp only at e1 e2;subst e1;subst e2;split at h
  next k m j l hx i=>obtain ⟨e,a⟩:=aI h;have:=iI e;subst this;have d:=aV (ρ:=ρ) hx;have b:=aV (ρ:=ρ) i;simp only [AV.val] at d b;exact .pv a (aqs d b (apa _ _ _ _ _))
  .cases h
 .rename_i x y t t' e1 e2;simp only at e1 e2;subst e1;subst e2;split at h
  next k m j l hx i=>obtain ⟨e,a⟩:=aI h;have:=iI e;subst this;have d:=aV (ρ:=ρ) hx;have b:=aV (ρ:=ρ) i;simp only [AV.val] at d b;exact .pv a (aqk d b (aoT _ _ _ _ _))
  .cases h
 .cases h
theorem aoK{op:Op}(U:fM T E F)(h:apk X T E F g op=some cv):
  nY X.P (az ρ T E F) ρ (T.get g) ⟨dst,op,ty,pos,af,gd⟩ w cv:=by
 unfold apk at h;split at h
 .split at h
  next v s=>exact .pv h (aM (aV s))
  .cases h
 .split at h
  next v s=>exact .pv h (da (aV s))
  .cases h
 .rename_i c a b;rcases dT h with ⟨r,p⟩|⟨_,p⟩
  .have:=aul r;subst this;split at p
   next y C=>obtain ⟨A,x⟩:=afb (ρ:=ρ) (b:=y.1) (y:=y.2) U C;exact .pv p (asc A (by simpa [yZ] using x))
   .cases p
  .obtain ⟨r,p⟩:=aI p;have:=atk r;subst this;split at p
   next y C=>obtain ⟨A,x⟩:=afb (ρ:=ρ) (b:=y.1) (y:=y.2) U C;exact .pv p (atU A (by simpa [yZ] using x))
   .cases p
 .split at h
  next v s=>obtain ⟨r,p⟩:=aI h;exact .pv p (anQ (aV s) r)
  .cases h
 .split at h
  .rename_i l s;split at h
   next v hl=>have q:=aV (ρ:=ρ) s;simp only [AV.val] at q;exact .pv h (ahr q (AV.agT hl))
   .cases h
  .cases h
 .split at h
  next v s=>exact apH (aV s) h
  .cases h
 .split at h
  .rename_i u Z;split at h
   next v s=>exact anf (aV Z) (aV s) h
   .cases h
  .cases h
 .split at h
  .rename_i k' m hx;obtain ⟨r,p⟩:=aI h;obtain ⟨ds,M⟩:=avg r;split at p
   next k hk=>have q:=aV (ρ:=ρ) hx;simp only [AV.val] at q;exact .pv p (ahi M (JL hk) q)
   .cases p
  .cases h
 .obtain ⟨r,p⟩:=aI h;split at p
  next l k i hx C=>have q:=aV (ρ:=ρ) hx;have V:=aV (ρ:=ρ) C;simp only [AV.val] at q V;cases p;exact λQ=>apm (sN r) q V (λD=>Q _ rfl D)
  .cases p
 .obtain ⟨r,p⟩:=aI h;split at p
  .rename_i l hx;split at p
   .rename_i i hi;split at p
    next j hj=>have q:=aV (ρ:=ρ) hx;simp only [AV.val] at q;cases p;exact λQ=>aqI (sN r) q (Nr hi) (Wl hj) (λD=>Q _ rfl D)
    .cases p
   .cases p
  .cases p
 .split at h
  .rename_i cs hx;split at h
   .rename_i f H;obtain ⟨ft,off,n⟩:=f;split at h
    .rename_i v s;obtain ⟨W,f,i,A,x,J,I,S,R⟩:=ajI H;obtain ⟨d,n',bytes,z,c1,c2,K⟩:=oM (ρ:=ρ) s;have q:=aV (ρ:=ρ) hx;simp only [AV.val] at q;cases N:kI d
     .refine .pv h (λY a H D=>?_);have h5:=q Y a H D;rw [N] at K;simp only [pA,qT] at K;have hp:=amk (P:=X.P) (w:=w) c1 N K;subst J;subst I;simp only [execOp,h5,Instr.field,Sem.run_bind,run_underlying A,Result.andThen_ok,x,asAgg,Sem.run_pure,hp]
     .exact .pv h (aoa A x J I c1 (c2 N) q K)
    .cases h
   .cases h
  .cases h
 .split at h
  .rename_i f H;obtain ⟨ft,off,n⟩:=f;obtain ⟨W,f,i,A,x,J,I,S,R⟩:=ajI H;obtain ⟨r,p⟩:=QL h;have G:aiG X.P _ _ off:=⟨W,f,i,A,x,I,by rw [J];exact S,by rw [R];exact Nat.ne_of_beq_eq_false r⟩;split at p
   next id o hx=>have q:=aV (ρ:=ρ) hx;simp only [AV.val] at q;refine .pv p ?_;simp only [AV.val];have:=My (dst:=dst) (ty:=ty) (pos:=pos) (af:=af) (gd:=gd) (w:=w) G q;rwa [add_plain] at this
   next id o hx=>have q:=aV (ρ:=ρ) hx;simp only [AV.val] at q;refine .pv p ?_;simp only [AV.val];have:=My (dst:=dst) (ty:=ty) (pos:=pos) (af:=af) (gd:=gd) (w:=w) G q;rwa [add_add] at this
   .cases p
  .cases h
 .rename_i t ps;split at h
  .rename_i vs B;split at h
   .rename_i cs O;refine .pv h ?_;simp only [AV.val];have q:=ie (ρ:=ρ) B;have:=anJ (P:=X.P) (w:=w) (dst:=dst) (ty:=ty) (pos:=pos) (af:=af) (gd:=gd) (t:=t) (v:= .agg (AV.ar ρ cs).toArray) q (λw=>by rw [<-E7];exact an9 O)
    simpa using this
   .cases h
  .cases h
 .rename_i f a b;split at h
  .rename_i us L;split at h
   next vs B=>refine .pv h ?_;simp only [AV.val];have:=OP (P:=X.P) (w:=w) (dst:=dst) (ty:=ty) (pos:=pos) (af:=af) (gd:=gd) (fn:= .func f) (ie (ρ:=ρ) L) (ie (ρ:=ρ) B);simpa using this
   .cases h
  .cases h
 .split at h
  next v s=>obtain ⟨r,p⟩:=aI h;obtain ⟨d,A,x⟩:=Xc r;refine .pv p ?_;simp only [AV.val];exact ahJ A x (aV s)
  .cases h
 .split at h
  next t' v s=>obtain ⟨r,p⟩:=aI h;simp only [ah] at r;obtain ⟨d,A,x⟩:=Xc r.2;have q:=aV (ρ:=ρ) s;simp only [AV.val] at q;have e:=ai r.1;subst e;exact .pv p (ah8 A x q)
  .cases h
 .exact alm h
 .cases h
end
def va(G H:List Row):AV->AV
 | .nv u=>(match eK G H (isEq u) with
  |some (_,.eq _ v)=>v
  |_=> .nv u)
 |v=>v
theorem VZ{ρ:aB}{T:aD}{G H:List Row}{Φ:Ctx}{w:World}(a:Sat (ab ρ T G++(ab ρ T H++Φ)) w){v:AV}:(va G H v).val ρ=v.val ρ:=by
 unfold va;split
 .rename_i u;split
  next s j v' h=>obtain ⟨d,c⟩:=ck h;have b:=Src.holds a d;have:j=u:=ai c;subst this;simp only [AV.val];exact b.symm
  .rfl
 .rfl
theorem ND{ρ:aB}{T:aD}{G H:List Row}{Φ:Ctx}{w:World}(a:Sat (ab ρ T G++(ab ρ T H++Φ)) w):(l:List AV)->AV.ar ρ (l.map (va G H))=AV.ar ρ l
 |[]=>rfl
 |v::l=>by simp only [er,AV.ar];rw [VZ a,ND a l]
def Wj:Ty->Bool
 | .i _|.bo|.s|.un|.n=>true
 | .p x y=>Wj x&&Wj y
 |_=>false
def AN:(t:Ty)->t.T->List AV
 | .i k,x=>[.int k x]
 | .bo,x=>[.bool x]
 | .s,x=>[.str x]
 | .n,x=>[.ifc x (.agg [])]
 | .p a b,x=>AN a x.1++AN b x.2
 |_,_=>[]
theorem Vd{ρ:aB}{M:Nat->Prop}{w:World}:(t:Ty)->(x:t.T)->(vs:zq)->Wj t=true->t.rep.rd M w vs x->vs=AV.ar ρ (AN t x)
 | .i k,x,vs,_,h=>by simp only [AN,AV.ar,AV.val];exact h
 | .bo,x,vs,_,h=>by simp only [AN,AV.ar,AV.val];exact h
 | .s,x,vs,_,h=>by simp only [AN,AV.ar,AV.val];exact h
 | .un,x,vs,_,h=>by simp only [AN,AV.ar];exact h
 | .p a b,x,vs,hf,h=>by
  simp only [Wj,ah] at hf;obtain ⟨us,c,rfl,e,d⟩:=h;rw [AN,dA,<-Vd a x.1 us hf.1 e,<-Vd b x.2 c hf.2 d]
 | .l _,_,_,hf,_=>by cases hf
 | .ex,_,_,hf,_=>by cases hf
 | .n,x,vs,_,h=>by simp only [AN,AV.ar,AV.val];exact h
 | .mp _ _,_,_,hf,_=>by cases hf
def ahd(T:aD)(G H:List Row)(g:GK)(q off:Nat):Option (List AV):=match eK G H (UA q) with
 |some (_,.kn g' _ id ver u _ x)=>aC ( T.imp g g'&&Wj u ) ( match eK G H (ox id) with
  |some (_,.own _ _ _ _ ver')=>aC ( Nat.beq ver ver' ) ( some ((AN u x).drop off) ) none
  |_=>none ) none
 |_=>none
theorem Qh{t t':Ty}{l:List t.T}{l':List t'.T}{y:cn}(h:y=⟨.l t,l⟩)(a:y=⟨.l t',l'⟩):∃e:t=t',e▸l=l':=by rw [h] at a;cases a;exact ⟨rfl,rfl⟩
theorem aod{ρ:aB}{T:aD}{G H:List Row}{Φ:Ctx}{w:World}{g:GK}{q off:Nat}{vs:List AV}(o:Sat (ab ρ T G++(ab ρ T H++Φ)) w)(h:ahd T G H g q off=some vs)(t:T.get g=true):
  bT w ((ρ q).a.add off) (AV.ar ρ vs):=by
 unfold ahd at h;split at h
 .rename_i s g' q' id c u i r v;obtain ⟨m,k⟩:=aI h;simp only [ah] at m;split at k
  next L d u' e l b j=>obtain ⟨z,y⟩:=aI k;cases y;obtain ⟨D,C⟩:=ck v;obtain ⟨B,A⟩:=ck j;have e1:q'=q:=ai C;have e2:d=id:=ai A;have e3:c=b:=ai z;subst e1;subst e2;subst e3;obtain ⟨x,f⟩:=Src.holds o B;obtain ⟨M,K,J,I⟩:=(Src.holds o D) (aD.kT m.1 t);obtain ⟨F,p⟩:=Qh K f;subst F;simp only at p;subst p;obtain ⟨_,us,n,E⟩:=x.atA J;rw [Vd (ρ:=ρ) u r us m.2 E] at n;rw [<-I] at n;refine n.sub _ ?_;rw [AV.iM,ei (b7 _)]
  .cases k
 .cases h
def Bp(T:aD)(G H:List Row)(g:GK):AV->Option (List AV)
 | .ptr id off=>(match eK G H (A4 id) with
  |some (_,.box _ _ vs)=>some ((vs.drop off).map (va G H))
  |_=>none)
 | .adr id off=>(match eK G H (avw id) with
  |some (_,.elm g' _ vs)=>aC ( T.imp g g' ) ( some (vs.drop off) ) none
  |_=>ahd T G H g id off)
 |_=>none
theorem PR{ρ:aB}{T:aD}{G H:List Row}{Φ:Ctx}{w:World}{g:GK}{v:AV}{vs:List AV}(c:Sat (ab ρ T G++(ab ρ T H++Φ)) w)(h:Bp T G H g v=some vs)(i:T.get g=true):
  ∃p,v.val ρ= .pointer (some p)/\bT w p (AV.ar ρ vs):=by
 have sub:∀{p:Addr} {us:List AV} {off:Nat},bT w p (AV.ar ρ us)->bT w (p.add off) (AV.ar ρ (us.drop off)):=λh=>by refine h.sub _ ?_;rw [AV.iM,ei (b7 _)]
 unfold Bp at h;split at h
 .rename_i id off;split at h
  next s j t us d=>cases h;obtain ⟨f,e⟩:=ck d;have:j=id:=ai e;subst this;have hb:fL w (ρ j).b t (AV.ar ρ us):=Src.holds c f;refine ⟨⟨(ρ j).b,off,none⟩,by simp only [AV.val],?_⟩;rw [ND c,AV.iM];exact hb.part off (by rw [ei (b7 _)])
  .cases h
 .rename_i id off;split at h
  next s g' j us d=>obtain ⟨l,k⟩:=aI h;cases k;obtain ⟨f,e⟩:=ck d;have:j=id:=ai e;subst this;have hb:=Src.holds c f;exact ⟨_,by simp only [AV.val],sub (hb (aD.kT l i)).2⟩
  .exact ⟨(ρ id).a.add off,by simp only [AV.val],aod c h i⟩
 .cases h
def ag0(t:Ty)(v:AV):Option t.T:=match t,v with
 | .i k,.int k' x=>aC ( gF k k' ) ( some x ) none
 | .s,.str x=>some x
 | .bo,.bool x=>some x
 | .p (.i a) (.i b),.agg [.int a' x,.int b' y]=>aC (gF a a'&&gF b b') (some (x,y)) none
 |_,_=>none
theorem aao{ρ:aB}{t:Ty}{v:AV}{x:t.T}(h:ag0 t v=some x):v.val ρ=Hy t x:=by
 unfold ag0 at h;split at h
 .obtain ⟨a,b⟩:=aI h;have:=iI a;subst this;cases b;simp only [AV.val];rfl
 .cases h;simp only [AV.val];rfl
 .cases h;simp only [AV.val];rfl
 .obtain ⟨a,b⟩:=aI h;simp only [ah] at a;have e1:=iI a.1;have e2:=iI a.2;subst e1;subst e2;cases b;simp only [AV.val,AV.ar];rfl
 .cases h
def alh(t:Ty)(x:t.T):AV:=match t,x with
 | .i k,x=> .int k x
 | .s,x=> .str x
 | .bo,x=> .bool x
 | .p (.i a) (.i b),x=> .agg [.int a x.1,.int b x.2]
 |_,_=> .bool false
theorem ajn{ρ:aB}{t:Ty}{x:t.T}:(alh t x).val ρ=Hy t x:=by unfold alh Hy;split <;> first|(simp only [AV.val];done)|(simp only [AV.val,AV.ar];rfl)
instance keyBEq(t:Ty):BEq t.T:=match t with
 | .i _=>(inferInstance:BEq Int)
 | .s=>(inferInstance:BEq aS)
 | .bo=>(inferInstance:BEq Bool)
 | .p (.i _) (.i _)=>(inferInstance:BEq (Int×Int))
 |_=>⟨λ_ _=>false⟩
def Ty.sD:(t:Ty)->t.T
 | .i _=>(0:Int)
 | .bo=>false
 | .s=>([]:aS)
 | .un=>()
 | .n=>(0:Nat)
 | .p x y=>(x.sD,y.sD)
 | .l x=>([]:List x.T)
 | .mp k v=>(none:Option (List (k.T×v.T)))
 | .ex=>Ex.mk 0 0 0 []
def alN(P:Program)(kt:TypeId)(k:Ty):Bool:=match k with
 | .i k=>(match tyK P kt with
  |some k'=>gF k k'
  |none=>false)
 | .s=>isStr P kt
 | .p (.i a) (.i b)=>(match P.underlying kt with
  |some (.struct ⟨[f1,f2]⟩)=>(match tyK P f1.type,tyK P f2.type with
   |some a',some b'=>gF a a'&&gF b b'&& !(f1.name== "_")&& !(f2.name== "_")&&Nat.beq f1.offset 0&&Nat.beq f2.offset 1&& !(P.stoodInHeld kt)
   |_,_=>false)
  |_=>false)
 |_=>false
theorem aaX{P:Program}{kt:TypeId}{k:Ty}(h:alN P kt k=true):vJ P kt (Hy k):=by
 unfold alN at h;split at h
 .split at h
  next n j=>have:=iI h;subst this;exact vJ.int (JL j)
  .cases h
 .exact vJ.str (sN h)
 .split at h
  .rename_i p o i;split at h
   next r q m l=>simp only [ah,gj,tt,ne_eq] at h;obtain ⟨⟨⟨⟨⟨⟨g,f⟩,e⟩,d⟩,c⟩,b⟩,a⟩:=h;have e1:=iI g;have e2:=iI f;subst e1;subst e2;exact vJ.pair i e d (ai c) (ai b) (JL m) (JL l) a
   .cases h
  .cases h
 .cases h
def alc(v:Ty)(z:Value):Bool:=match v,z with
 | .i k,.int k' x=>gF k k'&&decide (x=0)
 | .bo,.bool b=> !b
 | .s,.string b=>b.data.toList.isEmpty
 |_,_=>false
theorem aoI{v:Ty}(h:alc v z=true):z=Hy v v.sD:=by
 unfold alc at h;split at h
 .simp only [ah,j6] at h;have:=iI h.1;subst this;rw [h.2];rfl
 .rename_i b;cases b
  .rfl
  .cases h
 .rename_i b;have:b.data.toList=[]:=by simpa using h
  show _=S [];unfold S;rw [<-this]
 .cases h
def Z6(P:Program)(t:TypeId):Option (TypeId×TypeId):=match P.underlying t with
 |some (.map k v)=>some (k,v)
 |_=>none
theorem Ak{P:Program}{t:TypeId}{p:TypeId×TypeId}(h:Z6 P t=some p):P.underlying t=some (.map p.1 p.2):=by
 unfold Z6 at h;split at h
 next k v a=>cases h;exact a
 .cases h
def fR(P:Program)(t:TypeId):Option TypeId:=match P.underlying t with
 |some (.slice e)=>some e
 |_=>none
theorem cf{P:Program}{t:TypeId}(h:fR P t=some e):P.underlying t=some (.slice e):=by
 unfold fR at h;split at h
 next k a=>cases h;exact a
 .cases h
structure SlA where
 g:GK
 t:Ty
 l:List t.T
def slA(G H:List Row)(id:Nat):Option SlA:=match eK G H (ox id) with
 |some (_,.sli g _ t l _)=>some ⟨g,t,l⟩
 |some (_,.own _ t _ l _)=>some ⟨none,t,l⟩
 |_=>none
theorem aeF{ρ:aB}{T:aD}{G H:List Row}{Φ:Ctx}{w:World}{id:Nat}{s:SlA}(f:Sat (ab ρ T G++(ab ρ T H++Φ)) w)(h:slA G H id=some s)(k:T.get s.g=true):
  (bW s.t.rep (Ctx.M (ab ρ T G++(ab ρ T H++Φ))) w (sl (ρ id).v) s.l)\/∃e,bR s.t.rep e (Ctx.M (ab ρ T G++(ab ρ T H++Φ))) w (sl (ρ id).v) s.l (wg (ρ id).v):=by
 unfold slA at h;split at h
 next i g j t l b a=>cases h;obtain ⟨d,c⟩:=ck a;have:j=id:=ai c;subst this;exact .inl ((Src.holds f d) k).1
 next i j t e l ks a=>cases h;obtain ⟨d,c⟩:=ck a;have:j=id:=ai c;subst this;exact .inr ⟨e,(Src.holds f d).1⟩
 .cases h
theorem aaz{ρ:aB}{T:aD}{G H:List Row}{Φ:Ctx}{w:World}{id:Nat}{s:SlA}(a:Sat (ab ρ T G++(ab ρ T H++Φ)) w)(h:slA G H id=some s)(b:T.get s.g=true):SE (sl (ρ id).v) s.l.length:=by
 rcases aeF a h b with h|⟨e,h⟩
 .exact h.len
 .exact h.len
theorem atD{ρ:aB}{T:aD}{G H:List Row}{Φ:Ctx}{w:World}{id:Nat}{s:SlA}(a:Sat (ab ρ T G++(ab ρ T H++Φ)) w)(h:slA G H id=some s)(b:T.get s.g=true):bW s.t.rep (λ_=>False) w (sl (ρ id).v) s.l:=by
 rcases aeF a h b with h|⟨e,h⟩
 .exact h.mv (Mv.weaken w λ_ h=>h.elim)
 .exact h.freeze (λ_ _ h=>h) (Mv.weaken w λ_ h=>h.elim)
def isU8:Ty->Bool
 | .i .u8=>true
 |_=>false
def aoF(T:aD)(G H:List Row)(g:GK)(v:AV):Option zB:=match v with
 | .sl id=>(match slA G H id with
  |some ⟨g',.i .u8,l⟩=>aC ( T.imp g g' ) ( some l ) none
  |_=>none)
 | .raw (.slice none 0 0)=>some []
 |_=>none
theorem atx{ρ:aB}{T:aD}{G H:List Row}{Φ:Ctx}{w:World}{g:GK}{v:AV}{l:zB}(a:Sat (ab ρ T G++(ab ρ T H++Φ)) w)(h:aoF T G H g v=some l)(c:T.get g=true):bW (RI .u8) (λ_=>False) w (v.val ρ) l:=by
 unfold aoF at h;split at h
 .split at h
  next g' l' b=>obtain ⟨e,d⟩:=aI h;cases d;have:=atD a b (aD.kT e c);simp only [AV.val];exact this
  .cases h
 .cases h;simp only [AV.val];exact bW.nil
 .cases h
def aft(X:Cx)(T:aD)(E F:aG)(G H:List Row)(g:GK)(c:Callee)(xs:zn)(ts:List TypeId):CV:=match c,xs,ts with
 | .builtin .len,[x],[t]=>(match fR X.P t with
  |some _=>(match bC T E F g x with
   |some (.sl id)=>(match slA G H id with
    |some s=>aC ( T.imp g s.g ) ( pv (.int .i64 (s.l.length:Int)) ) none
    |none=>none)
   |some (.raw (.slice none 0 0))=>pv (.int .i64 0)
   |_=>none)
  |none=>none)
 |_,_,_=>none
def ak6(X:Cx)(T:aD)(E F:aG)(G H:List Row)(g:GK)(op:BinOp)(t:TypeId)(x y:Operand):CV:=match Z6 X.P t with
 |some _=>(match bC T E F g y with
  |some (.raw (.map none))=>(match bC T E F g x with
   |some (.mp id)=>(match eK G H (alJ id) with
    |some (_,.mp _ _ _ d)=>(match op with
     | .eql=>pv (.bool (Option.isNone d))
     | .neq=>pv (.bool (!(Option.isNone d)))
     |_=>none)
    |_=>none)
   |some (.raw (.map none))=>(match op with
    | .eql=>pv (.bool true)
    | .neq=>pv (.bool false)
    |_=>none)
   |_=>none)
  |_=>none)
 |none=>none
def aoA(X:Cx)(T:aD)(E F:aG)(G H:List Row)(g:GK):Op->CV
 | .load t x=>(match bC T E F g x with
  |some v=>(match Bp T G H g v with
   |some cs=>(match lN X.P t cs with
    |some v=>pv v
    |none=>none)
   |none=>none)
  |none=>none)
 | .convert s d x=>aC ( isStr X.P d ) ( (match fR X.P s with
  |some e=>(match tyK X.P e with
   |some .u8=>(match bC T E F g x with
    |some v=>(match aoF T G H g v with
     |some l=>pv (.str (strOf l))
     |none=>none)
    |none=>none)
   |_=>none)
  |none=>none) ) none
 | .lookup t x y ok=>(match Z6 X.P t with
  |some p=>(match bC T E F g x with
   |some (.mp id)=>(match bC T E F g y with
    |some kv=>(match eK G H (alJ id) with
     |some (_,.mp _ k v d)=>(match lK X.P p.2 with
      |some z=>aC ( alN X.P p.1 k&&alc v z.2.2 ) ( (match ag0 k kv with
       |some key=>aC ( ok ) ( pv (.tuple [alh v (eI d key v.sD),.bool (V1 d key)]) )<|pv (alh v (eI d key v.sD))
       |none=>none) ) none
      |none=>none)
     |_=>none)
    |none=>none)
   |_=>none)
  |none=>none)
 | .call c=>aft X T E F G H g c.callee c.args.toList c.argTypes.toList
 | .binOp op t x y _=>ak6 X T E F G H g op t x y
 |_=>none
section
variable {X : Cx} {ρ : aB} {T : aD} {E F : aG} {G H : List Row} {Φ : Ctx} {g : GK} {w : World} {dst : zu} {ty : TypeId} {pos : String} {af : zw} {gd : zg}
theorem ak3{P:Program}{Ev:Env}{b:Bool}{o:Oper}(h:b=true->bk P Ev b o w v):bk P Ev b o w v:=λn a d c=>h c n a d c
theorem aqu{t:TypeId}{u v:AV}{cs:List AV}(o:Sat (ab ρ T G++(ab ρ T H++Φ)) w)(hx:bC T E F g x=some u)(i:Bp T G H g u=some cs)(h:lN X.P t cs=some v):
  bk X.P (az ρ T E F) (T.get g) ⟨dst,.load t x,ty,pos,af,gd⟩ w (v.val ρ):=ak3 λr=>by
 obtain ⟨p,hp,i⟩:=PR o i r;have b:=aV (ρ:=ρ) hx;rw [hp] at b;have A:lN X.P t (cs.drop 0)=some v:=by simpa using h
 obtain ⟨d,n,bytes,z,c1,B,c⟩:=oM (ρ:=ρ) A;cases f:kI d
 .rw [f] at c;simp only [pA,qT] at c;refine NT c1 f b (λ_=>?_);have:=i.sub (us:=[v.val ρ]) 0 (by
   cases e:AV.ar ρ cs with
   |nil=>rw [e] at c;cases c
   |cons a l=>rw [e] at c;cases c;simp)
  simpa [Addr.add] using this
 .unfold lN at h;rw [c1] at h;rcases dT h with ⟨_,j⟩|⟨m,_⟩
  .split at j
   .rename_i q e;obtain ⟨n,bytes,z⟩:=q;obtain ⟨y,s⟩:=aI j;cases s;have k:n<=cs.length:=dk y;simp only [AV.val];refine Ol c1 f (cW e) b (λ_=>?_) ?_
    .have:=i.sub (us:=AV.ar ρ (cs.take n)) 0 (by rw [AV.kM,qa,b9,AV.bu,et k])
     simpa [Addr.add] using this
    .rw [AV.bu,b9,et k]
   .cases j
  .rw [f] at m;cases m
theorem akY{c:Callee}{xs:Array Operand}{b:Array TypeId}(i:Sat (ab ρ T G++(ab ρ T H++Φ)) w)(h:aft X T E F G H g c xs.toList b.toList=some cv):
  nY X.P (az ρ T E F) ρ (T.get g) ⟨dst,.call ⟨c,xs,b⟩,ty,pos,af,gd⟩ w cv:=by
 obtain ⟨xs⟩:=xs;obtain ⟨b⟩:=b;unfold aft at h;split at h
 .rename_i x t e1 e2;simp only at e1 e2;subst e1;subst e2;split at h
  .rename_i e f;split at h
   .rename_i id hx;have a:=aV (ρ:=ρ) hx;simp only [AV.val] at a;split at h
    next s d=>obtain ⟨l,k⟩:=aI h;exact .pv k (ak3 λj=>GU (cf f) a (aaz i d (aD.kT l j)))
    .cases h
   next hx=>have a:=aV (ρ:=ρ) hx;simp only [AV.val] at a;exact .pv h (GU (n:=0) (cf f) a ⟨_,_,rfl⟩)
   .cases h
  .cases h
 .cases h
theorem amV{op:BinOp}{t:TypeId}(e:Sat (ab ρ T G++(ab ρ T H++Φ)) w)(h:ak6 X T E F G H g op t x y=some cv):
  nY X.P (az ρ T E F) ρ (T.get g) ⟨dst,.binOp op t x y t',ty,pos,af,gd⟩ w cv:=by
 unfold ak6 at h;split at h
 .rename_i p hp;split at h
  .rename_i c;have b:=aV (ρ:=ρ) c;simp only [AV.val] at b;split at h
   .rename_i id hx;have a:=aV (ρ:=ρ) hx;simp only [AV.val] at a;split at h
    .rename_i s j k v d f;obtain ⟨l,i⟩:=ck f;have:j=id:=ai i;subst this;have hb:=Src.holds e l;split at h
     .exact .pv h (YF (Ak hp) a b hb)
     .exact .pv h (Yz (Ak hp) a b hb)
     .cases h
    .cases h
   .rename_i hx;have a:=aV (ρ:=ρ) hx;simp only [AV.val] at a;split at h
    .exact .pv h (ah1 (Ak hp) a b)
    .exact .pv h (ahA (Ak hp) a b)
    .cases h
   .cases h
  .cases h
 .cases h
theorem aqC{op:Op}(f:Sat (ab ρ T G++(ab ρ T H++Φ)) w)(h:aoA X T E F G H g op=some cv):
  nY X.P (az ρ T E F) ρ (T.get g) ⟨dst,op,ty,pos,af,gd⟩ w cv:=by
 unfold aoA at h;split at h
 .split at h
  .rename_i v o;split at h
   .rename_i cs q;split at h
    next v' n=>exact .pv h (aqu f o q n)
    .cases h
   .cases h
  .cases h
 .obtain ⟨b,a⟩:=aI h;split at a
  .rename_i e J;split at a
   .rename_i C;split at a
    .rename_i v o;split at a
     next l B=>refine .pv a (ak3 λD=>?_);have m:=aV (ρ:=ρ) o;simp only [AV.val];exact as9 (M:=λ_=>False) (cf J) (JL C) (sN b) m (λ_=>atx f B D)
     .cases a
    .cases a
   .cases a
  .cases a
 .rename_i t x y ok;split at h
  .rename_i p hp;split at h
   .rename_i id hx;split at h
    .rename_i R A;split at h
     .rename_i s j k v d I;split at h
      .rename_i z u;obtain ⟨b,a⟩:=aI h;simp only [ah] at b;split at a
       .rename_i key i;obtain ⟨L,K⟩:=ck I;have:j=id:=ai K;subst this;have hb:=Src.holds f L;have m:=aV (ρ:=ρ) hx;have r:=aV (ρ:=ρ) A;simp only [AV.val] at m;rw [aao i] at r;obtain ⟨Q,O,N⟩:=z;have c:(zeroValue p.2).run X.P w= .ok (Hy v v.sD) w:=by rw [<-aoI b.2];exact (cW u).zero w
        cases ok
        .refine .pv a ?_;rw [ajn];exact akn (aaX b.1) (Ak hp) c m r (λ_=>hb)
        .refine .pv a ?_;simp only [AV.val,AV.ar];rw [ajn];exact aef (aaX b.1) (Ak hp) c m r (λ_=>hb)
       .cases a
      .cases h
     .cases h
    .cases h
   .cases h
  .cases h
 .exact akY f h
 .exact amV f h
 .cases h
end
def bK(P:Program)(E:Env)(o:Oper)(w:World)(R:Value->World->Prop):Prop:=
 ∀n a,Fits n E a->(∃v w',(execOp a.eval o).run P w= .ok (.value v) w'/\R v w')\/(∃w',(execOp a.eval o).run P w= .ok .skip w'/\R undef w')\/
  (∃(f:FuncId) (args:zq),(execOp a.eval o).run P w= .ok (.enter f args.toArray) w/\gK P f args w R)
section
variable {P : Program} {σ : zt} {Q : bD} {n : Nat} {D : zm} {E : Env} {w : World} {ops : zv} {rest : zz} {o : Oper} {R S : Value -> World -> Prop}
theorem bK.run(h:bk P E true o w v)(k:R v w):bK P E o w R:=λn a b=> .inl ⟨v,w,h n a b rfl,k⟩
theorem bK.oS{w':World}(h:ny P E o w v w')(k:R v w'):bK P E o w R:=λn a b=> .inl ⟨v,w',h n a b,k⟩
theorem bK.amp{w':World}(h:Uz P E o w w')(k:R undef w'):bK P E o w R:=λn a b=> .inr (.inl ⟨w',h n a b,k⟩)
theorem bK.upon(g:bK P E o w R){a:Act}(e:Fits n E a){next:Act->World->Prop}(h:∀v w',R v w'->next (a.put o.dst v) w'):o.uponIn (FW σ) 0 P a next Q ((execOp a.eval o).run P w):=by
 rcases g n a e with ⟨v,w',c,b⟩|⟨w',c,b⟩|⟨f,args,c,b⟩
 .rw [c,Oper.uponIn_value];exact h _ _ b
 .rw [c,Oper.uponIn_skip];exact h _ _ b
 .rw [c];exact Lf b (λv w' d=>h v w' d) (λ_ _ d=>d.elim)
def se(dst:zu)(g:Bool)(v:Value)(E:Env):Env:=match dst with
 |some d=>(d,g,v)::E
 |none=>E
def Pv(n:Nat):zu->Bool
 |some d=>Nat.blt d n
 |none=>true
theorem Fits.se{E:Env}{a:Act}(h:Fits n E a){d:zu}{g:Bool}{v:Value}(b:Pv n d=true):Fits n (se d g v E) (a.put d (y6 g v)):=by
 cases d with
 |none=>exact h
 |some d=>exact h.put b
theorem asy(f:bK P E o w R)(hp:jc o=true)(e:o.guard=none)(d:Pv n o.dst=true)
  (h:∀v w',R v w'->WL P σ ops Q n D rest (se o.dst true v E) w'):WL P σ ops Q n D (o::rest) E w:=λa b i=>
 wpListIn_plain e λK g=>lY hp (f.upon b λv w' c=>g _ _ (h v w' c _ (b.se d) (by rw [jx];exact i)))
theorem aqz{j:Nat}{b:Bool}{rj:Tmp}{p q:Bool}{g:Bool}(t:g=true->bK P E o w R)(x:g=false->∃v,R v w)(hp:jc o=true)(i:o.guard=some (j,b))(s:(ops[j]?).bind (·.dst)=some rj)
  (r:look E rj=some (p,.bool q)) (f:Nat.blt rj n=true) (u:(p&&(q==b))=g) (k:Pv n o.dst=true)
  (h:∀v w',R v w'->WL P σ ops Q n D rest (se o.dst g v E) w'):WL P σ ops Q n D (o::rest) E w:=λa c m=>
 wpListIn_step λK l=>by
  rw [GC i s r c f,u];cases g
  .simp only [pA,qT];obtain ⟨v,e⟩:=x rfl;have:=c.se (d:=o.dst) (g:=false) (v:=v) k;exact ⟨λ_ _=>trivial,l _ _ (h _ _ e _ this (by rw [jx];exact m))⟩
  .simp only [qQ];exact lY hp ((t rfl).upon c λv w' e=>l _ _ (h v w' e _ (c.se k) (by rw [jx];exact m)))
end
abbrev cT(R:Type):=aE->Option R
def cL(dst:zu)(g:GK)(v:AV)(E:aG):aG:=match dst with
 |some d=>(d,g,v)::E
 |none=>E
def aY{R:Type}(r:R)(K:cT R)(T:aD)(fr:Fr)(st:aE)(g:GK)(dst:zu)(ρ:aB)(Φ:Ctx)(v:Value)(w':World):Prop:=
 ∃(ρ':aB) (st':aE) (av:AV),K st'=some r/\aW st.c ρ ρ'/\st.c<=st'.c/\st'.E=cL dst g av st.E/\av.val ρ'=v/\az ρ' T st.E fr.F=az ρ T st.E fr.F/\
  ab ρ' T fr.H=ab ρ T fr.H/\Sat (ab ρ' T st'.G++(ab ρ' T fr.H++Φ)) w'
def jX(P:Program)(T:aD)(g:GK)(Ev:Env)(o:Oper)(w:World)(O:Value->World->Prop):Prop:=
 (T.get g=true->bK P Ev o w O)/\(T.get g=false->∃v,O v w)
section
variable {R : Type} {r : R} {K : cT R} {T : aD} {fr : Fr} {st st' : aE} {g : GK} {dst : zu} {ρ ρ' : aB} {Φ : Ctx} {v : Value} {w w' : World}
theorem aE.cS:st.low fr=true↔aG.low st.c st.E=true/\aG.low st.c fr.F=true/\bI st.c st.G=true/\bI st.c fr.H=true:=by simp only [aE.low,ah,and_assoc]
theorem oY(b:st.low fr=true)(a:aW st.c ρ ρ'):az ρ' T st.E fr.F=az ρ T st.E fr.F:=by obtain ⟨e,d,_,_⟩:=aE.cS.1 b;rw [az,sH a e,sH a d]
theorem aY.new{av:AV}(b:st.low fr=true)(i:K st'=some r)(a:aW st.c ρ ρ')(h:st.c<=st'.c)(j:st'.E=cL dst g av st.E)(d:av.val ρ'=v)
  (f:Sat (ab ρ' T st'.G++(ab ρ T fr.H++Φ)) w'):aY r K T fr st g dst ρ Φ v w':=by
 have e:=bh (T:=T) a (aE.cS.1 b).2.2.2;exact ⟨ρ',st',av,i,a,h,j,d,oY b a,e,by rw [e];exact f⟩
theorem aY.jP{av:AV}(e:K st'=some r)(d:st.c<=st'.c)(f:st'.E=cL dst g av st.E)(a:av.val ρ=v)
  (b:Sat (ab ρ T st'.G++(ab ρ T fr.H++Φ)) w'):aY r K T fr st g dst ρ Φ v w':=
 ⟨ρ,st',av,e,.refl,d,f,a,rfl,rfl,b⟩
theorem aY.push{av:AV}{x:Nm}{row:Row}(a:st.low fr=true)(b:K { st with c:=st.c+1,E:=cL dst g av st.E,G:=row::st.G }=some r)(hv:av.val (ρ.set st.c x)=v)
  (hs:Sat (row.item (ρ.set st.c x) T::(ab ρ T st.G++(ab ρ T fr.H++Φ))) w'):aY r K T fr st g dst ρ Φ v w':=by
 refine aY.new a b aB.bd (mi _) rfl hv ?_;have e:=bh (T:=T) (aB.bd (ρ:=ρ) (j:=st.c) (x:=x)) (aE.cS.1 a).2.2.1;show Sat (ab (ρ.set st.c x) T (row::st.G)++_) w';rw [ab,er];rw [ab] at e;rw [e];exact hs
theorem fT{G:List Row}{row:Row}{j:Nat}{Δ:Ctx}(a:j<G.length):ab ρ T (G.set j row)++Δ=(ab ρ T G++Δ).set j (row.item ρ T):=by rw [List.set_append_left _ _ (by simpa [ab] using a)];simp only [ab,List.map_set]
theorem aY.iP{av:AV}{x:Nm}{row:Row}{j:Nat}(a:st.low fr=true)(b:j<st.G.length)(d:K { st with c:=st.c+1,E:=cL dst g av st.E,G:=st.G.set j row }=some r)(hv:av.val (ρ.set st.c x)=v)
  (hs:Sat ((ab ρ T st.G++(ab ρ T fr.H++Φ)).set j (row.item (ρ.set st.c x) T)) w'):aY r K T fr st g dst ρ Φ v w':=by
 refine aY.new a d aB.bd (mi _) rfl hv ?_;have e:=bh (T:=T) (aB.bd (ρ:=ρ) (j:=st.c) (x:=x)) (aE.cS.1 a).2.2.1;show Sat (ab (ρ.set st.c x) T (st.G.set j row)++_) w';rw [fT b,e];exact hs
end
def Nw(P:Program)(T:aD)(g:GK)(Ev:Env)(o:Oper)(w:World)(O:Value->World->Prop):Prop:= ∃v,(∀w',bk P Ev (T.get g) o w' v)/\O v w
theorem Nw.ok2{T:aD}{g:GK}{Ev:Env}{o:Oper}{w:World}{O:Value->World->Prop}(h:Nw P T g Ev o w O):jX P T g Ev o w O:=by obtain ⟨v,c,a⟩:=h;exact ⟨λb=>bK.run (by have:=c w;rwa [b] at this) a,λ_=>⟨v,a⟩⟩
theorem bK.gd{E:Env}{dst:zu}{op:Op}{ty:TypeId}{pos:String}{af:zw}{gd:Option (Nat×Bool)}{w:World}{R:Value->World->Prop}(h:bK P E ⟨dst,op,ty,pos,af,none⟩ w R):bK P E ⟨dst,op,ty,pos,af,gd⟩ w R:=
 λn a b=>h n a b
def Ty.n':Ty->Nat
 | .i _|.bo|.s|.l _|.n=>1
 | .un|.mp _ _=>0
 | .p x y=>x.n'+y.n'
 | .ex=>4
theorem Ty.Er:(t:Ty)->t.rep.n=t.n'
 | .i _|.bo|.s|.l _|.un|.n|.mp _ _|.ex=>rfl
 | .p x y=>by show x.rep.n+y.rep.n=_;rw [Ty.Er x,Ty.Er y];rfl
def dZ:(t:Ty)->t.T->Nat->List AV×List Row×Nat
 | .i k,x,c=>([.int k x],[],c)
 | .bo,x,c=>([.bool x],[],c)
 | .s,x,c=>([.str x],[],c)
 | .un,_,c=>([],[],c)
 | .n,x,c=>([.ifc x (.agg [])],[],c)
 | .mp _ _,_,c=>([],[],c)
 | .p a b,x,c=>match dZ a x.1 c with
  |(u,p,c)=>match dZ b x.2 c with
   |(v,q,c)=>(u++v,p++q,c)
 | .l t,x,c=>([.sl c],[.sli none c t x false],c+1)
 | .ex,x,c=>([.int .i64 x.op,.int .i64 x.n,.int .i64 x.at_,.sl c],[.sli none c .ex x.l false],c+1)
structure avm(T:aD)(M:Nat->Prop)(w:World)(vs:zq)(c:Nat)(ρ ρ':aB)(m:List AV×List Row×Nat):Prop where
 ag:aW c ρ ρ'
 le:c<=m.2.2
 lw:AV.cm m.2.2 m.1=true
 eq:AV.ar ρ' m.1=vs
 rl:∀r∈m.2.1,r.low m.2.2=true
 rs:∀r∈m.2.1,∃j t l,r= .sli none j t l false
 rp:∀r∈m.2.1,(r.item ρ' T).P M w
theorem Row.gq{c d:Nat}(a:c<=d){r:Row}(h:r.low c=true):r.low d=true:=by
 cases r <;> simp only [Row.low,ah,j5] at h ⊢
 .exact ⟨by omega,AV.kO a _ h.2⟩
 .omega
 .omega
 .omega
 .exact ⟨by omega,AV.kO a _ h.2⟩
 .omega
 .omega
 .exact ⟨by omega,AV.gq a _ h.2⟩
theorem Jb{T:aD}{M:Nat->Prop}{w:World}:(t:Ty)->(x:t.T)->(c:Nat)->(vs:zq)->t.rep.rd M w vs x->(ρ:aB)->∃ρ',avm T M w vs c ρ ρ' (dZ t x c)
 | .i k,x,c,vs,h,ρ=>⟨ρ,.refl,b7 _,rfl,by cases h;simp [dZ,AV.ar,AV.val],(λ_ h=>by cases h),(λ_ h=>by cases h),(λ_ h=>by cases h)⟩
 | .bo,x,c,vs,h,ρ=>⟨ρ,.refl,b7 _,rfl,by cases h;simp [dZ,AV.ar,AV.val],(λ_ h=>by cases h),(λ_ h=>by cases h),(λ_ h=>by cases h)⟩
 | .s,x,c,vs,h,ρ=>⟨ρ,.refl,b7 _,rfl,by cases h;simp [dZ,AV.ar,AV.val],(λ_ h=>by cases h),(λ_ h=>by cases h),(λ_ h=>by cases h)⟩
 | .un,x,c,vs,h,ρ=>⟨ρ,.refl,b7 _,rfl,by cases h;simp [dZ,AV.ar],(λ_ h=>by cases h),(λ_ h=>by cases h),(λ_ h=>by cases h)⟩
 | .n,x,c,vs,h,ρ=>⟨ρ,.refl,b7 _,rfl,by cases h;simp [dZ,AV.ar,AV.val],(λ_ h=>by cases h),(λ_ h=>by cases h),(λ_ h=>by cases h)⟩
 | .mp _ _,x,c,vs,h,ρ=>h.elim
 | .p a b,x,c,vs,h,ρ=>by
  obtain ⟨us,m,rfl,u,q⟩:=h;obtain ⟨j,f⟩:=Jb (T:=T) a x.1 c us u ρ;obtain ⟨g,e⟩:=Jb (T:=T) b x.2 (dZ a x.1 c).2.2 m q j;refine ⟨g,f.ag.trans e.ag f.le,c9 f.le e.le,Sf (AV.kO e.le _ f.lw) e.lw,?_,λr d=>?_,λr d=>?_,λr d=>?_⟩
  .simp only [dZ,dA];rw [AV.cj e.ag _ f.lw,f.eq,e.eq]
  .rcases List.mem_append.1 d with d|d
   .exact Row.gq e.le (f.rl r d)
   .exact e.rl r d
  .rcases List.mem_append.1 d with d|d
   .exact f.rs r d
   .exact e.rs r d
  .rcases List.mem_append.1 d with d|d
   .rw [Row.CK e.ag (f.rl r d)];exact f.rp r d
   .exact e.rp r d
 | .l t,x,c,vs,h,ρ=>by
  obtain ⟨v,rfl,h⟩:=h;refine ⟨ρ.set c { df with v:=v },aB.bd,mi _,by simp [dZ,AV.cm,AV.low],by simp [dZ,AV.ar,AV.val,aB.bH],λr d=>?_,λr d=>?_,λr d=>?_⟩
  .simp only [dZ,l5] at d;subst d;simp [Row.low,dZ]
  .simp only [dZ,l5] at d;subst d;exact ⟨_,_,_,rfl⟩
  .simp only [dZ,l5] at d;subst d;simp only [Row.item,aB.bH];exact λ_=>⟨h,λhb=>by cases hb⟩
 | .ex,x,c,vs,h,ρ=>by
  obtain ⟨v,rfl,o⟩:=LZ h;refine ⟨ρ.set c { df with v:=v },aB.bd,mi _,by simp [dZ,AV.cm,AV.low],by simp [dZ,AV.ar,AV.val,aB.bH],λr d=>?_,λr d=>?_,λr d=>?_⟩
  .simp only [dZ,l5] at d;subst d;simp [Row.low,dZ]
  .simp only [dZ,l5] at d;subst d;exact ⟨_,_,_,rfl⟩
  .simp only [dZ,l5] at d;subst d;simp only [Row.item,aB.bH];exact λ_=>⟨o,λhb=>by cases hb⟩
theorem Pw:(t:Ty)->(x:t.T)->(c:Nat)->c<=(dZ t x c).2.2
 | .i _,_,_|.bo,_,_|.s,_,_|.un,_,_|.n,_,_|.mp _ _,_,_=>b7 _
 | .p a b,x,c=>c9 (Pw a x.1 c) (Pw b x.2 _)
 | .l _,_,_|.ex,_,_=>mi _
theorem Pj:(t:Ty)->(x:t.T)->(c:Nat)->∀r∈(dZ t x c).2.1,∃j t l,r= .sli none j t l false
 | .i _,_,_,_,h|.bo,_,_,_,h|.s,_,_,_,h|.un,_,_,_,h|.n,_,_,_,h|.mp _ _,_,_,_,h=>by cases h
 | .p a b,x,c,r,h=>by
  rcases List.mem_append.1 h with h|h
  .exact Pj a x.1 c r h
  .exact Pj b x.2 _ r h
 | .l _,_,_,r,h=>by
  simp only [dZ,l5] at h;subst h;exact ⟨_,_,_,rfl⟩
 | .ex,_,_,r,h=>by simp only [dZ,l5] at h;subst h;exact ⟨_,_,_,rfl⟩
def xS(g:GK)(r:Row):Row:=match g,r with
 |none,r=>r
 |some g,.sli _ id t l b=> .sli (some g) id t l b
 |some _,r=>r
theorem wu{ρ:aB}{T:aD}{g:GK}{M:Nat->Prop}{w:World}{j:Nat}{t:Ty}{l:List t.T}(h:T.get g=true->((Row.sli none j t l false).item ρ T).P M w):
  ((xS g (.sli none j t l false)).item ρ T).cV=true/\((xS g (.sli none j t l false)).item ρ T).P M w:=by
 cases g with
 |none=>exact ⟨rfl,h (aD.get_none)⟩
 |some k=>
  refine ⟨rfl,λa=>?_⟩;exact h a (aD.get_none)
theorem DA{Γ:Ctx}{w:World}(h:Sat Γ w):∀(new:List Item),(∀it∈new,it.cV=true/\it.P Γ.M w)->Sat (new++Γ) w:=λnew a=>by
 have key:∀new:List Item,(∀it∈new,it.cV=true/\it.P Γ.M w)->new.all (·.cV)=true/\ajY Γ.M w new:=λnew=>by
  induction new with
  |nil=>exact λ_=>⟨rfl,trivial⟩
  |cons it l ih=>
   intro a;obtain ⟨f,e⟩:=ih (λjt b=>a jt (cb _ b));obtain ⟨d,c⟩:=a it (ct ..);exact ⟨by simp only [qX,ah];exact ⟨d,f⟩,c,e⟩
 exact h.aqH new (key new a).1 (key new a).2
def ui(G H:List Row)(t:Ty)(v:AV):Option (List t.T):=match v with
 | .sl j=>(match eK G H (ox j) with
  |some (_,.sli none _ t' l _)=>cn.asL t ⟨.l t',l⟩
  |_=>none)
 | .raw (.slice none 0 0)=>some []
 |_=>none where cn.asL (t:Ty) (d:cn):Option (List t.T):=d.as (.l t)
theorem sR{t t':Ty}{l:List t'.T}{l':List t.T}(h:ui.cn.asL t ⟨.l t',l⟩=some l'):∃e:t'=t,e▸l=l':=by have:=cn.QH h;cases this;exact ⟨rfl,rfl⟩
theorem P9{ρ:aB}{T:aD}{G H:List Row}{Φ:Ctx}{w:World}{t:Ty}{v:AV}{l:List t.T}(c:Sat (ab ρ T G++(ab ρ T H++Φ)) w)(h:ui G H t v=some l):
  bW t.rep (Ctx.M (ab ρ T G++(ab ρ T H++Φ))) w (v.val ρ) l:=by
 unfold ui at h;split at h
 .rename_i j;split at h
  next s a t' l' b d=>obtain ⟨f,e⟩:=ck d;have:a=j:=ai e;subst this;obtain ⟨rfl,rfl⟩:=sR h;simp only [AV.val];exact ((Src.holds c f) aD.get_none).1
  .cases h
 .cases h;simp only [AV.val];exact bW.nil
 .cases h
def rL(G H:List Row):(t:Ty)->List AV->Option (t.T×List AV)
 | .i k,vs=>(match vs with
  | .int k' x::vs=>aC ( gF k k' ) ( some (x,vs) ) none
  |_=>none)
 | .bo,vs=>(match vs with
  | .bool x::vs=>some (x,vs)
  |_=>none)
 | .s,vs=>(match vs with
  | .str x::vs=>some (x,vs)
  |_=>none)
 | .un,vs=>some ((),vs)
 | .n,vs=>(match vs with
  | .ifc t (.agg [])::vs=>some (t,vs)
  |_=>none)
 | .p a b,vs=>(match rL G H a vs with
  |some x=>(match rL G H b x.2 with
   |some y=>some ((x.1,y.1),y.2)
   |none=>none)
  |none=>none)
 | .l t,vs=>(match vs with
  |v::vs=>(match ui G H t v with
   |some l=>some (l,vs)
   |none=>none)
  |_=>none)
 | .ex,vs=>(match vs with
  | .int .i64 a:: .int .i64 b:: .int .i64 c::v::vs=>(match ui G H .ex v with
   |some l=>some (Ex.mk a b c l,vs)
   |none=>none)
  |_=>none)
 |_,_=>none
theorem YV{ρ:aB}{T:aD}{G H:List Row}{Φ:Ctx}{w:World}(d:Sat (ab ρ T G++(ab ρ T H++Φ)) w):(t:Ty)->(vs:List AV)->(x:t.T×List AV)->rL G H t vs=some x->
  ∃us,vs=us++x.2/\t.rep.rd (Ctx.M (ab ρ T G++(ab ρ T H++Φ))) w (AV.ar ρ us) x.1
 | .i k,vs,x,h=>by
  unfold rL at h;split at h
  next q y us=>obtain ⟨j,g⟩:=aI h;have:=iI j;subst this;cases g;exact ⟨[.int k y],rfl,by simp only [AV.ar,AV.val];rfl⟩
  .cases h
 | .bo,vs,x,h=>by
  unfold rL at h;split at h
  next y us=>cases h;exact ⟨[.bool y],rfl,by simp only [AV.ar,AV.val];rfl⟩
  .cases h
 | .s,vs,x,h=>by
  unfold rL at h;split at h
  next y us=>cases h;exact ⟨[.str y],rfl,by simp only [AV.ar,AV.val];rfl⟩
  .cases h
 | .un,vs,x,h=>by
  unfold rL at h;cases h;exact ⟨[],rfl,by simp only [AV.ar];rfl⟩
 | .n,vs,x,h=>by
  unfold rL at h;split at h
  next t us=>cases h;exact ⟨[.ifc t (.agg [])],rfl,by simp only [AV.ar,AV.val];rfl⟩
  .cases h
 | .mp _ _,vs,x,h=>by unfold rL at h;cases h
 | .p a b,vs,x,h=>by
  unfold rL at h;split at h
  .rename_i y o;split at h
   next z m=>cases h;obtain ⟨us,e1,j⟩:=YV d a vs y o;obtain ⟨e,e2,g⟩:=YV d b y.2 z m;refine ⟨us++e,by rw [e1,e2,b0],?_⟩;rw [dA];exact ⟨_,_,rfl,j,g⟩
   .cases h
  .cases h
 | .l t,vs,x,h=>by
  unfold rL at h;split at h
  .rename_i v us;split at h
   next l f=>cases h;refine ⟨[v],rfl,?_⟩;simp only [AV.ar];exact (P9 d f).rsl
   .cases h
  .cases h
 | .ex,vs,x,h=>by
  unfold rL at h;split at h
  .rename_i a b c v us;split at h
   next l f=>cases h;refine ⟨[.int .i64 a,.int .i64 b,.int .i64 c,v],rfl,?_⟩;simp only [AV.ar,AV.val];exact Sj (P9 d f).rsl
   .cases h
  .cases h
def rd1(G H:List Row)(t:Ty)(vs:List AV):Option t.T:=match rL G H t vs with
 |some (x,[])=>some x
 |_=>none
theorem amI{ρ:aB}{T:aD}{G H:List Row}{Φ:Ctx}{w:World}(b:Sat (ab ρ T G++(ab ρ T H++Φ)) w){t:Ty}{vs:List AV}{x:t.T}(h:rd1 G H t vs=some x):
  t.rep.rd (Ctx.M (ab ρ T G++(ab ρ T H++Φ))) w (AV.ar ρ vs) x:=by
 unfold rd1 at h;split at h
 next y a=>cases h;obtain ⟨us,e1,c⟩:=YV b t vs _ a;simp only [hV] at e1;rw [e1];exact c
 .cases h
def rdL(G H:List Row)(t:Ty):Nat->List AV->Option (List t.T)
 |0,vs=>(match vs with
  |[]=>some []
  |_=>none)
 |k+1,vs=>(match rL G H t vs with
  |some x=>(match rdL G H t k x.2 with
   |some l=>some (x.1::l)
   |none=>none)
  |none=>none)
theorem Wn{ρ:aB}{T:aD}{G H:List Row}{Φ:Ctx}{w:World}(a:Sat (ab ρ T G++(ab ρ T H++Φ)) w){t:Ty}:(k:Nat)->(vs:List AV)->(l:List t.T)->rdL G H t k vs=some l->
  l.length=k/\db t.rep (Ctx.M (ab ρ T G++(ab ρ T H++Φ))) w (AV.ar ρ vs) l
 |0,vs,l,h=>by
  unfold rdL at h;split at h
  .cases h;exact ⟨rfl,by simp only [AV.ar];exact db.nil⟩
  .cases h
 |k+1,vs,l,h=>by
  unfold rdL at h;split at h
  .rename_i x hx;split at h
   next l' b=>cases h;obtain ⟨us,e1,e⟩:=YV a t vs x hx;obtain ⟨d,c⟩:=Wn a k x.2 l' b;refine ⟨by simp [d],?_⟩;rw [e1,dA];exact db.cons e c
   .cases h
  .cases h
def cP(ids:zC):List Row->List Row
 |[]=>[]
 |r::G=>(match r with
  | .own id t e l ver=>aC ( vf id ids ) ( .sli none id t l false )<| .own id t e l ver
  |r=>r)::cP ids G
theorem aiW{ρ:aB}{T:aD}{ids:zC}{w:World}:{G:List Row}->{A B:Ctx}->Sat (A++(ab ρ T G++B)) w->Sat (A++(ab ρ T (cP ids G)++B)) w
 |[],_,_,h=>h
 |r::G,A,B,h=>by
  have a:∀d:Row,Sat (A++(ab ρ T (d::G)++B)) w->Sat (A++(ab ρ T (d::cP ids G)++B)) w:=λd h=>by
   have i:Sat ((A++[d.item ρ T])++(ab ρ T G++B)) w:=by simpa [ab] using h
   have:=aiW (ids:=ids) i;simpa [ab] using this
  unfold cP;split
  .rename_i id t e l c;cases j:vf id ids
   .exact a _ h
   .refine a _ ?_;have hi:(A++(ab ρ T (Row.own id t e l c::G)++B))[A.length]? =some (pw t.rep e (ρ id).v l ((ρ c).y=⟨.l t,l⟩)):=by rw [ca (b7 _)];simp [ab,Row.item]
    have f:=h.iP hi (new:=(Row.sli none id t l false).item ρ T) ((Ext.refl w).uP _) (λb hb=>by cases hb) (λM' m g=>λ_=>⟨(h.at_ hi).1.freeze (λb hb=>g b hb (λhb=>by cases hb)) m,λhb=>by cases hb⟩);rw [qR _ _ (b7 _)] at f;simpa [ab] using f
  .exact a _ h
theorem tq{c:Nat}{ids:zC}:{G:List Row}->bI c G=true->bI c (cP ids G)=true
 |[],_=>rfl
 |r::G,h=>by
  simp only [bI,ah] at h;unfold cP;simp only [bI,ah];refine ⟨?_,tq h.2⟩;split
  .rename_i id t e l b;have a:=h.1;simp only [Row.low,ah] at a;cases vf id ids
   .simp only [Row.low,ah];exact a
   .simp only [Row.low];exact a.1
  .exact h.1
theorem kh{ρ:aB}{T:aD}{ids:zC}{w:World}{G:List Row}{B:Ctx}(h:Sat (ab ρ T G++B) w):Sat (ab ρ T (cP ids G)++B) w:=aiW (A:=[]) h
def AV.fg:AV->zC
 | .sl id=>[id]
 | .agg l=>sls0 l
 |_=>[] where sls0:List AV->zC
 |[]=>[]
 | .sl id::l=>id::sls0 l
 |_::l=>sls0 l
section
variable {X : Cx} {R : Type} {r : R} {K : cT R} {T : aD} {fr : Fr} {st : aE} {g : GK} {d : Tmp} {ρ : aB} {Φ : Ctx} {w : World} {ty : TypeId} {pos : String} {af : zw} {gd : zg}
theorem jX.none_{Ev:Env}{o:Oper}{O:Value->World->Prop}(h:bK P Ev o w O):jX P T none Ev o w O:=⟨λ_=>h,λa=>by rw [aD.get_none] at a;cases a⟩
def adH(P:Program)(t:TypeId):Option (List AV):=match lK P t with
 |some z=>some (z.2.2.cells.toList.map kB)
 |none=>none
def amn(st:aE)(d:Tmp)(t:TypeId)(cs:List AV)(K:cT R):Option R:=K { st with c:=st.c+1,E:=cL (some d) none (.ptr st.c 0) st.E,G:= .box st.c t cs::st.G }
theorem af9{t:TypeId}{cs:List AV}(f:st.low fr=true)(e:Sat (ab ρ T st.G++(ab ρ T fr.H++Φ)) w)(a:AV.cm st.c cs=true)(h:amn st d t cs K=some r):
  aY r K T fr st none (some d) ρ Φ (.pointer (some ⟨w.heap.size,0,none⟩)) (w.alloc (.cells (AV.ar ρ cs).toArray t)):=by
 refine aY.push (x:={ df with b:=w.heap.size }) f h (by simp only [AV.val,aB.bH]) ?_;simp only [Row.item,aB.bH];rw [AV.cj aB.bd _ a];exact e.push (fi _ _) (λb hb=>by
  have:b=w.heap.size:=by simpa [box] using hb
  subst this;simp) (λ_ _=>heap_alloc_new w _)
def ad1(X:Cx)(st:aE)(d:Tmp)(t:TypeId)(K:cT R):Option R:=match adH X.P t with
 |some cs=>amn st d t cs K
 |none=>none
theorem anu{t:TypeId}(f:st.low fr=true)(e:Sat (ab ρ T st.G++(ab ρ T fr.H++Φ)) w)(h:ad1 X st d t K=some r):
  jX X.P T none (az ρ T st.E fr.F) ⟨some d,.alloc t,ty,pos,af,gd⟩ w (aY r K T fr st none (some d) ρ Φ):=by
 unfold ad1 at h;split at h
 .rename_i cs a;unfold adH at a;split at a
  next z c=>cases a;obtain ⟨n,b,z⟩:=z;refine .none_ (bK.gd (bK.oS (Lb (zs:=z.cells.toList) (cW c) (by simp)) ?_));have:=af9 f e aet h;rwa [nk] at this
  .cases a
 .cases h
def aqP(T:aD)(fr:Fr)(st:aE)(d:Tmp)(t:TypeId)(x:Operand)(K:cT R):Option R:=match bC T st.E fr.F none x with
 |some v=>aC ( OS v&&AV.cm st.c (dx v) ) ( amn st d t (dx v) K ) none
 |none=>none
theorem asB{t:TypeId}(e:st.low fr=true)(c:Sat (ab ρ T st.G++(ab ρ T fr.H++Φ)) w)(h:aqP T fr st d t x K=some r):
  jX X.P T none (az ρ T st.E fr.F) ⟨some d,.box t x,ty,pos,af,gd⟩ w (aY r K T fr st none (some d) ρ Φ):=by
 unfold aqP at h;split at h
 next v b=>obtain ⟨a,f⟩:=aI h;simp only [ah] at a;exact .none_ (bK.gd (bK.oS (apl (bL b) (Bw a.1)) (af9 e c a.2 f)))
 .cases h
def akA:AV->Bool
 | .agg _|.tuple _|.nv _=>false
 | .raw v=>v.oneCell'
 |_=>true
theorem aow{v:AV}(h:akA v=true):(v.val ρ).oneCell'=true:=by
 cases v with
 |agg l=>cases h
 |tuple l=>cases h
 |nv l=>cases h
 |raw v=>simp only [AV.val];exact h
 |_=>simp only [AV.val];rfl
theorem Qy:{l:List AV}->l.all akA=true->(AV.ar ρ l).all Value.oneCell'=true
 |[],_=>by simp [AV.ar]
 |v::l,h=>by simp only [qX,ah] at h;simp only [AV.ar,qX,ah];exact ⟨aow h.1,Qy h.2⟩
def af6(P:Program)(st:aE)(t:TypeId)(id off:Nat)(v:AV)(K:cT R):Option R:=match pz (A4 id) st.G with
 |some (j,.box _ e vs)=>(match lK P t with
  |some z=>aC ( OS v&&(dx v).all akA&&Nat.beq (dx v).length z.1&&Nat.ble (off+(dx v).length) vs.length ) (
    K { st with G:=st.G.set j (.box id e (vV vs off (dx v))) } ) none
  |none=>none)
 |_=>none
theorem am7{t:TypeId}{id off:Nat}{v:AV}(g:Sat (ab ρ T st.G++(ab ρ T fr.H++Φ)) w)(hx:bC T st.E fr.F none x=some (.ptr id off))(o:bC T st.E fr.F none y=some v)(h:af6 X.P st t id off v K=some r):
  bK X.P (az ρ T st.E fr.F) ⟨none,.store t x y,ty,pos,af,gd⟩ w (aY r K T fr st none none ρ Φ):=by
 unfold af6 at h;split at h
 .rename_i j a e vs s;split at h
  .rename_i z m;obtain ⟨n,bytes,z⟩:=z;obtain ⟨k,B⟩:=aI h;simp only [ah] at k;obtain ⟨⟨⟨L,J⟩,I⟩,D⟩:=k;obtain ⟨l,C⟩:=mZ s;have:a=id:=ai C;subst this;have d:=bL (ρ:=ρ) hx;have f:=bL (ρ:=ρ) o;simp only [AV.val] at d;have hi:=gm (ρ:=ρ) (T:=T) (Φ:=ab ρ T fr.H++Φ) l;have hb:fL w (ρ a).b e (AV.ar ρ vs):=g.at_ hi;obtain ⟨p,A,i⟩:=ak0 (P:=X.P) (E:=az ρ T st.E fr.F) (w:=w) (dst:=none) (ty:=ty) (pos:=pos) (af:=af) (cW m) d f (Bw L) (by rw [AV.bu];exact ai I) (Qy J) hb (by rw [AV.bu,AV.bu];exact D) AM;refine bK.gd (bK.amp p (aY.jP (av:= .raw undef) B (b7 _) rfl (by simp only [AV.val]) ?_));have q:j<st.G.length:=(List.getElem?_eq_some_iff.1 l).1;show Sat (ab ρ T (st.G.set j _)++_) _;rw [fT q];refine g.iP hi A (λc u=>?_) (λ_ _ _=>i);have:c=(ρ a).b:=by simpa [Row.item,box] using u
   subst this;exact ⟨i.lt,.inl (by simp [Row.item,box])⟩
  .cases h
 .cases h
theorem aiO{t:Ty}{p:gP}{l l':List t.T}{q q':Prop}{i:Nat}{Γ:Ctx}{w':World}(b:Sat Γ w)(hi:Γ[i]? =some (pw t.rep e p l q))(h:q')(g:kP (dV (sl p)) w w')(a:w'.heap.size=w.heap.size)(f:wg p=dV (sl p))
  (j:∀M',Mv Γ.M w M' w'->iv t.rep e M' w' (sl p) l'):Sat (Γ.set i (pw t.rep e p l' q')) w':=by
 refine b.iP hi (by rw [<-f] at g;exact g) (λc d=>⟨by rw [a];exact (b.at_ hi).1.lt c d,.inl d⟩) (λM' m _=>⟨?_,h⟩);show bR t.rep e M' w' (sl p) l' (wg p);rw [f];exact bR.of (j M' m)
theorem tf{c:Nat}:∀{G:List Row} {j:Nat} {r:Row},bI c G=true->G[j]? =some r->r.low c=true:=λ{G}=>by
 induction G with
 |nil=>intro j r _ h;simp at h
 |cons b G ih=>
  intro j r h a;simp only [bI,ah] at h;cases j with
  |zero=>simp at a;subst a;exact h.1
  |succ j=>exact ih h.2 (by simpa using a)
def ahf(P:Program)(fr:Fr)(st:aE)(t:TypeId)(q off:Nat)(v:AV)(K:cT R):Option R:=
 match eK (cP (AV.fg.sls0 (dx v)) st.G) fr.H (UA q) with
 |some (_,.kn none _ id ver u i x)=>(match pz (ox id) (cP (AV.fg.sls0 (dx v)) st.G) with
  |some (j,.own _ u' e l ver')=>(match lK P t with
   |some z=>aC ( Nat.beq ver ver'&&OS v&&(dx v).all akA&&Nat.beq (dx v).length z.1&&AV.cm st.c (dx v) ) (
     aC ( Nat.beq off 0&&Nat.beq (dx v).length u'.n' ) ( match rd1 (cP (AV.fg.sls0 (dx v)) st.G) fr.H u' (dx v) with
      |some y=>K { st with c:=st.c+1,G:=(cP (AV.fg.sls0 (dx v)) st.G).set j (.own id u' e (List.set l i.toNat y) st.c) }
      |none=>none )<|
      aC ( Nat.ble (off+(dx v).length) (dZ u x (st.c+1)).1.length ) ( match rd1 ((dZ u x (st.c+1)).2.1++cP (AV.fg.sls0 (dx v)) st.G) fr.H u' (vV (dZ u x (st.c+1)).1 off (dx v)) with
       |some y=>K { st with c:=(dZ u x (st.c+1)).2.2,G:=(dZ u x (st.c+1)).2.1++(cP (AV.fg.sls0 (dx v)) st.G).set j (.own id u' e (List.set l i.toNat y) st.c) }
       |none=>none ) none ) none
   |none=>none)
  |_=>none)
 |_=>none
theorem anS{t:TypeId}{q off:Nat}{v:AV}(hl:st.low fr=true)(C:Sat (ab ρ T st.G++(ab ρ T fr.H++Φ)) w)(hx:bC T st.E fr.F none x=some (.adr q off))(hy:bC T st.E fr.F none y=some v)(h:ahf X.P fr st t q off v K=some r):
  bK X.P (az ρ T st.E fr.F) ⟨none,.store t x y,ty,pos,af,gd⟩ w (aY r K T fr st none none ρ Φ):=by
 unfold ahf at h;have g:=tq (ids:=AV.fg.sls0 (dx v)) (aE.cS.1 hl).2.2.1;replace C:=kh (ids:=AV.fg.sls0 (dx v)) C;generalize cP (AV.fg.sls0 (dx v)) st.G=G at h g C;split at h
 .rename_i s q' id R u i xe hf;split at h
  .rename_i j o u' e l Q Y;split at h
   .rename_i z hz;obtain ⟨n,bytes,z⟩:=z;obtain ⟨h1,h2⟩:=aI h;simp only [ah] at h1;obtain ⟨⟨⟨⟨a1,a2⟩,a3⟩,a4⟩,a5⟩:=h1;obtain ⟨f1,f2⟩:=ck hf;obtain ⟨S,k2⟩:=mZ Y;have e1:q'=q:=ai f2;have e2:o=id:=ai k2;have e3:R=Q:=ai a1;subst e1;subst e2;subst e3;have A:=bL (ρ:=ρ) hx;have U:=bL (ρ:=ρ) hy;simp only [AV.val] at A;obtain ⟨I,b1,b2,b3⟩:=(Src.holds C f1) aD.get_none;have hi:=gm (ρ:=ρ) (T:=T) (Φ:=ab ρ T fr.H++Φ) S;obtain ⟨c1,c2⟩:=C.at_ hi;obtain ⟨e4,e5⟩:=Qh b1 c2;subst e4;simp only at e5;subst e5;obtain ⟨o1,o2⟩:=c1.iB b2;obtain ⟨o3,k,o4,o5⟩:=c1.atA b2;have hj:j<G.length:=(List.getElem?_eq_some_iff.1 S).1;have Z:(AV.ar ρ (dx v)).length=n:=by rw [AV.bu];exact ai a4
    rw [b3] at A;rcases dT h2 with ⟨h3,h4⟩|⟨_,h4⟩
    .simp only [ah] at h3;have e6:off=0:=ai h3.1;subst e6;split at h4
     .rename_i D p;have f:=amI C p;have M:k.length=u.rep.n:=u.rep.len o5;have hlu:(AV.ar ρ (dx v)).length=u.rep.n:=u.rep.len f;have V:pE k 0 (AV.ar ρ (dx v))=AV.ar ρ (dx v):=by unfold pE;simp only [List.take_zero,qs,l7];rw [mE (by omega),hV]
      obtain ⟨w',Y,hC,J,hP⟩:=Mr (P:=X.P) (E:=az ρ T st.E fr.F) (w:=w) (dst:=none) (ty:=ty) (pos:=pos) (af:=af) (cW hz) A U (Bw a2) Z (Qy a3) o3 o1 o4 M (qc (by omega)) V f (λb hb=>Ctx.j7 hi (by rw [<-o2] at hb;exact hb));refine bK.gd (bK.amp Y (aY.new (ρ':=ρ.set st.c { df with y:=⟨.l u,List.set I i.toNat D⟩ }) (av:= .raw undef) hl h4 aB.bd (mi _) rfl (by simp only [AV.val]) ?_));show Sat (ab _ T (G.set j _)++_) _;rw [fT hj,bh aB.bd g];have:=aiO (q':=((ρ.set st.c { df with y:=⟨.l u,List.set I i.toNat D⟩ }) st.c).y=⟨.l u,List.set I i.toNat D⟩) C hi (by rw [aB.bH]) hC J o2 hP;have hlt:=(List.getElem?_eq_some_iff.1 S).2;have N:(ρ.set st.c { df with y:=⟨.l u,List.set I i.toNat D⟩ }) o=ρ o:=by have d:=tf g S;simp only [Row.low,ah,j5] at d;exact aB.bd _ d.1
      simp only [Row.item,N];exact this
     .cases h4
    .obtain ⟨h5,h6⟩:=aI h4;split at h6
     .rename_i D p;obtain ⟨a,B⟩:=Jb (T:=T) u xe (st.c+1) k o5 (ρ.set st.c { df with y:=⟨.l u,List.set I i.toNat D⟩ });have ag:aW st.c ρ a:=aB.bd.trans B.ag (mi _);generalize dZ u xe (st.c+1)=m at h5 h6 p B;have L:Sat (ab a T m.2.1++(ab ρ T G++(ab ρ T fr.H++Φ))) w:=DA C _ (λit hit=>by obtain ⟨r,W,rfl⟩:=List.mem_map.1 hit;obtain ⟨j1,t1,l1,rfl⟩:=B.rs _ W;exact ⟨rfl,B.rp _ W⟩)
      have eG:=bh (T:=T) ag g;have eH:=bh (T:=T) ag (aE.cS.1 hl).2.2.2;have hs2:Sat (ab a T (m.2.1++G)++(ab a T fr.H++Φ)) w:=by rw [bp,b0,eG,eH];exact L
      have f:=amI hs2 p;rw [bp,b0,eG,eH,<-AM,B.eq,AV.cj ag _ a5] at f;have O:(ab a T m.2.1++(ab ρ T G++(ab ρ T fr.H++Φ)))[m.2.1.length+j]? =some ((Row.own o u e I R).item ρ T):=by
       rw [ca (by simp [ab])];have:m.2.1.length+j-(ab a T m.2.1).length=j:=by simp [ab]
       rw [this];exact hi
      obtain ⟨d1,d2⟩:=L.at_ O;obtain ⟨p1,p2⟩:=d1.iB b2;have M:k.length=u.rep.n:=u.rep.len o5;obtain ⟨w',Y,hC,J,hP⟩:=Mr (P:=X.P) (E:=az ρ T st.E fr.F) (w:=w) (dst:=none) (ty:=ty) (pos:=pos) (af:=af) (cW hz) A U (Bw a2) Z (Qy a3) o3 p1 o4 M (by have:=B.eq;rw [<-this,AV.bu,AV.bu];exact h5) rfl f (λb hb=>Ctx.j7 O (by rw [<-p2] at hb;exact hb))
      refine bK.gd (bK.amp Y (aY.new (ρ':=a) (av:= .raw undef) hl h6 ag (c9 (mi _) B.le) rfl (by simp only [AV.val]) ?_));have hy1:(a st.c).y=⟨.l u,List.set I i.toNat D⟩:=by rw [B.ag _ (qx _),aB.bH]
      have:=aiO L O hy1 hC J p2 hP;have d:=tf g S;simp only [Row.low,ah,j5] at d;show Sat (ab a T (m.2.1++G.set j _)++_) _;rw [bp,b0,fT hj,eG];rw [qR _ _ (by simp [ab])] at this;have e7:m.2.1.length+j-(ab a T m.2.1).length=j:=by simp [ab]
      rw [e7] at this;simp only [Row.item,ag _ d.1];exact this
     .cases h6
   .cases h
  .cases h
 .cases h
end
section
variable {X : Cx} {R : Type} {r : R} {K : cT R} {T : aD} {fr : Fr} {st : aE} {g : GK} {d : Tmp} {ρ : aB} {Φ : Ctx} {w : World} {ty : TypeId} {pos : String} {af : zw} {gd : zg}
def adv{α:Type}(T:aD)(g:GK)(z:α)(m:Option α)(k:α->Option R):Option R:=match g with
 |none=>m.bind k
 |some _=>bm (T.get g) z m k
theorem CW{z:α}{m:Option α}{k:α->Option R}(h:adv T g z m k=some r):∃y,(T.get g=true->m=some y)/\k y=some r:=by
 unfold adv at h;split at h
 .obtain ⟨y,b,a⟩:=iy h;exact ⟨y,λ_=>b,a⟩
 .obtain ⟨y,b,_,a⟩:=WE h;exact ⟨y,b,a⟩
def aur(T:aD)(g:GK)(st:aE)(d:Tmp)(t:Ty)(l:List t.T)(i:Int)(K:cT R):Option R:=
 adv T g t.sD (idx l i) λx=>K { st with c:=(dZ t x (st.c+1)).2.2,E:=cL (some d) g (.adr st.c 0) st.E,G:= .elm g st.c (dZ t x (st.c+1)).1::((dZ t x (st.c+1)).2.1.map (xS g)++st.G) }
def ave(T:aD)(g:GK)(st:aE)(d:Tmp)(id ver:Nat)(t:Ty)(l:List t.T)(i:Int)(K:cT R):Option R:=
 adv T g t.sD (idx l i) λx=>K { st with c:=st.c+1,E:=cL (some d) g (.adr st.c 0) st.E,G:= .kn g st.c id ver t i x::st.G }
def aj6(X:Cx)(T:aD)(fr:Fr)(st:aE)(g:GK)(d:Tmp)(t:TypeId)(x y:Operand)(K:cT R):Option R:=match fR X.P t with
 |some e=>(match lK X.P e with
  |some z=>(match bC T st.E fr.F g x with
   |some (.sl id)=>(match bC T st.E fr.F g y with
    |some (.int _ i)=>(match eK st.G fr.H (ox id) with
     |some (_,.sli g' _ t l _)=>aC ( T.imp g g'&&Nat.beq z.1 t.n' ) ( aur T g st d t l i K ) none
     |some (_,.own _ t _ l ver)=>aC ( Nat.beq z.1 t.n' ) ( ave T g st d id ver t l i K ) none
     |_=>none)
    |_=>none)
   |_=>none)
  |none=>none)
 |none=>none
theorem aji{t:TypeId}(Q:st.low fr=true)(U:Sat (ab ρ T st.G++(ab ρ T fr.H++Φ)) w)(h:aj6 X T fr st g d t x y K=some r):
  Nw X.P T g (az ρ T st.E fr.F) ⟨some d,.indexAddr t x y,ty,pos,af,gd⟩ w (aY r K T fr st g (some d) ρ Φ):=by
 unfold aj6 at h;split at h
 .rename_i e he;split at h
  .rename_i z hz;obtain ⟨n,bytes,z⟩:=z;split at h
   .rename_i id hx;split at h
    .rename_i k i hy;have I:=aV (ρ:=ρ) hx;have D:=aV (ρ:=ρ) hy;simp only [AV.val] at I D;split at h
     .rename_i s g' m t l b hf;obtain ⟨S,h2⟩:=aI h;simp only [ah] at S;have hn:n=t.rep.n:=(ai S.2).trans t.Er.symm;obtain ⟨L,f2⟩:=ck hf;have:m=id:=ai f2;subst this;obtain ⟨A,V,b2⟩:=CW h2;have hT:=Src.holds U L
      -- the element, where g holds
      have key:∃(p:Addr) (f:aB),aW st.c ρ f/\(f st.c).a=p/\(T.get g=true->BR (sl (ρ m).v) i n p)/\
        ∀it∈ab f T (.elm g st.c (dZ t A (st.c+1)).1::((dZ t A (st.c+1)).2.1.map (xS g))),it.cV=true/\it.P (Ctx.M (ab ρ T st.G++(ab ρ T fr.H++Φ))) w:=by
       cases C:T.get g
       .refine ⟨⟨0,0,none⟩,ρ.set st.c df,aB.bd,by rw [aB.bH];rfl,(λh=>by cases h),λit o=>?_⟩;rw [ab,er] at o;rcases List.mem_cons.1 o with rfl|o
        .exact ⟨rfl,λh=>by rw [C] at h;cases h⟩
        .obtain ⟨r1,J,rfl⟩:=List.mem_map.1 o;obtain ⟨r2,u,rfl⟩:=List.mem_map.1 J;obtain ⟨j1,t1,l1,rfl⟩:=Pj _ _ _ _ u;exact wu (λh=>by rw [C] at h;cases h)
       .have hS:=(hT (aD.kT S.1 C)).1;obtain ⟨e1,vs,e2,e3,e4⟩:=hS.atA (V C);obtain ⟨f,O⟩:=Jb (T:=T) t A (st.c+1) vs e3 (ρ.set st.c { df with a:=tW (sl (ρ m).v) i t.rep.n });have R:(f st.c).a=tW (sl (ρ m).v) i t.rep.n:=by rw [O.ag _ (qx _),aB.bH]
        refine ⟨tW (sl (ρ m).v) i t.rep.n,f,aB.bd.trans O.ag (mi _),R,λ_=>by rw [hn];exact e1,λit o=>?_⟩;rw [ab,er] at o;rcases List.mem_cons.1 o with rfl|o
        .refine ⟨rfl,λ_=>?_⟩;show ¬Ctx.M _ (f st.c).a.block/\bT w (f st.c).a _;rw [R,O.eq];exact ⟨e4,e2⟩
        .obtain ⟨r1,J,rfl⟩:=List.mem_map.1 o;obtain ⟨r2,u,rfl⟩:=List.mem_map.1 J;have Z:=O.rp _ u;obtain ⟨j1,t1,l1,rfl⟩:=O.rs _ u;exact wu (λ_=>Z)
      obtain ⟨p,f,k1,k2,k3,k4⟩:=key;have Y:=DA U _ k4;have eG:=bh (T:=T) k1 (aE.cS.1 Q).2.2.1;have q:aY r K T fr st g (some d) ρ Φ (.pointer (some p)) w:=by
       refine aY.new (ρ':=f) Q b2 k1 (c9 (mi _) (Pw _ _ _)) rfl (by simp only [AV.val,k2];simp [Addr.add]) ?_;show Sat (ab f T (Row.elm g st.c _::(_++st.G))++_) w;have e8:ab f T (Row.elm g st.c (dZ t A (st.c+1)).1::((dZ t A (st.c+1)).2.1.map (xS g)++st.G))=ab f T (.elm g st.c (dZ t A (st.c+1)).1::((dZ t A (st.c+1)).2.1.map (xS g)))++ab f T st.G:=by simp [ab]
       rw [e8,eG,b0];exact Y
      exact ⟨_,λw'=>Iy (cf he) (cW hz) I D k3,q⟩
     .rename_i s m t e' l N hf;obtain ⟨S,h2⟩:=aI h;have hn:n=t.rep.n:=(ai S).trans t.Er.symm;obtain ⟨L,f2⟩:=ck hf;have:m=id:=ai f2;subst this;obtain ⟨A,V,b2⟩:=CW h2;obtain ⟨hO,W⟩:=Src.holds U L;have B:m<st.c/\N<st.c:=by
       have:(Row.own m t e' l N).low st.c=true:=by
        cases s with
        |top j=>exact tf (aE.cS.1 Q).2.2.1 L
        |cP j=>exact tf (aE.cS.1 Q).2.2.2 L
        |_=>exact L.elim
       simpa only [Row.low,ah,j5] using this
      have q:aY r K T fr st g (some d) ρ Φ (.pointer (some (tW (sl (ρ m).v) i t.rep.n))) w:=by refine aY.push (x:={ df with a:=tW (sl (ρ m).v) i t.rep.n }) Q b2 (by simp only [AV.val,aB.bH];simp [Addr.add]) (U.add rfl ?_);intro C;rw [aB.bd _ B.1,aB.bd _ B.2,aB.bH];exact ⟨l,W,V C,rfl⟩
      exact ⟨_,λw'=>Iy (cf he) (cW hz) I D (λC=>by rw [hn];exact (hO.atA (V C)).1),q⟩
     .cases h
    .cases h
   .cases h
  .cases h
 .cases h
def Wz(X:Cx)(T:aD)(fr:Fr)(st:aE)(g:GK)(d:Tmp)(t:TypeId)(q off:Nat)(K:cT R):Option R:=match eK st.G fr.H (UA q) with
 |some (_,.kn g' _ id ver u _ x)=>(match eK st.G fr.H (ox id) with
  |some (_,.own _ _ _ _ ver')=>aC ( Nat.beq ver ver'&&T.imp g g' ) ( match lN X.P t ((dZ u x st.c).1.drop off) with
   |some v=>K { st with c:=(dZ u x st.c).2.2,E:=cL (some d) g v st.E,G:=(dZ u x st.c).2.1.map (xS g)++st.G }
   |none=>none ) none
  |_=>none)
 |_=>none
theorem abZ{t:TypeId}{q off:Nat}(hl:st.low fr=true)(Y:Sat (ab ρ T st.G++(ab ρ T fr.H++Φ)) w)(hx:bC T st.E fr.F g x=some (.adr q off))(h:Wz X T fr st g d t q off K=some r):
  ∃v,(∀w',Ext w w'->bk X.P (az ρ T st.E fr.F) (T.get g) ⟨some d,.load t x,ty,pos,af,gd⟩ w' v)/\aY r K T fr st g (some d) ρ Φ v w:=by
 unfold Wz at h;split at h
 .rename_i s g' q' id Q u i k hf;split at h
  .rename_i s2 R u' e l B hf2;obtain ⟨h1,h2⟩:=aI h;simp only [ah] at h1;split at h2
   .rename_i v L;obtain ⟨f1,f2⟩:=ck hf;obtain ⟨f3,f4⟩:=ck hf2;have e1:q'=q:=ai f2;have e2:R=id:=ai f4;have e3:Q=B:=ai h1.1;subst e1;subst e2;subst e3;have f:=aV (ρ:=ρ) hx;simp only [AV.val] at f;have hF:=Src.holds Y f1;obtain ⟨hO,U⟩:=Src.holds Y f3;have key:∃(b:aB) (vs:zq),aW st.c ρ b/\AV.ar b (dZ u k st.c).1=vs/\(T.get g=true->bT w (ρ q').a vs)/\
      ∀it∈ab b T ((dZ u k st.c).2.1.map (xS g)),it.cV=true/\it.P (Ctx.M (ab ρ T st.G++(ab ρ T fr.H++Φ))) w:=by
     cases I:T.get g
     .refine ⟨ρ,_,.refl,rfl,(λh=>by cases h),λit p=>?_⟩;obtain ⟨r1,o,rfl⟩:=List.mem_map.1 p;obtain ⟨r2,j,rfl⟩:=List.mem_map.1 o;obtain ⟨j1,t1,l1,rfl⟩:=Pj _ _ _ _ j;exact wu (λh=>by rw [I] at h;cases h)
     .obtain ⟨l0,b1,b2,b3⟩:=hF (aD.kT h1.2 I);obtain ⟨e4,e5⟩:=Qh b1 U;subst e4;simp only at e5;subst e5;obtain ⟨_,vs,e6,e7⟩:=hO.atA b2;obtain ⟨b,J⟩:=Jb (T:=T) u k st.c vs e7 ρ;refine ⟨b,vs,J.ag,J.eq,λ_=>by rw [b3];exact e6,λit p=>?_⟩;obtain ⟨r1,o,rfl⟩:=List.mem_map.1 p;obtain ⟨r2,j,rfl⟩:=List.mem_map.1 o;have Z:=J.rp _ j;obtain ⟨j1,t1,l1,rfl⟩:=J.rs _ j;exact wu (λ_=>Z)
    obtain ⟨b,vs,k1,k2,k3,k4⟩:=key;have W:=DA Y _ k4;have eG:=bh (T:=T) k1 (aE.cS.1 hl).2.2.1;have C:aY r K T fr st g (some d) ρ Φ (v.val b) w:=by refine aY.new (ρ':=b) hl h2 k1 (Pw _ _ _) rfl rfl ?_;show Sat (ab b T (_++st.G)++_) w;rw [bp,eG,b0];exact W
    refine ⟨_,λw' V=>ak3 λI=>?_,C⟩;rw [I] at f ⊢;have hc:=(k3 I).ext V;have m:bT w' ((ρ q').a.add off) (AV.ar b ((dZ u k st.c).1.drop off)):=by refine hc.sub _ ?_;rw [AV.iM,k2,ei (b7 _)]
    have h':lN X.P t (((dZ u k st.c).1.drop off).drop 0)=some v:=by simpa using L
    obtain ⟨dd,n,bytes,z,c1,c2,A⟩:=oM (ρ:=b) h';cases N:kI dd
    .rw [N] at A;simp only [pA,qT] at A;refine NT c1 N f (λ_=>?_);have:=m.sub (us:=[v.val b]) 0 (by
      cases hq:AV.ar b ((dZ u k st.c).1.drop off) with
      |nil=>rw [hq] at A;cases A
      |cons a l=>rw [hq] at A;cases A;simp)
     simpa [Addr.add] using this
    .unfold lN at L;rw [c1] at L;rcases dT L with ⟨_,y⟩|⟨y,_⟩
     .split at y
      .rename_i z2 S;obtain ⟨n2,O,z2⟩:=z2;obtain ⟨h4,h5⟩:=aI y;cases h5;have D:n2<=((dZ u k st.c).1.drop off).length:=dk h4;simp only [AV.val];refine Ol c1 N (cW S) f (λ_=>?_) ?_
       .have:=m.sub (us:=AV.ar b (((dZ u k st.c).1.drop off).take n2)) 0 (by rw [AV.kM,qa,b9,AV.bu,et D])
        simpa [Addr.add] using this
       .rw [AV.bu,b9,et D]
      .cases y
     .rw [N] at y;cases y
   .cases h2
  .cases h
 .cases h
theorem apG{t:TypeId}{q off:Nat}(e:st.low fr=true)(c:Sat (ab ρ T st.G++(ab ρ T fr.H++Φ)) w)(hx:bC T st.E fr.F g x=some (.adr q off))(h:Wz X T fr st g d t q off K=some r):
  jX X.P T g (az ρ T st.E fr.F) ⟨some d,.load t x,ty,pos,af,gd⟩ w (aY r K T fr st g (some d) ρ Φ):=by
 obtain ⟨v,b,a⟩:=abZ (ty:=ty) (pos:=pos) (af:=af) (gd:=gd) e c hx h;refine ⟨λf=>bK.gd (bK.run ?_ a),λ_=>⟨_,a⟩⟩;rw [f] at b;exact b w (Ext.refl w)
end
end Go.Proofs.YtdolcddlmodkkaaGreatDoor
