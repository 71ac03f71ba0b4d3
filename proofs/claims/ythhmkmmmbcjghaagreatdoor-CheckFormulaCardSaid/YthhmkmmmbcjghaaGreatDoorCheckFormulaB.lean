/- Own texts for CheckFormula, cut and joined by a program. -/
import Derived.Test.YthhmkmmmbcjghaaGreatDoorCheckFormulaA
import Derived.Lib.AppendZerosOnto
import Derived.Lib.Overlaps
import Derived.Lib.AppendStr
import Derived.Lib.UnsafeStr
import Derived.Lib.Builder
import Derived.Laws.Externs
import Derived.RecoverIn
set_option linter.all false
namespace Go.Proofs.YthhmkmmmbcjghaaGreatDoor
open IntKind (u8)
theorem TI.zero{P:Program}{e:TypeId}{size bytes:Nat}{z:Value}(h:TI P e size bytes z)(w:World):(zeroValue e).run P w= .ok z w:=by obtain ⟨i,hi,_,_,a⟩:=h.out;simp [zeroValue,typeInfo,hi,a]
section
variable {α : Type} {A : eD α} {e : TypeId} {M : Nat -> Prop} {w : World} {v : Value} {xs : List α} {R : zh}
theorem bU.auO{j:Int}(h:bU A e M w v xs R)(q:dV 0 j xs.length=true):∃p:gV,UX v 0 j A.n (sl p)/\bU A e M w (sl p) (bN xs 0 j) R:=by
 obtain ⟨⟨_,u⟩,d⟩:=DU.1 q;have f:bN xs 0 j=xs.take j.toNat:=by simp [bN]
 rw [f];rcases h with ⟨rfl,cells,⟨t,s⟩,l⟩|⟨rfl,rfl,⟨a,rfl⟩,r⟩
 .rcases s with ⟨rfl,hn⟩|⟨g,off,cap,cur,rfl,o,c,m,k,i⟩
  .have hx:xs=[]:=c8 hn;subst hx;have b:j=0:=by simp at d;omega
   subst b;exact ⟨(none,0,0),⟨none,0,0,rfl,by omega,by omega,by omega,by omega,rfl⟩,.inl ⟨rfl,iI.nil⟩⟩
  .refine ⟨(some ⟨g,off,none⟩,j.toNat,cap),⟨_,_,cap,rfl,by omega,u,d,c,?_⟩,.inl ⟨rfl,cells.take (j.toNat*A.n),⟨?_,.inr ⟨g,off,cap,cur,by rw [cx,ed (by omega)];rfl,o,?_,m,k,?_⟩⟩,l.take _⟩⟩
   .show Value.slice (some ⟨g,off,none⟩) j.toNat cap=_;simp [Addr.add]
   .rw [cx,cx,t];have:j.toNat<=xs.length:=by omega
    rw [ed (gy _ this),ed this]
   .rw [cx];omega
   .have:j.toNat<=xs.length:=by omega
    rw [cx,ed this,<-i,pc,ed (gy _ this)]
 .have b:j=0:=by simp at d;omega
  subst b;refine ⟨(a,0,0),⟨a,0,0,rfl,by omega,by omega,by omega,by omega,?_⟩,.inr ⟨rfl,by simp,⟨a,rfl⟩,r⟩⟩;show Value.slice a 0 0=_;simp
theorem bU.auT{i:Int}(k:A.n=1)(h:bU A e M w v xs R)(u:dV i (xs.length:Int) xs.length=true):∃p:gV,UX v i (xs.length:Int) A.n (sl p)/\∃R',(∀b∈R',b∈R)/\bU A e M w (sl p) (bN xs i (xs.length:Int)) R':=by
 obtain ⟨⟨o,hi⟩,_⟩:=DU.1 u;have l:bN xs i (xs.length:Int)=xs.drop i.toNat:=by unfold bN;rw [hV];simp
 rw [l];rcases h with ⟨rfl,cells,⟨B,y⟩,m⟩|⟨rfl,rfl,⟨a,rfl⟩,x⟩
 .rcases y with ⟨rfl,hn⟩|⟨g,off,cap,cur,rfl,t,c,z,r,q⟩
  .have hx:xs=[]:=c8 hn;subst hx;have d:i=0:=by simp at hi;omega
   subst d;exact ⟨(none,0,0),⟨none,0,0,rfl,by omega,by omega,by omega,by omega,rfl⟩,_,λb hb=>hb,.inl ⟨rfl,iI.nil⟩⟩
  .by_cases f:cap=i.toNat
   .refine ⟨(some ⟨g,off,none⟩,0,0),⟨_,_,cap,rfl,o,hi,by omega,c,?_⟩,[],(λb hb=>by cases hb),.inr ⟨rfl,qJ (by omega),⟨_,rfl⟩,ca.emp⟩⟩;rw [pa f];simp only [sl];congr 1 <;> omega
   .have j:(⟨g,off,none⟩:Addr).add (i.toNat*A.n)=⟨g,off+i.toNat*A.n,none⟩:=by unfold Addr.add;split <;> simp_all
    have s:i.toNat*A.n+(cap-i.toNat)*A.n=cap*A.n:=by rw [<-qd];congr 1;omega
    refine ⟨(some ⟨g,off+i.toNat*A.n,none⟩,xs.length-i.toNat,cap-i.toNat),⟨_,_,cap,rfl,o,hi,by omega,c,?_⟩,_,λb hb=>hb,.inl ⟨rfl,cells.drop (i.toNat*A.n),⟨(m.drop _).1,.inr ⟨g,off+i.toNat*A.n,cap-i.toNat,cur,by rw [cO];rfl,t,?_,by omega,⟨by have:=r.1;omega,.inr k⟩,?_⟩⟩,m.drop _⟩⟩
    .rw [n7 f];simp [sl,j]
    .rw [cO];omega
    .rw [cO,<-q,qj,l7,Nat.sub_mul]
 .have d:i=0:=by simp at hi;omega
  subst d;refine ⟨(a,0,0),⟨a,0,0,rfl,by omega,by omega,by simp,by omega,?_⟩,[],λb hb=>hb,.inr ⟨rfl,by simp,⟨a,rfl⟩,x⟩⟩;show Value.slice a 0 0=_;simp
end
section
variable {P : Program} {ρ : za} {Q : bD} {n : Nat} {D : x3} {E : Env} {w : World} {ops : zc} {rest : zf} {Γ : Ctx} {i : Nat}
variable {d : Tmp} {ty : TypeId} {pos : String} {af : zd}
def Pu(P:Program)(t:TypeId)(name:String)(f:FuncId)(b:Bool):Prop:=((P.info? t).bind λi=>(i.methods.find? (·.name==name)).map λm=>(m.path.toList,m.func))=some ([],some (f,b))
def Reach(P:Program)(w:World)(t:TypeId)(u:Value)(name:String)(f:FuncId)(v:Value):Prop:= ∀k,(method (k+1) t u name).run P w= .ok (f,v) w
theorem Pu.out{t:TypeId}{a:String}{f:FuncId}{b:Bool}(h:Pu P t a f b):∃i m,P.info? t=some i/\i.methods.find? (·.name==a)=some m/\m.path.toList=[]/\m.func=some (f,b):=by
 unfold Pu at h;cases hi:P.info? t with
 |none=>rw [hi] at h;cases h
 |some i=>
  rw [hi] at h;simp only [q7] at h;cases c:i.methods.find? (·.name==a) with
  |none=>rw [c] at h;cases h
  |some m=>
   rw [c] at h;simp only [lk,cC,qc] at h;exact ⟨i,m,rfl,c,h.1,h.2⟩
theorem Reach.ptr{t e:TypeId}{u:Value}{a:String}{f:FuncId}(h:Pu P t a f true)(b:P.underlying t=some (.pointer e)):Reach P w t u a f u:=λk=>by obtain ⟨i,m,hi,c,hp,d⟩:=h.out;unfold method;simp [typeInfo,hi,c,hp,d,follow,receiverAt,run_underlying b,Place.get]
theorem Reach.load{t e:TypeId}{a:Addr}{u:Value}{b:String}{f:FuncId}(h:Pu P t b f false)(d:P.underlying t=some (.pointer e))(hl:(loadVar e a).run P w= .ok u w):Reach P w t (.pointer (some a)) b f u:=λk=>by
 obtain ⟨i,m,hi,g,hp,j⟩:=h.out;have c:m.path= #[]:=by simpa using hp
 have e:∀s:String,Builtin.ssaWrapNilChk_ #[t] t #[.pointer (some a),strVal "",strVal s]=pure (.pointer (some a)):=λ_=>rfl;unfold method;simp [typeInfo,hi,g,j,c,follow,receiverAt,run_underlying d,Place.get,e,asAddr,hl]
theorem apD{g:Bool}{f:FuncId}{r:Operand}{t:TypeId}{u u':Value}{b:String}{vs:yp}{xs:x4}{tys:Array TypeId}{dst:zb}{gd:Option (Nat×Bool)}
  (k:Enters P f) (i:au E g r (.iface t u)) (j:g=true->Reach P w t u b f u') (c:iM E g xs vs) {a:Act} (e:Fits n E a) (d:g=true):
  (execOp a.eval ⟨dst,.call ⟨.invoke r b,xs.toArray,tys⟩,ty,pos,af,gd⟩).run P w= .ok (.enter f (u'::vs).toArray) w:=by
 have s:(Array.map a.eval xs.toArray)=vs.toArray:=by simp [c.map e d]
 have l:=k (u'::vs).toArray w;have h:=j d (P.types.size+99);have q:P.types.size+99+1=P.types.size+Made.depth:=rfl;rw [q] at h;have p:(#[Value.iface t u]++vs.toArray)[0]? =some (Value.iface t u):=by simp
 have o:(#[Value.iface t u]++vs.toArray).extract 1 (#[Value.iface t u]++vs.toArray).size=vs.toArray:=by simp
 have m:(#[u']++vs.toArray)=(u'::vs).toArray:=by simp
 simp only [execOp,resolve,i n a e d,s,Sem.run_bind,Sem.run_pure,Result.andThen_ok,invoke,p,o,callMethod,run_program,h,m,l]
end
section
variable {P : Program} {w : World}
theorem Yl{α:Type}{A:eD α}{M:Nat->Prop}(t g e:TypeId)(i:TypeInfo)(z:Value)(V:P.underlying t=some (.slice e))(hi:P.info? e=some i)(T:i.zero=some z)(H:i.size=A.n)
  (s:z.cells.size=A.n) {p:Option Addr} {u:Value} {xs ys:List α} (hx:ca A M w (.slice p xs.length xs.length) xs) (U:ca A M w u ys) (o:ys≠[]) (a:aI (xs.length+ys.length) i.bytes=true):
  ∃v' w',(Builtin.append_ #[t,t] g #[.slice p xs.length xs.length,u]).run P w= .ok v' w'/\Ext w w'/\(∀b∈eA v',b<w'.heap.size/\w.heap.size<=b)/\(∀M',Mv M w M' w'->iI A e M' w' v' (xs++ys)):=by
 by_cases k:xs=[]
 .subst k;rcases vo t g e i z V hi T H s hx U (by simpa using a) with ⟨_,h⟩|h
  .exact absurd h o
  .simpa using h
 simp only [aI,ar] at a;have O:=c5 a.1;have N:=c5 a.2;have hlx:0<xs.length:=List.length_pos_iff.2 k;have hly:0<ys.length:=List.length_pos_iff.2 o;rcases hx with ⟨⟨a0,R⟩,Q⟩|⟨b,off,cap,cs,e',fr,R,hMb,hb,hc,Z,q⟩
 .exact absurd Q k
 rcases U with ⟨_,Q⟩|⟨Y,f,C,S,e2,fr2,rfl,X,B,hc2,W,d⟩
 .exact absurd Q o
 simp only [Value.slice.injEq] at R;obtain ⟨rfl,_,y⟩:=R;subst y;have c:∀{b off cap:Nat} {cs:x8} {e':TypeId} {fr:Nat×Nat} {l:List α},w.heap[b]? =some (.cells cs e' fr)->∀j x,((cs.toList.drop off).take (l.length*A.n))[j]? =some x->w.cell? ((⟨b,off,none⟩:Addr).add j)=some x:=by
  intro b off cap cs e' fr l hb j x r;have key:bW w ⟨b,off,none⟩ ((cs.toList.drop off).take (l.length*A.n)):=⟨rfl,cs,e',fr,hb,λj u r=>by
   rw [ko] at r;split at r
   .simpa [j5] using r
   .cases r⟩
  exact key.cell r
 generalize K:(cs.toList.drop off).take (xs.length*A.n)=E at q;generalize J:(S.toList.drop f).take (ys.length*A.n)=D at d;have G:∀j x,E[j]? =some x->w.cell? ((⟨b,off,none⟩:Addr).add j)=some x:=by rw [<-K];exact c (cap:=0) hb
 have F:∀j x,D[j]? =some x->w.cell? ((⟨Y,f,none⟩:Addr).add j)=some x:=by rw [<-J];exact c (cap:=0) B
 have I:=grownCap_ge w (xs.length+ys.length) xs.length e;have L:grownCap w (xs.length+ys.length) xs.length e<=maxLen:=grownCap_le_maxLen w _ _ e (by simpa [maxLen] using N);have v:=run_append_grow (P:=P) w t g e i z V hi T ⟨b,off,none⟩ xs.length xs.length E (by rw [H];exact q.1) G ⟨Y,f,none⟩ ys.length C D (by rw [H];exact d.1) F (by omega) (by omega) (growslice_fits (by omega) O);refine ⟨_,_,v,⟨rfl,rfl,rfl,by simp,λb hb=>heap_alloc_old w.drew _ hb⟩,λb hb=>?_,λM' m=>⟨E++D,?_,(q.append d).mv m⟩⟩
 .have:b=w.heap.size:=by simpa [eA,Value.ownBlock] using hb
  subst this;exact ⟨by simp,ch _⟩
 .refine .of (b:=0) ⟨by rw [du,q.1,d.1,du,qd],.inr ⟨w.heap.size,_,_,by rw [du],qk _,heap_alloc_new w.drew _,by rw [du];exact I,L,?_,?_⟩⟩
  .simp only [qE,n9,size_zeroCells,s,q.1,d.1,<-qd];congr 1;omega
  .have hl:(E++D).length=(xs++ys).length*A.n:=by rw [du,q.1,d.1,du,qd]
   rw [<-hl];simp only [sv];exact ti
end
section
variable {P : Program} {ρ : za} {Q : bD} {n : Nat} {D : x3} {E : Env} {w : World} {ops : zc} {rest : zf} {Γ : Ctx}
variable {d : Tmp} {ty : TypeId} {pos : String} {af : zd}
theorem ca.aqD{α:Type}{A:eD α}{M:Nat->Prop}{v:Value}{xs:List α}{i j:Int}(h:ca A M w v xs)(q:lG i j j xs.length=true):
  ∃p:Option Addr,Qj v i j j A.n (sl (p,(bN xs i j).length,(bN xs i j).length))/\ca A M w (sl (p,(bN xs i j).length,(bN xs i j).length)) (bN xs i j):=by
 obtain ⟨p,b,a⟩:=ca.auK (g:=true) (λ_=>h) (λ_=>q);have b:=b rfl;have a:=a rfl;obtain ⟨t,len,cap,o,B,z,y,x,u,d⟩:=b;obtain ⟨m,pl,l⟩:=p;simp only [sl,Value.slice.injEq] at d;obtain ⟨s,f,e⟩:=d;obtain ⟨C,k,hl⟩:=a.len;simp only [sl,Value.slice.injEq] at hl;have c:pl=(bN xs i j).length:=hl.2.1;have r:l=(bN xs i j).length:=by rw [e,<-c,f]
 subst r;rw [c] at a;refine ⟨m,⟨t,len,cap,o,B,z,y,x,u,?_⟩,a⟩;simp only [sl,Value.slice.injEq];exact ⟨s,by rw [<-c];exact f,e⟩
end
section
variable {P : Program} {ρ : za} {Q : bD} {n : Nat} {D : x3} {E : Env} {w : World} {ops : zc} {rest : zf} {Γ : Ctx} {g : Bool}
variable {d d2 : Tmp} {ty ty2 : TypeId} {pos pos2 : String} {af af2 : zd}
end
section
variable {P : Program} {ρ : za} {Q : bD} {n : Nat} {D : x3} {E : Env} {w : World} {ops : zc} {rest : zf} {Γ : Ctx}
variable {ty : TypeId} {pos : String} {af : zd}
end
variable {α : Type} {A : eD α} {R : zh} {b : Nat} {e : TypeId} {v : Value} {vs : yp} {x : Operand} {z : Value}
def oI{α:Type}(xs:List α)(i:Int)(ys:List α):List α:=xs.take i.toNat++ys++xs.drop i.toNat
def VN(i:Int)(n:Nat):Bool:=decide (0<=i)&&decide (i<=n)
theorem apl{i:Int}{n:Nat}:VN i n=true↔0<=i/\i<=n:=by simp [VN]
section
variable {P : Program} {E : Env} {w : World} {g : Bool}
variable {dst : zb} {ty : TypeId} {pos : String} {af : zd} {gd : xa}
theorem tZ{t ty e k bytes:Nat}(h:P.underlying t=some (.slice e))(g:TI P e k bytes z){b o dl dc:Nat}{cur:x8}{e':TypeId}{a:Addr}{ls sc:Nat}{cs:yp}
  (hn:cs.length=Nat.min ls dl*k) (d:∀j v,cs[j]? =some v->w.cell? (a.add j)=some v) (m:w.heap[b]? =some (.cells cur e' (0,0))) (f:o+cs.length<=cur.size) (n:∀v∈cs,v.oneCell'=true):
  (Builtin.copy_ #[t,t] ty #[.slice (some ⟨b,o,none⟩) dl dc,.slice (some a) ls sc]).run P w= .ok (goInt (Nat.min ls dl)) (w.setRow b (cur.toList.take o++cs++cur.toList.drop (o+cs.length)).toArray):=by
 obtain ⟨i,hi,l,_,_⟩:=g.out;have hl:=run_loadCells_list (P:=P) w a cs d;rw [hn] at hl;have c:=run_storeCells_at (P:=P) b o e' cs 0 cur w m (by simpa using f) n;simp only [qn] at c;simp [Builtin.copy_,run_underlying h,sizeOf,typeInfo,hi,l,Builtin.lenOf,Builtin.firstCells,hl,c]
theorem abH{a:Option Addr}{n c:Nat}{t:TypeId}(b:P.underlying t=some (.slice e))(hx:au E g x (.slice a n c)):
  bq P E g ⟨dst,.call ⟨.builtin .cap,#[x],#[t]⟩,ty,pos,af,gd⟩ w (.int .i64 c):=λn' h f d=>by
 simp [execOp,resolve,invoke,builtin,hx n' h f d,Builtin.cap_,run_underlying b,goInt]
theorem oz{x y:Operand}{b o n c i k bytes:Nat}{d:IntKind}{z:Value}{t e:TypeId}(h:P.underlying t=some (.slice e))(a:TI P e k bytes z)(hx:au E g x (.slice (some ⟨b,o,none⟩) n c))(f:au E g y (.int d (i:Int)))
  (q:i<=n) (j:n<=c) (p:i<c):bq P E g ⟨dst,.slice t x (some y) none none,ty,pos,af,gd⟩ w (.slice (some ⟨b,o+i*k,none⟩) (n-i) (c-i)):=by
 refine GO (lo:=some y) (hi:=none) h a hx (λ_=>⟨_,_,rfl⟩) ⟨_,f⟩ rfl (λ_=>⟨_,_,_,rfl,by omega,by omega,qK _,j,?_⟩);have m:(i:Int).toNat=i:=by omega
 have l:((n:Nat):Int).toNat=n:=by omega
 rw [m,l,n7 (by omega)];simp [Addr.add]
theorem aeZ{x y:Operand}{a:Option Addr}{n c j k bytes:Nat}{m:IntKind}{z:Value}{t e:TypeId}(l:P.underlying t=some (.slice e))(h:TI P e k bytes z)(hx:au E g x (.slice a n c))(i:au E g y (.int m (j:Int)))
  (q:j<=c):bq P E g ⟨dst,.slice t x none (some y) none,ty,pos,af,gd⟩ w (.slice a j c):=by
 obtain ⟨r,hi,s,_,_⟩:=h.out;intro n' f d b;have u:((j:Nat):Int).toNat=j:=by omega
 by_cases p:c=0
 .subst p;have o:j=0:=by omega
  subst o;simp [execOp,hx n' f d b,i n' f d b,Instr.sliceAt,Instr.slice,Instr.sliceBounds,Instr.sliceBound,asIntOf,run_underlying l,sizeOf,typeInfo,hi]
 .cases a <;> simp [execOp,hx n' f d b,i n' f d b,Instr.sliceAt,Instr.slice,Instr.sliceBounds,Instr.sliceBound,asIntOf,run_underlying l,sizeOf,typeInfo,hi,q,Addr.add]
theorem ajB{f:FuncId}{xs:x4}{tys:Array TypeId}(a:iM E g xs vs)(d:(callFunc f vs.toArray).run P w= .ok (.value v) w):
  bq P E g ⟨dst,.call ⟨.value (.func f),xs.toArray,tys⟩,ty,pos,af,gd⟩ w v:=λn' h c b=>by
 have e:(Array.map h.eval xs.toArray)=vs.toArray:=by simp [a.map c b]
 simp only [execOp,resolve,Act.eval,Deferred.ofValue,e,Sem.run_bind,Sem.run_pure,Result.andThen_ok,invoke];simpa using d
theorem Uc{y:Operand}{t t':TypeId}{u r:Value}{w':World}(hx:au E true x u)(c:au E true y v)(d:(Builtin.append_ #[t,t'] ty #[u,v]).run P w= .ok r w'):
  na P E ⟨dst,.call ⟨.builtin .append,#[x,y],#[t,t']⟩,ty,pos,af,gd⟩ w r w':=λn a b=>by simp [execOp,resolve,invoke,builtin,hx n a b rfl,c n a b rfl,d]
theorem AK{y:Operand}{t t':TypeId}{u r:Value}{w':World}(hx:au E true x u)(c:au E true y v)(d:(Builtin.copy_ #[t,t'] ty #[u,v]).run P w= .ok r w'):
  na P E ⟨dst,.call ⟨.builtin .copy,#[x,y],#[t,t']⟩,ty,pos,af,gd⟩ w r w':=λn a b=>by simp [execOp,resolve,invoke,builtin,hx n a b rfl,c n a b rfl,d]
end
section
variable {w : World}
theorem cell_of_heap{cur:x8}{fr:Nat×Nat}(hb:w.heap[b]? =some (.cells cur e fr))(o:Nat)(l:yp)(hl:l=(cur.toList.drop o).take l.length):∀j v,l[j]? =some v->w.cell? ((⟨b,o,none⟩:Addr).add j)=some v:=by
 intro j v a;have key:bW w ⟨b,o,none⟩ l:=⟨rfl,cur,e,fr,hb,λj u a=>by
  rw [hl,ko] at a;split at a
  .simpa [j5] using a
  .cases a⟩
 exact key.cell a
theorem kQ.trans{C:zh}{a b c:World}(h:kQ C a b)(k:kQ C b c):kQ C a c:=⟨k.os.trans h.os,k.tape.trans h.tape,k.output.trans h.output,cK h.size k.size,λi hi hn=>(k.block i (eW hi h.size) hn).trans (h.block i hi hn)⟩
theorem xy(b:Nat)(row:x8):kQ [b] w (w.setRow b row):=⟨rfl,rfl,rfl,by simp,λc _ a=>setRow_other w b c _ (by simpa using a)⟩
theorem anj{l:yp}{a n c:Nat}(h:a<=n)(hb:vs.length=b)(k:n+b<=c)(hl:l.length=c):
  let d:=l.take (a+b)++(l.drop a).take (n-a)++l.drop (a+b+((l.drop a).take (n-a)).length);let e:=d.take a++vs++d.drop (a+vs.length)
  d.length=c/\e.length=c/\e.take (n+b)=(l.take n).take a++vs++(l.take n).drop a:=by
 intro d e;have j:((l.drop a).take (n-a)).length=n-a:=by rw [cx,cO];omega
 have f:d.length=c:=by simp only [d,du,cx,cO,j];omega
 have i:e.length=c:=by simp only [e,du,cx,cO,f];omega
 refine ⟨f,i,?_⟩;have t1:d.take a=(l.take n).take a:=by simp only [d];rw [bb,qb (by rw [cx];omega),pc,pc,ed (by omega),ed h]
 have t2:(d.drop (a+vs.length)).take (n-a)=(l.take n).drop a:=by simp only [d];rw [bb,u9,hb];rw [qM (by rw [cx];omega),qO,cx,ed (by omega),Nat.sub_self,n3,qb (by omega),hV (by omega),qj]
 simp only [e];rw [t1];have g:((l.take n).take a++vs).length=a+b:=by rw [du,cx,cx];omega
 rw [q8,hV (by omega),g,show n+b-(a+b)=n-a by omega,t2]
theorem aoK{l z:yp}{a n:Nat}(j:a<=n)(hb:vs.length=b)(hl:l.length=n)(i:n+b<=a+z.length):
  let c:=l.take a++z;let d:=c.take a++vs++c.drop (a+vs.length);let e:=d.take (a+b)++l.drop a++d.drop (a+b+(l.drop a).length)
  d.length=c.length/\e.length=c.length/\e.take (n+b)=l.take a++vs++l.drop a:=by
 intro c d e;have k:c.length=a+z.length:=by simp only [c,du,cx];omega
 have hd:(l.drop a).length=n-a:=by rw [cO,hl]
 have h:d.length=c.length:=by simp only [d,du,cx,cO];omega
 have g:e.length=c.length:=by simp only [e,du,cx,hd,cO];omega
 refine ⟨h,g,?_⟩;have f:c.take a=l.take a:=by simp only [c];rw [qb (by rw [cx];omega),pc,Nat.min_self]
 have t1:d.take (a+b)=l.take a++vs:=by
  simp only [d];rw [f];have:(l.take a++vs).length=a+b:=by rw [du,cx];omega
  rw [qb (by omega),hV (by omega)]
 simp only [e];rw [t1];have:(l.take a++vs++l.drop a).length=n+b:=by rw [du,du,cx,hd];omega
 rw [qb (by omega),hV (by omega)]
end
section
variable {P : Program} {w : World}
theorem alF{M:Nat->Prop}{u:Value}{t ty:TypeId}{bytes:Nat}(s:P.underlying t=some (.slice e))(k:TI P e A.n bytes z)
  (d:z.cells.size=A.n) (i:0<A.n) {xs ys:List α} (l:bU A e M w v xs R) (f:ca A M w u ys) (C:∀b∈R,M b) (a:aI (xs.length+ys.length) bytes=true):
  ∃c R' w',(Builtin.append_ #[t,t] ty #[v,u]).run P w= .ok c w'/\kQ R w w'/\(∀b∈R',b<w'.heap.size/\(b∈R\/w.heap.size<=b))/\∀M',Mv M w M' w'->bU A e M' w' c (xs++ys) R':=by
 obtain ⟨q,j,x,o,r⟩:=k.out;subst o;rcases l with ⟨rfl,l⟩|⟨rfl,rfl,⟨a0,rfl⟩,g⟩
 .obtain ⟨c,w',h,E,B,p⟩:=J1 t ty e q z s j r x d l f C a i;exact ⟨c,eA c,w',h,E,B,λM' m=>bU.of (p M' m)⟩
 .rcases vo t ty e q z s j r x d g f (by simpa using a) with ⟨h,rfl⟩|⟨c,w',h,D,y,p⟩
  .exact ⟨_,[],w,h,(Ext.refl w).vS _,(λb hb=>by cases hb),λM' m=>bU.empty (g.mv m)⟩
  .exact ⟨c,eA c,w',h,D.vS _,(λb hb=>⟨(y b hb).1,.inr (y b hb).2⟩),λM' m=>bU.of (by simpa using p M' m)⟩
theorem bU.shape{M:Nat->Prop}{xs:List α}(h:bU A e M w v xs R):∃p c,v= .slice p xs.length c/\xs.length<=c:=by
 rcases h with ⟨_,cells,⟨_,d⟩,_⟩|⟨_,rfl,⟨a,rfl⟩,_⟩
 .rcases d with ⟨rfl,f⟩|⟨g,off,cap,cur,rfl,_,b,_⟩
  .exact ⟨none,0,by rw [f],by omega⟩
  .exact ⟨_,_,rfl,b⟩
 .exact ⟨a,0,rfl,ch _⟩
theorem bU.row{M:Nat->Prop}{xs:List α}(h:bU A e M w v xs R)(hx:xs≠[]):
  ∃b off c cur,v= .slice (some ⟨b,off,none⟩) xs.length c/\R=[b]/\w.heap[b]? =some (.cells cur e (0,0))/\xs.length<=c/\c<=maxLen/\(off+c*A.n=cur.size/\(off=0\/A.n=1))/\dh A M w ((cur.toList.drop off).take (xs.length*A.n)) xs:=by
 rcases h with ⟨l,cells,⟨_,m⟩,f⟩|⟨_,h,_⟩
 .rcases m with ⟨_,o⟩|⟨g,off,cap,cur,rfl,j,k,i,d,a⟩
  .exact absurd (c8 o) hx
  .exact ⟨g,off,cap,cur,rfl,by rw [l];rfl,j,k,i,d,by rw [a];exact f⟩
 .exact absurd h hx
theorem bU.mk_{M:Nat->Prop}{xs:List α}{off c:Nat}{cur:x8}(g:w.heap[b]? =some (.cells cur e (0,0)))(h:xs.length<=c)(f:c<=maxLen)(d:off+c*A.n=cur.size/\(off=0\/A.n=1))(a:dh A M w ((cur.toList.drop off).take (xs.length*A.n)) xs):
  bU A e M w (.slice (some ⟨b,off,none⟩) xs.length c) xs [b]:= .inl ⟨rfl,_,⟨a.1,.inr ⟨b,off,c,cur,rfl,g,h,f,d,rfl⟩⟩,a⟩
theorem bU.atH{M:Nat->Prop}{xs:List α}(h:bU A e M w v xs R)(l:A.n≠1)(hx:xs≠[]):
  ∃b c cur,v= .slice (some ⟨b,0,none⟩) xs.length c/\R=[b]/\w.heap[b]? =some (.cells cur e (0,0))/\xs.length<=c/\c<=maxLen/\cur.size=c*A.n/\dh A M w (cur.toList.take (xs.length*A.n)) xs:=by
 obtain ⟨b,off,c,cur,d,k,i,j,g,a,f⟩:=h.row hx;have m:off=0:=a.2.resolve_right l;subst m;exact ⟨b,c,cur,d,k,i,j,g,by have:=a.1;omega,by simpa using f⟩
theorem bU.mk0{M:Nat->Prop}{xs:List α}{c:Nat}{cur:x8}(f:w.heap[b]? =some (.cells cur e (0,0)))(g:xs.length<=c)(d:c<=maxLen)(h:cur.size=c*A.n)(a:dh A M w (cur.toList.take (xs.length*A.n)) xs):
  bU A e M w (.slice (some ⟨b,0,none⟩) xs.length c) xs [b]:=bU.mk_ f g d ⟨by omega,.inl rfl⟩ (by simpa using a)
theorem apU{α:Type}{xs ys:List α}{i:Nat}(h:i<=xs.length):(oI xs (i:Int) ys).length=xs.length+ys.length:=by unfold oI;simp only [du,cx,cO,q0];omega
theorem aoN{xs ys:List α}:oI xs (xs.length:Int) ys=xs++ys:=by unfold oI;simp
theorem aiy{α:Type}{A:eD α}{M:Nat->Prop}{a b:yp}{xs ys:List α}{i:Nat}(hx:dh A M w a xs)(c:dh A M w b ys):dh A M w (a.take (i*A.n)++b++a.drop (i*A.n)) (oI xs (i:Int) ys):=by unfold oI;rw [q0];exact ((hx.take i).append c).append (hx.drop i)
end
variable {E' : Env} {ps : Array Tmp} {r : LoopState -> Option Code -> Loop}
def vd(b:Nat)(o:Obj):Item where
 own:=[b]
 P _ w:=w.heap[b]? =some o
 lt h c hc:=by
  have:c=b:=by simpa using hc
  subst this;exact (Array.getElem?_eq_some_iff.1 h).1
 dm h _ k _:=(k b (by simp)).trans h
 cW:=false
 hp h:=by cases h
def pack{γ:Type}(Γ:γ->Ctx)(R:zh):Item where
 own:=R
 P M w:=(∀b∈R,b<w.heap.size)/\∃g,(∀b,(Γ g).M b↔b∈R)/\(∀it,it∈Γ g->it.P M w)/\
  (∀(i j:Nat) (it jt:Item),(Γ g)[i]? =some it->(Γ g)[j]? =some jt->i≠j->∀b,b∈it.own->b∉jt.own)
 lt h:=h.1
 dm {M M' w w'} h m k e:=by obtain ⟨h1,g,h2,h3,h4⟩:=h;exact ⟨λb hb=>eW (h1 b hb) m.1,g,h2,λit hi=>it.dm (h3 it hi) m (λb hb=>k b ((h2 b).1 ⟨it,hi,hb⟩)) e,h4⟩
 cW:=false
 hp h:=by cases h
structure Rec(n:Nat)(E:Env)(ps:Array Tmp)(assign body:Code)(b:Nat)(r:LoopState->Option Code->Loop):Prop where
 ex:∃fn tmps,Fits n E { tmps:=tmps,defers:=[] }/\r=λst pe=>{ state:=st,pending:=pe,fn,tmps,params:=ps,assign,body,defers:=b }
abbrev ej(l:Nat)(r:LoopState->Option Code->Loop)(st:LoopState)(pe:Option Code):Item:=vd l (.loop (r st pe))
def mk(ds:zh):x3:=ds.map λb=>{ target:= .collected b,args:= #[] }
def eO(ds:zh):Item where
 own:=ds
 P _ w:=ds.Nodup/\∀b∈ds,w.heap[b]? =some (.deferred (some []))
 lt h b hb:=(Array.getElem?_eq_some_iff.1 (h.2 b hb)).1
 dm h _ k _:=⟨h.1,λb hb=>(k b hb).trans (h.2 b hb)⟩
 cW:=false
 hp h:=by cases h
section
variable {P : Program} {n : Nat} {D : x3} {E : Env} {w : World} {Γ : Ctx} {Q : bD}
theorem Sat.asd(a:Sat Γ w):Sat (eO []::Γ) w:=a.push (Ext.refl w) (λb hb=>by cases hb) (λ_ _=>⟨List.nodup_nil,λb hb=>by cases hb⟩)
theorem Sat.SU{b:Nat}{ds:zh}(f:Sat (vd b (.deferred (some []))::eO ds::Γ) w):Sat (eO (b::ds)::Γ) w:=by
 have o:w.heap[b]? =some (.deferred (some [])):=f.at_ (i:=0) rfl;have l:ds.Nodup/\∀b∈ds,w.heap[b]? =some (.deferred (some [])):=f.at_ (i:=1) rfl;have n:b∉ds:=f.sep 0 1 _ _ rfl rfl (by omega) b (by simp [vd]);have m:∀c,Ctx.M (vd b (.deferred (some []))::eO ds::Γ) c↔Ctx.M (eO (b::ds)::Γ) c:=λc=>by
  simp only [Ctx.DZ,vd,eO,qi,qS,or_false];constructor
  .rintro (h|h|h)
   .exact .inl (.inl h)
   .exact .inl (.inr h)
   .exact .inr h
  .rintro ((h|h)|h)
   .exact .inl h
   .exact .inr (.inl h)
   .exact .inr (.inr h)
 have mv:Mv (Ctx.M (vd b (.deferred (some []))::eO ds::Γ)) w (Ctx.M (eO (b::ds)::Γ)) w:=Mv.weaken w (λc a=>(m c).2 a);have d:∀(j:Nat) (jt:Item) (c:Nat),Γ[j]? =some jt->c∈b::ds->c∉jt.own:=λj jt c e a=>by
  rcases List.mem_cons.1 a with rfl|a
  .exact f.sep 0 (j+2) _ jt rfl (by simpa using e) (by omega) c (by simp [vd])
  .exact f.sep 1 (j+2) _ jt rfl (by simpa using e) (by omega) c a
 refine ⟨λit hi=>?_,λi j it jt hi e k c a g=>?_⟩
 .rcases List.mem_cons.1 hi with rfl|hi
  .refine ⟨List.nodup_cons.2 ⟨n,l.1⟩,λc a=>?_⟩;rcases List.mem_cons.1 a with rfl|a
   .exact o
   .exact l.2 c a
  .exact it.dm (f.all it (cb _ (cb _ hi))) mv (λ_ _=>rfl) (gY.refl w)
 .cases i with
  |zero=>
   simp only [gx,cC] at hi;subst hi;cases j with
   |zero=>exact k rfl
   |succ j=>simp only [cH] at e;exact d j jt c e a g
  |succ i=>
   simp only [cH] at hi;cases j with
   |zero=>
    simp only [gx,cC] at e;subst e;exact d i it c hi g a
   |succ j=>
    simp only [cH] at e;exact f.sep (i+2) (j+2) it jt (by simpa using hi) (by simpa using e) (by omega) c a g
theorem Sat.putObj{i b:Nat}{o d:Obj}(g:Sat Γ w)(hi:Γ[i]? =some (vd b o)):Sat (Γ.set i (vd b d)) (w.putObj b d):=by
 have hb:w.heap[b]? =some o:=g.at_ hi;have a:=(Array.getElem?_eq_some_iff.1 hb).1;have f:(w.putObj b d).heap[b]? =some d:=World.putObj_heap_same a;refine g.ra hi ⟨rfl,rfl,rfl,by simp,λc _ e=>World.putObj_heap_other (by simpa [vd] using e)⟩ (λc h=>?_) (λ_ _ _=>f);have:c=b:=by simpa [vd] using h
 subst this;exact ⟨by simpa using a,.inl (by simp [vd])⟩
def l6(P:Program)(ρ:za)(l n:Nat)(D:x3)(Q:bD)(E:Env)(_v:Value)(w:World):Prop:=
 ∃j w',(Instr.endLoop l).run P w= .ok j w'/\match j with
  |none=>At Q .normal n D E w'
  |some c=>WC P ρ c Q n D E w'
theorem l6.go{l:Nat}{assign body:Code}(c:Rec n E' ps assign body b r)(a:Sat (ej l r .ready none::Γ) w)
  (h:∀w',Sat Γ w'->At Q .normal n D E w'):l6 P none l n D Q E v w:=by
 obtain ⟨fn,tmps,_,rfl⟩:=c.ex;have d:w.heap[l]? =some _:=a.at_ (i:=0) rfl;refine ⟨_,_,run_endLoop d (by simp),?_⟩;refine h _ ((a.putObj (i:=0) rfl).re 1 [] rfl)
theorem l6.jump{l:Nat}{assign body:Code}{c:Code}(d:Rec n E' ps assign body b r)(a:Sat (ej l r .done (some c)::Γ) w)
  (h:∀w',Sat Γ w'->WC P none c Q n D E w'):l6 P none l n D Q E v w:=by
 obtain ⟨fn,tmps,_,rfl⟩:=d.ex;have e:w.heap[l]? =some _:=a.at_ (i:=0) rfl;refine ⟨_,_,run_endLoop e (by simp),?_⟩;exact h _ ((a.putObj (i:=0) rfl).re 1 [] rfl)
def Yld(P:Program)(l:Nat)(vs:yp)(w:World)(S:Value->World->Prop):Prop:=
 ∃fn tmps assign body,(Instr.yield l vs.toArray).run P w= .ok (.round l fn tmps assign body) w/\RoundIn (FW none) 0 P l fn tmps assign body w (RE S (λ_ _=>False))
def afK:List Tmp->yp->Env->Env
 |p::ps,v::vs,E=>afK ps vs ((p,true,v)::E)
 |_,_,E=>E
theorem aeX:∀(ps:List Tmp) (vs:yp) {E:Env} {tmps:x8},ps.all (λp=>Nat.blt p n)=true->Fits n E { tmps:=tmps,defers:=[] }->
  Fits n (afK ps vs E) { tmps:=(ps.zip vs).foldl (λt (p,v)=>t.setIfInBounds p v) tmps,defers:=[] }
 |[],_,_,_,_,h=>h
 |_::_,[],_,_,_,h=>h
 |p::ps,v::vs,E,tmps,hp,h=>by simp only [qq,ar] at hp;have:=h.put (g:=true) (v:=v) hp.1;exact aeX ps vs hp.2 this
def anf(P:Program)(l:Nat)(body:Code)(Q:bD):Act->World->Prop:=λa w=>∃w',(Instr.beginRound l).run P w= .ok () w'/\body.wpIn (FW (some l)) 0 P Q a w'
theorem as4{l:Nat}{ps:List Tmp}{assign body:Code}{S:Value->World->Prop}
  (g:Rec n E ps.toArray assign body b r) (f:Sat (ej l r .ready none::Γ) w) (hl:Nat.beq vs.length ps.length=true) (hp:ps.all (λp=>Nat.blt p n)=true)
  (h:WC P (some l) assign (Exit.then (anf P l body (roundPost P l (RE S (λ_ _=>False)))) (λ_ _ _=>False)) n [] (afK ps vs E) w):Yld P l vs w S:=by
 obtain ⟨fn,tmps,j,rfl⟩:=g.ex;have k:w.heap[l]? =some _:=f.at_ (i:=0) rfl;have c:vs.length=ps.length:=aS hl;refine ⟨fn,_,assign,body,run_yield k (by simp [c]),roundIn_of_wpIn trivial ?_⟩;have d:=aeX ps vs hp j;have e:((ps.toArray.zip vs.toArray).foldl (λtmps (t,a)=>tmps.setIfInBounds t a) tmps)=((ps.zip vs).foldl (λt (p,v)=>t.setIfInBounds p v) tmps):=by simp
 have:=h _ d rfl;rw [<-e] at this;exact this
theorem ao8{l i:Nat}{assign body:Code}(d:Rec n E' ps assign body b r)(c:Sat Γ w)(hi:Γ[i]? =some (ej l r .ready none))
  (h:∀w',Sat (Γ.set i (ej l r .busy none)) w'->WC P (some l) body Q n D E w'):At (Exit.then (anf P l body Q) (λ_ _ _=>False)) .normal n D E w:=λa e hd=>by
 obtain ⟨fn,tmps,_,rfl⟩:=d.ex;have f:w.heap[l]? =some _:=c.at_ hi;exact ⟨_,run_beginRound f rfl,h _ (c.putObj hi) a e hd⟩
theorem ap8{l i:Nat}{assign body:Code}{S:Value->World->Prop}{Sp:xc->World->Prop}(d:Rec n E' ps assign body b r)(c:Sat Γ w)(hi:Γ[i]? =some (ej l r .busy none))
  (h:∀w',Sat (Γ.set i (ej l r .ready none)) w'->S (.bool true) w'):At (roundPost P l (RE S Sp)) .normal n D E w:=λa f hd=>by
 obtain ⟨fn,tmps,_,rfl⟩:=d.ex;have e:w.heap[l]? =some _:=c.at_ hi;exact ⟨_,_,run_endRound none e,h _ (c.putObj hi)⟩
theorem aeV{l i:Nat}{assign body:Code}{S:Value->World->Prop}{Sp:xc->World->Prop}(d:Rec n E' ps assign body b r)(c:Sat Γ w)(hi:Γ[i]? =some (ej l r .busy none))
  (h:∀w',Sat (Γ.set i (ej l r .done (some .ret))) w'->S (.bool false) w'):At (roundPost P l (RE S Sp)) .ret n D E w:=λa f hd=>by
 obtain ⟨fn,tmps,_,rfl⟩:=d.ex;have e:w.heap[l]? =some _:=c.at_ hi;exact ⟨_,_,run_endRound (some .ret) e,h _ (c.putObj hi)⟩
theorem acO{l i k:Nat}{assign body:Code}{S:Value->World->Prop}{Sp:xc->World->Prop}(d:Rec n E' ps assign body b r)(c:Sat Γ w)(hi:Γ[i]? =some (ej l r .busy none))
  (h:∀w',Sat (Γ.set i (ej l r .done (some (.exit k)))) w'->S (.bool false) w'):At (roundPost P l (RE S Sp)) (.exit k) n D E w:=λa f hd=>by
 obtain ⟨fn,tmps,_,rfl⟩:=d.ex;have e:w.heap[l]? =some _:=c.at_ hi;exact ⟨_,_,run_endRound (some (.exit k)) e,h _ (c.putObj hi)⟩
theorem ack{l i k:Nat}{assign body:Code}{S:Value->World->Prop}{Sp:xc->World->Prop}(d:Rec n E' ps assign body b r)(c:Sat Γ w)(hi:Γ[i]? =some (ej l r .busy none))
  (h:∀w',Sat (Γ.set i (ej l r .done (some (.goto k)))) w'->S (.bool false) w'):At (roundPost P l (RE S Sp)) (.goto k) n D E w:=λa f hd=>by
 obtain ⟨fn,tmps,_,rfl⟩:=d.ex;have e:w.heap[l]? =some _:=c.at_ hi;exact ⟨_,_,run_endRound (some (.goto k)) e,h _ (c.putObj hi)⟩
end
section
variable {P : Program} {ρ : za} {Q : bD} {n : Nat} {D : x3} {E : Env} {w : World} {ops : zc} {rest : zf} {Γ : Ctx}
theorem aoB{l:Nat}{fo:Operand}{xs:x4}{tys:Array TypeId}{d:Tmp}{ty:TypeId}{pos:String}{af:zd}{S:Value->World->Prop}
  (f:au E true fo (.func (.yield l) #[] #[])) (b:iM E true xs vs) (hn:Nat.blt d n=true) (j:Yld P l vs w S)
  (h:∀v w',S v w'->WL P ρ ops Q n D rest ((d,true,v)::E) w'):WL P ρ ops Q n D (⟨some d,.call ⟨.value fo,xs.toArray,tys⟩,ty,pos,af,none⟩::rest) E w:=λa g m=>
 wpListIn_plain rfl λK k=>lW rfl (by
  obtain ⟨fn,tmps,assign,body,p,o⟩:=j;have r:(Array.map a.eval xs.toArray)=vs.toArray:=by simp [b.map g rfl]
  have q:(execOp a.eval ⟨some d,.call ⟨.value fo,xs.toArray,tys⟩,ty,pos,af,none⟩).run P w= .ok (.round l fn tmps assign body) w:=by simp only [execOp,resolve,f n a g rfl,Deferred.ofValue,r,Sem.run_bind,Sem.run_pure,Result.andThen_ok,invoke];simpa using p
  rw [q,Oper.uponIn_round];refine ⟨Kq,RoundIn.mono (F:=FW ρ) o λe w' i=>?_⟩;cases e with
  |returned v=>exact k _ _ (h v w' i _ (g.put hn) m)
  |panicked c=>exact i.elim
  |outgrown=>exact i.elim)
theorem Ut{fn:Func}{S:Value->World->Prop}{Sp:xc->World->Prop}:∀(ds:zh) {w:World},Sat (eO ds::Γ) w->
  (∀w',Sat Γ w'->At (BP P fn S Sp) .ret n [] E w')->At (BP P fn S Sp) .ret n (mk ds) E w
 |[],w,hs,h=>h w (hs.re 1 [] rfl)
 |b::ds,w,hs,h=>λa l hd=>by
  have f:(b::ds).Nodup/\∀c∈b::ds,w.heap[c]? =some (.deferred (some [])):=hs.at_ (i:=0) rfl;have hb:=f.2 b (cz ..);have j:b∉ds:=(List.nodup_cons.1 f.1).1;have m:=(Array.getElem?_eq_some_iff.1 hb).1;have g:Sat ((eO (b::ds)::Γ).set 0 (eO ds)) (w.putObj b (.deferred none)):=by
   refine hs.ra (i:=0) rfl ⟨rfl,rfl,rfl,by simp,λc _ k=>World.putObj_heap_other (λe=>k (by subst e;exact cz ..))⟩ (λc d=>⟨?_,.inl (cb _ d)⟩) (λ_ _ _=>?_)
   .have:=(Array.getElem?_eq_some_iff.1 (f.2 c (cb _ d))).1;simpa using this
   .exact ⟨(List.nodup_cons.1 f.1).2,λc d=>(World.putObj_heap_other (λe=>j (by subst e;exact d))).trans (f.2 c (cb _ d))⟩
  have o:=Ut ds g h { a with defers:=mk ds } ⟨l.size,l.at_⟩ rfl;show LeavesInM (FW none) 0 P fn a.tmps (RE S Sp) a.defers .returning w;rw [hd];exact ⟨by simp,.inl ⟨b,_,rfl,run_takeDeferred hb,o⟩⟩
theorem aev{fn:Func}{S:Value->World->Prop}{Sp:xc->World->Prop}(ds:zh)(a:Sat (eO ds::Γ) w)
  (h:∀w',Sat Γ w'->At (BP P fn S Sp) .normal n [] E w'):At (BP P fn S Sp) .normal n (mk ds) E w:=Ut (fn:=fn) (S:=S) (Sp:=Sp) ds a h
end
variable {t' : TypeId} {y : Operand}
section
variable {P : Program} {E : Env} {w : World} {g : Bool}
variable {dst : zb} {ty : TypeId} {pos : String} {af : zd} {gd : xa}
abbrev Cu(f:Bool)(b:Nat):Value:= .pointer (bif f then some ⟨b,0,none⟩ else none)
theorem aly{t:TypeId}{f:Bool}(c:P.underlying t=some (.pointer e))(hx:au E g x (Cu f b))(a:au E g y (.pointer none)):
  bq P E g ⟨dst,.binOp .eql t x y t',ty,pos,af,gd⟩ w (.bool (!f)):=
 cP (P:=P) hx a (by
  rw [Sem.run_bind,er rfl,Result.andThen_ok];have h:∀d:Nat,(Op.equalIn (d+1) t (Cu f b) (.pointer none)).run P w= .ok (!f) w:=λd=>by cases f <;> simp [Op.equalIn,run_underlying c,Cu]
  simp only [binOp];simp [Op.equal,Op.maxDepth,h 9999])
theorem alC{t:TypeId}{f:Bool}{n bytes:Nat}(c:P.underlying t=some (.pointer e))(a:TI P e n bytes z)(hx:au E g x (Cu f b))(i:au E g y (.pointer (some ⟨b,0,none⟩))):
  bq P E g ⟨dst,.binOp .neq t x y t',ty,pos,af,gd⟩ w (.bool (!f)):=
 cP (P:=P) hx i (by
  rw [Sem.run_bind,er rfl,Result.andThen_ok];obtain ⟨j,k,_⟩:=a.out;cases f
  .have h:∀d:Nat,(Op.equalIn (d+1) t (.pointer none) (.pointer (some ⟨b,0,none⟩))).run P w= .ok false w:=λd=>by simp [Op.equalIn,run_underlying c]
   show (binOp .neq t (.pointer none) (.pointer (some ⟨b,0,none⟩))).run P w=_;simp only [binOp];simp [Op.equal,Op.maxDepth,h 9999]
  .exact Lib.run_neq_ptr_same w _ c k)
theorem YL{κ ν:Type}{ke:κ->Value}{vi:ν->Value}{t kt j:TypeId}{o:za}{dd:Option (List (κ×ν))}(c:P.underlying t=some (.map kt j))(hx:au E g x (.map o))(f:au E g y (.map none))(i:pB ke vi w (.map o) dd):
  bq P E g ⟨dst,.binOp .eql t x y t',ty,pos,af,gd⟩ w (.bool (Option.isNone dd)):=
 cP (P:=P) hx f (by
  rw [Sem.run_bind,er rfl,Result.andThen_ok];rcases i with ⟨e,rfl⟩|⟨b,k,a,l,e,rfl,_,_⟩
  .cases e;have h:∀d:Nat,(Op.equalIn (d+1) t (.map none) (.map none)).run P w= .ok true w:=λd=>by simp [Op.equalIn,run_underlying c]
   simp only [binOp];simp [Op.equal,Op.maxDepth,h 9999]
  .cases e;have h:∀d:Nat,(Op.equalIn (d+1) t (.map (some b)) (.map none)).run P w= .ok false w:=λd=>by simp [Op.equalIn,run_underlying c]
   simp only [binOp];simp [Op.equal,Op.maxDepth,h 9999])
theorem XS{κ ν:Type}{ke:κ->Value}{vi:ν->Value}{t kt j:TypeId}{o:za}{dd:Option (List (κ×ν))}(c:P.underlying t=some (.map kt j))(hx:au E g x (.map o))(f:au E g y (.map none))(i:pB ke vi w (.map o) dd):
  bq P E g ⟨dst,.binOp .neq t x y t',ty,pos,af,gd⟩ w (.bool (!(Option.isNone dd))):=
 cP (P:=P) hx f (by
  rw [Sem.run_bind,er rfl,Result.andThen_ok];rcases i with ⟨e,rfl⟩|⟨b,k,a,l,e,rfl,_,_⟩
  .cases e;have h:∀d:Nat,(Op.equalIn (d+1) t (.map none) (.map none)).run P w= .ok true w:=λd=>by simp [Op.equalIn,run_underlying c]
   simp only [binOp];simp [Op.equal,Op.maxDepth,h 9999]
  .cases e;have h:∀d:Nat,(Op.equalIn (d+1) t (.map (some b)) (.map none)).run P w= .ok false w:=λd=>by simp [Op.equalIn,run_underlying c]
   simp only [binOp];simp [Op.equal,Op.maxDepth,h 9999])
theorem ahf{t kt c:TypeId}(b:P.underlying t=some (.map kt c))(hx:au E g x (.map none))(a:au E g y (.map none)):
  bq P E g ⟨dst,.binOp .eql t x y t',ty,pos,af,gd⟩ w (.bool true):=YL (κ:=Unit) (ν:=Unit) (ke:=λ_=>undef) (vi:=λ_=>undef) (dd:=none) b hx a (.inl ⟨rfl,rfl⟩)
theorem ahc{t kt c:TypeId}(b:P.underlying t=some (.map kt c))(hx:au E g x (.map none))(a:au E g y (.map none)):
  bq P E g ⟨dst,.binOp .neq t x y t',ty,pos,af,gd⟩ w (.bool false):=XS (κ:=Unit) (ν:=Unit) (ke:=λ_=>undef) (vi:=λ_=>undef) (dd:=none) b hx a (.inl ⟨rfl,rfl⟩)
theorem adS{s d e':TypeId}{n bytes:Nat}(i:P.underlying s=some (.pointer e))(hd:P.underlying d=some .unsafePointer)(c:TI P e n bytes z)(hn:Nat.blt 0 n=true)
  (hx:au E g x (.pointer (some ⟨b,0,none⟩))) (hb:fM w b e' vs) (h:Nat.blt 0 vs.length=true):bq P E g ⟨dst,.convert s d x,ty,pos,af,gd⟩ w (.pointer (some ⟨b,0,none⟩)):=
 λn' a o m=>by
  obtain ⟨j,l,k,_⟩:=c.out;have f:w.shape? b=some (e',vs.toArray.size):=by unfold World.shape?;rw [show w.heap[b]? =_ from hb]
  have q:0<n:=by simpa using hn
  have p:0<vs.length:=by simpa using h
  have:=Lib.run_to_unsafe (P:=P) w (cells:=vs.toArray.size) (⟨b,0,none⟩:Addr) i hd l (by omega) f (by simpa using p);simp [execOp,hx n' a o m,this]
theorem aas{s d e':TypeId}{n bytes:Nat}(h:P.underlying s=some .unsafePointer)(hd:P.underlying d=some (.pointer e))(c:TI P e n bytes z)
  (hx:au E g x (.pointer (some ⟨b,0,none⟩))) (hb:fM w b e' vs) (hl:liesAt P P.depth e' (vs.length/P.cellsOf e') 0 e 1=true):bq P E g ⟨dst,.convert s d x,ty,pos,af,gd⟩ w (.pointer (some ⟨b,0,none⟩)):=
 λn' a m l=>by
  obtain ⟨j,k,i,_⟩:=c.out;have f:w.shape? b=some (e',vs.length):=by unfold World.shape?;rw [show w.heap[b]? =_ from hb];simp
  have:=Lib.run_from_unsafe (P:=P) w (⟨b,0,none⟩:Addr) h hd k f hl;simp [execOp,hx n' a m l,this]
def ao7(P:Program)(f:FuncId):Prop:= ∀(v:Value) (w:World),(callFunc f #[v]).run P w= .ok (.value v) w
theorem apx{f:FuncId}{tys:Array TypeId}(d:ao7 P f)(hx:au E g x v):bq P E g ⟨dst,.call ⟨.value (.func f),#[x],tys⟩,ty,pos,af,gd⟩ w v:=
 λn' a c b=>by have:=d v w;have e:a.eval (.func f)= .func (.func f) #[] #[]:=rfl;simp only [execOp,resolve,e,Deferred.ofValue,Sem.run_bind,Sem.run_pure,Result.andThen_ok,invoke];simpa [hx n' a c b] using this
end
theorem alA(s:aD):Lib.strCells ⟨s.toArray⟩=s.map λb=>Value.int .u8 (b.toNat:Int):=by simp [Lib.strCells]
theorem Mx{M:Nat->Prop}{w:World}:∀s:aD,dh (RI .u8) M w (Lib.strCells ⟨s.toArray⟩) (bV s):=λs=>by rw [alA];exact O8 s
theorem fX(s:aD):(bV s).length=s.length:=by simp [bV]
section
variable {P : Program} {w : World} {M : Nat -> Prop}
theorem Vq(t u ty e:TypeId)(i:TypeInfo)(k:P.underlying t=some (.slice e))(j:P.underlying u=some .string)(hi:P.info? e=some i)(h:i.size=1)
  (g off a b:Nat) (cur:x8) (l:w.heap[g]? =some (.cells cur e (0,0))) (s:ByteArray)
  (c:a+s.size<=b) (f:off+a+s.size<=cur.size):
  (Builtin.append_ #[t,u] ty #[.slice (some ⟨g,off,none⟩) a b,.string s]).run P w=
   .ok (.slice (some ⟨g,off,none⟩) (a+s.size) b) (w.setRow g (cur.toList.take (off+a)++Lib.strCells s++cur.toList.drop (off+a+s.size)).toArray):=by
 have m:=Lib.run_firstCells_string (P:=P) w 1 s;have d:=run_storeCells_at P g (off+a) e (Lib.strCells s) 0 cur w l (by simpa [Lib.strCells_length] using f) (Lib.strCells_oneCell s);simp only [qn,Lib.strCells_length] at d;simp [Builtin.append_,run_underlying k,run_underlying j,sizeOf,typeInfo,hi,h,Builtin.lenOf,c,m,Addr.add_lit,d]
theorem xQ(t u r e:TypeId)(L:P.underlying t=some (.slice e))(J:P.underlying u=some .string)(X:TI P e 1 1 (.int .u8 0))
  {v:Value} {xs:zg} {s:aD} (ho:iI (RI .u8) e M w v xs) (hM:∀b∈eA v,M b) (c:aI (xs.length+s.length) 1=true):
  ∃v' w',(Builtin.append_ #[t,u] r #[v,S s]).run P w= .ok v' w'/\kQ (eA v) w w'/\(∀b∈eA v',b<w'.heap.size/\(b∈eA v\/w.heap.size<=b))/\
   (∀M',Mv M w M' w'->iI (RI .u8) e M' w' v' (xs++bV s)):=by
 obtain ⟨i,hi,y,R,hz⟩:=X.out;simp only [aI,ar,uK] at c;have hb1:=c5 c.1;have T:=c5 c.2;have a:(⟨s.toArray⟩:ByteArray).size=s.length:=my s;have Z:=ho.lt;obtain ⟨cells,p,hA⟩:=ho;have N:dh (RI .u8) M w (Lib.strCells ⟨s.toArray⟩) (bV s):=Mx s;have U:=hA.append N;have d:(RI .u8).n=1:=rfl;have D:cells.length=xs.length:=by have:=hA.1;rw [d] at this;omega
 have z:(Lib.strCells ⟨s.toArray⟩).length=s.length:=by rw [Lib.strCells_length,a]
 have h:(cells++Lib.strCells ⟨s.toArray⟩).length=(xs++bV s).length*1:=by simp [D,z,fX]
 have q:∀(jw:Nat),jw<xs.length+s.length->
   (w.drew.alloc (.cells (cells.toArray++(Lib.strCells ⟨s.toArray⟩).toArray++Builtin.zeroCells (Value.int .u8 0).cells (grownCap w (xs.length+s.length) jw e-(xs.length+s.length))) e)).ownsRow 0 e 1
    (.slice (some ⟨w.heap.size,0,none⟩) (xs.length+s.length) (grownCap w (xs.length+s.length) jw e)) (xs++bV s).length (cells++Lib.strCells ⟨s.toArray⟩):=by
  intro jw hold;have hge:=grownCap_ge w (xs.length+s.length) jw e;have B:grownCap w (xs.length+s.length) jw e<=maxLen:=grownCap_le_maxLen w (xs.length+s.length) jw e (by simpa [maxLen] using T);refine ⟨h,.inr ⟨w.heap.size,_,_,by simp [fX],qk _,heap_alloc_new w.drew _,by simpa [fX] using hge,B,?_,?_⟩⟩
  .have V:(Value.int u8 0).cells.size=1:=rfl;simp only [qE,n9,size_zeroCells,V,D,z];omega
  .simp only [sv,bb];rw [<-bb,<-h];exact ti
 have F:∀o C,kQ C w (w.drew.alloc o):=λo C=>⟨rfl,rfl,rfl,by simp,λb hb _=>heap_alloc_old w.drew o hb⟩;have E:∀(n cap:Nat) (o:Obj),∀b∈eA (.slice (some ⟨w.heap.size,0,none⟩) n cap),b<(w.drew.alloc o).heap.size/\(b∈eA v\/w.heap.size<=b):=λn cap o b hb=>by
  have:b=w.heap.size:=by simpa [eA,Value.ownBlock] using hb
  subst this;exact ⟨by simp,.inr (ch _)⟩
 by_cases hm:s.length=0
 .have Y:s=[]:=c8 hm;subst Y;refine ⟨v,w,?_,(Ext.refl w).vS _,λb hb=>⟨Z b hb,.inl hb⟩,λM' m=>⟨cells,by simpa [bV] using p,by simpa [bV] using hA.mv m⟩⟩;rcases p.2 with ⟨rfl,h0⟩|⟨g,off,cap,cur,rfl,O,G,B,I,_⟩
  .have Q:=Lib.run_firstCells_string (P:=P) w 1 ⟨#[]⟩;have e0:(⟨#[]⟩:ByteArray).size=0:=rfl;rw [e0] at Q;simp [S,Builtin.append_,run_underlying L,run_underlying J,sizeOf,typeInfo,hi,y,Builtin.lenOf,Q,ByteArray.size]
  .have Q:=Lib.run_firstCells_string (P:=P) w 1 ⟨#[]⟩;have e0:(⟨#[]⟩:ByteArray).size=0:=rfl;rw [e0] at Q;simp [S,Builtin.append_,run_underlying L,run_underlying J,sizeOf,typeInfo,hi,y,Builtin.lenOf,Q,ByteArray.size,storeCells,Lib.strCells,G]
 .rcases p.2 with ⟨rfl,h0⟩|⟨g,off,cap,cur,rfl,O,G,B,I,k⟩
  .have W:xs=[]:=c8 h0;subst W;have hc0:cells=[]:=c8 (by simpa using D);subst hc0;have H:=run_append_nil_string (P:=P) w t u r e i (.int .u8 0) L J hi hz ⟨s.toArray⟩ (by rw [a];omega) (by rw [a];simp at T;omega) (by rw [a,R];simp at hb1;omega);have A:=q 0 (by simp;omega);have e1:((⟨s.toArray⟩:ByteArray).data.map λb=>Value.int .u8 b.toNat)=(Lib.strCells ⟨s.toArray⟩).toArray:=by apply Array.ext';simp [Lib.strCells]
   rw [e1,a] at H;simp only [qa,j0,qO,s6] at A;exact ⟨_,_,H,F _ _,E _ _ _,λM' m=>⟨_,.of (by simpa [d] using A),by simpa using N.mv m⟩⟩
  .by_cases f:xs.length+s.length<=cap
   .have hcs':off+cap=cur.size:=by simpa [d] using I.1
    have H:=Vq (P:=P) (w:=w) t u r e i L J hi y g off xs.length cap cur O ⟨s.toArray⟩ (by rw [a];exact f) (by rw [a];omega);refine ⟨_,_,H,⟨rfl,rfl,rfl,by simp,λb hb hbg=>setRow_other w g b _ (by simpa [eA,Value.ownBlock] using hbg)⟩,λb hb=>?_,λM' m=>⟨cells++Lib.strCells ⟨s.toArray⟩,⟨h,.inr ⟨g,off,cap,_,by simp [fX,a],setRow_heap w g cur _ e _ O,by simpa [fX] using f,B,⟨?_,I.2⟩,?_⟩⟩,U.mv m⟩⟩
    .have:b=g:=by simpa [eA,Value.ownBlock] using hb
     subst this;exact ⟨by simpa using (Array.getElem?_eq_some_iff.1 O).1,.inl (by simp [eA,Value.ownBlock])⟩
    .simp only [n9,du,cx,cO,de,z,a,d];omega
    .have K:(cur.toList.drop off).take xs.length=cells:=by simpa [d] using k
     have:=ah8 (l:=cur.toList) (ns:=Lib.strCells ⟨s.toArray⟩) (off:=off) (m:=xs.length) (by rw [K];exact D.symm) (by have hl:cur.toList.length=cur.size:=de;omega);rw [K,z] at this;rw [d,<-h,a];simpa using this
   .have holds:∀j x,cells[j]? =some x->w.cell? ((⟨g,off,none⟩:Addr).add j)=some x:=λj x hj=>(G0 O k).cell hj;have H:=Lib.run_append_grow_string (P:=P) w t u r e i (.int .u8 0) L J hi hz ⟨g,off,none⟩ xs.length cap cells (by rw [y];omega) holds ⟨s.toArray⟩ (by rw [a];omega) (by rw [a];omega)
     (by rw [a,R];exact growslice_fits (by omega) (by omega))
    have A:=q cap (by omega);rw [a] at H;exact ⟨_,_,H,F _ _,E _ _ _,λM' m=>⟨_,.of (by simpa [d] using A),U.mv m⟩⟩
theorem Cl(t u c e:TypeId)(r:P.underlying t=some (.slice e))(q:P.underlying u=some .string)(k:TI P e 1 1 (.int .u8 0))
  {a0:Option Addr} {s:aD} (a:aI s.length 1=true):
  ((Builtin.append_ #[t,u] c #[.slice a0 0 0,S s]).run P w= .ok (.slice a0 0 0) w/\s=[])\/
  ∃g w',(Builtin.append_ #[t,u] c #[.slice a0 0 0,S s]).run P w= .ok g w'/\Ext w w'/\(∀b∈eA g,b<w'.heap.size/\w.heap.size<=b)/\(∀M',Mv M w M' w'->iI (RI .u8) e M' w' g (bV s)):=by
 obtain ⟨i,hi,x,B,H⟩:=k.out;by_cases D:s=[]
 .subst D;refine .inl ⟨?_,rfl⟩;have E:=Lib.run_firstCells_string (P:=P) w 1 ⟨#[]⟩;have N:(⟨#[]⟩:ByteArray).size=0:=rfl;rw [N] at E;cases a0 <;> simp [S,Builtin.append_,run_underlying r,run_underlying q,sizeOf,typeInfo,hi,x,Builtin.lenOf,E,ByteArray.size,storeCells,Lib.strCells]
 .refine .inr ?_;cases a0 with
  |none=>
   obtain ⟨g,w',l,o,F,K⟩:=xQ (M:=M) (w:=w) t u c e r q k (iI.nil) (s:=s) (λb hb=>by simp [eA,Value.ownBlock] at hb) (by simpa using a);refine ⟨g,w',l,⟨o.os,o.tape,o.output,o.size,λb hb=>o.block b hb (by simp [eA,Value.ownBlock])⟩,λb hb=>⟨(F b hb).1,?_⟩,λM' m=>by simpa using K M' m⟩;rcases (F b hb).2 with h|h
   .simp [eA,Value.ownBlock] at h
   .exact h
  |some G=>
   have d:(⟨s.toArray⟩:ByteArray).size=s.length:=my s;simp only [aI,ar,uK] at a;have J:=c5 a.1;have C:=c5 a.2;have O:0<s.length:=List.length_pos_iff.2 D;have l:=Lib.run_append_grow_string (P:=P) w t u c e i (.int .u8 0) r q hi H G 0 0 [] (by simp) (by intro j v I;simp at I) ⟨s.toArray⟩ (by rw [d];omega) (by rw [d];omega) (by rw [d,B];exact growslice_fits (by omega) (by omega));rw [d] at l;simp only [j0] at l;have y:(Builtin.append_ #[t,u] c #[.slice (some G) 0 0,S s]).run P w=_:=l;have z:=grownCap_ge w s.length 0 e;have A:grownCap w s.length 0 e<=maxLen:=grownCap_le_maxLen w s.length 0 e (by simpa [maxLen] using C);have f:(Lib.strCells ⟨s.toArray⟩).length=s.length:=by rw [Lib.strCells_length,d]
   refine ⟨_,_,y,⟨rfl,rfl,rfl,by simp,λb hb=>heap_alloc_old w.drew _ hb⟩,λb hb=>?_,λM' m=>⟨Lib.strCells ⟨s.toArray⟩,.of (b:=0) ⟨by simp [f,fX,RI],.inr ⟨w.heap.size,_,_,by simp [fX],qk _,heap_alloc_new w.drew _,by simpa [fX] using z,A,?_,?_⟩⟩,(Mx s)⟩⟩
   .have:b=w.heap.size:=by simpa [eA,Value.ownBlock] using hb
    subst this;exact ⟨by simp,ch _⟩
   .have p:(Value.int u8 0).cells.size=1:=rfl;simp only [qE,n9,size_zeroCells,p,f,qa];show _=_*1;omega
   .have L:(bV s).length*(RI .u8).n=(Lib.strCells ⟨s.toArray⟩).length:=by simp [fX,f,RI]
    rw [L];simp
end
section
variable {P : Program} {ρ : za} {Q : bD} {n : Nat} {D : x3} {E : Env} {w : World} {ops : zc} {rest : zf} {Γ : Ctx} {i : Nat}
variable {d : Tmp} {ty : TypeId} {pos : String} {af : zd}
theorem akZ{t u:TypeId}{xs:zg}{s:aD}(J:Sat Γ w)(i:Nat)(hi:Γ[i]? =some (iJ (RI .u8) e v xs R))
  (I:P.underlying t=some (.slice e)) (H:P.underlying u=some .string) (o:TI P e 1 1 (.int .u8 0)) (hx:au E true x v) (q:au E true y (S s))
  (f:aI (xs.length+s.length) 1=true) (hn:Nat.blt d n=true)
  (h:∀(p:gV) l w',Sat (Γ.set i (iJ (RI .u8) e (sl p) (xs++bV s) l)) w'->WL P ρ ops Q n D rest ((d,true,sl p)::E) w'):
  WL P ρ ops Q n D (⟨some d,.call ⟨.builtin .append,#[x,y],#[t,u]⟩,ty,pos,af,none⟩::rest) E w:=by
 have key:∃c l w',na P E ⟨some d,.call ⟨.builtin .append,#[x,y],#[t,u]⟩,ty,pos,af,none⟩ w c w'/\kQ R w w'/\(∀b∈l,b<w'.heap.size/\(b∈R\/w.heap.size<=b))/\∀M',Mv Γ.M w M' w'->bU (RI .u8) e M' w' c (xs++bV s) l:=by
  have k:=J.own hi;have N:∀b∈R,Γ.M b:=λb hb=>Ctx.jV hi hb;rcases k with ⟨rfl,B⟩|⟨rfl,rfl,⟨a0,rfl⟩,z⟩
  .obtain ⟨c,w',j,G,F,k⟩:=xQ t u ty e I H o B N f;exact ⟨c,eA c,w',(λn' a g=>by simp [execOp,resolve,invoke,builtin,hx n' a g rfl,q n' a g rfl,j]),G,F,λM' m=>bU.of (k M' m)⟩
  .rcases Cl (M:=Γ.M) (w:=w) t u ty e I H o (a0:=a0) (s:=s) (by simpa using f) with ⟨j,rfl⟩|⟨c,w',j,O,L,k⟩
   .exact ⟨.slice a0 0 0,[],w,(λn' a g=>by simp [execOp,resolve,invoke,builtin,hx n' a g rfl,q n' a g rfl,j]),(Ext.refl w).vS _,(λb hb=>by cases hb),λM' m=>by simpa [bV] using bU.empty (e:=e) (z.mv m)⟩
   .exact ⟨c,eA c,w',(λn' a g=>by simp [execOp,resolve,invoke,builtin,hx n' a g rfl,q n' a g rfl,j]),O.vS _,(λb hb=>⟨(L b hb).1,.inr (L b hb).2⟩),λM' m=>bU.of (by simpa using k M' m)⟩
 obtain ⟨c,l,w',j,G,F,k⟩:=key;have K:=J.ra hi (new:=iJ (RI .u8) e c (xs++bV s) l) G F (λM' m _=>k M' m);have r:∃p,c=sl p:=by have C:i<Γ.length:=(List.getElem?_eq_some_iff.1 hi).1;have B:=K.own (i:=i) (A:=RI .u8) (e:=e) (v:=c) (xs:=xs++bV s) (R:=l) (by rw [qL C]);obtain ⟨a,cap,r⟩:=B.len;exact ⟨(a,_,cap),r⟩
 obtain ⟨p,rfl⟩:=r;exact xm j rfl rfl rfl hn (h _ _ _ K)
def Roomy(v:Value):Prop:= ∃g off len cap,v= .slice (some ⟨g,off,none⟩) len (cap+1)
theorem amj{g:Bool}{dst:zb}{gd:Option (Nat×Bool)}{v:gV}{c:Array TypeId}(hx:au E g x (sl v))(h:g=true->Roomy (sl v)):bq P E g ⟨dst,.call ⟨.builtin .unsafeSliceData,#[x],c⟩,ty,pos,af,gd⟩ w (.pointer v.1):=
 λn a i d=>by obtain ⟨b,off,len,cap,e⟩:=h d;obtain ⟨k,f,j⟩:=v;simp only [sl,Value.slice.injEq] at e;obtain ⟨rfl,rfl,rfl⟩:=e;have:=Lib.run_unsafeSliceData_row (P:=P) w c ty ⟨b,off,none⟩ f (cap+1) (by omega);simp [execOp,resolve,invoke,builtin,hx n a i d,sl,this]
theorem Jc{P:Program}{w:World}:∀(l:zg) (a:Addr) (b:ByteArray),(∀(j:Nat) (x:Int),l[j]? =some x->w.cell? (a.add j)=some (.int .u8 x))->
  (loadBytes a b l.length).run P w= .ok ⟨b.data++(strOf l).toArray⟩ w
 |[],a,b,_=>by simp [loadBytes,strOf]
 |x::l,a,b,h=>by
  have f:w.cell? a=some (.int .u8 x):=by have:=h 0 x rfl;simpa [Addr.add] using this
  have ih:=Jc (P:=P) l (a.add 1) (b.push (UInt8.ofNat x.toNat)) (λj y d=>by
   have:=h (j+1) y (by simpa using d);have e:(a.add 1).add j=a.add (j+1):=by
    unfold Addr.add;by_cases c:j=0
    .subst c;simp
    .simp [c];omega
   rw [e];exact this)
  simp only [c9,loadBytes,Sem.run_bind,run_load,f,Result.andThen];have g:(x.toNat).toUInt8=UInt8.ofNat x.toNat:=rfl;rw [g,ih];congr 1;apply ByteArray.ext;simp [ByteArray.push,strOf]
end
open Go.Lib
theorem O{E:Env}{g:Bool}{t:Tmp}(h:look E t=some (true,v)):au E g (.tmp t) v:=au.t h
section
variable {P : Program} {ρ : za} {Q : bD} {n : Nat} {D : x3} {E : Env} {w : World} {ops : zc} {rest : zf}
end
variable {dd : TypeDesc}
def dw{E A B:Type}(m:Option (Except E A))(k:A->Option (Except E B)):Option (Except E B):=m.bind λa=>match a with
 | .error p=>some (.error p)
 | .ok x=>k x
def nk{E A B:Type}(m:Option (Except E A))(kp:E->Option B)(k:A->Option B):Option B:=m.bind λa=>match a with
 | .error p=>kp p
 | .ok x=>k x
theorem ajD{E A B:Type}{m:Option (Except E A)}{b:E->Option B}{k:A->Option B}{r:B}(h:nk m b k=some r):(∃p,m=some (.error p)/\b p=some r)\/∃x,m=some (.ok x)/\k x=some r:=by
 cases m with
 |none=>cases h
 |some a=>
  cases a with
  |error p=>exact .inl ⟨p,rfl,h⟩
  |ok x=>exact .inr ⟨x,rfl,h⟩
abbrev iY(v:Value):xc:=[{ v:=v,recovered:=false }]
section
variable {P : Program} {ρ : za} {Q : bD} {n : Nat} {D : x3} {E : Env} {w : World} {ops : zc} {rest : zf} {Φ : Ctx}
theorem aqw{t:TypeId}{dst:zb}{ty:TypeId}{pos:String}{af:zd}(hx:au E true x (.iface t v))
  (h:At Q (.panic (iY (.iface t v))) n D E w):WL P ρ ops Q n D (⟨dst,.panic x,ty,pos,af,none⟩::rest) E w:=λa b c=>
 wpListIn_plain rfl λK d=>lW rfl (by
  have e:(execOp a.eval (⟨dst,.panic x,ty,pos,af,none⟩:Oper)).run P w= .halt (.panic (.iface t v)) w:=by simp only [execOp,hx n a b rfl];rfl
  rw [e];exact h a b c)
theorem akG{fn:Func}{S:Value->World->Prop}{Sp:xc->World->Prop}{ps:xc}(h:Sp ps w):DG (BP P fn S Sp) ps [] w:=λa hd=>by show LeavesInM _ _ _ _ _ _ a.defers _ _;rw [hd];exact h
variable {g : Bool} {dst : zb} {ty : TypeId} {pos : String} {af : zd} {gd : xa}
theorem acn{s t:TypeId}(b:P.underlying t=some dd)(hd:ig dd=false)(hx:au E g x (.iface t v)):bq P E g ⟨dst,.typeAssert x s t true,ty,pos,af,gd⟩ w (.tuple #[v,.bool true]):=
 λn a d c=>by simp only [execOp,hx n a d c,Instr.typeAssert,Sem.run_bind,run_underlying b,Result.andThen_ok];cases dd <;> first|(dsimp only;rw [pa rfl];rfl)|(simp [ig] at hd)
theorem ace{s t:TypeId}{size bytes:Nat}(c:P.underlying t=some dd)(hd:ig dd=false)(b:TI P t size bytes z)(hx:au E g x .nilIface):bq P E g ⟨dst,.typeAssert x s t true,ty,pos,af,gd⟩ w (.tuple #[z,.bool false]):=
 λn a e d=>by simp only [execOp,hx n a e d,Instr.typeAssert,Sem.run_bind,run_underlying c,Result.andThen_ok];cases dd <;> first|(simp [ig] at hd;done)|(simp only [Sem.run_bind,b.zero w,Result.andThen_ok,oi];rfl)
theorem acb{s t u:TypeId}{size bytes:Nat}(b:u≠t)(d:P.underlying t=some dd)(hd:ig dd=false)(c:TI P t size bytes z)(hx:au E g x (.iface u v)):bq P E g ⟨dst,.typeAssert x s t true,ty,pos,af,gd⟩ w (.tuple #[z,.bool false]):=
 λn a f e=>by simp only [execOp,hx n a f e,Instr.typeAssert,Sem.run_bind,run_underlying d,Result.andThen_ok];cases dd <;> first|(simp [ig] at hd;done)|(dsimp only;rw [n7 (by first|exact b|exact b.symm)];simp only [Sem.run_bind,c.zero w,Result.andThen_ok,oi];rfl)
def IJ(P:Program)(f:FuncId)(args:yp)(u:FrameMode)(w:World)(R:FrameMode->World->Prop):Prop:=
 CallsDIn (FW none) 0 P f args.toArray u w λe u' w'=>e= .returned (.tuple #[])/\R u' w'
abbrev SU(f:FuncId)(cap:yp):Deferred:={ target:= .fn (.func f) cap.toArray,args:= #[] }
theorem aqs{f:FuncId}{fo:Operand}{cap:yp}{tys:Array TypeId}{ty:TypeId}{pos:String}{af:zd}(b:au E true fo (.func (.func f) #[] cap.toArray))
  (h:WL P none ops Q n (SU f cap::D) rest E w):WL P none ops Q n D (⟨none,.defer ⟨.value fo,#[],tys⟩,ty,pos,af,none⟩::rest) E w:=λa c g=>
 wpListIn_plain rfl λK d=>by
  refine ⟨λ_ _=>trivial,?_⟩;have e:((⟨none,.defer ⟨.value fo,#[],tys⟩,ty,pos,af,none⟩:Oper).semAt (FW none).round a.eval).run P w= .ok (.defer (SU f cap)) w:=by show (execOp a.eval (⟨none,.defer ⟨.value fo,#[],tys⟩,ty,pos,af,none⟩:Oper)).run P w=_;simp only [execOp,resolve,b n a c rfl,Deferred.ofValue,Sem.run_bind,Sem.run_pure,Result.andThen_ok];rw [show (#[]++Array.map a.eval #[]:x8)= #[] by simp]
  rw [e,Oper.uponIn_defer];refine d _ _ (h _ ⟨c.size,c.at_⟩ ?_);show SU f cap::a.defers=_;rw [g]
theorem Sd{a:Act}(h:Fits n E a)(ds:x3):Fits n E { a with defers:=ds }:=⟨h.size,h.at_⟩
theorem Yz{fn:Func}{f:FuncId}{cap:yp}{tmps:x8}{R:Ending->World->Prop}{u:FrameMode}{ds:x3}(a:u≠ .run)(b:Enters P f)
  (c:IJ P f cap u w λu' w'=>LeavesInM (FW none) 0 P fn tmps R ds (settle u') w'):LeavesInM (FW none) 0 P fn tmps R (SU f cap::ds) u w:=by
 refine ⟨a,.inr ⟨Kq,.func f,cap.toArray,f,cap.toArray,rfl,?_,λ_ _=>trivial,?_⟩⟩
 .have:=b cap.toArray w;simpa [SU,invoke] using this
 .refine CallsDIn.mono c λe u' w' h=>?_;obtain ⟨rfl,h⟩:=h;exact h
theorem anx{fn:Func}{S:Value->World->Prop}{Sp:xc->World->Prop}{f:FuncId}{cap:yp}{T:World->Prop}(d:Enters P f)
  (g:IJ P f cap .returning w λu' w'=>u'= .returning/\T w') (h:∀w',T w'->At (BP P fn S Sp) .ret n [] E w'):At (BP P fn S Sp) .ret n [SU f cap] E w:=λa c hd=>by
 show LeavesInM _ _ _ _ _ _ a.defers _ _;rw [hd];refine Yz (by simp) d (CallsDIn.mono g λe u' w' hx=>?_);obtain ⟨b,rfl,i⟩:=hx;exact ⟨b,h w' i { a with defers:=[] } (Sd c []) rfl⟩
theorem ai9{fn:Func}{S:Value->World->Prop}{Sp:xc->World->Prop}{f:FuncId}{cap:yp}{T:World->Prop}(d:Enters P f)
  (g:IJ P f cap (.panicking (iY v)) w λu' w'=>u'= .panicking [{ v:=v,recovered:=true }]/\T w') (h:∀w',T w'->At (BP P fn S Sp) .ret n [] E w'):At (BP P fn S Sp) (.panic (iY v)) n [SU f cap] E w:=λa c hd=>by
 show LeavesInM _ _ _ _ _ _ a.defers _ _;rw [hd];refine Yz (by simp) d (CallsDIn.mono g λe u' w' hx=>?_);obtain ⟨b,rfl,i⟩:=hx;exact ⟨b,h w' i { a with defers:=[] } (Sd c []) rfl⟩
def QB(T:World->Prop):bD:=λe a w=>match e with
 | .normal=>a.defers=[]/\T w
 | .ret=>a.defers=[]/\T w
 |_=>False
theorem aqO{T:World->Prop}(h:T w):At (QB T) .normal n [] E w:=λ_ _ hd=>⟨hd,h⟩
theorem atv{T:World->Prop}(h:T w):At (QB T) .ret n [] E w:=λ_ _ hd=>⟨hd,h⟩
def Qt(o:Oper):Bool:=match o.op with
 | .move _=>true
 | .assign _=>true
 | .alloc _=>true
 | .extract _ _=>true
 | .store _ _ _=>true
 | .typeAssert _ _ _ _=>true
 | .binOp .neq _ _ _ _=>true
 | .load _ _=>true
 | .nilCheck _=>true
 | .fieldAddr _ _ _=>true
 |_=>false
def JK:Result Next->Prop
 | .ok (.value _) _=>True
 | .ok .skip _=>True
 | .halt _ _=>True
 |_=>False
theorem atM{m:Sem Value}{w:World}:JK ((do pure (Next.value (<-m)):Sem Next).run P w):=by rw [Sem.run_bind];cases m.run P w <;> trivial
theorem atS{m:Sem Unit}{w:World}:JK ((do m;pure Next.skip:Sem Next).run P w):=by rw [Sem.run_bind];cases m.run P w <;> trivial
theorem Ep{m:Sem α}{k:α->Sem Next}{w:World}(h:∀a w,JK ((k a).run P w)):JK ((m >>= k).run P w):=by
 rw [Sem.run_bind];cases m.run P w with
 |ok a w=>exact h a w
 |halt _ _=>trivial
theorem anY{ev:Operand->Value}{dst:zb}{ty:TypeId}{pos:String}{af:zd}{g:Option (Nat×Bool)}{w:World}:JK ((execOp ev ⟨dst,.nilCheck x,ty,pos,af,g⟩).run P w):=by
 unfold execOp;dsimp only;split
 .exact Ep λ_ _=>trivial
 .exact Ep λ_ _=>trivial
 .exact Ep λ_ _=>trivial
 .split
  .exact Ep λ_ _=>trivial
  .refine Ep λ_ _=>Ep λ_ _=>?_;split
   .exact Ep λ_ _=>trivial
   .exact trivial
  .trivial
 .trivial
theorem apZ{o:Oper}(h:Qt o=true)(ev:Operand->Value)(w:World):JK ((execOp ev o).run P w):=by obtain ⟨dst,op,ty,pos,af,g⟩:=o;cases op <;> first|(cases h;done)|exact atM|exact atS|exact anY|trivial
theorem Wa{ops:zc}{g:bD}{QS:Exit->Act->List Frame->World->Prop}{cs:List Frame}(f:∀e a w,g e a w->QS e a cs w):∀(l:zf) (k:Nat),l.all Qt=true->(∀j,l[j]? =ops[k+j]?)->∀(a:Act) (w:World),wpListIn (FW none) 0 P ops g l a w->
  wpOpsSIn (FW none) 0 P ops QS (List.range' k l.length) a cs w
 |[],k,_,_,a,w,h=>f _ _ _ h
 |o::l,k,hc,hk,a,w,h=>by
  have m:ops[k]? =some o:=by simpa using (hk 0).symm
  rw [qq,ar] at hc;have ih:=Wa (ops:=ops) f l (k+1) hc.2 (λj=>by have:=hk (j+1);simpa [qH,Nat.add_comm 1 j] using this);rw [c9,List.range'_succ];simp only [wpOpsSIn,m];simp only [wpListIn] at h;refine ⟨λ_ _=>trivial,?_⟩;split at h
  .rename_i d;rw [pa d];have c:=h.2;have b:=apZ (P:=P) hc.1 a.eval w;rw [show (o.semAt (FW none).round a.eval)=execOp a.eval o from rfl] at c;generalize (execOp a.eval o).run P w=r at c b;cases r with
   |ok x w'=>
    cases x <;> first|exact b.elim|exact ih _ _ c
   |halt i w'=>
    cases i <;> first|exact f _ _ _ c|exact c.elim
  next d=>rw [n7 d];exact ih _ _ h.2
theorem apj{fn:Func}{c₀:Frame}{cs:List Frame}{T:World->Prop}{u':FrameMode}(b:fn.results= #[]){e:Exit}{a:Act}{w:World}(h:QB T e a w):
  bodyPostS P fn c₀ cs (λe c w'=>e= .returned (.tuple #[])/\c=u'/\T w') e a ({ c₀ with mode:=u' }::cs) w:=by
 have d:(results fn a.tmps).run P w= .ok (.tuple #[]) w:=by rw [Xw,b];simp
 cases e <;> first|exact ⟨h.1,u',rfl,_,d,rfl,rfl,h.2⟩|exact h.elim
theorem aat{f:FuncId}{fn:Func}{id:Nat}{ops:zc}{l:zf}{y:Code}{d:Tmp}{ty:TypeId}{pos:String}{af:zd}{tys:Array TypeId}{cap:yp}{u u':FrameMode}{T:World->Prop}
  (J:P.funcs[f]? =some fn) (hb:fn.body=some (.seq (.region id ops false) y)) (c:ops.toList=⟨some d,.call ⟨.builtin .recover,#[],tys⟩,ty,pos,af,none⟩::l) (q:l.all Qt=true) (o:fn.results= #[]) (hn:fn.ntmps=n) (hl:Nat.ble cap.length n=true) (hd:Nat.blt d n=true)
  (H:(u= .returning/\u'= .returning/\v= .nilIface)\/(u= .panicking (iY v)/\u'= .panicking [{ v:=v,recovered:=true }]))
  (h:WL P none ops (Exit.then (y.wpIn (FW none) 0 P (QB T)) (QB T)) n [] l ((d,true,v)::iota 0 cap) w):IJ P f cap u w λr w'=>r=u'/\T w':=by
 refine callsDIn_of_wpSIn J hb trivial λc₀ cs F=>?_;have k:Fits n (iota 0 cap) { tmps:=cap.toArray++Array.replicate (fn.ntmps-cap.toArray.size) undef,defers:=[] }:=by
  refine ⟨?_,λt g v I=>?_⟩
  .have:cap.length<=n:=by simpa using hl
   simp [hn];omega
  .obtain ⟨j,rfl,B,rfl⟩:=GH cap 0 t g v I;have D:j<cap.length:=by
    rcases qB j cap.length with h|h
    .exact h
    .rw [j6 h] at B;cases B
   simp only [yN,cw,j0,kR];rw [q9 (by simpa using D)];simp [B]
 have z:({ tmps:=cap.toArray++Array.replicate (fn.ntmps-cap.toArray.size) undef,defers:=[] }:Act).defers=[]:=rfl;generalize ({ tmps:=cap.toArray++Array.replicate (fn.ntmps-cap.toArray.size) undef,defers:=[] }:Act)=a0 at k z;refine wpSIn_seq (wpSIn_region ?_);have C:ops.size=l.length+1:=by rw [<-de,c];rfl
 rw [C,List.range_eq_range',List.range'_succ];have L:ops[0]? =some ⟨some d,.call ⟨.builtin .recover,#[],tys⟩,ty,pos,af,none⟩:=by rw [<-qv,c];rfl
 have D:∀j,l[j]? =ops[1+j]? :=λj=>by rw [<-qv,c,Nat.add_comm 1 j];rfl
 have s:(execOp a0.eval (⟨some d,.call ⟨.builtin .recover,#[],tys⟩,ty,pos,af,none⟩:Oper)).run P w= .ok .recover w:=by simp [execOp,resolve,invoke,builtin]
 have x:Fits n ((d,true,v)::iota 0 cap) (a0.put (some d) v):=k.put (g:=true) (v:=v) hd;have m:=Wa (cs:={ c₀ with mode:=u' }::cs) (QS:=Exit.thenS (y.wpSIn (FW none) 0 P (bodyPostS P fn c₀ cs λe r w'=>e= .returned (.tuple #[])/\r=u'/\T w')) (bodyPostS P fn c₀ cs λe r w'=>e= .returned (.tuple #[])/\r=u'/\T w'))
  (λe a w p=>by
   cases e with
   |normal=>exact wpSIn_of_wpIn rfl (Code.wpIn_mono (λe a w p=>apj o p) p)
   |exit i=>exact False.elim p
   |goto i=>exact False.elim p
   |ret=>exact apj (P:=P) (c₀:=c₀) (cs:=cs) (u':=u') (T:=T) (e:= .ret) o p
   |panic i=>exact False.elim p
   |outgrown=>exact False.elim p) l 1 q D _ _ (h _ x z)
 simp only [wpOpsSIn,L];refine ⟨λ_ _=>trivial,?_⟩;rw [pa (by simp [Region.wanted]),s];rcases H with ⟨A,G,K⟩|⟨A,G⟩
 .have b:recoverD (c₀::cs)=none:=by simp [recoverD,F,A]
  have E:({ c₀ with mode:=u' }:Frame)=c₀:=by rw [G,<-A,<-F]
  simp only [b];rw [E,K] at m;exact m
 .have b:recoverD (c₀::cs)=some (v,{ c₀ with mode:=u' }::cs):=by simp [recoverD,F,A,G,iY]
  simp only [b];exact m
theorem ahM{f:FuncId}{fn:Func}{id:Nat}{ops:zc}{cap:yp}{T:World->Prop}
  (s:P.funcs[f]? =some fn) (hb:fn.body=some (.region id ops false)) (c:ops.toList.all Qt=true) (d:fn.results= #[]) (hn:fn.ntmps=n) (hl:Nat.ble cap.length n=true)
  (h:WL P none ops (QB T) n [] ops.toList (iota 0 cap) w):IJ P f cap .returning w λk w'=>k= .returning/\T w':=by
 refine callsDIn_of_wpSIn s hb trivial λc₀ cs u=>?_;have b:Fits n (iota 0 cap) { tmps:=cap.toArray++Array.replicate (fn.ntmps-cap.toArray.size) undef,defers:=[] }:=by
  refine ⟨?_,λt g v p=>?_⟩
  .have:cap.length<=n:=by simpa using hl
   simp [hn];omega
  .obtain ⟨j,rfl,l,rfl⟩:=GH cap 0 t g v p;have r:j<cap.length:=by
    rcases qB j cap.length with h|h
    .exact h
    .rw [j6 h] at l;cases l
   simp only [yN,cw,j0,kR];rw [q9 (by simpa using r)];simp [l]
 have o:({ c₀ with mode:= .returning }:Frame)=c₀:=by rw [<-u]
 refine wpSIn_region ?_;have m:ops.size=ops.toList.length:=by rw [de]
 rw [m,List.range_eq_range'];have i:=Wa (cs:=c₀::cs) (QS:=bodyPostS P fn c₀ cs λe k w'=>e= .returned (.tuple #[])/\k= .returning/\T w')
  (λe a w q=>by have:=apj (P:=P) (c₀:=c₀) (cs:=cs) (u':= .returning) (T:=T) (e:=e) d q;rw [o] at this;exact this) ops.toList 0 c (λj=>by rw [j0,qv]) _ _ (h _ b rfl)
 exact i
end
variable {w : World}
inductive Ex where
 |mk (op n at_:Int) (l:List Ex)
instance:Inhabited Ex:=⟨.mk 0 0 0 []⟩
def Ex.op:Ex->Int
 | .mk o _ _ _=>o
def Ex.n:Ex->Int
 | .mk _ n _ _=>n
def Ex.at_:Ex->Int
 | .mk _ _ a _=>a
def Ex.l:Ex->List Ex
 | .mk _ _ _ l=>l
mutual
def Ex.sz:Ex->Nat
 | .mk _ _ _ l=>DF l+1
def DF:List Ex->Nat
 |[]=>0
 |x::r=>Ex.sz x+DF r
end
theorem Ex.akQ(e:Ex):e.sz=DF e.l+1:=by cases e;simp only [Ex.sz,Ex.l]
inductive xA(M:Nat->Prop)(w:World):yp->Ex->Prop
 |nil (op n a:Int) (ad:Option Addr):xA M w [.int .i64 op,.int .i64 n,.int .i64 a,sl (ad,0,0)] (.mk op n a [])
 |some (op n a:Int) (l:List Ex) (b off cap:Nat) (cs:x8) (e:TypeId) (fr:Nat×Nat) (hM:¬M b) (hb:w.heap[b]? =some (.cells cs e fr)) (hc:l.length<=cap) (ho:off+cap*4<=cs.size)
   (hl:((cs.toList.drop off).take (l.length*4)).length=l.length*4) (h:∀i (hi:i<l.length),xA M w ((((cs.toList.drop off).take (l.length*4)).drop (i*4)).take 4) l[i]):
   xA M w [.int .i64 op,.int .i64 n,.int .i64 a,sl (some ⟨b,off,none⟩,l.length,cap)] (.mk op n a l)
theorem xA.len{M:Nat->Prop}{x:Ex}(h:xA M w vs x):vs.length=4:=by cases h <;> rfl
theorem xA.mv{M M':Nat->Prop}{w':World}{x:Ex}(h:xA M w vs x)(m:Mv M w M' w'):xA M' w' vs x:=by
 induction h with
 |nil op n a j=>exact .nil op n a j
 |some op n a l b off cap cs e fr f hb d c hl _ ih=>
  obtain ⟨i,g⟩:=m.2 b (Array.getElem?_eq_some_iff.1 hb).1 f;exact .some op n a l b off cap cs e fr i (by rw [g];exact hb) d c hl ih
def J9:eD Ex where
 n:=4
 rd:=xA
 len:=xA.len
 one h:=by cases h <;> simp [Value.oneCell',sl]
 mv:=xA.mv
theorem KJ{M:Nat->Prop}{x:Ex}(h:J9.rd M w vs x):∃v:gV,vs=[(.int .i64 x.op),(.int .i64 x.n),(.int .i64 x.at_),(sl v)]/\ca J9 M w (sl v) x.l:=by
 cases h with
 |nil op n a g=>exact ⟨_,rfl,.inl ⟨⟨_,rfl⟩,rfl⟩⟩
 |some op n a l b off cap cs e fr f hb d c hl h=>exact ⟨_,rfl,.inr ⟨b,off,cap,cs,e,fr,rfl,f,hb,d,c,hl,h⟩⟩
theorem Sf{M:Nat->Prop}{op n a:Int}{l:List Ex}(h:(Mr J9).rd M w [v] l):J9.rd M w [(.int .i64 op),(.int .i64 n),(.int .i64 a),v] (.mk op n a l):=by
 obtain ⟨p,hp,h⟩:=h;have c:v=sl p:=by simpa using hp
 subst c;rcases h with ⟨⟨j,h⟩,rfl⟩|⟨b,off,cap,cs,e,fr,h,i,hb,g,f,hl,d⟩
 .rw [h];exact .nil op n a j
 .rw [h];exact .some op n a l b off cap cs e fr i hb g f hl d
theorem Ex.eta(x:Ex):Ex.mk x.op x.n x.at_ x.l=x:=by cases x;rfl
abbrev aC{α:Type}(c:Bool)(a b:α):α:=match c with
 |true=>a
 |false=>b
inductive Ty where
 |i (k:IntKind)
 |bo
 |s
 |un
 |n
 |p (x y:Ty)
 |l (x:Ty)
 |mp (k v:Ty)
 |ex
 deriving DecidableEq
def Ty.T:Ty->Type
 | .i _=>Int
 | .bo=>Bool
 | .s=>aD
 | .un=>Unit
 | .n=>Nat
 | .p x y=>x.T×y.T
 | .l x=>List x.T
 | .mp k v=>Option (List (k.T×v.T))
 | .ex=>Ex
def RNo(α:Type):eD α where
 n:=0
 rd _ _ _ _:=False
 len h:=h.elim
 one h:=h.elim
 mv h _:=h.elim
def RIf:eD Nat where
 n:=1
 rd _ _ vs x:=vs=[.iface x (.agg #[])]
 len h:=by rw [h];rfl
 one h:=by rw [h];simp [Value.oneCell']
 mv h _:=h
def Ty.rep:(t:Ty)->eD t.T
 | .i k=>RI k
 | .bo=>RB
 | .s=>RS
 | .un=>RU
 | .n=>RIf
 | .p x y=>RP x.rep y.rep
 | .l x=>Mr x.rep
 | .mp _ _=>RNo _
 | .ex=>J9
structure cD where
 t:Ty
 x:t.T
def cD.as(t:Ty)(d:cD):Option t.T:=if h:d.t=t then some (h▸d.x) else none
theorem cD.P0{t:Ty}{d:cD}{x:t.T}(h:d.as t=some x):d=⟨t,x⟩:=by
 unfold cD.as at h;split at h
 next e=>obtain ⟨t',y⟩:=d;simp only at e;subst e;cases h;rfl
 .cases h
theorem cD.asy{t:Ty}{x:t.T}:cD.as t ⟨t,x⟩=some x:=by simp [cD.as]
inductive AV where
 |int (k:IntKind) (x:Int)
 |bool (x:Bool)
 |str (x:aD)
 |agg (l:List AV)
 |tuple (l:List AV)
 |ptr (id off:Nat)
 |sl (id:Nat)
 |adr (id off:Nat)
 |fn (f:FuncId) (a b:List AV)
 |ifc (t:TypeId) (v:AV)
 |mp (id:Nat)
 |gp (b:Nat)
 |nv (id:Nat)
 |sfp (id:Nat) (f:Bool)
 |bs (id n:Nat)
 |raw (v:Value)
structure Nm where
 b:Nat
 v:gV
 a:Addr
 m:za
 x:Value
 y:cD
abbrev aB:=Nat->Nm
def dB:Nm:=⟨0,(none,0,0),⟨0,0,none⟩,none,.bool false,⟨.un,()⟩⟩
mutual
def AV.val(ρ:aB):AV->Value
 | .int k x=> .int k x
 | .bool x=> .bool x
 | .str x=>S x
 | .agg l=> .agg (AV.ao ρ l).toArray
 | .tuple l=> .tuple (AV.ao ρ l).toArray
 | .ptr id off=> .pointer (some ⟨(ρ id).b,off,none⟩)
 | .sl id=>Go.Proofs.YthhmkmmmbcjghaaGreatDoor.sl (ρ id).v
 | .adr id off=> .pointer (some ((ρ id).a.add off))
 | .fn f a b=> .func (.func f) (AV.ao ρ a).toArray (AV.ao ρ b).toArray
 | .ifc t v=> .iface t (v.val ρ)
 | .mp id=> .map (ρ id).m
 | .gp b=> .pointer (some ⟨b,0,none⟩)
 | .nv id=>(ρ id).x
 | .sfp id f=>Cu f (ρ id).b
 | .bs id n=> .slice (some ⟨(ρ id).b,0,none⟩) n n
 | .raw v=>v
def AV.ao(ρ:aB):List AV->yp
 |[]=>[]
 |v::l=>v.val ρ::AV.ao ρ l
end
mutual
def AV.low(c:Nat):AV->Bool
 | .agg l|.tuple l=>AV.cr c l
 | .fn _ a b=>AV.cr c a&&AV.cr c b
 | .ifc _ v=>v.low c
 | .ptr id _|.sl id|.adr id _|.mp id|.nv id|.sfp id _|.bs id _=>Nat.blt id c
 |_=>true
def AV.cr(c:Nat):List AV->Bool
 |[]=>true
 |v::l=>v.low c&&AV.cr c l
end
def aZ(c:Nat)(ρ ρ':aB):Prop:= ∀j,j<c->ρ' j=ρ j
theorem aZ.refl{c:Nat}{ρ:aB}:aZ c ρ ρ:=λ_ _=>rfl
theorem aZ.trans{c d:Nat}{a b e:aB}(h:aZ c a b)(k:aZ d b e)(f:c<=d):aZ c a e:=λj g=>(k j (eW g f)).trans (h j g)
theorem aZ.less{c d:Nat}{a b:aB}(h:aZ d a b)(e:c<=d):aZ c a b:=λj f=>h j (eW f e)
mutual
theorem AV.mA{ρ ρ':aB}{c:Nat}(d:aZ c ρ ρ'):(v:AV)->v.low c=true->v.val ρ'=v.val ρ
 | .int _ _,_|.bool _,_|.str _,_|.raw _,_|.gp _,_=>by simp only [AV.val]
 | .agg l,h=>by simp only [AV.val];rw [AV.cn d l (by simpa only [AV.low] using h)]
 | .tuple l,h=>by simp only [AV.val];rw [AV.cn d l (by simpa only [AV.low] using h)]
 | .fn _ a b,h=>by
  simp only [AV.low,ar] at h;simp only [AV.val];rw [AV.cn d a h.1,AV.cn d b h.2]
 | .ifc _ v,h=>by simp only [AV.val];rw [AV.mA d v (by simpa only [AV.low] using h)]
 | .ptr _ _,h=>by simp only [AV.val];rw [d _ (by simpa only [AV.low,hW] using h)]
 | .sl _,h=>by simp only [AV.val];rw [d _ (by simpa only [AV.low,hW] using h)]
 | .adr _ _,h=>by simp only [AV.val];rw [d _ (by simpa only [AV.low,hW] using h)]
 | .mp _,h=>by simp only [AV.val];rw [d _ (by simpa only [AV.low,hW] using h)]
 | .nv _,h=>by simp only [AV.val];rw [d _ (by simpa only [AV.low,hW] using h)]
 | .sfp _ _,h=>by simp only [AV.val];rw [d _ (by simpa only [AV.low,hW] using h)]
 | .bs _ _,h=>by simp only [AV.val];rw [d _ (by simpa only [AV.low,hW] using h)]
theorem AV.cn{ρ ρ':aB}{c:Nat}(a:aZ c ρ ρ'):(l:List AV)->AV.cr c l=true->AV.ao ρ' l=AV.ao ρ l
 |[],_=>by simp only [AV.ao]
 |v::l,h=>by simp only [AV.cr,ar] at h;simp only [AV.ao];rw [AV.mA a v h.1,AV.cn a l h.2]
end
mutual
theorem AV.gA{c d:Nat}(e:c<=d):(v:AV)->v.low c=true->v.low d=true
 | .int _ _,_|.bool _,_|.str _,_|.raw _,_|.gp _,_=>by simp only [AV.low]
 | .agg l,h=>by simp only [AV.low] at h ⊢; exact AV.kT e l h
 | .tuple l,h=>by simp only [AV.low] at h ⊢; exact AV.kT e l h
 | .fn _ a b,h=>by simp only [AV.low,ar] at h ⊢; exact ⟨AV.kT e a h.1,AV.kT e b h.2⟩
 | .ifc _ v,h=>by simp only [AV.low] at h ⊢; exact AV.gA e v h
 | .ptr _ _,h=>by simp only [AV.low,hW] at h ⊢; omega
 | .sl _,h=>by simp only [AV.low,hW] at h ⊢; omega
 | .adr _ _,h=>by simp only [AV.low,hW] at h ⊢; omega
 | .mp _,h=>by simp only [AV.low,hW] at h ⊢; omega
 | .nv _,h=>by simp only [AV.low,hW] at h ⊢; omega
 | .sfp _ _,h=>by simp only [AV.low,hW] at h ⊢; omega
 | .bs _ _,h=>by simp only [AV.low,hW] at h ⊢; omega
theorem AV.kT{c d:Nat}(a:c<=d):(l:List AV)->AV.cr c l=true->AV.cr d l=true
 |[],_=>by simp only [AV.cr]
 |v::l,h=>by simp only [AV.cr,ar] at h ⊢;exact ⟨AV.gA a v h.1,AV.kT a l h.2⟩
end
theorem SO{c:Nat}:{l m:List AV}->AV.cr c l=true->AV.cr c m=true->AV.cr c (l++m)=true
 |[],m,_,h=>h
 |v::l,m,h,k=>by simp only [mj,AV.cr,ar] at h ⊢;exact ⟨h.1,SO h.2 k⟩
theorem AV.aed{ρ:aB}{l:List AV}{i:Nat}{v:AV}(h:l[i]? =some v):(AV.ao ρ l)[i]? =some (v.val ρ):=by
 induction l generalizing i with
 |nil=>simp at h
 |cons u l ih=>
  cases i with
  |zero=>simp at h;subst h;simp [AV.ao]
  |succ i=>simp only [AV.ao,cH] at h ⊢; exact ih h
theorem AV.iK{ρ:aB}:{l:List AV}->{k:Nat}->AV.ao ρ (l.drop k)=(AV.ao ρ l).drop k
 |l,0=>by simp
 |[],k+1=>by simp [AV.ao]
 |v::l,k+1=>by simp only [AV.ao,List.drop_succ_cons];exact AV.iK
theorem AV.kP{ρ:aB}:{l:List AV}->{k:Nat}->AV.ao ρ (l.take k)=(AV.ao ρ l).take k
 |l,0=>by simp [AV.ao]
 |[],k+1=>by simp [AV.ao]
 |v::l,k+1=>by simp only [AV.ao,qV];rw [AV.kP]
theorem AV.bw{ρ:aB}:{l:List AV}->(AV.ao ρ l).length=l.length
 |[]=>by simp [AV.ao]
 |v::l=>by simp [AV.ao,AV.bw]
theorem dJ{ρ:aB}:{l m:List AV}->AV.ao ρ (l++m)=AV.ao ρ l++AV.ao ρ m
 |[],m=>by simp [AV.ao]
 |v::l,m=>by simp only [mj,AV.ao];rw [dJ]
abbrev GK:=Option (Nat×Bool)
inductive Row where
 |box (id:Nat) (t:TypeId) (vs:List AV)
 |sli (g:GK) (id:Nat) (t:Ty) (l:List t.T) (clip:Bool)
 |own (id:Nat) (t:Ty) (e:TypeId) (l:List t.T) (ver:Nat)
 |kn (g:GK) (q id ver:Nat) (t:Ty) (i:Int) (x:t.T)
 |elm (g:GK) (id:Nat) (vs:List AV)
 |mp (id:Nat) (k v:Ty) (d:Option (List (k.T×v.T)))
 |it (id:Nat) (s:aD) (p:Nat)
 |eq (id:Nat) (v:AV)
 |gone
inductive Pt where
 |int (k:IntKind)|bool|str
 |sli (t:Ty)
 |own (t:Ty) (e:TypeId) (m:Bool)
 |slr (n:Nat)
 |bx (t:TypeId) (off:Nat) (m:Bool) (vs:List Pt)
 |ptr (n off:Nat)
 |mp (k v:Ty) (m:Bool)
 |it
 |agg (l:List Pt)|cQ (l:List Pt)
 |fn (f:FuncId) (a b:List Pt)
 |ifc (t:TypeId) (p:Pt)
 |kr (v:AV)
 |dat (t:Ty) (o:w5)
 |ifn
 |sfp
 |sty (p:Pt)
 |same
abbrev aH:=List (Nat×GK×AV)
structure Tm where
 vs:List (Bool×Nat×Pt)
 th:zh
inductive HT where
 |o
 |c (a b:HT)
 |l (t:Tm) (a:HT)
 |j (t:Tm) (a b:HT)
 |s (a:HT)
 |n (k:Nat) (a:HT)
 |r (th:zh) (a:HT)
structure aG where
 c:Nat
 E:aH
 G:List Row
 h:HT
structure Fr where
 F:aH
 H:List Row
 n:Nat
inductive XE where
 |nrm|ret
 |ext (i:Nat)
 |gto (l:Nat)
 |iY (v:AV)
 |panE (v:AV)
 |panL (v:AV)
def Y4:Bool->Bool->Bool
 |true,b=>b
 |false,b=> !b
theorem ajl:{a b:Bool}->Y4 a b=true->a=b
 |true,_,h=>h.symm
 |false,b,h=>by cases b <;> simp_all [Y4]
theorem anW:(a:Bool)->Y4 a a=true
 |true=>rfl
 |false=>rfl
def GK.eq:GK->GK->Bool
 |none,none=>true
 |some (j,p),some (k,q)=>Nat.beq j k&&Y4 p q
 |_,_=>false
theorem GK.eq_eq:{a b:GK}->a.eq b=true->a=b
 |none,none,_=>rfl
 |some (j,p),some (k,q),h=>by simp only [GK.eq,ar] at h;rw [aS h.1,ajl h.2]
abbrev aE:=List ((Nat×Bool)×GK×Nat×Bool)
def yG(p b:Bool):Bool:=match p with
 |true=>b
 |false=> !b
theorem Qh(p b:Bool):yG p b=(b==p):=by cases p <;> cases b <;> rfl
def aE.get:aE->GK->Bool
 |_,none=>true
 |[],some _=>false
 |(k,par,_,b)::T,some k'=>aC ( GK.eq (some k) (some k') ) ( (aE.get T par&&yG k.2 b) )<|aE.get T (some k')
@[simp] theorem aE.get_none {T : aE} : T.get none = true := by cases T <;> rfl
theorem aE.U0{k:Nat×Bool}{par:GK}{rj:Nat}{b:Bool}{T:aE}{x:GK}(h:(!(GK.eq (some k) x))=true):aE.get ((k,par,rj,b)::T) x=T.get x:=by
 cases x with
 |none=>simp
 |some a=>
  simp only [aE.get];cases hb:GK.eq (some k) (some a)
  .rfl
  .rw [hb] at h;cases h
theorem GK.ain:(k:Nat×Bool)->GK.eq (some k) (some k)=true:=λk=>by simp [GK.eq,anW]
theorem aE.apt{k:Nat×Bool}{par:GK}{rj:Nat}{b:Bool}{T:aE}:aE.get ((k,par,rj,b)::T) (some k)=(T.get par&&yG k.2 b):=by simp only [aE.get,GK.ain]
def vH(p:gV):zh:=match p.2.2 with
 |0=>[]
 |_+1=>eA (sl p)
section
variable {α : Type} {A : eD α} {e : TypeId} {M M' : Nat -> Prop} {w w' : World}
theorem bU.canon{p:gV}{xs:List α}(h:bU A e M w (sl p) xs R):(∀b∈vH p,b∈R)/\∀(M':Nat->Prop) (w':World),bU A e M' w' (sl p) xs R->bU A e M' w' (sl p) xs (vH p):=by
 obtain ⟨a,n,cap⟩:=p;cases cap with
 |zero=>
  refine ⟨λb hb=>(by cases hb),λM' w' d=>?_⟩;have hx:xs=[]:=by
   rcases d with ⟨_,d⟩|⟨_,d,_⟩
   .obtain ⟨cells,⟨_,j⟩,_⟩:=d;rcases j with ⟨_,k⟩|⟨g,o,c,cur,f,m,q,r⟩
    .exact c8 k
    .simp only [sl,Value.slice.injEq] at f;exact c8 (by omega)
   .exact d
  obtain ⟨l,s,hl⟩:=d.len;simp only [sl,Value.slice.injEq] at hl;have hn:n=0:=by rw [hl.2.1,hx];rfl
  subst hn;exact .inr ⟨rfl,hx,⟨a,rfl⟩,ca.emp⟩
 |succ c=>
  have key:∀(M':Nat->Prop) (w':World),bU A e M' w' (sl (a,n,c+1)) xs R->R=eA (sl (a,n,c+1)):=λM' w' d=>by
   rcases d with ⟨d,_⟩|⟨_,_,⟨l,d⟩,_⟩
   .exact d
   .simp only [sl,Value.slice.injEq] at d;omega
  have i:=key _ _ h;subst i;exact ⟨λb hb=>hb,λM' w' d=>d⟩
theorem bU.Eg{p:gV}{xs:List α}(h:bU A e M w (sl p) xs R):bU A e M w (sl p) xs (vH p):=h.canon.2 _ _ h
def oa(A:eD α)(e:TypeId)(p:gV)(l:List α)(q:Prop):Item where
 own:=vH p
 P M w:=bU A e M w (sl p) l (vH p)/\q
 lt h:=h.1.lt
 dm h m k _:=⟨h.1.dm k m,h.2⟩
 cW:=false
 hp h:=by cases h
def Pk(g:Bool)(A:eD α)(p:gV)(l:List α)(clip:Bool):Item where
 own:=[]
 P M w:=g=true->ca A M w (sl p) l/\(clip=true->p.2.2=l.length)
 lt _ b hb:=by cases hb
 dm h m _ _:=λhg=>⟨(h hg).1.mv m,(h hg).2⟩
 cW:=true
 hp _:=rfl
def ads(p:Prop):Item where
 own:=[]
 P _ _:=p
 lt _ b hb:=by cases hb
 dm h _ _ _:=h
 cW:=true
 hp _:=rfl
end
def HW:(t:Ty)->t.T->Value
 | .i k,x=> .int k x
 | .s,x=>S x
 | .bo,x=> .bool x
 | .p (.i a) (.i b),x=>Wz a b x
 |_,_=> .bool false
def Row.item(ρ:aB)(T:aE):Row->Item
 | .box id t vs=>Go.Proofs.YthhmkmmmbcjghaaGreatDoor.box (ρ id).b t (AV.ao ρ vs)
 | .sli g id t l b=>Pk (T.get g) t.rep (ρ id).v l b
 | .own id t e l ver=>oa t.rep e (ρ id).v l ((ρ ver).y=⟨.l t,l⟩)
 | .kn g q id ver t i x=>ads (T.get g=true->∃l:List t.T,(ρ ver).y=⟨.l t,l⟩/\idx l i=some x/\(ρ q).a=tu (Go.Proofs.YthhmkmmmbcjghaaGreatDoor.sl (ρ id).v) i t.rep.n)
 | .elm g id vs=>elem (T.get g) (ρ id).a (AV.ao ρ vs)
 | .mp id k v d=>omap (HW k) (HW v) (.map (ρ id).m) d
 | .it id s p=>iter (ρ id).b s p
 | .eq id v=>ads ((ρ id).x=v.val ρ)
 | .gone=>ads True
abbrev ab(ρ:aB)(T:aE)(G:List Row):Ctx:=G.map (Row.item ρ T)
def Row.low(c:Nat):Row->Bool
 | .box id _ vs=>Nat.blt id c&&AV.cr c vs
 | .sli _ id _ _ _|.mp id _ _ _|.it id _ _=>Nat.blt id c
 | .own id _ _ _ ver=>Nat.blt id c&&Nat.blt ver c
 | .kn _ q id ver _ _ _=>Nat.blt q c&&Nat.blt id c&&Nat.blt ver c
 | .elm _ id vs=>Nat.blt id c&&AV.cr c vs
 | .eq id v=>Nat.blt id c&&v.low c
 | .gone=>true
def bJ(c:Nat):List Row->Bool
 |[]=>true
 |r::G=>r.low c&&bJ c G
theorem Row.CI{ρ ρ':aB}{T:aE}{c:Nat}(a:aZ c ρ ρ'){r:Row}(h:r.low c=true):r.item ρ' T=r.item ρ T:=by
 cases r <;> simp only [Row.low,ar,hW] at h
 .simp only [Row.item];rw [a _ h.1,AV.cn a _ h.2]
 .simp only [Row.item];rw [a _ h]
 .simp only [Row.item];rw [a _ h.1,a _ h.2]
 .simp only [Row.item];rw [a _ h.1.1,a _ h.1.2,a _ h.2]
 .simp only [Row.item];rw [a _ h.1,AV.cn a _ h.2]
 .simp only [Row.item];rw [a _ h]
 .simp only [Row.item];rw [a _ h]
 .simp only [Row.item];rw [a _ h.1,AV.mA a _ h.2]
 .simp only [Row.item]
theorem bm{ρ ρ':aB}{T:aE}{c:Nat}(a:aZ c ρ ρ'):{G:List Row}->bJ c G=true->ab ρ' T G=ab ρ T G
 |[],_=>rfl
 |r::G,h=>by simp only [bJ,ar] at h;simp only [ab,et];rw [Row.CI a h.1];have:=bm (T:=T) a h.2;simp only [ab] at this;rw [this]
def aH.env(ρ:aB)(T:aE):aH->Env
 |[]=>[]
 |(t,g,v)::E=>(t,T.get g,v.val ρ)::aH.env ρ T E
def aH.low(c:Nat):aH->Bool
 |[]=>true
 |x::E=>x.2.2.low c&&aH.low c E
theorem sa{ρ ρ':aB}{T:aE}{c:Nat}(a:aZ c ρ ρ'):{E:aH}->E.low c=true->aH.env ρ' T E=aH.env ρ T E
 |[],_=>rfl
 |(t,g,v)::E,h=>by simp only [aH.low,ar] at h;simp only [aH.env];rw [AV.mA a v h.1,sa a h.2]
def aG.low(fr:Fr)(st:aG):Bool:=aH.low st.c st.E&&aH.low st.c fr.F&&bJ st.c st.G&&bJ st.c fr.H
def aB.set(ρ:aB)(j:Nat)(x:Nm):aB:=λi=>aC (Nat.beq i j) x (ρ i)
theorem aB.bM{ρ:aB}{j:Nat}{x:Nm}:ρ.set j x j=x:=by simp [aB.set]
theorem aB.bg{ρ:aB}{j:Nat}{x:Nm}:aZ j ρ (ρ.set j x):=λi hi=>by
 unfold aB.set;have:Nat.beq i j=false:=by
  cases hb:Nat.beq i j
  .rfl
  .exact absurd (aS hb) (Nat.ne_of_lt hi)
 rw [this]
def jX(E' E:Env):Prop:= ∀t p,look E' t=some p->look E t=some p
theorem jX.refl{E:Env}:jX E E:=λ_ _ h=>h
theorem jX.trans{A B C:Env}(h:jX A B)(k:jX B C):jX A C:=λt p hp=>k t p (h t p hp)
theorem Fits.nB{n:Nat}{E:Env}{a:Act}(h:Fits n E a)(c:jX E' E):Fits n E' a:=⟨h.size,λt g v b=>h.at_ t g v (c t _ b)⟩
theorem WC.nB{P:Program}{ρ:za}{c:Code}{Q:bD}{n:Nat}{D:x3}{E:Env}{w:World}(E':Env)(b:jX E' E)(h:WC P ρ c Q n D E' w):WC P ρ c Q n D E w:=
 λa d hd=>h a (d.nB b) hd
theorem At.nB{e:Exit}{Q:bD}{n:Nat}{D:x3}{E:Env}{w:World}(E':Env)(b:jX E' E)(h:At Q e n D E' w):At Q e n D E w:=
 λa c hd=>h a (c.nB b) hd
theorem HN{A B:Env}{t:Nat}:look (A++B) t=match look A t with
  |some p=>some p
  |none=>look B t:=by
 induction A with
 |nil=>rfl
 |cons x A ih=>
  obtain ⟨r,g,v⟩:=x;simp only [mj,look];cases Nat.beq r t
  .simp only [bd];exact ih
  .rfl
theorem oW{ρ:aB}{T:aE}:{E F:aH}->aH.env ρ T (E++F)=aH.env ρ T E++aH.env ρ T F
 |[],_=>rfl
 |(t,g,v)::E,F=>by simp only [mj,aH.env];rw [oW]
theorem bu{ρ:aB}{T:aE}{G H:List Row}:ab ρ T (G++H)=ab ρ T G++ab ρ T H:=wb
variable {a : Option α} {Φ : Ctx} {ρ : aB}
theorem aK{c:Bool}{r:α}(h:aC c a none=some r):c=true/\a=some r:=by
 cases c
 .cases h
 .exact ⟨rfl,h⟩
theorem Qy{c:Bool}{r:α}(h:aC c none a=some r):c=false/\a=some r:=by
 cases c
 .exact ⟨rfl,h⟩
 .cases h
theorem eb{c:Bool}{b:Option α}{r:α}(h:aC c a b=some r):(c=true/\a=some r)\/(c=false/\b=some r):=by
 cases c
 .exact .inr ⟨rfl,h⟩
 .exact .inl ⟨rfl,h⟩
def aE.imp:aE->GK->GK->Bool
 |_,_,none=>true
 |[],_,some _=>false
 |_,none,some _=>false
 |(k,par,_,_)::T,some g,some g'=>GK.eq (some g) (some g')||(aC ( GK.eq (some k) (some g) ) ( aE.imp T par (some g') )<|aE.imp T (some g) (some g'))&& !(GK.eq (some k) (some g'))
theorem aE.kZ:{T:aE}->{g g':GK}->T.imp g g'=true->T.get g=true->T.get g'=true
 |T,g,none,_,_=>by simp
 |[],g,some g',h,_=>by simp [aE.imp] at h
 |_::_,none,some g',h,_=>by simp [aE.imp] at h
 |(k,par,rj,b)::T,some g,some g',h,hg=>by
  simp only [aE.imp,dk,ar] at h;rcases h with h|⟨a,c⟩
  .rw [<-GK.eq_eq h];exact hg
  .rw [aE.U0 c];cases hb:GK.eq (some k) (some g)
   .rw [hb] at a;rw [aE.U0 (by rw [hb];rfl)] at hg;exact aE.kZ a hg
   .rw [hb] at a;simp only [aE.get,hb,ar] at hg;exact aE.kZ a hg.1
def bH:aH->Nat->Option (GK×AV)
 |[],_=>none
 |(r,g,v)::E,t=>aC ( Nat.beq r t ) ( some (g,v) )<|bH E t
def ew(E F:aH)(t:Nat):Option (GK×AV):=match bH E t with
 |some x=>some x
 |none=>bH F t
theorem uO{ρ:aB}{T:aE}{t:Nat}:{E:aH}->look (aH.env ρ T E) t=(bH E t).map λx=>(T.get x.1,x.2.val ρ)
 |[]=>rfl
 |(r,g',v')::E=>by
  simp only [bH,aH.env,look];cases hb:Nat.beq r t
  .simp only [bd];exact uO
  .rfl
abbrev az(ρ:aB)(T:aE)(E F:aH):Env:=aH.env ρ T E++aH.env ρ T F
theorem hZ{T:aE}{t:Nat}{E F:aH}:look (az ρ T E F) t=(ew E F t).map λx=>(T.get x.1,x.2.val ρ):=by rw [HN,uO,uO];unfold ew;cases bH E t <;> rfl
def kr:Value->AV
 | .int k x=> .int k x
 | .bool x=> .bool x
 | .string b=> .str b.data.toList
 |v=> .raw v
theorem ai4:(kr v).val ρ=v:=by cases v <;> simp [kr,AV.val,S]
theorem mH{ρ:aB}:{l:yp}->AV.ao ρ (l.map kr)=l
 |[]=>by simp [AV.ao]
 |v::l=>by simp only [et,AV.ao];rw [ai4,mH]
theorem asR{c:Nat}:(kr v).low c=true:=by cases v <;> simp [kr,AV.low]
theorem agM{c:Nat}:{l:yp}->AV.cr c (l.map kr)=true
 |[]=>by simp [AV.cr]
 |v::l=>by simp only [et,AV.cr];rw [asR,agM];rfl
def bE(T:aE)(E F:aH)(g:GK):Operand->Option AV
 | .tmp t=>match ew E F t with
  |some x=>aC ( T.imp g x.1 ) ( some x.2 )<|none
  |none=>none
 | .const v=>some (kr v)
 | .func f=>some (.fn f [] [])
 | .global f=>some (.gp f)
theorem aW{T:aE}{E F:aH}{g:GK}{v:AV}(h:bE T E F g x=some v):au (az ρ T E F) (T.get g) x (v.val ρ):=by
 cases x with
 |tmp t=>
  unfold bE at h;dsimp only at h;cases hl:ew E F t with
  |none=>rw [hl] at h;cases h
  |some x=>
   rw [hl] at h;obtain ⟨b,a⟩:=aK h;cases a;exact au.g (g':=T.get x.1) (by rw [hZ,hl];rfl) (aE.kZ b)
 |const u=>cases h;rw [ai4];exact au.c
 |func f=>cases h;simp only [AV.val,AV.ao];exact au.f
 |global f=>cases h;simp only [AV.val];exact au.gl
theorem bK{T:aE}{E F:aH}{v:AV}(h:bE T E F none x=some v):au (az ρ T E F) true x (v.val ρ):=by have:=aW (ρ:=ρ) h;rwa [aE.get_none] at this
def rW(T:aE)(E F:aH)(g:GK):x4->Option (List AV)
 |[]=>some []
 |x::l=>match bE T E F g x with
  |some v=>match rW T E F g l with
   |some vs=>some (v::vs)
   |none=>none
  |none=>none
theorem gW{ρ:aB}{T:aE}{E F:aH}{g:GK}:{xs:x4}->{vs:List AV}->rW T E F g xs=some vs->iM (az ρ T E F) (T.get g) xs (AV.ao ρ vs)
 |[],vs,h=>by cases h;simp only [AV.ao];exact .nil
 |x::l,vs,h=>by
  unfold rW at h;split at h
  .rename_i v b;split at h
   next us a=>cases h;simp only [AV.ao];exact .cons (aW b) (gW a)
   .cases h
  .cases h
def ob(p:Row->Bool):List Row->Option (Nat×Row)
 |[]=>none
 |r::G=>aC ( p r ) ( some (0,r) )<|match ob p G with
  |some x=>some (x.1+1,x.2)
  |none=>none
theorem mY{p:Row->Bool}:{G:List Row}->{i:Nat}->{r:Row}->ob p G=some (i,r)->G[i]? =some r/\p r=true
 |[],_,_,h=>by cases h
 |r0::G,i,r,h=>by
  unfold ob at h;rcases eb h with ⟨b,a⟩|⟨b,a⟩
  .cases a;exact ⟨rfl,b⟩
  .split at a
   next x hx=>cases a;obtain ⟨d,c⟩:=mY (i:=x.1) (r:=x.2) hx;exact ⟨by simpa using d,c⟩
   .cases a
def nI(id:Nat):Row->Bool
 | .sli _ j _ _ _|.own j _ _ _ _=>Nat.beq j id
 |_=>false
def Ar(id:Nat):Row->Bool
 | .box j _ _=>Nat.beq j id
 |_=>false
def akj(id:Nat):Row->Bool
 | .mp j _ _ _=>Nat.beq j id
 |_=>false
def atm(id:Nat):Row->Bool
 | .it j _ _=>Nat.beq j id
 |_=>false
def isEq(id:Nat):Row->Bool
 | .eq j _=>Nat.beq j id
 |_=>false
def VL(q:Nat):Row->Bool
 | .kn _ j _ _ _ _ _=>Nat.beq j q
 |_=>false
def auE(id:Nat):Row->Bool
 | .elm _ j _=>Nat.beq j id
 |_=>false
def Row.id:Row->Nat
 | .box j _ _|.sli _ j _ _ _|.own j _ _ _ _|.mp j _ _ _|.it j _ _|.eq j _|.elm _ j _|.kn _ j _ _ _ _ _=>j
 | .gone=>0
def Row.cW:Row->Bool
 | .sli ..|.elm ..|.eq ..|.kn ..|.gone=>true
 |_=>false
theorem Row.anM{T:aE}{r:Row}(h:r.cW=true):(r.item ρ T).cW=true:=by cases r <;> first|rfl|cases h
theorem gw{T:aE}{G:List Row}{i:Nat}{r:Row}(h:G[i]? =some r):(ab ρ T G++Φ)[i]? =some (r.item ρ T):=by have hl:i<G.length:=(List.getElem?_eq_some_iff.1 h).1;rw [cG (by simpa [ab] using hl)];simp [ab,h]
theorem abq{T:aE}{G H:List Row}{i:Nat}{r:Row}(h:H[i]? =some r):(ab ρ T G++(ab ρ T H++Φ))[G.length+i]? =some (r.item ρ T):=by
 rw [cy (by simp [ab])];have:G.length+i-(ab ρ T G).length=i:=by simp [ab]
 rw [this];exact gw h
inductive Src where
 |top (i:Nat)
 |cJ (i:Nat)
 |nilI (t:Ty)
 |nilO (t:Ty) (e:TypeId)
 |nilM (k v:Ty)
def eI(G H:List Row)(p:Row->Bool):Option (Src×Row):=match ob p G with
 |some x=>some (.top x.1,x.2)
 |none=>match ob p H with
  |some x=>some (.cJ x.1,x.2)
  |none=>none
def Src.at_(G H:List Row):Src->Row->Prop
 | .top i,r=>G[i]? =some r
 | .cJ i,r=>H[i]? =some r
 |_,_=>False
theorem cp{p:Row->Bool}{G H:List Row}{s:Src}{r:Row}(h:eI G H p=some (s,r)):s.at_ G H r/\p r=true:=by
 unfold eI at h;split at h
 next x hx=>cases h;exact mY hx
 .split at h
  next x hx=>cases h;exact mY hx
  .cases h
theorem Src.item{T:aE}{G H:List Row}{s:Src}{r:Row}(h:s.at_ G H r):∃i:Nat,(ab ρ T G++(ab ρ T H++Φ))[i]? =some (r.item ρ T):=by
 cases s with
 |top i=>exact ⟨i,gw h⟩
 |cJ i=>exact ⟨G.length+i,abq h⟩
 |nilI=>exact h.elim
 |nilO=>exact h.elim
 |nilM=>exact h.elim
theorem Src.holds{T:aE}{G H:List Row}{s:Src}{r:Row}(a:Sat (ab ρ T G++(ab ρ T H++Φ)) w)(h:s.at_ G H r):(r.item ρ T).P (Ctx.M (ab ρ T G++(ab ρ T H++Φ))) w:=by obtain ⟨i,hi⟩:=Src.item (ρ:=ρ) (T:=T) (Φ:=Φ) h;exact a.at_ hi
def uL(n:Nat):zh->Bool
 |[]=>false
 |m::l=>Nat.beq n m||uL n l
theorem agq{n:Nat}:{l:zh}->(uL n l=true↔n∈l)
 |[]=>by simp [uL]
 |m::l=>by simp only [uL,dk,qi];rw [agq,Nat.beq_eq]
variable {cv : x6 × AV}
structure Inl where
 f:FuncId
 run:{R:Type}->List AV->List Row->aG->(AV->aG->Option R)->Option R
def Inl.Ok(P:Program)(i:Inl):Prop:=Enters P i.f/\∀{R:Type} (r:R) (args:List AV) (H:List Row) (st:aG) (K:AV->aG->Option R) (ρ:aB) (Φ:Ctx) (w:World),Sat (ab ρ [] st.G++(ab ρ [] H++Φ)) w->
 i.run args H st K=some r->gE P i.f (AV.ao ρ args) w λv w'=>∃(ρ':aB) (st':aG) (av:AV),K av st'=some r/\aZ st.c ρ ρ'/\st.c<=st'.c/\av.val ρ'=v/\Sat (ab ρ' [] st'.G++(ab ρ' [] H++Φ)) w'
structure Cx where
 P:Program
 tys:List (TypeId×Ty)
 gls:List (Nat×Nat×cD)
 ids:List FuncId
 idsOk:∀f,f∈ids->ao7 P f
 fl:Nat
 ks:List TypeId
 inl:List Inl
 inlOk:∀i,i∈inl->i.Ok P
 oc:List (Nat×Nat):=[]
def CQ{α:Type}:List (Nat×α)->Nat->Option α
 |[],_=>none
 |x::l,n=>aC ( Nat.beq x.1 n ) ( some x.2 )<|CQ l n
def L7{ρ:Type}(c:x6)(g:x6)(k:Option ρ):Option ρ:=match c with
 |none=>k
 |some c=>match g with
  |none=>aM c k
  |some g=>xh g c k
theorem sx{ρ:Type}{T:aE}{c:x6}{g:GK}{k:Option ρ}{r:ρ}(h:L7 c (g.map λ_=>T.get g) k=some r):(∀b,c=some b->T.get g=true->b=true)/\k=some r:=by
 unfold L7 at h;split at h
 .exact ⟨λb hb=>(by cases hb),h⟩
 .split at h
  next a=>obtain ⟨e,d⟩:=gz h;exact ⟨λb hb _=>(by cases hb;exact e),d⟩
  .rename_i g' a;cases g with
   |none=>cases a
   |some i=>
    simp only [lk,cC] at a;subst a;obtain ⟨e,d⟩:=amK h;exact ⟨λb hb f=>(by cases hb;exact e f),d⟩
abbrev CV:=Option (x6×AV)
def pv(v:AV):CV:=some (none,v)
def gG(a b:IntKind):Bool:=decide (a=b)
theorem iE{a b:IntKind}(h:gG a b=true):a=b:=by simpa [gG] using h
def aj2(k k':IntKind)(m l:Int):BinOp->CV
 | .add=>aC ( gG k k' ) ( pv (.int k (k.wrap (m+l))) ) none
 | .sub=>aC ( gG k k' ) ( pv (.int k (k.wrap (m-l))) ) none
 | .mul=>aC ( gG k k' ) ( pv (.int k (k.wrap (m*l))) ) none
 | .quo=>aC ( gG k k' ) ( some (some (l != 0),.int k (k.wrap (m.tdiv l))) ) none
 | .rem=>aC ( gG k k' ) ( some (some (l != 0),.int k (m.tmod l)) ) none
 | .eql=>aC ( gG k k' ) ( pv (.bool (m==l)) ) none
 | .neq=>aC ( gG k k' ) ( pv (.bool (m != l)) ) none
 | .lss=>aC ( gG k k' ) ( pv (.bool (decide (m<l))) ) none
 | .leq=>aC ( gG k k' ) ( pv (.bool (decide (m<=l))) ) none
 | .gtr=>aC ( gG k k' ) ( pv (.bool (decide (l<m))) ) none
 | .geq=>aC ( gG k k' ) ( pv (.bool (decide (l<=m))) ) none
 | .shr=>some (some (decide (0<=l)),.int k (pD k m l))
 | .shl=>some (some (decide (0<=l)),.int k (cu k m l))
 | .and=>aC ( gG k k' ) ( pv (.int k (tN k m l)) ) none
 | .or=>aC ( gG k k' ) ( pv (.int k (fe k m l)) ) none
 | .xor=>aC ( gG k k' ) ( pv (.int k (aaD k m l)) ) none
 | .andNot=>aC ( gG k k' ) ( pv (.int k (bS k m l)) ) none
def ak9(m l:aD):BinOp->CV
 | .eql=>pv (.bool (m==l))
 | .neq=>pv (.bool (m != l))
 | .add=>some (some (atZ m l),.str (m++l))
 | .lss=>pv (.bool (Mp m l))
 | .leq=>pv (.bool (Mp m l||m==l))
 | .gtr=>pv (.bool (!(Mp m l||m==l)))
 | .geq=>pv (.bool (!(Mp m l)))
 |_=>none
def anP(m l:Bool):BinOp->CV
 | .eql=>pv (.bool (m==l))
 | .neq=>pv (.bool (m != l))
 |_=>none
def tyK(P:Program)(t:TypeId):Option IntKind:=match P.underlying t with
 |some (.int k)=>some k
 |_=>none
theorem JM{P:Program}{t:TypeId}{k:IntKind}(h:tyK P t=some k):P.underlying t=some (.int k):=by
 unfold tyK at h;split at h
 next a hk=>cases h;exact hk
 .cases h
def isStr(P:Program)(t:TypeId):Bool:=match P.underlying t with
 |some .string=>true
 |_=>false
theorem rY{P:Program}{t:TypeId}(h:isStr P t=true):P.underlying t=some .string:=by
 unfold isStr at h;split at h
 .assumption
 .cases h
def isBool(P:Program)(t:TypeId):Bool:=match P.underlying t with
 |some .bool=>true
 |_=>false
theorem abG{P:Program}{t:TypeId}(h:isBool P t=true):P.underlying t=some .bool:=by
 unfold isBool at h;split at h
 .assumption
 .cases h
def apT(P:Program)(t:TypeId):Bool:=match P.underlying t with
 |some _=>true
 |none=>false
theorem aud{P:Program}{t:TypeId}(h:apT P t=true):∃d,P.underlying t=some d:=by
 unfold apT at h;split at h
 next d hd=>exact ⟨d,hd⟩
 .cases h
def alv(P:Program)(t:TypeId)(op:BinOp):AV->AV->CV
 | .int k m,.int k' l=>aj2 k k' m l op
 | .str m,.str l=>ak9 m l op
 | .bool m,.bool l=>aC ( isBool P t ) ( anP m l op ) none
 |_,_=>none
def apk:UnOp->AV->CV
 | .not,.bool b=>pv (.bool (!b))
 | .neg,.int k m=>pv (.int k (k.wrap (0-m)))
 |_,_=>none
def aq4:AV->Bool
 | .ptr _ _|.adr _ _|.fn _ _ _=>true
 |_=>false
def nO(P:Program)(Ev:Env)(ρ:aB)(g:Bool)(o:Oper)(w:World)(cv:x6×AV):Prop:=
 (∀b,cv.1=some b->g=true->b=true)->bq P Ev g o w (cv.2.val ρ)
section
variable {P : Program} {ρ : aB} {g : Bool} {w : World} {dst : zb} {ty : TypeId} {pos : String} {af : zd} {gd : xa} {Ev : Env}
theorem nO.pv{o:Oper}{v:AV}(h:pv v=some cv)(a:bq P Ev g o w (v.val ρ)):nO P Ev ρ g o w cv:=by cases h;exact λ_=>a
theorem am1{t:TypeId}{op:BinOp}{k f:IntKind}{m l:Int}(hx:au Ev g x (.int k m))(c:au Ev g y (.int f l))(h:aj2 k f m l op=some cv):
  nO P Ev ρ g ⟨dst,.binOp op t x y t',ty,pos,af,gd⟩ w cv:=by
 have key:∀{a:CV},aC (gG k f) a none=some cv->k=f/\a=some cv:=λh=>⟨iE (aK h).1,(aK h).2⟩;cases op <;> simp only [aj2] at h
 case shr=>cases h;exact λe=>asM hx c (λd=>e _ rfl d)
 case shl=>cases h;exact λe=>ar3 hx c (λd=>e _ rfl d)
 case quo=>
  obtain ⟨rfl,b⟩:=key h;cases b;exact λe n a i d=>asQ hx c (by have:=e _ rfl d;simpa using this) n a i d
 case rem=>
  obtain ⟨rfl,b⟩:=key h;cases b;exact λe n a i d=>asD hx c (by have:=e _ rfl d;simpa using this) n a i d
 case add=>obtain ⟨rfl,b⟩:=key h;exact .pv b (vC hx c)
 case sub=>obtain ⟨rfl,b⟩:=key h;exact .pv b (aiF hx c)
 case mul=>obtain ⟨rfl,b⟩:=key h;exact .pv b (ar6 hx c)
 case eql=>obtain ⟨rfl,b⟩:=key h;exact .pv b (vT hx c)
 case neq=>obtain ⟨rfl,b⟩:=key h;exact .pv b (asP hx c)
 case lss=>obtain ⟨rfl,b⟩:=key h;exact .pv b (aiU hx c)
 case leq=>obtain ⟨rfl,b⟩:=key h;exact .pv b (aru hx c)
 case gtr=>obtain ⟨rfl,b⟩:=key h;exact .pv b (Zr hx c)
 case geq=>obtain ⟨rfl,b⟩:=key h;exact .pv b (ar0 hx c)
 case and=>obtain ⟨rfl,b⟩:=key h;exact .pv b (apf hx c)
 case or=>obtain ⟨rfl,b⟩:=key h;exact .pv b (arA hx c)
 case xor=>obtain ⟨rfl,b⟩:=key h;exact .pv b (aof hx c)
 case andNot=>obtain ⟨rfl,b⟩:=key h;exact .pv b (ahd hx c)
theorem alV{t:TypeId}{op:BinOp}{m l:aD}(hx:au Ev g x (S m))(a:au Ev g y (S l))(h:ak9 m l op=some cv):
  nO P Ev ρ g ⟨dst,.binOp op t x y t',ty,pos,af,gd⟩ w cv:=by
 unfold ak9 at h;split at h
 .exact .pv h (asa hx a)
 .exact .pv h (arD hx a)
 .cases h;exact λc=>asK hx a (λb=>c _ rfl b)
 .exact .pv h (asz hx a)
 .exact .pv h (arH hx a)
 .exact .pv h (asx hx a)
 .exact .pv h (asc hx a)
 .cases h
theorem anb{t:TypeId}{op:BinOp}{a b:AV}(hx:au Ev g x (a.val ρ))(c:au Ev g y (b.val ρ))(h:alv P t op a b=some cv):
  nO P Ev ρ g ⟨dst,.binOp op t x y t',ty,pos,af,gd⟩ w cv:=by
 unfold alv at h;split at h
 .simp only [AV.val] at hx c;exact am1 hx c h
 .simp only [AV.val] at hx c;exact alV hx c h
 .simp only [AV.val] at hx c;obtain ⟨e,d⟩:=aK h;unfold anP at d;split at d
  .exact .pv d (asm (abG e) hx c)
  .exact .pv d (asb (abG e) hx c)
  .cases d
 .cases h
theorem an7{t:TypeId}{op:UnOp}{u:AV}(hx:au Ev g x (u.val ρ))(h:apk op u=some cv):
  nO P Ev ρ g ⟨dst,.unOp op t x,ty,pos,af,gd⟩ w cv:=by
 unfold apk at h;split at h
 .simp only [AV.val] at hx;exact .pv h (adT hx)
 .simp only [AV.val] at hx;exact .pv h (asI hx)
 .cases h
theorem ant{v:AV}(hx:au Ev g x (v.val ρ))(h:aq4 v=true):bq P Ev g ⟨dst,.nilCheck x,ty,pos,af,gd⟩ w (v.val ρ):=by
 cases v with
 |ptr id off=>simp only [AV.val] at hx ⊢; exact agd hx
 |adr id off=>simp only [AV.val] at hx ⊢; exact agd hx
 |fn f a b=>simp only [AV.val] at hx ⊢; exact apa hx
 |_=>cases h
end
def lJ(P:Program)(t:TypeId):Option (Nat×Nat×Value):=match P.info? t with
 |some i=>match i.zero with
  |some z=>some (i.size,i.bytes,z)
  |none=>none
 |none=>none
theorem cU{P:Program}{t:TypeId}{n bytes:Nat}(h:lJ P t=some (n,bytes,z)):TI P t n bytes z:=by
 unfold lJ at h;split at h
 .rename_i i hi;split at h
  next b a=>cases h;simp [TI,hi,a]
  .cases h
 .cases h
def akx(P:Program)(t:TypeId)(k:Nat):Option (TypeId×Nat×Nat):=match P.underlying t with
 |some (.struct fs)=>match fs.toList[k]? with
  |some f=>match P.info? f.type with
   |some i=>some (f.type,f.offset,i.size)
   |none=>none
  |none=>none
 |_=>none
theorem aiO{P:Program}{t ft:TypeId}{k off n:Nat}(h:akx P t k=some (ft,off,n)):∃a f i,P.underlying t=some (.struct a)/\a[k]? =some f/\f.type=ft/\f.offset=off/\P.info? ft=some i/\i.size=n:=by
 unfold akx at h;split at h
 .rename_i a b;split at h
  .rename_i f c;split at h
   next i hi=>cases h;exact ⟨a,f,i,b,by simpa using c,rfl,rfl,hi,rfl⟩
   .cases h
  .cases h
 .cases h
def lQ(P:Program)(t:TypeId)(cs:List AV):Option AV:=match P.underlying t with
 |some d=>aC ( kJ d ) ( (match lJ P t with
   |some x=>aC ( Nat.ble x.1 cs.length ) ( some (.agg (cs.take x.1)) )<|none
   |none=>none)
  )<|cs.head?
 |none=>none
def dC:AV->List AV
 | .agg l=>l
 | .raw v=>v.cells.toList.map kr
 |v=>[v]
def PQ:AV->Bool
 | .nv _=>false
 |_=>true
theorem AP{ρ:aB}{v:AV}(h:PQ v=true):(v.val ρ).cells=(AV.ao ρ (dC v)).toArray:=by
 cases v <;> simp only [dC,AV.val,AV.ao] <;> try rfl
 .cases h
 .rw [mH]
def wa(vs:List AV)(k:Nat)(us:List AV):List AV:=vs.take k++us++vs.drop (k+us.length)
theorem AH{ρ:aB}{vs us:List AV}{k:Nat}:pj (AV.ao ρ vs) k (AV.ao ρ us)=AV.ao ρ (wa vs k us):=by simp only [pj,wa,dJ,AV.kP,AV.iK,AV.bw]
def Cy(place:Nat->Option (Nat×Nat)):List (Nat×AV)->List AV->Option (List AV)
 |[],cs=>some cs
 |(i,v)::l,cs=>match place i with
  |some (off,n)=>aC ( PQ v&&(Nat.beq (dC v).length n&&Nat.ble (off+n) cs.length) ) ( Cy place l (wa cs off (dC v)) )<|none
  |none=>none
theorem abn{off:Nat}:∀(us:yp) (k:Nat) (cs:yp),off+k+us.length<=cs.length->
  (us.zipIdx k).foldl (λcs (x:Value×Nat)=>cs.setIfInBounds (off+x.2) x.1) cs.toArray=(pj cs (off+k) us).toArray
 |[],k,cs,_=>by simp [pj]
 |u::us,k,cs,h=>by
  simp only [c9] at h;simp only [List.zipIdx_cons,List.foldl_cons,List.setIfInBounds_toArray];rw [abn us (k+1) (cs.set (off+k) u) (by rw [v7];omega)];congr 1;simp only [pj];have a:off+k<cs.length:=by omega
  have c:(cs.set (off+k) u).take (off+(k+1))=cs.take (off+k)++[u]:=by rw [show off+(k+1)=(off+k)+1 from rfl,List.take_add_one,qL a,List.take_set_of_le (ch _)];rfl
  have b:(cs.set (off+k) u).drop (off+(k+1)+us.length)=cs.drop (off+k+(u::us).length):=by rw [List.drop_set_of_lt (by omega)];congr 1;simp only [c9];omega
  rw [c,b];simp
theorem yX{ρ:aB}{a:Nat->Option (Nat×Nat)}:{ps:List (Nat×AV)}->{cs b:List AV}->Cy a ps cs=some b->
  Instr.fill a (AV.ao ρ cs).toArray (ps.map λp=>(p.1,p.2.val ρ))=some (AV.ao ρ b).toArray
 |[],cs,b,h=>by cases h;rfl
 |(i,v)::l,cs,b,h=>by
  unfold Cy at h;split at h
  .rename_i off n hp;obtain ⟨d,g⟩:=aK h;simp only [ar,Nat.ble_eq] at d;obtain ⟨f,c,k⟩:=d;have c:=aS c;have ih:=yX (ρ:=ρ) g;simp only [et];unfold Instr.fill;simp only [hp];have e:=AP (ρ:=ρ) f;have j:¬(((v.val ρ).cells.size≠n||decide (off+(v.val ρ).cells.size>(AV.ao ρ cs).toArray.size))=true):=by rw [e];simp only [n9,AV.bw,c];simp;omega
   rw [n7 j,e];have:=abn (off:=off) (AV.ao ρ (dC v)) 0 (AV.ao ρ cs) (by rw [AV.bw,AV.bw];omega);simp only [qn] at this;rw [show (AV.ao ρ (dC v)).toArray.zipIdx=((AV.ao ρ (dC v)).zipIdx 0).toArray from by simp,List.foldl_toArray,this,AH];exact ih
  .cases h
def wz{α β:Type}(f:α->Option β):List α->Option (List β)
 |[]=>some []
 |x::l=>match f x with
  |some y=>match wz f l with
   |some ys=>some (y::ys)
   |none=>none
  |none=>none
theorem abI{P:Program}{w:World}{α β:Type}{f:α->Sem β}{g:α->Option β}(a:∀x y,g x=some y->(f x).run P w= .ok y w):∀{l:List α} {ys:List β},wz g l=some ys->(l.mapM f).run P w= .ok ys w
 |[],ys,h=>by cases h;simp
 |x::l,ys,h=>by
  unfold wz at h;split at h
  .rename_i y c;split at h
   next zs b=>cases h;rw [List.mapM_cons,Sem.run_bind,a x y c,Result.andThen_ok,Sem.run_bind,abI a b,Result.andThen_ok,Sem.run_pure]
   .cases h
  .cases h
theorem Xn{P:Program}{w:World}{β:Type}{f:α->Sem β}{g:α->Option β}(a:∀x y,g x=some y->(f x).run P w= .ok y w){l:Array α}{ys:List β}(h:wz g l.toList=some ys):(l.mapM f).run P w= .ok ys.toArray w:=by rw [Array.mapM_eq_mapM_toList,Sem.run_map,abI a h];rfl
def aet(P:Program)(f:Field):Option (Nat×Nat):=match P.info? f.type with
 |some i=>some (f.offset,i.size)
 |none=>none
def aea(P:Program)(t:TypeId)(ps:List (Nat×AV)):Option (List AV):=match lJ P t with
 |some z=>(match P.underlying t with
  |some (.struct fs)=>(match wz (aet P) fs.toList with
   |some pl=>Cy (λi=>pl[i]?) ps (z.2.2.cells.toList.map kr)
   |none=>none)
  |some (.array _ e)=>(match P.info? e with
   |some i=>Cy (λk=>some (k*i.size,i.size)) ps (z.2.2.cells.toList.map kr)
   |none=>none)
  |_=>none)
 |none=>none
theorem amQ{P:Program}{t:TypeId}{ρ:aB}{w:World}{ps:List (Nat×AV)}{cs:List AV}(h:aea P t ps=some cs):
  (Instr.build t (ps.map λp=>(p.1,p.2.val ρ)).toArray).run P w= .ok (.agg (AV.ao ρ cs).toArray) w:=by
 unfold aea at h;split at h
 .rename_i z m;obtain ⟨size,bytes,z⟩:=z;have j:=cU m;have d:=j.zero w;unfold Instr.build;simp only [Sem.run_bind,d,Result.andThen_ok];split at h
  .rename_i o a;simp only [run_underlying a,Result.andThen_ok];split at h
   .rename_i pl l;have n:(o.mapM λf=>do pure (f.offset,<-sizeOf f.type):Sem (Array (Nat×Nat))).run P w= .ok pl.toArray w:=Xn (g:=aet P) (λf y c=>by
     unfold aet at c;split at c
     next i hi=>cases c;simp [sizeOf,typeInfo,hi]
     .cases c) l
    have b:=yX (ρ:=ρ) h;rw [mH] at b;simp only [Sem.run_bind,n,Result.andThen_ok];have e:(λ(x:Nat)=>pl.toArray[x]?)=λi=>pl[i]? :=by funext i;simp
    rw [e];simp only [Array.toArray_toList] at b;rw [b];rfl
   .cases h
  .rename_i k e a;simp only [run_underlying a,Result.andThen_ok];split at h
   next i hi=>have b:=yX (ρ:=ρ) h;rw [mH] at b;simp only [Array.toArray_toList] at b;simp only [Sem.run_bind,sizeOf,typeInfo,run_program,hi,Result.andThen_ok,Sem.run_pure];rw [b];rfl
   .cases h
  .cases h
 .cases h
theorem Eu{ρ:aB}:∀(a:zh) (vs:List AV),(a.zip vs).map (λp=>(p.1,p.2.val ρ))=a.zip (AV.ao ρ vs)
 |[],_=>by simp
 |_::_,[]=>by simp [AV.ao]
 |i::a,v::vs=>by simp only [List.zip_cons_cons,et,AV.ao];rw [Eu]
def fJ(T:aE)(E F:aH):Prop:= ∀x,x∈T->ew E F x.2.2.1=some (x.2.1,.bool x.2.2.2)/\T.get (some x.1)=(T.get x.2.1&&yG x.1.2 x.2.2.2)
def keyOf(r:Nat)(pol:Bool):aE->Option ((Nat×Bool)×GK×Nat×Bool)
 |[]=>none
 |x::T=>aC ( Nat.beq x.2.2.1 r&&Y4 x.1.2 pol ) ( some x )<|keyOf r pol T
theorem agj{r:Nat}{a:Bool}:{T:aE}->{x:(Nat×Bool)×GK×Nat×Bool}->keyOf r a T=some x->x∈T/\x.2.2.1=r/\x.1.2=a
 |[],x,h=>by cases h
 |y::T,x,h=>by
  unfold keyOf at h;rcases eb h with ⟨c,b⟩|⟨_,b⟩
  .cases b;simp only [ar] at c;exact ⟨cz .., aS c.1,ajl c.2⟩
  .obtain ⟨e,d⟩:=agj b;exact ⟨cb _ e,d⟩
def aqJ(T:aE)(E F:aH)(g:GK)(c x:Operand):Option (Bool×Bool):=match bE T E F g x with
 |some (.bool y)=>(match bE T E F g c with
  |some (.bool b)=>some (b,y)
  |_=>none)
 |_=>none
def arf(T:aE)(E F:aH)(g:GK)(pol:Bool)(c x:Operand):Option (Bool×Bool):=match c with
 | .tmp r=>(match keyOf r pol T with
  |some k=>aC ( T.imp g k.2.1 ) ( match bE T E F (some k.1) x with
    |some (.bool y)=>some (k.2.2.2,y)
    |_=>none
   ) none
  |none=>none)
 |_=>none
def ac7(T:aE)(E F:aH)(g:GK)(pol:Bool)(c x:Operand):Option (Bool×Bool):=match aqJ T E F g c x with
 |some y=>some y
 |none=>arf T E F g pol c x
theorem ad9{ρ:aB}{T:aE}{E F:aH}{g:GK}{i b y:Bool}{c:Operand}(D:fJ T E F)(h:ac7 T E F g i c x=some (b,y)):
  au (az ρ T E F) (T.get g) c (.bool b)/\au (az ρ T E F) (T.get g&&yG i b) x (.bool y):=by
 have f:∀{p q:Bool} {u:Value},au (az ρ T E F) p x u->au (az ρ T E F) (p&&q) x u:=λh n a m j=>h n a m (ar _ _▸j).1;unfold ac7 at h;split at h
 .rename_i z d;cases h;unfold aqJ at d;split at d
  .rename_i t hx;split at d
   next G C=>cases d;have l:=aW (ρ:=ρ) hx;have e:=aW (ρ:=ρ) C;simp only [AV.val] at l e;exact ⟨e,f l⟩
   .cases d
  .cases d
 .unfold arf at h;split at h
  .rename_i r;split at h
   .rename_i k hk;obtain ⟨l,e⟩:=aK h;split at e
    next t hx=>cases e;obtain ⟨B,A,w⟩:=agj hk;obtain ⟨o,v⟩:=D _ B;have s:=aW (ρ:=ρ) hx;simp only [AV.val] at s;rw [A] at o;refine ⟨au.g (g':=T.get k.2.1) (by rw [hZ,o];simp [AV.val]) (aE.kZ l),λn a m j=>s n a m ?_⟩;rw [v,w];simp only [ar] at j ⊢;exact ⟨aE.kZ l j.1,j.2⟩
    .cases e
   .cases h
  .cases h
def isF:Operand->Bool
 | .const (.bool b)=> !b
 |_=>false
def apN:Operand->Bool
 | .const (.bool b)=>b
 |_=>false
theorem aty(h:isF x=true):x= .const (.bool false):=by
 unfold isF at h;split at h
 .rename_i b;cases b
  .rfl
  .cases h
 .cases h
theorem arG(h:apN x=true):x= .const (.bool true):=by
 unfold apN at h;split at h
 .rename_i b;cases b
  .cases h
  .rfl
 .cases h
def Qc(P:Program)(t:TypeId):Bool:=match P.underlying t with
 |some d=> !(ig d)
 |none=>false
theorem YE{P:Program}{t:TypeId}(h:Qc P t=true):∃d,P.underlying t=some d/\ig d=false:=by
 unfold Qc at h;split at h
 next d hd=>exact ⟨d,hd,by simpa using h⟩
 .cases h
def loA(T:aE)(E F:aH)(g:GK):Option Operand->y2
 |none=>some 0
 |some y=>match bE T E F g y with
  |some (.int _ i)=>some i
  |_=>none
def hiA(T:aE)(E F:aH)(g:GK):Option Operand->Option y2
 |none=>some none
 |some y=>match bE T E F g y with
  |some (.int _ i)=>some (some i)
  |_=>none
theorem NZ{ρ:aB}{T:aE}{E F:aH}{g:GK}{lo:Option Operand}{i:Int}(h:loA T E F g lo=some i):(match (motive:=Option Operand->Prop) lo with|none=>i=0|some y=>∃k,au (az ρ T E F) (T.get g) y (.int k i)):=by
 cases lo with
 |none=>cases h;rfl
 |some y=>
  unfold loA at h;dsimp only at h;split at h
  next k j a=>cases h;have:=aW (ρ:=ρ) a;simp only [AV.val] at this;exact ⟨k,this⟩
  .cases h
theorem W6{ρ:aB}{T:aE}{E F:aH}{g:GK}{hi:Option Operand}{j:y2}{len:Nat}(h:hiA T E F g hi=some j):(match (motive:=Option Operand->Prop) hi with|none=>(j.getD (len:Int))=(len:Int)|some y=>∃k,au (az ρ T E F) (T.get g) y (.int k (j.getD (len:Int)))):=by
 cases hi with
 |none=>cases h;rfl
 |some y=>
  unfold hiA at h;dsimp only at h;split at h
  next k j a=>cases h;have:=aW (ρ:=ρ) a;simp only [AV.val] at this;exact ⟨k,this⟩
  .cases h
def ae7(X:Cx)(T:aE)(E F:aH)(g:GK)(c:Callee)(xs:x4)(ts:List TypeId):CV:=match c,xs,ts with
 | .builtin .len,[x],[t]=>aC ( isStr X.P t ) ( (match bE T E F g x with
   |some (.str l)=>pv (.int .i64 (l.length:Int))
   |_=>none)
  ) none
 | .builtin .max,[x,y],[_,_]=>(match bE T E F g x,bE T E F g y with
  |some (.int k m),some (.int k' l)=>aC ( gG k k' ) ( pv (.int k (max m l)) ) none
  |_,_=>none)
 | .builtin .min,[x,y],[_,_]=>(match bE T E F g x,bE T E F g y with
  |some (.int k m),some (.int k' l)=>aC ( gG k k' ) ( pv (.int k (min m l)) ) none
  |_,_=>none)
 |_,_,_=>none
def aod(X:Cx)(T:aE)(E F:aH)(g:GK):Op->CV
 | .move x=>(match bE T E F g x with
  |some v=>pv v
  |none=>none)
 | .assign x=>(match bE T E F g x with
  |some v=>pv v
  |none=>none)
 | .pick c a b=>aC ( isF b ) ( (match ac7 T E F g true c a with
   |some y=>pv (.bool (y.1&&y.2))
   |none=>none)
  )<|aC ( apN a ) ( (match ac7 T E F g false c b with
   |some y=>pv (.bool (y.1||y.2))
   |none=>none)
  ) none
 | .nilCheck x=>(match bE T E F g x with
  |some v=>aC ( aq4 v ) ( pv v ) none
  |none=>none)
 | .extract x i=>(match bE T E F g x with
  |some (.tuple l)=>(match l[i]? with
   |some v=>pv v
   |none=>none)
  |_=>none)
 | .unOp op _ x=>(match bE T E F g x with
  |some v=>apk op v
  |none=>none)
 | .binOp op t x y _=>(match bE T E F g x with
  |some u=>(match bE T E F g y with
   |some v=>alv X.P t op u v
   |none=>none)
  |none=>none)
 | .convert s d x=>(match bE T E F g x with
  |some (.int _ m)=>aC ( apT X.P s ) (match tyK X.P d with
   |some k=>pv (.int k (k.wrap m))
   |none=>none) none
  |_=>none)
 | .index t x y=>aC ( isStr X.P t ) ( (match bE T E F g x,bE T E F g y with
   |some (.str l),some (.int _ i)=>some (some (uy i l.length),.int .u8 (fB l i))
   |_,_=>none)
  ) none
 | .slice t x lo hi none=>aC ( isStr X.P t ) ( (match bE T E F g x with
   |some (.str l)=>(match loA T E F g lo with
    |some i=>(match hiA T E F g hi with
     |some j=>some (some (dV i (j.getD (l.length:Int)) l.length),.str (cut l i (j.getD (l.length:Int))))
     |none=>none)
    |none=>none)
   |_=>none)
  ) none
 | .field t x k=>(match bE T E F g x with
  |some (.agg cs)=>(match akx X.P t k with
   |some f=>(match lQ X.P f.1 (cs.drop f.2.1) with
    |some v=>pv v
    |none=>none)
   |none=>none)
  |_=>none)
 | .fieldAddr t x k=>(match akx X.P t k with
  |some f=>aC ( Nat.beq f.2.2 0 ) none (match bE T E F g x with
   |some (.ptr id o)=>pv (.ptr id (o+f.2.1))
   |some (.adr id o)=>pv (.adr id (o+f.2.1))
   |_=>none)
  |none=>none)
 | .build t ps=>(match rW T E F g (ps.toList.map (·.2)) with
  |some vs=>(match aea X.P t ((ps.toList.map (·.1)).zip vs) with
   |some cs=>pv (.agg cs)
   |none=>none)
  |none=>none)
 | .makeFunc (.func f) a b=>(match rW T E F g a.toList with
  |some us=>(match rW T E F g b.toList with
   |some vs=>pv (.fn f us vs)
   |none=>none)
  |none=>none)
 | .makeInterface t x=>(match bE T E F g x with
  |some v=>aC ( Qc X.P t ) ( pv (.ifc t v) ) none
  |none=>none)
 | .typeAssert x _ t false=>(match bE T E F g x with
  |some (.ifc t' v)=>aC ( Nat.beq t t'&&Qc X.P t ) ( pv v ) none
  |_=>none)
 | .call c=>ae7 X T E F g c.callee c.args.toList c.argTypes.toList
 |_=>none
theorem add_plain{o k:Nat}:(⟨b,o,none⟩:Addr).add k=⟨b,o+k,none⟩:=by
 unfold Addr.add;split
 next h=>subst h;rfl
 .rfl
theorem add_add{a:Addr}{j k:Nat}:(a.add j).add k=a.add (j+k):=by
 by_cases b:j=0
 .subst b;have:a.add 0=a:=by simp [Addr.add]
  rw [this,j0]
 .by_cases hk:k=0
  .subst hk;simp [Addr.add]
  .simp [Addr.add,b,hk,qH]
theorem aqc{l:List α}{v:α}(h:l.head? =some v):l[0]? =some v:=by
 cases l with
 |nil=>simp at h
 |cons a l=>simpa using h
section
variable {X : Cx} {ρ : aB} {T : aE} {E F : aH} {g : GK} {w : World} {dst : zb} {ty : TypeId} {pos : String} {af : zd} {gd : xa}
theorem oS{t:TypeId}{off:Nat}{cs:List AV}{v:AV}(h:lQ X.P t (cs.drop off)=some v):∃d n bytes z,X.P.underlying t=some d/\(kJ d=true->TI X.P t n bytes z)/\
  (if kJ d then some (.agg (((AV.ao ρ cs).drop off).take n).toArray) else (AV.ao ρ cs)[off]?)=some (v.val ρ):=by
 unfold lQ at h;split at h
 .rename_i d hd;rcases eb h with ⟨b,a⟩|⟨b,a⟩
  .split at a
   next x hx=>obtain ⟨n,bytes,z⟩:=x;obtain ⟨c,e⟩:=aK a;cases e;refine ⟨d,n,bytes,z,hd,λ_=>cU hx,?_⟩;rw [pa b];simp only [AV.val,AV.kP,AV.iK]
   .cases a
  .refine ⟨d,0,0,.bool false,hd,(λh=>by rw [b] at h;cases h),?_⟩;rw [n7 (by rw [b];simp)];have c:=AV.aed (ρ:=ρ) (aqc a);rw [AV.iK,j5] at c;simpa using c
 .cases h
theorem alk{c:Callee}{xs:Array Operand}{j:Array TypeId}(h:ae7 X T E F g c xs.toList j.toList=some cv):
  nO X.P (az ρ T E F) ρ (T.get g) ⟨dst,.call ⟨c,xs,j⟩,ty,pos,af,gd⟩ w cv:=by
 obtain ⟨xs⟩:=xs;obtain ⟨j⟩:=j;unfold ae7 at h;split at h
 .rename_i x t b a;simp only at b a;subst b;subst a;obtain ⟨i,d⟩:=aK h;split at d
  next l hx=>have:=aW (ρ:=ρ) hx;simp only [AV.val] at this;exact .pv d (aoQ (rY i) this)
  .cases d
 .rename_i x y t t' b a;simp only at b a;subst b;subst a;split at h
  next k m o l hx n=>obtain ⟨i,d⟩:=aK h;have:=iE i;subst this;have f:=aW (ρ:=ρ) hx;have e:=aW (ρ:=ρ) n;simp only [AV.val] at f e;exact .pv d (aoV f e (apc _ _ _ _ _))
  .cases h
 .rename_i x y t t' b a;simp only at b a;subst b;subst a;split at h
  next k m o l hx n=>obtain ⟨i,d⟩:=aK h;have:=iE i;subst this;have f:=aW (ρ:=ρ) hx;have e:=aW (ρ:=ρ) n;simp only [AV.val] at f e;exact .pv d (aoL f e (aoA _ _ _ _ _))
  .cases h
 .cases h
theorem aqf{op:Op}(S:fJ T E F)(h:aod X T E F g op=some cv):
  nO X.P (az ρ T E F) ρ (T.get g) ⟨dst,op,ty,pos,af,gd⟩ w cv:=by
 unfold aod at h;split at h
 .split at h
  next v s=>exact .pv h (aQ (aW s))
  .cases h
 .split at h
  next v s=>exact .pv h (dG (aW s))
  .cases h
 .rename_i c a b;rcases eb h with ⟨r,p⟩|⟨_,p⟩
  .have:=aty r;subst this;split at p
   next y C=>obtain ⟨A,x⟩:=ad9 (ρ:=ρ) (b:=y.1) (y:=y.2) S C;exact .pv p (arR A (by simpa [yG] using x))
   .cases p
  .obtain ⟨r,p⟩:=aK p;have:=arG r;subst this;split at p
   next y C=>obtain ⟨A,x⟩:=ad9 (ρ:=ρ) (b:=y.1) (y:=y.2) S C;exact .pv p (atW A (by simpa [yG] using x))
   .cases p
 .split at h
  next v s=>obtain ⟨r,p⟩:=aK h;exact .pv p (ant (aW s) r)
  .cases h
 .split at h
  .rename_i l s;split at h
   next v hl=>have q:=aW (ρ:=ρ) s;simp only [AV.val] at q;exact .pv h (ahS q (AV.aed hl))
   .cases h
  .cases h
 .split at h
  next v s=>exact an7 (aW s) h
  .cases h
 .split at h
  .rename_i u Y;split at h
   next v s=>exact anb (aW Y) (aW s) h
   .cases h
  .cases h
 .split at h
  .rename_i k' m hx;obtain ⟨r,p⟩:=aK h;obtain ⟨ds,M⟩:=aud r;split at p
   next k hk=>have q:=aW (ρ:=ρ) hx;simp only [AV.val] at q;exact .pv p (adR M (JM hk) q)
   .cases p
  .cases h
 .obtain ⟨r,p⟩:=aK h;split at p
  next l k i hx C=>have q:=aW (ρ:=ρ) hx;have U:=aW (ρ:=ρ) C;simp only [AV.val] at q U;cases p;exact λO=>apz (rY r) q U (λD=>O _ rfl D)
  .cases p
 .obtain ⟨r,p⟩:=aK h;split at p
  .rename_i l hx;split at p
   .rename_i i hi;split at p
    next j Z=>have q:=aW (ρ:=ρ) hx;simp only [AV.val] at q;cases p;exact λO=>apH (rY r) q (NZ hi) (W6 Z) (λD=>O _ rfl D)
    .cases p
   .cases p
  .cases p
 .split at h
  .rename_i cs hx;split at h
   .rename_i f H;obtain ⟨ft,off,n⟩:=f;split at h
    .rename_i v s;obtain ⟨V,f,i,A,x,J,I,R,Q⟩:=aiO H;obtain ⟨d,n',bytes,z,c1,c2,K⟩:=oS (ρ:=ρ) s;have q:=aW (ρ:=ρ) hx;simp only [AV.val] at q;cases hd:kJ d
     .refine .pv h (λW a H D=>?_);have h5:=q W a H D;rw [hd] at K;simp only [cL,j3] at K;have hp:=ajM (P:=X.P) (w:=w) c1 hd K;subst J;subst I;simp only [execOp,h5,Instr.field,Sem.run_bind,run_underlying A,Result.andThen_ok,x,asAgg,Sem.run_pure,hp]
     .exact .pv h (amz A x J I c1 (c2 hd) q K)
    .cases h
   .cases h
  .cases h
 .split at h
  .rename_i f H;obtain ⟨ft,off,n⟩:=f;obtain ⟨V,f,i,A,x,J,I,R,Q⟩:=aiO H;obtain ⟨r,p⟩:=Qy h;have G:aiL X.P _ _ off:=⟨V,f,i,A,x,I,by rw [J];exact R,by rw [Q];exact Nat.ne_of_beq_eq_false r⟩;split at p
   next id o hx=>have q:=aW (ρ:=ρ) hx;simp only [AV.val] at q;refine .pv p ?_;simp only [AV.val];have:=Mt (dst:=dst) (ty:=ty) (pos:=pos) (af:=af) (gd:=gd) (w:=w) G q;rwa [add_plain] at this
   next id o hx=>have q:=aW (ρ:=ρ) hx;simp only [AV.val] at q;refine .pv p ?_;simp only [AV.val];have:=Mt (dst:=dst) (ty:=ty) (pos:=pos) (af:=af) (gd:=gd) (w:=w) G q;rwa [add_add] at this
   .cases p
  .cases h
 .rename_i t ps;split at h
  .rename_i vs B;split at h
   .rename_i cs N;refine .pv h ?_;simp only [AV.val];have q:=gW (ρ:=ρ) B;have:=amG (P:=X.P) (w:=w) (dst:=dst) (ty:=ty) (pos:=pos) (af:=af) (gd:=gd) (t:=t) (v:= .agg (AV.ao ρ cs).toArray) q (λw=>by rw [<-Eu];exact amQ N)
    simpa using this
   .cases h
  .cases h
 .rename_i f a b;split at h
  .rename_i us L;split at h
   next vs B=>refine .pv h ?_;simp only [AV.val];have:=O0 (P:=X.P) (w:=w) (dst:=dst) (ty:=ty) (pos:=pos) (af:=af) (gd:=gd) (fn:= .func f) (gW (ρ:=ρ) L) (gW (ρ:=ρ) B);simpa using this
   .cases h
  .cases h
 .split at h
  next v s=>obtain ⟨r,p⟩:=aK h;obtain ⟨d,A,x⟩:=YE r;refine .pv p ?_;simp only [AV.val];exact agY A x (aW s)
  .cases h
 .split at h
  next t' v s=>obtain ⟨r,p⟩:=aK h;simp only [ar] at r;obtain ⟨d,A,x⟩:=YE r.2;have q:=aW (ρ:=ρ) s;simp only [AV.val] at q;have e:=aS r.1;subst e;exact .pv p (ahN A x q)
  .cases h
 .exact alk h
 .cases h
end
def uN(G H:List Row):AV->AV
 | .nv u=>(match eI G H (isEq u) with
  |some (_,.eq _ v)=>v
  |_=> .nv u)
 |v=>v
theorem Wf{ρ:aB}{T:aE}{G H:List Row}{Φ:Ctx}{w:World}(a:Sat (ab ρ T G++(ab ρ T H++Φ)) w){v:AV}:(uN G H v).val ρ=v.val ρ:=by
 unfold uN;split
 .rename_i u;split
  next s j e h=>obtain ⟨d,c⟩:=cp h;have b:=Src.holds a d;have:j=u:=aS c;subst this;simp only [AV.val];exact b.symm
  .rfl
 .rfl
theorem PE{ρ:aB}{T:aE}{G H:List Row}{Φ:Ctx}{w:World}(a:Sat (ab ρ T G++(ab ρ T H++Φ)) w):(l:List AV)->AV.ao ρ (l.map (uN G H))=AV.ao ρ l
 |[]=>rfl
 |v::l=>by simp only [et,AV.ao];rw [Wf a,PE a l]
def Xp:Ty->Bool
 | .i _|.bo|.s|.un|.n=>true
 | .p x y=>Xp x&&Xp y
 |_=>false
def AB:(t:Ty)->t.T->List AV
 | .i k,x=>[.int k x]
 | .bo,x=>[.bool x]
 | .s,x=>[.str x]
 | .n,x=>[.ifc x (.agg [])]
 | .p a b,x=>AB a x.1++AB b x.2
 |_,_=>[]
theorem Vw{ρ:aB}{M:Nat->Prop}{w:World}:(t:Ty)->(x:t.T)->(vs:yp)->Xp t=true->t.rep.rd M w vs x->vs=AV.ao ρ (AB t x)
 | .i k,x,vs,_,h=>by simp only [AB,AV.ao,AV.val];exact h
 | .bo,x,vs,_,h=>by simp only [AB,AV.ao,AV.val];exact h
 | .s,x,vs,_,h=>by simp only [AB,AV.ao,AV.val];exact h
 | .un,x,vs,_,h=>by simp only [AB,AV.ao];exact h
 | .p a b,x,vs,hf,h=>by
  simp only [Xp,ar] at hf;obtain ⟨us,c,rfl,e,d⟩:=h;rw [AB,dJ,<-Vw a x.1 us hf.1 e,<-Vw b x.2 c hf.2 d]
 | .l _,_,_,hf,_=>by cases hf
 | .ex,_,_,hf,_=>by cases hf
 | .n,x,vs,_,h=>by simp only [AB,AV.ao,AV.val];exact h
 | .mp _ _,_,_,hf,_=>by cases hf
def ad8(T:aE)(G H:List Row)(g:GK)(q off:Nat):Option (List AV):=match eI G H (VL q) with
 |some (_,.kn g' _ id ver u _ x)=>aC ( T.imp g g'&&Xp u ) ( match eI G H (nI id) with
  |some (_,.own _ _ _ _ ver')=>aC ( Nat.beq ver ver' ) ( some ((AB u x).drop off) ) none
  |_=>none ) none
 |_=>none
theorem QA{t t':Ty}{l:List t.T}{l':List t'.T}{y:cD}(h:y=⟨.l t,l⟩)(a:y=⟨.l t',l'⟩):∃e:t=t',e▸l=l':=by rw [h] at a;cases a;exact ⟨rfl,rfl⟩
theorem anJ{ρ:aB}{T:aE}{G H:List Row}{Φ:Ctx}{w:World}{g:GK}{q off:Nat}{vs:List AV}(o:Sat (ab ρ T G++(ab ρ T H++Φ)) w)(h:ad8 T G H g q off=some vs)(t:T.get g=true):
  bW w ((ρ q).a.add off) (AV.ao ρ vs):=by
 unfold ad8 at h;split at h
 .rename_i s g' q' id c u i r v;obtain ⟨m,k⟩:=aK h;simp only [ar] at m;split at k
  next O d u' e l b j=>obtain ⟨z,y⟩:=aK k;cases y;obtain ⟨D,C⟩:=cp v;obtain ⟨B,A⟩:=cp j;have K:q'=q:=aS C;have J:d=id:=aS A;have I:c=b:=aS z;subst K;subst J;subst I;obtain ⟨x,f⟩:=Src.holds o B;obtain ⟨P,N,M,L⟩:=(Src.holds o D) (aE.kZ m.1 t);obtain ⟨F,p⟩:=QA N f;subst F;simp only at p;subst p;obtain ⟨_,us,n,E⟩:=x.atA M;rw [Vw (ρ:=ρ) u r us m.2 E] at n;rw [<-L] at n;refine n.sub _ ?_;rw [AV.iK,hV (ch _)]
  .cases k
 .cases h
def AN(T:aE)(G H:List Row)(g:GK):AV->Option (List AV)
 | .ptr id off=>(match eI G H (Ar id) with
  |some (_,.box _ _ vs)=>some ((vs.drop off).map (uN G H))
  |_=>none)
 | .adr id off=>(match eI G H (auE id) with
  |some (_,.elm g' _ vs)=>aC ( T.imp g g' ) ( some (vs.drop off) ) none
  |_=>ad8 T G H g id off)
 |_=>none
theorem Oj{ρ:aB}{T:aE}{G H:List Row}{Φ:Ctx}{w:World}{g:GK}{v:AV}{vs:List AV}(c:Sat (ab ρ T G++(ab ρ T H++Φ)) w)(h:AN T G H g v=some vs)(i:T.get g=true):
  ∃p,v.val ρ= .pointer (some p)/\bW w p (AV.ao ρ vs):=by
 have sub:∀{p:Addr} {us:List AV} {off:Nat},bW w p (AV.ao ρ us)->bW w (p.add off) (AV.ao ρ (us.drop off)):=λh=>by refine h.sub _ ?_;rw [AV.iK,hV (ch _)]
 unfold AN at h;split at h
 .rename_i id off;split at h
  next s j t us d=>cases h;obtain ⟨f,e⟩:=cp d;have:j=id:=aS e;subst this;have hb:fM w (ρ j).b t (AV.ao ρ us):=Src.holds c f;refine ⟨⟨(ρ j).b,off,none⟩,by simp only [AV.val],?_⟩;rw [PE c,AV.iK];exact hb.part off (by rw [hV (ch _)])
  .cases h
 .rename_i id off;split at h
  next s g' j us d=>obtain ⟨l,k⟩:=aK h;cases k;obtain ⟨f,e⟩:=cp d;have:j=id:=aS e;subst this;have hb:=Src.holds c f;exact ⟨_,by simp only [AV.val],sub (hb (aE.kZ l i)).2⟩
  .exact ⟨(ρ id).a.add off,by simp only [AV.val],anJ c h i⟩
 .cases h
def afl(t:Ty)(v:AV):Option t.T:=match t,v with
 | .i k,.int k' x=>aC ( gG k k' ) ( some x ) none
 | .s,.str x=>some x
 | .bo,.bool x=>some x
 | .p (.i a) (.i b),.agg [.int a' x,.int b' y]=>aC (gG a a'&&gG b b') (some (x,y)) none
 |_,_=>none
theorem ZK{ρ:aB}{t:Ty}{v:AV}{x:t.T}(h:afl t v=some x):v.val ρ=HW t x:=by
 unfold afl at h;split at h
 .obtain ⟨a,b⟩:=aK h;have:=iE a;subst this;cases b;simp only [AV.val];rfl
 .cases h;simp only [AV.val];rfl
 .cases h;simp only [AV.val];rfl
 .obtain ⟨a,b⟩:=aK h;simp only [ar] at a;have d:=iE a.1;have c:=iE a.2;subst d;subst c;cases b;simp only [AV.val,AV.ao];rfl
 .cases h
def ajw(t:Ty)(x:t.T):AV:=match t,x with
 | .i k,x=> .int k x
 | .s,x=> .str x
 | .bo,x=> .bool x
 | .p (.i a) (.i b),x=> .agg [.int a x.1,.int b x.2]
 |_,_=> .bool false
theorem aiG{ρ:aB}{t:Ty}{x:t.T}:(ajw t x).val ρ=HW t x:=by unfold ajw HW;split <;> first|(simp only [AV.val];done)|(simp only [AV.val,AV.ao];rfl)
instance keyBEq(t:Ty):BEq t.T:=match t with
 | .i _=>(inferInstance:BEq Int)
 | .s=>(inferInstance:BEq aD)
 | .bo=>(inferInstance:BEq Bool)
 | .p (.i _) (.i _)=>(inferInstance:BEq (Int×Int))
 |_=>⟨λ_ _=>false⟩
def Ty.sB:(t:Ty)->t.T
 | .i _=>(0:Int)
 | .bo=>false
 | .s=>([]:aD)
 | .un=>()
 | .n=>(0:Nat)
 | .p x y=>(x.sB,y.sB)
 | .l x=>([]:List x.T)
 | .mp k v=>(none:Option (List (k.T×v.T)))
 | .ex=>Ex.mk 0 0 0 []
def aka(P:Program)(kt:TypeId)(k:Ty):Bool:=match k with
 | .i k=>(match tyK P kt with
  |some k'=>gG k k'
  |none=>false)
 | .s=>isStr P kt
 | .p (.i a) (.i b)=>(match P.underlying kt with
  |some (.struct ⟨[f1,f2]⟩)=>(match tyK P f1.type,tyK P f2.type with
   |some a',some b'=>gG a a'&&gG b b'&& !(f1.name== "_")&& !(f2.name== "_")&&Nat.beq f1.offset 0&&Nat.beq f2.offset 1&& !(P.stoodInHeld kt)
   |_,_=>false)
  |_=>false)
 |_=>false
theorem ZD{P:Program}{kt:TypeId}{k:Ty}(h:aka P kt k=true):uM P kt (HW k):=by
 unfold aka at h;split at h
 .split at h
  next o hk=>have:=iE h;subst this;exact uM.int (JM hk)
  .cases h
 .exact uM.str (rY h)
 .split at h
  .rename_i q p i;split at h
   next s r l j=>simp only [ar,eF,beq_eq_false_iff_ne,ne_eq] at h;obtain ⟨⟨⟨⟨⟨⟨g,f⟩,e⟩,d⟩,c⟩,b⟩,a⟩:=h;have n:=iE g;have m:=iE f;subst n;subst m;exact uM.pair i e d (aS c) (aS b) (JM l) (JM j) a
   .cases h
  .cases h
 .cases h
def als(v:Ty)(z:Value):Bool:=match v,z with
 | .i k,.int k' x=>gG k k'&&decide (x=0)
 | .bo,.bool b=> !b
 | .s,.string b=>b.data.toList.isEmpty
 |_,_=>false
theorem apR{v:Ty}(h:als v z=true):z=HW v v.sB:=by
 unfold als at h;split at h
 .simp only [ar,mZ] at h;have:=iE h.1;subst this;rw [h.2];rfl
 .rename_i b;cases b
  .rfl
  .cases h
 .rename_i b;have:b.data.toList=[]:=by simpa using h
  show _=S [];unfold S;rw [<-this]
 .cases h
def aaM(P:Program)(t:TypeId):Option (TypeId×TypeId):=match P.underlying t with
 |some (.map k v)=>some (k,v)
 |_=>none
theorem yM{P:Program}{t:TypeId}{p:TypeId×TypeId}(h:aaM P t=some p):P.underlying t=some (.map p.1 p.2):=by
 unfold aaM at h;split at h
 next k v hk=>cases h;exact hk
 .cases h
def fR(P:Program)(t:TypeId):Option TypeId:=match P.underlying t with
 |some (.slice e)=>some e
 |_=>none
theorem cm{P:Program}{t:TypeId}(h:fR P t=some e):P.underlying t=some (.slice e):=by
 unfold fR at h;split at h
 next k hk=>cases h;exact hk
 .cases h
structure SlA where
 g:GK
 t:Ty
 l:List t.T
def slA(G H:List Row)(id:Nat):Option SlA:=match eI G H (nI id) with
 |some (_,.sli g _ t l _)=>some ⟨g,t,l⟩
 |some (_,.own _ t _ l _)=>some ⟨none,t,l⟩
 |_=>none
theorem agl{ρ:aB}{T:aE}{G H:List Row}{Φ:Ctx}{w:World}{id:Nat}{s:SlA}(f:Sat (ab ρ T G++(ab ρ T H++Φ)) w)(h:slA G H id=some s)(k:T.get s.g=true):
  (ca s.t.rep (Ctx.M (ab ρ T G++(ab ρ T H++Φ))) w (sl (ρ id).v) s.l)\/∃e,bU s.t.rep e (Ctx.M (ab ρ T G++(ab ρ T H++Φ))) w (sl (ρ id).v) s.l (vH (ρ id).v):=by
 unfold slA at h;split at h
 next i g j t l b a=>cases h;obtain ⟨d,c⟩:=cp a;have:j=id:=aS c;subst this;exact .inl ((Src.holds f d) k).1
 next i j t e l ks a=>cases h;obtain ⟨d,c⟩:=cp a;have:j=id:=aS c;subst this;exact .inr ⟨e,(Src.holds f d).1⟩
 .cases h
theorem Z2{ρ:aB}{T:aE}{G H:List Row}{Φ:Ctx}{w:World}{id:Nat}{s:SlA}(a:Sat (ab ρ T G++(ab ρ T H++Φ)) w)(h:slA G H id=some s)(b:T.get s.g=true):SV (sl (ρ id).v) s.l.length:=by
 rcases agl a h b with h|⟨e,h⟩
 .exact h.len
 .exact h.len
theorem arJ{ρ:aB}{T:aE}{G H:List Row}{Φ:Ctx}{w:World}{id:Nat}{s:SlA}(a:Sat (ab ρ T G++(ab ρ T H++Φ)) w)(h:slA G H id=some s)(b:T.get s.g=true):ca s.t.rep (λ_=>False) w (sl (ρ id).v) s.l:=by
 rcases agl a h b with h|⟨e,h⟩
 .exact h.mv (Mv.weaken w λ_ h=>h.elim)
 .exact h.freeze (λ_ _ h=>h) (Mv.weaken w λ_ h=>h.elim)
def isU8:Ty->Bool
 | .i .u8=>true
 |_=>false
def aoh(T:aE)(G H:List Row)(g:GK)(v:AV):Option zg:=match v with
 | .sl id=>(match slA G H id with
  |some ⟨g',.i .u8,l⟩=>aC ( T.imp g g' ) ( some l ) none
  |_=>none)
 | .raw (.slice none 0 0)=>some []
 |_=>none
theorem asF{ρ:aB}{T:aE}{G H:List Row}{Φ:Ctx}{w:World}{g:GK}{v:AV}{l:zg}(a:Sat (ab ρ T G++(ab ρ T H++Φ)) w)(h:aoh T G H g v=some l)(b:T.get g=true):ca (RI .u8) (λ_=>False) w (v.val ρ) l:=by
 unfold aoh at h;split at h
 .split at h
  next g' l' hl=>obtain ⟨d,c⟩:=aK h;cases c;have:=arJ a hl (aE.kZ d b);simp only [AV.val];exact this
  .cases h
 .cases h;simp only [AV.val];exact ca.nil
 .cases h
def af3(X:Cx)(T:aE)(E F:aH)(G H:List Row)(g:GK)(c:Callee)(xs:x4)(ts:List TypeId):CV:=match c,xs,ts with
 | .builtin .len,[x],[t]=>(match fR X.P t with
  |some _=>(match bE T E F g x with
   |some (.sl id)=>(match slA G H id with
    |some s=>aC ( T.imp g s.g ) ( pv (.int .i64 (s.l.length:Int)) ) none
    |none=>none)
   |some (.raw (.slice none 0 0))=>pv (.int .i64 0)
   |_=>none)
  |none=>none)
 |_,_,_=>none
def ajS(X:Cx)(T:aE)(E F:aH)(G H:List Row)(g:GK)(op:BinOp)(t:TypeId)(x y:Operand):CV:=match aaM X.P t with
 |some _=>(match bE T E F g y with
  |some (.raw (.map none))=>(match bE T E F g x with
   |some (.mp id)=>(match eI G H (akj id) with
    |some (_,.mp _ _ _ d)=>(match op with
     | .eql=>pv (.bool (Option.isNone d))
     | .neq=>pv (.bool (!(Option.isNone d)))
     |_=>none)
    |_=>none)
   |some (.raw (.map none))=>(match op with
    | .eql=>pv (.bool true)
    | .neq=>pv (.bool false)
    |_=>none)
   |_=>none)
  |_=>none)
 |none=>none
def apM(X:Cx)(T:aE)(E F:aH)(G H:List Row)(g:GK):Op->CV
 | .load t x=>(match bE T E F g x with
  |some v=>(match AN T G H g v with
   |some cs=>(match lQ X.P t cs with
    |some v=>pv v
    |none=>none)
   |none=>none)
  |none=>none)
 | .convert s d x=>aC ( isStr X.P d ) ( (match fR X.P s with
  |some e=>(match tyK X.P e with
   |some .u8=>(match bE T E F g x with
    |some v=>(match aoh T G H g v with
     |some l=>pv (.str (strOf l))
     |none=>none)
    |none=>none)
   |_=>none)
  |none=>none) ) none
 | .lookup t x y ok=>(match aaM X.P t with
  |some p=>(match bE T E F g x with
   |some (.mp id)=>(match bE T E F g y with
    |some kv=>(match eI G H (akj id) with
     |some (_,.mp _ k v d)=>(match lJ X.P p.2 with
      |some z=>aC ( aka X.P p.1 k&&als v z.2.2 ) ( (match afl k kv with
       |some key=>aC ( ok ) ( pv (.tuple [ajw v (nn d key v.sB),.bool (Vl d key)]) )<|pv (ajw v (nn d key v.sB))
       |none=>none) ) none
      |none=>none)
     |_=>none)
    |none=>none)
   |_=>none)
  |none=>none)
 | .call c=>af3 X T E F G H g c.callee c.args.toList c.argTypes.toList
 | .binOp op t x y _=>ajS X T E F G H g op t x y
 |_=>none
section
variable {X : Cx} {ρ : aB} {T : aE} {E F : aH} {G H : List Row} {Φ : Ctx} {g : GK} {w : World} {dst : zb} {ty : TypeId} {pos : String} {af : zd} {gd : xa}
theorem akK{P:Program}{Ev:Env}{b:Bool}{o:Oper}(h:b=true->bq P Ev b o w v):bq P Ev b o w v:=λn a d c=>h c n a d c
theorem anZ{t:TypeId}{u v:AV}{cs:List AV}(k:Sat (ab ρ T G++(ab ρ T H++Φ)) w)(hx:bE T E F g x=some u)(f:AN T G H g u=some cs)(h:lQ X.P t cs=some v):
  bq X.P (az ρ T E F) (T.get g) ⟨dst,.load t x,ty,pos,af,gd⟩ w (v.val ρ):=akK λm=>by
 obtain ⟨p,hp,f⟩:=Oj k f m;have b:=aW (ρ:=ρ) hx;rw [hp] at b;have s:lQ X.P t (cs.drop 0)=some v:=by simpa using h
 obtain ⟨d,n,bytes,z,c1,y,c⟩:=oS (ρ:=ρ) s;cases hd:kJ d
 .rw [hd] at c;simp only [cL,j3] at c;refine NW c1 hd b (λ_=>?_);have:=f.sub (us:=[v.val ρ]) 0 (by
   cases e:AV.ao ρ cs with
   |nil=>rw [e] at c;cases c
   |cons a l=>rw [e] at c;cases c;simp)
  simpa [Addr.add] using this
 .unfold lQ at h;rw [c1] at h;rcases eb h with ⟨_,i⟩|⟨j,_⟩
  .split at i
   .rename_i q e;obtain ⟨n,bytes,z⟩:=q;obtain ⟨r,o⟩:=aK i;cases o;have hl:n<=cs.length:=c5 r;simp only [AV.val];refine PS c1 hd (cU e) b (λ_=>?_) ?_
    .have:=f.sub (us:=AV.ao ρ (cs.take n)) 0 (by rw [AV.kP,n3,cx,AV.bw,ed hl])
     simpa [Addr.add] using this
    .rw [AV.bw,cx,ed hl]
   .cases i
  .rw [hd] at j;cases j
theorem akf{c:Callee}{xs:Array Operand}{b:Array TypeId}(k:Sat (ab ρ T G++(ab ρ T H++Φ)) w)(h:af3 X T E F G H g c xs.toList b.toList=some cv):
  nO X.P (az ρ T E F) ρ (T.get g) ⟨dst,.call ⟨c,xs,b⟩,ty,pos,af,gd⟩ w cv:=by
 obtain ⟨xs⟩:=xs;obtain ⟨b⟩:=b;unfold af3 at h;split at h
 .rename_i x t j i;simp only at j i;subst j;subst i;split at h
  .rename_i e f;split at h
   .rename_i id hx;have a:=aW (ρ:=ρ) hx;simp only [AV.val] at a;split at h
    next s d=>obtain ⟨o,m⟩:=aK h;exact .pv m (akK λl=>GP (cm f) a (Z2 k d (aE.kZ o l)))
    .cases h
   next hx=>have a:=aW (ρ:=ρ) hx;simp only [AV.val] at a;exact .pv h (GP (n:=0) (cm f) a ⟨_,_,rfl⟩)
   .cases h
  .cases h
 .cases h
theorem amk{op:BinOp}{t:TypeId}(e:Sat (ab ρ T G++(ab ρ T H++Φ)) w)(h:ajS X T E F G H g op t x y=some cv):
  nO X.P (az ρ T E F) ρ (T.get g) ⟨dst,.binOp op t x y t',ty,pos,af,gd⟩ w cv:=by
 unfold ajS at h;split at h
 .rename_i p hp;split at h
  .rename_i c;have b:=aW (ρ:=ρ) c;simp only [AV.val] at b;split at h
   .rename_i id hx;have a:=aW (ρ:=ρ) hx;simp only [AV.val] at a;split at h
    .rename_i s j k v d f;obtain ⟨l,i⟩:=cp f;have:j=id:=aS i;subst this;have hb:=Src.holds e l;split at h
     .exact .pv h (YL (yM hp) a b hb)
     .exact .pv h (XS (yM hp) a b hb)
     .cases h
    .cases h
   .rename_i hx;have a:=aW (ρ:=ρ) hx;simp only [AV.val] at a;split at h
    .exact .pv h (ahf (yM hp) a b)
    .exact .pv h (ahc (yM hp) a b)
    .cases h
   .cases h
  .cases h
 .cases h
theorem aps{op:Op}(f:Sat (ab ρ T G++(ab ρ T H++Φ)) w)(h:apM X T E F G H g op=some cv):
  nO X.P (az ρ T E F) ρ (T.get g) ⟨dst,op,ty,pos,af,gd⟩ w cv:=by
 unfold apM at h;split at h
 .split at h
  .rename_i v o;split at h
   .rename_i cs q;split at h
    next O n=>exact .pv h (anZ f o q n)
    .cases h
   .cases h
  .cases h
 .obtain ⟨b,a⟩:=aK h;split at a
  .rename_i e D;split at a
   .rename_i hk;split at a
    .rename_i v o;split at a
     next l hl=>refine .pv a (akK λB=>?_);have m:=aW (ρ:=ρ) o;simp only [AV.val];exact arV (M:=λ_=>False) (cm D) (JM hk) (rY b) m (λ_=>asF f hl B)
     .cases a
    .cases a
   .cases a
  .cases a
 .rename_i t x y ok;split at h
  .rename_i p hp;split at h
   .rename_i id hx;split at h
    .rename_i Q A;split at h
     .rename_i s j k v d C;split at h
      .rename_i z u;obtain ⟨b,a⟩:=aK h;simp only [ar] at b;split at a
       .rename_i key i;obtain ⟨J,I⟩:=cp C;have:j=id:=aS I;subst this;have hb:=Src.holds f J;have m:=aW (ρ:=ρ) hx;have r:=aW (ρ:=ρ) A;simp only [AV.val] at m;rw [ZK i] at r;obtain ⟨N,L,K⟩:=z;have c:(zeroValue p.2).run X.P w= .ok (HW v v.sB) w:=by rw [<-apR b.2];exact (cU u).zero w
        cases ok
        .refine .pv a ?_;rw [aiG];exact akt (ZD b.1) (yM hp) c m r (λ_=>hb)
        .refine .pv a ?_;simp only [AV.val,AV.ao];rw [aiG];exact aeb (ZD b.1) (yM hp) c m r (λ_=>hb)
       .cases a
      .cases h
     .cases h
    .cases h
   .cases h
  .cases h
 .exact akf f h
 .exact amk f h
 .cases h
end
def bL(P:Program)(E:Env)(o:Oper)(w:World)(R:Value->World->Prop):Prop:=
 ∀n a,Fits n E a->(∃v w',(execOp a.eval o).run P w= .ok (.value v) w'/\R v w')\/(∃w',(execOp a.eval o).run P w= .ok .skip w'/\R undef w')\/
  (∃(f:FuncId) (args:yp),(execOp a.eval o).run P w= .ok (.enter f args.toArray) w/\gE P f args w R)
section
variable {P : Program} {σ : za} {Q : bD} {n : Nat} {D : x3} {E : Env} {w : World} {ops : zc} {rest : zf} {o : Oper} {R S : Value -> World -> Prop}
theorem bL.run(h:bq P E true o w v)(k:R v w):bL P E o w R:=λn a b=> .inl ⟨v,w,h n a b rfl,k⟩
theorem bL.oZ{w':World}(h:na P E o w v w')(k:R v w'):bL P E o w R:=λn a b=> .inl ⟨v,w',h n a b,k⟩
theorem bL.alG{w':World}(h:Wc P E o w w')(k:R undef w'):bL P E o w R:=λn a b=> .inr (.inl ⟨w',h n a b,k⟩)
theorem bL.upon(hd:bL P E o w R){a:Act}(g:Fits n E a){b:Act->World->Prop}(h:∀v w',R v w'->b (a.put o.dst v) w'):o.uponIn (FW σ) 0 P a b Q ((execOp a.eval o).run P w):=by
 rcases hd n a g with ⟨v,w',d,c⟩|⟨w',d,c⟩|⟨f,args,d,c⟩
 .rw [d,Oper.uponIn_value];exact h _ _ c
 .rw [d,Oper.uponIn_skip];exact h _ _ c
 .rw [d];exact L0 c (λv w' e=>h v w' e) (λ_ _ e=>e.elim)
def rP(dst:zb)(g:Bool)(v:Value)(E:Env):Env:=match dst with
 |some d=>(d,g,v)::E
 |none=>E
def Nq(n:Nat):zb->Bool
 |some d=>Nat.blt d n
 |none=>true
theorem Fits.rP{E:Env}{a:Act}(h:Fits n E a){d:zb}{g:Bool}{v:Value}(hd:Nq n d=true):Fits n (rP d g v E) (a.put d (yN g v)):=by
 cases d with
 |none=>exact h
 |some d=>exact h.put hd
theorem arx(hd:bL P E o w R)(hp:jC o=true)(d:o.guard=none)(hn:Nq n o.dst=true)
  (h:∀v w',R v w'->WL P σ ops Q n D rest (rP o.dst true v E) w'):WL P σ ops Q n D (o::rest) E w:=λa b f=>
 wpListIn_plain d λK e=>lW hp (hd.upon b λv w' c=>e _ _ (h v w' c _ (b.rP hn) (by rw [jq];exact f)))
theorem an0{j:Nat}{b:Bool}{rj:Tmp}{m p:Bool}{g:Bool}(hd:g=true->bL P E o w R)(s:g=false->∃v,R v w)(hp:jC o=true)(i:o.guard=some (j,b))(q:(ops[j]?).bind (·.dst)=some rj)
  (hl:look E rj=some (m,.bool p)) (f:Nat.blt rj n=true) (r:(m&&(p==b))=g) (hn:Nq n o.dst=true)
  (h:∀v w',R v w'->WL P σ ops Q n D rest (rP o.dst g v E) w'):WL P σ ops Q n D (o::rest) E w:=λa c l=>
 wpListIn_step λK k=>by
  rw [Ge i q hl c f,r];cases g
  .simp only [cL,j3];obtain ⟨v,e⟩:=s rfl;have:=c.rP (d:=o.dst) (g:=false) (v:=v) hn;exact ⟨λ_ _=>trivial,k _ _ (h _ _ e _ this (by rw [jq];exact l))⟩
  .simp only [oi];exact lW hp ((hd rfl).upon c λv w' e=>k _ _ (h v w' e _ (c.rP hn) (by rw [jq];exact l)))
end
abbrev cT(R:Type):=aG->Option R
def cN(dst:zb)(g:GK)(v:AV)(E:aH):aH:=match dst with
 |some d=>(d,g,v)::E
 |none=>E
def bc{R:Type}(r:R)(K:cT R)(T:aE)(fr:Fr)(st:aG)(g:GK)(dst:zb)(ρ:aB)(Φ:Ctx)(v:Value)(w':World):Prop:=
 ∃(ρ':aB) (st':aG) (av:AV),K st'=some r/\aZ st.c ρ ρ'/\st.c<=st'.c/\st'.E=cN dst g av st.E/\av.val ρ'=v/\az ρ' T st.E fr.F=az ρ T st.E fr.F/\
  ab ρ' T fr.H=ab ρ T fr.H/\Sat (ab ρ' T st'.G++(ab ρ' T fr.H++Φ)) w'
def jU(P:Program)(T:aE)(g:GK)(Ev:Env)(o:Oper)(w:World)(O:Value->World->Prop):Prop:=
 (T.get g=true->bL P Ev o w O)/\(T.get g=false->∃v,O v w)
section
variable {R : Type} {r : R} {K : cT R} {T : aE} {fr : Fr} {st st' : aG} {g : GK} {dst : zb} {ρ ρ' : aB} {Φ : Ctx} {v : Value} {w w' : World}
theorem aG.cS:st.low fr=true↔aH.low st.c st.E=true/\aH.low st.c fr.F=true/\bJ st.c st.G=true/\bJ st.c fr.H=true:=by simp only [aG.low,ar,and_assoc]
theorem oh(hl:st.low fr=true)(a:aZ st.c ρ ρ'):az ρ' T st.E fr.F=az ρ T st.E fr.F:=by obtain ⟨d,b,_,_⟩:=aG.cS.1 hl;rw [az,sa a d,sa a b]
theorem bc.new{av:AV}(hl:st.low fr=true)(h:K st'=some r)(a:aZ st.c ρ ρ')(f:st.c<=st'.c)(i:st'.E=cN dst g av st.E)(b:av.val ρ'=v)
  (d:Sat (ab ρ' T st'.G++(ab ρ T fr.H++Φ)) w'):bc r K T fr st g dst ρ Φ v w':=by
 have e:=bm (T:=T) a (aG.cS.1 hl).2.2.2;exact ⟨ρ',st',av,h,a,f,i,b,oh hl a,e,by rw [e];exact d⟩
theorem bc.jw{av:AV}(e:K st'=some r)(d:st.c<=st'.c)(f:st'.E=cN dst g av st.E)(a:av.val ρ=v)
  (b:Sat (ab ρ T st'.G++(ab ρ T fr.H++Φ)) w'):bc r K T fr st g dst ρ Φ v w':=
 ⟨ρ,st',av,e,.refl,d,f,a,rfl,rfl,b⟩
theorem bc.push{av:AV}{x:Nm}{row:Row}(hl:st.low fr=true)(a:K { st with c:=st.c+1,E:=cN dst g av st.E,G:=row::st.G }=some r)(hv:av.val (ρ.set st.c x)=v)
  (hs:Sat (row.item (ρ.set st.c x) T::(ab ρ T st.G++(ab ρ T fr.H++Φ))) w'):bc r K T fr st g dst ρ Φ v w':=by
 refine bc.new hl a aB.bg (jm _) rfl hv ?_;have e:=bm (T:=T) (aB.bg (ρ:=ρ) (j:=st.c) (x:=x)) (aG.cS.1 hl).2.2.1;show Sat (ab (ρ.set st.c x) T (row::st.G)++_) w';rw [ab,et];rw [ab] at e;rw [e];exact hs
theorem fV{G:List Row}{row:Row}{j:Nat}{Δ:Ctx}(a:j<G.length):ab ρ T (G.set j row)++Δ=(ab ρ T G++Δ).set j (row.item ρ T):=by rw [List.set_append_left _ _ (by simpa [ab] using a)];simp only [ab,List.map_set]
theorem bc.ra{av:AV}{x:Nm}{row:Row}{j:Nat}(hl:st.low fr=true)(a:j<st.G.length)(b:K { st with c:=st.c+1,E:=cN dst g av st.E,G:=st.G.set j row }=some r)(hv:av.val (ρ.set st.c x)=v)
  (hs:Sat ((ab ρ T st.G++(ab ρ T fr.H++Φ)).set j (row.item (ρ.set st.c x) T)) w'):bc r K T fr st g dst ρ Φ v w':=by
 refine bc.new hl b aB.bg (jm _) rfl hv ?_;have e:=bm (T:=T) (aB.bg (ρ:=ρ) (j:=st.c) (x:=x)) (aG.cS.1 hl).2.2.1;show Sat (ab (ρ.set st.c x) T (st.G.set j row)++_) w';rw [fV a,e];exact hs
end
def Ub(P:Program)(T:aE)(g:GK)(Ev:Env)(o:Oper)(w:World)(O:Value->World->Prop):Prop:= ∃v,(∀w',bq P Ev (T.get g) o w' v)/\O v w
theorem Ub.ok2{P:Program}{T:aE}{g:GK}{Ev:Env}{o:Oper}{w:World}{O:Value->World->Prop}(h:Ub P T g Ev o w O):jU P T g Ev o w O:=by obtain ⟨v,c,a⟩:=h;exact ⟨λb=>bL.run (by have:=c w;rwa [b] at this) a,λ_=>⟨v,a⟩⟩
theorem bL.gd{P:Program}{E:Env}{dst:zb}{op:Op}{ty:TypeId}{pos:String}{af:zd}{gd:Option (Nat×Bool)}{w:World}{R:Value->World->Prop}(h:bL P E ⟨dst,op,ty,pos,af,none⟩ w R):bL P E ⟨dst,op,ty,pos,af,gd⟩ w R:=
 λn a b=>h n a b
def Ty.n':Ty->Nat
 | .i _|.bo|.s|.l _|.n=>1
 | .un|.mp _ _=>0
 | .p x y=>x.n'+y.n'
 | .ex=>4
theorem Ty.EJ:(t:Ty)->t.rep.n=t.n'
 | .i _|.bo|.s|.l _|.un|.n|.mp _ _|.ex=>rfl
 | .p x y=>by show x.rep.n+y.rep.n=_;rw [Ty.EJ x,Ty.EJ y];rfl
def ek:(t:Ty)->t.T->Nat->List AV×List Row×Nat
 | .i k,x,c=>([.int k x],[],c)
 | .bo,x,c=>([.bool x],[],c)
 | .s,x,c=>([.str x],[],c)
 | .un,_,c=>([],[],c)
 | .n,x,c=>([.ifc x (.agg [])],[],c)
 | .mp _ _,_,c=>([],[],c)
 | .p a b,x,c=>match ek a x.1 c with
  |(u,p,c)=>match ek b x.2 c with
   |(v,q,c)=>(u++v,p++q,c)
 | .l t,x,c=>([.sl c],[.sli none c t x false],c+1)
 | .ex,x,c=>([.int .i64 x.op,.int .i64 x.n,.int .i64 x.at_,.sl c],[.sli none c .ex x.l false],c+1)
structure auQ(T:aE)(M:Nat->Prop)(w:World)(vs:yp)(c:Nat)(ρ ρ':aB)(m:List AV×List Row×Nat):Prop where
 ag:aZ c ρ ρ'
 le:c<=m.2.2
 lw:AV.cr m.2.2 m.1=true
 eq:AV.ao ρ' m.1=vs
 rl:∀r∈m.2.1,r.low m.2.2=true
 rs:∀r∈m.2.1,∃j t l,r= .sli none j t l false
 rp:∀r∈m.2.1,(r.item ρ' T).P M w
theorem Row.gA{c d:Nat}(a:c<=d){r:Row}(h:r.low c=true):r.low d=true:=by
 cases r <;> simp only [Row.low,ar,hW] at h ⊢
 .exact ⟨by omega,AV.kT a _ h.2⟩
 .omega
 .omega
 .omega
 .exact ⟨by omega,AV.kT a _ h.2⟩
 .omega
 .omega
 .exact ⟨by omega,AV.gA a _ h.2⟩
theorem Jn{T:aE}{M:Nat->Prop}{w:World}:(t:Ty)->(x:t.T)->(c:Nat)->(vs:yp)->t.rep.rd M w vs x->(ρ:aB)->∃ρ',auQ T M w vs c ρ ρ' (ek t x c)
 | .i k,x,c,vs,h,ρ=>⟨ρ,.refl,ch _,rfl,by cases h;simp [ek,AV.ao,AV.val],(λ_ h=>by cases h),(λ_ h=>by cases h),(λ_ h=>by cases h)⟩
 | .bo,x,c,vs,h,ρ=>⟨ρ,.refl,ch _,rfl,by cases h;simp [ek,AV.ao,AV.val],(λ_ h=>by cases h),(λ_ h=>by cases h),(λ_ h=>by cases h)⟩
 | .s,x,c,vs,h,ρ=>⟨ρ,.refl,ch _,rfl,by cases h;simp [ek,AV.ao,AV.val],(λ_ h=>by cases h),(λ_ h=>by cases h),(λ_ h=>by cases h)⟩
 | .un,x,c,vs,h,ρ=>⟨ρ,.refl,ch _,rfl,by cases h;simp [ek,AV.ao],(λ_ h=>by cases h),(λ_ h=>by cases h),(λ_ h=>by cases h)⟩
 | .n,x,c,vs,h,ρ=>⟨ρ,.refl,ch _,rfl,by cases h;simp [ek,AV.ao,AV.val],(λ_ h=>by cases h),(λ_ h=>by cases h),(λ_ h=>by cases h)⟩
 | .mp _ _,x,c,vs,h,ρ=>h.elim
 | .p a b,x,c,vs,h,ρ=>by
  obtain ⟨us,m,rfl,u,q⟩:=h;obtain ⟨j,f⟩:=Jn (T:=T) a x.1 c us u ρ;obtain ⟨g,e⟩:=Jn (T:=T) b x.2 (ek a x.1 c).2.2 m q j;refine ⟨g,f.ag.trans e.ag f.le,cK f.le e.le,SO (AV.kT e.le _ f.lw) e.lw,?_,λr d=>?_,λr d=>?_,λr d=>?_⟩
  .simp only [ek,dJ];rw [AV.cn e.ag _ f.lw,f.eq,e.eq]
  .rcases List.mem_append.1 d with d|d
   .exact Row.gA e.le (f.rl r d)
   .exact e.rl r d
  .rcases List.mem_append.1 d with d|d
   .exact f.rs r d
   .exact e.rs r d
  .rcases List.mem_append.1 d with d|d
   .rw [Row.CI e.ag (f.rl r d)];exact f.rp r d
   .exact e.rp r d
 | .l t,x,c,vs,h,ρ=>by
  obtain ⟨v,rfl,h⟩:=h;refine ⟨ρ.set c { dB with v:=v },aB.bg,jm _,by simp [ek,AV.cr,AV.low],by simp [ek,AV.ao,AV.val,aB.bM],λr d=>?_,λr d=>?_,λr d=>?_⟩
  .simp only [ek,nt] at d;subst d;simp [Row.low,ek]
  .simp only [ek,nt] at d;subst d;exact ⟨_,_,_,rfl⟩
  .simp only [ek,nt] at d;subst d;simp only [Row.item,aB.bM];exact λ_=>⟨h,λhb=>by cases hb⟩
 | .ex,x,c,vs,h,ρ=>by
  obtain ⟨v,rfl,o⟩:=KJ h;refine ⟨ρ.set c { dB with v:=v },aB.bg,jm _,by simp [ek,AV.cr,AV.low],by simp [ek,AV.ao,AV.val,aB.bM],λr d=>?_,λr d=>?_,λr d=>?_⟩
  .simp only [ek,nt] at d;subst d;simp [Row.low,ek]
  .simp only [ek,nt] at d;subst d;exact ⟨_,_,_,rfl⟩
  .simp only [ek,nt] at d;subst d;simp only [Row.item,aB.bM];exact λ_=>⟨o,λhb=>by cases hb⟩
theorem OS:(t:Ty)->(x:t.T)->(c:Nat)->c<=(ek t x c).2.2
 | .i _,_,_|.bo,_,_|.s,_,_|.un,_,_|.n,_,_|.mp _ _,_,_=>ch _
 | .p a b,x,c=>cK (OS a x.1 c) (OS b x.2 _)
 | .l _,_,_|.ex,_,_=>jm _
theorem Of:(t:Ty)->(x:t.T)->(c:Nat)->∀r∈(ek t x c).2.1,∃j t l,r= .sli none j t l false
 | .i _,_,_,_,h|.bo,_,_,_,h|.s,_,_,_,h|.un,_,_,_,h|.n,_,_,_,h|.mp _ _,_,_,_,h=>by cases h
 | .p a b,x,c,r,h=>by
  rcases List.mem_append.1 h with h|h
  .exact Of a x.1 c r h
  .exact Of b x.2 _ r h
 | .l _,_,_,r,h=>by
  simp only [ek,nt] at h;subst h;exact ⟨_,_,_,rfl⟩
 | .ex,_,_,r,h=>by simp only [ek,nt] at h;subst h;exact ⟨_,_,_,rfl⟩
def xn(g:GK)(r:Row):Row:=match g,r with
 |none,r=>r
 |some g,.sli _ id t l b=> .sli (some g) id t l b
 |some _,r=>r
theorem vV{ρ:aB}{T:aE}{g:GK}{M:Nat->Prop}{w:World}{j:Nat}{t:Ty}{l:List t.T}(h:T.get g=true->((Row.sli none j t l false).item ρ T).P M w):
  ((xn g (.sli none j t l false)).item ρ T).cW=true/\((xn g (.sli none j t l false)).item ρ T).P M w:=by
 cases g with
 |none=>exact ⟨rfl,h (aE.get_none)⟩
 |some k=>
  refine ⟨rfl,λa=>?_⟩;exact h a (aE.get_none)
theorem DB{Γ:Ctx}{w:World}(h:Sat Γ w):∀(new:List Item),(∀it∈new,it.cW=true/\it.P Γ.M w)->Sat (new++Γ) w:=λnew hn=>by
 have key:∀new:List Item,(∀it∈new,it.cW=true/\it.P Γ.M w)->new.all (·.cW)=true/\ak3 Γ.M w new:=λnew=>by
  induction new with
  |nil=>exact λ_=>⟨rfl,trivial⟩
  |cons it l ih=>
   intro hn;obtain ⟨e,d⟩:=ih (λjt a=>hn jt (cb _ a));obtain ⟨c,b⟩:=hn it (cz ..);exact ⟨by simp only [qq,ar];exact ⟨c,e⟩,b,d⟩
 exact h.aoM new (key new hn).1 (key new hn).2
def tE(G H:List Row)(t:Ty)(v:AV):Option (List t.T):=match v with
 | .sl j=>(match eI G H (nI j) with
  |some (_,.sli none _ t' l _)=>cD.asL t ⟨.l t',l⟩
  |_=>none)
 | .raw (.slice none 0 0)=>some []
 |_=>none where cD.asL (t:Ty) (d:cD):Option (List t.T):=d.as (.l t)
theorem sL{t t':Ty}{l:List t'.T}{l':List t.T}(h:tE.cD.asL t ⟨.l t',l⟩=some l'):∃e:t'=t,e▸l=l':=by have:=cD.P0 h;cases this;exact ⟨rfl,rfl⟩
theorem Qv{ρ:aB}{T:aE}{G H:List Row}{Φ:Ctx}{w:World}{t:Ty}{v:AV}{l:List t.T}(c:Sat (ab ρ T G++(ab ρ T H++Φ)) w)(h:tE G H t v=some l):
  ca t.rep (Ctx.M (ab ρ T G++(ab ρ T H++Φ))) w (v.val ρ) l:=by
 unfold tE at h;split at h
 .rename_i j;split at h
  next s a t' l' b d=>obtain ⟨f,e⟩:=cp d;have:a=j:=aS e;subst this;obtain ⟨rfl,rfl⟩:=sL h;simp only [AV.val];exact ((Src.holds c f) aE.get_none).1
  .cases h
 .cases h;simp only [AV.val];exact ca.nil
 .cases h
def rn(G H:List Row):(t:Ty)->List AV->Option (t.T×List AV)
 | .i k,vs=>(match vs with
  | .int k' x::vs=>aC ( gG k k' ) ( some (x,vs) ) none
  |_=>none)
 | .bo,vs=>(match vs with
  | .bool x::vs=>some (x,vs)
  |_=>none)
 | .s,vs=>(match vs with
  | .str x::vs=>some (x,vs)
  |_=>none)
 | .un,vs=>some ((),vs)
 | .n,vs=>(match vs with
  | .ifc t (.agg [])::vs=>some (t,vs)
  |_=>none)
 | .p a b,vs=>(match rn G H a vs with
  |some x=>(match rn G H b x.2 with
   |some y=>some ((x.1,y.1),y.2)
   |none=>none)
  |none=>none)
 | .l t,vs=>(match vs with
  |v::vs=>(match tE G H t v with
   |some l=>some (l,vs)
   |none=>none)
  |_=>none)
 | .ex,vs=>(match vs with
  | .int .i64 a:: .int .i64 b:: .int .i64 c::v::vs=>(match tE G H .ex v with
   |some l=>some (Ex.mk a b c l,vs)
   |none=>none)
  |_=>none)
 |_,_=>none
theorem Xc{ρ:aB}{T:aE}{G H:List Row}{Φ:Ctx}{w:World}(d:Sat (ab ρ T G++(ab ρ T H++Φ)) w):(t:Ty)->(vs:List AV)->(x:t.T×List AV)->rn G H t vs=some x->
  ∃us,vs=us++x.2/\t.rep.rd (Ctx.M (ab ρ T G++(ab ρ T H++Φ))) w (AV.ao ρ us) x.1
 | .i k,vs,x,h=>by
  unfold rn at h;split at h
  next r y us=>obtain ⟨g,f⟩:=aK h;have:=iE g;subst this;cases f;exact ⟨[.int k y],rfl,by simp only [AV.ao,AV.val];rfl⟩
  .cases h
 | .bo,vs,x,h=>by
  unfold rn at h;split at h
  next y us=>cases h;exact ⟨[.bool y],rfl,by simp only [AV.ao,AV.val];rfl⟩
  .cases h
 | .s,vs,x,h=>by
  unfold rn at h;split at h
  next y us=>cases h;exact ⟨[.str y],rfl,by simp only [AV.ao,AV.val];rfl⟩
  .cases h
 | .un,vs,x,h=>by
  unfold rn at h;cases h;exact ⟨[],rfl,by simp only [AV.ao];rfl⟩
 | .n,vs,x,h=>by
  unfold rn at h;split at h
  next t us=>cases h;exact ⟨[.ifc t (.agg [])],rfl,by simp only [AV.ao,AV.val];rfl⟩
  .cases h
 | .mp _ _,vs,x,h=>by unfold rn at h;cases h
 | .p a b,vs,x,h=>by
  unfold rn at h;split at h
  .rename_i y m;split at h
   next z j=>cases h;obtain ⟨us,q,g⟩:=Xc d a vs y m;obtain ⟨e,o,f⟩:=Xc d b y.2 z j;refine ⟨us++e,by rw [q,o,bb],?_⟩;rw [dJ];exact ⟨_,_,rfl,g,f⟩
   .cases h
  .cases h
 | .l t,vs,x,h=>by
  unfold rn at h;split at h
  .rename_i v us;split at h
   next l hl=>cases h;refine ⟨[v],rfl,?_⟩;simp only [AV.ao];exact (Qv d hl).rsl
   .cases h
  .cases h
 | .ex,vs,x,h=>by
  unfold rn at h;split at h
  .rename_i a b c v us;split at h
   next l hl=>cases h;refine ⟨[.int .i64 a,.int .i64 b,.int .i64 c,v],rfl,?_⟩;simp only [AV.ao,AV.val];exact Sf (Qv d hl).rsl
   .cases h
  .cases h
def rd1(G H:List Row)(t:Ty)(vs:List AV):Option t.T:=match rn G H t vs with
 |some (x,[])=>some x
 |_=>none
theorem anA{ρ:aB}{T:aE}{G H:List Row}{Φ:Ctx}{w:World}(c:Sat (ab ρ T G++(ab ρ T H++Φ)) w){t:Ty}{vs:List AV}{x:t.T}(h:rd1 G H t vs=some x):
  t.rep.rd (Ctx.M (ab ρ T G++(ab ρ T H++Φ))) w (AV.ao ρ vs) x:=by
 unfold rd1 at h;split at h
 next y b=>cases h;obtain ⟨us,a,d⟩:=Xc c t vs _ b;simp only [l5] at a;rw [a];exact d
 .cases h
def rdL(G H:List Row)(t:Ty):Nat->List AV->Option (List t.T)
 |0,vs=>(match vs with
  |[]=>some []
  |_=>none)
 |k+1,vs=>(match rn G H t vs with
  |some x=>(match rdL G H t k x.2 with
   |some l=>some (x.1::l)
   |none=>none)
  |none=>none)
theorem YM{ρ:aB}{T:aE}{G H:List Row}{Φ:Ctx}{w:World}(a:Sat (ab ρ T G++(ab ρ T H++Φ)) w){t:Ty}:(k:Nat)->(vs:List AV)->(l:List t.T)->rdL G H t k vs=some l->
  l.length=k/\dh t.rep (Ctx.M (ab ρ T G++(ab ρ T H++Φ))) w (AV.ao ρ vs) l
 |0,vs,l,h=>by
  unfold rdL at h;split at h
  .cases h;exact ⟨rfl,by simp only [AV.ao];exact dh.nil⟩
  .cases h
 |k+1,vs,l,h=>by
  unfold rdL at h;split at h
  .rename_i x hx;split at h
   next l' hl=>cases h;obtain ⟨us,e,d⟩:=Xc a t vs x hx;obtain ⟨c,b⟩:=YM a k x.2 l' hl;refine ⟨by simp [c],?_⟩;rw [e,dJ];exact dh.cons d b
   .cases h
  .cases h
def cJ(ids:zh):List Row->List Row
 |[]=>[]
 |r::G=>(match r with
  | .own id t e l ver=>aC ( uL id ids ) ( .sli none id t l false )<| .own id t e l ver
  |r=>r)::cJ ids G
theorem ah7{ρ:aB}{T:aE}{ids:zh}{w:World}:{G:List Row}->{A B:Ctx}->Sat (A++(ab ρ T G++B)) w->Sat (A++(ab ρ T (cJ ids G)++B)) w
 |[],_,_,h=>h
 |r::G,A,B,h=>by
  have step:∀c:Row,Sat (A++(ab ρ T (c::G)++B)) w->Sat (A++(ab ρ T (c::cJ ids G)++B)) w:=λc h=>by
   have f:Sat ((A++[c.item ρ T])++(ab ρ T G++B)) w:=by simpa [ab] using h
   have:=ah7 (ids:=ids) f;simpa [ab] using this
  unfold cJ;split
  .rename_i id t e l a;cases g:uL id ids
   .exact step _ h
   .refine step _ ?_;have hi:(A++(ab ρ T (Row.own id t e l a::G)++B))[A.length]? =some (oa t.rep e (ρ id).v l ((ρ a).y=⟨.l t,l⟩)):=by rw [cy (ch _)];simp [ab,Row.item]
    have d:=h.ra hi (new:=(Row.sli none id t l false).item ρ T) ((Ext.refl w).vS _) (λb hb=>by cases hb) (λM' m hn=>λ_=>⟨(h.at_ hi).1.freeze (λb hb=>hn b hb (λhb=>by cases hb)) m,λhb=>by cases hb⟩);rw [q4 _ _ (ch _)] at d;simpa [ab] using d
  .exact step _ h
theorem s9{c:Nat}{ids:zh}:{G:List Row}->bJ c G=true->bJ c (cJ ids G)=true
 |[],_=>rfl
 |r::G,h=>by
  simp only [bJ,ar] at h;unfold cJ;simp only [bJ,ar];refine ⟨?_,s9 h.2⟩;split
  .rename_i id t e l b;have a:=h.1;simp only [Row.low,ar] at a;cases uL id ids
   .simp only [Row.low,ar];exact a
   .simp only [Row.low];exact a.1
  .exact h.1
theorem ka{ρ:aB}{T:aE}{ids:zh}{w:World}{G:List Row}{B:Ctx}(h:Sat (ab ρ T G++B) w):Sat (ab ρ T (cJ ids G)++B) w:=ah7 (A:=[]) h
def AV.fq:AV->zh
 | .sl id=>[id]
 | .agg l=>sls0 l
 |_=>[] where sls0:List AV->zh
 |[]=>[]
 | .sl id::l=>id::sls0 l
 |_::l=>sls0 l
section
variable {X : Cx} {R : Type} {r : R} {K : cT R} {T : aE} {fr : Fr} {st : aG} {g : GK} {d : Tmp} {ρ : aB} {Φ : Ctx} {w : World} {ty : TypeId} {pos : String} {af : zd} {gd : xa}
theorem jU.none_{P:Program}{Ev:Env}{o:Oper}{O:Value->World->Prop}(h:bL P Ev o w O):jU P T none Ev o w O:=⟨λ_=>h,λa=>by rw [aE.get_none] at a;cases a⟩
def adp(P:Program)(t:TypeId):Option (List AV):=match lJ P t with
 |some z=>some (z.2.2.cells.toList.map kr)
 |none=>none
def aj8(st:aG)(d:Tmp)(t:TypeId)(cs:List AV)(K:cT R):Option R:=K { st with c:=st.c+1,E:=cN (some d) none (.ptr st.c 0) st.E,G:= .box st.c t cs::st.G }
theorem adE{t:TypeId}{cs:List AV}(hl:st.low fr=true)(e:Sat (ab ρ T st.G++(ab ρ T fr.H++Φ)) w)(a:AV.cr st.c cs=true)(h:aj8 st d t cs K=some r):
  bc r K T fr st none (some d) ρ Φ (.pointer (some ⟨w.heap.size,0,none⟩)) (w.alloc (.cells (AV.ao ρ cs).toArray t)):=by
 refine bc.push (x:={ dB with b:=w.heap.size }) hl h (by simp only [AV.val,aB.bM]) ?_;simp only [Row.item,aB.bM];rw [AV.cn aB.bg _ a];exact e.push (fp _ _) (λb hb=>by
  have:b=w.heap.size:=by simpa [box] using hb
  subst this;simp) (λ_ _=>heap_alloc_new w _)
def aez(X:Cx)(st:aG)(d:Tmp)(t:TypeId)(K:cT R):Option R:=match adp X.P t with
 |some cs=>aj8 st d t cs K
 |none=>none
theorem alZ{t:TypeId}(hl:st.low fr=true)(e:Sat (ab ρ T st.G++(ab ρ T fr.H++Φ)) w)(h:aez X st d t K=some r):
  jU X.P T none (az ρ T st.E fr.F) ⟨some d,.alloc t,ty,pos,af,gd⟩ w (bc r K T fr st none (some d) ρ Φ):=by
 unfold aez at h;split at h
 .rename_i cs a;unfold adp at a;split at a
  next z c=>cases a;obtain ⟨n,b,z⟩:=z;refine .none_ (bL.gd (bL.oZ (Kp (zs:=z.cells.toList) (cU c) (by simp)) ?_));have:=adE hl e agM h;rwa [mH] at this
  .cases a
 .cases h
def an3(T:aE)(fr:Fr)(st:aG)(d:Tmp)(t:TypeId)(x:Operand)(K:cT R):Option R:=match bE T st.E fr.F none x with
 |some v=>aC ( PQ v&&AV.cr st.c (dC v) ) ( aj8 st d t (dC v) K ) none
 |none=>none
theorem arv{t:TypeId}(hl:st.low fr=true)(c:Sat (ab ρ T st.G++(ab ρ T fr.H++Φ)) w)(h:an3 T fr st d t x K=some r):
  jU X.P T none (az ρ T st.E fr.F) ⟨some d,.box t x,ty,pos,af,gd⟩ w (bc r K T fr st none (some d) ρ Φ):=by
 unfold an3 at h;split at h
 next v b=>obtain ⟨a,e⟩:=aK h;simp only [ar] at a;exact .none_ (bL.gd (bL.oZ (aoI (bK b) (AP a.1)) (adE hl c a.2 e)))
 .cases h
def ak8:AV->Bool
 | .agg _|.tuple _|.nv _=>false
 | .raw v=>v.oneCell'
 |_=>true
theorem aoO{v:AV}(h:ak8 v=true):(v.val ρ).oneCell'=true:=by
 cases v with
 |agg l=>cases h
 |tuple l=>cases h
 |nv l=>cases h
 |raw v=>simp only [AV.val];exact h
 |_=>simp only [AV.val];rfl
theorem P7:{l:List AV}->l.all ak8=true->(AV.ao ρ l).all Value.oneCell'=true
 |[],_=>by simp [AV.ao]
 |v::l,h=>by simp only [qq,ar] at h;simp only [AV.ao,qq,ar];exact ⟨aoO h.1,P7 h.2⟩
def agN(P:Program)(st:aG)(t:TypeId)(id off:Nat)(v:AV)(K:cT R):Option R:=match ob (Ar id) st.G with
 |some (j,.box _ e vs)=>(match lJ P t with
  |some z=>aC ( PQ v&&(dC v).all ak8&&Nat.beq (dC v).length z.1&&Nat.ble (off+(dC v).length) vs.length ) (
    K { st with G:=st.G.set j (.box id e (wa vs off (dC v))) } ) none
  |none=>none)
 |_=>none
theorem anO{t:TypeId}{id off:Nat}{v:AV}(g:Sat (ab ρ T st.G++(ab ρ T fr.H++Φ)) w)(hx:bE T st.E fr.F none x=some (.ptr id off))(o:bE T st.E fr.F none y=some v)(h:agN X.P st t id off v K=some r):
  bL X.P (az ρ T st.E fr.F) ⟨none,.store t x y,ty,pos,af,gd⟩ w (bc r K T fr st none none ρ Φ):=by
 unfold agN at h;split at h
 .rename_i j a e vs s;split at h
  .rename_i z m;obtain ⟨n,bytes,z⟩:=z;obtain ⟨k,B⟩:=aK h;simp only [ar] at k;obtain ⟨⟨⟨L,J⟩,I⟩,D⟩:=k;obtain ⟨l,C⟩:=mY s;have:a=id:=aS C;subst this;have d:=bK (ρ:=ρ) hx;have f:=bK (ρ:=ρ) o;simp only [AV.val] at d;have hi:=gw (ρ:=ρ) (T:=T) (Φ:=ab ρ T fr.H++Φ) l;have hb:fM w (ρ a).b e (AV.ao ρ vs):=g.at_ hi;obtain ⟨p,A,i⟩:=ajK (P:=X.P) (E:=az ρ T st.E fr.F) (w:=w) (dst:=none) (ty:=ty) (pos:=pos) (af:=af) (cU m) d f (AP L) (by rw [AV.bw];exact aS I) (P7 J) hb (by rw [AV.bw,AV.bw];exact D) AH;refine bL.gd (bL.alG p (bc.jw (av:= .raw undef) B (ch _) rfl (by simp only [AV.val]) ?_));have q:j<st.G.length:=(List.getElem?_eq_some_iff.1 l).1;show Sat (ab ρ T (st.G.set j _)++_) _;rw [fV q];refine g.ra hi A (λc u=>?_) (λ_ _ _=>i);have:c=(ρ a).b:=by simpa [Row.item,box] using u
   subst this;exact ⟨i.lt,.inl (by simp [Row.item,box])⟩
  .cases h
 .cases h
theorem aip{t:Ty}{p:gV}{l l':List t.T}{q q':Prop}{i:Nat}{Γ:Ctx}{w':World}(b:Sat Γ w)(hi:Γ[i]? =some (oa t.rep e p l q))(h:q')(g:kQ (eA (sl p)) w w')(a:w'.heap.size=w.heap.size)(f:vH p=eA (sl p))
  (j:∀M',Mv Γ.M w M' w'->iI t.rep e M' w' (sl p) l'):Sat (Γ.set i (oa t.rep e p l' q')) w':=by
 refine b.ra hi (by rw [<-f] at g;exact g) (λc d=>⟨by rw [a];exact (b.at_ hi).1.lt c d,.inl d⟩) (λM' m _=>⟨?_,h⟩);show bU t.rep e M' w' (sl p) l' (vH p);rw [f];exact bU.of (j M' m)
theorem sP{c:Nat}:∀{G:List Row} {j:Nat} {r:Row},bJ c G=true->G[j]? =some r->r.low c=true:=λ{G}=>by
 induction G with
 |nil=>intro j r _ h;simp at h
 |cons b G ih=>
  intro j r h a;simp only [bJ,ar] at h;cases j with
  |zero=>simp at a;subst a;exact h.1
  |succ j=>exact ih h.2 (by simpa using a)
def ae6(P:Program)(fr:Fr)(st:aG)(t:TypeId)(q off:Nat)(v:AV)(K:cT R):Option R:=
 match eI (cJ (AV.fq.sls0 (dC v)) st.G) fr.H (VL q) with
 |some (_,.kn none _ id ver u i x)=>(match ob (nI id) (cJ (AV.fq.sls0 (dC v)) st.G) with
  |some (j,.own _ u' e l ver')=>(match lJ P t with
   |some z=>aC ( Nat.beq ver ver'&&PQ v&&(dC v).all ak8&&Nat.beq (dC v).length z.1&&AV.cr st.c (dC v) ) (
     aC ( Nat.beq off 0&&Nat.beq (dC v).length u'.n' ) ( match rd1 (cJ (AV.fq.sls0 (dC v)) st.G) fr.H u' (dC v) with
      |some y=>K { st with c:=st.c+1,G:=(cJ (AV.fq.sls0 (dC v)) st.G).set j (.own id u' e (List.set l i.toNat y) st.c) }
      |none=>none )<|
      aC ( Nat.ble (off+(dC v).length) (ek u x (st.c+1)).1.length ) ( match rd1 ((ek u x (st.c+1)).2.1++cJ (AV.fq.sls0 (dC v)) st.G) fr.H u' (wa (ek u x (st.c+1)).1 off (dC v)) with
       |some y=>K { st with c:=(ek u x (st.c+1)).2.2,G:=(ek u x (st.c+1)).2.1++(cJ (AV.fq.sls0 (dC v)) st.G).set j (.own id u' e (List.set l i.toNat y) st.c) }
       |none=>none ) none ) none
   |none=>none)
  |_=>none)
 |_=>none
theorem amm{t:TypeId}{q off:Nat}{v:AV}(hl:st.low fr=true)(C:Sat (ab ρ T st.G++(ab ρ T fr.H++Φ)) w)(hx:bE T st.E fr.F none x=some (.adr q off))(hy:bE T st.E fr.F none y=some v)(h:ae6 X.P fr st t q off v K=some r):
  bL X.P (az ρ T st.E fr.F) ⟨none,.store t x y,ty,pos,af,gd⟩ w (bc r K T fr st none none ρ Φ):=by
 unfold ae6 at h;have g:=s9 (ids:=AV.fq.sls0 (dC v)) (aG.cS.1 hl).2.2.1;replace C:=ka (ids:=AV.fq.sls0 (dC v)) C;generalize cJ (AV.fq.sls0 (dC v)) st.G=G at h g C;split at h
 .rename_i s q' id R u i xe hf;split at h
  .rename_i j o u' e l Q Y;split at h
   .rename_i z hz;obtain ⟨n,bytes,z⟩:=z;obtain ⟨h1,h2⟩:=aK h;simp only [ar] at h1;obtain ⟨⟨⟨⟨a1,a2⟩,a3⟩,a4⟩,a5⟩:=h1;obtain ⟨f1,f2⟩:=cp hf;obtain ⟨S,k2⟩:=mY Y;have e1:q'=q:=aS f2;have e2:o=id:=aS k2;have e3:R=Q:=aS a1;subst e1;subst e2;subst e3;have A:=bK (ρ:=ρ) hx;have U:=bK (ρ:=ρ) hy;simp only [AV.val] at A;obtain ⟨I,b1,b2,b3⟩:=(Src.holds C f1) aE.get_none;have hi:=gw (ρ:=ρ) (T:=T) (Φ:=ab ρ T fr.H++Φ) S;obtain ⟨c1,c2⟩:=C.at_ hi;obtain ⟨e4,e5⟩:=QA b1 c2;subst e4;simp only at e5;subst e5;obtain ⟨o1,o2⟩:=c1.iJ b2;obtain ⟨o3,k,o4,o5⟩:=c1.atA b2;have hj:j<G.length:=(List.getElem?_eq_some_iff.1 S).1;have Z:(AV.ao ρ (dC v)).length=n:=by rw [AV.bw];exact aS a4
    rw [b3] at A;rcases eb h2 with ⟨h3,h4⟩|⟨_,h4⟩
    .simp only [ar] at h3;have e6:off=0:=aS h3.1;subst e6;split at h4
     .rename_i D p;have f:=anA C p;have M:k.length=u.rep.n:=u.rep.len o5;have hlu:(AV.ao ρ (dC v)).length=u.rep.n:=u.rep.len f;have V:pj k 0 (AV.ao ρ (dC v))=AV.ao ρ (dC v):=by unfold pj;simp only [List.take_zero,qO,j0];rw [qM (by omega),l5]
      obtain ⟨w',Y,hC,J,hP⟩:=Mq (P:=X.P) (E:=az ρ T st.E fr.F) (w:=w) (dst:=none) (ty:=ty) (pos:=pos) (af:=af) (cU hz) A U (AP a2) Z (P7 a3) o3 o1 o4 M (qw (by omega)) V f (λb hb=>Ctx.jV hi (by rw [<-o2] at hb;exact hb));refine bL.gd (bL.alG Y (bc.new (ρ':=ρ.set st.c { dB with y:=⟨.l u,List.set I i.toNat D⟩ }) (av:= .raw undef) hl h4 aB.bg (jm _) rfl (by simp only [AV.val]) ?_));show Sat (ab _ T (G.set j _)++_) _;rw [fV hj,bm aB.bg g];have:=aip (q':=((ρ.set st.c { dB with y:=⟨.l u,List.set I i.toNat D⟩ }) st.c).y=⟨.l u,List.set I i.toNat D⟩) C hi (by rw [aB.bM]) hC J o2 hP;have hlt:=(List.getElem?_eq_some_iff.1 S).2;have N:(ρ.set st.c { dB with y:=⟨.l u,List.set I i.toNat D⟩ }) o=ρ o:=by have d:=sP g S;simp only [Row.low,ar,hW] at d;exact aB.bg _ d.1
      simp only [Row.item,N];exact this
     .cases h4
    .obtain ⟨h5,h6⟩:=aK h4;split at h6
     .rename_i D p;obtain ⟨a,B⟩:=Jn (T:=T) u xe (st.c+1) k o5 (ρ.set st.c { dB with y:=⟨.l u,List.set I i.toNat D⟩ });have ag:aZ st.c ρ a:=aB.bg.trans B.ag (jm _);generalize ek u xe (st.c+1)=m at h5 h6 p B;have L:Sat (ab a T m.2.1++(ab ρ T G++(ab ρ T fr.H++Φ))) w:=DB C _ (λit bQ=>by obtain ⟨r,W,rfl⟩:=List.mem_map.1 bQ;obtain ⟨j1,t1,l1,rfl⟩:=B.rs _ W;exact ⟨rfl,B.rp _ W⟩)
      have eG:=bm (T:=T) ag g;have eH:=bm (T:=T) ag (aG.cS.1 hl).2.2.2;have hs2:Sat (ab a T (m.2.1++G)++(ab a T fr.H++Φ)) w:=by rw [bu,bb,eG,eH];exact L
      have f:=anA hs2 p;rw [bu,bb,eG,eH,<-AH,B.eq,AV.cn ag _ a5] at f;have O:(ab a T m.2.1++(ab ρ T G++(ab ρ T fr.H++Φ)))[m.2.1.length+j]? =some ((Row.own o u e I R).item ρ T):=by
       rw [cy (by simp [ab])];have:m.2.1.length+j-(ab a T m.2.1).length=j:=by simp [ab]
       rw [this];exact hi
      obtain ⟨d1,d2⟩:=L.at_ O;obtain ⟨p1,p2⟩:=d1.iJ b2;have M:k.length=u.rep.n:=u.rep.len o5;obtain ⟨w',Y,hC,J,hP⟩:=Mq (P:=X.P) (E:=az ρ T st.E fr.F) (w:=w) (dst:=none) (ty:=ty) (pos:=pos) (af:=af) (cU hz) A U (AP a2) Z (P7 a3) o3 p1 o4 M (by have:=B.eq;rw [<-this,AV.bw,AV.bw];exact h5) rfl f (λb hb=>Ctx.jV O (by rw [<-p2] at hb;exact hb))
      refine bL.gd (bL.alG Y (bc.new (ρ':=a) (av:= .raw undef) hl h6 ag (cK (jm _) B.le) rfl (by simp only [AV.val]) ?_));have hy1:(a st.c).y=⟨.l u,List.set I i.toNat D⟩:=by rw [B.ag _ (mV _),aB.bM]
      have:=aip L O hy1 hC J p2 hP;have d:=sP g S;simp only [Row.low,ar,hW] at d;show Sat (ab a T (m.2.1++G.set j _)++_) _;rw [bu,bb,fV hj,eG];rw [q4 _ _ (by simp [ab])] at this;have e7:m.2.1.length+j-(ab a T m.2.1).length=j:=by simp [ab]
      rw [e7] at this;simp only [Row.item,ag _ d.1];exact this
     .cases h6
   .cases h
  .cases h
 .cases h
end
section
variable {X : Cx} {R : Type} {r : R} {K : cT R} {T : aE} {fr : Fr} {st : aG} {g : GK} {d : Tmp} {ρ : aB} {Φ : Ctx} {w : World} {ty : TypeId} {pos : String} {af : zd} {gd : xa}
def adk{α:Type}(T:aE)(g:GK)(z:α)(m:Option α)(k:α->Option R):Option R:=match g with
 |none=>m.bind k
 |some _=>bl (T.get g) z m k
theorem CR{z:α}{m:Option α}{k:α->Option R}(h:adk T g z m k=some r):∃y,(T.get g=true->m=some y)/\k y=some r:=by
 unfold adk at h;split at h
 .obtain ⟨y,b,a⟩:=C1 h;exact ⟨y,λ_=>b,a⟩
 .obtain ⟨y,b,_,a⟩:=XT h;exact ⟨y,b,a⟩
def atc(T:aE)(g:GK)(st:aG)(d:Tmp)(t:Ty)(l:List t.T)(i:Int)(K:cT R):Option R:=
 adk T g t.sB (idx l i) λx=>K { st with c:=(ek t x (st.c+1)).2.2,E:=cN (some d) g (.adr st.c 0) st.E,G:= .elm g st.c (ek t x (st.c+1)).1::((ek t x (st.c+1)).2.1.map (xn g)++st.G) }
def atJ(T:aE)(g:GK)(st:aG)(d:Tmp)(id ver:Nat)(t:Ty)(l:List t.T)(i:Int)(K:cT R):Option R:=
 adk T g t.sB (idx l i) λx=>K { st with c:=st.c+1,E:=cN (some d) g (.adr st.c 0) st.E,G:= .kn g st.c id ver t i x::st.G }
def ajq(X:Cx)(T:aE)(fr:Fr)(st:aG)(g:GK)(d:Tmp)(t:TypeId)(x y:Operand)(K:cT R):Option R:=match fR X.P t with
 |some e=>(match lJ X.P e with
  |some z=>(match bE T st.E fr.F g x with
   |some (.sl id)=>(match bE T st.E fr.F g y with
    |some (.int _ i)=>(match eI st.G fr.H (nI id) with
     |some (_,.sli g' _ t l _)=>aC ( T.imp g g'&&Nat.beq z.1 t.n' ) ( atc T g st d t l i K ) none
     |some (_,.own _ t _ l ver)=>aC ( Nat.beq z.1 t.n' ) ( atJ T g st d id ver t l i K ) none
     |_=>none)
    |_=>none)
   |_=>none)
  |none=>none)
 |none=>none
theorem aiB{t:TypeId}(hl:st.low fr=true)(R:Sat (ab ρ T st.G++(ab ρ T fr.H++Φ)) w)(h:ajq X T fr st g d t x y K=some r):
  Ub X.P T g (az ρ T st.E fr.F) ⟨some d,.indexAddr t x y,ty,pos,af,gd⟩ w (bc r K T fr st g (some d) ρ Φ):=by
 unfold ajq at h;split at h
 .rename_i e he;split at h
  .rename_i z hz;obtain ⟨n,bytes,z⟩:=z;split at h
   .rename_i id hx;split at h
    .rename_i k i hy;have D:=aW (ρ:=ρ) hx;have C:=aW (ρ:=ρ) hy;simp only [AV.val] at D C;split at h
     .rename_i s g' m t l b Y;obtain ⟨Q,Z⟩:=aK h;simp only [ar] at Q;have hn:n=t.rep.n:=(aS Q.2).trans t.EJ.symm;obtain ⟨J,f2⟩:=cp Y;have:m=id:=aS f2;subst this;obtain ⟨u,S,b2⟩:=CR Z;have hT:=Src.holds R J
      -- the element, where g holds
      have key:∃(p:Addr) (f:aB),aZ st.c ρ f/\(f st.c).a=p/\(T.get g=true->B1 (sl (ρ m).v) i n p)/\
        ∀it∈ab f T (.elm g st.c (ek t u (st.c+1)).1::((ek t u (st.c+1)).2.1.map (xn g))),it.cW=true/\it.P (Ctx.M (ab ρ T st.G++(ab ρ T fr.H++Φ))) w:=by
       cases B:T.get g
       .refine ⟨⟨0,0,none⟩,ρ.set st.c dB,aB.bg,by rw [aB.bM];rfl,(λh=>by cases h),λit bQ=>?_⟩;rw [ab,et] at bQ;rcases List.mem_cons.1 bQ with rfl|bQ
        .exact ⟨rfl,λh=>by rw [B] at h;cases h⟩
        .obtain ⟨r1,I,rfl⟩:=List.mem_map.1 bQ;obtain ⟨r2,q,rfl⟩:=List.mem_map.1 I;obtain ⟨j1,t1,l1,rfl⟩:=Of _ _ _ _ q;exact vV (λh=>by rw [B] at h;cases h)
       .have hS:=(hT (aE.kZ Q.1 B)).1;obtain ⟨e1,vs,e2,e3,e4⟩:=hS.atA (S B);obtain ⟨f,N⟩:=Jn (T:=T) t u (st.c+1) vs e3 (ρ.set st.c { dB with a:=tu (sl (ρ m).v) i t.rep.n });have O:(f st.c).a=tu (sl (ρ m).v) i t.rep.n:=by rw [N.ag _ (mV _),aB.bM]
        refine ⟨tu (sl (ρ m).v) i t.rep.n,f,aB.bg.trans N.ag (jm _),O,λ_=>by rw [hn];exact e1,λit bQ=>?_⟩;rw [ab,et] at bQ;rcases List.mem_cons.1 bQ with rfl|bQ
        .refine ⟨rfl,λ_=>?_⟩;show ¬Ctx.M _ (f st.c).a.block/\bW w (f st.c).a _;rw [O,N.eq];exact ⟨e4,e2⟩
        .obtain ⟨r1,I,rfl⟩:=List.mem_map.1 bQ;obtain ⟨r2,q,rfl⟩:=List.mem_map.1 I;have W:=N.rp _ q;obtain ⟨j1,t1,l1,rfl⟩:=N.rs _ q;exact vV (λ_=>W)
      obtain ⟨p,f,k1,k2,k3,k4⟩:=key;have V:=DB R _ k4;have eG:=bm (T:=T) k1 (aG.cS.1 hl).2.2.1;have o:bc r K T fr st g (some d) ρ Φ (.pointer (some p)) w:=by
       refine bc.new (ρ':=f) hl b2 k1 (cK (jm _) (OS _ _ _)) rfl (by simp only [AV.val,k2];simp [Addr.add]) ?_;show Sat (ab f T (Row.elm g st.c _::(_++st.G))++_) w;have e8:ab f T (Row.elm g st.c (ek t u (st.c+1)).1::((ek t u (st.c+1)).2.1.map (xn g)++st.G))=ab f T (.elm g st.c (ek t u (st.c+1)).1::((ek t u (st.c+1)).2.1.map (xn g)))++ab f T st.G:=by simp [ab]
       rw [e8,eG,bb];exact V
      exact ⟨_,λw'=>Hf (cm he) (cU hz) D C k3,o⟩
     .rename_i s m t e' l L Y;obtain ⟨Q,Z⟩:=aK h;have hn:n=t.rep.n:=(aS Q).trans t.EJ.symm;obtain ⟨J,f2⟩:=cp Y;have:m=id:=aS f2;subst this;obtain ⟨u,S,b2⟩:=CR Z;obtain ⟨hO,U⟩:=Src.holds R J;have A:m<st.c/\L<st.c:=by
       have:(Row.own m t e' l L).low st.c=true:=by
        cases s with
        |top j=>exact sP (aG.cS.1 hl).2.2.1 J
        |cJ j=>exact sP (aG.cS.1 hl).2.2.2 J
        |_=>exact J.elim
       simpa only [Row.low,ar,hW] using this
      have o:bc r K T fr st g (some d) ρ Φ (.pointer (some (tu (sl (ρ m).v) i t.rep.n))) w:=by refine bc.push (x:={ dB with a:=tu (sl (ρ m).v) i t.rep.n }) hl b2 (by simp only [AV.val,aB.bM];simp [Addr.add]) (R.add rfl ?_);intro B;rw [aB.bg _ A.1,aB.bg _ A.2,aB.bM];exact ⟨l,U,S B,rfl⟩
      exact ⟨_,λw'=>Hf (cm he) (cU hz) D C (λB=>by rw [hn];exact (hO.atA (S B)).1),o⟩
     .cases h
    .cases h
   .cases h
  .cases h
 .cases h
def Yt(X:Cx)(T:aE)(fr:Fr)(st:aG)(g:GK)(d:Tmp)(t:TypeId)(q off:Nat)(K:cT R):Option R:=match eI st.G fr.H (VL q) with
 |some (_,.kn g' _ id ver u _ x)=>(match eI st.G fr.H (nI id) with
  |some (_,.own _ _ _ _ ver')=>aC ( Nat.beq ver ver'&&T.imp g g' ) ( match lQ X.P t ((ek u x st.c).1.drop off) with
   |some v=>K { st with c:=(ek u x st.c).2.2,E:=cN (some d) g v st.E,G:=(ek u x st.c).2.1.map (xn g)++st.G }
   |none=>none ) none
  |_=>none)
 |_=>none
theorem aaV{t:TypeId}{q off:Nat}(hl:st.low fr=true)(V:Sat (ab ρ T st.G++(ab ρ T fr.H++Φ)) w)(hx:bE T st.E fr.F g x=some (.adr q off))(h:Yt X T fr st g d t q off K=some r):
  ∃v,(∀w',Ext w w'->bq X.P (az ρ T st.E fr.F) (T.get g) ⟨some d,.load t x,ty,pos,af,gd⟩ w' v)/\bc r K T fr st g (some d) ρ Φ v w:=by
 unfold Yt at h;split at h
 .rename_i s g' q' id N u i k hf;split at h
  .rename_i s2 O u' e l A Y;obtain ⟨h1,Z⟩:=aK h;simp only [ar] at h1;split at Z
   .rename_i v J;obtain ⟨f1,f2⟩:=cp hf;obtain ⟨f3,f4⟩:=cp Y;have e1:q'=q:=aS f2;have e2:O=id:=aS f4;have e3:N=A:=aS h1.1;subst e1;subst e2;subst e3;have f:=aW (ρ:=ρ) hx;simp only [AV.val] at f;have hF:=Src.holds V f1;obtain ⟨hO,R⟩:=Src.holds V f3;have key:∃(b:aB) (vs:yp),aZ st.c ρ b/\AV.ao b (ek u k st.c).1=vs/\(T.get g=true->bW w (ρ q').a vs)/\
      ∀it∈ab b T ((ek u k st.c).2.1.map (xn g)),it.cW=true/\it.P (Ctx.M (ab ρ T st.G++(ab ρ T fr.H++Φ))) w:=by
     cases D:T.get g
     .refine ⟨ρ,_,.refl,rfl,(λh=>by cases h),λit bQ=>?_⟩;obtain ⟨r1,o,rfl⟩:=List.mem_map.1 bQ;obtain ⟨r2,j,rfl⟩:=List.mem_map.1 o;obtain ⟨j1,t1,l1,rfl⟩:=Of _ _ _ _ j;exact vV (λh=>by rw [D] at h;cases h)
     .obtain ⟨l0,b1,b2,b3⟩:=hF (aE.kZ h1.2 D);obtain ⟨e4,e5⟩:=QA b1 R;subst e4;simp only at e5;subst e5;obtain ⟨_,vs,e6,e7⟩:=hO.atA b2;obtain ⟨b,I⟩:=Jn (T:=T) u k st.c vs e7 ρ;refine ⟨b,vs,I.ag,I.eq,λ_=>by rw [b3];exact e6,λit bQ=>?_⟩;obtain ⟨r1,o,rfl⟩:=List.mem_map.1 bQ;obtain ⟨r2,j,rfl⟩:=List.mem_map.1 o;have W:=I.rp _ j;obtain ⟨j1,t1,l1,rfl⟩:=I.rs _ j;exact vV (λ_=>W)
    obtain ⟨b,vs,k1,k2,k3,k4⟩:=key;have U:=DB V _ k4;have eG:=bm (T:=T) k1 (aG.cS.1 hl).2.2.1;have B:bc r K T fr st g (some d) ρ Φ (v.val b) w:=by refine bc.new (ρ':=b) hl Z k1 (OS _ _ _) rfl rfl ?_;show Sat (ab b T (_++st.G)++_) w;rw [bu,eG,bb];exact U
    refine ⟨_,λw' S=>akK λD=>?_,B⟩;rw [D] at f ⊢;have hc:=(k3 D).ext S;have m:bW w' ((ρ q').a.add off) (AV.ao b ((ek u k st.c).1.drop off)):=by refine hc.sub _ ?_;rw [AV.iK,k2,hV (ch _)]
    have h':lQ X.P t (((ek u k st.c).1.drop off).drop 0)=some v:=by simpa using J
    obtain ⟨dd,n,bytes,z,c1,c2,y⟩:=oS (ρ:=b) h';cases hd:kJ dd
    .rw [hd] at y;simp only [cL,j3] at y;refine NW c1 hd f (λ_=>?_);have:=m.sub (us:=[v.val b]) 0 (by
      cases hq:AV.ao b ((ek u k st.c).1.drop off) with
      |nil=>rw [hq] at y;cases y
      |cons a l=>rw [hq] at y;cases y;simp)
     simpa [Addr.add] using this
    .unfold lQ at J;rw [c1] at J;rcases eb J with ⟨_,p⟩|⟨p,_⟩
     .split at p
      .rename_i z2 Q;obtain ⟨n2,L,z2⟩:=z2;obtain ⟨h4,h5⟩:=aK p;cases h5;have C:n2<=((ek u k st.c).1.drop off).length:=c5 h4;simp only [AV.val];refine PS c1 hd (cU Q) f (λ_=>?_) ?_
       .have:=m.sub (us:=AV.ao b (((ek u k st.c).1.drop off).take n2)) 0 (by rw [AV.kP,n3,cx,AV.bw,ed C])
        simpa [Addr.add] using this
       .rw [AV.bw,cx,ed C]
      .cases p
     .rw [hd] at p;cases p
   .cases Z
  .cases h
 .cases h
theorem aoq{t:TypeId}{q off:Nat}(hl:st.low fr=true)(c:Sat (ab ρ T st.G++(ab ρ T fr.H++Φ)) w)(hx:bE T st.E fr.F g x=some (.adr q off))(h:Yt X T fr st g d t q off K=some r):
  jU X.P T g (az ρ T st.E fr.F) ⟨some d,.load t x,ty,pos,af,gd⟩ w (bc r K T fr st g (some d) ρ Φ):=by
 obtain ⟨v,b,a⟩:=aaV (ty:=ty) (pos:=pos) (af:=af) (gd:=gd) hl c hx h;refine ⟨λe=>bL.gd (bL.run ?_ a),λ_=>⟨_,a⟩⟩;rw [e] at b;exact b w (Ext.refl w)
end
end Go.Proofs.YthhmkmmmbcjghaaGreatDoor
