/- Own texts for ToolTells, cut and joined by a program. -/
import Derived.Test.YtkedhpmpejhekaaGreatDoorToolTellsA
import Derived.Lib.AppendZerosOnto
import Derived.Lib.Overlaps
import Derived.Lib.AppendStr
import Derived.Lib.UnsafeStr
import Derived.Lib.Builder
import Derived.Laws.Externs
import Derived.RecoverIn
set_option linter.all false
namespace Go.Proofs.YtkedhpmpejhekaaGreatDoor
open IntKind (u8)
theorem TI.zero{P:Program}{e:TypeId}{size bytes:Nat}{z:Value}(h:TI P e size bytes z)(w:World):(zeroValue e).run P w= .ok z w:=by obtain ⟨i,hi,_,_,a⟩:=h.out;simp [zeroValue,typeInfo,hi,a]
section
variable {α : Type} {A : dG α} {e : TypeId} {M : Nat -> Prop} {w : World} {v : Value} {xs : List α} {R : za}
theorem bL.aqM{j:Int}(h:bL A e M w v xs R)(hc:dp 0 j xs.length=true):∃p:fE,Qb v 0 j A.n (sl p)/\bL A e M w (sl p) (bD xs 0 j) R:=by
 obtain ⟨⟨_,u⟩,d⟩:=B6.1 hc;have f:bD xs 0 j=xs.take j.toNat:=by simp [bD]
 rw [f];rcases h with ⟨rfl,cells,⟨t,s⟩,l⟩|⟨rfl,rfl,⟨a,rfl⟩,r⟩
 .rcases s with ⟨rfl,m⟩|⟨g,off,cap,cur,rfl,q,c,o,k,i⟩
  .have hx:xs=[]:=cf m;subst hx;have b:j=0:=by simp at d;omega
   subst b;exact ⟨(none,0,0),⟨none,0,0,rfl,by omega,by omega,by omega,by omega,rfl⟩,.inl ⟨rfl,gm.nil⟩⟩
  .refine ⟨(some ⟨g,off,none⟩,j.toNat,cap),⟨_,_,cap,rfl,by omega,u,d,c,?_⟩,.inl ⟨rfl,cells.take (j.toNat*A.n),⟨?_,.inr ⟨g,off,cap,cur,by rw [b0,du (by omega)];rfl,q,?_,o,k,?_⟩⟩,l.take _⟩⟩
   .show Value.slice (some ⟨g,off,none⟩) j.toNat cap=_;simp [Addr.add]
   .rw [b0,b0,t];have:j.toNat<=xs.length:=by omega
    rw [du (e9 _ this),du this]
   .rw [b0];omega
   .have:j.toNat<=xs.length:=by omega
    rw [b0,du this,<-i,n7,du (e9 _ this)]
 .have b:j=0:=by simp at d;omega
  subst b;refine ⟨(a,0,0),⟨a,0,0,rfl,by omega,by omega,by omega,by omega,?_⟩,.inr ⟨rfl,by simp,⟨a,rfl⟩,r⟩⟩;show Value.slice a 0 0=_;simp
theorem bL.aqx{i:Int}(k:A.n=1)(h:bL A e M w v xs R)(hc:dp i (xs.length:Int) xs.length=true):∃p:fE,Qb v i (xs.length:Int) A.n (sl p)/\∃R',(∀b∈R',b∈R)/\bL A e M w (sl p) (bD xs i (xs.length:Int)) R':=by
 obtain ⟨⟨o,hi⟩,_⟩:=B6.1 hc;have l:bD xs i (xs.length:Int)=xs.drop i.toNat:=by unfold bD;rw [j0];simp
 rw [l];rcases h with ⟨rfl,cells,⟨B,y⟩,m⟩|⟨rfl,rfl,⟨a,rfl⟩,x⟩
 .rcases y with ⟨rfl,s⟩|⟨g,off,cap,cur,rfl,u,c,z,r,q⟩
  .have hx:xs=[]:=cf s;subst hx;have d:i=0:=by simp at hi;omega
   subst d;exact ⟨(none,0,0),⟨none,0,0,rfl,by omega,by omega,by omega,by omega,rfl⟩,_,λb hb=>hb,.inl ⟨rfl,gm.nil⟩⟩
  .by_cases f:cap=i.toNat
   .refine ⟨(some ⟨g,off,none⟩,0,0),⟨_,_,cap,rfl,o,hi,by omega,c,?_⟩,[],(λb hb=>by cases hb),.inr ⟨rfl,q8 (by omega),⟨_,rfl⟩,bP.emp⟩⟩;rw [hW f];simp only [sl];congr 1 <;> omega
   .have j:(⟨g,off,none⟩:Addr).add (i.toNat*A.n)=⟨g,off+i.toNat*A.n,none⟩:=by unfold Addr.add;split <;> simp_all
    have t:i.toNat*A.n+(cap-i.toNat)*A.n=cap*A.n:=by rw [<-p5];congr 1;omega
    refine ⟨(some ⟨g,off+i.toNat*A.n,none⟩,xs.length-i.toNat,cap-i.toNat),⟨_,_,cap,rfl,o,hi,by omega,c,?_⟩,_,λb hb=>hb,.inl ⟨rfl,cells.drop (i.toNat*A.n),⟨(m.drop _).1,.inr ⟨g,off+i.toNat*A.n,cap-i.toNat,cur,by rw [cr];rfl,u,?_,by omega,⟨by have:=r.1;omega,.inr k⟩,?_⟩⟩,m.drop _⟩⟩
    .rw [gx f];simp [sl,j]
    .rw [cr];omega
    .rw [cr,<-q,qc,n3,Nat.sub_mul]
 .have d:i=0:=by simp at hi;omega
  subst d;refine ⟨(a,0,0),⟨a,0,0,rfl,by omega,by omega,by simp,by omega,?_⟩,[],λb hb=>hb,.inr ⟨rfl,by simp,⟨a,rfl⟩,x⟩⟩;show Value.slice a 0 0=_;simp
end
section
variable {P : Program} {ρ : x4} {Q : bu} {n : Nat} {D : w9} {E : Env} {w : World} {ops : x6} {rest : y4} {Γ : Ctx} {i : Nat}
variable {d : Tmp} {ty : TypeId} {pos : String} {af : x8}
def LH(P:Program)(t:TypeId)(name:String)(f:FuncId)(b:Bool):Prop:=((P.info? t).bind λi=>(i.methods.find? (·.name==name)).map λm=>(m.path.toList,m.func))=some ([],some (f,b))
def Reach(P:Program)(w:World)(t:TypeId)(u:Value)(name:String)(f:FuncId)(v:Value):Prop:= ∀k,(method (k+1) t u name).run P w= .ok (f,v) w
theorem LH.out{t:TypeId}{a:String}{f:FuncId}{b:Bool}(h:LH P t a f b):∃i m,P.info? t=some i/\i.methods.find? (·.name==a)=some m/\m.path.toList=[]/\m.func=some (f,b):=by
 unfold LH at h;cases hi:P.info? t with
 |none=>rw [hi] at h;cases h
 |some i=>
  rw [hi] at h;simp only [bj] at h;cases c:i.methods.find? (·.name==a) with
  |none=>rw [c] at h;cases h
  |some m=>
   rw [c] at h;simp only [mi,b8,p0] at h;exact ⟨i,m,rfl,c,h.1,h.2⟩
theorem Reach.ptr{t e:TypeId}{u:Value}{a:String}{f:FuncId}(h:LH P t a f true)(b:P.underlying t=some (.pointer e)):Reach P w t u a f u:=λk=>by obtain ⟨i,m,hi,c,hp,d⟩:=h.out;unfold method;simp [typeInfo,hi,c,hp,d,follow,receiverAt,run_underlying b,Place.get]
theorem Reach.load{t e:TypeId}{a:Addr}{u:Value}{b:String}{f:FuncId}(h:LH P t b f false)(d:P.underlying t=some (.pointer e))(j:(loadVar e a).run P w= .ok u w):Reach P w t (.pointer (some a)) b f u:=λk=>by
 obtain ⟨i,m,hi,g,hp,l⟩:=h.out;have c:m.path= #[]:=by simpa using hp
 have e:∀s:String,Builtin.ssaWrapNilChk_ #[t] t #[.pointer (some a),strVal "",strVal s]=pure (.pointer (some a)):=λ_=>rfl;unfold method;simp [typeInfo,hi,g,l,c,follow,receiverAt,run_underlying d,Place.get,e,asAddr,j]
theorem akH{g:Bool}{f:FuncId}{r:Operand}{t:TypeId}{u u':Value}{b:String}{vs:xu}{xs:xa}{tys:Array TypeId}{dst:x5}{gd:Option (Nat×Bool)}
  (k:Enters P f) (i:ar E g r (.iface t u)) (j:g=true->Reach P w t u b f u') (c:gJ E g xs vs) {a:Act} (e:Fits n E a) (d:g=true):
  (execOp a.eval ⟨dst,.call ⟨.invoke r b,xs.toArray,tys⟩,ty,pos,af,gd⟩).run P w= .ok (.enter f (u'::vs).toArray) w:=by
 have s:(Array.map a.eval xs.toArray)=vs.toArray:=by simp [c.map e d]
 have l:=k (u'::vs).toArray w;have h:=j d (P.types.size+99);have q:P.types.size+99+1=P.types.size+Made.depth:=rfl;rw [q] at h;have p:(#[Value.iface t u]++vs.toArray)[0]? =some (Value.iface t u):=by simp
 have o:(#[Value.iface t u]++vs.toArray).extract 1 (#[Value.iface t u]++vs.toArray).size=vs.toArray:=by simp
 have m:(#[u']++vs.toArray)=(u'::vs).toArray:=by simp
 simp only [execOp,resolve,i n a e d,s,Sem.run_bind,Sem.run_pure,Result.andThen_ok,invoke,p,o,callMethod,run_program,h,m,l]
end
section
variable {P : Program} {w : World}
theorem UL{α:Type}{A:dG α}{M:Nat->Prop}(t g e:TypeId)(i:TypeInfo)(z:Value)(V:P.underlying t=some (.slice e))(hi:P.info? e=some i)(T:i.zero=some z)(H:i.size=A.n)
  (s:z.cells.size=A.n) {p:Option Addr} {u:Value} {xs ys:List α} (hx:bP A M w (.slice p xs.length xs.length) xs) (U:bP A M w u ys) (o:ys≠[]) (a:aH (xs.length+ys.length) i.bytes=true):
  ∃v' w',(Builtin.append_ #[t,t] g #[.slice p xs.length xs.length,u]).run P w= .ok v' w'/\Ext w w'/\(∀b∈dv v',b<w'.heap.size/\w.heap.size<=b)/\(∀M',Mv M w M' w'->gm A e M' w' v' (xs++ys)):=by
 by_cases k:xs=[]
 .subst k;rcases sA t g e i z V hi T H s hx U (by simpa using a) with ⟨_,h⟩|h
  .exact absurd h o
  .simpa using h
 simp only [aH,ae] at a;have O:=cn a.1;have N:=cn a.2;have hlx:0<xs.length:=List.length_pos_iff.2 k;have hly:0<ys.length:=List.length_pos_iff.2 o;rcases hx with ⟨⟨a0,R⟩,Q⟩|⟨b,off,cap,cs,e',fr,R,hMb,hb,hc,Z,q⟩
 .exact absurd Q k
 rcases U with ⟨_,Q⟩|⟨Y,f,C,S,e2,fr2,rfl,X,B,hc2,W,d⟩
 .exact absurd Q o
 simp only [Value.slice.injEq] at R;obtain ⟨rfl,_,y⟩:=R;subst y;have c:∀{b off cap:Nat} {cs:xc} {e':TypeId} {fr:Nat×Nat} {l:List α},w.heap[b]? =some (.cells cs e' fr)->∀j x,((cs.toList.drop off).take (l.length*A.n))[j]? =some x->w.cell? ((⟨b,off,none⟩:Addr).add j)=some x:=by
  intro b off cap cs e' fr l hb j x r;have key:bM w ⟨b,off,none⟩ ((cs.toList.drop off).take (l.length*A.n)):=⟨rfl,cs,e',fr,hb,λj u r=>by
   rw [l5] at r;split at r
   .simpa [j5] using r
   .cases r⟩
  exact key.cell r
 generalize K:(cs.toList.drop off).take (xs.length*A.n)=E at q;generalize J:(S.toList.drop f).take (ys.length*A.n)=D at d;have G:∀j x,E[j]? =some x->w.cell? ((⟨b,off,none⟩:Addr).add j)=some x:=by rw [<-K];exact c (cap:=0) hb
 have F:∀j x,D[j]? =some x->w.cell? ((⟨Y,f,none⟩:Addr).add j)=some x:=by rw [<-J];exact c (cap:=0) B
 have I:=grownCap_ge w (xs.length+ys.length) xs.length e;have L:grownCap w (xs.length+ys.length) xs.length e<=maxLen:=grownCap_le_maxLen w _ _ e (by simpa [maxLen] using N);have v:=run_append_grow (P:=P) w t g e i z V hi T ⟨b,off,none⟩ xs.length xs.length E (by rw [H];exact q.1) G ⟨Y,f,none⟩ ys.length C D (by rw [H];exact d.1) F (by omega) (by omega) (growslice_fits (by omega) O);refine ⟨_,_,v,⟨rfl,rfl,rfl,by simp,λb hb=>heap_alloc_old w.drew _ hb⟩,λb hb=>?_,λM' m=>⟨E++D,?_,(q.append d).mv m⟩⟩
 .have:b=w.heap.size:=by simpa [dv,Value.ownBlock] using hb
  subst this;exact ⟨by simp,bb _⟩
 .refine .of (b:=0) ⟨by rw [ca,q.1,d.1,ca,p5],.inr ⟨w.heap.size,_,_,by rw [ca],qd _,heap_alloc_new w.drew _,by rw [ca];exact I,L,?_,?_⟩⟩
  .simp only [qu,mo,size_zeroCells,s,q.1,d.1,<-p5];congr 1;omega
  .have hl:(E++D).length=(xs++ys).length*A.n:=by rw [ca,q.1,d.1,ca,p5]
   rw [<-hl];simp only [qS];exact q4
end
section
variable {P : Program} {ρ : x4} {Q : bu} {n : Nat} {D : w9} {E : Env} {w : World} {ops : x6} {rest : y4} {Γ : Ctx}
variable {d : Tmp} {ty : TypeId} {pos : String} {af : x8}
theorem bP.anv{α:Type}{A:dG α}{M:Nat->Prop}{v:Value}{xs:List α}{i j:Int}(h:bP A M w v xs)(hc:jR i j j xs.length=true):
  ∃p:Option Addr,MW v i j j A.n (sl (p,(bD xs i j).length,(bD xs i j).length))/\bP A M w (sl (p,(bD xs i j).length,(bD xs i j).length)) (bD xs i j):=by
 obtain ⟨p,b,a⟩:=bP.aqK (g:=true) (λ_=>h) (λ_=>hc);have b:=b rfl;have a:=a rfl;obtain ⟨s,len,cap,hv,z,y,x,u,t,e⟩:=b;obtain ⟨o,pl,m⟩:=p;simp only [sl,Value.slice.injEq] at e;obtain ⟨r,k,f⟩:=e;obtain ⟨B,l,d⟩:=a.len;simp only [sl,Value.slice.injEq] at d;have c:pl=(bD xs i j).length:=d.2.1;have q:m=(bD xs i j).length:=by rw [f,<-c,k]
 subst q;rw [c] at a;refine ⟨o,⟨s,len,cap,hv,z,y,x,u,t,?_⟩,a⟩;simp only [sl,Value.slice.injEq];exact ⟨r,by rw [<-c];exact k,f⟩
end
section
variable {P : Program} {ρ : x4} {Q : bu} {n : Nat} {D : w9} {E : Env} {w : World} {ops : x6} {rest : y4} {Γ : Ctx} {g : Bool}
variable {d d2 : Tmp} {ty ty2 : TypeId} {pos pos2 : String} {af af2 : x8}
end
section
variable {P : Program} {ρ : x4} {Q : bu} {n : Nat} {D : w9} {E : Env} {w : World} {ops : x6} {rest : y4} {Γ : Ctx}
variable {ty : TypeId} {pos : String} {af : x8}
end
variable {α : Type} {A : dG α} {R : za} {b : Nat} {e : TypeId} {v : Value} {vs : xu} {x : Operand} {z : Value}
def mO{α:Type}(xs:List α)(i:Int)(ys:List α):List α:=xs.take i.toNat++ys++xs.drop i.toNat
def Rk(i:Int)(n:Nat):Bool:=decide (0<=i)&&decide (i<=n)
theorem ala{i:Int}{n:Nat}:Rk i n=true↔0<=i/\i<=n:=by simp [Rk]
section
variable {P : Program} {E : Env} {w : World} {g : Bool}
variable {dst : x5} {ty : TypeId} {pos : String} {af : x8} {gd : v7}
theorem rO{t ty e k bytes:Nat}(l:P.underlying t=some (.slice e))(g:TI P e k bytes z){b o dl dc:Nat}{cur:xc}{e':TypeId}{a:Addr}{ls sc:Nat}{cs:xu}
  (n:cs.length=Nat.min ls dl*k) (d:∀j v,cs[j]? =some v->w.cell? (a.add j)=some v) (p:w.heap[b]? =some (.cells cur e' (0,0))) (f:o+cs.length<=cur.size) (q:∀v∈cs,v.oneCell'=true):
  (Builtin.copy_ #[t,t] ty #[.slice (some ⟨b,o,none⟩) dl dc,.slice (some a) ls sc]).run P w= .ok (goInt (Nat.min ls dl)) (w.setRow b (cur.toList.take o++cs++cur.toList.drop (o+cs.length)).toArray):=by
 obtain ⟨i,hi,m,_,_⟩:=g.out;have h:=run_loadCells_list (P:=P) w a cs d;rw [n] at h;have c:=run_storeCells_at (P:=P) b o e' cs 0 cur w p (by simpa using f) q;simp only [qn] at c;simp [Builtin.copy_,run_underlying l,sizeOf,typeInfo,hi,m,Builtin.lenOf,Builtin.firstCells,h,c]
theorem YF{a:Option Addr}{n c:Nat}{t:TypeId}(b:P.underlying t=some (.slice e))(hx:ar E g x (.slice a n c)):
  bg P E g ⟨dst,.call ⟨.builtin .cap,#[x],#[t]⟩,ty,pos,af,gd⟩ w (.int .i64 c):=λn' h f d=>by
 simp [execOp,resolve,invoke,builtin,hx n' h f d,Builtin.cap_,run_underlying b,goInt]
theorem mg{x y:Operand}{b o n c i k bytes:Nat}{d:IntKind}{z:Value}{t e:TypeId}(h:P.underlying t=some (.slice e))(a:TI P e k bytes z)(hx:ar E g x (.slice (some ⟨b,o,none⟩) n c))(f:ar E g y (.int d (i:Int)))
  (q:i<=n) (j:n<=c) (p:i<c):bg P E g ⟨dst,.slice t x (some y) none none,ty,pos,af,gd⟩ w (.slice (some ⟨b,o+i*k,none⟩) (n-i) (c-i)):=by
 refine C8 (lo:=some y) (hi:=none) h a hx (λ_=>⟨_,_,rfl⟩) ⟨_,f⟩ rfl (λ_=>⟨_,_,_,rfl,by omega,by omega,Int.le_refl _,j,?_⟩);have m:(i:Int).toNat=i:=by omega
 have l:((n:Nat):Int).toNat=n:=by omega
 rw [m,l,gx (by omega)];simp [Addr.add]
theorem acG{x y:Operand}{a:Option Addr}{n c j k bytes:Nat}{m:IntKind}{z:Value}{t e:TypeId}(l:P.underlying t=some (.slice e))(h:TI P e k bytes z)(hx:ar E g x (.slice a n c))(i:ar E g y (.int m (j:Int)))
  (p:j<=c):bg P E g ⟨dst,.slice t x none (some y) none,ty,pos,af,gd⟩ w (.slice a j c):=by
 obtain ⟨q,hi,r,_,_⟩:=h.out;intro n' f d b;have s:((j:Nat):Int).toNat=j:=by omega
 by_cases hc:c=0
 .subst hc;have o:j=0:=by omega
  subst o;simp [execOp,hx n' f d b,i n' f d b,Instr.sliceAt,Instr.slice,Instr.sliceBounds,Instr.sliceBound,asIntOf,run_underlying l,sizeOf,typeInfo,hi]
 .cases a <;> simp [execOp,hx n' f d b,i n' f d b,Instr.sliceAt,Instr.slice,Instr.sliceBounds,Instr.sliceBound,asIntOf,run_underlying l,sizeOf,typeInfo,hi,p,Addr.add]
theorem ahz{f:FuncId}{xs:xa}{tys:Array TypeId}(a:gJ E g xs vs)(hc:(callFunc f vs.toArray).run P w= .ok (.value v) w):
  bg P E g ⟨dst,.call ⟨.value (.func f),xs.toArray,tys⟩,ty,pos,af,gd⟩ w v:=λn' e c b=>by
 have d:(Array.map e.eval xs.toArray)=vs.toArray:=by simp [a.map c b]
 simp only [execOp,resolve,Act.eval,Deferred.ofValue,d,Sem.run_bind,Sem.run_pure,Result.andThen_ok,invoke];simpa using hc
theorem OH{y:Operand}{t t':TypeId}{u r:Value}{w':World}(hx:ar E true x u)(c:ar E true y v)(d:(Builtin.append_ #[t,t'] ty #[u,v]).run P w= .ok r w'):
  kS P E ⟨dst,.call ⟨.builtin .append,#[x,y],#[t,t']⟩,ty,pos,af,gd⟩ w r w':=λn a b=>by simp [execOp,resolve,invoke,builtin,hx n a b rfl,c n a b rfl,d]
theorem xw{y:Operand}{t t':TypeId}{u r:Value}{w':World}(hx:ar E true x u)(c:ar E true y v)(d:(Builtin.copy_ #[t,t'] ty #[u,v]).run P w= .ok r w'):
  kS P E ⟨dst,.call ⟨.builtin .copy,#[x,y],#[t,t']⟩,ty,pos,af,gd⟩ w r w':=λn a b=>by simp [execOp,resolve,invoke,builtin,hx n a b rfl,c n a b rfl,d]
end
section
variable {w : World}
theorem cell_of_heap{cur:xc}{fr:Nat×Nat}(hb:w.heap[b]? =some (.cells cur e fr))(o:Nat)(l:xu)(c:l=(cur.toList.drop o).take l.length):∀j v,l[j]? =some v->w.cell? ((⟨b,o,none⟩:Addr).add j)=some v:=by
 intro j v a;have key:bM w ⟨b,o,none⟩ l:=⟨rfl,cur,e,fr,hb,λj u a=>by
  rw [c,l5] at a;split at a
  .simpa [j5] using a
  .cases a⟩
 exact key.cell a
theorem jw.trans{C:za}{a b c:World}(h:jw C a b)(k:jw C b c):jw C a c:=⟨k.os.trans h.os,k.tape.trans h.tape,k.output.trans h.output,cg h.size k.size,λi hi d=>(k.block i (ec hi h.size) d).trans (h.block i hi d)⟩
theorem uv(b:Nat)(row:xc):jw [b] w (w.setRow b row):=⟨rfl,rfl,rfl,by simp,λc _ a=>setRow_other w b c _ (by simpa using a)⟩
theorem ajX{l:xu}{a n c:Nat}(ha:a<=n)(hb:vs.length=b)(hc:n+b<=c)(j:l.length=c):
  let d:=l.take (a+b)++(l.drop a).take (n-a)++l.drop (a+b+((l.drop a).take (n-a)).length);let e:=d.take a++vs++d.drop (a+vs.length)
  d.length=c/\e.length=c/\e.take (n+b)=(l.take n).take a++vs++(l.take n).drop a:=by
 intro d e;have i:((l.drop a).take (n-a)).length=n-a:=by rw [b0,cr];omega
 have f:d.length=c:=by simp only [d,ca,b0,cr,i];omega
 have h:e.length=c:=by simp only [e,ca,b0,cr,f];omega
 refine ⟨f,h,?_⟩;have t1:d.take a=(l.take n).take a:=by simp only [d];rw [aO,pc (by rw [b0];omega),n7,n7,du (by omega),du ha]
 have t2:(d.drop (a+vs.length)).take (n-a)=(l.take n).drop a:=by simp only [d];rw [aO,si,hb];rw [de (by rw [b0];omega),mj,b0,du (by omega),Nat.sub_self,j6,pc (by omega),j0 (by omega),qc]
 simp only [e];rw [t1];have g:((l.take n).take a++vs).length=a+b:=by rw [ca,b0,b0];omega
 rw [qP,j0 (by omega),g,show n+b-(a+b)=n-a by omega,t2]
theorem al4{l z:xu}{a n:Nat}(ha:a<=n)(hb:vs.length=b)(g:l.length=n)(j:n+b<=a+z.length):
  let c:=l.take a++z;let d:=c.take a++vs++c.drop (a+vs.length);let e:=d.take (a+b)++l.drop a++d.drop (a+b+(l.drop a).length)
  d.length=c.length/\e.length=c.length/\e.take (n+b)=l.take a++vs++l.drop a:=by
 intro c d e;have k:c.length=a+z.length:=by simp only [c,ca,b0];omega
 have hd:(l.drop a).length=n-a:=by rw [cr,g]
 have i:d.length=c.length:=by simp only [d,ca,b0,cr];omega
 have h:e.length=c.length:=by simp only [e,ca,b0,hd,cr];omega
 refine ⟨i,h,?_⟩;have f:c.take a=l.take a:=by simp only [c];rw [pc (by rw [b0];omega),n7,Nat.min_self]
 have t1:d.take (a+b)=l.take a++vs:=by
  simp only [d];rw [f];have:(l.take a++vs).length=a+b:=by rw [ca,b0];omega
  rw [pc (by omega),j0 (by omega)]
 simp only [e];rw [t1];have:(l.take a++vs++l.drop a).length=n+b:=by rw [ca,ca,b0,hd];omega
 rw [pc (by omega),j0 (by omega)]
end
section
variable {P : Program} {w : World}
theorem ahL{M:Nat->Prop}{u:Value}{t ty:TypeId}{bytes:Nat}(s:P.underlying t=some (.slice e))(k:TI P e A.n bytes z)
  (d:z.cells.size=A.n) (i:0<A.n) {xs ys:List α} (l:bL A e M w v xs R) (f:bP A M w u ys) (C:∀b∈R,M b) (a:aH (xs.length+ys.length) bytes=true):
  ∃c R' w',(Builtin.append_ #[t,t] ty #[v,u]).run P w= .ok c w'/\jw R w w'/\(∀b∈R',b<w'.heap.size/\(b∈R\/w.heap.size<=b))/\∀M',Mv M w M' w'->bL A e M' w' c (xs++ys) R':=by
 obtain ⟨q,j,x,o,r⟩:=k.out;subst o;rcases l with ⟨rfl,l⟩|⟨rfl,rfl,⟨a0,rfl⟩,g⟩
 .obtain ⟨c,w',h,E,B,p⟩:=FM t ty e q z s j r x d l f C a i;exact ⟨c,dv c,w',h,E,B,λM' m=>bL.of (p M' m)⟩
 .rcases sA t ty e q z s j r x d g f (by simpa using a) with ⟨h,rfl⟩|⟨c,w',h,D,y,p⟩
  .exact ⟨_,[],w,h,(Ext.refl w).rK _,(λb hb=>by cases hb),λM' m=>bL.empty (g.mv m)⟩
  .exact ⟨c,dv c,w',h,D.rK _,(λb hb=>⟨(y b hb).1,.inr (y b hb).2⟩),λM' m=>bL.of (by simpa using p M' m)⟩
theorem bL.shape{M:Nat->Prop}{xs:List α}(h:bL A e M w v xs R):∃p c,v= .slice p xs.length c/\xs.length<=c:=by
 rcases h with ⟨_,cells,⟨_,b⟩,_⟩|⟨_,rfl,⟨a,rfl⟩,_⟩
 .rcases b with ⟨rfl,d⟩|⟨g,off,cap,cur,rfl,_,hc,_⟩
  .exact ⟨none,0,by rw [d],by omega⟩
  .exact ⟨_,_,rfl,hc⟩
 .exact ⟨a,0,rfl,bb _⟩
theorem bL.row{M:Nat->Prop}{xs:List α}(h:bL A e M w v xs R)(hx:xs≠[]):
  ∃b off c cur,v= .slice (some ⟨b,off,none⟩) xs.length c/\R=[b]/\w.heap[b]? =some (.cells cur e (0,0))/\xs.length<=c/\c<=maxLen/\(off+c*A.n=cur.size/\(off=0\/A.n=1))/\cM A M w ((cur.toList.drop off).take (xs.length*A.n)) xs:=by
 rcases h with ⟨k,cells,⟨_,l⟩,f⟩|⟨_,h,_⟩
 .rcases l with ⟨_,m⟩|⟨g,off,cap,cur,rfl,j,hc,i,d,a⟩
  .exact absurd (cf m) hx
  .exact ⟨g,off,cap,cur,rfl,by rw [k];rfl,j,hc,i,d,by rw [a];exact f⟩
 .exact absurd h hx
theorem bL.mk_{M:Nat->Prop}{xs:List α}{off c:Nat}{cur:xc}(g:w.heap[b]? =some (.cells cur e (0,0)))(hc:xs.length<=c)(f:c<=maxLen)(d:off+c*A.n=cur.size/\(off=0\/A.n=1))(a:cM A M w ((cur.toList.drop off).take (xs.length*A.n)) xs):
  bL A e M w (.slice (some ⟨b,off,none⟩) xs.length c) xs [b]:= .inl ⟨rfl,_,⟨a.1,.inr ⟨b,off,c,cur,rfl,g,hc,f,d,rfl⟩⟩,a⟩
theorem bL.aqm{M:Nat->Prop}{xs:List α}(h:bL A e M w v xs R)(j:A.n≠1)(hx:xs≠[]):
  ∃b c cur,v= .slice (some ⟨b,0,none⟩) xs.length c/\R=[b]/\w.heap[b]? =some (.cells cur e (0,0))/\xs.length<=c/\c<=maxLen/\cur.size=c*A.n/\cM A M w (cur.toList.take (xs.length*A.n)) xs:=by
 obtain ⟨b,off,c,cur,hv,i,g,hc,f,a,d⟩:=h.row hx;have k:off=0:=a.2.resolve_right j;subst k;exact ⟨b,c,cur,hv,i,g,hc,f,by have:=a.1;omega,by simpa using d⟩
theorem bL.mk0{M:Nat->Prop}{xs:List α}{c:Nat}{cur:xc}(f:w.heap[b]? =some (.cells cur e (0,0)))(hc:xs.length<=c)(d:c<=maxLen)(g:cur.size=c*A.n)(a:cM A M w (cur.toList.take (xs.length*A.n)) xs):
  bL A e M w (.slice (some ⟨b,0,none⟩) xs.length c) xs [b]:=bL.mk_ f hc d ⟨by omega,.inl rfl⟩ (by simpa using a)
theorem als{α:Type}{xs ys:List α}{i:Nat}(h:i<=xs.length):(mO xs (i:Int) ys).length=xs.length+ys.length:=by unfold mO;simp only [ca,b0,cr,qw];omega
theorem amY{xs ys:List α}:mO xs (xs.length:Int) ys=xs++ys:=by unfold mO;simp
theorem agh{α:Type}{A:dG α}{M:Nat->Prop}{a b:xu}{xs ys:List α}{i:Nat}(hx:cM A M w a xs)(c:cM A M w b ys):cM A M w (a.take (i*A.n)++b++a.drop (i*A.n)) (mO xs (i:Int) ys):=by unfold mO;rw [qw];exact ((hx.take i).append c).append (hx.drop i)
end
variable {E' : Env} {ps : Array Tmp} {r : LoopState -> Option Code -> Loop}
def rZ(b:Nat)(o:Obj):Item where
 own:=[b]
 P _ w:=w.heap[b]? =some o
 lt h c hc:=by
  have:c=b:=by simpa using hc
  subst this;exact (Array.getElem?_eq_some_iff.1 h).1
 cL h _ k _:=(k b (by simp)).trans h
 cG:=false
 hp h:=by cases h
def pack{γ:Type}(Γ:γ->Ctx)(R:za):Item where
 own:=R
 P M w:=(∀b∈R,b<w.heap.size)/\∃g,(∀b,(Γ g).M b↔b∈R)/\(∀it,it∈Γ g->it.P M w)/\
  (∀(i j:Nat) (it jt:Item),(Γ g)[i]? =some it->(Γ g)[j]? =some jt->i≠j->∀b,b∈it.own->b∉jt.own)
 lt h:=h.1
 cL {M M' w w'} h m k e:=by obtain ⟨h1,g,h2,h3,h4⟩:=h;exact ⟨λb hb=>ec (h1 b hb) m.1,g,h2,λit hi=>it.cL (h3 it hi) m (λb hb=>k b ((h2 b).1 ⟨it,hi,hb⟩)) e,h4⟩
 cG:=false
 hp h:=by cases h
structure Rec(n:Nat)(E:Env)(ps:Array Tmp)(assign body:Code)(b:Nat)(r:LoopState->Option Code->Loop):Prop where
 ex:∃fn tmps,Fits n E { tmps:=tmps,defers:=[] }/\r=λst pe=>{ state:=st,pending:=pe,fn,tmps,params:=ps,assign,body,defers:=b }
abbrev dz(l:Nat)(r:LoopState->Option Code->Loop)(st:LoopState)(pe:Option Code):Item:=rZ l (.loop (r st pe))
def mk(ds:za):w9:=ds.map λb=>{ target:= .collected b,args:= #[] }
def dK(ds:za):Item where
 own:=ds
 P _ w:=ds.Nodup/\∀b∈ds,w.heap[b]? =some (.deferred (some []))
 lt h b hb:=(Array.getElem?_eq_some_iff.1 (h.2 b hb)).1
 cL h _ k _:=⟨h.1,λb hb=>(k b hb).trans (h.2 b hb)⟩
 cG:=false
 hp h:=by cases h
section
variable {P : Program} {n : Nat} {D : w9} {E : Env} {w : World} {Γ : Ctx} {Q : bu}
theorem Sat.ao4(a:Sat Γ w):Sat (dK []::Γ) w:=a.push (Ext.refl w) (λb hb=>by cases hb) (λ_ _=>⟨List.nodup_nil,λb hb=>by cases hb⟩)
theorem Sat.PB{b:Nat}{ds:za}(e:Sat (rZ b (.deferred (some []))::dK ds::Γ) w):Sat (dK (b::ds)::Γ) w:=by
 have n:w.heap[b]? =some (.deferred (some [])):=e.at_ (i:=0) rfl;have k:ds.Nodup/\∀b∈ds,w.heap[b]? =some (.deferred (some [])):=e.at_ (i:=1) rfl;have m:b∉ds:=e.sep 0 1 _ _ rfl rfl (by omega) b (by simp [rZ]);have l:∀c,Ctx.M (rZ b (.deferred (some []))::dK ds::Γ) c↔Ctx.M (dK (b::ds)::Γ) c:=λc=>by
  simp only [Ctx.BY,rZ,dK,qF,List.not_mem_nil,or_false];constructor
  .rintro (h|h|h)
   .exact .inl (.inl h)
   .exact .inl (.inr h)
   .exact .inr h
  .rintro ((h|h)|h)
   .exact .inl h
   .exact .inr (.inl h)
   .exact .inr (.inr h)
 have mv:Mv (Ctx.M (rZ b (.deferred (some []))::dK ds::Γ)) w (Ctx.M (dK (b::ds)::Γ)) w:=Mv.weaken w (λc hc=>(l c).2 hc);have a:∀(j:Nat) (jt:Item) (c:Nat),Γ[j]? =some jt->c∈b::ds->c∉jt.own:=λj jt c d hc=>by
  rcases List.mem_cons.1 hc with rfl|hc
  .exact e.sep 0 (j+2) _ jt rfl (by simpa using d) (by omega) c (by simp [rZ])
  .exact e.sep 1 (j+2) _ jt rfl (by simpa using d) (by omega) c hc
 refine ⟨λit hi=>?_,λi j it jt hi d g c hc f=>?_⟩
 .rcases List.mem_cons.1 hi with rfl|hi
  .refine ⟨List.nodup_cons.2 ⟨m,k.1⟩,λc hc=>?_⟩;rcases List.mem_cons.1 hc with rfl|hc
   .exact n
   .exact k.2 c hc
  .exact it.cL (e.all it (aW _ (aW _ hi))) mv (λ_ _=>rfl) (fO.refl w)
 .cases i with
  |zero=>
   simp only [eF,b8] at hi;subst hi;cases j with
   |zero=>exact g rfl
   |succ j=>simp only [cd] at d;exact a j jt c d hc f
  |succ i=>
   simp only [cd] at hi;cases j with
   |zero=>
    simp only [eF,b8] at d;subst d;exact a i it c hi f hc
   |succ j=>
    simp only [cd] at d;exact e.sep (i+2) (j+2) it jt (by simpa using hi) (by simpa using d) (by omega) c hc f
theorem Sat.putObj{i b:Nat}{o d:Obj}(g:Sat Γ w)(hi:Γ[i]? =some (rZ b o)):Sat (Γ.set i (rZ b d)) (w.putObj b d):=by
 have hb:w.heap[b]? =some o:=g.at_ hi;have a:=(Array.getElem?_eq_some_iff.1 hb).1;have f:(w.putObj b d).heap[b]? =some d:=World.putObj_heap_same a;refine g.ng hi ⟨rfl,rfl,rfl,by simp,λc _ e=>World.putObj_heap_other (by simpa [rZ] using e)⟩ (λc hc=>?_) (λ_ _ _=>f);have:c=b:=by simpa [rZ] using hc
 subst this;exact ⟨by simpa using a,.inl (by simp [rZ])⟩
def kb(P:Program)(ρ:x4)(l n:Nat)(D:w9)(Q:bu)(E:Env)(_v:Value)(w:World):Prop:=
 ∃j w',(Instr.endLoop l).run P w= .ok j w'/\match j with
  |none=>At Q .normal n D E w'
  |some c=>WC P ρ c Q n D E w'
theorem kb.go{l:Nat}{assign body:Code}(c:Rec n E' ps assign body b r)(a:Sat (dz l r .ready none::Γ) w)
  (h:∀w',Sat Γ w'->At Q .normal n D E w'):kb P none l n D Q E v w:=by
 obtain ⟨fn,tmps,_,rfl⟩:=c.ex;have d:w.heap[l]? =some _:=a.at_ (i:=0) rfl;refine ⟨_,_,run_endLoop d (by simp),?_⟩;refine h _ ((a.putObj (i:=0) rfl).re 1 [] rfl)
theorem kb.jump{l:Nat}{assign body:Code}{c:Code}(d:Rec n E' ps assign body b r)(a:Sat (dz l r .done (some c)::Γ) w)
  (h:∀w',Sat Γ w'->WC P none c Q n D E w'):kb P none l n D Q E v w:=by
 obtain ⟨fn,tmps,_,rfl⟩:=d.ex;have e:w.heap[l]? =some _:=a.at_ (i:=0) rfl;refine ⟨_,_,run_endLoop e (by simp),?_⟩;exact h _ ((a.putObj (i:=0) rfl).re 1 [] rfl)
def Yld(P:Program)(l:Nat)(vs:xu)(w:World)(S:Value->World->Prop):Prop:=
 ∃fn tmps assign body,(Instr.yield l vs.toArray).run P w= .ok (.round l fn tmps assign body) w/\RoundIn (FW none) 0 P l fn tmps assign body w (RE S (λ_ _=>False))
def abD:List Tmp->xu->Env->Env
 |p::ps,v::vs,E=>abD ps vs ((p,true,v)::E)
 |_,_,E=>E
theorem adE:∀(ps:List Tmp) (vs:xu) {E:Env} {tmps:xc},ps.all (λp=>Nat.blt p n)=true->Fits n E { tmps:=tmps,defers:=[] }->
  Fits n (abD ps vs E) { tmps:=(ps.zip vs).foldl (λt (p,v)=>t.setIfInBounds p v) tmps,defers:=[] }
 |[],_,_,_,_,h=>h
 |_::_,[],_,_,_,h=>h
 |p::ps,v::vs,E,tmps,hp,h=>by simp only [qy,ae] at hp;have:=h.put (g:=true) (v:=v) hp.1;exact adE ps vs hp.2 this
def aj2(P:Program)(l:Nat)(body:Code)(Q:bu):Act->World->Prop:=λa w=>∃w',(Instr.beginRound l).run P w= .ok () w'/\body.wpIn (FW (some l)) 0 P Q a w'
theorem apA{l:Nat}{ps:List Tmp}{assign body:Code}{S:Value->World->Prop}
  (g:Rec n E ps.toArray assign body b r) (f:Sat (dz l r .ready none::Γ) w) (j:Nat.beq vs.length ps.length=true) (hp:ps.all (λp=>Nat.blt p n)=true)
  (h:WC P (some l) assign (Exit.then (aj2 P l body (roundPost P l (RE S (λ_ _=>False)))) (λ_ _ _=>False)) n [] (abD ps vs E) w):Yld P l vs w S:=by
 obtain ⟨fn,tmps,k,rfl⟩:=g.ex;have m:w.heap[l]? =some _:=f.at_ (i:=0) rfl;have c:vs.length=ps.length:=ah j;refine ⟨fn,_,assign,body,run_yield m (by simp [c]),roundIn_of_wpIn trivial ?_⟩;have d:=adE ps vs hp k;have e:((ps.toArray.zip vs.toArray).foldl (λtmps (t,a)=>tmps.setIfInBounds t a) tmps)=((ps.zip vs).foldl (λt (p,v)=>t.setIfInBounds p v) tmps):=by simp
 have:=h _ d rfl;rw [<-e] at this;exact this
theorem alu{l i:Nat}{assign body:Code}(d:Rec n E' ps assign body b r)(c:Sat Γ w)(hi:Γ[i]? =some (dz l r .ready none))
  (h:∀w',Sat (Γ.set i (dz l r .busy none)) w'->WC P (some l) body Q n D E w'):At (Exit.then (aj2 P l body Q) (λ_ _ _=>False)) .normal n D E w:=λa e hd=>by
 obtain ⟨fn,tmps,_,rfl⟩:=d.ex;have f:w.heap[l]? =some _:=c.at_ hi;exact ⟨_,run_beginRound f rfl,h _ (c.putObj hi) a e hd⟩
theorem alQ{l i:Nat}{assign body:Code}{S:Value->World->Prop}{Sp:w5->World->Prop}(d:Rec n E' ps assign body b r)(c:Sat Γ w)(hi:Γ[i]? =some (dz l r .busy none))
  (h:∀w',Sat (Γ.set i (dz l r .ready none)) w'->S (.bool true) w'):At (roundPost P l (RE S Sp)) .normal n D E w:=λa f hd=>by
 obtain ⟨fn,tmps,_,rfl⟩:=d.ex;have e:w.heap[l]? =some _:=c.at_ hi;exact ⟨_,_,run_endRound none e,h _ (c.putObj hi)⟩
theorem abK{l i:Nat}{assign body:Code}{S:Value->World->Prop}{Sp:w5->World->Prop}(d:Rec n E' ps assign body b r)(c:Sat Γ w)(hi:Γ[i]? =some (dz l r .busy none))
  (h:∀w',Sat (Γ.set i (dz l r .done (some .ret))) w'->S (.bool false) w'):At (roundPost P l (RE S Sp)) .ret n D E w:=λa f hd=>by
 obtain ⟨fn,tmps,_,rfl⟩:=d.ex;have e:w.heap[l]? =some _:=c.at_ hi;exact ⟨_,_,run_endRound (some .ret) e,h _ (c.putObj hi)⟩
theorem ZS{l i k:Nat}{assign body:Code}{S:Value->World->Prop}{Sp:w5->World->Prop}(d:Rec n E' ps assign body b r)(c:Sat Γ w)(hi:Γ[i]? =some (dz l r .busy none))
  (h:∀w',Sat (Γ.set i (dz l r .done (some (.exit k)))) w'->S (.bool false) w'):At (roundPost P l (RE S Sp)) (.exit k) n D E w:=λa f hd=>by
 obtain ⟨fn,tmps,_,rfl⟩:=d.ex;have e:w.heap[l]? =some _:=c.at_ hi;exact ⟨_,_,run_endRound (some (.exit k)) e,h _ (c.putObj hi)⟩
theorem aab{l i k:Nat}{assign body:Code}{S:Value->World->Prop}{Sp:w5->World->Prop}(d:Rec n E' ps assign body b r)(c:Sat Γ w)(hi:Γ[i]? =some (dz l r .busy none))
  (h:∀w',Sat (Γ.set i (dz l r .done (some (.goto k)))) w'->S (.bool false) w'):At (roundPost P l (RE S Sp)) (.goto k) n D E w:=λa f hd=>by
 obtain ⟨fn,tmps,_,rfl⟩:=d.ex;have e:w.heap[l]? =some _:=c.at_ hi;exact ⟨_,_,run_endRound (some (.goto k)) e,h _ (c.putObj hi)⟩
end
section
variable {P : Program} {ρ : x4} {Q : bu} {n : Nat} {D : w9} {E : Env} {w : World} {ops : x6} {rest : y4} {Γ : Ctx}
theorem amP{l:Nat}{fo:Operand}{xs:xa}{tys:Array TypeId}{d:Tmp}{ty:TypeId}{pos:String}{af:x8}{S:Value->World->Prop}
  (f:ar E true fo (.func (.yield l) #[] #[])) (b:gJ E true xs vs) (k:Nat.blt d n=true) (j:Yld P l vs w S)
  (h:∀v w',S v w'->WL P ρ ops Q n D rest ((d,true,v)::E) w'):WL P ρ ops Q n D (⟨some d,.call ⟨.value fo,xs.toArray,tys⟩,ty,pos,af,none⟩::rest) E w:=λa g o=>
 wpListIn_plain rfl λK m=>kf rfl (by
  obtain ⟨fn,tmps,assign,body,q,p⟩:=j;have s:(Array.map a.eval xs.toArray)=vs.toArray:=by simp [b.map g rfl]
  have r:(execOp a.eval ⟨some d,.call ⟨.value fo,xs.toArray,tys⟩,ty,pos,af,none⟩).run P w= .ok (.round l fn tmps assign body) w:=by simp only [execOp,resolve,f n a g rfl,Deferred.ofValue,s,Sem.run_bind,Sem.run_pure,Result.andThen_ok,invoke];simpa using q
  rw [r,Oper.uponIn_round];refine ⟨Ht,RoundIn.mono (F:=FW ρ) p λe w' i=>?_⟩;cases e with
  |returned v=>exact m _ _ (h v w' i _ (g.put k) o)
  |panicked c=>exact i.elim
  |outgrown=>exact i.elim)
theorem Rw{fn:Func}{S:Value->World->Prop}{Sp:w5->World->Prop}:∀(ds:za) {w:World},Sat (dK ds::Γ) w->
  (∀w',Sat Γ w'->At (BP P fn S Sp) .ret n [] E w')->At (BP P fn S Sp) .ret n (mk ds) E w
 |[],w,hs,h=>h w (hs.re 1 [] rfl)
 |b::ds,w,hs,h=>λa k hd=>by
  have d:(b::ds).Nodup/\∀c∈b::ds,w.heap[c]? =some (.deferred (some [])):=hs.at_ (i:=0) rfl;have hb:=d.2 b (b5 ..);have g:b∉ds:=(List.nodup_cons.1 d.1).1;have l:=(Array.getElem?_eq_some_iff.1 hb).1;have f:Sat ((dK (b::ds)::Γ).set 0 (dK ds)) (w.putObj b (.deferred none)):=by
   refine hs.ng (i:=0) rfl ⟨rfl,rfl,rfl,by simp,λc _ j=>World.putObj_heap_other (λe=>j (by subst e;exact b5 ..))⟩ (λc hc=>⟨?_,.inl (aW _ hc)⟩) (λ_ _ _=>?_)
   .have:=(Array.getElem?_eq_some_iff.1 (d.2 c (aW _ hc))).1;simpa using this
   .exact ⟨(List.nodup_cons.1 d.1).2,λc hc=>(World.putObj_heap_other (λe=>g (by subst e;exact hc))).trans (d.2 c (aW _ hc))⟩
  have m:=Rw ds f h { a with defers:=mk ds } ⟨k.size,k.at_⟩ rfl;show LeavesInM (FW none) 0 P fn a.tmps (RE S Sp) a.defers .returning w;rw [hd];exact ⟨by simp,.inl ⟨b,_,rfl,run_takeDeferred hb,m⟩⟩
theorem acw{fn:Func}{S:Value->World->Prop}{Sp:w5->World->Prop}(ds:za)(a:Sat (dK ds::Γ) w)
  (h:∀w',Sat Γ w'->At (BP P fn S Sp) .normal n [] E w'):At (BP P fn S Sp) .normal n (mk ds) E w:=Rw (fn:=fn) (S:=S) (Sp:=Sp) ds a h
end
variable {t' : TypeId} {y : Operand}
section
variable {P : Program} {E : Env} {w : World} {g : Bool}
variable {dst : x5} {ty : TypeId} {pos : String} {af : x8} {gd : v7}
abbrev AD(f:Bool)(b:Nat):Value:= .pointer (bif f then some ⟨b,0,none⟩ else none)
theorem aih{t:TypeId}{f:Bool}(c:P.underlying t=some (.pointer e))(hx:ar E g x (AD f b))(a:ar E g y (.pointer none)):
  bg P E g ⟨dst,.binOp .eql t x y t',ty,pos,af,gd⟩ w (.bool (!f)):=
 cw (P:=P) hx a (by
  rw [Sem.run_bind,dC rfl,Result.andThen_ok];have h:∀d:Nat,(Op.equalIn (d+1) t (AD f b) (.pointer none)).run P w= .ok (!f) w:=λd=>by cases f <;> simp [Op.equalIn,run_underlying c,AD]
  simp only [binOp];simp [Op.equal,Op.maxDepth,h 9999])
theorem ahZ{t:TypeId}{f:Bool}{n bytes:Nat}(c:P.underlying t=some (.pointer e))(a:TI P e n bytes z)(hx:ar E g x (AD f b))(i:ar E g y (.pointer (some ⟨b,0,none⟩))):
  bg P E g ⟨dst,.binOp .neq t x y t',ty,pos,af,gd⟩ w (.bool (!f)):=
 cw (P:=P) hx i (by
  rw [Sem.run_bind,dC rfl,Result.andThen_ok];obtain ⟨j,k,_⟩:=a.out;cases f
  .have h:∀d:Nat,(Op.equalIn (d+1) t (.pointer none) (.pointer (some ⟨b,0,none⟩))).run P w= .ok false w:=λd=>by simp [Op.equalIn,run_underlying c]
   show (binOp .neq t (.pointer none) (.pointer (some ⟨b,0,none⟩))).run P w=_;simp only [binOp];simp [Op.equal,Op.maxDepth,h 9999]
  .exact Lib.run_neq_ptr_same w _ c k)
theorem VA{κ ν:Type}{ke:κ->Value}{vi:ν->Value}{t kt j:TypeId}{o:x4}{dd:Option (List (κ×ν))}(c:P.underlying t=some (.map kt j))(hx:ar E g x (.map o))(f:ar E g y (.map none))(i:nG ke vi w (.map o) dd):
  bg P E g ⟨dst,.binOp .eql t x y t',ty,pos,af,gd⟩ w (.bool (Option.isNone dd)):=
 cw (P:=P) hx f (by
  rw [Sem.run_bind,dC rfl,Result.andThen_ok];rcases i with ⟨e,rfl⟩|⟨b,k,a,l,e,rfl,_,_⟩
  .cases e;have h:∀d:Nat,(Op.equalIn (d+1) t (.map none) (.map none)).run P w= .ok true w:=λd=>by simp [Op.equalIn,run_underlying c]
   simp only [binOp];simp [Op.equal,Op.maxDepth,h 9999]
  .cases e;have h:∀d:Nat,(Op.equalIn (d+1) t (.map (some b)) (.map none)).run P w= .ok false w:=λd=>by simp [Op.equalIn,run_underlying c]
   simp only [binOp];simp [Op.equal,Op.maxDepth,h 9999])
theorem Sm{κ ν:Type}{ke:κ->Value}{vi:ν->Value}{t kt j:TypeId}{o:x4}{dd:Option (List (κ×ν))}(c:P.underlying t=some (.map kt j))(hx:ar E g x (.map o))(f:ar E g y (.map none))(i:nG ke vi w (.map o) dd):
  bg P E g ⟨dst,.binOp .neq t x y t',ty,pos,af,gd⟩ w (.bool (!(Option.isNone dd))):=
 cw (P:=P) hx f (by
  rw [Sem.run_bind,dC rfl,Result.andThen_ok];rcases i with ⟨e,rfl⟩|⟨b,k,a,l,e,rfl,_,_⟩
  .cases e;have h:∀d:Nat,(Op.equalIn (d+1) t (.map none) (.map none)).run P w= .ok true w:=λd=>by simp [Op.equalIn,run_underlying c]
   simp only [binOp];simp [Op.equal,Op.maxDepth,h 9999]
  .cases e;have h:∀d:Nat,(Op.equalIn (d+1) t (.map (some b)) (.map none)).run P w= .ok false w:=λd=>by simp [Op.equalIn,run_underlying c]
   simp only [binOp];simp [Op.equal,Op.maxDepth,h 9999])
theorem afd{t kt c:TypeId}(b:P.underlying t=some (.map kt c))(hx:ar E g x (.map none))(a:ar E g y (.map none)):
  bg P E g ⟨dst,.binOp .eql t x y t',ty,pos,af,gd⟩ w (.bool true):=VA (κ:=Unit) (ν:=Unit) (ke:=λ_=>undef) (vi:=λ_=>undef) (dd:=none) b hx a (.inl ⟨rfl,rfl⟩)
theorem aez{t kt c:TypeId}(b:P.underlying t=some (.map kt c))(hx:ar E g x (.map none))(a:ar E g y (.map none)):
  bg P E g ⟨dst,.binOp .neq t x y t',ty,pos,af,gd⟩ w (.bool false):=Sm (κ:=Unit) (ν:=Unit) (ke:=λ_=>undef) (vi:=λ_=>undef) (dd:=none) b hx a (.inl ⟨rfl,rfl⟩)
theorem abc{s d e':TypeId}{n bytes:Nat}(h:P.underlying s=some (.pointer e))(hd:P.underlying d=some .unsafePointer)(c:TI P e n bytes z)(i:Nat.blt 0 n=true)
  (hx:ar E g x (.pointer (some ⟨b,0,none⟩))) (hb:eN w b e' vs) (hv:Nat.blt 0 vs.length=true):bg P E g ⟨dst,.convert s d x,ty,pos,af,gd⟩ w (.pointer (some ⟨b,0,none⟩)):=
 λn' a o m=>by
  obtain ⟨j,l,k,_⟩:=c.out;have f:w.shape? b=some (e',vs.toArray.size):=by unfold World.shape?;rw [show w.heap[b]? =_ from hb]
  have q:0<n:=by simpa using i
  have p:0<vs.length:=by simpa using hv
  have:=Lib.run_to_unsafe (P:=P) w (cells:=vs.toArray.size) (⟨b,0,none⟩:Addr) h hd l (by omega) f (by simpa using p);simp [execOp,hx n' a o m,this]
theorem Xs{s d e':TypeId}{n bytes:Nat}(h:P.underlying s=some .unsafePointer)(hd:P.underlying d=some (.pointer e))(c:TI P e n bytes z)
  (hx:ar E g x (.pointer (some ⟨b,0,none⟩))) (hb:eN w b e' vs) (i:liesAt P P.depth e' (vs.length/P.cellsOf e') 0 e 1=true):bg P E g ⟨dst,.convert s d x,ty,pos,af,gd⟩ w (.pointer (some ⟨b,0,none⟩)):=
 λn' a o m=>by
  obtain ⟨j,l,k,_⟩:=c.out;have f:w.shape? b=some (e',vs.length):=by unfold World.shape?;rw [show w.heap[b]? =_ from hb];simp
  have:=Lib.run_from_unsafe (P:=P) w (⟨b,0,none⟩:Addr) h hd l f i;simp [execOp,hx n' a o m,this]
def amG(P:Program)(f:FuncId):Prop:= ∀(v:Value) (w:World),(callFunc f #[v]).run P w= .ok (.value v) w
theorem alv{f:FuncId}{tys:Array TypeId}(d:amG P f)(hx:ar E g x v):bg P E g ⟨dst,.call ⟨.value (.func f),#[x],tys⟩,ty,pos,af,gd⟩ w v:=
 λn' a c b=>by have:=d v w;have e:a.eval (.func f)= .func (.func f) #[] #[]:=rfl;simp only [execOp,resolve,e,Deferred.ofValue,Sem.run_bind,Sem.run_pure,Result.andThen_ok,invoke];simpa [hx n' a c b] using this
end
theorem aie(s:aB):Lib.strCells ⟨s.toArray⟩=s.map λb=>Value.int .u8 (b.toNat:Int):=by simp [Lib.strCells]
theorem JC{M:Nat->Prop}{w:World}:∀s:aB,cM (RI .u8) M w (Lib.strCells ⟨s.toArray⟩) (ba s):=λs=>by rw [aie];exact LB s
theorem fc(s:aB):(ba s).length=s.length:=by simp [ba]
section
variable {P : Program} {w : World} {M : Nat -> Prop}
theorem Qm(t u ty e:TypeId)(i:TypeInfo)(k:P.underlying t=some (.slice e))(j:P.underlying u=some .string)(hi:P.info? e=some i)(h:i.size=1)
  (g off a b:Nat) (cur:xc) (l:w.heap[g]? =some (.cells cur e (0,0))) (s:ByteArray)
  (c:a+s.size<=b) (f:off+a+s.size<=cur.size):
  (Builtin.append_ #[t,u] ty #[.slice (some ⟨g,off,none⟩) a b,.string s]).run P w=
   .ok (.slice (some ⟨g,off,none⟩) (a+s.size) b) (w.setRow g (cur.toList.take (off+a)++Lib.strCells s++cur.toList.drop (off+a+s.size)).toArray):=by
 have m:=Lib.run_firstCells_string (P:=P) w 1 s;have d:=run_storeCells_at P g (off+a) e (Lib.strCells s) 0 cur w l (by simpa [Lib.strCells_length] using f) (Lib.strCells_oneCell s);simp only [qn,Lib.strCells_length] at d;simp [Builtin.append_,run_underlying k,run_underlying j,sizeOf,typeInfo,hi,h,Builtin.lenOf,c,m,Addr.add_lit,d]
theorem uE(t u r e:TypeId)(L:P.underlying t=some (.slice e))(J:P.underlying u=some .string)(X:TI P e 1 1 (.int .u8 0))
  {v:Value} {xs:y5} {s:aB} (ho:gm (RI .u8) e M w v xs) (hM:∀b∈dv v,M b) (c:aH (xs.length+s.length) 1=true):
  ∃v' w',(Builtin.append_ #[t,u] r #[v,S s]).run P w= .ok v' w'/\jw (dv v) w w'/\(∀b∈dv v',b<w'.heap.size/\(b∈dv v\/w.heap.size<=b))/\
   (∀M',Mv M w M' w'->gm (RI .u8) e M' w' v' (xs++ba s)):=by
 obtain ⟨i,hi,y,R,hz⟩:=X.out;simp only [aH,ae,q9] at c;have hb1:=cn c.1;have T:=cn c.2;have a:(⟨s.toArray⟩:ByteArray).size=s.length:=kA s;have Z:=ho.lt;obtain ⟨cells,p,hA⟩:=ho;have N:cM (RI .u8) M w (Lib.strCells ⟨s.toArray⟩) (ba s):=JC s;have U:=hA.append N;have d:(RI .u8).n=1:=rfl;have D:cells.length=xs.length:=by have:=hA.1;rw [d] at this;omega
 have z:(Lib.strCells ⟨s.toArray⟩).length=s.length:=by rw [Lib.strCells_length,a]
 have h:(cells++Lib.strCells ⟨s.toArray⟩).length=(xs++ba s).length*1:=by simp [D,z,fc]
 have q:∀(iB:Nat),iB<xs.length+s.length->
   (w.drew.alloc (.cells (cells.toArray++(Lib.strCells ⟨s.toArray⟩).toArray++Builtin.zeroCells (Value.int .u8 0).cells (grownCap w (xs.length+s.length) iB e-(xs.length+s.length))) e)).ownsRow 0 e 1
    (.slice (some ⟨w.heap.size,0,none⟩) (xs.length+s.length) (grownCap w (xs.length+s.length) iB e)) (xs++ba s).length (cells++Lib.strCells ⟨s.toArray⟩):=by
  intro iB hold;have hge:=grownCap_ge w (xs.length+s.length) iB e;have B:grownCap w (xs.length+s.length) iB e<=maxLen:=grownCap_le_maxLen w (xs.length+s.length) iB e (by simpa [maxLen] using T);refine ⟨h,.inr ⟨w.heap.size,_,_,by simp [fc],qd _,heap_alloc_new w.drew _,by simpa [fc] using hge,B,?_,?_⟩⟩
  .have V:(Value.int u8 0).cells.size=1:=rfl;simp only [qu,mo,size_zeroCells,V,D,z];omega
  .simp only [qS,aO];rw [<-aO,<-h];exact q4
 have F:∀o C,jw C w (w.drew.alloc o):=λo C=>⟨rfl,rfl,rfl,by simp,λb hb _=>heap_alloc_old w.drew o hb⟩;have E:∀(n cap:Nat) (o:Obj),∀b∈dv (.slice (some ⟨w.heap.size,0,none⟩) n cap),b<(w.drew.alloc o).heap.size/\(b∈dv v\/w.heap.size<=b):=λn cap o b hb=>by
  have:b=w.heap.size:=by simpa [dv,Value.ownBlock] using hb
  subst this;exact ⟨by simp,.inr (bb _)⟩
 by_cases hm:s.length=0
 .have Y:s=[]:=cf hm;subst Y;refine ⟨v,w,?_,(Ext.refl w).rK _,λb hb=>⟨Z b hb,.inl hb⟩,λM' m=>⟨cells,by simpa [ba] using p,by simpa [ba] using hA.mv m⟩⟩;rcases p.2 with ⟨rfl,h0⟩|⟨g,off,cap,cur,rfl,O,G,B,I,_⟩
  .have Q:=Lib.run_firstCells_string (P:=P) w 1 ⟨#[]⟩;have e0:(⟨#[]⟩:ByteArray).size=0:=rfl;rw [e0] at Q;simp [S,Builtin.append_,run_underlying L,run_underlying J,sizeOf,typeInfo,hi,y,Builtin.lenOf,Q,ByteArray.size]
  .have Q:=Lib.run_firstCells_string (P:=P) w 1 ⟨#[]⟩;have e0:(⟨#[]⟩:ByteArray).size=0:=rfl;rw [e0] at Q;simp [S,Builtin.append_,run_underlying L,run_underlying J,sizeOf,typeInfo,hi,y,Builtin.lenOf,Q,ByteArray.size,storeCells,Lib.strCells,G]
 .rcases p.2 with ⟨rfl,h0⟩|⟨g,off,cap,cur,rfl,O,G,B,I,k⟩
  .have W:xs=[]:=cf h0;subst W;have hc0:cells=[]:=cf (by simpa using D);subst hc0;have H:=run_append_nil_string (P:=P) w t u r e i (.int .u8 0) L J hi hz ⟨s.toArray⟩ (by rw [a];omega) (by rw [a];simp at T;omega) (by rw [a,R];simp at hb1;omega);have A:=q 0 (by simp;omega);have e1:((⟨s.toArray⟩:ByteArray).data.map λb=>Value.int .u8 b.toNat)=(Lib.strCells ⟨s.toArray⟩).toArray:=by apply Array.ext';simp [Lib.strCells]
   rw [e1,a] at H;simp only [et,ig,mj,qZ] at A;exact ⟨_,_,H,F _ _,E _ _ _,λM' m=>⟨_,.of (by simpa [d] using A),by simpa using N.mv m⟩⟩
  .by_cases f:xs.length+s.length<=cap
   .have hcs':off+cap=cur.size:=by simpa [d] using I.1
    have H:=Qm (P:=P) (w:=w) t u r e i L J hi y g off xs.length cap cur O ⟨s.toArray⟩ (by rw [a];exact f) (by rw [a];omega);refine ⟨_,_,H,⟨rfl,rfl,rfl,by simp,λb hb hbg=>setRow_other w g b _ (by simpa [dv,Value.ownBlock] using hbg)⟩,λb hb=>?_,λM' m=>⟨cells++Lib.strCells ⟨s.toArray⟩,⟨h,.inr ⟨g,off,cap,_,by simp [fc,a],setRow_heap w g cur _ e _ O,by simpa [fc] using f,B,⟨?_,I.2⟩,?_⟩⟩,U.mv m⟩⟩
    .have:b=g:=by simpa [dv,Value.ownBlock] using hb
     subst this;exact ⟨by simpa using (Array.getElem?_eq_some_iff.1 O).1,.inl (by simp [dv,Value.ownBlock])⟩
    .simp only [mo,ca,b0,cr,ch,z,a,d];omega
    .have K:(cur.toList.drop off).take xs.length=cells:=by simpa [d] using k
     have:=afU (l:=cur.toList) (ns:=Lib.strCells ⟨s.toArray⟩) (off:=off) (m:=xs.length) (by rw [K];exact D.symm) (by have hl:cur.toList.length=cur.size:=ch;omega);rw [K,z] at this;rw [d,<-h,a];simpa using this
   .have holds:∀j x,cells[j]? =some x->w.cell? ((⟨g,off,none⟩:Addr).add j)=some x:=λj x hj=>(Dv O k).cell hj;have H:=Lib.run_append_grow_string (P:=P) w t u r e i (.int .u8 0) L J hi hz ⟨g,off,none⟩ xs.length cap cells (by rw [y];omega) holds ⟨s.toArray⟩ (by rw [a];omega) (by rw [a];omega)
     (by rw [a,R];exact growslice_fits (by omega) (by omega))
    have A:=q cap (by omega);rw [a] at H;exact ⟨_,_,H,F _ _,E _ _ _,λM' m=>⟨_,.of (by simpa [d] using A),U.mv m⟩⟩
theorem yQ(t u c e:TypeId)(r:P.underlying t=some (.slice e))(q:P.underlying u=some .string)(k:TI P e 1 1 (.int .u8 0))
  {a0:Option Addr} {s:aB} (a:aH s.length 1=true):
  ((Builtin.append_ #[t,u] c #[.slice a0 0 0,S s]).run P w= .ok (.slice a0 0 0) w/\s=[])\/
  ∃g w',(Builtin.append_ #[t,u] c #[.slice a0 0 0,S s]).run P w= .ok g w'/\Ext w w'/\(∀b∈dv g,b<w'.heap.size/\w.heap.size<=b)/\(∀M',Mv M w M' w'->gm (RI .u8) e M' w' g (ba s)):=by
 obtain ⟨i,hi,x,B,H⟩:=k.out;by_cases D:s=[]
 .subst D;refine .inl ⟨?_,rfl⟩;have E:=Lib.run_firstCells_string (P:=P) w 1 ⟨#[]⟩;have N:(⟨#[]⟩:ByteArray).size=0:=rfl;rw [N] at E;cases a0 <;> simp [S,Builtin.append_,run_underlying r,run_underlying q,sizeOf,typeInfo,hi,x,Builtin.lenOf,E,ByteArray.size,storeCells,Lib.strCells]
 .refine .inr ?_;cases a0 with
  |none=>
   obtain ⟨g,w',l,o,F,K⟩:=uE (M:=M) (w:=w) t u c e r q k (gm.nil) (s:=s) (λb hb=>by simp [dv,Value.ownBlock] at hb) (by simpa using a);refine ⟨g,w',l,⟨o.os,o.tape,o.output,o.size,λb hb=>o.block b hb (by simp [dv,Value.ownBlock])⟩,λb hb=>⟨(F b hb).1,?_⟩,λM' m=>by simpa using K M' m⟩;rcases (F b hb).2 with h|h
   .simp [dv,Value.ownBlock] at h
   .exact h
  |some G=>
   have d:(⟨s.toArray⟩:ByteArray).size=s.length:=kA s;simp only [aH,ae,q9] at a;have J:=cn a.1;have C:=cn a.2;have O:0<s.length:=List.length_pos_iff.2 D;have l:=Lib.run_append_grow_string (P:=P) w t u c e i (.int .u8 0) r q hi H G 0 0 [] (by simp) (by intro j v I;simp at I) ⟨s.toArray⟩ (by rw [d];omega) (by rw [d];omega) (by rw [d,B];exact growslice_fits (by omega) (by omega));rw [d] at l;simp only [ig] at l;have y:(Builtin.append_ #[t,u] c #[.slice (some G) 0 0,S s]).run P w=_:=l;have z:=grownCap_ge w s.length 0 e;have A:grownCap w s.length 0 e<=maxLen:=grownCap_le_maxLen w s.length 0 e (by simpa [maxLen] using C);have f:(Lib.strCells ⟨s.toArray⟩).length=s.length:=by rw [Lib.strCells_length,d]
   refine ⟨_,_,y,⟨rfl,rfl,rfl,by simp,λb hb=>heap_alloc_old w.drew _ hb⟩,λb hb=>?_,λM' m=>⟨Lib.strCells ⟨s.toArray⟩,.of (b:=0) ⟨by simp [f,fc,RI],.inr ⟨w.heap.size,_,_,by simp [fc],qd _,heap_alloc_new w.drew _,by simpa [fc] using z,A,?_,?_⟩⟩,(JC s)⟩⟩
   .have:b=w.heap.size:=by simpa [dv,Value.ownBlock] using hb
    subst this;exact ⟨by simp,bb _⟩
   .have p:(Value.int u8 0).cells.size=1:=rfl;simp only [qu,mo,size_zeroCells,p,f,et];show _=_*1;omega
   .have L:(ba s).length*(RI .u8).n=(Lib.strCells ⟨s.toArray⟩).length:=by simp [fc,f,RI]
    rw [L];simp
end
section
variable {P : Program} {ρ : x4} {Q : bu} {n : Nat} {D : w9} {E : Env} {w : World} {ops : x6} {rest : y4} {Γ : Ctx} {i : Nat}
variable {d : Tmp} {ty : TypeId} {pos : String} {af : x8}
theorem aha{t u:TypeId}{xs:y5}{s:aB}(I:Sat Γ w)(i:Nat)(hi:Γ[i]? =some (gi (RI .u8) e v xs R))
  (H:P.underlying t=some (.slice e)) (G:P.underlying u=some .string) (o:TI P e 1 1 (.int .u8 0)) (hx:ar E true x v) (q:ar E true y (S s))
  (f:aH (xs.length+s.length) 1=true) (L:Nat.blt d n=true)
  (h:∀(p:fE) l w',Sat (Γ.set i (gi (RI .u8) e (sl p) (xs++ba s) l)) w'->WL P ρ ops Q n D rest ((d,true,sl p)::E) w'):
  WL P ρ ops Q n D (⟨some d,.call ⟨.builtin .append,#[x,y],#[t,u]⟩,ty,pos,af,none⟩::rest) E w:=by
 have key:∃c l w',kS P E ⟨some d,.call ⟨.builtin .append,#[x,y],#[t,u]⟩,ty,pos,af,none⟩ w c w'/\jw R w w'/\(∀b∈l,b<w'.heap.size/\(b∈R\/w.heap.size<=b))/\∀M',Mv Γ.M w M' w'->bL (RI .u8) e M' w' c (xs++ba s) l:=by
  have k:=I.own hi;have N:∀b∈R,Γ.M b:=λb hb=>Ctx.iJ hi hb;rcases k with ⟨rfl,z⟩|⟨rfl,rfl,⟨a0,rfl⟩,r⟩
  .obtain ⟨c,w',j,F,C,k⟩:=uE t u ty e H G o z N f;exact ⟨c,dv c,w',(λn' a g=>by simp [execOp,resolve,invoke,builtin,hx n' a g rfl,q n' a g rfl,j]),F,C,λM' m=>bL.of (k M' m)⟩
  .rcases yQ (M:=Γ.M) (w:=w) t u ty e H G o (a0:=a0) (s:=s) (by simpa using f) with ⟨j,rfl⟩|⟨c,w',j,O,K,k⟩
   .exact ⟨.slice a0 0 0,[],w,(λn' a g=>by simp [execOp,resolve,invoke,builtin,hx n' a g rfl,q n' a g rfl,j]),(Ext.refl w).rK _,(λb hb=>by cases hb),λM' m=>by simpa [ba] using bL.empty (e:=e) (r.mv m)⟩
   .exact ⟨c,dv c,w',(λn' a g=>by simp [execOp,resolve,invoke,builtin,hx n' a g rfl,q n' a g rfl,j]),O.rK _,(λb hb=>⟨(K b hb).1,.inr (K b hb).2⟩),λM' m=>bL.of (by simpa using k M' m)⟩
 obtain ⟨c,l,w',j,F,C,k⟩:=key;have J:=I.ng hi (new:=gi (RI .u8) e c (xs++ba s) l) F C (λM' m _=>k M' m);have hv:∃p,c=sl p:=by have B:i<Γ.length:=(List.getElem?_eq_some_iff.1 hi).1;have z:=J.own (i:=i) (A:=RI .u8) (e:=e) (v:=c) (xs:=xs++ba s) (R:=l) (by rw [qD B]);obtain ⟨a,cap,hv⟩:=z.len;exact ⟨(a,_,cap),hv⟩
 obtain ⟨p,rfl⟩:=hv;exact uT j rfl rfl rfl L (h _ _ _ J)
def Roomy(v:Value):Prop:= ∃g off len cap,v= .slice (some ⟨g,off,none⟩) len (cap+1)
theorem aiQ{g:Bool}{dst:x5}{gd:Option (Nat×Bool)}{v:fE}{c:Array TypeId}(hx:ar E g x (sl v))(hv:g=true->Roomy (sl v)):bg P E g ⟨dst,.call ⟨.builtin .unsafeSliceData,#[x],c⟩,ty,pos,af,gd⟩ w (.pointer v.1):=
 λn a h d=>by obtain ⟨b,off,len,cap,e⟩:=hv d;obtain ⟨j,f,i⟩:=v;simp only [sl,Value.slice.injEq] at e;obtain ⟨rfl,rfl,rfl⟩:=e;have:=Lib.run_unsafeSliceData_row (P:=P) w c ty ⟨b,off,none⟩ f (cap+1) (by omega);simp [execOp,resolve,invoke,builtin,hx n a h d,sl,this]
theorem GN{P:Program}{w:World}:∀(l:y5) (a:Addr) (b:ByteArray),(∀(j:Nat) (x:Int),l[j]? =some x->w.cell? (a.add j)=some (.int .u8 x))->
  (loadBytes a b l.length).run P w= .ok ⟨b.data++(strOf l).toArray⟩ w
 |[],a,b,_=>by simp [loadBytes,strOf]
 |x::l,a,b,h=>by
  have f:w.cell? a=some (.int .u8 x):=by have:=h 0 x rfl;simpa [Addr.add] using this
  have ih:=GN (P:=P) l (a.add 1) (b.push (UInt8.ofNat x.toNat)) (λj y d=>by
   have:=h (j+1) y (by simpa using d);have e:(a.add 1).add j=a.add (j+1):=by
    unfold Addr.add;by_cases c:j=0
    .subst c;simp
    .simp [c];omega
   rw [e];exact this)
  simp only [cx,loadBytes,Sem.run_bind,run_load,f,Result.andThen];have g:(x.toNat).toUInt8=UInt8.ofNat x.toNat:=rfl;rw [g,ih];congr 1;apply ByteArray.ext;simp [ByteArray.push,strOf]
end
open Go.Lib
theorem O{E:Env}{g:Bool}{t:Tmp}(h:look E t=some (true,v)):ar E g (.tmp t) v:=ar.t h
section
variable {P : Program} {ρ : x4} {Q : bu} {n : Nat} {D : w9} {E : Env} {w : World} {ops : x6} {rest : y4}
end
variable {dd : TypeDesc}
def cS{E A B:Type}(m:Option (Except E A))(k:A->Option (Except E B)):Option (Except E B):=m.bind λa=>match a with
 | .error p=>some (.error p)
 | .ok x=>k x
def lq{E A B:Type}(m:Option (Except E A))(kp:E->Option B)(k:A->Option B):Option B:=m.bind λa=>match a with
 | .error p=>kp p
 | .ok x=>k x
theorem ah2{E A B:Type}{m:Option (Except E A)}{b:E->Option B}{k:A->Option B}{r:B}(h:lq m b k=some r):(∃p,m=some (.error p)/\b p=some r)\/∃x,m=some (.ok x)/\k x=some r:=by
 cases m with
 |none=>cases h
 |some a=>
  cases a with
  |error p=>exact .inl ⟨p,rfl,h⟩
  |ok x=>exact .inr ⟨x,rfl,h⟩
abbrev gS(v:Value):w5:=[{ v:=v,recovered:=false }]
section
variable {P : Program} {ρ : x4} {Q : bu} {n : Nat} {D : w9} {E : Env} {w : World} {ops : x6} {rest : y4} {Φ : Ctx}
theorem akO{t:TypeId}{dst:x5}{ty:TypeId}{pos:String}{af:x8}(hx:ar E true x (.iface t v))
  (h:At Q (.panic (gS (.iface t v))) n D E w):WL P ρ ops Q n D (⟨dst,.panic x,ty,pos,af,none⟩::rest) E w:=λa b c=>
 wpListIn_plain rfl λK d=>kf rfl (by
  have e:(execOp a.eval (⟨dst,.panic x,ty,pos,af,none⟩:Oper)).run P w= .halt (.panic (.iface t v)) w:=by simp only [execOp,hx n a b rfl];rfl
  rw [e];exact h a b c)
theorem ait{fn:Func}{S:Value->World->Prop}{Sp:w5->World->Prop}{ps:w5}(h:Sp ps w):B9 (BP P fn S Sp) ps [] w:=λa hd=>by show LeavesInM _ _ _ _ _ _ a.defers _ _;rw [hd];exact h
variable {g : Bool} {dst : x5} {ty : TypeId} {pos : String} {af : x8} {gd : v7}
theorem aag{s t:TypeId}(b:P.underlying t=some dd)(hd:fP dd=false)(hx:ar E g x (.iface t v)):bg P E g ⟨dst,.typeAssert x s t true,ty,pos,af,gd⟩ w (.tuple #[v,.bool true]):=
 λn a d c=>by simp only [execOp,hx n a d c,Instr.typeAssert,Sem.run_bind,run_underlying b,Result.andThen_ok];cases dd <;> first|(dsimp only;rw [hW rfl];rfl)|(simp [fP] at hd)
theorem ZY{s t:TypeId}{size bytes:Nat}(c:P.underlying t=some dd)(hd:fP dd=false)(b:TI P t size bytes z)(hx:ar E g x .nilIface):bg P E g ⟨dst,.typeAssert x s t true,ty,pos,af,gd⟩ w (.tuple #[z,.bool false]):=
 λn a e d=>by simp only [execOp,hx n a e d,Instr.typeAssert,Sem.run_bind,run_underlying c,Result.andThen_ok];cases dd <;> first|(simp [fP] at hd;done)|(simp only [Sem.run_bind,b.zero w,Result.andThen_ok,qt];rfl)
theorem Zt{s t u:TypeId}{size bytes:Nat}(b:u≠t)(d:P.underlying t=some dd)(hd:fP dd=false)(c:TI P t size bytes z)(hx:ar E g x (.iface u v)):bg P E g ⟨dst,.typeAssert x s t true,ty,pos,af,gd⟩ w (.tuple #[z,.bool false]):=
 λn a f e=>by simp only [execOp,hx n a f e,Instr.typeAssert,Sem.run_bind,run_underlying d,Result.andThen_ok];cases dd <;> first|(simp [fP] at hd;done)|(dsimp only;rw [gx (by first|exact b|exact b.symm)];simp only [Sem.run_bind,c.zero w,Result.andThen_ok,qt];rfl)
def Gf(P:Program)(f:FuncId)(args:xu)(u:FrameMode)(w:World)(R:FrameMode->World->Prop):Prop:=
 CallsDIn (FW none) 0 P f args.toArray u w λe u' w'=>e= .returned (.tuple #[])/\R u' w'
abbrev PB(f:FuncId)(cap:xu):Deferred:={ target:= .fn (.func f) cap.toArray,args:= #[] }
theorem ak0{f:FuncId}{fo:Operand}{cap:xu}{tys:Array TypeId}{ty:TypeId}{pos:String}{af:x8}(b:ar E true fo (.func (.func f) #[] cap.toArray))
  (h:WL P none ops Q n (PB f cap::D) rest E w):WL P none ops Q n D (⟨none,.defer ⟨.value fo,#[],tys⟩,ty,pos,af,none⟩::rest) E w:=λa c g=>
 wpListIn_plain rfl λK d=>by
  refine ⟨λ_ _=>trivial,?_⟩;have e:((⟨none,.defer ⟨.value fo,#[],tys⟩,ty,pos,af,none⟩:Oper).semAt (FW none).round a.eval).run P w= .ok (.defer (PB f cap)) w:=by show (execOp a.eval (⟨none,.defer ⟨.value fo,#[],tys⟩,ty,pos,af,none⟩:Oper)).run P w=_;simp only [execOp,resolve,b n a c rfl,Deferred.ofValue,Sem.run_bind,Sem.run_pure,Result.andThen_ok];rw [show (#[]++Array.map a.eval #[]:xc)= #[] by simp]
  rw [e,Oper.uponIn_defer];refine d _ _ (h _ ⟨c.size,c.at_⟩ ?_);show PB f cap::a.defers=_;rw [g]
theorem OX{a:Act}(h:Fits n E a)(ds:w9):Fits n E { a with defers:=ds }:=⟨h.size,h.at_⟩
theorem Uq{fn:Func}{f:FuncId}{cap:xu}{tmps:xc}{R:Ending->World->Prop}{u:FrameMode}{ds:w9}(a:u≠ .run)(b:Enters P f)
  (hc:Gf P f cap u w λu' w'=>LeavesInM (FW none) 0 P fn tmps R ds (settle u') w'):LeavesInM (FW none) 0 P fn tmps R (PB f cap::ds) u w:=by
 refine ⟨a,.inr ⟨Ht,.func f,cap.toArray,f,cap.toArray,rfl,?_,λ_ _=>trivial,?_⟩⟩
 .have:=b cap.toArray w;simpa [PB,invoke] using this
 .refine CallsDIn.mono hc λe u' w' h=>?_;obtain ⟨rfl,h⟩:=h;exact h
theorem aiH{fn:Func}{S:Value->World->Prop}{Sp:w5->World->Prop}{f:FuncId}{cap:xu}{T:World->Prop}(d:Enters P f)
  (hc:Gf P f cap .returning w λu' w'=>u'= .returning/\T w') (h:∀w',T w'->At (BP P fn S Sp) .ret n [] E w'):At (BP P fn S Sp) .ret n [PB f cap] E w:=λa c hd=>by
 show LeavesInM _ _ _ _ _ _ a.defers _ _;rw [hd];refine Uq (by simp) d (CallsDIn.mono hc λe u' w' hx=>?_);obtain ⟨b,rfl,g⟩:=hx;exact ⟨b,h w' g { a with defers:=[] } (OX c []) rfl⟩
theorem afr{fn:Func}{S:Value->World->Prop}{Sp:w5->World->Prop}{f:FuncId}{cap:xu}{T:World->Prop}(d:Enters P f)
  (hc:Gf P f cap (.panicking (gS v)) w λu' w'=>u'= .panicking [{ v:=v,recovered:=true }]/\T w') (h:∀w',T w'->At (BP P fn S Sp) .ret n [] E w'):At (BP P fn S Sp) (.panic (gS v)) n [PB f cap] E w:=λa c hd=>by
 show LeavesInM _ _ _ _ _ _ a.defers _ _;rw [hd];refine Uq (by simp) d (CallsDIn.mono hc λe u' w' hx=>?_);obtain ⟨b,rfl,g⟩:=hx;exact ⟨b,h w' g { a with defers:=[] } (OX c []) rfl⟩
def QB(T:World->Prop):bu:=λe a w=>match e with
 | .normal=>a.defers=[]/\T w
 | .ret=>a.defers=[]/\T w
 |_=>False
theorem anj{T:World->Prop}(h:T w):At (QB T) .normal n [] E w:=λ_ _ hd=>⟨hd,h⟩
theorem apq{T:World->Prop}(h:T w):At (QB T) .ret n [] E w:=λ_ _ hd=>⟨hd,h⟩
def Nr(o:Oper):Bool:=match o.op with
 | .move _=>true
 | .assign _=>true
 | .alloc _=>true
 | .extract _ _=>true
 | .store _ _ _=>true
 | .typeAssert _ _ _ _=>true
 | .binOp .neq _ _ _ _=>true
 | .load _ _=>true
 | .nilCheck _=>true
 | .fieldAddr _ _ _=>true
 |_=>false
def F5:Result Next->Prop
 | .ok (.value _) _=>True
 | .ok .skip _=>True
 | .halt _ _=>True
 |_=>False
theorem aqf{m:Sem Value}{w:World}:F5 ((do pure (Next.value (<-m)):Sem Next).run P w):=by rw [Sem.run_bind];cases m.run P w <;> trivial
theorem apz{m:Sem Unit}{w:World}:F5 ((do m;pure Next.skip:Sem Next).run P w):=by rw [Sem.run_bind];cases m.run P w <;> trivial
theorem Bt{m:Sem α}{k:α->Sem Next}{w:World}(h:∀a w,F5 ((k a).run P w)):F5 ((m >>= k).run P w):=by
 rw [Sem.run_bind];cases m.run P w with
 |ok a w=>exact h a w
 |halt _ _=>trivial
theorem alY{a:Operand->Value}{dst:x5}{ty:TypeId}{pos:String}{af:x8}{g:Option (Nat×Bool)}{w:World}:F5 ((execOp a ⟨dst,.nilCheck x,ty,pos,af,g⟩).run P w):=by
 unfold execOp;dsimp only;split
 .exact Bt λ_ _=>trivial
 .exact Bt λ_ _=>trivial
 .exact Bt λ_ _=>trivial
 .split
  .exact Bt λ_ _=>trivial
  .refine Bt λ_ _=>Bt λ_ _=>?_;split
   .exact Bt λ_ _=>trivial
   .exact trivial
  .trivial
 .trivial
theorem akW{o:Oper}(h:Nr o=true)(a:Operand->Value)(w:World):F5 ((execOp a o).run P w):=by obtain ⟨dst,op,ty,pos,af,g⟩:=o;cases op <;> first|(cases h;done)|exact aqf|exact apz|exact alY|trivial
theorem Rp{ops:x6}{g:bu}{QS:Exit->Act->List Frame->World->Prop}{cs:List Frame}(f:∀e a w,g e a w->QS e a cs w):∀(l:y4) (k:Nat),l.all Nr=true->(∀j,l[j]? =ops[k+j]?)->∀(a:Act) (w:World),wpListIn (FW none) 0 P ops g l a w->
  wpOpsSIn (FW none) 0 P ops QS (List.range' k l.length) a cs w
 |[],k,_,_,a,w,h=>f _ _ _ h
 |o::l,k,hc,hk,a,w,h=>by
  have m:ops[k]? =some o:=by simpa using (hk 0).symm
  rw [qy,ae] at hc;have ih:=Rp (ops:=ops) f l (k+1) hc.2 (λj=>by have:=hk (j+1);simpa [qx,Nat.add_comm 1 j] using this);rw [cx,List.range'_succ];simp only [wpOpsSIn,m];simp only [wpListIn] at h;refine ⟨λ_ _=>trivial,?_⟩;split at h
  .rename_i d;rw [hW d];have c:=h.2;have b:=akW (P:=P) hc.1 a.eval w;rw [show (o.semAt (FW none).round a.eval)=execOp a.eval o from rfl] at c;generalize (execOp a.eval o).run P w=r at c b;cases r with
   |ok x w'=>
    cases x <;> first|exact b.elim|exact ih _ _ c
   |halt i w'=>
    cases i <;> first|exact f _ _ _ c|exact c.elim
  next d=>rw [gx d];exact ih _ _ h.2
theorem alI{fn:Func}{c₀:Frame}{cs:List Frame}{T:World->Prop}{u':FrameMode}(b:fn.results= #[]){e:Exit}{a:Act}{w:World}(h:QB T e a w):
  bodyPostS P fn c₀ cs (λe c w'=>e= .returned (.tuple #[])/\c=u'/\T w') e a ({ c₀ with mode:=u' }::cs) w:=by
 have d:(results fn a.tmps).run P w= .ok (.tuple #[]) w:=by rw [SY,b];simp
 cases e <;> first|exact ⟨h.1,u',rfl,_,d,rfl,rfl,h.2⟩|exact h.elim
theorem Xn{f:FuncId}{fn:Func}{id:Nat}{ops:x6}{l:y4}{y:Code}{d:Tmp}{ty:TypeId}{pos:String}{af:x8}{tys:Array TypeId}{cap:xu}{u u':FrameMode}{T:World->Prop}
  (J:P.funcs[f]? =some fn) (hb:fn.body=some (.seq (.region id ops false) y)) (c:ops.toList=⟨some d,.call ⟨.builtin .recover,#[],tys⟩,ty,pos,af,none⟩::l) (q:l.all Nr=true) (o:fn.results= #[]) (H:fn.ntmps=n) (I:Nat.ble cap.length n=true) (hd:Nat.blt d n=true)
  (F:(u= .returning/\u'= .returning/\v= .nilIface)\/(u= .panicking (gS v)/\u'= .panicking [{ v:=v,recovered:=true }]))
  (h:WL P none ops (Exit.then (y.wpIn (FW none) 0 P (QB T)) (QB T)) n [] l ((d,true,v)::iota 0 cap) w):Gf P f cap u w λr w'=>r=u'/\T w':=by
 refine callsDIn_of_wpSIn J hb trivial λc₀ cs hc=>?_;have k:Fits n (iota 0 cap) { tmps:=cap.toArray++Array.replicate (fn.ntmps-cap.toArray.size) undef,defers:=[] }:=by
  refine ⟨?_,λt g v G=>?_⟩
  .have:cap.length<=n:=by simpa using I
   simp [H];omega
  .obtain ⟨j,rfl,hv,rfl⟩:=Dn cap 0 t g v G;have C:j<cap.length:=by
    rcases s3 j cap.length with h|h
    .exact h
    .rw [lk h] at hv;cases hv
   simp only [wD,c8,ig,l7];rw [qQ (by simpa using C)];simp [hv]
 have z:({ tmps:=cap.toArray++Array.replicate (fn.ntmps-cap.toArray.size) undef,defers:=[] }:Act).defers=[]:=rfl;generalize ({ tmps:=cap.toArray++Array.replicate (fn.ntmps-cap.toArray.size) undef,defers:=[] }:Act)=a0 at k z;refine wpSIn_seq (wpSIn_region ?_);have B:ops.size=l.length+1:=by rw [<-ch,c];rfl
 rw [B,List.range_eq_range',List.range'_succ];have L:ops[0]? =some ⟨some d,.call ⟨.builtin .recover,#[],tys⟩,ty,pos,af,none⟩:=by rw [<-qp,c];rfl
 have C:∀j,l[j]? =ops[1+j]? :=λj=>by rw [<-qp,c,Nat.add_comm 1 j];rfl
 have s:(execOp a0.eval (⟨some d,.call ⟨.builtin .recover,#[],tys⟩,ty,pos,af,none⟩:Oper)).run P w= .ok .recover w:=by simp [execOp,resolve,invoke,builtin]
 have x:Fits n ((d,true,v)::iota 0 cap) (a0.put (some d) v):=k.put (g:=true) (v:=v) hd;have m:=Rp (cs:={ c₀ with mode:=u' }::cs) (QS:=Exit.thenS (y.wpSIn (FW none) 0 P (bodyPostS P fn c₀ cs λe r w'=>e= .returned (.tuple #[])/\r=u'/\T w')) (bodyPostS P fn c₀ cs λe r w'=>e= .returned (.tuple #[])/\r=u'/\T w'))
  (λe a w p=>by
   cases e with
   |normal=>exact wpSIn_of_wpIn rfl (Code.wpIn_mono (λe a w p=>alI o p) p)
   |exit i=>exact False.elim p
   |goto i=>exact False.elim p
   |ret=>exact alI (P:=P) (c₀:=c₀) (cs:=cs) (u':=u') (T:=T) (e:= .ret) o p
   |panic i=>exact False.elim p
   |outgrown=>exact False.elim p) l 1 q C _ _ (h _ x z)
 simp only [wpOpsSIn,L];refine ⟨λ_ _=>trivial,?_⟩;rw [hW (by simp [Region.wanted]),s];rcases F with ⟨A,E,K⟩|⟨A,E⟩
 .have b:recoverD (c₀::cs)=none:=by simp [recoverD,hc,A]
  have D:({ c₀ with mode:=u' }:Frame)=c₀:=by rw [E,<-A,<-hc]
  simp only [b];rw [D,K] at m;exact m
 .have b:recoverD (c₀::cs)=some (v,{ c₀ with mode:=u' }::cs):=by simp [recoverD,hc,A,E,gS]
  simp only [b];exact m
theorem ad4{f:FuncId}{fn:Func}{id:Nat}{ops:x6}{cap:xu}{T:World->Prop}
  (u:P.funcs[f]? =some fn) (hb:fn.body=some (.region id ops false)) (c:ops.toList.all Nr=true) (d:fn.results= #[]) (q:fn.ntmps=n) (r:Nat.ble cap.length n=true)
  (h:WL P none ops (QB T) n [] ops.toList (iota 0 cap) w):Gf P f cap .returning w λk w'=>k= .returning/\T w':=by
 refine callsDIn_of_wpSIn u hb trivial λc₀ cs hc=>?_;have b:Fits n (iota 0 cap) { tmps:=cap.toArray++Array.replicate (fn.ntmps-cap.toArray.size) undef,defers:=[] }:=by
  refine ⟨?_,λt g v o=>?_⟩
  .have:cap.length<=n:=by simpa using r
   simp [q];omega
  .obtain ⟨j,rfl,hv,rfl⟩:=Dn cap 0 t g v o;have s:j<cap.length:=by
    rcases s3 j cap.length with h|h
    .exact h
    .rw [lk h] at hv;cases hv
   simp only [wD,c8,ig,l7];rw [qQ (by simpa using s)];simp [hv]
 have m:({ c₀ with mode:= .returning }:Frame)=c₀:=by rw [<-hc]
 refine wpSIn_region ?_;have l:ops.size=ops.toList.length:=by rw [ch]
 rw [l,List.range_eq_range'];have i:=Rp (cs:=c₀::cs) (QS:=bodyPostS P fn c₀ cs λe k w'=>e= .returned (.tuple #[])/\k= .returning/\T w')
  (λe a w p=>by have:=alI (P:=P) (c₀:=c₀) (cs:=cs) (u':= .returning) (T:=T) (e:=e) d p;rw [m] at this;exact this) ops.toList 0 c (λj=>by rw [ig,qp]) _ _ (h _ b rfl)
 exact i
end
variable {w : World}
inductive Ex where
 |mk (op n at_:Int) (l:List Ex)
instance:Inhabited Ex:=⟨.mk 0 0 0 []⟩
def Ex.op:Ex->Int
 | .mk o _ _ _=>o
def Ex.n:Ex->Int
 | .mk _ n _ _=>n
def Ex.at_:Ex->Int
 | .mk _ _ a _=>a
def Ex.l:Ex->List Ex
 | .mk _ _ _ l=>l
mutual
def Ex.sz:Ex->Nat
 | .mk _ _ _ l=>szL l+1
def szL:List Ex->Nat
 |[]=>0
 |x::r=>Ex.sz x+szL r
end
inductive uF(M:Nat->Prop)(w:World):xu->Ex->Prop
 |nil (op n a:Int) (ad:Option Addr):uF M w [.int .i64 op,.int .i64 n,.int .i64 a,sl (ad,0,0)] (.mk op n a [])
 |some (op n a:Int) (l:List Ex) (b off cap:Nat) (cs:xc) (e:TypeId) (fr:Nat×Nat) (hM:¬M b) (hb:w.heap[b]? =some (.cells cs e fr)) (hc:l.length<=cap) (ho:off+cap*4<=cs.size)
   (hl:((cs.toList.drop off).take (l.length*4)).length=l.length*4) (h:∀i (hi:i<l.length),uF M w ((((cs.toList.drop off).take (l.length*4)).drop (i*4)).take 4) l[i]):
   uF M w [.int .i64 op,.int .i64 n,.int .i64 a,sl (some ⟨b,off,none⟩,l.length,cap)] (.mk op n a l)
theorem uF.len{M:Nat->Prop}{x:Ex}(h:uF M w vs x):vs.length=4:=by cases h <;> rfl
theorem uF.mv{M M':Nat->Prop}{w':World}{x:Ex}(h:uF M w vs x)(m:Mv M w M' w'):uF M' w' vs x:=by
 induction h with
 |nil op n a j=>exact .nil op n a j
 |some op n a l b off cap cs e fr f hb hc c d _ ih=>
  obtain ⟨i,g⟩:=m.2 b (Array.getElem?_eq_some_iff.1 hb).1 f;exact .some op n a l b off cap cs e fr i (by rw [g];exact hb) hc c d ih
def IK:dG Ex where
 n:=4
 rd:=uF
 len:=uF.len
 one h:=by cases h <;> simp [Value.oneCell',sl]
 mv:=uF.mv
theorem IQ{M:Nat->Prop}{x:Ex}(h:IK.rd M w vs x):∃v:fE,vs=[(.int .i64 x.op),(.int .i64 x.n),(.int .i64 x.at_),(sl v)]/\bP IK M w (sl v) x.l:=by
 cases h with
 |nil op n a g=>exact ⟨_,rfl,.inl ⟨⟨_,rfl⟩,rfl⟩⟩
 |some op n a l b off cap cs e fr f hb hc c d h=>exact ⟨_,rfl,.inr ⟨b,off,cap,cs,e,fr,rfl,f,hb,hc,c,d,h⟩⟩
theorem PD{M:Nat->Prop}{op n a:Int}{l:List Ex}(h:(Ju IK).rd M w [v] l):IK.rd M w [(.int .i64 op),(.int .i64 n),(.int .i64 a),v] (.mk op n a l):=by
 obtain ⟨p,hp,h⟩:=h;have hv:v=sl p:=by simpa using hp
 subst hv;rcases h with ⟨⟨i,h⟩,rfl⟩|⟨b,off,cap,cs,e,fr,h,g,hb,hc,d,f,c⟩
 .rw [h];exact .nil op n a i
 .rw [h];exact .some op n a l b off cap cs e fr g hb hc d f c
abbrev aA{α:Type}(c:Bool)(a b:α):α:=match c with
 |true=>a
 |false=>b
inductive Ty where
 |i (k:IntKind)
 |bo
 |s
 |un
 |n
 |p (x y:Ty)
 |l (x:Ty)
 |mp (k v:Ty)
 |ex
 deriving DecidableEq
def Ty.T:Ty->Type
 | .i _=>Int
 | .bo=>Bool
 | .s=>aB
 | .un=>Unit
 | .n=>Nat
 | .p x y=>x.T×y.T
 | .l x=>List x.T
 | .mp k v=>Option (List (k.T×v.T))
 | .ex=>Ex
def RNo(α:Type):dG α where
 n:=0
 rd _ _ _ _:=False
 len h:=h.elim
 one h:=h.elim
 mv h _:=h.elim
def RIf:dG Nat where
 n:=1
 rd _ _ vs x:=vs=[.iface x (.agg #[])]
 len h:=by rw [h];rfl
 one h:=by rw [h];simp [Value.oneCell']
 mv h _:=h
def Ty.rep:(t:Ty)->dG t.T
 | .i k=>RI k
 | .bo=>RB
 | .s=>RS
 | .un=>RU
 | .n=>RIf
 | .p x y=>RP x.rep y.rep
 | .l x=>Ju x.rep
 | .mp _ _=>RNo _
 | .ex=>IK
structure bY where
 t:Ty
 x:t.T
def bY.as(t:Ty)(d:bY):Option t.T:=if h:d.t=t then some (h▸d.x) else none
theorem bY.No{t:Ty}{d:bY}{x:t.T}(h:d.as t=some x):d=⟨t,x⟩:=by
 unfold bY.as at h;split at h
 next e=>obtain ⟨t',y⟩:=d;simp only at e;subst e;cases h;rfl
 .cases h
theorem bY.aoV{t:Ty}{x:t.T}:bY.as t ⟨t,x⟩=some x:=by simp [bY.as]
inductive AV where
 |int (k:IntKind) (x:Int)
 |bool (x:Bool)
 |str (x:aB)
 |agg (l:List AV)
 |tuple (l:List AV)
 |ptr (id off:Nat)
 |sl (id:Nat)
 |adr (id off:Nat)
 |fn (f:FuncId) (a b:List AV)
 |ifc (t:TypeId) (v:AV)
 |mp (id:Nat)
 |gp (b:Nat)
 |nv (id:Nat)
 |sfp (id:Nat) (f:Bool)
 |bs (id n:Nat)
 |raw (v:Value)
structure Nm where
 b:Nat
 v:fE
 a:Addr
 m:x4
 x:Value
 y:bY
abbrev ay:=Nat->Nm
def cO:Nm:=⟨0,(none,0,0),⟨0,0,none⟩,none,.bool false,⟨.un,()⟩⟩
mutual
def AV.val(ρ:ay):AV->Value
 | .int k x=> .int k x
 | .bool x=> .bool x
 | .str x=>S x
 | .agg l=> .agg (AV.ao ρ l).toArray
 | .tuple l=> .tuple (AV.ao ρ l).toArray
 | .ptr id off=> .pointer (some ⟨(ρ id).b,off,none⟩)
 | .sl id=>Go.Proofs.YtkedhpmpejhekaaGreatDoor.sl (ρ id).v
 | .adr id off=> .pointer (some ((ρ id).a.add off))
 | .fn f a b=> .func (.func f) (AV.ao ρ a).toArray (AV.ao ρ b).toArray
 | .ifc t v=> .iface t (v.val ρ)
 | .mp id=> .map (ρ id).m
 | .gp b=> .pointer (some ⟨b,0,none⟩)
 | .nv id=>(ρ id).x
 | .sfp id f=>AD f (ρ id).b
 | .bs id n=> .slice (some ⟨(ρ id).b,0,none⟩) n n
 | .raw v=>v
def AV.ao(ρ:ay):List AV->xu
 |[]=>[]
 |v::l=>v.val ρ::AV.ao ρ l
end
mutual
def AV.low(c:Nat):AV->Bool
 | .agg l|.tuple l=>AV.bW c l
 | .fn _ a b=>AV.bW c a&&AV.bW c b
 | .ifc _ v=>v.low c
 | .ptr id _|.sl id|.adr id _|.mp id|.nv id|.sfp id _|.bs id _=>Nat.blt id c
 |_=>true
def AV.bW(c:Nat):List AV->Bool
 |[]=>true
 |v::l=>v.low c&&AV.bW c l
end
def aT(c:Nat)(ρ ρ':ay):Prop:= ∀j,j<c->ρ' j=ρ j
theorem aT.refl{c:Nat}{ρ:ay}:aT c ρ ρ:=λ_ _=>rfl
theorem aT.trans{c d:Nat}{a b e:ay}(h:aT c a b)(k:aT d b e)(f:c<=d):aT c a e:=λj g=>(k j (ec g f)).trans (h j g)
theorem aT.less{c d:Nat}{a b:ay}(h:aT d a b)(e:c<=d):aT c a b:=λj f=>h j (ec f e)
mutual
theorem AV.km{ρ ρ':ay}{c:Nat}(ha:aT c ρ ρ'):(v:AV)->v.low c=true->v.val ρ'=v.val ρ
 | .int _ _,_|.bool _,_|.str _,_|.raw _,_|.gp _,_=>by simp only [AV.val]
 | .agg l,h=>by simp only [AV.val];rw [AV.bS ha l (by simpa only [AV.low] using h)]
 | .tuple l,h=>by simp only [AV.val];rw [AV.bS ha l (by simpa only [AV.low] using h)]
 | .fn _ a b,h=>by
  simp only [AV.low,ae] at h;simp only [AV.val];rw [AV.bS ha a h.1,AV.bS ha b h.2]
 | .ifc _ v,h=>by simp only [AV.val];rw [AV.km ha v (by simpa only [AV.low] using h)]
 | .ptr _ _,h=>by simp only [AV.val];rw [ha _ (by simpa only [AV.low,gy] using h)]
 | .sl _,h=>by simp only [AV.val];rw [ha _ (by simpa only [AV.low,gy] using h)]
 | .adr _ _,h=>by simp only [AV.val];rw [ha _ (by simpa only [AV.low,gy] using h)]
 | .mp _,h=>by simp only [AV.val];rw [ha _ (by simpa only [AV.low,gy] using h)]
 | .nv _,h=>by simp only [AV.val];rw [ha _ (by simpa only [AV.low,gy] using h)]
 | .sfp _ _,h=>by simp only [AV.val];rw [ha _ (by simpa only [AV.low,gy] using h)]
 | .bs _ _,h=>by simp only [AV.val];rw [ha _ (by simpa only [AV.low,gy] using h)]
theorem AV.bS{ρ ρ':ay}{c:Nat}(ha:aT c ρ ρ'):(l:List AV)->AV.bW c l=true->AV.ao ρ' l=AV.ao ρ l
 |[],_=>by simp only [AV.ao]
 |v::l,h=>by simp only [AV.bW,ae] at h;simp only [AV.ao];rw [AV.km ha v h.1,AV.bS ha l h.2]
end
mutual
theorem AV.fp{c d:Nat}(e:c<=d):(v:AV)->v.low c=true->v.low d=true
 | .int _ _,_|.bool _,_|.str _,_|.raw _,_|.gp _,_=>by simp only [AV.low]
 | .agg l,h=>by simp only [AV.low] at h ⊢; exact AV.jx e l h
 | .tuple l,h=>by simp only [AV.low] at h ⊢; exact AV.jx e l h
 | .fn _ a b,h=>by simp only [AV.low,ae] at h ⊢; exact ⟨AV.jx e a h.1,AV.jx e b h.2⟩
 | .ifc _ v,h=>by simp only [AV.low] at h ⊢; exact AV.fp e v h
 | .ptr _ _,h=>by simp only [AV.low,gy] at h ⊢; omega
 | .sl _,h=>by simp only [AV.low,gy] at h ⊢; omega
 | .adr _ _,h=>by simp only [AV.low,gy] at h ⊢; omega
 | .mp _,h=>by simp only [AV.low,gy] at h ⊢; omega
 | .nv _,h=>by simp only [AV.low,gy] at h ⊢; omega
 | .sfp _ _,h=>by simp only [AV.low,gy] at h ⊢; omega
 | .bs _ _,h=>by simp only [AV.low,gy] at h ⊢; omega
theorem AV.jx{c d:Nat}(a:c<=d):(l:List AV)->AV.bW c l=true->AV.bW d l=true
 |[],_=>by simp only [AV.bW]
 |v::l,h=>by simp only [AV.bW,ae] at h ⊢;exact ⟨AV.fp a v h.1,AV.jx a l h.2⟩
end
theorem Pm{c:Nat}:{l m:List AV}->AV.bW c l=true->AV.bW c m=true->AV.bW c (l++m)=true
 |[],m,_,h=>h
 |v::l,m,h,k=>by simp only [eb,AV.bW,ae] at h ⊢;exact ⟨h.1,Pm h.2 k⟩
theorem AV.adV{ρ:ay}{l:List AV}{i:Nat}{v:AV}(h:l[i]? =some v):(AV.ao ρ l)[i]? =some (v.val ρ):=by
 induction l generalizing i with
 |nil=>simp at h
 |cons u l ih=>
  cases i with
  |zero=>simp at h;subst h;simp [AV.ao]
  |succ i=>simp only [AV.ao,cd] at h ⊢; exact ih h
theorem AV.gF{ρ:ay}:{l:List AV}->{k:Nat}->AV.ao ρ (l.drop k)=(AV.ao ρ l).drop k
 |l,0=>by simp
 |[],k+1=>by simp [AV.ao]
 |v::l,k+1=>by simp only [AV.ao,List.drop_succ_cons];exact AV.gF
theorem AV.jv{ρ:ay}:{l:List AV}->{k:Nat}->AV.ao ρ (l.take k)=(AV.ao ρ l).take k
 |l,0=>by simp [AV.ao]
 |[],k+1=>by simp [AV.ao]
 |v::l,k+1=>by simp only [AV.ao,qT];rw [AV.jv]
theorem AV.bm{ρ:ay}:{l:List AV}->(AV.ao ρ l).length=l.length
 |[]=>by simp [AV.ao]
 |v::l=>by simp [AV.ao,AV.bm]
theorem cZ{ρ:ay}:{l m:List AV}->AV.ao ρ (l++m)=AV.ao ρ l++AV.ao ρ m
 |[],m=>by simp [AV.ao]
 |v::l,m=>by simp only [eb,AV.ao];rw [cZ]
abbrev GK:=Option (Nat×Bool)
inductive Row where
 |box (id:Nat) (t:TypeId) (vs:List AV)
 |sli (g:GK) (id:Nat) (t:Ty) (l:List t.T) (clip:Bool)
 |own (id:Nat) (t:Ty) (e:TypeId) (l:List t.T) (ver:Nat)
 |kn (g:GK) (q id ver:Nat) (t:Ty) (i:Int) (x:t.T)
 |elm (g:GK) (id:Nat) (vs:List AV)
 |mp (id:Nat) (k v:Ty) (d:Option (List (k.T×v.T)))
 |it (id:Nat) (s:aB) (p:Nat)
 |eq (id:Nat) (v:AV)
 |gone
inductive Pt where
 |int (k:IntKind)|bool|str
 |sli (t:Ty)
 |own (t:Ty) (e:TypeId) (m:Bool)
 |slr (n:Nat)
 |bx (t:TypeId) (off:Nat) (m:Bool) (vs:List Pt)
 |ptr (n off:Nat)
 |mp (k v:Ty) (m:Bool)
 |it
 |agg (l:List Pt)|cB (l:List Pt)
 |fn (f:FuncId) (a b:List Pt)
 |ifc (t:TypeId) (p:Pt)
 |jg (v:AV)
 |dat (t:Ty) (o:vB)
 |ifn
 |sfp
 |sty (p:Pt)
 |same
abbrev aF:=List (Nat×GK×AV)
structure Tm where
 vs:List (Bool×Nat×Pt)
 th:za
inductive HT where
 |o
 |c (a b:HT)
 |l (t:Tm) (a:HT)
 |j (t:Tm) (a b:HT)
 |s (a:HT)
 |n (k:Nat) (a:HT)
 |r (th:za) (a:HT)
structure aD where
 c:Nat
 E:aF
 G:List Row
 h:HT
structure Fr where
 F:aF
 H:List Row
 n:Nat
inductive XE where
 |nrm|ret
 |ext (i:Nat)
 |gto (l:Nat)
 |gS (v:AV)
 |panE (v:AV)
 |panL (v:AV)
def Xu:Bool->Bool->Bool
 |true,b=>b
 |false,b=> !b
theorem af8:{a b:Bool}->Xu a b=true->a=b
 |true,_,h=>h.symm
 |false,b,h=>by cases b <;> simp_all [Xu]
theorem ake:(a:Bool)->Xu a a=true
 |true=>rfl
 |false=>rfl
def GK.eq:GK->GK->Bool
 |none,none=>true
 |some (j,p),some (k,q)=>Nat.beq j k&&Xu p q
 |_,_=>false
theorem GK.eq_eq:{a b:GK}->a.eq b=true->a=b
 |none,none,_=>rfl
 |some (j,p),some (k,q),h=>by simp only [GK.eq,ae] at h;rw [ah h.1,af8 h.2]
abbrev aC:=List ((Nat×Bool)×GK×Nat×Bool)
def we(p b:Bool):Bool:=match p with
 |true=>b
 |false=> !b
theorem MZ(p b:Bool):we p b=(b==p):=by cases p <;> cases b <;> rfl
def aC.get:aC->GK->Bool
 |_,none=>true
 |[],some _=>false
 |(k,par,_,b)::T,some k'=>aA ( GK.eq (some k) (some k') ) ( (aC.get T par&&we k.2 b) )<|aC.get T (some k')
@[simp] theorem aC.get_none {T : aC} : T.get none = true := by cases T <;> rfl
theorem aC.R6{k:Nat×Bool}{par:GK}{rj:Nat}{b:Bool}{T:aC}{x:GK}(h:(!(GK.eq (some k) x))=true):aC.get ((k,par,rj,b)::T) x=T.get x:=by
 cases x with
 |none=>simp
 |some a=>
  simp only [aC.get];cases hb:GK.eq (some k) (some a)
  .rfl
  .rw [hb] at h;cases h
theorem GK.age:(k:Nat×Bool)->GK.eq (some k) (some k)=true:=λk=>by simp [GK.eq,ake]
theorem aC.alM{k:Nat×Bool}{par:GK}{rj:Nat}{b:Bool}{T:aC}:aC.get ((k,par,rj,b)::T) (some k)=(T.get par&&we k.2 b):=by simp only [aC.get,GK.age]
def s9(p:fE):za:=match p.2.2 with
 |0=>[]
 |_+1=>dv (sl p)
section
variable {α : Type} {A : dG α} {e : TypeId} {M M' : Nat -> Prop} {w w' : World}
theorem bL.canon{p:fE}{xs:List α}(h:bL A e M w (sl p) xs R):(∀b∈s9 p,b∈R)/\∀(M':Nat->Prop) (w':World),bL A e M' w' (sl p) xs R->bL A e M' w' (sl p) xs (s9 p):=by
 obtain ⟨a,n,cap⟩:=p;cases cap with
 |zero=>
  refine ⟨λb hb=>(by cases hb),λM' w' d=>?_⟩;have hx:xs=[]:=by
   rcases d with ⟨_,d⟩|⟨_,d,_⟩
   .obtain ⟨cells,⟨_,k⟩,_⟩:=d;rcases k with ⟨_,l⟩|⟨g,o,c,cur,hv,q,hc,r⟩
    .exact cf l
    .simp only [sl,Value.slice.injEq] at hv;exact cf (by omega)
   .exact d
  obtain ⟨m,s,f⟩:=d.len;simp only [sl,Value.slice.injEq] at f;have i:n=0:=by rw [f.2.1,hx];rfl
  subst i;exact .inr ⟨rfl,hx,⟨a,rfl⟩,bP.emp⟩
 |succ c=>
  have key:∀(M':Nat->Prop) (w':World),bL A e M' w' (sl (a,n,c+1)) xs R->R=dv (sl (a,n,c+1)):=λM' w' d=>by
   rcases d with ⟨d,_⟩|⟨_,_,⟨m,d⟩,_⟩
   .exact d
   .simp only [sl,Value.slice.injEq] at d;omega
  have j:=key _ _ h;subst j;exact ⟨λb hb=>hb,λM' w' d=>d⟩
theorem bL.Br{p:fE}{xs:List α}(h:bL A e M w (sl p) xs R):bL A e M w (sl p) xs (s9 p):=h.canon.2 _ _ h
def mQ(A:dG α)(e:TypeId)(p:fE)(l:List α)(q:Prop):Item where
 own:=s9 p
 P M w:=bL A e M w (sl p) l (s9 p)/\q
 lt h:=h.1.lt
 cL h m k _:=⟨h.1.cL k m,h.2⟩
 cG:=false
 hp h:=by cases h
def Fk(g:Bool)(A:dG α)(p:fE)(l:List α)(clip:Bool):Item where
 own:=[]
 P M w:=g=true->bP A M w (sl p) l/\(clip=true->p.2.2=l.length)
 lt _ b hb:=by cases hb
 cL h m _ _:=λhg=>⟨(h hg).1.mv m,(h hg).2⟩
 cG:=true
 hp _:=rfl
def aaF(p:Prop):Item where
 own:=[]
 P _ _:=p
 lt _ b hb:=by cases hb
 cL h _ _ _:=h
 cG:=true
 hp _:=rfl
end
def Fs:(t:Ty)->t.T->Value
 | .i k,x=> .int k x
 | .s,x=>S x
 | .bo,x=> .bool x
 | .p (.i a) (.i b),x=>Vc a b x
 |_,_=> .bool false
def Row.item(ρ:ay)(T:aC):Row->Item
 | .box id t vs=>Go.Proofs.YtkedhpmpejhekaaGreatDoor.box (ρ id).b t (AV.ao ρ vs)
 | .sli g id t l b=>Fk (T.get g) t.rep (ρ id).v l b
 | .own id t e l ver=>mQ t.rep e (ρ id).v l ((ρ ver).y=⟨.l t,l⟩)
 | .kn g q id ver t i x=>aaF (T.get g=true->∃l:List t.T,(ρ ver).y=⟨.l t,l⟩/\idx l i=some x/\(ρ q).a=pJ (Go.Proofs.YtkedhpmpejhekaaGreatDoor.sl (ρ id).v) i t.rep.n)
 | .elm g id vs=>elem (T.get g) (ρ id).a (AV.ao ρ vs)
 | .mp id k v d=>omap (Fs k) (Fs v) (.map (ρ id).m) d
 | .it id s p=>iter (ρ id).b s p
 | .eq id v=>aaF ((ρ id).x=v.val ρ)
 | .gone=>aaF True
abbrev ab(ρ:ay)(T:aC)(G:List Row):Ctx:=G.map (Row.item ρ T)
def Row.low(c:Nat):Row->Bool
 | .box id _ vs=>Nat.blt id c&&AV.bW c vs
 | .sli _ id _ _ _|.mp id _ _ _|.it id _ _=>Nat.blt id c
 | .own id _ _ _ ver=>Nat.blt id c&&Nat.blt ver c
 | .kn _ q id ver _ _ _=>Nat.blt q c&&Nat.blt id c&&Nat.blt ver c
 | .elm _ id vs=>Nat.blt id c&&AV.bW c vs
 | .eq id v=>Nat.blt id c&&v.low c
 | .gone=>true
def bC(c:Nat):List Row->Bool
 |[]=>true
 |r::G=>r.low c&&bC c G
theorem Row.AE{ρ ρ':ay}{T:aC}{c:Nat}(ha:aT c ρ ρ'){r:Row}(h:r.low c=true):r.item ρ' T=r.item ρ T:=by
 cases r <;> simp only [Row.low,ae,gy] at h
 .simp only [Row.item];rw [ha _ h.1,AV.bS ha _ h.2]
 .simp only [Row.item];rw [ha _ h]
 .simp only [Row.item];rw [ha _ h.1,ha _ h.2]
 .simp only [Row.item];rw [ha _ h.1.1,ha _ h.1.2,ha _ h.2]
 .simp only [Row.item];rw [ha _ h.1,AV.bS ha _ h.2]
 .simp only [Row.item];rw [ha _ h]
 .simp only [Row.item];rw [ha _ h]
 .simp only [Row.item];rw [ha _ h.1,AV.km ha _ h.2]
 .simp only [Row.item]
theorem bf{ρ ρ':ay}{T:aC}{c:Nat}(ha:aT c ρ ρ'):{G:List Row}->bC c G=true->ab ρ' T G=ab ρ T G
 |[],_=>rfl
 |r::G,h=>by simp only [bC,ae] at h;simp only [ab,c5];rw [Row.AE ha h.1];have:=bf (T:=T) ha h.2;simp only [ab] at this;rw [this]
def aF.env(ρ:ay)(T:aC):aF->Env
 |[]=>[]
 |(t,g,v)::E=>(t,T.get g,v.val ρ)::aF.env ρ T E
def aF.low(c:Nat):aF->Bool
 |[]=>true
 |x::E=>x.2.2.low c&&aF.low c E
theorem oN{ρ ρ':ay}{T:aC}{c:Nat}(ha:aT c ρ ρ'):{E:aF}->E.low c=true->aF.env ρ' T E=aF.env ρ T E
 |[],_=>rfl
 |(t,g,v)::E,h=>by simp only [aF.low,ae] at h;simp only [aF.env];rw [AV.km ha v h.1,oN ha h.2]
def aD.low(fr:Fr)(st:aD):Bool:=aF.low st.c st.E&&aF.low st.c fr.F&&bC st.c st.G&&bC st.c fr.H
def ay.set(ρ:ay)(j:Nat)(x:Nm):ay:=λi=>aA (Nat.beq i j) x (ρ i)
theorem ay.bA{ρ:ay}{j:Nat}{x:Nm}:ρ.set j x j=x:=by simp [ay.set]
theorem ay.aZ{ρ:ay}{j:Nat}{x:Nm}:aT j ρ (ρ.set j x):=λi hi=>by
 unfold ay.set;have:Nat.beq i j=false:=by
  cases hb:Nat.beq i j
  .rfl
  .exact absurd (ah hb) (Nat.ne_of_lt hi)
 rw [this]
def iV(E' E:Env):Prop:= ∀t p,look E' t=some p->look E t=some p
theorem iV.refl{E:Env}:iV E E:=λ_ _ h=>h
theorem iV.trans{A B C:Env}(h:iV A B)(k:iV B C):iV A C:=λt p hp=>k t p (h t p hp)
theorem Fits.lI{n:Nat}{E:Env}{a:Act}(h:Fits n E a)(c:iV E' E):Fits n E' a:=⟨h.size,λt g v b=>h.at_ t g v (c t _ b)⟩
theorem WC.lI{P:Program}{ρ:x4}{c:Code}{Q:bu}{n:Nat}{D:w9}{E:Env}{w:World}(E':Env)(b:iV E' E)(h:WC P ρ c Q n D E' w):WC P ρ c Q n D E w:=
 λa d hd=>h a (d.lI b) hd
theorem At.lI{e:Exit}{Q:bu}{n:Nat}{D:w9}{E:Env}{w:World}(E':Env)(b:iV E' E)(h:At Q e n D E' w):At Q e n D E w:=
 λa c hd=>h a (c.lI b) hd
theorem FD{A B:Env}{t:Nat}:look (A++B) t=match look A t with
  |some p=>some p
  |none=>look B t:=by
 induction A with
 |nil=>rfl
 |cons x A ih=>
  obtain ⟨r,g,v⟩:=x;simp only [eb,look];cases Nat.beq r t
  .simp only [cy];exact ih
  .rfl
theorem mu{ρ:ay}{T:aC}:{E F:aF}->aF.env ρ T (E++F)=aF.env ρ T E++aF.env ρ T F
 |[],_=>rfl
 |(t,g,v)::E,F=>by simp only [eb,aF.env];rw [mu]
theorem bk{ρ:ay}{T:aC}{G H:List Row}:ab ρ T (G++H)=ab ρ T G++ab ρ T H:=qV
variable {a : Option α} {Φ : Ctx} {ρ : ay}
theorem aI{c:Bool}{r:α}(h:aA c a none=some r):c=true/\a=some r:=by
 cases c
 .cases h
 .exact ⟨rfl,h⟩
theorem Nb{c:Bool}{r:α}(h:aA c none a=some r):c=false/\a=some r:=by
 cases c
 .exact ⟨rfl,h⟩
 .cases h
theorem dq{c:Bool}{b:Option α}{r:α}(h:aA c a b=some r):(c=true/\a=some r)\/(c=false/\b=some r):=by
 cases c
 .exact .inr ⟨rfl,h⟩
 .exact .inl ⟨rfl,h⟩
def aC.imp:aC->GK->GK->Bool
 |_,_,none=>true
 |[],_,some _=>false
 |_,none,some _=>false
 |(k,par,_,_)::T,some g,some g'=>GK.eq (some g) (some g')||(aA ( GK.eq (some k) (some g) ) ( aC.imp T par (some g') )<|aC.imp T (some g) (some g'))&& !(GK.eq (some k) (some g'))
theorem aC.jK:{T:aC}->{g g':GK}->T.imp g g'=true->T.get g=true->T.get g'=true
 |T,g,none,_,_=>by simp
 |[],g,some g',h,_=>by simp [aC.imp] at h
 |_::_,none,some g',h,_=>by simp [aC.imp] at h
 |(k,par,rj,b)::T,some g,some g',h,hg=>by
  simp only [aC.imp,c9,ae] at h;rcases h with h|⟨a,c⟩
  .rw [<-GK.eq_eq h];exact hg
  .rw [aC.R6 c];cases hb:GK.eq (some k) (some g)
   .rw [hb] at a;rw [aC.R6 (by rw [hb];rfl)] at hg;exact aC.jK a hg
   .rw [hb] at a;simp only [aC.get,hb,ae] at hg;exact aC.jK a hg.1
def bz:aF->Nat->Option (GK×AV)
 |[],_=>none
 |(r,g,v)::E,t=>aA ( Nat.beq r t ) ( some (g,v) )<|bz E t
def dB(E F:aF)(t:Nat):Option (GK×AV):=match bz E t with
 |some x=>some x
 |none=>bz F t
theorem sn{ρ:ay}{T:aC}{t:Nat}:{E:aF}->look (aF.env ρ T E) t=(bz E t).map λx=>(T.get x.1,x.2.val ρ)
 |[]=>rfl
 |(r,g',v')::E=>by
  simp only [bz,aF.env,look];cases hb:Nat.beq r t
  .simp only [cy];exact sn
  .rfl
abbrev au(ρ:ay)(T:aC)(E F:aF):Env:=aF.env ρ T E++aF.env ρ T F
theorem fN{T:aC}{t:Nat}{E F:aF}:look (au ρ T E F) t=(dB E F t).map λx=>(T.get x.1,x.2.val ρ):=by rw [FD,sn,sn];unfold dB;cases bz E t <;> rfl
def jg:Value->AV
 | .int k x=> .int k x
 | .bool x=> .bool x
 | .string b=> .str b.data.toList
 |v=> .raw v
theorem agp:(jg v).val ρ=v:=by cases v <;> simp [jg,AV.val,S]
theorem kM{ρ:ay}:{l:xu}->AV.ao ρ (l.map jg)=l
 |[]=>by simp [AV.ao]
 |v::l=>by simp only [c5,AV.ao];rw [agp,kM]
theorem aoE{c:Nat}:(jg v).low c=true:=by cases v <;> simp [jg,AV.low]
theorem abd{c:Nat}:{l:xu}->AV.bW c (l.map jg)=true
 |[]=>by simp [AV.bW]
 |v::l=>by simp only [c5,AV.bW];rw [aoE,abd];rfl
def br(T:aC)(E F:aF)(g:GK):Operand->Option AV
 | .tmp t=>match dB E F t with
  |some x=>aA ( T.imp g x.1 ) ( some x.2 )<|none
  |none=>none
 | .const v=>some (jg v)
 | .func f=>some (.fn f [] [])
 | .global f=>some (.gp f)
theorem aR{T:aC}{E F:aF}{g:GK}{v:AV}(h:br T E F g x=some v):ar (au ρ T E F) (T.get g) x (v.val ρ):=by
 cases x with
 |tmp t=>
  unfold br at h;dsimp only at h;cases a:dB E F t with
  |none=>rw [a] at h;cases h
  |some x=>
   rw [a] at h;obtain ⟨d,b⟩:=aI h;cases b;exact ar.g (g':=T.get x.1) (by rw [fN,a];rfl) (aC.jK d)
 |const u=>cases h;rw [agp];exact ar.c
 |func f=>cases h;simp only [AV.val,AV.ao];exact ar.f
 |global f=>cases h;simp only [AV.val];exact ar.gl
theorem bF{T:aC}{E F:aF}{v:AV}(h:br T E F none x=some v):ar (au ρ T E F) true x (v.val ρ):=by have:=aR (ρ:=ρ) h;rwa [aC.get_none] at this
def ox(T:aC)(E F:aF)(g:GK):xa->Option (List AV)
 |[]=>some []
 |x::l=>match br T E F g x with
  |some v=>match ox T E F g l with
   |some vs=>some (v::vs)
   |none=>none
  |none=>none
theorem fS{ρ:ay}{T:aC}{E F:aF}{g:GK}:{xs:xa}->{vs:List AV}->ox T E F g xs=some vs->gJ (au ρ T E F) (T.get g) xs (AV.ao ρ vs)
 |[],vs,h=>by cases h;simp only [AV.ao];exact .nil
 |x::l,vs,h=>by
  unfold ox at h;split at h
  .rename_i v b;split at h
   next us a=>cases h;simp only [AV.ao];exact .cons (aR b) (fS a)
   .cases h
  .cases h
def mG(p:Row->Bool):List Row->Option (Nat×Row)
 |[]=>none
 |r::G=>aA ( p r ) ( some (0,r) )<|match mG p G with
  |some x=>some (x.1+1,x.2)
  |none=>none
theorem kO{p:Row->Bool}:{G:List Row}->{i:Nat}->{r:Row}->mG p G=some (i,r)->G[i]? =some r/\p r=true
 |[],_,_,h=>by cases h
 |r0::G,i,r,h=>by
  unfold mG at h;rcases dq h with ⟨b,a⟩|⟨b,a⟩
  .cases a;exact ⟨rfl,b⟩
  .split at a
   next x hx=>cases a;obtain ⟨d,c⟩:=kO (i:=x.1) (r:=x.2) hx;exact ⟨by simpa using d,c⟩
   .cases a
def lC(id:Nat):Row->Bool
 | .sli _ j _ _ _|.own j _ _ _ _=>Nat.beq j id
 |_=>false
def wZ(id:Nat):Row->Bool
 | .box j _ _=>Nat.beq j id
 |_=>false
def ahb(id:Nat):Row->Bool
 | .mp j _ _ _=>Nat.beq j id
 |_=>false
def apK(id:Nat):Row->Bool
 | .it j _ _=>Nat.beq j id
 |_=>false
def isEq(id:Nat):Row->Bool
 | .eq j _=>Nat.beq j id
 |_=>false
def Rm(q:Nat):Row->Bool
 | .kn _ j _ _ _ _ _=>Nat.beq j q
 |_=>false
def aqN(id:Nat):Row->Bool
 | .elm _ j _=>Nat.beq j id
 |_=>false
def Row.id:Row->Nat
 | .box j _ _|.sli _ j _ _ _|.own j _ _ _ _|.mp j _ _ _|.it j _ _|.eq j _|.elm _ j _|.kn _ j _ _ _ _ _=>j
 | .gone=>0
def Row.cG:Row->Bool
 | .sli ..|.elm ..|.eq ..|.kn ..|.gone=>true
 |_=>false
theorem Row.ajJ{T:aC}{r:Row}(h:r.cG=true):(r.item ρ T).cG=true:=by cases r <;> first|rfl|cases h
theorem fj{T:aC}{G:List Row}{i:Nat}{r:Row}(h:G[i]? =some r):(ab ρ T G++Φ)[i]? =some (r.item ρ T):=by have a:i<G.length:=(List.getElem?_eq_some_iff.1 h).1;rw [cb (by simpa [ab] using a)];simp [ab,h]
theorem YH{T:aC}{G H:List Row}{i:Nat}{r:Row}(h:H[i]? =some r):(ab ρ T G++(ab ρ T H++Φ))[G.length+i]? =some (r.item ρ T):=by
 rw [b7 (by simp [ab])];have:G.length+i-(ab ρ T G).length=i:=by simp [ab]
 rw [this];exact fj h
inductive Src where
 |top (i:Nat)
 |cu (i:Nat)
 |nilI (t:Ty)
 |nilO (t:Ty) (e:TypeId)
 |nilM (k v:Ty)
def dJ(G H:List Row)(p:Row->Bool):Option (Src×Row):=match mG p G with
 |some x=>some (.top x.1,x.2)
 |none=>match mG p H with
  |some x=>some (.cu x.1,x.2)
  |none=>none
def Src.at_(G H:List Row):Src->Row->Prop
 | .top i,r=>G[i]? =some r
 | .cu i,r=>H[i]? =some r
 |_,_=>False
theorem bV{p:Row->Bool}{G H:List Row}{s:Src}{r:Row}(h:dJ G H p=some (s,r)):s.at_ G H r/\p r=true:=by
 unfold dJ at h;split at h
 next x hx=>cases h;exact kO hx
 .split at h
  next x hx=>cases h;exact kO hx
  .cases h
theorem Src.item{T:aC}{G H:List Row}{s:Src}{r:Row}(h:s.at_ G H r):∃i:Nat,(ab ρ T G++(ab ρ T H++Φ))[i]? =some (r.item ρ T):=by
 cases s with
 |top i=>exact ⟨i,fj h⟩
 |cu i=>exact ⟨G.length+i,YH h⟩
 |nilI=>exact h.elim
 |nilO=>exact h.elim
 |nilM=>exact h.elim
theorem Src.holds{T:aC}{G H:List Row}{s:Src}{r:Row}(a:Sat (ab ρ T G++(ab ρ T H++Φ)) w)(h:s.at_ G H r):(r.item ρ T).P (Ctx.M (ab ρ T G++(ab ρ T H++Φ))) w:=by obtain ⟨i,hi⟩:=Src.item (ρ:=ρ) (T:=T) (Φ:=Φ) h;exact a.at_ hi
def rW(n:Nat):za->Bool
 |[]=>false
 |m::l=>Nat.beq n m||rW n l
theorem abC{n:Nat}:{l:za}->(rW n l=true↔n∈l)
 |[]=>by simp [rW]
 |m::l=>by simp only [rW,c9,qF];rw [abC,Nat.beq_eq]
variable {cv : xb × AV}
structure YG where
 f:FuncId
 run:{R:Type}->List AV->List Row->aD->(AV->aD->Option R)->Option R
def YG.Ok(P:Program)(i:YG):Prop:=Enters P i.f/\∀{R:Type} (r:R) (args:List AV) (H:List Row) (st:aD) (K:AV->aD->Option R) (ρ:ay) (Φ:Ctx) (w:World),Sat (ab ρ [] st.G++(ab ρ [] H++Φ)) w->
 i.run args H st K=some r->fB P i.f (AV.ao ρ args) w λv w'=>∃(ρ':ay) (st':aD) (av:AV),K av st'=some r/\aT st.c ρ ρ'/\st.c<=st'.c/\av.val ρ'=v/\Sat (ab ρ' [] st'.G++(ab ρ' [] H++Φ)) w'
structure Cx where
 P:Program
 tys:List (TypeId×Ty)
 gls:List (Nat×Nat×bY)
 ids:List FuncId
 idsOk:∀f,f∈ids->amG P f
 fl:Nat
 ks:List TypeId
 inl:List YG
 inlOk:∀i,i∈inl->i.Ok P
 oc:List (Nat×Nat):=[]
def AG{α:Type}:List (Nat×α)->Nat->Option α
 |[],_=>none
 |x::l,n=>aA ( Nat.beq x.1 n ) ( some x.2 )<|AG l n
def HK{ρ:Type}(c:xb)(g:xb)(k:Option ρ):Option ρ:=match c with
 |none=>k
 |some c=>match g with
  |none=>aG c k
  |some g=>BS g c k
theorem oB{ρ:Type}{T:aC}{c:xb}{g:GK}{k:Option ρ}{r:ρ}(h:HK c (g.map λ_=>T.get g) k=some r):(∀b,c=some b->T.get g=true->b=true)/\k=some r:=by
 unfold HK at h;split at h
 .exact ⟨λb hb=>(by cases hb),h⟩
 .split at h
  next a=>obtain ⟨e,d⟩:=eo h;exact ⟨λb hb _=>(by cases hb;exact e),d⟩
  .rename_i g' a;cases g with
   |none=>cases a
   |some i=>
    simp only [mi,b8] at a;subst a;obtain ⟨e,d⟩:=ajg h;exact ⟨λb hb f=>(by cases hb;exact e f),d⟩
abbrev CV:=Option (xb×AV)
def pv(v:AV):CV:=some (none,v)
def fy(a b:IntKind):Bool:=decide (a=b)
theorem gB{a b:IntKind}(h:fy a b=true):a=b:=by simpa [fy] using h
def aiD(k k':IntKind)(m l:Int):BinOp->CV
 | .add=>aA ( fy k k' ) ( pv (.int k (k.wrap (m+l))) ) none
 | .sub=>aA ( fy k k' ) ( pv (.int k (k.wrap (m-l))) ) none
 | .mul=>aA ( fy k k' ) ( pv (.int k (k.wrap (m*l))) ) none
 | .quo=>aA ( fy k k' ) ( some (some (l != 0),.int k (k.wrap (m.tdiv l))) ) none
 | .rem=>aA ( fy k k' ) ( some (some (l != 0),.int k (m.tmod l)) ) none
 | .eql=>aA ( fy k k' ) ( pv (.bool (m==l)) ) none
 | .neq=>aA ( fy k k' ) ( pv (.bool (m != l)) ) none
 | .lss=>aA ( fy k k' ) ( pv (.bool (decide (m<l))) ) none
 | .leq=>aA ( fy k k' ) ( pv (.bool (decide (m<=l))) ) none
 | .gtr=>aA ( fy k k' ) ( pv (.bool (decide (l<m))) ) none
 | .geq=>aA ( fy k k' ) ( pv (.bool (decide (l<=m))) ) none
 | .shr=>some (some (decide (0<=l)),.int k (nM k m l))
 | .shl=>some (some (decide (0<=l)),.int k (bX k m l))
 | .and=>aA ( fy k k' ) ( pv (.int k (pU k m l)) ) none
 | .or=>aA ( fy k k' ) ( pv (.int k (dS k m l)) ) none
 | .xor=>aA ( fy k k' ) ( pv (.int k (VU k m l)) ) none
 | .andNot=>aA ( fy k k' ) ( pv (.int k (bJ k m l)) ) none
def aht(m l:aB):BinOp->CV
 | .eql=>pv (.bool (m==l))
 | .neq=>pv (.bool (m != l))
 | .add=>some (some (iU m l),.str (m++l))
 | .lss=>pv (.bool (Jr m l))
 | .leq=>pv (.bool (Jr m l||m==l))
 | .gtr=>pv (.bool (!(Jr m l||m==l)))
 | .geq=>pv (.bool (!(Jr m l)))
 |_=>none
def ajc(m l:Bool):BinOp->CV
 | .eql=>pv (.bool (m==l))
 | .neq=>pv (.bool (m != l))
 |_=>none
def Yu(P:Program)(t:TypeId):Option IntKind:=match P.underlying t with
 |some (.int k)=>some k
 |_=>none
theorem GB{P:Program}{t:TypeId}{k:IntKind}(h:Yu P t=some k):P.underlying t=some (.int k):=by
 unfold Yu at h;split at h
 next b a=>cases h;exact a
 .cases h
def isStr(P:Program)(t:TypeId):Bool:=match P.underlying t with
 |some .string=>true
 |_=>false
theorem ou{P:Program}{t:TypeId}(h:isStr P t=true):P.underlying t=some .string:=by
 unfold isStr at h;split at h
 .assumption
 .cases h
def isBool(P:Program)(t:TypeId):Bool:=match P.underlying t with
 |some .bool=>true
 |_=>false
theorem XY{P:Program}{t:TypeId}(h:isBool P t=true):P.underlying t=some .bool:=by
 unfold isBool at h;split at h
 .assumption
 .cases h
def alz(P:Program)(t:TypeId):Bool:=match P.underlying t with
 |some _=>true
 |none=>false
theorem apO{P:Program}{t:TypeId}(h:alz P t=true):∃d,P.underlying t=some d:=by
 unfold alz at h;split at h
 next d hd=>exact ⟨d,hd⟩
 .cases h
def ahH(P:Program)(t:TypeId)(op:BinOp):AV->AV->CV
 | .int k m,.int k' l=>aiD k k' m l op
 | .str m,.str l=>aht m l op
 | .bool m,.bool l=>aA ( isBool P t ) ( ajc m l op ) none
 |_,_=>none
def amU:UnOp->AV->CV
 | .not,.bool b=>pv (.bool (!b))
 | .neg,.int k m=>pv (.int k (k.wrap (0-m)))
 |_,_=>none
def anu:AV->Bool
 | .ptr _ _|.adr _ _|.fn _ _ _=>true
 |_=>false
def lL(P:Program)(Ev:Env)(ρ:ay)(g:Bool)(o:Oper)(w:World)(cv:xb×AV):Prop:=
 (∀b,cv.1=some b->g=true->b=true)->bg P Ev g o w (cv.2.val ρ)
section
variable {P : Program} {ρ : ay} {g : Bool} {w : World} {dst : x5} {ty : TypeId} {pos : String} {af : x8} {gd : v7} {Ev : Env}
theorem lL.pv{o:Oper}{v:AV}(h:pv v=some cv)(a:bg P Ev g o w (v.val ρ)):lL P Ev ρ g o w cv:=by cases h;exact λ_=>a
theorem aiI{t:TypeId}{op:BinOp}{k e:IntKind}{m l:Int}(hx:ar Ev g x (.int k m))(c:ar Ev g y (.int e l))(h:aiD k e m l op=some cv):
  lL P Ev ρ g ⟨dst,.binOp op t x y t',ty,pos,af,gd⟩ w cv:=by
 have key:∀{a:CV},aA (fy k e) a none=some cv->k=e/\a=some cv:=λh=>⟨gB (aI h).1,(aI h).2⟩;cases op <;> simp only [aiD] at h
 case shr=>cases h;exact λhc=>ao5 hx c (λd=>hc _ rfl d)
 case shl=>cases h;exact λhc=>aoh hx c (λd=>hc _ rfl d)
 case quo=>
  obtain ⟨rfl,b⟩:=key h;cases b;exact λhc n a f d=>ao1 hx c (by have:=hc _ rfl d;simpa using this) n a f d
 case rem=>
  obtain ⟨rfl,b⟩:=key h;cases b;exact λhc n a f d=>aoO hx c (by have:=hc _ rfl d;simpa using this) n a f d
 case add=>obtain ⟨rfl,b⟩:=key h;exact .pv b (tq hx c)
 case sub=>obtain ⟨rfl,b⟩:=key h;exact .pv b (afk hx c)
 case mul=>obtain ⟨rfl,b⟩:=key h;exact .pv b (aoU hx c)
 case eql=>obtain ⟨rfl,b⟩:=key h;exact .pv b (px hx c)
 case neq=>obtain ⟨rfl,b⟩:=key h;exact .pv b (anN hx c)
 case lss=>obtain ⟨rfl,b⟩:=key h;exact .pv b (afS hx c)
 case leq=>obtain ⟨rfl,b⟩:=key h;exact .pv b (an2 hx c)
 case gtr=>obtain ⟨rfl,b⟩:=key h;exact .pv b (WR hx c)
 case geq=>obtain ⟨rfl,b⟩:=key h;exact .pv b (ao7 hx c)
 case and=>obtain ⟨rfl,b⟩:=key h;exact .pv b (alb hx c)
 case or=>obtain ⟨rfl,b⟩:=key h;exact .pv b (anW hx c)
 case xor=>obtain ⟨rfl,b⟩:=key h;exact .pv b (alo hx c)
 case andNot=>obtain ⟨rfl,b⟩:=key h;exact .pv b (afb hx c)
theorem ajV{t:TypeId}{op:BinOp}{m l:aB}(hx:ar Ev g x (S m))(a:ar Ev g y (S l))(h:aht m l op=some cv):
  lL P Ev ρ g ⟨dst,.binOp op t x y t',ty,pos,af,gd⟩ w cv:=by
 unfold aht at h;split at h
 .exact .pv h (anO hx a)
 .exact .pv h (aoW hx a)
 .cases h;exact λhc=>aoJ hx a (λb=>hc _ rfl b)
 .exact .pv h (aol hx a)
 .exact .pv h (aoC hx a)
 .exact .pv h (anV hx a)
 .exact .pv h (aon hx a)
 .cases h
theorem aiJ{t:TypeId}{op:BinOp}{a b:AV}(hx:ar Ev g x (a.val ρ))(c:ar Ev g y (b.val ρ))(h:ahH P t op a b=some cv):
  lL P Ev ρ g ⟨dst,.binOp op t x y t',ty,pos,af,gd⟩ w cv:=by
 unfold ahH at h;split at h
 .simp only [AV.val] at hx c;exact aiI hx c h
 .simp only [AV.val] at hx c;exact ajV hx c h
 .simp only [AV.val] at hx c;obtain ⟨e,d⟩:=aI h;unfold ajc at d;split at d
  .exact .pv d (aob (XY e) hx c)
  .exact .pv d (aoa (XY e) hx c)
  .cases d
 .cases h
theorem amq{t:TypeId}{op:UnOp}{u:AV}(hx:ar Ev g x (u.val ρ))(h:amU op u=some cv):
  lL P Ev ρ g ⟨dst,.unOp op t x,ty,pos,af,gd⟩ w cv:=by
 unfold amU at h;split at h
 .simp only [AV.val] at hx;exact .pv h (acP hx)
 .simp only [AV.val] at hx;exact .pv h (aom hx)
 .cases h
theorem ajR{v:AV}(hx:ar Ev g x (v.val ρ))(h:anu v=true):bg P Ev g ⟨dst,.nilCheck x,ty,pos,af,gd⟩ w (v.val ρ):=by
 cases v with
 |ptr id off=>simp only [AV.val] at hx ⊢; exact abn hx
 |adr id off=>simp only [AV.val] at hx ⊢; exact abn hx
 |fn f a b=>simp only [AV.val] at hx ⊢; exact alh hx
 |_=>cases h
end
def jW(P:Program)(t:TypeId):Option (Nat×Nat×Value):=match P.info? t with
 |some i=>match i.zero with
  |some z=>some (i.size,i.bytes,z)
  |none=>none
 |none=>none
theorem cF{P:Program}{t:TypeId}{n bytes:Nat}(h:jW P t=some (n,bytes,z)):TI P t n bytes z:=by
 unfold jW at h;split at h
 .rename_i i hi;split at h
  next b a=>cases h;simp [TI,hi,a]
  .cases h
 .cases h
def aii(P:Program)(t:TypeId)(k:Nat):Option (TypeId×Nat×Nat):=match P.underlying t with
 |some (.struct fs)=>match fs.toList[k]? with
  |some f=>match P.info? f.type with
   |some i=>some (f.type,f.offset,i.size)
   |none=>none
  |none=>none
 |_=>none
theorem afo{P:Program}{t ft:TypeId}{k off n:Nat}(h:aii P t k=some (ft,off,n)):∃a f i,P.underlying t=some (.struct a)/\a[k]? =some f/\f.type=ft/\f.offset=off/\P.info? ft=some i/\i.size=n:=by
 unfold aii at h;split at h
 .rename_i a b;split at h
  .rename_i f c;split at h
   next i hi=>cases h;exact ⟨a,f,i,b,by simpa using c,rfl,rfl,hi,rfl⟩
   .cases h
  .cases h
 .cases h
def j2(P:Program)(t:TypeId)(cs:List AV):Option AV:=match P.underlying t with
 |some d=>aA ( jn d ) ( (match jW P t with
   |some x=>aA ( Nat.ble x.1 cs.length ) ( some (.agg (cs.take x.1)) )<|none
   |none=>none)
  )<|cs.head?
 |none=>none
def cU:AV->List AV
 | .agg l=>l
 | .raw v=>v.cells.toList.map jg
 |v=>[v]
def Mq:AV->Bool
 | .nv _=>false
 |_=>true
theorem xq{ρ:ay}{v:AV}(h:Mq v=true):(v.val ρ).cells=(AV.ao ρ (cU v)).toArray:=by
 cases v <;> simp only [cU,AV.val,AV.ao] <;> try rfl
 .cases h
 .rw [kM]
def tl(vs:List AV)(k:Nat)(us:List AV):List AV:=vs.take k++us++vs.drop (k+us.length)
theorem xd{ρ:ay}{vs us:List AV}{k:Nat}:nd (AV.ao ρ vs) k (AV.ao ρ us)=AV.ao ρ (tl vs k us):=by simp only [nd,tl,cZ,AV.jv,AV.gF,AV.bm]
def y8(place:Nat->Option (Nat×Nat)):List (Nat×AV)->List AV->Option (List AV)
 |[],cs=>some cs
 |(i,v)::l,cs=>match place i with
  |some (off,n)=>aA ( Mq v&&(Nat.beq (cU v).length n&&Nat.ble (off+n) cs.length) ) ( y8 place l (tl cs off (cU v)) )<|none
  |none=>none
theorem YR{off:Nat}:∀(us:xu) (k:Nat) (cs:xu),off+k+us.length<=cs.length->
  (us.zipIdx k).foldl (λcs (x:Value×Nat)=>cs.setIfInBounds (off+x.2) x.1) cs.toArray=(nd cs (off+k) us).toArray
 |[],k,cs,_=>by simp [nd]
 |u::us,k,cs,h=>by
  simp only [cx] at h;simp only [List.zipIdx_cons,List.foldl_cons,List.setIfInBounds_toArray];rw [YR us (k+1) (cs.set (off+k) u) (by rw [tj];omega)];congr 1;simp only [nd];have a:off+k<cs.length:=by omega
  have c:(cs.set (off+k) u).take (off+(k+1))=cs.take (off+k)++[u]:=by rw [show off+(k+1)=(off+k)+1 from rfl,List.take_add_one,qD a,List.take_set_of_le (bb _)];rfl
  have b:(cs.set (off+k) u).drop (off+(k+1)+us.length)=cs.drop (off+k+(u::us).length):=by rw [List.drop_set_of_lt (by omega)];congr 1;simp only [cx];omega
  rw [c,b];simp
theorem wJ{ρ:ay}{a:Nat->Option (Nat×Nat)}:{ps:List (Nat×AV)}->{cs b:List AV}->y8 a ps cs=some b->
  Instr.fill a (AV.ao ρ cs).toArray (ps.map λp=>(p.1,p.2.val ρ))=some (AV.ao ρ b).toArray
 |[],cs,b,h=>by cases h;rfl
 |(i,v)::l,cs,b,h=>by
  unfold y8 at h;split at h
  .rename_i off n hp;obtain ⟨d,g⟩:=aI h;simp only [ae,Nat.ble_eq] at d;obtain ⟨f,c,k⟩:=d;have c:=ah c;have ih:=wJ (ρ:=ρ) g;simp only [c5];unfold Instr.fill;simp only [hp];have e:=xq (ρ:=ρ) f;have j:¬(((v.val ρ).cells.size≠n||decide (off+(v.val ρ).cells.size>(AV.ao ρ cs).toArray.size))=true):=by rw [e];simp only [mo,AV.bm,c];simp;omega
   rw [gx j,e];have:=YR (off:=off) (AV.ao ρ (cU v)) 0 (AV.ao ρ cs) (by rw [AV.bm,AV.bm];omega);simp only [qn] at this;rw [show (AV.ao ρ (cU v)).toArray.zipIdx=((AV.ao ρ (cU v)).zipIdx 0).toArray from by simp,List.foldl_toArray,this,xd];exact ih
  .cases h
variable {P : Program}
def ud{α β:Type}(f:α->Option β):List α->Option (List β)
 |[]=>some []
 |x::l=>match f x with
  |some y=>match ud f l with
   |some ys=>some (y::ys)
   |none=>none
  |none=>none
theorem Ym{P:Program}{w:World}{α β:Type}{f:α->Sem β}{g:α->Option β}(a:∀x y,g x=some y->(f x).run P w= .ok y w):∀{l:List α} {ys:List β},ud g l=some ys->(l.mapM f).run P w= .ok ys w
 |[],ys,h=>by cases h;simp
 |x::l,ys,h=>by
  unfold ud at h;split at h
  .rename_i y c;split at h
   next zs b=>cases h;rw [List.mapM_cons,Sem.run_bind,a x y c,Result.andThen_ok,Sem.run_bind,Ym a b,Result.andThen_ok,Sem.run_pure]
   .cases h
  .cases h
theorem Ua{w:World}{β:Type}{f:α->Sem β}{g:α->Option β}(a:∀x y,g x=some y->(f x).run P w= .ok y w){l:Array α}{ys:List β}(h:ud g l.toList=some ys):(l.mapM f).run P w= .ok ys.toArray w:=by rw [Array.mapM_eq_mapM_toList,Sem.run_map,Ym a h];rfl
def abZ(P:Program)(f:Field):Option (Nat×Nat):=match P.info? f.type with
 |some i=>some (f.offset,i.size)
 |none=>none
def acZ(P:Program)(t:TypeId)(ps:List (Nat×AV)):Option (List AV):=match jW P t with
 |some z=>(match P.underlying t with
  |some (.struct fs)=>(match ud (abZ P) fs.toList with
   |some pl=>y8 (λi=>pl[i]?) ps (z.2.2.cells.toList.map jg)
   |none=>none)
  |some (.array _ e)=>(match P.info? e with
   |some i=>y8 (λk=>some (k*i.size,i.size)) ps (z.2.2.cells.toList.map jg)
   |none=>none)
  |_=>none)
 |none=>none
theorem ajU{t:TypeId}{ρ:ay}{w:World}{ps:List (Nat×AV)}{cs:List AV}(h:acZ P t ps=some cs):
  (Instr.build t (ps.map λp=>(p.1,p.2.val ρ)).toArray).run P w= .ok (.agg (AV.ao ρ cs).toArray) w:=by
 unfold acZ at h;split at h
 .rename_i z m;obtain ⟨size,bytes,z⟩:=z;have j:=cF m;have d:=j.zero w;unfold Instr.build;simp only [Sem.run_bind,d,Result.andThen_ok];split at h
  .rename_i o a;simp only [run_underlying a,Result.andThen_ok];split at h
   .rename_i pl l;have n:(o.mapM λf=>do pure (f.offset,<-sizeOf f.type):Sem (Array (Nat×Nat))).run P w= .ok pl.toArray w:=Ua (g:=abZ P) (λf y c=>by
     unfold abZ at c;split at c
     next i hi=>cases c;simp [sizeOf,typeInfo,hi]
     .cases c) l
    have b:=wJ (ρ:=ρ) h;rw [kM] at b;simp only [Sem.run_bind,n,Result.andThen_ok];have e:(λ(x:Nat)=>pl.toArray[x]?)=λi=>pl[i]? :=by funext i;simp
    rw [e];simp only [Array.toArray_toList] at b;rw [b];rfl
   .cases h
  .rename_i k e a;simp only [run_underlying a,Result.andThen_ok];split at h
   next i hi=>have b:=wJ (ρ:=ρ) h;rw [kM] at b;simp only [Array.toArray_toList] at b;simp only [Sem.run_bind,sizeOf,typeInfo,run_program,hi,Result.andThen_ok,Sem.run_pure];rw [b];rfl
   .cases h
  .cases h
 .cases h
theorem BR{ρ:ay}:∀(a:za) (vs:List AV),(a.zip vs).map (λp=>(p.1,p.2.val ρ))=a.zip (AV.ao ρ vs)
 |[],_=>by simp
 |_::_,[]=>by simp [AV.ao]
 |i::a,v::vs=>by simp only [List.zip_cons_cons,c5,AV.ao];rw [BR]
def eK(T:aC)(E F:aF):Prop:= ∀x,x∈T->dB E F x.2.2.1=some (x.2.1,.bool x.2.2.2)/\T.get (some x.1)=(T.get x.2.1&&we x.1.2 x.2.2.2)
def keyOf(r:Nat)(pol:Bool):aC->Option ((Nat×Bool)×GK×Nat×Bool)
 |[]=>none
 |x::T=>aA ( Nat.beq x.2.2.1 r&&Xu x.1.2 pol ) ( some x )<|keyOf r pol T
theorem aaY{r:Nat}{a:Bool}:{T:aC}->{x:(Nat×Bool)×GK×Nat×Bool}->keyOf r a T=some x->x∈T/\x.2.2.1=r/\x.1.2=a
 |[],x,h=>by cases h
 |y::T,x,h=>by
  unfold keyOf at h;rcases dq h with ⟨c,b⟩|⟨_,b⟩
  .cases b;simp only [ae] at c;exact ⟨b5 .., ah c.1,af8 c.2⟩
  .obtain ⟨e,d⟩:=aaY b;exact ⟨aW _ e,d⟩
def anz(T:aC)(E F:aF)(g:GK)(c x:Operand):Option (Bool×Bool):=match br T E F g x with
 |some (.bool y)=>(match br T E F g c with
  |some (.bool b)=>some (b,y)
  |_=>none)
 |_=>none
def anE(T:aC)(E F:aF)(g:GK)(pol:Bool)(c x:Operand):Option (Bool×Bool):=match c with
 | .tmp r=>(match keyOf r pol T with
  |some k=>aA ( T.imp g k.2.1 ) ( match br T E F (some k.1) x with
    |some (.bool y)=>some (k.2.2.2,y)
    |_=>none
   ) none
  |none=>none)
 |_=>none
def aaz(T:aC)(E F:aF)(g:GK)(pol:Bool)(c x:Operand):Option (Bool×Bool):=match anz T E F g c x with
 |some y=>some y
 |none=>anE T E F g pol c x
theorem acq{ρ:ay}{T:aC}{E F:aF}{g:GK}{i b y:Bool}{c:Operand}(D:eK T E F)(h:aaz T E F g i c x=some (b,y)):
  ar (au ρ T E F) (T.get g) c (.bool b)/\ar (au ρ T E F) (T.get g&&we i b) x (.bool y):=by
 have f:∀{p q:Bool} {u:Value},ar (au ρ T E F) p x u->ar (au ρ T E F) (p&&q) x u:=λh n a m j=>h n a m (ae _ _▸j).1;unfold aaz at h;split at h
 .rename_i z d;cases h;unfold anz at d;split at d
  .rename_i t hx;split at d
   next G hc=>cases d;have l:=aR (ρ:=ρ) hx;have e:=aR (ρ:=ρ) hc;simp only [AV.val] at l e;exact ⟨e,f l⟩
   .cases d
  .cases d
 .unfold anE at h;split at h
  .rename_i r;split at h
   .rename_i k C;obtain ⟨l,e⟩:=aI h;split at e
    next t hx=>cases e;obtain ⟨B,A,w⟩:=aaY C;obtain ⟨o,v⟩:=D _ B;have s:=aR (ρ:=ρ) hx;simp only [AV.val] at s;rw [A] at o;refine ⟨ar.g (g':=T.get k.2.1) (by rw [fN,o];simp [AV.val]) (aC.jK l),λn a m j=>s n a m ?_⟩;rw [v,w];simp only [ae] at j ⊢;exact ⟨aC.jK l j.1,j.2⟩
    .cases e
   .cases h
  .cases h
def isF:Operand->Bool
 | .const (.bool b)=> !b
 |_=>false
def alU:Operand->Bool
 | .const (.bool b)=>b
 |_=>false
theorem apy(h:isF x=true):x= .const (.bool false):=by
 unfold isF at h;split at h
 .rename_i b;cases b
  .rfl
  .cases h
 .cases h
theorem ao3(h:alU x=true):x= .const (.bool true):=by
 unfold alU at h;split at h
 .rename_i b;cases b
  .cases h
  .rfl
 .cases h
def Nq(P:Program)(t:TypeId):Bool:=match P.underlying t with
 |some d=> !(fP d)
 |none=>false
theorem Vp{t:TypeId}(h:Nq P t=true):∃d,P.underlying t=some d/\fP d=false:=by
 unfold Nq at h;split at h
 next d hd=>exact ⟨d,hd,by simpa using h⟩
 .cases h
def loA(T:aC)(E F:aF)(g:GK):Option Operand->x3
 |none=>some 0
 |some y=>match br T E F g y with
  |some (.int _ i)=>some i
  |_=>none
def hiA(T:aC)(E F:aF)(g:GK):Option Operand->Option x3
 |none=>some none
 |some y=>match br T E F g y with
  |some (.int _ i)=>some (some i)
  |_=>none
theorem KB{ρ:ay}{T:aC}{E F:aF}{g:GK}{lo:Option Operand}{i:Int}(h:loA T E F g lo=some i):(match (motive:=Option Operand->Prop) lo with|none=>i=0|some y=>∃k,ar (au ρ T E F) (T.get g) y (.int k i)):=by
 cases lo with
 |none=>cases h;rfl
 |some y=>
  unfold loA at h;dsimp only at h;split at h
  next k j a=>cases h;have:=aR (ρ:=ρ) a;simp only [AV.val] at this;exact ⟨k,this⟩
  .cases h
theorem Ur{ρ:ay}{T:aC}{E F:aF}{g:GK}{hi:Option Operand}{j:x3}{len:Nat}(h:hiA T E F g hi=some j):(match (motive:=Option Operand->Prop) hi with|none=>(j.getD (len:Int))=(len:Int)|some y=>∃k,ar (au ρ T E F) (T.get g) y (.int k (j.getD (len:Int)))):=by
 cases hi with
 |none=>cases h;rfl
 |some y=>
  unfold hiA at h;dsimp only at h;split at h
  next k j a=>cases h;have:=aR (ρ:=ρ) a;simp only [AV.val] at this;exact ⟨k,this⟩
  .cases h
def acS(X:Cx)(T:aC)(E F:aF)(g:GK)(c:Callee)(xs:xa)(ts:List TypeId):CV:=match c,xs,ts with
 | .builtin .len,[x],[t]=>aA ( isStr X.P t ) ( (match br T E F g x with
   |some (.str l)=>pv (.int .i64 (l.length:Int))
   |_=>none)
  ) none
 | .builtin .max,[x,y],[_,_]=>(match br T E F g x,br T E F g y with
  |some (.int k m),some (.int k' l)=>aA ( fy k k' ) ( pv (.int k (max m l)) ) none
  |_,_=>none)
 | .builtin .min,[x,y],[_,_]=>(match br T E F g x,br T E F g y with
  |some (.int k m),some (.int k' l)=>aA ( fy k k' ) ( pv (.int k (min m l)) ) none
  |_,_=>none)
 |_,_,_=>none
def amd(X:Cx)(T:aC)(E F:aF)(g:GK):Op->CV
 | .move x=>(match br T E F g x with
  |some v=>pv v
  |none=>none)
 | .assign x=>(match br T E F g x with
  |some v=>pv v
  |none=>none)
 | .pick c a b=>aA ( isF b ) ( (match aaz T E F g true c a with
   |some y=>pv (.bool (y.1&&y.2))
   |none=>none)
  )<|aA ( alU a ) ( (match aaz T E F g false c b with
   |some y=>pv (.bool (y.1||y.2))
   |none=>none)
  ) none
 | .nilCheck x=>(match br T E F g x with
  |some v=>aA ( anu v ) ( pv v ) none
  |none=>none)
 | .extract x i=>(match br T E F g x with
  |some (.tuple l)=>(match l[i]? with
   |some v=>pv v
   |none=>none)
  |_=>none)
 | .unOp op _ x=>(match br T E F g x with
  |some v=>amU op v
  |none=>none)
 | .binOp op t x y _=>(match br T E F g x with
  |some u=>(match br T E F g y with
   |some v=>ahH X.P t op u v
   |none=>none)
  |none=>none)
 | .convert s d x=>(match br T E F g x with
  |some (.int _ m)=>aA ( alz X.P s ) (match Yu X.P d with
   |some k=>pv (.int k (k.wrap m))
   |none=>none) none
  |_=>none)
 | .index t x y=>aA ( isStr X.P t ) ( (match br T E F g x,br T E F g y with
   |some (.str l),some (.int _ i)=>some (some (sW i l.length),.int .u8 (gw l i))
   |_,_=>none)
  ) none
 | .slice t x lo hi none=>aA ( isStr X.P t ) ( (match br T E F g x with
   |some (.str l)=>(match loA T E F g lo with
    |some i=>(match hiA T E F g hi with
     |some j=>some (some (dp i (j.getD (l.length:Int)) l.length),.str (cut l i (j.getD (l.length:Int))))
     |none=>none)
    |none=>none)
   |_=>none)
  ) none
 | .field t x k=>(match br T E F g x with
  |some (.agg cs)=>(match aii X.P t k with
   |some f=>(match j2 X.P f.1 (cs.drop f.2.1) with
    |some v=>pv v
    |none=>none)
   |none=>none)
  |_=>none)
 | .fieldAddr t x k=>(match aii X.P t k with
  |some f=>aA ( Nat.beq f.2.2 0 ) none (match br T E F g x with
   |some (.ptr id o)=>pv (.ptr id (o+f.2.1))
   |some (.adr id o)=>pv (.adr id (o+f.2.1))
   |_=>none)
  |none=>none)
 | .build t ps=>(match ox T E F g (ps.toList.map (·.2)) with
  |some vs=>(match acZ X.P t ((ps.toList.map (·.1)).zip vs) with
   |some cs=>pv (.agg cs)
   |none=>none)
  |none=>none)
 | .makeFunc (.func f) a b=>(match ox T E F g a.toList with
  |some us=>(match ox T E F g b.toList with
   |some vs=>pv (.fn f us vs)
   |none=>none)
  |none=>none)
 | .makeInterface t x=>(match br T E F g x with
  |some v=>aA ( Nq X.P t ) ( pv (.ifc t v) ) none
  |none=>none)
 | .typeAssert x _ t false=>(match br T E F g x with
  |some (.ifc t' v)=>aA ( Nat.beq t t'&&Nq X.P t ) ( pv v ) none
  |_=>none)
 | .call c=>acS X T E F g c.callee c.args.toList c.argTypes.toList
 |_=>none
theorem add_plain{o k:Nat}:(⟨b,o,none⟩:Addr).add k=⟨b,o+k,none⟩:=by
 unfold Addr.add;split
 next h=>subst h;rfl
 .rfl
theorem add_add{a:Addr}{j k:Nat}:(a.add j).add k=a.add (j+k):=by
 by_cases c:j=0
 .subst c;have:a.add 0=a:=by simp [Addr.add]
  rw [this,ig]
 .by_cases b:k=0
  .subst b;simp [Addr.add]
  .simp [Addr.add,c,b,qx]
theorem ama{l:List α}{v:α}(h:l.head? =some v):l[0]? =some v:=by
 cases l with
 |nil=>simp at h
 |cons a l=>simpa using h
section
variable {X : Cx} {ρ : ay} {T : aC} {E F : aF} {g : GK} {w : World} {dst : x5} {ty : TypeId} {pos : String} {af : x8} {gd : v7}
theorem me{t:TypeId}{off:Nat}{cs:List AV}{v:AV}(h:j2 X.P t (cs.drop off)=some v):∃d n bytes z,X.P.underlying t=some d/\(jn d=true->TI X.P t n bytes z)/\
  (if jn d then some (.agg (((AV.ao ρ cs).drop off).take n).toArray) else (AV.ao ρ cs)[off]?)=some (v.val ρ):=by
 unfold j2 at h;split at h
 .rename_i d hd;rcases dq h with ⟨b,a⟩|⟨b,a⟩
  .split at a
   next x hx=>obtain ⟨n,bytes,z⟩:=x;obtain ⟨c,e⟩:=aI a;cases e;refine ⟨d,n,bytes,z,hd,λ_=>cF hx,?_⟩;rw [hW b];simp only [AV.val,AV.jv,AV.gF]
   .cases a
  .refine ⟨d,0,0,.bool false,hd,(λh=>by rw [b] at h;cases h),?_⟩;rw [gx (by rw [b];simp)];have c:=AV.adV (ρ:=ρ) (ama a);rw [AV.gF,j5] at c;simpa using c
 .cases h
theorem agI{c:Callee}{xs:Array Operand}{j:Array TypeId}(h:acS X T E F g c xs.toList j.toList=some cv):
  lL X.P (au ρ T E F) ρ (T.get g) ⟨dst,.call ⟨c,xs,j⟩,ty,pos,af,gd⟩ w cv:=by
 obtain ⟨xs⟩:=xs;obtain ⟨j⟩:=j;unfold acS at h;split at h
 .rename_i x t b a;simp only at b a;subst b;subst a;obtain ⟨i,d⟩:=aI h;split at d
  next l hx=>have:=aR (ρ:=ρ) hx;simp only [AV.val] at this;exact .pv d (amz (ou i) this)
  .cases d
 .rename_i x y t t' b a;simp only at b a;subst b;subst a;split at h
  next k m o l hx n=>obtain ⟨i,d⟩:=aI h;have:=gB i;subst this;have f:=aR (ρ:=ρ) hx;have e:=aR (ρ:=ρ) n;simp only [AV.val] at f e;exact .pv d (alZ f e (akU _ _ _ _ _))
  .cases h
 .rename_i x y t t' b a;simp only at b a;subst b;subst a;split at h
  next k m o l hx n=>obtain ⟨i,d⟩:=aI h;have:=gB i;subst this;have f:=aR (ρ:=ρ) hx;have e:=aR (ρ:=ρ) n;simp only [AV.val] at f e;exact .pv d (alj f e (al0 _ _ _ _ _))
  .cases h
 .cases h
theorem amc{op:Op}(Q:eK T E F)(h:amd X T E F g op=some cv):
  lL X.P (au ρ T E F) ρ (T.get g) ⟨dst,op,ty,pos,af,gd⟩ w cv:=by
 unfold amd at h;split at h
 .split at h
  next v hv=>exact .pv h (aL (aR hv))
  .cases h
 .split at h
  next v hv=>exact .pv h (cK (aR hv))
  .cases h
 .rename_i c a b;rcases dq h with ⟨r,p⟩|⟨_,p⟩
  .have:=apy r;subst this;split at p
   next y B=>obtain ⟨x,s⟩:=acq (ρ:=ρ) (b:=y.1) (y:=y.2) Q B;exact .pv p (aoj x (by simpa [we] using s))
   .cases p
  .obtain ⟨r,p⟩:=aI p;have:=ao3 r;subst this;split at p
   next y B=>obtain ⟨x,s⟩:=acq (ρ:=ρ) (b:=y.1) (y:=y.2) Q B;exact .pv p (aqn x (by simpa [we] using s))
   .cases p
 .split at h
  next v hv=>obtain ⟨r,p⟩:=aI h;exact .pv p (ajR (aR hv) r)
  .cases h
 .split at h
  .rename_i l hv;split at h
   next v W=>have q:=aR (ρ:=ρ) hv;simp only [AV.val] at q;exact .pv h (aeS q (AV.adV W))
   .cases h
  .cases h
 .split at h
  next v hv=>exact amq (aR hv) h
  .cases h
 .split at h
  .rename_i u V;split at h
   next v hv=>exact aiJ (aR V) (aR hv) h
   .cases h
  .cases h
 .split at h
  .rename_i k' m hx;obtain ⟨r,p⟩:=aI h;obtain ⟨ds,L⟩:=apO r;split at p
   next k Y=>have q:=aR (ρ:=ρ) hx;simp only [AV.val] at q;exact .pv p (abB L (GB Y) q)
   .cases p
  .cases h
 .obtain ⟨r,p⟩:=aI h;split at p
  next l k i hx B=>have q:=aR (ρ:=ρ) hx;have R:=aR (ρ:=ρ) B;simp only [AV.val] at q R;cases p;exact λhc=>aln (ou r) q R (λC=>hc _ rfl C)
  .cases p
 .obtain ⟨r,p⟩:=aI h;split at p
  .rename_i l hx;split at p
   .rename_i i hi;split at p
    next j Z=>have q:=aR (ρ:=ρ) hx;simp only [AV.val] at q;cases p;exact λhc=>alD (ou r) q (KB hi) (Ur Z) (λC=>hc _ rfl C)
    .cases p
   .cases p
  .cases p
 .split at h
  .rename_i cs hx;split at h
   .rename_i f G;obtain ⟨ft,off,n⟩:=f;split at h
    .rename_i v hv;obtain ⟨S,f,i,x,s,I,H,O,N⟩:=afo G;obtain ⟨d,n',bytes,z,c1,c2,J⟩:=me (ρ:=ρ) hv;have q:=aR (ρ:=ρ) hx;simp only [AV.val] at q;cases hd:jn d
     .refine .pv h (λU a G C=>?_);have h5:=q U a G C;rw [hd] at J;simp only [oi,qI] at J;have hp:=agQ (P:=X.P) (w:=w) c1 hd J;subst I;subst H;simp only [execOp,h5,Instr.field,Sem.run_bind,run_underlying x,Result.andThen_ok,s,asAgg,Sem.run_pure,hp]
     .exact .pv h (ajT x s I H c1 (c2 hd) q J)
    .cases h
   .cases h
  .cases h
 .split at h
  .rename_i f G;obtain ⟨ft,off,n⟩:=f;obtain ⟨S,f,i,x,s,I,H,O,N⟩:=afo G;obtain ⟨r,p⟩:=Nb h;have D:agk X.P _ _ off:=⟨S,f,i,x,s,H,by rw [I];exact O,by rw [N];exact Nat.ne_of_beq_eq_false r⟩;split at p
   next id o hx=>have q:=aR (ρ:=ρ) hx;simp only [AV.val] at q;refine .pv p ?_;simp only [AV.val];have:=Jz (dst:=dst) (ty:=ty) (pos:=pos) (af:=af) (gd:=gd) (w:=w) D q;rwa [add_plain] at this
   next id o hx=>have q:=aR (ρ:=ρ) hx;simp only [AV.val] at q;refine .pv p ?_;simp only [AV.val];have:=Jz (dst:=dst) (ty:=ty) (pos:=pos) (af:=af) (gd:=gd) (w:=w) D q;rwa [add_add] at this
   .cases p
  .cases h
 .rename_i t ps;split at h
  .rename_i vs A;split at h
   .rename_i cs M;refine .pv h ?_;simp only [AV.val];have q:=fS (ρ:=ρ) A;have:=ajq (P:=X.P) (w:=w) (dst:=dst) (ty:=ty) (pos:=pos) (af:=af) (gd:=gd) (t:=t) (v:= .agg (AV.ao ρ cs).toArray) q (λw=>by rw [<-BR];exact ajU M)
    simpa using this
   .cases h
  .cases h
 .rename_i f a b;split at h
  .rename_i us K;split at h
   next vs A=>refine .pv h ?_;simp only [AV.val];have:=Kq (P:=X.P) (w:=w) (dst:=dst) (ty:=ty) (pos:=pos) (af:=af) (gd:=gd) (fn:= .func f) (fS (ρ:=ρ) K) (fS (ρ:=ρ) A);simpa using this
   .cases h
  .cases h
 .split at h
  next v hv=>obtain ⟨r,p⟩:=aI h;obtain ⟨d,x,s⟩:=Vp r;refine .pv p ?_;simp only [AV.val];exact aeD x s (aR hv)
  .cases h
 .split at h
  next t' v hv=>obtain ⟨r,p⟩:=aI h;simp only [ae] at r;obtain ⟨d,x,s⟩:=Vp r.2;have q:=aR (ρ:=ρ) hv;simp only [AV.val] at q;have e:=ah r.1;subst e;exact .pv p (aeW x s q)
  .cases h
 .exact agI h
 .cases h
end
def sf(G H:List Row):AV->AV
 | .nv u=>(match dJ G H (isEq u) with
  |some (_,.eq _ v)=>v
  |_=> .nv u)
 |v=>v
theorem R8{ρ:ay}{T:aC}{G H:List Row}{Φ:Ctx}{w:World}(a:Sat (ab ρ T G++(ab ρ T H++Φ)) w){v:AV}:(sf G H v).val ρ=v.val ρ:=by
 unfold sf;split
 .rename_i u;split
  next s j e h=>obtain ⟨d,c⟩:=bV h;have b:=Src.holds a d;have:j=u:=ah c;subst this;simp only [AV.val];exact b.symm
  .rfl
 .rfl
theorem Kt{ρ:ay}{T:aC}{G H:List Row}{Φ:Ctx}{w:World}(a:Sat (ab ρ T G++(ab ρ T H++Φ)) w):(l:List AV)->AV.ao ρ (l.map (sf G H))=AV.ao ρ l
 |[]=>rfl
 |v::l=>by simp only [c5,AV.ao];rw [R8 a,Kt a l]
def UP:Ty->Bool
 | .i _|.bo|.s|.un|.n=>true
 | .p x y=>UP x&&UP y
 |_=>false
def wY:(t:Ty)->t.T->List AV
 | .i k,x=>[.int k x]
 | .bo,x=>[.bool x]
 | .s,x=>[.str x]
 | .n,x=>[.ifc x (.agg [])]
 | .p a b,x=>wY a x.1++wY b x.2
 |_,_=>[]
theorem Qx{ρ:ay}{M:Nat->Prop}{w:World}:(t:Ty)->(x:t.T)->(vs:xu)->UP t=true->t.rep.rd M w vs x->vs=AV.ao ρ (wY t x)
 | .i k,x,vs,_,h=>by simp only [wY,AV.ao,AV.val];exact h
 | .bo,x,vs,_,h=>by simp only [wY,AV.ao,AV.val];exact h
 | .s,x,vs,_,h=>by simp only [wY,AV.ao,AV.val];exact h
 | .un,x,vs,_,h=>by simp only [wY,AV.ao];exact h
 | .p a b,x,vs,hf,h=>by
  simp only [UP,ae] at hf;obtain ⟨us,c,rfl,e,d⟩:=h;rw [wY,cZ,<-Qx a x.1 us hf.1 e,<-Qx b x.2 c hf.2 d]
 | .l _,_,_,hf,_=>by cases hf
 | .ex,_,_,hf,_=>by cases hf
 | .n,x,vs,_,h=>by simp only [wY,AV.ao,AV.val];exact h
 | .mp _ _,_,_,hf,_=>by cases hf
def abI(T:aC)(G H:List Row)(g:GK)(q off:Nat):Option (List AV):=match dJ G H (Rm q) with
 |some (_,.kn g' _ id ver u _ x)=>aA ( T.imp g g'&&UP u ) ( match dJ G H (lC id) with
  |some (_,.own _ _ _ _ ver')=>aA ( Nat.beq ver ver' ) ( some ((wY u x).drop off) ) none
  |_=>none ) none
 |_=>none
theorem NF{t t':Ty}{l:List t.T}{l':List t'.T}{y:bY}(h:y=⟨.l t,l⟩)(a:y=⟨.l t',l'⟩):∃e:t=t',e▸l=l':=by rw [h] at a;cases a;exact ⟨rfl,rfl⟩
theorem aiT{ρ:ay}{T:aC}{G H:List Row}{Φ:Ctx}{w:World}{g:GK}{q off:Nat}{vs:List AV}(o:Sat (ab ρ T G++(ab ρ T H++Φ)) w)(h:abI T G H g q off=some vs)(t:T.get g=true):
  bM w ((ρ q).a.add off) (AV.ao ρ vs):=by
 unfold abI at h;split at h
 .rename_i s g' q' id c u i r v;obtain ⟨m,k⟩:=aI h;simp only [ae] at m;split at k
  next O d u' e l b j=>obtain ⟨z,y⟩:=aI k;cases y;obtain ⟨D,C⟩:=bV v;obtain ⟨B,A⟩:=bV j;have K:q'=q:=ah C;have J:d=id:=ah A;have I:c=b:=ah z;subst K;subst J;subst I;obtain ⟨x,f⟩:=Src.holds o B;obtain ⟨P,N,M,L⟩:=(Src.holds o D) (aC.jK m.1 t);obtain ⟨F,p⟩:=NF N f;subst F;simp only at p;subst p;obtain ⟨_,us,n,E⟩:=x.atA M;rw [Qx (ρ:=ρ) u r us m.2 E] at n;rw [<-L] at n;refine n.sub _ ?_;rw [AV.gF,j0 (bb _)]
  .cases k
 .cases h
def xN(T:aC)(G H:List Row)(g:GK):AV->Option (List AV)
 | .ptr id off=>(match dJ G H (wZ id) with
  |some (_,.box _ _ vs)=>some ((vs.drop off).map (sf G H))
  |_=>none)
 | .adr id off=>(match dJ G H (aqN id) with
  |some (_,.elm g' _ vs)=>aA ( T.imp g g' ) ( some (vs.drop off) ) none
  |_=>abI T G H g id off)
 |_=>none
theorem Mx{ρ:ay}{T:aC}{G H:List Row}{Φ:Ctx}{w:World}{g:GK}{v:AV}{vs:List AV}(c:Sat (ab ρ T G++(ab ρ T H++Φ)) w)(h:xN T G H g v=some vs)(i:T.get g=true):
  ∃p,v.val ρ= .pointer (some p)/\bM w p (AV.ao ρ vs):=by
 have sub:∀{p:Addr} {us:List AV} {off:Nat},bM w p (AV.ao ρ us)->bM w (p.add off) (AV.ao ρ (us.drop off)):=λh=>by refine h.sub _ ?_;rw [AV.gF,j0 (bb _)]
 unfold xN at h;split at h
 .rename_i id off;split at h
  next s j t us d=>cases h;obtain ⟨f,e⟩:=bV d;have:j=id:=ah e;subst this;have hb:eN w (ρ j).b t (AV.ao ρ us):=Src.holds c f;refine ⟨⟨(ρ j).b,off,none⟩,by simp only [AV.val],?_⟩;rw [Kt c,AV.gF];exact hb.part off (by rw [j0 (bb _)])
  .cases h
 .rename_i id off;split at h
  next s g' j us d=>obtain ⟨l,k⟩:=aI h;cases k;obtain ⟨f,e⟩:=bV d;have:j=id:=ah e;subst this;have hb:=Src.holds c f;exact ⟨_,by simp only [AV.val],sub (hb (aC.jK l i)).2⟩
  .exact ⟨(ρ id).a.add off,by simp only [AV.val],aiT c h i⟩
 .cases h
def ady(t:Ty)(v:AV):Option t.T:=match t,v with
 | .i k,.int k' x=>aA ( fy k k' ) ( some x ) none
 | .s,.str x=>some x
 | .bo,.bool x=>some x
 | .p (.i a) (.i b),.agg [.int a' x,.int b' y]=>aA (fy a a'&&fy b b') (some (x,y)) none
 |_,_=>none
theorem Xi{ρ:ay}{t:Ty}{v:AV}{x:t.T}(h:ady t v=some x):v.val ρ=Fs t x:=by
 unfold ady at h;split at h
 .obtain ⟨a,b⟩:=aI h;have:=gB a;subst this;cases b;simp only [AV.val];rfl
 .cases h;simp only [AV.val];rfl
 .cases h;simp only [AV.val];rfl
 .obtain ⟨a,b⟩:=aI h;simp only [ae] at a;have d:=gB a.1;have c:=gB a.2;subst d;subst c;cases b;simp only [AV.val,AV.ao];rfl
 .cases h
def agE(t:Ty)(x:t.T):AV:=match t,x with
 | .i k,x=> .int k x
 | .s,x=> .str x
 | .bo,x=> .bool x
 | .p (.i a) (.i b),x=> .agg [.int a x.1,.int b x.2]
 |_,_=> .bool false
theorem aga{ρ:ay}{t:Ty}{x:t.T}:(agE t x).val ρ=Fs t x:=by unfold agE Fs;split <;> first|(simp only [AV.val];done)|(simp only [AV.val,AV.ao];rfl)
instance keyBEq(t:Ty):BEq t.T:=match t with
 | .i _=>(inferInstance:BEq Int)
 | .s=>(inferInstance:BEq aB)
 | .bo=>(inferInstance:BEq Bool)
 | .p (.i _) (.i _)=>(inferInstance:BEq (Int×Int))
 |_=>⟨λ_ _=>false⟩
def Ty.oG:(t:Ty)->t.T
 | .i _=>(0:Int)
 | .bo=>false
 | .s=>([]:aB)
 | .un=>()
 | .n=>(0:Nat)
 | .p x y=>(x.oG,y.oG)
 | .l x=>([]:List x.T)
 | .mp k v=>(none:Option (List (k.T×v.T)))
 | .ex=>Ex.mk 0 0 0 []
def aiw(P:Program)(kt:TypeId)(k:Ty):Bool:=match k with
 | .i k=>(match Yu P kt with
  |some k'=>fy k k'
  |none=>false)
 | .s=>isStr P kt
 | .p (.i a) (.i b)=>(match P.underlying kt with
  |some (.struct ⟨[f1,f2]⟩)=>(match Yu P f1.type,Yu P f2.type with
   |some a',some b'=>fy a a'&&fy b b'&& !(f1.name== "_")&& !(f2.name== "_")&&Nat.beq f1.offset 0&&Nat.beq f2.offset 1&& !(P.stoodInHeld kt)
   |_,_=>false)
  |_=>false)
 |_=>false
theorem WS{P:Program}{kt:TypeId}{k:Ty}(h:aiw P kt k=true):sb P kt (Fs k):=by
 unfold aiw at h;split at h
 .split at h
  next p j=>have:=gB h;subst this;exact sb.int (GB j)
  .cases h
 .exact sb.str (ou h)
 .split at h
  .rename_i r q i;split at h
   next t s m l=>simp only [ae,gj,qf,ne_eq] at h;obtain ⟨⟨⟨⟨⟨⟨g,f⟩,e⟩,d⟩,c⟩,b⟩,a⟩:=h;have o:=gB g;have n:=gB f;subst o;subst n;exact sb.pair i e d (ah c) (ah b) (GB m) (GB l) a
   .cases h
  .cases h
 .cases h
def ahA(v:Ty)(z:Value):Bool:=match v,z with
 | .i k,.int k' x=>fy k k'&&decide (x=0)
 | .bo,.bool b=> !b
 | .s,.string b=>b.data.toList.isEmpty
 |_,_=>false
theorem amL{v:Ty}(h:ahA v z=true):z=Fs v v.oG:=by
 unfold ahA at h;split at h
 .simp only [ae,kR] at h;have:=gB h.1;subst this;rw [h.2];rfl
 .rename_i b;cases b
  .rfl
  .cases h
 .rename_i b;have:b.data.toList=[]:=by simpa using h
  show _=S [];unfold S;rw [<-this]
 .cases h
def Xm(P:Program)(t:TypeId):Option (TypeId×TypeId):=match P.underlying t with
 |some (.map k v)=>some (k,v)
 |_=>none
theorem wi{P:Program}{t:TypeId}{p:TypeId×TypeId}(h:Xm P t=some p):P.underlying t=some (.map p.1 p.2):=by
 unfold Xm at h;split at h
 next k v a=>cases h;exact a
 .cases h
def eR(P:Program)(t:TypeId):Option TypeId:=match P.underlying t with
 |some (.slice e)=>some e
 |_=>none
theorem bT{P:Program}{t:TypeId}(h:eR P t=some e):P.underlying t=some (.slice e):=by
 unfold eR at h;split at h
 next k a=>cases h;exact a
 .cases h
structure SlA where
 g:GK
 t:Ty
 l:List t.T
def Ya(G H:List Row)(id:Nat):Option SlA:=match dJ G H (lC id) with
 |some (_,.sli g _ t l _)=>some ⟨g,t,l⟩
 |some (_,.own _ t _ l _)=>some ⟨none,t,l⟩
 |_=>none
theorem aa1{ρ:ay}{T:aC}{G H:List Row}{Φ:Ctx}{w:World}{id:Nat}{s:SlA}(f:Sat (ab ρ T G++(ab ρ T H++Φ)) w)(h:Ya G H id=some s)(k:T.get s.g=true):
  (bP s.t.rep (Ctx.M (ab ρ T G++(ab ρ T H++Φ))) w (sl (ρ id).v) s.l)\/∃e,bL s.t.rep e (Ctx.M (ab ρ T G++(ab ρ T H++Φ))) w (sl (ρ id).v) s.l (s9 (ρ id).v):=by
 unfold Ya at h;split at h
 next i g j t l b a=>cases h;obtain ⟨d,c⟩:=bV a;have:j=id:=ah c;subst this;exact .inl ((Src.holds f d) k).1
 next i j t e l ks a=>cases h;obtain ⟨d,c⟩:=bV a;have:j=id:=ah c;subst this;exact .inr ⟨e,(Src.holds f d).1⟩
 .cases h
theorem V0{ρ:ay}{T:aC}{G H:List Row}{Φ:Ctx}{w:World}{id:Nat}{s:SlA}(a:Sat (ab ρ T G++(ab ρ T H++Φ)) w)(h:Ya G H id=some s)(b:T.get s.g=true):O2 (sl (ρ id).v) s.l.length:=by
 rcases aa1 a h b with h|⟨e,h⟩
 .exact h.len
 .exact h.len
theorem anP{ρ:ay}{T:aC}{G H:List Row}{Φ:Ctx}{w:World}{id:Nat}{s:SlA}(a:Sat (ab ρ T G++(ab ρ T H++Φ)) w)(h:Ya G H id=some s)(b:T.get s.g=true):bP s.t.rep (λ_=>False) w (sl (ρ id).v) s.l:=by
 rcases aa1 a h b with h|⟨e,h⟩
 .exact h.mv (Mv.weaken w λ_ h=>h.elim)
 .exact h.freeze (λ_ _ h=>h) (Mv.weaken w λ_ h=>h.elim)
def isU8:Ty->Bool
 | .i .u8=>true
 |_=>false
def akI(T:aC)(G H:List Row)(g:GK)(v:AV):Option y5:=match v with
 | .sl id=>(match Ya G H id with
  |some ⟨g',.i .u8,l⟩=>aA ( T.imp g g' ) ( some l ) none
  |_=>none)
 | .raw (.slice none 0 0)=>some []
 |_=>none
theorem aoc{ρ:ay}{T:aC}{G H:List Row}{Φ:Ctx}{w:World}{g:GK}{v:AV}{l:y5}(a:Sat (ab ρ T G++(ab ρ T H++Φ)) w)(h:akI T G H g v=some l)(c:T.get g=true):bP (RI .u8) (λ_=>False) w (v.val ρ) l:=by
 unfold akI at h;split at h
 .split at h
  next g' l' b=>obtain ⟨e,d⟩:=aI h;cases d;have:=anP a b (aC.jK e c);simp only [AV.val];exact this
  .cases h
 .cases h;simp only [AV.val];exact bP.nil
 .cases h
def abm(X:Cx)(T:aC)(E F:aF)(G H:List Row)(g:GK)(c:Callee)(xs:xa)(ts:List TypeId):CV:=match c,xs,ts with
 | .builtin .len,[x],[t]=>(match eR X.P t with
  |some _=>(match br T E F g x with
   |some (.sl id)=>(match Ya G H id with
    |some s=>aA ( T.imp g s.g ) ( pv (.int .i64 (s.l.length:Int)) ) none
    |none=>none)
   |some (.raw (.slice none 0 0))=>pv (.int .i64 0)
   |_=>none)
  |none=>none)
 |_,_,_=>none
def agF(X:Cx)(T:aC)(E F:aF)(G H:List Row)(g:GK)(op:BinOp)(t:TypeId)(x y:Operand):CV:=match Xm X.P t with
 |some _=>(match br T E F g y with
  |some (.raw (.map none))=>(match br T E F g x with
   |some (.mp id)=>(match dJ G H (ahb id) with
    |some (_,.mp _ _ _ d)=>(match op with
     | .eql=>pv (.bool (Option.isNone d))
     | .neq=>pv (.bool (!(Option.isNone d)))
     |_=>none)
    |_=>none)
   |some (.raw (.map none))=>(match op with
    | .eql=>pv (.bool true)
    | .neq=>pv (.bool false)
    |_=>none)
   |_=>none)
  |_=>none)
 |none=>none
def aly(X:Cx)(T:aC)(E F:aF)(G H:List Row)(g:GK):Op->CV
 | .load t x=>(match br T E F g x with
  |some v=>(match xN T G H g v with
   |some cs=>(match j2 X.P t cs with
    |some v=>pv v
    |none=>none)
   |none=>none)
  |none=>none)
 | .convert s d x=>aA ( isStr X.P d ) ( (match eR X.P s with
  |some e=>(match Yu X.P e with
   |some .u8=>(match br T E F g x with
    |some v=>(match akI T G H g v with
     |some l=>pv (.str (strOf l))
     |none=>none)
    |none=>none)
   |_=>none)
  |none=>none) ) none
 | .lookup t x y ok=>(match Xm X.P t with
  |some p=>(match br T E F g x with
   |some (.mp id)=>(match br T E F g y with
    |some kv=>(match dJ G H (ahb id) with
     |some (_,.mp _ k v d)=>(match jW X.P p.2 with
      |some z=>aA ( aiw X.P p.1 k&&ahA v z.2.2 ) ( (match ady k kv with
       |some key=>aA ( ok ) ( pv (.tuple [agE v (ll d key v.oG),.bool (RX d key)]) )<|pv (agE v (ll d key v.oG))
       |none=>none) ) none
      |none=>none)
     |_=>none)
    |none=>none)
   |_=>none)
  |none=>none)
 | .call c=>abm X T E F G H g c.callee c.args.toList c.argTypes.toList
 | .binOp op t x y _=>agF X T E F G H g op t x y
 |_=>none
section
variable {X : Cx} {ρ : ay} {T : aC} {E F : aF} {G H : List Row} {Φ : Ctx} {g : GK} {w : World} {dst : x5} {ty : TypeId} {pos : String} {af : x8} {gd : v7}
theorem agC{P:Program}{Ev:Env}{b:Bool}{o:Oper}(h:b=true->bg P Ev b o w v):bg P Ev b o w v:=λn a d c=>h c n a d c
theorem amh{t:TypeId}{u v:AV}{cs:List AV}(k:Sat (ab ρ T G++(ab ρ T H++Φ)) w)(hx:br T E F g x=some u)(hc:xN T G H g u=some cs)(h:j2 X.P t cs=some v):
  bg X.P (au ρ T E F) (T.get g) ⟨dst,.load t x,ty,pos,af,gd⟩ w (v.val ρ):=agC λm=>by
 obtain ⟨p,hp,hc⟩:=Mx k hc m;have b:=aR (ρ:=ρ) hx;rw [hp] at b;have s:j2 X.P t (cs.drop 0)=some v:=by simpa using h
 obtain ⟨d,n,bytes,z,c1,y,c⟩:=me (ρ:=ρ) s;cases hd:jn d
 .rw [hd] at c;simp only [oi,qI] at c;refine LS c1 hd b (λ_=>?_);have:=hc.sub (us:=[v.val ρ]) 0 (by
   cases e:AV.ao ρ cs with
   |nil=>rw [e] at c;cases c
   |cons a l=>rw [e] at c;cases c;simp)
  simpa [Addr.add] using this
 .unfold j2 at h;rw [c1] at h;rcases dq h with ⟨_,f⟩|⟨j,_⟩
  .split at f
   .rename_i q e;obtain ⟨n,bytes,z⟩:=q;obtain ⟨r,o⟩:=aI f;cases o;have i:n<=cs.length:=cn r;simp only [AV.val];refine LN c1 hd (cF e) b (λ_=>?_) ?_
    .have:=hc.sub (us:=AV.ao ρ (cs.take n)) 0 (by rw [AV.jv,j6,b0,AV.bm,du i])
     simpa [Addr.add] using this
    .rw [AV.bm,b0,du i]
   .cases f
  .rw [hd] at j;cases j
theorem agZ{c:Callee}{xs:Array Operand}{b:Array TypeId}(k:Sat (ab ρ T G++(ab ρ T H++Φ)) w)(h:abm X T E F G H g c xs.toList b.toList=some cv):
  lL X.P (au ρ T E F) ρ (T.get g) ⟨dst,.call ⟨c,xs,b⟩,ty,pos,af,gd⟩ w cv:=by
 obtain ⟨xs⟩:=xs;obtain ⟨b⟩:=b;unfold abm at h;split at h
 .rename_i x t j i;simp only at j i;subst j;subst i;split at h
  .rename_i e f;split at h
   .rename_i id hx;have a:=aR (ρ:=ρ) hx;simp only [AV.val] at a;split at h
    next s d=>obtain ⟨o,m⟩:=aI h;exact .pv m (agC λl=>DJ (bT f) a (V0 k d (aC.jK o l)))
    .cases h
   next hx=>have a:=aR (ρ:=ρ) hx;simp only [AV.val] at a;exact .pv h (DJ (n:=0) (bT f) a ⟨_,_,rfl⟩)
   .cases h
  .cases h
 .cases h
theorem aiG{op:BinOp}{t:TypeId}(e:Sat (ab ρ T G++(ab ρ T H++Φ)) w)(h:agF X T E F G H g op t x y=some cv):
  lL X.P (au ρ T E F) ρ (T.get g) ⟨dst,.binOp op t x y t',ty,pos,af,gd⟩ w cv:=by
 unfold agF at h;split at h
 .rename_i p hp;split at h
  .rename_i c;have b:=aR (ρ:=ρ) c;simp only [AV.val] at b;split at h
   .rename_i id hx;have a:=aR (ρ:=ρ) hx;simp only [AV.val] at a;split at h
    .rename_i s j k v d f;obtain ⟨l,i⟩:=bV f;have:j=id:=ah i;subst this;have hb:=Src.holds e l;split at h
     .exact .pv h (VA (wi hp) a b hb)
     .exact .pv h (Sm (wi hp) a b hb)
     .cases h
    .cases h
   .rename_i hx;have a:=aR (ρ:=ρ) hx;simp only [AV.val] at a;split at h
    .exact .pv h (afd (wi hp) a b)
    .exact .pv h (aez (wi hp) a b)
    .cases h
   .cases h
  .cases h
 .cases h
theorem al1{op:Op}(f:Sat (ab ρ T G++(ab ρ T H++Φ)) w)(h:aly X T E F G H g op=some cv):
  lL X.P (au ρ T E F) ρ (T.get g) ⟨dst,op,ty,pos,af,gd⟩ w cv:=by
 unfold aly at h;split at h
 .split at h
  .rename_i v hv;split at h
   .rename_i cs o;split at h
    next Q n=>exact .pv h (amh f hv o n)
    .cases h
   .cases h
  .cases h
 .obtain ⟨b,a⟩:=aI h;split at a
  .rename_i e I;split at a
   .rename_i B;split at a
    .rename_i v hv;split at a
     next l A=>refine .pv a (agC λC=>?_);have m:=aR (ρ:=ρ) hv;simp only [AV.val];exact aou (M:=λ_=>False) (bT I) (GB B) (ou b) m (λ_=>aoc f A C)
     .cases a
    .cases a
   .cases a
  .cases a
 .rename_i t x y ok;split at h
  .rename_i p hp;split at h
   .rename_i id hx;split at h
    .rename_i R u;split at h
     .rename_i s j k v d D;split at h
      .rename_i z r;obtain ⟨b,a⟩:=aI h;simp only [ae] at b;split at a
       .rename_i key i;obtain ⟨K,J⟩:=bV D;have:j=id:=ah J;subst this;have hb:=Src.holds f K;have m:=aR (ρ:=ρ) hx;have q:=aR (ρ:=ρ) u;simp only [AV.val] at m;rw [Xi i] at q;obtain ⟨O,N,L⟩:=z;have c:(zeroValue p.2).run X.P w= .ok (Fs v v.oG) w:=by rw [<-amL b.2];exact (cF r).zero w
        cases ok
        .refine .pv a ?_;rw [aga];exact agw (WS b.1) (wi hp) c m q (λ_=>hb)
        .refine .pv a ?_;simp only [AV.val,AV.ao];rw [aga];exact aca (WS b.1) (wi hp) c m q (λ_=>hb)
       .cases a
      .cases h
     .cases h
    .cases h
   .cases h
  .cases h
 .exact agZ f h
 .exact aiG f h
 .cases h
end
def bE(P:Program)(E:Env)(o:Oper)(w:World)(R:Value->World->Prop):Prop:=
 ∀n a,Fits n E a->(∃v w',(execOp a.eval o).run P w= .ok (.value v) w'/\R v w')\/(∃w',(execOp a.eval o).run P w= .ok .skip w'/\R undef w')\/
  (∃(f:FuncId) (args:xu),(execOp a.eval o).run P w= .ok (.enter f args.toArray) w/\fB P f args w R)
section
variable {P : Program} {σ : x4} {Q : bu} {n : Nat} {D : w9} {E : Env} {w : World} {ops : x6} {rest : y4} {o : Oper} {R S : Value -> World -> Prop}
theorem bE.run(h:bg P E true o w v)(k:R v w):bE P E o w R:=λn a b=> .inl ⟨v,w,h n a b rfl,k⟩
theorem bE.mA{w':World}(h:kS P E o w v w')(k:R v w'):bE P E o w R:=λn a b=> .inl ⟨v,w',h n a b,k⟩
theorem bE.aiC{w':World}(h:RL P E o w w')(k:R undef w'):bE P E o w R:=λn a b=> .inr (.inl ⟨w',h n a b,k⟩)
theorem bE.upon(hd:bE P E o w R){a:Act}(e:Fits n E a){b:Act->World->Prop}(h:∀v w',R v w'->b (a.put o.dst v) w'):o.uponIn (FW σ) 0 P a b Q ((execOp a.eval o).run P w):=by
 rcases hd n a e with ⟨v,w',d,c⟩|⟨w',d,c⟩|⟨f,args,d,c⟩
 .rw [d,Oper.uponIn_value];exact h _ _ c
 .rw [d,Oper.uponIn_skip];exact h _ _ c
 .rw [d];exact IV c (λv w' hv=>h v w' hv) (λ_ _ hv=>hv.elim)
def o8(dst:x5)(g:Bool)(v:Value)(E:Env):Env:=match dst with
 |some d=>(d,g,v)::E
 |none=>E
def LL(n:Nat):x5->Bool
 |some d=>Nat.blt d n
 |none=>true
theorem Fits.o8{E:Env}{a:Act}(h:Fits n E a){d:x5}{g:Bool}{v:Value}(hd:LL n d=true):Fits n (o8 d g v E) (a.put d (wD g v)):=by
 cases d with
 |none=>exact h
 |some d=>exact h.put hd
theorem aok(hd:bE P E o w R)(hp:iA o=true)(d:o.guard=none)(c:LL n o.dst=true)
  (h:∀v w',R v w'->WL P σ ops Q n D rest (o8 o.dst true v E) w'):WL P σ ops Q n D (o::rest) E w:=λa b f=>
 wpListIn_plain d λK e=>kf hp (hd.upon b λv w' hv=>e _ _ (h v w' hv _ (b.o8 c) (by rw [ik];exact f)))
theorem aku{j:Nat}{b:Bool}{rj:Tmp}{m p:Bool}{g:Bool}(hd:g=true->bE P E o w R)(t:g=false->∃v,R v w)(hp:iA o=true)(f:o.guard=some (j,b))(r:(ops[j]?).bind (·.dst)=some rj)
  (q:look E rj=some (m,.bool p)) (e:Nat.blt rj n=true) (s:(m&&(p==b))=g) (i:LL n o.dst=true)
  (h:∀v w',R v w'->WL P σ ops Q n D rest (o8 o.dst g v E) w'):WL P σ ops Q n D (o::rest) E w:=λa c l=>
 wpListIn_step λK k=>by
  rw [DO f r q c e,s];cases g
  .simp only [oi,qI];obtain ⟨v,hv⟩:=t rfl;have:=c.o8 (d:=o.dst) (g:=false) (v:=v) i;exact ⟨λ_ _=>trivial,k _ _ (h _ _ hv _ this (by rw [ik];exact l))⟩
  .simp only [qt];exact kf hp ((hd rfl).upon c λv w' hv=>k _ _ (h v w' hv _ (c.o8 i) (by rw [ik];exact l)))
end
abbrev cC(R:Type):=aD->Option R
def ct(dst:x5)(g:GK)(v:AV)(E:aF):aF:=match dst with
 |some d=>(d,g,v)::E
 |none=>E
def aV{R:Type}(r:R)(K:cC R)(T:aC)(fr:Fr)(st:aD)(g:GK)(dst:x5)(ρ:ay)(Φ:Ctx)(v:Value)(w':World):Prop:=
 ∃(ρ':ay) (st':aD) (av:AV),K st'=some r/\aT st.c ρ ρ'/\st.c<=st'.c/\st'.E=ct dst g av st.E/\av.val ρ'=v/\au ρ' T st.E fr.F=au ρ T st.E fr.F/\
  ab ρ' T fr.H=ab ρ T fr.H/\Sat (ab ρ' T st'.G++(ab ρ' T fr.H++Φ)) w'
def iI(P:Program)(T:aC)(g:GK)(Ev:Env)(o:Oper)(w:World)(O:Value->World->Prop):Prop:=
 (T.get g=true->bE P Ev o w O)/\(T.get g=false->∃v,O v w)
section
variable {R : Type} {r : R} {K : cC R} {T : aC} {fr : Fr} {st st' : aD} {g : GK} {dst : x5} {ρ ρ' : ay} {Φ : Ctx} {v : Value} {w w' : World}
theorem aD.cD:st.low fr=true↔aF.low st.c st.E=true/\aF.low st.c fr.F=true/\bC st.c st.G=true/\bC st.c fr.H=true:=by simp only [aD.low,ae,and_assoc]
theorem mM(a:st.low fr=true)(ha:aT st.c ρ ρ'):au ρ' T st.E fr.F=au ρ T st.E fr.F:=by obtain ⟨d,b,_,_⟩:=aD.cD.1 a;rw [au,oN ha d,oN ha b]
theorem aV.new{av:AV}(a:st.low fr=true)(d:K st'=some r)(ha:aT st.c ρ ρ')(hc:st.c<=st'.c)(f:st'.E=ct dst g av st.E)(hv:av.val ρ'=v)
  (b:Sat (ab ρ' T st'.G++(ab ρ T fr.H++Φ)) w'):aV r K T fr st g dst ρ Φ v w':=by
 have e:=bf (T:=T) ha (aD.cD.1 a).2.2.2;exact ⟨ρ',st',av,d,ha,hc,f,hv,mM a ha,e,by rw [e];exact b⟩
theorem aV.iB{av:AV}(b:K st'=some r)(hc:st.c<=st'.c)(d:st'.E=ct dst g av st.E)(hv:av.val ρ=v)
  (a:Sat (ab ρ T st'.G++(ab ρ T fr.H++Φ)) w'):aV r K T fr st g dst ρ Φ v w':=
 ⟨ρ,st',av,b,.refl,hc,d,hv,rfl,rfl,a⟩
theorem aV.push{av:AV}{x:Nm}{row:Row}(a:st.low fr=true)(b:K { st with c:=st.c+1,E:=ct dst g av st.E,G:=row::st.G }=some r)(hv:av.val (ρ.set st.c x)=v)
  (hs:Sat (row.item (ρ.set st.c x) T::(ab ρ T st.G++(ab ρ T fr.H++Φ))) w'):aV r K T fr st g dst ρ Φ v w':=by
 refine aV.new a b ay.aZ (hV _) rfl hv ?_;have e:=bf (T:=T) (ay.aZ (ρ:=ρ) (j:=st.c) (x:=x)) (aD.cD.1 a).2.2.1;show Sat (ab (ρ.set st.c x) T (row::st.G)++_) w';rw [ab,c5];rw [ab] at e;rw [e];exact hs
theorem eV{G:List Row}{row:Row}{j:Nat}{Δ:Ctx}(a:j<G.length):ab ρ T (G.set j row)++Δ=(ab ρ T G++Δ).set j (row.item ρ T):=by rw [List.set_append_left _ _ (by simpa [ab] using a)];simp only [ab,List.map_set]
theorem aV.ng{av:AV}{x:Nm}{row:Row}{j:Nat}(a:st.low fr=true)(b:j<st.G.length)(d:K { st with c:=st.c+1,E:=ct dst g av st.E,G:=st.G.set j row }=some r)(hv:av.val (ρ.set st.c x)=v)
  (hs:Sat ((ab ρ T st.G++(ab ρ T fr.H++Φ)).set j (row.item (ρ.set st.c x) T)) w'):aV r K T fr st g dst ρ Φ v w':=by
 refine aV.new a d ay.aZ (hV _) rfl hv ?_;have e:=bf (T:=T) (ay.aZ (ρ:=ρ) (j:=st.c) (x:=x)) (aD.cD.1 a).2.2.1;show Sat (ab (ρ.set st.c x) T (st.G.set j row)++_) w';rw [eV b,e];exact hs
end
def Lk(P:Program)(T:aC)(g:GK)(Ev:Env)(o:Oper)(w:World)(O:Value->World->Prop):Prop:= ∃v,(∀w',bg P Ev (T.get g) o w' v)/\O v w
theorem Lk.ok2{T:aC}{g:GK}{Ev:Env}{o:Oper}{w:World}{O:Value->World->Prop}(h:Lk P T g Ev o w O):iI P T g Ev o w O:=by obtain ⟨v,c,a⟩:=h;exact ⟨λb=>bE.run (by have:=c w;rwa [b] at this) a,λ_=>⟨v,a⟩⟩
theorem bE.gd{E:Env}{dst:x5}{op:Op}{ty:TypeId}{pos:String}{af:x8}{gd:Option (Nat×Bool)}{w:World}{R:Value->World->Prop}(h:bE P E ⟨dst,op,ty,pos,af,none⟩ w R):bE P E ⟨dst,op,ty,pos,af,gd⟩ w R:=
 λn a b=>h n a b
def Ty.n':Ty->Nat
 | .i _|.bo|.s|.l _|.n=>1
 | .un|.mp _ _=>0
 | .p x y=>x.n'+y.n'
 | .ex=>4
theorem Ty.BM:(t:Ty)->t.rep.n=t.n'
 | .i _|.bo|.s|.l _|.un|.n|.mp _ _|.ex=>rfl
 | .p x y=>by show x.rep.n+y.rep.n=_;rw [Ty.BM x,Ty.BM y];rfl
def dA:(t:Ty)->t.T->Nat->List AV×List Row×Nat
 | .i k,x,c=>([.int k x],[],c)
 | .bo,x,c=>([.bool x],[],c)
 | .s,x,c=>([.str x],[],c)
 | .un,_,c=>([],[],c)
 | .n,x,c=>([.ifc x (.agg [])],[],c)
 | .mp _ _,_,c=>([],[],c)
 | .p a b,x,c=>match dA a x.1 c with
  |(u,p,c)=>match dA b x.2 c with
   |(v,q,c)=>(u++v,p++q,c)
 | .l t,x,c=>([.sl c],[.sli none c t x false],c+1)
 | .ex,x,c=>([.int .i64 x.op,.int .i64 x.n,.int .i64 x.at_,.sl c],[.sli none c .ex x.l false],c+1)
structure aqO(T:aC)(M:Nat->Prop)(w:World)(vs:xu)(c:Nat)(ρ ρ':ay)(m:List AV×List Row×Nat):Prop where
 ag:aT c ρ ρ'
 le:c<=m.2.2
 lw:AV.bW m.2.2 m.1=true
 eq:AV.ao ρ' m.1=vs
 rl:∀r∈m.2.1,r.low m.2.2=true
 rs:∀r∈m.2.1,∃j t l,r= .sli none j t l false
 rp:∀r∈m.2.1,(r.item ρ' T).P M w
theorem Row.fp{c d:Nat}(a:c<=d){r:Row}(h:r.low c=true):r.low d=true:=by
 cases r <;> simp only [Row.low,ae,gy] at h ⊢
 .exact ⟨by omega,AV.jx a _ h.2⟩
 .omega
 .omega
 .omega
 .exact ⟨by omega,AV.jx a _ h.2⟩
 .omega
 .omega
 .exact ⟨by omega,AV.fp a _ h.2⟩
theorem Gl{T:aC}{M:Nat->Prop}{w:World}:(t:Ty)->(x:t.T)->(c:Nat)->(vs:xu)->t.rep.rd M w vs x->(ρ:ay)->∃ρ',aqO T M w vs c ρ ρ' (dA t x c)
 | .i k,x,c,vs,h,ρ=>⟨ρ,.refl,bb _,rfl,by cases h;simp [dA,AV.ao,AV.val],(λ_ h=>by cases h),(λ_ h=>by cases h),(λ_ h=>by cases h)⟩
 | .bo,x,c,vs,h,ρ=>⟨ρ,.refl,bb _,rfl,by cases h;simp [dA,AV.ao,AV.val],(λ_ h=>by cases h),(λ_ h=>by cases h),(λ_ h=>by cases h)⟩
 | .s,x,c,vs,h,ρ=>⟨ρ,.refl,bb _,rfl,by cases h;simp [dA,AV.ao,AV.val],(λ_ h=>by cases h),(λ_ h=>by cases h),(λ_ h=>by cases h)⟩
 | .un,x,c,vs,h,ρ=>⟨ρ,.refl,bb _,rfl,by cases h;simp [dA,AV.ao],(λ_ h=>by cases h),(λ_ h=>by cases h),(λ_ h=>by cases h)⟩
 | .n,x,c,vs,h,ρ=>⟨ρ,.refl,bb _,rfl,by cases h;simp [dA,AV.ao,AV.val],(λ_ h=>by cases h),(λ_ h=>by cases h),(λ_ h=>by cases h)⟩
 | .mp _ _,x,c,vs,h,ρ=>h.elim
 | .p a b,x,c,vs,h,ρ=>by
  obtain ⟨us,m,rfl,u,q⟩:=h;obtain ⟨j,f⟩:=Gl (T:=T) a x.1 c us u ρ;obtain ⟨g,e⟩:=Gl (T:=T) b x.2 (dA a x.1 c).2.2 m q j;refine ⟨g,f.ag.trans e.ag f.le,cg f.le e.le,Pm (AV.jx e.le _ f.lw) e.lw,?_,λr d=>?_,λr d=>?_,λr d=>?_⟩
  .simp only [dA,cZ];rw [AV.bS e.ag _ f.lw,f.eq,e.eq]
  .rcases List.mem_append.1 d with d|d
   .exact Row.fp e.le (f.rl r d)
   .exact e.rl r d
  .rcases List.mem_append.1 d with d|d
   .exact f.rs r d
   .exact e.rs r d
  .rcases List.mem_append.1 d with d|d
   .rw [Row.AE e.ag (f.rl r d)];exact f.rp r d
   .exact e.rp r d
 | .l t,x,c,vs,h,ρ=>by
  obtain ⟨v,rfl,h⟩:=h;refine ⟨ρ.set c { cO with v:=v },ay.aZ,hV _,by simp [dA,AV.bW,AV.low],by simp [dA,AV.ao,AV.val,ay.bA],λr d=>?_,λr d=>?_,λr d=>?_⟩
  .simp only [dA,l9] at d;subst d;simp [Row.low,dA]
  .simp only [dA,l9] at d;subst d;exact ⟨_,_,_,rfl⟩
  .simp only [dA,l9] at d;subst d;simp only [Row.item,ay.bA];exact λ_=>⟨h,λhb=>by cases hb⟩
 | .ex,x,c,vs,h,ρ=>by
  obtain ⟨v,rfl,o⟩:=IQ h;refine ⟨ρ.set c { cO with v:=v },ay.aZ,hV _,by simp [dA,AV.bW,AV.low],by simp [dA,AV.ao,AV.val,ay.bA],λr d=>?_,λr d=>?_,λr d=>?_⟩
  .simp only [dA,l9] at d;subst d;simp [Row.low,dA]
  .simp only [dA,l9] at d;subst d;exact ⟨_,_,_,rfl⟩
  .simp only [dA,l9] at d;subst d;simp only [Row.item,ay.bA];exact λ_=>⟨o,λhb=>by cases hb⟩
theorem MQ:(t:Ty)->(x:t.T)->(c:Nat)->c<=(dA t x c).2.2
 | .i _,_,_|.bo,_,_|.s,_,_|.un,_,_|.n,_,_|.mp _ _,_,_=>bb _
 | .p a b,x,c=>cg (MQ a x.1 c) (MQ b x.2 _)
 | .l _,_,_|.ex,_,_=>hV _
theorem Lm:(t:Ty)->(x:t.T)->(c:Nat)->∀r∈(dA t x c).2.1,∃j t l,r= .sli none j t l false
 | .i _,_,_,_,h|.bo,_,_,_,h|.s,_,_,_,h|.un,_,_,_,h|.n,_,_,_,h|.mp _ _,_,_,_,h=>by cases h
 | .p a b,x,c,r,h=>by
  rcases List.mem_append.1 h with h|h
  .exact Lm a x.1 c r h
  .exact Lm b x.2 _ r h
 | .l _,_,_,r,h=>by
  simp only [dA,l9] at h;subst h;exact ⟨_,_,_,rfl⟩
 | .ex,_,_,r,h=>by simp only [dA,l9] at h;subst h;exact ⟨_,_,_,rfl⟩
def uO(g:GK)(r:Row):Row:=match g,r with
 |none,r=>r
 |some g,.sli _ id t l b=> .sli (some g) id t l b
 |some _,r=>r
theorem tA{ρ:ay}{T:aC}{g:GK}{M:Nat->Prop}{w:World}{j:Nat}{t:Ty}{l:List t.T}(h:T.get g=true->((Row.sli none j t l false).item ρ T).P M w):
  ((uO g (.sli none j t l false)).item ρ T).cG=true/\((uO g (.sli none j t l false)).item ρ T).P M w:=by
 cases g with
 |none=>exact ⟨rfl,h (aC.get_none)⟩
 |some k=>
  refine ⟨rfl,λa=>?_⟩;exact h a (aC.get_none)
theorem AQ{Γ:Ctx}{w:World}(h:Sat Γ w):∀(new:List Item),(∀it∈new,it.cG=true/\it.P Γ.M w)->Sat (new++Γ) w:=λnew a=>by
 have key:∀new:List Item,(∀it∈new,it.cG=true/\it.P Γ.M w)->new.all (·.cG)=true/\agG Γ.M w new:=λnew=>by
  induction new with
  |nil=>exact λ_=>⟨rfl,trivial⟩
  |cons it l ih=>
   intro a;obtain ⟨f,e⟩:=ih (λjt b=>a jt (aW _ b));obtain ⟨d,c⟩:=a it (b5 ..);exact ⟨by simp only [qy,ae];exact ⟨d,f⟩,c,e⟩
 exact h.alL new (key new a).1 (key new a).2
def pP(G H:List Row)(t:Ty)(v:AV):Option (List t.T):=match v with
 | .sl j=>(match dJ G H (lC j) with
  |some (_,.sli none _ t' l _)=>bY.asL t ⟨.l t',l⟩
  |_=>none)
 | .raw (.slice none 0 0)=>some []
 |_=>none where bY.asL (t:Ty) (d:bY):Option (List t.T):=d.as (.l t)
theorem oY{t t':Ty}{l:List t'.T}{l':List t.T}(h:pP.bY.asL t ⟨.l t',l⟩=some l'):∃e:t'=t,e▸l=l':=by have:=bY.No h;cases this;exact ⟨rfl,rfl⟩
theorem Nw{ρ:ay}{T:aC}{G H:List Row}{Φ:Ctx}{w:World}{t:Ty}{v:AV}{l:List t.T}(c:Sat (ab ρ T G++(ab ρ T H++Φ)) w)(h:pP G H t v=some l):
  bP t.rep (Ctx.M (ab ρ T G++(ab ρ T H++Φ))) w (v.val ρ) l:=by
 unfold pP at h;split at h
 .rename_i j;split at h
  next s a t' l' b d=>obtain ⟨f,e⟩:=bV d;have:a=j:=ah e;subst this;obtain ⟨rfl,rfl⟩:=oY h;simp only [AV.val];exact ((Src.holds c f) aC.get_none).1
  .cases h
 .cases h;simp only [AV.val];exact bP.nil
 .cases h
def nT(G H:List Row):(t:Ty)->List AV->Option (t.T×List AV)
 | .i k,vs=>(match vs with
  | .int k' x::vs=>aA ( fy k k' ) ( some (x,vs) ) none
  |_=>none)
 | .bo,vs=>(match vs with
  | .bool x::vs=>some (x,vs)
  |_=>none)
 | .s,vs=>(match vs with
  | .str x::vs=>some (x,vs)
  |_=>none)
 | .un,vs=>some ((),vs)
 | .n,vs=>(match vs with
  | .ifc t (.agg [])::vs=>some (t,vs)
  |_=>none)
 | .p a b,vs=>(match nT G H a vs with
  |some x=>(match nT G H b x.2 with
   |some y=>some ((x.1,y.1),y.2)
   |none=>none)
  |none=>none)
 | .l t,vs=>(match vs with
  |v::vs=>(match pP G H t v with
   |some l=>some (l,vs)
   |none=>none)
  |_=>none)
 | .ex,vs=>(match vs with
  | .int .i64 a:: .int .i64 b:: .int .i64 c::v::vs=>(match pP G H .ex v with
   |some l=>some (Ex.mk a b c l,vs)
   |none=>none)
  |_=>none)
 |_,_=>none
theorem Ub{ρ:ay}{T:aC}{G H:List Row}{Φ:Ctx}{w:World}(d:Sat (ab ρ T G++(ab ρ T H++Φ)) w):(t:Ty)->(vs:List AV)->(x:t.T×List AV)->nT G H t vs=some x->
  ∃us,vs=us++x.2/\t.rep.rd (Ctx.M (ab ρ T G++(ab ρ T H++Φ))) w (AV.ao ρ us) x.1
 | .i k,vs,x,h=>by
  unfold nT at h;split at h
  next u y us=>obtain ⟨j,g⟩:=aI h;have:=gB j;subst this;cases g;exact ⟨[.int k y],rfl,by simp only [AV.ao,AV.val];rfl⟩
  .cases h
 | .bo,vs,x,h=>by
  unfold nT at h;split at h
  next y us=>cases h;exact ⟨[.bool y],rfl,by simp only [AV.ao,AV.val];rfl⟩
  .cases h
 | .s,vs,x,h=>by
  unfold nT at h;split at h
  next y us=>cases h;exact ⟨[.str y],rfl,by simp only [AV.ao,AV.val];rfl⟩
  .cases h
 | .un,vs,x,h=>by
  unfold nT at h;cases h;exact ⟨[],rfl,by simp only [AV.ao];rfl⟩
 | .n,vs,x,h=>by
  unfold nT at h;split at h
  next t us=>cases h;exact ⟨[.ifc t (.agg [])],rfl,by simp only [AV.ao,AV.val];rfl⟩
  .cases h
 | .mp _ _,vs,x,h=>by unfold nT at h;cases h
 | .p a b,vs,x,h=>by
  unfold nT at h;split at h
  .rename_i y o;split at h
   next z m=>cases h;obtain ⟨us,r,j⟩:=Ub d a vs y o;obtain ⟨e,q,g⟩:=Ub d b y.2 z m;refine ⟨us++e,by rw [r,q,aO],?_⟩;rw [cZ];exact ⟨_,_,rfl,j,g⟩
   .cases h
  .cases h
 | .l t,vs,x,h=>by
  unfold nT at h;split at h
  .rename_i v us;split at h
   next l f=>cases h;refine ⟨[v],rfl,?_⟩;simp only [AV.ao];exact (Nw d f).rsl
   .cases h
  .cases h
 | .ex,vs,x,h=>by
  unfold nT at h;split at h
  .rename_i a b c v us;split at h
   next l f=>cases h;refine ⟨[.int .i64 a,.int .i64 b,.int .i64 c,v],rfl,?_⟩;simp only [AV.ao,AV.val];exact PD (Nw d f).rsl
   .cases h
  .cases h
def rd1(G H:List Row)(t:Ty)(vs:List AV):Option t.T:=match nT G H t vs with
 |some (x,[])=>some x
 |_=>none
theorem aj7{ρ:ay}{T:aC}{G H:List Row}{Φ:Ctx}{w:World}(c:Sat (ab ρ T G++(ab ρ T H++Φ)) w){t:Ty}{vs:List AV}{x:t.T}(h:rd1 G H t vs=some x):
  t.rep.rd (Ctx.M (ab ρ T G++(ab ρ T H++Φ))) w (AV.ao ρ vs) x:=by
 unfold rd1 at h;split at h
 next y b=>cases h;obtain ⟨us,a,d⟩:=Ub c t vs _ b;simp only [la] at a;rw [a];exact d
 .cases h
def rdL(G H:List Row)(t:Ty):Nat->List AV->Option (List t.T)
 |0,vs=>(match vs with
  |[]=>some []
  |_=>none)
 |k+1,vs=>(match nT G H t vs with
  |some x=>(match rdL G H t k x.2 with
   |some l=>some (x.1::l)
   |none=>none)
  |none=>none)
theorem SN{ρ:ay}{T:aC}{G H:List Row}{Φ:Ctx}{w:World}(a:Sat (ab ρ T G++(ab ρ T H++Φ)) w){t:Ty}:(k:Nat)->(vs:List AV)->(l:List t.T)->rdL G H t k vs=some l->
  l.length=k/\cM t.rep (Ctx.M (ab ρ T G++(ab ρ T H++Φ))) w (AV.ao ρ vs) l
 |0,vs,l,h=>by
  unfold rdL at h;split at h
  .cases h;exact ⟨rfl,by simp only [AV.ao];exact cM.nil⟩
  .cases h
 |k+1,vs,l,h=>by
  unfold rdL at h;split at h
  .rename_i x hx;split at h
   next l' b=>cases h;obtain ⟨us,f,e⟩:=Ub a t vs x hx;obtain ⟨d,c⟩:=SN a k x.2 l' b;refine ⟨by simp [d],?_⟩;rw [f,cZ];exact cM.cons e c
   .cases h
  .cases h
def cu(ids:za):List Row->List Row
 |[]=>[]
 |r::G=>(match r with
  | .own id t e l ver=>aA ( rW id ids ) ( .sli none id t l false )<| .own id t e l ver
  |r=>r)::cu ids G
theorem afR{ρ:ay}{T:aC}{ids:za}{w:World}:{G:List Row}->{A B:Ctx}->Sat (A++(ab ρ T G++B)) w->Sat (A++(ab ρ T (cu ids G)++B)) w
 |[],_,_,h=>h
 |r::G,A,B,h=>by
  have a:∀d:Row,Sat (A++(ab ρ T (d::G)++B)) w->Sat (A++(ab ρ T (d::cu ids G)++B)) w:=λd h=>by
   have i:Sat ((A++[d.item ρ T])++(ab ρ T G++B)) w:=by simpa [ab] using h
   have:=afR (ids:=ids) i;simpa [ab] using this
  unfold cu;split
  .rename_i id t e l c;cases j:rW id ids
   .exact a _ h
   .refine a _ ?_;have hi:(A++(ab ρ T (Row.own id t e l c::G)++B))[A.length]? =some (mQ t.rep e (ρ id).v l ((ρ c).y=⟨.l t,l⟩)):=by rw [b7 (bb _)];simp [ab,Row.item]
    have f:=h.ng hi (new:=(Row.sli none id t l false).item ρ T) ((Ext.refl w).rK _) (λb hb=>by cases hb) (λM' m g=>λ_=>⟨(h.at_ hi).1.freeze (λb hb=>g b hb (λhb=>by cases hb)) m,λhb=>by cases hb⟩);rw [qN _ _ (bb _)] at f;simpa [ab] using f
  .exact a _ h
theorem pC{c:Nat}{ids:za}:{G:List Row}->bC c G=true->bC c (cu ids G)=true
 |[],_=>rfl
 |r::G,h=>by
  simp only [bC,ae] at h;unfold cu;simp only [bC,ae];refine ⟨?_,pC h.2⟩;split
  .rename_i id t e l b;have a:=h.1;simp only [Row.low,ae] at a;cases rW id ids
   .simp only [Row.low,ae];exact a
   .simp only [Row.low];exact a.1
  .exact h.1
theorem iR{ρ:ay}{T:aC}{ids:za}{w:World}{G:List Row}{B:Ctx}(h:Sat (ab ρ T G++B) w):Sat (ab ρ T (cu ids G)++B) w:=afR (A:=[]) h
def AV.ej:AV->za
 | .sl id=>[id]
 | .agg l=>sls0 l
 |_=>[] where sls0:List AV->za
 |[]=>[]
 | .sl id::l=>id::sls0 l
 |_::l=>sls0 l
section
variable {X : Cx} {R : Type} {r : R} {K : cC R} {T : aC} {fr : Fr} {st : aD} {g : GK} {d : Tmp} {ρ : ay} {Φ : Ctx} {w : World} {ty : TypeId} {pos : String} {af : x8} {gd : v7}
theorem iI.none_{Ev:Env}{o:Oper}{O:Value->World->Prop}(h:bE P Ev o w O):iI P T none Ev o w O:=⟨λ_=>h,λa=>by rw [aC.get_none] at a;cases a⟩
def aal(P:Program)(t:TypeId):Option (List AV):=match jW P t with
 |some z=>some (z.2.2.cells.toList.map jg)
 |none=>none
def ahi(st:aD)(d:Tmp)(t:TypeId)(cs:List AV)(K:cC R):Option R:=K { st with c:=st.c+1,E:=ct (some d) none (.ptr st.c 0) st.E,G:= .box st.c t cs::st.G }
theorem aba{t:TypeId}{cs:List AV}(f:st.low fr=true)(e:Sat (ab ρ T st.G++(ab ρ T fr.H++Φ)) w)(a:AV.bW st.c cs=true)(h:ahi st d t cs K=some r):
  aV r K T fr st none (some d) ρ Φ (.pointer (some ⟨w.heap.size,0,none⟩)) (w.alloc (.cells (AV.ao ρ cs).toArray t)):=by
 refine aV.push (x:={ cO with b:=w.heap.size }) f h (by simp only [AV.val,ay.bA]) ?_;simp only [Row.item,ay.bA];rw [AV.bS ay.aZ _ a];exact e.push (ei _ _) (λb hb=>by
  have:b=w.heap.size:=by simpa [box] using hb
  subst this;simp) (λ_ _=>heap_alloc_new w _)
def adS(X:Cx)(st:aD)(d:Tmp)(t:TypeId)(K:cC R):Option R:=match aal X.P t with
 |some cs=>ahi st d t cs K
 |none=>none
theorem ajS{t:TypeId}(f:st.low fr=true)(e:Sat (ab ρ T st.G++(ab ρ T fr.H++Φ)) w)(h:adS X st d t K=some r):
  iI X.P T none (au ρ T st.E fr.F) ⟨some d,.alloc t,ty,pos,af,gd⟩ w (aV r K T fr st none (some d) ρ Φ):=by
 unfold adS at h;split at h
 .rename_i cs a;unfold aal at a;split at a
  next z c=>cases a;obtain ⟨n,b,z⟩:=z;refine .none_ (bE.gd (bE.mA (Hs (zs:=z.cells.toList) (cF c) (by simp)) ?_));have:=aba f e abd h;rwa [kM] at this
  .cases a
 .cases h
def alS(T:aC)(fr:Fr)(st:aD)(d:Tmp)(t:TypeId)(x:Operand)(K:cC R):Option R:=match br T st.E fr.F none x with
 |some v=>aA ( Mq v&&AV.bW st.c (cU v) ) ( ahi st d t (cU v) K ) none
 |none=>none
theorem aoD{t:TypeId}(c:st.low fr=true)(b:Sat (ab ρ T st.G++(ab ρ T fr.H++Φ)) w)(h:alS T fr st d t x K=some r):
  iI X.P T none (au ρ T st.E fr.F) ⟨some d,.box t x,ty,pos,af,gd⟩ w (aV r K T fr st none (some d) ρ Φ):=by
 unfold alS at h;split at h
 next v hv=>obtain ⟨a,e⟩:=aI h;simp only [ae] at a;exact .none_ (bE.gd (bE.mA (amE (bF hv) (xq a.1)) (aba c b a.2 e)))
 .cases h
def ais:AV->Bool
 | .agg _|.tuple _|.nv _=>false
 | .raw v=>v.oneCell'
 |_=>true
theorem akB{v:AV}(h:ais v=true):(v.val ρ).oneCell'=true:=by
 cases v with
 |agg l=>cases h
 |tuple l=>cases h
 |nv l=>cases h
 |raw v=>simp only [AV.val];exact h
 |_=>simp only [AV.val];rfl
theorem NG:{l:List AV}->l.all ais=true->(AV.ao ρ l).all Value.oneCell'=true
 |[],_=>by simp [AV.ao]
 |v::l,h=>by simp only [qy,ae] at h;simp only [AV.ao,qy,ae];exact ⟨akB h.1,NG h.2⟩
def adf(P:Program)(st:aD)(t:TypeId)(id off:Nat)(v:AV)(K:cC R):Option R:=match mG (wZ id) st.G with
 |some (j,.box _ e vs)=>(match jW P t with
  |some z=>aA ( Mq v&&(cU v).all ais&&Nat.beq (cU v).length z.1&&Nat.ble (off+(cU v).length) vs.length ) (
    K { st with G:=st.G.set j (.box id e (tl vs off (cU v))) } ) none
  |none=>none)
 |_=>none
theorem aj5{t:TypeId}{id off:Nat}{v:AV}(g:Sat (ab ρ T st.G++(ab ρ T fr.H++Φ)) w)(hx:br T st.E fr.F none x=some (.ptr id off))(o:br T st.E fr.F none y=some v)(h:adf X.P st t id off v K=some r):
  bE X.P (au ρ T st.E fr.F) ⟨none,.store t x y,ty,pos,af,gd⟩ w (aV r K T fr st none none ρ Φ):=by
 unfold adf at h;split at h
 .rename_i j a e vs s;split at h
  .rename_i z m;obtain ⟨n,bytes,z⟩:=z;obtain ⟨k,A⟩:=aI h;simp only [ae] at k;obtain ⟨⟨⟨J,I⟩,D⟩,C⟩:=k;obtain ⟨l,B⟩:=kO s;have:a=id:=ah B;subst this;have d:=bF (ρ:=ρ) hx;have f:=bF (ρ:=ρ) o;simp only [AV.val] at d;have hi:=fj (ρ:=ρ) (T:=T) (Φ:=ab ρ T fr.H++Φ) l;have hb:eN w (ρ a).b e (AV.ao ρ vs):=g.at_ hi;obtain ⟨p,u,i⟩:=agr (P:=X.P) (E:=au ρ T st.E fr.F) (w:=w) (dst:=none) (ty:=ty) (pos:=pos) (af:=af) (cF m) d f (xq J) (by rw [AV.bm];exact ah D) (NG I) hb (by rw [AV.bm,AV.bm];exact C) xd;refine bE.gd (bE.aiC p (aV.iB (av:= .raw undef) A (bb _) rfl (by simp only [AV.val]) ?_));have q:j<st.G.length:=(List.getElem?_eq_some_iff.1 l).1;show Sat (ab ρ T (st.G.set j _)++_) _;rw [eV q];refine g.ng hi u (λc hc=>?_) (λ_ _ _=>i);have:c=(ρ a).b:=by simpa [Row.item,box] using hc
   subst this;exact ⟨i.lt,.inl (by simp [Row.item,box])⟩
  .cases h
 .cases h
theorem af1{t:Ty}{p:fE}{l l':List t.T}{q q':Prop}{i:Nat}{Γ:Ctx}{w':World}(b:Sat Γ w)(hi:Γ[i]? =some (mQ t.rep e p l q))(g:q')(f:jw (dv (sl p)) w w')(a:w'.heap.size=w.heap.size)(d:s9 p=dv (sl p))
  (h:∀M',Mv Γ.M w M' w'->gm t.rep e M' w' (sl p) l'):Sat (Γ.set i (mQ t.rep e p l' q')) w':=by
 refine b.ng hi (by rw [<-d] at f;exact f) (λc hc=>⟨by rw [a];exact (b.at_ hi).1.lt c hc,.inl hc⟩) (λM' m _=>⟨?_,g⟩);show bL t.rep e M' w' (sl p) l' (s9 p);rw [d];exact bL.of (h M' m)
theorem pn{c:Nat}:∀{G:List Row} {j:Nat} {r:Row},bC c G=true->G[j]? =some r->r.low c=true:=λ{G}=>by
 induction G with
 |nil=>intro j r _ h;simp at h
 |cons b G ih=>
  intro j r h a;simp only [bC,ae] at h;cases j with
  |zero=>simp at a;subst a;exact h.1
  |succ j=>exact ih h.2 (by simpa using a)
def adn(P:Program)(fr:Fr)(st:aD)(t:TypeId)(q off:Nat)(v:AV)(K:cC R):Option R:=
 match dJ (cu (AV.ej.sls0 (cU v)) st.G) fr.H (Rm q) with
 |some (_,.kn none _ id ver u i x)=>(match mG (lC id) (cu (AV.ej.sls0 (cU v)) st.G) with
  |some (j,.own _ u' e l ver')=>(match jW P t with
   |some z=>aA ( Nat.beq ver ver'&&Mq v&&(cU v).all ais&&Nat.beq (cU v).length z.1&&AV.bW st.c (cU v) ) (
     aA ( Nat.beq off 0&&Nat.beq (cU v).length u'.n' ) ( match rd1 (cu (AV.ej.sls0 (cU v)) st.G) fr.H u' (cU v) with
      |some y=>K { st with c:=st.c+1,G:=(cu (AV.ej.sls0 (cU v)) st.G).set j (.own id u' e (List.set l i.toNat y) st.c) }
      |none=>none )<|
      aA ( Nat.ble (off+(cU v).length) (dA u x (st.c+1)).1.length ) ( match rd1 ((dA u x (st.c+1)).2.1++cu (AV.ej.sls0 (cU v)) st.G) fr.H u' (tl (dA u x (st.c+1)).1 off (cU v)) with
       |some y=>K { st with c:=(dA u x (st.c+1)).2.2,G:=(dA u x (st.c+1)).2.1++(cu (AV.ej.sls0 (cU v)) st.G).set j (.own id u' e (List.set l i.toNat y) st.c) }
       |none=>none ) none ) none
   |none=>none)
  |_=>none)
 |_=>none
theorem akt{t:TypeId}{q off:Nat}{v:AV}(hl:st.low fr=true)(C:Sat (ab ρ T st.G++(ab ρ T fr.H++Φ)) w)(hx:br T st.E fr.F none x=some (.adr q off))(hy:br T st.E fr.F none y=some v)(h:adn X.P fr st t q off v K=some r):
  bE X.P (au ρ T st.E fr.F) ⟨none,.store t x y,ty,pos,af,gd⟩ w (aV r K T fr st none none ρ Φ):=by
 unfold adn at h;have g:=pC (ids:=AV.ej.sls0 (cU v)) (aD.cD.1 hl).2.2.1;replace C:=iR (ids:=AV.ej.sls0 (cU v)) C;generalize cu (AV.ej.sls0 (cU v)) st.G=G at h g C;split at h
 .rename_i s q' id R u i xe hf;split at h
  .rename_i j o u' e l Q Y;split at h
   .rename_i z hz;obtain ⟨n,bytes,z⟩:=z;obtain ⟨h1,h2⟩:=aI h;simp only [ae] at h1;obtain ⟨⟨⟨⟨a1,a2⟩,a3⟩,a4⟩,a5⟩:=h1;obtain ⟨f1,f2⟩:=bV hf;obtain ⟨S,k2⟩:=kO Y;have e1:q'=q:=ah f2;have e2:o=id:=ah k2;have e3:R=Q:=ah a1;subst e1;subst e2;subst e3;have A:=bF (ρ:=ρ) hx;have U:=bF (ρ:=ρ) hy;simp only [AV.val] at A;obtain ⟨I,b1,b2,b3⟩:=(Src.holds C f1) aC.get_none;have hi:=fj (ρ:=ρ) (T:=T) (Φ:=ab ρ T fr.H++Φ) S;obtain ⟨c1,c2⟩:=C.at_ hi;obtain ⟨e4,e5⟩:=NF b1 c2;subst e4;simp only at e5;subst e5;obtain ⟨o1,o2⟩:=c1.gi b2;obtain ⟨o3,k,o4,o5⟩:=c1.atA b2;have hj:j<G.length:=(List.getElem?_eq_some_iff.1 S).1;have Z:(AV.ao ρ (cU v)).length=n:=by rw [AV.bm];exact ah a4
    rw [b3] at A;rcases dq h2 with ⟨h3,h4⟩|⟨_,h4⟩
    .simp only [ae] at h3;have e6:off=0:=ah h3.1;subst e6;split at h4
     .rename_i D p;have f:=aj7 C p;have M:k.length=u.rep.n:=u.rep.len o5;have hlu:(AV.ao ρ (cU v)).length=u.rep.n:=u.rep.len f;have V:nd k 0 (AV.ao ρ (cU v))=AV.ao ρ (cU v):=by unfold nd;simp only [List.take_zero,mj,ig];rw [de (by omega),la]
      obtain ⟨w',Y,hC,J,hP⟩:=Jh (P:=X.P) (E:=au ρ T st.E fr.F) (w:=w) (dst:=none) (ty:=ty) (pos:=pos) (af:=af) (cF hz) A U (xq a2) Z (NG a3) o3 o1 o4 M (qg (by omega)) V f (λb hb=>Ctx.iJ hi (by rw [<-o2] at hb;exact hb));refine bE.gd (bE.aiC Y (aV.new (ρ':=ρ.set st.c { cO with y:=⟨.l u,List.set I i.toNat D⟩ }) (av:= .raw undef) hl h4 ay.aZ (hV _) rfl (by simp only [AV.val]) ?_));show Sat (ab _ T (G.set j _)++_) _;rw [eV hj,bf ay.aZ g];have:=af1 (q':=((ρ.set st.c { cO with y:=⟨.l u,List.set I i.toNat D⟩ }) st.c).y=⟨.l u,List.set I i.toNat D⟩) C hi (by rw [ay.bA]) hC J o2 hP;have hlt:=(List.getElem?_eq_some_iff.1 S).2;have N:(ρ.set st.c { cO with y:=⟨.l u,List.set I i.toNat D⟩ }) o=ρ o:=by have d:=pn g S;simp only [Row.low,ae,gy] at d;exact ay.aZ _ d.1
      simp only [Row.item,N];exact this
     .cases h4
    .obtain ⟨h5,h6⟩:=aI h4;split at h6
     .rename_i D p;obtain ⟨a,B⟩:=Gl (T:=T) u xe (st.c+1) k o5 (ρ.set st.c { cO with y:=⟨.l u,List.set I i.toNat D⟩ });have ag:aT st.c ρ a:=ay.aZ.trans B.ag (hV _);generalize dA u xe (st.c+1)=m at h5 h6 p B;have L:Sat (ab a T m.2.1++(ab ρ T G++(ab ρ T fr.H++Φ))) w:=AQ C _ (λit hit=>by obtain ⟨r,W,rfl⟩:=List.mem_map.1 hit;obtain ⟨j1,t1,l1,rfl⟩:=B.rs _ W;exact ⟨rfl,B.rp _ W⟩)
      have eG:=bf (T:=T) ag g;have eH:=bf (T:=T) ag (aD.cD.1 hl).2.2.2;have hs2:Sat (ab a T (m.2.1++G)++(ab a T fr.H++Φ)) w:=by rw [bk,aO,eG,eH];exact L
      have f:=aj7 hs2 p;rw [bk,aO,eG,eH,<-xd,B.eq,AV.bS ag _ a5] at f;have O:(ab a T m.2.1++(ab ρ T G++(ab ρ T fr.H++Φ)))[m.2.1.length+j]? =some ((Row.own o u e I R).item ρ T):=by
       rw [b7 (by simp [ab])];have:m.2.1.length+j-(ab a T m.2.1).length=j:=by simp [ab]
       rw [this];exact hi
      obtain ⟨d1,d2⟩:=L.at_ O;obtain ⟨p1,p2⟩:=d1.gi b2;have M:k.length=u.rep.n:=u.rep.len o5;obtain ⟨w',Y,hC,J,hP⟩:=Jh (P:=X.P) (E:=au ρ T st.E fr.F) (w:=w) (dst:=none) (ty:=ty) (pos:=pos) (af:=af) (cF hz) A U (xq a2) Z (NG a3) o3 p1 o4 M (by have:=B.eq;rw [<-this,AV.bm,AV.bm];exact h5) rfl f (λb hb=>Ctx.iJ O (by rw [<-p2] at hb;exact hb))
      refine bE.gd (bE.aiC Y (aV.new (ρ':=a) (av:= .raw undef) hl h6 ag (cg (hV _) B.le) rfl (by simp only [AV.val]) ?_));have hy1:(a st.c).y=⟨.l u,List.set I i.toNat D⟩:=by rw [B.ag _ (qj _),ay.bA]
      have:=af1 L O hy1 hC J p2 hP;have d:=pn g S;simp only [Row.low,ae,gy] at d;show Sat (ab a T (m.2.1++G.set j _)++_) _;rw [bk,aO,eV hj,eG];rw [qN _ _ (by simp [ab])] at this;have e7:m.2.1.length+j-(ab a T m.2.1).length=j:=by simp [ab]
      rw [e7] at this;simp only [Row.item,ag _ d.1];exact this
     .cases h6
   .cases h
  .cases h
 .cases h
end
section
variable {X : Cx} {R : Type} {r : R} {K : cC R} {T : aC} {fr : Fr} {st : aD} {g : GK} {d : Tmp} {ρ : ay} {Φ : Ctx} {w : World} {ty : TypeId} {pos : String} {af : x8} {gd : v7}
def aaj{α:Type}(T:aC)(g:GK)(z:α)(m:Option α)(k:α->Option R):Option R:=match g with
 |none=>m.bind k
 |some _=>bw (T.get g) z m k
theorem Ay{z:α}{m:Option α}{k:α->Option R}(h:aaj T g z m k=some r):∃y,(T.get g=true->m=some y)/\k y=some r:=by
 unfold aaj at h;split at h
 .obtain ⟨y,b,a⟩:=Ac h;exact ⟨y,λ_=>b,a⟩
 .obtain ⟨y,b,_,a⟩:=SG h;exact ⟨y,b,a⟩
def apl(T:aC)(g:GK)(st:aD)(d:Tmp)(t:Ty)(l:List t.T)(i:Int)(K:cC R):Option R:=
 aaj T g t.oG (idx l i) λx=>K { st with c:=(dA t x (st.c+1)).2.2,E:=ct (some d) g (.adr st.c 0) st.E,G:= .elm g st.c (dA t x (st.c+1)).1::((dA t x (st.c+1)).2.1.map (uO g)++st.G) }
def aqd(T:aC)(g:GK)(st:aD)(d:Tmp)(id ver:Nat)(t:Ty)(l:List t.T)(i:Int)(K:cC R):Option R:=
 aaj T g t.oG (idx l i) λx=>K { st with c:=st.c+1,E:=ct (some d) g (.adr st.c 0) st.E,G:= .kn g st.c id ver t i x::st.G }
def ahq(X:Cx)(T:aC)(fr:Fr)(st:aD)(g:GK)(d:Tmp)(t:TypeId)(x y:Operand)(K:cC R):Option R:=match eR X.P t with
 |some e=>(match jW X.P e with
  |some z=>(match br T st.E fr.F g x with
   |some (.sl id)=>(match br T st.E fr.F g y with
    |some (.int _ i)=>(match dJ st.G fr.H (lC id) with
     |some (_,.sli g' _ t l _)=>aA ( T.imp g g'&&Nat.beq z.1 t.n' ) ( apl T g st d t l i K ) none
     |some (_,.own _ t _ l ver)=>aA ( Nat.beq z.1 t.n' ) ( aqd T g st d id ver t l i K ) none
     |_=>none)
    |_=>none)
   |_=>none)
  |none=>none)
 |none=>none
theorem agm{t:TypeId}(Q:st.low fr=true)(U:Sat (ab ρ T st.G++(ab ρ T fr.H++Φ)) w)(h:ahq X T fr st g d t x y K=some r):
  Lk X.P T g (au ρ T st.E fr.F) ⟨some d,.indexAddr t x y,ty,pos,af,gd⟩ w (aV r K T fr st g (some d) ρ Φ):=by
 unfold ahq at h;split at h
 .rename_i e he;split at h
  .rename_i z hz;obtain ⟨n,bytes,z⟩:=z;split at h
   .rename_i id hx;split at h
    .rename_i k i hy;have I:=aR (ρ:=ρ) hx;have D:=aR (ρ:=ρ) hy;simp only [AV.val] at I D;split at h
     .rename_i s g' m t l b hf;obtain ⟨S,h2⟩:=aI h;simp only [ae] at S;have hn:n=t.rep.n:=(ah S.2).trans t.BM.symm;obtain ⟨L,f2⟩:=bV hf;have:m=id:=ah f2;subst this;obtain ⟨A,V,b2⟩:=Ay h2;have hT:=Src.holds U L
      -- the element, where g holds
      have key:∃(p:Addr) (f:ay),aT st.c ρ f/\(f st.c).a=p/\(T.get g=true->xV (sl (ρ m).v) i n p)/\
        ∀it∈ab f T (.elm g st.c (dA t A (st.c+1)).1::((dA t A (st.c+1)).2.1.map (uO g))),it.cG=true/\it.P (Ctx.M (ab ρ T st.G++(ab ρ T fr.H++Φ))) w:=by
       cases C:T.get g
       .refine ⟨⟨0,0,none⟩,ρ.set st.c cO,ay.aZ,by rw [ay.bA];rfl,(λh=>by cases h),λit o=>?_⟩;rw [ab,c5] at o;rcases List.mem_cons.1 o with rfl|o
        .exact ⟨rfl,λh=>by rw [C] at h;cases h⟩
        .obtain ⟨r1,J,rfl⟩:=List.mem_map.1 o;obtain ⟨r2,u,rfl⟩:=List.mem_map.1 J;obtain ⟨j1,t1,l1,rfl⟩:=Lm _ _ _ _ u;exact tA (λh=>by rw [C] at h;cases h)
       .have hS:=(hT (aC.jK S.1 C)).1;obtain ⟨e1,vs,e2,e3,e4⟩:=hS.atA (V C);obtain ⟨f,O⟩:=Gl (T:=T) t A (st.c+1) vs e3 (ρ.set st.c { cO with a:=pJ (sl (ρ m).v) i t.rep.n });have R:(f st.c).a=pJ (sl (ρ m).v) i t.rep.n:=by rw [O.ag _ (qj _),ay.bA]
        refine ⟨pJ (sl (ρ m).v) i t.rep.n,f,ay.aZ.trans O.ag (hV _),R,λ_=>by rw [hn];exact e1,λit o=>?_⟩;rw [ab,c5] at o;rcases List.mem_cons.1 o with rfl|o
        .refine ⟨rfl,λ_=>?_⟩;show ¬Ctx.M _ (f st.c).a.block/\bM w (f st.c).a _;rw [R,O.eq];exact ⟨e4,e2⟩
        .obtain ⟨r1,J,rfl⟩:=List.mem_map.1 o;obtain ⟨r2,u,rfl⟩:=List.mem_map.1 J;have Z:=O.rp _ u;obtain ⟨j1,t1,l1,rfl⟩:=O.rs _ u;exact tA (λ_=>Z)
      obtain ⟨p,f,k1,k2,k3,k4⟩:=key;have Y:=AQ U _ k4;have eG:=bf (T:=T) k1 (aD.cD.1 Q).2.2.1;have q:aV r K T fr st g (some d) ρ Φ (.pointer (some p)) w:=by
       refine aV.new (ρ':=f) Q b2 k1 (cg (hV _) (MQ _ _ _)) rfl (by simp only [AV.val,k2];simp [Addr.add]) ?_;show Sat (ab f T (Row.elm g st.c _::(_++st.G))++_) w;have e8:ab f T (Row.elm g st.c (dA t A (st.c+1)).1::((dA t A (st.c+1)).2.1.map (uO g)++st.G))=ab f T (.elm g st.c (dA t A (st.c+1)).1::((dA t A (st.c+1)).2.1.map (uO g)))++ab f T st.G:=by simp [ab]
       rw [e8,eG,aO];exact Y
      exact ⟨_,λw'=>E4 (bT he) (cF hz) I D k3,q⟩
     .rename_i s m t e' l N hf;obtain ⟨S,h2⟩:=aI h;have hn:n=t.rep.n:=(ah S).trans t.BM.symm;obtain ⟨L,f2⟩:=bV hf;have:m=id:=ah f2;subst this;obtain ⟨A,V,b2⟩:=Ay h2;obtain ⟨hO,W⟩:=Src.holds U L;have B:m<st.c/\N<st.c:=by
       have:(Row.own m t e' l N).low st.c=true:=by
        cases s with
        |top j=>exact pn (aD.cD.1 Q).2.2.1 L
        |cu j=>exact pn (aD.cD.1 Q).2.2.2 L
        |_=>exact L.elim
       simpa only [Row.low,ae,gy] using this
      have q:aV r K T fr st g (some d) ρ Φ (.pointer (some (pJ (sl (ρ m).v) i t.rep.n))) w:=by refine aV.push (x:={ cO with a:=pJ (sl (ρ m).v) i t.rep.n }) Q b2 (by simp only [AV.val,ay.bA];simp [Addr.add]) (U.add rfl ?_);intro C;rw [ay.aZ _ B.1,ay.aZ _ B.2,ay.bA];exact ⟨l,W,V C,rfl⟩
      exact ⟨_,λw'=>E4 (bT he) (cF hz) I D (λC=>by rw [hn];exact (hO.atA (V C)).1),q⟩
     .cases h
    .cases h
   .cases h
  .cases h
 .cases h
def Vh(X:Cx)(T:aC)(fr:Fr)(st:aD)(g:GK)(d:Tmp)(t:TypeId)(q off:Nat)(K:cC R):Option R:=match dJ st.G fr.H (Rm q) with
 |some (_,.kn g' _ id ver u _ x)=>(match dJ st.G fr.H (lC id) with
  |some (_,.own _ _ _ _ ver')=>aA ( Nat.beq ver ver'&&T.imp g g' ) ( match j2 X.P t ((dA u x st.c).1.drop off) with
   |some v=>K { st with c:=(dA u x st.c).2.2,E:=ct (some d) g v st.E,G:=(dA u x st.c).2.1.map (uO g)++st.G }
   |none=>none ) none
  |_=>none)
 |_=>none
theorem Yo{t:TypeId}{q off:Nat}(hl:st.low fr=true)(V:Sat (ab ρ T st.G++(ab ρ T fr.H++Φ)) w)(hx:br T st.E fr.F g x=some (.adr q off))(h:Vh X T fr st g d t q off K=some r):
  ∃v,(∀w',Ext w w'->bg X.P (au ρ T st.E fr.F) (T.get g) ⟨some d,.load t x,ty,pos,af,gd⟩ w' v)/\aV r K T fr st g (some d) ρ Φ v w:=by
 unfold Vh at h;split at h
 .rename_i s g' q' id N u i k hf;split at h
  .rename_i s2 O u' e l B Y;obtain ⟨h1,Z⟩:=aI h;simp only [ae] at h1;split at Z
   .rename_i v hv;obtain ⟨f1,f2⟩:=bV hf;obtain ⟨f3,f4⟩:=bV Y;have e1:q'=q:=ah f2;have e2:O=id:=ah f4;have e3:N=B:=ah h1.1;subst e1;subst e2;subst e3;have f:=aR (ρ:=ρ) hx;simp only [AV.val] at f;have hF:=Src.holds V f1;obtain ⟨hO,R⟩:=Src.holds V f3;have key:∃(b:ay) (vs:xu),aT st.c ρ b/\AV.ao b (dA u k st.c).1=vs/\(T.get g=true->bM w (ρ q').a vs)/\
      ∀it∈ab b T ((dA u k st.c).2.1.map (uO g)),it.cG=true/\it.P (Ctx.M (ab ρ T st.G++(ab ρ T fr.H++Φ))) w:=by
     cases I:T.get g
     .refine ⟨ρ,_,.refl,rfl,(λh=>by cases h),λit p=>?_⟩;obtain ⟨r1,o,rfl⟩:=List.mem_map.1 p;obtain ⟨r2,j,rfl⟩:=List.mem_map.1 o;obtain ⟨j1,t1,l1,rfl⟩:=Lm _ _ _ _ j;exact tA (λh=>by rw [I] at h;cases h)
     .obtain ⟨l0,b1,b2,b3⟩:=hF (aC.jK h1.2 I);obtain ⟨e4,e5⟩:=NF b1 R;subst e4;simp only at e5;subst e5;obtain ⟨_,vs,e6,e7⟩:=hO.atA b2;obtain ⟨b,J⟩:=Gl (T:=T) u k st.c vs e7 ρ;refine ⟨b,vs,J.ag,J.eq,λ_=>by rw [b3];exact e6,λit p=>?_⟩;obtain ⟨r1,o,rfl⟩:=List.mem_map.1 p;obtain ⟨r2,j,rfl⟩:=List.mem_map.1 o;have W:=J.rp _ j;obtain ⟨j1,t1,l1,rfl⟩:=J.rs _ j;exact tA (λ_=>W)
    obtain ⟨b,vs,k1,k2,k3,k4⟩:=key;have U:=AQ V _ k4;have eG:=bf (T:=T) k1 (aD.cD.1 hl).2.2.1;have C:aV r K T fr st g (some d) ρ Φ (v.val b) w:=by refine aV.new (ρ':=b) hl Z k1 (MQ _ _ _) rfl rfl ?_;show Sat (ab b T (_++st.G)++_) w;rw [bk,eG,aO];exact U
    refine ⟨_,λw' S=>agC λI=>?_,C⟩;rw [I] at f ⊢;have hc:=(k3 I).ext S;have m:bM w' ((ρ q').a.add off) (AV.ao b ((dA u k st.c).1.drop off)):=by refine hc.sub _ ?_;rw [AV.gF,k2,j0 (bb _)]
    have h':j2 X.P t (((dA u k st.c).1.drop off).drop 0)=some v:=by simpa using hv
    obtain ⟨dd,n,bytes,z,c1,c2,A⟩:=me (ρ:=b) h';cases hd:jn dd
    .rw [hd] at A;simp only [oi,qI] at A;refine LS c1 hd f (λ_=>?_);have:=m.sub (us:=[v.val b]) 0 (by
      cases hq:AV.ao b ((dA u k st.c).1.drop off) with
      |nil=>rw [hq] at A;cases A
      |cons a l=>rw [hq] at A;cases A;simp)
     simpa [Addr.add] using this
    .unfold j2 at hv;rw [c1] at hv;rcases dq hv with ⟨_,y⟩|⟨y,_⟩
     .split at y
      .rename_i z2 Q;obtain ⟨n2,L,z2⟩:=z2;obtain ⟨h4,h5⟩:=aI y;cases h5;have D:n2<=((dA u k st.c).1.drop off).length:=cn h4;simp only [AV.val];refine LN c1 hd (cF Q) f (λ_=>?_) ?_
       .have:=m.sub (us:=AV.ao b (((dA u k st.c).1.drop off).take n2)) 0 (by rw [AV.jv,j6,b0,AV.bm,du D])
        simpa [Addr.add] using this
       .rw [AV.bm,b0,du D]
      .cases y
     .rw [hd] at y;cases y
   .cases Z
  .cases h
 .cases h
theorem akE{t:TypeId}{q off:Nat}(e:st.low fr=true)(c:Sat (ab ρ T st.G++(ab ρ T fr.H++Φ)) w)(hx:br T st.E fr.F g x=some (.adr q off))(h:Vh X T fr st g d t q off K=some r):
  iI X.P T g (au ρ T st.E fr.F) ⟨some d,.load t x,ty,pos,af,gd⟩ w (aV r K T fr st g (some d) ρ Φ):=by
 obtain ⟨v,b,a⟩:=Yo (ty:=ty) (pos:=pos) (af:=af) (gd:=gd) e c hx h;refine ⟨λf=>bE.gd (bE.run ?_ a),λ_=>⟨_,a⟩⟩;rw [f] at b;exact b w (Ext.refl w)
end
end Go.Proofs.YtkedhpmpejhekaaGreatDoor
