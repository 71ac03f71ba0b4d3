/- Own texts for ToolWhat, cut and joined by a program. -/
import Derived.Test.YtkedhpmpejhekaaGreatDoorToolWhatA
import Derived.Lib.AppendZerosOnto
import Derived.Lib.Overlaps
import Derived.Lib.AppendStr
import Derived.Lib.UnsafeStr
import Derived.Lib.Builder
import Derived.Laws.Externs
import Derived.RecoverIn
set_option linter.all false
namespace Go.Proofs.YtkedhpmpejhekaaGreatDoor
open IntKind (u8)
theorem TI.zero{P:Program}{e:TypeId}{size bytes:Nat}{z:Value}(h:TI P e size bytes z)(w:World):(zeroValue e).run P w= .ok z w:=by obtain ⟨i,hi,_,_,a⟩:=h.out;simp [zeroValue,typeInfo,hi,a]
section
variable {α : Type} {A : dD α} {e : TypeId} {M : Nat -> Prop} {w : World} {v : Value} {xs : List α} {R : x3}
theorem bJ.apF{j:Int}(h:bJ A e M w v xs R)(hc:dn 0 j xs.length=true):∃p:fw,Qt v 0 j A.n (sl p)/\bJ A e M w (sl p) (bC xs 0 j) R:=by
 obtain ⟨⟨_,u⟩,d⟩:=AY.1 hc;have f:bC xs 0 j=xs.take j.toNat:=by simp [bC]
 rw [f];rcases h with ⟨rfl,cells,⟨t,s⟩,l⟩|⟨rfl,rfl,⟨a,rfl⟩,r⟩
 .rcases s with ⟨rfl,m⟩|⟨g,off,cap,cur,rfl,q,c,o,k,i⟩
  .have hx:xs=[]:=cd m;subst hx;have b:j=0:=by simp at d;omega
   subst b;exact ⟨(none,0,0),⟨none,0,0,rfl,by omega,by omega,by omega,by omega,rfl⟩,.inl ⟨rfl,fT.nil⟩⟩
  .refine ⟨(some ⟨g,off,none⟩,j.toNat,cap),⟨_,_,cap,rfl,by omega,u,d,c,?_⟩,.inl ⟨rfl,cells.take (j.toNat*A.n),⟨?_,.inr ⟨g,off,cap,cur,by rw [bj,cx (by omega)];rfl,q,?_,o,k,?_⟩⟩,l.take _⟩⟩
   .show Value.slice (some ⟨g,off,none⟩) j.toNat cap=_;simp [Addr.add]
   .rw [bj,bj,t];have:j.toNat<=xs.length:=by omega
    rw [cx (c9 _ this),cx this]
   .rw [bj];omega
   .have:j.toNat<=xs.length:=by omega
    rw [bj,cx this,<-i,l9,cx (c9 _ this)]
 .have b:j=0:=by simp at d;omega
  subst b;refine ⟨(a,0,0),⟨a,0,0,rfl,by omega,by omega,by omega,by omega,?_⟩,.inr ⟨rfl,by simp,⟨a,rfl⟩,r⟩⟩;show Value.slice a 0 0=_;simp
theorem bJ.apt{i:Int}(k:A.n=1)(h:bJ A e M w v xs R)(hc:dn i (xs.length:Int) xs.length=true):∃p:fw,Qt v i (xs.length:Int) A.n (sl p)/\∃R',(∀b∈R',b∈R)/\bJ A e M w (sl p) (bC xs i (xs.length:Int)) R':=by
 obtain ⟨⟨o,hi⟩,_⟩:=AY.1 hc;have l:bC xs i (xs.length:Int)=xs.drop i.toNat:=by unfold bC;rw [ed];simp
 rw [l];rcases h with ⟨rfl,cells,⟨B,y⟩,m⟩|⟨rfl,rfl,⟨a,rfl⟩,x⟩
 .rcases y with ⟨rfl,s⟩|⟨g,off,cap,cur,rfl,u,c,z,r,q⟩
  .have hx:xs=[]:=cd s;subst hx;have d:i=0:=by simp at hi;omega
   subst d;exact ⟨(none,0,0),⟨none,0,0,rfl,by omega,by omega,by omega,by omega,rfl⟩,_,λb hb=>hb,.inl ⟨rfl,fT.nil⟩⟩
  .by_cases f:cap=i.toNat
   .refine ⟨(some ⟨g,off,none⟩,0,0),⟨_,_,cap,rfl,o,hi,by omega,c,?_⟩,[],(λb hb=>by cases hb),.inr ⟨rfl,qZ (by omega),⟨_,rfl⟩,bO.emp⟩⟩;rw [j6 f];simp only [sl];congr 1 <;> omega
   .have j:(⟨g,off,none⟩:Addr).add (i.toNat*A.n)=⟨g,off+i.toNat*A.n,none⟩:=by unfold Addr.add;split <;> simp_all
    have t:i.toNat*A.n+(cap-i.toNat)*A.n=cap*A.n:=by rw [<-oi];congr 1;omega
    refine ⟨(some ⟨g,off+i.toNat*A.n,none⟩,xs.length-i.toNat,cap-i.toNat),⟨_,_,cap,rfl,o,hi,by omega,c,?_⟩,_,λb hb=>hb,.inl ⟨rfl,cells.drop (i.toNat*A.n),⟨(m.drop _).1,.inr ⟨g,off+i.toNat*A.n,cap-i.toNat,cur,by rw [ch];rfl,u,?_,by omega,⟨by have:=r.1;omega,.inr k⟩,?_⟩⟩,m.drop _⟩⟩
    .rw [gR f];simp [sl,j]
    .rw [ch];omega
    .rw [ch,<-q,p6,kr,Nat.sub_mul]
 .have d:i=0:=by simp at hi;omega
  subst d;refine ⟨(a,0,0),⟨a,0,0,rfl,by omega,by omega,by simp,by omega,?_⟩,[],λb hb=>hb,.inr ⟨rfl,by simp,⟨a,rfl⟩,x⟩⟩;show Value.slice a 0 0=_;simp
end
section
variable {P : Program} {ρ : v7} {Q : br} {n : Nat} {D : u9} {E : Env} {w : World} {ops : w5} {rest : xc} {Γ : Ctx} {i : Nat}
variable {d : Tmp} {ty : TypeId} {pos : String} {af : xa}
def Lv(P:Program)(t:TypeId)(name:String)(f:FuncId)(b:Bool):Prop:=((P.info? t).bind λi=>(i.methods.find? (·.name==name)).map λm=>(m.path.toList,m.func))=some ([],some (f,b))
def Reach(P:Program)(w:World)(t:TypeId)(u:Value)(name:String)(f:FuncId)(v:Value):Prop:= ∀k,(method (k+1) t u name).run P w= .ok (f,v) w
theorem Lv.out{t:TypeId}{a:String}{f:FuncId}{b:Bool}(h:Lv P t a f b):∃i m,P.info? t=some i/\i.methods.find? (·.name==a)=some m/\m.path.toList=[]/\m.func=some (f,b):=by
 unfold Lv at h;cases hi:P.info? t with
 |none=>rw [hi] at h;cases h
 |some i=>
  rw [hi] at h;simp only [cj] at h;cases c:i.methods.find? (·.name==a) with
  |none=>rw [c] at h;cases h
  |some m=>
   rw [c] at h;simp only [j5,b0,n9] at h;exact ⟨i,m,rfl,c,h.1,h.2⟩
theorem Reach.ptr{t e:TypeId}{u:Value}{a:String}{f:FuncId}(h:Lv P t a f true)(b:P.underlying t=some (.pointer e)):Reach P w t u a f u:=λk=>by obtain ⟨i,m,hi,c,hp,d⟩:=h.out;unfold method;simp [typeInfo,hi,c,hp,d,follow,receiverAt,run_underlying b,Place.get]
theorem Reach.load{t e:TypeId}{a:Addr}{u:Value}{b:String}{f:FuncId}(h:Lv P t b f false)(d:P.underlying t=some (.pointer e))(j:(loadVar e a).run P w= .ok u w):Reach P w t (.pointer (some a)) b f u:=λk=>by
 obtain ⟨i,m,hi,g,hp,l⟩:=h.out;have c:m.path= #[]:=by simpa using hp
 have e:∀s:String,Builtin.ssaWrapNilChk_ #[t] t #[.pointer (some a),strVal "",strVal s]=pure (.pointer (some a)):=λ_=>rfl;unfold method;simp [typeInfo,hi,g,l,c,follow,receiverAt,run_underlying d,Place.get,e,asAddr,j]
theorem aku{g:Bool}{f:FuncId}{r:Operand}{t:TypeId}{u u':Value}{b:String}{vs:vy}{xs:vb}{tys:Array TypeId}{dst:w4}{gd:Option (Nat×Bool)}
  (k:Enters P f) (i:ar E g r (.iface t u)) (j:g=true->Reach P w t u b f u') (c:gr E g xs vs) {a:Act} (e:Fits n E a) (d:g=true):
  (execOp a.eval ⟨dst,.call ⟨.invoke r b,xs.toArray,tys⟩,ty,pos,af,gd⟩).run P w= .ok (.enter f (u'::vs).toArray) w:=by
 have s:(Array.map a.eval xs.toArray)=vs.toArray:=by simp [c.map e d]
 have l:=k (u'::vs).toArray w;have h:=j d (P.types.size+99);have q:P.types.size+99+1=P.types.size+Made.depth:=rfl;rw [q] at h;have p:(#[Value.iface t u]++vs.toArray)[0]? =some (Value.iface t u):=by simp
 have o:(#[Value.iface t u]++vs.toArray).extract 1 (#[Value.iface t u]++vs.toArray).size=vs.toArray:=by simp
 have m:(#[u']++vs.toArray)=(u'::vs).toArray:=by simp
 simp only [execOp,resolve,i n a e d,s,Sem.run_bind,Sem.run_pure,Result.andThen_ok,invoke,p,o,callMethod,run_program,h,m,l]
end
section
variable {P : Program} {w : World}
theorem S5{α:Type}{A:dD α}{M:Nat->Prop}(t g e:TypeId)(i:TypeInfo)(z:Value)(V:P.underlying t=some (.slice e))(hi:P.info? e=some i)(T:i.zero=some z)(H:i.size=A.n)
  (s:z.cells.size=A.n) {p:Option Addr} {u:Value} {xs ys:List α} (hx:bO A M w (.slice p xs.length xs.length) xs) (U:bO A M w u ys) (o:ys≠[]) (a:aH (xs.length+ys.length) i.bytes=true):
  ∃v' w',(Builtin.append_ #[t,t] g #[.slice p xs.length xs.length,u]).run P w= .ok v' w'/\Ext w w'/\(∀b∈dq v',b<w'.heap.size/\w.heap.size<=b)/\(∀M',Mv M w M' w'->fT A e M' w' v' (xs++ys)):=by
 by_cases k:xs=[]
 .subst k;rcases rK t g e i z V hi T H s hx U (by simpa using a) with ⟨_,h⟩|h
  .exact absurd h o
  .simpa using h
 simp only [aH,ae] at a;have O:=cb a.1;have N:=cb a.2;have hlx:0<xs.length:=List.length_pos_iff.2 k;have hly:0<ys.length:=List.length_pos_iff.2 o;rcases hx with ⟨⟨a0,R⟩,Q⟩|⟨b,off,cap,cs,e',fr,R,hMb,hb,hc,Z,q⟩
 .exact absurd Q k
 rcases U with ⟨_,Q⟩|⟨Y,f,C,S,e2,fr2,rfl,X,B,hc2,W,d⟩
 .exact absurd Q o
 simp only [Value.slice.injEq] at R;obtain ⟨rfl,_,y⟩:=R;subst y;have c:∀{b off cap:Nat} {cs:vl} {e':TypeId} {fr:Nat×Nat} {l:List α},w.heap[b]? =some (.cells cs e' fr)->∀j x,((cs.toList.drop off).take (l.length*A.n))[j]? =some x->w.cell? ((⟨b,off,none⟩:Addr).add j)=some x:=by
  intro b off cap cs e' fr l hb j x r;have key:bK w ⟨b,off,none⟩ ((cs.toList.drop off).take (l.length*A.n)):=⟨rfl,cs,e',fr,hb,λj u r=>by
   rw [gj] at r;split at r
   .simpa [et] using r
   .cases r⟩
  exact key.cell r
 generalize K:(cs.toList.drop off).take (xs.length*A.n)=E at q;generalize J:(S.toList.drop f).take (ys.length*A.n)=D at d;have G:∀j x,E[j]? =some x->w.cell? ((⟨b,off,none⟩:Addr).add j)=some x:=by rw [<-K];exact c (cap:=0) hb
 have F:∀j x,D[j]? =some x->w.cell? ((⟨Y,f,none⟩:Addr).add j)=some x:=by rw [<-J];exact c (cap:=0) B
 have I:=grownCap_ge w (xs.length+ys.length) xs.length e;have L:grownCap w (xs.length+ys.length) xs.length e<=maxLen:=grownCap_le_maxLen w _ _ e (by simpa [maxLen] using N);have v:=run_append_grow (P:=P) w t g e i z V hi T ⟨b,off,none⟩ xs.length xs.length E (by rw [H];exact q.1) G ⟨Y,f,none⟩ ys.length C D (by rw [H];exact d.1) F (by omega) (by omega) (growslice_fits (by omega) O);refine ⟨_,_,v,⟨rfl,rfl,rfl,by simp,λb hb=>heap_alloc_old w.drew _ hb⟩,λb hb=>?_,λM' m=>⟨E++D,?_,(q.append d).mv m⟩⟩
 .have:b=w.heap.size:=by simpa [dq,Value.ownBlock] using hb
  subst this;exact ⟨by simp,bb _⟩
 .refine .of (b:=0) ⟨by rw [cm,q.1,d.1,cm,oi],.inr ⟨w.heap.size,_,_,by rw [cm],p8 _,heap_alloc_new w.drew _,by rw [cm];exact I,L,?_,?_⟩⟩
  .simp only [qm,kj,size_zeroCells,s,q.1,d.1,<-oi];congr 1;omega
  .have hl:(E++D).length=(xs++ys).length*A.n:=by rw [cm,q.1,d.1,cm,oi]
   rw [<-hl];simp only [qN];exact qV
end
section
variable {P : Program} {ρ : v7} {Q : br} {n : Nat} {D : u9} {E : Env} {w : World} {ops : w5} {rest : xc} {Γ : Ctx}
variable {d : Tmp} {ty : TypeId} {pos : String} {af : xa}
theorem bO.amb{α:Type}{A:dD α}{M:Nat->Prop}{v:Value}{xs:List α}{i j:Int}(h:bO A M w v xs)(hc:jz i j j xs.length=true):
  ∃p:Option Addr,Mq v i j j A.n (sl (p,(bC xs i j).length,(bC xs i j).length))/\bO A M w (sl (p,(bC xs i j).length,(bC xs i j).length)) (bC xs i j):=by
 obtain ⟨p,b,a⟩:=bO.apH (g:=true) (λ_=>h) (λ_=>hc);have b:=b rfl;have a:=a rfl;obtain ⟨s,len,cap,hv,z,y,x,u,t,e⟩:=b;obtain ⟨o,pl,m⟩:=p;simp only [sl,Value.slice.injEq] at e;obtain ⟨r,k,f⟩:=e;obtain ⟨B,l,d⟩:=a.len;simp only [sl,Value.slice.injEq] at d;have c:pl=(bC xs i j).length:=d.2.1;have q:m=(bC xs i j).length:=by rw [f,<-c,k]
 subst q;rw [c] at a;refine ⟨o,⟨s,len,cap,hv,z,y,x,u,t,?_⟩,a⟩;simp only [sl,Value.slice.injEq];exact ⟨r,by rw [<-c];exact k,f⟩
end
section
variable {P : Program} {ρ : v7} {Q : br} {n : Nat} {D : u9} {E : Env} {w : World} {ops : w5} {rest : xc} {Γ : Ctx} {g : Bool}
variable {d d2 : Tmp} {ty ty2 : TypeId} {pos pos2 : String} {af af2 : xa}
end
section
variable {P : Program} {ρ : v7} {Q : br} {n : Nat} {D : u9} {E : Env} {w : World} {ops : w5} {rest : xc} {Γ : Ctx}
variable {ty : TypeId} {pos : String} {af : xa}
end
variable {α : Type} {A : dD α} {R : x3} {b : Nat} {e : TypeId} {v : Value} {vs : vy} {x : Operand} {z : Value}
def lP{α:Type}(xs:List α)(i:Int)(ys:List α):List α:=xs.take i.toNat++ys++xs.drop i.toNat
def Ps(i:Int)(n:Nat):Bool:=decide (0<=i)&&decide (i<=n)
theorem alL{i:Int}{n:Nat}:Ps i n=true↔0<=i/\i<=n:=by simp [Ps]
section
variable {P : Program} {E : Env} {w : World} {g : Bool}
variable {dst : w4} {ty : TypeId} {pos : String} {af : xa} {gd : ti}
theorem rv{t ty e k bytes:Nat}(l:P.underlying t=some (.slice e))(g:TI P e k bytes z){b o dl dc:Nat}{cur:vl}{e':TypeId}{a:Addr}{ls sc:Nat}{cs:vy}
  (n:cs.length=Nat.min ls dl*k) (d:∀j v,cs[j]? =some v->w.cell? (a.add j)=some v) (p:w.heap[b]? =some (.cells cur e' (0,0))) (f:o+cs.length<=cur.size) (q:∀v∈cs,v.oneCell'=true):
  (Builtin.copy_ #[t,t] ty #[.slice (some ⟨b,o,none⟩) dl dc,.slice (some a) ls sc]).run P w= .ok (goInt (Nat.min ls dl)) (w.setRow b (cur.toList.take o++cs++cur.toList.drop (o+cs.length)).toArray):=by
 obtain ⟨i,hi,m,_,_⟩:=g.out;have h:=run_loadCells_list (P:=P) w a cs d;rw [n] at h;have c:=run_storeCells_at (P:=P) b o e' cs 0 cur w p (by simpa using f) q;simp only [qh] at c;simp [Builtin.copy_,run_underlying l,sizeOf,typeInfo,hi,m,Builtin.lenOf,Builtin.firstCells,h,c]
theorem XH{a:Option Addr}{n c:Nat}{t:TypeId}(b:P.underlying t=some (.slice e))(hx:ar E g x (.slice a n c)):
  bg P E g ⟨dst,.call ⟨.builtin .cap,#[x],#[t]⟩,ty,pos,af,gd⟩ w (.int .i64 c):=λn' h f d=>by
 simp [execOp,resolve,invoke,builtin,hx n' h f d,Builtin.cap_,run_underlying b,goInt]
theorem mz{x y:Operand}{b o n c i k bytes:Nat}{d:IntKind}{z:Value}{t e:TypeId}(h:P.underlying t=some (.slice e))(a:TI P e k bytes z)(hx:ar E g x (.slice (some ⟨b,o,none⟩) n c))(f:ar E g y (.int d (i:Int)))
  (q:i<=n) (j:n<=c) (p:i<c):bg P E g ⟨dst,.slice t x (some y) none none,ty,pos,af,gd⟩ w (.slice (some ⟨b,o+i*k,none⟩) (n-i) (c-i)):=by
 refine CT (lo:=some y) (hi:=none) h a hx (λ_=>⟨_,_,rfl⟩) ⟨_,f⟩ rfl (λ_=>⟨_,_,_,rfl,by omega,by omega,Int.le_refl _,j,?_⟩);have m:(i:Int).toNat=i:=by omega
 have l:((n:Nat):Int).toNat=n:=by omega
 rw [m,l,gR (by omega)];simp [Addr.add]
theorem abu{x y:Operand}{a:Option Addr}{n c j k bytes:Nat}{m:IntKind}{z:Value}{t e:TypeId}(l:P.underlying t=some (.slice e))(h:TI P e k bytes z)(hx:ar E g x (.slice a n c))(i:ar E g y (.int m (j:Int)))
  (p:j<=c):bg P E g ⟨dst,.slice t x none (some y) none,ty,pos,af,gd⟩ w (.slice a j c):=by
 obtain ⟨q,hi,r,_,_⟩:=h.out;intro n' f d b;have s:((j:Nat):Int).toNat=j:=by omega
 by_cases hc:c=0
 .subst hc;have o:j=0:=by omega
  subst o;simp [execOp,hx n' f d b,i n' f d b,Instr.sliceAt,Instr.slice,Instr.sliceBounds,Instr.sliceBound,asIntOf,run_underlying l,sizeOf,typeInfo,hi]
 .cases a <;> simp [execOp,hx n' f d b,i n' f d b,Instr.sliceAt,Instr.slice,Instr.sliceBounds,Instr.sliceBound,asIntOf,run_underlying l,sizeOf,typeInfo,hi,p,Addr.add]
theorem afv{f:FuncId}{xs:vb}{tys:Array TypeId}(a:gr E g xs vs)(hc:(callFunc f vs.toArray).run P w= .ok (.value v) w):
  bg P E g ⟨dst,.call ⟨.value (.func f),xs.toArray,tys⟩,ty,pos,af,gd⟩ w v:=λn' e c b=>by
 have d:(Array.map e.eval xs.toArray)=vs.toArray:=by simp [a.map c b]
 simp only [execOp,resolve,Act.eval,Deferred.ofValue,d,Sem.run_bind,Sem.run_pure,Result.andThen_ok,invoke];simpa using hc
theorem OF{y:Operand}{t t':TypeId}{u r:Value}{w':World}(hx:ar E true x u)(c:ar E true y v)(d:(Builtin.append_ #[t,t'] ty #[u,v]).run P w= .ok r w'):
  kq P E ⟨dst,.call ⟨.builtin .append,#[x,y],#[t,t']⟩,ty,pos,af,gd⟩ w r w':=λn a b=>by simp [execOp,resolve,invoke,builtin,hx n a b rfl,c n a b rfl,d]
theorem xi{y:Operand}{t t':TypeId}{u r:Value}{w':World}(hx:ar E true x u)(c:ar E true y v)(d:(Builtin.copy_ #[t,t'] ty #[u,v]).run P w= .ok r w'):
  kq P E ⟨dst,.call ⟨.builtin .copy,#[x,y],#[t,t']⟩,ty,pos,af,gd⟩ w r w':=λn a b=>by simp [execOp,resolve,invoke,builtin,hx n a b rfl,c n a b rfl,d]
end
section
variable {w : World}
theorem cell_of_heap{cur:vl}{fr:Nat×Nat}(hb:w.heap[b]? =some (.cells cur e fr))(o:Nat)(l:vy)(c:l=(cur.toList.drop o).take l.length):∀j v,l[j]? =some v->w.cell? ((⟨b,o,none⟩:Addr).add j)=some v:=by
 intro j v a;have key:bK w ⟨b,o,none⟩ l:=⟨rfl,cur,e,fr,hb,λj u a=>by
  rw [c,gj] at a;split at a
  .simpa [et] using a
  .cases a⟩
 exact key.cell a
theorem jf.trans{C:x3}{a b c:World}(h:jf C a b)(k:jf C b c):jf C a c:=⟨k.os.trans h.os,k.tape.trans h.tape,k.output.trans h.output,b9 h.size k.size,λi hi d=>(k.block i (cy hi h.size) d).trans (h.block i hi d)⟩
theorem ux(b:Nat)(row:vl):jf [b] w (w.setRow b row):=⟨rfl,rfl,rfl,by simp,λc _ a=>setRow_other w b c _ (by simpa using a)⟩
theorem ahE{l:vy}{a n c:Nat}(ha:a<=n)(hb:vs.length=b)(hc:n+b<=c)(j:l.length=c):
  let d:=l.take (a+b)++(l.drop a).take (n-a)++l.drop (a+b+((l.drop a).take (n-a)).length);let e:=d.take a++vs++d.drop (a+vs.length)
  d.length=c/\e.length=c/\e.take (n+b)=(l.take n).take a++vs++(l.take n).drop a:=by
 intro d e;have i:((l.drop a).take (n-a)).length=n-a:=by rw [bj,ch];omega
 have f:d.length=c:=by simp only [d,cm,bj,ch,i];omega
 have h:e.length=c:=by simp only [e,cm,bj,ch,f];omega
 refine ⟨f,h,?_⟩;have t1:d.take a=(l.take n).take a:=by simp only [d];rw [aO,n5 (by rw [bj];omega),l9,l9,cx (by omega),cx ha]
 have t2:(d.drop (a+vs.length)).take (n-a)=(l.take n).drop a:=by simp only [d];rw [aO,q4,hb];rw [l7 (by rw [bj];omega),pc,bj,cx (by omega),Nat.sub_self,mj,n5 (by omega),ed (by omega),p6]
 simp only [e];rw [t1];have g:((l.take n).take a++vs).length=a+b:=by rw [cm,bj,bj];omega
 rw [qK,ed (by omega),g,show n+b-(a+b)=n-a by omega,t2]
theorem aj4{l z:vy}{a n:Nat}(ha:a<=n)(hb:vs.length=b)(g:l.length=n)(j:n+b<=a+z.length):
  let c:=l.take a++z;let d:=c.take a++vs++c.drop (a+vs.length);let e:=d.take (a+b)++l.drop a++d.drop (a+b+(l.drop a).length)
  d.length=c.length/\e.length=c.length/\e.take (n+b)=l.take a++vs++l.drop a:=by
 intro c d e;have k:c.length=a+z.length:=by simp only [c,cm,bj];omega
 have hd:(l.drop a).length=n-a:=by rw [ch,g]
 have i:d.length=c.length:=by simp only [d,cm,bj,ch];omega
 have h:e.length=c.length:=by simp only [e,cm,bj,hd,ch];omega
 refine ⟨i,h,?_⟩;have f:c.take a=l.take a:=by simp only [c];rw [n5 (by rw [bj];omega),l9,Nat.min_self]
 have t1:d.take (a+b)=l.take a++vs:=by
  simp only [d];rw [f];have:(l.take a++vs).length=a+b:=by rw [cm,bj];omega
  rw [n5 (by omega),ed (by omega)]
 simp only [e];rw [t1];have:(l.take a++vs++l.drop a).length=n+b:=by rw [cm,cm,bj,hd];omega
 rw [n5 (by omega),ed (by omega)]
end
section
variable {P : Program} {w : World}
theorem ag9{M:Nat->Prop}{u:Value}{t ty:TypeId}{bytes:Nat}(s:P.underlying t=some (.slice e))(k:TI P e A.n bytes z)
  (d:z.cells.size=A.n) (i:0<A.n) {xs ys:List α} (l:bJ A e M w v xs R) (f:bO A M w u ys) (C:∀b∈R,M b) (a:aH (xs.length+ys.length) bytes=true):
  ∃c R' w',(Builtin.append_ #[t,t] ty #[v,u]).run P w= .ok c w'/\jf R w w'/\(∀b∈R',b<w'.heap.size/\(b∈R\/w.heap.size<=b))/\∀M',Mv M w M' w'->bJ A e M' w' c (xs++ys) R':=by
 obtain ⟨q,j,x,o,r⟩:=k.out;subst o;rcases l with ⟨rfl,l⟩|⟨rfl,rfl,⟨a0,rfl⟩,g⟩
 .obtain ⟨c,w',h,E,B,p⟩:=Fy t ty e q z s j r x d l f C a i;exact ⟨c,dq c,w',h,E,B,λM' m=>bJ.of (p M' m)⟩
 .rcases rK t ty e q z s j r x d g f (by simpa using a) with ⟨h,rfl⟩|⟨c,w',h,D,y,p⟩
  .exact ⟨_,[],w,h,(Ext.refl w).pZ _,(λb hb=>by cases hb),λM' m=>bJ.empty (g.mv m)⟩
  .exact ⟨c,dq c,w',h,D.pZ _,(λb hb=>⟨(y b hb).1,.inr (y b hb).2⟩),λM' m=>bJ.of (by simpa using p M' m)⟩
theorem bJ.shape{M:Nat->Prop}{xs:List α}(h:bJ A e M w v xs R):∃p c,v= .slice p xs.length c/\xs.length<=c:=by
 rcases h with ⟨_,cells,⟨_,b⟩,_⟩|⟨_,rfl,⟨a,rfl⟩,_⟩
 .rcases b with ⟨rfl,d⟩|⟨g,off,cap,cur,rfl,_,hc,_⟩
  .exact ⟨none,0,by rw [d],by omega⟩
  .exact ⟨_,_,rfl,hc⟩
 .exact ⟨a,0,rfl,bb _⟩
theorem bJ.row{M:Nat->Prop}{xs:List α}(h:bJ A e M w v xs R)(hx:xs≠[]):
  ∃b off c cur,v= .slice (some ⟨b,off,none⟩) xs.length c/\R=[b]/\w.heap[b]? =some (.cells cur e (0,0))/\xs.length<=c/\c<=maxLen/\(off+c*A.n=cur.size/\(off=0\/A.n=1))/\cK A M w ((cur.toList.drop off).take (xs.length*A.n)) xs:=by
 rcases h with ⟨k,cells,⟨_,l⟩,f⟩|⟨_,h,_⟩
 .rcases l with ⟨_,m⟩|⟨g,off,cap,cur,rfl,j,hc,i,d,a⟩
  .exact absurd (cd m) hx
  .exact ⟨g,off,cap,cur,rfl,by rw [k];rfl,j,hc,i,d,by rw [a];exact f⟩
 .exact absurd h hx
theorem bJ.mk_{M:Nat->Prop}{xs:List α}{off c:Nat}{cur:vl}(g:w.heap[b]? =some (.cells cur e (0,0)))(hc:xs.length<=c)(f:c<=maxLen)(d:off+c*A.n=cur.size/\(off=0\/A.n=1))(a:cK A M w ((cur.toList.drop off).take (xs.length*A.n)) xs):
  bJ A e M w (.slice (some ⟨b,off,none⟩) xs.length c) xs [b]:= .inl ⟨rfl,_,⟨a.1,.inr ⟨b,off,c,cur,rfl,g,hc,f,d,rfl⟩⟩,a⟩
theorem bJ.ao7{M:Nat->Prop}{xs:List α}(h:bJ A e M w v xs R)(j:A.n≠1)(hx:xs≠[]):
  ∃b c cur,v= .slice (some ⟨b,0,none⟩) xs.length c/\R=[b]/\w.heap[b]? =some (.cells cur e (0,0))/\xs.length<=c/\c<=maxLen/\cur.size=c*A.n/\cK A M w (cur.toList.take (xs.length*A.n)) xs:=by
 obtain ⟨b,off,c,cur,hv,i,g,hc,f,a,d⟩:=h.row hx;have k:off=0:=a.2.resolve_right j;subst k;exact ⟨b,c,cur,hv,i,g,hc,f,by have:=a.1;omega,by simpa using d⟩
theorem bJ.mk0{M:Nat->Prop}{xs:List α}{c:Nat}{cur:vl}(f:w.heap[b]? =some (.cells cur e (0,0)))(hc:xs.length<=c)(d:c<=maxLen)(g:cur.size=c*A.n)(a:cK A M w (cur.toList.take (xs.length*A.n)) xs):
  bJ A e M w (.slice (some ⟨b,0,none⟩) xs.length c) xs [b]:=bJ.mk_ f hc d ⟨by omega,.inl rfl⟩ (by simpa using a)
theorem ald{α:Type}{xs ys:List α}{i:Nat}(h:i<=xs.length):(lP xs (i:Int) ys).length=xs.length+ys.length:=by unfold lP;simp only [cm,bj,ch,qe];omega
theorem ajP{xs ys:List α}:lP xs (xs.length:Int) ys=xs++ys:=by unfold lP;simp
theorem aev{α:Type}{A:dD α}{M:Nat->Prop}{a b:vy}{xs ys:List α}{i:Nat}(hx:cK A M w a xs)(c:cK A M w b ys):cK A M w (a.take (i*A.n)++b++a.drop (i*A.n)) (lP xs (i:Int) ys):=by unfold lP;rw [qe];exact ((hx.take i).append c).append (hx.drop i)
end
variable {E' : Env} {ps : Array Tmp} {r : LoopState -> Option Code -> Loop}
def rU(b:Nat)(o:Obj):Item where
 own:=[b]
 P _ w:=w.heap[b]? =some o
 lt h c hc:=by
  have:c=b:=by simpa using hc
  subst this;exact (Array.getElem?_eq_some_iff.1 h).1
 cJ h _ k _:=(k b (by simp)).trans h
 cC:=false
 hp h:=by cases h
def pack{γ:Type}(Γ:γ->Ctx)(R:x3):Item where
 own:=R
 P M w:=(∀b∈R,b<w.heap.size)/\∃g,(∀b,(Γ g).M b↔b∈R)/\(∀it,it∈Γ g->it.P M w)/\
  (∀(i j:Nat) (it jt:Item),(Γ g)[i]? =some it->(Γ g)[j]? =some jt->i≠j->∀b,b∈it.own->b∉jt.own)
 lt h:=h.1
 cJ {M M' w w'} h m k e:=by obtain ⟨h1,g,h2,h3,h4⟩:=h;exact ⟨λb hb=>cy (h1 b hb) m.1,g,h2,λit hi=>it.cJ (h3 it hi) m (λb hb=>k b ((h2 b).1 ⟨it,hi,hb⟩)) e,h4⟩
 cC:=false
 hp h:=by cases h
structure Rec(n:Nat)(E:Env)(ps:Array Tmp)(assign body:Code)(b:Nat)(r:LoopState->Option Code->Loop):Prop where
 ex:∃fn tmps,Fits n E { tmps:=tmps,defers:=[] }/\r=λst pe=>{ state:=st,pending:=pe,fn,tmps,params:=ps,assign,body,defers:=b }
abbrev dv(l:Nat)(r:LoopState->Option Code->Loop)(st:LoopState)(pe:Option Code):Item:=rU l (.loop (r st pe))
def mk(ds:x3):u9:=ds.map λb=>{ target:= .collected b,args:= #[] }
def dG(ds:x3):Item where
 own:=ds
 P _ w:=ds.Nodup/\∀b∈ds,w.heap[b]? =some (.deferred (some []))
 lt h b hb:=(Array.getElem?_eq_some_iff.1 (h.2 b hb)).1
 cJ h _ k _:=⟨h.1,λb hb=>(k b hb).trans (h.2 b hb)⟩
 cC:=false
 hp h:=by cases h
section
variable {P : Program} {n : Nat} {D : u9} {E : Env} {w : World} {Γ : Ctx} {Q : br}
theorem Sat.anj(a:Sat Γ w):Sat (dG []::Γ) w:=a.push (Ext.refl w) (λb hb=>by cases hb) (λ_ _=>⟨List.nodup_nil,λb hb=>by cases hb⟩)
theorem Sat.OZ{b:Nat}{ds:x3}(e:Sat (rU b (.deferred (some []))::dG ds::Γ) w):Sat (dG (b::ds)::Γ) w:=by
 have n:w.heap[b]? =some (.deferred (some [])):=e.at_ (i:=0) rfl;have k:ds.Nodup/\∀b∈ds,w.heap[b]? =some (.deferred (some [])):=e.at_ (i:=1) rfl;have m:b∉ds:=e.sep 0 1 _ _ rfl rfl (by omega) b (by simp [rU]);have l:∀c,Ctx.M (rU b (.deferred (some []))::dG ds::Γ) c↔Ctx.M (dG (b::ds)::Γ) c:=λc=>by
  simp only [Ctx.By,rU,dG,qx,List.not_mem_nil,or_false];constructor
  .rintro (h|h|h)
   .exact .inl (.inl h)
   .exact .inl (.inr h)
   .exact .inr h
  .rintro ((h|h)|h)
   .exact .inl h
   .exact .inr (.inl h)
   .exact .inr (.inr h)
 have mv:Mv (Ctx.M (rU b (.deferred (some []))::dG ds::Γ)) w (Ctx.M (dG (b::ds)::Γ)) w:=Mv.weaken w (λc hc=>(l c).2 hc);have a:∀(j:Nat) (jt:Item) (c:Nat),Γ[j]? =some jt->c∈b::ds->c∉jt.own:=λj jt c d hc=>by
  rcases List.mem_cons.1 hc with rfl|hc
  .exact e.sep 0 (j+2) _ jt rfl (by simpa using d) (by omega) c (by simp [rU])
  .exact e.sep 1 (j+2) _ jt rfl (by simpa using d) (by omega) c hc
 refine ⟨λit hi=>?_,λi j it jt hi d g c hc f=>?_⟩
 .rcases List.mem_cons.1 hi with rfl|hi
  .refine ⟨List.nodup_cons.2 ⟨m,k.1⟩,λc hc=>?_⟩;rcases List.mem_cons.1 hc with rfl|hc
   .exact n
   .exact k.2 c hc
  .exact it.cJ (e.all it (aW _ (aW _ hi))) mv (λ_ _=>rfl) (fH.refl w)
 .cases i with
  |zero=>
   simp only [c8,b0] at hi;subst hi;cases j with
   |zero=>exact g rfl
   |succ j=>simp only [b8] at d;exact a j jt c d hc f
  |succ i=>
   simp only [b8] at hi;cases j with
   |zero=>
    simp only [c8,b0] at d;subst d;exact a i it c hi f hc
   |succ j=>
    simp only [b8] at d;exact e.sep (i+2) (j+2) it jt (by simpa using hi) (by simpa using d) (by omega) c hc f
theorem Sat.putObj{i b:Nat}{o d:Obj}(g:Sat Γ w)(hi:Γ[i]? =some (rU b o)):Sat (Γ.set i (rU b d)) (w.putObj b d):=by
 have hb:w.heap[b]? =some o:=g.at_ hi;have a:=(Array.getElem?_eq_some_iff.1 hb).1;have f:(w.putObj b d).heap[b]? =some d:=World.putObj_heap_same a;refine g.mD hi ⟨rfl,rfl,rfl,by simp,λc _ e=>World.putObj_heap_other (by simpa [rU] using e)⟩ (λc hc=>?_) (λ_ _ _=>f);have:c=b:=by simpa [rU] using hc
 subst this;exact ⟨by simpa using a,.inl (by simp [rU])⟩
def jR(P:Program)(ρ:v7)(l n:Nat)(D:u9)(Q:br)(E:Env)(_v:Value)(w:World):Prop:=
 ∃j w',(Instr.endLoop l).run P w= .ok j w'/\match j with
  |none=>At Q .normal n D E w'
  |some c=>WC P ρ c Q n D E w'
theorem jR.go{l:Nat}{assign body:Code}(c:Rec n E' ps assign body b r)(a:Sat (dv l r .ready none::Γ) w)
  (h:∀w',Sat Γ w'->At Q .normal n D E w'):jR P none l n D Q E v w:=by
 obtain ⟨fn,tmps,_,rfl⟩:=c.ex;have d:w.heap[l]? =some _:=a.at_ (i:=0) rfl;refine ⟨_,_,run_endLoop d (by simp),?_⟩;refine h _ ((a.putObj (i:=0) rfl).re 1 [] rfl)
theorem jR.jump{l:Nat}{assign body:Code}{c:Code}(d:Rec n E' ps assign body b r)(a:Sat (dv l r .done (some c)::Γ) w)
  (h:∀w',Sat Γ w'->WC P none c Q n D E w'):jR P none l n D Q E v w:=by
 obtain ⟨fn,tmps,_,rfl⟩:=d.ex;have e:w.heap[l]? =some _:=a.at_ (i:=0) rfl;refine ⟨_,_,run_endLoop e (by simp),?_⟩;exact h _ ((a.putObj (i:=0) rfl).re 1 [] rfl)
def Yld(P:Program)(l:Nat)(vs:vy)(w:World)(S:Value->World->Prop):Prop:=
 ∃fn tmps assign body,(Instr.yield l vs.toArray).run P w= .ok (.round l fn tmps assign body) w/\RoundIn (FW none) 0 P l fn tmps assign body w (RE S (λ_ _=>False))
def Z9:List Tmp->vy->Env->Env
 |p::ps,v::vs,E=>Z9 ps vs ((p,true,v)::E)
 |_,_,E=>E
theorem ab3:∀(ps:List Tmp) (vs:vy) {E:Env} {tmps:vl},ps.all (λp=>Nat.blt p n)=true->Fits n E { tmps:=tmps,defers:=[] }->
  Fits n (Z9 ps vs E) { tmps:=(ps.zip vs).foldl (λt (p,v)=>t.setIfInBounds p v) tmps,defers:=[] }
 |[],_,_,_,_,h=>h
 |_::_,[],_,_,_,h=>h
 |p::ps,v::vs,E,tmps,hp,h=>by simp only [qF,ae] at hp;have:=h.put (g:=true) (v:=v) hp.1;exact ab3 ps vs hp.2 this
def aio(P:Program)(l:Nat)(body:Code)(Q:br):Act->World->Prop:=λa w=>∃w',(Instr.beginRound l).run P w= .ok () w'/\body.wpIn (FW (some l)) 0 P Q a w'
theorem aon{l:Nat}{ps:List Tmp}{assign body:Code}{S:Value->World->Prop}
  (g:Rec n E ps.toArray assign body b r) (f:Sat (dv l r .ready none::Γ) w) (j:Nat.beq vs.length ps.length=true) (hp:ps.all (λp=>Nat.blt p n)=true)
  (h:WC P (some l) assign (Exit.then (aio P l body (roundPost P l (RE S (λ_ _=>False)))) (λ_ _ _=>False)) n [] (Z9 ps vs E) w):Yld P l vs w S:=by
 obtain ⟨fn,tmps,k,rfl⟩:=g.ex;have m:w.heap[l]? =some _:=f.at_ (i:=0) rfl;have c:vs.length=ps.length:=ah j;refine ⟨fn,_,assign,body,run_yield m (by simp [c]),roundIn_of_wpIn trivial ?_⟩;have d:=ab3 ps vs hp k;have e:((ps.toArray.zip vs.toArray).foldl (λtmps (t,a)=>tmps.setIfInBounds t a) tmps)=((ps.zip vs).foldl (λt (p,v)=>t.setIfInBounds p v) tmps):=by simp
 have:=h _ d rfl;rw [<-e] at this;exact this
theorem aj0{l i:Nat}{assign body:Code}(d:Rec n E' ps assign body b r)(c:Sat Γ w)(hi:Γ[i]? =some (dv l r .ready none))
  (h:∀w',Sat (Γ.set i (dv l r .busy none)) w'->WC P (some l) body Q n D E w'):At (Exit.then (aio P l body Q) (λ_ _ _=>False)) .normal n D E w:=λa e hd=>by
 obtain ⟨fn,tmps,_,rfl⟩:=d.ex;have f:w.heap[l]? =some _:=c.at_ hi;exact ⟨_,run_beginRound f rfl,h _ (c.putObj hi) a e hd⟩
theorem alc{l i:Nat}{assign body:Code}{S:Value->World->Prop}{Sp:tt->World->Prop}(d:Rec n E' ps assign body b r)(c:Sat Γ w)(hi:Γ[i]? =some (dv l r .busy none))
  (h:∀w',Sat (Γ.set i (dv l r .ready none)) w'->S (.bool true) w'):At (roundPost P l (RE S Sp)) .normal n D E w:=λa f hd=>by
 obtain ⟨fn,tmps,_,rfl⟩:=d.ex;have e:w.heap[l]? =some _:=c.at_ hi;exact ⟨_,_,run_endRound none e,h _ (c.putObj hi)⟩
theorem abw{l i:Nat}{assign body:Code}{S:Value->World->Prop}{Sp:tt->World->Prop}(d:Rec n E' ps assign body b r)(c:Sat Γ w)(hi:Γ[i]? =some (dv l r .busy none))
  (h:∀w',Sat (Γ.set i (dv l r .done (some .ret))) w'->S (.bool false) w'):At (roundPost P l (RE S Sp)) .ret n D E w:=λa f hd=>by
 obtain ⟨fn,tmps,_,rfl⟩:=d.ex;have e:w.heap[l]? =some _:=c.at_ hi;exact ⟨_,_,run_endRound (some .ret) e,h _ (c.putObj hi)⟩
theorem Zf{l i k:Nat}{assign body:Code}{S:Value->World->Prop}{Sp:tt->World->Prop}(d:Rec n E' ps assign body b r)(c:Sat Γ w)(hi:Γ[i]? =some (dv l r .busy none))
  (h:∀w',Sat (Γ.set i (dv l r .done (some (.exit k)))) w'->S (.bool false) w'):At (roundPost P l (RE S Sp)) (.exit k) n D E w:=λa f hd=>by
 obtain ⟨fn,tmps,_,rfl⟩:=d.ex;have e:w.heap[l]? =some _:=c.at_ hi;exact ⟨_,_,run_endRound (some (.exit k)) e,h _ (c.putObj hi)⟩
theorem XW{l i k:Nat}{assign body:Code}{S:Value->World->Prop}{Sp:tt->World->Prop}(d:Rec n E' ps assign body b r)(c:Sat Γ w)(hi:Γ[i]? =some (dv l r .busy none))
  (h:∀w',Sat (Γ.set i (dv l r .done (some (.goto k)))) w'->S (.bool false) w'):At (roundPost P l (RE S Sp)) (.goto k) n D E w:=λa f hd=>by
 obtain ⟨fn,tmps,_,rfl⟩:=d.ex;have e:w.heap[l]? =some _:=c.at_ hi;exact ⟨_,_,run_endRound (some (.goto k)) e,h _ (c.putObj hi)⟩
end
section
variable {P : Program} {ρ : v7} {Q : br} {n : Nat} {D : u9} {E : Env} {w : World} {ops : w5} {rest : xc} {Γ : Ctx}
theorem ajs{l:Nat}{fo:Operand}{xs:vb}{tys:Array TypeId}{d:Tmp}{ty:TypeId}{pos:String}{af:xa}{S:Value->World->Prop}
  (f:ar E true fo (.func (.yield l) #[] #[])) (b:gr E true xs vs) (k:Nat.blt d n=true) (j:Yld P l vs w S)
  (h:∀v w',S v w'->WL P ρ ops Q n D rest ((d,true,v)::E) w'):WL P ρ ops Q n D (⟨some d,.call ⟨.value fo,xs.toArray,tys⟩,ty,pos,af,none⟩::rest) E w:=λa g o=>
 wpListIn_plain rfl λK m=>jP rfl (by
  obtain ⟨fn,tmps,assign,body,q,p⟩:=j;have s:(Array.map a.eval xs.toArray)=vs.toArray:=by simp [b.map g rfl]
  have r:(execOp a.eval ⟨some d,.call ⟨.value fo,xs.toArray,tys⟩,ty,pos,af,none⟩).run P w= .ok (.round l fn tmps assign body) w:=by simp only [execOp,resolve,f n a g rfl,Deferred.ofValue,s,Sem.run_bind,Sem.run_pure,Result.andThen_ok,invoke];simpa using q
  rw [r,Oper.uponIn_round];refine ⟨GO,RoundIn.mono (F:=FW ρ) p λe w' i=>?_⟩;cases e with
  |returned v=>exact m _ _ (h v w' i _ (g.put k) o)
  |panicked c=>exact i.elim
  |outgrown=>exact i.elim)
theorem Py{fn:Func}{S:Value->World->Prop}{Sp:tt->World->Prop}:∀(ds:x3) {w:World},Sat (dG ds::Γ) w->
  (∀w',Sat Γ w'->At (BP P fn S Sp) .ret n [] E w')->At (BP P fn S Sp) .ret n (mk ds) E w
 |[],w,hs,h=>h w (hs.re 1 [] rfl)
 |b::ds,w,hs,h=>λa k hd=>by
  have d:(b::ds).Nodup/\∀c∈b::ds,w.heap[c]? =some (.deferred (some [])):=hs.at_ (i:=0) rfl;have hb:=d.2 b (bY ..);have g:b∉ds:=(List.nodup_cons.1 d.1).1;have l:=(Array.getElem?_eq_some_iff.1 hb).1;have f:Sat ((dG (b::ds)::Γ).set 0 (dG ds)) (w.putObj b (.deferred none)):=by
   refine hs.mD (i:=0) rfl ⟨rfl,rfl,rfl,by simp,λc _ j=>World.putObj_heap_other (λe=>j (by subst e;exact bY ..))⟩ (λc hc=>⟨?_,.inl (aW _ hc)⟩) (λ_ _ _=>?_)
   .have:=(Array.getElem?_eq_some_iff.1 (d.2 c (aW _ hc))).1;simpa using this
   .exact ⟨(List.nodup_cons.1 d.1).2,λc hc=>(World.putObj_heap_other (λe=>g (by subst e;exact hc))).trans (d.2 c (aW _ hc))⟩
  have m:=Py ds f h { a with defers:=mk ds } ⟨k.size,k.at_⟩ rfl;show LeavesInM (FW none) 0 P fn a.tmps (RE S Sp) a.defers .returning w;rw [hd];exact ⟨by simp,.inl ⟨b,_,rfl,run_takeDeferred hb,m⟩⟩
theorem acJ{fn:Func}{S:Value->World->Prop}{Sp:tt->World->Prop}(ds:x3)(a:Sat (dG ds::Γ) w)
  (h:∀w',Sat Γ w'->At (BP P fn S Sp) .normal n [] E w'):At (BP P fn S Sp) .normal n (mk ds) E w:=Py (fn:=fn) (S:=S) (Sp:=Sp) ds a h
end
variable {t' : TypeId} {y : Operand}
section
variable {P : Program} {E : Env} {w : World} {g : Bool}
variable {dst : w4} {ty : TypeId} {pos : String} {af : xa} {gd : ti}
abbrev yy(f:Bool)(b:Nat):Value:= .pointer (bif f then some ⟨b,0,none⟩ else none)
theorem agz{t:TypeId}{f:Bool}(c:P.underlying t=some (.pointer e))(hx:ar E g x (yy f b))(a:ar E g y (.pointer none)):
  bg P E g ⟨dst,.binOp .eql t x y t',ty,pos,af,gd⟩ w (.bool (!f)):=
 ct (P:=P) hx a (by
  rw [Sem.run_bind,dz rfl,Result.andThen_ok];have h:∀d:Nat,(Op.equalIn (d+1) t (yy f b) (.pointer none)).run P w= .ok (!f) w:=λd=>by cases f <;> simp [Op.equalIn,run_underlying c,yy]
  simp only [binOp];simp [Op.equal,Op.maxDepth,h 9999])
theorem afO{t:TypeId}{f:Bool}{n bytes:Nat}(c:P.underlying t=some (.pointer e))(a:TI P e n bytes z)(hx:ar E g x (yy f b))(i:ar E g y (.pointer (some ⟨b,0,none⟩))):
  bg P E g ⟨dst,.binOp .neq t x y t',ty,pos,af,gd⟩ w (.bool (!f)):=
 ct (P:=P) hx i (by
  rw [Sem.run_bind,dz rfl,Result.andThen_ok];obtain ⟨j,k,_⟩:=a.out;cases f
  .have h:∀d:Nat,(Op.equalIn (d+1) t (.pointer none) (.pointer (some ⟨b,0,none⟩))).run P w= .ok false w:=λd=>by simp [Op.equalIn,run_underlying c]
   show (binOp .neq t (.pointer none) (.pointer (some ⟨b,0,none⟩))).run P w=_;simp only [binOp];simp [Op.equal,Op.maxDepth,h 9999]
  .exact Lib.run_neq_ptr_same w _ c k)
theorem Uk{κ ν:Type}{ke:κ->Value}{vi:ν->Value}{t kt j:TypeId}{o:v7}{dd:Option (List (κ×ν))}(c:P.underlying t=some (.map kt j))(hx:ar E g x (.map o))(f:ar E g y (.map none))(i:ny ke vi w (.map o) dd):
  bg P E g ⟨dst,.binOp .eql t x y t',ty,pos,af,gd⟩ w (.bool (Option.isNone dd)):=
 ct (P:=P) hx f (by
  rw [Sem.run_bind,dz rfl,Result.andThen_ok];rcases i with ⟨e,rfl⟩|⟨b,k,a,l,e,rfl,_,_⟩
  .cases e;have h:∀d:Nat,(Op.equalIn (d+1) t (.map none) (.map none)).run P w= .ok true w:=λd=>by simp [Op.equalIn,run_underlying c]
   simp only [binOp];simp [Op.equal,Op.maxDepth,h 9999]
  .cases e;have h:∀d:Nat,(Op.equalIn (d+1) t (.map (some b)) (.map none)).run P w= .ok false w:=λd=>by simp [Op.equalIn,run_underlying c]
   simp only [binOp];simp [Op.equal,Op.maxDepth,h 9999])
theorem Uq{κ ν:Type}{ke:κ->Value}{vi:ν->Value}{t kt j:TypeId}{o:v7}{dd:Option (List (κ×ν))}(c:P.underlying t=some (.map kt j))(hx:ar E g x (.map o))(f:ar E g y (.map none))(i:ny ke vi w (.map o) dd):
  bg P E g ⟨dst,.binOp .neq t x y t',ty,pos,af,gd⟩ w (.bool (!(Option.isNone dd))):=
 ct (P:=P) hx f (by
  rw [Sem.run_bind,dz rfl,Result.andThen_ok];rcases i with ⟨e,rfl⟩|⟨b,k,a,l,e,rfl,_,_⟩
  .cases e;have h:∀d:Nat,(Op.equalIn (d+1) t (.map none) (.map none)).run P w= .ok true w:=λd=>by simp [Op.equalIn,run_underlying c]
   simp only [binOp];simp [Op.equal,Op.maxDepth,h 9999]
  .cases e;have h:∀d:Nat,(Op.equalIn (d+1) t (.map (some b)) (.map none)).run P w= .ok false w:=λd=>by simp [Op.equalIn,run_underlying c]
   simp only [binOp];simp [Op.equal,Op.maxDepth,h 9999])
theorem ac7{t kt c:TypeId}(b:P.underlying t=some (.map kt c))(hx:ar E g x (.map none))(a:ar E g y (.map none)):
  bg P E g ⟨dst,.binOp .eql t x y t',ty,pos,af,gd⟩ w (.bool true):=Uk (κ:=Unit) (ν:=Unit) (ke:=λ_=>undef) (vi:=λ_=>undef) (dd:=none) b hx a (.inl ⟨rfl,rfl⟩)
theorem ad9{t kt c:TypeId}(b:P.underlying t=some (.map kt c))(hx:ar E g x (.map none))(a:ar E g y (.map none)):
  bg P E g ⟨dst,.binOp .neq t x y t',ty,pos,af,gd⟩ w (.bool false):=Uq (κ:=Unit) (ν:=Unit) (ke:=λ_=>undef) (vi:=λ_=>undef) (dd:=none) b hx a (.inl ⟨rfl,rfl⟩)
theorem aaC{s d e':TypeId}{n bytes:Nat}(h:P.underlying s=some (.pointer e))(hd:P.underlying d=some .unsafePointer)(c:TI P e n bytes z)(i:Nat.blt 0 n=true)
  (hx:ar E g x (.pointer (some ⟨b,0,none⟩))) (hb:eC w b e' vs) (hv:Nat.blt 0 vs.length=true):bg P E g ⟨dst,.convert s d x,ty,pos,af,gd⟩ w (.pointer (some ⟨b,0,none⟩)):=
 λn' a o m=>by
  obtain ⟨j,l,k,_⟩:=c.out;have f:w.shape? b=some (e',vs.toArray.size):=by unfold World.shape?;rw [show w.heap[b]? =_ from hb]
  have q:0<n:=by simpa using i
  have p:0<vs.length:=by simpa using hv
  have:=Lib.run_to_unsafe (P:=P) w (cells:=vs.toArray.size) (⟨b,0,none⟩:Addr) h hd l (by omega) f (by simpa using p);simp [execOp,hx n' a o m,this]
theorem Vk{s d e':TypeId}{n bytes:Nat}(h:P.underlying s=some .unsafePointer)(hd:P.underlying d=some (.pointer e))(c:TI P e n bytes z)
  (hx:ar E g x (.pointer (some ⟨b,0,none⟩))) (hb:eC w b e' vs) (i:liesAt P P.depth e' (vs.length/P.cellsOf e') 0 e 1=true):bg P E g ⟨dst,.convert s d x,ty,pos,af,gd⟩ w (.pointer (some ⟨b,0,none⟩)):=
 λn' a o m=>by
  obtain ⟨j,l,k,_⟩:=c.out;have f:w.shape? b=some (e',vs.length):=by unfold World.shape?;rw [show w.heap[b]? =_ from hb];simp
  have:=Lib.run_from_unsafe (P:=P) w (⟨b,0,none⟩:Addr) h hd l f i;simp [execOp,hx n' a o m,this]
def aj7(P:Program)(f:FuncId):Prop:= ∀(v:Value) (w:World),(callFunc f #[v]).run P w= .ok (.value v) w
theorem alT{f:FuncId}{tys:Array TypeId}(d:aj7 P f)(hx:ar E g x v):bg P E g ⟨dst,.call ⟨.value (.func f),#[x],tys⟩,ty,pos,af,gd⟩ w v:=
 λn' a c b=>by have:=d v w;have e:a.eval (.func f)= .func (.func f) #[] #[]:=rfl;simp only [execOp,resolve,e,Deferred.ofValue,Sem.run_bind,Sem.run_pure,Result.andThen_ok,invoke];simpa [hx n' a c b] using this
end
theorem agB(s:aF):Lib.strCells ⟨s.toArray⟩=s.map λb=>Value.int .u8 (b.toNat:Int):=by simp [Lib.strCells]
theorem IS{M:Nat->Prop}{w:World}:∀s:aF,cK (RI .u8) M w (Lib.strCells ⟨s.toArray⟩) (bL s):=λs=>by rw [agB];exact Lt s
theorem eT(s:aF):(bL s).length=s.length:=by simp [bL]
section
variable {P : Program} {w : World} {M : Nat -> Prop}
theorem PD(t u ty e:TypeId)(i:TypeInfo)(k:P.underlying t=some (.slice e))(j:P.underlying u=some .string)(hi:P.info? e=some i)(h:i.size=1)
  (g off a b:Nat) (cur:vl) (l:w.heap[g]? =some (.cells cur e (0,0))) (s:ByteArray)
  (c:a+s.size<=b) (f:off+a+s.size<=cur.size):
  (Builtin.append_ #[t,u] ty #[.slice (some ⟨g,off,none⟩) a b,.string s]).run P w=
   .ok (.slice (some ⟨g,off,none⟩) (a+s.size) b) (w.setRow g (cur.toList.take (off+a)++Lib.strCells s++cur.toList.drop (off+a+s.size)).toArray):=by
 have m:=Lib.run_firstCells_string (P:=P) w 1 s;have d:=run_storeCells_at P g (off+a) e (Lib.strCells s) 0 cur w l (by simpa [Lib.strCells_length] using f) (Lib.strCells_oneCell s);simp only [qh,Lib.strCells_length] at d;simp [Builtin.append_,run_underlying k,run_underlying j,sizeOf,typeInfo,hi,h,Builtin.lenOf,c,m,Addr.add_lit,d]
theorem uC(t u r e:TypeId)(L:P.underlying t=some (.slice e))(J:P.underlying u=some .string)(X:TI P e 1 1 (.int .u8 0))
  {v:Value} {xs:xg} {s:aF} (ho:fT (RI .u8) e M w v xs) (hM:∀b∈dq v,M b) (c:aH (xs.length+s.length) 1=true):
  ∃v' w',(Builtin.append_ #[t,u] r #[v,S s]).run P w= .ok v' w'/\jf (dq v) w w'/\(∀b∈dq v',b<w'.heap.size/\(b∈dq v\/w.heap.size<=b))/\
   (∀M',Mv M w M' w'->fT (RI .u8) e M' w' v' (xs++bL s)):=by
 obtain ⟨i,hi,y,R,hz⟩:=X.out;simp only [aH,ae,q0] at c;have hb1:=cb c.1;have T:=cb c.2;have a:(⟨s.toArray⟩:ByteArray).size=s.length:=jV s;have Z:=ho.lt;obtain ⟨cells,p,hA⟩:=ho;have N:cK (RI .u8) M w (Lib.strCells ⟨s.toArray⟩) (bL s):=IS s;have U:=hA.append N;have d:(RI .u8).n=1:=rfl;have D:cells.length=xs.length:=by have:=hA.1;rw [d] at this;omega
 have z:(Lib.strCells ⟨s.toArray⟩).length=s.length:=by rw [Lib.strCells_length,a]
 have h:(cells++Lib.strCells ⟨s.toArray⟩).length=(xs++bL s).length*1:=by simp [D,z,eT]
 have q:∀(ic:Nat),ic<xs.length+s.length->
   (w.drew.alloc (.cells (cells.toArray++(Lib.strCells ⟨s.toArray⟩).toArray++Builtin.zeroCells (Value.int .u8 0).cells (grownCap w (xs.length+s.length) ic e-(xs.length+s.length))) e)).ownsRow 0 e 1
    (.slice (some ⟨w.heap.size,0,none⟩) (xs.length+s.length) (grownCap w (xs.length+s.length) ic e)) (xs++bL s).length (cells++Lib.strCells ⟨s.toArray⟩):=by
  intro ic hold;have hge:=grownCap_ge w (xs.length+s.length) ic e;have B:grownCap w (xs.length+s.length) ic e<=maxLen:=grownCap_le_maxLen w (xs.length+s.length) ic e (by simpa [maxLen] using T);refine ⟨h,.inr ⟨w.heap.size,_,_,by simp [eT],p8 _,heap_alloc_new w.drew _,by simpa [eT] using hge,B,?_,?_⟩⟩
  .have V:(Value.int u8 0).cells.size=1:=rfl;simp only [qm,kj,size_zeroCells,V,D,z];omega
  .simp only [qN,aO];rw [<-aO,<-h];exact qV
 have F:∀o C,jf C w (w.drew.alloc o):=λo C=>⟨rfl,rfl,rfl,by simp,λb hb _=>heap_alloc_old w.drew o hb⟩;have E:∀(n cap:Nat) (o:Obj),∀b∈dq (.slice (some ⟨w.heap.size,0,none⟩) n cap),b<(w.drew.alloc o).heap.size/\(b∈dq v\/w.heap.size<=b):=λn cap o b hb=>by
  have:b=w.heap.size:=by simpa [dq,Value.ownBlock] using hb
  subst this;exact ⟨by simp,.inr (bb _)⟩
 by_cases hm:s.length=0
 .have Y:s=[]:=cd hm;subst Y;refine ⟨v,w,?_,(Ext.refl w).pZ _,λb hb=>⟨Z b hb,.inl hb⟩,λM' m=>⟨cells,by simpa [bL] using p,by simpa [bL] using hA.mv m⟩⟩;rcases p.2 with ⟨rfl,h0⟩|⟨g,off,cap,cur,rfl,O,G,B,I,_⟩
  .have Q:=Lib.run_firstCells_string (P:=P) w 1 ⟨#[]⟩;have e0:(⟨#[]⟩:ByteArray).size=0:=rfl;rw [e0] at Q;simp [S,Builtin.append_,run_underlying L,run_underlying J,sizeOf,typeInfo,hi,y,Builtin.lenOf,Q,ByteArray.size]
  .have Q:=Lib.run_firstCells_string (P:=P) w 1 ⟨#[]⟩;have e0:(⟨#[]⟩:ByteArray).size=0:=rfl;rw [e0] at Q;simp [S,Builtin.append_,run_underlying L,run_underlying J,sizeOf,typeInfo,hi,y,Builtin.lenOf,Q,ByteArray.size,storeCells,Lib.strCells,G]
 .rcases p.2 with ⟨rfl,h0⟩|⟨g,off,cap,cur,rfl,O,G,B,I,k⟩
  .have W:xs=[]:=cd h0;subst W;have hc0:cells=[]:=cd (by simpa using D);subst hc0;have H:=run_append_nil_string (P:=P) w t u r e i (.int .u8 0) L J hi hz ⟨s.toArray⟩ (by rw [a];omega) (by rw [a];simp at T;omega) (by rw [a,R];simp at hb1;omega);have A:=q 0 (by simp;omega);have e1:((⟨s.toArray⟩:ByteArray).data.map λb=>Value.int .u8 b.toNat)=(Lib.strCells ⟨s.toArray⟩).toArray:=by apply Array.ext';simp [Lib.strCells]
   rw [e1,a] at H;simp only [qf,ec,pc,qT] at A;exact ⟨_,_,H,F _ _,E _ _ _,λM' m=>⟨_,.of (by simpa [d] using A),by simpa using N.mv m⟩⟩
  .by_cases f:xs.length+s.length<=cap
   .have hcs':off+cap=cur.size:=by simpa [d] using I.1
    have H:=PD (P:=P) (w:=w) t u r e i L J hi y g off xs.length cap cur O ⟨s.toArray⟩ (by rw [a];exact f) (by rw [a];omega);refine ⟨_,_,H,⟨rfl,rfl,rfl,by simp,λb hb hbg=>setRow_other w g b _ (by simpa [dq,Value.ownBlock] using hbg)⟩,λb hb=>?_,λM' m=>⟨cells++Lib.strCells ⟨s.toArray⟩,⟨h,.inr ⟨g,off,cap,_,by simp [eT,a],setRow_heap w g cur _ e _ O,by simpa [eT] using f,B,⟨?_,I.2⟩,?_⟩⟩,U.mv m⟩⟩
    .have:b=g:=by simpa [dq,Value.ownBlock] using hb
     subst this;exact ⟨by simpa using (Array.getElem?_eq_some_iff.1 O).1,.inl (by simp [dq,Value.ownBlock])⟩
    .simp only [kj,cm,bj,ch,ca,z,a,d];omega
    .have K:(cur.toList.drop off).take xs.length=cells:=by simpa [d] using k
     have:=ael (l:=cur.toList) (ns:=Lib.strCells ⟨s.toArray⟩) (off:=off) (m:=xs.length) (by rw [K];exact D.symm) (by have hl:cur.toList.length=cur.size:=ca;omega);rw [K,z] at this;rw [d,<-h,a];simpa using this
   .have holds:∀j x,cells[j]? =some x->w.cell? ((⟨g,off,none⟩:Addr).add j)=some x:=λj x hj=>(Dc O k).cell hj;have H:=Lib.run_append_grow_string (P:=P) w t u r e i (.int .u8 0) L J hi hz ⟨g,off,none⟩ xs.length cap cells (by rw [y];omega) holds ⟨s.toArray⟩ (by rw [a];omega) (by rw [a];omega)
     (by rw [a,R];exact growslice_fits (by omega) (by omega))
    have A:=q cap (by omega);rw [a] at H;exact ⟨_,_,H,F _ _,E _ _ _,λM' m=>⟨_,.of (by simpa [d] using A),U.mv m⟩⟩
theorem yj(t u c e:TypeId)(r:P.underlying t=some (.slice e))(q:P.underlying u=some .string)(k:TI P e 1 1 (.int .u8 0))
  {a0:Option Addr} {s:aF} (a:aH s.length 1=true):
  ((Builtin.append_ #[t,u] c #[.slice a0 0 0,S s]).run P w= .ok (.slice a0 0 0) w/\s=[])\/
  ∃g w',(Builtin.append_ #[t,u] c #[.slice a0 0 0,S s]).run P w= .ok g w'/\Ext w w'/\(∀b∈dq g,b<w'.heap.size/\w.heap.size<=b)/\(∀M',Mv M w M' w'->fT (RI .u8) e M' w' g (bL s)):=by
 obtain ⟨i,hi,x,B,H⟩:=k.out;by_cases D:s=[]
 .subst D;refine .inl ⟨?_,rfl⟩;have E:=Lib.run_firstCells_string (P:=P) w 1 ⟨#[]⟩;have N:(⟨#[]⟩:ByteArray).size=0:=rfl;rw [N] at E;cases a0 <;> simp [S,Builtin.append_,run_underlying r,run_underlying q,sizeOf,typeInfo,hi,x,Builtin.lenOf,E,ByteArray.size,storeCells,Lib.strCells]
 .refine .inr ?_;cases a0 with
  |none=>
   obtain ⟨g,w',l,o,F,K⟩:=uC (M:=M) (w:=w) t u c e r q k (fT.nil) (s:=s) (λb hb=>by simp [dq,Value.ownBlock] at hb) (by simpa using a);refine ⟨g,w',l,⟨o.os,o.tape,o.output,o.size,λb hb=>o.block b hb (by simp [dq,Value.ownBlock])⟩,λb hb=>⟨(F b hb).1,?_⟩,λM' m=>by simpa using K M' m⟩;rcases (F b hb).2 with h|h
   .simp [dq,Value.ownBlock] at h
   .exact h
  |some G=>
   have d:(⟨s.toArray⟩:ByteArray).size=s.length:=jV s;simp only [aH,ae,q0] at a;have J:=cb a.1;have C:=cb a.2;have O:0<s.length:=List.length_pos_iff.2 D;have l:=Lib.run_append_grow_string (P:=P) w t u c e i (.int .u8 0) r q hi H G 0 0 [] (by simp) (by intro j v I;simp at I) ⟨s.toArray⟩ (by rw [d];omega) (by rw [d];omega) (by rw [d,B];exact growslice_fits (by omega) (by omega));rw [d] at l;simp only [ec] at l;have y:(Builtin.append_ #[t,u] c #[.slice (some G) 0 0,S s]).run P w=_:=l;have z:=grownCap_ge w s.length 0 e;have A:grownCap w s.length 0 e<=maxLen:=grownCap_le_maxLen w s.length 0 e (by simpa [maxLen] using C);have f:(Lib.strCells ⟨s.toArray⟩).length=s.length:=by rw [Lib.strCells_length,d]
   refine ⟨_,_,y,⟨rfl,rfl,rfl,by simp,λb hb=>heap_alloc_old w.drew _ hb⟩,λb hb=>?_,λM' m=>⟨Lib.strCells ⟨s.toArray⟩,.of (b:=0) ⟨by simp [f,eT,RI],.inr ⟨w.heap.size,_,_,by simp [eT],p8 _,heap_alloc_new w.drew _,by simpa [eT] using z,A,?_,?_⟩⟩,(IS s)⟩⟩
   .have:b=w.heap.size:=by simpa [dq,Value.ownBlock] using hb
    subst this;exact ⟨by simp,bb _⟩
   .have p:(Value.int u8 0).cells.size=1:=rfl;simp only [qm,kj,size_zeroCells,p,f,qf];show _=_*1;omega
   .have L:(bL s).length*(RI .u8).n=(Lib.strCells ⟨s.toArray⟩).length:=by simp [eT,f,RI]
    rw [L];simp
end
section
variable {P : Program} {ρ : v7} {Q : br} {n : Nat} {D : u9} {E : Env} {w : World} {ops : w5} {rest : xc} {Γ : Ctx} {i : Nat}
variable {d : Tmp} {ty : TypeId} {pos : String} {af : xa}
theorem ahb{t u:TypeId}{xs:xg}{s:aF}(I:Sat Γ w)(i:Nat)(hi:Γ[i]? =some (fU (RI .u8) e v xs R))
  (H:P.underlying t=some (.slice e)) (G:P.underlying u=some .string) (o:TI P e 1 1 (.int .u8 0)) (hx:ar E true x v) (q:ar E true y (S s))
  (f:aH (xs.length+s.length) 1=true) (L:Nat.blt d n=true)
  (h:∀(p:fw) l w',Sat (Γ.set i (fU (RI .u8) e (sl p) (xs++bL s) l)) w'->WL P ρ ops Q n D rest ((d,true,sl p)::E) w'):
  WL P ρ ops Q n D (⟨some d,.call ⟨.builtin .append,#[x,y],#[t,u]⟩,ty,pos,af,none⟩::rest) E w:=by
 have key:∃c l w',kq P E ⟨some d,.call ⟨.builtin .append,#[x,y],#[t,u]⟩,ty,pos,af,none⟩ w c w'/\jf R w w'/\(∀b∈l,b<w'.heap.size/\(b∈R\/w.heap.size<=b))/\∀M',Mv Γ.M w M' w'->bJ (RI .u8) e M' w' c (xs++bL s) l:=by
  have k:=I.own hi;have N:∀b∈R,Γ.M b:=λb hb=>Ctx.iz hi hb;rcases k with ⟨rfl,z⟩|⟨rfl,rfl,⟨a0,rfl⟩,r⟩
  .obtain ⟨c,w',j,F,C,k⟩:=uC t u ty e H G o z N f;exact ⟨c,dq c,w',(λn' a g=>by simp [execOp,resolve,invoke,builtin,hx n' a g rfl,q n' a g rfl,j]),F,C,λM' m=>bJ.of (k M' m)⟩
  .rcases yj (M:=Γ.M) (w:=w) t u ty e H G o (a0:=a0) (s:=s) (by simpa using f) with ⟨j,rfl⟩|⟨c,w',j,O,K,k⟩
   .exact ⟨.slice a0 0 0,[],w,(λn' a g=>by simp [execOp,resolve,invoke,builtin,hx n' a g rfl,q n' a g rfl,j]),(Ext.refl w).pZ _,(λb hb=>by cases hb),λM' m=>by simpa [bL] using bJ.empty (e:=e) (r.mv m)⟩
   .exact ⟨c,dq c,w',(λn' a g=>by simp [execOp,resolve,invoke,builtin,hx n' a g rfl,q n' a g rfl,j]),O.pZ _,(λb hb=>⟨(K b hb).1,.inr (K b hb).2⟩),λM' m=>bJ.of (by simpa using k M' m)⟩
 obtain ⟨c,l,w',j,F,C,k⟩:=key;have J:=I.mD hi (new:=fU (RI .u8) e c (xs++bL s) l) F C (λM' m _=>k M' m);have hv:∃p,c=sl p:=by have B:i<Γ.length:=(List.getElem?_eq_some_iff.1 hi).1;have z:=J.own (i:=i) (A:=RI .u8) (e:=e) (v:=c) (xs:=xs++bL s) (R:=l) (by rw [qu B]);obtain ⟨a,cap,hv⟩:=z.len;exact ⟨(a,_,cap),hv⟩
 obtain ⟨p,rfl⟩:=hv;exact uH j rfl rfl rfl L (h _ _ _ J)
def Roomy(v:Value):Prop:= ∃g off len cap,v= .slice (some ⟨g,off,none⟩) len (cap+1)
theorem ajf{g:Bool}{dst:w4}{gd:Option (Nat×Bool)}{v:fw}{c:Array TypeId}(hx:ar E g x (sl v))(hv:g=true->Roomy (sl v)):bg P E g ⟨dst,.call ⟨.builtin .unsafeSliceData,#[x],c⟩,ty,pos,af,gd⟩ w (.pointer v.1):=
 λn a h d=>by obtain ⟨b,off,len,cap,e⟩:=hv d;obtain ⟨j,f,i⟩:=v;simp only [sl,Value.slice.injEq] at e;obtain ⟨rfl,rfl,rfl⟩:=e;have:=Lib.run_unsafeSliceData_row (P:=P) w c ty ⟨b,off,none⟩ f (cap+1) (by omega);simp [execOp,resolve,invoke,builtin,hx n a h d,sl,this]
theorem FA{P:Program}{w:World}:∀(l:xg) (a:Addr) (b:ByteArray),(∀(j:Nat) (x:Int),l[j]? =some x->w.cell? (a.add j)=some (.int .u8 x))->
  (loadBytes a b l.length).run P w= .ok ⟨b.data++(strOf l).toArray⟩ w
 |[],a,b,_=>by simp [loadBytes,strOf]
 |x::l,a,b,h=>by
  have f:w.cell? a=some (.int .u8 x):=by have:=h 0 x rfl;simpa [Addr.add] using this
  have ih:=FA (P:=P) l (a.add 1) (b.push (UInt8.ofNat x.toNat)) (λj y d=>by
   have:=h (j+1) y (by simpa using d);have e:(a.add 1).add j=a.add (j+1):=by
    unfold Addr.add;by_cases c:j=0
    .subst c;simp
    .simp [c];omega
   rw [e];exact this)
  simp only [p5,loadBytes,Sem.run_bind,run_load,f,Result.andThen];have g:(x.toNat).toUInt8=UInt8.ofNat x.toNat:=rfl;rw [g,ih];congr 1;apply ByteArray.ext;simp [ByteArray.push,strOf]
end
open Go.Lib
theorem O{E:Env}{g:Bool}{t:Tmp}(h:look E t=some (true,v)):ar E g (.tmp t) v:=ar.t h
section
variable {P : Program} {ρ : v7} {Q : br} {n : Nat} {D : u9} {E : Env} {w : World} {ops : w5} {rest : xc}
end
variable {dd : TypeDesc}
def cP{E A B:Type}(m:Option (Except E A))(k:A->Option (Except E B)):Option (Except E B):=m.bind λa=>match a with
 | .error p=>some (.error p)
 | .ok x=>k x
def kS{E A B:Type}(m:Option (Except E A))(kp:E->Option B)(k:A->Option B):Option B:=m.bind λa=>match a with
 | .error p=>kp p
 | .ok x=>k x
theorem agD{E A B:Type}{m:Option (Except E A)}{b:E->Option B}{k:A->Option B}{r:B}(h:kS m b k=some r):(∃p,m=some (.error p)/\b p=some r)\/∃x,m=some (.ok x)/\k x=some r:=by
 cases m with
 |none=>cases h
 |some a=>
  cases a with
  |error p=>exact .inl ⟨p,rfl,h⟩
  |ok x=>exact .inr ⟨x,rfl,h⟩
abbrev gC(v:Value):tt:=[{ v:=v,recovered:=false }]
section
variable {P : Program} {ρ : v7} {Q : br} {n : Nat} {D : u9} {E : Env} {w : World} {ops : w5} {rest : xc} {Φ : Ctx}
theorem akS{t:TypeId}{dst:w4}{ty:TypeId}{pos:String}{af:xa}(hx:ar E true x (.iface t v))
  (h:At Q (.panic (gC (.iface t v))) n D E w):WL P ρ ops Q n D (⟨dst,.panic x,ty,pos,af,none⟩::rest) E w:=λa b c=>
 wpListIn_plain rfl λK d=>jP rfl (by
  have e:(execOp a.eval (⟨dst,.panic x,ty,pos,af,none⟩:Oper)).run P w= .halt (.panic (.iface t v)) w:=by simp only [execOp,hx n a b rfl];rfl
  rw [e];exact h a b c)
theorem agt{fn:Func}{S:Value->World->Prop}{Sp:tt->World->Prop}{ps:tt}(h:Sp ps w):A0 (BP P fn S Sp) ps [] w:=λa hd=>by show LeavesInM _ _ _ _ _ _ a.defers _ _;rw [hd];exact h
variable {g : Bool} {dst : w4} {ty : TypeId} {pos : String} {af : xa} {gd : ti}
theorem YL{s t:TypeId}(b:P.underlying t=some dd)(hd:fF dd=false)(hx:ar E g x (.iface t v)):bg P E g ⟨dst,.typeAssert x s t true,ty,pos,af,gd⟩ w (.tuple #[v,.bool true]):=
 λn a d c=>by simp only [execOp,hx n a d c,Instr.typeAssert,Sem.run_bind,run_underlying b,Result.andThen_ok];cases dd <;> first|(dsimp only;rw [j6 rfl];rfl)|(simp [fF] at hd)
theorem Y7{s t:TypeId}{size bytes:Nat}(c:P.underlying t=some dd)(hd:fF dd=false)(b:TI P t size bytes z)(hx:ar E g x .nilIface):bg P E g ⟨dst,.typeAssert x s t true,ty,pos,af,gd⟩ w (.tuple #[z,.bool false]):=
 λn a e d=>by simp only [execOp,hx n a e d,Instr.typeAssert,Sem.run_bind,run_underlying c,Result.andThen_ok];cases dd <;> first|(simp [fF] at hd;done)|(simp only [Sem.run_bind,b.zero w,Result.andThen_ok,qq];rfl)
theorem YS{s t u:TypeId}{size bytes:Nat}(b:u≠t)(d:P.underlying t=some dd)(hd:fF dd=false)(c:TI P t size bytes z)(hx:ar E g x (.iface u v)):bg P E g ⟨dst,.typeAssert x s t true,ty,pos,af,gd⟩ w (.tuple #[z,.bool false]):=
 λn a f e=>by simp only [execOp,hx n a f e,Instr.typeAssert,Sem.run_bind,run_underlying d,Result.andThen_ok];cases dd <;> first|(simp [fF] at hd;done)|(dsimp only;rw [gR (by first|exact b|exact b.symm)];simp only [Sem.run_bind,c.zero w,Result.andThen_ok,qq];rfl)
def Ge(P:Program)(f:FuncId)(args:vy)(u:FrameMode)(w:World)(R:FrameMode->World->Prop):Prop:=
 CallsDIn (FW none) 0 P f args.toArray u w λe u' w'=>e= .returned (.tuple #[])/\R u' w'
abbrev OZ(f:FuncId)(cap:vy):Deferred:={ target:= .fn (.func f) cap.toArray,args:= #[] }
theorem alV{f:FuncId}{fo:Operand}{cap:vy}{tys:Array TypeId}{ty:TypeId}{pos:String}{af:xa}(b:ar E true fo (.func (.func f) #[] cap.toArray))
  (h:WL P none ops Q n (OZ f cap::D) rest E w):WL P none ops Q n D (⟨none,.defer ⟨.value fo,#[],tys⟩,ty,pos,af,none⟩::rest) E w:=λa c g=>
 wpListIn_plain rfl λK d=>by
  refine ⟨λ_ _=>trivial,?_⟩;have e:((⟨none,.defer ⟨.value fo,#[],tys⟩,ty,pos,af,none⟩:Oper).semAt (FW none).round a.eval).run P w= .ok (.defer (OZ f cap)) w:=by show (execOp a.eval (⟨none,.defer ⟨.value fo,#[],tys⟩,ty,pos,af,none⟩:Oper)).run P w=_;simp only [execOp,resolve,b n a c rfl,Deferred.ofValue,Sem.run_bind,Sem.run_pure,Result.andThen_ok];rw [show (#[]++Array.map a.eval #[]:vl)= #[] by simp]
  rw [e,Oper.uponIn_defer];refine d _ _ (h _ ⟨c.size,c.at_⟩ ?_);show OZ f cap::a.defers=_;rw [g]
theorem NU{a:Act}(h:Fits n E a)(ds:u9):Fits n E { a with defers:=ds }:=⟨h.size,h.at_⟩
theorem SD{fn:Func}{f:FuncId}{cap:vy}{tmps:vl}{R:Ending->World->Prop}{u:FrameMode}{ds:u9}(a:u≠ .run)(b:Enters P f)
  (hc:Ge P f cap u w λu' w'=>LeavesInM (FW none) 0 P fn tmps R ds (settle u') w'):LeavesInM (FW none) 0 P fn tmps R (OZ f cap::ds) u w:=by
 refine ⟨a,.inr ⟨GO,.func f,cap.toArray,f,cap.toArray,rfl,?_,λ_ _=>trivial,?_⟩⟩
 .have:=b cap.toArray w;simpa [OZ,invoke] using this
 .refine CallsDIn.mono hc λe u' w' h=>?_;obtain ⟨rfl,h⟩:=h;exact h
theorem aiT{fn:Func}{S:Value->World->Prop}{Sp:tt->World->Prop}{f:FuncId}{cap:vy}{T:World->Prop}(d:Enters P f)
  (hc:Ge P f cap .returning w λu' w'=>u'= .returning/\T w') (h:∀w',T w'->At (BP P fn S Sp) .ret n [] E w'):At (BP P fn S Sp) .ret n [OZ f cap] E w:=λa c hd=>by
 show LeavesInM _ _ _ _ _ _ a.defers _ _;rw [hd];refine SD (by simp) d (CallsDIn.mono hc λe u' w' hx=>?_);obtain ⟨b,rfl,g⟩:=hx;exact ⟨b,h w' g { a with defers:=[] } (NU c []) rfl⟩
theorem aeu{fn:Func}{S:Value->World->Prop}{Sp:tt->World->Prop}{f:FuncId}{cap:vy}{T:World->Prop}(d:Enters P f)
  (hc:Ge P f cap (.panicking (gC v)) w λu' w'=>u'= .panicking [{ v:=v,recovered:=true }]/\T w') (h:∀w',T w'->At (BP P fn S Sp) .ret n [] E w'):At (BP P fn S Sp) (.panic (gC v)) n [OZ f cap] E w:=λa c hd=>by
 show LeavesInM _ _ _ _ _ _ a.defers _ _;rw [hd];refine SD (by simp) d (CallsDIn.mono hc λe u' w' hx=>?_);obtain ⟨b,rfl,g⟩:=hx;exact ⟨b,h w' g { a with defers:=[] } (NU c []) rfl⟩
def QB(T:World->Prop):br:=λe a w=>match e with
 | .normal=>a.defers=[]/\T w
 | .ret=>a.defers=[]/\T w
 |_=>False
theorem ame{T:World->Prop}(h:T w):At (QB T) .normal n [] E w:=λ_ _ hd=>⟨hd,h⟩
theorem apj{T:World->Prop}(h:T w):At (QB T) .ret n [] E w:=λ_ _ hd=>⟨hd,h⟩
def MG(o:Oper):Bool:=match o.op with
 | .move _=>true
 | .assign _=>true
 | .alloc _=>true
 | .extract _ _=>true
 | .store _ _ _=>true
 | .typeAssert _ _ _ _=>true
 | .binOp .neq _ _ _ _=>true
 | .load _ _=>true
 | .nilCheck _=>true
 | .fieldAddr _ _ _=>true
 |_=>false
def F4:Result Next->Prop
 | .ok (.value _) _=>True
 | .ok .skip _=>True
 | .halt _ _=>True
 |_=>False
theorem ao9{m:Sem Value}{w:World}:F4 ((do pure (Next.value (<-m)):Sem Next).run P w):=by rw [Sem.run_bind];cases m.run P w <;> trivial
theorem aoJ{m:Sem Unit}{w:World}:F4 ((do m;pure Next.skip:Sem Next).run P w):=by rw [Sem.run_bind];cases m.run P w <;> trivial
theorem Bh{m:Sem α}{k:α->Sem Next}{w:World}(h:∀a w,F4 ((k a).run P w)):F4 ((m >>= k).run P w):=by
 rw [Sem.run_bind];cases m.run P w with
 |ok a w=>exact h a w
 |halt _ _=>trivial
theorem akz{a:Operand->Value}{dst:w4}{ty:TypeId}{pos:String}{af:xa}{g:Option (Nat×Bool)}{w:World}:F4 ((execOp a ⟨dst,.nilCheck x,ty,pos,af,g⟩).run P w):=by
 unfold execOp;dsimp only;split
 .exact Bh λ_ _=>trivial
 .exact Bh λ_ _=>trivial
 .exact Bh λ_ _=>trivial
 .split
  .exact Bh λ_ _=>trivial
  .refine Bh λ_ _=>Bh λ_ _=>?_;split
   .exact Bh λ_ _=>trivial
   .exact trivial
  .trivial
 .trivial
theorem akR{o:Oper}(h:MG o=true)(a:Operand->Value)(w:World):F4 ((execOp a o).run P w):=by obtain ⟨dst,op,ty,pos,af,g⟩:=o;cases op <;> first|(cases h;done)|exact ao9|exact aoJ|exact akz|trivial
theorem PR{ops:w5}{g:br}{QS:Exit->Act->List Frame->World->Prop}{cs:List Frame}(f:∀e a w,g e a w->QS e a cs w):∀(l:xc) (k:Nat),l.all MG=true->(∀j,l[j]? =ops[k+j]?)->∀(a:Act) (w:World),wpListIn (FW none) 0 P ops g l a w->
  wpOpsSIn (FW none) 0 P ops QS (List.range' k l.length) a cs w
 |[],k,_,_,a,w,h=>f _ _ _ h
 |o::l,k,hc,hk,a,w,h=>by
  have m:ops[k]? =some o:=by simpa using (hk 0).symm
  rw [qF,ae] at hc;have ih:=PR (ops:=ops) f l (k+1) hc.2 (λj=>by have:=hk (j+1);simpa [qo,Nat.add_comm 1 j] using this);rw [p5,List.range'_succ];simp only [wpOpsSIn,m];simp only [wpListIn] at h;refine ⟨λ_ _=>trivial,?_⟩;split at h
  .rename_i d;rw [j6 d];have c:=h.2;have b:=akR (P:=P) hc.1 a.eval w;rw [show (o.semAt (FW none).round a.eval)=execOp a.eval o from rfl] at c;generalize (execOp a.eval o).run P w=r at c b;cases r with
   |ok x w'=>
    cases x <;> first|exact b.elim|exact ih _ _ c
   |halt i w'=>
    cases i <;> first|exact f _ _ _ c|exact c.elim
  next d=>rw [gR d];exact ih _ _ h.2
theorem ak6{fn:Func}{c₀:Frame}{cs:List Frame}{T:World->Prop}{u':FrameMode}(b:fn.results= #[]){e:Exit}{a:Act}{w:World}(h:QB T e a w):
  bodyPostS P fn c₀ cs (λe c w'=>e= .returned (.tuple #[])/\c=u'/\T w') e a ({ c₀ with mode:=u' }::cs) w:=by
 have d:(results fn a.tmps).run P w= .ok (.tuple #[]) w:=by rw [Ug,b];simp
 cases e <;> first|exact ⟨h.1,u',rfl,_,d,rfl,rfl,h.2⟩|exact h.elim
theorem V8{f:FuncId}{fn:Func}{id:Nat}{ops:w5}{l:xc}{y:Code}{d:Tmp}{ty:TypeId}{pos:String}{af:xa}{tys:Array TypeId}{cap:vy}{u u':FrameMode}{T:World->Prop}
  (J:P.funcs[f]? =some fn) (hb:fn.body=some (.seq (.region id ops false) y)) (c:ops.toList=⟨some d,.call ⟨.builtin .recover,#[],tys⟩,ty,pos,af,none⟩::l) (q:l.all MG=true) (o:fn.results= #[]) (H:fn.ntmps=n) (I:Nat.ble cap.length n=true) (hd:Nat.blt d n=true)
  (F:(u= .returning/\u'= .returning/\v= .nilIface)\/(u= .panicking (gC v)/\u'= .panicking [{ v:=v,recovered:=true }]))
  (h:WL P none ops (Exit.then (y.wpIn (FW none) 0 P (QB T)) (QB T)) n [] l ((d,true,v)::iota 0 cap) w):Ge P f cap u w λr w'=>r=u'/\T w':=by
 refine callsDIn_of_wpSIn J hb trivial λc₀ cs hc=>?_;have k:Fits n (iota 0 cap) { tmps:=cap.toArray++Array.replicate (fn.ntmps-cap.toArray.size) undef,defers:=[] }:=by
  refine ⟨?_,λt g v G=>?_⟩
  .have:cap.length<=n:=by simpa using I
   simp [H];omega
  .obtain ⟨j,rfl,hv,rfl⟩:=Dq cap 0 t g v G;have C:j<cap.length:=by
    rcases q8 j cap.length with h|h
    .exact h
    .rw [e9 h] at hv;cases hv
   simp only [vr,hW,ec,hV];rw [qL (by simpa using C)];simp [hv]
 have z:({ tmps:=cap.toArray++Array.replicate (fn.ntmps-cap.toArray.size) undef,defers:=[] }:Act).defers=[]:=rfl;generalize ({ tmps:=cap.toArray++Array.replicate (fn.ntmps-cap.toArray.size) undef,defers:=[] }:Act)=a0 at k z;refine wpSIn_seq (wpSIn_region ?_);have B:ops.size=l.length+1:=by rw [<-ca,c];rfl
 rw [B,List.range_eq_range',List.range'_succ];have L:ops[0]? =some ⟨some d,.call ⟨.builtin .recover,#[],tys⟩,ty,pos,af,none⟩:=by rw [<-qi,c];rfl
 have C:∀j,l[j]? =ops[1+j]? :=λj=>by rw [<-qi,c,Nat.add_comm 1 j];rfl
 have s:(execOp a0.eval (⟨some d,.call ⟨.builtin .recover,#[],tys⟩,ty,pos,af,none⟩:Oper)).run P w= .ok .recover w:=by simp [execOp,resolve,invoke,builtin]
 have x:Fits n ((d,true,v)::iota 0 cap) (a0.put (some d) v):=k.put (g:=true) (v:=v) hd;have m:=PR (cs:={ c₀ with mode:=u' }::cs) (QS:=Exit.thenS (y.wpSIn (FW none) 0 P (bodyPostS P fn c₀ cs λe r w'=>e= .returned (.tuple #[])/\r=u'/\T w')) (bodyPostS P fn c₀ cs λe r w'=>e= .returned (.tuple #[])/\r=u'/\T w'))
  (λe a w p=>by
   cases e with
   |normal=>exact wpSIn_of_wpIn rfl (Code.wpIn_mono (λe a w p=>ak6 o p) p)
   |exit i=>exact False.elim p
   |goto i=>exact False.elim p
   |ret=>exact ak6 (P:=P) (c₀:=c₀) (cs:=cs) (u':=u') (T:=T) (e:= .ret) o p
   |panic i=>exact False.elim p
   |outgrown=>exact False.elim p) l 1 q C _ _ (h _ x z)
 simp only [wpOpsSIn,L];refine ⟨λ_ _=>trivial,?_⟩;rw [j6 (by simp [Region.wanted]),s];rcases F with ⟨A,E,K⟩|⟨A,E⟩
 .have b:recoverD (c₀::cs)=none:=by simp [recoverD,hc,A]
  have D:({ c₀ with mode:=u' }:Frame)=c₀:=by rw [E,<-A,<-hc]
  simp only [b];rw [D,K] at m;exact m
 .have b:recoverD (c₀::cs)=some (v,{ c₀ with mode:=u' }::cs):=by simp [recoverD,hc,A,E,gC]
  simp only [b];exact m
theorem ad8{f:FuncId}{fn:Func}{id:Nat}{ops:w5}{cap:vy}{T:World->Prop}
  (u:P.funcs[f]? =some fn) (hb:fn.body=some (.region id ops false)) (c:ops.toList.all MG=true) (d:fn.results= #[]) (q:fn.ntmps=n) (r:Nat.ble cap.length n=true)
  (h:WL P none ops (QB T) n [] ops.toList (iota 0 cap) w):Ge P f cap .returning w λk w'=>k= .returning/\T w':=by
 refine callsDIn_of_wpSIn u hb trivial λc₀ cs hc=>?_;have b:Fits n (iota 0 cap) { tmps:=cap.toArray++Array.replicate (fn.ntmps-cap.toArray.size) undef,defers:=[] }:=by
  refine ⟨?_,λt g v o=>?_⟩
  .have:cap.length<=n:=by simpa using r
   simp [q];omega
  .obtain ⟨j,rfl,hv,rfl⟩:=Dq cap 0 t g v o;have s:j<cap.length:=by
    rcases q8 j cap.length with h|h
    .exact h
    .rw [e9 h] at hv;cases hv
   simp only [vr,hW,ec,hV];rw [qL (by simpa using s)];simp [hv]
 have m:({ c₀ with mode:= .returning }:Frame)=c₀:=by rw [<-hc]
 refine wpSIn_region ?_;have l:ops.size=ops.toList.length:=by rw [ca]
 rw [l,List.range_eq_range'];have i:=PR (cs:=c₀::cs) (QS:=bodyPostS P fn c₀ cs λe k w'=>e= .returned (.tuple #[])/\k= .returning/\T w')
  (λe a w p=>by have:=ak6 (P:=P) (c₀:=c₀) (cs:=cs) (u':= .returning) (T:=T) (e:=e) d p;rw [m] at this;exact this) ops.toList 0 c (λj=>by rw [ec,qi]) _ _ (h _ b rfl)
 exact i
end
variable {w : World}
inductive Ex where
 |mk (op n at_:Int) (l:List Ex)
instance:Inhabited Ex:=⟨.mk 0 0 0 []⟩
def Ex.op:Ex->Int
 | .mk o _ _ _=>o
def Ex.n:Ex->Int
 | .mk _ n _ _=>n
def Ex.at_:Ex->Int
 | .mk _ _ a _=>a
def Ex.l:Ex->List Ex
 | .mk _ _ _ l=>l
mutual
def Ex.sz:Ex->Nat
 | .mk _ _ _ l=>szL l+1
def szL:List Ex->Nat
 |[]=>0
 |x::r=>Ex.sz x+szL r
end
inductive uy(M:Nat->Prop)(w:World):vy->Ex->Prop
 |nil (op n a:Int) (ad:Option Addr):uy M w [.int .i64 op,.int .i64 n,.int .i64 a,sl (ad,0,0)] (.mk op n a [])
 |some (op n a:Int) (l:List Ex) (b off cap:Nat) (cs:vl) (e:TypeId) (fr:Nat×Nat) (hM:¬M b) (hb:w.heap[b]? =some (.cells cs e fr)) (hc:l.length<=cap) (ho:off+cap*4<=cs.size)
   (hl:((cs.toList.drop off).take (l.length*4)).length=l.length*4) (h:∀i (hi:i<l.length),uy M w ((((cs.toList.drop off).take (l.length*4)).drop (i*4)).take 4) l[i]):
   uy M w [.int .i64 op,.int .i64 n,.int .i64 a,sl (some ⟨b,off,none⟩,l.length,cap)] (.mk op n a l)
theorem uy.len{M:Nat->Prop}{x:Ex}(h:uy M w vs x):vs.length=4:=by cases h <;> rfl
theorem uy.mv{M M':Nat->Prop}{w':World}{x:Ex}(h:uy M w vs x)(m:Mv M w M' w'):uy M' w' vs x:=by
 induction h with
 |nil op n a j=>exact .nil op n a j
 |some op n a l b off cap cs e fr f hb hc c d _ ih=>
  obtain ⟨i,g⟩:=m.2 b (Array.getElem?_eq_some_iff.1 hb).1 f;exact .some op n a l b off cap cs e fr i (by rw [g];exact hb) hc c d ih
def HQ:dD Ex where
 n:=4
 rd:=uy
 len:=uy.len
 one h:=by cases h <;> simp [Value.oneCell',sl]
 mv:=uy.mv
theorem HM{M:Nat->Prop}{x:Ex}(h:HQ.rd M w vs x):∃v:fw,vs=[(.int .i64 x.op),(.int .i64 x.n),(.int .i64 x.at_),(sl v)]/\bO HQ M w (sl v) x.l:=by
 cases h with
 |nil op n a g=>exact ⟨_,rfl,.inl ⟨⟨_,rfl⟩,rfl⟩⟩
 |some op n a l b off cap cs e fr f hb hc c d h=>exact ⟨_,rfl,.inr ⟨b,off,cap,cs,e,fr,rfl,f,hb,hc,c,d,h⟩⟩
theorem Ou{M:Nat->Prop}{op n a:Int}{l:List Ex}(h:(IG HQ).rd M w [v] l):HQ.rd M w [(.int .i64 op),(.int .i64 n),(.int .i64 a),v] (.mk op n a l):=by
 obtain ⟨p,hp,h⟩:=h;have hv:v=sl p:=by simpa using hp
 subst hv;rcases h with ⟨⟨i,h⟩,rfl⟩|⟨b,off,cap,cs,e,fr,h,g,hb,hc,d,f,c⟩
 .rw [h];exact .nil op n a i
 .rw [h];exact .some op n a l b off cap cs e fr g hb hc d f c
abbrev ay{α:Type}(c:Bool)(a b:α):α:=match c with
 |true=>a
 |false=>b
inductive Ty where
 |i (k:IntKind)
 |bo
 |s
 |un
 |n
 |p (x y:Ty)
 |l (x:Ty)
 |mp (k v:Ty)
 |ex
 deriving DecidableEq
def Ty.T:Ty->Type
 | .i _=>Int
 | .bo=>Bool
 | .s=>aF
 | .un=>Unit
 | .n=>Nat
 | .p x y=>x.T×y.T
 | .l x=>List x.T
 | .mp k v=>Option (List (k.T×v.T))
 | .ex=>Ex
def RNo(α:Type):dD α where
 n:=0
 rd _ _ _ _:=False
 len h:=h.elim
 one h:=h.elim
 mv h _:=h.elim
def RIf:dD Nat where
 n:=1
 rd _ _ vs x:=vs=[.iface x (.agg #[])]
 len h:=by rw [h];rfl
 one h:=by rw [h];simp [Value.oneCell']
 mv h _:=h
def Ty.rep:(t:Ty)->dD t.T
 | .i k=>RI k
 | .bo=>RB
 | .s=>RS
 | .un=>RU
 | .n=>RIf
 | .p x y=>RP x.rep y.rep
 | .l x=>IG x.rep
 | .mp _ _=>RNo _
 | .ex=>HQ
structure bX where
 t:Ty
 x:t.T
def bX.as(t:Ty)(d:bX):Option t.T:=if h:d.t=t then some (h▸d.x) else none
theorem bX.MK{t:Ty}{d:bX}{x:t.T}(h:d.as t=some x):d=⟨t,x⟩:=by
 unfold bX.as at h;split at h
 next e=>obtain ⟨t',y⟩:=d;simp only at e;subst e;cases h;rfl
 .cases h
theorem bX.amU{t:Ty}{x:t.T}:bX.as t ⟨t,x⟩=some x:=by simp [bX.as]
inductive AV where
 |int (k:IntKind) (x:Int)
 |bool (x:Bool)
 |str (x:aF)
 |agg (l:List AV)
 |tuple (l:List AV)
 |ptr (id off:Nat)
 |sl (id:Nat)
 |adr (id off:Nat)
 |fn (f:FuncId) (a b:List AV)
 |ifc (t:TypeId) (v:AV)
 |mp (id:Nat)
 |gp (b:Nat)
 |nv (id:Nat)
 |sfp (id:Nat) (f:Bool)
 |bs (id n:Nat)
 |raw (v:Value)
structure Nm where
 b:Nat
 v:fw
 a:Addr
 m:v7
 x:Value
 y:bX
abbrev ax:=Nat->Nm
def cM:Nm:=⟨0,(none,0,0),⟨0,0,none⟩,none,.bool false,⟨.un,()⟩⟩
mutual
def AV.val(ρ:ax):AV->Value
 | .int k x=> .int k x
 | .bool x=> .bool x
 | .str x=>S x
 | .agg l=> .agg (AV.ao ρ l).toArray
 | .tuple l=> .tuple (AV.ao ρ l).toArray
 | .ptr id off=> .pointer (some ⟨(ρ id).b,off,none⟩)
 | .sl id=>Go.Proofs.YtkedhpmpejhekaaGreatDoor.sl (ρ id).v
 | .adr id off=> .pointer (some ((ρ id).a.add off))
 | .fn f a b=> .func (.func f) (AV.ao ρ a).toArray (AV.ao ρ b).toArray
 | .ifc t v=> .iface t (v.val ρ)
 | .mp id=> .map (ρ id).m
 | .gp b=> .pointer (some ⟨b,0,none⟩)
 | .nv id=>(ρ id).x
 | .sfp id f=>yy f (ρ id).b
 | .bs id n=> .slice (some ⟨(ρ id).b,0,none⟩) n n
 | .raw v=>v
def AV.ao(ρ:ax):List AV->vy
 |[]=>[]
 |v::l=>v.val ρ::AV.ao ρ l
end
mutual
def AV.low(c:Nat):AV->Bool
 | .agg l|.tuple l=>AV.bV c l
 | .fn _ a b=>AV.bV c a&&AV.bV c b
 | .ifc _ v=>v.low c
 | .ptr id _|.sl id|.adr id _|.mp id|.nv id|.sfp id _|.bs id _=>Nat.blt id c
 |_=>true
def AV.bV(c:Nat):List AV->Bool
 |[]=>true
 |v::l=>v.low c&&AV.bV c l
end
def aT(c:Nat)(ρ ρ':ax):Prop:= ∀j,j<c->ρ' j=ρ j
theorem aT.refl{c:Nat}{ρ:ax}:aT c ρ ρ:=λ_ _=>rfl
theorem aT.trans{c d:Nat}{a b e:ax}(h:aT c a b)(k:aT d b e)(f:c<=d):aT c a e:=λj g=>(k j (cy g f)).trans (h j g)
theorem aT.less{c d:Nat}{a b:ax}(h:aT d a b)(e:c<=d):aT c a b:=λj f=>h j (cy f e)
mutual
theorem AV.j3{ρ ρ':ax}{c:Nat}(ha:aT c ρ ρ'):(v:AV)->v.low c=true->v.val ρ'=v.val ρ
 | .int _ _,_|.bool _,_|.str _,_|.raw _,_|.gp _,_=>by simp only [AV.val]
 | .agg l,h=>by simp only [AV.val];rw [AV.bS ha l (by simpa only [AV.low] using h)]
 | .tuple l,h=>by simp only [AV.val];rw [AV.bS ha l (by simpa only [AV.low] using h)]
 | .fn _ a b,h=>by
  simp only [AV.low,ae] at h;simp only [AV.val];rw [AV.bS ha a h.1,AV.bS ha b h.2]
 | .ifc _ v,h=>by simp only [AV.val];rw [AV.j3 ha v (by simpa only [AV.low] using h)]
 | .ptr _ _,h=>by simp only [AV.val];rw [ha _ (by simpa only [AV.low,du] using h)]
 | .sl _,h=>by simp only [AV.val];rw [ha _ (by simpa only [AV.low,du] using h)]
 | .adr _ _,h=>by simp only [AV.val];rw [ha _ (by simpa only [AV.low,du] using h)]
 | .mp _,h=>by simp only [AV.val];rw [ha _ (by simpa only [AV.low,du] using h)]
 | .nv _,h=>by simp only [AV.val];rw [ha _ (by simpa only [AV.low,du] using h)]
 | .sfp _ _,h=>by simp only [AV.val];rw [ha _ (by simpa only [AV.low,du] using h)]
 | .bs _ _,h=>by simp only [AV.val];rw [ha _ (by simpa only [AV.low,du] using h)]
theorem AV.bS{ρ ρ':ax}{c:Nat}(ha:aT c ρ ρ'):(l:List AV)->AV.bV c l=true->AV.ao ρ' l=AV.ao ρ l
 |[],_=>by simp only [AV.ao]
 |v::l,h=>by simp only [AV.bV,ae] at h;simp only [AV.ao];rw [AV.j3 ha v h.1,AV.bS ha l h.2]
end
mutual
theorem AV.fa{c d:Nat}(e:c<=d):(v:AV)->v.low c=true->v.low d=true
 | .int _ _,_|.bool _,_|.str _,_|.raw _,_|.gp _,_=>by simp only [AV.low]
 | .agg l,h=>by simp only [AV.low] at h ⊢; exact AV.jd e l h
 | .tuple l,h=>by simp only [AV.low] at h ⊢; exact AV.jd e l h
 | .fn _ a b,h=>by simp only [AV.low,ae] at h ⊢; exact ⟨AV.jd e a h.1,AV.jd e b h.2⟩
 | .ifc _ v,h=>by simp only [AV.low] at h ⊢; exact AV.fa e v h
 | .ptr _ _,h=>by simp only [AV.low,du] at h ⊢; omega
 | .sl _,h=>by simp only [AV.low,du] at h ⊢; omega
 | .adr _ _,h=>by simp only [AV.low,du] at h ⊢; omega
 | .mp _,h=>by simp only [AV.low,du] at h ⊢; omega
 | .nv _,h=>by simp only [AV.low,du] at h ⊢; omega
 | .sfp _ _,h=>by simp only [AV.low,du] at h ⊢; omega
 | .bs _ _,h=>by simp only [AV.low,du] at h ⊢; omega
theorem AV.jd{c d:Nat}(a:c<=d):(l:List AV)->AV.bV c l=true->AV.bV d l=true
 |[],_=>by simp only [AV.bV]
 |v::l,h=>by simp only [AV.bV,ae] at h ⊢;exact ⟨AV.fa a v h.1,AV.jd a l h.2⟩
end
theorem Oz{c:Nat}:{l m:List AV}->AV.bV c l=true->AV.bV c m=true->AV.bV c (l++m)=true
 |[],m,_,h=>h
 |v::l,m,h,k=>by simp only [dk,AV.bV,ae] at h ⊢;exact ⟨h.1,Oz h.2 k⟩
theorem AV.aat{ρ:ax}{l:List AV}{i:Nat}{v:AV}(h:l[i]? =some v):(AV.ao ρ l)[i]? =some (v.val ρ):=by
 induction l generalizing i with
 |nil=>simp at h
 |cons u l ih=>
  cases i with
  |zero=>simp at h;subst h;simp [AV.ao]
  |succ i=>simp only [AV.ao,b8] at h ⊢; exact ih h
theorem AV.gi{ρ:ax}:{l:List AV}->{k:Nat}->AV.ao ρ (l.drop k)=(AV.ao ρ l).drop k
 |l,0=>by simp
 |[],k+1=>by simp [AV.ao]
 |v::l,k+1=>by simp only [AV.ao,List.drop_succ_cons];exact AV.gi
theorem AV.jg{ρ:ax}:{l:List AV}->{k:Nat}->AV.ao ρ (l.take k)=(AV.ao ρ l).take k
 |l,0=>by simp [AV.ao]
 |[],k+1=>by simp [AV.ao]
 |v::l,k+1=>by simp only [AV.ao,qO];rw [AV.jg]
theorem AV.bl{ρ:ax}:{l:List AV}->(AV.ao ρ l).length=l.length
 |[]=>by simp [AV.ao]
 |v::l=>by simp [AV.ao,AV.bl]
theorem cX{ρ:ax}:{l m:List AV}->AV.ao ρ (l++m)=AV.ao ρ l++AV.ao ρ m
 |[],m=>by simp [AV.ao]
 |v::l,m=>by simp only [dk,AV.ao];rw [cX]
abbrev GK:=Option (Nat×Bool)
inductive Row where
 |box (id:Nat) (t:TypeId) (vs:List AV)
 |sli (g:GK) (id:Nat) (t:Ty) (l:List t.T) (clip:Bool)
 |own (id:Nat) (t:Ty) (e:TypeId) (l:List t.T) (ver:Nat)
 |kn (g:GK) (q id ver:Nat) (t:Ty) (i:Int) (x:t.T)
 |elm (g:GK) (id:Nat) (vs:List AV)
 |mp (id:Nat) (k v:Ty) (d:Option (List (k.T×v.T)))
 |it (id:Nat) (s:aF) (p:Nat)
 |eq (id:Nat) (v:AV)
 |gone
inductive Pt where
 |int (k:IntKind)|bool|str
 |sli (t:Ty)
 |own (t:Ty) (e:TypeId) (m:Bool)
 |slr (n:Nat)
 |bx (t:TypeId) (off:Nat) (m:Bool) (vs:List Pt)
 |ptr (n off:Nat)
 |mp (k v:Ty) (m:Bool)
 |it
 |agg (l:List Pt)|cE (l:List Pt)
 |fn (f:FuncId) (a b:List Pt)
 |ifc (t:TypeId) (p:Pt)
 |iO (v:AV)
 |dat (t:Ty) (o:s3)
 |ifn
 |sfp
 |sty (p:Pt)
 |same
abbrev aE:=List (Nat×GK×AV)
structure Tm where
 vs:List (Bool×Nat×Pt)
 th:x3
inductive HT where
 |o
 |c (a b:HT)
 |l (t:Tm) (a:HT)
 |j (t:Tm) (a b:HT)
 |s (a:HT)
 |n (k:Nat) (a:HT)
 |r (th:x3) (a:HT)
structure aB where
 c:Nat
 E:aE
 G:List Row
 h:HT
structure Fr where
 F:aE
 H:List Row
 n:Nat
inductive XE where
 |nrm|ret
 |ext (i:Nat)
 |gto (l:Nat)
 |gC (v:AV)
 |panE (v:AV)
 |panL (v:AV)
def Vf:Bool->Bool->Bool
 |true,b=>b
 |false,b=> !b
theorem aet:{a b:Bool}->Vf a b=true->a=b
 |true,_,h=>h.symm
 |false,b,h=>by cases b <;> simp_all [Vf]
theorem aiJ:(a:Bool)->Vf a a=true
 |true=>rfl
 |false=>rfl
def GK.eq:GK->GK->Bool
 |none,none=>true
 |some (j,p),some (k,q)=>Nat.beq j k&&Vf p q
 |_,_=>false
theorem GK.eq_eq:{a b:GK}->a.eq b=true->a=b
 |none,none,_=>rfl
 |some (j,p),some (k,q),h=>by simp only [GK.eq,ae] at h;rw [ah h.1,aet h.2]
abbrev aA:=List ((Nat×Bool)×GK×Nat×Bool)
def vC(p b:Bool):Bool:=match p with
 |true=>b
 |false=> !b
theorem Mg(p b:Bool):vC p b=(b==p):=by cases p <;> cases b <;> rfl
def aA.get:aA->GK->Bool
 |_,none=>true
 |[],some _=>false
 |(k,par,_,b)::T,some k'=>ay ( GK.eq (some k) (some k') ) ( (aA.get T par&&vC k.2 b) )<|aA.get T (some k')
@[simp] theorem aA.get_none {T : aA} : T.get none = true := by cases T <;> rfl
theorem aA.QV{k:Nat×Bool}{par:GK}{rj:Nat}{b:Bool}{T:aA}{x:GK}(h:(!(GK.eq (some k) x))=true):aA.get ((k,par,rj,b)::T) x=T.get x:=by
 cases x with
 |none=>simp
 |some a=>
  simp only [aA.get];cases hb:GK.eq (some k) (some a)
  .rfl
  .rw [hb] at h;cases h
theorem GK.aeP:(k:Nat×Bool)->GK.eq (some k) (some k)=true:=λk=>by simp [GK.eq,aiJ]
theorem aA.ajz{k:Nat×Bool}{par:GK}{rj:Nat}{b:Bool}{T:aA}:aA.get ((k,par,rj,b)::T) (some k)=(T.get par&&vC k.2 b):=by simp only [aA.get,GK.aeP]
def sw(p:fw):x3:=match p.2.2 with
 |0=>[]
 |_+1=>dq (sl p)
section
variable {α : Type} {A : dD α} {e : TypeId} {M M' : Nat -> Prop} {w w' : World}
theorem bJ.canon{p:fw}{xs:List α}(h:bJ A e M w (sl p) xs R):(∀b∈sw p,b∈R)/\∀(M':Nat->Prop) (w':World),bJ A e M' w' (sl p) xs R->bJ A e M' w' (sl p) xs (sw p):=by
 obtain ⟨a,n,cap⟩:=p;cases cap with
 |zero=>
  refine ⟨λb hb=>(by cases hb),λM' w' d=>?_⟩;have hx:xs=[]:=by
   rcases d with ⟨_,d⟩|⟨_,d,_⟩
   .obtain ⟨cells,⟨_,k⟩,_⟩:=d;rcases k with ⟨_,l⟩|⟨g,o,c,cur,hv,q,hc,r⟩
    .exact cd l
    .simp only [sl,Value.slice.injEq] at hv;exact cd (by omega)
   .exact d
  obtain ⟨m,s,f⟩:=d.len;simp only [sl,Value.slice.injEq] at f;have i:n=0:=by rw [f.2.1,hx];rfl
  subst i;exact .inr ⟨rfl,hx,⟨a,rfl⟩,bO.emp⟩
 |succ c=>
  have key:∀(M':Nat->Prop) (w':World),bJ A e M' w' (sl (a,n,c+1)) xs R->R=dq (sl (a,n,c+1)):=λM' w' d=>by
   rcases d with ⟨d,_⟩|⟨_,_,⟨m,d⟩,_⟩
   .exact d
   .simp only [sl,Value.slice.injEq] at d;omega
  have j:=key _ _ h;subst j;exact ⟨λb hb=>hb,λM' w' d=>d⟩
theorem bJ.BC{p:fw}{xs:List α}(h:bJ A e M w (sl p) xs R):bJ A e M w (sl p) xs (sw p):=h.canon.2 _ _ h
def lL(A:dD α)(e:TypeId)(p:fw)(l:List α)(q:Prop):Item where
 own:=sw p
 P M w:=bJ A e M w (sl p) l (sw p)/\q
 lt h:=h.1.lt
 cJ h m k _:=⟨h.1.cJ k m,h.2⟩
 cC:=false
 hp h:=by cases h
def Ef(g:Bool)(A:dD α)(p:fw)(l:List α)(clip:Bool):Item where
 own:=[]
 P M w:=g=true->bO A M w (sl p) l/\(clip=true->p.2.2=l.length)
 lt _ b hb:=by cases hb
 cJ h m _ _:=λhg=>⟨(h hg).1.mv m,(h hg).2⟩
 cC:=true
 hp _:=rfl
def Zr(p:Prop):Item where
 own:=[]
 P _ _:=p
 lt _ b hb:=by cases hb
 cJ h _ _ _:=h
 cC:=true
 hp _:=rfl
end
def EU:(t:Ty)->t.T->Value
 | .i k,x=> .int k x
 | .s,x=>S x
 | .bo,x=> .bool x
 | .p (.i a) (.i b),x=>RD a b x
 |_,_=> .bool false
def Row.item(ρ:ax)(T:aA):Row->Item
 | .box id t vs=>Go.Proofs.YtkedhpmpejhekaaGreatDoor.box (ρ id).b t (AV.ao ρ vs)
 | .sli g id t l b=>Ef (T.get g) t.rep (ρ id).v l b
 | .own id t e l ver=>lL t.rep e (ρ id).v l ((ρ ver).y=⟨.l t,l⟩)
 | .kn g q id ver t i x=>Zr (T.get g=true->∃l:List t.T,(ρ ver).y=⟨.l t,l⟩/\idx l i=some x/\(ρ q).a=pn (Go.Proofs.YtkedhpmpejhekaaGreatDoor.sl (ρ id).v) i t.rep.n)
 | .elm g id vs=>elem (T.get g) (ρ id).a (AV.ao ρ vs)
 | .mp id k v d=>omap (EU k) (EU v) (.map (ρ id).m) d
 | .it id s p=>iter (ρ id).b s p
 | .eq id v=>Zr ((ρ id).x=v.val ρ)
 | .gone=>Zr True
abbrev ab(ρ:ax)(T:aA)(G:List Row):Ctx:=G.map (Row.item ρ T)
def Row.low(c:Nat):Row->Bool
 | .box id _ vs=>Nat.blt id c&&AV.bV c vs
 | .sli _ id _ _ _|.mp id _ _ _|.it id _ _=>Nat.blt id c
 | .own id _ _ _ ver=>Nat.blt id c&&Nat.blt ver c
 | .kn _ q id ver _ _ _=>Nat.blt q c&&Nat.blt id c&&Nat.blt ver c
 | .elm _ id vs=>Nat.blt id c&&AV.bV c vs
 | .eq id v=>Nat.blt id c&&v.low c
 | .gone=>true
def bB(c:Nat):List Row->Bool
 |[]=>true
 |r::G=>r.low c&&bB c G
theorem Row.yv{ρ ρ':ax}{T:aA}{c:Nat}(ha:aT c ρ ρ'){r:Row}(h:r.low c=true):r.item ρ' T=r.item ρ T:=by
 cases r <;> simp only [Row.low,ae,du] at h
 .simp only [Row.item];rw [ha _ h.1,AV.bS ha _ h.2]
 .simp only [Row.item];rw [ha _ h]
 .simp only [Row.item];rw [ha _ h.1,ha _ h.2]
 .simp only [Row.item];rw [ha _ h.1.1,ha _ h.1.2,ha _ h.2]
 .simp only [Row.item];rw [ha _ h.1,AV.bS ha _ h.2]
 .simp only [Row.item];rw [ha _ h]
 .simp only [Row.item];rw [ha _ h]
 .simp only [Row.item];rw [ha _ h.1,AV.j3 ha _ h.2]
 .simp only [Row.item]
theorem bc{ρ ρ':ax}{T:aA}{c:Nat}(ha:aT c ρ ρ'):{G:List Row}->bB c G=true->ab ρ' T G=ab ρ T G
 |[],_=>rfl
 |r::G,h=>by simp only [bB,ae] at h;simp only [ab,cq];rw [Row.yv ha h.1];have:=bc (T:=T) ha h.2;simp only [ab] at this;rw [this]
def aE.env(ρ:ax)(T:aA):aE->Env
 |[]=>[]
 |(t,g,v)::E=>(t,T.get g,v.val ρ)::aE.env ρ T E
def aE.low(c:Nat):aE->Bool
 |[]=>true
 |x::E=>x.2.2.low c&&aE.low c E
theorem oJ{ρ ρ':ax}{T:aA}{c:Nat}(ha:aT c ρ ρ'):{E:aE}->E.low c=true->aE.env ρ' T E=aE.env ρ T E
 |[],_=>rfl
 |(t,g,v)::E,h=>by simp only [aE.low,ae] at h;simp only [aE.env];rw [AV.j3 ha v h.1,oJ ha h.2]
def aB.low(fr:Fr)(st:aB):Bool:=aE.low st.c st.E&&aE.low st.c fr.F&&bB st.c st.G&&bB st.c fr.H
def ax.set(ρ:ax)(j:Nat)(x:Nm):ax:=λi=>ay (Nat.beq i j) x (ρ i)
theorem ax.bA{ρ:ax}{j:Nat}{x:Nm}:ρ.set j x j=x:=by simp [ax.set]
theorem ax.aY{ρ:ax}{j:Nat}{x:Nm}:aT j ρ (ρ.set j x):=λi hi=>by
 unfold ax.set;have:Nat.beq i j=false:=by
  cases hb:Nat.beq i j
  .rfl
  .exact absurd (ah hb) (Nat.ne_of_lt hi)
 rw [this]
def iE(E' E:Env):Prop:= ∀t p,look E' t=some p->look E t=some p
theorem iE.refl{E:Env}:iE E E:=λ_ _ h=>h
theorem iE.trans{A B C:Env}(h:iE A B)(k:iE B C):iE A C:=λt p hp=>k t p (h t p hp)
theorem Fits.lq{n:Nat}{E:Env}{a:Act}(h:Fits n E a)(c:iE E' E):Fits n E' a:=⟨h.size,λt g v b=>h.at_ t g v (c t _ b)⟩
theorem WC.lq{P:Program}{ρ:v7}{c:Code}{Q:br}{n:Nat}{D:u9}{E:Env}{w:World}(E':Env)(b:iE E' E)(h:WC P ρ c Q n D E' w):WC P ρ c Q n D E w:=
 λa d hd=>h a (d.lq b) hd
theorem At.lq{e:Exit}{Q:br}{n:Nat}{D:u9}{E:Env}{w:World}(E':Env)(b:iE E' E)(h:At Q e n D E' w):At Q e n D E w:=
 λa c hd=>h a (c.lq b) hd
theorem DL{A B:Env}{t:Nat}:look (A++B) t=match look A t with
  |some p=>some p
  |none=>look B t:=by
 induction A with
 |nil=>rfl
 |cons x A ih=>
  obtain ⟨r,g,v⟩:=x;simp only [dk,look];cases Nat.beq r t
  .simp only [gx];exact ih
  .rfl
theorem mu{ρ:ax}{T:aA}:{E F:aE}->aE.env ρ T (E++F)=aE.env ρ T E++aE.env ρ T F
 |[],_=>rfl
 |(t,g,v)::E,F=>by simp only [dk,aE.env];rw [mu]
theorem bh{ρ:ax}{T:aA}{G H:List Row}:ab ρ T (G++H)=ab ρ T G++ab ρ T H:=qQ
variable {a : Option α} {Φ : Ctx} {ρ : ax}
theorem aG{c:Bool}{r:α}(h:ay c a none=some r):c=true/\a=some r:=by
 cases c
 .cases h
 .exact ⟨rfl,h⟩
theorem Mc{c:Bool}{r:α}(h:ay c none a=some r):c=false/\a=some r:=by
 cases c
 .exact ⟨rfl,h⟩
 .cases h
theorem dp{c:Bool}{b:Option α}{r:α}(h:ay c a b=some r):(c=true/\a=some r)\/(c=false/\b=some r):=by
 cases c
 .exact .inr ⟨rfl,h⟩
 .exact .inl ⟨rfl,h⟩
def aA.imp:aA->GK->GK->Bool
 |_,_,none=>true
 |[],_,some _=>false
 |_,none,some _=>false
 |(k,par,_,_)::T,some g,some g'=>GK.eq (some g) (some g')||(ay ( GK.eq (some k) (some g) ) ( aA.imp T par (some g') )<|aA.imp T (some g) (some g'))&& !(GK.eq (some k) (some g'))
theorem aA.jv:{T:aA}->{g g':GK}->T.imp g g'=true->T.get g=true->T.get g'=true
 |T,g,none,_,_=>by simp
 |[],g,some g',h,_=>by simp [aA.imp] at h
 |_::_,none,some g',h,_=>by simp [aA.imp] at h
 |(k,par,rj,b)::T,some g,some g',h,hg=>by
  simp only [aA.imp,cp,ae] at h;rcases h with h|⟨a,c⟩
  .rw [<-GK.eq_eq h];exact hg
  .rw [aA.QV c];cases hb:GK.eq (some k) (some g)
   .rw [hb] at a;rw [aA.QV (by rw [hb];rfl)] at hg;exact aA.jv a hg
   .rw [hb] at a;simp only [aA.get,hb,ae] at hg;exact aA.jv a hg.1
def bw:aE->Nat->Option (GK×AV)
 |[],_=>none
 |(r,g,v)::E,t=>ay ( Nat.beq r t ) ( some (g,v) )<|bw E t
def dy(E F:aE)(t:Nat):Option (GK×AV):=match bw E t with
 |some x=>some x
 |none=>bw F t
theorem sq{ρ:ax}{T:aA}{t:Nat}:{E:aE}->look (aE.env ρ T E) t=(bw E t).map λx=>(T.get x.1,x.2.val ρ)
 |[]=>rfl
 |(r,g',v')::E=>by
  simp only [bw,aE.env,look];cases hb:Nat.beq r t
  .simp only [gx];exact sq
  .rfl
abbrev au(ρ:ax)(T:aA)(E F:aE):Env:=aE.env ρ T E++aE.env ρ T F
theorem fG{T:aA}{t:Nat}{E F:aE}:look (au ρ T E F) t=(dy E F t).map λx=>(T.get x.1,x.2.val ρ):=by rw [DL,sq,sq];unfold dy;cases bw E t <;> rfl
def iO:Value->AV
 | .int k x=> .int k x
 | .bool x=> .bool x
 | .string b=> .str b.data.toList
 |v=> .raw v
theorem aeS:(iO v).val ρ=v:=by cases v <;> simp [iO,AV.val,S]
theorem kx{ρ:ax}:{l:vy}->AV.ao ρ (l.map iO)=l
 |[]=>by simp [AV.ao]
 |v::l=>by simp only [cq,AV.ao];rw [aeS,kx]
theorem ann{c:Nat}:(iO v).low c=true:=by cases v <;> simp [iO,AV.low]
theorem acf{c:Nat}:{l:vy}->AV.bV c (l.map iO)=true
 |[]=>by simp [AV.bV]
 |v::l=>by simp only [cq,AV.bV];rw [ann,acf];rfl
def bq(T:aA)(E F:aE)(g:GK):Operand->Option AV
 | .tmp t=>match dy E F t with
  |some x=>ay ( T.imp g x.1 ) ( some x.2 )<|none
  |none=>none
 | .const v=>some (iO v)
 | .func f=>some (.fn f [] [])
 | .global f=>some (.gp f)
theorem aR{T:aA}{E F:aE}{g:GK}{v:AV}(h:bq T E F g x=some v):ar (au ρ T E F) (T.get g) x (v.val ρ):=by
 cases x with
 |tmp t=>
  unfold bq at h;dsimp only at h;cases a:dy E F t with
  |none=>rw [a] at h;cases h
  |some x=>
   rw [a] at h;obtain ⟨d,b⟩:=aG h;cases b;exact ar.g (g':=T.get x.1) (by rw [fG,a];rfl) (aA.jv d)
 |const u=>cases h;rw [aeS];exact ar.c
 |func f=>cases h;simp only [AV.val,AV.ao];exact ar.f
 |global f=>cases h;simp only [AV.val];exact ar.gl
theorem bD{T:aA}{E F:aE}{v:AV}(h:bq T E F none x=some v):ar (au ρ T E F) true x (v.val ρ):=by have:=aR (ρ:=ρ) h;rwa [aA.get_none] at this
def od(T:aA)(E F:aE)(g:GK):vb->Option (List AV)
 |[]=>some []
 |x::l=>match bq T E F g x with
  |some v=>match od T E F g l with
   |some vs=>some (v::vs)
   |none=>none
  |none=>none
theorem fK{ρ:ax}{T:aA}{E F:aE}{g:GK}:{xs:vb}->{vs:List AV}->od T E F g xs=some vs->gr (au ρ T E F) (T.get g) xs (AV.ao ρ vs)
 |[],vs,h=>by cases h;simp only [AV.ao];exact .nil
 |x::l,vs,h=>by
  unfold od at h;split at h
  .rename_i v b;split at h
   next us a=>cases h;simp only [AV.ao];exact .cons (aR b) (fK a)
   .cases h
  .cases h
def lQ(p:Row->Bool):List Row->Option (Nat×Row)
 |[]=>none
 |r::G=>ay ( p r ) ( some (0,r) )<|match lQ p G with
  |some x=>some (x.1+1,x.2)
  |none=>none
theorem kC{p:Row->Bool}:{G:List Row}->{i:Nat}->{r:Row}->lQ p G=some (i,r)->G[i]? =some r/\p r=true
 |[],_,_,h=>by cases h
 |r0::G,i,r,h=>by
  unfold lQ at h;rcases dp h with ⟨b,a⟩|⟨b,a⟩
  .cases a;exact ⟨rfl,b⟩
  .split at a
   next x hx=>cases a;obtain ⟨d,c⟩:=kC (i:=x.1) (r:=x.2) hx;exact ⟨by simpa using d,c⟩
   .cases a
def lv(id:Nat):Row->Bool
 | .sli _ j _ _ _|.own j _ _ _ _=>Nat.beq j id
 |_=>false
def wg(id:Nat):Row->Bool
 | .box j _ _=>Nat.beq j id
 |_=>false
def agf(id:Nat):Row->Bool
 | .mp j _ _ _=>Nat.beq j id
 |_=>false
def apq(id:Nat):Row->Bool
 | .it j _ _=>Nat.beq j id
 |_=>false
def isEq(id:Nat):Row->Bool
 | .eq j _=>Nat.beq j id
 |_=>false
def P9(q:Nat):Row->Bool
 | .kn _ j _ _ _ _ _=>Nat.beq j q
 |_=>false
def apr(id:Nat):Row->Bool
 | .elm _ j _=>Nat.beq j id
 |_=>false
def Row.id:Row->Nat
 | .box j _ _|.sli _ j _ _ _|.own j _ _ _ _|.mp j _ _ _|.it j _ _|.eq j _|.elm _ j _|.kn _ j _ _ _ _ _=>j
 | .gone=>0
def Row.cC:Row->Bool
 | .sli ..|.elm ..|.eq ..|.kn ..|.gone=>true
 |_=>false
theorem Row.aiH{T:aA}{r:Row}(h:r.cC=true):(r.item ρ T).cC=true:=by cases r <;> first|rfl|cases h
theorem fe{T:aA}{G:List Row}{i:Nat}{r:Row}(h:G[i]? =some r):(ab ρ T G++Φ)[i]? =some (r.item ρ T):=by have a:i<G.length:=(List.getElem?_eq_some_iff.1 h).1;rw [b7 (by simpa [ab] using a)];simp [ab,h]
theorem Xv{T:aA}{G H:List Row}{i:Nat}{r:Row}(h:H[i]? =some r):(ab ρ T G++(ab ρ T H++Φ))[G.length+i]? =some (r.item ρ T):=by
 rw [bZ (by simp [ab])];have:G.length+i-(ab ρ T G).length=i:=by simp [ab]
 rw [this];exact fe h
inductive Src where
 |top (i:Nat)
 |cn (i:Nat)
 |nilI (t:Ty)
 |nilO (t:Ty) (e:TypeId)
 |nilM (k v:Ty)
def dF(G H:List Row)(p:Row->Bool):Option (Src×Row):=match lQ p G with
 |some x=>some (.top x.1,x.2)
 |none=>match lQ p H with
  |some x=>some (.cn x.1,x.2)
  |none=>none
def Src.at_(G H:List Row):Src->Row->Prop
 | .top i,r=>G[i]? =some r
 | .cn i,r=>H[i]? =some r
 |_,_=>False
theorem bU{p:Row->Bool}{G H:List Row}{s:Src}{r:Row}(h:dF G H p=some (s,r)):s.at_ G H r/\p r=true:=by
 unfold dF at h;split at h
 next x hx=>cases h;exact kC hx
 .split at h
  next x hx=>cases h;exact kC hx
  .cases h
theorem Src.item{T:aA}{G H:List Row}{s:Src}{r:Row}(h:s.at_ G H r):∃i:Nat,(ab ρ T G++(ab ρ T H++Φ))[i]? =some (r.item ρ T):=by
 cases s with
 |top i=>exact ⟨i,fe h⟩
 |cn i=>exact ⟨G.length+i,Xv h⟩
 |nilI=>exact h.elim
 |nilO=>exact h.elim
 |nilM=>exact h.elim
theorem Src.holds{T:aA}{G H:List Row}{s:Src}{r:Row}(a:Sat (ab ρ T G++(ab ρ T H++Φ)) w)(h:s.at_ G H r):(r.item ρ T).P (Ctx.M (ab ρ T G++(ab ρ T H++Φ))) w:=by obtain ⟨i,hi⟩:=Src.item (ρ:=ρ) (T:=T) (Φ:=Φ) h;exact a.at_ hi
def sb(n:Nat):x3->Bool
 |[]=>false
 |m::l=>Nat.beq n m||sb n l
theorem abX{n:Nat}:{l:x3}->(sb n l=true↔n∈l)
 |[]=>by simp [sb]
 |m::l=>by simp only [sb,cp,qx];rw [abX,Nat.beq_eq]
variable {cv : vc × AV}
structure Xe where
 f:FuncId
 run:{R:Type}->List AV->List Row->aB->(AV->aB->Option R)->Option R
def Xe.Ok(P:Program)(i:Xe):Prop:=Enters P i.f/\∀{R:Type} (r:R) (args:List AV) (H:List Row) (st:aB) (K:AV->aB->Option R) (ρ:ax) (Φ:Ctx) (w:World),Sat (ab ρ [] st.G++(ab ρ [] H++Φ)) w->
 i.run args H st K=some r->fk P i.f (AV.ao ρ args) w λv w'=>∃(ρ':ax) (st':aB) (av:AV),K av st'=some r/\aT st.c ρ ρ'/\st.c<=st'.c/\av.val ρ'=v/\Sat (ab ρ' [] st'.G++(ab ρ' [] H++Φ)) w'
structure Cx where
 P:Program
 tys:List (TypeId×Ty)
 gls:List (Nat×Nat×bX)
 ids:List FuncId
 idsOk:∀f,f∈ids->aj7 P f
 fl:Nat
 ks:List TypeId
 inl:List Xe
 inlOk:∀i,i∈inl->i.Ok P
 oc:List (Nat×Nat):=[]
def yz{α:Type}:List (Nat×α)->Nat->Option α
 |[],_=>none
 |x::l,n=>ay ( Nat.beq x.1 n ) ( some x.2 )<|yz l n
def HI{ρ:Type}(c:vc)(g:vc)(k:Option ρ):Option ρ:=match c with
 |none=>k
 |some c=>match g with
  |none=>aI c k
  |some g=>Dy g c k
theorem oP{ρ:Type}{T:aA}{c:vc}{g:GK}{k:Option ρ}{r:ρ}(h:HI c (g.map λ_=>T.get g) k=some r):(∀b,c=some b->T.get g=true->b=true)/\k=some r:=by
 unfold HI at h;split at h
 .exact ⟨λb hb=>(by cases hb),h⟩
 .split at h
  next a=>obtain ⟨e,d⟩:=dZ h;exact ⟨λb hb _=>(by cases hb;exact e),d⟩
  .rename_i g' a;cases g with
   |none=>cases a
   |some i=>
    simp only [j5,b0] at a;subst a;obtain ⟨e,d⟩:=aiF h;exact ⟨λb hb f=>(by cases hb;exact e f),d⟩
abbrev CV:=Option (vc×AV)
def pv(v:AV):CV:=some (none,v)
def fm(a b:IntKind):Bool:=decide (a=b)
theorem gh{a b:IntKind}(h:fm a b=true):a=b:=by simpa [fm] using h
def agF(k k':IntKind)(m l:Int):BinOp->CV
 | .add=>ay ( fm k k' ) ( pv (.int k (k.wrap (m+l))) ) none
 | .sub=>ay ( fm k k' ) ( pv (.int k (k.wrap (m-l))) ) none
 | .mul=>ay ( fm k k' ) ( pv (.int k (k.wrap (m*l))) ) none
 | .quo=>ay ( fm k k' ) ( some (some (l != 0),.int k (k.wrap (m.tdiv l))) ) none
 | .rem=>ay ( fm k k' ) ( some (some (l != 0),.int k (m.tmod l)) ) none
 | .eql=>ay ( fm k k' ) ( pv (.bool (m==l)) ) none
 | .neq=>ay ( fm k k' ) ( pv (.bool (m != l)) ) none
 | .lss=>ay ( fm k k' ) ( pv (.bool (decide (m<l))) ) none
 | .leq=>ay ( fm k k' ) ( pv (.bool (decide (m<=l))) ) none
 | .gtr=>ay ( fm k k' ) ( pv (.bool (decide (l<m))) ) none
 | .geq=>ay ( fm k k' ) ( pv (.bool (decide (l<=m))) ) none
 | .shr=>some (some (decide (0<=l)),.int k (nn k m l))
 | .shl=>some (some (decide (0<=l)),.int k (bW k m l))
 | .and=>ay ( fm k k' ) ( pv (.int k (pA k m l)) ) none
 | .or=>ay ( fm k k' ) ( pv (.int k (dP k m l)) ) none
 | .xor=>ay ( fm k k' ) ( pv (.int k (Wy k m l)) ) none
 | .andNot=>ay ( fm k k' ) ( pv (.int k (bI k m l)) ) none
def agT(m l:aF):BinOp->CV
 | .eql=>pv (.bool (m==l))
 | .neq=>pv (.bool (m != l))
 | .add=>some (some (og m l),.str (m++l))
 | .lss=>pv (.bool (Ix m l))
 | .leq=>pv (.bool (Ix m l||m==l))
 | .gtr=>pv (.bool (!(Ix m l||m==l)))
 | .geq=>pv (.bool (!(Ix m l)))
 |_=>none
def ahZ(m l:Bool):BinOp->CV
 | .eql=>pv (.bool (m==l))
 | .neq=>pv (.bool (m != l))
 |_=>none
def Xp(P:Program)(t:TypeId):Option IntKind:=match P.underlying t with
 |some (.int k)=>some k
 |_=>none
theorem Gk{P:Program}{t:TypeId}{k:IntKind}(h:Xp P t=some k):P.underlying t=some (.int k):=by
 unfold Xp at h;split at h
 next b a=>cases h;exact a
 .cases h
def isStr(P:Program)(t:TypeId):Bool:=match P.underlying t with
 |some .string=>true
 |_=>false
theorem nT{P:Program}{t:TypeId}(h:isStr P t=true):P.underlying t=some .string:=by
 unfold isStr at h;split at h
 .assumption
 .cases h
def isBool(P:Program)(t:TypeId):Bool:=match P.underlying t with
 |some .bool=>true
 |_=>false
theorem W0{P:Program}{t:TypeId}(h:isBool P t=true):P.underlying t=some .bool:=by
 unfold isBool at h;split at h
 .assumption
 .cases h
def ajv(P:Program)(t:TypeId):Bool:=match P.underlying t with
 |some _=>true
 |none=>false
theorem an8{P:Program}{t:TypeId}(h:ajv P t=true):∃d,P.underlying t=some d:=by
 unfold ajv at h;split at h
 next d hd=>exact ⟨d,hd⟩
 .cases h
def agV(P:Program)(t:TypeId)(op:BinOp):AV->AV->CV
 | .int k m,.int k' l=>agF k k' m l op
 | .str m,.str l=>agT m l op
 | .bool m,.bool l=>ay ( isBool P t ) ( ahZ m l op ) none
 |_,_=>none
def ak4:UnOp->AV->CV
 | .not,.bool b=>pv (.bool (!b))
 | .neg,.int k m=>pv (.int k (k.wrap (0-m)))
 |_,_=>none
def amd:AV->Bool
 | .ptr _ _|.adr _ _|.fn _ _ _=>true
 |_=>false
def ln(P:Program)(Ev:Env)(ρ:ax)(g:Bool)(o:Oper)(w:World)(cv:vc×AV):Prop:=
 (∀b,cv.1=some b->g=true->b=true)->bg P Ev g o w (cv.2.val ρ)
section
variable {P : Program} {ρ : ax} {g : Bool} {w : World} {dst : w4} {ty : TypeId} {pos : String} {af : xa} {gd : ti} {Ev : Env}
theorem ln.pv{o:Oper}{v:AV}(h:pv v=some cv)(a:bg P Ev g o w (v.val ρ)):ln P Ev ρ g o w cv:=by cases h;exact λ_=>a
theorem aiv{t:TypeId}{op:BinOp}{k e:IntKind}{m l:Int}(hx:ar Ev g x (.int k m))(c:ar Ev g y (.int e l))(h:agF k e m l op=some cv):
  ln P Ev ρ g ⟨dst,.binOp op t x y t',ty,pos,af,gd⟩ w cv:=by
 have key:∀{a:CV},ay (fm k e) a none=some cv->k=e/\a=some cv:=λh=>⟨gh (aG h).1,(aG h).2⟩;cases op <;> simp only [agF] at h
 case shr=>cases h;exact λhc=>anT hx c (λd=>hc _ rfl d)
 case shl=>cases h;exact λhc=>amZ hx c (λd=>hc _ rfl d)
 case quo=>
  obtain ⟨rfl,b⟩:=key h;cases b;exact λhc n a f d=>ank hx c (by have:=hc _ rfl d;simpa using this) n a f d
 case rem=>
  obtain ⟨rfl,b⟩:=key h;cases b;exact λhc n a f d=>an1 hx c (by have:=hc _ rfl d;simpa using this) n a f d
 case add=>obtain ⟨rfl,b⟩:=key h;exact .pv b (sA hx c)
 case sub=>obtain ⟨rfl,b⟩:=key h;exact .pv b (aeD hx c)
 case mul=>obtain ⟨rfl,b⟩:=key h;exact .pv b (anw hx c)
 case eql=>obtain ⟨rfl,b⟩:=key h;exact .pv b (o8 hx c)
 case neq=>obtain ⟨rfl,b⟩:=key h;exact .pv b (anK hx c)
 case lss=>obtain ⟨rfl,b⟩:=key h;exact .pv b (aeJ hx c)
 case leq=>obtain ⟨rfl,b⟩:=key h;exact .pv b (anh hx c)
 case gtr=>obtain ⟨rfl,b⟩:=key h;exact .pv b (Wh hx c)
 case geq=>obtain ⟨rfl,b⟩:=key h;exact .pv b (am6 hx c)
 case and=>obtain ⟨rfl,b⟩:=key h;exact .pv b (alS hx c)
 case or=>obtain ⟨rfl,b⟩:=key h;exact .pv b (ane hx c)
 case xor=>obtain ⟨rfl,b⟩:=key h;exact .pv b (ajR hx c)
 case andNot=>obtain ⟨rfl,b⟩:=key h;exact .pv b (adB hx c)
theorem air{t:TypeId}{op:BinOp}{m l:aF}(hx:ar Ev g x (S m))(a:ar Ev g y (S l))(h:agT m l op=some cv):
  ln P Ev ρ g ⟨dst,.binOp op t x y t',ty,pos,af,gd⟩ w cv:=by
 unfold agT at h;split at h
 .exact .pv h (anc hx a)
 .exact .pv h (anx hx a)
 .cases h;exact λhc=>anM hx a (λb=>hc _ rfl b)
 .exact .pv h (an2 hx a)
 .exact .pv h (anO hx a)
 .exact .pv h (amJ hx a)
 .exact .pv h (anl hx a)
 .cases h
theorem aiy{t:TypeId}{op:BinOp}{a b:AV}(hx:ar Ev g x (a.val ρ))(c:ar Ev g y (b.val ρ))(h:agV P t op a b=some cv):
  ln P Ev ρ g ⟨dst,.binOp op t x y t',ty,pos,af,gd⟩ w cv:=by
 unfold agV at h;split at h
 .simp only [AV.val] at hx c;exact aiv hx c h
 .simp only [AV.val] at hx c;exact air hx c h
 .simp only [AV.val] at hx c;obtain ⟨e,d⟩:=aG h;unfold ahZ at d;split at d
  .exact .pv d (amR (W0 e) hx c)
  .exact .pv d (am9 (W0 e) hx c)
  .cases d
 .cases h
theorem akq{t:TypeId}{op:UnOp}{u:AV}(hx:ar Ev g x (u.val ρ))(h:ak4 op u=some cv):
  ln P Ev ρ g ⟨dst,.unOp op t x,ty,pos,af,gd⟩ w cv:=by
 unfold ak4 at h;split at h
 .simp only [AV.val] at hx;exact .pv h (acr hx)
 .simp only [AV.val] at hx;exact .pv h (am0 hx)
 .cases h
theorem aji{v:AV}(hx:ar Ev g x (v.val ρ))(h:amd v=true):bg P Ev g ⟨dst,.nilCheck x,ty,pos,af,gd⟩ w (v.val ρ):=by
 cases v with
 |ptr id off=>simp only [AV.val] at hx ⊢; exact aaG hx
 |adr id off=>simp only [AV.val] at hx ⊢; exact aaG hx
 |fn f a b=>simp only [AV.val] at hx ⊢; exact ajO hx
 |_=>cases h
end
def jD(P:Program)(t:TypeId):Option (Nat×Nat×Value):=match P.info? t with
 |some i=>match i.zero with
  |some z=>some (i.size,i.bytes,z)
  |none=>none
 |none=>none
theorem cD{P:Program}{t:TypeId}{n bytes:Nat}(h:jD P t=some (n,bytes,z)):TI P t n bytes z:=by
 unfold jD at h;split at h
 .rename_i i hi;split at h
  next b a=>cases h;simp [TI,hi,a]
  .cases h
 .cases h
def ag5(P:Program)(t:TypeId)(k:Nat):Option (TypeId×Nat×Nat):=match P.underlying t with
 |some (.struct fs)=>match fs.toList[k]? with
  |some f=>match P.info? f.type with
   |some i=>some (f.type,f.offset,i.size)
   |none=>none
  |none=>none
 |_=>none
theorem aeF{P:Program}{t ft:TypeId}{k off n:Nat}(h:ag5 P t k=some (ft,off,n)):∃a f i,P.underlying t=some (.struct a)/\a[k]? =some f/\f.type=ft/\f.offset=off/\P.info? ft=some i/\i.size=n:=by
 unfold ag5 at h;split at h
 .rename_i a b;split at h
  .rename_i f c;split at h
   next i hi=>cases h;exact ⟨a,f,i,b,by simpa using c,rfl,rfl,hi,rfl⟩
   .cases h
  .cases h
 .cases h
def jG(P:Program)(t:TypeId)(cs:List AV):Option AV:=match P.underlying t with
 |some d=>ay ( iW d ) ( (match jD P t with
   |some x=>ay ( Nat.ble x.1 cs.length ) ( some (.agg (cs.take x.1)) )<|none
   |none=>none)
  )<|cs.head?
 |none=>none
def cU:AV->List AV
 | .agg l=>l
 | .raw v=>v.cells.toList.map iO
 |v=>[v]
def JA:AV->Bool
 | .nv _=>false
 |_=>true
theorem wU{ρ:ax}{v:AV}(h:JA v=true):(v.val ρ).cells=(AV.ao ρ (cU v)).toArray:=by
 cases v <;> simp only [cU,AV.val,AV.ao] <;> try rfl
 .cases h
 .rw [kx]
def sG(vs:List AV)(k:Nat)(us:List AV):List AV:=vs.take k++us++vs.drop (k+us.length)
theorem wq{ρ:ax}{vs us:List AV}{k:Nat}:mH (AV.ao ρ vs) k (AV.ao ρ us)=AV.ao ρ (sG vs k us):=by simp only [mH,sG,cX,AV.jg,AV.gi,AV.bl]
def yF(place:Nat->Option (Nat×Nat)):List (Nat×AV)->List AV->Option (List AV)
 |[],cs=>some cs
 |(i,v)::l,cs=>match place i with
  |some (off,n)=>ay ( JA v&&(Nat.beq (cU v).length n&&Nat.ble (off+n) cs.length) ) ( yF place l (sG cs off (cU v)) )<|none
  |none=>none
theorem Xz{off:Nat}:∀(us:vy) (k:Nat) (cs:vy),off+k+us.length<=cs.length->
  (us.zipIdx k).foldl (λcs (x:Value×Nat)=>cs.setIfInBounds (off+x.2) x.1) cs.toArray=(mH cs (off+k) us).toArray
 |[],k,cs,_=>by simp [mH]
 |u::us,k,cs,h=>by
  simp only [p5] at h;simp only [List.zipIdx_cons,List.foldl_cons,List.setIfInBounds_toArray];rw [Xz us (k+1) (cs.set (off+k) u) (by rw [si];omega)];congr 1;simp only [mH];have a:off+k<cs.length:=by omega
  have c:(cs.set (off+k) u).take (off+(k+1))=cs.take (off+k)++[u]:=by rw [show off+(k+1)=(off+k)+1 from rfl,List.take_add_one,qu a,List.take_set_of_le (bb _)];rfl
  have b:(cs.set (off+k) u).drop (off+(k+1)+us.length)=cs.drop (off+k+(u::us).length):=by rw [List.drop_set_of_lt (by omega)];congr 1;simp only [p5];omega
  rw [c,b];simp
theorem vP{ρ:ax}{a:Nat->Option (Nat×Nat)}:{ps:List (Nat×AV)}->{cs b:List AV}->yF a ps cs=some b->
  Instr.fill a (AV.ao ρ cs).toArray (ps.map λp=>(p.1,p.2.val ρ))=some (AV.ao ρ b).toArray
 |[],cs,b,h=>by cases h;rfl
 |(i,v)::l,cs,b,h=>by
  unfold yF at h;split at h
  .rename_i off n hp;obtain ⟨d,g⟩:=aG h;simp only [ae,Nat.ble_eq] at d;obtain ⟨f,c,k⟩:=d;have c:=ah c;have ih:=vP (ρ:=ρ) g;simp only [cq];unfold Instr.fill;simp only [hp];have e:=wU (ρ:=ρ) f;have j:¬(((v.val ρ).cells.size≠n||decide (off+(v.val ρ).cells.size>(AV.ao ρ cs).toArray.size))=true):=by rw [e];simp only [kj,AV.bl,c];simp;omega
   rw [gR j,e];have:=Xz (off:=off) (AV.ao ρ (cU v)) 0 (AV.ao ρ cs) (by rw [AV.bl,AV.bl];omega);simp only [qh] at this;rw [show (AV.ao ρ (cU v)).toArray.zipIdx=((AV.ao ρ (cU v)).zipIdx 0).toArray from by simp,List.foldl_toArray,this,wq];exact ih
  .cases h
variable {P : Program}
def tf{α β:Type}(f:α->Option β):List α->Option (List β)
 |[]=>some []
 |x::l=>match f x with
  |some y=>match tf f l with
   |some ys=>some (y::ys)
   |none=>none
  |none=>none
theorem Xl{P:Program}{w:World}{α β:Type}{f:α->Sem β}{g:α->Option β}(a:∀x y,g x=some y->(f x).run P w= .ok y w):∀{l:List α} {ys:List β},tf g l=some ys->(l.mapM f).run P w= .ok ys w
 |[],ys,h=>by cases h;simp
 |x::l,ys,h=>by
  unfold tf at h;split at h
  .rename_i y c;split at h
   next zs b=>cases h;rw [List.mapM_cons,Sem.run_bind,a x y c,Result.andThen_ok,Sem.run_bind,Xl a b,Result.andThen_ok,Sem.run_pure]
   .cases h
  .cases h
theorem Ss{w:World}{β:Type}{f:α->Sem β}{g:α->Option β}(a:∀x y,g x=some y->(f x).run P w= .ok y w){l:Array α}{ys:List β}(h:tf g l.toList=some ys):(l.mapM f).run P w= .ok ys.toArray w:=by rw [Array.mapM_eq_mapM_toList,Sem.run_map,Xl a h];rfl
def abi(P:Program)(f:Field):Option (Nat×Nat):=match P.info? f.type with
 |some i=>some (f.offset,i.size)
 |none=>none
def aap(P:Program)(t:TypeId)(ps:List (Nat×AV)):Option (List AV):=match jD P t with
 |some z=>(match P.underlying t with
  |some (.struct fs)=>(match tf (abi P) fs.toList with
   |some pl=>yF (λi=>pl[i]?) ps (z.2.2.cells.toList.map iO)
   |none=>none)
  |some (.array _ e)=>(match P.info? e with
   |some i=>yF (λk=>some (k*i.size,i.size)) ps (z.2.2.cells.toList.map iO)
   |none=>none)
  |_=>none)
 |none=>none
theorem ai7{t:TypeId}{ρ:ax}{w:World}{ps:List (Nat×AV)}{cs:List AV}(h:aap P t ps=some cs):
  (Instr.build t (ps.map λp=>(p.1,p.2.val ρ)).toArray).run P w= .ok (.agg (AV.ao ρ cs).toArray) w:=by
 unfold aap at h;split at h
 .rename_i z m;obtain ⟨size,bytes,z⟩:=z;have j:=cD m;have d:=j.zero w;unfold Instr.build;simp only [Sem.run_bind,d,Result.andThen_ok];split at h
  .rename_i o a;simp only [run_underlying a,Result.andThen_ok];split at h
   .rename_i pl l;have n:(o.mapM λf=>do pure (f.offset,<-sizeOf f.type):Sem (Array (Nat×Nat))).run P w= .ok pl.toArray w:=Ss (g:=abi P) (λf y c=>by
     unfold abi at c;split at c
     next i hi=>cases c;simp [sizeOf,typeInfo,hi]
     .cases c) l
    have b:=vP (ρ:=ρ) h;rw [kx] at b;simp only [Sem.run_bind,n,Result.andThen_ok];have e:(λ(x:Nat)=>pl.toArray[x]?)=λi=>pl[i]? :=by funext i;simp
    rw [e];simp only [Array.toArray_toList] at b;rw [b];rfl
   .cases h
  .rename_i k e a;simp only [run_underlying a,Result.andThen_ok];split at h
   next i hi=>have b:=vP (ρ:=ρ) h;rw [kx] at b;simp only [Array.toArray_toList] at b;simp only [Sem.run_bind,sizeOf,typeInfo,run_program,hi,Result.andThen_ok,Sem.run_pure];rw [b];rfl
   .cases h
  .cases h
 .cases h
theorem Ag{ρ:ax}:∀(a:x3) (vs:List AV),(a.zip vs).map (λp=>(p.1,p.2.val ρ))=a.zip (AV.ao ρ vs)
 |[],_=>by simp
 |_::_,[]=>by simp [AV.ao]
 |i::a,v::vs=>by simp only [List.zip_cons_cons,cq,AV.ao];rw [Ag]
def eD(T:aA)(E F:aE):Prop:= ∀x,x∈T->dy E F x.2.2.1=some (x.2.1,.bool x.2.2.2)/\T.get (some x.1)=(T.get x.2.1&&vC x.1.2 x.2.2.2)
def keyOf(r:Nat)(pol:Bool):aA->Option ((Nat×Bool)×GK×Nat×Bool)
 |[]=>none
 |x::T=>ay ( Nat.beq x.2.2.1 r&&Vf x.1.2 pol ) ( some x )<|keyOf r pol T
theorem Z4{r:Nat}{a:Bool}:{T:aA}->{x:(Nat×Bool)×GK×Nat×Bool}->keyOf r a T=some x->x∈T/\x.2.2.1=r/\x.1.2=a
 |[],x,h=>by cases h
 |y::T,x,h=>by
  unfold keyOf at h;rcases dp h with ⟨c,b⟩|⟨_,b⟩
  .cases b;simp only [ae] at c;exact ⟨bY .., ah c.1,aet c.2⟩
  .obtain ⟨e,d⟩:=Z4 b;exact ⟨aW _ e,d⟩
def amE(T:aA)(E F:aE)(g:GK)(c x:Operand):Option (Bool×Bool):=match bq T E F g x with
 |some (.bool y)=>(match bq T E F g c with
  |some (.bool b)=>some (b,y)
  |_=>none)
 |_=>none
def al7(T:aA)(E F:aE)(g:GK)(pol:Bool)(c x:Operand):Option (Bool×Bool):=match c with
 | .tmp r=>(match keyOf r pol T with
  |some k=>ay ( T.imp g k.2.1 ) ( match bq T E F (some k.1) x with
    |some (.bool y)=>some (k.2.2.2,y)
    |_=>none
   ) none
  |none=>none)
 |_=>none
def Zt(T:aA)(E F:aE)(g:GK)(pol:Bool)(c x:Operand):Option (Bool×Bool):=match amE T E F g c x with
 |some y=>some y
 |none=>al7 T E F g pol c x
theorem ZK{ρ:ax}{T:aA}{E F:aE}{g:GK}{i b y:Bool}{c:Operand}(D:eD T E F)(h:Zt T E F g i c x=some (b,y)):
  ar (au ρ T E F) (T.get g) c (.bool b)/\ar (au ρ T E F) (T.get g&&vC i b) x (.bool y):=by
 have f:∀{p q:Bool} {u:Value},ar (au ρ T E F) p x u->ar (au ρ T E F) (p&&q) x u:=λh n a m j=>h n a m (ae _ _▸j).1;unfold Zt at h;split at h
 .rename_i z d;cases h;unfold amE at d;split at d
  .rename_i t hx;split at d
   next G hc=>cases d;have l:=aR (ρ:=ρ) hx;have e:=aR (ρ:=ρ) hc;simp only [AV.val] at l e;exact ⟨e,f l⟩
   .cases d
  .cases d
 .unfold al7 at h;split at h
  .rename_i r;split at h
   .rename_i k C;obtain ⟨l,e⟩:=aG h;split at e
    next t hx=>cases e;obtain ⟨B,A,w⟩:=Z4 C;obtain ⟨o,v⟩:=D _ B;have s:=aR (ρ:=ρ) hx;simp only [AV.val] at s;rw [A] at o;refine ⟨ar.g (g':=T.get k.2.1) (by rw [fG,o];simp [AV.val]) (aA.jv l),λn a m j=>s n a m ?_⟩;rw [v,w];simp only [ae] at j ⊢;exact ⟨aA.jv l j.1,j.2⟩
    .cases e
   .cases h
  .cases h
def isF:Operand->Bool
 | .const (.bool b)=> !b
 |_=>false
def akp:Operand->Bool
 | .const (.bool b)=>b
 |_=>false
theorem aoZ(h:isF x=true):x= .const (.bool false):=by
 unfold isF at h;split at h
 .rename_i b;cases b
  .rfl
  .cases h
 .cases h
theorem amF(h:akp x=true):x= .const (.bool true):=by
 unfold akp at h;split at h
 .rename_i b;cases b
  .cases h
  .rfl
 .cases h
def Md(P:Program)(t:TypeId):Bool:=match P.underlying t with
 |some d=> !(fF d)
 |none=>false
theorem Rc{t:TypeId}(h:Md P t=true):∃d,P.underlying t=some d/\fF d=false:=by
 unfold Md at h;split at h
 next d hd=>exact ⟨d,hd,by simpa using h⟩
 .cases h
def loA(T:aA)(E F:aE)(g:GK):Option Operand->vJ
 |none=>some 0
 |some y=>match bq T E F g y with
  |some (.int _ i)=>some i
  |_=>none
def hiA(T:aA)(E F:aE)(g:GK):Option Operand->Option vJ
 |none=>some none
 |some y=>match bq T E F g y with
  |some (.int _ i)=>some (some i)
  |_=>none
theorem Ku{ρ:ax}{T:aA}{E F:aE}{g:GK}{lo:Option Operand}{i:Int}(h:loA T E F g lo=some i):(match (motive:=Option Operand->Prop) lo with|none=>i=0|some y=>∃k,ar (au ρ T E F) (T.get g) y (.int k i)):=by
 cases lo with
 |none=>cases h;rfl
 |some y=>
  unfold loA at h;dsimp only at h;split at h
  next k j a=>cases h;have:=aR (ρ:=ρ) a;simp only [AV.val] at this;exact ⟨k,this⟩
  .cases h
theorem Ue{ρ:ax}{T:aA}{E F:aE}{g:GK}{hi:Option Operand}{j:vJ}{len:Nat}(h:hiA T E F g hi=some j):(match (motive:=Option Operand->Prop) hi with|none=>(j.getD (len:Int))=(len:Int)|some y=>∃k,ar (au ρ T E F) (T.get g) y (.int k (j.getD (len:Int)))):=by
 cases hi with
 |none=>cases h;rfl
 |some y=>
  unfold hiA at h;dsimp only at h;split at h
  next k j a=>cases h;have:=aR (ρ:=ρ) a;simp only [AV.val] at this;exact ⟨k,this⟩
  .cases h
def aaB(X:Cx)(T:aA)(E F:aE)(g:GK)(c:Callee)(xs:vb)(ts:List TypeId):CV:=match c,xs,ts with
 | .builtin .len,[x],[t]=>ay ( isStr X.P t ) ( (match bq T E F g x with
   |some (.str l)=>pv (.int .i64 (l.length:Int))
   |_=>none)
  ) none
 | .builtin .max,[x,y],[_,_]=>(match bq T E F g x,bq T E F g y with
  |some (.int k m),some (.int k' l)=>ay ( fm k k' ) ( pv (.int k (max m l)) ) none
  |_,_=>none)
 | .builtin .min,[x,y],[_,_]=>(match bq T E F g x,bq T E F g y with
  |some (.int k m),some (.int k' l)=>ay ( fm k k' ) ( pv (.int k (min m l)) ) none
  |_,_=>none)
 |_,_,_=>none
def akL(X:Cx)(T:aA)(E F:aE)(g:GK):Op->CV
 | .move x=>(match bq T E F g x with
  |some v=>pv v
  |none=>none)
 | .assign x=>(match bq T E F g x with
  |some v=>pv v
  |none=>none)
 | .pick c a b=>ay ( isF b ) ( (match Zt T E F g true c a with
   |some y=>pv (.bool (y.1&&y.2))
   |none=>none)
  )<|ay ( akp a ) ( (match Zt T E F g false c b with
   |some y=>pv (.bool (y.1||y.2))
   |none=>none)
  ) none
 | .nilCheck x=>(match bq T E F g x with
  |some v=>ay ( amd v ) ( pv v ) none
  |none=>none)
 | .extract x i=>(match bq T E F g x with
  |some (.tuple l)=>(match l[i]? with
   |some v=>pv v
   |none=>none)
  |_=>none)
 | .unOp op _ x=>(match bq T E F g x with
  |some v=>ak4 op v
  |none=>none)
 | .binOp op t x y _=>(match bq T E F g x with
  |some u=>(match bq T E F g y with
   |some v=>agV X.P t op u v
   |none=>none)
  |none=>none)
 | .convert s d x=>(match bq T E F g x with
  |some (.int _ m)=>ay ( ajv X.P s ) (match Xp X.P d with
   |some k=>pv (.int k (k.wrap m))
   |none=>none) none
  |_=>none)
 | .index t x y=>ay ( isStr X.P t ) ( (match bq T E F g x,bq T E F g y with
   |some (.str l),some (.int _ i)=>some (some (wC i l.length),.int .u8 (iH l i))
   |_,_=>none)
  ) none
 | .slice t x lo hi none=>ay ( isStr X.P t ) ( (match bq T E F g x with
   |some (.str l)=>(match loA T E F g lo with
    |some i=>(match hiA T E F g hi with
     |some j=>some (some (dn i (j.getD (l.length:Int)) l.length),.str (cut l i (j.getD (l.length:Int))))
     |none=>none)
    |none=>none)
   |_=>none)
  ) none
 | .field t x k=>(match bq T E F g x with
  |some (.agg cs)=>(match ag5 X.P t k with
   |some f=>(match jG X.P f.1 (cs.drop f.2.1) with
    |some v=>pv v
    |none=>none)
   |none=>none)
  |_=>none)
 | .fieldAddr t x k=>(match ag5 X.P t k with
  |some f=>ay ( Nat.beq f.2.2 0 ) none (match bq T E F g x with
   |some (.ptr id o)=>pv (.ptr id (o+f.2.1))
   |some (.adr id o)=>pv (.adr id (o+f.2.1))
   |_=>none)
  |none=>none)
 | .build t ps=>(match od T E F g (ps.toList.map (·.2)) with
  |some vs=>(match aap X.P t ((ps.toList.map (·.1)).zip vs) with
   |some cs=>pv (.agg cs)
   |none=>none)
  |none=>none)
 | .makeFunc (.func f) a b=>(match od T E F g a.toList with
  |some us=>(match od T E F g b.toList with
   |some vs=>pv (.fn f us vs)
   |none=>none)
  |none=>none)
 | .makeInterface t x=>(match bq T E F g x with
  |some v=>ay ( Md X.P t ) ( pv (.ifc t v) ) none
  |none=>none)
 | .typeAssert x _ t false=>(match bq T E F g x with
  |some (.ifc t' v)=>ay ( Nat.beq t t'&&Md X.P t ) ( pv v ) none
  |_=>none)
 | .call c=>aaB X T E F g c.callee c.args.toList c.argTypes.toList
 |_=>none
theorem add_plain{o k:Nat}:(⟨b,o,none⟩:Addr).add k=⟨b,o+k,none⟩:=by
 unfold Addr.add;split
 next h=>subst h;rfl
 .rfl
theorem add_add{a:Addr}{j k:Nat}:(a.add j).add k=a.add (j+k):=by
 by_cases c:j=0
 .subst c;have:a.add 0=a:=by simp [Addr.add]
  rw [this,ec]
 .by_cases b:k=0
  .subst b;simp [Addr.add]
  .simp [Addr.add,c,b,qo]
theorem akZ{l:List α}{v:α}(h:l.head? =some v):l[0]? =some v:=by
 cases l with
 |nil=>simp at h
 |cons a l=>simpa using h
section
variable {X : Cx} {ρ : ax} {T : aA} {E F : aE} {g : GK} {w : World} {dst : w4} {ty : TypeId} {pos : String} {af : xa} {gd : ti}
theorem mm{t:TypeId}{off:Nat}{cs:List AV}{v:AV}(h:jG X.P t (cs.drop off)=some v):∃d n bytes z,X.P.underlying t=some d/\(iW d=true->TI X.P t n bytes z)/\
  (if iW d then some (.agg (((AV.ao ρ cs).drop off).take n).toArray) else (AV.ao ρ cs)[off]?)=some (v.val ρ):=by
 unfold jG at h;split at h
 .rename_i d hd;rcases dp h with ⟨b,a⟩|⟨b,a⟩
  .split at a
   next x hx=>obtain ⟨n,bytes,z⟩:=x;obtain ⟨c,e⟩:=aG a;cases e;refine ⟨d,n,bytes,z,hd,λ_=>cD hx,?_⟩;rw [j6 b];simp only [AV.val,AV.jg,AV.gi]
   .cases a
  .refine ⟨d,0,0,.bool false,hd,(λh=>by rw [b] at h;cases h),?_⟩;rw [gR (by rw [b];simp)];have c:=AV.aat (ρ:=ρ) (akZ a);rw [AV.gi,et] at c;simpa using c
 .cases h
theorem age{c:Callee}{xs:Array Operand}{j:Array TypeId}(h:aaB X T E F g c xs.toList j.toList=some cv):
  ln X.P (au ρ T E F) ρ (T.get g) ⟨dst,.call ⟨c,xs,j⟩,ty,pos,af,gd⟩ w cv:=by
 obtain ⟨xs⟩:=xs;obtain ⟨j⟩:=j;unfold aaB at h;split at h
 .rename_i x t b a;simp only at b a;subst b;subst a;obtain ⟨i,d⟩:=aG h;split at d
  next l hx=>have:=aR (ρ:=ρ) hx;simp only [AV.val] at this;exact .pv d (akl (nT i) this)
  .cases d
 .rename_i x y t t' b a;simp only at b a;subst b;subst a;split at h
  next k m o l hx n=>obtain ⟨i,d⟩:=aG h;have:=gh i;subst this;have f:=aR (ρ:=ρ) hx;have e:=aR (ρ:=ρ) n;simp only [AV.val] at f e;exact .pv d (ajZ f e (ak8 _ _ _ _ _))
  .cases h
 .rename_i x y t t' b a;simp only at b a;subst b;subst a;split at h
  next k m o l hx n=>obtain ⟨i,d⟩:=aG h;have:=gh i;subst this;have f:=aR (ρ:=ρ) hx;have e:=aR (ρ:=ρ) n;simp only [AV.val] at f e;exact .pv d (ako f e (ak0 _ _ _ _ _))
  .cases h
 .cases h
theorem akc{op:Op}(Q:eD T E F)(h:akL X T E F g op=some cv):
  ln X.P (au ρ T E F) ρ (T.get g) ⟨dst,op,ty,pos,af,gd⟩ w cv:=by
 unfold akL at h;split at h
 .split at h
  next v hv=>exact .pv h (aL (aR hv))
  .cases h
 .split at h
  next v hv=>exact .pv h (cI (aR hv))
  .cases h
 .rename_i c a b;rcases dp h with ⟨r,p⟩|⟨_,p⟩
  .have:=aoZ r;subst this;split at p
   next y B=>obtain ⟨x,s⟩:=ZK (ρ:=ρ) (b:=y.1) (y:=y.2) Q B;exact .pv p (anz x (by simpa [vC] using s))
   .cases p
  .obtain ⟨r,p⟩:=aG p;have:=amF r;subst this;split at p
   next y B=>obtain ⟨x,s⟩:=ZK (ρ:=ρ) (b:=y.1) (y:=y.2) Q B;exact .pv p (aoU x (by simpa [vC] using s))
   .cases p
 .split at h
  next v hv=>obtain ⟨r,p⟩:=aG h;exact .pv p (aji (aR hv) r)
  .cases h
 .split at h
  .rename_i l hv;split at h
   next v W=>have q:=aR (ρ:=ρ) hv;simp only [AV.val] at q;exact .pv h (ado q (AV.aat W))
   .cases h
  .cases h
 .split at h
  next v hv=>exact akq (aR hv) h
  .cases h
 .split at h
  .rename_i u V;split at h
   next v hv=>exact aiy (aR V) (aR hv) h
   .cases h
  .cases h
 .split at h
  .rename_i k' m hx;obtain ⟨r,p⟩:=aG h;obtain ⟨ds,L⟩:=an8 r;split at p
   next k Y=>have q:=aR (ρ:=ρ) hx;simp only [AV.val] at q;exact .pv p (aaP L (Gk Y) q)
   .cases p
  .cases h
 .obtain ⟨r,p⟩:=aG h;split at p
  next l k i hx B=>have q:=aR (ρ:=ρ) hx;have R:=aR (ρ:=ρ) B;simp only [AV.val] at q R;cases p;exact λhc=>akk (nT r) q R (λC=>hc _ rfl C)
  .cases p
 .obtain ⟨r,p⟩:=aG h;split at p
  .rename_i l hx;split at p
   .rename_i i hi;split at p
    next j Z=>have q:=aR (ρ:=ρ) hx;simp only [AV.val] at q;cases p;exact λhc=>alM (nT r) q (Ku hi) (Ue Z) (λC=>hc _ rfl C)
    .cases p
   .cases p
  .cases p
 .split at h
  .rename_i cs hx;split at h
   .rename_i f G;obtain ⟨ft,off,n⟩:=f;split at h
    .rename_i v hv;obtain ⟨S,f,i,x,s,I,H,O,N⟩:=aeF G;obtain ⟨d,n',bytes,z,c1,c2,J⟩:=mm (ρ:=ρ) hv;have q:=aR (ρ:=ρ) hx;simp only [AV.val] at q;cases hd:iW d
     .refine .pv h (λU a G C=>?_);have h5:=q U a G C;rw [hd] at J;simp only [mo,qA] at J;have hp:=afU (P:=X.P) (w:=w) c1 hd J;subst I;subst H;simp only [execOp,h5,Instr.field,Sem.run_bind,run_underlying x,Result.andThen_ok,s,asAgg,Sem.run_pure,hp]
     .exact .pv h (ah9 x s I H c1 (c2 hd) q J)
    .cases h
   .cases h
  .cases h
 .split at h
  .rename_i f G;obtain ⟨ft,off,n⟩:=f;obtain ⟨S,f,i,x,s,I,H,O,N⟩:=aeF G;obtain ⟨r,p⟩:=Mc h;have D:aek X.P _ _ off:=⟨S,f,i,x,s,H,by rw [I];exact O,by rw [N];exact Nat.ne_of_beq_eq_false r⟩;split at p
   next id o hx=>have q:=aR (ρ:=ρ) hx;simp only [AV.val] at q;refine .pv p ?_;simp only [AV.val];have:=Iz (dst:=dst) (ty:=ty) (pos:=pos) (af:=af) (gd:=gd) (w:=w) D q;rwa [add_plain] at this
   next id o hx=>have q:=aR (ρ:=ρ) hx;simp only [AV.val] at q;refine .pv p ?_;simp only [AV.val];have:=Iz (dst:=dst) (ty:=ty) (pos:=pos) (af:=af) (gd:=gd) (w:=w) D q;rwa [add_add] at this
   .cases p
  .cases h
 .rename_i t ps;split at h
  .rename_i vs A;split at h
   .rename_i cs M;refine .pv h ?_;simp only [AV.val];have q:=fK (ρ:=ρ) A;have:=ah0 (P:=X.P) (w:=w) (dst:=dst) (ty:=ty) (pos:=pos) (af:=af) (gd:=gd) (t:=t) (v:= .agg (AV.ao ρ cs).toArray) q (λw=>by rw [<-Ag];exact ai7 M)
    simpa using this
   .cases h
  .cases h
 .rename_i f a b;split at h
  .rename_i us K;split at h
   next vs A=>refine .pv h ?_;simp only [AV.val];have:=KZ (P:=X.P) (w:=w) (dst:=dst) (ty:=ty) (pos:=pos) (af:=af) (gd:=gd) (fn:= .func f) (fK (ρ:=ρ) K) (fK (ρ:=ρ) A);simpa using this
   .cases h
  .cases h
 .split at h
  next v hv=>obtain ⟨r,p⟩:=aG h;obtain ⟨d,x,s⟩:=Rc r;refine .pv p ?_;simp only [AV.val];exact adD x s (aR hv)
  .cases h
 .split at h
  next t' v hv=>obtain ⟨r,p⟩:=aG h;simp only [ae] at r;obtain ⟨d,x,s⟩:=Rc r.2;have q:=aR (ρ:=ρ) hv;simp only [AV.val] at q;have e:=ah r.1;subst e;exact .pv p (adO x s q)
  .cases h
 .exact age h
 .cases h
end
def rD(G H:List Row):AV->AV
 | .nv u=>(match dF G H (isEq u) with
  |some (_,.eq _ v)=>v
  |_=> .nv u)
 |v=>v
theorem Qi{ρ:ax}{T:aA}{G H:List Row}{Φ:Ctx}{w:World}(a:Sat (ab ρ T G++(ab ρ T H++Φ)) w){v:AV}:(rD G H v).val ρ=v.val ρ:=by
 unfold rD;split
 .rename_i u;split
  next s j e h=>obtain ⟨d,c⟩:=bU h;have b:=Src.holds a d;have:j=u:=ah c;subst this;simp only [AV.val];exact b.symm
  .rfl
 .rfl
theorem Lc{ρ:ax}{T:aA}{G H:List Row}{Φ:Ctx}{w:World}(a:Sat (ab ρ T G++(ab ρ T H++Φ)) w):(l:List AV)->AV.ao ρ (l.map (rD G H))=AV.ao ρ l
 |[]=>rfl
 |v::l=>by simp only [cq,AV.ao];rw [Qi a,Lc a l]
def Sv:Ty->Bool
 | .i _|.bo|.s|.un|.n=>true
 | .p x y=>Sv x&&Sv y
 |_=>false
def wy:(t:Ty)->t.T->List AV
 | .i k,x=>[.int k x]
 | .bo,x=>[.bool x]
 | .s,x=>[.str x]
 | .n,x=>[.ifc x (.agg [])]
 | .p a b,x=>wy a x.1++wy b x.2
 |_,_=>[]
theorem Qf{ρ:ax}{M:Nat->Prop}{w:World}:(t:Ty)->(x:t.T)->(vs:vy)->Sv t=true->t.rep.rd M w vs x->vs=AV.ao ρ (wy t x)
 | .i k,x,vs,_,h=>by simp only [wy,AV.ao,AV.val];exact h
 | .bo,x,vs,_,h=>by simp only [wy,AV.ao,AV.val];exact h
 | .s,x,vs,_,h=>by simp only [wy,AV.ao,AV.val];exact h
 | .un,x,vs,_,h=>by simp only [wy,AV.ao];exact h
 | .p a b,x,vs,hf,h=>by
  simp only [Sv,ae] at hf;obtain ⟨us,c,rfl,e,d⟩:=h;rw [wy,cX,<-Qf a x.1 us hf.1 e,<-Qf b x.2 c hf.2 d]
 | .l _,_,_,hf,_=>by cases hf
 | .ex,_,_,hf,_=>by cases hf
 | .n,x,vs,_,h=>by simp only [wy,AV.ao,AV.val];exact h
 | .mp _ _,_,_,hf,_=>by cases hf
def acG(T:aA)(G H:List Row)(g:GK)(q off:Nat):Option (List AV):=match dF G H (P9 q) with
 |some (_,.kn g' _ id ver u _ x)=>ay ( T.imp g g'&&Sv u ) ( match dF G H (lv id) with
  |some (_,.own _ _ _ _ ver')=>ay ( Nat.beq ver ver' ) ( some ((wy u x).drop off) ) none
  |_=>none ) none
 |_=>none
theorem Mm{t t':Ty}{l:List t.T}{l':List t'.T}{y:bX}(h:y=⟨.l t,l⟩)(a:y=⟨.l t',l'⟩):∃e:t=t',e▸l=l':=by rw [h] at a;cases a;exact ⟨rfl,rfl⟩
theorem ah5{ρ:ax}{T:aA}{G H:List Row}{Φ:Ctx}{w:World}{g:GK}{q off:Nat}{vs:List AV}(o:Sat (ab ρ T G++(ab ρ T H++Φ)) w)(h:acG T G H g q off=some vs)(t:T.get g=true):
  bK w ((ρ q).a.add off) (AV.ao ρ vs):=by
 unfold acG at h;split at h
 .rename_i s g' q' id c u i r v;obtain ⟨m,k⟩:=aG h;simp only [ae] at m;split at k
  next O d u' e l b j=>obtain ⟨z,y⟩:=aG k;cases y;obtain ⟨D,C⟩:=bU v;obtain ⟨B,A⟩:=bU j;have K:q'=q:=ah C;have J:d=id:=ah A;have I:c=b:=ah z;subst K;subst J;subst I;obtain ⟨x,f⟩:=Src.holds o B;obtain ⟨P,N,M,L⟩:=(Src.holds o D) (aA.jv m.1 t);obtain ⟨F,p⟩:=Mm N f;subst F;simp only at p;subst p;obtain ⟨_,us,n,E⟩:=x.atA M;rw [Qf (ρ:=ρ) u r us m.2 E] at n;rw [<-L] at n;refine n.sub _ ?_;rw [AV.gi,ed (bb _)]
  .cases k
 .cases h
def wG(T:aA)(G H:List Row)(g:GK):AV->Option (List AV)
 | .ptr id off=>(match dF G H (wg id) with
  |some (_,.box _ _ vs)=>some ((vs.drop off).map (rD G H))
  |_=>none)
 | .adr id off=>(match dF G H (apr id) with
  |some (_,.elm g' _ vs)=>ay ( T.imp g g' ) ( some (vs.drop off) ) none
  |_=>acG T G H g id off)
 |_=>none
theorem JO{ρ:ax}{T:aA}{G H:List Row}{Φ:Ctx}{w:World}{g:GK}{v:AV}{vs:List AV}(c:Sat (ab ρ T G++(ab ρ T H++Φ)) w)(h:wG T G H g v=some vs)(i:T.get g=true):
  ∃p,v.val ρ= .pointer (some p)/\bK w p (AV.ao ρ vs):=by
 have sub:∀{p:Addr} {us:List AV} {off:Nat},bK w p (AV.ao ρ us)->bK w (p.add off) (AV.ao ρ (us.drop off)):=λh=>by refine h.sub _ ?_;rw [AV.gi,ed (bb _)]
 unfold wG at h;split at h
 .rename_i id off;split at h
  next s j t us d=>cases h;obtain ⟨f,e⟩:=bU d;have:j=id:=ah e;subst this;have hb:eC w (ρ j).b t (AV.ao ρ us):=Src.holds c f;refine ⟨⟨(ρ j).b,off,none⟩,by simp only [AV.val],?_⟩;rw [Lc c,AV.gi];exact hb.part off (by rw [ed (bb _)])
  .cases h
 .rename_i id off;split at h
  next s g' j us d=>obtain ⟨l,k⟩:=aG h;cases k;obtain ⟨f,e⟩:=bU d;have:j=id:=ah e;subst this;have hb:=Src.holds c f;exact ⟨_,by simp only [AV.val],sub (hb (aA.jv l i)).2⟩
  .exact ⟨(ρ id).a.add off,by simp only [AV.val],ah5 c h i⟩
 .cases h
def abY(t:Ty)(v:AV):Option t.T:=match t,v with
 | .i k,.int k' x=>ay ( fm k k' ) ( some x ) none
 | .s,.str x=>some x
 | .bo,.bool x=>some x
 | .p (.i a) (.i b),.agg [.int a' x,.int b' y]=>ay (fm a a'&&fm b b') (some (x,y)) none
 |_,_=>none
theorem VR{ρ:ax}{t:Ty}{v:AV}{x:t.T}(h:abY t v=some x):v.val ρ=EU t x:=by
 unfold abY at h;split at h
 .obtain ⟨a,b⟩:=aG h;have:=gh a;subst this;cases b;simp only [AV.val];rfl
 .cases h;simp only [AV.val];rfl
 .cases h;simp only [AV.val];rfl
 .obtain ⟨a,b⟩:=aG h;simp only [ae] at a;have d:=gh a.1;have c:=gh a.2;subst d;subst c;cases b;simp only [AV.val,AV.ao];rfl
 .cases h
def agX(t:Ty)(x:t.T):AV:=match t,x with
 | .i k,x=> .int k x
 | .s,x=> .str x
 | .bo,x=> .bool x
 | .p (.i a) (.i b),x=> .agg [.int a x.1,.int b x.2]
 |_,_=> .bool false
theorem aeC{ρ:ax}{t:Ty}{x:t.T}:(agX t x).val ρ=EU t x:=by unfold agX EU;split <;> first|(simp only [AV.val];done)|(simp only [AV.val,AV.ao];rfl)
instance keyBEq(t:Ty):BEq t.T:=match t with
 | .i _=>(inferInstance:BEq Int)
 | .s=>(inferInstance:BEq aF)
 | .bo=>(inferInstance:BEq Bool)
 | .p (.i _) (.i _)=>(inferInstance:BEq (Int×Int))
 |_=>⟨λ_ _=>false⟩
def Ty.nQ:(t:Ty)->t.T
 | .i _=>(0:Int)
 | .bo=>false
 | .s=>([]:aF)
 | .un=>()
 | .n=>(0:Nat)
 | .p x y=>(x.nQ,y.nQ)
 | .l x=>([]:List x.T)
 | .mp k v=>(none:Option (List (k.T×v.T)))
 | .ex=>Ex.mk 0 0 0 []
def ahw(P:Program)(kt:TypeId)(k:Ty):Bool:=match k with
 | .i k=>(match Xp P kt with
  |some k'=>fm k k'
  |none=>false)
 | .s=>isStr P kt
 | .p (.i a) (.i b)=>(match P.underlying kt with
  |some (.struct ⟨[f1,f2]⟩)=>(match Xp P f1.type,Xp P f2.type with
   |some a',some b'=>fm a a'&&fm b b'&& !(f1.name== "_")&& !(f2.name== "_")&&Nat.beq f1.offset 0&&Nat.beq f2.offset 1&& !(P.stoodInHeld kt)
   |_,_=>false)
  |_=>false)
 |_=>false
theorem WG{P:Program}{kt:TypeId}{k:Ty}(h:ahw P kt k=true):rS P kt (EU k):=by
 unfold ahw at h;split at h
 .split at h
  next p j=>have:=gh h;subst this;exact rS.int (Gk j)
  .cases h
 .exact rS.str (nT h)
 .split at h
  .rename_i r q i;split at h
   next t s m l=>simp only [ae,de,qC,ne_eq] at h;obtain ⟨⟨⟨⟨⟨⟨g,f⟩,e⟩,d⟩,c⟩,b⟩,a⟩:=h;have o:=gh g;have n:=gh f;subst o;subst n;exact rS.pair i e d (ah c) (ah b) (Gk m) (Gk l) a
   .cases h
  .cases h
 .cases h
def afS(v:Ty)(z:Value):Bool:=match v,z with
 | .i k,.int k' x=>fm k k'&&decide (x=0)
 | .bo,.bool b=> !b
 | .s,.string b=>b.data.toList.isEmpty
 |_,_=>false
theorem ajr{v:Ty}(h:afS v z=true):z=EU v v.nQ:=by
 unfold afS at h;split at h
 .simp only [ae,n7] at h;have:=gh h.1;subst this;rw [h.2];rfl
 .rename_i b;cases b
  .rfl
  .cases h
 .rename_i b;have:b.data.toList=[]:=by simpa using h
  show _=S [];unfold S;rw [<-this]
 .cases h
def WE(P:Program)(t:TypeId):Option (TypeId×TypeId):=match P.underlying t with
 |some (.map k v)=>some (k,v)
 |_=>none
theorem vE{P:Program}{t:TypeId}{p:TypeId×TypeId}(h:WE P t=some p):P.underlying t=some (.map p.1 p.2):=by
 unfold WE at h;split at h
 next k v a=>cases h;exact a
 .cases h
def eP(P:Program)(t:TypeId):Option TypeId:=match P.underlying t with
 |some (.slice e)=>some e
 |_=>none
theorem bT{P:Program}{t:TypeId}(h:eP P t=some e):P.underlying t=some (.slice e):=by
 unfold eP at h;split at h
 next k a=>cases h;exact a
 .cases h
structure SlA where
 g:GK
 t:Ty
 l:List t.T
def Xf(G H:List Row)(id:Nat):Option SlA:=match dF G H (lv id) with
 |some (_,.sli g _ t l _)=>some ⟨g,t,l⟩
 |some (_,.own _ t _ l _)=>some ⟨none,t,l⟩
 |_=>none
theorem acg{ρ:ax}{T:aA}{G H:List Row}{Φ:Ctx}{w:World}{id:Nat}{s:SlA}(f:Sat (ab ρ T G++(ab ρ T H++Φ)) w)(h:Xf G H id=some s)(k:T.get s.g=true):
  (bO s.t.rep (Ctx.M (ab ρ T G++(ab ρ T H++Φ))) w (sl (ρ id).v) s.l)\/∃e,bJ s.t.rep e (Ctx.M (ab ρ T G++(ab ρ T H++Φ))) w (sl (ρ id).v) s.l (sw (ρ id).v):=by
 unfold Xf at h;split at h
 next i g j t l b a=>cases h;obtain ⟨d,c⟩:=bU a;have:j=id:=ah c;subst this;exact .inl ((Src.holds f d) k).1
 next i j t e l ks a=>cases h;obtain ⟨d,c⟩:=bU a;have:j=id:=ah c;subst this;exact .inr ⟨e,(Src.holds f d).1⟩
 .cases h
theorem Wq{ρ:ax}{T:aA}{G H:List Row}{Φ:Ctx}{w:World}{id:Nat}{s:SlA}(a:Sat (ab ρ T G++(ab ρ T H++Φ)) w)(h:Xf G H id=some s)(b:T.get s.g=true):OY (sl (ρ id).v) s.l.length:=by
 rcases acg a h b with h|⟨e,h⟩
 .exact h.len
 .exact h.len
theorem an0{ρ:ax}{T:aA}{G H:List Row}{Φ:Ctx}{w:World}{id:Nat}{s:SlA}(a:Sat (ab ρ T G++(ab ρ T H++Φ)) w)(h:Xf G H id=some s)(b:T.get s.g=true):bO s.t.rep (λ_=>False) w (sl (ρ id).v) s.l:=by
 rcases acg a h b with h|⟨e,h⟩
 .exact h.mv (Mv.weaken w λ_ h=>h.elim)
 .exact h.freeze (λ_ _ h=>h) (Mv.weaken w λ_ h=>h.elim)
def isU8:Ty->Bool
 | .i .u8=>true
 |_=>false
def alU(T:aA)(G H:List Row)(g:GK)(v:AV):Option xg:=match v with
 | .sl id=>(match Xf G H id with
  |some ⟨g',.i .u8,l⟩=>ay ( T.imp g g' ) ( some l ) none
  |_=>none)
 | .raw (.slice none 0 0)=>some []
 |_=>none
theorem am8{ρ:ax}{T:aA}{G H:List Row}{Φ:Ctx}{w:World}{g:GK}{v:AV}{l:xg}(a:Sat (ab ρ T G++(ab ρ T H++Φ)) w)(h:alU T G H g v=some l)(c:T.get g=true):bO (RI .u8) (λ_=>False) w (v.val ρ) l:=by
 unfold alU at h;split at h
 .split at h
  next g' l' b=>obtain ⟨e,d⟩:=aG h;cases d;have:=an0 a b (aA.jv e c);simp only [AV.val];exact this
  .cases h
 .cases h;simp only [AV.val];exact bO.nil
 .cases h
def ZV(X:Cx)(T:aA)(E F:aE)(G H:List Row)(g:GK)(c:Callee)(xs:vb)(ts:List TypeId):CV:=match c,xs,ts with
 | .builtin .len,[x],[t]=>(match eP X.P t with
  |some _=>(match bq T E F g x with
   |some (.sl id)=>(match Xf G H id with
    |some s=>ay ( T.imp g s.g ) ( pv (.int .i64 (s.l.length:Int)) ) none
    |none=>none)
   |some (.raw (.slice none 0 0))=>pv (.int .i64 0)
   |_=>none)
  |none=>none)
 |_,_,_=>none
def afQ(X:Cx)(T:aA)(E F:aE)(G H:List Row)(g:GK)(op:BinOp)(t:TypeId)(x y:Operand):CV:=match WE X.P t with
 |some _=>(match bq T E F g y with
  |some (.raw (.map none))=>(match bq T E F g x with
   |some (.mp id)=>(match dF G H (agf id) with
    |some (_,.mp _ _ _ d)=>(match op with
     | .eql=>pv (.bool (Option.isNone d))
     | .neq=>pv (.bool (!(Option.isNone d)))
     |_=>none)
    |_=>none)
   |some (.raw (.map none))=>(match op with
    | .eql=>pv (.bool true)
    | .neq=>pv (.bool false)
    |_=>none)
   |_=>none)
  |_=>none)
 |none=>none
def alx(X:Cx)(T:aA)(E F:aE)(G H:List Row)(g:GK):Op->CV
 | .load t x=>(match bq T E F g x with
  |some v=>(match wG T G H g v with
   |some cs=>(match jG X.P t cs with
    |some v=>pv v
    |none=>none)
   |none=>none)
  |none=>none)
 | .convert s d x=>ay ( isStr X.P d ) ( (match eP X.P s with
  |some e=>(match Xp X.P e with
   |some .u8=>(match bq T E F g x with
    |some v=>(match alU T G H g v with
     |some l=>pv (.str (strOf l))
     |none=>none)
    |none=>none)
   |_=>none)
  |none=>none) ) none
 | .lookup t x y ok=>(match WE X.P t with
  |some p=>(match bq T E F g x with
   |some (.mp id)=>(match bq T E F g y with
    |some kv=>(match dF G H (agf id) with
     |some (_,.mp _ k v d)=>(match jD X.P p.2 with
      |some z=>ay ( ahw X.P p.1 k&&afS v z.2.2 ) ( (match abY k kv with
       |some key=>ay ( ok ) ( pv (.tuple [agX v (kU d key v.nQ),.bool (QU d key)]) )<|pv (agX v (kU d key v.nQ))
       |none=>none) ) none
      |none=>none)
     |_=>none)
    |none=>none)
   |_=>none)
  |none=>none)
 | .call c=>ZV X T E F G H g c.callee c.args.toList c.argTypes.toList
 | .binOp op t x y _=>afQ X T E F G H g op t x y
 |_=>none
section
variable {X : Cx} {ρ : ax} {T : aA} {E F : aE} {G H : List Row} {Φ : Ctx} {g : GK} {w : World} {dst : w4} {ty : TypeId} {pos : String} {af : xa} {gd : ti}
theorem ahs{P:Program}{Ev:Env}{b:Bool}{o:Oper}(h:b=true->bg P Ev b o w v):bg P Ev b o w v:=λn a d c=>h c n a d c
theorem alC{t:TypeId}{u v:AV}{cs:List AV}(k:Sat (ab ρ T G++(ab ρ T H++Φ)) w)(hx:bq T E F g x=some u)(hc:wG T G H g u=some cs)(h:jG X.P t cs=some v):
  bg X.P (au ρ T E F) (T.get g) ⟨dst,.load t x,ty,pos,af,gd⟩ w (v.val ρ):=ahs λm=>by
 obtain ⟨p,hp,hc⟩:=JO k hc m;have b:=aR (ρ:=ρ) hx;rw [hp] at b;have s:jG X.P t (cs.drop 0)=some v:=by simpa using h
 obtain ⟨d,n,bytes,z,c1,y,c⟩:=mm (ρ:=ρ) s;cases hd:iW d
 .rw [hd] at c;simp only [mo,qA] at c;refine KV c1 hd b (λ_=>?_);have:=hc.sub (us:=[v.val ρ]) 0 (by
   cases e:AV.ao ρ cs with
   |nil=>rw [e] at c;cases c
   |cons a l=>rw [e] at c;cases c;simp)
  simpa [Addr.add] using this
 .unfold jG at h;rw [c1] at h;rcases dp h with ⟨_,f⟩|⟨j,_⟩
  .split at f
   .rename_i q e;obtain ⟨n,bytes,z⟩:=q;obtain ⟨r,o⟩:=aG f;cases o;have i:n<=cs.length:=cb r;simp only [AV.val];refine Kf c1 hd (cD e) b (λ_=>?_) ?_
    .have:=hc.sub (us:=AV.ao ρ (cs.take n)) 0 (by rw [AV.jg,mj,bj,AV.bl,cx i])
     simpa [Addr.add] using this
    .rw [AV.bl,bj,cx i]
   .cases f
  .rw [hd] at j;cases j
theorem afB{c:Callee}{xs:Array Operand}{b:Array TypeId}(k:Sat (ab ρ T G++(ab ρ T H++Φ)) w)(h:ZV X T E F G H g c xs.toList b.toList=some cv):
  ln X.P (au ρ T E F) ρ (T.get g) ⟨dst,.call ⟨c,xs,b⟩,ty,pos,af,gd⟩ w cv:=by
 obtain ⟨xs⟩:=xs;obtain ⟨b⟩:=b;unfold ZV at h;split at h
 .rename_i x t j i;simp only at j i;subst j;subst i;split at h
  .rename_i e f;split at h
   .rename_i id hx;have a:=aR (ρ:=ρ) hx;simp only [AV.val] at a;split at h
    next s d=>obtain ⟨o,m⟩:=aG h;exact .pv m (ahs λl=>CQ (bT f) a (Wq k d (aA.jv o l)))
    .cases h
   next hx=>have a:=aR (ρ:=ρ) hx;simp only [AV.val] at a;exact .pv h (CQ (n:=0) (bT f) a ⟨_,_,rfl⟩)
   .cases h
  .cases h
 .cases h
theorem ahU{op:BinOp}{t:TypeId}(e:Sat (ab ρ T G++(ab ρ T H++Φ)) w)(h:afQ X T E F G H g op t x y=some cv):
  ln X.P (au ρ T E F) ρ (T.get g) ⟨dst,.binOp op t x y t',ty,pos,af,gd⟩ w cv:=by
 unfold afQ at h;split at h
 .rename_i p hp;split at h
  .rename_i c;have b:=aR (ρ:=ρ) c;simp only [AV.val] at b;split at h
   .rename_i id hx;have a:=aR (ρ:=ρ) hx;simp only [AV.val] at a;split at h
    .rename_i s j k v d f;obtain ⟨l,i⟩:=bU f;have:j=id:=ah i;subst this;have hb:=Src.holds e l;split at h
     .exact .pv h (Uk (vE hp) a b hb)
     .exact .pv h (Uq (vE hp) a b hb)
     .cases h
    .cases h
   .rename_i hx;have a:=aR (ρ:=ρ) hx;simp only [AV.val] at a;split at h
    .exact .pv h (ac7 (vE hp) a b)
    .exact .pv h (ad9 (vE hp) a b)
    .cases h
   .cases h
  .cases h
 .cases h
theorem akH{op:Op}(f:Sat (ab ρ T G++(ab ρ T H++Φ)) w)(h:alx X T E F G H g op=some cv):
  ln X.P (au ρ T E F) ρ (T.get g) ⟨dst,op,ty,pos,af,gd⟩ w cv:=by
 unfold alx at h;split at h
 .split at h
  .rename_i v hv;split at h
   .rename_i cs o;split at h
    next Q n=>exact .pv h (alC f hv o n)
    .cases h
   .cases h
  .cases h
 .obtain ⟨b,a⟩:=aG h;split at a
  .rename_i e I;split at a
   .rename_i B;split at a
    .rename_i v hv;split at a
     next l A=>refine .pv a (ahs λC=>?_);have m:=aR (ρ:=ρ) hv;simp only [AV.val];exact anL (M:=λ_=>False) (bT I) (Gk B) (nT b) m (λ_=>am8 f A C)
     .cases a
    .cases a
   .cases a
  .cases a
 .rename_i t x y ok;split at h
  .rename_i p hp;split at h
   .rename_i id hx;split at h
    .rename_i R u;split at h
     .rename_i s j k v d D;split at h
      .rename_i z r;obtain ⟨b,a⟩:=aG h;simp only [ae] at b;split at a
       .rename_i key i;obtain ⟨K,J⟩:=bU D;have:j=id:=ah J;subst this;have hb:=Src.holds f K;have m:=aR (ρ:=ρ) hx;have q:=aR (ρ:=ρ) u;simp only [AV.val] at m;rw [VR i] at q;obtain ⟨O,N,L⟩:=z;have c:(zeroValue p.2).run X.P w= .ok (EU v v.nQ) w:=by rw [<-ajr b.2];exact (cD r).zero w
        cases ok
        .refine .pv a ?_;rw [aeC];exact afC (WG b.1) (vE hp) c m q (λ_=>hb)
        .refine .pv a ?_;simp only [AV.val,AV.ao];rw [aeC];exact aaI (WG b.1) (vE hp) c m q (λ_=>hb)
       .cases a
      .cases h
     .cases h
    .cases h
   .cases h
  .cases h
 .exact afB f h
 .exact ahU f h
 .cases h
end
def bE(P:Program)(E:Env)(o:Oper)(w:World)(R:Value->World->Prop):Prop:=
 ∀n a,Fits n E a->(∃v w',(execOp a.eval o).run P w= .ok (.value v) w'/\R v w')\/(∃w',(execOp a.eval o).run P w= .ok .skip w'/\R undef w')\/
  (∃(f:FuncId) (args:vy),(execOp a.eval o).run P w= .ok (.enter f args.toArray) w/\fk P f args w R)
section
variable {P : Program} {σ : v7} {Q : br} {n : Nat} {D : u9} {E : Env} {w : World} {ops : w5} {rest : xc} {o : Oper} {R S : Value -> World -> Prop}
theorem bE.run(h:bg P E true o w v)(k:R v w):bE P E o w R:=λn a b=> .inl ⟨v,w,h n a b rfl,k⟩
theorem bE.lM{w':World}(h:kq P E o w v w')(k:R v w'):bE P E o w R:=λn a b=> .inl ⟨v,w',h n a b,k⟩
theorem bE.afA{w':World}(h:Qd P E o w w')(k:R undef w'):bE P E o w R:=λn a b=> .inr (.inl ⟨w',h n a b,k⟩)
theorem bE.upon(hd:bE P E o w R){a:Act}(e:Fits n E a){b:Act->World->Prop}(h:∀v w',R v w'->b (a.put o.dst v) w'):o.uponIn (FW σ) 0 P a b Q ((execOp a.eval o).run P w):=by
 rcases hd n a e with ⟨v,w',d,c⟩|⟨w',d,c⟩|⟨f,args,d,c⟩
 .rw [d,Oper.uponIn_value];exact h _ _ c
 .rw [d,Oper.uponIn_skip];exact h _ _ c
 .rw [d];exact Ie c (λv w' hv=>h v w' hv) (λ_ _ hv=>hv.elim)
def oR(dst:w4)(g:Bool)(v:Value)(E:Env):Env:=match dst with
 |some d=>(d,g,v)::E
 |none=>E
def Lb(n:Nat):w4->Bool
 |some d=>Nat.blt d n
 |none=>true
theorem Fits.oR{E:Env}{a:Act}(h:Fits n E a){d:w4}{g:Bool}{v:Value}(hd:Lb n d=true):Fits n (oR d g v E) (a.put d (vr g v)):=by
 cases d with
 |none=>exact h
 |some d=>exact h.put hd
theorem anm(hd:bE P E o w R)(hp:ik o=true)(d:o.guard=none)(c:Lb n o.dst=true)
  (h:∀v w',R v w'->WL P σ ops Q n D rest (oR o.dst true v E) w'):WL P σ ops Q n D (o::rest) E w:=λa b f=>
 wpListIn_plain d λK e=>jP hp (hd.upon b λv w' hv=>e _ _ (h v w' hv _ (b.oR c) (by rw [gS];exact f)))
theorem akU{j:Nat}{b:Bool}{rj:Tmp}{m p:Bool}{g:Bool}(hd:g=true->bE P E o w R)(t:g=false->∃v,R v w)(hp:ik o=true)(f:o.guard=some (j,b))(r:(ops[j]?).bind (·.dst)=some rj)
  (q:look E rj=some (m,.bool p)) (e:Nat.blt rj n=true) (s:(m&&(p==b))=g) (i:Lb n o.dst=true)
  (h:∀v w',R v w'->WL P σ ops Q n D rest (oR o.dst g v E) w'):WL P σ ops Q n D (o::rest) E w:=λa c l=>
 wpListIn_step λK k=>by
  rw [CL f r q c e,s];cases g
  .simp only [mo,qA];obtain ⟨v,hv⟩:=t rfl;have:=c.oR (d:=o.dst) (g:=false) (v:=v) i;exact ⟨λ_ _=>trivial,k _ _ (h _ _ hv _ this (by rw [gS];exact l))⟩
  .simp only [qq];exact jP hp ((hd rfl).upon c λv w' hv=>k _ _ (h v w' hv _ (c.oR i) (by rw [gS];exact l)))
end
abbrev cB(R:Type):=aB->Option R
def cr(dst:w4)(g:GK)(v:AV)(E:aE):aE:=match dst with
 |some d=>(d,g,v)::E
 |none=>E
def aV{R:Type}(r:R)(K:cB R)(T:aA)(fr:Fr)(st:aB)(g:GK)(dst:w4)(ρ:ax)(Φ:Ctx)(v:Value)(w':World):Prop:=
 ∃(ρ':ax) (st':aB) (av:AV),K st'=some r/\aT st.c ρ ρ'/\st.c<=st'.c/\st'.E=cr dst g av st.E/\av.val ρ'=v/\au ρ' T st.E fr.F=au ρ T st.E fr.F/\
  ab ρ' T fr.H=ab ρ T fr.H/\Sat (ab ρ' T st'.G++(ab ρ' T fr.H++Φ)) w'
def iy(P:Program)(T:aA)(g:GK)(Ev:Env)(o:Oper)(w:World)(O:Value->World->Prop):Prop:=
 (T.get g=true->bE P Ev o w O)/\(T.get g=false->∃v,O v w)
section
variable {R : Type} {r : R} {K : cB R} {T : aA} {fr : Fr} {st st' : aB} {g : GK} {dst : w4} {ρ ρ' : ax} {Φ : Ctx} {v : Value} {w w' : World}
theorem aB.cz:st.low fr=true↔aE.low st.c st.E=true/\aE.low st.c fr.F=true/\bB st.c st.G=true/\bB st.c fr.H=true:=by simp only [aB.low,ae,and_assoc]
theorem mn(a:st.low fr=true)(ha:aT st.c ρ ρ'):au ρ' T st.E fr.F=au ρ T st.E fr.F:=by obtain ⟨d,b,_,_⟩:=aB.cz.1 a;rw [au,oJ ha d,oJ ha b]
theorem aV.new{av:AV}(a:st.low fr=true)(d:K st'=some r)(ha:aT st.c ρ ρ')(hc:st.c<=st'.c)(f:st'.E=cr dst g av st.E)(hv:av.val ρ'=v)
  (b:Sat (ab ρ' T st'.G++(ab ρ T fr.H++Φ)) w'):aV r K T fr st g dst ρ Φ v w':=by
 have e:=bc (T:=T) ha (aB.cz.1 a).2.2.2;exact ⟨ρ',st',av,d,ha,hc,f,hv,mn a ha,e,by rw [e];exact b⟩
theorem aV.ic{av:AV}(b:K st'=some r)(hc:st.c<=st'.c)(d:st'.E=cr dst g av st.E)(hv:av.val ρ=v)
  (a:Sat (ab ρ T st'.G++(ab ρ T fr.H++Φ)) w'):aV r K T fr st g dst ρ Φ v w':=
 ⟨ρ,st',av,b,.refl,hc,d,hv,rfl,rfl,a⟩
theorem aV.push{av:AV}{x:Nm}{row:Row}(a:st.low fr=true)(b:K { st with c:=st.c+1,E:=cr dst g av st.E,G:=row::st.G }=some r)(hv:av.val (ρ.set st.c x)=v)
  (hs:Sat (row.item (ρ.set st.c x) T::(ab ρ T st.G++(ab ρ T fr.H++Φ))) w'):aV r K T fr st g dst ρ Φ v w':=by
 refine aV.new a b ax.aY (eb _) rfl hv ?_;have e:=bc (T:=T) (ax.aY (ρ:=ρ) (j:=st.c) (x:=x)) (aB.cz.1 a).2.2.1;show Sat (ab (ρ.set st.c x) T (row::st.G)++_) w';rw [ab,cq];rw [ab] at e;rw [e];exact hs
theorem eS{G:List Row}{row:Row}{j:Nat}{Δ:Ctx}(a:j<G.length):ab ρ T (G.set j row)++Δ=(ab ρ T G++Δ).set j (row.item ρ T):=by rw [List.set_append_left _ _ (by simpa [ab] using a)];simp only [ab,List.map_set]
theorem aV.mD{av:AV}{x:Nm}{row:Row}{j:Nat}(a:st.low fr=true)(b:j<st.G.length)(d:K { st with c:=st.c+1,E:=cr dst g av st.E,G:=st.G.set j row }=some r)(hv:av.val (ρ.set st.c x)=v)
  (hs:Sat ((ab ρ T st.G++(ab ρ T fr.H++Φ)).set j (row.item (ρ.set st.c x) T)) w'):aV r K T fr st g dst ρ Φ v w':=by
 refine aV.new a d ax.aY (eb _) rfl hv ?_;have e:=bc (T:=T) (ax.aY (ρ:=ρ) (j:=st.c) (x:=x)) (aB.cz.1 a).2.2.1;show Sat (ab (ρ.set st.c x) T (st.G.set j row)++_) w';rw [eS b,e];exact hs
end
def LC(P:Program)(T:aA)(g:GK)(Ev:Env)(o:Oper)(w:World)(O:Value->World->Prop):Prop:= ∃v,(∀w',bg P Ev (T.get g) o w' v)/\O v w
theorem LC.ok2{T:aA}{g:GK}{Ev:Env}{o:Oper}{w:World}{O:Value->World->Prop}(h:LC P T g Ev o w O):iy P T g Ev o w O:=by obtain ⟨v,c,a⟩:=h;exact ⟨λb=>bE.run (by have:=c w;rwa [b] at this) a,λ_=>⟨v,a⟩⟩
theorem bE.gd{E:Env}{dst:w4}{op:Op}{ty:TypeId}{pos:String}{af:xa}{gd:Option (Nat×Bool)}{w:World}{R:Value->World->Prop}(h:bE P E ⟨dst,op,ty,pos,af,none⟩ w R):bE P E ⟨dst,op,ty,pos,af,gd⟩ w R:=
 λn a b=>h n a b
def Ty.n':Ty->Nat
 | .i _|.bo|.s|.l _|.n=>1
 | .un|.mp _ _=>0
 | .p x y=>x.n'+y.n'
 | .ex=>4
theorem Ty.Bt:(t:Ty)->t.rep.n=t.n'
 | .i _|.bo|.s|.l _|.un|.n|.mp _ _|.ex=>rfl
 | .p x y=>by show x.rep.n+y.rep.n=_;rw [Ty.Bt x,Ty.Bt y];rfl
def dx:(t:Ty)->t.T->Nat->List AV×List Row×Nat
 | .i k,x,c=>([.int k x],[],c)
 | .bo,x,c=>([.bool x],[],c)
 | .s,x,c=>([.str x],[],c)
 | .un,_,c=>([],[],c)
 | .n,x,c=>([.ifc x (.agg [])],[],c)
 | .mp _ _,_,c=>([],[],c)
 | .p a b,x,c=>match dx a x.1 c with
  |(u,p,c)=>match dx b x.2 c with
   |(v,q,c)=>(u++v,p++q,c)
 | .l t,x,c=>([.sl c],[.sli none c t x false],c+1)
 | .ex,x,c=>([.int .i64 x.op,.int .i64 x.n,.int .i64 x.at_,.sl c],[.sli none c .ex x.l false],c+1)
structure apI(T:aA)(M:Nat->Prop)(w:World)(vs:vy)(c:Nat)(ρ ρ':ax)(m:List AV×List Row×Nat):Prop where
 ag:aT c ρ ρ'
 le:c<=m.2.2
 lw:AV.bV m.2.2 m.1=true
 eq:AV.ao ρ' m.1=vs
 rl:∀r∈m.2.1,r.low m.2.2=true
 rs:∀r∈m.2.1,∃j t l,r= .sli none j t l false
 rp:∀r∈m.2.1,(r.item ρ' T).P M w
theorem Row.fa{c d:Nat}(a:c<=d){r:Row}(h:r.low c=true):r.low d=true:=by
 cases r <;> simp only [Row.low,ae,du] at h ⊢
 .exact ⟨by omega,AV.jd a _ h.2⟩
 .omega
 .omega
 .omega
 .exact ⟨by omega,AV.jd a _ h.2⟩
 .omega
 .omega
 .exact ⟨by omega,AV.fa a _ h.2⟩
theorem F0{T:aA}{M:Nat->Prop}{w:World}:(t:Ty)->(x:t.T)->(c:Nat)->(vs:vy)->t.rep.rd M w vs x->(ρ:ax)->∃ρ',apI T M w vs c ρ ρ' (dx t x c)
 | .i k,x,c,vs,h,ρ=>⟨ρ,.refl,bb _,rfl,by cases h;simp [dx,AV.ao,AV.val],(λ_ h=>by cases h),(λ_ h=>by cases h),(λ_ h=>by cases h)⟩
 | .bo,x,c,vs,h,ρ=>⟨ρ,.refl,bb _,rfl,by cases h;simp [dx,AV.ao,AV.val],(λ_ h=>by cases h),(λ_ h=>by cases h),(λ_ h=>by cases h)⟩
 | .s,x,c,vs,h,ρ=>⟨ρ,.refl,bb _,rfl,by cases h;simp [dx,AV.ao,AV.val],(λ_ h=>by cases h),(λ_ h=>by cases h),(λ_ h=>by cases h)⟩
 | .un,x,c,vs,h,ρ=>⟨ρ,.refl,bb _,rfl,by cases h;simp [dx,AV.ao],(λ_ h=>by cases h),(λ_ h=>by cases h),(λ_ h=>by cases h)⟩
 | .n,x,c,vs,h,ρ=>⟨ρ,.refl,bb _,rfl,by cases h;simp [dx,AV.ao,AV.val],(λ_ h=>by cases h),(λ_ h=>by cases h),(λ_ h=>by cases h)⟩
 | .mp _ _,x,c,vs,h,ρ=>h.elim
 | .p a b,x,c,vs,h,ρ=>by
  obtain ⟨us,m,rfl,u,q⟩:=h;obtain ⟨j,f⟩:=F0 (T:=T) a x.1 c us u ρ;obtain ⟨g,e⟩:=F0 (T:=T) b x.2 (dx a x.1 c).2.2 m q j;refine ⟨g,f.ag.trans e.ag f.le,b9 f.le e.le,Oz (AV.jd e.le _ f.lw) e.lw,?_,λr d=>?_,λr d=>?_,λr d=>?_⟩
  .simp only [dx,cX];rw [AV.bS e.ag _ f.lw,f.eq,e.eq]
  .rcases List.mem_append.1 d with d|d
   .exact Row.fa e.le (f.rl r d)
   .exact e.rl r d
  .rcases List.mem_append.1 d with d|d
   .exact f.rs r d
   .exact e.rs r d
  .rcases List.mem_append.1 d with d|d
   .rw [Row.yv e.ag (f.rl r d)];exact f.rp r d
   .exact e.rp r d
 | .l t,x,c,vs,h,ρ=>by
  obtain ⟨v,rfl,h⟩:=h;refine ⟨ρ.set c { cM with v:=v },ax.aY,eb _,by simp [dx,AV.bV,AV.low],by simp [dx,AV.ao,AV.val,ax.bA],λr d=>?_,λr d=>?_,λr d=>?_⟩
  .simp only [dx,j0] at d;subst d;simp [Row.low,dx]
  .simp only [dx,j0] at d;subst d;exact ⟨_,_,_,rfl⟩
  .simp only [dx,j0] at d;subst d;simp only [Row.item,ax.bA];exact λ_=>⟨h,λhb=>by cases hb⟩
 | .ex,x,c,vs,h,ρ=>by
  obtain ⟨v,rfl,o⟩:=HM h;refine ⟨ρ.set c { cM with v:=v },ax.aY,eb _,by simp [dx,AV.bV,AV.low],by simp [dx,AV.ao,AV.val,ax.bA],λr d=>?_,λr d=>?_,λr d=>?_⟩
  .simp only [dx,j0] at d;subst d;simp [Row.low,dx]
  .simp only [dx,j0] at d;subst d;exact ⟨_,_,_,rfl⟩
  .simp only [dx,j0] at d;subst d;simp only [Row.item,ax.bA];exact λ_=>⟨o,λhb=>by cases hb⟩
theorem J9:(t:Ty)->(x:t.T)->(c:Nat)->c<=(dx t x c).2.2
 | .i _,_,_|.bo,_,_|.s,_,_|.un,_,_|.n,_,_|.mp _ _,_,_=>bb _
 | .p a b,x,c=>b9 (J9 a x.1 c) (J9 b x.2 _)
 | .l _,_,_|.ex,_,_=>eb _
theorem JE:(t:Ty)->(x:t.T)->(c:Nat)->∀r∈(dx t x c).2.1,∃j t l,r= .sli none j t l false
 | .i _,_,_,_,h|.bo,_,_,_,h|.s,_,_,_,h|.un,_,_,_,h|.n,_,_,_,h|.mp _ _,_,_,_,h=>by cases h
 | .p a b,x,c,r,h=>by
  rcases List.mem_append.1 h with h|h
  .exact JE a x.1 c r h
  .exact JE b x.2 _ r h
 | .l _,_,_,r,h=>by
  simp only [dx,j0] at h;subst h;exact ⟨_,_,_,rfl⟩
 | .ex,_,_,r,h=>by simp only [dx,j0] at h;subst h;exact ⟨_,_,_,rfl⟩
def uu(g:GK)(r:Row):Row:=match g,r with
 |none,r=>r
 |some g,.sli _ id t l b=> .sli (some g) id t l b
 |some _,r=>r
theorem sL{ρ:ax}{T:aA}{g:GK}{M:Nat->Prop}{w:World}{j:Nat}{t:Ty}{l:List t.T}(h:T.get g=true->((Row.sli none j t l false).item ρ T).P M w):
  ((uu g (.sli none j t l false)).item ρ T).cC=true/\((uu g (.sli none j t l false)).item ρ T).P M w:=by
 cases g with
 |none=>exact ⟨rfl,h (aA.get_none)⟩
 |some k=>
  refine ⟨rfl,λa=>?_⟩;exact h a (aA.get_none)
theorem AP{Γ:Ctx}{w:World}(h:Sat Γ w):∀(new:List Item),(∀it∈new,it.cC=true/\it.P Γ.M w)->Sat (new++Γ) w:=λnew a=>by
 have key:∀new:List Item,(∀it∈new,it.cC=true/\it.P Γ.M w)->new.all (·.cC)=true/\agl Γ.M w new:=λnew=>by
  induction new with
  |nil=>exact λ_=>⟨rfl,trivial⟩
  |cons it l ih=>
   intro a;obtain ⟨f,e⟩:=ih (λjt b=>a jt (aW _ b));obtain ⟨d,c⟩:=a it (bY ..);exact ⟨by simp only [qF,ae];exact ⟨d,f⟩,c,e⟩
 exact h.alP new (key new a).1 (key new a).2
def pU(G H:List Row)(t:Ty)(v:AV):Option (List t.T):=match v with
 | .sl j=>(match dF G H (lv j) with
  |some (_,.sli none _ t' l _)=>bX.asL t ⟨.l t',l⟩
  |_=>none)
 | .raw (.slice none 0 0)=>some []
 |_=>none where bX.asL (t:Ty) (d:bX):Option (List t.T):=d.as (.l t)
theorem nW{t t':Ty}{l:List t'.T}{l':List t.T}(h:pU.bX.asL t ⟨.l t',l⟩=some l'):∃e:t'=t,e▸l=l':=by have:=bX.MK h;cases this;exact ⟨rfl,rfl⟩
theorem MJ{ρ:ax}{T:aA}{G H:List Row}{Φ:Ctx}{w:World}{t:Ty}{v:AV}{l:List t.T}(c:Sat (ab ρ T G++(ab ρ T H++Φ)) w)(h:pU G H t v=some l):
  bO t.rep (Ctx.M (ab ρ T G++(ab ρ T H++Φ))) w (v.val ρ) l:=by
 unfold pU at h;split at h
 .rename_i j;split at h
  next s a t' l' b d=>obtain ⟨f,e⟩:=bU d;have:a=j:=ah e;subst this;obtain ⟨rfl,rfl⟩:=nW h;simp only [AV.val];exact ((Src.holds c f) aA.get_none).1
  .cases h
 .cases h;simp only [AV.val];exact bO.nil
 .cases h
def nD(G H:List Row):(t:Ty)->List AV->Option (t.T×List AV)
 | .i k,vs=>(match vs with
  | .int k' x::vs=>ay ( fm k k' ) ( some (x,vs) ) none
  |_=>none)
 | .bo,vs=>(match vs with
  | .bool x::vs=>some (x,vs)
  |_=>none)
 | .s,vs=>(match vs with
  | .str x::vs=>some (x,vs)
  |_=>none)
 | .un,vs=>some ((),vs)
 | .n,vs=>(match vs with
  | .ifc t (.agg [])::vs=>some (t,vs)
  |_=>none)
 | .p a b,vs=>(match nD G H a vs with
  |some x=>(match nD G H b x.2 with
   |some y=>some ((x.1,y.1),y.2)
   |none=>none)
  |none=>none)
 | .l t,vs=>(match vs with
  |v::vs=>(match pU G H t v with
   |some l=>some (l,vs)
   |none=>none)
  |_=>none)
 | .ex,vs=>(match vs with
  | .int .i64 a:: .int .i64 b:: .int .i64 c::v::vs=>(match pU G H .ex v with
   |some l=>some (Ex.mk a b c l,vs)
   |none=>none)
  |_=>none)
 |_,_=>none
theorem Ut{ρ:ax}{T:aA}{G H:List Row}{Φ:Ctx}{w:World}(d:Sat (ab ρ T G++(ab ρ T H++Φ)) w):(t:Ty)->(vs:List AV)->(x:t.T×List AV)->nD G H t vs=some x->
  ∃us,vs=us++x.2/\t.rep.rd (Ctx.M (ab ρ T G++(ab ρ T H++Φ))) w (AV.ao ρ us) x.1
 | .i k,vs,x,h=>by
  unfold nD at h;split at h
  next u y us=>obtain ⟨j,g⟩:=aG h;have:=gh j;subst this;cases g;exact ⟨[.int k y],rfl,by simp only [AV.ao,AV.val];rfl⟩
  .cases h
 | .bo,vs,x,h=>by
  unfold nD at h;split at h
  next y us=>cases h;exact ⟨[.bool y],rfl,by simp only [AV.ao,AV.val];rfl⟩
  .cases h
 | .s,vs,x,h=>by
  unfold nD at h;split at h
  next y us=>cases h;exact ⟨[.str y],rfl,by simp only [AV.ao,AV.val];rfl⟩
  .cases h
 | .un,vs,x,h=>by
  unfold nD at h;cases h;exact ⟨[],rfl,by simp only [AV.ao];rfl⟩
 | .n,vs,x,h=>by
  unfold nD at h;split at h
  next t us=>cases h;exact ⟨[.ifc t (.agg [])],rfl,by simp only [AV.ao,AV.val];rfl⟩
  .cases h
 | .mp _ _,vs,x,h=>by unfold nD at h;cases h
 | .p a b,vs,x,h=>by
  unfold nD at h;split at h
  .rename_i y o;split at h
   next z m=>cases h;obtain ⟨us,r,j⟩:=Ut d a vs y o;obtain ⟨e,q,g⟩:=Ut d b y.2 z m;refine ⟨us++e,by rw [r,q,aO],?_⟩;rw [cX];exact ⟨_,_,rfl,j,g⟩
   .cases h
  .cases h
 | .l t,vs,x,h=>by
  unfold nD at h;split at h
  .rename_i v us;split at h
   next l f=>cases h;refine ⟨[v],rfl,?_⟩;simp only [AV.ao];exact (MJ d f).rsl
   .cases h
  .cases h
 | .ex,vs,x,h=>by
  unfold nD at h;split at h
  .rename_i a b c v us;split at h
   next l f=>cases h;refine ⟨[.int .i64 a,.int .i64 b,.int .i64 c,v],rfl,?_⟩;simp only [AV.ao,AV.val];exact Ou (MJ d f).rsl
   .cases h
  .cases h
def rd1(G H:List Row)(t:Ty)(vs:List AV):Option t.T:=match nD G H t vs with
 |some (x,[])=>some x
 |_=>none
theorem aic{ρ:ax}{T:aA}{G H:List Row}{Φ:Ctx}{w:World}(c:Sat (ab ρ T G++(ab ρ T H++Φ)) w){t:Ty}{vs:List AV}{x:t.T}(h:rd1 G H t vs=some x):
  t.rep.rd (Ctx.M (ab ρ T G++(ab ρ T H++Φ))) w (AV.ao ρ vs) x:=by
 unfold rd1 at h;split at h
 next y b=>cases h;obtain ⟨us,a,d⟩:=Ut c t vs _ b;simp only [eF] at a;rw [a];exact d
 .cases h
def rdL(G H:List Row)(t:Ty):Nat->List AV->Option (List t.T)
 |0,vs=>(match vs with
  |[]=>some []
  |_=>none)
 |k+1,vs=>(match nD G H t vs with
  |some x=>(match rdL G H t k x.2 with
   |some l=>some (x.1::l)
   |none=>none)
  |none=>none)
theorem Ru{ρ:ax}{T:aA}{G H:List Row}{Φ:Ctx}{w:World}(a:Sat (ab ρ T G++(ab ρ T H++Φ)) w){t:Ty}:(k:Nat)->(vs:List AV)->(l:List t.T)->rdL G H t k vs=some l->
  l.length=k/\cK t.rep (Ctx.M (ab ρ T G++(ab ρ T H++Φ))) w (AV.ao ρ vs) l
 |0,vs,l,h=>by
  unfold rdL at h;split at h
  .cases h;exact ⟨rfl,by simp only [AV.ao];exact cK.nil⟩
  .cases h
 |k+1,vs,l,h=>by
  unfold rdL at h;split at h
  .rename_i x hx;split at h
   next l' b=>cases h;obtain ⟨us,f,e⟩:=Ut a t vs x hx;obtain ⟨d,c⟩:=Ru a k x.2 l' b;refine ⟨by simp [d],?_⟩;rw [f,cX];exact cK.cons e c
   .cases h
  .cases h
def cn(ids:x3):List Row->List Row
 |[]=>[]
 |r::G=>(match r with
  | .own id t e l ver=>ay ( sb id ids ) ( .sli none id t l false )<| .own id t e l ver
  |r=>r)::cn ids G
theorem aez{ρ:ax}{T:aA}{ids:x3}{w:World}:{G:List Row}->{A B:Ctx}->Sat (A++(ab ρ T G++B)) w->Sat (A++(ab ρ T (cn ids G)++B)) w
 |[],_,_,h=>h
 |r::G,A,B,h=>by
  have a:∀d:Row,Sat (A++(ab ρ T (d::G)++B)) w->Sat (A++(ab ρ T (d::cn ids G)++B)) w:=λd h=>by
   have i:Sat ((A++[d.item ρ T])++(ab ρ T G++B)) w:=by simpa [ab] using h
   have:=aez (ids:=ids) i;simpa [ab] using this
  unfold cn;split
  .rename_i id t e l c;cases j:sb id ids
   .exact a _ h
   .refine a _ ?_;have hi:(A++(ab ρ T (Row.own id t e l c::G)++B))[A.length]? =some (lL t.rep e (ρ id).v l ((ρ c).y=⟨.l t,l⟩)):=by rw [bZ (bb _)];simp [ab,Row.item]
    have f:=h.mD hi (new:=(Row.sli none id t l false).item ρ T) ((Ext.refl w).pZ _) (λb hb=>by cases hb) (λM' m g=>λ_=>⟨(h.at_ hi).1.freeze (λb hb=>g b hb (λhb=>by cases hb)) m,λhb=>by cases hb⟩);rw [qJ _ _ (bb _)] at f;simpa [ab] using f
  .exact a _ h
theorem ph{c:Nat}{ids:x3}:{G:List Row}->bB c G=true->bB c (cn ids G)=true
 |[],_=>rfl
 |r::G,h=>by
  simp only [bB,ae] at h;unfold cn;simp only [bB,ae];refine ⟨?_,ph h.2⟩;split
  .rename_i id t e l b;have a:=h.1;simp only [Row.low,ae] at a;cases sb id ids
   .simp only [Row.low,ae];exact a
   .simp only [Row.low];exact a.1
  .exact h.1
theorem iG{ρ:ax}{T:aA}{ids:x3}{w:World}{G:List Row}{B:Ctx}(h:Sat (ab ρ T G++B) w):Sat (ab ρ T (cn ids G)++B) w:=aez (A:=[]) h
def AV.dY:AV->x3
 | .sl id=>[id]
 | .agg l=>sls0 l
 |_=>[] where sls0:List AV->x3
 |[]=>[]
 | .sl id::l=>id::sls0 l
 |_::l=>sls0 l
section
variable {X : Cx} {R : Type} {r : R} {K : cB R} {T : aA} {fr : Fr} {st : aB} {g : GK} {d : Tmp} {ρ : ax} {Φ : Ctx} {w : World} {ty : TypeId} {pos : String} {af : xa} {gd : ti}
theorem iy.none_{Ev:Env}{o:Oper}{O:Value->World->Prop}(h:bE P Ev o w O):iy P T none Ev o w O:=⟨λ_=>h,λa=>by rw [aA.get_none] at a;cases a⟩
def Zq(P:Program)(t:TypeId):Option (List AV):=match jD P t with
 |some z=>some (z.2.2.cells.toList.map iO)
 |none=>none
def afP(st:aB)(d:Tmp)(t:TypeId)(cs:List AV)(K:cB R):Option R:=K { st with c:=st.c+1,E:=cr (some d) none (.ptr st.c 0) st.E,G:= .box st.c t cs::st.G }
theorem acY{t:TypeId}{cs:List AV}(f:st.low fr=true)(e:Sat (ab ρ T st.G++(ab ρ T fr.H++Φ)) w)(a:AV.bV st.c cs=true)(h:afP st d t cs K=some r):
  aV r K T fr st none (some d) ρ Φ (.pointer (some ⟨w.heap.size,0,none⟩)) (w.alloc (.cells (AV.ao ρ cs).toArray t)):=by
 refine aV.push (x:={ cM with b:=w.heap.size }) f h (by simp only [AV.val,ax.bA]) ?_;simp only [Row.item,ax.bA];rw [AV.bS ax.aY _ a];exact e.push (dX _ _) (λb hb=>by
  have:b=w.heap.size:=by simpa [box] using hb
  subst this;simp) (λ_ _=>heap_alloc_new w _)
def Z5(X:Cx)(st:aB)(d:Tmp)(t:TypeId)(K:cB R):Option R:=match Zq X.P t with
 |some cs=>afP st d t cs K
 |none=>none
theorem ahF{t:TypeId}(f:st.low fr=true)(e:Sat (ab ρ T st.G++(ab ρ T fr.H++Φ)) w)(h:Z5 X st d t K=some r):
  iy X.P T none (au ρ T st.E fr.F) ⟨some d,.alloc t,ty,pos,af,gd⟩ w (aV r K T fr st none (some d) ρ Φ):=by
 unfold Z5 at h;split at h
 .rename_i cs a;unfold Zq at a;split at a
  next z c=>cases a;obtain ⟨n,b,z⟩:=z;refine .none_ (bE.gd (bE.lM (HK (zs:=z.cells.toList) (cD c) (by simp)) ?_));have:=acY f e acf h;rwa [kx] at this
  .cases a
 .cases h
def ak3(T:aA)(fr:Fr)(st:aB)(d:Tmp)(t:TypeId)(x:Operand)(K:cB R):Option R:=match bq T st.E fr.F none x with
 |some v=>ay ( JA v&&AV.bV st.c (cU v) ) ( afP st d t (cU v) K ) none
 |none=>none
theorem ans{t:TypeId}(c:st.low fr=true)(b:Sat (ab ρ T st.G++(ab ρ T fr.H++Φ)) w)(h:ak3 T fr st d t x K=some r):
  iy X.P T none (au ρ T st.E fr.F) ⟨some d,.box t x,ty,pos,af,gd⟩ w (aV r K T fr st none (some d) ρ Φ):=by
 unfold ak3 at h;split at h
 next v hv=>obtain ⟨a,e⟩:=aG h;simp only [ae] at a;exact .none_ (bE.gd (bE.lM (akv (bD hv) (wU a.1)) (acY c b a.2 e)))
 .cases h
def af1:AV->Bool
 | .agg _|.tuple _|.nv _=>false
 | .raw v=>v.oneCell'
 |_=>true
theorem akd{v:AV}(h:af1 v=true):(v.val ρ).oneCell'=true:=by
 cases v with
 |agg l=>cases h
 |tuple l=>cases h
 |nv l=>cases h
 |raw v=>simp only [AV.val];exact h
 |_=>simp only [AV.val];rfl
theorem Ma:{l:List AV}->l.all af1=true->(AV.ao ρ l).all Value.oneCell'=true
 |[],_=>by simp [AV.ao]
 |v::l,h=>by simp only [qF,ae] at h;simp only [AV.ao,qF,ae];exact ⟨akd h.1,Ma h.2⟩
def ab4(P:Program)(st:aB)(t:TypeId)(id off:Nat)(v:AV)(K:cB R):Option R:=match lQ (wg id) st.G with
 |some (j,.box _ e vs)=>(match jD P t with
  |some z=>ay ( JA v&&(cU v).all af1&&Nat.beq (cU v).length z.1&&Nat.ble (off+(cU v).length) vs.length ) (
    K { st with G:=st.G.set j (.box id e (sG vs off (cU v))) } ) none
  |none=>none)
 |_=>none
theorem ais{t:TypeId}{id off:Nat}{v:AV}(g:Sat (ab ρ T st.G++(ab ρ T fr.H++Φ)) w)(hx:bq T st.E fr.F none x=some (.ptr id off))(o:bq T st.E fr.F none y=some v)(h:ab4 X.P st t id off v K=some r):
  bE X.P (au ρ T st.E fr.F) ⟨none,.store t x y,ty,pos,af,gd⟩ w (aV r K T fr st none none ρ Φ):=by
 unfold ab4 at h;split at h
 .rename_i j a e vs s;split at h
  .rename_i z m;obtain ⟨n,bytes,z⟩:=z;obtain ⟨k,A⟩:=aG h;simp only [ae] at k;obtain ⟨⟨⟨J,I⟩,D⟩,C⟩:=k;obtain ⟨l,B⟩:=kC s;have:a=id:=ah B;subst this;have d:=bD (ρ:=ρ) hx;have f:=bD (ρ:=ρ) o;simp only [AV.val] at d;have hi:=fe (ρ:=ρ) (T:=T) (Φ:=ab ρ T fr.H++Φ) l;have hb:eC w (ρ a).b e (AV.ao ρ vs):=g.at_ hi;obtain ⟨p,u,i⟩:=afN (P:=X.P) (E:=au ρ T st.E fr.F) (w:=w) (dst:=none) (ty:=ty) (pos:=pos) (af:=af) (cD m) d f (wU J) (by rw [AV.bl];exact ah D) (Ma I) hb (by rw [AV.bl,AV.bl];exact C) wq;refine bE.gd (bE.afA p (aV.ic (av:= .raw undef) A (bb _) rfl (by simp only [AV.val]) ?_));have q:j<st.G.length:=(List.getElem?_eq_some_iff.1 l).1;show Sat (ab ρ T (st.G.set j _)++_) _;rw [eS q];refine g.mD hi u (λc hc=>?_) (λ_ _ _=>i);have:c=(ρ a).b:=by simpa [Row.item,box] using hc
   subst this;exact ⟨i.lt,.inl (by simp [Row.item,box])⟩
  .cases h
 .cases h
theorem aeV{t:Ty}{p:fw}{l l':List t.T}{q q':Prop}{i:Nat}{Γ:Ctx}{w':World}(b:Sat Γ w)(hi:Γ[i]? =some (lL t.rep e p l q))(g:q')(f:jf (dq (sl p)) w w')(a:w'.heap.size=w.heap.size)(d:sw p=dq (sl p))
  (h:∀M',Mv Γ.M w M' w'->fT t.rep e M' w' (sl p) l'):Sat (Γ.set i (lL t.rep e p l' q')) w':=by
 refine b.mD hi (by rw [<-d] at f;exact f) (λc hc=>⟨by rw [a];exact (b.at_ hi).1.lt c hc,.inl hc⟩) (λM' m _=>⟨?_,g⟩);show bJ t.rep e M' w' (sl p) l' (sw p);rw [d];exact bJ.of (h M' m)
theorem pg{c:Nat}:∀{G:List Row} {j:Nat} {r:Row},bB c G=true->G[j]? =some r->r.low c=true:=λ{G}=>by
 induction G with
 |nil=>intro j r _ h;simp at h
 |cons b G ih=>
  intro j r h a;simp only [bB,ae] at h;cases j with
  |zero=>simp at a;subst a;exact h.1
  |succ j=>exact ih h.2 (by simpa using a)
def acn(P:Program)(fr:Fr)(st:aB)(t:TypeId)(q off:Nat)(v:AV)(K:cB R):Option R:=
 match dF (cn (AV.dY.sls0 (cU v)) st.G) fr.H (P9 q) with
 |some (_,.kn none _ id ver u i x)=>(match lQ (lv id) (cn (AV.dY.sls0 (cU v)) st.G) with
  |some (j,.own _ u' e l ver')=>(match jD P t with
   |some z=>ay ( Nat.beq ver ver'&&JA v&&(cU v).all af1&&Nat.beq (cU v).length z.1&&AV.bV st.c (cU v) ) (
     ay ( Nat.beq off 0&&Nat.beq (cU v).length u'.n' ) ( match rd1 (cn (AV.dY.sls0 (cU v)) st.G) fr.H u' (cU v) with
      |some y=>K { st with c:=st.c+1,G:=(cn (AV.dY.sls0 (cU v)) st.G).set j (.own id u' e (List.set l i.toNat y) st.c) }
      |none=>none )<|
      ay ( Nat.ble (off+(cU v).length) (dx u x (st.c+1)).1.length ) ( match rd1 ((dx u x (st.c+1)).2.1++cn (AV.dY.sls0 (cU v)) st.G) fr.H u' (sG (dx u x (st.c+1)).1 off (cU v)) with
       |some y=>K { st with c:=(dx u x (st.c+1)).2.2,G:=(dx u x (st.c+1)).2.1++(cn (AV.dY.sls0 (cU v)) st.G).set j (.own id u' e (List.set l i.toNat y) st.c) }
       |none=>none ) none ) none
   |none=>none)
  |_=>none)
 |_=>none
theorem ajj{t:TypeId}{q off:Nat}{v:AV}(hl:st.low fr=true)(C:Sat (ab ρ T st.G++(ab ρ T fr.H++Φ)) w)(hx:bq T st.E fr.F none x=some (.adr q off))(hy:bq T st.E fr.F none y=some v)(h:acn X.P fr st t q off v K=some r):
  bE X.P (au ρ T st.E fr.F) ⟨none,.store t x y,ty,pos,af,gd⟩ w (aV r K T fr st none none ρ Φ):=by
 unfold acn at h;have g:=ph (ids:=AV.dY.sls0 (cU v)) (aB.cz.1 hl).2.2.1;replace C:=iG (ids:=AV.dY.sls0 (cU v)) C;generalize cn (AV.dY.sls0 (cU v)) st.G=G at h g C;split at h
 .rename_i s q' id R u i xe hf;split at h
  .rename_i j o u' e l Q Y;split at h
   .rename_i z hz;obtain ⟨n,bytes,z⟩:=z;obtain ⟨h1,h2⟩:=aG h;simp only [ae] at h1;obtain ⟨⟨⟨⟨a1,a2⟩,a3⟩,a4⟩,a5⟩:=h1;obtain ⟨f1,f2⟩:=bU hf;obtain ⟨S,k2⟩:=kC Y;have e1:q'=q:=ah f2;have e2:o=id:=ah k2;have e3:R=Q:=ah a1;subst e1;subst e2;subst e3;have A:=bD (ρ:=ρ) hx;have U:=bD (ρ:=ρ) hy;simp only [AV.val] at A;obtain ⟨I,b1,b2,b3⟩:=(Src.holds C f1) aA.get_none;have hi:=fe (ρ:=ρ) (T:=T) (Φ:=ab ρ T fr.H++Φ) S;obtain ⟨c1,c2⟩:=C.at_ hi;obtain ⟨e4,e5⟩:=Mm b1 c2;subst e4;simp only at e5;subst e5;obtain ⟨o1,o2⟩:=c1.fU b2;obtain ⟨o3,k,o4,o5⟩:=c1.atA b2;have hj:j<G.length:=(List.getElem?_eq_some_iff.1 S).1;have Z:(AV.ao ρ (cU v)).length=n:=by rw [AV.bl];exact ah a4
    rw [b3] at A;rcases dp h2 with ⟨h3,h4⟩|⟨_,h4⟩
    .simp only [ae] at h3;have e6:off=0:=ah h3.1;subst e6;split at h4
     .rename_i D p;have f:=aic C p;have M:k.length=u.rep.n:=u.rep.len o5;have hlu:(AV.ao ρ (cU v)).length=u.rep.n:=u.rep.len f;have V:mH k 0 (AV.ao ρ (cU v))=AV.ao ρ (cU v):=by unfold mH;simp only [List.take_zero,pc,ec];rw [l7 (by omega),eF]
      obtain ⟨w',Y,hC,J,hP⟩:=Iu (P:=X.P) (E:=au ρ T st.E fr.F) (w:=w) (dst:=none) (ty:=ty) (pos:=pos) (af:=af) (cD hz) A U (wU a2) Z (Ma a3) o3 o1 o4 M (qv (by omega)) V f (λb hb=>Ctx.iz hi (by rw [<-o2] at hb;exact hb));refine bE.gd (bE.afA Y (aV.new (ρ':=ρ.set st.c { cM with y:=⟨.l u,List.set I i.toNat D⟩ }) (av:= .raw undef) hl h4 ax.aY (eb _) rfl (by simp only [AV.val]) ?_));show Sat (ab _ T (G.set j _)++_) _;rw [eS hj,bc ax.aY g];have:=aeV (q':=((ρ.set st.c { cM with y:=⟨.l u,List.set I i.toNat D⟩ }) st.c).y=⟨.l u,List.set I i.toNat D⟩) C hi (by rw [ax.bA]) hC J o2 hP;have hlt:=(List.getElem?_eq_some_iff.1 S).2;have N:(ρ.set st.c { cM with y:=⟨.l u,List.set I i.toNat D⟩ }) o=ρ o:=by have d:=pg g S;simp only [Row.low,ae,du] at d;exact ax.aY _ d.1
      simp only [Row.item,N];exact this
     .cases h4
    .obtain ⟨h5,h6⟩:=aG h4;split at h6
     .rename_i D p;obtain ⟨a,B⟩:=F0 (T:=T) u xe (st.c+1) k o5 (ρ.set st.c { cM with y:=⟨.l u,List.set I i.toNat D⟩ });have ag:aT st.c ρ a:=ax.aY.trans B.ag (eb _);generalize dx u xe (st.c+1)=m at h5 h6 p B;have L:Sat (ab a T m.2.1++(ab ρ T G++(ab ρ T fr.H++Φ))) w:=AP C _ (λit hit=>by obtain ⟨r,W,rfl⟩:=List.mem_map.1 hit;obtain ⟨j1,t1,l1,rfl⟩:=B.rs _ W;exact ⟨rfl,B.rp _ W⟩)
      have eG:=bc (T:=T) ag g;have eH:=bc (T:=T) ag (aB.cz.1 hl).2.2.2;have hs2:Sat (ab a T (m.2.1++G)++(ab a T fr.H++Φ)) w:=by rw [bh,aO,eG,eH];exact L
      have f:=aic hs2 p;rw [bh,aO,eG,eH,<-wq,B.eq,AV.bS ag _ a5] at f;have O:(ab a T m.2.1++(ab ρ T G++(ab ρ T fr.H++Φ)))[m.2.1.length+j]? =some ((Row.own o u e I R).item ρ T):=by
       rw [bZ (by simp [ab])];have:m.2.1.length+j-(ab a T m.2.1).length=j:=by simp [ab]
       rw [this];exact hi
      obtain ⟨d1,d2⟩:=L.at_ O;obtain ⟨p1,p2⟩:=d1.fU b2;have M:k.length=u.rep.n:=u.rep.len o5;obtain ⟨w',Y,hC,J,hP⟩:=Iu (P:=X.P) (E:=au ρ T st.E fr.F) (w:=w) (dst:=none) (ty:=ty) (pos:=pos) (af:=af) (cD hz) A U (wU a2) Z (Ma a3) o3 p1 o4 M (by have:=B.eq;rw [<-this,AV.bl,AV.bl];exact h5) rfl f (λb hb=>Ctx.iz O (by rw [<-p2] at hb;exact hb))
      refine bE.gd (bE.afA Y (aV.new (ρ':=a) (av:= .raw undef) hl h6 ag (b9 (eb _) B.le) rfl (by simp only [AV.val]) ?_));have hy1:(a st.c).y=⟨.l u,List.set I i.toNat D⟩:=by rw [B.ag _ (qd _),ax.bA]
      have:=aeV L O hy1 hC J p2 hP;have d:=pg g S;simp only [Row.low,ae,du] at d;show Sat (ab a T (m.2.1++G.set j _)++_) _;rw [bh,aO,eS hj,eG];rw [qJ _ _ (by simp [ab])] at this;have e7:m.2.1.length+j-(ab a T m.2.1).length=j:=by simp [ab]
      rw [e7] at this;simp only [Row.item,ag _ d.1];exact this
     .cases h6
   .cases h
  .cases h
 .cases h
end
section
variable {X : Cx} {R : Type} {r : R} {K : cB R} {T : aA} {fr : Fr} {st : aB} {g : GK} {d : Tmp} {ρ : ax} {Φ : Ctx} {w : World} {ty : TypeId} {pos : String} {af : xa} {gd : ti}
def Zk{α:Type}(T:aA)(g:GK)(z:α)(m:Option α)(k:α->Option R):Option R:=match g with
 |none=>m.bind k
 |some _=>bu (T.get g) z m k
theorem yW{z:α}{m:Option α}{k:α->Option R}(h:Zk T g z m k=some r):∃y,(T.get g=true->m=some y)/\k y=some r:=by
 unfold Zk at h;split at h
 .obtain ⟨y,b,a⟩:=yN h;exact ⟨y,λ_=>b,a⟩
 .obtain ⟨y,b,_,a⟩:=Rj h;exact ⟨y,b,a⟩
def aoW(T:aA)(g:GK)(st:aB)(d:Tmp)(t:Ty)(l:List t.T)(i:Int)(K:cB R):Option R:=
 Zk T g t.nQ (idx l i) λx=>K { st with c:=(dx t x (st.c+1)).2.2,E:=cr (some d) g (.adr st.c 0) st.E,G:= .elm g st.c (dx t x (st.c+1)).1::((dx t x (st.c+1)).2.1.map (uu g)++st.G) }
def aou(T:aA)(g:GK)(st:aB)(d:Tmp)(id ver:Nat)(t:Ty)(l:List t.T)(i:Int)(K:cB R):Option R:=
 Zk T g t.nQ (idx l i) λx=>K { st with c:=st.c+1,E:=cr (some d) g (.adr st.c 0) st.E,G:= .kn g st.c id ver t i x::st.G }
def ag3(X:Cx)(T:aA)(fr:Fr)(st:aB)(g:GK)(d:Tmp)(t:TypeId)(x y:Operand)(K:cB R):Option R:=match eP X.P t with
 |some e=>(match jD X.P e with
  |some z=>(match bq T st.E fr.F g x with
   |some (.sl id)=>(match bq T st.E fr.F g y with
    |some (.int _ i)=>(match dF st.G fr.H (lv id) with
     |some (_,.sli g' _ t l _)=>ay ( T.imp g g'&&Nat.beq z.1 t.n' ) ( aoW T g st d t l i K ) none
     |some (_,.own _ t _ l ver)=>ay ( Nat.beq z.1 t.n' ) ( aou T g st d id ver t l i K ) none
     |_=>none)
    |_=>none)
   |_=>none)
  |none=>none)
 |none=>none
theorem afm{t:TypeId}(Q:st.low fr=true)(U:Sat (ab ρ T st.G++(ab ρ T fr.H++Φ)) w)(h:ag3 X T fr st g d t x y K=some r):
  LC X.P T g (au ρ T st.E fr.F) ⟨some d,.indexAddr t x y,ty,pos,af,gd⟩ w (aV r K T fr st g (some d) ρ Φ):=by
 unfold ag3 at h;split at h
 .rename_i e he;split at h
  .rename_i z hz;obtain ⟨n,bytes,z⟩:=z;split at h
   .rename_i id hx;split at h
    .rename_i k i hy;have I:=aR (ρ:=ρ) hx;have D:=aR (ρ:=ρ) hy;simp only [AV.val] at I D;split at h
     .rename_i s g' m t l b hf;obtain ⟨S,h2⟩:=aG h;simp only [ae] at S;have hn:n=t.rep.n:=(ah S.2).trans t.Bt.symm;obtain ⟨L,f2⟩:=bU hf;have:m=id:=ah f2;subst this;obtain ⟨A,V,b2⟩:=yW h2;have hT:=Src.holds U L
      -- the element, where g holds
      have key:∃(p:Addr) (f:ax),aT st.c ρ f/\(f st.c).a=p/\(T.get g=true->xD (sl (ρ m).v) i n p)/\
        ∀it∈ab f T (.elm g st.c (dx t A (st.c+1)).1::((dx t A (st.c+1)).2.1.map (uu g))),it.cC=true/\it.P (Ctx.M (ab ρ T st.G++(ab ρ T fr.H++Φ))) w:=by
       cases C:T.get g
       .refine ⟨⟨0,0,none⟩,ρ.set st.c cM,ax.aY,by rw [ax.bA];rfl,(λh=>by cases h),λit o=>?_⟩;rw [ab,cq] at o;rcases List.mem_cons.1 o with rfl|o
        .exact ⟨rfl,λh=>by rw [C] at h;cases h⟩
        .obtain ⟨r1,J,rfl⟩:=List.mem_map.1 o;obtain ⟨r2,u,rfl⟩:=List.mem_map.1 J;obtain ⟨j1,t1,l1,rfl⟩:=JE _ _ _ _ u;exact sL (λh=>by rw [C] at h;cases h)
       .have hS:=(hT (aA.jv S.1 C)).1;obtain ⟨e1,vs,e2,e3,e4⟩:=hS.atA (V C);obtain ⟨f,O⟩:=F0 (T:=T) t A (st.c+1) vs e3 (ρ.set st.c { cM with a:=pn (sl (ρ m).v) i t.rep.n });have R:(f st.c).a=pn (sl (ρ m).v) i t.rep.n:=by rw [O.ag _ (qd _),ax.bA]
        refine ⟨pn (sl (ρ m).v) i t.rep.n,f,ax.aY.trans O.ag (eb _),R,λ_=>by rw [hn];exact e1,λit o=>?_⟩;rw [ab,cq] at o;rcases List.mem_cons.1 o with rfl|o
        .refine ⟨rfl,λ_=>?_⟩;show ¬Ctx.M _ (f st.c).a.block/\bK w (f st.c).a _;rw [R,O.eq];exact ⟨e4,e2⟩
        .obtain ⟨r1,J,rfl⟩:=List.mem_map.1 o;obtain ⟨r2,u,rfl⟩:=List.mem_map.1 J;have Z:=O.rp _ u;obtain ⟨j1,t1,l1,rfl⟩:=O.rs _ u;exact sL (λ_=>Z)
      obtain ⟨p,f,k1,k2,k3,k4⟩:=key;have Y:=AP U _ k4;have eG:=bc (T:=T) k1 (aB.cz.1 Q).2.2.1;have q:aV r K T fr st g (some d) ρ Φ (.pointer (some p)) w:=by
       refine aV.new (ρ':=f) Q b2 k1 (b9 (eb _) (J9 _ _ _)) rfl (by simp only [AV.val,k2];simp [Addr.add]) ?_;show Sat (ab f T (Row.elm g st.c _::(_++st.G))++_) w;have e8:ab f T (Row.elm g st.c (dx t A (st.c+1)).1::((dx t A (st.c+1)).2.1.map (uu g)++st.G))=ab f T (.elm g st.c (dx t A (st.c+1)).1::((dx t A (st.c+1)).2.1.map (uu g)))++ab f T st.G:=by simp [ab]
       rw [e8,eG,aO];exact Y
      exact ⟨_,λw'=>DX (bT he) (cD hz) I D k3,q⟩
     .rename_i s m t e' l N hf;obtain ⟨S,h2⟩:=aG h;have hn:n=t.rep.n:=(ah S).trans t.Bt.symm;obtain ⟨L,f2⟩:=bU hf;have:m=id:=ah f2;subst this;obtain ⟨A,V,b2⟩:=yW h2;obtain ⟨hO,W⟩:=Src.holds U L;have B:m<st.c/\N<st.c:=by
       have:(Row.own m t e' l N).low st.c=true:=by
        cases s with
        |top j=>exact pg (aB.cz.1 Q).2.2.1 L
        |cn j=>exact pg (aB.cz.1 Q).2.2.2 L
        |_=>exact L.elim
       simpa only [Row.low,ae,du] using this
      have q:aV r K T fr st g (some d) ρ Φ (.pointer (some (pn (sl (ρ m).v) i t.rep.n))) w:=by refine aV.push (x:={ cM with a:=pn (sl (ρ m).v) i t.rep.n }) Q b2 (by simp only [AV.val,ax.bA];simp [Addr.add]) (U.add rfl ?_);intro C;rw [ax.aY _ B.1,ax.aY _ B.2,ax.bA];exact ⟨l,W,V C,rfl⟩
      exact ⟨_,λw'=>DX (bT he) (cD hz) I D (λC=>by rw [hn];exact (hO.atA (V C)).1),q⟩
     .cases h
    .cases h
   .cases h
  .cases h
 .cases h
def Ua(X:Cx)(T:aA)(fr:Fr)(st:aB)(g:GK)(d:Tmp)(t:TypeId)(q off:Nat)(K:cB R):Option R:=match dF st.G fr.H (P9 q) with
 |some (_,.kn g' _ id ver u _ x)=>(match dF st.G fr.H (lv id) with
  |some (_,.own _ _ _ _ ver')=>ay ( Nat.beq ver ver'&&T.imp g g' ) ( match jG X.P t ((dx u x st.c).1.drop off) with
   |some v=>K { st with c:=(dx u x st.c).2.2,E:=cr (some d) g v st.E,G:=(dx u x st.c).2.1.map (uu g)++st.G }
   |none=>none ) none
  |_=>none)
 |_=>none
theorem XC{t:TypeId}{q off:Nat}(hl:st.low fr=true)(V:Sat (ab ρ T st.G++(ab ρ T fr.H++Φ)) w)(hx:bq T st.E fr.F g x=some (.adr q off))(h:Ua X T fr st g d t q off K=some r):
  ∃v,(∀w',Ext w w'->bg X.P (au ρ T st.E fr.F) (T.get g) ⟨some d,.load t x,ty,pos,af,gd⟩ w' v)/\aV r K T fr st g (some d) ρ Φ v w:=by
 unfold Ua at h;split at h
 .rename_i s g' q' id N u i k hf;split at h
  .rename_i s2 O u' e l B Y;obtain ⟨h1,Z⟩:=aG h;simp only [ae] at h1;split at Z
   .rename_i v hv;obtain ⟨f1,f2⟩:=bU hf;obtain ⟨f3,f4⟩:=bU Y;have e1:q'=q:=ah f2;have e2:O=id:=ah f4;have e3:N=B:=ah h1.1;subst e1;subst e2;subst e3;have f:=aR (ρ:=ρ) hx;simp only [AV.val] at f;have hF:=Src.holds V f1;obtain ⟨hO,R⟩:=Src.holds V f3;have key:∃(b:ax) (vs:vy),aT st.c ρ b/\AV.ao b (dx u k st.c).1=vs/\(T.get g=true->bK w (ρ q').a vs)/\
      ∀it∈ab b T ((dx u k st.c).2.1.map (uu g)),it.cC=true/\it.P (Ctx.M (ab ρ T st.G++(ab ρ T fr.H++Φ))) w:=by
     cases I:T.get g
     .refine ⟨ρ,_,.refl,rfl,(λh=>by cases h),λit p=>?_⟩;obtain ⟨r1,o,rfl⟩:=List.mem_map.1 p;obtain ⟨r2,j,rfl⟩:=List.mem_map.1 o;obtain ⟨j1,t1,l1,rfl⟩:=JE _ _ _ _ j;exact sL (λh=>by rw [I] at h;cases h)
     .obtain ⟨l0,b1,b2,b3⟩:=hF (aA.jv h1.2 I);obtain ⟨e4,e5⟩:=Mm b1 R;subst e4;simp only at e5;subst e5;obtain ⟨_,vs,e6,e7⟩:=hO.atA b2;obtain ⟨b,J⟩:=F0 (T:=T) u k st.c vs e7 ρ;refine ⟨b,vs,J.ag,J.eq,λ_=>by rw [b3];exact e6,λit p=>?_⟩;obtain ⟨r1,o,rfl⟩:=List.mem_map.1 p;obtain ⟨r2,j,rfl⟩:=List.mem_map.1 o;have W:=J.rp _ j;obtain ⟨j1,t1,l1,rfl⟩:=J.rs _ j;exact sL (λ_=>W)
    obtain ⟨b,vs,k1,k2,k3,k4⟩:=key;have U:=AP V _ k4;have eG:=bc (T:=T) k1 (aB.cz.1 hl).2.2.1;have C:aV r K T fr st g (some d) ρ Φ (v.val b) w:=by refine aV.new (ρ':=b) hl Z k1 (J9 _ _ _) rfl rfl ?_;show Sat (ab b T (_++st.G)++_) w;rw [bh,eG,aO];exact U
    refine ⟨_,λw' S=>ahs λI=>?_,C⟩;rw [I] at f ⊢;have hc:=(k3 I).ext S;have m:bK w' ((ρ q').a.add off) (AV.ao b ((dx u k st.c).1.drop off)):=by refine hc.sub _ ?_;rw [AV.gi,k2,ed (bb _)]
    have h':jG X.P t (((dx u k st.c).1.drop off).drop 0)=some v:=by simpa using hv
    obtain ⟨dd,n,bytes,z,c1,c2,A⟩:=mm (ρ:=b) h';cases hd:iW dd
    .rw [hd] at A;simp only [mo,qA] at A;refine KV c1 hd f (λ_=>?_);have:=m.sub (us:=[v.val b]) 0 (by
      cases hq:AV.ao b ((dx u k st.c).1.drop off) with
      |nil=>rw [hq] at A;cases A
      |cons a l=>rw [hq] at A;cases A;simp)
     simpa [Addr.add] using this
    .unfold jG at hv;rw [c1] at hv;rcases dp hv with ⟨_,y⟩|⟨y,_⟩
     .split at y
      .rename_i z2 Q;obtain ⟨n2,L,z2⟩:=z2;obtain ⟨h4,h5⟩:=aG y;cases h5;have D:n2<=((dx u k st.c).1.drop off).length:=cb h4;simp only [AV.val];refine Kf c1 hd (cD Q) f (λ_=>?_) ?_
       .have:=m.sub (us:=AV.ao b (((dx u k st.c).1.drop off).take n2)) 0 (by rw [AV.jg,mj,bj,AV.bl,cx D])
        simpa [Addr.add] using this
       .rw [AV.bl,bj,cx D]
      .cases y
     .rw [hd] at y;cases y
   .cases Z
  .cases h
 .cases h
theorem akw{t:TypeId}{q off:Nat}(e:st.low fr=true)(c:Sat (ab ρ T st.G++(ab ρ T fr.H++Φ)) w)(hx:bq T st.E fr.F g x=some (.adr q off))(h:Ua X T fr st g d t q off K=some r):
  iy X.P T g (au ρ T st.E fr.F) ⟨some d,.load t x,ty,pos,af,gd⟩ w (aV r K T fr st g (some d) ρ Φ):=by
 obtain ⟨v,b,a⟩:=XC (ty:=ty) (pos:=pos) (af:=af) (gd:=gd) e c hx h;refine ⟨λf=>bE.gd (bE.run ?_ a),λ_=>⟨_,a⟩⟩;rw [f] at b;exact b w (Ext.refl w)
end
end Go.Proofs.YtkedhpmpejhekaaGreatDoor
