/- Own texts for ToolNumbers, cut and joined by a program. -/
import Derived.Test.YtkedhpmpejhekaaGreatDoorToolNumbersA
import Derived.Lib.AppendZerosOnto
import Derived.Lib.Overlaps
import Derived.Lib.AppendStr
import Derived.Lib.UnsafeStr
import Derived.Lib.Builder
import Derived.Laws.Externs
import Derived.RecoverIn
set_option linter.all false
namespace Go.Proofs.YtkedhpmpejhekaaGreatDoor
open IntKind (u8)
theorem TI.zero{P:Program}{e:TypeId}{size bytes:Nat}{z:Value}(h:TI P e size bytes z)(w:World):(zeroValue e).run P w= .ok z w:=by obtain ⟨i,hi,_,_,a⟩:=h.out;simp [zeroValue,typeInfo,hi,a]
section
variable {α : Type} {A : dB α} {e : TypeId} {M : Nat -> Prop} {w : World} {v : Value} {xs : List α} {R : xc}
theorem bJ.apK{j:Int}(h:bJ A e M w v xs R)(hc:dn 0 j xs.length=true):∃p:fy,Pn v 0 j A.n (sl p)/\bJ A e M w (sl p) (bB xs 0 j) R:=by
 obtain ⟨⟨_,u⟩,d⟩:=AH.1 hc;have f:bB xs 0 j=xs.take j.toNat:=by simp [bB]
 rw [f];rcases h with ⟨rfl,cells,⟨t,s⟩,l⟩|⟨rfl,rfl,⟨a,rfl⟩,r⟩
 .rcases s with ⟨rfl,m⟩|⟨g,off,cap,cur,rfl,q,c,o,k,i⟩
  .have hx:xs=[]:=cf m;subst hx;have b:j=0:=by simp at d;omega
   subst b;exact ⟨(none,0,0),⟨none,0,0,rfl,by omega,by omega,by omega,by omega,rfl⟩,.inl ⟨rfl,fU.nil⟩⟩
  .refine ⟨(some ⟨g,off,none⟩,j.toNat,cap),⟨_,_,cap,rfl,by omega,u,d,c,?_⟩,.inl ⟨rfl,cells.take (j.toNat*A.n),⟨?_,.inr ⟨g,off,cap,cur,by rw [bj,cq (by omega)];rfl,q,?_,o,k,?_⟩⟩,l.take _⟩⟩
   .show Value.slice (some ⟨g,off,none⟩) j.toNat cap=_;simp [Addr.add]
   .rw [bj,bj,t];have:j.toNat<=xs.length:=by omega
    rw [cq (c8 _ this),cq this]
   .rw [bj];omega
   .have:j.toNat<=xs.length:=by omega
    rw [bj,cq this,<-i,lk,cq (c8 _ this)]
 .have b:j=0:=by simp at d;omega
  subst b;refine ⟨(a,0,0),⟨a,0,0,rfl,by omega,by omega,by omega,by omega,?_⟩,.inr ⟨rfl,by simp,⟨a,rfl⟩,r⟩⟩;show Value.slice a 0 0=_;simp
theorem bJ.apt{i:Int}(k:A.n=1)(h:bJ A e M w v xs R)(hc:dn i (xs.length:Int) xs.length=true):∃p:fy,Pn v i (xs.length:Int) A.n (sl p)/\∃R',(∀b∈R',b∈R)/\bJ A e M w (sl p) (bB xs i (xs.length:Int)) R':=by
 obtain ⟨⟨o,hi⟩,_⟩:=AH.1 hc;have l:bB xs i (xs.length:Int)=xs.drop i.toNat:=by unfold bB;rw [ed];simp
 rw [l];rcases h with ⟨rfl,cells,⟨B,y⟩,m⟩|⟨rfl,rfl,⟨a,rfl⟩,x⟩
 .rcases y with ⟨rfl,s⟩|⟨g,off,cap,cur,rfl,u,c,z,r,q⟩
  .have hx:xs=[]:=cf s;subst hx;have d:i=0:=by simp at hi;omega
   subst d;exact ⟨(none,0,0),⟨none,0,0,rfl,by omega,by omega,by omega,by omega,rfl⟩,_,λb hb=>hb,.inl ⟨rfl,fU.nil⟩⟩
  .by_cases f:cap=i.toNat
   .refine ⟨(some ⟨g,off,none⟩,0,0),⟨_,_,cap,rfl,o,hi,by omega,c,?_⟩,[],(λb hb=>by cases hb),.inr ⟨rfl,q4 (by omega),⟨_,rfl⟩,bO.emp⟩⟩;rw [j5 f];simp only [sl];congr 1 <;> omega
   .have j:(⟨g,off,none⟩:Addr).add (i.toNat*A.n)=⟨g,off+i.toNat*A.n,none⟩:=by unfold Addr.add;split <;> simp_all
    have t:i.toNat*A.n+(cap-i.toNat)*A.n=cap*A.n:=by rw [<-n7];congr 1;omega
    refine ⟨(some ⟨g,off+i.toNat*A.n,none⟩,xs.length-i.toNat,cap-i.toNat),⟨_,_,cap,rfl,o,hi,by omega,c,?_⟩,_,λb hb=>hb,.inl ⟨rfl,cells.drop (i.toNat*A.n),⟨(m.drop _).1,.inr ⟨g,off+i.toNat*A.n,cap-i.toNat,cur,by rw [ch];rfl,u,?_,by omega,⟨by have:=r.1;omega,.inr k⟩,?_⟩⟩,m.drop _⟩⟩
    .rw [gZ f];simp [sl,j]
    .rw [ch];omega
    .rw [ch,<-q,pc,j6,Nat.sub_mul]
 .have d:i=0:=by simp at hi;omega
  subst d;refine ⟨(a,0,0),⟨a,0,0,rfl,by omega,by omega,by simp,by omega,?_⟩,[],λb hb=>hb,.inr ⟨rfl,by simp,⟨a,rfl⟩,x⟩⟩;show Value.slice a 0 0=_;simp
end
section
variable {P : Program} {ρ : vA} {Q : br} {n : Nat} {D : tt} {E : Env} {w : World} {ops : wT} {rest : xa} {Γ : Ctx} {i : Nat}
variable {d : Tmp} {ty : TypeId} {pos : String} {af : w4}
def Kl(P:Program)(t:TypeId)(name:String)(f:FuncId)(b:Bool):Prop:=((P.info? t).bind λi=>(i.methods.find? (·.name==name)).map λm=>(m.path.toList,m.func))=some ([],some (f,b))
def Reach(P:Program)(w:World)(t:TypeId)(u:Value)(name:String)(f:FuncId)(v:Value):Prop:= ∀k,(method (k+1) t u name).run P w= .ok (f,v) w
theorem Kl.out{t:TypeId}{a:String}{f:FuncId}{b:Bool}(h:Kl P t a f b):∃i m,P.info? t=some i/\i.methods.find? (·.name==a)=some m/\m.path.toList=[]/\m.func=some (f,b):=by
 unfold Kl at h;cases hi:P.info? t with
 |none=>rw [hi] at h;cases h
 |some i=>
  rw [hi] at h;simp only [de] at h;cases c:i.methods.find? (·.name==a) with
  |none=>rw [c] at h;cases h
  |some m=>
   rw [c] at h;simp only [hV,b5,n5] at h;exact ⟨i,m,rfl,c,h.1,h.2⟩
theorem Reach.ptr{t e:TypeId}{u:Value}{a:String}{f:FuncId}(h:Kl P t a f true)(b:P.underlying t=some (.pointer e)):Reach P w t u a f u:=λk=>by obtain ⟨i,m,hi,c,hp,d⟩:=h.out;unfold method;simp [typeInfo,hi,c,hp,d,follow,receiverAt,run_underlying b,Place.get]
theorem Reach.load{t e:TypeId}{a:Addr}{u:Value}{b:String}{f:FuncId}(h:Kl P t b f false)(d:P.underlying t=some (.pointer e))(j:(loadVar e a).run P w= .ok u w):Reach P w t (.pointer (some a)) b f u:=λk=>by
 obtain ⟨i,m,hi,g,hp,l⟩:=h.out;have c:m.path= #[]:=by simpa using hp
 have e:∀s:String,Builtin.ssaWrapNilChk_ #[t] t #[.pointer (some a),strVal "",strVal s]=pure (.pointer (some a)):=λ_=>rfl;unfold method;simp [typeInfo,hi,g,l,c,follow,receiverAt,run_underlying d,Place.get,e,asAddr,j]
theorem akZ{g:Bool}{f:FuncId}{r:Operand}{t:TypeId}{u u':Value}{b:String}{vs:vf}{xs:u9}{tys:Array TypeId}{dst:v7}{gd:Option (Nat×Bool)}
  (k:Enters P f) (i:ar E g r (.iface t u)) (j:g=true->Reach P w t u b f u') (c:gw E g xs vs) {a:Act} (e:Fits n E a) (d:g=true):
  (execOp a.eval ⟨dst,.call ⟨.invoke r b,xs.toArray,tys⟩,ty,pos,af,gd⟩).run P w= .ok (.enter f (u'::vs).toArray) w:=by
 have s:(Array.map a.eval xs.toArray)=vs.toArray:=by simp [c.map e d]
 have l:=k (u'::vs).toArray w;have h:=j d (P.types.size+99);have q:P.types.size+99+1=P.types.size+Made.depth:=rfl;rw [q] at h;have p:(#[Value.iface t u]++vs.toArray)[0]? =some (Value.iface t u):=by simp
 have o:(#[Value.iface t u]++vs.toArray).extract 1 (#[Value.iface t u]++vs.toArray).size=vs.toArray:=by simp
 have m:(#[u']++vs.toArray)=(u'::vs).toArray:=by simp
 simp only [execOp,resolve,i n a e d,s,Sem.run_bind,Sem.run_pure,Result.andThen_ok,invoke,p,o,callMethod,run_program,h,m,l]
end
section
variable {P : Program} {w : World}
theorem SJ{α:Type}{A:dB α}{M:Nat->Prop}(t g e:TypeId)(i:TypeInfo)(z:Value)(V:P.underlying t=some (.slice e))(hi:P.info? e=some i)(T:i.zero=some z)(H:i.size=A.n)
  (s:z.cells.size=A.n) {p:Option Addr} {u:Value} {xs ys:List α} (hx:bO A M w (.slice p xs.length xs.length) xs) (U:bO A M w u ys) (o:ys≠[]) (a:aH (xs.length+ys.length) i.bytes=true):
  ∃v' w',(Builtin.append_ #[t,t] g #[.slice p xs.length xs.length,u]).run P w= .ok v' w'/\Ext w w'/\(∀b∈dq v',b<w'.heap.size/\w.heap.size<=b)/\(∀M',Mv M w M' w'->fU A e M' w' v' (xs++ys)):=by
 by_cases k:xs=[]
 .subst k;rcases sh t g e i z V hi T H s hx U (by simpa using a) with ⟨_,h⟩|h
  .exact absurd h o
  .simpa using h
 simp only [aH,ae] at a;have O:=cd a.1;have N:=cd a.2;have hlx:0<xs.length:=List.length_pos_iff.2 k;have hly:0<ys.length:=List.length_pos_iff.2 o;rcases hx with ⟨⟨a0,R⟩,Q⟩|⟨b,off,cap,cs,e',fr,R,hMb,hb,hc,Z,q⟩
 .exact absurd Q k
 rcases U with ⟨_,Q⟩|⟨Y,f,C,S,e2,fr2,rfl,X,B,hc2,W,d⟩
 .exact absurd Q o
 simp only [Value.slice.injEq] at R;obtain ⟨rfl,_,y⟩:=R;subst y;have c:∀{b off cap:Nat} {cs:vc} {e':TypeId} {fr:Nat×Nat} {l:List α},w.heap[b]? =some (.cells cs e' fr)->∀j x,((cs.toList.drop off).take (l.length*A.n))[j]? =some x->w.cell? ((⟨b,off,none⟩:Addr).add j)=some x:=by
  intro b off cap cs e' fr l hb j x r;have key:bK w ⟨b,off,none⟩ ((cs.toList.drop off).take (l.length*A.n)):=⟨rfl,cs,e',fr,hb,λj u r=>by
   rw [gj] at r;split at r
   .simpa [et] using r
   .cases r⟩
  exact key.cell r
 generalize K:(cs.toList.drop off).take (xs.length*A.n)=E at q;generalize J:(S.toList.drop f).take (ys.length*A.n)=D at d;have G:∀j x,E[j]? =some x->w.cell? ((⟨b,off,none⟩:Addr).add j)=some x:=by rw [<-K];exact c (cap:=0) hb
 have F:∀j x,D[j]? =some x->w.cell? ((⟨Y,f,none⟩:Addr).add j)=some x:=by rw [<-J];exact c (cap:=0) B
 have I:=grownCap_ge w (xs.length+ys.length) xs.length e;have L:grownCap w (xs.length+ys.length) xs.length e<=maxLen:=grownCap_le_maxLen w _ _ e (by simpa [maxLen] using N);have v:=run_append_grow (P:=P) w t g e i z V hi T ⟨b,off,none⟩ xs.length xs.length E (by rw [H];exact q.1) G ⟨Y,f,none⟩ ys.length C D (by rw [H];exact d.1) F (by omega) (by omega) (growslice_fits (by omega) O);refine ⟨_,_,v,⟨rfl,rfl,rfl,by simp,λb hb=>heap_alloc_old w.drew _ hb⟩,λb hb=>?_,λM' m=>⟨E++D,?_,(q.append d).mv m⟩⟩
 .have:b=w.heap.size:=by simpa [dq,Value.ownBlock] using hb
  subst this;exact ⟨by simp,bb _⟩
 .refine .of (b:=0) ⟨by rw [cj,q.1,d.1,cj,n7],.inr ⟨w.heap.size,_,_,by rw [cj],p0 _,heap_alloc_new w.drew _,by rw [cj];exact I,L,?_,?_⟩⟩
  .simp only [ql,hW,size_zeroCells,s,q.1,d.1,<-n7];congr 1;omega
  .have hl:(E++D).length=(xs++ys).length*A.n:=by rw [cj,q.1,d.1,cj,n7]
   rw [<-hl];simp only [qN];exact qX
end
section
variable {P : Program} {ρ : vA} {Q : br} {n : Nat} {D : tt} {E : Env} {w : World} {ops : wT} {rest : xa} {Γ : Ctx}
variable {d : Tmp} {ty : TypeId} {pos : String} {af : w4}
theorem bO.al7{α:Type}{A:dB α}{M:Nat->Prop}{v:Value}{xs:List α}{i j:Int}(h:bO A M w v xs)(hc:jC i j j xs.length=true):
  ∃p:Option Addr,Mq v i j j A.n (sl (p,(bB xs i j).length,(bB xs i j).length))/\bO A M w (sl (p,(bB xs i j).length,(bB xs i j).length)) (bB xs i j):=by
 obtain ⟨p,b,a⟩:=bO.apy (g:=true) (λ_=>h) (λ_=>hc);have b:=b rfl;have a:=a rfl;obtain ⟨s,len,cap,hv,z,y,x,u,t,e⟩:=b;obtain ⟨o,pl,m⟩:=p;simp only [sl,Value.slice.injEq] at e;obtain ⟨r,k,f⟩:=e;obtain ⟨B,l,d⟩:=a.len;simp only [sl,Value.slice.injEq] at d;have c:pl=(bB xs i j).length:=d.2.1;have q:m=(bB xs i j).length:=by rw [f,<-c,k]
 subst q;rw [c] at a;refine ⟨o,⟨s,len,cap,hv,z,y,x,u,t,?_⟩,a⟩;simp only [sl,Value.slice.injEq];exact ⟨r,by rw [<-c];exact k,f⟩
end
section
variable {P : Program} {ρ : vA} {Q : br} {n : Nat} {D : tt} {E : Env} {w : World} {ops : wT} {rest : xa} {Γ : Ctx} {g : Bool}
variable {d d2 : Tmp} {ty ty2 : TypeId} {pos pos2 : String} {af af2 : w4}
end
section
variable {P : Program} {ρ : vA} {Q : br} {n : Nat} {D : tt} {E : Env} {w : World} {ops : wT} {rest : xa} {Γ : Ctx}
variable {ty : TypeId} {pos : String} {af : w4}
end
variable {α : Type} {A : dB α} {R : xc} {b : Nat} {e : TypeId} {v : Value} {vs : vf} {x : Operand} {z : Value}
def mh{α:Type}(xs:List α)(i:Int)(ys:List α):List α:=xs.take i.toNat++ys++xs.drop i.toNat
def QP(i:Int)(n:Nat):Bool:=decide (0<=i)&&decide (i<=n)
theorem aln{i:Int}{n:Nat}:QP i n=true↔0<=i/\i<=n:=by simp [QP]
section
variable {P : Program} {E : Env} {w : World} {g : Bool}
variable {dst : v7} {ty : TypeId} {pos : String} {af : w4} {gd : s3}
theorem p9{t ty e k bytes:Nat}(l:P.underlying t=some (.slice e))(g:TI P e k bytes z){b o dl dc:Nat}{cur:vc}{e':TypeId}{a:Addr}{ls sc:Nat}{cs:vf}
  (n:cs.length=Nat.min ls dl*k) (d:∀j v,cs[j]? =some v->w.cell? (a.add j)=some v) (p:w.heap[b]? =some (.cells cur e' (0,0))) (f:o+cs.length<=cur.size) (q:∀v∈cs,v.oneCell'=true):
  (Builtin.copy_ #[t,t] ty #[.slice (some ⟨b,o,none⟩) dl dc,.slice (some a) ls sc]).run P w= .ok (goInt (Nat.min ls dl)) (w.setRow b (cur.toList.take o++cs++cur.toList.drop (o+cs.length)).toArray):=by
 obtain ⟨i,hi,m,_,_⟩:=g.out;have h:=run_loadCells_list (P:=P) w a cs d;rw [n] at h;have c:=run_storeCells_at (P:=P) b o e' cs 0 cur w p (by simpa using f) q;simp only [qg] at c;simp [Builtin.copy_,run_underlying l,sizeOf,typeInfo,hi,m,Builtin.lenOf,Builtin.firstCells,h,c]
theorem Xh{a:Option Addr}{n c:Nat}{t:TypeId}(b:P.underlying t=some (.slice e))(hx:ar E g x (.slice a n c)):
  bf P E g ⟨dst,.call ⟨.builtin .cap,#[x],#[t]⟩,ty,pos,af,gd⟩ w (.int .i64 c):=λn' h f d=>by
 simp [execOp,resolve,invoke,builtin,hx n' h f d,Builtin.cap_,run_underlying b,goInt]
theorem mm{x y:Operand}{b o n c i k bytes:Nat}{d:IntKind}{z:Value}{t e:TypeId}(h:P.underlying t=some (.slice e))(a:TI P e k bytes z)(hx:ar E g x (.slice (some ⟨b,o,none⟩) n c))(f:ar E g y (.int d (i:Int)))
  (q:i<=n) (j:n<=c) (p:i<c):bf P E g ⟨dst,.slice t x (some y) none none,ty,pos,af,gd⟩ w (.slice (some ⟨b,o+i*k,none⟩) (n-i) (c-i)):=by
 refine De (lo:=some y) (hi:=none) h a hx (λ_=>⟨_,_,rfl⟩) ⟨_,f⟩ rfl (λ_=>⟨_,_,_,rfl,by omega,by omega,Int.le_refl _,j,?_⟩);have m:(i:Int).toNat=i:=by omega
 have l:((n:Nat):Int).toNat=n:=by omega
 rw [m,l,gZ (by omega)];simp [Addr.add]
theorem acM{x y:Operand}{a:Option Addr}{n c j k bytes:Nat}{m:IntKind}{z:Value}{t e:TypeId}(l:P.underlying t=some (.slice e))(h:TI P e k bytes z)(hx:ar E g x (.slice a n c))(i:ar E g y (.int m (j:Int)))
  (p:j<=c):bf P E g ⟨dst,.slice t x none (some y) none,ty,pos,af,gd⟩ w (.slice a j c):=by
 obtain ⟨q,hi,r,_,_⟩:=h.out;intro n' f d b;have s:((j:Nat):Int).toNat=j:=by omega
 by_cases hc:c=0
 .subst hc;have o:j=0:=by omega
  subst o;simp [execOp,hx n' f d b,i n' f d b,Instr.sliceAt,Instr.slice,Instr.sliceBounds,Instr.sliceBound,asIntOf,run_underlying l,sizeOf,typeInfo,hi]
 .cases a <;> simp [execOp,hx n' f d b,i n' f d b,Instr.sliceAt,Instr.slice,Instr.sliceBounds,Instr.sliceBound,asIntOf,run_underlying l,sizeOf,typeInfo,hi,p,Addr.add]
theorem agw{f:FuncId}{xs:u9}{tys:Array TypeId}(a:gw E g xs vs)(hc:(callFunc f vs.toArray).run P w= .ok (.value v) w):
  bf P E g ⟨dst,.call ⟨.value (.func f),xs.toArray,tys⟩,ty,pos,af,gd⟩ w v:=λn' e c b=>by
 have d:(Array.map e.eval xs.toArray)=vs.toArray:=by simp [a.map c b]
 simp only [execOp,resolve,Act.eval,Deferred.ofValue,d,Sem.run_bind,Sem.run_pure,Result.andThen_ok,invoke];simpa using hc
theorem OV{y:Operand}{t t':TypeId}{u r:Value}{w':World}(hx:ar E true x u)(c:ar E true y v)(d:(Builtin.append_ #[t,t'] ty #[u,v]).run P w= .ok r w'):
  ky P E ⟨dst,.call ⟨.builtin .append,#[x,y],#[t,t']⟩,ty,pos,af,gd⟩ w r w':=λn a b=>by simp [execOp,resolve,invoke,builtin,hx n a b rfl,c n a b rfl,d]
theorem wV{y:Operand}{t t':TypeId}{u r:Value}{w':World}(hx:ar E true x u)(c:ar E true y v)(d:(Builtin.copy_ #[t,t'] ty #[u,v]).run P w= .ok r w'):
  ky P E ⟨dst,.call ⟨.builtin .copy,#[x,y],#[t,t']⟩,ty,pos,af,gd⟩ w r w':=λn a b=>by simp [execOp,resolve,invoke,builtin,hx n a b rfl,c n a b rfl,d]
end
section
variable {w : World}
theorem cell_of_heap{cur:vc}{fr:Nat×Nat}(hb:w.heap[b]? =some (.cells cur e fr))(o:Nat)(l:vf)(c:l=(cur.toList.drop o).take l.length):∀j v,l[j]? =some v->w.cell? ((⟨b,o,none⟩:Addr).add j)=some v:=by
 intro j v a;have key:bK w ⟨b,o,none⟩ l:=⟨rfl,cur,e,fr,hb,λj u a=>by
  rw [c,gj] at a;split at a
  .simpa [et] using a
  .cases a⟩
 exact key.cell a
theorem jh.trans{C:xc}{a b c:World}(h:jh C a b)(k:jh C b c):jh C a c:=⟨k.os.trans h.os,k.tape.trans h.tape,k.output.trans h.output,ca h.size k.size,λi hi d=>(k.block i (cx hi h.size) d).trans (h.block i hi d)⟩
theorem uj(b:Nat)(row:vc):jh [b] w (w.setRow b row):=⟨rfl,rfl,rfl,by simp,λc _ a=>setRow_other w b c _ (by simpa using a)⟩
theorem ahV{l:vf}{a n c:Nat}(ha:a<=n)(hb:vs.length=b)(hc:n+b<=c)(j:l.length=c):
  let d:=l.take (a+b)++(l.drop a).take (n-a)++l.drop (a+b+((l.drop a).take (n-a)).length);let e:=d.take a++vs++d.drop (a+vs.length)
  d.length=c/\e.length=c/\e.take (n+b)=(l.take n).take a++vs++(l.take n).drop a:=by
 intro d e;have i:((l.drop a).take (n-a)).length=n-a:=by rw [bj,ch];omega
 have f:d.length=c:=by simp only [d,cj,bj,ch,i];omega
 have h:e.length=c:=by simp only [e,cj,bj,ch,f];omega
 refine ⟨f,h,?_⟩;have t1:d.take a=(l.take n).take a:=by simp only [d];rw [aO,n3 (by rw [bj];omega),lk,lk,cq (by omega),cq ha]
 have t2:(d.drop (a+vs.length)).take (n-a)=(l.take n).drop a:=by simp only [d];rw [aO,q6,hb];rw [mo (by rw [bj];omega),oi,bj,cq (by omega),Nat.sub_self,l9,n3 (by omega),ed (by omega),pc]
 simp only [e];rw [t1];have g:((l.take n).take a++vs).length=a+b:=by rw [cj,bj,bj];omega
 rw [qJ,ed (by omega),g,show n+b-(a+b)=n-a by omega,t2]
theorem ajZ{l z:vf}{a n:Nat}(ha:a<=n)(hb:vs.length=b)(g:l.length=n)(j:n+b<=a+z.length):
  let c:=l.take a++z;let d:=c.take a++vs++c.drop (a+vs.length);let e:=d.take (a+b)++l.drop a++d.drop (a+b+(l.drop a).length)
  d.length=c.length/\e.length=c.length/\e.take (n+b)=l.take a++vs++l.drop a:=by
 intro c d e;have k:c.length=a+z.length:=by simp only [c,cj,bj];omega
 have hd:(l.drop a).length=n-a:=by rw [ch,g]
 have i:d.length=c.length:=by simp only [d,cj,bj,ch];omega
 have h:e.length=c.length:=by simp only [e,cj,bj,hd,ch];omega
 refine ⟨i,h,?_⟩;have f:c.take a=l.take a:=by simp only [c];rw [n3 (by rw [bj];omega),lk,Nat.min_self]
 have t1:d.take (a+b)=l.take a++vs:=by
  simp only [d];rw [f];have:(l.take a++vs).length=a+b:=by rw [cj,bj];omega
  rw [n3 (by omega),ed (by omega)]
 simp only [e];rw [t1];have:(l.take a++vs++l.drop a).length=n+b:=by rw [cj,cj,bj,hd];omega
 rw [n3 (by omega),ed (by omega)]
end
section
variable {P : Program} {w : World}
theorem agR{M:Nat->Prop}{u:Value}{t ty:TypeId}{bytes:Nat}(s:P.underlying t=some (.slice e))(k:TI P e A.n bytes z)
  (d:z.cells.size=A.n) (i:0<A.n) {xs ys:List α} (l:bJ A e M w v xs R) (f:bO A M w u ys) (C:∀b∈R,M b) (a:aH (xs.length+ys.length) bytes=true):
  ∃c R' w',(Builtin.append_ #[t,t] ty #[v,u]).run P w= .ok c w'/\jh R w w'/\(∀b∈R',b<w'.heap.size/\(b∈R\/w.heap.size<=b))/\∀M',Mv M w M' w'->bJ A e M' w' c (xs++ys) R':=by
 obtain ⟨q,j,x,o,r⟩:=k.out;subst o;rcases l with ⟨rfl,l⟩|⟨rfl,rfl,⟨a0,rfl⟩,g⟩
 .obtain ⟨c,w',h,E,B,p⟩:=Fc t ty e q z s j r x d l f C a i;exact ⟨c,dq c,w',h,E,B,λM' m=>bJ.of (p M' m)⟩
 .rcases sh t ty e q z s j r x d g f (by simpa using a) with ⟨h,rfl⟩|⟨c,w',h,D,y,p⟩
  .exact ⟨_,[],w,h,(Ext.refl w).pZ _,(λb hb=>by cases hb),λM' m=>bJ.empty (g.mv m)⟩
  .exact ⟨c,dq c,w',h,D.pZ _,(λb hb=>⟨(y b hb).1,.inr (y b hb).2⟩),λM' m=>bJ.of (by simpa using p M' m)⟩
theorem bJ.shape{M:Nat->Prop}{xs:List α}(h:bJ A e M w v xs R):∃p c,v= .slice p xs.length c/\xs.length<=c:=by
 rcases h with ⟨_,cells,⟨_,b⟩,_⟩|⟨_,rfl,⟨a,rfl⟩,_⟩
 .rcases b with ⟨rfl,d⟩|⟨g,off,cap,cur,rfl,_,hc,_⟩
  .exact ⟨none,0,by rw [d],by omega⟩
  .exact ⟨_,_,rfl,hc⟩
 .exact ⟨a,0,rfl,bb _⟩
theorem bJ.row{M:Nat->Prop}{xs:List α}(h:bJ A e M w v xs R)(hx:xs≠[]):
  ∃b off c cur,v= .slice (some ⟨b,off,none⟩) xs.length c/\R=[b]/\w.heap[b]? =some (.cells cur e (0,0))/\xs.length<=c/\c<=maxLen/\(off+c*A.n=cur.size/\(off=0\/A.n=1))/\cK A M w ((cur.toList.drop off).take (xs.length*A.n)) xs:=by
 rcases h with ⟨k,cells,⟨_,l⟩,f⟩|⟨_,h,_⟩
 .rcases l with ⟨_,m⟩|⟨g,off,cap,cur,rfl,j,hc,i,d,a⟩
  .exact absurd (cf m) hx
  .exact ⟨g,off,cap,cur,rfl,by rw [k];rfl,j,hc,i,d,by rw [a];exact f⟩
 .exact absurd h hx
theorem bJ.mk_{M:Nat->Prop}{xs:List α}{off c:Nat}{cur:vc}(g:w.heap[b]? =some (.cells cur e (0,0)))(hc:xs.length<=c)(f:c<=maxLen)(d:off+c*A.n=cur.size/\(off=0\/A.n=1))(a:cK A M w ((cur.toList.drop off).take (xs.length*A.n)) xs):
  bJ A e M w (.slice (some ⟨b,off,none⟩) xs.length c) xs [b]:= .inl ⟨rfl,_,⟨a.1,.inr ⟨b,off,c,cur,rfl,g,hc,f,d,rfl⟩⟩,a⟩
theorem bJ.apg{M:Nat->Prop}{xs:List α}(h:bJ A e M w v xs R)(j:A.n≠1)(hx:xs≠[]):
  ∃b c cur,v= .slice (some ⟨b,0,none⟩) xs.length c/\R=[b]/\w.heap[b]? =some (.cells cur e (0,0))/\xs.length<=c/\c<=maxLen/\cur.size=c*A.n/\cK A M w (cur.toList.take (xs.length*A.n)) xs:=by
 obtain ⟨b,off,c,cur,hv,i,g,hc,f,a,d⟩:=h.row hx;have k:off=0:=a.2.resolve_right j;subst k;exact ⟨b,c,cur,hv,i,g,hc,f,by have:=a.1;omega,by simpa using d⟩
theorem bJ.mk0{M:Nat->Prop}{xs:List α}{c:Nat}{cur:vc}(f:w.heap[b]? =some (.cells cur e (0,0)))(hc:xs.length<=c)(d:c<=maxLen)(g:cur.size=c*A.n)(a:cK A M w (cur.toList.take (xs.length*A.n)) xs):
  bJ A e M w (.slice (some ⟨b,0,none⟩) xs.length c) xs [b]:=bJ.mk_ f hc d ⟨by omega,.inl rfl⟩ (by simpa using a)
theorem ajN{α:Type}{xs ys:List α}{i:Nat}(h:i<=xs.length):(mh xs (i:Int) ys).length=xs.length+ys.length:=by unfold mh;simp only [cj,bj,ch,qn];omega
theorem ajG{xs ys:List α}:mh xs (xs.length:Int) ys=xs++ys:=by unfold mh;simp
theorem aeo{α:Type}{A:dB α}{M:Nat->Prop}{a b:vf}{xs ys:List α}{i:Nat}(hx:cK A M w a xs)(c:cK A M w b ys):cK A M w (a.take (i*A.n)++b++a.drop (i*A.n)) (mh xs (i:Int) ys):=by unfold mh;rw [qn];exact ((hx.take i).append c).append (hx.drop i)
end
variable {E' : Env} {ps : Array Tmp} {r : LoopState -> Option Code -> Loop}
def sk(b:Nat)(o:Obj):Item where
 own:=[b]
 P _ w:=w.heap[b]? =some o
 lt h c hc:=by
  have:c=b:=by simpa using hc
  subst this;exact (Array.getElem?_eq_some_iff.1 h).1
 cJ h _ k _:=(k b (by simp)).trans h
 cE:=false
 hp h:=by cases h
def pack{γ:Type}(Γ:γ->Ctx)(R:xc):Item where
 own:=R
 P M w:=(∀b∈R,b<w.heap.size)/\∃g,(∀b,(Γ g).M b↔b∈R)/\(∀it,it∈Γ g->it.P M w)/\
  (∀(i j:Nat) (it jt:Item),(Γ g)[i]? =some it->(Γ g)[j]? =some jt->i≠j->∀b,b∈it.own->b∉jt.own)
 lt h:=h.1
 cJ {M M' w w'} h m k e:=by obtain ⟨h1,g,h2,h3,h4⟩:=h;exact ⟨λb hb=>cx (h1 b hb) m.1,g,h2,λit hi=>it.cJ (h3 it hi) m (λb hb=>k b ((h2 b).1 ⟨it,hi,hb⟩)) e,h4⟩
 cE:=false
 hp h:=by cases h
structure Rec(n:Nat)(E:Env)(ps:Array Tmp)(assign body:Code)(b:Nat)(r:LoopState->Option Code->Loop):Prop where
 ex:∃fn tmps,Fits n E { tmps:=tmps,defers:=[] }/\r=λst pe=>{ state:=st,pending:=pe,fn,tmps,params:=ps,assign,body,defers:=b }
abbrev dw(l:Nat)(r:LoopState->Option Code->Loop)(st:LoopState)(pe:Option Code):Item:=sk l (.loop (r st pe))
def mk(ds:xc):tt:=ds.map λb=>{ target:= .collected b,args:= #[] }
def dH(ds:xc):Item where
 own:=ds
 P _ w:=ds.Nodup/\∀b∈ds,w.heap[b]? =some (.deferred (some []))
 lt h b hb:=(Array.getElem?_eq_some_iff.1 (h.2 b hb)).1
 cJ h _ k _:=⟨h.1,λb hb=>(k b hb).trans (h.2 b hb)⟩
 cE:=false
 hp h:=by cases h
section
variable {P : Program} {n : Nat} {D : tt} {E : Env} {w : World} {Γ : Ctx} {Q : br}
theorem Sat.anL(a:Sat Γ w):Sat (dH []::Γ) w:=a.push (Ext.refl w) (λb hb=>by cases hb) (λ_ _=>⟨List.nodup_nil,λb hb=>by cases hb⟩)
theorem Sat.Oj{b:Nat}{ds:xc}(e:Sat (sk b (.deferred (some []))::dH ds::Γ) w):Sat (dH (b::ds)::Γ) w:=by
 have n:w.heap[b]? =some (.deferred (some [])):=e.at_ (i:=0) rfl;have k:ds.Nodup/\∀b∈ds,w.heap[b]? =some (.deferred (some [])):=e.at_ (i:=1) rfl;have m:b∉ds:=e.sep 0 1 _ _ rfl rfl (by omega) b (by simp [sk]);have l:∀c,Ctx.M (sk b (.deferred (some []))::dH ds::Γ) c↔Ctx.M (dH (b::ds)::Γ) c:=λc=>by
  simp only [Ctx.AY,sk,dH,qv,List.not_mem_nil,or_false];constructor
  .rintro (h|h|h)
   .exact .inl (.inl h)
   .exact .inl (.inr h)
   .exact .inr h
  .rintro ((h|h)|h)
   .exact .inl h
   .exact .inr (.inl h)
   .exact .inr (.inr h)
 have mv:Mv (Ctx.M (sk b (.deferred (some []))::dH ds::Γ)) w (Ctx.M (dH (b::ds)::Γ)) w:=Mv.weaken w (λc hc=>(l c).2 hc);have a:∀(j:Nat) (jt:Item) (c:Nat),Γ[j]? =some jt->c∈b::ds->c∉jt.own:=λj jt c d hc=>by
  rcases List.mem_cons.1 hc with rfl|hc
  .exact e.sep 0 (j+2) _ jt rfl (by simpa using d) (by omega) c (by simp [sk])
  .exact e.sep 1 (j+2) _ jt rfl (by simpa using d) (by omega) c hc
 refine ⟨λit hi=>?_,λi j it jt hi d g c hc f=>?_⟩
 .rcases List.mem_cons.1 hi with rfl|hi
  .refine ⟨List.nodup_cons.2 ⟨m,k.1⟩,λc hc=>?_⟩;rcases List.mem_cons.1 hc with rfl|hc
   .exact n
   .exact k.2 c hc
  .exact it.cJ (e.all it (aW _ (aW _ hi))) mv (λ_ _=>rfl) (fL.refl w)
 .cases i with
  |zero=>
   simp only [c5,b5] at hi;subst hi;cases j with
   |zero=>exact g rfl
   |succ j=>simp only [b9] at d;exact a j jt c d hc f
  |succ i=>
   simp only [b9] at hi;cases j with
   |zero=>
    simp only [c5,b5] at d;subst d;exact a i it c hi f hc
   |succ j=>
    simp only [b9] at d;exact e.sep (i+2) (j+2) it jt (by simpa using hi) (by simpa using d) (by omega) c hc f
theorem Sat.putObj{i b:Nat}{o d:Obj}(g:Sat Γ w)(hi:Γ[i]? =some (sk b o)):Sat (Γ.set i (sk b d)) (w.putObj b d):=by
 have hb:w.heap[b]? =some o:=g.at_ hi;have a:=(Array.getElem?_eq_some_iff.1 hb).1;have f:(w.putObj b d).heap[b]? =some d:=World.putObj_heap_same a;refine g.mF hi ⟨rfl,rfl,rfl,by simp,λc _ e=>World.putObj_heap_other (by simpa [sk] using e)⟩ (λc hc=>?_) (λ_ _ _=>f);have:c=b:=by simpa [sk] using hc
 subst this;exact ⟨by simpa using a,.inl (by simp [sk])⟩
def jU(P:Program)(ρ:vA)(l n:Nat)(D:tt)(Q:br)(E:Env)(_v:Value)(w:World):Prop:=
 ∃j w',(Instr.endLoop l).run P w= .ok j w'/\match j with
  |none=>At Q .normal n D E w'
  |some c=>WC P ρ c Q n D E w'
theorem jU.go{l:Nat}{assign body:Code}(c:Rec n E' ps assign body b r)(a:Sat (dw l r .ready none::Γ) w)
  (h:∀w',Sat Γ w'->At Q .normal n D E w'):jU P none l n D Q E v w:=by
 obtain ⟨fn,tmps,_,rfl⟩:=c.ex;have d:w.heap[l]? =some _:=a.at_ (i:=0) rfl;refine ⟨_,_,run_endLoop d (by simp),?_⟩;refine h _ ((a.putObj (i:=0) rfl).re 1 [] rfl)
theorem jU.jump{l:Nat}{assign body:Code}{c:Code}(d:Rec n E' ps assign body b r)(a:Sat (dw l r .done (some c)::Γ) w)
  (h:∀w',Sat Γ w'->WC P none c Q n D E w'):jU P none l n D Q E v w:=by
 obtain ⟨fn,tmps,_,rfl⟩:=d.ex;have e:w.heap[l]? =some _:=a.at_ (i:=0) rfl;refine ⟨_,_,run_endLoop e (by simp),?_⟩;exact h _ ((a.putObj (i:=0) rfl).re 1 [] rfl)
def Yld(P:Program)(l:Nat)(vs:vf)(w:World)(S:Value->World->Prop):Prop:=
 ∃fn tmps assign body,(Instr.yield l vs.toArray).run P w= .ok (.round l fn tmps assign body) w/\RoundIn (FW none) 0 P l fn tmps assign body w (RE S (λ_ _=>False))
def aaD:List Tmp->vf->Env->Env
 |p::ps,v::vs,E=>aaD ps vs ((p,true,v)::E)
 |_,_,E=>E
theorem abo:∀(ps:List Tmp) (vs:vf) {E:Env} {tmps:vc},ps.all (λp=>Nat.blt p n)=true->Fits n E { tmps:=tmps,defers:=[] }->
  Fits n (aaD ps vs E) { tmps:=(ps.zip vs).foldl (λt (p,v)=>t.setIfInBounds p v) tmps,defers:=[] }
 |[],_,_,_,_,h=>h
 |_::_,[],_,_,_,h=>h
 |p::ps,v::vs,E,tmps,hp,h=>by simp only [qF,ae] at hp;have:=h.put (g:=true) (v:=v) hp.1;exact abo ps vs hp.2 this
def aif(P:Program)(l:Nat)(body:Code)(Q:br):Act->World->Prop:=λa w=>∃w',(Instr.beginRound l).run P w= .ok () w'/\body.wpIn (FW (some l)) 0 P Q a w'
theorem ao0{l:Nat}{ps:List Tmp}{assign body:Code}{S:Value->World->Prop}
  (g:Rec n E ps.toArray assign body b r) (f:Sat (dw l r .ready none::Γ) w) (j:Nat.beq vs.length ps.length=true) (hp:ps.all (λp=>Nat.blt p n)=true)
  (h:WC P (some l) assign (Exit.then (aif P l body (roundPost P l (RE S (λ_ _=>False)))) (λ_ _ _=>False)) n [] (aaD ps vs E) w):Yld P l vs w S:=by
 obtain ⟨fn,tmps,k,rfl⟩:=g.ex;have m:w.heap[l]? =some _:=f.at_ (i:=0) rfl;have c:vs.length=ps.length:=ah j;refine ⟨fn,_,assign,body,run_yield m (by simp [c]),roundIn_of_wpIn trivial ?_⟩;have d:=abo ps vs hp k;have e:((ps.toArray.zip vs.toArray).foldl (λtmps (t,a)=>tmps.setIfInBounds t a) tmps)=((ps.zip vs).foldl (λt (p,v)=>t.setIfInBounds p v) tmps):=by simp
 have:=h _ d rfl;rw [<-e] at this;exact this
theorem ak8{l i:Nat}{assign body:Code}(d:Rec n E' ps assign body b r)(c:Sat Γ w)(hi:Γ[i]? =some (dw l r .ready none))
  (h:∀w',Sat (Γ.set i (dw l r .busy none)) w'->WC P (some l) body Q n D E w'):At (Exit.then (aif P l body Q) (λ_ _ _=>False)) .normal n D E w:=λa e hd=>by
 obtain ⟨fn,tmps,_,rfl⟩:=d.ex;have f:w.heap[l]? =some _:=c.at_ hi;exact ⟨_,run_beginRound f rfl,h _ (c.putObj hi) a e hd⟩
theorem alG{l i:Nat}{assign body:Code}{S:Value->World->Prop}{Sp:tj->World->Prop}(d:Rec n E' ps assign body b r)(c:Sat Γ w)(hi:Γ[i]? =some (dw l r .busy none))
  (h:∀w',Sat (Γ.set i (dw l r .ready none)) w'->S (.bool true) w'):At (roundPost P l (RE S Sp)) .normal n D E w:=λa f hd=>by
 obtain ⟨fn,tmps,_,rfl⟩:=d.ex;have e:w.heap[l]? =some _:=c.at_ hi;exact ⟨_,_,run_endRound none e,h _ (c.putObj hi)⟩
theorem ZR{l i:Nat}{assign body:Code}{S:Value->World->Prop}{Sp:tj->World->Prop}(d:Rec n E' ps assign body b r)(c:Sat Γ w)(hi:Γ[i]? =some (dw l r .busy none))
  (h:∀w',Sat (Γ.set i (dw l r .done (some .ret))) w'->S (.bool false) w'):At (roundPost P l (RE S Sp)) .ret n D E w:=λa f hd=>by
 obtain ⟨fn,tmps,_,rfl⟩:=d.ex;have e:w.heap[l]? =some _:=c.at_ hi;exact ⟨_,_,run_endRound (some .ret) e,h _ (c.putObj hi)⟩
theorem Yt{l i k:Nat}{assign body:Code}{S:Value->World->Prop}{Sp:tj->World->Prop}(d:Rec n E' ps assign body b r)(c:Sat Γ w)(hi:Γ[i]? =some (dw l r .busy none))
  (h:∀w',Sat (Γ.set i (dw l r .done (some (.exit k)))) w'->S (.bool false) w'):At (roundPost P l (RE S Sp)) (.exit k) n D E w:=λa f hd=>by
 obtain ⟨fn,tmps,_,rfl⟩:=d.ex;have e:w.heap[l]? =some _:=c.at_ hi;exact ⟨_,_,run_endRound (some (.exit k)) e,h _ (c.putObj hi)⟩
theorem Ys{l i k:Nat}{assign body:Code}{S:Value->World->Prop}{Sp:tj->World->Prop}(d:Rec n E' ps assign body b r)(c:Sat Γ w)(hi:Γ[i]? =some (dw l r .busy none))
  (h:∀w',Sat (Γ.set i (dw l r .done (some (.goto k)))) w'->S (.bool false) w'):At (roundPost P l (RE S Sp)) (.goto k) n D E w:=λa f hd=>by
 obtain ⟨fn,tmps,_,rfl⟩:=d.ex;have e:w.heap[l]? =some _:=c.at_ hi;exact ⟨_,_,run_endRound (some (.goto k)) e,h _ (c.putObj hi)⟩
end
section
variable {P : Program} {ρ : vA} {Q : br} {n : Nat} {D : tt} {E : Env} {w : World} {ops : wT} {rest : xa} {Γ : Ctx}
theorem akR{l:Nat}{fo:Operand}{xs:u9}{tys:Array TypeId}{d:Tmp}{ty:TypeId}{pos:String}{af:w4}{S:Value->World->Prop}
  (f:ar E true fo (.func (.yield l) #[] #[])) (b:gw E true xs vs) (k:Nat.blt d n=true) (j:Yld P l vs w S)
  (h:∀v w',S v w'->WL P ρ ops Q n D rest ((d,true,v)::E) w'):WL P ρ ops Q n D (⟨some d,.call ⟨.value fo,xs.toArray,tys⟩,ty,pos,af,none⟩::rest) E w:=λa g o=>
 wpListIn_plain rfl λK m=>jT rfl (by
  obtain ⟨fn,tmps,assign,body,q,p⟩:=j;have s:(Array.map a.eval xs.toArray)=vs.toArray:=by simp [b.map g rfl]
  have r:(execOp a.eval ⟨some d,.call ⟨.value fo,xs.toArray,tys⟩,ty,pos,af,none⟩).run P w= .ok (.round l fn tmps assign body) w:=by simp only [execOp,resolve,f n a g rfl,Deferred.ofValue,s,Sem.run_bind,Sem.run_pure,Result.andThen_ok,invoke];simpa using q
  rw [r,Oper.uponIn_round];refine ⟨G4,RoundIn.mono (F:=FW ρ) p λe w' i=>?_⟩;cases e with
  |returned v=>exact m _ _ (h v w' i _ (g.put k) o)
  |panicked c=>exact i.elim
  |outgrown=>exact i.elim)
theorem Qm{fn:Func}{S:Value->World->Prop}{Sp:tj->World->Prop}:∀(ds:xc) {w:World},Sat (dH ds::Γ) w->
  (∀w',Sat Γ w'->At (BP P fn S Sp) .ret n [] E w')->At (BP P fn S Sp) .ret n (mk ds) E w
 |[],w,hs,h=>h w (hs.re 1 [] rfl)
 |b::ds,w,hs,h=>λa k hd=>by
  have d:(b::ds).Nodup/\∀c∈b::ds,w.heap[c]? =some (.deferred (some [])):=hs.at_ (i:=0) rfl;have hb:=d.2 b (b0 ..);have g:b∉ds:=(List.nodup_cons.1 d.1).1;have l:=(Array.getElem?_eq_some_iff.1 hb).1;have f:Sat ((dH (b::ds)::Γ).set 0 (dH ds)) (w.putObj b (.deferred none)):=by
   refine hs.mF (i:=0) rfl ⟨rfl,rfl,rfl,by simp,λc _ j=>World.putObj_heap_other (λe=>j (by subst e;exact b0 ..))⟩ (λc hc=>⟨?_,.inl (aW _ hc)⟩) (λ_ _ _=>?_)
   .have:=(Array.getElem?_eq_some_iff.1 (d.2 c (aW _ hc))).1;simpa using this
   .exact ⟨(List.nodup_cons.1 d.1).2,λc hc=>(World.putObj_heap_other (λe=>g (by subst e;exact hc))).trans (d.2 c (aW _ hc))⟩
  have m:=Qm ds f h { a with defers:=mk ds } ⟨k.size,k.at_⟩ rfl;show LeavesInM (FW none) 0 P fn a.tmps (RE S Sp) a.defers .returning w;rw [hd];exact ⟨by simp,.inl ⟨b,_,rfl,run_takeDeferred hb,m⟩⟩
theorem ZV{fn:Func}{S:Value->World->Prop}{Sp:tj->World->Prop}(ds:xc)(a:Sat (dH ds::Γ) w)
  (h:∀w',Sat Γ w'->At (BP P fn S Sp) .normal n [] E w'):At (BP P fn S Sp) .normal n (mk ds) E w:=Qm (fn:=fn) (S:=S) (Sp:=Sp) ds a h
end
variable {t' : TypeId} {y : Operand}
section
variable {P : Program} {E : Env} {w : World} {g : Bool}
variable {dst : v7} {ty : TypeId} {pos : String} {af : w4} {gd : s3}
abbrev yQ(f:Bool)(b:Nat):Value:= .pointer (bif f then some ⟨b,0,none⟩ else none)
theorem af1{t:TypeId}{f:Bool}(c:P.underlying t=some (.pointer e))(hx:ar E g x (yQ f b))(a:ar E g y (.pointer none)):
  bf P E g ⟨dst,.binOp .eql t x y t',ty,pos,af,gd⟩ w (.bool (!f)):=
 ct (P:=P) hx a (by
  rw [Sem.run_bind,dA rfl,Result.andThen_ok];have h:∀d:Nat,(Op.equalIn (d+1) t (yQ f b) (.pointer none)).run P w= .ok (!f) w:=λd=>by cases f <;> simp [Op.equalIn,run_underlying c,yQ]
  simp only [binOp];simp [Op.equal,Op.maxDepth,h 9999])
theorem afP{t:TypeId}{f:Bool}{n bytes:Nat}(c:P.underlying t=some (.pointer e))(a:TI P e n bytes z)(hx:ar E g x (yQ f b))(i:ar E g y (.pointer (some ⟨b,0,none⟩))):
  bf P E g ⟨dst,.binOp .neq t x y t',ty,pos,af,gd⟩ w (.bool (!f)):=
 ct (P:=P) hx i (by
  rw [Sem.run_bind,dA rfl,Result.andThen_ok];obtain ⟨j,k,_⟩:=a.out;cases f
  .have h:∀d:Nat,(Op.equalIn (d+1) t (.pointer none) (.pointer (some ⟨b,0,none⟩))).run P w= .ok false w:=λd=>by simp [Op.equalIn,run_underlying c]
   show (binOp .neq t (.pointer none) (.pointer (some ⟨b,0,none⟩))).run P w=_;simp only [binOp];simp [Op.equal,Op.maxDepth,h 9999]
  .exact Lib.run_neq_ptr_same w _ c k)
theorem Sf{κ ν:Type}{ke:κ->Value}{vi:ν->Value}{t kt j:TypeId}{o:vA}{dd:Option (List (κ×ν))}(c:P.underlying t=some (.map kt j))(hx:ar E g x (.map o))(f:ar E g y (.map none))(i:nc ke vi w (.map o) dd):
  bf P E g ⟨dst,.binOp .eql t x y t',ty,pos,af,gd⟩ w (.bool (Option.isNone dd)):=
 ct (P:=P) hx f (by
  rw [Sem.run_bind,dA rfl,Result.andThen_ok];rcases i with ⟨e,rfl⟩|⟨b,k,a,l,e,rfl,_,_⟩
  .cases e;have h:∀d:Nat,(Op.equalIn (d+1) t (.map none) (.map none)).run P w= .ok true w:=λd=>by simp [Op.equalIn,run_underlying c]
   simp only [binOp];simp [Op.equal,Op.maxDepth,h 9999]
  .cases e;have h:∀d:Nat,(Op.equalIn (d+1) t (.map (some b)) (.map none)).run P w= .ok false w:=λd=>by simp [Op.equalIn,run_underlying c]
   simp only [binOp];simp [Op.equal,Op.maxDepth,h 9999])
theorem RM{κ ν:Type}{ke:κ->Value}{vi:ν->Value}{t kt j:TypeId}{o:vA}{dd:Option (List (κ×ν))}(c:P.underlying t=some (.map kt j))(hx:ar E g x (.map o))(f:ar E g y (.map none))(i:nc ke vi w (.map o) dd):
  bf P E g ⟨dst,.binOp .neq t x y t',ty,pos,af,gd⟩ w (.bool (!(Option.isNone dd))):=
 ct (P:=P) hx f (by
  rw [Sem.run_bind,dA rfl,Result.andThen_ok];rcases i with ⟨e,rfl⟩|⟨b,k,a,l,e,rfl,_,_⟩
  .cases e;have h:∀d:Nat,(Op.equalIn (d+1) t (.map none) (.map none)).run P w= .ok true w:=λd=>by simp [Op.equalIn,run_underlying c]
   simp only [binOp];simp [Op.equal,Op.maxDepth,h 9999]
  .cases e;have h:∀d:Nat,(Op.equalIn (d+1) t (.map (some b)) (.map none)).run P w= .ok false w:=λd=>by simp [Op.equalIn,run_underlying c]
   simp only [binOp];simp [Op.equal,Op.maxDepth,h 9999])
theorem adw{t kt c:TypeId}(b:P.underlying t=some (.map kt c))(hx:ar E g x (.map none))(a:ar E g y (.map none)):
  bf P E g ⟨dst,.binOp .eql t x y t',ty,pos,af,gd⟩ w (.bool true):=Sf (κ:=Unit) (ν:=Unit) (ke:=λ_=>undef) (vi:=λ_=>undef) (dd:=none) b hx a (.inl ⟨rfl,rfl⟩)
theorem adp{t kt c:TypeId}(b:P.underlying t=some (.map kt c))(hx:ar E g x (.map none))(a:ar E g y (.map none)):
  bf P E g ⟨dst,.binOp .neq t x y t',ty,pos,af,gd⟩ w (.bool false):=RM (κ:=Unit) (ν:=Unit) (ke:=λ_=>undef) (vi:=λ_=>undef) (dd:=none) b hx a (.inl ⟨rfl,rfl⟩)
theorem ach{s d e':TypeId}{n bytes:Nat}(h:P.underlying s=some (.pointer e))(hd:P.underlying d=some .unsafePointer)(c:TI P e n bytes z)(i:Nat.blt 0 n=true)
  (hx:ar E g x (.pointer (some ⟨b,0,none⟩))) (hb:eD w b e' vs) (hv:Nat.blt 0 vs.length=true):bf P E g ⟨dst,.convert s d x,ty,pos,af,gd⟩ w (.pointer (some ⟨b,0,none⟩)):=
 λn' a o m=>by
  obtain ⟨j,l,k,_⟩:=c.out;have f:w.shape? b=some (e',vs.toArray.size):=by unfold World.shape?;rw [show w.heap[b]? =_ from hb]
  have q:0<n:=by simpa using i
  have p:0<vs.length:=by simpa using hv
  have:=Lib.run_to_unsafe (P:=P) w (cells:=vs.toArray.size) (⟨b,0,none⟩:Addr) h hd l (by omega) f (by simpa using p);simp [execOp,hx n' a o m,this]
theorem VB{s d e':TypeId}{n bytes:Nat}(h:P.underlying s=some .unsafePointer)(hd:P.underlying d=some (.pointer e))(c:TI P e n bytes z)
  (hx:ar E g x (.pointer (some ⟨b,0,none⟩))) (hb:eD w b e' vs) (i:liesAt P P.depth e' (vs.length/P.cellsOf e') 0 e 1=true):bf P E g ⟨dst,.convert s d x,ty,pos,af,gd⟩ w (.pointer (some ⟨b,0,none⟩)):=
 λn' a o m=>by
  obtain ⟨j,l,k,_⟩:=c.out;have f:w.shape? b=some (e',vs.length):=by unfold World.shape?;rw [show w.heap[b]? =_ from hb];simp
  have:=Lib.run_from_unsafe (P:=P) w (⟨b,0,none⟩:Addr) h hd l f i;simp [execOp,hx n' a o m,this]
def alH(P:Program)(f:FuncId):Prop:= ∀(v:Value) (w:World),(callFunc f #[v]).run P w= .ok (.value v) w
theorem akb{f:FuncId}{tys:Array TypeId}(d:alH P f)(hx:ar E g x v):bf P E g ⟨dst,.call ⟨.value (.func f),#[x],tys⟩,ty,pos,af,gd⟩ w v:=
 λn' a c b=>by have:=d v w;have e:a.eval (.func f)= .func (.func f) #[] #[]:=rfl;simp only [execOp,resolve,e,Deferred.ofValue,Sem.run_bind,Sem.run_pure,Result.andThen_ok,invoke];simpa [hx n' a c b] using this
end
theorem agu(s:aF):Lib.strCells ⟨s.toArray⟩=s.map λb=>Value.int .u8 (b.toNat:Int):=by simp [Lib.strCells]
theorem IP{M:Nat->Prop}{w:World}:∀s:aF,cK (RI .u8) M w (Lib.strCells ⟨s.toArray⟩) (bL s):=λs=>by rw [agu];exact JX s
theorem fa(s:aF):(bL s).length=s.length:=by simp [bL]
section
variable {P : Program} {w : World} {M : Nat -> Prop}
theorem Qd(t u ty e:TypeId)(i:TypeInfo)(k:P.underlying t=some (.slice e))(j:P.underlying u=some .string)(hi:P.info? e=some i)(h:i.size=1)
  (g off a b:Nat) (cur:vc) (l:w.heap[g]? =some (.cells cur e (0,0))) (s:ByteArray)
  (c:a+s.size<=b) (f:off+a+s.size<=cur.size):
  (Builtin.append_ #[t,u] ty #[.slice (some ⟨g,off,none⟩) a b,.string s]).run P w=
   .ok (.slice (some ⟨g,off,none⟩) (a+s.size) b) (w.setRow g (cur.toList.take (off+a)++Lib.strCells s++cur.toList.drop (off+a+s.size)).toArray):=by
 have m:=Lib.run_firstCells_string (P:=P) w 1 s;have d:=run_storeCells_at P g (off+a) e (Lib.strCells s) 0 cur w l (by simpa [Lib.strCells_length] using f) (Lib.strCells_oneCell s);simp only [qg,Lib.strCells_length] at d;simp [Builtin.append_,run_underlying k,run_underlying j,sizeOf,typeInfo,hi,h,Builtin.lenOf,c,m,Addr.add_lit,d]
theorem tP(t u r e:TypeId)(L:P.underlying t=some (.slice e))(J:P.underlying u=some .string)(X:TI P e 1 1 (.int .u8 0))
  {v:Value} {xs:xb} {s:aF} (ho:fU (RI .u8) e M w v xs) (hM:∀b∈dq v,M b) (c:aH (xs.length+s.length) 1=true):
  ∃v' w',(Builtin.append_ #[t,u] r #[v,S s]).run P w= .ok v' w'/\jh (dq v) w w'/\(∀b∈dq v',b<w'.heap.size/\(b∈dq v\/w.heap.size<=b))/\
   (∀M',Mv M w M' w'->fU (RI .u8) e M' w' v' (xs++bL s)):=by
 obtain ⟨i,hi,y,R,hz⟩:=X.out;simp only [aH,ae,q5] at c;have hb1:=cd c.1;have T:=cd c.2;have a:(⟨s.toArray⟩:ByteArray).size=s.length:=j9 s;have Z:=ho.lt;obtain ⟨cells,p,hA⟩:=ho;have N:cK (RI .u8) M w (Lib.strCells ⟨s.toArray⟩) (bL s):=IP s;have U:=hA.append N;have d:(RI .u8).n=1:=rfl;have D:cells.length=xs.length:=by have:=hA.1;rw [d] at this;omega
 have z:(Lib.strCells ⟨s.toArray⟩).length=s.length:=by rw [Lib.strCells_length,a]
 have h:(cells++Lib.strCells ⟨s.toArray⟩).length=(xs++bL s).length*1:=by simp [D,z,fa]
 have q:∀(ie:Nat),ie<xs.length+s.length->
   (w.drew.alloc (.cells (cells.toArray++(Lib.strCells ⟨s.toArray⟩).toArray++Builtin.zeroCells (Value.int .u8 0).cells (grownCap w (xs.length+s.length) ie e-(xs.length+s.length))) e)).ownsRow 0 e 1
    (.slice (some ⟨w.heap.size,0,none⟩) (xs.length+s.length) (grownCap w (xs.length+s.length) ie e)) (xs++bL s).length (cells++Lib.strCells ⟨s.toArray⟩):=by
  intro ie hold;have hge:=grownCap_ge w (xs.length+s.length) ie e;have B:grownCap w (xs.length+s.length) ie e<=maxLen:=grownCap_le_maxLen w (xs.length+s.length) ie e (by simpa [maxLen] using T);refine ⟨h,.inr ⟨w.heap.size,_,_,by simp [fa],p0 _,heap_alloc_new w.drew _,by simpa [fa] using hge,B,?_,?_⟩⟩
  .have V:(Value.int u8 0).cells.size=1:=rfl;simp only [ql,hW,size_zeroCells,V,D,z];omega
  .simp only [qN,aO];rw [<-aO,<-h];exact qX
 have F:∀o C,jh C w (w.drew.alloc o):=λo C=>⟨rfl,rfl,rfl,by simp,λb hb _=>heap_alloc_old w.drew o hb⟩;have E:∀(n cap:Nat) (o:Obj),∀b∈dq (.slice (some ⟨w.heap.size,0,none⟩) n cap),b<(w.drew.alloc o).heap.size/\(b∈dq v\/w.heap.size<=b):=λn cap o b hb=>by
  have:b=w.heap.size:=by simpa [dq,Value.ownBlock] using hb
  subst this;exact ⟨by simp,.inr (bb _)⟩
 by_cases hm:s.length=0
 .have Y:s=[]:=cf hm;subst Y;refine ⟨v,w,?_,(Ext.refl w).pZ _,λb hb=>⟨Z b hb,.inl hb⟩,λM' m=>⟨cells,by simpa [bL] using p,by simpa [bL] using hA.mv m⟩⟩;rcases p.2 with ⟨rfl,h0⟩|⟨g,off,cap,cur,rfl,O,G,B,I,_⟩
  .have Q:=Lib.run_firstCells_string (P:=P) w 1 ⟨#[]⟩;have e0:(⟨#[]⟩:ByteArray).size=0:=rfl;rw [e0] at Q;simp [S,Builtin.append_,run_underlying L,run_underlying J,sizeOf,typeInfo,hi,y,Builtin.lenOf,Q,ByteArray.size]
  .have Q:=Lib.run_firstCells_string (P:=P) w 1 ⟨#[]⟩;have e0:(⟨#[]⟩:ByteArray).size=0:=rfl;rw [e0] at Q;simp [S,Builtin.append_,run_underlying L,run_underlying J,sizeOf,typeInfo,hi,y,Builtin.lenOf,Q,ByteArray.size,storeCells,Lib.strCells,G]
 .rcases p.2 with ⟨rfl,h0⟩|⟨g,off,cap,cur,rfl,O,G,B,I,k⟩
  .have W:xs=[]:=cf h0;subst W;have hc0:cells=[]:=cf (by simpa using D);subst hc0;have H:=run_append_nil_string (P:=P) w t u r e i (.int .u8 0) L J hi hz ⟨s.toArray⟩ (by rw [a];omega) (by rw [a];simp at T;omega) (by rw [a,R];simp at hb1;omega);have A:=q 0 (by simp;omega);have e1:((⟨s.toArray⟩:ByteArray).data.map λb=>Value.int .u8 b.toNat)=(Lib.strCells ⟨s.toArray⟩).toArray:=by apply Array.ext';simp [Lib.strCells]
   rw [e1,a] at H;simp only [qe,ec,oi,qU] at A;exact ⟨_,_,H,F _ _,E _ _ _,λM' m=>⟨_,.of (by simpa [d] using A),by simpa using N.mv m⟩⟩
  .by_cases f:xs.length+s.length<=cap
   .have hcs':off+cap=cur.size:=by simpa [d] using I.1
    have H:=Qd (P:=P) (w:=w) t u r e i L J hi y g off xs.length cap cur O ⟨s.toArray⟩ (by rw [a];exact f) (by rw [a];omega);refine ⟨_,_,H,⟨rfl,rfl,rfl,by simp,λb hb hbg=>setRow_other w g b _ (by simpa [dq,Value.ownBlock] using hbg)⟩,λb hb=>?_,λM' m=>⟨cells++Lib.strCells ⟨s.toArray⟩,⟨h,.inr ⟨g,off,cap,_,by simp [fa,a],setRow_heap w g cur _ e _ O,by simpa [fa] using f,B,⟨?_,I.2⟩,?_⟩⟩,U.mv m⟩⟩
    .have:b=g:=by simpa [dq,Value.ownBlock] using hb
     subst this;exact ⟨by simpa using (Array.getElem?_eq_some_iff.1 O).1,.inl (by simp [dq,Value.ownBlock])⟩
    .simp only [hW,cj,bj,ch,cb,z,a,d];omega
    .have K:(cur.toList.drop off).take xs.length=cells:=by simpa [d] using k
     have:=aeL (l:=cur.toList) (ns:=Lib.strCells ⟨s.toArray⟩) (off:=off) (m:=xs.length) (by rw [K];exact D.symm) (by have hl:cur.toList.length=cur.size:=cb;omega);rw [K,z] at this;rw [d,<-h,a];simpa using this
   .have holds:∀j x,cells[j]? =some x->w.cell? ((⟨g,off,none⟩:Addr).add j)=some x:=λj x hj=>(CM O k).cell hj;have H:=Lib.run_append_grow_string (P:=P) w t u r e i (.int .u8 0) L J hi hz ⟨g,off,none⟩ xs.length cap cells (by rw [y];omega) holds ⟨s.toArray⟩ (by rw [a];omega) (by rw [a];omega)
     (by rw [a,R];exact growslice_fits (by omega) (by omega))
    have A:=q cap (by omega);rw [a] at H;exact ⟨_,_,H,F _ _,E _ _ _,λM' m=>⟨_,.of (by simpa [d] using A),U.mv m⟩⟩
theorem yz(t u c e:TypeId)(r:P.underlying t=some (.slice e))(q:P.underlying u=some .string)(k:TI P e 1 1 (.int .u8 0))
  {a0:Option Addr} {s:aF} (a:aH s.length 1=true):
  ((Builtin.append_ #[t,u] c #[.slice a0 0 0,S s]).run P w= .ok (.slice a0 0 0) w/\s=[])\/
  ∃g w',(Builtin.append_ #[t,u] c #[.slice a0 0 0,S s]).run P w= .ok g w'/\Ext w w'/\(∀b∈dq g,b<w'.heap.size/\w.heap.size<=b)/\(∀M',Mv M w M' w'->fU (RI .u8) e M' w' g (bL s)):=by
 obtain ⟨i,hi,x,B,H⟩:=k.out;by_cases D:s=[]
 .subst D;refine .inl ⟨?_,rfl⟩;have E:=Lib.run_firstCells_string (P:=P) w 1 ⟨#[]⟩;have N:(⟨#[]⟩:ByteArray).size=0:=rfl;rw [N] at E;cases a0 <;> simp [S,Builtin.append_,run_underlying r,run_underlying q,sizeOf,typeInfo,hi,x,Builtin.lenOf,E,ByteArray.size,storeCells,Lib.strCells]
 .refine .inr ?_;cases a0 with
  |none=>
   obtain ⟨g,w',l,o,F,K⟩:=tP (M:=M) (w:=w) t u c e r q k (fU.nil) (s:=s) (λb hb=>by simp [dq,Value.ownBlock] at hb) (by simpa using a);refine ⟨g,w',l,⟨o.os,o.tape,o.output,o.size,λb hb=>o.block b hb (by simp [dq,Value.ownBlock])⟩,λb hb=>⟨(F b hb).1,?_⟩,λM' m=>by simpa using K M' m⟩;rcases (F b hb).2 with h|h
   .simp [dq,Value.ownBlock] at h
   .exact h
  |some G=>
   have d:(⟨s.toArray⟩:ByteArray).size=s.length:=j9 s;simp only [aH,ae,q5] at a;have J:=cd a.1;have C:=cd a.2;have O:0<s.length:=List.length_pos_iff.2 D;have l:=Lib.run_append_grow_string (P:=P) w t u c e i (.int .u8 0) r q hi H G 0 0 [] (by simp) (by intro j v I;simp at I) ⟨s.toArray⟩ (by rw [d];omega) (by rw [d];omega) (by rw [d,B];exact growslice_fits (by omega) (by omega));rw [d] at l;simp only [ec] at l;have y:(Builtin.append_ #[t,u] c #[.slice (some G) 0 0,S s]).run P w=_:=l;have z:=grownCap_ge w s.length 0 e;have A:grownCap w s.length 0 e<=maxLen:=grownCap_le_maxLen w s.length 0 e (by simpa [maxLen] using C);have f:(Lib.strCells ⟨s.toArray⟩).length=s.length:=by rw [Lib.strCells_length,d]
   refine ⟨_,_,y,⟨rfl,rfl,rfl,by simp,λb hb=>heap_alloc_old w.drew _ hb⟩,λb hb=>?_,λM' m=>⟨Lib.strCells ⟨s.toArray⟩,.of (b:=0) ⟨by simp [f,fa,RI],.inr ⟨w.heap.size,_,_,by simp [fa],p0 _,heap_alloc_new w.drew _,by simpa [fa] using z,A,?_,?_⟩⟩,(IP s)⟩⟩
   .have:b=w.heap.size:=by simpa [dq,Value.ownBlock] using hb
    subst this;exact ⟨by simp,bb _⟩
   .have p:(Value.int u8 0).cells.size=1:=rfl;simp only [ql,hW,size_zeroCells,p,f,qe];show _=_*1;omega
   .have L:(bL s).length*(RI .u8).n=(Lib.strCells ⟨s.toArray⟩).length:=by simp [fa,f,RI]
    rw [L];simp
end
section
variable {P : Program} {ρ : vA} {Q : br} {n : Nat} {D : tt} {E : Env} {w : World} {ops : wT} {rest : xa} {Γ : Ctx} {i : Nat}
variable {d : Tmp} {ty : TypeId} {pos : String} {af : w4}
theorem afz{t u:TypeId}{xs:xb}{s:aF}(I:Sat Γ w)(i:Nat)(hi:Γ[i]? =some (gf (RI .u8) e v xs R))
  (H:P.underlying t=some (.slice e)) (G:P.underlying u=some .string) (o:TI P e 1 1 (.int .u8 0)) (hx:ar E true x v) (q:ar E true y (S s))
  (f:aH (xs.length+s.length) 1=true) (L:Nat.blt d n=true)
  (h:∀(p:fy) l w',Sat (Γ.set i (gf (RI .u8) e (sl p) (xs++bL s) l)) w'->WL P ρ ops Q n D rest ((d,true,sl p)::E) w'):
  WL P ρ ops Q n D (⟨some d,.call ⟨.builtin .append,#[x,y],#[t,u]⟩,ty,pos,af,none⟩::rest) E w:=by
 have key:∃c l w',ky P E ⟨some d,.call ⟨.builtin .append,#[x,y],#[t,u]⟩,ty,pos,af,none⟩ w c w'/\jh R w w'/\(∀b∈l,b<w'.heap.size/\(b∈R\/w.heap.size<=b))/\∀M',Mv Γ.M w M' w'->bJ (RI .u8) e M' w' c (xs++bL s) l:=by
  have k:=I.own hi;have N:∀b∈R,Γ.M b:=λb hb=>Ctx.iy hi hb;rcases k with ⟨rfl,z⟩|⟨rfl,rfl,⟨a0,rfl⟩,r⟩
  .obtain ⟨c,w',j,F,C,k⟩:=tP t u ty e H G o z N f;exact ⟨c,dq c,w',(λn' a g=>by simp [execOp,resolve,invoke,builtin,hx n' a g rfl,q n' a g rfl,j]),F,C,λM' m=>bJ.of (k M' m)⟩
  .rcases yz (M:=Γ.M) (w:=w) t u ty e H G o (a0:=a0) (s:=s) (by simpa using f) with ⟨j,rfl⟩|⟨c,w',j,O,K,k⟩
   .exact ⟨.slice a0 0 0,[],w,(λn' a g=>by simp [execOp,resolve,invoke,builtin,hx n' a g rfl,q n' a g rfl,j]),(Ext.refl w).pZ _,(λb hb=>by cases hb),λM' m=>by simpa [bL] using bJ.empty (e:=e) (r.mv m)⟩
   .exact ⟨c,dq c,w',(λn' a g=>by simp [execOp,resolve,invoke,builtin,hx n' a g rfl,q n' a g rfl,j]),O.pZ _,(λb hb=>⟨(K b hb).1,.inr (K b hb).2⟩),λM' m=>bJ.of (by simpa using k M' m)⟩
 obtain ⟨c,l,w',j,F,C,k⟩:=key;have J:=I.mF hi (new:=gf (RI .u8) e c (xs++bL s) l) F C (λM' m _=>k M' m);have hv:∃p,c=sl p:=by have B:i<Γ.length:=(List.getElem?_eq_some_iff.1 hi).1;have z:=J.own (i:=i) (A:=RI .u8) (e:=e) (v:=c) (xs:=xs++bL s) (R:=l) (by rw [qt B]);obtain ⟨a,cap,hv⟩:=z.len;exact ⟨(a,_,cap),hv⟩
 obtain ⟨p,rfl⟩:=hv;exact uk j rfl rfl rfl L (h _ _ _ J)
def Roomy(v:Value):Prop:= ∃g off len cap,v= .slice (some ⟨g,off,none⟩) len (cap+1)
theorem ahO{g:Bool}{dst:v7}{gd:Option (Nat×Bool)}{v:fy}{c:Array TypeId}(hx:ar E g x (sl v))(hv:g=true->Roomy (sl v)):bf P E g ⟨dst,.call ⟨.builtin .unsafeSliceData,#[x],c⟩,ty,pos,af,gd⟩ w (.pointer v.1):=
 λn a h d=>by obtain ⟨b,off,len,cap,e⟩:=hv d;obtain ⟨j,f,i⟩:=v;simp only [sl,Value.slice.injEq] at e;obtain ⟨rfl,rfl,rfl⟩:=e;have:=Lib.run_unsafeSliceData_row (P:=P) w c ty ⟨b,off,none⟩ f (cap+1) (by omega);simp [execOp,resolve,invoke,builtin,hx n a h d,sl,this]
theorem Gm{P:Program}{w:World}:∀(l:xb) (a:Addr) (b:ByteArray),(∀(j:Nat) (x:Int),l[j]? =some x->w.cell? (a.add j)=some (.int .u8 x))->
  (loadBytes a b l.length).run P w= .ok ⟨b.data++(strOf l).toArray⟩ w
 |[],a,b,_=>by simp [loadBytes,strOf]
 |x::l,a,b,h=>by
  have f:w.cell? a=some (.int .u8 x):=by have:=h 0 x rfl;simpa [Addr.add] using this
  have ih:=Gm (P:=P) l (a.add 1) (b.push (UInt8.ofNat x.toNat)) (λj y d=>by
   have:=h (j+1) y (by simpa using d);have e:(a.add 1).add j=a.add (j+1):=by
    unfold Addr.add;by_cases c:j=0
    .subst c;simp
    .simp [c];omega
   rw [e];exact this)
  simp only [qb,loadBytes,Sem.run_bind,run_load,f,Result.andThen];have g:(x.toNat).toUInt8=UInt8.ofNat x.toNat:=rfl;rw [g,ih];congr 1;apply ByteArray.ext;simp [ByteArray.push,strOf]
end
open Go.Lib
theorem O{E:Env}{g:Bool}{t:Tmp}(h:look E t=some (true,v)):ar E g (.tmp t) v:=ar.t h
section
variable {P : Program} {ρ : vA} {Q : br} {n : Nat} {D : tt} {E : Env} {w : World} {ops : wT} {rest : xa}
end
variable {dd : TypeDesc}
def cP{E A B:Type}(m:Option (Except E A))(k:A->Option (Except E B)):Option (Except E B):=m.bind λa=>match a with
 | .error p=>some (.error p)
 | .ok x=>k x
def kW{E A B:Type}(m:Option (Except E A))(kp:E->Option B)(k:A->Option B):Option B:=m.bind λa=>match a with
 | .error p=>kp p
 | .ok x=>k x
theorem af3{E A B:Type}{m:Option (Except E A)}{b:E->Option B}{k:A->Option B}{r:B}(h:kW m b k=some r):(∃p,m=some (.error p)/\b p=some r)\/∃x,m=some (.ok x)/\k x=some r:=by
 cases m with
 |none=>cases h
 |some a=>
  cases a with
  |error p=>exact .inl ⟨p,rfl,h⟩
  |ok x=>exact .inr ⟨x,rfl,h⟩
abbrev gF(v:Value):tj:=[{ v:=v,recovered:=false }]
section
variable {P : Program} {ρ : vA} {Q : br} {n : Nat} {D : tt} {E : Env} {w : World} {ops : wT} {rest : xa} {Φ : Ctx}
theorem akw{t:TypeId}{dst:v7}{ty:TypeId}{pos:String}{af:w4}(hx:ar E true x (.iface t v))
  (h:At Q (.panic (gF (.iface t v))) n D E w):WL P ρ ops Q n D (⟨dst,.panic x,ty,pos,af,none⟩::rest) E w:=λa b c=>
 wpListIn_plain rfl λK d=>jT rfl (by
  have e:(execOp a.eval (⟨dst,.panic x,ty,pos,af,none⟩:Oper)).run P w= .halt (.panic (.iface t v)) w:=by simp only [execOp,hx n a b rfl];rfl
  rw [e];exact h a b c)
theorem ahw{fn:Func}{S:Value->World->Prop}{Sp:tj->World->Prop}{ps:tj}(h:Sp ps w):AL (BP P fn S Sp) ps [] w:=λa hd=>by show LeavesInM _ _ _ _ _ _ a.defers _ _;rw [hd];exact h
variable {g : Bool} {dst : v7} {ty : TypeId} {pos : String} {af : w4} {gd : s3}
theorem Zl{s t:TypeId}(b:P.underlying t=some dd)(hd:fH dd=false)(hx:ar E g x (.iface t v)):bf P E g ⟨dst,.typeAssert x s t true,ty,pos,af,gd⟩ w (.tuple #[v,.bool true]):=
 λn a d c=>by simp only [execOp,hx n a d c,Instr.typeAssert,Sem.run_bind,run_underlying b,Result.andThen_ok];cases dd <;> first|(dsimp only;rw [j5 rfl];rfl)|(simp [fH] at hd)
theorem Yh{s t:TypeId}{size bytes:Nat}(c:P.underlying t=some dd)(hd:fH dd=false)(b:TI P t size bytes z)(hx:ar E g x .nilIface):bf P E g ⟨dst,.typeAssert x s t true,ty,pos,af,gd⟩ w (.tuple #[z,.bool false]):=
 λn a e d=>by simp only [execOp,hx n a e d,Instr.typeAssert,Sem.run_bind,run_underlying c,Result.andThen_ok];cases dd <;> first|(simp [fH] at hd;done)|(simp only [Sem.run_bind,b.zero w,Result.andThen_ok,qp];rfl)
theorem Y0{s t u:TypeId}{size bytes:Nat}(b:u≠t)(d:P.underlying t=some dd)(hd:fH dd=false)(c:TI P t size bytes z)(hx:ar E g x (.iface u v)):bf P E g ⟨dst,.typeAssert x s t true,ty,pos,af,gd⟩ w (.tuple #[z,.bool false]):=
 λn a f e=>by simp only [execOp,hx n a f e,Instr.typeAssert,Sem.run_bind,run_underlying d,Result.andThen_ok];cases dd <;> first|(simp [fH] at hd;done)|(dsimp only;rw [gZ (by first|exact b|exact b.symm)];simp only [Sem.run_bind,c.zero w,Result.andThen_ok,qp];rfl)
def Fl(P:Program)(f:FuncId)(args:vf)(u:FrameMode)(w:World)(R:FrameMode->World->Prop):Prop:=
 CallsDIn (FW none) 0 P f args.toArray u w λe u' w'=>e= .returned (.tuple #[])/\R u' w'
abbrev Oj(f:FuncId)(cap:vf):Deferred:={ target:= .fn (.func f) cap.toArray,args:= #[] }
theorem ajT{f:FuncId}{fo:Operand}{cap:vf}{tys:Array TypeId}{ty:TypeId}{pos:String}{af:w4}(b:ar E true fo (.func (.func f) #[] cap.toArray))
  (h:WL P none ops Q n (Oj f cap::D) rest E w):WL P none ops Q n D (⟨none,.defer ⟨.value fo,#[],tys⟩,ty,pos,af,none⟩::rest) E w:=λa c g=>
 wpListIn_plain rfl λK d=>by
  refine ⟨λ_ _=>trivial,?_⟩;have e:((⟨none,.defer ⟨.value fo,#[],tys⟩,ty,pos,af,none⟩:Oper).semAt (FW none).round a.eval).run P w= .ok (.defer (Oj f cap)) w:=by show (execOp a.eval (⟨none,.defer ⟨.value fo,#[],tys⟩,ty,pos,af,none⟩:Oper)).run P w=_;simp only [execOp,resolve,b n a c rfl,Deferred.ofValue,Sem.run_bind,Sem.run_pure,Result.andThen_ok];rw [show (#[]++Array.map a.eval #[]:vc)= #[] by simp]
  rw [e,Oper.uponIn_defer];refine d _ _ (h _ ⟨c.size,c.at_⟩ ?_);show Oj f cap::a.defers=_;rw [g]
theorem Oq{a:Act}(h:Fits n E a)(ds:tt):Fits n E { a with defers:=ds }:=⟨h.size,h.at_⟩
theorem RQ{fn:Func}{f:FuncId}{cap:vf}{tmps:vc}{R:Ending->World->Prop}{u:FrameMode}{ds:tt}(a:u≠ .run)(b:Enters P f)
  (hc:Fl P f cap u w λu' w'=>LeavesInM (FW none) 0 P fn tmps R ds (settle u') w'):LeavesInM (FW none) 0 P fn tmps R (Oj f cap::ds) u w:=by
 refine ⟨a,.inr ⟨G4,.func f,cap.toArray,f,cap.toArray,rfl,?_,λ_ _=>trivial,?_⟩⟩
 .have:=b cap.toArray w;simpa [Oj,invoke] using this
 .refine CallsDIn.mono hc λe u' w' h=>?_;obtain ⟨rfl,h⟩:=h;exact h
theorem ai0{fn:Func}{S:Value->World->Prop}{Sp:tj->World->Prop}{f:FuncId}{cap:vf}{T:World->Prop}(d:Enters P f)
  (hc:Fl P f cap .returning w λu' w'=>u'= .returning/\T w') (h:∀w',T w'->At (BP P fn S Sp) .ret n [] E w'):At (BP P fn S Sp) .ret n [Oj f cap] E w:=λa c hd=>by
 show LeavesInM _ _ _ _ _ _ a.defers _ _;rw [hd];refine RQ (by simp) d (CallsDIn.mono hc λe u' w' hx=>?_);obtain ⟨b,rfl,g⟩:=hx;exact ⟨b,h w' g { a with defers:=[] } (Oq c []) rfl⟩
theorem afq{fn:Func}{S:Value->World->Prop}{Sp:tj->World->Prop}{f:FuncId}{cap:vf}{T:World->Prop}(d:Enters P f)
  (hc:Fl P f cap (.panicking (gF v)) w λu' w'=>u'= .panicking [{ v:=v,recovered:=true }]/\T w') (h:∀w',T w'->At (BP P fn S Sp) .ret n [] E w'):At (BP P fn S Sp) (.panic (gF v)) n [Oj f cap] E w:=λa c hd=>by
 show LeavesInM _ _ _ _ _ _ a.defers _ _;rw [hd];refine RQ (by simp) d (CallsDIn.mono hc λe u' w' hx=>?_);obtain ⟨b,rfl,g⟩:=hx;exact ⟨b,h w' g { a with defers:=[] } (Oq c []) rfl⟩
def QB(T:World->Prop):br:=λe a w=>match e with
 | .normal=>a.defers=[]/\T w
 | .ret=>a.defers=[]/\T w
 |_=>False
theorem al5{T:World->Prop}(h:T w):At (QB T) .normal n [] E w:=λ_ _ hd=>⟨hd,h⟩
theorem ao2{T:World->Prop}(h:T w):At (QB T) .ret n [] E w:=λ_ _ hd=>⟨hd,h⟩
def Mg(o:Oper):Bool:=match o.op with
 | .move _=>true
 | .assign _=>true
 | .alloc _=>true
 | .extract _ _=>true
 | .store _ _ _=>true
 | .typeAssert _ _ _ _=>true
 | .binOp .neq _ _ _ _=>true
 | .load _ _=>true
 | .nilCheck _=>true
 | .fieldAddr _ _ _=>true
 |_=>false
def FO:Result Next->Prop
 | .ok (.value _) _=>True
 | .ok .skip _=>True
 | .halt _ _=>True
 |_=>False
theorem apl{m:Sem Value}{w:World}:FO ((do pure (Next.value (<-m)):Sem Next).run P w):=by rw [Sem.run_bind];cases m.run P w <;> trivial
theorem aog{m:Sem Unit}{w:World}:FO ((do m;pure Next.skip:Sem Next).run P w):=by rw [Sem.run_bind];cases m.run P w <;> trivial
theorem A9{m:Sem α}{k:α->Sem Next}{w:World}(h:∀a w,FO ((k a).run P w)):FO ((m >>= k).run P w):=by
 rw [Sem.run_bind];cases m.run P w with
 |ok a w=>exact h a w
 |halt _ _=>trivial
theorem alJ{a:Operand->Value}{dst:v7}{ty:TypeId}{pos:String}{af:w4}{g:Option (Nat×Bool)}{w:World}:FO ((execOp a ⟨dst,.nilCheck x,ty,pos,af,g⟩).run P w):=by
 unfold execOp;dsimp only;split
 .exact A9 λ_ _=>trivial
 .exact A9 λ_ _=>trivial
 .exact A9 λ_ _=>trivial
 .split
  .exact A9 λ_ _=>trivial
  .refine A9 λ_ _=>A9 λ_ _=>?_;split
   .exact A9 λ_ _=>trivial
   .exact trivial
  .trivial
 .trivial
theorem aku{o:Oper}(h:Mg o=true)(a:Operand->Value)(w:World):FO ((execOp a o).run P w):=by obtain ⟨dst,op,ty,pos,af,g⟩:=o;cases op <;> first|(cases h;done)|exact apl|exact aog|exact alJ|trivial
theorem Pk{ops:wT}{g:br}{QS:Exit->Act->List Frame->World->Prop}{cs:List Frame}(f:∀e a w,g e a w->QS e a cs w):∀(l:xa) (k:Nat),l.all Mg=true->(∀j,l[j]? =ops[k+j]?)->∀(a:Act) (w:World),wpListIn (FW none) 0 P ops g l a w->
  wpOpsSIn (FW none) 0 P ops QS (List.range' k l.length) a cs w
 |[],k,_,_,a,w,h=>f _ _ _ h
 |o::l,k,hc,hk,a,w,h=>by
  have m:ops[k]? =some o:=by simpa using (hk 0).symm
  rw [qF,ae] at hc;have ih:=Pk (ops:=ops) f l (k+1) hc.2 (λj=>by have:=hk (j+1);simpa [qo,Nat.add_comm 1 j] using this);rw [qb,List.range'_succ];simp only [wpOpsSIn,m];simp only [wpListIn] at h;refine ⟨λ_ _=>trivial,?_⟩;split at h
  .rename_i d;rw [j5 d];have c:=h.2;have b:=aku (P:=P) hc.1 a.eval w;rw [show (o.semAt (FW none).round a.eval)=execOp a.eval o from rfl] at c;generalize (execOp a.eval o).run P w=r at c b;cases r with
   |ok x w'=>
    cases x <;> first|exact b.elim|exact ih _ _ c
   |halt i w'=>
    cases i <;> first|exact f _ _ _ c|exact c.elim
  next d=>rw [gZ d];exact ih _ _ h.2
theorem akT{fn:Func}{c₀:Frame}{cs:List Frame}{T:World->Prop}{u':FrameMode}(b:fn.results= #[]){e:Exit}{a:Act}{w:World}(h:QB T e a w):
  bodyPostS P fn c₀ cs (λe c w'=>e= .returned (.tuple #[])/\c=u'/\T w') e a ({ c₀ with mode:=u' }::cs) w:=by
 have d:(results fn a.tmps).run P w= .ok (.tuple #[]) w:=by rw [Rh,b];simp
 cases e <;> first|exact ⟨h.1,u',rfl,_,d,rfl,rfl,h.2⟩|exact h.elim
theorem VX{f:FuncId}{fn:Func}{id:Nat}{ops:wT}{l:xa}{y:Code}{d:Tmp}{ty:TypeId}{pos:String}{af:w4}{tys:Array TypeId}{cap:vf}{u u':FrameMode}{T:World->Prop}
  (J:P.funcs[f]? =some fn) (hb:fn.body=some (.seq (.region id ops false) y)) (c:ops.toList=⟨some d,.call ⟨.builtin .recover,#[],tys⟩,ty,pos,af,none⟩::l) (q:l.all Mg=true) (o:fn.results= #[]) (H:fn.ntmps=n) (I:Nat.ble cap.length n=true) (hd:Nat.blt d n=true)
  (F:(u= .returning/\u'= .returning/\v= .nilIface)\/(u= .panicking (gF v)/\u'= .panicking [{ v:=v,recovered:=true }]))
  (h:WL P none ops (Exit.then (y.wpIn (FW none) 0 P (QB T)) (QB T)) n [] l ((d,true,v)::iota 0 cap) w):Fl P f cap u w λr w'=>r=u'/\T w':=by
 refine callsDIn_of_wpSIn J hb trivial λc₀ cs hc=>?_;have k:Fits n (iota 0 cap) { tmps:=cap.toArray++Array.replicate (fn.ntmps-cap.toArray.size) undef,defers:=[] }:=by
  refine ⟨?_,λt g v G=>?_⟩
  .have:cap.length<=n:=by simpa using I
   simp [H];omega
  .obtain ⟨j,rfl,hv,rfl⟩:=C5 cap 0 t g v G;have C:j<cap.length:=by
    rcases q9 j cap.length with h|h
    .exact h
    .rw [e9 h] at hv;cases hv
   simp only [vJ,l5,ec,gx];rw [qK (by simpa using C)];simp [hv]
 have z:({ tmps:=cap.toArray++Array.replicate (fn.ntmps-cap.toArray.size) undef,defers:=[] }:Act).defers=[]:=rfl;generalize ({ tmps:=cap.toArray++Array.replicate (fn.ntmps-cap.toArray.size) undef,defers:=[] }:Act)=a0 at k z;refine wpSIn_seq (wpSIn_region ?_);have B:ops.size=l.length+1:=by rw [<-cb,c];rfl
 rw [B,List.range_eq_range',List.range'_succ];have L:ops[0]? =some ⟨some d,.call ⟨.builtin .recover,#[],tys⟩,ty,pos,af,none⟩:=by rw [<-qh,c];rfl
 have C:∀j,l[j]? =ops[1+j]? :=λj=>by rw [<-qh,c,Nat.add_comm 1 j];rfl
 have s:(execOp a0.eval (⟨some d,.call ⟨.builtin .recover,#[],tys⟩,ty,pos,af,none⟩:Oper)).run P w= .ok .recover w:=by simp [execOp,resolve,invoke,builtin]
 have x:Fits n ((d,true,v)::iota 0 cap) (a0.put (some d) v):=k.put (g:=true) (v:=v) hd;have m:=Pk (cs:={ c₀ with mode:=u' }::cs) (QS:=Exit.thenS (y.wpSIn (FW none) 0 P (bodyPostS P fn c₀ cs λe r w'=>e= .returned (.tuple #[])/\r=u'/\T w')) (bodyPostS P fn c₀ cs λe r w'=>e= .returned (.tuple #[])/\r=u'/\T w'))
  (λe a w p=>by
   cases e with
   |normal=>exact wpSIn_of_wpIn rfl (Code.wpIn_mono (λe a w p=>akT o p) p)
   |exit i=>exact False.elim p
   |goto i=>exact False.elim p
   |ret=>exact akT (P:=P) (c₀:=c₀) (cs:=cs) (u':=u') (T:=T) (e:= .ret) o p
   |panic i=>exact False.elim p
   |outgrown=>exact False.elim p) l 1 q C _ _ (h _ x z)
 simp only [wpOpsSIn,L];refine ⟨λ_ _=>trivial,?_⟩;rw [j5 (by simp [Region.wanted]),s];rcases F with ⟨A,E,K⟩|⟨A,E⟩
 .have b:recoverD (c₀::cs)=none:=by simp [recoverD,hc,A]
  have D:({ c₀ with mode:=u' }:Frame)=c₀:=by rw [E,<-A,<-hc]
  simp only [b];rw [D,K] at m;exact m
 .have b:recoverD (c₀::cs)=some (v,{ c₀ with mode:=u' }::cs):=by simp [recoverD,hc,A,E,gF]
  simp only [b];exact m
theorem ad3{f:FuncId}{fn:Func}{id:Nat}{ops:wT}{cap:vf}{T:World->Prop}
  (u:P.funcs[f]? =some fn) (hb:fn.body=some (.region id ops false)) (c:ops.toList.all Mg=true) (d:fn.results= #[]) (q:fn.ntmps=n) (r:Nat.ble cap.length n=true)
  (h:WL P none ops (QB T) n [] ops.toList (iota 0 cap) w):Fl P f cap .returning w λk w'=>k= .returning/\T w':=by
 refine callsDIn_of_wpSIn u hb trivial λc₀ cs hc=>?_;have b:Fits n (iota 0 cap) { tmps:=cap.toArray++Array.replicate (fn.ntmps-cap.toArray.size) undef,defers:=[] }:=by
  refine ⟨?_,λt g v o=>?_⟩
  .have:cap.length<=n:=by simpa using r
   simp [q];omega
  .obtain ⟨j,rfl,hv,rfl⟩:=C5 cap 0 t g v o;have s:j<cap.length:=by
    rcases q9 j cap.length with h|h
    .exact h
    .rw [e9 h] at hv;cases hv
   simp only [vJ,l5,ec,gx];rw [qK (by simpa using s)];simp [hv]
 have m:({ c₀ with mode:= .returning }:Frame)=c₀:=by rw [<-hc]
 refine wpSIn_region ?_;have l:ops.size=ops.toList.length:=by rw [cb]
 rw [l,List.range_eq_range'];have i:=Pk (cs:=c₀::cs) (QS:=bodyPostS P fn c₀ cs λe k w'=>e= .returned (.tuple #[])/\k= .returning/\T w')
  (λe a w p=>by have:=akT (P:=P) (c₀:=c₀) (cs:=cs) (u':= .returning) (T:=T) (e:=e) d p;rw [m] at this;exact this) ops.toList 0 c (λj=>by rw [ec,qh]) _ _ (h _ b rfl)
 exact i
end
variable {w : World}
inductive Ex where
 |mk (op n at_:Int) (l:List Ex)
instance:Inhabited Ex:=⟨.mk 0 0 0 []⟩
def Ex.op:Ex->Int
 | .mk o _ _ _=>o
def Ex.n:Ex->Int
 | .mk _ n _ _=>n
def Ex.at_:Ex->Int
 | .mk _ _ a _=>a
def Ex.l:Ex->List Ex
 | .mk _ _ _ l=>l
mutual
def Ex.sz:Ex->Nat
 | .mk _ _ _ l=>szL l+1
def szL:List Ex->Nat
 |[]=>0
 |x::r=>Ex.sz x+szL r
end
inductive uJ(M:Nat->Prop)(w:World):vf->Ex->Prop
 |nil (op n a:Int) (ad:Option Addr):uJ M w [.int .i64 op,.int .i64 n,.int .i64 a,sl (ad,0,0)] (.mk op n a [])
 |some (op n a:Int) (l:List Ex) (b off cap:Nat) (cs:vc) (e:TypeId) (fr:Nat×Nat) (hM:¬M b) (hb:w.heap[b]? =some (.cells cs e fr)) (hc:l.length<=cap) (ho:off+cap*4<=cs.size)
   (hl:((cs.toList.drop off).take (l.length*4)).length=l.length*4) (h:∀i (hi:i<l.length),uJ M w ((((cs.toList.drop off).take (l.length*4)).drop (i*4)).take 4) l[i]):
   uJ M w [.int .i64 op,.int .i64 n,.int .i64 a,sl (some ⟨b,off,none⟩,l.length,cap)] (.mk op n a l)
theorem uJ.len{M:Nat->Prop}{x:Ex}(h:uJ M w vs x):vs.length=4:=by cases h <;> rfl
theorem uJ.mv{M M':Nat->Prop}{w':World}{x:Ex}(h:uJ M w vs x)(m:Mv M w M' w'):uJ M' w' vs x:=by
 induction h with
 |nil op n a j=>exact .nil op n a j
 |some op n a l b off cap cs e fr f hb hc c d _ ih=>
  obtain ⟨i,g⟩:=m.2 b (Array.getElem?_eq_some_iff.1 hb).1 f;exact .some op n a l b off cap cs e fr i (by rw [g];exact hb) hc c d ih
def H6:dB Ex where
 n:=4
 rd:=uJ
 len:=uJ.len
 one h:=by cases h <;> simp [Value.oneCell',sl]
 mv:=uJ.mv
theorem HV{M:Nat->Prop}{x:Ex}(h:H6.rd M w vs x):∃v:fy,vs=[(.int .i64 x.op),(.int .i64 x.n),(.int .i64 x.at_),(sl v)]/\bO H6 M w (sl v) x.l:=by
 cases h with
 |nil op n a g=>exact ⟨_,rfl,.inl ⟨⟨_,rfl⟩,rfl⟩⟩
 |some op n a l b off cap cs e fr f hb hc c d h=>exact ⟨_,rfl,.inr ⟨b,off,cap,cs,e,fr,rfl,f,hb,hc,c,d,h⟩⟩
theorem Ob{M:Nat->Prop}{op n a:Int}{l:List Ex}(h:(IH H6).rd M w [v] l):H6.rd M w [(.int .i64 op),(.int .i64 n),(.int .i64 a),v] (.mk op n a l):=by
 obtain ⟨p,hp,h⟩:=h;have hv:v=sl p:=by simpa using hp
 subst hv;rcases h with ⟨⟨i,h⟩,rfl⟩|⟨b,off,cap,cs,e,fr,h,g,hb,hc,d,f,c⟩
 .rw [h];exact .nil op n a i
 .rw [h];exact .some op n a l b off cap cs e fr g hb hc d f c
abbrev ay{α:Type}(c:Bool)(a b:α):α:=match c with
 |true=>a
 |false=>b
inductive Ty where
 |i (k:IntKind)
 |bo
 |s
 |un
 |n
 |p (x y:Ty)
 |l (x:Ty)
 |mp (k v:Ty)
 |ex
 deriving DecidableEq
def Ty.T:Ty->Type
 | .i _=>Int
 | .bo=>Bool
 | .s=>aF
 | .un=>Unit
 | .n=>Nat
 | .p x y=>x.T×y.T
 | .l x=>List x.T
 | .mp k v=>Option (List (k.T×v.T))
 | .ex=>Ex
def RNo(α:Type):dB α where
 n:=0
 rd _ _ _ _:=False
 len h:=h.elim
 one h:=h.elim
 mv h _:=h.elim
def RIf:dB Nat where
 n:=1
 rd _ _ vs x:=vs=[.iface x (.agg #[])]
 len h:=by rw [h];rfl
 one h:=by rw [h];simp [Value.oneCell']
 mv h _:=h
def Ty.rep:(t:Ty)->dB t.T
 | .i k=>RI k
 | .bo=>RB
 | .s=>RS
 | .un=>RU
 | .n=>RIf
 | .p x y=>RP x.rep y.rep
 | .l x=>IH x.rep
 | .mp _ _=>RNo _
 | .ex=>H6
structure bX where
 t:Ty
 x:t.T
def bX.as(t:Ty)(d:bX):Option t.T:=if h:d.t=t then some (h▸d.x) else none
theorem bX.Mi{t:Ty}{d:bX}{x:t.T}(h:d.as t=some x):d=⟨t,x⟩:=by
 unfold bX.as at h;split at h
 next e=>obtain ⟨t',y⟩:=d;simp only at e;subst e;cases h;rfl
 .cases h
theorem bX.anr{t:Ty}{x:t.T}:bX.as t ⟨t,x⟩=some x:=by simp [bX.as]
inductive AV where
 |int (k:IntKind) (x:Int)
 |bool (x:Bool)
 |str (x:aF)
 |agg (l:List AV)
 |tuple (l:List AV)
 |ptr (id off:Nat)
 |sl (id:Nat)
 |adr (id off:Nat)
 |fn (f:FuncId) (a b:List AV)
 |ifc (t:TypeId) (v:AV)
 |mp (id:Nat)
 |gp (b:Nat)
 |nv (id:Nat)
 |sfp (id:Nat) (f:Bool)
 |bs (id n:Nat)
 |raw (v:Value)
structure Nm where
 b:Nat
 v:fy
 a:Addr
 m:vA
 x:Value
 y:bX
abbrev ax:=Nat->Nm
def cO:Nm:=⟨0,(none,0,0),⟨0,0,none⟩,none,.bool false,⟨.un,()⟩⟩
mutual
def AV.val(ρ:ax):AV->Value
 | .int k x=> .int k x
 | .bool x=> .bool x
 | .str x=>S x
 | .agg l=> .agg (AV.ao ρ l).toArray
 | .tuple l=> .tuple (AV.ao ρ l).toArray
 | .ptr id off=> .pointer (some ⟨(ρ id).b,off,none⟩)
 | .sl id=>Go.Proofs.YtkedhpmpejhekaaGreatDoor.sl (ρ id).v
 | .adr id off=> .pointer (some ((ρ id).a.add off))
 | .fn f a b=> .func (.func f) (AV.ao ρ a).toArray (AV.ao ρ b).toArray
 | .ifc t v=> .iface t (v.val ρ)
 | .mp id=> .map (ρ id).m
 | .gp b=> .pointer (some ⟨b,0,none⟩)
 | .nv id=>(ρ id).x
 | .sfp id f=>yQ f (ρ id).b
 | .bs id n=> .slice (some ⟨(ρ id).b,0,none⟩) n n
 | .raw v=>v
def AV.ao(ρ:ax):List AV->vf
 |[]=>[]
 |v::l=>v.val ρ::AV.ao ρ l
end
mutual
def AV.low(c:Nat):AV->Bool
 | .agg l|.tuple l=>AV.bV c l
 | .fn _ a b=>AV.bV c a&&AV.bV c b
 | .ifc _ v=>v.low c
 | .ptr id _|.sl id|.adr id _|.mp id|.nv id|.sfp id _|.bs id _=>Nat.blt id c
 |_=>true
def AV.bV(c:Nat):List AV->Bool
 |[]=>true
 |v::l=>v.low c&&AV.bV c l
end
def aT(c:Nat)(ρ ρ':ax):Prop:= ∀j,j<c->ρ' j=ρ j
theorem aT.refl{c:Nat}{ρ:ax}:aT c ρ ρ:=λ_ _=>rfl
theorem aT.trans{c d:Nat}{a b e:ax}(h:aT c a b)(k:aT d b e)(f:c<=d):aT c a e:=λj g=>(k j (cx g f)).trans (h j g)
theorem aT.less{c d:Nat}{a b:ax}(h:aT d a b)(e:c<=d):aT c a b:=λj f=>h j (cx f e)
mutual
theorem AV.jW{ρ ρ':ax}{c:Nat}(ha:aT c ρ ρ'):(v:AV)->v.low c=true->v.val ρ'=v.val ρ
 | .int _ _,_|.bool _,_|.str _,_|.raw _,_|.gp _,_=>by simp only [AV.val]
 | .agg l,h=>by simp only [AV.val];rw [AV.bS ha l (by simpa only [AV.low] using h)]
 | .tuple l,h=>by simp only [AV.val];rw [AV.bS ha l (by simpa only [AV.low] using h)]
 | .fn _ a b,h=>by
  simp only [AV.low,ae] at h;simp only [AV.val];rw [AV.bS ha a h.1,AV.bS ha b h.2]
 | .ifc _ v,h=>by simp only [AV.val];rw [AV.jW ha v (by simpa only [AV.low] using h)]
 | .ptr _ _,h=>by simp only [AV.val];rw [ha _ (by simpa only [AV.low,dk] using h)]
 | .sl _,h=>by simp only [AV.val];rw [ha _ (by simpa only [AV.low,dk] using h)]
 | .adr _ _,h=>by simp only [AV.val];rw [ha _ (by simpa only [AV.low,dk] using h)]
 | .mp _,h=>by simp only [AV.val];rw [ha _ (by simpa only [AV.low,dk] using h)]
 | .nv _,h=>by simp only [AV.val];rw [ha _ (by simpa only [AV.low,dk] using h)]
 | .sfp _ _,h=>by simp only [AV.val];rw [ha _ (by simpa only [AV.low,dk] using h)]
 | .bs _ _,h=>by simp only [AV.val];rw [ha _ (by simpa only [AV.low,dk] using h)]
theorem AV.bS{ρ ρ':ax}{c:Nat}(ha:aT c ρ ρ'):(l:List AV)->AV.bV c l=true->AV.ao ρ' l=AV.ao ρ l
 |[],_=>by simp only [AV.ao]
 |v::l,h=>by simp only [AV.bV,ae] at h;simp only [AV.ao];rw [AV.jW ha v h.1,AV.bS ha l h.2]
end
mutual
theorem AV.fi{c d:Nat}(e:c<=d):(v:AV)->v.low c=true->v.low d=true
 | .int _ _,_|.bool _,_|.str _,_|.raw _,_|.gp _,_=>by simp only [AV.low]
 | .agg l,h=>by simp only [AV.low] at h ⊢; exact AV.jg e l h
 | .tuple l,h=>by simp only [AV.low] at h ⊢; exact AV.jg e l h
 | .fn _ a b,h=>by simp only [AV.low,ae] at h ⊢; exact ⟨AV.jg e a h.1,AV.jg e b h.2⟩
 | .ifc _ v,h=>by simp only [AV.low] at h ⊢; exact AV.fi e v h
 | .ptr _ _,h=>by simp only [AV.low,dk] at h ⊢; omega
 | .sl _,h=>by simp only [AV.low,dk] at h ⊢; omega
 | .adr _ _,h=>by simp only [AV.low,dk] at h ⊢; omega
 | .mp _,h=>by simp only [AV.low,dk] at h ⊢; omega
 | .nv _,h=>by simp only [AV.low,dk] at h ⊢; omega
 | .sfp _ _,h=>by simp only [AV.low,dk] at h ⊢; omega
 | .bs _ _,h=>by simp only [AV.low,dk] at h ⊢; omega
theorem AV.jg{c d:Nat}(a:c<=d):(l:List AV)->AV.bV c l=true->AV.bV d l=true
 |[],_=>by simp only [AV.bV]
 |v::l,h=>by simp only [AV.bV,ae] at h ⊢;exact ⟨AV.fi a v h.1,AV.jg a l h.2⟩
end
theorem OZ{c:Nat}:{l m:List AV}->AV.bV c l=true->AV.bV c m=true->AV.bV c (l++m)=true
 |[],m,_,h=>h
 |v::l,m,h,k=>by simp only [du,AV.bV,ae] at h ⊢;exact ⟨h.1,OZ h.2 k⟩
theorem AV.acg{ρ:ax}{l:List AV}{i:Nat}{v:AV}(h:l[i]? =some v):(AV.ao ρ l)[i]? =some (v.val ρ):=by
 induction l generalizing i with
 |nil=>simp at h
 |cons u l ih=>
  cases i with
  |zero=>simp at h;subst h;simp [AV.ao]
  |succ i=>simp only [AV.ao,b9] at h ⊢; exact ih h
theorem AV.gq{ρ:ax}:{l:List AV}->{k:Nat}->AV.ao ρ (l.drop k)=(AV.ao ρ l).drop k
 |l,0=>by simp
 |[],k+1=>by simp [AV.ao]
 |v::l,k+1=>by simp only [AV.ao,List.drop_succ_cons];exact AV.gq
theorem AV.ji{ρ:ax}:{l:List AV}->{k:Nat}->AV.ao ρ (l.take k)=(AV.ao ρ l).take k
 |l,0=>by simp [AV.ao]
 |[],k+1=>by simp [AV.ao]
 |v::l,k+1=>by simp only [AV.ao,qO];rw [AV.ji]
theorem AV.bl{ρ:ax}:{l:List AV}->(AV.ao ρ l).length=l.length
 |[]=>by simp [AV.ao]
 |v::l=>by simp [AV.ao,AV.bl]
theorem cX{ρ:ax}:{l m:List AV}->AV.ao ρ (l++m)=AV.ao ρ l++AV.ao ρ m
 |[],m=>by simp [AV.ao]
 |v::l,m=>by simp only [du,AV.ao];rw [cX]
abbrev GK:=Option (Nat×Bool)
inductive Row where
 |box (id:Nat) (t:TypeId) (vs:List AV)
 |sli (g:GK) (id:Nat) (t:Ty) (l:List t.T) (clip:Bool)
 |own (id:Nat) (t:Ty) (e:TypeId) (l:List t.T) (ver:Nat)
 |kn (g:GK) (q id ver:Nat) (t:Ty) (i:Int) (x:t.T)
 |elm (g:GK) (id:Nat) (vs:List AV)
 |mp (id:Nat) (k v:Ty) (d:Option (List (k.T×v.T)))
 |it (id:Nat) (s:aF) (p:Nat)
 |eq (id:Nat) (v:AV)
 |gone
inductive Pt where
 |int (k:IntKind)|bool|str
 |sli (t:Ty)
 |own (t:Ty) (e:TypeId) (m:Bool)
 |slr (n:Nat)
 |bx (t:TypeId) (off:Nat) (m:Bool) (vs:List Pt)
 |ptr (n off:Nat)
 |mp (k v:Ty) (m:Bool)
 |it
 |agg (l:List Pt)|cC (l:List Pt)
 |fn (f:FuncId) (a b:List Pt)
 |ifc (t:TypeId) (p:Pt)
 |iO (v:AV)
 |dat (t:Ty) (o:sv)
 |ifn
 |sfp
 |sty (p:Pt)
 |same
abbrev aE:=List (Nat×GK×AV)
structure Tm where
 vs:List (Bool×Nat×Pt)
 th:xc
inductive HT where
 |o
 |c (a b:HT)
 |l (t:Tm) (a:HT)
 |j (t:Tm) (a b:HT)
 |s (a:HT)
 |n (k:Nat) (a:HT)
 |r (th:xc) (a:HT)
structure aC where
 c:Nat
 E:aE
 G:List Row
 h:HT
structure Fr where
 F:aE
 H:List Row
 n:Nat
inductive XE where
 |nrm|ret
 |ext (i:Nat)
 |gto (l:Nat)
 |gF (v:AV)
 |panE (v:AV)
 |panL (v:AV)
def Vv:Bool->Bool->Bool
 |true,b=>b
 |false,b=> !b
theorem afr:{a b:Bool}->Vv a b=true->a=b
 |true,_,h=>h.symm
 |false,b,h=>by cases b <;> simp_all [Vv]
theorem aia:(a:Bool)->Vv a a=true
 |true=>rfl
 |false=>rfl
def GK.eq:GK->GK->Bool
 |none,none=>true
 |some (j,p),some (k,q)=>Nat.beq j k&&Vv p q
 |_,_=>false
theorem GK.eq_eq:{a b:GK}->a.eq b=true->a=b
 |none,none,_=>rfl
 |some (j,p),some (k,q),h=>by simp only [GK.eq,ae] at h;rw [ah h.1,afr h.2]
abbrev aA:=List ((Nat×Bool)×GK×Nat×Bool)
def vR(p b:Bool):Bool:=match p with
 |true=>b
 |false=> !b
theorem Mf(p b:Bool):vR p b=(b==p):=by cases p <;> cases b <;> rfl
def aA.get:aA->GK->Bool
 |_,none=>true
 |[],some _=>false
 |(k,par,_,b)::T,some k'=>ay ( GK.eq (some k) (some k') ) ( (aA.get T par&&vR k.2 b) )<|aA.get T (some k')
@[simp] theorem aA.get_none {T : aA} : T.get none = true := by cases T <;> rfl
theorem aA.PD{k:Nat×Bool}{par:GK}{rj:Nat}{b:Bool}{T:aA}{x:GK}(h:(!(GK.eq (some k) x))=true):aA.get ((k,par,rj,b)::T) x=T.get x:=by
 cases x with
 |none=>simp
 |some a=>
  simp only [aA.get];cases hb:GK.eq (some k) (some a)
  .rfl
  .rw [hb] at h;cases h
theorem GK.aeH:(k:Nat×Bool)->GK.eq (some k) (some k)=true:=λk=>by simp [GK.eq,aia]
theorem aA.alV{k:Nat×Bool}{par:GK}{rj:Nat}{b:Bool}{T:aA}:aA.get ((k,par,rj,b)::T) (some k)=(T.get par&&vR k.2 b):=by simp only [aA.get,GK.aeH]
def sT(p:fy):xc:=match p.2.2 with
 |0=>[]
 |_+1=>dq (sl p)
section
variable {α : Type} {A : dB α} {e : TypeId} {M M' : Nat -> Prop} {w w' : World}
theorem bJ.canon{p:fy}{xs:List α}(h:bJ A e M w (sl p) xs R):(∀b∈sT p,b∈R)/\∀(M':Nat->Prop) (w':World),bJ A e M' w' (sl p) xs R->bJ A e M' w' (sl p) xs (sT p):=by
 obtain ⟨a,n,cap⟩:=p;cases cap with
 |zero=>
  refine ⟨λb hb=>(by cases hb),λM' w' d=>?_⟩;have hx:xs=[]:=by
   rcases d with ⟨_,d⟩|⟨_,d,_⟩
   .obtain ⟨cells,⟨_,k⟩,_⟩:=d;rcases k with ⟨_,l⟩|⟨g,o,c,cur,hv,q,hc,r⟩
    .exact cf l
    .simp only [sl,Value.slice.injEq] at hv;exact cf (by omega)
   .exact d
  obtain ⟨m,s,f⟩:=d.len;simp only [sl,Value.slice.injEq] at f;have i:n=0:=by rw [f.2.1,hx];rfl
  subst i;exact .inr ⟨rfl,hx,⟨a,rfl⟩,bO.emp⟩
 |succ c=>
  have key:∀(M':Nat->Prop) (w':World),bJ A e M' w' (sl (a,n,c+1)) xs R->R=dq (sl (a,n,c+1)):=λM' w' d=>by
   rcases d with ⟨d,_⟩|⟨_,_,⟨m,d⟩,_⟩
   .exact d
   .simp only [sl,Value.slice.injEq] at d;omega
  have j:=key _ _ h;subst j;exact ⟨λb hb=>hb,λM' w' d=>d⟩
theorem bJ.AZ{p:fy}{xs:List α}(h:bJ A e M w (sl p) xs R):bJ A e M w (sl p) xs (sT p):=h.canon.2 _ _ h
def my(A:dB α)(e:TypeId)(p:fy)(l:List α)(q:Prop):Item where
 own:=sT p
 P M w:=bJ A e M w (sl p) l (sT p)/\q
 lt h:=h.1.lt
 cJ h m k _:=⟨h.1.cJ k m,h.2⟩
 cE:=false
 hp h:=by cases h
def DE(g:Bool)(A:dB α)(p:fy)(l:List α)(clip:Bool):Item where
 own:=[]
 P M w:=g=true->bO A M w (sl p) l/\(clip=true->p.2.2=l.length)
 lt _ b hb:=by cases hb
 cJ h m _ _:=λhg=>⟨(h hg).1.mv m,(h hg).2⟩
 cE:=true
 hp _:=rfl
def ZF(p:Prop):Item where
 own:=[]
 P _ _:=p
 lt _ b hb:=by cases hb
 cJ h _ _ _:=h
 cE:=true
 hp _:=rfl
end
def ES:(t:Ty)->t.T->Value
 | .i k,x=> .int k x
 | .s,x=>S x
 | .bo,x=> .bool x
 | .p (.i a) (.i b),x=>Ss a b x
 |_,_=> .bool false
def Row.item(ρ:ax)(T:aA):Row->Item
 | .box id t vs=>Go.Proofs.YtkedhpmpejhekaaGreatDoor.box (ρ id).b t (AV.ao ρ vs)
 | .sli g id t l b=>DE (T.get g) t.rep (ρ id).v l b
 | .own id t e l ver=>my t.rep e (ρ id).v l ((ρ ver).y=⟨.l t,l⟩)
 | .kn g q id ver t i x=>ZF (T.get g=true->∃l:List t.T,(ρ ver).y=⟨.l t,l⟩/\idx l i=some x/\(ρ q).a=pk (Go.Proofs.YtkedhpmpejhekaaGreatDoor.sl (ρ id).v) i t.rep.n)
 | .elm g id vs=>elem (T.get g) (ρ id).a (AV.ao ρ vs)
 | .mp id k v d=>omap (ES k) (ES v) (.map (ρ id).m) d
 | .it id s p=>iter (ρ id).b s p
 | .eq id v=>ZF ((ρ id).x=v.val ρ)
 | .gone=>ZF True
abbrev ab(ρ:ax)(T:aA)(G:List Row):Ctx:=G.map (Row.item ρ T)
def Row.low(c:Nat):Row->Bool
 | .box id _ vs=>Nat.blt id c&&AV.bV c vs
 | .sli _ id _ _ _|.mp id _ _ _|.it id _ _=>Nat.blt id c
 | .own id _ _ _ ver=>Nat.blt id c&&Nat.blt ver c
 | .kn _ q id ver _ _ _=>Nat.blt q c&&Nat.blt id c&&Nat.blt ver c
 | .elm _ id vs=>Nat.blt id c&&AV.bV c vs
 | .eq id v=>Nat.blt id c&&v.low c
 | .gone=>true
def bA(c:Nat):List Row->Bool
 |[]=>true
 |r::G=>r.low c&&bA c G
theorem Row.yJ{ρ ρ':ax}{T:aA}{c:Nat}(ha:aT c ρ ρ'){r:Row}(h:r.low c=true):r.item ρ' T=r.item ρ T:=by
 cases r <;> simp only [Row.low,ae,dk] at h
 .simp only [Row.item];rw [ha _ h.1,AV.bS ha _ h.2]
 .simp only [Row.item];rw [ha _ h]
 .simp only [Row.item];rw [ha _ h.1,ha _ h.2]
 .simp only [Row.item];rw [ha _ h.1.1,ha _ h.1.2,ha _ h.2]
 .simp only [Row.item];rw [ha _ h.1,AV.bS ha _ h.2]
 .simp only [Row.item];rw [ha _ h]
 .simp only [Row.item];rw [ha _ h]
 .simp only [Row.item];rw [ha _ h.1,AV.jW ha _ h.2]
 .simp only [Row.item]
theorem bc{ρ ρ':ax}{T:aA}{c:Nat}(ha:aT c ρ ρ'):{G:List Row}->bA c G=true->ab ρ' T G=ab ρ T G
 |[],_=>rfl
 |r::G,h=>by simp only [bA,ae] at h;simp only [ab,cp];rw [Row.yJ ha h.1];have:=bc (T:=T) ha h.2;simp only [ab] at this;rw [this]
def aE.env(ρ:ax)(T:aA):aE->Env
 |[]=>[]
 |(t,g,v)::E=>(t,T.get g,v.val ρ)::aE.env ρ T E
def aE.low(c:Nat):aE->Bool
 |[]=>true
 |x::E=>x.2.2.low c&&aE.low c E
theorem oH{ρ ρ':ax}{T:aA}{c:Nat}(ha:aT c ρ ρ'):{E:aE}->E.low c=true->aE.env ρ' T E=aE.env ρ T E
 |[],_=>rfl
 |(t,g,v)::E,h=>by simp only [aE.low,ae] at h;simp only [aE.env];rw [AV.jW ha v h.1,oH ha h.2]
def aC.low(fr:Fr)(st:aC):Bool:=aE.low st.c st.E&&aE.low st.c fr.F&&bA st.c st.G&&bA st.c fr.H
def ax.set(ρ:ax)(j:Nat)(x:Nm):ax:=λi=>ay (Nat.beq i j) x (ρ i)
theorem ax.bw{ρ:ax}{j:Nat}{x:Nm}:ρ.set j x j=x:=by simp [ax.set]
theorem ax.aY{ρ:ax}{j:Nat}{x:Nm}:aT j ρ (ρ.set j x):=λi hi=>by
 unfold ax.set;have:Nat.beq i j=false:=by
  cases hb:Nat.beq i j
  .rfl
  .exact absurd (ah hb) (Nat.ne_of_lt hi)
 rw [this]
def iE(E' E:Env):Prop:= ∀t p,look E' t=some p->look E t=some p
theorem iE.refl{E:Env}:iE E E:=λ_ _ h=>h
theorem iE.trans{A B C:Env}(h:iE A B)(k:iE B C):iE A C:=λt p hp=>k t p (h t p hp)
theorem Fits.lq{n:Nat}{E:Env}{a:Act}(h:Fits n E a)(c:iE E' E):Fits n E' a:=⟨h.size,λt g v b=>h.at_ t g v (c t _ b)⟩
theorem WC.lq{P:Program}{ρ:vA}{c:Code}{Q:br}{n:Nat}{D:tt}{E:Env}{w:World}(E':Env)(b:iE E' E)(h:WC P ρ c Q n D E' w):WC P ρ c Q n D E w:=
 λa d hd=>h a (d.lq b) hd
theorem At.lq{e:Exit}{Q:br}{n:Nat}{D:tt}{E:Env}{w:World}(E':Env)(b:iE E' E)(h:At Q e n D E' w):At Q e n D E w:=
 λa c hd=>h a (c.lq b) hd
theorem Eb{A B:Env}{t:Nat}:look (A++B) t=match look A t with
  |some p=>some p
  |none=>look B t:=by
 induction A with
 |nil=>rfl
 |cons x A ih=>
  obtain ⟨r,g,v⟩:=x;simp only [du,look];cases Nat.beq r t
  .simp only [kR];exact ih
  .rfl
theorem l8{ρ:ax}{T:aA}:{E F:aE}->aE.env ρ T (E++F)=aE.env ρ T E++aE.env ρ T F
 |[],_=>rfl
 |(t,g,v)::E,F=>by simp only [du,aE.env];rw [l8]
theorem bh{ρ:ax}{T:aA}{G H:List Row}:ab ρ T (G++H)=ab ρ T G++ab ρ T H:=qR
variable {a : Option α} {Φ : Ctx} {ρ : ax}
theorem aG{c:Bool}{r:α}(h:ay c a none=some r):c=true/\a=some r:=by
 cases c
 .cases h
 .exact ⟨rfl,h⟩
theorem MC{c:Bool}{r:α}(h:ay c none a=some r):c=false/\a=some r:=by
 cases c
 .exact ⟨rfl,h⟩
 .cases h
theorem dp{c:Bool}{b:Option α}{r:α}(h:ay c a b=some r):(c=true/\a=some r)\/(c=false/\b=some r):=by
 cases c
 .exact .inr ⟨rfl,h⟩
 .exact .inl ⟨rfl,h⟩
def aA.imp:aA->GK->GK->Bool
 |_,_,none=>true
 |[],_,some _=>false
 |_,none,some _=>false
 |(k,par,_,_)::T,some g,some g'=>GK.eq (some g) (some g')||(ay ( GK.eq (some k) (some g) ) ( aA.imp T par (some g') )<|aA.imp T (some g) (some g'))&& !(GK.eq (some k) (some g'))
theorem aA.jm:{T:aA}->{g g':GK}->T.imp g g'=true->T.get g=true->T.get g'=true
 |T,g,none,_,_=>by simp
 |[],g,some g',h,_=>by simp [aA.imp] at h
 |_::_,none,some g',h,_=>by simp [aA.imp] at h
 |(k,par,rj,b)::T,some g,some g',h,hg=>by
  simp only [aA.imp,ck,ae] at h;rcases h with h|⟨a,c⟩
  .rw [<-GK.eq_eq h];exact hg
  .rw [aA.PD c];cases hb:GK.eq (some k) (some g)
   .rw [hb] at a;rw [aA.PD (by rw [hb];rfl)] at hg;exact aA.jm a hg
   .rw [hb] at a;simp only [aA.get,hb,ae] at hg;exact aA.jm a hg.1
def bu:aE->Nat->Option (GK×AV)
 |[],_=>none
 |(r,g,v)::E,t=>ay ( Nat.beq r t ) ( some (g,v) )<|bu E t
def dz(E F:aE)(t:Nat):Option (GK×AV):=match bu E t with
 |some x=>some x
 |none=>bu F t
theorem rN{ρ:ax}{T:aA}{t:Nat}:{E:aE}->look (aE.env ρ T E) t=(bu E t).map λx=>(T.get x.1,x.2.val ρ)
 |[]=>rfl
 |(r,g',v')::E=>by
  simp only [bu,aE.env,look];cases hb:Nat.beq r t
  .simp only [kR];exact rN
  .rfl
abbrev au(ρ:ax)(T:aA)(E F:aE):Env:=aE.env ρ T E++aE.env ρ T F
theorem fI{T:aA}{t:Nat}{E F:aE}:look (au ρ T E F) t=(dz E F t).map λx=>(T.get x.1,x.2.val ρ):=by rw [Eb,rN,rN];unfold dz;cases bu E t <;> rfl
def iO:Value->AV
 | .int k x=> .int k x
 | .bool x=> .bool x
 | .string b=> .str b.data.toList
 |v=> .raw v
theorem afj:(iO v).val ρ=v:=by cases v <;> simp [iO,AV.val,S]
theorem kD{ρ:ax}:{l:vf}->AV.ao ρ (l.map iO)=l
 |[]=>by simp [AV.ao]
 |v::l=>by simp only [cp,AV.ao];rw [afj,kD]
theorem anA{c:Nat}:(iO v).low c=true:=by cases v <;> simp [iO,AV.low]
theorem aar{c:Nat}:{l:vf}->AV.bV c (l.map iO)=true
 |[]=>by simp [AV.bV]
 |v::l=>by simp only [cp,AV.bV];rw [anA,aar];rfl
def bq(T:aA)(E F:aE)(g:GK):Operand->Option AV
 | .tmp t=>match dz E F t with
  |some x=>ay ( T.imp g x.1 ) ( some x.2 )<|none
  |none=>none
 | .const v=>some (iO v)
 | .func f=>some (.fn f [] [])
 | .global f=>some (.gp f)
theorem aR{T:aA}{E F:aE}{g:GK}{v:AV}(h:bq T E F g x=some v):ar (au ρ T E F) (T.get g) x (v.val ρ):=by
 cases x with
 |tmp t=>
  unfold bq at h;dsimp only at h;cases a:dz E F t with
  |none=>rw [a] at h;cases h
  |some x=>
   rw [a] at h;obtain ⟨d,b⟩:=aG h;cases b;exact ar.g (g':=T.get x.1) (by rw [fI,a];rfl) (aA.jm d)
 |const u=>cases h;rw [afj];exact ar.c
 |func f=>cases h;simp only [AV.val,AV.ao];exact ar.f
 |global f=>cases h;simp only [AV.val];exact ar.gl
theorem bE{T:aA}{E F:aE}{v:AV}(h:bq T E F none x=some v):ar (au ρ T E F) true x (v.val ρ):=by have:=aR (ρ:=ρ) h;rwa [aA.get_none] at this
def oA(T:aA)(E F:aE)(g:GK):u9->Option (List AV)
 |[]=>some []
 |x::l=>match bq T E F g x with
  |some v=>match oA T E F g l with
   |some vs=>some (v::vs)
   |none=>none
  |none=>none
theorem fM{ρ:ax}{T:aA}{E F:aE}{g:GK}:{xs:u9}->{vs:List AV}->oA T E F g xs=some vs->gw (au ρ T E F) (T.get g) xs (AV.ao ρ vs)
 |[],vs,h=>by cases h;simp only [AV.ao];exact .nil
 |x::l,vs,h=>by
  unfold oA at h;split at h
  .rename_i v b;split at h
   next us a=>cases h;simp only [AV.ao];exact .cons (aR b) (fM a)
   .cases h
  .cases h
def lQ(p:Row->Bool):List Row->Option (Nat×Row)
 |[]=>none
 |r::G=>ay ( p r ) ( some (0,r) )<|match lQ p G with
  |some x=>some (x.1+1,x.2)
  |none=>none
theorem kI{p:Row->Bool}:{G:List Row}->{i:Nat}->{r:Row}->lQ p G=some (i,r)->G[i]? =some r/\p r=true
 |[],_,_,h=>by cases h
 |r0::G,i,r,h=>by
  unfold lQ at h;rcases dp h with ⟨b,a⟩|⟨b,a⟩
  .cases a;exact ⟨rfl,b⟩
  .split at a
   next x hx=>cases a;obtain ⟨d,c⟩:=kI (i:=x.1) (r:=x.2) hx;exact ⟨by simpa using d,c⟩
   .cases a
def lj(id:Nat):Row->Bool
 | .sli _ j _ _ _|.own j _ _ _ _=>Nat.beq j id
 |_=>false
def wG(id:Nat):Row->Bool
 | .box j _ _=>Nat.beq j id
 |_=>false
def afu(id:Nat):Row->Bool
 | .mp j _ _ _=>Nat.beq j id
 |_=>false
def aov(id:Nat):Row->Bool
 | .it j _ _=>Nat.beq j id
 |_=>false
def isEq(id:Nat):Row->Bool
 | .eq j _=>Nat.beq j id
 |_=>false
def QY(q:Nat):Row->Bool
 | .kn _ j _ _ _ _ _=>Nat.beq j q
 |_=>false
def apM(id:Nat):Row->Bool
 | .elm _ j _=>Nat.beq j id
 |_=>false
def Row.id:Row->Nat
 | .box j _ _|.sli _ j _ _ _|.own j _ _ _ _|.mp j _ _ _|.it j _ _|.eq j _|.elm _ j _|.kn _ j _ _ _ _ _=>j
 | .gone=>0
def Row.cE:Row->Bool
 | .sli ..|.elm ..|.eq ..|.kn ..|.gone=>true
 |_=>false
theorem Row.aic{T:aA}{r:Row}(h:r.cE=true):(r.item ρ T).cE=true:=by cases r <;> first|rfl|cases h
theorem fg{T:aA}{G:List Row}{i:Nat}{r:Row}(h:G[i]? =some r):(ab ρ T G++Φ)[i]? =some (r.item ρ T):=by have a:i<G.length:=(List.getElem?_eq_some_iff.1 h).1;rw [b8 (by simpa [ab] using a)];simp [ab,h]
theorem W0{T:aA}{G H:List Row}{i:Nat}{r:Row}(h:H[i]? =some r):(ab ρ T G++(ab ρ T H++Φ))[G.length+i]? =some (r.item ρ T):=by
 rw [bZ (by simp [ab])];have:G.length+i-(ab ρ T G).length=i:=by simp [ab]
 rw [this];exact fg h
inductive Src where
 |top (i:Nat)
 |cm (i:Nat)
 |nilI (t:Ty)
 |nilO (t:Ty) (e:TypeId)
 |nilM (k v:Ty)
def dE(G H:List Row)(p:Row->Bool):Option (Src×Row):=match lQ p G with
 |some x=>some (.top x.1,x.2)
 |none=>match lQ p H with
  |some x=>some (.cm x.1,x.2)
  |none=>none
def Src.at_(G H:List Row):Src->Row->Prop
 | .top i,r=>G[i]? =some r
 | .cm i,r=>H[i]? =some r
 |_,_=>False
theorem bU{p:Row->Bool}{G H:List Row}{s:Src}{r:Row}(h:dE G H p=some (s,r)):s.at_ G H r/\p r=true:=by
 unfold dE at h;split at h
 next x hx=>cases h;exact kI hx
 .split at h
  next x hx=>cases h;exact kI hx
  .cases h
theorem Src.item{T:aA}{G H:List Row}{s:Src}{r:Row}(h:s.at_ G H r):∃i:Nat,(ab ρ T G++(ab ρ T H++Φ))[i]? =some (r.item ρ T):=by
 cases s with
 |top i=>exact ⟨i,fg h⟩
 |cm i=>exact ⟨G.length+i,W0 h⟩
 |nilI=>exact h.elim
 |nilO=>exact h.elim
 |nilM=>exact h.elim
theorem Src.holds{T:aA}{G H:List Row}{s:Src}{r:Row}(a:Sat (ab ρ T G++(ab ρ T H++Φ)) w)(h:s.at_ G H r):(r.item ρ T).P (Ctx.M (ab ρ T G++(ab ρ T H++Φ))) w:=by obtain ⟨i,hi⟩:=Src.item (ρ:=ρ) (T:=T) (Φ:=Φ) h;exact a.at_ hi
def rG(n:Nat):xc->Bool
 |[]=>false
 |m::l=>Nat.beq n m||rG n l
theorem aaS{n:Nat}:{l:xc}->(rG n l=true↔n∈l)
 |[]=>by simp [rG]
 |m::l=>by simp only [rG,ck,qv];rw [aaS,Nat.beq_eq]
variable {cv : vb × AV}
structure Xl where
 f:FuncId
 run:{R:Type}->List AV->List Row->aC->(AV->aC->Option R)->Option R
def Xl.Ok(P:Program)(i:Xl):Prop:=Enters P i.f/\∀{R:Type} (r:R) (args:List AV) (H:List Row) (st:aC) (K:AV->aC->Option R) (ρ:ax) (Φ:Ctx) (w:World),Sat (ab ρ [] st.G++(ab ρ [] H++Φ)) w->
 i.run args H st K=some r->fp P i.f (AV.ao ρ args) w λv w'=>∃(ρ':ax) (st':aC) (av:AV),K av st'=some r/\aT st.c ρ ρ'/\st.c<=st'.c/\av.val ρ'=v/\Sat (ab ρ' [] st'.G++(ab ρ' [] H++Φ)) w'
structure Cx where
 P:Program
 tys:List (TypeId×Ty)
 gls:List (Nat×Nat×bX)
 ids:List FuncId
 idsOk:∀f,f∈ids->alH P f
 fl:Nat
 ks:List TypeId
 inl:List Xl
 inlOk:∀i,i∈inl->i.Ok P
 oc:List (Nat×Nat):=[]
def yX{α:Type}:List (Nat×α)->Nat->Option α
 |[],_=>none
 |x::l,n=>ay ( Nat.beq x.1 n ) ( some x.2 )<|yX l n
def Ik{ρ:Type}(c:vb)(g:vb)(k:Option ρ):Option ρ:=match c with
 |none=>k
 |some c=>match g with
  |none=>aI c k
  |some g=>Ka g c k
theorem ox{ρ:Type}{T:aA}{c:vb}{g:GK}{k:Option ρ}{r:ρ}(h:Ik c (g.map λ_=>T.get g) k=some r):(∀b,c=some b->T.get g=true->b=true)/\k=some r:=by
 unfold Ik at h;split at h
 .exact ⟨λb hb=>(by cases hb),h⟩
 .split at h
  next a=>obtain ⟨e,d⟩:=ej h;exact ⟨λb hb _=>(by cases hb;exact e),d⟩
  .rename_i g' a;cases g with
   |none=>cases a
   |some i=>
    simp only [hV,b5] at a;subst a;obtain ⟨e,d⟩:=aiV h;exact ⟨λb hb f=>(by cases hb;exact e f),d⟩
abbrev CV:=Option (vb×AV)
def pv(v:AV):CV:=some (none,v)
def fu(a b:IntKind):Bool:=decide (a=b)
theorem gm{a b:IntKind}(h:fu a b=true):a=b:=by simpa [fu] using h
def agT(k k':IntKind)(m l:Int):BinOp->CV
 | .add=>ay ( fu k k' ) ( pv (.int k (k.wrap (m+l))) ) none
 | .sub=>ay ( fu k k' ) ( pv (.int k (k.wrap (m-l))) ) none
 | .mul=>ay ( fu k k' ) ( pv (.int k (k.wrap (m*l))) ) none
 | .quo=>ay ( fu k k' ) ( some (some (l != 0),.int k (k.wrap (m.tdiv l))) ) none
 | .rem=>ay ( fu k k' ) ( some (some (l != 0),.int k (m.tmod l)) ) none
 | .eql=>ay ( fu k k' ) ( pv (.bool (m==l)) ) none
 | .neq=>ay ( fu k k' ) ( pv (.bool (m != l)) ) none
 | .lss=>ay ( fu k k' ) ( pv (.bool (decide (m<l))) ) none
 | .leq=>ay ( fu k k' ) ( pv (.bool (decide (m<=l))) ) none
 | .gtr=>ay ( fu k k' ) ( pv (.bool (decide (l<m))) ) none
 | .geq=>ay ( fu k k' ) ( pv (.bool (decide (l<=m))) ) none
 | .shr=>some (some (decide (0<=l)),.int k (ng k m l))
 | .shl=>some (some (decide (0<=l)),.int k (bW k m l))
 | .and=>ay ( fu k k' ) ( pv (.int k (pW k m l)) ) none
 | .or=>ay ( fu k k' ) ( pv (.int k (dP k m l)) ) none
 | .xor=>ay ( fu k k' ) ( pv (.int k (Wr k m l)) ) none
 | .andNot=>ay ( fu k k' ) ( pv (.int k (bI k m l)) ) none
def afI(m l:aF):BinOp->CV
 | .eql=>pv (.bool (m==l))
 | .neq=>pv (.bool (m != l))
 | .add=>some (some (lg m l),.str (m++l))
 | .lss=>pv (.bool (IJ m l))
 | .leq=>pv (.bool (IJ m l||m==l))
 | .gtr=>pv (.bool (!(IJ m l||m==l)))
 | .geq=>pv (.bool (!(IJ m l)))
 |_=>none
def aiU(m l:Bool):BinOp->CV
 | .eql=>pv (.bool (m==l))
 | .neq=>pv (.bool (m != l))
 |_=>none
def XW(P:Program)(t:TypeId):Option IntKind:=match P.underlying t with
 |some (.int k)=>some k
 |_=>none
theorem Fg{P:Program}{t:TypeId}{k:IntKind}(h:XW P t=some k):P.underlying t=some (.int k):=by
 unfold XW at h;split at h
 next b a=>cases h;exact a
 .cases h
def isStr(P:Program)(t:TypeId):Bool:=match P.underlying t with
 |some .string=>true
 |_=>false
theorem oR{P:Program}{t:TypeId}(h:isStr P t=true):P.underlying t=some .string:=by
 unfold isStr at h;split at h
 .assumption
 .cases h
def isBool(P:Program)(t:TypeId):Bool:=match P.underlying t with
 |some .bool=>true
 |_=>false
theorem XB{P:Program}{t:TypeId}(h:isBool P t=true):P.underlying t=some .bool:=by
 unfold isBool at h;split at h
 .assumption
 .cases h
def ak1(P:Program)(t:TypeId):Bool:=match P.underlying t with
 |some _=>true
 |none=>false
theorem ao1{P:Program}{t:TypeId}(h:ak1 P t=true):∃d,P.underlying t=some d:=by
 unfold ak1 at h;split at h
 next d hd=>exact ⟨d,hd⟩
 .cases h
def ahl(P:Program)(t:TypeId)(op:BinOp):AV->AV->CV
 | .int k m,.int k' l=>agT k k' m l op
 | .str m,.str l=>afI m l op
 | .bool m,.bool l=>ay ( isBool P t ) ( aiU m l op ) none
 |_,_=>none
def ali:UnOp->AV->CV
 | .not,.bool b=>pv (.bool (!b))
 | .neg,.int k m=>pv (.int k (k.wrap (0-m)))
 |_,_=>none
def amm:AV->Bool
 | .ptr _ _|.adr _ _|.fn _ _ _=>true
 |_=>false
def lC(P:Program)(Ev:Env)(ρ:ax)(g:Bool)(o:Oper)(w:World)(cv:vb×AV):Prop:=
 (∀b,cv.1=some b->g=true->b=true)->bf P Ev g o w (cv.2.val ρ)
section
variable {P : Program} {ρ : ax} {g : Bool} {w : World} {dst : v7} {ty : TypeId} {pos : String} {af : w4} {gd : s3} {Ev : Env}
theorem lC.pv{o:Oper}{v:AV}(h:pv v=some cv)(a:bf P Ev g o w (v.val ρ)):lC P Ev ρ g o w cv:=by cases h;exact λ_=>a
theorem ahN{t:TypeId}{op:BinOp}{k e:IntKind}{m l:Int}(hx:ar Ev g x (.int k m))(c:ar Ev g y (.int e l))(h:agT k e m l op=some cv):
  lC P Ev ρ g ⟨dst,.binOp op t x y t',ty,pos,af,gd⟩ w cv:=by
 have key:∀{a:CV},ay (fu k e) a none=some cv->k=e/\a=some cv:=λh=>⟨gm (aG h).1,(aG h).2⟩;cases op <;> simp only [agT] at h
 case shr=>cases h;exact λhc=>am0 hx c (λd=>hc _ rfl d)
 case shl=>cases h;exact λhc=>am2 hx c (λd=>hc _ rfl d)
 case quo=>
  obtain ⟨rfl,b⟩:=key h;cases b;exact λhc n a f d=>an1 hx c (by have:=hc _ rfl d;simpa using this) n a f d
 case rem=>
  obtain ⟨rfl,b⟩:=key h;cases b;exact λhc n a f d=>anW hx c (by have:=hc _ rfl d;simpa using this) n a f d
 case add=>obtain ⟨rfl,b⟩:=key h;exact .pv b (sw hx c)
 case sub=>obtain ⟨rfl,b⟩:=key h;exact .pv b (aff hx c)
 case mul=>obtain ⟨rfl,b⟩:=key h;exact .pv b (anY hx c)
 case eql=>obtain ⟨rfl,b⟩:=key h;exact .pv b (oT hx c)
 case neq=>obtain ⟨rfl,b⟩:=key h;exact .pv b (anc hx c)
 case lss=>obtain ⟨rfl,b⟩:=key h;exact .pv b (aeZ hx c)
 case leq=>obtain ⟨rfl,b⟩:=key h;exact .pv b (ant hx c)
 case gtr=>obtain ⟨rfl,b⟩:=key h;exact .pv b (UW hx c)
 case geq=>obtain ⟨rfl,b⟩:=key h;exact .pv b (anf hx c)
 case and=>obtain ⟨rfl,b⟩:=key h;exact .pv b (akn hx c)
 case or=>obtain ⟨rfl,b⟩:=key h;exact .pv b (anz hx c)
 case xor=>obtain ⟨rfl,b⟩:=key h;exact .pv b (aj9 hx c)
 case andNot=>obtain ⟨rfl,b⟩:=key h;exact .pv b (ady hx c)
theorem aiT{t:TypeId}{op:BinOp}{m l:aF}(hx:ar Ev g x (S m))(a:ar Ev g y (S l))(h:afI m l op=some cv):
  lC P Ev ρ g ⟨dst,.binOp op t x y t',ty,pos,af,gd⟩ w cv:=by
 unfold afI at h;split at h
 .exact .pv h (anh hx a)
 .exact .pv h (ann hx a)
 .cases h;exact λhc=>anO hx a (λb=>hc _ rfl b)
 .exact .pv h (am1 hx a)
 .exact .pv h (an3 hx a)
 .exact .pv h (amW hx a)
 .exact .pv h (am6 hx a)
 .cases h
theorem aju{t:TypeId}{op:BinOp}{a b:AV}(hx:ar Ev g x (a.val ρ))(c:ar Ev g y (b.val ρ))(h:ahl P t op a b=some cv):
  lC P Ev ρ g ⟨dst,.binOp op t x y t',ty,pos,af,gd⟩ w cv:=by
 unfold ahl at h;split at h
 .simp only [AV.val] at hx c;exact ahN hx c h
 .simp only [AV.val] at hx c;exact aiT hx c h
 .simp only [AV.val] at hx c;obtain ⟨e,d⟩:=aG h;unfold aiU at d;split at d
  .exact .pv d (am7 (XB e) hx c)
  .exact .pv d (amS (XB e) hx c)
  .cases d
 .cases h
theorem aly{t:TypeId}{op:UnOp}{u:AV}(hx:ar Ev g x (u.val ρ))(h:ali op u=some cv):
  lC P Ev ρ g ⟨dst,.unOp op t x,ty,pos,af,gd⟩ w cv:=by
 unfold ali at h;split at h
 .simp only [AV.val] at hx;exact .pv h (aad hx)
 .simp only [AV.val] at hx;exact .pv h (an2 hx)
 .cases h
theorem aiA{v:AV}(hx:ar Ev g x (v.val ρ))(h:amm v=true):bf P Ev g ⟨dst,.nilCheck x,ty,pos,af,gd⟩ w (v.val ρ):=by
 cases v with
 |ptr id off=>simp only [AV.val] at hx ⊢; exact abe hx
 |adr id off=>simp only [AV.val] at hx ⊢; exact abe hx
 |fn f a b=>simp only [AV.val] at hx ⊢; exact alR hx
 |_=>cases h
end
def jI(P:Program)(t:TypeId):Option (Nat×Nat×Value):=match P.info? t with
 |some i=>match i.zero with
  |some z=>some (i.size,i.bytes,z)
  |none=>none
 |none=>none
theorem cD{P:Program}{t:TypeId}{n bytes:Nat}(h:jI P t=some (n,bytes,z)):TI P t n bytes z:=by
 unfold jI at h;split at h
 .rename_i i hi;split at h
  next b a=>cases h;simp [TI,hi,a]
  .cases h
 .cases h
def ahD(P:Program)(t:TypeId)(k:Nat):Option (TypeId×Nat×Nat):=match P.underlying t with
 |some (.struct fs)=>match fs.toList[k]? with
  |some f=>match P.info? f.type with
   |some i=>some (f.type,f.offset,i.size)
   |none=>none
  |none=>none
 |_=>none
theorem afi{P:Program}{t ft:TypeId}{k off n:Nat}(h:ahD P t k=some (ft,off,n)):∃a f i,P.underlying t=some (.struct a)/\a[k]? =some f/\f.type=ft/\f.offset=off/\P.info? ft=some i/\i.size=n:=by
 unfold ahD at h;split at h
 .rename_i a b;split at h
  .rename_i f c;split at h
   next i hi=>cases h;exact ⟨a,f,i,b,by simpa using c,rfl,rfl,hi,rfl⟩
   .cases h
  .cases h
 .cases h
def jL(P:Program)(t:TypeId)(cs:List AV):Option AV:=match P.underlying t with
 |some d=>ay ( jb d ) ( (match jI P t with
   |some x=>ay ( Nat.ble x.1 cs.length ) ( some (.agg (cs.take x.1)) )<|none
   |none=>none)
  )<|cs.head?
 |none=>none
def cT:AV->List AV
 | .agg l=>l
 | .raw v=>v.cells.toList.map iO
 |v=>[v]
def K4:AV->Bool
 | .nv _=>false
 |_=>true
theorem w7{ρ:ax}{v:AV}(h:K4 v=true):(v.val ρ).cells=(AV.ao ρ (cT v)).toArray:=by
 cases v <;> simp only [cT,AV.val,AV.ao] <;> try rfl
 .cases h
 .rw [kD]
def sH(vs:List AV)(k:Nat)(us:List AV):List AV:=vs.take k++us++vs.drop (k+us.length)
theorem wD{ρ:ax}{vs us:List AV}{k:Nat}:mN (AV.ao ρ vs) k (AV.ao ρ us)=AV.ao ρ (sH vs k us):=by simp only [mN,sH,cX,AV.ji,AV.gq,AV.bl]
def yV(place:Nat->Option (Nat×Nat)):List (Nat×AV)->List AV->Option (List AV)
 |[],cs=>some cs
 |(i,v)::l,cs=>match place i with
  |some (off,n)=>ay ( K4 v&&(Nat.beq (cT v).length n&&Nat.ble (off+n) cs.length) ) ( yV place l (sH cs off (cT v)) )<|none
  |none=>none
theorem XP{off:Nat}:∀(us:vf) (k:Nat) (cs:vf),off+k+us.length<=cs.length->
  (us.zipIdx k).foldl (λcs (x:Value×Nat)=>cs.setIfInBounds (off+x.2) x.1) cs.toArray=(mN cs (off+k) us).toArray
 |[],k,cs,_=>by simp [mN]
 |u::us,k,cs,h=>by
  simp only [qb] at h;simp only [List.zipIdx_cons,List.foldl_cons,List.setIfInBounds_toArray];rw [XP us (k+1) (cs.set (off+k) u) (by rw [rP];omega)];congr 1;simp only [mN];have a:off+k<cs.length:=by omega
  have c:(cs.set (off+k) u).take (off+(k+1))=cs.take (off+k)++[u]:=by rw [show off+(k+1)=(off+k)+1 from rfl,List.take_add_one,qt a,List.take_set_of_le (bb _)];rfl
  have b:(cs.set (off+k) u).drop (off+(k+1)+us.length)=cs.drop (off+k+(u::us).length):=by rw [List.drop_set_of_lt (by omega)];congr 1;simp only [qb];omega
  rw [c,b];simp
theorem wg{ρ:ax}{a:Nat->Option (Nat×Nat)}:{ps:List (Nat×AV)}->{cs b:List AV}->yV a ps cs=some b->
  Instr.fill a (AV.ao ρ cs).toArray (ps.map λp=>(p.1,p.2.val ρ))=some (AV.ao ρ b).toArray
 |[],cs,b,h=>by cases h;rfl
 |(i,v)::l,cs,b,h=>by
  unfold yV at h;split at h
  .rename_i off n hp;obtain ⟨d,g⟩:=aG h;simp only [ae,Nat.ble_eq] at d;obtain ⟨f,c,k⟩:=d;have c:=ah c;have ih:=wg (ρ:=ρ) g;simp only [cp];unfold Instr.fill;simp only [hp];have e:=w7 (ρ:=ρ) f;have j:¬(((v.val ρ).cells.size≠n||decide (off+(v.val ρ).cells.size>(AV.ao ρ cs).toArray.size))=true):=by rw [e];simp only [hW,AV.bl,c];simp;omega
   rw [gZ j,e];have:=XP (off:=off) (AV.ao ρ (cT v)) 0 (AV.ao ρ cs) (by rw [AV.bl,AV.bl];omega);simp only [qg] at this;rw [show (AV.ao ρ (cT v)).toArray.zipIdx=((AV.ao ρ (cT v)).zipIdx 0).toArray from by simp,List.foldl_toArray,this,wD];exact ih
  .cases h
variable {P : Program}
def uv{α β:Type}(f:α->Option β):List α->Option (List β)
 |[]=>some []
 |x::l=>match f x with
  |some y=>match uv f l with
   |some ys=>some (y::ys)
   |none=>none
  |none=>none
theorem XR{P:Program}{w:World}{α β:Type}{f:α->Sem β}{g:α->Option β}(a:∀x y,g x=some y->(f x).run P w= .ok y w):∀{l:List α} {ys:List β},uv g l=some ys->(l.mapM f).run P w= .ok ys w
 |[],ys,h=>by cases h;simp
 |x::l,ys,h=>by
  unfold uv at h;split at h
  .rename_i y c;split at h
   next zs b=>cases h;rw [List.mapM_cons,Sem.run_bind,a x y c,Result.andThen_ok,Sem.run_bind,XR a b,Result.andThen_ok,Sem.run_pure]
   .cases h
  .cases h
theorem Un{w:World}{β:Type}{f:α->Sem β}{g:α->Option β}(a:∀x y,g x=some y->(f x).run P w= .ok y w){l:Array α}{ys:List β}(h:uv g l.toList=some ys):(l.mapM f).run P w= .ok ys.toArray w:=by rw [Array.mapM_eq_mapM_toList,Sem.run_map,XR a h];rfl
def abk(P:Program)(f:Field):Option (Nat×Nat):=match P.info? f.type with
 |some i=>some (f.offset,i.size)
 |none=>none
def abG(P:Program)(t:TypeId)(ps:List (Nat×AV)):Option (List AV):=match jI P t with
 |some z=>(match P.underlying t with
  |some (.struct fs)=>(match uv (abk P) fs.toList with
   |some pl=>yV (λi=>pl[i]?) ps (z.2.2.cells.toList.map iO)
   |none=>none)
  |some (.array _ e)=>(match P.info? e with
   |some i=>yV (λk=>some (k*i.size,i.size)) ps (z.2.2.cells.toList.map iO)
   |none=>none)
  |_=>none)
 |none=>none
theorem ai1{t:TypeId}{ρ:ax}{w:World}{ps:List (Nat×AV)}{cs:List AV}(h:abG P t ps=some cs):
  (Instr.build t (ps.map λp=>(p.1,p.2.val ρ)).toArray).run P w= .ok (.agg (AV.ao ρ cs).toArray) w:=by
 unfold abG at h;split at h
 .rename_i z m;obtain ⟨size,bytes,z⟩:=z;have j:=cD m;have d:=j.zero w;unfold Instr.build;simp only [Sem.run_bind,d,Result.andThen_ok];split at h
  .rename_i o a;simp only [run_underlying a,Result.andThen_ok];split at h
   .rename_i pl l;have n:(o.mapM λf=>do pure (f.offset,<-sizeOf f.type):Sem (Array (Nat×Nat))).run P w= .ok pl.toArray w:=Un (g:=abk P) (λf y c=>by
     unfold abk at c;split at c
     next i hi=>cases c;simp [sizeOf,typeInfo,hi]
     .cases c) l
    have b:=wg (ρ:=ρ) h;rw [kD] at b;simp only [Sem.run_bind,n,Result.andThen_ok];have e:(λ(x:Nat)=>pl.toArray[x]?)=λi=>pl[i]? :=by funext i;simp
    rw [e];simp only [Array.toArray_toList] at b;rw [b];rfl
   .cases h
  .rename_i k e a;simp only [run_underlying a,Result.andThen_ok];split at h
   next i hi=>have b:=wg (ρ:=ρ) h;rw [kD] at b;simp only [Array.toArray_toList] at b;simp only [Sem.run_bind,sizeOf,typeInfo,run_program,hi,Result.andThen_ok,Sem.run_pure];rw [b];rfl
   .cases h
  .cases h
 .cases h
theorem Av{ρ:ax}:∀(a:xc) (vs:List AV),(a.zip vs).map (λp=>(p.1,p.2.val ρ))=a.zip (AV.ao ρ vs)
 |[],_=>by simp
 |_::_,[]=>by simp [AV.ao]
 |i::a,v::vs=>by simp only [List.zip_cons_cons,cp,AV.ao];rw [Av]
def eK(T:aA)(E F:aE):Prop:= ∀x,x∈T->dz E F x.2.2.1=some (x.2.1,.bool x.2.2.2)/\T.get (some x.1)=(T.get x.2.1&&vR x.1.2 x.2.2.2)
def keyOf(r:Nat)(pol:Bool):aA->Option ((Nat×Bool)×GK×Nat×Bool)
 |[]=>none
 |x::T=>ay ( Nat.beq x.2.2.1 r&&Vv x.1.2 pol ) ( some x )<|keyOf r pol T
theorem acV{r:Nat}{a:Bool}:{T:aA}->{x:(Nat×Bool)×GK×Nat×Bool}->keyOf r a T=some x->x∈T/\x.2.2.1=r/\x.1.2=a
 |[],x,h=>by cases h
 |y::T,x,h=>by
  unfold keyOf at h;rcases dp h with ⟨c,b⟩|⟨_,b⟩
  .cases b;simp only [ae] at c;exact ⟨b0 .., ah c.1,afr c.2⟩
  .obtain ⟨e,d⟩:=acV b;exact ⟨aW _ e,d⟩
def amD(T:aA)(E F:aE)(g:GK)(c x:Operand):Option (Bool×Bool):=match bq T E F g x with
 |some (.bool y)=>(match bq T E F g c with
  |some (.bool b)=>some (b,y)
  |_=>none)
 |_=>none
def amc(T:aA)(E F:aE)(g:GK)(pol:Bool)(c x:Operand):Option (Bool×Bool):=match c with
 | .tmp r=>(match keyOf r pol T with
  |some k=>ay ( T.imp g k.2.1 ) ( match bq T E F (some k.1) x with
    |some (.bool y)=>some (k.2.2.2,y)
    |_=>none
   ) none
  |none=>none)
 |_=>none
def Zy(T:aA)(E F:aE)(g:GK)(pol:Bool)(c x:Operand):Option (Bool×Bool):=match amD T E F g c x with
 |some y=>some y
 |none=>amc T E F g pol c x
theorem acP{ρ:ax}{T:aA}{E F:aE}{g:GK}{i b y:Bool}{c:Operand}(D:eK T E F)(h:Zy T E F g i c x=some (b,y)):
  ar (au ρ T E F) (T.get g) c (.bool b)/\ar (au ρ T E F) (T.get g&&vR i b) x (.bool y):=by
 have f:∀{p q:Bool} {u:Value},ar (au ρ T E F) p x u->ar (au ρ T E F) (p&&q) x u:=λh n a m j=>h n a m (ae _ _▸j).1;unfold Zy at h;split at h
 .rename_i z d;cases h;unfold amD at d;split at d
  .rename_i t hx;split at d
   next G hc=>cases d;have l:=aR (ρ:=ρ) hx;have e:=aR (ρ:=ρ) hc;simp only [AV.val] at l e;exact ⟨e,f l⟩
   .cases d
  .cases d
 .unfold amc at h;split at h
  .rename_i r;split at h
   .rename_i k C;obtain ⟨l,e⟩:=aG h;split at e
    next t hx=>cases e;obtain ⟨B,A,w⟩:=acV C;obtain ⟨o,v⟩:=D _ B;have s:=aR (ρ:=ρ) hx;simp only [AV.val] at s;rw [A] at o;refine ⟨ar.g (g':=T.get k.2.1) (by rw [fI,o];simp [AV.val]) (aA.jm l),λn a m j=>s n a m ?_⟩;rw [v,w];simp only [ae] at j ⊢;exact ⟨aA.jm l j.1,j.2⟩
    .cases e
   .cases h
  .cases h
def isF:Operand->Bool
 | .const (.bool b)=> !b
 |_=>false
def ajC:Operand->Bool
 | .const (.bool b)=>b
 |_=>false
theorem api(h:isF x=true):x= .const (.bool false):=by
 unfold isF at h;split at h
 .rename_i b;cases b
  .rfl
  .cases h
 .cases h
theorem ans(h:ajC x=true):x= .const (.bool true):=by
 unfold ajC at h;split at h
 .rename_i b;cases b
  .cases h
  .rfl
 .cases h
def My(P:Program)(t:TypeId):Bool:=match P.underlying t with
 |some d=> !(fH d)
 |none=>false
theorem S4{t:TypeId}(h:My P t=true):∃d,P.underlying t=some d/\fH d=false:=by
 unfold My at h;split at h
 next d hd=>exact ⟨d,hd,by simpa using h⟩
 .cases h
def loA(T:aA)(E F:aE)(g:GK):Option Operand->vy
 |none=>some 0
 |some y=>match bq T E F g y with
  |some (.int _ i)=>some i
  |_=>none
def hiA(T:aA)(E F:aE)(g:GK):Option Operand->Option vy
 |none=>some none
 |some y=>match bq T E F g y with
  |some (.int _ i)=>some (some i)
  |_=>none
theorem K0{ρ:ax}{T:aA}{E F:aE}{g:GK}{lo:Option Operand}{i:Int}(h:loA T E F g lo=some i):(match (motive:=Option Operand->Prop) lo with|none=>i=0|some y=>∃k,ar (au ρ T E F) (T.get g) y (.int k i)):=by
 cases lo with
 |none=>cases h;rfl
 |some y=>
  unfold loA at h;dsimp only at h;split at h
  next k j a=>cases h;have:=aR (ρ:=ρ) a;simp only [AV.val] at this;exact ⟨k,this⟩
  .cases h
theorem Uf{ρ:ax}{T:aA}{E F:aE}{g:GK}{hi:Option Operand}{j:vy}{len:Nat}(h:hiA T E F g hi=some j):(match (motive:=Option Operand->Prop) hi with|none=>(j.getD (len:Int))=(len:Int)|some y=>∃k,ar (au ρ T E F) (T.get g) y (.int k (j.getD (len:Int)))):=by
 cases hi with
 |none=>cases h;rfl
 |some y=>
  unfold hiA at h;dsimp only at h;split at h
  next k j a=>cases h;have:=aR (ρ:=ρ) a;simp only [AV.val] at this;exact ⟨k,this⟩
  .cases h
def ab1(X:Cx)(T:aA)(E F:aE)(g:GK)(c:Callee)(xs:u9)(ts:List TypeId):CV:=match c,xs,ts with
 | .builtin .len,[x],[t]=>ay ( isStr X.P t ) ( (match bq T E F g x with
   |some (.str l)=>pv (.int .i64 (l.length:Int))
   |_=>none)
  ) none
 | .builtin .max,[x,y],[_,_]=>(match bq T E F g x,bq T E F g y with
  |some (.int k m),some (.int k' l)=>ay ( fu k k' ) ( pv (.int k (max m l)) ) none
  |_,_=>none)
 | .builtin .min,[x,y],[_,_]=>(match bq T E F g x,bq T E F g y with
  |some (.int k m),some (.int k' l)=>ay ( fu k k' ) ( pv (.int k (min m l)) ) none
  |_,_=>none)
 |_,_,_=>none
def ajz(X:Cx)(T:aA)(E F:aE)(g:GK):Op->CV
 | .move x=>(match bq T E F g x with
  |some v=>pv v
  |none=>none)
 | .assign x=>(match bq T E F g x with
  |some v=>pv v
  |none=>none)
 | .pick c a b=>ay ( isF b ) ( (match Zy T E F g true c a with
   |some y=>pv (.bool (y.1&&y.2))
   |none=>none)
  )<|ay ( ajC a ) ( (match Zy T E F g false c b with
   |some y=>pv (.bool (y.1||y.2))
   |none=>none)
  ) none
 | .nilCheck x=>(match bq T E F g x with
  |some v=>ay ( amm v ) ( pv v ) none
  |none=>none)
 | .extract x i=>(match bq T E F g x with
  |some (.tuple l)=>(match l[i]? with
   |some v=>pv v
   |none=>none)
  |_=>none)
 | .unOp op _ x=>(match bq T E F g x with
  |some v=>ali op v
  |none=>none)
 | .binOp op t x y _=>(match bq T E F g x with
  |some u=>(match bq T E F g y with
   |some v=>ahl X.P t op u v
   |none=>none)
  |none=>none)
 | .convert s d x=>(match bq T E F g x with
  |some (.int _ m)=>ay ( ak1 X.P s ) (match XW X.P d with
   |some k=>pv (.int k (k.wrap m))
   |none=>none) none
  |_=>none)
 | .index t x y=>ay ( isStr X.P t ) ( (match bq T E F g x,bq T E F g y with
   |some (.str l),some (.int _ i)=>some (some (yt i l.length),.int .u8 (jo l i))
   |_,_=>none)
  ) none
 | .slice t x lo hi none=>ay ( isStr X.P t ) ( (match bq T E F g x with
   |some (.str l)=>(match loA T E F g lo with
    |some i=>(match hiA T E F g hi with
     |some j=>some (some (dn i (j.getD (l.length:Int)) l.length),.str (cut l i (j.getD (l.length:Int))))
     |none=>none)
    |none=>none)
   |_=>none)
  ) none
 | .field t x k=>(match bq T E F g x with
  |some (.agg cs)=>(match ahD X.P t k with
   |some f=>(match jL X.P f.1 (cs.drop f.2.1) with
    |some v=>pv v
    |none=>none)
   |none=>none)
  |_=>none)
 | .fieldAddr t x k=>(match ahD X.P t k with
  |some f=>ay ( Nat.beq f.2.2 0 ) none (match bq T E F g x with
   |some (.ptr id o)=>pv (.ptr id (o+f.2.1))
   |some (.adr id o)=>pv (.adr id (o+f.2.1))
   |_=>none)
  |none=>none)
 | .build t ps=>(match oA T E F g (ps.toList.map (·.2)) with
  |some vs=>(match abG X.P t ((ps.toList.map (·.1)).zip vs) with
   |some cs=>pv (.agg cs)
   |none=>none)
  |none=>none)
 | .makeFunc (.func f) a b=>(match oA T E F g a.toList with
  |some us=>(match oA T E F g b.toList with
   |some vs=>pv (.fn f us vs)
   |none=>none)
  |none=>none)
 | .makeInterface t x=>(match bq T E F g x with
  |some v=>ay ( My X.P t ) ( pv (.ifc t v) ) none
  |none=>none)
 | .typeAssert x _ t false=>(match bq T E F g x with
  |some (.ifc t' v)=>ay ( Nat.beq t t'&&My X.P t ) ( pv v ) none
  |_=>none)
 | .call c=>ab1 X T E F g c.callee c.args.toList c.argTypes.toList
 |_=>none
theorem add_plain{o k:Nat}:(⟨b,o,none⟩:Addr).add k=⟨b,o+k,none⟩:=by
 unfold Addr.add;split
 next h=>subst h;rfl
 .rfl
theorem add_add{a:Addr}{j k:Nat}:(a.add j).add k=a.add (j+k):=by
 by_cases c:j=0
 .subst c;have:a.add 0=a:=by simp [Addr.add]
  rw [this,ec]
 .by_cases b:k=0
  .subst b;simp [Addr.add]
  .simp [Addr.add,c,b,qo]
theorem akx{l:List α}{v:α}(h:l.head? =some v):l[0]? =some v:=by
 cases l with
 |nil=>simp at h
 |cons a l=>simpa using h
section
variable {X : Cx} {ρ : ax} {T : aA} {E F : aE} {g : GK} {w : World} {dst : v7} {ty : TypeId} {pos : String} {af : w4} {gd : s3}
theorem mD{t:TypeId}{off:Nat}{cs:List AV}{v:AV}(h:jL X.P t (cs.drop off)=some v):∃d n bytes z,X.P.underlying t=some d/\(jb d=true->TI X.P t n bytes z)/\
  (if jb d then some (.agg (((AV.ao ρ cs).drop off).take n).toArray) else (AV.ao ρ cs)[off]?)=some (v.val ρ):=by
 unfold jL at h;split at h
 .rename_i d hd;rcases dp h with ⟨b,a⟩|⟨b,a⟩
  .split at a
   next x hx=>obtain ⟨n,bytes,z⟩:=x;obtain ⟨c,e⟩:=aG a;cases e;refine ⟨d,n,bytes,z,hd,λ_=>cD hx,?_⟩;rw [j5 b];simp only [AV.val,AV.ji,AV.gq]
   .cases a
  .refine ⟨d,0,0,.bool false,hd,(λh=>by rw [b] at h;cases h),?_⟩;rw [gZ (by rw [b];simp)];have c:=AV.acg (ρ:=ρ) (akx a);rw [AV.gq,et] at c;simpa using c
 .cases h
theorem agI{c:Callee}{xs:Array Operand}{j:Array TypeId}(h:ab1 X T E F g c xs.toList j.toList=some cv):
  lC X.P (au ρ T E F) ρ (T.get g) ⟨dst,.call ⟨c,xs,j⟩,ty,pos,af,gd⟩ w cv:=by
 obtain ⟨xs⟩:=xs;obtain ⟨j⟩:=j;unfold ab1 at h;split at h
 .rename_i x t b a;simp only at b a;subst b;subst a;obtain ⟨i,d⟩:=aG h;split at d
  next l hx=>have:=aR (ρ:=ρ) hx;simp only [AV.val] at this;exact .pv d (alj (oR i) this)
  .cases d
 .rename_i x y t t' b a;simp only at b a;subst b;subst a;split at h
  next k m o l hx n=>obtain ⟨i,d⟩:=aG h;have:=gm i;subst this;have f:=aR (ρ:=ρ) hx;have e:=aR (ρ:=ρ) n;simp only [AV.val] at f e;exact .pv d (akP f e (ak2 _ _ _ _ _))
  .cases h
 .rename_i x y t t' b a;simp only at b a;subst b;subst a;split at h
  next k m o l hx n=>obtain ⟨i,d⟩:=aG h;have:=gm i;subst this;have f:=aR (ρ:=ρ) hx;have e:=aR (ρ:=ρ) n;simp only [AV.val] at f e;exact .pv d (ajR f e (alo _ _ _ _ _))
  .cases h
 .cases h
theorem akc{op:Op}(Q:eK T E F)(h:ajz X T E F g op=some cv):
  lC X.P (au ρ T E F) ρ (T.get g) ⟨dst,op,ty,pos,af,gd⟩ w cv:=by
 unfold ajz at h;split at h
 .split at h
  next v hv=>exact .pv h (aL (aR hv))
  .cases h
 .split at h
  next v hv=>exact .pv h (cI (aR hv))
  .cases h
 .rename_i c a b;rcases dp h with ⟨r,p⟩|⟨_,p⟩
  .have:=api r;subst this;split at p
   next y B=>obtain ⟨x,s⟩:=acP (ρ:=ρ) (b:=y.1) (y:=y.2) Q B;exact .pv p (anC x (by simpa [vR] using s))
   .cases p
  .obtain ⟨r,p⟩:=aG p;have:=ans r;subst this;split at p
   next y B=>obtain ⟨x,s⟩:=acP (ρ:=ρ) (b:=y.1) (y:=y.2) Q B;exact .pv p (aph x (by simpa [vR] using s))
   .cases p
 .split at h
  next v hv=>obtain ⟨r,p⟩:=aG h;exact .pv p (aiA (aR hv) r)
  .cases h
 .split at h
  .rename_i l hv;split at h
   next v W=>have q:=aR (ρ:=ρ) hv;simp only [AV.val] at q;exact .pv h (aeg q (AV.acg W))
   .cases h
  .cases h
 .split at h
  next v hv=>exact aly (aR hv) h
  .cases h
 .split at h
  .rename_i u V;split at h
   next v hv=>exact aju (aR V) (aR hv) h
   .cases h
  .cases h
 .split at h
  .rename_i k' m hx;obtain ⟨r,p⟩:=aG h;obtain ⟨ds,L⟩:=ao1 r;split at p
   next k Y=>have q:=aR (ρ:=ρ) hx;simp only [AV.val] at q;exact .pv p (aaL L (Fg Y) q)
   .cases p
  .cases h
 .obtain ⟨r,p⟩:=aG h;split at p
  next l k i hx B=>have q:=aR (ρ:=ρ) hx;have R:=aR (ρ:=ρ) B;simp only [AV.val] at q R;cases p;exact λhc=>alc (oR r) q R (λC=>hc _ rfl C)
  .cases p
 .obtain ⟨r,p⟩:=aG h;split at p
  .rename_i l hx;split at p
   .rename_i i hi;split at p
    next j Z=>have q:=aR (ρ:=ρ) hx;simp only [AV.val] at q;cases p;exact λhc=>akz (oR r) q (K0 hi) (Uf Z) (λC=>hc _ rfl C)
    .cases p
   .cases p
  .cases p
 .split at h
  .rename_i cs hx;split at h
   .rename_i f G;obtain ⟨ft,off,n⟩:=f;split at h
    .rename_i v hv;obtain ⟨S,f,i,x,s,I,H,O,N⟩:=afi G;obtain ⟨d,n',bytes,z,c1,c2,J⟩:=mD (ρ:=ρ) hv;have q:=aR (ρ:=ρ) hx;simp only [AV.val] at q;cases hd:jb d
     .refine .pv h (λU a G C=>?_);have h5:=q U a G C;rw [hd] at J;simp only [mi,qA] at J;have hp:=afH (P:=X.P) (w:=w) c1 hd J;subst I;subst H;simp only [execOp,h5,Instr.field,Sem.run_bind,run_underlying x,Result.andThen_ok,s,asAgg,Sem.run_pure,hp]
     .exact .pv h (aiJ x s I H c1 (c2 hd) q J)
    .cases h
   .cases h
  .cases h
 .split at h
  .rename_i f G;obtain ⟨ft,off,n⟩:=f;obtain ⟨S,f,i,x,s,I,H,O,N⟩:=afi G;obtain ⟨r,p⟩:=MC h;have D:afm X.P _ _ off:=⟨S,f,i,x,s,H,by rw [I];exact O,by rw [N];exact Nat.ne_of_beq_eq_false r⟩;split at p
   next id o hx=>have q:=aR (ρ:=ρ) hx;simp only [AV.val] at q;refine .pv p ?_;simp only [AV.val];have:=ID (dst:=dst) (ty:=ty) (pos:=pos) (af:=af) (gd:=gd) (w:=w) D q;rwa [add_plain] at this
   next id o hx=>have q:=aR (ρ:=ρ) hx;simp only [AV.val] at q;refine .pv p ?_;simp only [AV.val];have:=ID (dst:=dst) (ty:=ty) (pos:=pos) (af:=af) (gd:=gd) (w:=w) D q;rwa [add_add] at this
   .cases p
  .cases h
 .rename_i t ps;split at h
  .rename_i vs A;split at h
   .rename_i cs M;refine .pv h ?_;simp only [AV.val];have q:=fM (ρ:=ρ) A;have:=ajb (P:=X.P) (w:=w) (dst:=dst) (ty:=ty) (pos:=pos) (af:=af) (gd:=gd) (t:=t) (v:= .agg (AV.ao ρ cs).toArray) q (λw=>by rw [<-Av];exact ai1 M)
    simpa using this
   .cases h
  .cases h
 .rename_i f a b;split at h
  .rename_i us K;split at h
   next vs A=>refine .pv h ?_;simp only [AV.val];have:=KH (P:=X.P) (w:=w) (dst:=dst) (ty:=ty) (pos:=pos) (af:=af) (gd:=gd) (fn:= .func f) (fM (ρ:=ρ) K) (fM (ρ:=ρ) A);simpa using this
   .cases h
  .cases h
 .split at h
  next v hv=>obtain ⟨r,p⟩:=aG h;obtain ⟨d,x,s⟩:=S4 r;refine .pv p ?_;simp only [AV.val];exact adL x s (aR hv)
  .cases h
 .split at h
  next t' v hv=>obtain ⟨r,p⟩:=aG h;simp only [ae] at r;obtain ⟨d,x,s⟩:=S4 r.2;have q:=aR (ρ:=ρ) hv;simp only [AV.val] at q;have e:=ah r.1;subst e;exact .pv p (adH x s q)
  .cases h
 .exact agI h
 .cases h
end
def rH(G H:List Row):AV->AV
 | .nv u=>(match dE G H (isEq u) with
  |some (_,.eq _ v)=>v
  |_=> .nv u)
 |v=>v
theorem PT{ρ:ax}{T:aA}{G H:List Row}{Φ:Ctx}{w:World}(a:Sat (ab ρ T G++(ab ρ T H++Φ)) w){v:AV}:(rH G H v).val ρ=v.val ρ:=by
 unfold rH;split
 .rename_i u;split
  next s j e h=>obtain ⟨d,c⟩:=bU h;have b:=Src.holds a d;have:j=u:=ah c;subst this;simp only [AV.val];exact b.symm
  .rfl
 .rfl
theorem J8{ρ:ax}{T:aA}{G H:List Row}{Φ:Ctx}{w:World}(a:Sat (ab ρ T G++(ab ρ T H++Φ)) w):(l:List AV)->AV.ao ρ (l.map (rH G H))=AV.ao ρ l
 |[]=>rfl
 |v::l=>by simp only [cp,AV.ao];rw [PT a,J8 a l]
def Si:Ty->Bool
 | .i _|.bo|.s|.un|.n=>true
 | .p x y=>Si x&&Si y
 |_=>false
def wy:(t:Ty)->t.T->List AV
 | .i k,x=>[.int k x]
 | .bo,x=>[.bool x]
 | .s,x=>[.str x]
 | .n,x=>[.ifc x (.agg [])]
 | .p a b,x=>wy a x.1++wy b x.2
 |_,_=>[]
theorem P3{ρ:ax}{M:Nat->Prop}{w:World}:(t:Ty)->(x:t.T)->(vs:vf)->Si t=true->t.rep.rd M w vs x->vs=AV.ao ρ (wy t x)
 | .i k,x,vs,_,h=>by simp only [wy,AV.ao,AV.val];exact h
 | .bo,x,vs,_,h=>by simp only [wy,AV.ao,AV.val];exact h
 | .s,x,vs,_,h=>by simp only [wy,AV.ao,AV.val];exact h
 | .un,x,vs,_,h=>by simp only [wy,AV.ao];exact h
 | .p a b,x,vs,hf,h=>by
  simp only [Si,ae] at hf;obtain ⟨us,c,rfl,e,d⟩:=h;rw [wy,cX,<-P3 a x.1 us hf.1 e,<-P3 b x.2 c hf.2 d]
 | .l _,_,_,hf,_=>by cases hf
 | .ex,_,_,hf,_=>by cases hf
 | .n,x,vs,_,h=>by simp only [wy,AV.ao,AV.val];exact h
 | .mp _ _,_,_,hf,_=>by cases hf
def acw(T:aA)(G H:List Row)(g:GK)(q off:Nat):Option (List AV):=match dE G H (QY q) with
 |some (_,.kn g' _ id ver u _ x)=>ay ( T.imp g g'&&Si u ) ( match dE G H (lj id) with
  |some (_,.own _ _ _ _ ver')=>ay ( Nat.beq ver ver' ) ( some ((wy u x).drop off) ) none
  |_=>none ) none
 |_=>none
theorem Ms{t t':Ty}{l:List t.T}{l':List t'.T}{y:bX}(h:y=⟨.l t,l⟩)(a:y=⟨.l t',l'⟩):∃e:t=t',e▸l=l':=by rw [h] at a;cases a;exact ⟨rfl,rfl⟩
theorem ahG{ρ:ax}{T:aA}{G H:List Row}{Φ:Ctx}{w:World}{g:GK}{q off:Nat}{vs:List AV}(o:Sat (ab ρ T G++(ab ρ T H++Φ)) w)(h:acw T G H g q off=some vs)(t:T.get g=true):
  bK w ((ρ q).a.add off) (AV.ao ρ vs):=by
 unfold acw at h;split at h
 .rename_i s g' q' id c u i r v;obtain ⟨m,k⟩:=aG h;simp only [ae] at m;split at k
  next O d u' e l b j=>obtain ⟨z,y⟩:=aG k;cases y;obtain ⟨D,C⟩:=bU v;obtain ⟨B,A⟩:=bU j;have K:q'=q:=ah C;have J:d=id:=ah A;have I:c=b:=ah z;subst K;subst J;subst I;obtain ⟨x,f⟩:=Src.holds o B;obtain ⟨P,N,M,L⟩:=(Src.holds o D) (aA.jm m.1 t);obtain ⟨F,p⟩:=Ms N f;subst F;simp only at p;subst p;obtain ⟨_,us,n,E⟩:=x.atA M;rw [P3 (ρ:=ρ) u r us m.2 E] at n;rw [<-L] at n;refine n.sub _ ?_;rw [AV.gq,ed (bb _)]
  .cases k
 .cases h
def w8(T:aA)(G H:List Row)(g:GK):AV->Option (List AV)
 | .ptr id off=>(match dE G H (wG id) with
  |some (_,.box _ _ vs)=>some ((vs.drop off).map (rH G H))
  |_=>none)
 | .adr id off=>(match dE G H (apM id) with
  |some (_,.elm g' _ vs)=>ay ( T.imp g g' ) ( some (vs.drop off) ) none
  |_=>acw T G H g id off)
 |_=>none
theorem Ll{ρ:ax}{T:aA}{G H:List Row}{Φ:Ctx}{w:World}{g:GK}{v:AV}{vs:List AV}(c:Sat (ab ρ T G++(ab ρ T H++Φ)) w)(h:w8 T G H g v=some vs)(i:T.get g=true):
  ∃p,v.val ρ= .pointer (some p)/\bK w p (AV.ao ρ vs):=by
 have sub:∀{p:Addr} {us:List AV} {off:Nat},bK w p (AV.ao ρ us)->bK w (p.add off) (AV.ao ρ (us.drop off)):=λh=>by refine h.sub _ ?_;rw [AV.gq,ed (bb _)]
 unfold w8 at h;split at h
 .rename_i id off;split at h
  next s j t us d=>cases h;obtain ⟨f,e⟩:=bU d;have:j=id:=ah e;subst this;have hb:eD w (ρ j).b t (AV.ao ρ us):=Src.holds c f;refine ⟨⟨(ρ j).b,off,none⟩,by simp only [AV.val],?_⟩;rw [J8 c,AV.gq];exact hb.part off (by rw [ed (bb _)])
  .cases h
 .rename_i id off;split at h
  next s g' j us d=>obtain ⟨l,k⟩:=aG h;cases k;obtain ⟨f,e⟩:=bU d;have:j=id:=ah e;subst this;have hb:=Src.holds c f;exact ⟨_,by simp only [AV.val],sub (hb (aA.jm l i)).2⟩
  .exact ⟨(ρ id).a.add off,by simp only [AV.val],ahG c h i⟩
 .cases h
def aco(t:Ty)(v:AV):Option t.T:=match t,v with
 | .i k,.int k' x=>ay ( fu k k' ) ( some x ) none
 | .s,.str x=>some x
 | .bo,.bool x=>some x
 | .p (.i a) (.i b),.agg [.int a' x,.int b' y]=>ay (fu a a'&&fu b b') (some (x,y)) none
 |_,_=>none
theorem VN{ρ:ax}{t:Ty}{v:AV}{x:t.T}(h:aco t v=some x):v.val ρ=ES t x:=by
 unfold aco at h;split at h
 .obtain ⟨a,b⟩:=aG h;have:=gm a;subst this;cases b;simp only [AV.val];rfl
 .cases h;simp only [AV.val];rfl
 .cases h;simp only [AV.val];rfl
 .obtain ⟨a,b⟩:=aG h;simp only [ae] at a;have d:=gm a.1;have c:=gm a.2;subst d;subst c;cases b;simp only [AV.val,AV.ao];rfl
 .cases h
def aho(t:Ty)(x:t.T):AV:=match t,x with
 | .i k,x=> .int k x
 | .s,x=> .str x
 | .bo,x=> .bool x
 | .p (.i a) (.i b),x=> .agg [.int a x.1,.int b x.2]
 |_,_=> .bool false
theorem ae8{ρ:ax}{t:Ty}{x:t.T}:(aho t x).val ρ=ES t x:=by unfold aho ES;split <;> first|(simp only [AV.val];done)|(simp only [AV.val,AV.ao];rfl)
instance keyBEq(t:Ty):BEq t.T:=match t with
 | .i _=>(inferInstance:BEq Int)
 | .s=>(inferInstance:BEq aF)
 | .bo=>(inferInstance:BEq Bool)
 | .p (.i _) (.i _)=>(inferInstance:BEq (Int×Int))
 |_=>⟨λ_ _=>false⟩
def Ty.oK:(t:Ty)->t.T
 | .i _=>(0:Int)
 | .bo=>false
 | .s=>([]:aF)
 | .un=>()
 | .n=>(0:Nat)
 | .p x y=>(x.oK,y.oK)
 | .l x=>([]:List x.T)
 | .mp k v=>(none:Option (List (k.T×v.T)))
 | .ex=>Ex.mk 0 0 0 []
def af8(P:Program)(kt:TypeId)(k:Ty):Bool:=match k with
 | .i k=>(match XW P kt with
  |some k'=>fu k k'
  |none=>false)
 | .s=>isStr P kt
 | .p (.i a) (.i b)=>(match P.underlying kt with
  |some (.struct ⟨[f1,f2]⟩)=>(match XW P f1.type,XW P f2.type with
   |some a',some b'=>fu a a'&&fu b b'&& !(f1.name== "_")&& !(f2.name== "_")&&Nat.beq f1.offset 0&&Nat.beq f2.offset 1&& !(P.stoodInHeld kt)
   |_,_=>false)
  |_=>false)
 |_=>false
theorem VQ{P:Program}{kt:TypeId}{k:Ty}(h:af8 P kt k=true):se P kt (ES k):=by
 unfold af8 at h;split at h
 .split at h
  next p j=>have:=gm h;subst this;exact se.int (Fg j)
  .cases h
 .exact se.str (oR h)
 .split at h
  .rename_i r q i;split at h
   next t s m l=>simp only [ae,c9,qC,ne_eq] at h;obtain ⟨⟨⟨⟨⟨⟨g,f⟩,e⟩,d⟩,c⟩,b⟩,a⟩:=h;have o:=gm g;have n:=gm f;subst o;subst n;exact se.pair i e d (ah c) (ah b) (Fg m) (Fg l) a
   .cases h
  .cases h
 .cases h
def agz(v:Ty)(z:Value):Bool:=match v,z with
 | .i k,.int k' x=>fu k k'&&decide (x=0)
 | .bo,.bool b=> !b
 | .s,.string b=>b.data.toList.isEmpty
 |_,_=>false
theorem ajV{v:Ty}(h:agz v z=true):z=ES v v.oK:=by
 unfold agz at h;split at h
 .simp only [ae,kz] at h;have:=gm h.1;subst this;rw [h.2];rfl
 .rename_i b;cases b
  .rfl
  .cases h
 .rename_i b;have:b.data.toList=[]:=by simpa using h
  show _=S [];unfold S;rw [<-this]
 .cases h
def Vt(P:Program)(t:TypeId):Option (TypeId×TypeId):=match P.underlying t with
 |some (.map k v)=>some (k,v)
 |_=>none
theorem wa{P:Program}{t:TypeId}{p:TypeId×TypeId}(h:Vt P t=some p):P.underlying t=some (.map p.1 p.2):=by
 unfold Vt at h;split at h
 next k v a=>cases h;exact a
 .cases h
def eT(P:Program)(t:TypeId):Option TypeId:=match P.underlying t with
 |some (.slice e)=>some e
 |_=>none
theorem bT{P:Program}{t:TypeId}(h:eT P t=some e):P.underlying t=some (.slice e):=by
 unfold eT at h;split at h
 next k a=>cases h;exact a
 .cases h
structure SlA where
 g:GK
 t:Ty
 l:List t.T
def Xg(G H:List Row)(id:Nat):Option SlA:=match dE G H (lj id) with
 |some (_,.sli g _ t l _)=>some ⟨g,t,l⟩
 |some (_,.own _ t _ l _)=>some ⟨none,t,l⟩
 |_=>none
theorem acS{ρ:ax}{T:aA}{G H:List Row}{Φ:Ctx}{w:World}{id:Nat}{s:SlA}(f:Sat (ab ρ T G++(ab ρ T H++Φ)) w)(h:Xg G H id=some s)(k:T.get s.g=true):
  (bO s.t.rep (Ctx.M (ab ρ T G++(ab ρ T H++Φ))) w (sl (ρ id).v) s.l)\/∃e,bJ s.t.rep e (Ctx.M (ab ρ T G++(ab ρ T H++Φ))) w (sl (ρ id).v) s.l (sT (ρ id).v):=by
 unfold Xg at h;split at h
 next i g j t l b a=>cases h;obtain ⟨d,c⟩:=bU a;have:j=id:=ah c;subst this;exact .inl ((Src.holds f d) k).1
 next i j t e l ks a=>cases h;obtain ⟨d,c⟩:=bU a;have:j=id:=ah c;subst this;exact .inr ⟨e,(Src.holds f d).1⟩
 .cases h
theorem UY{ρ:ax}{T:aA}{G H:List Row}{Φ:Ctx}{w:World}{id:Nat}{s:SlA}(a:Sat (ab ρ T G++(ab ρ T H++Φ)) w)(h:Xg G H id=some s)(b:T.get s.g=true):Oh (sl (ρ id).v) s.l.length:=by
 rcases acS a h b with h|⟨e,h⟩
 .exact h.len
 .exact h.len
theorem amN{ρ:ax}{T:aA}{G H:List Row}{Φ:Ctx}{w:World}{id:Nat}{s:SlA}(a:Sat (ab ρ T G++(ab ρ T H++Φ)) w)(h:Xg G H id=some s)(b:T.get s.g=true):bO s.t.rep (λ_=>False) w (sl (ρ id).v) s.l:=by
 rcases acS a h b with h|⟨e,h⟩
 .exact h.mv (Mv.weaken w λ_ h=>h.elim)
 .exact h.freeze (λ_ _ h=>h) (Mv.weaken w λ_ h=>h.elim)
def isU8:Ty->Bool
 | .i .u8=>true
 |_=>false
def akV(T:aA)(G H:List Row)(g:GK)(v:AV):Option xb:=match v with
 | .sl id=>(match Xg G H id with
  |some ⟨g',.i .u8,l⟩=>ay ( T.imp g g' ) ( some l ) none
  |_=>none)
 | .raw (.slice none 0 0)=>some []
 |_=>none
theorem anQ{ρ:ax}{T:aA}{G H:List Row}{Φ:Ctx}{w:World}{g:GK}{v:AV}{l:xb}(a:Sat (ab ρ T G++(ab ρ T H++Φ)) w)(h:akV T G H g v=some l)(c:T.get g=true):bO (RI .u8) (λ_=>False) w (v.val ρ) l:=by
 unfold akV at h;split at h
 .split at h
  next g' l' b=>obtain ⟨e,d⟩:=aG h;cases d;have:=amN a b (aA.jm e c);simp only [AV.val];exact this
  .cases h
 .cases h;simp only [AV.val];exact bO.nil
 .cases h
def abg(X:Cx)(T:aA)(E F:aE)(G H:List Row)(g:GK)(c:Callee)(xs:u9)(ts:List TypeId):CV:=match c,xs,ts with
 | .builtin .len,[x],[t]=>(match eT X.P t with
  |some _=>(match bq T E F g x with
   |some (.sl id)=>(match Xg G H id with
    |some s=>ay ( T.imp g s.g ) ( pv (.int .i64 (s.l.length:Int)) ) none
    |none=>none)
   |some (.raw (.slice none 0 0))=>pv (.int .i64 0)
   |_=>none)
  |none=>none)
 |_,_,_=>none
def ahc(X:Cx)(T:aA)(E F:aE)(G H:List Row)(g:GK)(op:BinOp)(t:TypeId)(x y:Operand):CV:=match Vt X.P t with
 |some _=>(match bq T E F g y with
  |some (.raw (.map none))=>(match bq T E F g x with
   |some (.mp id)=>(match dE G H (afu id) with
    |some (_,.mp _ _ _ d)=>(match op with
     | .eql=>pv (.bool (Option.isNone d))
     | .neq=>pv (.bool (!(Option.isNone d)))
     |_=>none)
    |_=>none)
   |some (.raw (.map none))=>(match op with
    | .eql=>pv (.bool true)
    | .neq=>pv (.bool false)
    |_=>none)
   |_=>none)
  |_=>none)
 |none=>none
def akB(X:Cx)(T:aA)(E F:aE)(G H:List Row)(g:GK):Op->CV
 | .load t x=>(match bq T E F g x with
  |some v=>(match w8 T G H g v with
   |some cs=>(match jL X.P t cs with
    |some v=>pv v
    |none=>none)
   |none=>none)
  |none=>none)
 | .convert s d x=>ay ( isStr X.P d ) ( (match eT X.P s with
  |some e=>(match XW X.P e with
   |some .u8=>(match bq T E F g x with
    |some v=>(match akV T G H g v with
     |some l=>pv (.str (strOf l))
     |none=>none)
    |none=>none)
   |_=>none)
  |none=>none) ) none
 | .lookup t x y ok=>(match Vt X.P t with
  |some p=>(match bq T E F g x with
   |some (.mp id)=>(match bq T E F g y with
    |some kv=>(match dE G H (afu id) with
     |some (_,.mp _ k v d)=>(match jI X.P p.2 with
      |some z=>ay ( af8 X.P p.1 k&&agz v z.2.2 ) ( (match aco k kv with
       |some key=>ay ( ok ) ( pv (.tuple [aho v (kX d key v.oK),.bool (Po d key)]) )<|pv (aho v (kX d key v.oK))
       |none=>none) ) none
      |none=>none)
     |_=>none)
    |none=>none)
   |_=>none)
  |none=>none)
 | .call c=>abg X T E F G H g c.callee c.args.toList c.argTypes.toList
 | .binOp op t x y _=>ahc X T E F G H g op t x y
 |_=>none
section
variable {X : Cx} {ρ : ax} {T : aA} {E F : aE} {G H : List Row} {Φ : Ctx} {g : GK} {w : World} {dst : v7} {ty : TypeId} {pos : String} {af : w4} {gd : s3}
theorem ag7{P:Program}{Ev:Env}{b:Bool}{o:Oper}(h:b=true->bf P Ev b o w v):bf P Ev b o w v:=λn a d c=>h c n a d c
theorem alY{t:TypeId}{u v:AV}{cs:List AV}(k:Sat (ab ρ T G++(ab ρ T H++Φ)) w)(hx:bq T E F g x=some u)(hc:w8 T G H g u=some cs)(h:jL X.P t cs=some v):
  bf X.P (au ρ T E F) (T.get g) ⟨dst,.load t x,ty,pos,af,gd⟩ w (v.val ρ):=ag7 λm=>by
 obtain ⟨p,hp,hc⟩:=Ll k hc m;have b:=aR (ρ:=ρ) hx;rw [hp] at b;have s:jL X.P t (cs.drop 0)=some v:=by simpa using h
 obtain ⟨d,n,bytes,z,c1,y,c⟩:=mD (ρ:=ρ) s;cases hd:jb d
 .rw [hd] at c;simp only [mi,qA] at c;refine KW c1 hd b (λ_=>?_);have:=hc.sub (us:=[v.val ρ]) 0 (by
   cases e:AV.ao ρ cs with
   |nil=>rw [e] at c;cases c
   |cons a l=>rw [e] at c;cases c;simp)
  simpa [Addr.add] using this
 .unfold jL at h;rw [c1] at h;rcases dp h with ⟨_,f⟩|⟨j,_⟩
  .split at f
   .rename_i q e;obtain ⟨n,bytes,z⟩:=q;obtain ⟨r,o⟩:=aG f;cases o;have i:n<=cs.length:=cd r;simp only [AV.val];refine Ke c1 hd (cD e) b (λ_=>?_) ?_
    .have:=hc.sub (us:=AV.ao ρ (cs.take n)) 0 (by rw [AV.ji,l9,bj,AV.bl,cq i])
     simpa [Addr.add] using this
    .rw [AV.bl,bj,cq i]
   .cases f
  .rw [hd] at j;cases j
theorem agZ{c:Callee}{xs:Array Operand}{b:Array TypeId}(k:Sat (ab ρ T G++(ab ρ T H++Φ)) w)(h:abg X T E F G H g c xs.toList b.toList=some cv):
  lC X.P (au ρ T E F) ρ (T.get g) ⟨dst,.call ⟨c,xs,b⟩,ty,pos,af,gd⟩ w cv:=by
 obtain ⟨xs⟩:=xs;obtain ⟨b⟩:=b;unfold abg at h;split at h
 .rename_i x t j i;simp only at j i;subst j;subst i;split at h
  .rename_i e f;split at h
   .rename_i id hx;have a:=aR (ρ:=ρ) hx;simp only [AV.val] at a;split at h
    next s d=>obtain ⟨o,m⟩:=aG h;exact .pv m (ag7 λl=>Dn (bT f) a (UY k d (aA.jm o l)))
    .cases h
   next hx=>have a:=aR (ρ:=ρ) hx;simp only [AV.val] at a;exact .pv h (Dn (n:=0) (bT f) a ⟨_,_,rfl⟩)
   .cases h
  .cases h
 .cases h
theorem aiL{op:BinOp}{t:TypeId}(e:Sat (ab ρ T G++(ab ρ T H++Φ)) w)(h:ahc X T E F G H g op t x y=some cv):
  lC X.P (au ρ T E F) ρ (T.get g) ⟨dst,.binOp op t x y t',ty,pos,af,gd⟩ w cv:=by
 unfold ahc at h;split at h
 .rename_i p hp;split at h
  .rename_i c;have b:=aR (ρ:=ρ) c;simp only [AV.val] at b;split at h
   .rename_i id hx;have a:=aR (ρ:=ρ) hx;simp only [AV.val] at a;split at h
    .rename_i s j k v d f;obtain ⟨l,i⟩:=bU f;have:j=id:=ah i;subst this;have hb:=Src.holds e l;split at h
     .exact .pv h (Sf (wa hp) a b hb)
     .exact .pv h (RM (wa hp) a b hb)
     .cases h
    .cases h
   .rename_i hx;have a:=aR (ρ:=ρ) hx;simp only [AV.val] at a;split at h
    .exact .pv h (adw (wa hp) a b)
    .exact .pv h (adp (wa hp) a b)
    .cases h
   .cases h
  .cases h
 .cases h
theorem ajA{op:Op}(f:Sat (ab ρ T G++(ab ρ T H++Φ)) w)(h:akB X T E F G H g op=some cv):
  lC X.P (au ρ T E F) ρ (T.get g) ⟨dst,op,ty,pos,af,gd⟩ w cv:=by
 unfold akB at h;split at h
 .split at h
  .rename_i v hv;split at h
   .rename_i cs o;split at h
    next Q n=>exact .pv h (alY f hv o n)
    .cases h
   .cases h
  .cases h
 .obtain ⟨b,a⟩:=aG h;split at a
  .rename_i e I;split at a
   .rename_i B;split at a
    .rename_i v hv;split at a
     next l A=>refine .pv a (ag7 λC=>?_);have m:=aR (ρ:=ρ) hv;simp only [AV.val];exact anu (M:=λ_=>False) (bT I) (Fg B) (oR b) m (λ_=>anQ f A C)
     .cases a
    .cases a
   .cases a
  .cases a
 .rename_i t x y ok;split at h
  .rename_i p hp;split at h
   .rename_i id hx;split at h
    .rename_i R u;split at h
     .rename_i s j k v d D;split at h
      .rename_i z r;obtain ⟨b,a⟩:=aG h;simp only [ae] at b;split at a
       .rename_i key i;obtain ⟨K,J⟩:=bU D;have:j=id:=ah J;subst this;have hb:=Src.holds f K;have m:=aR (ρ:=ρ) hx;have q:=aR (ρ:=ρ) u;simp only [AV.val] at m;rw [VN i] at q;obtain ⟨O,N,L⟩:=z;have c:(zeroValue p.2).run X.P w= .ok (ES v v.oK) w:=by rw [<-ajV b.2];exact (cD r).zero w
        cases ok
        .refine .pv a ?_;rw [ae8];exact agN (VQ b.1) (wa hp) c m q (λ_=>hb)
        .refine .pv a ?_;simp only [AV.val,AV.ao];rw [ae8];exact abz (VQ b.1) (wa hp) c m q (λ_=>hb)
       .cases a
      .cases h
     .cases h
    .cases h
   .cases h
  .cases h
 .exact agZ f h
 .exact aiL f h
 .cases h
end
def bC(P:Program)(E:Env)(o:Oper)(w:World)(R:Value->World->Prop):Prop:=
 ∀n a,Fits n E a->(∃v w',(execOp a.eval o).run P w= .ok (.value v) w'/\R v w')\/(∃w',(execOp a.eval o).run P w= .ok .skip w'/\R undef w')\/
  (∃(f:FuncId) (args:vf),(execOp a.eval o).run P w= .ok (.enter f args.toArray) w/\fp P f args w R)
section
variable {P : Program} {σ : vA} {Q : br} {n : Nat} {D : tt} {E : Env} {w : World} {ops : wT} {rest : xa} {o : Oper} {R S : Value -> World -> Prop}
theorem bC.run(h:bf P E true o w v)(k:R v w):bC P E o w R:=λn a b=> .inl ⟨v,w,h n a b rfl,k⟩
theorem bC.me{w':World}(h:ky P E o w v w')(k:R v w'):bC P E o w R:=λn a b=> .inl ⟨v,w',h n a b,k⟩
theorem bC.afT{w':World}(h:QO P E o w w')(k:R undef w'):bC P E o w R:=λn a b=> .inr (.inl ⟨w',h n a b,k⟩)
theorem bC.upon(hd:bC P E o w R){a:Act}(e:Fits n E a){b:Act->World->Prop}(h:∀v w',R v w'->b (a.put o.dst v) w'):o.uponIn (FW σ) 0 P a b Q ((execOp a.eval o).run P w):=by
 rcases hd n a e with ⟨v,w',d,c⟩|⟨w',d,c⟩|⟨f,args,d,c⟩
 .rw [d,Oper.uponIn_value];exact h _ _ c
 .rw [d,Oper.uponIn_skip];exact h _ _ c
 .rw [d];exact GH c (λv w' hv=>h v w' hv) (λ_ _ hv=>hv.elim)
def oQ(dst:v7)(g:Bool)(v:Value)(E:Env):Env:=match dst with
 |some d=>(d,g,v)::E
 |none=>E
def LN(n:Nat):v7->Bool
 |some d=>Nat.blt d n
 |none=>true
theorem Fits.oQ{E:Env}{a:Act}(h:Fits n E a){d:v7}{g:Bool}{v:Value}(hd:LN n d=true):Fits n (oQ d g v E) (a.put d (vJ g v)):=by
 cases d with
 |none=>exact h
 |some d=>exact h.put hd
theorem anV(hd:bC P E o w R)(hp:ij o=true)(d:o.guard=none)(c:LN n o.dst=true)
  (h:∀v w',R v w'->WL P σ ops Q n D rest (oQ o.dst true v E) w'):WL P σ ops Q n D (o::rest) E w:=λa b f=>
 wpListIn_plain d λK e=>jT hp (hd.upon b λv w' hv=>e _ _ (h v w' hv _ (b.oQ c) (by rw [gV];exact f)))
theorem akS{j:Nat}{b:Bool}{rj:Tmp}{m p:Bool}{g:Bool}(hd:g=true->bC P E o w R)(t:g=false->∃v,R v w)(hp:ij o=true)(f:o.guard=some (j,b))(r:(ops[j]?).bind (·.dst)=some rj)
  (q:look E rj=some (m,.bool p)) (e:Nat.blt rj n=true) (s:(m&&(p==b))=g) (i:LN n o.dst=true)
  (h:∀v w',R v w'->WL P σ ops Q n D rest (oQ o.dst g v E) w'):WL P σ ops Q n D (o::rest) E w:=λa c l=>
 wpListIn_step λK k=>by
  rw [CE f r q c e,s];cases g
  .simp only [mi,qA];obtain ⟨v,hv⟩:=t rfl;have:=c.oQ (d:=o.dst) (g:=false) (v:=v) i;exact ⟨λ_ _=>trivial,k _ _ (h _ _ hv _ this (by rw [gV];exact l))⟩
  .simp only [qp];exact jT hp ((hd rfl).upon c λv w' hv=>k _ _ (h v w' hv _ (c.oQ i) (by rw [gV];exact l)))
end
abbrev cw(R:Type):=aC->Option R
def cn(dst:v7)(g:GK)(v:AV)(E:aE):aE:=match dst with
 |some d=>(d,g,v)::E
 |none=>E
def aV{R:Type}(r:R)(K:cw R)(T:aA)(fr:Fr)(st:aC)(g:GK)(dst:v7)(ρ:ax)(Φ:Ctx)(v:Value)(w':World):Prop:=
 ∃(ρ':ax) (st':aC) (av:AV),K st'=some r/\aT st.c ρ ρ'/\st.c<=st'.c/\st'.E=cn dst g av st.E/\av.val ρ'=v/\au ρ' T st.E fr.F=au ρ T st.E fr.F/\
  ab ρ' T fr.H=ab ρ T fr.H/\Sat (ab ρ' T st'.G++(ab ρ' T fr.H++Φ)) w'
def iB(P:Program)(T:aA)(g:GK)(Ev:Env)(o:Oper)(w:World)(O:Value->World->Prop):Prop:=
 (T.get g=true->bC P Ev o w O)/\(T.get g=false->∃v,O v w)
section
variable {R : Type} {r : R} {K : cw R} {T : aA} {fr : Fr} {st st' : aC} {g : GK} {dst : v7} {ρ ρ' : ax} {Φ : Ctx} {v : Value} {w w' : World}
theorem aC.cB:st.low fr=true↔aE.low st.c st.E=true/\aE.low st.c fr.F=true/\bA st.c st.G=true/\bA st.c fr.H=true:=by simp only [aC.low,ae,and_assoc]
theorem lO(a:st.low fr=true)(ha:aT st.c ρ ρ'):au ρ' T st.E fr.F=au ρ T st.E fr.F:=by obtain ⟨d,b,_,_⟩:=aC.cB.1 a;rw [au,oH ha d,oH ha b]
theorem aV.new{av:AV}(a:st.low fr=true)(d:K st'=some r)(ha:aT st.c ρ ρ')(hc:st.c<=st'.c)(f:st'.E=cn dst g av st.E)(hv:av.val ρ'=v)
  (b:Sat (ab ρ' T st'.G++(ab ρ T fr.H++Φ)) w'):aV r K T fr st g dst ρ Φ v w':=by
 have e:=bc (T:=T) ha (aC.cB.1 a).2.2.2;exact ⟨ρ',st',av,d,ha,hc,f,hv,lO a ha,e,by rw [e];exact b⟩
theorem aV.ie{av:AV}(b:K st'=some r)(hc:st.c<=st'.c)(d:st'.E=cn dst g av st.E)(hv:av.val ρ=v)
  (a:Sat (ab ρ T st'.G++(ab ρ T fr.H++Φ)) w'):aV r K T fr st g dst ρ Φ v w':=
 ⟨ρ,st',av,b,.refl,hc,d,hv,rfl,rfl,a⟩
theorem aV.push{av:AV}{x:Nm}{row:Row}(a:st.low fr=true)(b:K { st with c:=st.c+1,E:=cn dst g av st.E,G:=row::st.G }=some r)(hv:av.val (ρ.set st.c x)=v)
  (hs:Sat (row.item (ρ.set st.c x) T::(ab ρ T st.G++(ab ρ T fr.H++Φ))) w'):aV r K T fr st g dst ρ Φ v w':=by
 refine aV.new a b ax.aY (eb _) rfl hv ?_;have e:=bc (T:=T) (ax.aY (ρ:=ρ) (j:=st.c) (x:=x)) (aC.cB.1 a).2.2.1;show Sat (ab (ρ.set st.c x) T (row::st.G)++_) w';rw [ab,cp];rw [ab] at e;rw [e];exact hs
theorem eU{G:List Row}{row:Row}{j:Nat}{Δ:Ctx}(a:j<G.length):ab ρ T (G.set j row)++Δ=(ab ρ T G++Δ).set j (row.item ρ T):=by rw [List.set_append_left _ _ (by simpa [ab] using a)];simp only [ab,List.map_set]
theorem aV.mF{av:AV}{x:Nm}{row:Row}{j:Nat}(a:st.low fr=true)(b:j<st.G.length)(d:K { st with c:=st.c+1,E:=cn dst g av st.E,G:=st.G.set j row }=some r)(hv:av.val (ρ.set st.c x)=v)
  (hs:Sat ((ab ρ T st.G++(ab ρ T fr.H++Φ)).set j (row.item (ρ.set st.c x) T)) w'):aV r K T fr st g dst ρ Φ v w':=by
 refine aV.new a d ax.aY (eb _) rfl hv ?_;have e:=bc (T:=T) (ax.aY (ρ:=ρ) (j:=st.c) (x:=x)) (aC.cB.1 a).2.2.1;show Sat (ab (ρ.set st.c x) T (st.G.set j row)++_) w';rw [eU b,e];exact hs
end
def JW(P:Program)(T:aA)(g:GK)(Ev:Env)(o:Oper)(w:World)(O:Value->World->Prop):Prop:= ∃v,(∀w',bf P Ev (T.get g) o w' v)/\O v w
theorem JW.ok2{T:aA}{g:GK}{Ev:Env}{o:Oper}{w:World}{O:Value->World->Prop}(h:JW P T g Ev o w O):iB P T g Ev o w O:=by obtain ⟨v,c,a⟩:=h;exact ⟨λb=>bC.run (by have:=c w;rwa [b] at this) a,λ_=>⟨v,a⟩⟩
theorem bC.gd{E:Env}{dst:v7}{op:Op}{ty:TypeId}{pos:String}{af:w4}{gd:Option (Nat×Bool)}{w:World}{R:Value->World->Prop}(h:bC P E ⟨dst,op,ty,pos,af,none⟩ w R):bC P E ⟨dst,op,ty,pos,af,gd⟩ w R:=
 λn a b=>h n a b
def Ty.n':Ty->Nat
 | .i _|.bo|.s|.l _|.n=>1
 | .un|.mp _ _=>0
 | .p x y=>x.n'+y.n'
 | .ex=>4
theorem Ty.A5:(t:Ty)->t.rep.n=t.n'
 | .i _|.bo|.s|.l _|.un|.n|.mp _ _|.ex=>rfl
 | .p x y=>by show x.rep.n+y.rep.n=_;rw [Ty.A5 x,Ty.A5 y];rfl
def dy:(t:Ty)->t.T->Nat->List AV×List Row×Nat
 | .i k,x,c=>([.int k x],[],c)
 | .bo,x,c=>([.bool x],[],c)
 | .s,x,c=>([.str x],[],c)
 | .un,_,c=>([],[],c)
 | .n,x,c=>([.ifc x (.agg [])],[],c)
 | .mp _ _,_,c=>([],[],c)
 | .p a b,x,c=>match dy a x.1 c with
  |(u,p,c)=>match dy b x.2 c with
   |(v,q,c)=>(u++v,p++q,c)
 | .l t,x,c=>([.sl c],[.sli none c t x false],c+1)
 | .ex,x,c=>([.int .i64 x.op,.int .i64 x.n,.int .i64 x.at_,.sl c],[.sli none c .ex x.l false],c+1)
structure apu(T:aA)(M:Nat->Prop)(w:World)(vs:vf)(c:Nat)(ρ ρ':ax)(m:List AV×List Row×Nat):Prop where
 ag:aT c ρ ρ'
 le:c<=m.2.2
 lw:AV.bV m.2.2 m.1=true
 eq:AV.ao ρ' m.1=vs
 rl:∀r∈m.2.1,r.low m.2.2=true
 rs:∀r∈m.2.1,∃j t l,r= .sli none j t l false
 rp:∀r∈m.2.1,(r.item ρ' T).P M w
theorem Row.fi{c d:Nat}(a:c<=d){r:Row}(h:r.low c=true):r.low d=true:=by
 cases r <;> simp only [Row.low,ae,dk] at h ⊢
 .exact ⟨by omega,AV.jg a _ h.2⟩
 .omega
 .omega
 .omega
 .exact ⟨by omega,AV.jg a _ h.2⟩
 .omega
 .omega
 .exact ⟨by omega,AV.fi a _ h.2⟩
theorem FX{T:aA}{M:Nat->Prop}{w:World}:(t:Ty)->(x:t.T)->(c:Nat)->(vs:vf)->t.rep.rd M w vs x->(ρ:ax)->∃ρ',apu T M w vs c ρ ρ' (dy t x c)
 | .i k,x,c,vs,h,ρ=>⟨ρ,.refl,bb _,rfl,by cases h;simp [dy,AV.ao,AV.val],(λ_ h=>by cases h),(λ_ h=>by cases h),(λ_ h=>by cases h)⟩
 | .bo,x,c,vs,h,ρ=>⟨ρ,.refl,bb _,rfl,by cases h;simp [dy,AV.ao,AV.val],(λ_ h=>by cases h),(λ_ h=>by cases h),(λ_ h=>by cases h)⟩
 | .s,x,c,vs,h,ρ=>⟨ρ,.refl,bb _,rfl,by cases h;simp [dy,AV.ao,AV.val],(λ_ h=>by cases h),(λ_ h=>by cases h),(λ_ h=>by cases h)⟩
 | .un,x,c,vs,h,ρ=>⟨ρ,.refl,bb _,rfl,by cases h;simp [dy,AV.ao],(λ_ h=>by cases h),(λ_ h=>by cases h),(λ_ h=>by cases h)⟩
 | .n,x,c,vs,h,ρ=>⟨ρ,.refl,bb _,rfl,by cases h;simp [dy,AV.ao,AV.val],(λ_ h=>by cases h),(λ_ h=>by cases h),(λ_ h=>by cases h)⟩
 | .mp _ _,x,c,vs,h,ρ=>h.elim
 | .p a b,x,c,vs,h,ρ=>by
  obtain ⟨us,m,rfl,u,q⟩:=h;obtain ⟨j,f⟩:=FX (T:=T) a x.1 c us u ρ;obtain ⟨g,e⟩:=FX (T:=T) b x.2 (dy a x.1 c).2.2 m q j;refine ⟨g,f.ag.trans e.ag f.le,ca f.le e.le,OZ (AV.jg e.le _ f.lw) e.lw,?_,λr d=>?_,λr d=>?_,λr d=>?_⟩
  .simp only [dy,cX];rw [AV.bS e.ag _ f.lw,f.eq,e.eq]
  .rcases List.mem_append.1 d with d|d
   .exact Row.fi e.le (f.rl r d)
   .exact e.rl r d
  .rcases List.mem_append.1 d with d|d
   .exact f.rs r d
   .exact e.rs r d
  .rcases List.mem_append.1 d with d|d
   .rw [Row.yJ e.ag (f.rl r d)];exact f.rp r d
   .exact e.rp r d
 | .l t,x,c,vs,h,ρ=>by
  obtain ⟨v,rfl,h⟩:=h;refine ⟨ρ.set c { cO with v:=v },ax.aY,eb _,by simp [dy,AV.bV,AV.low],by simp [dy,AV.ao,AV.val,ax.bw],λr d=>?_,λr d=>?_,λr d=>?_⟩
  .simp only [dy,gy] at d;subst d;simp [Row.low,dy]
  .simp only [dy,gy] at d;subst d;exact ⟨_,_,_,rfl⟩
  .simp only [dy,gy] at d;subst d;simp only [Row.item,ax.bw];exact λ_=>⟨h,λhb=>by cases hb⟩
 | .ex,x,c,vs,h,ρ=>by
  obtain ⟨v,rfl,o⟩:=HV h;refine ⟨ρ.set c { cO with v:=v },ax.aY,eb _,by simp [dy,AV.bV,AV.low],by simp [dy,AV.ao,AV.val,ax.bw],λr d=>?_,λr d=>?_,λr d=>?_⟩
  .simp only [dy,gy] at d;subst d;simp [Row.low,dy]
  .simp only [dy,gy] at d;subst d;exact ⟨_,_,_,rfl⟩
  .simp only [dy,gy] at d;subst d;simp only [Row.item,ax.bw];exact λ_=>⟨o,λhb=>by cases hb⟩
theorem Ma:(t:Ty)->(x:t.T)->(c:Nat)->c<=(dy t x c).2.2
 | .i _,_,_|.bo,_,_|.s,_,_|.un,_,_|.n,_,_|.mp _ _,_,_=>bb _
 | .p a b,x,c=>ca (Ma a x.1 c) (Ma b x.2 _)
 | .l _,_,_|.ex,_,_=>eb _
theorem Kx:(t:Ty)->(x:t.T)->(c:Nat)->∀r∈(dy t x c).2.1,∃j t l,r= .sli none j t l false
 | .i _,_,_,_,h|.bo,_,_,_,h|.s,_,_,_,h|.un,_,_,_,h|.n,_,_,_,h|.mp _ _,_,_,_,h=>by cases h
 | .p a b,x,c,r,h=>by
  rcases List.mem_append.1 h with h|h
  .exact Kx a x.1 c r h
  .exact Kx b x.2 _ r h
 | .l _,_,_,r,h=>by
  simp only [dy,gy] at h;subst h;exact ⟨_,_,_,rfl⟩
 | .ex,_,_,r,h=>by simp only [dy,gy] at h;subst h;exact ⟨_,_,_,rfl⟩
def s9(g:GK)(r:Row):Row:=match g,r with
 |none,r=>r
 |some g,.sli _ id t l b=> .sli (some g) id t l b
 |some _,r=>r
theorem sD{ρ:ax}{T:aA}{g:GK}{M:Nat->Prop}{w:World}{j:Nat}{t:Ty}{l:List t.T}(h:T.get g=true->((Row.sli none j t l false).item ρ T).P M w):
  ((s9 g (.sli none j t l false)).item ρ T).cE=true/\((s9 g (.sli none j t l false)).item ρ T).P M w:=by
 cases g with
 |none=>exact ⟨rfl,h (aA.get_none)⟩
 |some k=>
  refine ⟨rfl,λa=>?_⟩;exact h a (aA.get_none)
theorem A3{Γ:Ctx}{w:World}(h:Sat Γ w):∀(new:List Item),(∀it∈new,it.cE=true/\it.P Γ.M w)->Sat (new++Γ) w:=λnew a=>by
 have key:∀new:List Item,(∀it∈new,it.cE=true/\it.P Γ.M w)->new.all (·.cE)=true/\ahq Γ.M w new:=λnew=>by
  induction new with
  |nil=>exact λ_=>⟨rfl,trivial⟩
  |cons it l ih=>
   intro a;obtain ⟨f,e⟩:=ih (λjt b=>a jt (aW _ b));obtain ⟨d,c⟩:=a it (b0 ..);exact ⟨by simp only [qF,ae];exact ⟨d,f⟩,c,e⟩
 exact h.al1 new (key new a).1 (key new a).2
def pV(G H:List Row)(t:Ty)(v:AV):Option (List t.T):=match v with
 | .sl j=>(match dE G H (lj j) with
  |some (_,.sli none _ t' l _)=>bX.asL t ⟨.l t',l⟩
  |_=>none)
 | .raw (.slice none 0 0)=>some []
 |_=>none where bX.asL (t:Ty) (d:bX):Option (List t.T):=d.as (.l t)
theorem oq{t t':Ty}{l:List t'.T}{l':List t.T}(h:pV.bX.asL t ⟨.l t',l⟩=some l'):∃e:t'=t,e▸l=l':=by have:=bX.Mi h;cases this;exact ⟨rfl,rfl⟩
theorem ML{ρ:ax}{T:aA}{G H:List Row}{Φ:Ctx}{w:World}{t:Ty}{v:AV}{l:List t.T}(c:Sat (ab ρ T G++(ab ρ T H++Φ)) w)(h:pV G H t v=some l):
  bO t.rep (Ctx.M (ab ρ T G++(ab ρ T H++Φ))) w (v.val ρ) l:=by
 unfold pV at h;split at h
 .rename_i j;split at h
  next s a t' l' b d=>obtain ⟨f,e⟩:=bU d;have:a=j:=ah e;subst this;obtain ⟨rfl,rfl⟩:=oq h;simp only [AV.val];exact ((Src.holds c f) aA.get_none).1
  .cases h
 .cases h;simp only [AV.val];exact bO.nil
 .cases h
def nB(G H:List Row):(t:Ty)->List AV->Option (t.T×List AV)
 | .i k,vs=>(match vs with
  | .int k' x::vs=>ay ( fu k k' ) ( some (x,vs) ) none
  |_=>none)
 | .bo,vs=>(match vs with
  | .bool x::vs=>some (x,vs)
  |_=>none)
 | .s,vs=>(match vs with
  | .str x::vs=>some (x,vs)
  |_=>none)
 | .un,vs=>some ((),vs)
 | .n,vs=>(match vs with
  | .ifc t (.agg [])::vs=>some (t,vs)
  |_=>none)
 | .p a b,vs=>(match nB G H a vs with
  |some x=>(match nB G H b x.2 with
   |some y=>some ((x.1,y.1),y.2)
   |none=>none)
  |none=>none)
 | .l t,vs=>(match vs with
  |v::vs=>(match pV G H t v with
   |some l=>some (l,vs)
   |none=>none)
  |_=>none)
 | .ex,vs=>(match vs with
  | .int .i64 a:: .int .i64 b:: .int .i64 c::v::vs=>(match pV G H .ex v with
   |some l=>some (Ex.mk a b c l,vs)
   |none=>none)
  |_=>none)
 |_,_=>none
theorem RH{ρ:ax}{T:aA}{G H:List Row}{Φ:Ctx}{w:World}(d:Sat (ab ρ T G++(ab ρ T H++Φ)) w):(t:Ty)->(vs:List AV)->(x:t.T×List AV)->nB G H t vs=some x->
  ∃us,vs=us++x.2/\t.rep.rd (Ctx.M (ab ρ T G++(ab ρ T H++Φ))) w (AV.ao ρ us) x.1
 | .i k,vs,x,h=>by
  unfold nB at h;split at h
  next u y us=>obtain ⟨j,g⟩:=aG h;have:=gm j;subst this;cases g;exact ⟨[.int k y],rfl,by simp only [AV.ao,AV.val];rfl⟩
  .cases h
 | .bo,vs,x,h=>by
  unfold nB at h;split at h
  next y us=>cases h;exact ⟨[.bool y],rfl,by simp only [AV.ao,AV.val];rfl⟩
  .cases h
 | .s,vs,x,h=>by
  unfold nB at h;split at h
  next y us=>cases h;exact ⟨[.str y],rfl,by simp only [AV.ao,AV.val];rfl⟩
  .cases h
 | .un,vs,x,h=>by
  unfold nB at h;cases h;exact ⟨[],rfl,by simp only [AV.ao];rfl⟩
 | .n,vs,x,h=>by
  unfold nB at h;split at h
  next t us=>cases h;exact ⟨[.ifc t (.agg [])],rfl,by simp only [AV.ao,AV.val];rfl⟩
  .cases h
 | .mp _ _,vs,x,h=>by unfold nB at h;cases h
 | .p a b,vs,x,h=>by
  unfold nB at h;split at h
  .rename_i y o;split at h
   next z m=>cases h;obtain ⟨us,r,j⟩:=RH d a vs y o;obtain ⟨e,q,g⟩:=RH d b y.2 z m;refine ⟨us++e,by rw [r,q,aO],?_⟩;rw [cX];exact ⟨_,_,rfl,j,g⟩
   .cases h
  .cases h
 | .l t,vs,x,h=>by
  unfold nB at h;split at h
  .rename_i v us;split at h
   next l f=>cases h;refine ⟨[v],rfl,?_⟩;simp only [AV.ao];exact (ML d f).rsl
   .cases h
  .cases h
 | .ex,vs,x,h=>by
  unfold nB at h;split at h
  .rename_i a b c v us;split at h
   next l f=>cases h;refine ⟨[.int .i64 a,.int .i64 b,.int .i64 c,v],rfl,?_⟩;simp only [AV.ao,AV.val];exact Ob (ML d f).rsl
   .cases h
  .cases h
def rd1(G H:List Row)(t:Ty)(vs:List AV):Option t.T:=match nB G H t vs with
 |some (x,[])=>some x
 |_=>none
theorem aiO{ρ:ax}{T:aA}{G H:List Row}{Φ:Ctx}{w:World}(c:Sat (ab ρ T G++(ab ρ T H++Φ)) w){t:Ty}{vs:List AV}{x:t.T}(h:rd1 G H t vs=some x):
  t.rep.rd (Ctx.M (ab ρ T G++(ab ρ T H++Φ))) w (AV.ao ρ vs) x:=by
 unfold rd1 at h;split at h
 next y b=>cases h;obtain ⟨us,a,d⟩:=RH c t vs _ b;simp only [eF] at a;rw [a];exact d
 .cases h
def rdL(G H:List Row)(t:Ty):Nat->List AV->Option (List t.T)
 |0,vs=>(match vs with
  |[]=>some []
  |_=>none)
 |k+1,vs=>(match nB G H t vs with
  |some x=>(match rdL G H t k x.2 with
   |some l=>some (x.1::l)
   |none=>none)
  |none=>none)
theorem S2{ρ:ax}{T:aA}{G H:List Row}{Φ:Ctx}{w:World}(a:Sat (ab ρ T G++(ab ρ T H++Φ)) w){t:Ty}:(k:Nat)->(vs:List AV)->(l:List t.T)->rdL G H t k vs=some l->
  l.length=k/\cK t.rep (Ctx.M (ab ρ T G++(ab ρ T H++Φ))) w (AV.ao ρ vs) l
 |0,vs,l,h=>by
  unfold rdL at h;split at h
  .cases h;exact ⟨rfl,by simp only [AV.ao];exact cK.nil⟩
  .cases h
 |k+1,vs,l,h=>by
  unfold rdL at h;split at h
  .rename_i x hx;split at h
   next l' b=>cases h;obtain ⟨us,f,e⟩:=RH a t vs x hx;obtain ⟨d,c⟩:=S2 a k x.2 l' b;refine ⟨by simp [d],?_⟩;rw [f,cX];exact cK.cons e c
   .cases h
  .cases h
def cm(ids:xc):List Row->List Row
 |[]=>[]
 |r::G=>(match r with
  | .own id t e l ver=>ay ( rG id ids ) ( .sli none id t l false )<| .own id t e l ver
  |r=>r)::cm ids G
theorem aeT{ρ:ax}{T:aA}{ids:xc}{w:World}:{G:List Row}->{A B:Ctx}->Sat (A++(ab ρ T G++B)) w->Sat (A++(ab ρ T (cm ids G)++B)) w
 |[],_,_,h=>h
 |r::G,A,B,h=>by
  have a:∀d:Row,Sat (A++(ab ρ T (d::G)++B)) w->Sat (A++(ab ρ T (d::cm ids G)++B)) w:=λd h=>by
   have i:Sat ((A++[d.item ρ T])++(ab ρ T G++B)) w:=by simpa [ab] using h
   have:=aeT (ids:=ids) i;simpa [ab] using this
  unfold cm;split
  .rename_i id t e l c;cases j:rG id ids
   .exact a _ h
   .refine a _ ?_;have hi:(A++(ab ρ T (Row.own id t e l c::G)++B))[A.length]? =some (my t.rep e (ρ id).v l ((ρ c).y=⟨.l t,l⟩)):=by rw [bZ (bb _)];simp [ab,Row.item]
    have f:=h.mF hi (new:=(Row.sli none id t l false).item ρ T) ((Ext.refl w).pZ _) (λb hb=>by cases hb) (λM' m g=>λ_=>⟨(h.at_ hi).1.freeze (λb hb=>g b hb (λhb=>by cases hb)) m,λhb=>by cases hb⟩);rw [qI _ _ (bb _)] at f;simpa [ab] using f
  .exact a _ h
theorem oU{c:Nat}{ids:xc}:{G:List Row}->bA c G=true->bA c (cm ids G)=true
 |[],_=>rfl
 |r::G,h=>by
  simp only [bA,ae] at h;unfold cm;simp only [bA,ae];refine ⟨?_,oU h.2⟩;split
  .rename_i id t e l b;have a:=h.1;simp only [Row.low,ae] at a;cases rG id ids
   .simp only [Row.low,ae];exact a
   .simp only [Row.low];exact a.1
  .exact h.1
theorem iH{ρ:ax}{T:aA}{ids:xc}{w:World}{G:List Row}{B:Ctx}(h:Sat (ab ρ T G++B) w):Sat (ab ρ T (cm ids G)++B) w:=aeT (A:=[]) h
def AV.dV:AV->xc
 | .sl id=>[id]
 | .agg l=>sls0 l
 |_=>[] where sls0:List AV->xc
 |[]=>[]
 | .sl id::l=>id::sls0 l
 |_::l=>sls0 l
section
variable {X : Cx} {R : Type} {r : R} {K : cw R} {T : aA} {fr : Fr} {st : aC} {g : GK} {d : Tmp} {ρ : ax} {Φ : Ctx} {w : World} {ty : TypeId} {pos : String} {af : w4} {gd : s3}
theorem iB.none_{Ev:Env}{o:Oper}{O:Value->World->Prop}(h:bC P Ev o w O):iB P T none Ev o w O:=⟨λ_=>h,λa=>by rw [aA.get_none] at a;cases a⟩
def ZG(P:Program)(t:TypeId):Option (List AV):=match jI P t with
 |some z=>some (z.2.2.cells.toList.map iO)
 |none=>none
def agy(st:aC)(d:Tmp)(t:TypeId)(cs:List AV)(K:cw R):Option R:=K { st with c:=st.c+1,E:=cn (some d) none (.ptr st.c 0) st.E,G:= .box st.c t cs::st.G }
theorem Z8{t:TypeId}{cs:List AV}(f:st.low fr=true)(e:Sat (ab ρ T st.G++(ab ρ T fr.H++Φ)) w)(a:AV.bV st.c cs=true)(h:agy st d t cs K=some r):
  aV r K T fr st none (some d) ρ Φ (.pointer (some ⟨w.heap.size,0,none⟩)) (w.alloc (.cells (AV.ao ρ cs).toArray t)):=by
 refine aV.push (x:={ cO with b:=w.heap.size }) f h (by simp only [AV.val,ax.bw]) ?_;simp only [Row.item,ax.bw];rw [AV.bS ax.aY _ a];exact e.push (dY _ _) (λb hb=>by
  have:b=w.heap.size:=by simpa [box] using hb
  subst this;simp) (λ_ _=>heap_alloc_new w _)
def aaR(X:Cx)(st:aC)(d:Tmp)(t:TypeId)(K:cw R):Option R:=match ZG X.P t with
 |some cs=>agy st d t cs K
 |none=>none
theorem ai5{t:TypeId}(f:st.low fr=true)(e:Sat (ab ρ T st.G++(ab ρ T fr.H++Φ)) w)(h:aaR X st d t K=some r):
  iB X.P T none (au ρ T st.E fr.F) ⟨some d,.alloc t,ty,pos,af,gd⟩ w (aV r K T fr st none (some d) ρ Φ):=by
 unfold aaR at h;split at h
 .rename_i cs a;unfold ZG at a;split at a
  next z c=>cases a;obtain ⟨n,b,z⟩:=z;refine .none_ (bC.gd (bC.me (GL (zs:=z.cells.toList) (cD c) (by simp)) ?_));have:=Z8 f e aar h;rwa [kD] at this
  .cases a
 .cases h
def aki(T:aA)(fr:Fr)(st:aC)(d:Tmp)(t:TypeId)(x:Operand)(K:cw R):Option R:=match bq T st.E fr.F none x with
 |some v=>ay ( K4 v&&AV.bV st.c (cT v) ) ( agy st d t (cT v) K ) none
 |none=>none
theorem anM{t:TypeId}(c:st.low fr=true)(b:Sat (ab ρ T st.G++(ab ρ T fr.H++Φ)) w)(h:aki T fr st d t x K=some r):
  iB X.P T none (au ρ T st.E fr.F) ⟨some d,.box t x,ty,pos,af,gd⟩ w (aV r K T fr st none (some d) ρ Φ):=by
 unfold aki at h;split at h
 next v hv=>obtain ⟨a,e⟩:=aG h;simp only [ae] at a;exact .none_ (bC.gd (bC.me (akh (bE hv) (w7 a.1)) (Z8 c b a.2 e)))
 .cases h
def af7:AV->Bool
 | .agg _|.tuple _|.nv _=>false
 | .raw v=>v.oneCell'
 |_=>true
theorem alv{v:AV}(h:af7 v=true):(v.val ρ).oneCell'=true:=by
 cases v with
 |agg l=>cases h
 |tuple l=>cases h
 |nv l=>cases h
 |raw v=>simp only [AV.val];exact h
 |_=>simp only [AV.val];rfl
theorem MT:{l:List AV}->l.all af7=true->(AV.ao ρ l).all Value.oneCell'=true
 |[],_=>by simp [AV.ao]
 |v::l,h=>by simp only [qF,ae] at h;simp only [AV.ao,qF,ae];exact ⟨alv h.1,MT h.2⟩
def aa2(P:Program)(st:aC)(t:TypeId)(id off:Nat)(v:AV)(K:cw R):Option R:=match lQ (wG id) st.G with
 |some (j,.box _ e vs)=>(match jI P t with
  |some z=>ay ( K4 v&&(cT v).all af7&&Nat.beq (cT v).length z.1&&Nat.ble (off+(cT v).length) vs.length ) (
    K { st with G:=st.G.set j (.box id e (sH vs off (cT v))) } ) none
  |none=>none)
 |_=>none
theorem ajn{t:TypeId}{id off:Nat}{v:AV}(g:Sat (ab ρ T st.G++(ab ρ T fr.H++Φ)) w)(hx:bq T st.E fr.F none x=some (.ptr id off))(o:bq T st.E fr.F none y=some v)(h:aa2 X.P st t id off v K=some r):
  bC X.P (au ρ T st.E fr.F) ⟨none,.store t x y,ty,pos,af,gd⟩ w (aV r K T fr st none none ρ Φ):=by
 unfold aa2 at h;split at h
 .rename_i j a e vs s;split at h
  .rename_i z m;obtain ⟨n,bytes,z⟩:=z;obtain ⟨k,A⟩:=aG h;simp only [ae] at k;obtain ⟨⟨⟨J,I⟩,D⟩,C⟩:=k;obtain ⟨l,B⟩:=kI s;have:a=id:=ah B;subst this;have d:=bE (ρ:=ρ) hx;have f:=bE (ρ:=ρ) o;simp only [AV.val] at d;have hi:=fg (ρ:=ρ) (T:=T) (Φ:=ab ρ T fr.H++Φ) l;have hb:eD w (ρ a).b e (AV.ao ρ vs):=g.at_ hi;obtain ⟨p,u,i⟩:=ag4 (P:=X.P) (E:=au ρ T st.E fr.F) (w:=w) (dst:=none) (ty:=ty) (pos:=pos) (af:=af) (cD m) d f (w7 J) (by rw [AV.bl];exact ah D) (MT I) hb (by rw [AV.bl,AV.bl];exact C) wD;refine bC.gd (bC.afT p (aV.ie (av:= .raw undef) A (bb _) rfl (by simp only [AV.val]) ?_));have q:j<st.G.length:=(List.getElem?_eq_some_iff.1 l).1;show Sat (ab ρ T (st.G.set j _)++_) _;rw [eU q];refine g.mF hi u (λc hc=>?_) (λ_ _ _=>i);have:c=(ρ a).b:=by simpa [Row.item,box] using hc
   subst this;exact ⟨i.lt,.inl (by simp [Row.item,box])⟩
  .cases h
 .cases h
theorem aeJ{t:Ty}{p:fy}{l l':List t.T}{q q':Prop}{i:Nat}{Γ:Ctx}{w':World}(b:Sat Γ w)(hi:Γ[i]? =some (my t.rep e p l q))(g:q')(f:jh (dq (sl p)) w w')(a:w'.heap.size=w.heap.size)(d:sT p=dq (sl p))
  (h:∀M',Mv Γ.M w M' w'->fU t.rep e M' w' (sl p) l'):Sat (Γ.set i (my t.rep e p l' q')) w':=by
 refine b.mF hi (by rw [<-d] at f;exact f) (λc hc=>⟨by rw [a];exact (b.at_ hi).1.lt c hc,.inl hc⟩) (λM' m _=>⟨?_,g⟩);show bJ t.rep e M' w' (sl p) l' (sT p);rw [d];exact bJ.of (h M' m)
theorem oY{c:Nat}:∀{G:List Row} {j:Nat} {r:Row},bA c G=true->G[j]? =some r->r.low c=true:=λ{G}=>by
 induction G with
 |nil=>intro j r _ h;simp at h
 |cons b G ih=>
  intro j r h a;simp only [bA,ae] at h;cases j with
  |zero=>simp at a;subst a;exact h.1
  |succ j=>exact ih h.2 (by simpa using a)
def acW(P:Program)(fr:Fr)(st:aC)(t:TypeId)(q off:Nat)(v:AV)(K:cw R):Option R:=
 match dE (cm (AV.dV.sls0 (cT v)) st.G) fr.H (QY q) with
 |some (_,.kn none _ id ver u i x)=>(match lQ (lj id) (cm (AV.dV.sls0 (cT v)) st.G) with
  |some (j,.own _ u' e l ver')=>(match jI P t with
   |some z=>ay ( Nat.beq ver ver'&&K4 v&&(cT v).all af7&&Nat.beq (cT v).length z.1&&AV.bV st.c (cT v) ) (
     ay ( Nat.beq off 0&&Nat.beq (cT v).length u'.n' ) ( match rd1 (cm (AV.dV.sls0 (cT v)) st.G) fr.H u' (cT v) with
      |some y=>K { st with c:=st.c+1,G:=(cm (AV.dV.sls0 (cT v)) st.G).set j (.own id u' e (List.set l i.toNat y) st.c) }
      |none=>none )<|
      ay ( Nat.ble (off+(cT v).length) (dy u x (st.c+1)).1.length ) ( match rd1 ((dy u x (st.c+1)).2.1++cm (AV.dV.sls0 (cT v)) st.G) fr.H u' (sH (dy u x (st.c+1)).1 off (cT v)) with
       |some y=>K { st with c:=(dy u x (st.c+1)).2.2,G:=(dy u x (st.c+1)).2.1++(cm (AV.dV.sls0 (cT v)) st.G).set j (.own id u' e (List.set l i.toNat y) st.c) }
       |none=>none ) none ) none
   |none=>none)
  |_=>none)
 |_=>none
theorem aiH{t:TypeId}{q off:Nat}{v:AV}(hl:st.low fr=true)(C:Sat (ab ρ T st.G++(ab ρ T fr.H++Φ)) w)(hx:bq T st.E fr.F none x=some (.adr q off))(hy:bq T st.E fr.F none y=some v)(h:acW X.P fr st t q off v K=some r):
  bC X.P (au ρ T st.E fr.F) ⟨none,.store t x y,ty,pos,af,gd⟩ w (aV r K T fr st none none ρ Φ):=by
 unfold acW at h;have g:=oU (ids:=AV.dV.sls0 (cT v)) (aC.cB.1 hl).2.2.1;replace C:=iH (ids:=AV.dV.sls0 (cT v)) C;generalize cm (AV.dV.sls0 (cT v)) st.G=G at h g C;split at h
 .rename_i s q' id R u i xe hf;split at h
  .rename_i j o u' e l Q Y;split at h
   .rename_i z hz;obtain ⟨n,bytes,z⟩:=z;obtain ⟨h1,h2⟩:=aG h;simp only [ae] at h1;obtain ⟨⟨⟨⟨a1,a2⟩,a3⟩,a4⟩,a5⟩:=h1;obtain ⟨f1,f2⟩:=bU hf;obtain ⟨S,k2⟩:=kI Y;have e1:q'=q:=ah f2;have e2:o=id:=ah k2;have e3:R=Q:=ah a1;subst e1;subst e2;subst e3;have A:=bE (ρ:=ρ) hx;have U:=bE (ρ:=ρ) hy;simp only [AV.val] at A;obtain ⟨I,b1,b2,b3⟩:=(Src.holds C f1) aA.get_none;have hi:=fg (ρ:=ρ) (T:=T) (Φ:=ab ρ T fr.H++Φ) S;obtain ⟨c1,c2⟩:=C.at_ hi;obtain ⟨e4,e5⟩:=Ms b1 c2;subst e4;simp only at e5;subst e5;obtain ⟨o1,o2⟩:=c1.gf b2;obtain ⟨o3,k,o4,o5⟩:=c1.atA b2;have hj:j<G.length:=(List.getElem?_eq_some_iff.1 S).1;have Z:(AV.ao ρ (cT v)).length=n:=by rw [AV.bl];exact ah a4
    rw [b3] at A;rcases dp h2 with ⟨h3,h4⟩|⟨_,h4⟩
    .simp only [ae] at h3;have e6:off=0:=ah h3.1;subst e6;split at h4
     .rename_i D p;have f:=aiO C p;have M:k.length=u.rep.n:=u.rep.len o5;have hlu:(AV.ao ρ (cT v)).length=u.rep.n:=u.rep.len f;have V:mN k 0 (AV.ao ρ (cT v))=AV.ao ρ (cT v):=by unfold mN;simp only [List.take_zero,oi,ec];rw [mo (by omega),eF]
      obtain ⟨w',Y,hC,J,hP⟩:=IQ (P:=X.P) (E:=au ρ T st.E fr.F) (w:=w) (dst:=none) (ty:=ty) (pos:=pos) (af:=af) (cD hz) A U (w7 a2) Z (MT a3) o3 o1 o4 M (qu (by omega)) V f (λb hb=>Ctx.iy hi (by rw [<-o2] at hb;exact hb));refine bC.gd (bC.afT Y (aV.new (ρ':=ρ.set st.c { cO with y:=⟨.l u,List.set I i.toNat D⟩ }) (av:= .raw undef) hl h4 ax.aY (eb _) rfl (by simp only [AV.val]) ?_));show Sat (ab _ T (G.set j _)++_) _;rw [eU hj,bc ax.aY g];have:=aeJ (q':=((ρ.set st.c { cO with y:=⟨.l u,List.set I i.toNat D⟩ }) st.c).y=⟨.l u,List.set I i.toNat D⟩) C hi (by rw [ax.bw]) hC J o2 hP;have hlt:=(List.getElem?_eq_some_iff.1 S).2;have N:(ρ.set st.c { cO with y:=⟨.l u,List.set I i.toNat D⟩ }) o=ρ o:=by have d:=oY g S;simp only [Row.low,ae,dk] at d;exact ax.aY _ d.1
      simp only [Row.item,N];exact this
     .cases h4
    .obtain ⟨h5,h6⟩:=aG h4;split at h6
     .rename_i D p;obtain ⟨a,B⟩:=FX (T:=T) u xe (st.c+1) k o5 (ρ.set st.c { cO with y:=⟨.l u,List.set I i.toNat D⟩ });have ag:aT st.c ρ a:=ax.aY.trans B.ag (eb _);generalize dy u xe (st.c+1)=m at h5 h6 p B;have L:Sat (ab a T m.2.1++(ab ρ T G++(ab ρ T fr.H++Φ))) w:=A3 C _ (λit hit=>by obtain ⟨r,W,rfl⟩:=List.mem_map.1 hit;obtain ⟨j1,t1,l1,rfl⟩:=B.rs _ W;exact ⟨rfl,B.rp _ W⟩)
      have eG:=bc (T:=T) ag g;have eH:=bc (T:=T) ag (aC.cB.1 hl).2.2.2;have hs2:Sat (ab a T (m.2.1++G)++(ab a T fr.H++Φ)) w:=by rw [bh,aO,eG,eH];exact L
      have f:=aiO hs2 p;rw [bh,aO,eG,eH,<-wD,B.eq,AV.bS ag _ a5] at f;have O:(ab a T m.2.1++(ab ρ T G++(ab ρ T fr.H++Φ)))[m.2.1.length+j]? =some ((Row.own o u e I R).item ρ T):=by
       rw [bZ (by simp [ab])];have:m.2.1.length+j-(ab a T m.2.1).length=j:=by simp [ab]
       rw [this];exact hi
      obtain ⟨d1,d2⟩:=L.at_ O;obtain ⟨p1,p2⟩:=d1.gf b2;have M:k.length=u.rep.n:=u.rep.len o5;obtain ⟨w',Y,hC,J,hP⟩:=IQ (P:=X.P) (E:=au ρ T st.E fr.F) (w:=w) (dst:=none) (ty:=ty) (pos:=pos) (af:=af) (cD hz) A U (w7 a2) Z (MT a3) o3 p1 o4 M (by have:=B.eq;rw [<-this,AV.bl,AV.bl];exact h5) rfl f (λb hb=>Ctx.iy O (by rw [<-p2] at hb;exact hb))
      refine bC.gd (bC.afT Y (aV.new (ρ':=a) (av:= .raw undef) hl h6 ag (ca (eb _) B.le) rfl (by simp only [AV.val]) ?_));have hy1:(a st.c).y=⟨.l u,List.set I i.toNat D⟩:=by rw [B.ag _ (qd _),ax.bw]
      have:=aeJ L O hy1 hC J p2 hP;have d:=oY g S;simp only [Row.low,ae,dk] at d;show Sat (ab a T (m.2.1++G.set j _)++_) _;rw [bh,aO,eU hj,eG];rw [qI _ _ (by simp [ab])] at this;have e7:m.2.1.length+j-(ab a T m.2.1).length=j:=by simp [ab]
      rw [e7] at this;simp only [Row.item,ag _ d.1];exact this
     .cases h6
   .cases h
  .cases h
 .cases h
end
section
variable {X : Cx} {R : Type} {r : R} {K : cw R} {T : aA} {fr : Fr} {st : aC} {g : GK} {d : Tmp} {ρ : ax} {Φ : Ctx} {w : World} {ty : TypeId} {pos : String} {af : w4} {gd : s3}
def ZI{α:Type}(T:aA)(g:GK)(z:α)(m:Option α)(k:α->Option R):Option R:=match g with
 |none=>m.bind k
 |some _=>bD (T.get g) z m k
theorem yI{z:α}{m:Option α}{k:α->Option R}(h:ZI T g z m k=some r):∃y,(T.get g=true->m=some y)/\k y=some r:=by
 unfold ZI at h;split at h
 .obtain ⟨y,b,a⟩:=yN h;exact ⟨y,λ_=>b,a⟩
 .obtain ⟨y,b,_,a⟩:=Uv h;exact ⟨y,b,a⟩
def aoK(T:aA)(g:GK)(st:aC)(d:Tmp)(t:Ty)(l:List t.T)(i:Int)(K:cw R):Option R:=
 ZI T g t.oK (idx l i) λx=>K { st with c:=(dy t x (st.c+1)).2.2,E:=cn (some d) g (.adr st.c 0) st.E,G:= .elm g st.c (dy t x (st.c+1)).1::((dy t x (st.c+1)).2.1.map (s9 g)++st.G) }
def aok(T:aA)(g:GK)(st:aC)(d:Tmp)(id ver:Nat)(t:Ty)(l:List t.T)(i:Int)(K:cw R):Option R:=
 ZI T g t.oK (idx l i) λx=>K { st with c:=st.c+1,E:=cn (some d) g (.adr st.c 0) st.E,G:= .kn g st.c id ver t i x::st.G }
def ahv(X:Cx)(T:aA)(fr:Fr)(st:aC)(g:GK)(d:Tmp)(t:TypeId)(x y:Operand)(K:cw R):Option R:=match eT X.P t with
 |some e=>(match jI X.P e with
  |some z=>(match bq T st.E fr.F g x with
   |some (.sl id)=>(match bq T st.E fr.F g y with
    |some (.int _ i)=>(match dE st.G fr.H (lj id) with
     |some (_,.sli g' _ t l _)=>ay ( T.imp g g'&&Nat.beq z.1 t.n' ) ( aoK T g st d t l i K ) none
     |some (_,.own _ t _ l ver)=>ay ( Nat.beq z.1 t.n' ) ( aok T g st d id ver t l i K ) none
     |_=>none)
    |_=>none)
   |_=>none)
  |none=>none)
 |none=>none
theorem aev{t:TypeId}(Q:st.low fr=true)(U:Sat (ab ρ T st.G++(ab ρ T fr.H++Φ)) w)(h:ahv X T fr st g d t x y K=some r):
  JW X.P T g (au ρ T st.E fr.F) ⟨some d,.indexAddr t x y,ty,pos,af,gd⟩ w (aV r K T fr st g (some d) ρ Φ):=by
 unfold ahv at h;split at h
 .rename_i e he;split at h
  .rename_i z hz;obtain ⟨n,bytes,z⟩:=z;split at h
   .rename_i id hx;split at h
    .rename_i k i hy;have I:=aR (ρ:=ρ) hx;have D:=aR (ρ:=ρ) hy;simp only [AV.val] at I D;split at h
     .rename_i s g' m t l b hf;obtain ⟨S,h2⟩:=aG h;simp only [ae] at S;have hn:n=t.rep.n:=(ah S.2).trans t.A5.symm;obtain ⟨L,f2⟩:=bU hf;have:m=id:=ah f2;subst this;obtain ⟨A,V,b2⟩:=yI h2;have hT:=Src.holds U L
      -- the element, where g holds
      have key:∃(p:Addr) (f:ax),aT st.c ρ f/\(f st.c).a=p/\(T.get g=true->xX (sl (ρ m).v) i n p)/\
        ∀it∈ab f T (.elm g st.c (dy t A (st.c+1)).1::((dy t A (st.c+1)).2.1.map (s9 g))),it.cE=true/\it.P (Ctx.M (ab ρ T st.G++(ab ρ T fr.H++Φ))) w:=by
       cases C:T.get g
       .refine ⟨⟨0,0,none⟩,ρ.set st.c cO,ax.aY,by rw [ax.bw];rfl,(λh=>by cases h),λit o=>?_⟩;rw [ab,cp] at o;rcases List.mem_cons.1 o with rfl|o
        .exact ⟨rfl,λh=>by rw [C] at h;cases h⟩
        .obtain ⟨r1,J,rfl⟩:=List.mem_map.1 o;obtain ⟨r2,u,rfl⟩:=List.mem_map.1 J;obtain ⟨j1,t1,l1,rfl⟩:=Kx _ _ _ _ u;exact sD (λh=>by rw [C] at h;cases h)
       .have hS:=(hT (aA.jm S.1 C)).1;obtain ⟨e1,vs,e2,e3,e4⟩:=hS.atA (V C);obtain ⟨f,O⟩:=FX (T:=T) t A (st.c+1) vs e3 (ρ.set st.c { cO with a:=pk (sl (ρ m).v) i t.rep.n });have R:(f st.c).a=pk (sl (ρ m).v) i t.rep.n:=by rw [O.ag _ (qd _),ax.bw]
        refine ⟨pk (sl (ρ m).v) i t.rep.n,f,ax.aY.trans O.ag (eb _),R,λ_=>by rw [hn];exact e1,λit o=>?_⟩;rw [ab,cp] at o;rcases List.mem_cons.1 o with rfl|o
        .refine ⟨rfl,λ_=>?_⟩;show ¬Ctx.M _ (f st.c).a.block/\bK w (f st.c).a _;rw [R,O.eq];exact ⟨e4,e2⟩
        .obtain ⟨r1,J,rfl⟩:=List.mem_map.1 o;obtain ⟨r2,u,rfl⟩:=List.mem_map.1 J;have Z:=O.rp _ u;obtain ⟨j1,t1,l1,rfl⟩:=O.rs _ u;exact sD (λ_=>Z)
      obtain ⟨p,f,k1,k2,k3,k4⟩:=key;have Y:=A3 U _ k4;have eG:=bc (T:=T) k1 (aC.cB.1 Q).2.2.1;have q:aV r K T fr st g (some d) ρ Φ (.pointer (some p)) w:=by
       refine aV.new (ρ':=f) Q b2 k1 (ca (eb _) (Ma _ _ _)) rfl (by simp only [AV.val,k2];simp [Addr.add]) ?_;show Sat (ab f T (Row.elm g st.c _::(_++st.G))++_) w;have e8:ab f T (Row.elm g st.c (dy t A (st.c+1)).1::((dy t A (st.c+1)).2.1.map (s9 g)++st.G))=ab f T (.elm g st.c (dy t A (st.c+1)).1::((dy t A (st.c+1)).2.1.map (s9 g)))++ab f T st.G:=by simp [ab]
       rw [e8,eG,aO];exact Y
      exact ⟨_,λw'=>EJ (bT he) (cD hz) I D k3,q⟩
     .rename_i s m t e' l N hf;obtain ⟨S,h2⟩:=aG h;have hn:n=t.rep.n:=(ah S).trans t.A5.symm;obtain ⟨L,f2⟩:=bU hf;have:m=id:=ah f2;subst this;obtain ⟨A,V,b2⟩:=yI h2;obtain ⟨hO,W⟩:=Src.holds U L;have B:m<st.c/\N<st.c:=by
       have:(Row.own m t e' l N).low st.c=true:=by
        cases s with
        |top j=>exact oY (aC.cB.1 Q).2.2.1 L
        |cm j=>exact oY (aC.cB.1 Q).2.2.2 L
        |_=>exact L.elim
       simpa only [Row.low,ae,dk] using this
      have q:aV r K T fr st g (some d) ρ Φ (.pointer (some (pk (sl (ρ m).v) i t.rep.n))) w:=by refine aV.push (x:={ cO with a:=pk (sl (ρ m).v) i t.rep.n }) Q b2 (by simp only [AV.val,ax.bw];simp [Addr.add]) (U.add rfl ?_);intro C;rw [ax.aY _ B.1,ax.aY _ B.2,ax.bw];exact ⟨l,W,V C,rfl⟩
      exact ⟨_,λw'=>EJ (bT he) (cD hz) I D (λC=>by rw [hn];exact (hO.atA (V C)).1),q⟩
     .cases h
    .cases h
   .cases h
  .cases h
 .cases h
def SG(X:Cx)(T:aA)(fr:Fr)(st:aC)(g:GK)(d:Tmp)(t:TypeId)(q off:Nat)(K:cw R):Option R:=match dE st.G fr.H (QY q) with
 |some (_,.kn g' _ id ver u _ x)=>(match dE st.G fr.H (lj id) with
  |some (_,.own _ _ _ _ ver')=>ay ( Nat.beq ver ver'&&T.imp g g' ) ( match jL X.P t ((dy u x st.c).1.drop off) with
   |some v=>K { st with c:=(dy u x st.c).2.2,E:=cn (some d) g v st.E,G:=(dy u x st.c).2.1.map (s9 g)++st.G }
   |none=>none ) none
  |_=>none)
 |_=>none
theorem XH{t:TypeId}{q off:Nat}(hl:st.low fr=true)(V:Sat (ab ρ T st.G++(ab ρ T fr.H++Φ)) w)(hx:bq T st.E fr.F g x=some (.adr q off))(h:SG X T fr st g d t q off K=some r):
  ∃v,(∀w',Ext w w'->bf X.P (au ρ T st.E fr.F) (T.get g) ⟨some d,.load t x,ty,pos,af,gd⟩ w' v)/\aV r K T fr st g (some d) ρ Φ v w:=by
 unfold SG at h;split at h
 .rename_i s g' q' id N u i k hf;split at h
  .rename_i s2 O u' e l B Y;obtain ⟨h1,Z⟩:=aG h;simp only [ae] at h1;split at Z
   .rename_i v hv;obtain ⟨f1,f2⟩:=bU hf;obtain ⟨f3,f4⟩:=bU Y;have e1:q'=q:=ah f2;have e2:O=id:=ah f4;have e3:N=B:=ah h1.1;subst e1;subst e2;subst e3;have f:=aR (ρ:=ρ) hx;simp only [AV.val] at f;have hF:=Src.holds V f1;obtain ⟨hO,R⟩:=Src.holds V f3;have key:∃(b:ax) (vs:vf),aT st.c ρ b/\AV.ao b (dy u k st.c).1=vs/\(T.get g=true->bK w (ρ q').a vs)/\
      ∀it∈ab b T ((dy u k st.c).2.1.map (s9 g)),it.cE=true/\it.P (Ctx.M (ab ρ T st.G++(ab ρ T fr.H++Φ))) w:=by
     cases I:T.get g
     .refine ⟨ρ,_,.refl,rfl,(λh=>by cases h),λit p=>?_⟩;obtain ⟨r1,o,rfl⟩:=List.mem_map.1 p;obtain ⟨r2,j,rfl⟩:=List.mem_map.1 o;obtain ⟨j1,t1,l1,rfl⟩:=Kx _ _ _ _ j;exact sD (λh=>by rw [I] at h;cases h)
     .obtain ⟨l0,b1,b2,b3⟩:=hF (aA.jm h1.2 I);obtain ⟨e4,e5⟩:=Ms b1 R;subst e4;simp only at e5;subst e5;obtain ⟨_,vs,e6,e7⟩:=hO.atA b2;obtain ⟨b,J⟩:=FX (T:=T) u k st.c vs e7 ρ;refine ⟨b,vs,J.ag,J.eq,λ_=>by rw [b3];exact e6,λit p=>?_⟩;obtain ⟨r1,o,rfl⟩:=List.mem_map.1 p;obtain ⟨r2,j,rfl⟩:=List.mem_map.1 o;have W:=J.rp _ j;obtain ⟨j1,t1,l1,rfl⟩:=J.rs _ j;exact sD (λ_=>W)
    obtain ⟨b,vs,k1,k2,k3,k4⟩:=key;have U:=A3 V _ k4;have eG:=bc (T:=T) k1 (aC.cB.1 hl).2.2.1;have C:aV r K T fr st g (some d) ρ Φ (v.val b) w:=by refine aV.new (ρ':=b) hl Z k1 (Ma _ _ _) rfl rfl ?_;show Sat (ab b T (_++st.G)++_) w;rw [bh,eG,aO];exact U
    refine ⟨_,λw' S=>ag7 λI=>?_,C⟩;rw [I] at f ⊢;have hc:=(k3 I).ext S;have m:bK w' ((ρ q').a.add off) (AV.ao b ((dy u k st.c).1.drop off)):=by refine hc.sub _ ?_;rw [AV.gq,k2,ed (bb _)]
    have h':jL X.P t (((dy u k st.c).1.drop off).drop 0)=some v:=by simpa using hv
    obtain ⟨dd,n,bytes,z,c1,c2,A⟩:=mD (ρ:=b) h';cases hd:jb dd
    .rw [hd] at A;simp only [mi,qA] at A;refine KW c1 hd f (λ_=>?_);have:=m.sub (us:=[v.val b]) 0 (by
      cases hq:AV.ao b ((dy u k st.c).1.drop off) with
      |nil=>rw [hq] at A;cases A
      |cons a l=>rw [hq] at A;cases A;simp)
     simpa [Addr.add] using this
    .unfold jL at hv;rw [c1] at hv;rcases dp hv with ⟨_,y⟩|⟨y,_⟩
     .split at y
      .rename_i z2 Q;obtain ⟨n2,L,z2⟩:=z2;obtain ⟨h4,h5⟩:=aG y;cases h5;have D:n2<=((dy u k st.c).1.drop off).length:=cd h4;simp only [AV.val];refine Ke c1 hd (cD Q) f (λ_=>?_) ?_
       .have:=m.sub (us:=AV.ao b (((dy u k st.c).1.drop off).take n2)) 0 (by rw [AV.ji,l9,bj,AV.bl,cq D])
        simpa [Addr.add] using this
       .rw [AV.bl,bj,cq D]
      .cases y
     .rw [hd] at y;cases y
   .cases Z
  .cases h
 .cases h
theorem al0{t:TypeId}{q off:Nat}(e:st.low fr=true)(c:Sat (ab ρ T st.G++(ab ρ T fr.H++Φ)) w)(hx:bq T st.E fr.F g x=some (.adr q off))(h:SG X T fr st g d t q off K=some r):
  iB X.P T g (au ρ T st.E fr.F) ⟨some d,.load t x,ty,pos,af,gd⟩ w (aV r K T fr st g (some d) ρ Φ):=by
 obtain ⟨v,b,a⟩:=XH (ty:=ty) (pos:=pos) (af:=af) (gd:=gd) e c hx h;refine ⟨λf=>bC.gd (bC.run ?_ a),λ_=>⟨_,a⟩⟩;rw [f] at b;exact b w (Ext.refl w)
end
end Go.Proofs.YtkedhpmpejhekaaGreatDoor
