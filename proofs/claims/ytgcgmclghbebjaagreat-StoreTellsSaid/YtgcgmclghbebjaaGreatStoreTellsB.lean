/-
  Own texts for the statement StoreTells, cut down to what it needs: K11, K12, K13, K14, K15, K16, KEx, B1, B2, B3, B4, B5, B6, B7, B8. (cut and joined by a program)
-/
import Derived.Test.YtgcgmclghbebjaaGreatStoreTellsA
import Derived.Lib.AppendZerosOnto
import Derived.Lib.Overlaps
import Derived.Lib.AppendStr
import Derived.Lib.UnsafeStr
import Derived.Lib.Builder
import Derived.Laws.Externs
import Derived.RecoverIn
namespace Go.Proofs.YtgcgmclghbebjaaGreat
theorem TI.zero {P:Program} {e:TypeId} {size bytes:Nat} {z:Value} (h:TI P e size bytes z) (w:World):(zeroValue e).run P w= .ok z w:=by
 obtain ⟨i,hi,_,_,hz⟩:=h.out
 simp [zeroValue,typeInfo,hi,hz]
section
variable {α : Type} {A : Rep α} {e : TypeId} {M : Nat → Prop} {w : World} {v : Value} {xs : List α} {R : List Nat}
theorem Own.VV {j:Int} (h:Own A e M w v xs R) (hc:fX 0 j xs.length=true): ∃ p:SLV,Hq v 0 j A.n (sl p)∧Own A e M w (sl p) (bd xs 0 j) R:=by
 obtain ⟨⟨_,h0⟩,hj⟩:=rK.1 hc
 have hcl:bd xs 0 j=xs.take j.toNat:=by simp [bd]
 rw [hcl]
 rcases h with ⟨rfl,cells,⟨h1,h2⟩,hr⟩ | ⟨rfl,rfl,⟨a,rfl⟩,hS⟩
 ·rcases h2 with ⟨rfl,hn⟩ | ⟨g,cap,cur,rfl,hg,hh,hcap,hm,hs,ht⟩
  ·have hx:xs=[]:=List.eq_nil_of_length_eq_zero hn
   subst hx
   have hj0:j=0:=by simp at hj;omega
   subst hj0
   exact ⟨(none,0,0),⟨none,0,0,rfl,by omega,by omega,by omega,by omega,rfl⟩,.inl ⟨rfl,OSl.nil⟩⟩
  ·refine ⟨(some ⟨g,0,none⟩,j.toNat,cap),⟨_,_,cap,rfl,by omega,h0,hj,hcap,?_⟩,.inl ⟨rfl,cells.take (j.toNat*A.n),⟨?_,.inr ⟨g,cap,cur,by rw [List.length_take,Nat.min_eq_left (by omega)];rfl,hg,hh,?_,hm,hs,?_⟩⟩,hr.take _⟩⟩
   ·show Value.slice (some ⟨g,0,none⟩) j.toNat cap=_
    have:(⟨g,0,none⟩:Addr).add (Int.toNat 0*A.n)=⟨g,0,none⟩:=by simp [Addr.add]
    simp [Addr.add]
   ·rw [List.length_take,List.length_take,h1]
    have:j.toNat≤xs.length:=by omega
    rw [Nat.min_eq_left (Nat.mul_le_mul_right _ this),Nat.min_eq_left this]
   ·rw [List.length_take];omega
   ·have:j.toNat≤xs.length:=by omega
    rw [List.length_take,Nat.min_eq_left this,← ht,List.take_take,Nat.min_eq_left (Nat.mul_le_mul_right _ this)]
 ·have hj0:j=0:=by simp at hj;omega
  subst hj0
  refine ⟨(a,0,0),⟨a,0,0,rfl,by omega,by omega,by omega,by omega,?_⟩,.inr ⟨rfl,by simp,⟨a,rfl⟩,hS⟩⟩
  show Value.slice a 0 0=_
  simp
end
/-! bytes of a constant: the row gets the run-time's mark -/
section
variable {P : Program} {ρ : Option Nat} {Q : aI} {n : Nat} {D : List Deferred} {E : Env} {w : World} {ops : Array Oper} {rest : List Oper} {Γ : Ctx} {i : Nat}
variable {d : Tmp} {ty : TypeId} {pos : String} {af : Array Edge}
/-! calls through an interface -/
def za (P:Program) (t:TypeId) (name:String) (f:FuncId) (b:Bool):Prop:=((P.info? t).bind fun i=>(i.methods.find? (·.name==name)).map fun m=>(m.path.toList,m.func))=some ([],some (f,b))
def Reach (P:Program) (w:World) (t:TypeId) (u:Value) (name:String) (f:FuncId) (v:Value):Prop:= ∀ k,(method (k+1) t u name).run P w= .ok (f,v) w
theorem za.out {t:TypeId} {name:String} {f:FuncId} {b:Bool} (h:za P t name f b): ∃ i m,P.info? t=some i∧i.methods.find? (·.name==name)=some m∧m.path.toList=[]∧m.func=some (f,b):=by
 unfold za at h
 cases hi:P.info? t with
 | none=>rw [hi] at h;cases h
 | some i=>
  rw [hi] at h
  simp only [Option.bind_some] at h
  cases hm:i.methods.find? (·.name==name) with
  | none=>rw [hm] at h;cases h
  | some m=>
   rw [hm] at h
   simp only [Option.map_some,Option.some.injEq,Prod.mk.injEq] at h
   exact ⟨i,m,rfl,hm,h.1,h.2⟩
theorem Reach.ptr {t e:TypeId} {u:Value} {name:String} {f:FuncId} (h:za P t name f true) (ht:P.underlying t=some (.pointer e)):Reach P w t u name f u:=fun k=>by
 obtain ⟨i,m,hi,hm,hp,hf⟩:=h.out
 unfold method
 simp [typeInfo,hi,hm,hp,hf,follow,receiverAt,run_underlying ht,Place.get]
theorem Reach.load {t e:TypeId} {a:Addr} {u:Value} {name:String} {f:FuncId} (h:za P t name f false) (ht:P.underlying t=some (.pointer e)) (hl:(loadVar e a).run P w= .ok u w):Reach P w t (.pointer (some a)) name f u:=fun k=>by
 obtain ⟨i,m,hi,hm,hp,hf⟩:=h.out
 have hpe:m.path= #[]:=by simpa using hp
 have e: ∀ s:String,Builtin.ssaWrapNilChk_ #[t] t #[.pointer (some a),strVal "",strVal s]=pure (.pointer (some a)):=fun _=>rfl
 unfold method
 simp [typeInfo,hi,hm,hf,hpe,follow,receiverAt,run_underlying ht,Place.get,e,asAddr,hl]
theorem RF {g:Bool} {f:FuncId} {r:Operand} {t:TypeId} {u u':Value} {name:String} {vs:List Value} {xs:List Operand} {tys:Array TypeId} {dst:Option Tmp} {gd:Option (Nat×Bool)}
  (he:cV P f) (hr:Opd E g r (.iface t u)) (hm:g=true→Reach P w t u name f u') (hxs:jS E g xs vs) {a:Act} (hf:Fits n E a) (hg:g=true):
  (execOp a.eval ⟨dst,.call ⟨.invoke r name,xs.toArray,tys⟩,ty,pos,af,gd⟩).run P w= .ok (.enter f (u'::vs).toArray) w:=by
 have e1:(Array.map a.eval xs.toArray)=vs.toArray:=by simp [hxs.map hf hg]
 have h1:=he (u'::vs).toArray w
 have h2:=hm hg (P.types.size+99)
 have e2:P.types.size+99+1=P.types.size+Made.depth:=rfl
 rw [e2] at h2
 have e3:(#[Value.iface t u]++vs.toArray)[0]? =some (Value.iface t u):=by simp
 have e4:(#[Value.iface t u]++vs.toArray).extract 1 (#[Value.iface t u]++vs.toArray).size=vs.toArray:=by simp
 have e5:(#[u']++vs.toArray)=(u'::vs).toArray:=by simp
 simp only [execOp,resolve,hr n a hf hg,e1,Sem.run_bind,Sem.run_pure,Result.andThen_ok,invoke,e3,e4,callMethod,run_program,h2,e5,h1]
end
/-! an append to a slice without room: a row of its own -/
section
variable {P : Program} {w : World}
theorem Dt {α:Type} {A:Rep α} {M:Nat→Prop} (t ty' e:TypeId) (i:TypeInfo) (z:Value) (ht:P.underlying t=some (.slice e)) (hi:P.info? e=some i) (hz:i.zero=some z) (hs:i.size=A.n)
  (hzs:z.cells.size=A.n) {p:Option Addr} {u:Value} {xs ys:List α} (hx:SRd A M w (.slice p xs.length xs.length) xs) (hy:SRd A M w u ys) (hne:ys≠[]) (hroom:aw (xs.length+ys.length) i.bytes=true):
  ∃ v' w',(Builtin.append_ #[t,t] ty' #[.slice p xs.length xs.length,u]).run P w= .ok v' w'∧Ext w w'∧(∀ b∈blk v',b<w'.heap.size∧w.heap.size≤b)∧(∀ M',Mv M w M' w'→OSl A e M' w' v' (xs++ys)):=by
 by_cases hx0:xs=[]
 ·subst hx0
  rcases mT t ty' e i z ht hi hz hs hzs hx hy (by simpa using hroom) with ⟨_,h⟩ | h
  ·exact absurd h hne
  ·simpa using h
 simp only [aw,Bool.and_eq_true] at hroom
 have hb1:=Nat.le_of_ble_eq_true hroom.1
 have hb2:=Nat.le_of_ble_eq_true hroom.2
 have hlx:0<xs.length:=List.length_pos_iff.2 hx0
 have hly:0<ys.length:=List.length_pos_iff.2 hne
 rcases hx with ⟨⟨a0,h1⟩,h2⟩ | ⟨b,off,cap,cs,e',fr,h1,hMb,hb,hc,hof,hr⟩
 ·exact absurd h2 hx0
 rcases hy with ⟨_,h2⟩ | ⟨b2,off2,cap2,cs2,e2,fr2,rfl,hMb2,hbb2,hc2,hof2,hr2⟩
 ·exact absurd h2 hne
 simp only [Value.slice.injEq] at h1
 obtain ⟨rfl,_,hcap⟩:=h1
 subst hcap
 have cellsAt: ∀ {b off cap:Nat} {cs:Array Value} {e':TypeId} {fr:Nat×Nat} {l:List α},w.heap[b]? =some (.cells cs e' fr)→ ∀ j x,((cs.toList.drop off).take (l.length*A.n))[j]? =some x→w.cell? ((⟨b,off,none⟩:Addr).add j)=some x:=by
  intro b off cap cs e' fr l hb j x hj
  have key:aM w ⟨b,off,none⟩ ((cs.toList.drop off).take (l.length*A.n)):=⟨rfl,cs,e',fr,hb,fun j u hj=>by
   rw [List.getElem?_take] at hj
   split at hj
   ·simpa [List.getElem?_drop] using hj
   ·cases hj⟩
  exact key.cell hj
 generalize hcx:(cs.toList.drop off).take (xs.length*A.n)=cx at hr
 generalize hcy:(cs2.toList.drop off2).take (ys.length*A.n)=cy at hr2
 have hxc: ∀ j x,cx[j]? =some x→w.cell? ((⟨b,off,none⟩:Addr).add j)=some x:=by rw [← hcx];exact cellsAt (cap:=0) hb
 have hyc: ∀ j x,cy[j]? =some x→w.cell? ((⟨b2,off2,none⟩:Addr).add j)=some x:=by rw [← hcy];exact cellsAt (cap:=0) hbb2
 have hge:=grownCap_ge w (xs.length+ys.length) xs.length e
 have hcm:grownCap w (xs.length+ys.length) xs.length e≤maxLen:=grownCap_le_maxLen w _ _ e (by simpa [maxLen] using hb2)
 have hrun:=run_append_grow (P:=P) w t ty' e i z ht hi hz ⟨b,off,none⟩ xs.length xs.length cx (by rw [hs];exact hr.1) hxc ⟨b2,off2,none⟩ ys.length cap2 cy (by rw [hs];exact hr2.1) hyc (by omega) (by omega) (growslice_fits (by omega) hb1)
 refine ⟨_,_,hrun,⟨rfl,rfl,rfl,by simp,fun b hb=>heap_alloc_old w.drew _ hb⟩,fun b hb=> ?_,fun M' m=>⟨cx++cy,?_,(hr.append hr2).mv m⟩⟩
 ·have:b=w.heap.size:=by simpa [blk,Value.ownBlock] using hb
  subst this
  exact ⟨by simp,Nat.le_refl _⟩
 ·refine ⟨by rw [List.length_append,hr.1,hr2.1,List.length_append,Nat.add_mul],.inr ⟨w.heap.size,_,_,by rw [List.length_append],Nat.zero_le _,heap_alloc_new w.drew _,by rw [List.length_append];exact hge,hcm,?_,?_⟩⟩
  ·simp only [Array.size_append,List.size_toArray,size_zeroCells,hzs,hr.1,hr2.1,← Nat.add_mul]
   congr 1
   omega
  ·have hl:(cx++cy).length=(xs++ys).length*A.n:=by rw [List.length_append,hr.1,hr2.1,List.length_append,Nat.add_mul]
   rw [← hl]
   simp only [Array.toList_append]
   exact List.take_left
end
section
variable {P : Program} {ρ : Option Nat} {Q : aI} {n : Nat} {D : List Deferred} {E : Env} {w : World} {ops : Array Oper} {rest : List Oper} {Γ : Ctx}
variable {d : Tmp} {ty : TypeId} {pos : String} {af : Array Edge}
theorem SRd.SG {α:Type} {A:Rep α} {M:Nat→Prop} {v:Value} {xs:List α} {i j:Int} (h:SRd A M w v xs) (hc:jj i j j xs.length=true):
  ∃ p:Option Addr,Aw v i j j A.n (sl (p,(bd xs i j).length,(bd xs i j).length))∧SRd A M w (sl (p,(bd xs i j).length,(bd xs i j).length)) (bd xs i j):=by
 obtain ⟨p,h1,h2⟩:=SRd.VY (g:=true) (fun _=>h) (fun _=>hc)
 have h1:=h1 rfl
 have h2:=h2 rfl
 obtain ⟨ad,len,cap,hv,a1,a2,a3,a4,a5,h3⟩:=h1
 obtain ⟨pa,pl,pc⟩:=p
 simp only [sl,Value.slice.injEq] at h3
 obtain ⟨e1,e2,e3⟩:=h3
 obtain ⟨a',cap',hl⟩:=h2.len
 simp only [sl,Value.slice.injEq] at hl
 have e4:pl=(bd xs i j).length:=hl.2.1
 have e5:pc=(bd xs i j).length:=by rw [e3,← e4,e2]
 subst e5
 rw [e4] at h2
 refine ⟨pa,⟨ad,len,cap,hv,a1,a2,a3,a4,a5,?_⟩,h2⟩
 simp only [sl,Value.slice.injEq]
 exact ⟨e1,by rw [← e4];exact e2,e3⟩
end
/-! bytes of a constant, guarded: the literal and its mark in one -/
section
variable {P : Program} {ρ : Option Nat} {Q : aI} {n : Nat} {D : List Deferred} {E : Env} {w : World} {ops : Array Oper} {rest : List Oper} {Γ : Ctx} {g : Bool}
variable {d d2 : Tmp} {ty ty2 : TypeId} {pos pos2 : String} {af af2 : Array Edge}
end
/-! a store of a whole element of an own slice -/
section
variable {P : Program} {ρ : Option Nat} {Q : aI} {n : Nat} {D : List Deferred} {E : Env} {w : World} {ops : Array Oper} {rest : List Oper} {Γ : Ctx}
variable {ty : TypeId} {pos : String} {af : Array Edge}
end
end Go.Proofs.YtgcgmclghbebjaaGreat
namespace Go.Proofs.YtgcgmclghbebjaaGreat
def ik {α:Type} (xs:List α) (i:Int) (ys:List α):List α:=xs.take i.toNat++ys++xs.drop i.toNat
def qF (i:Int) (n:Nat):Bool:=decide (0≤i)&&decide (i≤n)
theorem Ho {i:Int} {n:Nat}:qF i n=true↔0≤i∧i≤n:=by simp [qF]
section
variable {P : Program} {E : Env} {w : World} {g : Bool}
variable {dst : Option Tmp} {ty : TypeId} {pos : String} {af : Array Edge} {gd : Option (Nat × Bool)}
theorem mK {t ty e k bytes:Nat} {z:Value} (ht:P.underlying t=some (.slice e)) (hti:TI P e k bytes z) {b o dl dc:Nat} {cur:Array Value} {e':TypeId} {a:Addr} {ls sc:Nat} {cs:List Value}
  (hn:cs.length=Nat.min ls dl*k) (hsrc: ∀ j v,cs[j]? =some v→w.cell? (a.add j)=some v) (hg:w.heap[b]? =some (.cells cur e' (0,0))) (hfit:o+cs.length≤cur.size) (h1: ∀ v∈cs,v.oneCell'=true):
  (Builtin.copy_ #[t,t] ty #[.slice (some ⟨b,o,none⟩) dl dc,.slice (some a) ls sc]).run P w= .ok (goInt (Nat.min ls dl)) (w.setRow b (cur.toList.take o++cs++cur.toList.drop (o+cs.length)).toArray):=by
 obtain ⟨i,hi,hs,_,_⟩:=hti.out
 have hl:=run_loadCells_list (P:=P) w a cs hsrc
 rw [hn] at hl
 have hst:=run_storeCells_at (P:=P) b o e' cs 0 cur w hg (by simpa using hfit) h1
 simp only [Nat.add_zero] at hst
 simp [Builtin.copy_,run_underlying ht,sizeOf,typeInfo,hi,hs,Builtin.lenOf,Builtin.firstCells,hl,hst]
theorem Fj {x:Operand} {a:Option Addr} {n c:Nat} {t e:TypeId} (ht:P.underlying t=some (.slice e)) (hx:Opd E g x (.slice a n c)):
  Run P E g ⟨dst,.call ⟨.builtin .cap,#[x],#[t]⟩,ty,pos,af,gd⟩ w (.int .i64 c):=fun n' a' hf hg=>by
 simp [execOp,resolve,invoke,builtin,hx n' a' hf hg,Builtin.cap_,run_underlying ht,goInt]
theorem kl {x y:Operand} {b o n c i k bytes:Nat} {kk:IntKind} {z:Value} {t e:TypeId} (ht:P.underlying t=some (.slice e)) (hti:TI P e k bytes z) (hx:Opd E g x (.slice (some ⟨b,o,none⟩) n c)) (hy:Opd E g y (.int kk (i:Int)))
  (h1:i≤n) (h2:n≤c) (h3:i<c):Run P E g ⟨dst,.slice t x (some y) none none,ty,pos,af,gd⟩ w (.slice (some ⟨b,o+i*k,none⟩) (n-i) (c-i)):=by
 refine tz (lo:=some y) (hi:=none) ht hti hx (fun _=>⟨_,_,rfl⟩) ⟨_,hy⟩ rfl (fun _=>⟨_,_,_,rfl,by omega,by omega,Int.le_refl _,h2,?_⟩)
 have e1:(i:Int).toNat=i:=by omega
 have e2:((n:Nat):Int).toNat=n:=by omega
 rw [e1,e2,if_neg (by omega)]
 simp [Addr.add]
theorem JC {x y:Operand} {a:Option Addr} {n c j k bytes:Nat} {kk:IntKind} {z:Value} {t e:TypeId} (ht:P.underlying t=some (.slice e)) (hti:TI P e k bytes z) (hx:Opd E g x (.slice a n c)) (hy:Opd E g y (.int kk (j:Int)))
  (h1:j≤c):Run P E g ⟨dst,.slice t x none (some y) none,ty,pos,af,gd⟩ w (.slice a j c):=by
 obtain ⟨i',hi,hs,_,_⟩:=hti.out
 intro n' a' hf hg
 have e1:((j:Nat):Int).toNat=j:=by omega
 by_cases hc:c=0
 ·subst hc
  have hj:j=0:=by omega
  subst hj
  simp [execOp,hx n' a' hf hg,hy n' a' hf hg,Instr.sliceAt,Instr.slice,Instr.sliceBounds,Instr.sliceBound,asIntOf,run_underlying ht,sizeOf,typeInfo,hi]
 ·cases a <;> simp [execOp,hx n' a' hf hg,hy n' a' hf hg,Instr.sliceAt,Instr.slice,Instr.sliceBounds,Instr.sliceBound,asIntOf,run_underlying ht,sizeOf,typeInfo,hi,h1,Addr.add]
theorem M5 {f:FuncId} {xs:List Operand} {vs:List Value} {tys:Array TypeId} {v:Value} (hxs:jS E g xs vs) (hc:(callFunc f vs.toArray).run P w= .ok (.value v) w):
  Run P E g ⟨dst,.call ⟨.value (.func f),xs.toArray,tys⟩,ty,pos,af,gd⟩ w v:=fun n' a' hf hg=>by
 have e1:(Array.map a'.eval xs.toArray)=vs.toArray:=by simp [hxs.map hf hg]
 simp only [execOp,resolve,Act.eval,Deferred.ofValue,e1,Sem.run_bind,Sem.run_pure,Result.andThen_ok,invoke]
 simpa using hc
theorem Bf {x y:Operand} {t t':TypeId} {u v r:Value} {w':World} (hx:Opd E true x u) (hy:Opd E true y v) (hr:(Builtin.append_ #[t,t'] ty #[u,v]).run P w= .ok r w'):
  j4 P E ⟨dst,.call ⟨.builtin .append,#[x,y],#[t,t']⟩,ty,pos,af,gd⟩ w r w':=fun n a hf=>by simp [execOp,resolve,invoke,builtin,hx n a hf rfl,hy n a hf rfl,hr]
theorem qb {x y:Operand} {t t':TypeId} {u v r:Value} {w':World} (hx:Opd E true x u) (hy:Opd E true y v) (hr:(Builtin.copy_ #[t,t'] ty #[u,v]).run P w= .ok r w'):
  j4 P E ⟨dst,.call ⟨.builtin .copy,#[x,y],#[t,t']⟩,ty,pos,af,gd⟩ w r w':=fun n a hf=>by simp [execOp,resolve,invoke,builtin,hx n a hf rfl,hy n a hf rfl,hr]
end
/-! rows of cells -/
section
variable {w : World}
theorem cell_of_heap {b:Nat} {cur:Array Value} {e:TypeId} {fr:Nat×Nat} (hb:w.heap[b]? =some (.cells cur e fr)) (o:Nat) (l:List Value) (hl:l=(cur.toList.drop o).take l.length): ∀ j v,l[j]? =some v→w.cell? ((⟨b,o,none⟩:Addr).add j)=some v:=by
 intro j v hj
 have key:aM w ⟨b,o,none⟩ l:=⟨rfl,cur,e,fr,hb,fun j u hj=>by
  rw [hl,List.getElem?_take] at hj
  split at hj
  ·simpa [List.getElem?_drop] using hj
  ·cases hj⟩
 exact key.cell hj
theorem Chg.trans {C:List Nat} {a b c:World} (h:Chg C a b) (k:Chg C b c):Chg C a c:=⟨k.os.trans h.os,k.tape.trans h.tape,k.output.trans h.output,Nat.le_trans h.size k.size,fun i hi hn=>(k.block i (Nat.lt_of_lt_of_le hi h.size) hn).trans (h.block i hi hn)⟩
theorem nZ (b:Nat) (row:Array Value):Chg [b] w (w.setRow b row):=⟨rfl,rfl,rfl,by simp,fun c _ hcb=>setRow_other w b c _ (by simpa using hcb)⟩
theorem NH {l vs:List Value} {a b n c:Nat} (ha:a≤n) (hb:vs.length=b) (hc:n+b≤c) (hl:l.length=c):
  let r1:=l.take (a+b)++(l.drop a).take (n-a)++l.drop (a+b+((l.drop a).take (n-a)).length)
  let r2:=r1.take a++vs++r1.drop (a+vs.length)
  r1.length=c∧r2.length=c∧r2.take (n+b)=(l.take n).take a++vs++(l.take n).drop a:=by
 intro r1 r2
 have e0:((l.drop a).take (n-a)).length=n-a:=by rw [List.length_take,List.length_drop];omega
 have h1:r1.length=c:=by
  simp only [r1,List.length_append,List.length_take,List.length_drop,e0];omega
 have h2:r2.length=c:=by
  simp only [r2,List.length_append,List.length_take,List.length_drop,h1];omega
 refine ⟨h1,h2,?_⟩
 have t1:r1.take a=(l.take n).take a:=by
  simp only [r1]
  rw [List.append_assoc,List.take_append_of_le_length (by rw [List.length_take];omega),List.take_take,List.take_take,Nat.min_eq_left (by omega),Nat.min_eq_left ha]
 have t2:(r1.drop (a+vs.length)).take (n-a)=(l.take n).drop a:=by
  simp only [r1]
  rw [List.append_assoc,List.drop_append,hb]
  rw [List.drop_eq_nil_of_le (by rw [List.length_take];omega),List.nil_append,List.length_take,Nat.min_eq_left (by omega),Nat.sub_self,List.drop_zero,List.take_append_of_le_length (by omega),List.take_of_length_le (by omega),List.drop_take]
 simp only [r2]
 rw [t1]
 have l1:((l.take n).take a++vs).length=a+b:=by rw [List.length_append,List.length_take,List.length_take];omega
 rw [List.take_append,List.take_of_length_le (by omega),l1,show n+b-(a+b)=n-a by omega,t2]
theorem QL {l vs z:List Value} {a b n:Nat} (ha:a≤n) (hb:vs.length=b) (hl:l.length=n) (hz:n+b≤a+z.length):
  let r0:=l.take a++z
  let r1:=r0.take a++vs++r0.drop (a+vs.length)
  let r2:=r1.take (a+b)++l.drop a++r1.drop (a+b+(l.drop a).length)
  r1.length=r0.length∧r2.length=r0.length∧r2.take (n+b)=l.take a++vs++l.drop a:=by
 intro r0 r1 r2
 have h0:r0.length=a+z.length:=by simp only [r0,List.length_append,List.length_take];omega
 have hd:(l.drop a).length=n-a:=by rw [List.length_drop,hl]
 have h1:r1.length=r0.length:=by
  simp only [r1,List.length_append,List.length_take,List.length_drop];omega
 have h2:r2.length=r0.length:=by
  simp only [r2,List.length_append,List.length_take,hd,List.length_drop];omega
 refine ⟨h1,h2,?_⟩
 have t0:r0.take a=l.take a:=by
  simp only [r0]
  rw [List.take_append_of_le_length (by rw [List.length_take];omega),List.take_take,Nat.min_self]
 have t1:r1.take (a+b)=l.take a++vs:=by
  simp only [r1]
  rw [t0]
  have:(l.take a++vs).length=a+b:=by rw [List.length_append,List.length_take];omega
  rw [List.take_append_of_le_length (by omega),List.take_of_length_le (by omega)]
 simp only [r2]
 rw [t1]
 have:(l.take a++vs++l.drop a).length=n+b:=by rw [List.length_append,List.length_append,List.length_take,hd];omega
 rw [List.take_append_of_le_length (by omega),List.take_of_length_le (by omega)]
end
section
variable {P : Program} {w : World}
theorem LN {α:Type} {A:Rep α} {M:Nat→Prop} {v u:Value} {t ty e:TypeId} {bytes:Nat} {z:Value} {R:List Nat} (ht:P.underlying t=some (.slice e)) (hti:TI P e A.n bytes z)
  (hzs:z.cells.size=A.n) (hpos:0<A.n) {xs ys:List α} (ho:Own A e M w v xs R) (hyr:SRd A M w u ys) (hM: ∀ b∈R,M b) (hroom:aw (xs.length+ys.length) bytes=true):
  ∃ v' R' w',(Builtin.append_ #[t,t] ty #[v,u]).run P w= .ok v' w'∧Chg R w w'∧(∀ b∈R',b<w'.heap.size∧(b∈R∨w.heap.size≤b))∧ ∀ M',Mv M w M' w'→Own A e M' w' v' (xs++ys) R':=by
 obtain ⟨i',hi',hs,hby,hz⟩:=hti.out
 subst hby
 rcases ho with ⟨rfl,ho⟩ | ⟨rfl,rfl,⟨a0,rfl⟩,hr0⟩
 ·obtain ⟨v',w',hr,hC,hR,hO⟩:=wc t ty e i' z ht hi' hz hs hzs ho hyr hM hroom hpos
  exact ⟨v',blk v',w',hr,hC,hR,fun M' m=>Own.of (hO M' m)⟩
 ·rcases mT t ty e i' z ht hi' hz hs hzs hr0 hyr (by simpa using hroom) with ⟨hr,rfl⟩ | ⟨v',w',hr,hE,hB,hO⟩
  ·exact ⟨_,[],w,hr,(Ext.refl w).chg _,(fun b hb=>by cases hb),fun M' m=>Own.empty (hr0.mv m)⟩
  ·exact ⟨v',blk v',w',hr,hE.chg _,(fun b hb=>⟨(hB b hb).1,.inr (hB b hb).2⟩),fun M' m=>Own.of (by simpa using hO M' m)⟩
theorem Own.shape {α:Type} {A:Rep α} {M:Nat→Prop} {v:Value} {e:TypeId} {xs:List α} {R:List Nat} (h:Own A e M w v xs R): ∃ p c,v= .slice p xs.length c∧xs.length≤c:=by
 rcases h with ⟨_,cells,⟨_,h2⟩,_⟩ | ⟨_,rfl,⟨a,rfl⟩,_⟩
 ·rcases h2 with ⟨rfl,h0⟩ | ⟨g,cap,cur,rfl,_,_,hc,_⟩
  ·exact ⟨none,0,by rw [h0],by omega⟩
  ·exact ⟨_,_,rfl,hc⟩
 ·exact ⟨a,0,rfl,Nat.le_refl _⟩
theorem Own.row {α:Type} {A:Rep α} {M:Nat→Prop} {v:Value} {e:TypeId} {xs:List α} {R:List Nat} (h:Own A e M w v xs R) (hx:xs≠[]):
  ∃ b c cur,v= .slice (some ⟨b,0,none⟩) xs.length c∧R=[b]∧w.heap[b]? =some (.cells cur e (0,0))∧xs.length≤c∧c≤maxLen∧cur.size=c*A.n∧ARd A M w (cur.toList.take (xs.length*A.n)) xs:=by
 rcases h with ⟨hR,cells,⟨_,h2⟩,hr⟩ | ⟨_,h,_⟩
 ·rcases h2 with ⟨_,h0⟩ | ⟨g,cap,cur,rfl,_,hh,hc,hm,hs,ht⟩
  ·exact absurd (List.eq_nil_of_length_eq_zero h0) hx
  ·exact ⟨g,cap,cur,rfl,by rw [hR];rfl,hh,hc,hm,hs,by rw [ht];exact hr⟩
 ·exact absurd h hx
theorem Own.mk_ {α:Type} {A:Rep α} {M:Nat→Prop} {e:TypeId} {xs:List α} {b c:Nat} {cur:Array Value} (hh:w.heap[b]? =some (.cells cur e (0,0))) (hc:xs.length≤c) (hm:c≤maxLen) (hs:cur.size=c*A.n) (hr:ARd A M w (cur.toList.take (xs.length*A.n)) xs):
  Own A e M w (.slice (some ⟨b,0,none⟩) xs.length c) xs [b]:= .inl ⟨rfl,_,⟨hr.1,.inr ⟨b,c,cur,rfl,Nat.zero_le _,hh,hc,hm,hs,rfl⟩⟩,hr⟩
theorem PD {α:Type} {xs ys:List α} {i:Nat} (h:i≤xs.length):(ik xs (i:Int) ys).length=xs.length+ys.length:=by
 unfold ik
 simp only [List.length_append,List.length_take,List.length_drop,Int.toNat_natCast];omega
theorem Qz {α:Type} {xs ys:List α}:ik xs (xs.length:Int) ys=xs++ys:=by
 unfold ik
 simp
theorem Ll {α:Type} {A:Rep α} {M:Nat→Prop} {cx cy:List Value} {xs ys:List α} {i:Nat} (hx:ARd A M w cx xs) (hy:ARd A M w cy ys):ARd A M w (cx.take (i*A.n)++cy++cx.drop (i*A.n)) (ik xs (i:Int) ys):=by
 unfold ik
 rw [Int.toNat_natCast]
 exact ((hx.take i).append hy).append (hx.drop i)
end
end Go.Proofs.YtgcgmclghbebjaaGreat
namespace Go.Proofs.YtgcgmclghbebjaaGreat
def kX (b:Nat) (o:Obj):Item where
 own:=[b]
 P _ w:=w.heap[b]? =some o
 lt h c hc:=by
  have:c=b:=by simpa using hc
  subst this;exact (Array.getElem?_eq_some_iff.1 h).1
 bm h _ k _:=(k b (by simp)).trans h
 ck:=false
 hp h:=by cases h
def pack {γ:Type} (Γ:γ→Ctx) (R:List Nat):Item where
 own:=R
 P M w:=(∀ b∈R,b<w.heap.size)∧ ∃ g,(∀ b,(Γ g).M b↔b∈R)∧(∀ it,it∈Γ g→it.P M w)∧
  (∀ (i j:Nat) (it jt:Item),(Γ g)[i]? =some it→(Γ g)[j]? =some jt→i≠j→ ∀ b,b∈it.own→b∉jt.own)
 lt h:=h.1
 bm {M M' w w'} h m k e:=by
  obtain ⟨h1,g,h2,h3,h4⟩:=h
  exact ⟨fun b hb=>Nat.lt_of_lt_of_le (h1 b hb) m.1,g,h2,fun it hi=>it.bm (h3 it hi) m (fun b hb=>k b ((h2 b).1 ⟨it,hi,hb⟩)) e,h4⟩
 ck:=false
 hp h:=by cases h
theorem Ctx.IL {Γ Δ:Ctx} {b:Nat}:Ctx.M (Γ++Δ) b↔Γ.M b∨Δ.M b:=by
 constructor
 ·rintro ⟨it,hi,hb⟩
  rcases List.mem_append.1 hi with h | h
  ·exact .inl ⟨it,h,hb⟩
  ·exact .inr ⟨it,h,hb⟩
 ·rintro (⟨it,hi,hb⟩ | ⟨it,hi,hb⟩)
  ·exact ⟨it,List.mem_append_left _ hi,hb⟩
  ·exact ⟨it,List.mem_append_right _ hi,hb⟩
theorem oU {α:Type} {l m:List α} {i:Nat} {x:α} (h:l[i]? =some x):(l++m)[i]? =some x:=by
 rw [List.getElem?_append_left (List.getElem?_eq_some_iff.1 h).1];exact h
theorem oV {α:Type} {l m:List α} {i:Nat}:(l++m)[l.length+i]? =m[i]? :=by
 rw [List.getElem?_append_right (Nat.le_add_right _ _)];congr 1;omega
theorem Sat.pack {γ:Type} (Γ:γ→Ctx) (g:γ) (Δ:Ctx) {w:World} (h:Sat (Γ g++Δ) w): ∃ R,Sat (Go.Proofs.YtgcgmclghbebjaaGreat.pack Γ R::Δ) w:=by
 have hR: ∀ b,(Γ g).M b↔b∈(Γ g).flatMap Item.own:=fun b=>by
  simp only [List.mem_flatMap];exact Iff.rfl
 refine ⟨(Γ g).flatMap Item.own,?_⟩
 generalize hRe:(Γ g).flatMap Item.own=R at hR
 have hM: ∀ b,Ctx.M (Go.Proofs.YtgcgmclghbebjaaGreat.pack Γ R::Δ) b↔Ctx.M (Γ g++Δ) b:=fun b=>by
  rw [Ctx.p9,Ctx.IL,hR];exact Iff.rfl
 have mv:Mv (Ctx.M (Γ g++Δ)) w (Ctx.M (Go.Proofs.YtgcgmclghbebjaaGreat.pack Γ R::Δ)) w:=Mv.weaken w (fun b hb=>(hM b).1 hb)
 have cross: ∀ (b:Nat) (j:Nat) (jt:Item),b∈R→Δ[j]? =some jt→b∉jt.own:=fun b j jt hb hj hb'=>by
  obtain ⟨it,hi,hbi⟩:=(hR b).2 hb
  obtain ⟨i,hi⟩:=List.mem_iff_getElem?.1 hi
  have hlt:=(List.getElem?_eq_some_iff.1 hi).1
  exact h.sep i ((Γ g).length+j) it jt (oU hi) (oV.trans hj) (by omega) b hbi hb'
 refine ⟨fun it hi=> ?_,fun i j it jt hi hj hij b hb hb'=> ?_⟩
 ·rcases List.mem_cons.1 hi with rfl | hi
  ·exact ⟨fun b hb=>h.lt (Ctx.IL.2 (.inl ((hR b).2 hb))),g,hR,fun it hi=>it.bm (h.all it (List.mem_append_left _ hi)) mv (fun _ _=>rfl) (dA.refl w),
    fun i j it jt hi hj=>h.sep i j it jt (oU hi) (oU hj)⟩
  ·exact it.bm (h.all it (List.mem_append_right _ hi)) mv (fun _ _=>rfl) (dA.refl w)
 ·cases i with
  | zero=>
   simp only [List.getElem?_cons_zero,Option.some.injEq] at hi
   subst hi
   cases j with
   | zero=>exact hij rfl
   | succ j=>simp only [List.getElem?_cons_succ] at hj;exact cross b j jt hb hj hb'
  | succ i=>
   simp only [List.getElem?_cons_succ] at hi
   cases j with
   | zero=>
    simp only [List.getElem?_cons_zero,Option.some.injEq] at hj
    subst hj
    exact cross b i it hb' hi hb
   | succ j=>
    simp only [List.getElem?_cons_succ] at hj
    exact h.sep ((Γ g).length+i) ((Γ g).length+j) it jt (oV.trans hi) (oV.trans hj) (by omega) b hb hb'
/-! ### the loop's record -/
structure Rec (n:Nat) (E:Env) (ps:Array Tmp) (assign body:Code) (b:Nat) (r:LoopState→Option Code→Loop):Prop where
 ex: ∃ fn tmps,Fits n E { tmps:=tmps,defers:=[] }∧r=fun st pe=>{ state:=st,pending:=pe,fn,tmps,params:=ps,assign,body,defers:=b }
def stOf (c:Nat):LoopState:=match c with
 | 0=> .ready
 | _+1=> .done
abbrev bR (l:Nat) (r:LoopState→Option Code→Loop) (st:LoopState) (pe:Option Code):Item:=kX l (.loop (r st pe))
def mk (ds:List Nat):List Deferred:=ds.map fun b=>{ target:= .collected b,args:= #[] }
def cg (ds:List Nat):Item where
 own:=ds
 P _ w:=ds.Nodup∧ ∀ b∈ds,w.heap[b]? =some (.deferred (some []))
 lt h b hb:=(Array.getElem?_eq_some_iff.1 (h.2 b hb)).1
 bm h _ k _:=⟨h.1,fun b hb=>(k b hb).trans (h.2 b hb)⟩
 ck:=false
 hp h:=by cases h
section
variable {P : Program} {n : Nat} {D : List Deferred} {E : Env} {w : World} {Γ : Ctx} {Q : aI}
theorem Sat.S2 (hs:Sat Γ w):Sat (cg []::Γ) w:=hs.push (Ext.refl w) (fun b hb=>by cases hb) (fun _ _=>⟨List.nodup_nil,fun b hb=>by cases hb⟩)
theorem Sat.dfr {b:Nat} {ds:List Nat} (hs:Sat (kX b (.deferred (some []))::cg ds::Γ) w):Sat (cg (b::ds)::Γ) w:=by
 have h1:w.heap[b]? =some (.deferred (some [])):=hs.at_ (i:=0) rfl
 have h2:ds.Nodup∧ ∀ b∈ds,w.heap[b]? =some (.deferred (some [])):=hs.at_ (i:=1) rfl
 have h3:b∉ds:=hs.sep 0 1 _ _ rfl rfl (by omega) b (by simp [kX])
 have hM: ∀ c,Ctx.M (kX b (.deferred (some []))::cg ds::Γ) c↔Ctx.M (cg (b::ds)::Γ) c:=fun c=>by
  simp only [Ctx.p9,kX,cg,List.mem_cons,List.not_mem_nil,or_false]
  constructor
  ·rintro (h | h | h)
   ·exact .inl (.inl h)
   ·exact .inl (.inr h)
   ·exact .inr h
  ·rintro ((h | h) | h)
   ·exact .inl h
   ·exact .inr (.inl h)
   ·exact .inr (.inr h)
 have mv:Mv (Ctx.M (kX b (.deferred (some []))::cg ds::Γ)) w (Ctx.M (cg (b::ds)::Γ)) w:=Mv.weaken w (fun c hc=>(hM c).2 hc)
 have cross: ∀ (j:Nat) (jt:Item) (c:Nat),Γ[j]? =some jt→c∈b::ds→c∉jt.own:=fun j jt c hj hc=>by
  rcases List.mem_cons.1 hc with rfl | hc
  ·exact hs.sep 0 (j+2) _ jt rfl (by simpa using hj) (by omega) c (by simp [kX])
  ·exact hs.sep 1 (j+2) _ jt rfl (by simpa using hj) (by omega) c hc
 refine ⟨fun it hi=> ?_,fun i j it jt hi hj hij c hc hc'=> ?_⟩
 ·rcases List.mem_cons.1 hi with rfl | hi
  ·refine ⟨List.nodup_cons.2 ⟨h3,h2.1⟩,fun c hc=> ?_⟩
   rcases List.mem_cons.1 hc with rfl | hc
   ·exact h1
   ·exact h2.2 c hc
  ·exact it.bm (hs.all it (List.mem_cons_of_mem _ (List.mem_cons_of_mem _ hi))) mv (fun _ _=>rfl) (dA.refl w)
 ·cases i with
  | zero=>
   simp only [List.getElem?_cons_zero,Option.some.injEq] at hi
   subst hi
   cases j with
   | zero=>exact hij rfl
   | succ j=>simp only [List.getElem?_cons_succ] at hj;exact cross j jt c hj hc hc'
  | succ i=>
   simp only [List.getElem?_cons_succ] at hi
   cases j with
   | zero=>
    simp only [List.getElem?_cons_zero,Option.some.injEq] at hj
    subst hj
    exact cross i it c hi hc' hc
   | succ j=>
    simp only [List.getElem?_cons_succ] at hj
    exact hs.sep (i+2) (j+2) it jt (by simpa using hi) (by simpa using hj) (by omega) c hc hc'
theorem Sat.putObj {i b:Nat} {o o':Obj} (hs:Sat Γ w) (hi:Γ[i]? =some (kX b o)):Sat (Γ.set i (kX b o')) (w.putObj b o'):=by
 have hb:w.heap[b]? =some o:=hs.at_ hi
 have hlt:=(Array.getElem?_eq_some_iff.1 hb).1
 have hb':(w.putObj b o').heap[b]? =some o':=World.putObj_heap_same hlt
 refine hs.upd hi ⟨rfl,rfl,rfl,by simp,fun c _ hcb=>World.putObj_heap_other (by simpa [kX] using hcb)⟩ (fun c hc=> ?_) (fun _ _ _=>hb')
 have:c=b:=by simpa [kX] using hc
 subst this
 exact ⟨by simpa using hlt,.inl (by simp [kX])⟩
def gJ (P:Program) (ρ:Option Nat) (l n:Nat) (D:List Deferred) (Q:aI) (E:Env) (_v:Value) (w:World):Prop:=
 ∃ j w',(Instr.endLoop l).run P w= .ok j w'∧match j with
  | none=>At Q .normal n D E w'
  | some c=>WC P ρ c Q n D E w'
theorem gJ.go {l b:Nat} {r:LoopState→Option Code→Loop} {ps:Array Tmp} {assign body:Code} {v:Value} {E':Env} (hr:Rec n E' ps assign body b r) (hs:Sat (bR l r .ready none::Γ) w)
  (h: ∀ w',Sat Γ w'→At Q .normal n D E w'):gJ P none l n D Q E v w:=by
 obtain ⟨fn,tmps,_,rfl⟩:=hr.ex
 have h0:w.heap[l]? =some _:=hs.at_ (i:=0) rfl
 refine ⟨_,_,run_endLoop h0 (by simp),?_⟩
 refine h _ ((hs.putObj (i:=0) rfl).re 1 [] rfl)
theorem gJ.jump {l b:Nat} {r:LoopState→Option Code→Loop} {ps:Array Tmp} {assign body:Code} {v:Value} {E':Env} {c:Code} (hr:Rec n E' ps assign body b r) (hs:Sat (bR l r .done (some c)::Γ) w)
  (h: ∀ w',Sat Γ w'→WC P none c Q n D E w'):gJ P none l n D Q E v w:=by
 obtain ⟨fn,tmps,_,rfl⟩:=hr.ex
 have h0:w.heap[l]? =some _:=hs.at_ (i:=0) rfl
 refine ⟨_,_,run_endLoop h0 (by simp),?_⟩
 exact h _ ((hs.putObj (i:=0) rfl).re 1 [] rfl)
theorem WC_rangeFunc {g:Operand} {ps:Array Tmp} {assign body:Code} {f:FuncId} {first cap:List Value} (ds:List Nat)
  (he:cV P f) (hg:Opd E true g (.func (.func f) first.toArray cap.toArray)) (hs:Sat (cg ds::Γ) w)
  (h: ∀ (l b:Nat) (r:LoopState→Option Code→Loop) w1,Rec n E ps assign body b r→Sat (bR l r .ready none::cg (b::ds)::Γ) w1→
   fg P f (first++[Value.func (.yield l) #[] #[]]++cap) w1 (gJ P none l n (mk (b::ds)) Q E)):
  WC P none (.rangeFunc g ps assign body) Q n (mk ds) E w:=fun a hf hd=>by
 refine wpIn_rangeFunc fun fn hfn=> ?_
 obtain ⟨r,hr⟩: ∃ r:LoopState→Option Code→Loop,r=fun st pe=>{ state:=st,pending:=pe,fn,tmps:=a.tmps,params:=ps,assign,body,defers:=w.heap.size }:=⟨_,rfl⟩
 obtain ⟨W1,hW1⟩: ∃ W1,(w.alloc (.deferred (some []))).alloc (.loop (r .ready none))=W1:=⟨_,rfl⟩
 have hs1:Sat (kX w.heap.size (.deferred (some []))::cg ds::Γ) (w.alloc (.deferred (some []))):=hs.push (cQ _ _) (fun b hb=>by
  have:b=w.heap.size:=by simpa [kX] using hb
  subst this;simp) (fun _ _=>World.alloc_heap_new w _)
 have hs2:Sat (bR (w.heap.size+1) r .ready none::cg (w.heap.size::ds)::Γ) W1:=by
  rw [← hW1]
  have:=hs1.dfr.push (new:=bR (w.alloc (.deferred (some []))).heap.size r .ready none) (cQ _ _) (fun b hb=>by
   have:b=(w.alloc (.deferred (some []))).heap.size:=by simpa [kX] using hb
   subst this;simp) (fun _ _=>World.alloc_heap_new (w.alloc (.deferred (some []))) (.loop (r .ready none)))
  rwa [World.size_alloc] at this
 have hrec:Rec n E ps assign body w.heap.size r:=⟨fn,a.tmps,⟨hf.size,hf.at_⟩,hr⟩
 have hev:a.eval g=Value.func (.func f) first.toArray cap.toArray:=hg n a hf rfl
 refine ⟨w.heap.size+1,[{ target:= .collected w.heap.size,args:= #[] }],W1,{ target:= .fn (.func f) cap.toArray,args:=first.toArray++ #[Value.func (.yield (w.heap.size+1)) #[] #[]] },W1,f,
  (first++[Value.func (.yield (w.heap.size+1)) #[] #[]]++cap).toArray,W1,?_,?_,fun _ _=>trivial,?_,rX,?_⟩
 ·rw [← hW1,hr];exact run_enterLoop_outer _ _ _ _ _
 ·simp only [resolve,hev,Deferred.ofValue]
  simp [Act.eval]
 ·have:=he (first++[Value.func (.yield (w.heap.size+1)) #[] #[]]++cap).toArray W1
  simp only [invoke]
  simpa using this
 ·refine xo (Calls.mono (h (w.heap.size+1) w.heap.size r W1 hrec hs2) fun e w' he=> ?_)
  cases e with
  | returned v=>
   obtain ⟨j,w'',h1,h2⟩:=he
   refine ⟨j,w'',h1,?_⟩
   have hf':Fits n E { a with defers:=[{ target:= .collected w.heap.size,args:= #[] }]++a.defers }:=⟨hf.size,hf.at_⟩
   cases j with
   | none=>exact h2 _ hf' (by simp [hd,mk])
   | some c=>exact h2 _ hf' (by simp [hd,mk])
  | panicked c=>exact he.elim
  | outgrown=>exact he.elim
/-! ### a round -/
def Yld (P:Program) (l:Nat) (vs:List Value) (w:World) (S:Value→World→Prop):Prop:=
 ∃ fn tmps assign body,(Instr.yield l vs.toArray).run P w= .ok (.round l fn tmps assign body) w∧RoundIn (FW none) 0 P l fn tmps assign body w (RE S (fun _ _=>False))
theorem Yld.mono {l:Nat} {vs:List Value} {S S':Value→World→Prop} (h:Yld P l vs w S) (hs: ∀ v w',S v w'→S' v w'):Yld P l vs w S':=by
 obtain ⟨fn,tmps,assign,body,h1,h2⟩:=h
 refine ⟨fn,tmps,assign,body,h1,h2.mono fun e w' he=> ?_⟩
 cases e with
 | returned v=>exact hs _ _ he
 | panicked c=>exact he
 | outgrown=>exact he
def Ip:List Tmp→List Value→Env→Env
 | p::ps,v::vs,E=>Ip ps vs ((p,true,v)::E)
 | _,_,E=>E
theorem G8: ∀ (ps:List Tmp) (vs:List Value) {E:Env} {tmps:Array Value},ps.all (fun p=>Nat.blt p n)=true→Fits n E { tmps:=tmps,defers:=[] }→
  Fits n (Ip ps vs E) { tmps:=(ps.zip vs).foldl (fun t (p,v)=>t.setIfInBounds p v) tmps,defers:=[] }
 | [],_,_,_,_,h=>h
 | _::_,[],_,_,_,h=>h
 | p::ps,v::vs,E,tmps,hp,h=>by
  simp only [List.all_cons,Bool.and_eq_true] at hp
  have:=h.put (g:=true) (v:=v) hp.1
  exact G8 ps vs hp.2 this
def OU (P:Program) (l:Nat) (body:Code) (Q:aI):Act→World→Prop:=fun a w=> ∃ w',(Instr.beginRound l).run P w= .ok () w'∧body.wpIn (FW (some l)) 0 P Q a w'
theorem Vh {l b:Nat} {r:LoopState→Option Code→Loop} {ps:List Tmp} {assign body:Code} {vs:List Value} {S:Value→World→Prop}
  (hr:Rec n E ps.toArray assign body b r) (hs:Sat (bR l r .ready none::Γ) w) (hl:Nat.beq vs.length ps.length=true) (hp:ps.all (fun p=>Nat.blt p n)=true)
  (h:WC P (some l) assign (Exit.then (OU P l body (roundPost P l (RE S (fun _ _=>False)))) (fun _ _ _=>False)) n [] (Ip ps vs E) w):Yld P l vs w S:=by
 obtain ⟨fn,tmps,hf,rfl⟩:=hr.ex
 have h0:w.heap[l]? =some _:=hs.at_ (i:=0) rfl
 have hl':vs.length=ps.length:=Nat.eq_of_beq_eq_true hl
 refine ⟨fn,_,assign,body,run_yield h0 (by simp [hl']),roundIn_of_wpIn trivial ?_⟩
 have hz:=G8 ps vs hp hf
 have e:((ps.toArray.zip vs.toArray).foldl (fun tmps (t,a)=>tmps.setIfInBounds t a) tmps)=((ps.zip vs).foldl (fun t (p,v)=>t.setIfInBounds p v) tmps):=by
  simp
 have:=h _ hz rfl
 rw [← e] at this
 exact this
theorem Rw {l b i:Nat} {r:LoopState→Option Code→Loop} {ps:Array Tmp} {assign body:Code} {E':Env} (hr:Rec n E' ps assign body b r) (hs:Sat Γ w) (hi:Γ[i]? =some (bR l r .ready none))
  (h: ∀ w',Sat (Γ.set i (bR l r .busy none)) w'→WC P (some l) body Q n D E w'):At (Exit.then (OU P l body Q) (fun _ _ _=>False)) .normal n D E w:=fun a hf hd=>by
 obtain ⟨fn,tmps,_,rfl⟩:=hr.ex
 have h0:w.heap[l]? =some _:=hs.at_ hi
 exact ⟨_,run_beginRound h0 rfl,h _ (hs.putObj hi) a hf hd⟩
theorem RO {l b i:Nat} {r:LoopState→Option Code→Loop} {ps:Array Tmp} {assign body:Code} {E':Env} {S:Value→World→Prop} {Sp:List PanicEntry→World→Prop} (hr:Rec n E' ps assign body b r) (hs:Sat Γ w) (hi:Γ[i]? =some (bR l r .busy none))
  (h: ∀ w',Sat (Γ.set i (bR l r .ready none)) w'→S (.bool true) w'):At (roundPost P l (RE S Sp)) .normal n D E w:=fun a hf hd=>by
 obtain ⟨fn,tmps,_,rfl⟩:=hr.ex
 have h0:w.heap[l]? =some _:=hs.at_ hi
 exact ⟨_,_,run_endRound none h0,h _ (hs.putObj hi)⟩
theorem HD {l b i:Nat} {r:LoopState→Option Code→Loop} {ps:Array Tmp} {assign body:Code} {E':Env} {S:Value→World→Prop} {Sp:List PanicEntry→World→Prop} (hr:Rec n E' ps assign body b r) (hs:Sat Γ w) (hi:Γ[i]? =some (bR l r .busy none))
  (h: ∀ w',Sat (Γ.set i (bR l r .done (some .ret))) w'→S (.bool false) w'):At (roundPost P l (RE S Sp)) .ret n D E w:=fun a hf hd=>by
 obtain ⟨fn,tmps,_,rfl⟩:=hr.ex
 have h0:w.heap[l]? =some _:=hs.at_ hi
 exact ⟨_,_,run_endRound (some .ret) h0,h _ (hs.putObj hi)⟩
theorem F9 {l b i k:Nat} {r:LoopState→Option Code→Loop} {ps:Array Tmp} {assign body:Code} {E':Env} {S:Value→World→Prop} {Sp:List PanicEntry→World→Prop} (hr:Rec n E' ps assign body b r) (hs:Sat Γ w) (hi:Γ[i]? =some (bR l r .busy none))
  (h: ∀ w',Sat (Γ.set i (bR l r .done (some (.exit k)))) w'→S (.bool false) w'):At (roundPost P l (RE S Sp)) (.exit k) n D E w:=fun a hf hd=>by
 obtain ⟨fn,tmps,_,rfl⟩:=hr.ex
 have h0:w.heap[l]? =some _:=hs.at_ hi
 exact ⟨_,_,run_endRound (some (.exit k)) h0,h _ (hs.putObj hi)⟩
theorem FK {l b i k:Nat} {r:LoopState→Option Code→Loop} {ps:Array Tmp} {assign body:Code} {E':Env} {S:Value→World→Prop} {Sp:List PanicEntry→World→Prop} (hr:Rec n E' ps assign body b r) (hs:Sat Γ w) (hi:Γ[i]? =some (bR l r .busy none))
  (h: ∀ w',Sat (Γ.set i (bR l r .done (some (.goto k)))) w'→S (.bool false) w'):At (roundPost P l (RE S Sp)) (.goto k) n D E w:=fun a hf hd=>by
 obtain ⟨fn,tmps,_,rfl⟩:=hr.ex
 have h0:w.heap[l]? =some _:=hs.at_ hi
 exact ⟨_,_,run_endRound (some (.goto k)) h0,h _ (hs.putObj hi)⟩
end
section
variable {P : Program} {ρ : Option Nat} {Q : aI} {n : Nat} {D : List Deferred} {E : Env} {w : World} {ops : Array Oper} {rest : List Oper} {Γ : Ctx}
theorem RC {l:Nat} {fo:Operand} {xs:List Operand} {vs:List Value} {tys:Array TypeId} {d:Tmp} {ty:TypeId} {pos:String} {af:Array Edge} {S:Value→World→Prop}
  (hfo:Opd E true fo (.func (.yield l) #[] #[])) (hxs:jS E true xs vs) (hn:Nat.blt d n=true) (hy:Yld P l vs w S)
  (h: ∀ v w',S v w'→WL P ρ ops Q n D rest ((d,true,v)::E) w'):WL P ρ ops Q n D (⟨some d,.call ⟨.value fo,xs.toArray,tys⟩,ty,pos,af,none⟩::rest) E w:=fun a hf hD=>
 wpListIn_plain rfl fun K hK=>fP rfl (by
  obtain ⟨fn,tmps,assign,body,h1,h2⟩:=hy
  have e1:(Array.map a.eval xs.toArray)=vs.toArray:=by simp [hxs.map hf rfl]
  have e2:(execOp a.eval ⟨some d,.call ⟨.value fo,xs.toArray,tys⟩,ty,pos,af,none⟩).run P w= .ok (.round l fn tmps assign body) w:=by
   simp only [execOp,resolve,hfo n a hf rfl,Deferred.ofValue,e1,Sem.run_bind,Sem.run_pure,Result.andThen_ok,invoke]
   simpa using h1
  rw [e2,Oper.uponIn_round]
  refine ⟨rX,RoundIn.mono (F:=FW ρ) h2 fun e w' he=> ?_⟩
  cases e with
  | returned v=>exact hK _ _ (h v w' he _ (hf.put hn) hD)
  | panicked c=>exact he.elim
  | outgrown=>exact he.elim)
theorem Cb {fn:Func} {S:Value→World→Prop} {Sp:List PanicEntry→World→Prop}: ∀ (ds:List Nat) {w:World},Sat (cg ds::Γ) w→
  (∀ w',Sat Γ w'→At (BP P fn S Sp) .ret n [] E w')→At (BP P fn S Sp) .ret n (mk ds) E w
 | [],w,hs,h=>h w (hs.re 1 [] rfl)
 | b::ds,w,hs,h=>fun a hf hd=>by
  have h0:(b::ds).Nodup∧ ∀ c∈b::ds,w.heap[c]? =some (.deferred (some [])):=hs.at_ (i:=0) rfl
  have hb:=h0.2 b (List.mem_cons_self ..)
  have hnb:b∉ds:=(List.nodup_cons.1 h0.1).1
  have hlt:=(Array.getElem?_eq_some_iff.1 hb).1
  have hs':Sat ((cg (b::ds)::Γ).set 0 (cg ds)) (w.putObj b (.deferred none)):=by
   refine hs.upd (i:=0) rfl ⟨rfl,rfl,rfl,by simp,fun c _ hcb=>World.putObj_heap_other (fun e=>hcb (by subst e;exact List.mem_cons_self ..))⟩ (fun c hc=>⟨?_,.inl (List.mem_cons_of_mem _ hc)⟩) (fun _ _ _=> ?_)
   ·have:=(Array.getElem?_eq_some_iff.1 (h0.2 c (List.mem_cons_of_mem _ hc))).1
    simpa using this
   ·exact ⟨(List.nodup_cons.1 h0.1).2,fun c hc=>(World.putObj_heap_other (fun e=>hnb (by subst e;exact hc))).trans (h0.2 c (List.mem_cons_of_mem _ hc))⟩
  have h1:=Cb ds hs' h { a with defers:=mk ds } ⟨hf.size,hf.at_⟩ rfl
  show LeavesInM (FW none) 0 P fn a.tmps (RE S Sp) a.defers .returning w
  rw [hd]
  exact ⟨by simp,.inl ⟨b,_,rfl,run_takeDeferred hb,h1⟩⟩
theorem Iz {fn:Func} {S:Value→World→Prop} {Sp:List PanicEntry→World→Prop} (ds:List Nat) (hs:Sat (cg ds::Γ) w)
  (h: ∀ w',Sat Γ w'→At (BP P fn S Sp) .normal n [] E w'):At (BP P fn S Sp) .normal n (mk ds) E w:=Cb (fn:=fn) (S:=S) (Sp:=Sp) ds hs h
def AgainD {σ γ τ:Type} (again:σ→Option τ) (r:τ) (J:σ→γ→World→Prop) (Es:σ→γ→Env) (n:Nat) (Ds:γ→List Nat) (a:Act) (w:World):Prop:=
 ∃ s g,again s=some r∧J s g w∧Fits n (Es s g) a∧a.defers=mk (Ds g)
end
end Go.Proofs.YtgcgmclghbebjaaGreat
namespace Go.Proofs.YtgcgmclghbebjaaGreat
section
variable {P : Program} {E : Env} {w : World} {g : Bool}
variable {dst : Option Tmp} {ty : TypeId} {pos : String} {af : Array Edge} {gd : Option (Nat × Bool)}
abbrev qV (f:Bool) (b:Nat):Value:= .pointer (bif f then some ⟨b,0,none⟩ else none)
theorem L7 {x y:Operand} {t t' e:TypeId} {f:Bool} {b:Nat} (ht:P.underlying t=some (.pointer e)) (hx:Opd E g x (qV f b)) (hy:Opd E g y (.pointer none)):
  Run P E g ⟨dst,.binOp .eql t x y t',ty,pos,af,gd⟩ w (.bool (!f)):=
 bw (P:=P) hx hy (by
  rw [Sem.run_bind,cp rfl,Result.andThen_ok]
  have h: ∀ d:Nat,(Op.equalIn (d+1) t (qV f b) (.pointer none)).run P w= .ok (!f) w:=fun d=>by
   cases f <;> simp [Op.equalIn,run_underlying ht,qV]
  simp only [binOp]
  simp [Op.equal,Op.maxDepth,h 9999])
theorem Nv {x y:Operand} {t t' e:TypeId} {f:Bool} {b n bytes:Nat} {z:Value} (ht:P.underlying t=some (.pointer e)) (hti:TI P e n bytes z) (hx:Opd E g x (qV f b)) (hy:Opd E g y (.pointer (some ⟨b,0,none⟩))):
  Run P E g ⟨dst,.binOp .neq t x y t',ty,pos,af,gd⟩ w (.bool (!f)):=
 bw (P:=P) hx hy (by
  rw [Sem.run_bind,cp rfl,Result.andThen_ok]
  obtain ⟨j,hj,_⟩:=hti.out
  cases f
  ·have h: ∀ d:Nat,(Op.equalIn (d+1) t (.pointer none) (.pointer (some ⟨b,0,none⟩))).run P w= .ok false w:=fun d=>by
    simp [Op.equalIn,run_underlying ht]
   show (binOp .neq t (.pointer none) (.pointer (some ⟨b,0,none⟩))).run P w=_
   simp only [binOp]
   simp [Op.equal,Op.maxDepth,h 9999]
  ·exact Lib.run_neq_ptr_same w _ ht hj)
theorem CI {κ ν:Type} {ke:κ→Value} {vi:ν→Value} {x y:Operand} {t t' kt et:TypeId} {o:Option Nat} {dd:Option (List (κ×ν))} (ht:P.underlying t=some (.map kt et)) (hx:Opd E g x (.map o)) (hy:Opd E g y (.map none)) (hm:gU ke vi w (.map o) dd):
  Run P E g ⟨dst,.binOp .eql t x y t',ty,pos,af,gd⟩ w (.bool (Option.isNone dd)):=
 bw (P:=P) hx hy (by
  rw [Sem.run_bind,cp rfl,Result.andThen_ok]
  rcases hm with ⟨e,rfl⟩ | ⟨b,es,clock,l,e,rfl,_,_⟩
  ·cases e
   have h: ∀ d:Nat,(Op.equalIn (d+1) t (.map none) (.map none)).run P w= .ok true w:=fun d=>by simp [Op.equalIn,run_underlying ht]
   simp only [binOp]
   simp [Op.equal,Op.maxDepth,h 9999]
  ·cases e
   have h: ∀ d:Nat,(Op.equalIn (d+1) t (.map (some b)) (.map none)).run P w= .ok false w:=fun d=>by simp [Op.equalIn,run_underlying ht]
   simp only [binOp]
   simp [Op.equal,Op.maxDepth,h 9999])
theorem Dj {κ ν:Type} {ke:κ→Value} {vi:ν→Value} {x y:Operand} {t t' kt et:TypeId} {o:Option Nat} {dd:Option (List (κ×ν))} (ht:P.underlying t=some (.map kt et)) (hx:Opd E g x (.map o)) (hy:Opd E g y (.map none)) (hm:gU ke vi w (.map o) dd):
  Run P E g ⟨dst,.binOp .neq t x y t',ty,pos,af,gd⟩ w (.bool (!(Option.isNone dd))):=
 bw (P:=P) hx hy (by
  rw [Sem.run_bind,cp rfl,Result.andThen_ok]
  rcases hm with ⟨e,rfl⟩ | ⟨b,es,clock,l,e,rfl,_,_⟩
  ·cases e
   have h: ∀ d:Nat,(Op.equalIn (d+1) t (.map none) (.map none)).run P w= .ok true w:=fun d=>by simp [Op.equalIn,run_underlying ht]
   simp only [binOp]
   simp [Op.equal,Op.maxDepth,h 9999]
  ·cases e
   have h: ∀ d:Nat,(Op.equalIn (d+1) t (.map (some b)) (.map none)).run P w= .ok false w:=fun d=>by simp [Op.equalIn,run_underlying ht]
   simp only [binOp]
   simp [Op.equal,Op.maxDepth,h 9999])
theorem JJ {x y:Operand} {t t' kt et:TypeId} (ht:P.underlying t=some (.map kt et)) (hx:Opd E g x (.map none)) (hy:Opd E g y (.map none)):
  Run P E g ⟨dst,.binOp .eql t x y t',ty,pos,af,gd⟩ w (.bool true):=CI (κ:=Unit) (ν:=Unit) (ke:=fun _=>undef) (vi:=fun _=>undef) (dd:=none) ht hx hy (.inl ⟨rfl,rfl⟩)
theorem J6 {x y:Operand} {t t' kt et:TypeId} (ht:P.underlying t=some (.map kt et)) (hx:Opd E g x (.map none)) (hy:Opd E g y (.map none)):
  Run P E g ⟨dst,.binOp .neq t x y t',ty,pos,af,gd⟩ w (.bool false):=Dj (κ:=Unit) (ν:=Unit) (ke:=fun _=>undef) (vi:=fun _=>undef) (dd:=none) ht hx hy (.inl ⟨rfl,rfl⟩)
theorem Jc {x:Operand} {s d e e':TypeId} {b n bytes:Nat} {z:Value} {vs:List Value} (hs:P.underlying s=some (.pointer e)) (hd:P.underlying d=some .unsafePointer) (hti:TI P e n bytes z) (hn:Nat.blt 0 n=true)
  (hx:Opd E g x (.pointer (some ⟨b,0,none⟩))) (hb:cG w b e' vs) (hv:Nat.blt 0 vs.length=true):Run P E g ⟨dst,.convert s d x,ty,pos,af,gd⟩ w (.pointer (some ⟨b,0,none⟩)):=
 fun n' a hf hg=>by
  obtain ⟨j,hj,hjs,_⟩:=hti.out
  have hsh:w.shape? b=some (e',vs.toArray.size):=by unfold World.shape?;rw [show w.heap[b]? =_ from hb]
  have h0:0<n:=by simpa using hn
  have h1:0<vs.length:=by simpa using hv
  have:=Lib.run_to_unsafe (P:=P) w (cells:=vs.toArray.size) (⟨b,0,none⟩:Addr) hs hd hj (by omega) hsh (by simpa using h1)
  simp [execOp,hx n' a hf hg,this]
theorem Ei {x:Operand} {s d e e':TypeId} {b n bytes:Nat} {z:Value} {vs:List Value} (hs:P.underlying s=some .unsafePointer) (hd:P.underlying d=some (.pointer e)) (hti:TI P e n bytes z)
  (hx:Opd E g x (.pointer (some ⟨b,0,none⟩))) (hb:cG w b e' vs) (hl:liesAt P P.depth e' (vs.length/P.cellsOf e') 0 e 1=true):Run P E g ⟨dst,.convert s d x,ty,pos,af,gd⟩ w (.pointer (some ⟨b,0,none⟩)):=
 fun n' a hf hg=>by
  obtain ⟨j,hj,hjs,_⟩:=hti.out
  have hsh:w.shape? b=some (e',vs.length):=by unfold World.shape?;rw [show w.heap[b]? =_ from hb];simp
  have:=Lib.run_from_unsafe (P:=P) w (⟨b,0,none⟩:Addr) hs hd hj hsh hl
  simp [execOp,hx n' a hf hg,this]
def VD (P:Program) (f:FuncId):Prop:= ∀ (v:Value) (w:World),(callFunc f #[v]).run P w= .ok (.value v) w
theorem RW {f:FuncId} {x:Operand} {v:Value} {tys:Array TypeId} (hS:VD P f) (hx:Opd E g x v):Run P E g ⟨dst,.call ⟨.value (.func f),#[x],tys⟩,ty,pos,af,gd⟩ w v:=
 fun n' a hf hg=>by
  have:=hS v w
  have e:a.eval (.func f)= .func (.func f) #[] #[]:=rfl
  simp only [execOp,resolve,e,Deferred.ofValue,Sem.run_bind,Sem.run_pure,Result.andThen_ok,invoke]
  simpa [hx n' a hf hg] using this
end
/-! bytes of a string appended -/
theorem Nc (s:Str):Lib.strCells ⟨s.toArray⟩=s.map fun b=>Value.int .u8 (b.toNat:Int):=by simp [Lib.strCells]
theorem x7 {M:Nat→Prop} {w:World}: ∀ s:Str,ARd (RI .u8) M w (Lib.strCells ⟨s.toArray⟩) (bytesOf s):=fun s=>by
 rw [Nc];exact zJ s
theorem dB (s:Str):(bytesOf s).length=s.length:=by simp [bytesOf]
section
variable {P : Program} {w : World} {M : Nat → Prop}
theorem tw (t u ty' e:TypeId) (ht:P.underlying t=some (.slice e)) (hu:P.underlying u=some .string) (hti:TI P e 1 1 (.int .u8 0))
  {v:Value} {xs:List Int} {s:Str} (ho:OSl (RI .u8) e M w v xs) (hM: ∀ b∈blk v,M b) (hroom:aw (xs.length+s.length) 1=true):
  ∃ v' w',(Builtin.append_ #[t,u] ty' #[v,S s]).run P w= .ok v' w'∧Chg (blk v) w w'∧(∀ b∈blk v',b<w'.heap.size∧(b∈blk v∨w.heap.size≤b))∧
   (∀ M',Mv M w M' w'→OSl (RI .u8) e M' w' v' (xs++bytesOf s)):=by
 obtain ⟨i,hi,hsz,hby,hz⟩:=hti.out
 simp only [aw,Bool.and_eq_true,Nat.mul_one] at hroom
 have hb1:=Nat.le_of_ble_eq_true hroom.1
 have hb2:=Nat.le_of_ble_eq_true hroom.2
 have hss:(⟨s.toArray⟩:ByteArray).size=s.length:=iS s
 obtain ⟨cells,hown,hA⟩:=ho
 have hnA:ARd (RI .u8) M w (Lib.strCells ⟨s.toArray⟩) (bytesOf s):=x7 s
 have hA':=hA.append hnA
 have hn1:(RI .u8).n=1:=rfl
 have hcl:cells.length=xs.length:=by have:=hA.1;rw [hn1] at this;omega
 have hsl:(Lib.strCells ⟨s.toArray⟩).length=s.length:=by rw [Lib.strCells_length,hss]
 have hlen:(cells++Lib.strCells ⟨s.toArray⟩).length=(xs++bytesOf s).length*1:=by simp [hcl,hsl,dB]
 have grown: ∀ (old:Nat),old<xs.length+s.length→
   (w.drew.alloc (.cells (cells.toArray++(Lib.strCells ⟨s.toArray⟩).toArray++Builtin.zeroCells (Value.int .u8 0).cells (grownCap w (xs.length+s.length) old e-(xs.length+s.length))) e)).ownsRow 0 e 1
    (.slice (some ⟨w.heap.size,0,none⟩) (xs.length+s.length) (grownCap w (xs.length+s.length) old e)) (xs++bytesOf s).length (cells++Lib.strCells ⟨s.toArray⟩):=by
  intro old hold
  have hge:=grownCap_ge w (xs.length+s.length) old e
  have hcm:grownCap w (xs.length+s.length) old e≤maxLen:=grownCap_le_maxLen w (xs.length+s.length) old e (by simpa [maxLen] using hb2)
  refine ⟨hlen,.inr ⟨w.heap.size,_,_,by simp [dB],Nat.zero_le _,heap_alloc_new w.drew _,by simpa [dB] using hge,hcm,?_,?_⟩⟩
  ·have hz1:(Value.int IntKind.u8 0).cells.size=1:=rfl
   simp only [Array.size_append,List.size_toArray,size_zeroCells,hz1,hcl,hsl]
   omega
  ·simp only [Array.toList_append,List.append_assoc]
   rw [← List.append_assoc,← hlen]
   exact List.take_left
 have hchg: ∀ o C,Chg C w (w.drew.alloc o):=fun o C=>⟨rfl,rfl,rfl,by simp,fun b hb _=>heap_alloc_old w.drew o hb⟩
 have hnew: ∀ (n cap:Nat) (o:Obj),∀ b∈blk (.slice (some ⟨w.heap.size,0,none⟩) n cap),b<(w.drew.alloc o).heap.size∧(b∈blk v∨w.heap.size≤b):=fun n cap o b hb=>by
  have:b=w.heap.size:=by simpa [blk,Value.ownBlock] using hb
  subst this
  exact ⟨by simp,.inr (Nat.le_refl _)⟩
 by_cases hm:s.length=0
 ·have hs0:s=[]:=List.eq_nil_of_length_eq_zero hm
  subst hs0
  refine ⟨v,w,?_,(Ext.refl w).chg _,fun b hb=>⟨(hown.lt b (by simpa [blk] using hb)).2,.inl hb⟩,fun M' m=>⟨cells,by simpa [bytesOf] using hown,by simpa [bytesOf] using hA.mv m⟩⟩
  rcases hown.2 with ⟨rfl,h0⟩ | ⟨g,cap,cur,rfl,_,hg,hcap,hcm,hcs,_⟩
  ·have hf:=Lib.run_firstCells_string (P:=P) w 1 ⟨#[]⟩
   have e0:(⟨#[]⟩:ByteArray).size=0:=rfl
   rw [e0] at hf
   simp [S,Builtin.append_,run_underlying ht,run_underlying hu,sizeOf,typeInfo,hi,hsz,Builtin.lenOf,hf,ByteArray.size]
  ·have hf:=Lib.run_firstCells_string (P:=P) w 1 ⟨#[]⟩
   have e0:(⟨#[]⟩:ByteArray).size=0:=rfl
   rw [e0] at hf
   simp [S,Builtin.append_,run_underlying ht,run_underlying hu,sizeOf,typeInfo,hi,hsz,Builtin.lenOf,hf,ByteArray.size,storeCells,Lib.strCells,hcap]
 ·rcases hown.2 with ⟨rfl,h0⟩ | ⟨g,cap,cur,rfl,_,hg,hcap,hcm,hcs,htake⟩
  ·have hx0:xs=[]:=List.eq_nil_of_length_eq_zero h0
   subst hx0
   have hc0:cells=[]:=List.eq_nil_of_length_eq_zero (by simpa using hcl)
   subst hc0
   have hr:=run_append_nil_string (P:=P) w t u ty' e i (.int .u8 0) ht hu hi hz ⟨s.toArray⟩ (by rw [hss];omega) (by rw [hss];simp at hb2;omega) (by rw [hss,hby];simp at hb1;omega)
   have hgr:=grown 0 (by simp;omega)
   have e1:((⟨s.toArray⟩:ByteArray).data.map fun b=>Value.int .u8 b.toNat)=(Lib.strCells ⟨s.toArray⟩).toArray:=by
    apply Array.ext';simp [Lib.strCells]
   rw [e1,hss] at hr
   simp only [List.length_nil,Nat.zero_add,List.nil_append,Array.empty_append] at hgr
   exact ⟨_,_,hr,hchg _ _,hnew _ _ _,fun M' m=>⟨_,by simpa [hn1] using hgr,by simpa using hnA.mv m⟩⟩
  ·by_cases hroom':xs.length+s.length≤cap
   ·have hcs':cur.size=cap:=by simpa [hn1] using hcs
    have hr:=Lib.run_append_room_string (P:=P) w t u ty' e i ht hu hi hsz g xs.length cap cur hg ⟨s.toArray⟩ (by rw [hss];exact hroom') (by rw [hss,hcs'];exact hroom')
    refine ⟨_,_,hr,⟨rfl,rfl,rfl,by simp,fun b hb hbg=>setRow_other w g b _ (by simpa [blk,Value.ownBlock] using hbg)⟩,fun b hb=> ?_,fun M' m=>⟨cells++Lib.strCells ⟨s.toArray⟩,⟨hlen,.inr ⟨g,cap,_,by simp [dB,hss],Nat.zero_le _,setRow_heap w g cur _ e _ hg,by simpa [dB] using hroom',hcm,?_,?_⟩⟩,hA'.mv m⟩⟩
    ·have:b=g:=by simpa [blk,Value.ownBlock] using hb
     subst this
     exact ⟨by simpa using (Array.getElem?_eq_some_iff.1 hg).1,.inl (by simp [blk,Value.ownBlock])⟩
    ·simp only [List.size_toArray,List.length_append,List.length_take,List.length_drop,Array.length_toList,hsl,hss,hn1]
     omega
    ·have ht':cur.toList.take xs.length=cells:=by simpa [hn1] using htake
     have e: ∀ (l:List Value),l.toArray.toList=l:=fun l=>by simp
     rw [e,ht',hn1,← hlen]
     exact List.take_left
   ·have holds: ∀ j x,cells[j]? =some x→w.cell? ((⟨g,0,none⟩:Addr).add j)=some x:=hown.cells (g:=g) rfl
    have hr:=Lib.run_append_grow_string (P:=P) w t u ty' e i (.int .u8 0) ht hu hi hz ⟨g,0,none⟩ xs.length cap cells (by rw [hsz];omega) holds ⟨s.toArray⟩ (by rw [hss];omega) (by rw [hss];omega)
     (by rw [hss,hby];exact growslice_fits (by omega) (by omega))
    have hgr:=grown cap (by omega)
    rw [hss] at hr
    exact ⟨_,_,hr,hchg _ _,hnew _ _ _,fun M' m=>⟨_,by simpa [hn1] using hgr,hA'.mv m⟩⟩
theorem AK (t u ty' e:TypeId) (ht:P.underlying t=some (.slice e)) (hu:P.underlying u=some .string) (hti:TI P e 1 1 (.int .u8 0))
  {a0:Option Addr} {s:Str} (hroom:aw s.length 1=true):
  ((Builtin.append_ #[t,u] ty' #[.slice a0 0 0,S s]).run P w= .ok (.slice a0 0 0) w∧s=[])∨
  ∃ v' w',(Builtin.append_ #[t,u] ty' #[.slice a0 0 0,S s]).run P w= .ok v' w'∧Ext w w'∧(∀ b∈blk v',b<w'.heap.size∧w.heap.size≤b)∧(∀ M',Mv M w M' w'→OSl (RI .u8) e M' w' v' (bytesOf s)):=by
 obtain ⟨i,hi,hsz,hby,hz⟩:=hti.out
 by_cases hm:s=[]
 ·subst hm
  refine .inl ⟨?_,rfl⟩
  have hf:=Lib.run_firstCells_string (P:=P) w 1 ⟨#[]⟩
  have e0:(⟨#[]⟩:ByteArray).size=0:=rfl
  rw [e0] at hf
  cases a0 <;> simp [S,Builtin.append_,run_underlying ht,run_underlying hu,sizeOf,typeInfo,hi,hsz,Builtin.lenOf,hf,ByteArray.size,storeCells,Lib.strCells]
 ·refine .inr ?_
  cases a0 with
  | none=>
   obtain ⟨v',w',hr,hC,hR,hO⟩:=tw (M:=M) (w:=w) t u ty' e ht hu hti (OSl.nil) (s:=s) (fun b hb=>by simp [blk,Value.ownBlock] at hb) (by simpa using hroom)
   refine ⟨v',w',hr,⟨hC.os,hC.tape,hC.output,hC.size,fun b hb=>hC.block b hb (by simp [blk,Value.ownBlock])⟩,fun b hb=>⟨(hR b hb).1,?_⟩,fun M' m=>by simpa using hO M' m⟩
   rcases (hR b hb).2 with h | h
   ·simp [blk,Value.ownBlock] at h
   ·exact h
  | some ad=>
   have hss:(⟨s.toArray⟩:ByteArray).size=s.length:=iS s
   simp only [aw,Bool.and_eq_true,Nat.mul_one] at hroom
   have hb1:=Nat.le_of_ble_eq_true hroom.1
   have hb2:=Nat.le_of_ble_eq_true hroom.2
   have h0:0<s.length:=List.length_pos_iff.2 hm
   have hr:=Lib.run_append_grow_string (P:=P) w t u ty' e i (.int .u8 0) ht hu hi hz ad 0 0 [] (by simp) (by intro j v hj;simp at hj) ⟨s.toArray⟩ (by rw [hss];omega) (by rw [hss];omega) (by rw [hss,hby];exact growslice_fits (by omega) (by omega))
   rw [hss] at hr
   simp only [Nat.zero_add] at hr
   have hr2:(Builtin.append_ #[t,u] ty' #[.slice (some ad) 0 0,S s]).run P w=_:=hr
   have hge:=grownCap_ge w s.length 0 e
   have hcm:grownCap w s.length 0 e≤maxLen:=grownCap_le_maxLen w s.length 0 e (by simpa [maxLen] using hb2)
   have hsl:(Lib.strCells ⟨s.toArray⟩).length=s.length:=by rw [Lib.strCells_length,hss]
   refine ⟨_,_,hr2,⟨rfl,rfl,rfl,by simp,fun b hb=>heap_alloc_old w.drew _ hb⟩,fun b hb=> ?_,fun M' m=>⟨Lib.strCells ⟨s.toArray⟩,⟨by simp [hsl,dB,RI],.inr ⟨w.heap.size,_,_,by simp [dB],Nat.zero_le _,heap_alloc_new w.drew _,by simpa [dB] using hge,hcm,?_,?_⟩⟩,(x7 s)⟩⟩
   ·have:b=w.heap.size:=by simpa [blk,Value.ownBlock] using hb
    subst this
    exact ⟨by simp,Nat.le_refl _⟩
   ·have hz1:(Value.int IntKind.u8 0).cells.size=1:=rfl
    simp only [Array.size_append,List.size_toArray,size_zeroCells,hz1,hsl,List.length_nil]
    show _=_*1
    omega
   ·have e1:(bytesOf s).length*(RI .u8).n=(Lib.strCells ⟨s.toArray⟩).length:=by simp [dB,hsl,RI]
    rw [e1]
    simp
end
section
variable {P : Program} {ρ : Option Nat} {Q : aI} {n : Nat} {D : List Deferred} {E : Env} {w : World} {ops : Array Oper} {rest : List Oper} {Γ : Ctx} {i : Nat}
variable {d : Tmp} {ty : TypeId} {pos : String} {af : Array Edge}
/-! the bytes taken for a string -/
def Roomy (v:Value):Prop:= ∃ g len cap,v= .slice (some ⟨g,0,none⟩) len (cap+1)
theorem Oj {g:Bool} {dst:Option Tmp} {gd:Option (Nat×Bool)} {x:Operand} {v:SLV} {ts:Array TypeId} (hx:Opd E g x (sl v)) (hv:g=true→Roomy (sl v)):Run P E g ⟨dst,.call ⟨.builtin .unsafeSliceData,#[x],ts⟩,ty,pos,af,gd⟩ w (.pointer v.1):=
 fun n a hf hg=>by
  obtain ⟨b,len,cap,e⟩:=hv hg
  obtain ⟨v1,v2,v3⟩:=v
  simp only [sl,Value.slice.injEq] at e
  obtain ⟨rfl,rfl,rfl⟩:=e
  have:=Lib.run_unsafeSliceData_row (P:=P) w ts ty ⟨b,0,none⟩ v2 (cap+1) (by omega)
  simp [execOp,resolve,invoke,builtin,hx n a hf hg,sl,this]
theorem vK {P:Program} {w:World}: ∀ (l:List Int) (a:Addr) (acc:ByteArray),(∀ (j:Nat) (x:Int),l[j]? =some x→w.cell? (a.add j)=some (.int .u8 x))→
  (loadBytes a acc l.length).run P w= .ok ⟨acc.data++(strOf l).toArray⟩ w
 | [],a,acc,_=>by simp [loadBytes,strOf]
 | x::l,a,acc,h=>by
  have h0:w.cell? a=some (.int .u8 x):=by
   have:=h 0 x rfl
   simpa [Addr.add] using this
  have ih:=vK (P:=P) l (a.add 1) (acc.push (UInt8.ofNat x.toNat)) (fun j y hy=>by
   have:=h (j+1) y (by simpa using hy)
   have e:(a.add 1).add j=a.add (j+1):=by
    unfold Addr.add
    by_cases hj:j=0
    ·subst hj;simp
    ·simp [hj];omega
   rw [e];exact this)
  simp only [List.length_cons,loadBytes,Sem.run_bind,run_load,h0,Result.andThen]
  have e2:(x.toNat).toUInt8=UInt8.ofNat x.toNat:=rfl
  rw [e2,ih]
  congr 1
  apply ByteArray.ext
  simp [ByteArray.push,strOf]
end
end Go.Proofs.YtgcgmclghbebjaaGreat
namespace Go.Proofs.YtgcgmclghbebjaaGreat
open Go.Lib
theorem O {E:Env} {g:Bool} {t:Tmp} {v:Value} (h:look E t=some (true,v)):Opd E g (.tmp t) v:=Opd.t h
section
variable {P : Program} {ρ : Option Nat} {Q : aI} {n : Nat} {D : List Deferred} {E : Env} {w : World} {ops : Array Oper} {rest : List Oper}
theorem Wo {o:Oper} {d:Tmp} {v:Value} (hr:Run P E true o w v) (hq:(eO o,o.guard,o.dst,Nat.blt d n)=(true,none,some d,true))
  (h:WL P ρ ops Q n D rest ((d,true,v)::E) w):WL P ρ ops Q n D (o::rest) E w:=
 ay hr (congrArg (·.1) hq) (congrArg (·.2.1) hq) (congrArg (·.2.2.1) hq) (congrArg (·.2.2.2) hq) h
end
theorem Sat.m (Γ:Ctx) {Δ:Ctx} {w:World} (h:Sat Δ w) (e:Δ=Γ):Sat Γ w:=e▸h
end Go.Proofs.YtgcgmclghbebjaaGreat
namespace Go.Proofs.YtgcgmclghbebjaaGreat
open Go.Lib
/-! models of functions that may panic -/
def Al {E A B:Type} (m:Option (Except E A)) (k:A→Option (Except E B)):Option (Except E B):=m.bind fun a=>match a with
 | .error p=>some (.error p)
 | .ok x=>k x
def GH {E A B:Type} (m:Option (Except E A)) (kp:E→Option B) (k:A→Option B):Option B:=m.bind fun a=>match a with
 | .error p=>kp p
 | .ok x=>k x
theorem Lq {E A B:Type} {m:Option (Except E A)} {kp:E→Option B} {k:A→Option B} {r:B} (h:GH m kp k=some r):(∃ p,m=some (.error p)∧kp p=some r)∨ ∃ x,m=some (.ok x)∧k x=some r:=by
 cases m with
 | none=>cases h
 | some a=>
  cases a with
  | error p=>exact .inl ⟨p,rfl,h⟩
  | ok x=>exact .inr ⟨x,rfl,h⟩
abbrev pan (v:Value):List PanicEntry:=[{ v:=v,recovered:=false }]
abbrev CallsE (P:Program) (f:FuncId) (args:List Value) (w:World) {E A:Type} (r:Except E A) (enc:E→Value) (Φ:Ctx) (S:A→Value→World→Prop):Prop:=
 gO P f args w (fun v w'=> ∃ x,r= .ok x∧S x v w') (fun ps w'=> ∃ p,r= .error p∧ps=pan (enc p)∧Sat Φ w')
section
variable {P : Program} {ρ : Option Nat} {Q : aI} {n : Nat} {D : List Deferred} {E : Env} {w : World} {ops : Array Oper} {rest : List Oper} {Φ : Ctx}
theorem Rh {x:Operand} {t:TypeId} {v:Value} {dst:Option Tmp} {ty:TypeId} {pos:String} {af:Array Edge} (hx:Opd E true x (.iface t v))
  (h:At Q (.panic (pan (.iface t v))) n D E w):WL P ρ ops Q n D (⟨dst,.panic x,ty,pos,af,none⟩::rest) E w:=fun a hf hD=>
 wpListIn_plain rfl fun K hK=>fP rfl (by
  have e:(execOp a.eval (⟨dst,.panic x,ty,pos,af,none⟩:Oper)).run P w= .halt (.panic (.iface t v)) w:=by
   simp only [execOp,hx n a hf rfl]
   rfl
  rw [e]
  exact h a hf hD)
theorem SF {fn:Func} {S:Value→World→Prop} {Sp:List PanicEntry→World→Prop} {ps:List PanicEntry} (h:Sp ps w):AtP (BP P fn S Sp) ps [] w:=fun a hd=>by
 show LeavesInM _ _ _ _ _ _ a.defers _ _
 rw [hd]
 exact h
variable {g : Bool} {dst : Option Tmp} {ty : TypeId} {pos : String} {af : Array Edge} {gd : Option (Nat × Bool)}
theorem Gw {x:Operand} {v:Value} {s t:TypeId} {dd:TypeDesc} (ht:P.underlying t=some dd) (hd:fk dd=false) (hx:Opd E g x (.iface t v)):Run P E g ⟨dst,.typeAssert x s t true,ty,pos,af,gd⟩ w (.tuple #[v,.bool true]):=
 fun n a hf hg=>by
  simp only [execOp,hx n a hf hg,Instr.typeAssert,Sem.run_bind,run_underlying ht,Result.andThen_ok]
  cases dd <;> first | (dsimp only;rw [if_pos rfl];rfl) | (simp [fk] at hd)
theorem FY {x:Operand} {z:Value} {s t:TypeId} {size bytes:Nat} {dd:TypeDesc} (ht:P.underlying t=some dd) (hd:fk dd=false) (hz:TI P t size bytes z) (hx:Opd E g x .nilIface):Run P E g ⟨dst,.typeAssert x s t true,ty,pos,af,gd⟩ w (.tuple #[z,.bool false]):=
 fun n a hf hg=>by
  simp only [execOp,hx n a hf hg,Instr.typeAssert,Sem.run_bind,run_underlying ht,Result.andThen_ok]
  cases dd <;> first | (simp [fk] at hd;done) | (simp only [Sem.run_bind,hz.zero w,Result.andThen_ok,if_true];rfl)
/-! a deferred call -/
def zF (P:Program) (f:FuncId) (args:List Value) (u:FrameMode) (w:World) (R:FrameMode→World→Prop):Prop:=
 CallsDIn (FW none) 0 P f args.toArray u w fun e u' w'=>e= .returned (.tuple #[])∧R u' w'
abbrev dfr (f:FuncId) (cap:List Value):Deferred:={ target:= .fn (.func f) cap.toArray,args:= #[] }
theorem Qv {f:FuncId} {fo:Operand} {cap:List Value} {tys:Array TypeId} {ty:TypeId} {pos:String} {af:Array Edge} (hfo:Opd E true fo (.func (.func f) #[] cap.toArray))
  (h:WL P none ops Q n (dfr f cap::D) rest E w):WL P none ops Q n D (⟨none,.defer ⟨.value fo,#[],tys⟩,ty,pos,af,none⟩::rest) E w:=fun a hf hD=>
 wpListIn_plain rfl fun K hK=>by
  refine ⟨fun _ _=>trivial,?_⟩
  have e:((⟨none,.defer ⟨.value fo,#[],tys⟩,ty,pos,af,none⟩:Oper).semAt (FW none).round a.eval).run P w= .ok (.defer (dfr f cap)) w:=by
   show (execOp a.eval (⟨none,.defer ⟨.value fo,#[],tys⟩,ty,pos,af,none⟩:Oper)).run P w=_
   simp only [execOp,resolve,hfo n a hf rfl,Deferred.ofValue,Sem.run_bind,Sem.run_pure,Result.andThen_ok]
   rw [show (#[]++Array.map a.eval #[]:Array Value)= #[] by simp]
  rw [e,Oper.uponIn_defer]
  refine hK _ _ (h _ ⟨hf.size,hf.at_⟩ ?_)
  show dfr f cap::a.defers=_
  rw [hD]
theorem Bg {a:Act} (h:Fits n E a) (ds:List Deferred):Fits n E { a with defers:=ds }:=⟨h.size,h.at_⟩
theorem Dx {fn:Func} {f:FuncId} {cap:List Value} {tmps:Array Value} {R:Ending→World→Prop} {u:FrameMode} {ds:List Deferred} (hu:u≠ .run) (he:cV P f)
  (hc:zF P f cap u w fun u' w'=>LeavesInM (FW none) 0 P fn tmps R ds (settle u') w'):LeavesInM (FW none) 0 P fn tmps R (dfr f cap::ds) u w:=by
 refine ⟨hu,.inr ⟨rX,.func f,cap.toArray,f,cap.toArray,rfl,?_,fun _ _=>trivial,?_⟩⟩
 ·have:=he cap.toArray w
  simpa [dfr,invoke] using this
 ·refine CallsDIn.mono hc fun e u' w' h=> ?_
  obtain ⟨rfl,h⟩:=h
  exact h
theorem Pn {fn:Func} {S:Value→World→Prop} {Sp:List PanicEntry→World→Prop} {f:FuncId} {cap:List Value} {T:World→Prop} (he:cV P f)
  (hc:zF P f cap .returning w fun u' w'=>u'= .returning∧T w') (h: ∀ w',T w'→At (BP P fn S Sp) .ret n [] E w'):At (BP P fn S Sp) .ret n [dfr f cap] E w:=fun a hf hd=>by
 show LeavesInM _ _ _ _ _ _ a.defers _ _
 rw [hd]
 refine Dx (by simp) he (CallsDIn.mono hc fun e u' w' hx=> ?_)
 obtain ⟨he',rfl,hT⟩:=hx
 exact ⟨he',h w' hT { a with defers:=[] } (Bg hf []) rfl⟩
theorem TV {fn:Func} {S:Value→World→Prop} {Sp:List PanicEntry→World→Prop} {f:FuncId} {cap:List Value} {T:World→Prop} {v:Value} (he:cV P f)
  (hc:zF P f cap (.panicking (pan v)) w fun u' w'=>u'= .panicking [{ v:=v,recovered:=true }]∧T w') (h: ∀ w',T w'→At (BP P fn S Sp) .ret n [] E w'):At (BP P fn S Sp) (.panic (pan v)) n [dfr f cap] E w:=fun a hf hd=>by
 show LeavesInM _ _ _ _ _ _ a.defers _ _
 rw [hd]
 refine Dx (by simp) he (CallsDIn.mono hc fun e u' w' hx=> ?_)
 obtain ⟨he',rfl,hT⟩:=hx
 exact ⟨he',h w' hT { a with defers:=[] } (Bg hf []) rfl⟩
/-! the closure -/
def QB (T:World→Prop):aI:=fun e a w=>match e with
 | .normal=>a.defers=[]∧T w
 | .ret=>a.defers=[]∧T w
 | _=>False
theorem V3 {T:World→Prop} (h:T w):At (QB T) .normal n [] E w:=fun _ _ hd=>⟨hd,h⟩
theorem Vx {T:World→Prop} (h:T w):At (QB T) .ret n [] E w:=fun _ _ hd=>⟨hd,h⟩
def GO (o:Oper):Bool:=match o.op with
 | .move _=>true
 | .assign _=>true
 | .alloc _=>true
 | .extract _ _=>true
 | .store _ _ _=>true
 | .typeAssert _ _ _ _=>true
 | .binOp .neq _ _ _ _=>true
 | _=>false
def Ja:Result Next→Prop
 | .ok (.value _) _=>True
 | .ok .skip _=>True
 | .halt _ _=>True
 | _=>False
theorem VG {m:Sem Value} {w:World}:Ja ((do pure (Next.value (← m)):Sem Next).run P w):=by
 rw [Sem.run_bind]
 cases m.run P w <;> trivial
theorem UH {m:Sem Unit} {w:World}:Ja ((do m;pure Next.skip:Sem Next).run P w):=by
 rw [Sem.run_bind]
 cases m.run P w <;> trivial
theorem PO {o:Oper} (h:GO o=true) (ev:Operand→Value) (w:World):Ja ((execOp ev o).run P w):=by
 obtain ⟨dst,op,ty,pos,af,g⟩:=o
 cases op <;> first | (cases h;done) | exact VG | exact UH | trivial
theorem I7 {ops:Array Oper} {Q':aI} {QS:Exit→Act→List Frame→World→Prop} {cs:List Frame} (hQ: ∀ e a w,Q' e a w→QS e a cs w): ∀ (l:List Oper) (k:Nat),l.all GO=true→(∀ j,l[j]? =ops[k+j]?)→ ∀ (a:Act) (w:World),wpListIn (FW none) 0 P ops Q' l a w→
  wpOpsSIn (FW none) 0 P ops QS (List.range' k l.length) a cs w
 | [],k,_,_,a,w,h=>hQ _ _ _ h
 | o::l,k,hc,hk,a,w,h=>by
  have h0:ops[k]? =some o:=by simpa using (hk 0).symm
  rw [List.all_cons,Bool.and_eq_true] at hc
  have ih:=I7 (ops:=ops) hQ l (k+1) hc.2 (fun j=>by have:=hk (j+1);simpa [Nat.add_assoc,Nat.add_comm 1 j] using this)
  rw [List.length_cons,List.range'_succ]
  simp only [wpOpsSIn,h0]
  simp only [wpListIn] at h
  refine ⟨fun _ _=>trivial,?_⟩
  split at h
  ·rename_i hw
   rw [if_pos hw]
   have h2:=h.2
   have hcalm:=PO (P:=P) hc.1 a.eval w
   rw [show (o.semAt (FW none).round a.eval)=execOp a.eval o from rfl] at h2
   generalize (execOp a.eval o).run P w=r at h2 hcalm
   cases r with
   | ok x w'=>
    cases x <;> first | exact hcalm.elim | exact ih _ _ h2
   | halt hh w'=>
    cases hh <;> first | exact hQ _ _ _ h2 | exact h2.elim
  ·rename_i hw
   rw [if_neg hw]
   exact ih _ _ h.2
theorem US {fn:Func} {c₀:Frame} {cs:List Frame} {T:World→Prop} {u':FrameMode} (hres:fn.results= #[]) {e:Exit} {a:Act} {w:World} (h:QB T e a w):
  bodyPostS P fn c₀ cs (fun e u2 w'=>e= .returned (.tuple #[])∧u2=u'∧T w') e a ({ c₀ with mode:=u' }::cs) w:=by
 have hr:(results fn a.tmps).run P w= .ok (.tuple #[]) w:=by
  rw [Cr,hres];simp
 cases e <;> first | exact ⟨h.1,u',rfl,_,hr,rfl,rfl,h.2⟩ | exact h.elim
theorem EG {f:FuncId} {fn:Func} {id:Nat} {ops:Array Oper} {l:List Oper} {y:Code} {d:Tmp} {ty:TypeId} {pos:String} {af:Array Edge} {tys:Array TypeId} {cap:List Value} {u u':FrameMode} {v:Value} {T:World→Prop}
  (hf:P.funcs[f]? =some fn) (hb:fn.body=some (.seq (.region id ops false) y)) (hops:ops.toList=⟨some d,.call ⟨.builtin .recover,#[],tys⟩,ty,pos,af,none⟩::l) (hcalm:l.all GO=true) (hres:fn.results= #[]) (hn:fn.ntmps=n) (hl:Nat.ble cap.length n=true) (hd:Nat.blt d n=true)
  (hu:(u= .returning∧u'= .returning∧v= .nilIface)∨(u= .panicking (pan v)∧u'= .panicking [{ v:=v,recovered:=true }]))
  (h:WL P none ops (Exit.then (y.wpIn (FW none) 0 P (QB T)) (QB T)) n [] l ((d,true,v)::iota 0 cap) w):zF P f cap u w fun u2 w'=>u2=u'∧T w':=by
 refine callsDIn_of_wpSIn hf hb trivial fun c₀ cs hc=> ?_
 have hfits:Fits n (iota 0 cap) { tmps:=cap.toArray++Array.replicate (fn.ntmps-cap.toArray.size) undef,defers:=[] }:=by
  refine ⟨?_,fun t g v ht=> ?_⟩
  ·have:cap.length≤n:=by simpa using hl
   simp [hn];omega
  ·obtain ⟨j,rfl,hv,rfl⟩:=zu cap 0 t g v ht
   have hj:j<cap.length:=by
    rcases Nat.lt_or_ge j cap.length with h | h
    ·exact h
    ·rw [List.getElem?_eq_none h] at hv;cases hv
   simp only [qH,cond_true,Nat.zero_add,Array.getD_eq_getD_getElem?]
   rw [Array.getElem?_append_left (by simpa using hj)]
   simp [hv]
 have hd0:({ tmps:=cap.toArray++Array.replicate (fn.ntmps-cap.toArray.size) undef,defers:=[] }:Act).defers=[]:=rfl
 generalize ({ tmps:=cap.toArray++Array.replicate (fn.ntmps-cap.toArray.size) undef,defers:=[] }:Act)=a0 at hfits hd0
 refine wpSIn_seq (wpSIn_region ?_)
 have hsz:ops.size=l.length+1:=by rw [← Array.length_toList,hops];rfl
 rw [hsz,List.range_eq_range',List.range'_succ]
 have h0:ops[0]? =some ⟨some d,.call ⟨.builtin .recover,#[],tys⟩,ty,pos,af,none⟩:=by
  rw [← Array.getElem?_toList,hops];rfl
 have hj: ∀ j,l[j]? =ops[1+j]? :=fun j=>by
  rw [← Array.getElem?_toList,hops,Nat.add_comm 1 j];rfl
 have hrun:(execOp a0.eval (⟨some d,.call ⟨.builtin .recover,#[],tys⟩,ty,pos,af,none⟩:Oper)).run P w= .ok .recover w:=by
  simp [execOp,resolve,invoke,builtin]
 have hput:Fits n ((d,true,v)::iota 0 cap) (a0.put (some d) v):=hfits.put (g:=true) (v:=v) hd
 have hfin:=I7 (cs:={ c₀ with mode:=u' }::cs) (QS:=Exit.thenS (y.wpSIn (FW none) 0 P (bodyPostS P fn c₀ cs fun e u2 w'=>e= .returned (.tuple #[])∧u2=u'∧T w')) (bodyPostS P fn c₀ cs fun e u2 w'=>e= .returned (.tuple #[])∧u2=u'∧T w'))
  (fun e a w hq=>by
   cases e with
   | normal=>exact wpSIn_of_wpIn rfl (Code.wpIn_mono (fun e a w hq=>US hres hq) hq)
   | exit i=>exact False.elim hq
   | goto i=>exact False.elim hq
   | ret=>exact US (P:=P) (c₀:=c₀) (cs:=cs) (u':=u') (T:=T) (e:= .ret) hres hq
   | panic i=>exact False.elim hq
   | outgrown=>exact False.elim hq) l 1 hcalm hj _ _ (h _ hput hd0)
 simp only [wpOpsSIn,h0]
 refine ⟨fun _ _=>trivial,?_⟩
 rw [if_pos (by simp [Region.wanted]),hrun]
 rcases hu with ⟨h1,h2,h3⟩ | ⟨h1,h2⟩
 ·have hrec:recoverD (c₀::cs)=none:=by simp [recoverD,hc,h1]
  have hce:({ c₀ with mode:=u' }:Frame)=c₀:=by rw [h2,← h1,← hc]
  simp only [hrec]
  rw [hce,h3] at hfin
  exact hfin
 ·have hrec:recoverD (c₀::cs)=some (v,{ c₀ with mode:=u' }::cs):=by simp [recoverD,hc,h1,h2,pan]
  simp only [hrec]
  exact hfin
end
end Go.Proofs.YtgcgmclghbebjaaGreat
namespace Go.Proofs.YtgcgmclghbebjaaGreat
inductive Ex where
 | mk (op n at_:Int) (l:List Ex)
instance:Inhabited Ex:=⟨.mk 0 0 0 []⟩
def Ex.op:Ex→Int
 | .mk o _ _ _=>o
def Ex.n:Ex→Int
 | .mk _ n _ _=>n
def Ex.at_:Ex→Int
 | .mk _ _ a _=>a
def Ex.l:Ex→List Ex
 | .mk _ _ _ l=>l
mutual
def Ex.sz:Ex→Nat
 | .mk _ _ _ l=>szL l+1
def szL:List Ex→Nat
 | []=>0
 | x::r=>Ex.sz x+szL r
end
inductive ox (M:Nat→Prop) (w:World):List Value→Ex→Prop
 | nil (op n a:Int) (ad:Option Addr):ox M w [.int .i64 op,.int .i64 n,.int .i64 a,sl (ad,0,0)] (.mk op n a [])
 | some (op n a:Int) (l:List Ex) (b off cap:Nat) (cs:Array Value) (e:TypeId) (fr:Nat×Nat) (hM: ¬ M b) (hb:w.heap[b]? =some (.cells cs e fr)) (hc:l.length≤cap) (ho:off+cap*4≤cs.size)
   (hl:((cs.toList.drop off).take (l.length*4)).length=l.length*4) (h: ∀ i (hi:i<l.length),ox M w ((((cs.toList.drop off).take (l.length*4)).drop (i*4)).take 4) l[i]):
   ox M w [.int .i64 op,.int .i64 n,.int .i64 a,sl (some ⟨b,off,none⟩,l.length,cap)] (.mk op n a l)
theorem ox.len {M:Nat→Prop} {w:World} {vs:List Value} {x:Ex} (h:ox M w vs x):vs.length=4:=by cases h <;> rfl
theorem ox.mv {M M':Nat→Prop} {w w':World} {vs:List Value} {x:Ex} (h:ox M w vs x) (m:Mv M w M' w'):ox M' w' vs x:=by
 induction h with
 | nil op n a ad=>exact .nil op n a ad
 | some op n a l b off cap cs e fr hM hb hc ho hl _ ih=>
  obtain ⟨h1,h2⟩:=m.2 b (Array.getElem?_eq_some_iff.1 hb).1 hM
  exact .some op n a l b off cap cs e fr h1 (by rw [h2];exact hb) hc ho hl ih
def wF:Rep Ex where
 n:=4
 rd:=ox
 len:=ox.len
 one h:=by cases h <;> simp [Value.oneCell',sl]
 mv:=ox.mv
theorem wE {M:Nat→Prop} {w:World} {vs:List Value} {x:Ex} (h:wF.rd M w vs x): ∃ v:SLV,vs=[(.int .i64 x.op),(.int .i64 x.n),(.int .i64 x.at_),(sl v)]∧SRd wF M w (sl v) x.l:=by
 cases h with
 | nil op n a ad=>exact ⟨_,rfl,.inl ⟨⟨_,rfl⟩,rfl⟩⟩
 | some op n a l b off cap cs e fr hM hb hc ho hl h=>exact ⟨_,rfl,.inr ⟨b,off,cap,cs,e,fr,rfl,hM,hb,hc,ho,hl,h⟩⟩
theorem A8 {M:Nat→Prop} {w:World} {op n a:Int} {v:Value} {l:List Ex} (h:(RSl wF).rd M w [v] l):wF.rd M w [(.int .i64 op),(.int .i64 n),(.int .i64 a),v] (.mk op n a l):=by
 obtain ⟨p,hp,h⟩:=h
 have hv:v=sl p:=by simpa using hp
 subst hv
 rcases h with ⟨⟨ad,h⟩,rfl⟩ | ⟨b,off,cap,cs,e,fr,h,hM,hb,hc,ho,hl,hr⟩
 ·rw [h];exact .nil op n a ad
 ·rw [h];exact .some op n a l b off cap cs e fr hM hb hc ho hl hr
theorem Ex.eta (x:Ex):Ex.mk x.op x.n x.at_ x.l=x:=by cases x;rfl
end Go.Proofs.YtgcgmclghbebjaaGreat
namespace Go.Proofs.YtgcgmclghbebjaaGreat
open Go.Lib
abbrev ifS {α:Type} (c:Bool) (a b:α):α:=match c with
 | true=>a
 | false=>b
inductive Ty where
 | i (k:IntKind)
 | bo
 | s
 | un
 | n
 | p (x y:Ty)
 | l (x:Ty)
 | mp (k v:Ty)
 | ex
 deriving DecidableEq
def Ty.T:Ty→Type
 | .i _=>Int
 | .bo=>Bool
 | .s=>Str
 | .un=>Unit
 | .n=>Nat
 | .p x y=>x.T×y.T
 | .l x=>List x.T
 | .mp k v=>Option (List (k.T×v.T))
 | .ex=>Ex
def RNo (α:Type):Rep α where
 n:=0
 rd _ _ _ _:=False
 len h:=h.elim
 one h:=h.elim
 mv h _:=h.elim
def RIf:Rep Nat where
 n:=1
 rd _ _ vs x:=vs=[.iface x (.agg #[])]
 len h:=by rw [h];rfl
 one h:=by rw [h];simp [Value.oneCell']
 mv h _:=h
def Ty.rep:(t:Ty)→Rep t.T
 | .i k=>RI k
 | .bo=>RB
 | .s=>RS
 | .un=>RU
 | .n=>RIf
 | .p x y=>RP x.rep y.rep
 | .l x=>RSl x.rep
 | .mp _ _=>RNo _
 | .ex=>wF
structure Dyn where
 t:Ty
 x:t.T
def Dyn.as (t:Ty) (d:Dyn):Option t.T:=if h:d.t=t then some (h▸d.x) else none
theorem Dyn.Ar {t:Ty} {d:Dyn} {x:t.T} (h:d.as t=some x):d=⟨t,x⟩:=by
 unfold Dyn.as at h
 split at h
 ·rename_i e
  obtain ⟨t',y⟩:=d
  simp only at e
  subst e
  cases h;rfl
 ·cases h
theorem Dyn.S6 {t:Ty} {x:t.T}:Dyn.as t ⟨t,x⟩=some x:=by simp [Dyn.as]
inductive AV where
 | int (k:IntKind) (x:Int)
 | bool (x:Bool)
 | str (x:Str)
 | agg (l:List AV)
 | tuple (l:List AV)
 | ptr (id off:Nat)
 | sl (id:Nat)
 | adr (id off:Nat)
 | fn (f:FuncId) (a b:List AV)
 | ifc (t:TypeId) (v:AV)
 | mp (id:Nat)
 | gp (b:Nat)
 | nv (id:Nat)
 | sfp (id:Nat) (f:Bool)
 | raw (v:Value)
structure Nm where
 b:Nat
 v:SLV
 a:Addr
 m:Option Nat
 x:Value
 y:Dyn
abbrev Nms:=Nat→Nm
def nm0:Nm:=⟨0,(none,0,0),⟨0,0,none⟩,none,.bool false,⟨.un,()⟩⟩
mutual
def AV.val (ρ:Nms):AV→Value
 | .int k x=> .int k x
 | .bool x=> .bool x
 | .str x=>S x
 | .agg l=> .agg (AV.ah ρ l).toArray
 | .tuple l=> .tuple (AV.ah ρ l).toArray
 | .ptr id off=> .pointer (some ⟨(ρ id).b,off,none⟩)
 | .sl id=>Go.Proofs.YtgcgmclghbebjaaGreat.sl (ρ id).v
 | .adr id off=> .pointer (some ((ρ id).a.add off))
 | .fn f a b=> .func (.func f) (AV.ah ρ a).toArray (AV.ah ρ b).toArray
 | .ifc t v=> .iface t (v.val ρ)
 | .mp id=> .map (ρ id).m
 | .gp b=> .pointer (some ⟨b,0,none⟩)
 | .nv id=>(ρ id).x
 | .sfp id f=>qV f (ρ id).b
 | .raw v=>v
def AV.ah (ρ:Nms):List AV→List Value
 | []=>[]
 | v::l=>v.val ρ::AV.ah ρ l
end
mutual
def AV.low (c:Nat):AV→Bool
 | .agg l | .tuple l=>AV.bh c l
 | .fn _ a b=>AV.bh c a&&AV.bh c b
 | .ifc _ v=>v.low c
 | .ptr id _ | .sl id | .adr id _ | .mp id | .nv id | .sfp id _=>Nat.blt id c
 | _=>true
def AV.bh (c:Nat):List AV→Bool
 | []=>true
 | v::l=>v.low c&&AV.bh c l
end
def aA (c:Nat) (ρ ρ':Nms):Prop:= ∀ j,j<c→ρ' j=ρ j
theorem aA.refl {c:Nat} {ρ:Nms}:aA c ρ ρ:=fun _ _=>rfl
theorem aA.trans {c d:Nat} {a b e:Nms} (h:aA c a b) (k:aA d b e) (hcd:c≤d):aA c a e:=fun j hj=>(k j (Nat.lt_of_lt_of_le hj hcd)).trans (h j hj)
theorem aA.less {c d:Nat} {a b:Nms} (h:aA d a b) (hcd:c≤d):aA c a b:=fun j hj=>h j (Nat.lt_of_lt_of_le hj hcd)
mutual
theorem AV.iO {ρ ρ':Nms} {c:Nat} (ha:aA c ρ ρ'):(v:AV)→v.low c=true→v.val ρ'=v.val ρ
 | .int _ _,_ | .bool _,_ | .str _,_ | .raw _,_ | .gp _,_=>by simp only [AV.val]
 | .agg l,h=>by simp only [AV.val];rw [AV.bc ha l (by simpa only [AV.low] using h)]
 | .tuple l,h=>by simp only [AV.val];rw [AV.bc ha l (by simpa only [AV.low] using h)]
 | .fn _ a b,h=>by
  simp only [AV.low,Bool.and_eq_true] at h
  simp only [AV.val];rw [AV.bc ha a h.1,AV.bc ha b h.2]
 | .ifc _ v,h=>by simp only [AV.val];rw [AV.iO ha v (by simpa only [AV.low] using h)]
 | .ptr _ _,h=>by simp only [AV.val];rw [ha _ (by simpa only [AV.low,Nat.blt_eq] using h)]
 | .sl _,h=>by simp only [AV.val];rw [ha _ (by simpa only [AV.low,Nat.blt_eq] using h)]
 | .adr _ _,h=>by simp only [AV.val];rw [ha _ (by simpa only [AV.low,Nat.blt_eq] using h)]
 | .mp _,h=>by simp only [AV.val];rw [ha _ (by simpa only [AV.low,Nat.blt_eq] using h)]
 | .nv _,h=>by simp only [AV.val];rw [ha _ (by simpa only [AV.low,Nat.blt_eq] using h)]
 | .sfp _ _,h=>by simp only [AV.val];rw [ha _ (by simpa only [AV.low,Nat.blt_eq] using h)]
theorem AV.bc {ρ ρ':Nms} {c:Nat} (ha:aA c ρ ρ'):(l:List AV)→AV.bh c l=true→AV.ah ρ' l=AV.ah ρ l
 | [],_=>by simp only [AV.ah]
 | v::l,h=>by
  simp only [AV.bh,Bool.and_eq_true] at h
  simp only [AV.ah]
  rw [AV.iO ha v h.1,AV.bc ha l h.2]
end
mutual
theorem AV.dH {c d:Nat} (hcd:c≤d):(v:AV)→v.low c=true→v.low d=true
 | .int _ _,_ | .bool _,_ | .str _,_ | .raw _,_ | .gp _,_=>by simp only [AV.low]
 | .agg l,h=>by simp only [AV.low] at h ⊢; exact AV.gG hcd l h
 | .tuple l,h=>by simp only [AV.low] at h ⊢; exact AV.gG hcd l h
 | .fn _ a b,h=>by simp only [AV.low,Bool.and_eq_true] at h ⊢; exact ⟨AV.gG hcd a h.1,AV.gG hcd b h.2⟩
 | .ifc _ v,h=>by simp only [AV.low] at h ⊢; exact AV.dH hcd v h
 | .ptr _ _,h=>by simp only [AV.low,Nat.blt_eq] at h ⊢; omega
 | .sl _,h=>by simp only [AV.low,Nat.blt_eq] at h ⊢; omega
 | .adr _ _,h=>by simp only [AV.low,Nat.blt_eq] at h ⊢; omega
 | .mp _,h=>by simp only [AV.low,Nat.blt_eq] at h ⊢; omega
 | .nv _,h=>by simp only [AV.low,Nat.blt_eq] at h ⊢; omega
 | .sfp _ _,h=>by simp only [AV.low,Nat.blt_eq] at h ⊢; omega
theorem AV.gG {c d:Nat} (hcd:c≤d):(l:List AV)→AV.bh c l=true→AV.bh d l=true
 | [],_=>by simp only [AV.bh]
 | v::l,h=>by
  simp only [AV.bh,Bool.and_eq_true] at h ⊢
  exact ⟨AV.dH hcd v h.1,AV.gG hcd l h.2⟩
end
theorem Ba {c:Nat}:{l m:List AV}→AV.bh c l=true→AV.bh c m=true→AV.bh c (l++m)=true
 | [],m,_,h=>h
 | v::l,m,h,k=>by
  simp only [List.cons_append,AV.bh,Bool.and_eq_true] at h ⊢
  exact ⟨h.1,Ba h.2 k⟩
theorem AV.HB {ρ:Nms} {l:List AV} {i:Nat} {v:AV} (h:l[i]? =some v):(AV.ah ρ l)[i]? =some (v.val ρ):=by
 induction l generalizing i with
 | nil=>simp at h
 | cons u l ih=>
  cases i with
  | zero=>simp at h;subst h;simp [AV.ah]
  | succ i=>simp only [AV.ah,List.getElem?_cons_succ] at h ⊢; exact ih h
theorem AV.eZ {ρ:Nms}:{l:List AV}→{k:Nat}→AV.ah ρ (l.drop k)=(AV.ah ρ l).drop k
 | l,0=>by simp
 | [],k+1=>by simp [AV.ah]
 | v::l,k+1=>by simp only [AV.ah,List.drop_succ_cons];exact AV.eZ
theorem AV.gH {ρ:Nms}:{l:List AV}→{k:Nat}→AV.ah ρ (l.take k)=(AV.ah ρ l).take k
 | l,0=>by simp [AV.ah]
 | [],k+1=>by simp [AV.ah]
 | v::l,k+1=>by simp only [AV.ah,List.take_succ_cons];rw [AV.gH]
theorem AV.aH {ρ:Nms}:{l:List AV}→(AV.ah ρ l).length=l.length
 | []=>by simp [AV.ah]
 | v::l=>by simp [AV.ah,AV.aH]
theorem bK {ρ:Nms}:{l m:List AV}→AV.ah ρ (l++m)=AV.ah ρ l++AV.ah ρ m
 | [],m=>by simp [AV.ah]
 | v::l,m=>by simp only [List.cons_append,AV.ah];rw [bK]
abbrev GK:=Option (Nat×Bool)
inductive Row where
 | box (id:Nat) (t:TypeId) (vs:List AV)
 | sli (g:GK) (id:Nat) (t:Ty) (l:List t.T) (clip:Bool)
 | own (id:Nat) (t:Ty) (e:TypeId) (l:List t.T) (ver:Nat)
 | kn (g:GK) (q id ver:Nat) (t:Ty) (i:Int) (x:t.T)
 | elm (g:GK) (id:Nat) (vs:List AV)
 | mp (id:Nat) (k v:Ty) (d:Option (List (k.T×v.T)))
 | it (id:Nat) (s:Str) (p:Nat)
 | eq (id:Nat) (v:AV)
 | gone
inductive Pt where
 | int (k:IntKind) | bool | str
 | sli (t:Ty)
 | own (t:Ty) (e:TypeId) (m:Bool)
 | slr (n:Nat)
 | bx (t:TypeId) (off:Nat) (m:Bool) (vs:List Pt)
 | ptr (n off:Nat)
 | mp (k v:Ty) (m:Bool)
 | it
 | agg (l:List Pt) | tup (l:List Pt)
 | fn (f:FuncId) (a b:List Pt)
 | ifc (t:TypeId) (p:Pt)
 | cst (v:AV)
 | dat (t:Ty) (o:List (Option TypeId))
 | ifn
 | sfp
 | same
abbrev al:=List (Nat×GK×AV)
structure Tm where
 vs:List (Bool×Nat×Pt)
 th:List Nat
inductive HT where
 | o
 | c (a b:HT)
 | l (t:Tm) (a:HT)
 | j (t:Tm) (a b:HT)
 | s (a:HT)
 | n (k:Nat) (a:HT)
 | r (th:List Nat) (a:HT)
structure StB where
 c:Nat
 E:al
 G:List Row
 h:HT
structure Fr where
 F:al
 H:List Row
 n:Nat
inductive XE where
 | nrm | ret
 | ext (i:Nat)
 | gto (l:Nat)
 | pan (v:AV)
 | panE (v:AV)
/-! what rows say -/
def DN:Bool→Bool→Bool
 | true,b=>b
 | false,b=> !b
theorem K3:{a b:Bool}→DN a b=true→a=b
 | true,_,h=>h.symm
 | false,b,h=>by cases b <;> simp_all [DN]
theorem OC:(a:Bool)→DN a a=true
 | true=>rfl
 | false=>rfl
def GK.eq:GK→GK→Bool
 | none,none=>true
 | some (j,p),some (k,q)=>Nat.beq j k&&DN p q
 | _,_=>false
theorem GK.eq_eq:{a b:GK}→a.eq b=true→a=b
 | none,none,_=>rfl
 | some (j,p),some (k,q),h=>by
  simp only [GK.eq,Bool.and_eq_true] at h
  rw [Nat.eq_of_beq_eq_true h.1,K3 h.2]
abbrev Tbl:=List ((Nat×Bool)×GK×Nat×Bool)
def pG (p b:Bool):Bool:=match p with
 | true=>b
 | false=> !b
theorem Ap (p b:Bool):pG p b=(b==p):=by cases p <;> cases b <;> rfl
def Tbl.get:Tbl→GK→Bool
 | _,none=>true
 | [],some _=>false
 | (k,par,_,b)::T,some k'=>ifS ( GK.eq (some k) (some k') ) ( (Tbl.get T par&&pG k.2 b) )<|Tbl.get T (some k')
@[simp] theorem Tbl.get_none {T : Tbl} : T.get none = true := by cases T <;> rfl
theorem Tbl.BZ {k:Nat×Bool} {par:GK} {rj:Nat} {b:Bool} {T:Tbl} {x:GK} (h:(!(GK.eq (some k) x))=true):Tbl.get ((k,par,rj,b)::T) x=T.get x:=by
 cases x with
 | none=>simp
 | some k'=>
  simp only [Tbl.get]
  cases hb:GK.eq (some k) (some k')
  ·rfl
  ·rw [hb] at h;cases h
theorem GK.Lm:(k:Nat×Bool)→GK.eq (some k) (some k)=true:=fun k=>by simp [GK.eq,OC]
theorem Tbl.Py {k:Nat×Bool} {par:GK} {rj:Nat} {b:Bool} {T:Tbl}:Tbl.get ((k,par,rj,b)::T) (some k)=(T.get par&&pG k.2 b):=by
 simp only [Tbl.get,GK.Lm]
def slR (p:SLV):List Nat:=match p.2.2 with
 | 0=>[]
 | _+1=>blk (sl p)
section
variable {α : Type} {A : Rep α} {e : TypeId} {M M' : Nat → Prop} {w w' : World}
theorem Own.canon {p:SLV} {xs:List α} {R:List Nat} (h:Own A e M w (sl p) xs R):(∀ b∈slR p,b∈R)∧ ∀ (M':Nat→Prop) (w':World),Own A e M' w' (sl p) xs R→Own A e M' w' (sl p) xs (slR p):=by
 obtain ⟨a,n,cap⟩:=p
 cases cap with
 | zero=>
  refine ⟨fun b hb=>(by cases hb),fun M' w' h'=> ?_⟩
  have hx:xs=[]:=by
   rcases h' with ⟨_,h'⟩ | ⟨_,h',_⟩
   ·obtain ⟨cells,⟨_,h2⟩,_⟩:=h'
    rcases h2 with ⟨_,h0⟩ | ⟨g,c,cur,hv,hg,hh,hc,r⟩
    ·exact List.eq_nil_of_length_eq_zero h0
    ·simp only [sl,Value.slice.injEq] at hv
     exact List.eq_nil_of_length_eq_zero (by omega)
   ·exact h'
  obtain ⟨a',c',hl⟩:=h'.len
  simp only [sl,Value.slice.injEq] at hl
  have hn:n=0:=by rw [hl.2.1,hx];rfl
  subst hn
  exact .inr ⟨rfl,hx,⟨a,rfl⟩,SRd.emp⟩
 | succ c=>
  have key: ∀ (M':Nat→Prop) (w':World),Own A e M' w' (sl (a,n,c+1)) xs R→R=blk (sl (a,n,c+1)):=fun M' w' h'=>by
   rcases h' with ⟨h',_⟩ | ⟨_,_,⟨a',h'⟩,_⟩
   ·exact h'
   ·simp only [sl,Value.slice.injEq] at h';omega
  have hR:=key _ _ h
  subst hR
  exact ⟨fun b hb=>hb,fun M' w' h'=>h'⟩
theorem Own.zD {p:SLV} {xs:List α} {R:List Nat} (h:Own A e M w (sl p) xs R):Own A e M w (sl p) xs (slR p):=h.canon.2 _ _ h
def mX (A:Rep α) (e:TypeId) (p:SLV) (l:List α) (q:Prop):Item where
 own:=slR p
 P M w:=Own A e M w (sl p) l (slR p)∧q
 lt h:=h.1.lt
 bm h m k _:=⟨h.1.bm k m,h.2⟩
 ck:=false
 hp h:=by cases h
def zL (g:Bool) (A:Rep α) (p:SLV) (l:List α) (clip:Bool):Item where
 own:=[]
 P M w:=g=true→SRd A M w (sl p) l∧(clip=true→p.2.2=l.length)
 lt _ b hb:=by cases hb
 bm h m _ _:=fun hg=>⟨(h hg).1.mv m,(h hg).2⟩
 ck:=true
 hp _:=rfl
def GJ (p:Prop):Item where
 own:=[]
 P _ _:=p
 lt _ b hb:=by cases hb
 bm h _ _ _:=h
 ck:=true
 hp _:=rfl
end
def uN:(t:Ty)→t.T→Value
 | .i k,x=> .int k x
 | .s,x=>S x
 | .bo,x=> .bool x
 | _,_=> .bool false
def Row.item (ρ:Nms) (T:Tbl):Row→Item
 | .box id t vs=>Go.Proofs.YtgcgmclghbebjaaGreat.box (ρ id).b t (AV.ah ρ vs)
 | .sli g id t l b=>zL (T.get g) t.rep (ρ id).v l b
 | .own id t e l ver=>mX t.rep e (ρ id).v l ((ρ ver).y=⟨.l t,l⟩)
 | .kn g q id ver t i x=>GJ (T.get g=true→ ∃ l:List t.T,(ρ ver).y=⟨.l t,l⟩∧idx l i=some x∧(ρ q).a=elA (Go.Proofs.YtgcgmclghbebjaaGreat.sl (ρ id).v) i t.rep.n)
 | .elm g id vs=>elem (T.get g) (ρ id).a (AV.ah ρ vs)
 | .mp id k v d=>omap (uN k) (uN v) (.map (ρ id).m) d
 | .it id s p=>iter (ρ id).b s p
 | .eq id v=>GJ ((ρ id).x=v.val ρ)
 | .gone=>GJ True
abbrev items (ρ:Nms) (T:Tbl) (G:List Row):Ctx:=G.map (Row.item ρ T)
def Row.low (c:Nat):Row→Bool
 | .box id _ vs=>Nat.blt id c&&AV.bh c vs
 | .sli _ id _ _ _ | .mp id _ _ _ | .it id _ _=>Nat.blt id c
 | .own id _ _ _ ver=>Nat.blt id c&&Nat.blt ver c
 | .kn _ q id ver _ _ _=>Nat.blt q c&&Nat.blt id c&&Nat.blt ver c
 | .elm _ id vs=>Nat.blt id c&&AV.bh c vs
 | .eq id v=>Nat.blt id c&&v.low c
 | .gone=>true
def aU (c:Nat):List Row→Bool
 | []=>true
 | r::G=>r.low c&&aU c G
theorem Row.ra {ρ ρ':Nms} {T:Tbl} {c:Nat} (ha:aA c ρ ρ') {r:Row} (h:r.low c=true):r.item ρ' T=r.item ρ T:=by
 cases r <;> simp only [Row.low,Bool.and_eq_true,Nat.blt_eq] at h
 ·simp only [Row.item];rw [ha _ h.1,AV.bc ha _ h.2]
 ·simp only [Row.item];rw [ha _ h]
 ·simp only [Row.item];rw [ha _ h.1,ha _ h.2]
 ·simp only [Row.item];rw [ha _ h.1.1,ha _ h.1.2,ha _ h.2]
 ·simp only [Row.item];rw [ha _ h.1,AV.bc ha _ h.2]
 ·simp only [Row.item];rw [ha _ h]
 ·simp only [Row.item];rw [ha _ h]
 ·simp only [Row.item];rw [ha _ h.1,AV.iO ha _ h.2]
 ·simp only [Row.item]
theorem aF {ρ ρ':Nms} {T:Tbl} {c:Nat} (ha:aA c ρ ρ'):{G:List Row}→aU c G=true→items ρ' T G=items ρ T G
 | [],_=>rfl
 | r::G,h=>by
  simp only [aU,Bool.and_eq_true] at h
  simp only [items,List.map_cons]
  rw [Row.ra ha h.1]
  have:=aF (T:=T) ha h.2
  simp only [items] at this
  rw [this]
def al.env (ρ:Nms) (T:Tbl):al→Env
 | []=>[]
 | (t,g,v)::E=>(t,T.get g,v.val ρ)::al.env ρ T E
def al.low (c:Nat):al→Bool
 | []=>true
 | x::E=>x.2.2.low c&&al.low c E
theorem lA {ρ ρ':Nms} {T:Tbl} {c:Nat} (ha:aA c ρ ρ'):{E:al}→E.low c=true→al.env ρ' T E=al.env ρ T E
 | [],_=>rfl
 | (t,g,v)::E,h=>by
  simp only [al.low,Bool.and_eq_true] at h
  simp only [al.env]
  rw [AV.iO ha v h.1,lA ha h.2]
def StB.low (fr:Fr) (st:StB):Bool:=al.low st.c st.E&&al.low st.c fr.F&&aU st.c st.G&&aU st.c fr.H
def Nms.set (ρ:Nms) (j:Nat) (x:Nm):Nms:=fun i=>ifS (Nat.beq i j) x (ρ i)
theorem Nms.aS {ρ:Nms} {j:Nat} {x:Nm}:ρ.set j x j=x:=by simp [Nms.set]
theorem Nms.aD {ρ:Nms} {j:Nat} {x:Nm}:aA j ρ (ρ.set j x):=fun i hi=>by
 unfold Nms.set
 have:Nat.beq i j=false:=by
  cases hb:Nat.beq i j
  ·rfl
  ·exact absurd (Nat.eq_of_beq_eq_true hb) (Nat.ne_of_lt hi)
 rw [this]
def fV (E' E:Env):Prop:= ∀ t p,look E' t=some p→look E t=some p
theorem fV.refl {E:Env}:fV E E:=fun _ _ h=>h
theorem fV.trans {A B C:Env} (h:fV A B) (k:fV B C):fV A C:=fun t p hp=>k t p (h t p hp)
theorem Fits.jw {n:Nat} {E E':Env} {a:Act} (h:Fits n E a) (hs:fV E' E):Fits n E' a:=⟨h.size,fun t g v ht=>h.at_ t g v (hs t _ ht)⟩
theorem WC.jw {P:Program} {ρ:Option Nat} {c:Code} {Q:aI} {n:Nat} {D:List Deferred} {E:Env} {w:World} (E':Env) (hs:fV E' E) (h:WC P ρ c Q n D E' w):WC P ρ c Q n D E w:=
 fun a hf hd=>h a (hf.jw hs) hd
theorem At.jw {e:Exit} {Q:aI} {n:Nat} {D:List Deferred} {E:Env} {w:World} (E':Env) (hs:fV E' E) (h:At Q e n D E' w):At Q e n D E w:=
 fun a hf hd=>h a (hf.jw hs) hd
theorem uT {A B:Env} {t:Nat}:look (A++B) t=match look A t with
  | some p=>some p
  | none=>look B t:=by
 induction A with
 | nil=>rfl
 | cons x A ih=>
  obtain ⟨r,g,v⟩:=x
  simp only [List.cons_append,look]
  cases Nat.beq r t
  ·simp only [cond_false];exact ih
  ·rfl
theorem kx {ρ:Nms} {T:Tbl}:{E F:al}→al.env ρ T (E++F)=al.env ρ T E++al.env ρ T F
 | [],_=>rfl
 | (t,g,v)::E,F=>by simp only [List.cons_append,al.env];rw [kx]
theorem aJ {ρ:Nms} {T:Tbl} {G H:List Row}:items ρ T (G++H)=items ρ T G++items ρ T H:=List.map_append
end Go.Proofs.YtgcgmclghbebjaaGreat
namespace Go.Proofs.YtgcgmclghbebjaaGreat
open Go.Lib
theorem ao {α:Type} {c:Bool} {a:Option α} {r:α} (h:ifS c a none=some r):c=true∧a=some r:=by
 cases c
 ·cases h
 ·exact ⟨rfl,h⟩
theorem Ak {α:Type} {c:Bool} {a:Option α} {r:α} (h:ifS c none a=some r):c=false∧a=some r:=by
 cases c
 ·exact ⟨rfl,h⟩
 ·cases h
theorem cw {α:Type} {c:Bool} {a b:Option α} {r:α} (h:ifS c a b=some r):(c=true∧a=some r)∨(c=false∧b=some r):=by
 cases c
 ·exact .inr ⟨rfl,h⟩
 ·exact .inl ⟨rfl,h⟩
def Tbl.imp:Tbl→GK→GK→Bool
 | _,_,none=>true
 | [],_,some _=>false
 | _,none,some _=>false
 | (k,par,_,_)::T,some g,some g'=>GK.eq (some g) (some g')||(ifS ( GK.eq (some k) (some g) ) ( Tbl.imp T par (some g') )<|Tbl.imp T (some g) (some g'))&& !(GK.eq (some k) (some g'))
theorem Tbl.gZ:{T:Tbl}→{g g':GK}→T.imp g g'=true→T.get g=true→T.get g'=true
 | T,g,none,_,_=>by simp
 | [],g,some g',h,_=>by simp [Tbl.imp] at h
 | _::_,none,some g',h,_=>by simp [Tbl.imp] at h
 | (k,par,rj,b)::T,some g,some g',h,hg=>by
  simp only [Tbl.imp,Bool.or_eq_true,Bool.and_eq_true] at h
  rcases h with h | ⟨h1,h2⟩
  ·rw [← GK.eq_eq h];exact hg
  ·rw [Tbl.BZ h2]
   cases hb:GK.eq (some k) (some g)
   ·rw [hb] at h1
    rw [Tbl.BZ (by rw [hb];rfl)] at hg
    exact Tbl.gZ h1 hg
   ·rw [hb] at h1
    simp only [Tbl.get,hb,Bool.and_eq_true] at hg
    exact Tbl.gZ h1 hg.1
def aL:al→Nat→Option (GK×AV)
 | [],_=>none
 | (r,g,v)::E,t=>ifS ( Nat.beq r t ) ( some (g,v) )<|aL E t
def cr (E F:al) (t:Nat):Option (GK×AV):=match aL E t with
 | some x=>some x
 | none=>aL F t
theorem mW {ρ:Nms} {T:Tbl} {t:Nat}:{E:al}→look (al.env ρ T E) t=(aL E t).map fun x=>(T.get x.1,x.2.val ρ)
 | []=>rfl
 | (r,g',v')::E=>by
  simp only [aL,al.env,look]
  cases hb:Nat.beq r t
  ·simp only [cond_false];exact mW
  ·rfl
abbrev ai (ρ:Nms) (T:Tbl) (E F:al):Env:=al.env ρ T E++al.env ρ T F
theorem dX {ρ:Nms} {T:Tbl} {t:Nat} {E F:al}:look (ai ρ T E F) t=(cr E F t).map fun x=>(T.get x.1,x.2.val ρ):=by
 rw [uT,mW,mW]
 unfold cr
 cases aL E t <;> rfl
def cst:Value→AV
 | .int k x=> .int k x
 | .bool x=> .bool x
 | .string b=> .str b.data.toList
 | v=> .raw v
theorem Kt {ρ:Nms} {v:Value}:(cst v).val ρ=v:=by
 cases v <;> simp [cst,AV.val,S]
theorem ku {ρ:Nms}:{l:List Value}→AV.ah ρ (l.map cst)=l
 | []=>by simp [AV.ah]
 | v::l=>by simp only [List.map_cons,AV.ah];rw [Kt,ku]
theorem Uw {c:Nat} {v:Value}:(cst v).low c=true:=by
 cases v <;> simp [cst,AV.low]
theorem GX {c:Nat}:{l:List Value}→AV.bh c (l.map cst)=true
 | []=>by simp [AV.bh]
 | v::l=>by simp only [List.map_cons,AV.bh];rw [Uw,GX];rfl
def opA (T:Tbl) (E F:al) (g:GK):Operand→Option AV
 | .tmp t=>match cr E F t with
  | some x=>ifS ( T.imp g x.1 ) ( some x.2 )<|none
  | none=>none
 | .const v=>some (cst v)
 | .func f=>some (.fn f [] [])
 | .global f=>some (.gp f)
theorem az {ρ:Nms} {T:Tbl} {E F:al} {g:GK} {x:Operand} {v:AV} (h:opA T E F g x=some v):Opd (ai ρ T E F) (T.get g) x (v.val ρ):=by
 cases x with
 | tmp t=>
  unfold opA at h
  dsimp only at h
  cases hl:cr E F t with
  | none=>rw [hl] at h;cases h
  | some x=>
   rw [hl] at h
   obtain ⟨h1,h2⟩:=ao h
   cases h2
   exact Opd.g (g':=T.get x.1) (by rw [dX,hl];rfl) (Tbl.gZ h1)
 | const u=>cases h;rw [Kt];exact Opd.c
 | func f=>cases h;simp only [AV.val,AV.ah];exact Opd.f
 | global f=>cases h;simp only [AV.val];exact Opd.gl
theorem aT {ρ:Nms} {T:Tbl} {E F:al} {x:Operand} {v:AV} (h:opA T E F none x=some v):Opd (ai ρ T E F) true x (v.val ρ):=by
 have:=az (ρ:=ρ) h
 rwa [Tbl.get_none] at this
def my (T:Tbl) (E F:al) (g:GK):List Operand→Option (List AV)
 | []=>some []
 | x::l=>match opA T E F g x with
  | some v=>match my T E F g l with
   | some vs=>some (v::vs)
   | none=>none
  | none=>none
theorem eY {ρ:Nms} {T:Tbl} {E F:al} {g:GK}:{xs:List Operand}→{vs:List AV}→my T E F g xs=some vs→jS (ai ρ T E F) (T.get g) xs (AV.ah ρ vs)
 | [],vs,h=>by cases h;simp only [AV.ah];exact .nil
 | x::l,vs,h=>by
  unfold my at h
  split at h
  ·rename_i v h1
   split at h
   ·rename_i us h2
    cases h
    simp only [AV.ah]
    exact .cons (az h1) (eY h2)
   ·cases h
  ·cases h
/-! rows -/
def ki (p:Row→Bool):List Row→Option (Nat×Row)
 | []=>none
 | r::G=>ifS ( p r ) ( some (0,r) )<|match ki p G with
  | some x=>some (x.1+1,x.2)
  | none=>none
theorem ju {p:Row→Bool}:{G:List Row}→{i:Nat}→{r:Row}→ki p G=some (i,r)→G[i]? =some r∧p r=true
 | [],_,_,h=>by cases h
 | r0::G,i,r,h=>by
  unfold ki at h
  rcases cw h with ⟨h1,h2⟩ | ⟨h1,h2⟩
  ·cases h2;exact ⟨rfl,h1⟩
  ·split at h2
   ·rename_i x hx
    cases h2
    obtain ⟨h3,h4⟩:=ju (i:=x.1) (r:=x.2) hx
    exact ⟨by simpa using h3,h4⟩
   ·cases h2
def jQ (id:Nat):Row→Bool
 | .sli _ j _ _ _ | .own j _ _ _ _=>Nat.beq j id
 | _=>false
def pR (id:Nat):Row→Bool
 | .box j _ _=>Nat.beq j id
 | _=>false
def Nw (id:Nat):Row→Bool
 | .mp j _ _ _=>Nat.beq j id
 | _=>false
def VA (id:Nat):Row→Bool
 | .it j _ _=>Nat.beq j id
 | _=>false
def isEq (id:Nat):Row→Bool
 | .eq j _=>Nat.beq j id
 | _=>false
def Cj (q:Nat):Row→Bool
 | .kn _ j _ _ _ _ _=>Nat.beq j q
 | _=>false
def VM (id:Nat):Row→Bool
 | .elm _ j _=>Nat.beq j id
 | _=>false
def Row.id:Row→Nat
 | .box j _ _ | .sli _ j _ _ _ | .own j _ _ _ _ | .mp j _ _ _ | .it j _ _ | .eq j _ | .elm _ j _ | .kn _ j _ _ _ _ _=>j
 | .gone=>0
def Row.ck:Row→Bool
 | .sli .. | .elm .. | .eq .. | .kn .. | .gone=>true
 | _=>false
theorem dF {ρ:Nms} {T:Tbl} {G:List Row} {Φ:Ctx} {i:Nat} {r:Row} (h:G[i]? =some r):(items ρ T G++Φ)[i]? =some (r.item ρ T):=by
 have hl:i<G.length:=(List.getElem?_eq_some_iff.1 h).1
 rw [List.getElem?_append_left (by simpa [items] using hl)]
 simp [items,h]
theorem FD {ρ:Nms} {T:Tbl} {G H:List Row} {Φ:Ctx} {i:Nat} {r:Row} (h:H[i]? =some r):(items ρ T G++(items ρ T H++Φ))[G.length+i]? =some (r.item ρ T):=by
 rw [List.getElem?_append_right (by simp [items])]
 have:G.length+i-(items ρ T G).length=i:=by simp [items]
 rw [this]
 exact dF h
inductive Src where
 | top (i:Nat)
 | frz (i:Nat)
 | nilI (t:Ty)
 | nilO (t:Ty) (e:TypeId)
 | nilM (k v:Ty)
def cz (G H:List Row) (p:Row→Bool):Option (Src×Row):=match ki p G with
 | some x=>some (.top x.1,x.2)
 | none=>match ki p H with
  | some x=>some (.frz x.1,x.2)
  | none=>none
def Src.at_ (G H:List Row):Src→Row→Prop
 | .top i,r=>G[i]? =some r
 | .frz i,r=>H[i]? =some r
 | _,_=>False
theorem ba {p:Row→Bool} {G H:List Row} {s:Src} {r:Row} (h:cz G H p=some (s,r)):s.at_ G H r∧p r=true:=by
 unfold cz at h
 split at h
 ·rename_i x hx
  cases h
  exact ju hx
 ·split at h
  ·rename_i x hx
   cases h
   exact ju hx
  ·cases h
theorem Src.item {ρ:Nms} {T:Tbl} {G H:List Row} {Φ:Ctx} {s:Src} {r:Row} (h:s.at_ G H r): ∃ i:Nat,(items ρ T G++(items ρ T H++Φ))[i]? =some (r.item ρ T):=by
 cases s with
 | top i=>exact ⟨i,dF h⟩
 | frz i=>exact ⟨G.length+i,FD h⟩
 | nilI=>exact h.elim
 | nilO=>exact h.elim
 | nilM=>exact h.elim
theorem Src.holds {ρ:Nms} {T:Tbl} {G H:List Row} {Φ:Ctx} {w:World} {s:Src} {r:Row} (hs:Sat (items ρ T G++(items ρ T H++Φ)) w) (h:s.at_ G H r):(r.item ρ T).P (Ctx.M (items ρ T G++(items ρ T H++Φ))) w:=by
 obtain ⟨i,hi⟩:=Src.item (ρ:=ρ) (T:=T) (Φ:=Φ) h
 exact hs.at_ hi
def na (n:Nat):List Nat→Bool
 | []=>false
 | m::l=>Nat.beq n m||na n l
theorem G7 {n:Nat}:{l:List Nat}→(na n l=true↔n∈l)
 | []=>by simp [na]
 | m::l=>by
  simp only [na,Bool.or_eq_true,List.mem_cons]
  rw [G7,Nat.beq_eq]
end Go.Proofs.YtgcgmclghbebjaaGreat
namespace Go.Proofs.YtgcgmclghbebjaaGreat
open Go.Lib
structure Inl where
 f:FuncId
 run:{R:Type}→List AV→List Row→StB→(AV→StB→Option R)→Option R
def Inl.Ok (P:Program) (i:Inl):Prop:=cV P i.f∧ ∀ {R:Type} (r:R) (args:List AV) (H:List Row) (st:StB) (K:AV→StB→Option R) (ρ:Nms) (Φ:Ctx) (w:World),Sat (items ρ [] st.G++(items ρ [] H++Φ)) w→
 i.run args H st K=some r→fg P i.f (AV.ah ρ args) w fun v w'=> ∃ (ρ':Nms) (st':StB) (av:AV),K av st'=some r∧aA st.c ρ ρ'∧st.c≤st'.c∧av.val ρ'=v∧Sat (items ρ' [] st'.G++(items ρ' [] H++Φ)) w'
structure Cx where
 P:Program
 tys:List (TypeId×Ty)
 gls:List (Nat×Nat×Dyn)
 ids:List FuncId
 idsOk: ∀ f,f∈ids→VD P f
 fl:Nat
 ks:List TypeId
 inl:List Inl
 inlOk: ∀ i,i∈inl→i.Ok P
 oc:List (Nat×Nat):=[]
def qZ {α:Type}:List (Nat×α)→Nat→Option α
 | [],_=>none
 | x::l,n=>ifS ( Nat.beq x.1 n ) ( some x.2 )<|qZ l n
def xx {ρ:Type} (c:Option Bool) (g:Option Bool) (k:Option ρ):Option ρ:=match c with
 | none=>k
 | some c=>match g with
  | none=>chk c k
  | some g=>Vj g c k
theorem lK {ρ:Type} {T:Tbl} {c:Option Bool} {g:GK} {k:Option ρ} {r:ρ} (h:xx c (g.map fun _=>T.get g) k=some r):(∀ b,c=some b→T.get g=true→b=true)∧k=some r:=by
 unfold xx at h
 split at h
 ·exact ⟨fun b hb=>(by cases hb),h⟩
 ·split at h
  ·rename_i hg
   obtain ⟨h1,h2⟩:=fZ h
   exact ⟨fun b hb _=>(by cases hb;exact h1),h2⟩
  ·rename_i g' hg
   cases g with
   | none=>cases hg
   | some k'=>
    simp only [Option.map_some,Option.some.injEq] at hg
    subst hg
    obtain ⟨h1,h2⟩:=OE h
    exact ⟨fun b hb hT=>(by cases hb;exact h1 hT),h2⟩
abbrev CV:=Option (Option Bool×AV)
def pv (v:AV):CV:=some (none,v)
def fc (a b:IntKind):Bool:=decide (a=b)
theorem iE {a b:IntKind} (h:fc a b=true):a=b:=by simpa [fc] using h
def LH (k k':IntKind) (m l:Int):BinOp→CV
 | .add=>ifS ( fc k k' ) ( pv (.int k (k.wrap (m+l))) ) none
 | .sub=>ifS ( fc k k' ) ( pv (.int k (k.wrap (m-l))) ) none
 | .mul=>ifS ( fc k k' ) ( pv (.int k (k.wrap (m*l))) ) none
 | .quo=>ifS ( fc k k' ) ( some (some (l != 0),.int k (k.wrap (m.tdiv l))) ) none
 | .rem=>ifS ( fc k k' ) ( some (some (l != 0),.int k (m.tmod l)) ) none
 | .eql=>ifS ( fc k k' ) ( pv (.bool (m==l)) ) none
 | .neq=>ifS ( fc k k' ) ( pv (.bool (m != l)) ) none
 | .lss=>ifS ( fc k k' ) ( pv (.bool (decide (m<l))) ) none
 | .leq=>ifS ( fc k k' ) ( pv (.bool (decide (m≤l))) ) none
 | .gtr=>ifS ( fc k k' ) ( pv (.bool (decide (l<m))) ) none
 | .geq=>ifS ( fc k k' ) ( pv (.bool (decide (l≤m))) ) none
 | .shr=>some (some (decide (0≤l)),.int k (ar k m l))
 | .shl=>some (some (decide (0≤l)),.int k (fT k m l))
 | .and=>ifS ( fc k k' ) ( pv (.int k (gC k m l)) ) none
 | .or=>ifS ( fc k k' ) ( pv (.int k (orI k m l)) ) none
 | .xor=>ifS ( fc k k' ) ( pv (.int k (gM k m l)) ) none
 | .andNot=>ifS ( fc k k' ) ( pv (.int k (KH k m l)) ) none
def Ms (m l:Str):BinOp→CV
 | .eql=>pv (.bool (m==l))
 | .neq=>pv (.bool (m != l))
 | .add=>some (some (UZ m l),.str (m++l))
 | .lss=>pv (.bool (ltS m l))
 | .leq=>pv (.bool (ltS m l||m==l))
 | .gtr=>pv (.bool (!(ltS m l||m==l)))
 | .geq=>pv (.bool (!(ltS m l)))
 | _=>none
def NZ (m l:Bool):BinOp→CV
 | .eql=>pv (.bool (m==l))
 | .neq=>pv (.bool (m != l))
 | _=>none
def tyK (P:Program) (t:TypeId):Option IntKind:=match P.underlying t with
 | some (.int k)=>some k
 | _=>none
theorem Cw {P:Program} {t:TypeId} {k:IntKind} (h:tyK P t=some k):P.underlying t=some (.int k):=by
 unfold tyK at h
 split at h
 ·rename_i k' hk;cases h;exact hk
 ·cases h
def isStr (P:Program) (t:TypeId):Bool:=match P.underlying t with
 | some .string=>true
 | _=>false
theorem lB {P:Program} {t:TypeId} (h:isStr P t=true):P.underlying t=some .string:=by
 unfold isStr at h
 split at h
 ·assumption
 ·cases h
def isBool (P:Program) (t:TypeId):Bool:=match P.underlying t with
 | some .bool=>true
 | _=>false
theorem Fy {P:Program} {t:TypeId} (h:isBool P t=true):P.underlying t=some .bool:=by
 unfold isBool at h
 split at h
 ·assumption
 ·cases h
def Rz (P:Program) (t:TypeId):Bool:=match P.underlying t with
 | some _=>true
 | none=>false
theorem Vk {P:Program} {t:TypeId} (h:Rz P t=true): ∃ d,P.underlying t=some d:=by
 unfold Rz at h
 split at h
 ·rename_i d hd;exact ⟨d,hd⟩
 ·cases h
def Mg (P:Program) (t:TypeId) (op:BinOp):AV→AV→CV
 | .int k m,.int k' l=>LH k k' m l op
 | .str m,.str l=>Ms m l op
 | .bool m,.bool l=>ifS ( isBool P t ) ( NZ m l op ) none
 | _,_=>none
def Qj:UnOp→AV→CV
 | .not,.bool b=>pv (.bool (!b))
 | .neg,.int k m=>pv (.int k (k.wrap (0-m)))
 | _,_=>none
def Sy:AV→Bool
 | .ptr _ _ | .adr _ _ | .fn _ _ _=>true
 | _=>false
def j3 (P:Program) (Ev:Env) (ρ:Nms) (g:Bool) (o:Oper) (w:World) (cv:Option Bool×AV):Prop:=
 (∀ b,cv.1=some b→g=true→b=true)→Run P Ev g o w (cv.2.val ρ)
section
variable {P : Program} {ρ : Nms} {g : Bool} {w : World} {dst : Option Tmp} {ty : TypeId} {pos : String} {af : Array Edge} {gd : Option (Nat × Bool)} {Ev : Env}
theorem j3.pv {o:Oper} {v:AV} {cv:Option Bool×AV} (h:pv v=some cv) (hr:Run P Ev g o w (v.val ρ)):j3 P Ev ρ g o w cv:=by
 cases h;exact fun _=>hr
theorem Pf {x y:Operand} {t t':TypeId} {op:BinOp} {k k':IntKind} {m l:Int} {cv:Option Bool×AV} (hx:Opd Ev g x (.int k m)) (hy:Opd Ev g y (.int k' l)) (h:LH k k' m l op=some cv):
  j3 P Ev ρ g ⟨dst,.binOp op t x y t',ty,pos,af,gd⟩ w cv:=by
 have key: ∀ {a:CV},ifS (fc k k') a none=some cv→k=k'∧a=some cv:=fun h=>⟨iE (ao h).1,(ao h).2⟩
 cases op <;> simp only [LH] at h
 case shr=>cases h;exact fun hc=>Up hx hy (fun hg=>hc _ rfl hg)
 case shl=>cases h;exact fun hc=>SM hx hy (fun hg=>hc _ rfl hg)
 case quo=>
  obtain ⟨rfl,h9⟩:=key h
  cases h9
  exact fun hc n a hf hg=>SU hx hy (by have:=hc _ rfl hg;simpa using this) n a hf hg
 case rem=>
  obtain ⟨rfl,h9⟩:=key h
  cases h9
  exact fun hc n a hf hg=>TS hx hy (by have:=hc _ rfl hg;simpa using this) n a hf hg
 case add=>obtain ⟨rfl,h9⟩:=key h;exact .pv h9 (nD hx hy)
 case sub=>obtain ⟨rfl,h9⟩:=key h;exact .pv h9 (K8 hx hy)
 case mul=>obtain ⟨rfl,h9⟩:=key h;exact .pv h9 (SW hx hy)
 case eql=>obtain ⟨rfl,h9⟩:=key h;exact .pv h9 (pJ hx hy)
 case neq=>obtain ⟨rfl,h9⟩:=key h;exact .pv h9 (Ul hx hy)
 case lss=>obtain ⟨rfl,h9⟩:=key h;exact .pv h9 (TN hx hy)
 case leq=>obtain ⟨rfl,h9⟩:=key h;exact .pv h9 (Un hx hy)
 case gtr=>obtain ⟨rfl,h9⟩:=key h;exact .pv h9 (Ec hx hy)
 case geq=>obtain ⟨rfl,h9⟩:=key h;exact .pv h9 (TL hx hy)
 case and=>obtain ⟨rfl,h9⟩:=key h;exact .pv h9 (Ru hx hy)
 case or=>obtain ⟨rfl,h9⟩:=key h;exact .pv h9 (UA hx hy)
 case xor=>obtain ⟨rfl,h9⟩:=key h;exact .pv h9 (QV hx hy)
 case andNot=>obtain ⟨rfl,h9⟩:=key h;exact .pv h9 (JP hx hy)
theorem NU {x y:Operand} {t t':TypeId} {op:BinOp} {m l:Str} {cv:Option Bool×AV} (hx:Opd Ev g x (S m)) (hy:Opd Ev g y (S l)) (h:Ms m l op=some cv):
  j3 P Ev ρ g ⟨dst,.binOp op t x y t',ty,pos,af,gd⟩ w cv:=by
 unfold Ms at h
 split at h
 ·exact .pv h (Tj hx hy)
 ·exact .pv h (Tx hx hy)
 ·cases h;exact fun hc=>Ua hx hy (fun hg=>hc _ rfl hg)
 ·exact .pv h (TO hx hy)
 ·exact .pv h (Us hx hy)
 ·exact .pv h (Uy hx hy)
 ·exact .pv h (T8 hx hy)
 ·cases h
theorem NM {x y:Operand} {t t':TypeId} {op:BinOp} {a b:AV} {cv:Option Bool×AV} (hx:Opd Ev g x (a.val ρ)) (hy:Opd Ev g y (b.val ρ)) (h:Mg P t op a b=some cv):
  j3 P Ev ρ g ⟨dst,.binOp op t x y t',ty,pos,af,gd⟩ w cv:=by
 unfold Mg at h
 split at h
 ·simp only [AV.val] at hx hy;exact Pf hx hy h
 ·simp only [AV.val] at hx hy;exact NU hx hy h
 ·simp only [AV.val] at hx hy
  obtain ⟨h1,h2⟩:=ao h
  unfold NZ at h2
  split at h2
  ·exact .pv h2 (Ug (Fy h1) hx hy)
  ·exact .pv h2 (TJ (Fy h1) hx hy)
  ·cases h2
 ·cases h
theorem PN {x:Operand} {t:TypeId} {op:UnOp} {u:AV} {cv:Option Bool×AV} (hx:Opd Ev g x (u.val ρ)) (h:Qj op u=some cv):
  j3 P Ev ρ g ⟨dst,.unOp op t x,ty,pos,af,gd⟩ w cv:=by
 unfold Qj at h
 split at h
 ·simp only [AV.val] at hx;exact .pv h (JB hx)
 ·simp only [AV.val] at hx;exact .pv h (Ux hx)
 ·cases h
theorem N0 {x:Operand} {v:AV} (hx:Opd Ev g x (v.val ρ)) (h:Sy v=true):Run P Ev g ⟨dst,.nilCheck x,ty,pos,af,gd⟩ w (v.val ρ):=by
 cases v with
 | ptr id off=>simp only [AV.val] at hx ⊢; exact IU hx
 | adr id off=>simp only [AV.val] at hx ⊢; exact IU hx
 | fn f a b=>simp only [AV.val] at hx ⊢; exact Px hx
 | _=>cases h
end
def tiA (P:Program) (t:TypeId):Option (Nat×Nat×Value):=match P.info? t with
 | some i=>match i.zero with
  | some z=>some (i.size,i.bytes,z)
  | none=>none
 | none=>none
theorem bH {P:Program} {t:TypeId} {n bytes:Nat} {z:Value} (h:tiA P t=some (n,bytes,z)):TI P t n bytes z:=by
 unfold tiA at h
 split at h
 ·rename_i i hi
  split at h
  ·rename_i z' hz
   cases h
   simp [TI,hi,hz]
  ·cases h
 ·cases h
def MU (P:Program) (t:TypeId) (k:Nat):Option (TypeId×Nat×Nat):=match P.underlying t with
 | some (.struct fs)=>match fs.toList[k]? with
  | some f=>match P.info? f.type with
   | some i=>some (f.type,f.offset,i.size)
   | none=>none
  | none=>none
 | _=>none
theorem Lk {P:Program} {t ft:TypeId} {k off n:Nat} (h:MU P t k=some (ft,off,n)): ∃ fs f i,P.underlying t=some (.struct fs)∧fs[k]? =some f∧f.type=ft∧f.offset=off∧P.info? ft=some i∧i.size=n:=by
 unfold MU at h
 split at h
 ·rename_i fs hfs
  split at h
  ·rename_i f hf
   split at h
   ·rename_i i hi
    cases h
    exact ⟨fs,f,i,hfs,by simpa using hf,rfl,rfl,hi,rfl⟩
   ·cases h
  ·cases h
 ·cases h
def iD (P:Program) (t:TypeId) (cs:List AV):Option AV:=match P.underlying t with
 | some d=>ifS ( gR d ) ( (match tiA P t with
   | some x=>ifS ( Nat.ble x.1 cs.length ) ( some (.agg (cs.take x.1)) )<|none
   | none=>none)
  )<|cs.head?
 | none=>none
def bI:AV→List AV
 | .agg l=>l
 | .raw v=>v.cells.toList.map cst
 | v=>[v]
def yO:AV→Bool
 | .nv _=>false
 | _=>true
theorem qj {ρ:Nms} {v:AV} (h:yO v=true):(v.val ρ).cells=(AV.ah ρ (bI v)).toArray:=by
 cases v <;> simp only [bI,AV.val,AV.ah] <;> try rfl
 ·cases h
 ·rw [ku]
def nO (vs:List AV) (k:Nat) (us:List AV):List AV:=vs.take k++us++vs.drop (k+us.length)
theorem pW {ρ:Nms} {vs us:List AV} {k:Nat}:j2 (AV.ah ρ vs) k (AV.ah ρ us)=AV.ah ρ (nO vs k us):=by
 simp only [j2,nO,bK,AV.gH,AV.eZ,AV.aH]
def tH (place:Nat→Option (Nat×Nat)):List (Nat×AV)→List AV→Option (List AV)
 | [],cs=>some cs
 | (i,v)::l,cs=>match place i with
  | some (off,n)=>ifS ( yO v&&(Nat.beq (bI v).length n&&Nat.ble (off+n) cs.length) ) ( tH place l (nO cs off (bI v)) )<|none
  | none=>none
theorem EX {off:Nat}: ∀ (us:List Value) (k:Nat) (cs:List Value),off+k+us.length≤cs.length→
  (us.zipIdx k).foldl (fun cs (x:Value×Nat)=>cs.setIfInBounds (off+x.2) x.1) cs.toArray=(j2 cs (off+k) us).toArray
 | [],k,cs,_=>by simp [j2]
 | u::us,k,cs,h=>by
  simp only [List.length_cons] at h
  simp only [List.zipIdx_cons,List.foldl_cons,List.setIfInBounds_toArray]
  rw [EX us (k+1) (cs.set (off+k) u) (by rw [List.length_set];omega)]
  congr 1
  simp only [j2]
  have h1:off+k<cs.length:=by omega
  have e1:(cs.set (off+k) u).take (off+(k+1))=cs.take (off+k)++[u]:=by
   rw [show off+(k+1)=(off+k)+1 from rfl,List.take_add_one,List.getElem?_set_self h1,List.take_set_of_le (Nat.le_refl _)]
   rfl
  have e2:(cs.set (off+k) u).drop (off+(k+1)+us.length)=cs.drop (off+k+(u::us).length):=by
   rw [List.drop_set_of_lt (by omega)]
   congr 1
   simp only [List.length_cons];omega
  rw [e1,e2]
  simp
theorem rL {ρ:Nms} {place:Nat→Option (Nat×Nat)}:{ps:List (Nat×AV)}→{cs cs':List AV}→tH place ps cs=some cs'→
  Instr.fill place (AV.ah ρ cs).toArray (ps.map fun p=>(p.1,p.2.val ρ))=some (AV.ah ρ cs').toArray
 | [],cs,cs',h=>by cases h;rfl
 | (i,v)::l,cs,cs',h=>by
  unfold tH at h
  split at h
  ·rename_i off n hp
   obtain ⟨h1,h2⟩:=ao h
   simp only [Bool.and_eq_true,Nat.ble_eq] at h1
   obtain ⟨h3,h4,h5⟩:=h1
   have h4:=Nat.eq_of_beq_eq_true h4
   have ih:=rL (ρ:=ρ) h2
   simp only [List.map_cons]
   unfold Instr.fill
   simp only [hp]
   have e:=qj (ρ:=ρ) h3
   have e1: ¬ (((v.val ρ).cells.size≠n||decide (off+(v.val ρ).cells.size>(AV.ah ρ cs).toArray.size))=true):=by
    rw [e]
    simp only [List.size_toArray,AV.aH,h4]
    simp;omega
   rw [if_neg e1,e]
   have:=EX (off:=off) (AV.ah ρ (bI v)) 0 (AV.ah ρ cs) (by rw [AV.aH,AV.aH];omega)
   simp only [Nat.add_zero] at this
   rw [show (AV.ah ρ (bI v)).toArray.zipIdx=((AV.ah ρ (bI v)).zipIdx 0).toArray from by simp,List.foldl_toArray,this,pW]
   exact ih
  ·cases h
end Go.Proofs.YtgcgmclghbebjaaGreat
namespace Go.Proofs.YtgcgmclghbebjaaGreat
open Go.Lib
def og {α β:Type} (f:α→Option β):List α→Option (List β)
 | []=>some []
 | x::l=>match f x with
  | some y=>match og f l with
   | some ys=>some (y::ys)
   | none=>none
  | none=>none
theorem EW {P:Program} {w:World} {α β:Type} {f:α→Sem β} {g:α→Option β} (hfg: ∀ x y,g x=some y→(f x).run P w= .ok y w): ∀ {l:List α} {ys:List β},og g l=some ys→(l.mapM f).run P w= .ok ys w
 | [],ys,h=>by cases h;simp
 | x::l,ys,h=>by
  unfold og at h
  split at h
  ·rename_i y hy
   split at h
   ·rename_i zs hz
    cases h
    rw [List.mapM_cons,Sem.run_bind,hfg x y hy,Result.andThen_ok,Sem.run_bind,EW hfg hz,Result.andThen_ok,Sem.run_pure]
   ·cases h
  ·cases h
theorem Cv {P:Program} {w:World} {α β:Type} {f:α→Sem β} {g:α→Option β} (hfg: ∀ x y,g x=some y→(f x).run P w= .ok y w) {l:Array α} {ys:List β} (h:og g l.toList=some ys):(l.mapM f).run P w= .ok ys.toArray w:=by
 rw [Array.mapM_eq_mapM_toList,Sem.run_map,EW hfg h]
 rfl
def IY (P:Program) (f:Field):Option (Nat×Nat):=match P.info? f.type with
 | some i=>some (f.offset,i.size)
 | none=>none
def Jr (P:Program) (t:TypeId) (ps:List (Nat×AV)):Option (List AV):=match tiA P t with
 | some z=>(match P.underlying t with
  | some (.struct fs)=>(match og (IY P) fs.toList with
   | some pl=>tH (fun i=>pl[i]?) ps (z.2.2.cells.toList.map cst)
   | none=>none)
  | some (.array _ e)=>(match P.info? e with
   | some i=>tH (fun k=>some (k*i.size,i.size)) ps (z.2.2.cells.toList.map cst)
   | none=>none)
  | _=>none)
 | none=>none
theorem NQ {P:Program} {t:TypeId} {ρ:Nms} {w:World} {ps:List (Nat×AV)} {cs:List AV} (h:Jr P t ps=some cs):
  (Instr.build t (ps.map fun p=>(p.1,p.2.val ρ)).toArray).run P w= .ok (.agg (AV.ah ρ cs).toArray) w:=by
 unfold Jr at h
 split at h
 ·rename_i z hz
  obtain ⟨size,bytes,z⟩:=z
  have hti:=bH hz
  have hz0:=hti.zero w
  unfold Instr.build
  simp only [Sem.run_bind,hz0,Result.andThen_ok]
  split at h
  ·rename_i fs hfs
   simp only [run_underlying hfs,Result.andThen_ok]
   split at h
   ·rename_i pl hpl
    have h1:(fs.mapM fun f=>do pure (f.offset,← sizeOf f.type):Sem (Array (Nat×Nat))).run P w= .ok pl.toArray w:=Cv (g:=IY P) (fun f y hy=>by
     unfold IY at hy
     split at hy
     ·rename_i i hi
      cases hy
      simp [sizeOf,typeInfo,hi]
     ·cases hy) hpl
    have h2:=rL (ρ:=ρ) h
    rw [ku] at h2
    simp only [Sem.run_bind,h1,Result.andThen_ok]
    have e:(fun (x:Nat)=>pl.toArray[x]?)=fun i=>pl[i]? :=by funext i;simp
    rw [e]
    simp only [Array.toArray_toList] at h2
    rw [h2]
    rfl
   ·cases h
  ·rename_i k e hfs
   simp only [run_underlying hfs,Result.andThen_ok]
   split at h
   ·rename_i i hi
    have h2:=rL (ρ:=ρ) h
    rw [ku] at h2
    simp only [Array.toArray_toList] at h2
    simp only [Sem.run_bind,sizeOf,typeInfo,run_program,hi,Result.andThen_ok,Sem.run_pure]
    rw [h2]
    rfl
   ·cases h
  ·cases h
 ·cases h
theorem xQ {ρ:Nms}: ∀ (is:List Nat) (vs:List AV),(is.zip vs).map (fun p=>(p.1,p.2.val ρ))=is.zip (AV.ah ρ vs)
 | [],_=>by simp
 | _::_,[]=>by simp [AV.ah]
 | i::is,v::vs=>by simp only [List.zip_cons_cons,List.map_cons,AV.ah];rw [xQ]
/-! what the variables that guards ask are -/
def di (T:Tbl) (E F:al):Prop:= ∀ x,x∈T→cr E F x.2.2.1=some (x.2.1,.bool x.2.2.2)∧T.get (some x.1)=(T.get x.2.1&&pG x.1.2 x.2.2.2)
def keyOf (r:Nat) (pol:Bool):Tbl→Option ((Nat×Bool)×GK×Nat×Bool)
 | []=>none
 | x::T=>ifS ( Nat.beq x.2.2.1 r&&DN x.1.2 pol ) ( some x )<|keyOf r pol T
theorem Hc {r:Nat} {pol:Bool}:{T:Tbl}→{x:(Nat×Bool)×GK×Nat×Bool}→keyOf r pol T=some x→x∈T∧x.2.2.1=r∧x.1.2=pol
 | [],x,h=>by cases h
 | y::T,x,h=>by
  unfold keyOf at h
  rcases cw h with ⟨h1,h2⟩ | ⟨_,h2⟩
  ·cases h2
   simp only [Bool.and_eq_true] at h1
   exact ⟨List.mem_cons_self .., Nat.eq_of_beq_eq_true h1.1,K3 h1.2⟩
  ·obtain ⟨h3,h4⟩:=Hc h2
   exact ⟨List.mem_cons_of_mem _ h3,h4⟩
def Sk (T:Tbl) (E F:al) (g:GK) (c x:Operand):Option (Bool×Bool):=match opA T E F g x with
 | some (.bool y)=>(match opA T E F g c with
  | some (.bool b)=>some (b,y)
  | _=>none)
 | _=>none
def Sj (T:Tbl) (E F:al) (g:GK) (pol:Bool) (c x:Operand):Option (Bool×Bool):=match c with
 | .tmp r=>(match keyOf r pol T with
  | some k=>ifS ( T.imp g k.2.1 ) ( match opA T E F (some k.1) x with
    | some (.bool y)=>some (k.2.2.2,y)
    | _=>none
   ) none
  | none=>none)
 | _=>none
def GL (T:Tbl) (E F:al) (g:GK) (pol:Bool) (c x:Operand):Option (Bool×Bool):=match Sk T E F g c x with
 | some y=>some y
 | none=>Sj T E F g pol c x
theorem Ju {ρ:Nms} {T:Tbl} {E F:al} {g:GK} {pol b y:Bool} {c x:Operand} (hT:di T E F) (h:GL T E F g pol c x=some (b,y)):
  Opd (ai ρ T E F) (T.get g) c (.bool b)∧Opd (ai ρ T E F) (T.get g&&pG pol b) x (.bool y):=by
 have weak: ∀ {p q:Bool} {u:Value},Opd (ai ρ T E F) p x u→Opd (ai ρ T E F) (p&&q) x u:=fun h n a hf hg=>h n a hf (Bool.and_eq_true _ _▸hg).1
 unfold GL at h
 split at h
 ·rename_i z hz
  cases h
  unfold Sk at hz
  split at hz
  ·rename_i y' hx
   split at hz
   ·rename_i b' hc
    cases hz
    have h1:=az (ρ:=ρ) hx
    have h2:=az (ρ:=ρ) hc
    simp only [AV.val] at h1 h2
    exact ⟨h2,weak h1⟩
   ·cases hz
  ·cases hz
 ·unfold Sj at h
  split at h
  ·rename_i r
   split at h
   ·rename_i k hk
    obtain ⟨h1,h2⟩:=ao h
    split at h2
    ·rename_i y' hx
     cases h2
     obtain ⟨k1,k2,k3⟩:=Hc hk
     obtain ⟨k4,k5⟩:=hT _ k1
     have h3:=az (ρ:=ρ) hx
     simp only [AV.val] at h3
     rw [k2] at k4
     refine ⟨Opd.g (g':=T.get k.2.1) (by rw [dX,k4];simp [AV.val]) (Tbl.gZ h1),fun n a hf hg=>h3 n a hf ?_⟩
     rw [k5,k3]
     simp only [Bool.and_eq_true] at hg ⊢
     exact ⟨Tbl.gZ h1 hg.1,hg.2⟩
    ·cases h2
   ·cases h
  ·cases h
def isF:Operand→Bool
 | .const (.bool b)=> !b
 | _=>false
def QT:Operand→Bool
 | .const (.bool b)=>b
 | _=>false
theorem UK {x:Operand} (h:isF x=true):x= .const (.bool false):=by
 unfold isF at h
 split at h
 ·rename_i b;cases b
  ·rfl
  ·cases h
 ·cases h
theorem Uv {x:Operand} (h:QT x=true):x= .const (.bool true):=by
 unfold QT at h
 split at h
 ·rename_i b;cases b
  ·cases h
  ·rfl
 ·cases h
def Ad (P:Program) (t:TypeId):Bool:=match P.underlying t with
 | some d=> !(fk d)
 | none=>false
theorem DB {P:Program} {t:TypeId} (h:Ad P t=true): ∃ d,P.underlying t=some d∧fk d=false:=by
 unfold Ad at h
 split at h
 ·rename_i d hd;exact ⟨d,hd,by simpa using h⟩
 ·cases h
def loA (T:Tbl) (E F:al) (g:GK):Option Operand→Option Int
 | none=>some 0
 | some y=>match opA T E F g y with
  | some (.int _ i)=>some i
  | _=>none
def hiA (T:Tbl) (E F:al) (g:GK):Option Operand→Option (Option Int)
 | none=>some none
 | some y=>match opA T E F g y with
  | some (.int _ i)=>some (some i)
  | _=>none
theorem C0 {ρ:Nms} {T:Tbl} {E F:al} {g:GK} {lo:Option Operand} {i:Int} (h:loA T E F g lo=some i):(match (motive:=Option Operand→Prop) lo with | none=>i=0 | some y=> ∃ k,Opd (ai ρ T E F) (T.get g) y (.int k i)):=by
 cases lo with
 | none=>cases h;rfl
 | some y=>
  unfold loA at h
  dsimp only at h
  split at h
  ·rename_i k j hy
   cases h
   have:=az (ρ:=ρ) hy
   simp only [AV.val] at this
   exact ⟨k,this⟩
  ·cases h
theorem Dp {ρ:Nms} {T:Tbl} {E F:al} {g:GK} {hi:Option Operand} {j:Option Int} {len:Nat} (h:hiA T E F g hi=some j):(match (motive:=Option Operand→Prop) hi with | none=>(j.getD (len:Int))=(len:Int) | some y=> ∃ k,Opd (ai ρ T E F) (T.get g) y (.int k (j.getD (len:Int)))):=by
 cases hi with
 | none=>cases h;rfl
 | some y=>
  unfold hiA at h
  dsimp only at h
  split at h
  ·rename_i k j hy
   cases h
   have:=az (ρ:=ρ) hy
   simp only [AV.val] at this
   exact ⟨k,this⟩
  ·cases h
def Jz (X:Cx) (T:Tbl) (E F:al) (g:GK) (c:Callee) (xs:List Operand) (ts:List TypeId):CV:=match c,xs,ts with
 | .builtin .len,[x],[t]=>ifS ( isStr X.P t ) ( (match opA T E F g x with
   | some (.str l)=>pv (.int .i64 (l.length:Int))
   | _=>none)
  ) none
 | .builtin .max,[x,y],[_,_]=>(match opA T E F g x,opA T E F g y with
  | some (.int k m),some (.int k' l)=>ifS ( fc k k' ) ( pv (.int k (max m l)) ) none
  | _,_=>none)
 | .builtin .min,[x,y],[_,_]=>(match opA T E F g x,opA T E F g y with
  | some (.int k m),some (.int k' l)=>ifS ( fc k k' ) ( pv (.int k (min m l)) ) none
  | _,_=>none)
 | _,_,_=>none
def RY (X:Cx) (T:Tbl) (E F:al) (g:GK):Op→CV
 | .move x=>(match opA T E F g x with
  | some v=>pv v
  | none=>none)
 | .assign x=>(match opA T E F g x with
  | some v=>pv v
  | none=>none)
 | .pick c a b=>ifS ( isF b ) ( (match GL T E F g true c a with
   | some y=>pv (.bool (y.1&&y.2))
   | none=>none)
  )<|ifS ( QT a ) ( (match GL T E F g false c b with
   | some y=>pv (.bool (y.1||y.2))
   | none=>none)
  ) none
 | .nilCheck x=>(match opA T E F g x with
  | some v=>ifS ( Sy v ) ( pv v ) none
  | none=>none)
 | .extract x i=>(match opA T E F g x with
  | some (.tuple l)=>(match l[i]? with
   | some v=>pv v
   | none=>none)
  | _=>none)
 | .unOp op _ x=>(match opA T E F g x with
  | some v=>Qj op v
  | none=>none)
 | .binOp op t x y _=>(match opA T E F g x with
  | some u=>(match opA T E F g y with
   | some v=>Mg X.P t op u v
   | none=>none)
  | none=>none)
 | .convert s d x=>(match opA T E F g x with
  | some (.int _ m)=>ifS ( Rz X.P s ) (match tyK X.P d with
   | some k=>pv (.int k (k.wrap m))
   | none=>none) none
  | _=>none)
 | .index t x y=>ifS ( isStr X.P t ) ( (match opA T E F g x,opA T E F g y with
   | some (.str l),some (.int _ i)=>some (some (inB i l.length),.int .u8 (Jh l i))
   | _,_=>none)
  ) none
 | .slice t x lo hi none=>ifS ( isStr X.P t ) ( (match opA T E F g x with
   | some (.str l)=>(match loA T E F g lo with
    | some i=>(match hiA T E F g hi with
     | some j=>some (some (fX i (j.getD (l.length:Int)) l.length),.str (cut l i (j.getD (l.length:Int))))
     | none=>none)
    | none=>none)
   | _=>none)
  ) none
 | .field t x k=>(match opA T E F g x with
  | some (.agg cs)=>(match MU X.P t k with
   | some f=>(match iD X.P f.1 (cs.drop f.2.1) with
    | some v=>pv v
    | none=>none)
   | none=>none)
  | _=>none)
 | .fieldAddr t x k=>(match MU X.P t k with
  | some f=>ifS ( Nat.beq f.2.2 0 ) none (match opA T E F g x with
   | some (.ptr id o)=>pv (.ptr id (o+f.2.1))
   | some (.adr id o)=>pv (.adr id (o+f.2.1))
   | _=>none)
  | none=>none)
 | .build t ps=>(match my T E F g (ps.toList.map (·.2)) with
  | some vs=>(match Jr X.P t ((ps.toList.map (·.1)).zip vs) with
   | some cs=>pv (.agg cs)
   | none=>none)
  | none=>none)
 | .makeFunc (.func f) a b=>(match my T E F g a.toList with
  | some us=>(match my T E F g b.toList with
   | some vs=>pv (.fn f us vs)
   | none=>none)
  | none=>none)
 | .makeInterface t x=>(match opA T E F g x with
  | some v=>ifS ( Ad X.P t ) ( pv (.ifc t v) ) none
  | none=>none)
 | .typeAssert x _ t false=>(match opA T E F g x with
  | some (.ifc t' v)=>ifS ( Nat.beq t t'&&Ad X.P t ) ( pv v ) none
  | _=>none)
 | .call c=>Jz X T E F g c.callee c.args.toList c.argTypes.toList
 | _=>none
theorem add_plain {b o k:Nat}:(⟨b,o,none⟩:Addr).add k=⟨b,o+k,none⟩:=by
 unfold Addr.add
 split
 ·rename_i h;subst h;rfl
 ·rfl
theorem add_add {a:Addr} {j k:Nat}:(a.add j).add k=a.add (j+k):=by
 by_cases hj:j=0
 ·subst hj
  have:a.add 0=a:=by simp [Addr.add]
  rw [this,Nat.zero_add]
 ·by_cases hk:k=0
  ·subst hk;simp [Addr.add]
  ·simp [Addr.add,hj,hk,Nat.add_assoc]
theorem Rp {α:Type} {l:List α} {v:α} (h:l.head? =some v):l[0]? =some v:=by
 cases l with
 | nil=>simp at h
 | cons a l=>simpa using h
section
variable {X : Cx} {ρ : Nms} {T : Tbl} {E F : al} {g : GK} {w : World} {dst : Option Tmp} {ty : TypeId} {pos : String} {af : Array Edge} {gd : Option (Nat × Bool)}
theorem kD {t:TypeId} {off:Nat} {cs:List AV} {v:AV} (h:iD X.P t (cs.drop off)=some v): ∃ d n bytes z,X.P.underlying t=some d∧(gR d=true→TI X.P t n bytes z)∧
  (if gR d then some (.agg (((AV.ah ρ cs).drop off).take n).toArray) else (AV.ah ρ cs)[off]?)=some (v.val ρ):=by
 unfold iD at h
 split at h
 ·rename_i d hd
  rcases cw h with ⟨h1,h2⟩ | ⟨h1,h2⟩
  ·split at h2
   ·rename_i x hx
    obtain ⟨n,bytes,z⟩:=x
    obtain ⟨h3,h4⟩:=ao h2
    cases h4
    refine ⟨d,n,bytes,z,hd,fun _=>bH hx,?_⟩
    rw [if_pos h1]
    simp only [AV.val,AV.gH,AV.eZ]
   ·cases h2
  ·refine ⟨d,0,0,.bool false,hd,(fun h=>by rw [h1] at h;cases h),?_⟩
   rw [if_neg (by rw [h1];simp)]
   have h3:=AV.HB (ρ:=ρ) (Rp h2)
   rw [AV.eZ,List.getElem?_drop] at h3
   simpa using h3
 ·cases h
theorem Mr {c:Callee} {xs:Array Operand} {ts:Array TypeId} {cv:Option Bool×AV} (h:Jz X T E F g c xs.toList ts.toList=some cv):
  j3 X.P (ai ρ T E F) ρ (T.get g) ⟨dst,.call ⟨c,xs,ts⟩,ty,pos,af,gd⟩ w cv:=by
 obtain ⟨xs⟩:=xs
 obtain ⟨ts⟩:=ts
 unfold Jz at h
 split at h
 ·rename_i x t e1 e2
  simp only at e1 e2;subst e1;subst e2
  obtain ⟨h1,h2⟩:=ao h
  split at h2
  ·rename_i l hx
   have:=az (ρ:=ρ) hx
   simp only [AV.val] at this
   exact .pv h2 (Qt (lB h1) this)
  ·cases h2
 ·rename_i x y t t' e1 e2
  simp only at e1 e2;subst e1;subst e2
  split at h
  ·rename_i k m k' l hx hy
   obtain ⟨h1,h2⟩:=ao h
   have:=iE h1;subst this
   have h3:=az (ρ:=ρ) hx
   have h4:=az (ρ:=ρ) hy
   simp only [AV.val] at h3 h4
   exact .pv h2 (Sf h3 h4 (P9 _ _ _ _ _))
  ·cases h
 ·rename_i x y t t' e1 e2
  simp only at e1 e2;subst e1;subst e2
  split at h
  ·rename_i k m k' l hx hy
   obtain ⟨h1,h2⟩:=ao h
   have:=iE h1;subst this
   have h3:=az (ρ:=ρ) hx
   have h4:=az (ρ:=ρ) hy
   simp only [AV.val] at h3 h4
   exact .pv h2 (Qp h3 h4 (P4 _ _ _ _ _))
  ·cases h
 ·cases h
theorem Qk {op:Op} {cv:Option Bool×AV} (hT:di T E F) (h:RY X T E F g op=some cv):
  j3 X.P (ai ρ T E F) ρ (T.get g) ⟨dst,op,ty,pos,af,gd⟩ w cv:=by
 unfold RY at h
 split at h
 ·split at h
  ·rename_i v hv;exact .pv h (ax (az hv))
  ·cases h
 ·split at h
  ·rename_i v hv;exact .pv h (cK (az hv))
  ·cases h
 ·rename_i c a b
  rcases cw h with ⟨h1,h2⟩ | ⟨_,h2⟩
  ·have:=UK h1;subst this
   split at h2
   ·rename_i y hy
    obtain ⟨k1,k2⟩:=Ju (ρ:=ρ) (b:=y.1) (y:=y.2) hT hy
    exact .pv h2 (Th k1 (by simpa [pG] using k2))
   ·cases h2
  ·obtain ⟨h1,h2⟩:=ao h2
   have:=Uv h1;subst this
   split at h2
   ·rename_i y hy
    obtain ⟨k1,k2⟩:=Ju (ρ:=ρ) (b:=y.1) (y:=y.2) hT hy
    exact .pv h2 (UL k1 (by simpa [pG] using k2))
   ·cases h2
 ·split at h
  ·rename_i v hv
   obtain ⟨h1,h2⟩:=ao h
   exact .pv h2 (N0 (az hv) h1)
  ·cases h
 ·split at h
  ·rename_i l hv
   split at h
   ·rename_i v hl
    have h3:=az (ρ:=ρ) hv
    simp only [AV.val] at h3
    exact .pv h (Ke h3 (AV.HB hl))
   ·cases h
  ·cases h
 ·split at h
  ·rename_i v hv;exact PN (az hv) h
  ·cases h
 ·split at h
  ·rename_i u hu
   split at h
   ·rename_i v hv
    exact NM (az hu) (az hv) h
   ·cases h
  ·cases h
 ·split at h
  ·rename_i k' m hx
   obtain ⟨h1,h2⟩:=ao h
   obtain ⟨ds,hds⟩:=Vk h1
   split at h2
   ·rename_i k hk
    have h3:=az (ρ:=ρ) hx
    simp only [AV.val] at h3
    exact .pv h2 (P7 hds (Cw hk) h3)
   ·cases h2
  ·cases h
 ·obtain ⟨h1,h2⟩:=ao h
  split at h2
  ·rename_i l k i hx hy
   have h3:=az (ρ:=ρ) hx
   have h4:=az (ρ:=ρ) hy
   simp only [AV.val] at h3 h4
   cases h2
   exact fun hc=>P6 (lB h1) h3 h4 (fun hg=>hc _ rfl hg)
  ·cases h2
 ·obtain ⟨h1,h2⟩:=ao h
  split at h2
  ·rename_i l hx
   split at h2
   ·rename_i i hi
    split at h2
    ·rename_i j hj
     have h3:=az (ρ:=ρ) hx
     simp only [AV.val] at h3
     cases h2
     exact fun hc=>QC (lB h1) h3 (C0 hi) (Dp hj) (fun hg=>hc _ rfl hg)
    ·cases h2
   ·cases h2
  ·cases h2
 ·split at h
  ·rename_i cs hx
   split at h
   ·rename_i f hf
    obtain ⟨ft,off,n⟩:=f
    split at h
    ·rename_i v hv
     obtain ⟨fs,f,i,k1,k2,k3,k4,k5,k6⟩:=Lk hf
     obtain ⟨d,n',bytes,z,c1,c2,c3⟩:=kD (ρ:=ρ) hv
     have h3:=az (ρ:=ρ) hx
     simp only [AV.val] at h3
     cases hd:gR d
     ·refine .pv h (fun n2 a hf hg=> ?_)
      have h5:=h3 n2 a hf hg
      rw [hd] at c3
      simp only [Bool.false_eq_true,if_false] at c3
      have hp:=Nj (P:=X.P) (w:=w) c1 hd c3
      subst k3;subst k4
      simp only [execOp,h5,Instr.field,Sem.run_bind,run_underlying k1,Result.andThen_ok,k2,asAgg,Sem.run_pure,hp]
     ·exact .pv h (Pj k1 k2 k3 k4 c1 (c2 hd) h3 c3)
    ·cases h
   ·cases h
  ·cases h
 ·split at h
  ·rename_i f hf
   obtain ⟨ft,off,n⟩:=f
   obtain ⟨fs,f,i,k1,k2,k3,k4,k5,k6⟩:=Lk hf
   obtain ⟨h1,h2⟩:=Ak h
   have hfo:Lh X.P _ _ off:=⟨fs,f,i,k1,k2,k4,by rw [k3];exact k5,by rw [k6];exact Nat.ne_of_beq_eq_false h1⟩
   split at h2
   ·rename_i id o hx
    have h3:=az (ρ:=ρ) hx
    simp only [AV.val] at h3
    refine .pv h2 ?_
    simp only [AV.val]
    have:=x5 (dst:=dst) (ty:=ty) (pos:=pos) (af:=af) (gd:=gd) (w:=w) hfo h3
    rwa [add_plain] at this
   ·rename_i id o hx
    have h3:=az (ρ:=ρ) hx
    simp only [AV.val] at h3
    refine .pv h2 ?_
    simp only [AV.val]
    have:=x5 (dst:=dst) (ty:=ty) (pos:=pos) (af:=af) (gd:=gd) (w:=w) hfo h3
    rwa [add_add] at this
   ·cases h2
  ·cases h
 ·rename_i t ps
  split at h
  ·rename_i vs hvs
   split at h
   ·rename_i cs hcs
    refine .pv h ?_
    simp only [AV.val]
    have h3:=eY (ρ:=ρ) hvs
    have:=N9 (P:=X.P) (w:=w) (dst:=dst) (ty:=ty) (pos:=pos) (af:=af) (gd:=gd) (t:=t) (v:= .agg (AV.ah ρ cs).toArray) h3 (fun w=>by
     rw [← xQ];exact NQ hcs)
    simpa using this
   ·cases h
  ·cases h
 ·rename_i f a b
  split at h
  ·rename_i us hus
   split at h
   ·rename_i vs hvs
    refine .pv h ?_
    simp only [AV.val]
    have:=yx (P:=X.P) (w:=w) (dst:=dst) (ty:=ty) (pos:=pos) (af:=af) (gd:=gd) (fn:= .func f) (eY (ρ:=ρ) hus) (eY (ρ:=ρ) hvs)
    simpa using this
   ·cases h
  ·cases h
 ·split at h
  ·rename_i v hv
   obtain ⟨h1,h2⟩:=ao h
   obtain ⟨d,k1,k2⟩:=DB h1
   refine .pv h2 ?_
   simp only [AV.val]
   exact J8 k1 k2 (az hv)
  ·cases h
 ·split at h
  ·rename_i t' v hv
   obtain ⟨h1,h2⟩:=ao h
   simp only [Bool.and_eq_true] at h1
   obtain ⟨d,k1,k2⟩:=DB h1.2
   have h3:=az (ρ:=ρ) hv
   simp only [AV.val] at h3
   have e:=Nat.eq_of_beq_eq_true h1.1
   subst e
   exact .pv h2 (JG k1 k2 h3)
  ·cases h
 ·exact Mr h
 ·cases h
end
end Go.Proofs.YtgcgmclghbebjaaGreat
namespace Go.Proofs.YtgcgmclghbebjaaGreat
open Go.Lib
def nT (G H:List Row):AV→AV
 | .nv u=>(match cz G H (isEq u) with
  | some (_,.eq _ v)=>v
  | _=> .nv u)
 | v=>v
theorem HU {ρ:Nms} {T:Tbl} {G H:List Row} {Φ:Ctx} {w:World} (hs:Sat (items ρ T G++(items ρ T H++Φ)) w) {v:AV}:(nT G H v).val ρ=v.val ρ:=by
 unfold nT
 split
 ·rename_i u
  split
  ·rename_i s j v' h
   obtain ⟨h1,h2⟩:=ba h
   have h3:=Src.holds hs h1
   have:j=u:=Nat.eq_of_beq_eq_true h2
   subst this
   simp only [AV.val]
   exact h3.symm
  ·rfl
 ·rfl
theorem zq {ρ:Nms} {T:Tbl} {G H:List Row} {Φ:Ctx} {w:World} (hs:Sat (items ρ T G++(items ρ T H++Φ)) w):(l:List AV)→AV.ah ρ (l.map (nT G H))=AV.ah ρ l
 | []=>rfl
 | v::l=>by simp only [List.map_cons,AV.ah];rw [HU hs,zq hs l]
def CS:Ty→Bool
 | .i _ | .bo | .s | .un | .n=>true
 | .p x y=>CS x&&CS y
 | _=>false
def pP:(t:Ty)→t.T→List AV
 | .i k,x=>[.int k x]
 | .bo,x=>[.bool x]
 | .s,x=>[.str x]
 | .n,x=>[.ifc x (.agg [])]
 | .p a b,x=>pP a x.1++pP b x.2
 | _,_=>[]
theorem BD {ρ:Nms} {M:Nat→Prop} {w:World}:(t:Ty)→(x:t.T)→(vs:List Value)→CS t=true→t.rep.rd M w vs x→vs=AV.ah ρ (pP t x)
 | .i k,x,vs,_,h=>by simp only [pP,AV.ah,AV.val];exact h
 | .bo,x,vs,_,h=>by simp only [pP,AV.ah,AV.val];exact h
 | .s,x,vs,_,h=>by simp only [pP,AV.ah,AV.val];exact h
 | .un,x,vs,_,h=>by simp only [pP,AV.ah];exact h
 | .p a b,x,vs,hf,h=>by
  simp only [CS,Bool.and_eq_true] at hf
  obtain ⟨us,us',rfl,h1,h2⟩:=h
  rw [pP,bK,← BD a x.1 us hf.1 h1,← BD b x.2 us' hf.2 h2]
 | .l _,_,_,hf,_=>by cases hf
 | .ex,_,_,hf,_=>by cases hf
 | .n,x,vs,_,h=>by simp only [pP,AV.ah,AV.val];exact h
 | .mp _ _,_,_,hf,_=>by cases hf
def IK (T:Tbl) (G H:List Row) (g:GK) (q off:Nat):Option (List AV):=match cz G H (Cj q) with
 | some (_,.kn g' _ id ver u _ x)=>ifS ( T.imp g g'&&CS u ) ( match cz G H (jQ id) with
  | some (_,.own _ _ _ _ ver')=>ifS ( Nat.beq ver ver' ) ( some ((pP u x).drop off) ) none
  | _=>none ) none
 | _=>none
theorem Ac {t t':Ty} {l:List t.T} {l':List t'.T} {y:Dyn} (h:y=⟨.l t,l⟩) (h':y=⟨.l t',l'⟩): ∃ e:t=t',e▸l=l':=by
 rw [h] at h'
 cases h'
 exact ⟨rfl,rfl⟩
theorem Ou {ρ:Nms} {T:Tbl} {G H:List Row} {Φ:Ctx} {w:World} {g:GK} {q off:Nat} {vs:List AV} (hs:Sat (items ρ T G++(items ρ T H++Φ)) w) (h:IK T G H g q off=some vs) (hg:T.get g=true):
  aM w ((ρ q).a.add off) (AV.ah ρ vs):=by
 unfold IK at h
 split at h
 ·rename_i s g' q' id ver u i xe hf
  obtain ⟨h1,h2⟩:=ao h
  simp only [Bool.and_eq_true] at h1
  split at h2
  ·rename_i s2 id' u' e l ver' hf2
   obtain ⟨h3,h4⟩:=ao h2
   cases h4
   obtain ⟨f1,f2⟩:=ba hf
   obtain ⟨f3,f4⟩:=ba hf2
   have e1:q'=q:=Nat.eq_of_beq_eq_true f2
   have e2:id'=id:=Nat.eq_of_beq_eq_true f4
   have e3:ver=ver':=Nat.eq_of_beq_eq_true h3
   subst e1;subst e2;subst e3
   obtain ⟨hO,hy2⟩:=Src.holds hs f3
   obtain ⟨l0,b1,b2,b3⟩:=(Src.holds hs f1) (Tbl.gZ h1.1 hg)
   obtain ⟨e4,e5⟩:=Ac b1 hy2
   subst e4
   simp only at e5
   subst e5
   obtain ⟨_,us,e6,e7⟩:=hO.atA b2
   rw [BD (ρ:=ρ) u xe us h1.2 e7] at e6
   rw [← b3] at e6
   refine e6.sub _ ?_
   rw [AV.eZ,List.take_of_length_le (Nat.le_refl _)]
  ·cases h2
 ·cases h
def qc (T:Tbl) (G H:List Row) (g:GK):AV→Option (List AV)
 | .ptr id off=>(match cz G H (pR id) with
  | some (_,.box _ _ vs)=>some ((vs.drop off).map (nT G H))
  | _=>none)
 | .adr id off=>(match cz G H (VM id) with
  | some (_,.elm g' _ vs)=>ifS ( T.imp g g' ) ( some (vs.drop off) ) none
  | _=>IK T G H g id off)
 | _=>none
theorem zV {ρ:Nms} {T:Tbl} {G H:List Row} {Φ:Ctx} {w:World} {g:GK} {v:AV} {vs:List AV} (hs:Sat (items ρ T G++(items ρ T H++Φ)) w) (h:qc T G H g v=some vs) (hg:T.get g=true):
  ∃ p,v.val ρ= .pointer (some p)∧aM w p (AV.ah ρ vs):=by
 have sub: ∀ {p:Addr} {us:List AV} {off:Nat},aM w p (AV.ah ρ us)→aM w (p.add off) (AV.ah ρ (us.drop off)):=fun h=>by
  refine h.sub _ ?_
  rw [AV.eZ,List.take_of_length_le (Nat.le_refl _)]
 unfold qc at h
 split at h
 ·rename_i id off
  split at h
  ·rename_i s j t us hf
   cases h
   obtain ⟨h1,h2⟩:=ba hf
   have:j=id:=Nat.eq_of_beq_eq_true h2
   subst this
   have hb:cG w (ρ j).b t (AV.ah ρ us):=Src.holds hs h1
   refine ⟨⟨(ρ j).b,off,none⟩,by simp only [AV.val],?_⟩
   rw [zq hs,AV.eZ]
   exact hb.part off (by rw [List.take_of_length_le (Nat.le_refl _)])
  ·cases h
 ·rename_i id off
  split at h
  ·rename_i s g' j us hf
   obtain ⟨h3,h4⟩:=ao h
   cases h4
   obtain ⟨h1,h2⟩:=ba hf
   have:j=id:=Nat.eq_of_beq_eq_true h2
   subst this
   have hb:=Src.holds hs h1
   exact ⟨_,by simp only [AV.val],sub (hb (Tbl.gZ h3 hg)).2⟩
  ·exact ⟨(ρ id).a.add off,by simp only [AV.val],Ou hs h hg⟩
 ·cases h
def Ix (t:Ty) (v:AV):Option t.T:=match t,v with
 | .i k,.int k' x=>ifS ( fc k k' ) ( some x ) none
 | .s,.str x=>some x
 | .bo,.bool x=>some x
 | _,_=>none
theorem Ej {ρ:Nms} {t:Ty} {v:AV} {x:t.T} (h:Ix t v=some x):v.val ρ=uN t x:=by
 unfold Ix at h
 split at h
 ·obtain ⟨h1,h2⟩:=ao h
  have:=iE h1;subst this
  cases h2
  simp only [AV.val];rfl
 ·cases h;simp only [AV.val];rfl
 ·cases h;simp only [AV.val];rfl
 ·cases h
def Mf (t:Ty) (x:t.T):AV:=match t,x with
 | .i k,x=> .int k x
 | .s,x=> .str x
 | .bo,x=> .bool x
 | _,_=> .bool false
theorem KT {ρ:Nms} {t:Ty} {x:t.T}:(Mf t x).val ρ=uN t x:=by
 cases t <;> simp only [Mf,uN,AV.val]
instance keyBEq (t:Ty):BEq t.T:=match t with
 | .i _=>(inferInstance:BEq Int)
 | .s=>(inferInstance:BEq Str)
 | .bo=>(inferInstance:BEq Bool)
 | _=>⟨fun _ _=>false⟩
def Ty.lD:(t:Ty)→t.T
 | .i _=>(0:Int)
 | .bo=>false
 | .s=>([]:Str)
 | .un=>()
 | .n=>(0:Nat)
 | .p x y=>(x.lD,y.lD)
 | .l x=>([]:List x.T)
 | .mp k v=>(none:Option (List (k.T×v.T)))
 | .ex=>Ex.mk 0 0 0 []
def Mn (P:Program) (kt:TypeId) (k:Ty):Bool:=match k with
 | .i k=>(match tyK P kt with
  | some k'=>fc k k'
  | none=>false)
 | .s=>isStr P kt
 | _=>false
theorem DZ {P:Program} {kt:TypeId} {k:Ty} (h:Mn P kt k=true):sw P kt (uN k):=by
 unfold Mn at h
 split at h
 ·split at h
  ·rename_i k' hk
   have:=iE h;subst this
   exact sw.int (Cw hk)
  ·cases h
 ·exact sw.str (lB h)
 ·cases h
def M7 (v:Ty) (z:Value):Bool:=match v,z with
 | .i k,.int k' x=>fc k k'&&decide (x=0)
 | .bo,.bool b=> !b
 | .s,.string b=>b.data.toList.isEmpty
 | _,_=>false
theorem Qw {v:Ty} {z:Value} (h:M7 v z=true):z=uN v v.lD:=by
 unfold M7 at h
 split at h
 ·simp only [Bool.and_eq_true,decide_eq_true_eq] at h
  have:=iE h.1;subst this
  rw [h.2];rfl
 ·rename_i b;cases b
  ·rfl
  ·cases h
 ·rename_i b
  have:b.data.toList=[]:=by simpa using h
  show _=S []
  unfold S
  rw [← this]
 ·cases h
def EO (P:Program) (t:TypeId):Option (TypeId×TypeId):=match P.underlying t with
 | some (.map k v)=>some (k,v)
 | _=>none
theorem o8 {P:Program} {t:TypeId} {p:TypeId×TypeId} (h:EO P t=some p):P.underlying t=some (.map p.1 p.2):=by
 unfold EO at h
 split at h
 ·rename_i k v hk;cases h;exact hk
 ·cases h
def eI (P:Program) (t:TypeId):Option TypeId:=match P.underlying t with
 | some (.slice e)=>some e
 | _=>none
theorem bq {P:Program} {t e:TypeId} (h:eI P t=some e):P.underlying t=some (.slice e):=by
 unfold eI at h
 split at h
 ·rename_i k hk;cases h;exact hk
 ·cases h
structure SlA where
 g:GK
 t:Ty
 l:List t.T
def slA (G H:List Row) (id:Nat):Option SlA:=match cz G H (jQ id) with
 | some (_,.sli g _ t l _)=>some ⟨g,t,l⟩
 | some (_,.own _ t _ l _)=>some ⟨none,t,l⟩
 | _=>none
theorem HQ {ρ:Nms} {T:Tbl} {G H:List Row} {Φ:Ctx} {w:World} {id:Nat} {s:SlA} (hs:Sat (items ρ T G++(items ρ T H++Φ)) w) (h:slA G H id=some s) (hg:T.get s.g=true):
  (SRd s.t.rep (Ctx.M (items ρ T G++(items ρ T H++Φ))) w (sl (ρ id).v) s.l)∨ ∃ e,Own s.t.rep e (Ctx.M (items ρ T G++(items ρ T H++Φ))) w (sl (ρ id).v) s.l (slR (ρ id).v):=by
 unfold slA at h
 split at h
 ·rename_i s' g j t l b hf
  cases h
  obtain ⟨h1,h2⟩:=ba hf
  have:j=id:=Nat.eq_of_beq_eq_true h2
  subst this
  exact .inl ((Src.holds hs h1) hg).1
 ·rename_i s' j t e l ks hf
  cases h
  obtain ⟨h1,h2⟩:=ba hf
  have:j=id:=Nat.eq_of_beq_eq_true h2
  subst this
  exact .inr ⟨e,(Src.holds hs h1).1⟩
 ·cases h
theorem Eu {ρ:Nms} {T:Tbl} {G H:List Row} {Φ:Ctx} {w:World} {id:Nat} {s:SlA} (hs:Sat (items ρ T G++(items ρ T H++Φ)) w) (h:slA G H id=some s) (hg:T.get s.g=true):Len (sl (ρ id).v) s.l.length:=by
 rcases HQ hs h hg with h | ⟨e,h⟩
 ·exact h.len
 ·exact h.len
theorem T7 {ρ:Nms} {T:Tbl} {G H:List Row} {Φ:Ctx} {w:World} {id:Nat} {s:SlA} (hs:Sat (items ρ T G++(items ρ T H++Φ)) w) (h:slA G H id=some s) (hg:T.get s.g=true):SRd s.t.rep (fun _=>False) w (sl (ρ id).v) s.l:=by
 rcases HQ hs h hg with h | ⟨e,h⟩
 ·exact h.mv (Mv.weaken w fun _ h=>h.elim)
 ·exact h.freeze (fun _ _ h=>h) (Mv.weaken w fun _ h=>h.elim)
def RT (T:Tbl) (G H:List Row) (g:GK) (v:AV):Option (List Int):=match v with
 | .sl id=>(match slA G H id with
  | some ⟨g',.i .u8,l⟩=>ifS ( T.imp g g' ) ( some l ) none
  | _=>none)
 | .raw (.slice none 0 0)=>some []
 | _=>none
theorem T1 {ρ:Nms} {T:Tbl} {G H:List Row} {Φ:Ctx} {w:World} {g:GK} {v:AV} {l:List Int} (hs:Sat (items ρ T G++(items ρ T H++Φ)) w) (h:RT T G H g v=some l) (hg:T.get g=true):SRd (RI .u8) (fun _=>False) w (v.val ρ) l:=by
 unfold RT at h
 split at h
 ·split at h
  ·rename_i g' l' hl
   obtain ⟨h1,h2⟩:=ao h
   cases h2
   have:=T7 hs hl (Tbl.gZ h1 hg)
   simp only [AV.val]
   exact this
  ·cases h
 ·cases h;simp only [AV.val];exact SRd.nil
 ·cases h
def Jd (X:Cx) (T:Tbl) (E F:al) (G H:List Row) (g:GK) (c:Callee) (xs:List Operand) (ts:List TypeId):CV:=match c,xs,ts with
 | .builtin .len,[x],[t]=>(match eI X.P t with
  | some _=>(match opA T E F g x with
   | some (.sl id)=>(match slA G H id with
    | some s=>ifS ( T.imp g s.g ) ( pv (.int .i64 (s.l.length:Int)) ) none
    | none=>none)
   | some (.raw (.slice none 0 0))=>pv (.int .i64 0)
   | _=>none)
  | none=>none)
 | _,_,_=>none
def LD (X:Cx) (T:Tbl) (E F:al) (G H:List Row) (g:GK) (op:BinOp) (t:TypeId) (x y:Operand):CV:=match EO X.P t with
 | some _=>(match opA T E F g y with
  | some (.raw (.map none))=>(match opA T E F g x with
   | some (.mp id)=>(match cz G H (Nw id) with
    | some (_,.mp _ _ _ d)=>(match op with
     | .eql=>pv (.bool (Option.isNone d))
     | .neq=>pv (.bool (!(Option.isNone d)))
     | _=>none)
    | _=>none)
   | some (.raw (.map none))=>(match op with
    | .eql=>pv (.bool true)
    | .neq=>pv (.bool false)
    | _=>none)
   | _=>none)
  | _=>none)
 | none=>none
def RX (X:Cx) (T:Tbl) (E F:al) (G H:List Row) (g:GK):Op→CV
 | .load t x=>(match opA T E F g x with
  | some v=>(match qc T G H g v with
   | some cs=>(match iD X.P t cs with
    | some v=>pv v
    | none=>none)
   | none=>none)
  | none=>none)
 | .convert s d x=>ifS ( isStr X.P d ) ( (match eI X.P s with
  | some e=>(match tyK X.P e with
   | some .u8=>(match opA T E F g x with
    | some v=>(match RT T G H g v with
     | some l=>pv (.str (strOf l))
     | none=>none)
    | none=>none)
   | _=>none)
  | none=>none) ) none
 | .lookup t x y ok=>(match EO X.P t with
  | some p=>(match opA T E F g x with
   | some (.mp id)=>(match opA T E F g y with
    | some kv=>(match cz G H (Nw id) with
     | some (_,.mp _ k v d)=>(match tiA X.P p.2 with
      | some z=>ifS ( Mn X.P p.1 k&&M7 v z.2.2 ) ( (match Ix k kv with
       | some key=>ifS ( ok ) ( pv (.tuple [Mf v (dL d key v.lD),.bool (Ee d key)]) )<|pv (Mf v (dL d key v.lD))
       | none=>none) ) none
      | none=>none)
     | _=>none)
    | none=>none)
   | _=>none)
  | none=>none)
 | .call c=>Jd X T E F G H g c.callee c.args.toList c.argTypes.toList
 | .binOp op t x y _=>LD X T E F G H g op t x y
 | _=>none
section
variable {X : Cx} {ρ : Nms} {T : Tbl} {E F : al} {G H : List Row} {Φ : Ctx} {g : GK} {w : World} {dst : Option Tmp} {ty : TypeId} {pos : String} {af : Array Edge} {gd : Option (Nat × Bool)}
theorem Mh {P:Program} {Ev:Env} {b:Bool} {o:Oper} {v:Value} (h:b=true→Run P Ev b o w v):Run P Ev b o w v:=fun n a hf hg=>h hg n a hf hg
theorem QD {x:Operand} {t:TypeId} {u v:AV} {cs:List AV} (hs:Sat (items ρ T G++(items ρ T H++Φ)) w) (hx:opA T E F g x=some u) (hc:qc T G H g u=some cs) (h:iD X.P t cs=some v):
  Run X.P (ai ρ T E F) (T.get g) ⟨dst,.load t x,ty,pos,af,gd⟩ w (v.val ρ):=Mh fun hg=>by
 obtain ⟨p,hp,hc⟩:=zV hs hc hg
 have hx':=az (ρ:=ρ) hx
 rw [hp] at hx'
 have h':iD X.P t (cs.drop 0)=some v:=by simpa using h
 obtain ⟨d,n,bytes,z,c1,c2,c3⟩:=kD (ρ:=ρ) h'
 cases hd:gR d
 ·rw [hd] at c3
  simp only [Bool.false_eq_true,if_false] at c3
  refine zw c1 hd hx' (fun _=> ?_)
  have:=hc.sub (us:=[v.val ρ]) 0 (by
   cases hq:AV.ah ρ cs with
   | nil=>rw [hq] at c3;cases c3
   | cons a l=>rw [hq] at c3;cases c3;simp)
  simpa [Addr.add] using this
 ·unfold iD at h
  rw [c1] at h
  rcases cw h with ⟨_,h2⟩ | ⟨h1,_⟩
  ·split at h2
   ·rename_i q hq
    obtain ⟨n,bytes,z⟩:=q
    obtain ⟨h3,h4⟩:=ao h2
    cases h4
    have hl:n≤cs.length:=Nat.le_of_ble_eq_true h3
    simp only [AV.val]
    refine zj c1 hd (bH hq) hx' (fun _=> ?_) ?_
    ·have:=hc.sub (us:=AV.ah ρ (cs.take n)) 0 (by
      rw [AV.gH,List.drop_zero,List.length_take,AV.aH,Nat.min_eq_left hl])
     simpa [Addr.add] using this
    ·rw [AV.aH,List.length_take,Nat.min_eq_left hl]
   ·cases h2
  ·rw [hd] at h1;cases h1
theorem Lv {c:Callee} {xs:Array Operand} {ts:Array TypeId} {cv:Option Bool×AV} (hs:Sat (items ρ T G++(items ρ T H++Φ)) w) (h:Jd X T E F G H g c xs.toList ts.toList=some cv):
  j3 X.P (ai ρ T E F) ρ (T.get g) ⟨dst,.call ⟨c,xs,ts⟩,ty,pos,af,gd⟩ w cv:=by
 obtain ⟨xs⟩:=xs
 obtain ⟨ts⟩:=ts
 unfold Jd at h
 split at h
 ·rename_i x t e1 e2
  simp only at e1 e2;subst e1;subst e2
  split at h
  ·rename_i e he
   split at h
   ·rename_i id hx
    have h3:=az (ρ:=ρ) hx
    simp only [AV.val] at h3
    split at h
    ·rename_i s hsl
     obtain ⟨h1,h2⟩:=ao h
     exact .pv h2 (Mh fun hg=>yE (bq he) h3 (Eu hs hsl (Tbl.gZ h1 hg)))
    ·cases h
   ·rename_i hx
    have h3:=az (ρ:=ρ) hx
    simp only [AV.val] at h3
    exact .pv h (yE (n:=0) (bq he) h3 ⟨_,_,rfl⟩)
   ·cases h
  ·cases h
 ·cases h
theorem NV {op:BinOp} {t t':TypeId} {x y:Operand} {cv:Option Bool×AV} (hs:Sat (items ρ T G++(items ρ T H++Φ)) w) (h:LD X T E F G H g op t x y=some cv):
  j3 X.P (ai ρ T E F) ρ (T.get g) ⟨dst,.binOp op t x y t',ty,pos,af,gd⟩ w cv:=by
 unfold LD at h
 split at h
 ·rename_i p hp
  split at h
  ·rename_i hy
   have h4:=az (ρ:=ρ) hy
   simp only [AV.val] at h4
   split at h
   ·rename_i id hx
    have h3:=az (ρ:=ρ) hx
    simp only [AV.val] at h3
    split at h
    ·rename_i s j k v d hf
     obtain ⟨f1,f2⟩:=ba hf
     have:j=id:=Nat.eq_of_beq_eq_true f2
     subst this
     have hb:=Src.holds hs f1
     split at h
     ·exact .pv h (CI (o8 hp) h3 h4 hb)
     ·exact .pv h (Dj (o8 hp) h3 h4 hb)
     ·cases h
    ·cases h
   ·rename_i hx
    have h3:=az (ρ:=ρ) hx
    simp only [AV.val] at h3
    split at h
    ·exact .pv h (JJ (o8 hp) h3 h4)
    ·exact .pv h (J6 (o8 hp) h3 h4)
    ·cases h
   ·cases h
  ·cases h
 ·cases h
theorem Pq {op:Op} {cv:Option Bool×AV} (hs:Sat (items ρ T G++(items ρ T H++Φ)) w) (h:RX X T E F G H g op=some cv):
  j3 X.P (ai ρ T E F) ρ (T.get g) ⟨dst,op,ty,pos,af,gd⟩ w cv:=by
 unfold RX at h
 split at h
 ·split at h
  ·rename_i v hv
   split at h
   ·rename_i cs hcs
    split at h
    ·rename_i v' hv'
     exact .pv h (QD hs hv hcs hv')
    ·cases h
   ·cases h
  ·cases h
 ·obtain ⟨h1,h2⟩:=ao h
  split at h2
  ·rename_i e he
   split at h2
   ·rename_i hk
    split at h2
    ·rename_i v hv
     split at h2
     ·rename_i l hl
      refine .pv h2 (Mh fun hg=> ?_)
      have h3:=az (ρ:=ρ) hv
      simp only [AV.val]
      exact TR (M:=fun _=>False) (bq he) (Cw hk) (lB h1) h3 (fun _=>T1 hs hl hg)
     ·cases h2
    ·cases h2
   ·cases h2
  ·cases h2
 ·rename_i t x y ok
  split at h
  ·rename_i p hp
   split at h
   ·rename_i id hx
    split at h
    ·rename_i kv hy
     split at h
     ·rename_i s j k v d hf
      split at h
      ·rename_i z hz
       obtain ⟨h1,h2⟩:=ao h
       simp only [Bool.and_eq_true] at h1
       split at h2
       ·rename_i key hkey
        obtain ⟨f1,f2⟩:=ba hf
        have:j=id:=Nat.eq_of_beq_eq_true f2
        subst this
        have hb:=Src.holds hs f1
        have h3:=az (ρ:=ρ) hx
        have h4:=az (ρ:=ρ) hy
        simp only [AV.val] at h3
        rw [Ej hkey] at h4
        obtain ⟨z1,z2,z3⟩:=z
        have hz':(zeroValue p.2).run X.P w= .ok (uN v v.lD) w:=by
         rw [← Qw h1.2];exact (bH hz).zero w
        cases ok
        ·refine .pv h2 ?_
         rw [KT]
         exact L8 (DZ h1.1) (o8 hp) hz' h3 h4 (fun _=>hb)
        ·refine .pv h2 ?_
         simp only [AV.val,AV.ah]
         rw [KT]
         exact H2 (DZ h1.1) (o8 hp) hz' h3 h4 (fun _=>hb)
       ·cases h2
      ·cases h
     ·cases h
    ·cases h
   ·cases h
  ·cases h
 ·exact Lv hs h
 ·exact NV hs h
 ·cases h
end
def aQ (P:Program) (E:Env) (o:Oper) (w:World) (R:Value→World→Prop):Prop:=
 ∀ n a,Fits n E a→(∃ v w',(execOp a.eval o).run P w= .ok (.value v) w'∧R v w')∨(∃ w',(execOp a.eval o).run P w= .ok .skip w'∧R undef w')∨
  (∃ (f:FuncId) (args:List Value),(execOp a.eval o).run P w= .ok (.enter f args.toArray) w∧fg P f args w R)
section
variable {P : Program} {σ : Option Nat} {Q : aI} {n : Nat} {D : List Deferred} {E : Env} {w : World} {ops : Array Oper} {rest : List Oper} {o : Oper} {R S : Value → World → Prop}
theorem aQ.mono (h:aQ P E o w R) (k: ∀ v w',R v w'→S v w'):aQ P E o w S:=fun n a hf=>by
 rcases h n a hf with ⟨v,w',h1,h2⟩ | ⟨w',h1,h2⟩ | ⟨f,args,h1,h2⟩
 ·exact .inl ⟨v,w',h1,k _ _ h2⟩
 ·exact .inr (.inl ⟨w',h1,k _ _ h2⟩)
 ·exact .inr (.inr ⟨f,args,h1,h2.mono k⟩)
theorem aQ.run {v:Value} (h:Run P E true o w v) (k:R v w):aQ P E o w R:=fun n a hf=> .inl ⟨v,w,h n a hf rfl,k⟩
theorem aQ.kT {v:Value} {w':World} (h:j4 P E o w v w') (k:R v w'):aQ P E o w R:=fun n a hf=> .inl ⟨v,w',h n a hf,k⟩
theorem aQ.Lt {w':World} (h:yQ P E o w w') (k:R undef w'):aQ P E o w R:=fun n a hf=> .inr (.inl ⟨w',h n a hf,k⟩)
theorem aQ.upon (hd:aQ P E o w R) {a:Act} (hf:Fits n E a) {next:Act→World→Prop} (h: ∀ v w',R v w'→next (a.put o.dst v) w'):o.uponIn (FW σ) 0 P a next Q ((execOp a.eval o).run P w):=by
 rcases hd n a hf with ⟨v,w',h1,h2⟩ | ⟨w',h1,h2⟩ | ⟨f,args,h1,h2⟩
 ·rw [h1,Oper.uponIn_value];exact h _ _ h2
 ·rw [h1,Oper.uponIn_skip];exact h _ _ h2
 ·rw [h1];exact qT h2 (fun v w' hv=>h v w' hv) (fun _ _ hv=>hv.elim)
def lv (dst:Option Tmp) (g:Bool) (v:Value) (E:Env):Env:=match dst with
 | some d=>(d,g,v)::E
 | none=>E
def zd (n:Nat):Option Tmp→Bool
 | some d=>Nat.blt d n
 | none=>true
theorem Fits.lv {E:Env} {a:Act} (h:Fits n E a) {d:Option Tmp} {g:Bool} {v:Value} (hd:zd n d=true):Fits n (lv d g v E) (a.put d (qH g v)):=by
 cases d with
 | none=>exact h
 | some d=>exact h.put hd
theorem Tn (hd:aQ P E o w R) (hp:eO o=true) (hg:o.guard=none) (hn:zd n o.dst=true)
  (h: ∀ v w',R v w'→WL P σ ops Q n D rest (lv o.dst true v E) w'):WL P σ ops Q n D (o::rest) E w:=fun a hf hD=>
 wpListIn_plain hg fun K hK=>fP hp (hd.upon hf fun v w' hv=>hK _ _ (h v w' hv _ (hf.lv hn) (by rw [fD];exact hD)))
theorem R6 {j:Nat} {pol:Bool} {rj:Tmp} {gj bj:Bool} {g:Bool} (hd:g=true→aQ P E o w R) (h0:g=false→ ∃ v,R v w) (hp:eO o=true) (hgd:o.guard=some (j,pol)) (hj:(ops[j]?).bind (·.dst)=some rj)
  (hl:look E rj=some (gj,.bool bj)) (hnj:Nat.blt rj n=true) (hG:(gj&&(bj==pol))=g) (hn:zd n o.dst=true)
  (h: ∀ v w',R v w'→WL P σ ops Q n D rest (lv o.dst g v E) w'):WL P σ ops Q n D (o::rest) E w:=fun a hf hD=>
 wpListIn_step fun K hK=>by
  rw [qp hgd hj hl hf hnj,hG]
  cases g
  ·simp only [Bool.false_eq_true,if_false]
   obtain ⟨v,hv⟩:=h0 rfl
   have:=hf.lv (d:=o.dst) (g:=false) (v:=v) hn
   exact ⟨fun _ _=>trivial,hK _ _ (h _ _ hv _ this (by rw [fD];exact hD))⟩
  ·simp only [if_true]
   exact fP hp ((hd rfl).upon hf fun v w' hv=>hK _ _ (h v w' hv _ (hf.lv hn) (by rw [fD];exact hD)))
end
end Go.Proofs.YtgcgmclghbebjaaGreat
namespace Go.Proofs.YtgcgmclghbebjaaGreat
open Go.Lib
abbrev Go_ (R:Type):=StB→Option R
def bC (dst:Option Tmp) (g:GK) (v:AV) (E:al):al:=match dst with
 | some d=>(d,g,v)::E
 | none=>E
def aB {R:Type} (r:R) (K:Go_ R) (T:Tbl) (fr:Fr) (st:StB) (g:GK) (dst:Option Tmp) (ρ:Nms) (Φ:Ctx) (v:Value) (w':World):Prop:=
 ∃ (ρ':Nms) (st':StB) (av:AV),K st'=some r∧aA st.c ρ ρ'∧st.c≤st'.c∧st'.E=bC dst g av st.E∧av.val ρ'=v∧ai ρ' T st.E fr.F=ai ρ T st.E fr.F∧
  items ρ' T fr.H=items ρ T fr.H∧Sat (items ρ' T st'.G++(items ρ' T fr.H++Φ)) w'
def Ok2 (P:Program) (T:Tbl) (g:GK) (Ev:Env) (o:Oper) (w:World) (O:Value→World→Prop):Prop:=
 (T.get g=true→aQ P Ev o w O)∧(T.get g=false→ ∃ v,O v w)
section
variable {R : Type} {r : R} {K : Go_ R} {T : Tbl} {fr : Fr} {st st' : StB} {g : GK} {dst : Option Tmp} {ρ ρ' : Nms} {Φ : Ctx} {v : Value} {w w' : World}
theorem StB.bz:st.low fr=true↔al.low st.c st.E=true∧al.low st.c fr.F=true∧aU st.c st.G=true∧aU st.c fr.H=true:=by
 simp only [StB.low,Bool.and_eq_true,and_assoc]
theorem kh (hl:st.low fr=true) (ha:aA st.c ρ ρ'):ai ρ' T st.E fr.F=ai ρ T st.E fr.F:=by
 obtain ⟨h1,h2,_,_⟩:=StB.bz.1 hl
 rw [ai,lA ha h1,lA ha h2]
theorem aB.new {av:AV} (hl:st.low fr=true) (hK:K st'=some r) (ha:aA st.c ρ ρ') (hc:st.c≤st'.c) (hE:st'.E=bC dst g av st.E) (hv:av.val ρ'=v)
  (hs:Sat (items ρ' T st'.G++(items ρ T fr.H++Φ)) w'):aB r K T fr st g dst ρ Φ v w':=by
 have e:=aF (T:=T) ha (StB.bz.1 hl).2.2.2
 exact ⟨ρ',st',av,hK,ha,hc,hE,hv,kh hl ha,e,by rw [e];exact hs⟩
theorem aB.old {av:AV} (hK:K st'=some r) (hc:st.c≤st'.c) (hE:st'.E=bC dst g av st.E) (hv:av.val ρ=v)
  (hs:Sat (items ρ T st'.G++(items ρ T fr.H++Φ)) w'):aB r K T fr st g dst ρ Φ v w':=
 ⟨ρ,st',av,hK,.refl,hc,hE,hv,rfl,rfl,hs⟩
theorem aB.push {av:AV} {x:Nm} {row:Row} (hl:st.low fr=true) (hK:K { st with c:=st.c+1,E:=bC dst g av st.E,G:=row::st.G }=some r) (hv:av.val (ρ.set st.c x)=v)
  (hs:Sat (row.item (ρ.set st.c x) T::(items ρ T st.G++(items ρ T fr.H++Φ))) w'):aB r K T fr st g dst ρ Φ v w':=by
 refine aB.new hl hK Nms.aD (Nat.le_succ _) rfl hv ?_
 have e:=aF (T:=T) (Nms.aD (ρ:=ρ) (j:=st.c) (x:=x)) (StB.bz.1 hl).2.2.1
 show Sat (items (ρ.set st.c x) T (row::st.G)++_) w'
 rw [items,List.map_cons]
 rw [items] at e
 rw [e]
 exact hs
theorem du {G:List Row} {row:Row} {j:Nat} {Δ:Ctx} (hj:j<G.length):items ρ T (G.set j row)++Δ=(items ρ T G++Δ).set j (row.item ρ T):=by
 rw [List.set_append_left _ _ (by simpa [items] using hj)]
 simp only [items,List.map_set]
theorem aB.upd {av:AV} {x:Nm} {row:Row} {j:Nat} (hl:st.low fr=true) (hj:j<st.G.length) (hK:K { st with c:=st.c+1,E:=bC dst g av st.E,G:=st.G.set j row }=some r) (hv:av.val (ρ.set st.c x)=v)
  (hs:Sat ((items ρ T st.G++(items ρ T fr.H++Φ)).set j (row.item (ρ.set st.c x) T)) w'):aB r K T fr st g dst ρ Φ v w':=by
 refine aB.new hl hK Nms.aD (Nat.le_succ _) rfl hv ?_
 have e:=aF (T:=T) (Nms.aD (ρ:=ρ) (j:=st.c) (x:=x)) (StB.bz.1 hl).2.2.1
 show Sat (items (ρ.set st.c x) T (st.G.set j row)++_) w'
 rw [du hj,e]
 exact hs
end
def Okq (P:Program) (T:Tbl) (g:GK) (Ev:Env) (o:Oper) (w:World) (O:Value→World→Prop):Prop:= ∃ v,(∀ w',Run P Ev (T.get g) o w' v)∧O v w
theorem Okq.ok2 {P:Program} {T:Tbl} {g:GK} {Ev:Env} {o:Oper} {w:World} {O:Value→World→Prop} (h:Okq P T g Ev o w O):Ok2 P T g Ev o w O:=by
 obtain ⟨v,h1,h2⟩:=h
 exact ⟨fun hg=>aQ.run (by have:=h1 w;rwa [hg] at this) h2,fun _=>⟨v,h2⟩⟩
theorem aQ.gd {P:Program} {E:Env} {dst:Option Tmp} {op:Op} {ty:TypeId} {pos:String} {af:Array Edge} {gd:Option (Nat×Bool)} {w:World} {R:Value→World→Prop} (h:aQ P E ⟨dst,op,ty,pos,af,none⟩ w R):aQ P E ⟨dst,op,ty,pos,af,gd⟩ w R:=
 fun n a hf=>h n a hf
/-! elements laid out, and read -/
def Ty.n':Ty→Nat
 | .i _ | .bo | .s | .l _ | .n=>1
 | .un | .mp _ _=>0
 | .p x y=>x.n'+y.n'
 | .ex=>4
theorem Ty.rR:(t:Ty)→t.rep.n=t.n'
 | .i _ | .bo | .s | .l _ | .un | .n | .mp _ _ | .ex=>rfl
 | .p x y=>by show x.rep.n+y.rep.n=_;rw [Ty.rR x,Ty.rR y];rfl
def mat:(t:Ty)→t.T→Nat→List AV×List Row×Nat
 | .i k,x,c=>([.int k x],[],c)
 | .bo,x,c=>([.bool x],[],c)
 | .s,x,c=>([.str x],[],c)
 | .un,_,c=>([],[],c)
 | .n,x,c=>([.ifc x (.agg [])],[],c)
 | .mp _ _,_,c=>([],[],c)
 | .p a b,x,c=>match mat a x.1 c with
  | (u,p,c)=>match mat b x.2 c with
   | (v,q,c)=>(u++v,p++q,c)
 | .l t,x,c=>([.sl c],[.sli none c t x false],c+1)
 | .ex,x,c=>([.int .i64 x.op,.int .i64 x.n,.int .i64 x.at_,.sl c],[.sli none c .ex x.l false],c+1)
structure VU (T:Tbl) (M:Nat→Prop) (w:World) (vs:List Value) (c:Nat) (ρ ρ':Nms) (m:List AV×List Row×Nat):Prop where
 ag:aA c ρ ρ'
 le:c≤m.2.2
 lw:AV.bh m.2.2 m.1=true
 eq:AV.ah ρ' m.1=vs
 rl: ∀ r∈m.2.1,r.low m.2.2=true
 rs: ∀ r∈m.2.1,∃ j t l,r= .sli none j t l false
 rp: ∀ r∈m.2.1,(r.item ρ' T).P M w
theorem Row.dH {c d:Nat} (hcd:c≤d) {r:Row} (h:r.low c=true):r.low d=true:=by
 cases r <;> simp only [Row.low,Bool.and_eq_true,Nat.blt_eq] at h ⊢
 ·exact ⟨by omega,AV.gG hcd _ h.2⟩
 ·omega
 ·omega
 ·omega
 ·exact ⟨by omega,AV.gG hcd _ h.2⟩
 ·omega
 ·omega
 ·exact ⟨by omega,AV.dH hcd _ h.2⟩
theorem wa {T:Tbl} {M:Nat→Prop} {w:World}:(t:Ty)→(x:t.T)→(c:Nat)→(vs:List Value)→t.rep.rd M w vs x→(ρ:Nms)→ ∃ ρ',VU T M w vs c ρ ρ' (mat t x c)
 | .i k,x,c,vs,h,ρ=>⟨ρ,.refl,Nat.le_refl _,rfl,by cases h;simp [mat,AV.ah,AV.val],(fun _ h=>by cases h),(fun _ h=>by cases h),(fun _ h=>by cases h)⟩
 | .bo,x,c,vs,h,ρ=>⟨ρ,.refl,Nat.le_refl _,rfl,by cases h;simp [mat,AV.ah,AV.val],(fun _ h=>by cases h),(fun _ h=>by cases h),(fun _ h=>by cases h)⟩
 | .s,x,c,vs,h,ρ=>⟨ρ,.refl,Nat.le_refl _,rfl,by cases h;simp [mat,AV.ah,AV.val],(fun _ h=>by cases h),(fun _ h=>by cases h),(fun _ h=>by cases h)⟩
 | .un,x,c,vs,h,ρ=>⟨ρ,.refl,Nat.le_refl _,rfl,by cases h;simp [mat,AV.ah],(fun _ h=>by cases h),(fun _ h=>by cases h),(fun _ h=>by cases h)⟩
 | .n,x,c,vs,h,ρ=>⟨ρ,.refl,Nat.le_refl _,rfl,by cases h;simp [mat,AV.ah,AV.val],(fun _ h=>by cases h),(fun _ h=>by cases h),(fun _ h=>by cases h)⟩
 | .mp _ _,x,c,vs,h,ρ=>h.elim
 | .p a b,x,c,vs,h,ρ=>by
  obtain ⟨us,us',rfl,h1,h2⟩:=h
  obtain ⟨ρ1,m1⟩:=wa (T:=T) a x.1 c us h1 ρ
  obtain ⟨ρ2,m2⟩:=wa (T:=T) b x.2 (mat a x.1 c).2.2 us' h2 ρ1
  refine ⟨ρ2,m1.ag.trans m2.ag m1.le,Nat.le_trans m1.le m2.le,Ba (AV.gG m2.le _ m1.lw) m2.lw,?_,fun r hr=> ?_,fun r hr=> ?_,fun r hr=> ?_⟩
  ·simp only [mat,bK];rw [AV.bc m2.ag _ m1.lw,m1.eq,m2.eq]
  ·rcases List.mem_append.1 hr with hr | hr
   ·exact Row.dH m2.le (m1.rl r hr)
   ·exact m2.rl r hr
  ·rcases List.mem_append.1 hr with hr | hr
   ·exact m1.rs r hr
   ·exact m2.rs r hr
  ·rcases List.mem_append.1 hr with hr | hr
   ·rw [Row.ra m2.ag (m1.rl r hr)];exact m1.rp r hr
   ·exact m2.rp r hr
 | .l t,x,c,vs,h,ρ=>by
  obtain ⟨v,rfl,h⟩:=h
  refine ⟨ρ.set c { nm0 with v:=v },Nms.aD,Nat.le_succ _,by simp [mat,AV.bh,AV.low],by simp [mat,AV.ah,AV.val,Nms.aS],fun r hr=> ?_,fun r hr=> ?_,fun r hr=> ?_⟩
  ·simp only [mat,List.mem_singleton] at hr;subst hr;simp [Row.low,mat]
  ·simp only [mat,List.mem_singleton] at hr;subst hr;exact ⟨_,_,_,rfl⟩
  ·simp only [mat,List.mem_singleton] at hr;subst hr
   simp only [Row.item,Nms.aS]
   exact fun _=>⟨h,fun hb=>by cases hb⟩
 | .ex,x,c,vs,h,ρ=>by
  obtain ⟨v,rfl,hq⟩:=wE h
  refine ⟨ρ.set c { nm0 with v:=v },Nms.aD,Nat.le_succ _,by simp [mat,AV.bh,AV.low],by simp [mat,AV.ah,AV.val,Nms.aS],fun r hr=> ?_,fun r hr=> ?_,fun r hr=> ?_⟩
  ·simp only [mat,List.mem_singleton] at hr;subst hr;simp [Row.low,mat]
  ·simp only [mat,List.mem_singleton] at hr;subst hr;exact ⟨_,_,_,rfl⟩
  ·simp only [mat,List.mem_singleton] at hr;subst hr
   simp only [Row.item,Nms.aS]
   exact fun _=>⟨hq,fun hb=>by cases hb⟩
theorem yW:(t:Ty)→(x:t.T)→(c:Nat)→c≤(mat t x c).2.2
 | .i _,_,_ | .bo,_,_ | .s,_,_ | .un,_,_ | .n,_,_ | .mp _ _,_,_=>Nat.le_refl _
 | .p a b,x,c=>Nat.le_trans (yW a x.1 c) (yW b x.2 _)
 | .l _,_,_ | .ex,_,_=>Nat.le_succ _
theorem y7:(t:Ty)→(x:t.T)→(c:Nat)→ ∀ r∈(mat t x c).2.1,∃ j t l,r= .sli none j t l false
 | .i _,_,_,_,h | .bo,_,_,_,h | .s,_,_,_,h | .un,_,_,_,h | .n,_,_,_,h | .mp _ _,_,_,_,h=>by cases h
 | .p a b,x,c,r,h=>by
  rcases List.mem_append.1 h with h | h
  ·exact y7 a x.1 c r h
  ·exact y7 b x.2 _ r h
 | .l _,_,_,r,h=>by
  simp only [mat,List.mem_singleton] at h;subst h;exact ⟨_,_,_,rfl⟩
 | .ex,_,_,r,h=>by
  simp only [mat,List.mem_singleton] at h;subst h;exact ⟨_,_,_,rfl⟩
def nR (g:GK) (r:Row):Row:=match g,r with
 | none,r=>r
 | some g,.sli _ id t l b=> .sli (some g) id t l b
 | some _,r=>r
theorem nC {ρ:Nms} {T:Tbl} {g:GK} {M:Nat→Prop} {w:World} {j:Nat} {t:Ty} {l:List t.T} (h:T.get g=true→((Row.sli none j t l false).item ρ T).P M w):
  ((nR g (.sli none j t l false)).item ρ T).ck=true∧((nR g (.sli none j t l false)).item ρ T).P M w:=by
 cases g with
 | none=>exact ⟨rfl,h (Tbl.get_none)⟩
 | some k=>
  refine ⟨rfl,fun hg=> ?_⟩
  exact h hg (Tbl.get_none)
theorem sb {Γ:Ctx} {w:World} (h:Sat Γ w): ∀ (new:List Item),(∀ it∈new,it.ck=true∧it.P Γ.M w)→Sat (new++Γ) w:=fun new hn=>by
 have key: ∀ new:List Item,(∀ it∈new,it.ck=true∧it.P Γ.M w)→new.all (·.ck)=true∧QG Γ.M w new:=fun new=>by
  induction new with
  | nil=>exact fun _=>⟨rfl,trivial⟩
  | cons it l ih=>
   intro hn
   obtain ⟨h1,h2⟩:=ih (fun jt hj=>hn jt (List.mem_cons_of_mem _ hj))
   obtain ⟨h3,h4⟩:=hn it (List.mem_cons_self ..)
   exact ⟨by simp only [List.all_cons,Bool.and_eq_true];exact ⟨h3,h1⟩,h4,h2⟩
 exact h.U6 new (key new hn).1 (key new hn).2
def mg (G H:List Row) (t:Ty) (v:AV):Option (List t.T):=match v with
 | .sl j=>(match cz G H (jQ j) with
  | some (_,.sli none _ t' l _)=>Dyn.asL t ⟨.l t',l⟩
  | _=>none)
 | .raw (.slice none 0 0)=>some []
 | _=>none where Dyn.asL (t:Ty) (d:Dyn):Option (List t.T):=d.as (.l t)
theorem lC {t t':Ty} {l:List t'.T} {l':List t.T} (h:mg.Dyn.asL t ⟨.l t',l⟩=some l'): ∃ e:t'=t,e▸l=l':=by
 have:=Dyn.Ar h
 cases this
 exact ⟨rfl,rfl⟩
theorem Av {ρ:Nms} {T:Tbl} {G H:List Row} {Φ:Ctx} {w:World} {t:Ty} {v:AV} {l:List t.T} (hs:Sat (items ρ T G++(items ρ T H++Φ)) w) (h:mg G H t v=some l):
  SRd t.rep (Ctx.M (items ρ T G++(items ρ T H++Φ))) w (v.val ρ) l:=by
 unfold mg at h
 split at h
 ·rename_i j
  split at h
  ·rename_i s j' t' l' b hf
   obtain ⟨h1,h2⟩:=ba hf
   have:j'=j:=Nat.eq_of_beq_eq_true h2
   subst this
   obtain ⟨rfl,rfl⟩:=lC h
   simp only [AV.val]
   exact ((Src.holds hs h1) Tbl.get_none).1
  ·cases h
 ·cases h;simp only [AV.val];exact SRd.nil
 ·cases h
def rdA (G H:List Row):(t:Ty)→List AV→Option (t.T×List AV)
 | .i k,vs=>(match vs with
  | .int k' x::vs=>ifS ( fc k k' ) ( some (x,vs) ) none
  | _=>none)
 | .bo,vs=>(match vs with
  | .bool x::vs=>some (x,vs)
  | _=>none)
 | .s,vs=>(match vs with
  | .str x::vs=>some (x,vs)
  | _=>none)
 | .un,vs=>some ((),vs)
 | .n,vs=>(match vs with
  | .ifc t (.agg [])::vs=>some (t,vs)
  | _=>none)
 | .p a b,vs=>(match rdA G H a vs with
  | some x=>(match rdA G H b x.2 with
   | some y=>some ((x.1,y.1),y.2)
   | none=>none)
  | none=>none)
 | .l t,vs=>(match vs with
  | v::vs=>(match mg G H t v with
   | some l=>some (l,vs)
   | none=>none)
  | _=>none)
 | .ex,vs=>(match vs with
  | .int .i64 a:: .int .i64 b:: .int .i64 c::v::vs=>(match mg G H .ex v with
   | some l=>some (Ex.mk a b c l,vs)
   | none=>none)
  | _=>none)
 | _,_=>none
theorem C9 {ρ:Nms} {T:Tbl} {G H:List Row} {Φ:Ctx} {w:World} (hs:Sat (items ρ T G++(items ρ T H++Φ)) w):(t:Ty)→(vs:List AV)→(x:t.T×List AV)→rdA G H t vs=some x→
  ∃ us,vs=us++x.2∧t.rep.rd (Ctx.M (items ρ T G++(items ρ T H++Φ))) w (AV.ah ρ us) x.1
 | .i k,vs,x,h=>by
  unfold rdA at h
  split at h
  ·rename_i k' y us
   obtain ⟨h1,h2⟩:=ao h
   have:=iE h1;subst this
   cases h2
   exact ⟨[.int k y],rfl,by simp only [AV.ah,AV.val];rfl⟩
  ·cases h
 | .bo,vs,x,h=>by
  unfold rdA at h
  split at h
  ·rename_i y us
   cases h
   exact ⟨[.bool y],rfl,by simp only [AV.ah,AV.val];rfl⟩
  ·cases h
 | .s,vs,x,h=>by
  unfold rdA at h
  split at h
  ·rename_i y us
   cases h
   exact ⟨[.str y],rfl,by simp only [AV.ah,AV.val];rfl⟩
  ·cases h
 | .un,vs,x,h=>by
  unfold rdA at h
  cases h
  exact ⟨[],rfl,by simp only [AV.ah];rfl⟩
 | .n,vs,x,h=>by
  unfold rdA at h
  split at h
  ·rename_i t us
   cases h
   exact ⟨[.ifc t (.agg [])],rfl,by simp only [AV.ah,AV.val];rfl⟩
  ·cases h
 | .mp _ _,vs,x,h=>by unfold rdA at h;cases h
 | .p a b,vs,x,h=>by
  unfold rdA at h
  split at h
  ·rename_i y hy
   split at h
   ·rename_i z hz
    cases h
    obtain ⟨us,e1,h1⟩:=C9 hs a vs y hy
    obtain ⟨us',e2,h2⟩:=C9 hs b y.2 z hz
    refine ⟨us++us',by rw [e1,e2,List.append_assoc],?_⟩
    rw [bK]
    exact ⟨_,_,rfl,h1,h2⟩
   ·cases h
  ·cases h
 | .l t,vs,x,h=>by
  unfold rdA at h
  split at h
  ·rename_i v us
   split at h
   ·rename_i l hl
    cases h
    refine ⟨[v],rfl,?_⟩
    simp only [AV.ah]
    exact (Av hs hl).rsl
   ·cases h
  ·cases h
 | .ex,vs,x,h=>by
  unfold rdA at h
  split at h
  ·rename_i a b c v us
   split at h
   ·rename_i l hl
    cases h
    refine ⟨[.int .i64 a,.int .i64 b,.int .i64 c,v],rfl,?_⟩
    simp only [AV.ah,AV.val]
    exact A8 (Av hs hl).rsl
   ·cases h
  ·cases h
def rd1 (G H:List Row) (t:Ty) (vs:List AV):Option t.T:=match rdA G H t vs with
 | some (x,[])=>some x
 | _=>none
theorem N6 {ρ:Nms} {T:Tbl} {G H:List Row} {Φ:Ctx} {w:World} (hs:Sat (items ρ T G++(items ρ T H++Φ)) w) {t:Ty} {vs:List AV} {x:t.T} (h:rd1 G H t vs=some x):
  t.rep.rd (Ctx.M (items ρ T G++(items ρ T H++Φ))) w (AV.ah ρ vs) x:=by
 unfold rd1 at h
 split at h
 ·rename_i y hy
  cases h
  obtain ⟨us,e1,h1⟩:=C9 hs t vs _ hy
  simp only [List.append_nil] at e1
  rw [e1];exact h1
 ·cases h
def rdL (G H:List Row) (t:Ty):Nat→List AV→Option (List t.T)
 | 0,vs=>(match vs with
  | []=>some []
  | _=>none)
 | k+1,vs=>(match rdA G H t vs with
  | some x=>(match rdL G H t k x.2 with
   | some l=>some (x.1::l)
   | none=>none)
  | none=>none)
theorem CD {ρ:Nms} {T:Tbl} {G H:List Row} {Φ:Ctx} {w:World} (hs:Sat (items ρ T G++(items ρ T H++Φ)) w) {t:Ty}:(k:Nat)→(vs:List AV)→(l:List t.T)→rdL G H t k vs=some l→
  l.length=k∧ARd t.rep (Ctx.M (items ρ T G++(items ρ T H++Φ))) w (AV.ah ρ vs) l
 | 0,vs,l,h=>by
  unfold rdL at h
  split at h
  ·cases h;exact ⟨rfl,by simp only [AV.ah];exact ARd.nil⟩
  ·cases h
 | k+1,vs,l,h=>by
  unfold rdL at h
  split at h
  ·rename_i x hx
   split at h
   ·rename_i l' hl
    cases h
    obtain ⟨us,e1,h1⟩:=C9 hs t vs x hx
    obtain ⟨h2,h3⟩:=CD hs k x.2 l' hl
    refine ⟨by simp [h2],?_⟩
    rw [e1,bK]
    exact ARd.cons h1 h3
   ·cases h
  ·cases h
/-! freezing -/
def frz (ids:List Nat):List Row→List Row
 | []=>[]
 | r::G=>(match r with
  | .own id t e l ver=>ifS ( na id ids ) ( .sli none id t l false )<| .own id t e l ver
  | r=>r)::frz ids G
theorem Lc {ρ:Nms} {T:Tbl} {ids:List Nat} {w:World}:{G:List Row}→{A B:Ctx}→Sat (A++(items ρ T G++B)) w→Sat (A++(items ρ T (frz ids G)++B)) w
 | [],_,_,h=>h
 | r::G,A,B,h=>by
  have step: ∀ r':Row,Sat (A++(items ρ T (r'::G)++B)) w→Sat (A++(items ρ T (r'::frz ids G)++B)) w:=fun r' h=>by
   have h':Sat ((A++[r'.item ρ T])++(items ρ T G++B)) w:=by simpa [items] using h
   have:=Lc (ids:=ids) h'
   simpa [items] using this
  unfold frz
  split
  ·rename_i id t e l ver
   cases hm:na id ids
   ·exact step _ h
   ·refine step _ ?_
    have hi:(A++(items ρ T (Row.own id t e l ver::G)++B))[A.length]? =some (mX t.rep e (ρ id).v l ((ρ ver).y=⟨.l t,l⟩)):=by
     rw [List.getElem?_append_right (Nat.le_refl _)]
     simp [items,Row.item]
    have h2:=h.upd hi (new:=(Row.sli none id t l false).item ρ T) ((Ext.refl w).chg _) (fun b hb=>by cases hb) (fun M' m hn=>fun _=>⟨(h.at_ hi).1.freeze (fun b hb=>hn b hb (fun hb=>by cases hb)) m,fun hb=>by cases hb⟩)
    rw [List.set_append_right _ _ (Nat.le_refl _)] at h2
    simpa [items] using h2
  ·exact step _ h
theorem lO {c:Nat} {ids:List Nat}:{G:List Row}→aU c G=true→aU c (frz ids G)=true
 | [],_=>rfl
 | r::G,h=>by
  simp only [aU,Bool.and_eq_true] at h
  unfold frz
  simp only [aU,Bool.and_eq_true]
  refine ⟨?_,lO h.2⟩
  split
  ·rename_i id t e l ver
   have h1:=h.1
   simp only [Row.low,Bool.and_eq_true] at h1
   cases na id ids
   ·simp only [Row.low,Bool.and_eq_true];exact h1
   ·simp only [Row.low];exact h1.1
  ·exact h.1
theorem fz {ρ:Nms} {T:Tbl} {ids:List Nat} {w:World} {G:List Row} {B:Ctx} (h:Sat (items ρ T G++B) w):Sat (items ρ T (frz ids G)++B) w:=Lc (A:=[]) h
def AV.sls:AV→List Nat
 | .sl id=>[id]
 | .agg l=>sls0 l
 | _=>[] where sls0:List AV→List Nat
 | []=>[]
 | .sl id::l=>id::sls0 l
 | _::l=>sls0 l
end Go.Proofs.YtgcgmclghbebjaaGreat
namespace Go.Proofs.YtgcgmclghbebjaaGreat
open Go.Lib
section
variable {X : Cx} {R : Type} {r : R} {K : Go_ R} {T : Tbl} {fr : Fr} {st : StB} {g : GK} {d : Tmp} {ρ : Nms} {Φ : Ctx} {w : World} {ty : TypeId} {pos : String} {af : Array Edge} {gd : Option (Nat × Bool)}
theorem Ok2.none_ {P:Program} {Ev:Env} {o:Oper} {O:Value→World→Prop} (h:aQ P Ev o w O):Ok2 P T none Ev o w O:=⟨fun _=>h,fun hg=>by rw [Tbl.get_none] at hg;cases hg⟩
/-! new blocks -/
def GC (P:Program) (t:TypeId):Option (List AV):=match tiA P t with
 | some z=>some (z.2.2.cells.toList.map cst)
 | none=>none
def M8 (st:StB) (d:Tmp) (t:TypeId) (cs:List AV) (K:Go_ R):Option R:=K { st with c:=st.c+1,E:=bC (some d) none (.ptr st.c 0) st.E,G:= .box st.c t cs::st.G }
theorem Hy {t:TypeId} {cs:List AV} (hl:st.low fr=true) (hs:Sat (items ρ T st.G++(items ρ T fr.H++Φ)) w) (hcs:AV.bh st.c cs=true) (h:M8 st d t cs K=some r):
  aB r K T fr st none (some d) ρ Φ (.pointer (some ⟨w.heap.size,0,none⟩)) (w.alloc (.cells (AV.ah ρ cs).toArray t)):=by
 refine aB.push (x:={ nm0 with b:=w.heap.size }) hl h (by simp only [AV.val,Nms.aS]) ?_
 simp only [Row.item,Nms.aS]
 rw [AV.bc Nms.aD _ hcs]
 exact hs.push (cQ _ _) (fun b hb=>by
  have:b=w.heap.size:=by simpa [box] using hb
  subst this;simp) (fun _ _=>heap_alloc_new w _)
def Jl (X:Cx) (st:StB) (d:Tmp) (t:TypeId) (K:Go_ R):Option R:=match GC X.P t with
 | some cs=>M8 st d t cs K
 | none=>none
theorem O7 {t:TypeId} (hl:st.low fr=true) (hs:Sat (items ρ T st.G++(items ρ T fr.H++Φ)) w) (h:Jl X st d t K=some r):
  Ok2 X.P T none (ai ρ T st.E fr.F) ⟨some d,.alloc t,ty,pos,af,gd⟩ w (aB r K T fr st none (some d) ρ Φ):=by
 unfold Jl at h
 split at h
 ·rename_i cs hcs
  unfold GC at hcs
  split at hcs
  ·rename_i z hz
   cases hcs
   obtain ⟨n,b,z⟩:=z
   refine .none_ (aQ.gd (aQ.kT (Dz (zs:=z.cells.toList) (bH hz) (by simp)) ?_))
   have:=Hy hl hs GX h
   rwa [ku] at this
  ·cases hcs
 ·cases h
def QM (T:Tbl) (fr:Fr) (st:StB) (d:Tmp) (t:TypeId) (x:Operand) (K:Go_ R):Option R:=match opA T st.E fr.F none x with
 | some v=>ifS ( yO v&&AV.bh st.c (bI v) ) ( M8 st d t (bI v) K ) none
 | none=>none
theorem TB {t:TypeId} {x:Operand} (hl:st.low fr=true) (hs:Sat (items ρ T st.G++(items ρ T fr.H++Φ)) w) (h:QM T fr st d t x K=some r):
  Ok2 X.P T none (ai ρ T st.E fr.F) ⟨some d,.box t x,ty,pos,af,gd⟩ w (aB r K T fr st none (some d) ρ Φ):=by
 unfold QM at h
 split at h
 ·rename_i v hv
  obtain ⟨h1,h2⟩:=ao h
  simp only [Bool.and_eq_true] at h1
  exact .none_ (aQ.gd (aQ.kT (Rx (aT hv) (qj h1.1)) (Hy hl hs h1.2 h2)))
 ·cases h
/-! stores -/
def Mb:AV→Bool
 | .agg _ | .tuple _ | .nv _=>false
 | .raw v=>v.oneCell'
 | _=>true
theorem Sd {v:AV} (h:Mb v=true):(v.val ρ).oneCell'=true:=by
 cases v with
 | agg l=>cases h
 | tuple l=>cases h
 | nv l=>cases h
 | raw v=>simp only [AV.val];exact h
 | _=>simp only [AV.val];rfl
theorem As:{l:List AV}→l.all Mb=true→(AV.ah ρ l).all Value.oneCell'=true
 | [],_=>by simp [AV.ah]
 | v::l,h=>by
  simp only [List.all_cons,Bool.and_eq_true] at h
  simp only [AV.ah,List.all_cons,Bool.and_eq_true]
  exact ⟨Sd h.1,As h.2⟩
def HI (P:Program) (st:StB) (t:TypeId) (id off:Nat) (v:AV) (K:Go_ R):Option R:=match ki (pR id) st.G with
 | some (j,.box _ e vs)=>(match tiA P t with
  | some z=>ifS ( yO v&&(bI v).all Mb&&Nat.beq (bI v).length z.1&&Nat.ble (off+(bI v).length) vs.length ) (
    K { st with G:=st.G.set j (.box id e (nO vs off (bI v))) } ) none
  | none=>none)
 | _=>none
theorem OL {t:TypeId} {x y:Operand} {id off:Nat} {v:AV} (hs:Sat (items ρ T st.G++(items ρ T fr.H++Φ)) w) (hx:opA T st.E fr.F none x=some (.ptr id off)) (hy:opA T st.E fr.F none y=some v) (h:HI X.P st t id off v K=some r):
  aQ X.P (ai ρ T st.E fr.F) ⟨none,.store t x y,ty,pos,af,gd⟩ w (aB r K T fr st none none ρ Φ):=by
 unfold HI at h
 split at h
 ·rename_i j id' e vs hf
  split at h
  ·rename_i z hz
   obtain ⟨n,bytes,z⟩:=z
   obtain ⟨h1,h2⟩:=ao h
   simp only [Bool.and_eq_true] at h1
   obtain ⟨⟨⟨a1,a2⟩,a3⟩,a4⟩:=h1
   obtain ⟨f1,f2⟩:=ju hf
   have:id'=id:=Nat.eq_of_beq_eq_true f2
   subst this
   have hx':=aT (ρ:=ρ) hx
   have hy':=aT (ρ:=ρ) hy
   simp only [AV.val] at hx'
   have hi:=dF (ρ:=ρ) (T:=T) (Φ:=items ρ T fr.H++Φ) f1
   have hb:cG w (ρ id').b e (AV.ah ρ vs):=hs.at_ hi
   obtain ⟨hr,hC,hB⟩:=M4 (P:=X.P) (E:=ai ρ T st.E fr.F) (w:=w) (dst:=none) (ty:=ty) (pos:=pos) (af:=af) (bH hz) hx' hy' (qj a1) (by rw [AV.aH];exact Nat.eq_of_beq_eq_true a3) (As a2) hb (by rw [AV.aH,AV.aH];exact a4) pW
   refine aQ.gd (aQ.Lt hr (aB.old (av:= .raw undef) h2 (Nat.le_refl _) rfl (by simp only [AV.val]) ?_))
   have hj:j<st.G.length:=(List.getElem?_eq_some_iff.1 f1).1
   show Sat (items ρ T (st.G.set j _)++_) _
   rw [du hj]
   refine hs.upd hi hC (fun c hc=> ?_) (fun _ _ _=>hB)
   have:c=(ρ id').b:=by simpa [Row.item,box] using hc
   subst this;exact ⟨hB.lt,.inl (by simp [Row.item,box])⟩
  ·cases h
 ·cases h
theorem K5 {t:Ty} {e:TypeId} {p:SLV} {l l':List t.T} {q q':Prop} {i:Nat} {Γ:Ctx} {w':World} (hs:Sat Γ w) (hi:Γ[i]? =some (mX t.rep e p l q)) (hq:q') (hC:Chg (blk (sl p)) w w') (hsz:w'.heap.size=w.heap.size) (hR:slR p=blk (sl p))
  (hP: ∀ M',Mv Γ.M w M' w'→OSl t.rep e M' w' (sl p) l'):Sat (Γ.set i (mX t.rep e p l' q')) w':=by
 refine hs.upd hi (by rw [← hR] at hC;exact hC) (fun c hc=>⟨by rw [hsz];exact (hs.at_ hi).1.lt c hc,.inl hc⟩) (fun M' m _=>⟨?_,hq⟩)
 show Own t.rep e M' w' (sl p) l' (slR p)
 rw [hR]
 exact Own.of (hP M' m)
theorem lU {c:Nat}: ∀ {G:List Row} {j:Nat} {r:Row},aU c G=true→G[j]? =some r→r.low c=true:=fun {G}=>by
 induction G with
 | nil=>intro j r _ h;simp at h
 | cons r0 G ih=>
  intro j r h h'
  simp only [aU,Bool.and_eq_true] at h
  cases j with
  | zero=>simp at h';subst h';exact h.1
  | succ j=>exact ih h.2 (by simpa using h')
def IQ (P:Program) (fr:Fr) (st:StB) (t:TypeId) (q off:Nat) (v:AV) (K:Go_ R):Option R:=
 match cz (frz (AV.sls.sls0 (bI v)) st.G) fr.H (Cj q) with
 | some (_,.kn none _ id ver u i x)=>(match ki (jQ id) (frz (AV.sls.sls0 (bI v)) st.G) with
  | some (j,.own _ u' e l ver')=>(match tiA P t with
   | some z=>ifS ( Nat.beq ver ver'&&yO v&&(bI v).all Mb&&Nat.beq (bI v).length z.1&&AV.bh st.c (bI v) ) (
     ifS ( Nat.beq off 0&&Nat.beq (bI v).length u'.n' ) ( match rd1 (frz (AV.sls.sls0 (bI v)) st.G) fr.H u' (bI v) with
      | some y=>K { st with c:=st.c+1,G:=(frz (AV.sls.sls0 (bI v)) st.G).set j (.own id u' e (List.set l i.toNat y) st.c) }
      | none=>none )<|
      ifS ( Nat.ble (off+(bI v).length) (mat u x (st.c+1)).1.length ) ( match rd1 ((mat u x (st.c+1)).2.1++frz (AV.sls.sls0 (bI v)) st.G) fr.H u' (nO (mat u x (st.c+1)).1 off (bI v)) with
       | some y=>K { st with c:=(mat u x (st.c+1)).2.2,G:=(mat u x (st.c+1)).2.1++(frz (AV.sls.sls0 (bI v)) st.G).set j (.own id u' e (List.set l i.toNat y) st.c) }
       | none=>none ) none ) none
   | none=>none)
  | _=>none)
 | _=>none
theorem Ox {t:TypeId} {x y:Operand} {q off:Nat} {v:AV} (hl:st.low fr=true) (hs:Sat (items ρ T st.G++(items ρ T fr.H++Φ)) w) (hx:opA T st.E fr.F none x=some (.adr q off)) (hy:opA T st.E fr.F none y=some v) (h:IQ X.P fr st t q off v K=some r):
  aQ X.P (ai ρ T st.E fr.F) ⟨none,.store t x y,ty,pos,af,gd⟩ w (aB r K T fr st none none ρ Φ):=by
 unfold IQ at h
 have hGl:=lO (ids:=AV.sls.sls0 (bI v)) (StB.bz.1 hl).2.2.1
 replace hs:=fz (ids:=AV.sls.sls0 (bI v)) hs
 generalize frz (AV.sls.sls0 (bI v)) st.G=G at h hGl hs
 split at h
 ·rename_i s q' id ver u i xe hf
  split at h
  ·rename_i j id' u' e l ver' hr
   split at h
   ·rename_i z hz
    obtain ⟨n,bytes,z⟩:=z
    obtain ⟨h1,h2⟩:=ao h
    simp only [Bool.and_eq_true] at h1
    obtain ⟨⟨⟨⟨a1,a2⟩,a3⟩,a4⟩,a5⟩:=h1
    obtain ⟨f1,f2⟩:=ba hf
    obtain ⟨k1,k2⟩:=ju hr
    have e1:q'=q:=Nat.eq_of_beq_eq_true f2
    have e2:id'=id:=Nat.eq_of_beq_eq_true k2
    have e3:ver=ver':=Nat.eq_of_beq_eq_true a1
    subst e1;subst e2;subst e3
    have hx':=aT (ρ:=ρ) hx
    have hy':=aT (ρ:=ρ) hy
    simp only [AV.val] at hx'
    obtain ⟨l0,b1,b2,b3⟩:=(Src.holds hs f1) Tbl.get_none
    have hi:=dF (ρ:=ρ) (T:=T) (Φ:=items ρ T fr.H++Φ) k1
    obtain ⟨c1,c2⟩:=hs.at_ hi
    obtain ⟨e4,e5⟩:=Ac b1 c2
    subst e4
    simp only at e5
    subst e5
    obtain ⟨o1,o2⟩:=c1.osl b2
    obtain ⟨o3,vs0,o4,o5⟩:=c1.atA b2
    have hj:j<G.length:=(List.getElem?_eq_some_iff.1 k1).1
    have hcl:(AV.ah ρ (bI v)).length=n:=by rw [AV.aH];exact Nat.eq_of_beq_eq_true a4
    rw [b3] at hx'
    rcases cw h2 with ⟨h3,h4⟩ | ⟨_,h4⟩
    ·simp only [Bool.and_eq_true] at h3
     have e6:off=0:=Nat.eq_of_beq_eq_true h3.1
     subst e6
     split at h4
     ·rename_i y' hy2
      have hrd:=N6 hs hy2
      have hlv:vs0.length=u.rep.n:=u.rep.len o5
      have hlu:(AV.ah ρ (bI v)).length=u.rep.n:=u.rep.len hrd
      have hset:j2 vs0 0 (AV.ah ρ (bI v))=AV.ah ρ (bI v):=by
       unfold j2
       simp only [List.take_zero,List.nil_append,Nat.zero_add]
       rw [List.drop_eq_nil_of_le (by omega),List.append_nil]
      obtain ⟨w',hr,hC,hsz,hP⟩:=qG (P:=X.P) (E:=ai ρ T st.E fr.F) (w:=w) (dst:=none) (ty:=ty) (pos:=pos) (af:=af) (bH hz) hx' hy' (qj a2) hcl (As a3) o3 o1 o4 hlv (Nat.ble_eq_true_of_le (by omega)) hset hrd (fun b hb=>Ctx.gA hi (by rw [← o2] at hb;exact hb))
      refine aQ.gd (aQ.Lt hr (aB.new (ρ':=ρ.set st.c { nm0 with y:=⟨.l u,List.set l0 i.toNat y'⟩ }) (av:= .raw undef) hl h4 Nms.aD (Nat.le_succ _) rfl (by simp only [AV.val]) ?_))
      show Sat (items _ T (G.set j _)++_) _
      rw [du hj,aF Nms.aD hGl]
      have:=K5 (q':=((ρ.set st.c { nm0 with y:=⟨.l u,List.set l0 i.toNat y'⟩ }) st.c).y=⟨.l u,List.set l0 i.toNat y'⟩) hs hi (by rw [Nms.aS]) hC hsz o2 hP
      have hlt:=(List.getElem?_eq_some_iff.1 k1).2
      have hidlt:(ρ.set st.c { nm0 with y:=⟨.l u,List.set l0 i.toNat y'⟩ }) id'=ρ id':=by
       have hrow:=lU hGl k1
       simp only [Row.low,Bool.and_eq_true,Nat.blt_eq] at hrow
       exact Nms.aD _ hrow.1
      simp only [Row.item,hidlt]
      exact this
     ·cases h4
    ·obtain ⟨h5,h6⟩:=ao h4
     split at h6
     ·rename_i y' hy2
      obtain ⟨ρ1,m1⟩:=wa (T:=T) u xe (st.c+1) vs0 o5 (ρ.set st.c { nm0 with y:=⟨.l u,List.set l0 i.toNat y'⟩ })
      have ag:aA st.c ρ ρ1:=Nms.aD.trans m1.ag (Nat.le_succ _)
      generalize mat u xe (st.c+1)=m at h5 h6 hy2 m1
      have hs1:Sat (items ρ1 T m.2.1++(items ρ T G++(items ρ T fr.H++Φ))) w:=sb hs _ (fun it hit=>by
       obtain ⟨r,hr1,rfl⟩:=List.mem_map.1 hit
       obtain ⟨j1,t1,l1,rfl⟩:=m1.rs _ hr1
       exact ⟨rfl,m1.rp _ hr1⟩)
      have eG:=aF (T:=T) ag hGl
      have eH:=aF (T:=T) ag (StB.bz.1 hl).2.2.2
      have hs2:Sat (items ρ1 T (m.2.1++G)++(items ρ1 T fr.H++Φ)) w:=by
       rw [aJ,List.append_assoc,eG,eH];exact hs1
      have hrd:=N6 hs2 hy2
      rw [aJ,List.append_assoc,eG,eH,← pW,m1.eq,AV.bc ag _ a5] at hrd
      have hi1:(items ρ1 T m.2.1++(items ρ T G++(items ρ T fr.H++Φ)))[m.2.1.length+j]? =some ((Row.own id' u e l0 ver).item ρ T):=by
       rw [List.getElem?_append_right (by simp [items])]
       have:m.2.1.length+j-(items ρ1 T m.2.1).length=j:=by simp [items]
       rw [this];exact hi
      obtain ⟨d1,d2⟩:=hs1.at_ hi1
      obtain ⟨p1,p2⟩:=d1.osl b2
      have hlv:vs0.length=u.rep.n:=u.rep.len o5
      obtain ⟨w',hr,hC,hsz,hP⟩:=qG (P:=X.P) (E:=ai ρ T st.E fr.F) (w:=w) (dst:=none) (ty:=ty) (pos:=pos) (af:=af) (bH hz) hx' hy' (qj a2) hcl (As a3) o3 p1 o4 hlv (by
       have:=m1.eq
       rw [← this,AV.aH,AV.aH];exact h5) rfl hrd (fun b hb=>Ctx.gA hi1 (by rw [← p2] at hb;exact hb))
      refine aQ.gd (aQ.Lt hr (aB.new (ρ':=ρ1) (av:= .raw undef) hl h6 ag (Nat.le_trans (Nat.le_succ _) m1.le) rfl (by simp only [AV.val]) ?_))
      have hy1:(ρ1 st.c).y=⟨.l u,List.set l0 i.toNat y'⟩:=by rw [m1.ag _ (Nat.lt_succ_self _),Nms.aS]
      have:=K5 hs1 hi1 hy1 hC hsz p2 hP
      have hrow:=lU hGl k1
      simp only [Row.low,Bool.and_eq_true,Nat.blt_eq] at hrow
      show Sat (items ρ1 T (m.2.1++G.set j _)++_) _
      rw [aJ,List.append_assoc,du hj,eG]
      rw [List.set_append_right _ _ (by simp [items])] at this
      have e7:m.2.1.length+j-(items ρ1 T m.2.1).length=j:=by simp [items]
      rw [e7] at this
      simp only [Row.item,ag _ hrow.1]
      exact this
     ·cases h6
   ·cases h
  ·cases h
 ·cases h
end
end Go.Proofs.YtgcgmclghbebjaaGreat
namespace Go.Proofs.YtgcgmclghbebjaaGreat
open Go.Lib
section
variable {X : Cx} {R : Type} {r : R} {K : Go_ R} {T : Tbl} {fr : Fr} {st : StB} {g : GK} {d : Tmp} {ρ : Nms} {Φ : Ctx} {w : World} {ty : TypeId} {pos : String} {af : Array Edge} {gd : Option (Nat × Bool)}
def GG {α:Type} (T:Tbl) (g:GK) (z:α) (m:Option α) (k:α→Option R):Option R:=match g with
 | none=>m.bind k
 | some _=>cf (T.get g) z m k
theorem qX {α:Type} {z:α} {m:Option α} {k:α→Option R} (h:GG T g z m k=some r): ∃ y,(T.get g=true→m=some y)∧k y=some r:=by
 unfold GG at h
 split at h
 ·obtain ⟨y,h1,h2⟩:=eP h
  exact ⟨y,fun _=>h1,h2⟩
 ·obtain ⟨y,h1,_,h2⟩:=CM h
  exact ⟨y,h1,h2⟩
def U9 (T:Tbl) (g:GK) (st:StB) (d:Tmp) (t:Ty) (l:List t.T) (i:Int) (K:Go_ R):Option R:=
 GG T g t.lD (idx l i) fun x=>K { st with c:=(mat t x (st.c+1)).2.2,E:=bC (some d) g (.adr st.c 0) st.E,G:= .elm g st.c (mat t x (st.c+1)).1::((mat t x (st.c+1)).2.1.map (nR g)++st.G) }
def Vv (T:Tbl) (g:GK) (st:StB) (d:Tmp) (id ver:Nat) (t:Ty) (l:List t.T) (i:Int) (K:Go_ R):Option R:=
 GG T g t.lD (idx l i) fun x=>K { st with c:=st.c+1,E:=bC (some d) g (.adr st.c 0) st.E,G:= .kn g st.c id ver t i x::st.G }
def No (X:Cx) (T:Tbl) (fr:Fr) (st:StB) (g:GK) (d:Tmp) (t:TypeId) (x y:Operand) (K:Go_ R):Option R:=match eI X.P t with
 | some e=>(match tiA X.P e with
  | some z=>(match opA T st.E fr.F g x with
   | some (.sl id)=>(match opA T st.E fr.F g y with
    | some (.int _ i)=>(match cz st.G fr.H (jQ id) with
     | some (_,.sli g' _ t l _)=>ifS ( T.imp g g'&&Nat.beq z.1 t.n' ) ( U9 T g st d t l i K ) none
     | some (_,.own _ t _ l ver)=>ifS ( Nat.beq z.1 t.n' ) ( Vv T g st d id ver t l i K ) none
     | _=>none)
    | _=>none)
   | _=>none)
  | none=>none)
 | none=>none
theorem Lf {t:TypeId} {x y:Operand} (hl:st.low fr=true) (hs:Sat (items ρ T st.G++(items ρ T fr.H++Φ)) w) (h:No X T fr st g d t x y K=some r):
  Okq X.P T g (ai ρ T st.E fr.F) ⟨some d,.indexAddr t x y,ty,pos,af,gd⟩ w (aB r K T fr st g (some d) ρ Φ):=by
 unfold No at h
 split at h
 ·rename_i e he
  split at h
  ·rename_i z hz
   obtain ⟨n,bytes,z⟩:=z
   split at h
   ·rename_i id hx
    split at h
    ·rename_i k i hy
     have hx':=az (ρ:=ρ) hx
     have hy':=az (ρ:=ρ) hy
     simp only [AV.val] at hx' hy'
     split at h
     ·rename_i s g' id' t l b hf
      obtain ⟨h1,h2⟩:=ao h
      simp only [Bool.and_eq_true] at h1
      have hn:n=t.rep.n:=(Nat.eq_of_beq_eq_true h1.2).trans t.rR.symm
      obtain ⟨f1,f2⟩:=ba hf
      have:id'=id:=Nat.eq_of_beq_eq_true f2
      subst this
      obtain ⟨x',b1,b2⟩:=qX h2
      have hT:=Src.holds hs f1
      -- the element, where g holds
      have key: ∃ (p:Addr) (ρ1:Nms),aA st.c ρ ρ1∧(ρ1 st.c).a=p∧(T.get g=true→mu (sl (ρ id').v) i n p)∧
        ∀ it∈items ρ1 T (.elm g st.c (mat t x' (st.c+1)).1::((mat t x' (st.c+1)).2.1.map (nR g))),it.ck=true∧it.P (Ctx.M (items ρ T st.G++(items ρ T fr.H++Φ))) w:=by
       cases hg:T.get g
       ·refine ⟨⟨0,0,none⟩,ρ.set st.c nm0,Nms.aD,by rw [Nms.aS];rfl,(fun h=>by cases h),fun it hit=> ?_⟩
        rw [items,List.map_cons] at hit
        rcases List.mem_cons.1 hit with rfl | hit
        ·exact ⟨rfl,fun h=>by rw [hg] at h;cases h⟩
        ·obtain ⟨r1,hr1,rfl⟩:=List.mem_map.1 hit
         obtain ⟨r2,hr2,rfl⟩:=List.mem_map.1 hr1
         obtain ⟨j1,t1,l1,rfl⟩:=y7 _ _ _ _ hr2
         exact nC (fun h=>by rw [hg] at h;cases h)
       ·have hS:=(hT (Tbl.gZ h1.1 hg)).1
        obtain ⟨e1,vs,e2,e3,e4⟩:=hS.atA (b1 hg)
        obtain ⟨ρ1,m1⟩:=wa (T:=T) t x' (st.c+1) vs e3 (ρ.set st.c { nm0 with a:=elA (sl (ρ id').v) i t.rep.n })
        have ha1:(ρ1 st.c).a=elA (sl (ρ id').v) i t.rep.n:=by rw [m1.ag _ (Nat.lt_succ_self _),Nms.aS]
        refine ⟨elA (sl (ρ id').v) i t.rep.n,ρ1,Nms.aD.trans m1.ag (Nat.le_succ _),ha1,fun _=>by rw [hn];exact e1,fun it hit=> ?_⟩
        rw [items,List.map_cons] at hit
        rcases List.mem_cons.1 hit with rfl | hit
        ·refine ⟨rfl,fun _=> ?_⟩
         show ¬ Ctx.M _ (ρ1 st.c).a.block∧aM w (ρ1 st.c).a _
         rw [ha1,m1.eq]
         exact ⟨e4,e2⟩
        ·obtain ⟨r1,hr1,rfl⟩:=List.mem_map.1 hit
         obtain ⟨r2,hr2,rfl⟩:=List.mem_map.1 hr1
         have hp2:=m1.rp _ hr2
         obtain ⟨j1,t1,l1,rfl⟩:=m1.rs _ hr2
         exact nC (fun _=>hp2)
      obtain ⟨p,ρ1,k1,k2,k3,k4⟩:=key
      have hs2:=sb hs _ k4
      have eG:=aF (T:=T) k1 (StB.bz.1 hl).2.2.1
      have hout:aB r K T fr st g (some d) ρ Φ (.pointer (some p)) w:=by
       refine aB.new (ρ':=ρ1) hl b2 k1 (Nat.le_trans (Nat.le_succ _) (yW _ _ _)) rfl (by simp only [AV.val,k2];simp [Addr.add]) ?_
       show Sat (items ρ1 T (Row.elm g st.c _::(_++st.G))++_) w
       have e8:items ρ1 T (Row.elm g st.c (mat t x' (st.c+1)).1::((mat t x' (st.c+1)).2.1.map (nR g)++st.G))=items ρ1 T (.elm g st.c (mat t x' (st.c+1)).1::((mat t x' (st.c+1)).2.1.map (nR g)))++items ρ1 T st.G:=by
        simp [items]
       rw [e8,eG,List.append_assoc]
       exact hs2
      exact ⟨_,fun w'=>A4 (bq he) (bH hz) hx' hy' k3,hout⟩
     ·rename_i s id' t e' l ver hf
      obtain ⟨h1,h2⟩:=ao h
      have hn:n=t.rep.n:=(Nat.eq_of_beq_eq_true h1).trans t.rR.symm
      obtain ⟨f1,f2⟩:=ba hf
      have:id'=id:=Nat.eq_of_beq_eq_true f2
      subst this
      obtain ⟨x',b1,b2⟩:=qX h2
      obtain ⟨hO,hy2⟩:=Src.holds hs f1
      have hrow:id'<st.c∧ver<st.c:=by
       have:(Row.own id' t e' l ver).low st.c=true:=by
        cases s with
        | top j=>exact lU (StB.bz.1 hl).2.2.1 f1
        | frz j=>exact lU (StB.bz.1 hl).2.2.2 f1
        | _=>exact f1.elim
       simpa only [Row.low,Bool.and_eq_true,Nat.blt_eq] using this
      have hout:aB r K T fr st g (some d) ρ Φ (.pointer (some (elA (sl (ρ id').v) i t.rep.n))) w:=by
       refine aB.push (x:={ nm0 with a:=elA (sl (ρ id').v) i t.rep.n }) hl b2 (by simp only [AV.val,Nms.aS];simp [Addr.add]) (hs.add rfl ?_)
       intro hg
       rw [Nms.aD _ hrow.1,Nms.aD _ hrow.2,Nms.aS]
       exact ⟨l,hy2,b1 hg,rfl⟩
      exact ⟨_,fun w'=>A4 (bq he) (bH hz) hx' hy' (fun hg=>by rw [hn];exact (hO.atA (b1 hg)).1),hout⟩
     ·cases h
    ·cases h
   ·cases h
  ·cases h
 ·cases h
def CC (X:Cx) (T:Tbl) (fr:Fr) (st:StB) (g:GK) (d:Tmp) (t:TypeId) (q off:Nat) (K:Go_ R):Option R:=match cz st.G fr.H (Cj q) with
 | some (_,.kn g' _ id ver u _ x)=>(match cz st.G fr.H (jQ id) with
  | some (_,.own _ _ _ _ ver')=>ifS ( Nat.beq ver ver'&&T.imp g g' ) ( match iD X.P t ((mat u x st.c).1.drop off) with
   | some v=>K { st with c:=(mat u x st.c).2.2,E:=bC (some d) g v st.E,G:=(mat u x st.c).2.1.map (nR g)++st.G }
   | none=>none ) none
  | _=>none)
 | _=>none
theorem E6 {t:TypeId} {x:Operand} {q off:Nat} (hl:st.low fr=true) (hs:Sat (items ρ T st.G++(items ρ T fr.H++Φ)) w) (hx:opA T st.E fr.F g x=some (.adr q off)) (h:CC X T fr st g d t q off K=some r):
  ∃ v,(∀ w',Ext w w'→Run X.P (ai ρ T st.E fr.F) (T.get g) ⟨some d,.load t x,ty,pos,af,gd⟩ w' v)∧aB r K T fr st g (some d) ρ Φ v w:=by
 unfold CC at h
 split at h
 ·rename_i s g' q' id ver u i xe hf
  split at h
  ·rename_i s2 id' u' e l ver' hf2
   obtain ⟨h1,h2⟩:=ao h
   simp only [Bool.and_eq_true] at h1
   split at h2
   ·rename_i v hv
    obtain ⟨f1,f2⟩:=ba hf
    obtain ⟨f3,f4⟩:=ba hf2
    have e1:q'=q:=Nat.eq_of_beq_eq_true f2
    have e2:id'=id:=Nat.eq_of_beq_eq_true f4
    have e3:ver=ver':=Nat.eq_of_beq_eq_true h1.1
    subst e1;subst e2;subst e3
    have hx':=az (ρ:=ρ) hx
    simp only [AV.val] at hx'
    have hF:=Src.holds hs f1
    obtain ⟨hO,hy2⟩:=Src.holds hs f3
    have key: ∃ (ρ1:Nms) (vs:List Value),aA st.c ρ ρ1∧AV.ah ρ1 (mat u xe st.c).1=vs∧(T.get g=true→aM w (ρ q').a vs)∧
      ∀ it∈items ρ1 T ((mat u xe st.c).2.1.map (nR g)),it.ck=true∧it.P (Ctx.M (items ρ T st.G++(items ρ T fr.H++Φ))) w:=by
     cases hg:T.get g
     ·refine ⟨ρ,_,.refl,rfl,(fun h=>by cases h),fun it hit=> ?_⟩
      obtain ⟨r1,hr1,rfl⟩:=List.mem_map.1 hit
      obtain ⟨r2,hr2,rfl⟩:=List.mem_map.1 hr1
      obtain ⟨j1,t1,l1,rfl⟩:=y7 _ _ _ _ hr2
      exact nC (fun h=>by rw [hg] at h;cases h)
     ·obtain ⟨l0,b1,b2,b3⟩:=hF (Tbl.gZ h1.2 hg)
      obtain ⟨e4,e5⟩:=Ac b1 hy2
      subst e4
      simp only at e5
      subst e5
      obtain ⟨_,vs,e6,e7⟩:=hO.atA b2
      obtain ⟨ρ1,m1⟩:=wa (T:=T) u xe st.c vs e7 ρ
      refine ⟨ρ1,vs,m1.ag,m1.eq,fun _=>by rw [b3];exact e6,fun it hit=> ?_⟩
      obtain ⟨r1,hr1,rfl⟩:=List.mem_map.1 hit
      obtain ⟨r2,hr2,rfl⟩:=List.mem_map.1 hr1
      have hp2:=m1.rp _ hr2
      obtain ⟨j1,t1,l1,rfl⟩:=m1.rs _ hr2
      exact nC (fun _=>hp2)
    obtain ⟨ρ1,vs,k1,k2,k3,k4⟩:=key
    have hs2:=sb hs _ k4
    have eG:=aF (T:=T) k1 (StB.bz.1 hl).2.2.1
    have hout:aB r K T fr st g (some d) ρ Φ (v.val ρ1) w:=by
     refine aB.new (ρ':=ρ1) hl h2 k1 (yW _ _ _) rfl rfl ?_
     show Sat (items ρ1 T (_++st.G)++_) w
     rw [aJ,eG,List.append_assoc]
     exact hs2
    refine ⟨_,fun w' hx2=>Mh fun hg=> ?_,hout⟩
    rw [hg] at hx' ⊢
    have hc:=(k3 hg).ext hx2
    have hsub:aM w' ((ρ q').a.add off) (AV.ah ρ1 ((mat u xe st.c).1.drop off)):=by
     refine hc.sub _ ?_
     rw [AV.eZ,k2,List.take_of_length_le (Nat.le_refl _)]
    have h':iD X.P t (((mat u xe st.c).1.drop off).drop 0)=some v:=by simpa using hv
    obtain ⟨dd,n,bytes,z,c1,c2,c3⟩:=kD (ρ:=ρ1) h'
    cases hd:gR dd
    ·rw [hd] at c3
     simp only [Bool.false_eq_true,if_false] at c3
     refine zw c1 hd hx' (fun _=> ?_)
     have:=hsub.sub (us:=[v.val ρ1]) 0 (by
      cases hq:AV.ah ρ1 ((mat u xe st.c).1.drop off) with
      | nil=>rw [hq] at c3;cases c3
      | cons a l=>rw [hq] at c3;cases c3;simp)
     simpa [Addr.add] using this
    ·unfold iD at hv
     rw [c1] at hv
     rcases cw hv with ⟨_,h3⟩ | ⟨h3,_⟩
     ·split at h3
      ·rename_i z2 hz2
       obtain ⟨n2,bytes2,z2⟩:=z2
       obtain ⟨h4,h5⟩:=ao h3
       cases h5
       have hln:n2≤((mat u xe st.c).1.drop off).length:=Nat.le_of_ble_eq_true h4
       simp only [AV.val]
       refine zj c1 hd (bH hz2) hx' (fun _=> ?_) ?_
       ·have:=hsub.sub (us:=AV.ah ρ1 (((mat u xe st.c).1.drop off).take n2)) 0 (by
         rw [AV.gH,List.drop_zero,List.length_take,AV.aH,Nat.min_eq_left hln])
        simpa [Addr.add] using this
       ·rw [AV.aH,List.length_take,Nat.min_eq_left hln]
      ·cases h3
     ·rw [hd] at h3;cases h3
   ·cases h2
  ·cases h
 ·cases h
theorem Rn {t:TypeId} {x:Operand} {q off:Nat} (hl:st.low fr=true) (hs:Sat (items ρ T st.G++(items ρ T fr.H++Φ)) w) (hx:opA T st.E fr.F g x=some (.adr q off)) (h:CC X T fr st g d t q off K=some r):
  Ok2 X.P T g (ai ρ T st.E fr.F) ⟨some d,.load t x,ty,pos,af,gd⟩ w (aB r K T fr st g (some d) ρ Φ):=by
 obtain ⟨v,h1,h2⟩:=E6 (ty:=ty) (pos:=pos) (af:=af) (gd:=gd) hl hs hx h
 refine ⟨fun hg=>aQ.gd (aQ.run ?_ h2),fun _=>⟨_,h2⟩⟩
 rw [hg] at h1;exact h1 w (Ext.refl w)
end
end Go.Proofs.YtgcgmclghbebjaaGreat
