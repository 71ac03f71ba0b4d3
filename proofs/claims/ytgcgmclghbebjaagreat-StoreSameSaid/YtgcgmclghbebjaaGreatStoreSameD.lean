/-
  Own texts for the statement StoreSame, cut down to what it needs: B33, B17, B23, B31, B18, B19, B20, B21, B26. (cut and joined by a program)
-/
import Derived.Test.YtgcgmclghbebjaaGreatStoreSameA
import Derived.Test.YtgcgmclghbebjaaGreatStoreSameB
import Derived.Test.YtgcgmclghbebjaaGreatStoreSameC
namespace Go.Proofs.YtgcgmclghbebjaaGreat
open Go.Lib
abbrev gone {R:Type} (g:GK) (k:Option R):Option R:=match g with
 | none=>k
 | some _=>none
theorem bP {R:Type} {r:R} {g:GK} {k:Option R} (h:gone g k=some r):g=none∧k=some r:=by
 cases g with
 | none=>exact ⟨rfl,h⟩
 | some _=>cases h
def Kh {R:Type} (X:Cx) (T:Tbl) (fr:Fr) (st:StB) (d:Option Tmp) (t:TypeId) (x y:Operand) (K:Go_ R):Option R:=match dW X.P t with
 | some e=>(match o8 X.tys e with
  | some u=>(match tiA X.P e with
   | some z=>(match opA T st.E fr.F none x with
    | some (.sl id)=>(match opA T st.E fr.F none y with
     | some b=>ifS (Nat.beq z.1 u.n') (match kE (frz b.sls st.G) fr.H u b with
      | some ys=>(match cn (frz b.sls st.G) fr.H (iH id) with
       | some (.top j,.own _ u' e' xs _)=>ifS (Nat.beq e e') (match kE.Dyn.asL u ⟨.l u',xs⟩ with
        | some xs=>K { st with c:=st.c+1,E:=bw d none (.int .i64 ((Nat.min ys.length xs.length:Nat):Int)) st.E,G:=(frz b.sls st.G).set j (.own id u e (lZ xs ys) st.c) }
        | none=>none) none
       | _=>none)
      | none=>none) none
     | none=>none)
    | _=>none)
   | none=>none)
  | none=>none)
 | none=>none
def inO (n d:Nat):List (Nat×Nat)→Bool
 | []=>false
 | x::l=>(Nat.beq x.1 n&&Nat.beq x.2 d)||inO n d l
def JG {R:Type} (X:Cx) (T:Tbl) (fr:Fr) (st:StB) (d:Tmp) (t:TypeId) (x:Operand) (hi:Option Operand) (K:Go_ R):Option R:=match dW X.P t with
 | some e=>(match tiA X.P e with
  | some z=>(match opA T st.E fr.F none x with
   | some (.sl id)=>(match hiA T st.E fr.F none hi with
    | some j=>(match cn st.G fr.H (iH id) with
     | some (.top k,.own _ u e' xs _)=>ifS (Nat.beq z.1 u.n') (chk (fi 0 (j.getD (xs.length:Int)) xs.length) (K { st with c:=st.c+1,E:=bw (some d) none (.sl st.c) st.E,G:=st.G.set k (.own st.c u e' (ba xs 0 (j.getD (xs.length:Int))) st.c) })) none
     | _=>none)
    | none=>none)
   | _=>none)
  | none=>none)
 | none=>none
def NV {R:Type} (X:Cx) (T:Tbl) (fr:Fr) (st:StB) (d:Tmp) (t:TypeId) (x:Operand) (lo hi mx:Option Operand) (K:Go_ R):Option R:=match lo,hi,mx with
 | none,some y,some y3=>(match X.P.underlying t with
  | some (.array n e)=>(match o8 X.tys e with
   | some u=>(match tiA X.P e with
    | some z=>(match opA T st.E fr.F none x with
     | some (.ptr id 0)=>(match opA T st.E fr.F none y with
      | some (.int _ h)=>(match opA T st.E fr.F none y3 with
       | some (.int _ m)=>(match iT (nW id) st.G with
        | some (j,.box _ _ cs)=>ifS ((h==(n:Int))&&(m==(n:Int))&&Nat.beq z.1 u.n') (match rdL st.G fr.H u n cs with
         | some xs=>K { st with c:=st.c+1,E:=bw (some d) none (.sl st.c) st.E,G:=st.G.set j (.sli none st.c u xs true) }
         | none=>none) none
        | _=>none)
       | _=>none)
      | _=>none)
     | _=>none)
    | none=>none)
   | none=>none)
  | _=>none)
 | _,_,_=>none
def JU (X:Cx) (T:Tbl) (fr:Fr) (st:StB) (d:Tmp) (t:TypeId) (x y:Operand) {R:Type} (K:Go_ R):Option R:=match X.P.underlying t with
 | some (.array n e)=>(match tiA X.P e with
  | some z=>(match opA T st.E fr.F none x with
   | some (.adr id off)=>(match opA T st.E fr.F none y with
    | some (.int _ i)=>Ei i z.1 (fun k=>K { st with E:=bw (some d) none (.adr id (off+k)) st.E }) n 0
    | _=>none)
   | some (.ptr id off)=>(match opA T st.E fr.F none y with
    | some (.int _ i)=>Ei i z.1 (fun k=>K { st with E:=bw (some d) none (.ptr id (off+k)) st.E }) n 0
    | _=>none)
   | _=>none)
  | none=>none)
 | _=>none
def Kl (P:Program) (t:TypeId) (nm:String):Option (FuncId×Bool):=match P.info? t with
 | some i=>(match i.methods.find? (·.name==nm) with
  | some m=>(match m.path.toList with
   | []=>m.func
   | _=>none)
  | none=>none)
 | none=>none
def RV:TypeDesc→Bool
 | .pointer _=>true
 | _=>false
def tX (X:Cx) (T:Tbl) (fr:Fr) (st:StB) (g:GK) (t:TypeId) (u:AV) (nm:String):Option (FuncId×AV):=match Kl X.P t nm with
 | some (f,true)=>(match X.P.underlying t with
  | some (.pointer _)=>some (f,u)
  | _=>none)
 | some (f,false)=>(match X.P.underlying t with
  | some (.pointer e)=>(match nZ T st.G fr.H g u with
   | some cs=>(match gf X.P e cs with
    | some v=>some (f,v)
    | none=>none)
   | none=>none)
  | some d=>ifS (RV d) none (some (f,u))
  | none=>none)
 | none=>none
def Db:List Inl→FuncId→Option Inl
 | [],_=>none
 | i::l,f=>match Nat.beq i.f f with
  | true=>some i
  | false=>Db l f
def Nk {R:Type} (X:Cx) (T:Tbl) (fr:Fr) (st:StB) (g:GK) (d:Option Tmp) (f:FuncId) (args:List AV) (K:Go_ R) (els:Option R):Option R:=match Db X.inl f with
 | none=>els
 | some i=>(match T with
  | []=>gone g (i.run args fr.H st (fun av st'=>K { st' with E:=bw d none av st.E,h:=st.h }))
  | _::_=>none)
def byT {R:Type} (k:TypeId→Option R) (t:TypeId):List TypeId→Option R
 | []=>none
 | c::cs=>cond (Nat.beq t c) (k c) (byT k t cs)
section
variable {X : Cx} {R : Type} {r : R} {K : Go_ R} {T : Tbl} {fr : Fr} {st : StB} {g : GK} {ρ : Nms} {Φ : Ctx} {w : World} {ty : TypeId} {pos : String} {af : Array Edge} {gd : Option (Nat × Bool)}
theorem Fi:{l:List Inl}→{f:FuncId}→{i:Inl}→Db l f=some i→i∈l∧i.f=f
 | [],_,_,h=>by cases h
 | j::l,f,i,h=>by
  unfold Db at h
  split at h
  ·rename_i h1
   cases h;exact ⟨List.mem_cons_self .., Nat.eq_of_beq_eq_true h1⟩
  ·obtain ⟨q1,q2⟩:=Fi h;exact ⟨List.mem_cons_of_mem _ q1,q2⟩
theorem P0 {d:Option Tmp} {op:Op} {f:FuncId} {args:List AV} {els:Option R} (hl:st.low fr=true) (hs:Sat (items ρ T st.G++(items ρ T fr.H++Φ)) w)
  (ent:cR X.P f→T.get g=true→ ∀ n act,Fits n (ai ρ T st.E fr.F) act→(execOp act.eval ⟨d,op,ty,pos,af,gd⟩).run X.P w= .ok (.enter f (AV.ah ρ args).toArray) w) (h:Nk X T fr st g d f args K els=some r) (hels:els=some r→Ok2 X.P T g (ai ρ T st.E fr.F) ⟨d,op,ty,pos,af,gd⟩ w (aA r K T fr st g d ρ Φ)):
  Ok2 X.P T g (ai ρ T st.E fr.F) ⟨d,op,ty,pos,af,gd⟩ w (aA r K T fr st g d ρ Φ):=by
 unfold Nk at h
 split at h
 ·exact hels h
 ·rename_i i hi
  obtain ⟨i1,i2⟩:=Fi hi
  subst i2
  obtain ⟨e1,e2⟩:=X.inlOk i i1
  split at h
  ·obtain ⟨rfl,h2⟩:=bP h
   refine .none_ (fun n act hf=> .inr (.inr ⟨i.f,AV.ah ρ args,ent e1 Tbl.get_none n act hf,(e2 r args fr.H st _ ρ Φ w hs h2).mono fun v w' hv=> ?_⟩))
   obtain ⟨ρ',st',av,k1,k2,k3,k4,k5⟩:=hv
   have e3:=aE (T:=[]) k2 (StB.bq.1 hl).2.2.2
   exact aA.new (ρ':=ρ') (st':={ st' with E:=bw d none av st.E,h:=st.h }) hl k1 k2 k3 rfl k4 (by rw [← e3];exact k5)
  ·cases h
theorem FD {k:TypeId→Option R} {t:TypeId}: ∀ {cs:List TypeId},byT k t cs=some r→k t=some r
 | [],h=>by cases h
 | c::cs,h=>by
  unfold byT at h
  rcases lu h with ⟨h1,h2⟩ | ⟨_,h2⟩
  ·rw [Nat.eq_of_beq_eq_true h1];exact h2
  ·exact FD h2
theorem Dq {P:Program} {t:TypeId} {nm:String} {q:FuncId×Bool} (h:Kl P t nm=some q):wV P t nm q.1 q.2:=by
 unfold Kl at h
 split at h
 ·rename_i i hi
  split at h
  ·rename_i m hm
   split at h
   ·rename_i hp
    unfold wV
    rw [hi]
    simp only [Option.bind_some]
    rw [hm]
    simp [hp,h]
   ·cases h
  ·cases h
 ·cases h
theorem Ox {t:TypeId} {u v:AV} {cs:List AV} {G H:List Row} (hs:Sat (items ρ T G++(items ρ T H++Φ)) w) (hc:nZ T G H g u=some cs) (h:gf X.P t cs=some v) (hg:T.get g=true):
  ∃ p,u.val ρ= .pointer (some p)∧(loadVar t p).run X.P w= .ok (v.val ρ) w:=by
 obtain ⟨p,hp,hc⟩:=vW hs hc hg
 refine ⟨p,hp,?_⟩
 have h':gf X.P t (cs.drop 0)=some v:=by simpa using h
 obtain ⟨d,n,bytes,z,c1,c2,c3⟩:=iM (ρ:=ρ) h'
 cases hd:fO d
 ·rw [hd] at c3
  simp only [Bool.false_eq_true,if_false] at c3
  exact vL c1 hd (hc.cell0 c3)
 ·unfold gf at h
  rw [c1] at h
  rcases cj h with ⟨_,h2⟩ | ⟨h1,_⟩
  ·split at h2
   ·rename_i q hq
    obtain ⟨n,bytes,z⟩:=q
    obtain ⟨h3,h4⟩:=an h2
    cases h4
    have hl:n≤cs.length:=Nat.le_of_ble_eq_true h3
    simp only [AV.val]
    refine wa c1 hd (bC hq) (vs:=AV.ah ρ (cs.take n)) ?_ ?_
    ·have:=hc.sub (us:=AV.ah ρ (cs.take n)) 0 (by
      rw [AV.fA,List.drop_zero,List.length_take,AV.aF,Nat.min_eq_left hl])
     simpa [Addr.add] using this
    ·rw [AV.aF,List.length_take,Nat.min_eq_left hl]
   ·cases h2
  ·rw [hd] at h1;cases h1
theorem FM {t:TypeId} {u:AV} {nm:String} {q:FuncId×AV} (hs:Sat (items ρ T st.G++(items ρ T fr.H++Φ)) w) (h:tX X T fr st g t u nm=some q):T.get g=true→Reach X.P w t (u.val ρ) nm q.1 (q.2.val ρ):=by
 unfold tX at h
 split at h
 ·rename_i f hf
  have hm:=Dq hf
  split at h
  ·rename_i e ht
   cases h
   exact fun _=>Reach.ptr hm ht
  ·cases h
 ·rename_i f hf
  have hm:=Dq hf
  split at h
  ·rename_i e ht
   split at h
   ·rename_i cs hc
    split at h
    ·rename_i v hv
     cases h
     intro hg
     obtain ⟨p,hp,hl⟩:=Ox hs hc hv hg
     rw [hp]
     exact Reach.load hm ht hl
    ·cases h
   ·cases h
  ·rename_i d ht
   obtain ⟨h1,h2⟩:=xn h
   cases h2
   exact fun _=>Reach.val hm ht (fun e he=>by subst he;cases h1)
  ·cases h
 ·cases h
theorem HV {d:Tmp} {t:TypeId} {x y:Operand} (hs:Sat (items ρ T st.G++(items ρ T fr.H++Φ)) w) (h:JU X T fr st d t x y K=some r):
  Okq X.P T none (ai ρ T st.E fr.F) ⟨some d,.indexAddr t x y,ty,pos,af,gd⟩ w (aA r K T fr st none (some d) ρ Φ):=by
 unfold JU at h
 split at h
 ·rename_i n e ht
  split at h
  ·rename_i z hz
   obtain ⟨m,bytes,z⟩:=z
   split at h
   ·rename_i id off hx
    split at h
    ·rename_i k i hy
     obtain ⟨q,_,q2,q3,q4⟩:=wu h
     have hx':=aQ (ρ:=ρ) hx
     have hy':=aQ (ρ:=ρ) hy
     simp only [AV.val] at hx' hy'
     refine ⟨.pointer (some (((ρ id).a.add off).add (i.toNat*m))),fun w'=> ?_,?_⟩
     ·rw [Tbl.get_none]
      exact mb (P:=X.P) (w:=w') (dst:=some d) (ty:=ty) (pos:=pos) (af:=af) (gd:=gd) ht (bC hz) hx' hy' (by
       intro _;subst q3;exact iF.2 ⟨by omega,by omega⟩)
     ·refine aA.old (av:= .adr id (off+q*m)) q4 (Nat.le_refl _) rfl ?_ hs
      simp only [AV.val]
      rw [add_add,q3];rfl
    ·cases h
   ·rename_i id off hx
    split at h
    ·rename_i k i hy
     obtain ⟨q,_,q2,q3,q4⟩:=wu h
     have hx':=aQ (ρ:=ρ) hx
     have hy':=aQ (ρ:=ρ) hy
     simp only [AV.val] at hx' hy'
     refine ⟨.pointer (some ((⟨(ρ id).b,off,none⟩:Addr).add (i.toNat*m))),fun w'=> ?_,?_⟩
     ·rw [Tbl.get_none]
      exact mb (P:=X.P) (w:=w') (dst:=some d) (ty:=ty) (pos:=pos) (af:=af) (gd:=gd) ht (bC hz) hx' hy' (by
       intro _;subst q3;exact iF.2 ⟨by omega,by omega⟩)
     ·refine aA.old (av:= .ptr id (off+q*m)) q4 (Nat.le_refl _) rfl ?_ hs
      simp only [AV.val]
      rw [add_plain,q3];rfl
    ·cases h
   ·cases h
  ·cases h
 ·cases h
theorem L7 {d:Option Tmp} {t:TypeId} {x y:Operand} (hl:st.low fr=true) (hs:Sat (items ρ T st.G++(items ρ T fr.H++Φ)) w) (h:Kh X T fr st d t x y K=some r):
  Ok2 X.P T none (ai ρ T st.E fr.F) ⟨d,.call ⟨.builtin .copy,#[x,y],#[t,t]⟩,ty,pos,af,gd⟩ w (aA r K T fr st none d ρ Φ):=by
 unfold Kh at h
 split at h
 ·rename_i e he
  split at h
  ·rename_i u hu
   split at h
   ·rename_i z hz
    obtain ⟨n,bytes,z⟩:=z
    split at h
    ·rename_i id hx
     split at h
     ·rename_i b hy
      obtain ⟨h1,h2⟩:=an h
      have hn:n=u.rep.n:=(Nat.eq_of_beq_eq_true h1).trans u.p7.symm
      have hti:=bC hz
      subst hn
      have hGl:=ki (ids:=b.sls) (StB.bq.1 hl).2.2.1
      replace hs:=eK (ids:=b.sls) hs
      generalize frz b.sls st.G=G at h2 hGl hs
      have hx':=aQ (ρ:=ρ) hx
      have hy':=aQ (ρ:=ρ) hy
      simp only [AV.val] at hx'
      split at h2
      ·rename_i ys hys
       have hyr:=w8 hs hys
       split at h2
       ·rename_i j id' u' e' xs' ver hf
        obtain ⟨h3,h4⟩:=an h2
        have:=Nat.eq_of_beq_eq_true h3
        subst this
        split at h4
        ·rename_i xs hxs
         obtain ⟨eu,ex⟩:=jO hxs
         subst eu
         simp only at ex
         subst ex
         obtain ⟨f1,f2⟩:=aY hf
         have:id'=id:=Nat.eq_of_beq_eq_true f2
         subst this
         have hi:=dp (ρ:=ρ) (T:=T) (Φ:=items ρ T fr.H++Φ) f1
         obtain ⟨hO,_⟩:=hs.at_ hi
         obtain ⟨w',hr,hC,hsz,hP⟩:=NI (P:=X.P) (ty:=ty) (w:=w) (t:=t) (bk he) hti hO hyr (fun b hb=>Ctx.fu hi hb)
         have hj:j<G.length:=(List.getElem?_eq_some_iff.1 f1).1
         have hrow:=j3 hGl f1
         simp only [Row.low,Bool.and_eq_true,Nat.blt_eq] at hrow
         refine .none_ (aO.gd (aO.jo (n3 hx' hy' hr) (aA.new (ρ':=ρ.set st.c { nm0 with y:=⟨.l u',lZ xs' ys⟩ }) (av:= .int .i64 ((Nat.min ys.length xs'.length:Nat):Int)) hl h4 Nms.aD (Nat.le_succ _) rfl (by simp only [AV.val]) ?_)))
         show Sat (items _ T (G.set j _)++_) _
         rw [cW hj,aE Nms.aD hGl]
         refine hs.upd hi hC (fun b hb=> ?_) (fun M' m _=> ?_)
         ·simp only [Row.item,Nms.aD _ hrow.1] at hb
          exact ⟨by rw [hsz];exact hO.lt b hb,.inl hb⟩
         ·simp only [Row.item,Nms.aD _ hrow.1,Nms.aP]
          exact ⟨hP M' m,trivial⟩
        ·cases h4
       ·cases h2
      ·cases h2
     ·cases h
    ·cases h
   ·cases h
  ·cases h
 ·cases h
theorem Ol {d:Tmp} {t:TypeId} {x:Operand} {hi:Option Operand} (hl:st.low fr=true) (hs:Sat (items ρ T st.G++(items ρ T fr.H++Φ)) w) (h:JG X T fr st d t x hi K=some r):
  Ok2 X.P T none (ai ρ T st.E fr.F) ⟨some d,.slice t x none hi none,ty,pos,af,gd⟩ w (aA r K T fr st none (some d) ρ Φ):=by
 have hGl:=(StB.bq.1 hl).2.2.1
 unfold JG at h
 split at h
 ·rename_i e he
  split at h
  ·rename_i z hz
   obtain ⟨n,bytes,z⟩:=z
   split at h
   ·rename_i id hx
    split at h
    ·rename_i j hj
     split at h
     ·rename_i k id' u e' xs ver hf
      obtain ⟨h1,h2⟩:=an h
      obtain ⟨h3,h4⟩:=fa h2
      have hn:n=u.rep.n:=(Nat.eq_of_beq_eq_true h1).trans u.p7.symm
      have hti:=bC hz
      subst hn
      obtain ⟨f1,f2⟩:=aY hf
      have:id'=id:=Nat.eq_of_beq_eq_true f2
      subst this
      have hx':=aQ (ρ:=ρ) hx
      simp only [AV.val] at hx'
      have hi':=dp (ρ:=ρ) (T:=T) (Φ:=items ρ T fr.H++Φ) f1
      obtain ⟨hO,_⟩:=hs.at_ hi'
      obtain ⟨p,k1,k2⟩:=hO.Sr h3
      have hk:k<st.G.length:=(List.getElem?_eq_some_iff.1 f1).1
      have hhi:=Az (ρ:=ρ) (len:=xs.length) hj
      rw [Tbl.get_none] at hhi
      refine .none_ (aO.gd (aO.run (qU (lo:=none) (hi:=hi) (bk he) hti hx' (fun _=>hO.len) rfl hhi (fun _=>k1)) (aA.new (ρ':=ρ.set st.c { nm0 with v:=p,y:=⟨.l u,ba xs 0 (j.getD (xs.length:Int))⟩ }) hl h4 Nms.aD (Nat.le_succ _) rfl (by simp only [AV.val,Nms.aP]) ?_)))
      show Sat (items _ T (st.G.set k _)++_) _
      rw [cW hk,aE Nms.aD hGl]
      refine hs.upd hi' ((Ext.refl w).chg _) (fun b hb=> ?_) (fun M' m _=> ?_)
      ·simp only [Row.item,Nms.aP] at hb
       have:=k2.canon.1 b hb
       exact ⟨k2.lt b this,.inl this⟩
      ·simp only [Row.item,Nms.aP]
       exact ⟨k2.canon.2 _ _ (k2.bf (fun _ _=>rfl) m),trivial⟩
     ·cases h
    ·cases h
   ·cases h
  ·cases h
 ·cases h
theorem PS {d:Tmp} {t:TypeId} {x:Operand} {lo hi mx:Option Operand} (hl:st.low fr=true) (hs:Sat (items ρ T st.G++(items ρ T fr.H++Φ)) w) (h:NV X T fr st d t x lo hi mx K=some r):
  Ok2 X.P T none (ai ρ T st.E fr.F) ⟨some d,.slice t x lo hi mx,ty,pos,af,gd⟩ w (aA r K T fr st none (some d) ρ Φ):=by
 have hGl:=(StB.bq.1 hl).2.2.1
 unfold NV at h
 split at h
 ·rename_i y y3
  split at h
  ·rename_i n e ht
   split at h
   ·rename_i u hu
    split at h
    ·rename_i z hz
     obtain ⟨m0,bytes,z⟩:=z
     split at h
     ·rename_i id hx
      split at h
      ·rename_i k hh hy
       split at h
       ·rename_i k3 m hy3
        split at h
        ·rename_i j id' bt cs hf
         obtain ⟨h1,h2⟩:=an h
         simp only [Bool.and_eq_true,beq_iff_eq] at h1
         obtain ⟨⟨rfl,rfl⟩,h3⟩:=h1
         split at h2
         ·rename_i xs hxs
          obtain ⟨f1,f2⟩:=ie hf
          have:id'=id:=Nat.eq_of_beq_eq_true f2
          subst this
          have hx':=aQ (ρ:=ρ) hx
          have hy':=aQ (ρ:=ρ) hy
          have hy3':=aQ (ρ:=ρ) hy3
          simp only [AV.val] at hx' hy' hy3'
          have hi:=dp (ρ:=ρ) (T:=T) (Φ:=items ρ T fr.H++Φ) f1
          have hb:cw w (ρ id').b bt (AV.ah ρ cs):=hs.at_ hi
          obtain ⟨l1,l2⟩:=Aq hs n cs xs hxs
          have hj:j<st.G.length:=(List.getElem?_eq_some_iff.1 f1).1
          refine .none_ (aO.gd (aO.run (Gz ht (bC hz) hx' hy' hy3') (aA.upd (x:={ nm0 with v:=(some ⟨(ρ id').b,0,none⟩,n,n) }) hl hj h2 (by simp only [AV.val,Nms.aP];rfl) ?_)))
          refine hs.upd hi ((Ext.refl w).chg _) (fun b hb=>by cases hb) (fun M' m hn=> ?_)
          simp only [Row.item,Nms.aP]
          exact fun _=>⟨SRd.fresh hb (hn _ (by simp [Row.item,box]) (fun hb=>by cases hb)) l1 (l2.mv m),fun _=>l1.symm⟩
         ·cases h2
        ·cases h
       ·cases h
      ·cases h
     ·cases h
    ·cases h
   ·cases h
  ·cases h
 ·cases h
end
end Go.Proofs.YtgcgmclghbebjaaGreat
namespace Go.Proofs.YtgcgmclghbebjaaGreat
open Go.Lib
def KW {R:Type} (X:Cx) (T:Tbl) (fr:Fr) (st:StB) (t:TypeId) (x y:Operand) (K:Go_ R):Option R:=match opA T st.E fr.F none x with
 | some (.ptr id off)=>(match opA T st.E fr.F none y with
  | some v=>DH X.P st t id off v K
  | none=>none)
 | some (.adr q off)=>(match opA T st.E fr.F none y with
  | some v=>DI X.P fr st t q off v K
  | none=>none)
 | _=>none
def OY {R:Type} (X:Cx) (T:Tbl) (fr:Fr) (st:StB) (g:GK) (d:Tmp) (t:TypeId) (x:Operand) (K:Go_ R):Option R:=match opA T st.E fr.F g x with
 | some (.adr q off)=>Ai X T fr st g d t q off K
 | _=>none
def Rc {R:Type} (X:Cx) (T:Tbl) (fr:Fr) (st:StB) (g:GK) (b:Builtin) (d:Option Tmp) (xs:List Operand) (ts:List TypeId) (K:Go_ R):Option R:=match b,xs,ts,d with
 | .append,[x,y],[t,u],some d=>gone g (ifS (Nat.beq t u) (MN X T fr st d t x y K) (JZ X T fr st d t u x y K))
 | .unsafeSliceData,[x],_,some d=>gone g (Dd T fr st d x K)
 | .unsafeString,[x,y],[pt,_],some d=>gone g (IK X T fr st d pt x y K)
 | .copy,[x,y],[t,u],d=>gone g (ifS (Nat.beq t u) (Kh X T fr st d t x y K) none)
 | _,_,_,_=>none
def NC {R:Type} (X:Cx) (tb:List Ent) (T:Tbl) (fr:Fr) (st:StB) (g:GK) (d:Option Tmp) (c:Callee) (xs:List Operand) (ts:List TypeId) (K:Go_ R):Option R:=match c with
 | .builtin b=>Rc X T fr st g b d xs ts K
 | .value fo=>(match opA T st.E fr.F g fo with
  | some (.fn f a b)=>(match ku T st.E fr.F g xs with
   | some vs=>Nk X T fr st g d f (a++vs++b) K (mG T fr st g d f (a++vs++b) K tb)
   | none=>none)
  | some (.raw (.func (.methodOf it nm) ⟨[]⟩ ⟨[]⟩))=>(match X.P.underlying it with
   | some dI=>ifS (eA dI) (match ku T st.E fr.F g xs with
    | some (.ifc t u::vs)=>byT (fun c=>match tX X T fr st g c u nm with
     | some q=>mG T fr st g d q.1 (q.2::vs) K tb
     | none=>none) t X.ks
    | _=>none) none
   | none=>none)
  | _=>none)
 | .invoke rc nm=>(match opA T st.E fr.F g rc with
  | some (.ifc t u)=>(match ku T st.E fr.F g xs with
   | some vs=>(match u with
    | .agg []=>byT (fun c=>match tX X T fr st g c u nm with
     | some q=>mG T fr st g d q.1 (q.2::vs) K tb
     | none=>none) t X.ks
    | _=>(match tX X T fr st g t u nm with
     | some q=>mG T fr st g d q.1 (q.2::vs) K tb
     | none=>none))
   | none=>none)
  | _=>none)
noncomputable def opN {R:Type} (X:Cx) (tb:List Ent) (T:Tbl) (fr:Fr) (st:StB) (g:GK) (op:Op) (dst:Option Tmp) (K:Go_ R):Option R:=match op,dst with
 | .indexAddr t x y,some d=>(match dW X.P t with
  | some _=>Is X T fr st g d t x y K
  | none=>(match opA T st.E fr.F g x with
   | some (.gp _)=>Dc X T fr st g d t x y K
   | _=>gone g (JU X T fr st d t x y K)))
 | .slice t x lo hi mx,some d=>(match dW X.P t with
  | some _=>(match lo,mx with
   | none,none=>ifS (inO fr.n d X.oc) (gone g (JG X T fr st d t x hi K)) (Ea X T fr st g d t x none hi none K)
   | lo,mx=>Ea X T fr st g d t x lo hi mx K)
  | none=>(match opA T st.E fr.F g x with
   | some (.gp _)=>gone g (NP X T fr st d t x lo hi mx K)
   | _=>gone g (NV X T fr st d t x lo hi mx K)))
 | .alloc t,some d=>gone g (DW X st d t K)
 | .box t x,some d=>gone g (Mr T fr st d t x K)
 | .store t x y,none=>gone g (KW X T fr st t x y K)
 | .load t x,some d=>OY X T fr st g d t x K
 | .buildSlice t n ps,some d=>N5 X T fr st g d t n ps.toList K
 | .makeSlice t x y,some d=>gone g (Jr X T fr st d t x y K)
 | .makeMap t none,some d=>gone g (Jy X st d t K)
 | .mapUpdate t x y z,none=>gone g (IG X T fr st t x y z K)
 | .range t x,some d=>gone g (Mx X T fr st d t x K)
 | .next x true,some d=>gone g (M1 T fr st d x K)
 | .convert s dt x,some d=>Ow X T fr st g d s dt x K
 | .binOp op t x y _,some d=>gone g (MK X T fr st d op t x y K)
 | .call c,d=>NC X tb T fr st g d c.callee c.args.toList c.argTypes.toList K
 | _,_=>none
noncomputable def opD {R:Type} (X:Cx) (tb:List Ent) (T:Tbl) (fr:Fr) (st:StB) (g:GK) (o:Oper) (K:Go_ R):Option R:=
 match JT X T st.E fr.F g o.op with
 | some cv=>uP cv.1 (g.map fun _=>T.get g) (K { st with E:=bw o.dst g cv.2 st.E })
 | none=>match Ih X T st.E fr.F st.G fr.H g o.op with
  | some cv=>uP cv.1 (g.map fun _=>T.get g) (K { st with E:=bw o.dst g cv.2 st.E })
  | none=>ifS (st.low fr) (opN X tb T fr st g o.op o.dst K) none
section
variable {X : Cx} {tb : List Ent} {R : Type} {r : R} {K : Go_ R} {T : Tbl} {fr : Fr} {st : StB} {g : GK} {ρ : Nms} {Φ : Ctx} {w : World} {ty : TypeId} {pos : String} {af : Array Edge} {gd : Option (Nat × Bool)}
theorem oA {d:Option Tmp} {op:Op} {f:FuncId} {args:List AV} (hl:st.low fr=true) (hs:Sat (items ρ T st.G++(items ρ T fr.H++Φ)) w) (hΓ: ∀ it∈X.Γ,it∈Φ)
  (ent:cR X.P f→T.get g=true→ ∀ n act,Fits n (ai ρ T st.E fr.F) act→(execOp act.eval ⟨d,op,ty,pos,af,gd⟩).run X.P w= .ok (.enter f (AV.ah ρ args).toArray) w): ∀ {tb:List Ent},(∀ e∈tb,e.Ok X.P X.Γ)→mG T fr st g d f args K tb=some r→
  Ok2 X.P T g (ai ρ T st.E fr.F) ⟨d,op,ty,pos,af,gd⟩ w (aA r K T fr st g d ρ Φ)
 | [],_,h=>by cases h
 | e::tb,htb,h=>by
  unfold mG at h
  rcases cj h with ⟨h1,h2⟩ | ⟨_,h2⟩
  ·split at h2
   ·rename_i r' hr'
    subst h2
    have:=Nat.eq_of_beq_eq_true h1
    subst this
    have he:=htb e (List.mem_cons_self ..)
    exact Ks hl hs he hΓ (ent he.1) hr'
   ·exact oA hl hs hΓ ent (fun e he=>htb e (List.mem_cons_of_mem _ he)) h2
  ·exact oA hl hs hΓ ent (fun e he=>htb e (List.mem_cons_of_mem _ he)) h2
theorem Ov {d:Option Tmp} {f:FuncId} {fo:Operand} {xs:List Operand} {tys:Array TypeId} {a b vs:List AV} (hl:st.low fr=true) (hs:Sat (items ρ T st.G++(items ρ T fr.H++Φ)) w) (hΓ: ∀ it∈X.Γ,it∈Φ)
  (hfo:opA T st.E fr.F g fo=some (.fn f a b)) (hxs:ku T st.E fr.F g xs=some vs) {tb:List Ent} (htb: ∀ e∈tb,e.Ok X.P X.Γ) (h:mG T fr st g d f (a++vs++b) K tb=some r):
  Ok2 X.P T g (ai ρ T st.E fr.F) ⟨d,.call ⟨.value fo,xs.toArray,tys⟩,ty,pos,af,gd⟩ w (aA r K T fr st g d ρ Φ):=by
 have hfo':=ax (ρ:=ρ) hfo
 have hxs':=ek (ρ:=ρ) hxs
 simp only [AV.val] at hfo'
 refine oA hl hs hΓ (fun he hg n act hf=> ?_) htb h
 rw [bH,bH]
 exact og he hfo' hxs' hf hg
theorem Gi {d:Option Tmp} {rc:Operand} {nm:String} {xs:List Operand} {tys:Array TypeId} {t:TypeId} {u:AV} {vs:List AV} {q:FuncId×AV} (hl:st.low fr=true) (hs:Sat (items ρ T st.G++(items ρ T fr.H++Φ)) w) (hΓ: ∀ it∈X.Γ,it∈Φ)
  (hrc:opA T st.E fr.F g rc=some (.ifc t u)) (hxs:ku T st.E fr.F g xs=some vs) (hq:tX X T fr st g t u nm=some q) {tb:List Ent} (htb: ∀ e∈tb,e.Ok X.P X.Γ) (h:mG T fr st g d q.1 (q.2::vs) K tb=some r):
  Ok2 X.P T g (ai ρ T st.E fr.F) ⟨d,.call ⟨.invoke rc nm,xs.toArray,tys⟩,ty,pos,af,gd⟩ w (aA r K T fr st g d ρ Φ):=by
 have hrc':=ax (ρ:=ρ) hrc
 have hxs':=ek (ρ:=ρ) hxs
 simp only [AV.val] at hrc'
 exact oA hl hs hΓ (fun he hg n act hf=>NR he hrc' (FM hs hq) hxs' hf hg) htb h
theorem Od {d:Option Tmp} {fo:Operand} {it:TypeId} {dI:TypeDesc} {nm:String} {xs:List Operand} {tys:Array TypeId} {t:TypeId} {u:AV} {vs:List AV} {q:FuncId×AV} (hl:st.low fr=true) (hs:Sat (items ρ T st.G++(items ρ T fr.H++Φ)) w) (hΓ: ∀ it∈X.Γ,it∈Φ)
  (hfo:opA T st.E fr.F g fo=some (.raw (.func (.methodOf it nm) #[] #[]))) (hit:X.P.underlying it=some dI) (hd:eA dI=true) (hxs:ku T st.E fr.F g xs=some (.ifc t u::vs)) (hq:tX X T fr st g t u nm=some q) {tb:List Ent} (htb: ∀ e∈tb,e.Ok X.P X.Γ) (h:mG T fr st g d q.1 (q.2::vs) K tb=some r):
  Ok2 X.P T g (ai ρ T st.E fr.F) ⟨d,.call ⟨.value fo,xs.toArray,tys⟩,ty,pos,af,gd⟩ w (aA r K T fr st g d ρ Φ):=by
 have hfo':=ax (ρ:=ρ) hfo
 have hxs':=ek (ρ:=ρ) hxs
 simp only [AV.val,AV.ah] at hfo' hxs'
 exact oA hl hs hΓ (fun he hg n act hf=>GG he hfo' hit hd (FM hs hq) hxs' hf hg) htb h
theorem Px {d:Option Tmp} {c:Callee} {xs:Array Operand} {ts:Array TypeId} (hl:st.low fr=true) (hs:Sat (items ρ T st.G++(items ρ T fr.H++Φ)) w) (hΓ: ∀ it∈X.Γ,it∈Φ) (htb: ∀ e∈tb,e.Ok X.P X.Γ)
  (h:NC X tb T fr st g d c xs.toList ts.toList K=some r):Ok2 X.P T g (ai ρ T st.E fr.F) ⟨d,.call ⟨c,xs,ts⟩,ty,pos,af,gd⟩ w (aA r K T fr st g d ρ Φ):=by
 obtain ⟨xs⟩:=xs
 obtain ⟨ts⟩:=ts
 unfold NC at h
 split at h
 ·unfold Rc at h
  split at h
  ·rename_i x y t u d' e1 e2
   simp only at e1 e2;subst e1;subst e2
   obtain ⟨rfl,h1⟩:=bP h
   rcases cj h1 with ⟨h2,h3⟩ | ⟨_,h3⟩
   ·have:=Nat.eq_of_beq_eq_true h2
    subst this
    exact PZ hl hs h3
   ·exact N0 hl hs h3
  ·rename_i x d' e1
   simp only at e1;subst e1
   obtain ⟨rfl,h1⟩:=bP h
   exact (Gq hl hs h1).ok2
  ·rename_i x y pt it d' e1 e2
   simp only at e1 e2;subst e1;subst e2
   obtain ⟨rfl,h1⟩:=bP h
   exact M6 hl hs h1
  ·rename_i x y t u e1 e2
   simp only at e1 e2;subst e1;subst e2
   obtain ⟨rfl,h1⟩:=bP h
   obtain ⟨h2,h3⟩:=an h1
   have:=Nat.eq_of_beq_eq_true h2
   subst this
   exact L7 hl hs h3
  ·cases h
 ·split at h
  ·rename_i f a b hfo
   split at h
   ·rename_i vs hxs
    refine P0 hl hs (fun he hg n act hf=> ?_) h (fun h=>Ov hl hs hΓ hfo hxs htb h)
    have hfo':=ax (ρ:=ρ) hfo
    have hxs':=ek (ρ:=ρ) hxs
    simp only [AV.val] at hfo'
    rw [bH,bH]
    exact og he hfo' hxs' hf hg
   ·cases h
  ·rename_i it nm hfo
   split at h
   ·rename_i dI hit
    obtain ⟨h1,h2⟩:=an h
    split at h2
    ·rename_i t u vs hxs
     have h3:=FD h2
     split at h3
     ·rename_i q hq
      exact Od hl hs hΓ hfo hit h1 hxs hq htb h3
     ·cases h3
    ·cases h2
   ·cases h
  ·cases h
 ·split at h
  ·rename_i t u hrc
   split at h
   ·rename_i vs hxs
    split at h
    ·have h3:=FD h
     split at h3
     ·rename_i q hq
      exact Gi hl hs hΓ hrc hxs hq htb h3
     ·cases h3
    ·split at h
     ·rename_i q hq
      exact Gi hl hs hΓ hrc hxs hq htb h
     ·cases h
   ·cases h
  ·cases h
theorem Rf {op:Op} {dst:Option Tmp} (hl:st.low fr=true) (hs:Sat (items ρ T st.G++(items ρ T fr.H++Φ)) w) (hΓ: ∀ it∈X.Γ,it∈Φ) (htb: ∀ e∈tb,e.Ok X.P X.Γ)
  (h:opN X tb T fr st g op dst K=some r):Ok2 X.P T g (ai ρ T st.E fr.F) ⟨dst,op,ty,pos,af,gd⟩ w (aA r K T fr st g dst ρ Φ):=by
 unfold opN at h
 split at h
 ·split at h
  ·exact (Hk hl hs h).ok2
  ·split at h
   ·exact (DA hl hΓ hs h).ok2
   ·obtain ⟨rfl,h1⟩:=bP h;exact (HV hs h1).ok2
 ·split at h
  ·split at h
   ·rcases cj h with ⟨_,h2⟩ | ⟨_,h2⟩
    ·obtain ⟨rfl,h3⟩:=bP h2
     exact Ol hl hs h3
    ·exact (BA hl hs h2).ok2
   ·exact (BA hl hs h).ok2
  ·split at h
   ·obtain ⟨rfl,h1⟩:=bP h;exact Po hl hΓ hs h1
   ·obtain ⟨rfl,h1⟩:=bP h;exact PS hl hs h1
 ·obtain ⟨rfl,h1⟩:=bP h;exact KT hl hs h1
 ·obtain ⟨rfl,h1⟩:=bP h;exact Qq hl hs h1
 ·obtain ⟨rfl,h1⟩:=bP h
  unfold KW at h1
  split at h1
  ·rename_i id off hx
   split at h1
   ·rename_i v hv;exact .none_ (LZ hs hx hv h1)
   ·cases h1
  ·rename_i id off hx
   split at h1
   ·rename_i v hv;exact .none_ (Lc hl hs hx hv h1)
   ·cases h1
  ·cases h1
 ·unfold OY at h
  split at h
  ·rename_i q off hx;exact Md hl hs hx h
  ·cases h
 ·exact PO hl hs h
 ·obtain ⟨rfl,h1⟩:=bP h;exact MQ hl hs h1
 ·obtain ⟨rfl,h1⟩:=bP h;exact Oc hl hs h1
 ·obtain ⟨rfl,h1⟩:=bP h;exact MW hs h1
 ·obtain ⟨rfl,h1⟩:=bP h;exact P5 hl hs h1
 ·obtain ⟨rfl,h1⟩:=bP h;exact PR hs h1
 ·exact Pf hl hs h
 ·obtain ⟨rfl,h1⟩:=bP h;exact Qz hs h1
 ·exact Px hl hs hΓ htb h
 ·cases h
theorem RY {o:Oper} (hT:cS T st.E fr.F) (hs:Sat (items ρ T st.G++(items ρ T fr.H++Φ)) w) (hΓ: ∀ it∈X.Γ,it∈Φ) (htb: ∀ e∈tb,e.Ok X.P X.Γ)
  (h:opD X tb T fr st g o K=some r):Ok2 X.P T g (ai ρ T st.E fr.F) o w (aA r K T fr st g o.dst ρ Φ):=by
 obtain ⟨dst,op,ty,pos,af,gd⟩:=o
 unfold opD at h
 simp only at h
 split at h
 ·rename_i cv hcv
  obtain ⟨h1,h2⟩:=jT h
  exact Okq.ok2 ⟨_,fun w'=>E6 hT hcv h1,aA.old h2 (Nat.le_refl _) rfl rfl hs⟩
 ·split at h
  ·rename_i cv hcv
   obtain ⟨h1,h2⟩:=jT h
   have hr:=Gh (dst:=dst) (ty:=ty) (pos:=pos) (af:=af) (gd:=gd) hs hcv h1
   have hout:aA r K T fr st g dst ρ Φ (cv.2.val ρ) w:=aA.old h2 (Nat.le_refl _) rfl rfl hs
   exact ⟨fun hg=>aO.run (by rwa [hg] at hr) hout,fun _=>⟨_,hout⟩⟩
  ·obtain ⟨h1,h2⟩:=an h
   exact Rf h1 hs hΓ htb h2
end
/-! guards -/
def Row.gd:Row→GK
 | .sli g _ _ _ _ | .elm g _ _ | .kn g _ _ _ _ _ _=>g
 | _=>none
theorem Row.qg {ρ:Nms} {T T':Tbl} {r:Row} (h:T'.get r.gd=T.get r.gd):r.item ρ T'=r.item ρ T:=by
 cases r <;> simp only [Row.gd] at h <;> simp only [Row.item,h]
def pD (k:Nat×Bool) (g:GK):Bool:= !(GK.eq (some k) g)
def ta (k:Nat×Bool):aj→Bool
 | []=>true
 | x::E=>pD k x.2.1&&ta k E
def ze (k:Nat×Bool):List Row→Bool
 | []=>true
 | r::G=>pD k r.gd&&ze k G
def Jo (k:Nat×Bool):Tbl→Bool
 | []=>true
 | x::T=>pD k (some x.1)&&pD k x.2.1&&Jo k T
theorem nH {k:Nat×Bool} {par:GK} {rj:Nat} {b:Bool} {T:Tbl} {g:GK} (h:pD k g=true):Tbl.get ((k,par,rj,b)::T) g=T.get g:=Tbl.yL h
theorem yH {ρ:Nms} {k:Nat×Bool} {par:GK} {rj:Nat} {b:Bool} {T:Tbl}:{E:aj}→ta k E=true→aj.env ρ ((k,par,rj,b)::T) E=aj.env ρ T E
 | [],_=>rfl
 | (t,g,v)::E,h=>by
  simp only [ta,Bool.and_eq_true] at h
  simp only [aj.env]
  rw [nH h.1,yH h.2]
theorem tW {ρ:Nms} {k:Nat×Bool} {par:GK} {rj:Nat} {b:Bool} {T:Tbl}:{G:List Row}→ze k G=true→items ρ ((k,par,rj,b)::T) G=items ρ T G
 | [],_=>rfl
 | r::G,h=>by
  simp only [ze,Bool.and_eq_true] at h
  simp only [items,List.map_cons]
  rw [Row.qg (nH h.1)]
  have:=tW (ρ:=ρ) (par:=par) (rj:=rj) (b:=b) (T:=T) h.2
  simp only [items] at this
  rw [this]
theorem wQ {k:Nat×Bool}:{E:aj}→ta k E=true→{t:Nat}→{x:GK×AV}→aI E t=some x→pD k x.1=true
 | [],_,_,_,h=>by cases h
 | (r,g,v)::E,h,t,x,hx=>by
  simp only [ta,Bool.and_eq_true] at h
  unfold aI at hx
  rcases cj hx with ⟨_,h2⟩ | ⟨_,h2⟩
  ·cases h2;exact h.1
  ·exact wQ h.2 h2
def yM (k:Nat×Bool):Tbl→Bool
 | []=>false
 | x::T=>GK.eq (some k) (some x.1)||yM k T
def iP (d:Option Tmp):Tbl→Bool
 | []=>true
 | x::T=>(match d with
  | none=>true
  | some d=> !(Nat.beq d x.2.2.1))&&iP d T
def jh (ops:List Oper) (n:Nat) (T:Tbl):Prop:= ∀ x,x∈T→(ops[x.1.1]?).bind (·.dst)=some x.2.2.1∧Nat.blt x.2.2.1 n=true
def FT (T:Tbl) (fr:Fr):Prop:=(∀ x,x∈fr.F→T.get x.2.1=Tbl.get [] x.2.1)∧ ∀ r,r∈fr.H→T.get r.gd=Tbl.get [] r.gd
def stepG {R:Type} (ops:List Oper) (T:Tbl) (fr:Fr) (st:StB) (o:Oper) (run:Tbl→GK→Option R):Option R:=
 ifS (dU o&&vE fr.n o.dst) (match o.guard with
 | none=>ifS ( iP o.dst T ) ( run T none ) none
 | some k=>ifS ( yM k T ) ( ifS ( iP o.dst T ) ( run T (some k) ) none )<|match ops[k.1]? with
  | some oj=>(match oj.dst with
   | some rj=>(match cf st.E fr.F rj with
    | some (par,.bool b)=>ifS ( Nat.blt rj fr.n&&ta k st.E&&ta k fr.F&&ze k st.G&&ze k fr.H&&Jo k T&&iP o.dst ((k,par,rj,b)::T) ) ( run ((k,par,rj,b)::T) (some k) ) none
    | _=>none)
   | none=>none)
  | none=>none) none
structure Lm (ops:List Oper) (fr0 fr:Fr) (st:StB) (ρ:Nms) (o:Oper) (T T':Tbl) (g:GK):Prop where
 pl:dU o=true
 ds:vE fr.n o.dst=true
 t1:cS T' st.E fr.F
 t2:jh ops fr.n T'
 ft:FT T' fr0
 ak:iP o.dst T'=true
 ee:aj.env ρ T' st.E=aj.env ρ T st.E
 ef:aj.env ρ T' fr.F=aj.env ρ T fr.F
 eg:items ρ T' st.G=items ρ T st.G
 eh:items ρ T' fr.H=items ρ T fr.H
 gg:o.guard=g
 gk: ∀ k,g=some k→ ∃ rj par b,(ops[k.1]?).bind (·.dst)=some rj∧look (ai ρ T' st.E fr.F) rj=some (T'.get par,.bool b)∧Nat.blt rj fr.n=true∧(T'.get par&&(b==k.2))=T'.get g
theorem Ia {k:Nat×Bool}:{T:Tbl}→yM k T=true→ ∃ x,x∈T∧x.1=k
 | [],h=>by cases h
 | x::T,h=>by
  simp only [yM,Bool.or_eq_true] at h
  rcases h with h | h
  ·have:=GK.eq_eq h
   cases this
   exact ⟨x,List.mem_cons_self .., rfl⟩
  ·obtain ⟨y,h1,h2⟩:=Ia h
   exact ⟨y,List.mem_cons_of_mem _ h1,h2⟩
theorem Hm {k:Nat×Bool}:{T:Tbl}→Jo k T=true→ ∀ x,x∈T→pD k (some x.1)=true∧pD k x.2.1=true
 | [],_,x,h=>by cases h
 | y::T,h,x,hx=>by
  simp only [Jo,Bool.and_eq_true] at h
  rcases List.mem_cons.1 hx with rfl | hx
  ·exact h.1
  ·exact Hm h.2 x hx
theorem HG {k:Nat×Bool}:{E:aj}→ta k E=true→ ∀ x,x∈E→pD k x.2.1=true
 | [],_,x,h=>by cases h
 | y::T,h,x,hx=>by
  simp only [ta,Bool.and_eq_true] at h
  rcases List.mem_cons.1 hx with rfl | hx
  ·exact h.1
  ·exact HG h.2 x hx
theorem Hi {k:Nat×Bool}:{E:List Row}→ze k E=true→ ∀ x,x∈E→pD k x.gd=true
 | [],_,x,h=>by cases h
 | y::T,h,x,hx=>by
  simp only [ze,Bool.and_eq_true] at h
  rcases List.mem_cons.1 hx with rfl | hx
  ·exact h.1
  ·exact Hi h.2 x hx
theorem Fj {R:Type} {r:R} {ops:List Oper} {T:Tbl} {fr0 fr:Fr} {st:StB} {o:Oper} {run:Tbl→GK→Option R} {ρ:Nms} (h1:cS T st.E fr.F) (h2:jh ops fr.n T) (hF0:fr0.F=fr.F) (hH0: ∀ r,r∈fr0.H→r∈fr.H) (hf:FT T fr0) (h:stepG ops T fr st o run=some r):
  ∃ T' g,run T' g=some r∧Lm ops fr0 fr st ρ o T T' g:=by
 unfold stepG at h
 obtain ⟨h3,h4⟩:=an h
 simp only [Bool.and_eq_true] at h3
 have old: ∀ k x,x∈T→x.1=k→ ∃ rj par b,(ops[k.1]?).bind (·.dst)=some rj∧look (ai ρ T st.E fr.F) rj=some (T.get par,.bool b)∧Nat.blt rj fr.n=true∧(T.get par&&(b==k.2))=T.get (some k):=fun k x hx hk=>by
  subst hk
  obtain ⟨a1,a2⟩:=h1 x hx
  obtain ⟨a3,a4⟩:=h2 x hx
  exact ⟨x.2.2.1,x.2.1,x.2.2.2,a3,by rw [dH,a1];simp [AV.val],a4,by rw [a2,xC]⟩
 split at h4
 ·rename_i hg
  obtain ⟨h5,h6⟩:=an h4
  exact ⟨T,none,h6,⟨h3.1,h3.2,h1,h2,hf,h5,rfl,rfl,rfl,rfl,hg,fun k hk=>by cases hk⟩⟩
 ·rename_i k hg
  rcases cj h4 with ⟨h5,h6⟩ | ⟨h5,h6⟩
  ·obtain ⟨h7,h8⟩:=an h6
   obtain ⟨x,hx,hk⟩:=Ia h5
   exact ⟨T,some k,h8,⟨h3.1,h3.2,h1,h2,hf,h7,rfl,rfl,rfl,rfl,hg,fun k' hk'=>by cases hk';exact old k x hx hk⟩⟩
  ·split at h6
   ·rename_i oj hoj
    split at h6
    ·rename_i rj hrj
     split at h6
     ·rename_i par b hlk
      obtain ⟨h7,h8⟩:=an h6
      simp only [Bool.and_eq_true] at h7
      obtain ⟨⟨⟨⟨⟨⟨b1,b2⟩,b3⟩,b4⟩,b5⟩,b6⟩,b7⟩:=h7
      have hpar:pD k par=true:=by
       unfold cf at hlk
       split at hlk
       ·rename_i x hx;cases hlk;exact wQ b2 hx
       ·exact wQ b3 hlk
      have hself:Tbl.get ((k,par,rj,b)::T) (some k)=(Tbl.get ((k,par,rj,b)::T) par&&nj k.2 b):=by
       rw [Tbl.M8,nH hpar]
      have ee:=yH (ρ:=ρ) (par:=par) (rj:=rj) (b:=b) (T:=T) b2
      have ef:=yH (ρ:=ρ) (par:=par) (rj:=rj) (b:=b) (T:=T) b3
      refine ⟨(k,par,rj,b)::T,some k,h8,⟨h3.1,h3.2,fun x hx=> ?_,fun x hx=> ?_,⟨fun x hx=> ?_,fun x hx=> ?_⟩,b7,ee,ef,tW b4,tW b5,hg,fun k' hk'=> ?_⟩⟩
      ·rcases List.mem_cons.1 hx with rfl | hx
       ·exact ⟨hlk,hself⟩
       ·obtain ⟨a1,a2⟩:=h1 x hx
        obtain ⟨a3,a4⟩:=Hm b6 x hx
        exact ⟨a1,by rw [nH a3,nH a4];exact a2⟩
      ·rcases List.mem_cons.1 hx with rfl | hx
       ·exact ⟨by simp [hoj,hrj],b1⟩
       ·exact h2 x hx
      ·rw [nH (HG b3 x (hF0▸hx))];exact hf.1 x hx
      ·rw [nH (Hi b5 x (hH0 x hx))];exact hf.2 x hx
      ·cases hk'
       refine ⟨rj,par,b,by simp [hoj,hrj],?_,b1,by rw [hself,xC]⟩
       rw [dH,hlk];simp [AV.val]
     ·cases h6
    ·cases h6
   ·cases h6
theorem Cg {d:Option Tmp}:{T:Tbl}→iP d T=true→ ∀ x,x∈T→ ∀ (g:GK) (v:AV) (E F:aj),cf (bw d g v E) F x.2.2.1=cf E F x.2.2.1
 | [],_,x,h=>by cases h
 | y::T,h,x,hx=>fun g v E F=>by
  simp only [iP,Bool.and_eq_true] at h
  rcases List.mem_cons.1 hx with rfl | hx
  ·cases d with
   | none=>rfl
   | some d=>
    have h1:=h.1
    simp only [Bool.not_eq_true'] at h1
    unfold cf
    simp only [bw,aI,h1]
  ·exact Cg h.2 x hx g v E F
theorem cS.out {T:Tbl} {E F:aj} (h:cS T E F) {d:Option Tmp} (ha:iP d T=true) (g:GK) (v:AV):cS T (bw d g v E) F:=fun x hx=>by
 rw [Cg ha x hx];exact h x hx
theorem lQ {ρ:Nms} {T:Tbl} {d:Option Tmp} {g:GK} {v:AV} {E F:aj}:ai ρ T (bw d g v E) F=jH d (T.get g) (v.val ρ) (ai ρ T E F):=by
 cases d <;> rfl
section
variable {X : Cx} {tb : List Ent} {σ : Option Nat} {Q : aG} {D : List Deferred} {ops : List Oper} {rest : List Oper} {R : Type} {r : R} {T : Tbl} {fr : Fr} {st : StB} {ρ : Nms} {Φ : Ctx} {w : World}
theorem F9 {fr0:Fr} {o:Oper} {K:Tbl→Go_ R} (h1:cS T st.E fr.F) (h2:jh ops fr.n T) (hF0:fr0.F=fr.F) (hH0: ∀ r,r∈fr0.H→r∈fr.H) (hf:FT T fr0) (hs:Sat (items ρ T st.G++(items ρ T fr.H++Φ)) w) (hΓ: ∀ it∈X.Γ,it∈Φ) (htb: ∀ e∈tb,e.Ok X.P X.Γ)
  (h:stepG ops T fr st o (fun T g=>opD X tb T fr st g o (K T))=some r)
  (next: ∀ T' st' ρ' w',cS T' st'.E fr.F→jh ops fr.n T'→FT T' fr0→ay st.c ρ ρ'→st.c≤st'.c→K T' st'=some r→items ρ' T' fr.H=items ρ T fr.H→Sat (items ρ' T' st'.G++(items ρ' T' fr.H++Φ)) w'→WL X.P σ ops.toArray Q fr.n D rest (ai ρ' T' st'.E fr.F) w'):
  WL X.P σ ops.toArray Q fr.n D (o::rest) (ai ρ T st.E fr.F) w:=by
 obtain ⟨T',g,hk,so⟩:=Fj (ρ:=ρ) h1 h2 hF0 hH0 hf h
 have hs':Sat (items ρ T' st.G++(items ρ T' fr.H++Φ)) w:=by rw [so.eg,so.eh];exact hs
 have he:ai ρ T st.E fr.F=ai ρ T' st.E fr.F:=by rw [ai,ai,so.ee,so.ef]
 rw [he]
 have hop:=RY so.t1 hs' hΓ htb hk
 have fin: ∀ v w',aA r (K T') T' fr st g o.dst ρ Φ v w'→WL X.P σ ops.toArray Q fr.n D rest (jH o.dst (T'.get g) v (ai ρ T' st.E fr.F)) w':=fun v w' hv=>by
  obtain ⟨ρ',st',av,k1,k2,k3,k4,k5,k6,k7,k8⟩:=hv
  have:=next T' st' ρ' w' (by rw [k4];exact so.t1.out so.ak g av) so.t2 so.ft k2 k3 k1 (k7.trans so.eh) k8
  rw [k4,lQ,k5,k6] at this
  exact this
 cases hg:g with
 | none=>
  subst hg
  have:=fin
  rw [Tbl.get_none] at this
  exact PY (hop.1 Tbl.get_none) so.pl so.gg so.ds this
 | some k=>
  obtain ⟨rj,par,b,g1,g2,g3,g4⟩:=so.gk k hg
  subst hg
  exact Og hop.1 hop.2 so.pl so.gg (by simpa using g1) g2 g3 g4 so.ds fin
end
/-! regions in their order -/
def jX {α:Type}:Option α→Bool
 | none=>true
 | some _=>false
def iw (E0:aj):aj→aj
 | []=>[]
 | x::E=>(match aI E0 x.1 with
  | some (none,_)=>ifS (jX x.2.1) (x::iw E0 E) (iw E0 E)
  | _=>iw E0 E)
def gQ:List Row→List Row
 | []=>[]
 | r::G=>ifS (jX r.gd) (r::gQ G) (gQ G)
def nO (T:Tbl) (st:StB):StB:=match T with
 | []=>st
 | _::_=>{ st with E:=iw st.E st.E,G:=gQ st.G }
theorem ed {t' t:Nat} {g:GK} {v:AV} {E:aj} (h:Nat.beq t' t=true):aI ((t',g,v)::E) t=some (g,v):=by simp only [aI,h]
theorem cL {t' t:Nat} {g:GK} {v:AV} {E:aj} (h:Nat.beq t' t=false):aI ((t',g,v)::E) t=aI E t:=by simp only [aI,h]
theorem rv {E0:aj} {t:Nat}:{E:aj}→{x:GK×AV}→aI (iw E0 E) t=some x→x.1=none∧(∃ v,aI E0 t=some (none,v))∧((∃ v,aI E t=some (none,v))→aI E t=some x)
 | [],x,h=>by cases h
 | (t',g',v')::E,x,h=>by
  unfold iw at h
  have bf:aI (iw E0 E) t=some x→(∀ v,Nat.beq t' t=true→aI E0 t'≠some (none,v)∨g'≠none)→x.1=none∧(∃ v,aI E0 t=some (none,v))∧((∃ v,aI ((t',g',v')::E) t=some (none,v))→aI ((t',g',v')::E) t=some x):=fun h' hn=>by
   obtain ⟨h1,h2,h3⟩:=rv h'
   refine ⟨h1,h2,fun hv=> ?_⟩
   cases hb:Nat.beq t' t
   ·rw [cL hb] at hv ⊢; exact h3 hv
   ·exfalso
    obtain ⟨v0,hv0⟩:=h2
    obtain ⟨v1,hv1⟩:=hv
    rw [ed hb] at hv1
    simp only [Option.some.injEq,Prod.mk.injEq] at hv1
    have e:=Nat.eq_of_beq_eq_true hb
    rcases hn v0 hb with h4 | h4
    ·rw [e] at h4;exact h4 hv0
    ·exact h4 hv1.1
  dsimp only at h
  split at h
  ·rename_i v hv
   cases h1:jX g'
   ·rw [h1] at h
    exact bf h (fun v _=> .inr (fun e=>by rw [e] at h1;cases h1))
   ·rw [h1] at h
    have h2:aI ((t',g',v')::iw E0 E) t=some x:=h
    cases hb:Nat.beq t' t
    ·rw [cL hb] at h2 ⊢
     exact rv (E:=E) h2
    ·rw [ed hb] at h2 ⊢
     cases h2
     have e:=Nat.eq_of_beq_eq_true hb
     refine ⟨?_,⟨v,by rw [← e];exact hv⟩,fun _=>rfl⟩
     cases hy:g' with
     | none=>rfl
     | some _=>rw [hy] at h1;cases h1
  ·rename_i hn
   exact bf h (fun v hb=> .inl (fun e=>hn v e))
theorem x5 {E0:aj} {t:Nat} {v0:AV} (h0:aI E0 t=some (none,v0)):{E:aj}→{v:AV}→aI E t=some (none,v)→aI (iw E0 E) t=some (none,v)
 | [],v,h=>by cases h
 | (t',g',v')::E,v,h=>by
  unfold iw
  cases hb:Nat.beq t' t
  ·rw [cL hb] at h
   have ih:=x5 h0 h
   dsimp only
   split
   ·cases jX g'
    ·exact ih
    ·show aI ((t',g',v')::iw E0 E) t=_
     rw [cL hb];exact ih
   ·exact ih
  ·rw [ed hb] at h
   cases h
   have e:=Nat.eq_of_beq_eq_true hb
   subst e
   dsimp only
   rw [h0]
   exact ed hb
def Dj (F E0:aj):aj→Bool
 | []=>true
 | x::E=>(match aI E0 x.1 with
  | some (none,_)=>true
  | _=>jX (aI F x.1))&&Dj F E0 E
theorem Gn {F E0:aj} {t:Nat}:{E:aj}→{x:GK×AV}→Dj F E0 E=true→aI E t=some x→(∃ v,aI E0 t=some (none,v))∨aI F t=none
 | [],x,_,h=>by cases h
 | (t',g',v')::E,x,hb,h=>by
  simp only [Dj,Bool.and_eq_true] at hb
  cases hq:Nat.beq t' t
  ·rw [cL hq] at h;exact Gn hb.2 h
  ·have e:=Nat.eq_of_beq_eq_true hq
   subst e
   have h1:=hb.1
   split at h1
   ·rename_i v hv;exact .inl ⟨v,hv⟩
   ·cases hF:aI F t' with
    | none=>exact .inr rfl
    | some y=>rw [hF] at h1;cases h1
def vq (T:Tbl) (fr:Fr) (st:StB):Bool:=match T with
 | []=>true
 | _::_=>Dj fr.F st.E st.E
theorem Ny {ρ:Nms} {T:Tbl} {E:aj} (h: ∀ x,x∈E→T.get x.2.1=Tbl.get [] x.2.1):aj.env ρ T E=aj.env ρ [] E:=by
 induction E with
 | nil=>rfl
 | cons x E ih=>
  obtain ⟨t,g,v⟩:=x
  simp only [aj.env]
  rw [h _ (List.mem_cons_self ..),ih (fun x hx=>h x (List.mem_cons_of_mem _ hx))]
theorem Ap {ρ:Nms} {T:Tbl} {G:List Row} (h: ∀ r,r∈G→T.get r.gd=Tbl.get [] r.gd):items ρ T G=items ρ [] G:=
 List.map_congr_left fun r hr=>Row.qg (h r hr)
theorem nT:{G:List Row}→ ∀ r,r∈gQ G→r.gd=none
 | [],r,h=>by cases h
 | y::G,r,h=>by
  unfold gQ at h
  cases hy:jX y.gd
  ·rw [hy] at h;exact nT r h
  ·rw [hy] at h
   rcases List.mem_cons.1 h with rfl | h
   ·cases hg:r.gd with
    | none=>rfl
    | some _=>rw [hg] at hy;cases hy
   ·exact nT r h
theorem oU {ρ:Nms} {T:Tbl} {w:World} {B:Ctx}: ∀ {G:List Row} {A:Ctx},Sat (A++(items ρ T G++B)) w→Sat (A++(items ρ T (gQ G)++B)) w
 | [],_,h=>h
 | r::G,A,h=>by
  unfold gQ
  cases jX r.gd
  ·exact oU (G:=G) (Sat.rb h)
  ·have h':Sat ((A++[r.item ρ T])++(items ρ T G++B)) w:=by simpa [items] using h
   have:=oU (G:=G) h'
   simpa [items] using this
theorem uq {ρ:Nms} {T:Tbl} {fr:Fr} {st:StB} {Φ:Ctx} {w:World} (hB:vq T fr st=true) (hf:FT T fr) (hs:Sat (items ρ T st.G++(items ρ T fr.H++Φ)) w):
  (nO T st).c=st.c∧fc (ai ρ [] (nO T st).E fr.F) (ai ρ T st.E fr.F)∧Sat (items ρ [] (nO T st).G++(items ρ [] fr.H++Φ)) w:=by
 cases T with
 | nil=>exact ⟨rfl,fc.refl,hs⟩
 | cons x T=>
  refine ⟨rfl,fun t p hp=> ?_,?_⟩
  ·have eF:aj.env ρ (x::T) fr.F=aj.env ρ [] fr.F:=Ny hf.1
   rw [ai,rL] at hp ⊢
   rw [eF]
   cases hl:look (aj.env ρ [] (nO (x::T) st).E) t with
   | none=>
    rw [hl] at hp
    -- nothing kept: nothing told, or under a guard
    have:look (aj.env ρ (x::T) st.E) t=none:=by
     rw [lf] at hl hp ⊢
     cases hE:aI st.E t with
     | none=>rfl
     | some y=>
      exfalso
      have hk:aI (iw st.E st.E) t=none:=by
       cases hk:aI (iw st.E st.E) t with
       | none=>rfl
       | some z=>
        have:aI (nO (x::T) st).E t=some z:=hk
        rw [this] at hl;cases hl
      rcases Gn hB hE with ⟨v,hv⟩ | hF
      ·rw [x5 hv hv] at hk;cases hk
      ·rw [hF] at hp;cases hp
    rw [this];exact hp
   | some q=>
    rw [hl] at hp
    cases hp
    rw [lf] at hl
    cases hk:aI (nO (x::T) st).E t with
    | none=>rw [hk] at hl;cases hl
    | some y=>
     rw [hk] at hl
     obtain ⟨h1,h2,h3⟩:=rv hk
     have h4:=h3 h2
     rw [lf,h4]
     simp only [Option.map_some,Option.some.injEq] at hl ⊢
     rw [← hl,h1,Tbl.get_none,Tbl.get_none]
  ·have h1:=oU (A:=[]) hs
   have e1:items ρ (x::T) (gQ st.G)=items ρ [] (gQ st.G):=Ap fun r hr=>by rw [nT r hr,Tbl.get_none,Tbl.get_none]
   have e2:items ρ (x::T) fr.H=items ρ [] fr.H:=Ap hf.2
   rw [List.nil_append,e1,e2] at h1
   exact h1
end Go.Proofs.YtgcgmclghbebjaaGreat
namespace Go.Proofs.YtgcgmclghbebjaaGreat
open Go.Lib
def OkT:Bool→Pt→List (Bool×Nat×Pt)→Type
 | true,_,_=>Empty
 | false,r,os=>Tup (hol r++dP os)
abbrev RK {R:Type}:(nv:Bool)→(r:Pt)→(os:List (Bool×Nat×Pt))→OkT nv r os→(Tup (hol r++dP os)→Option R)→Option R
 | true,_,_,x,_=>Empty.elim x
 | false,_,_,x,K=>K x
def isOk:(nv:Bool)→(r:Pt)→(os:List (Bool×Nat×Pt))→OkT nv r os→Tup (hol r++dP os)→Prop
 | true,_,_,_,_=>False
 | false,_,_,x,q=>x=q
theorem Qn {R:Type} {r':R}:{nv:Bool}→{r:Pt}→{os:List (Bool×Nat×Pt)}→{x:OkT nv r os}→{q:Tup (hol r++dP os)}→{K:Tup (hol r++dP os)→Option R}→isOk nv r os x q→RK nv r os x K=some r'→K q=some r'
 | true,_,_,_,_,_,h,_=>h.elim
 | false,_,_,_,_,_,rfl,h=>h
abbrev ErT (p:Pt):Option Pt→Type
 | none=>Tup (hol p)
 | some q=>Tup (hol p) ⊕ Tup (hol q)
abbrev Sw {A B R:Type} (x:A ⊕ B) (f:A→R) (g:B→R):R:=match x with
 | .inl a=>f a
 | .inr b=>g b
def J1 (pp:Pt):(pq:Option Pt)→ErT pp pq→Value→Its→Bxs→List Nm→Prop
 | none,p,v,I,X,N=>Sem pp v none none [] (unt _ p) I X N
 | some _,.inl p,v,I,X,N=>Sem pp v none none [] (unt _ p) I X N
 | some q,.inr p,v,I,X,N=>Sem q v none none [] (unt _ p) I X N
structure bA where
 f:FuncId
 ps:List Pt
 pp:Pt
 pq:Option Pt
 nv:Bool
 r:Pt
 os:List (Bool×Nat×Pt)
 m:Tup (jd ps)→Option (Except (ErT pp pq) (OkT nv r os))
def bA.oe (e:bA):Ent:=⟨e.f,e.ps,e.r,e.os,fun _=>none⟩
def bA.S (e:bA) (vs:List Value) (N:List Nm) (I:Its) (X:Bxs) (Φ:Ctx) (r:Except (ErT e.pp e.pq) (OkT e.nv e.r e.os)) (v:Value) (w':World):Prop:=
 ∃ x q,r= .ok x∧isOk e.nv e.r e.os x q∧ ∃ (N1 N2:List Nm) (D1 D2:List Dyn) (I1 I2:Its) (X1 X2:Bxs),Sem e.r v none none N D1 I1 X1 N1∧rm (fxS e.ps vs X) (fun i=>vs[i]?) e.os N1 D2 I2 X2 N2∧D1++D2=unt _ q∧
  Sat ((bG I1++bG I2)++(df I++Φ)) w'
def bA.Sp (e:bA) (I:Its) (Φ:Ctx) (r:Except (ErT e.pp e.pq) (OkT e.nv e.r e.os)) (c:List PanicEntry) (w':World):Prop:=
 ∃ p,r= .error p∧ ∃ (v:Value) (N1:List Nm) (I1:Its) (X1:Bxs),c=pan v∧J1 e.pp e.pq p v I1 X1 N1∧Sat (bG I1++(df I++Φ)) w'
def bA.Ok (P:Program) (Γg:Ctx) (e:bA):Prop:=cR P e.f∧ ∀ s r,e.m s=some r→ ∀ (vs:List Value) (N:List Nm) (I:Its) (X:Bxs) (Φ:Ctx) (w:World),
 me e.ps vs [] [] [] (unt _ s) I X N→Sat (bG I++Φ) w→(∀ it∈Γg,it∈Φ)→fG P e.f vs w (e.S vs N I X Φ r) (e.Sp I Φ r)
def v9 {R:Type} (st:StB) (pp:Pt) (G1:List Row) (KP:AV→StB→Option R) (p:Tup (hol pp)):Option R:=
 match fill (kI [] st.c) pp none none 0 (unt _ p) with
 | ⟨v,R1,k,_,_⟩=>KP v { st with c:=st.c+k,G:=R1.map (·.2)++G1 }
abbrev Le {R:Type} (st:StB) (pp:Pt):(pq:Option Pt)→(G1:List Row)→(KP:AV→StB→Option R)→ErT pp pq→Option R
 | none,G1,KP,p=>v9 st pp G1 KP p
 | some q,G1,KP,p=>Sw p (v9 st pp G1 KP) (v9 st q G1 KP)
def Eu {R:Type} (fr:Fr) (st:StB) (d:Option Tmp) (args:List AV) (e:bA) (KP:AV→StB→Option R) (K:Go_ R):Option (Option R):=
 match mts (frz (cF st.G fr.H e.ps args) st.G) fr.H e.ps args [] [] [] with
  | some mr=>ifS (qj (mr.S.map fun x=>bS (frz (cF st.G fr.H e.ps args) st.G) fr.H x.2)&&ltT (frz (cF st.G fr.H e.ps args) st.G).length (qm (frz (cF st.G fr.H e.ps args) st.G) fr.H mr.S)&&ltB st.c mr.B&&AV.bc st.c args&&zi st.c mr.X&&j8 (fxK e.ps args mr.X) e.os) (match tup (jd e.ps) mr.D with
   | some s=>some (Di (e.m s) (Le st e.pp e.pq (gA (kP (qm (frz (cF st.G fr.H e.ps args) st.G) fr.H mr.S) 0 (frz (cF st.G fr.H e.ps args) st.G))) KP)
     (fun x=>RK e.nv e.r e.os x (xg fr st none d args e.oe mr (gA (kP (qm (frz (cF st.G fr.H e.ps args) st.G) fr.H mr.S) 0 (frz (cF st.G fr.H e.ps args) st.G))) K)))
   | none=>none) none
  | none=>none
def vS {R:Type} (fr:Fr) (st:StB) (d:Option Tmp) (f:FuncId) (args:List AV) (KP:AV→StB→Option R) (K:Go_ R):List bA→Option (Option R)
 | []=>none
 | e::tp=>ifS (Nat.beq e.f f) (match Eu fr st d args e KP K with
   | some r=>some r
   | none=>vS fr st d f args KP K tp) (vS fr st d f args KP K tp)
def Jj {R:Type} (tp:List bA) (T:Tbl) (fr:Fr) (st:StB) (o:Oper) (KP:AV→StB→Option R) (K:Go_ R):Option (Option R):=match o.guard with
 | some _=>none
 | none=>(match o.op with
  | .panic x=>(match opA T st.E fr.F none x with
   | some (.ifc t v)=>some (KP (.ifc t v) st)
   | _=>none)
  | .call c=>(match c.callee with
   | .value fo=>(match opA T st.E fr.F none fo with
    | some (.fn f a b)=>(match ku T st.E fr.F none c.args.toList with
     | some vs=>ifS (iP o.dst T&&vE fr.n o.dst&&st.low fr) (vS fr st o.dst f (a++vs++b) KP K tp) none
     | none=>none)
    | _=>none)
   | _=>none)
  | _=>none)
section
variable {P : Program} {R : Type} {r : R} {K : Go_ R} {KP : AV → StB → Option R} {T : Tbl} {fr : Fr} {st : StB} {d : Option Tmp} {ρ : Nms} {Φ Γg : Ctx} {w : World}
def DM (r:R) (KP:AV→StB→Option R) (T:Tbl) (fr:Fr) (st:StB) (ρ:Nms) (Φ:Ctx) (v:Value) (w':World):Prop:=
 ∃ (ρ':Nms) (st':StB) (av:AV),KP av st'=some r∧ay st.c ρ ρ'∧st.c≤st'.c∧st'.E=st.E∧av.val ρ'=v∧Sat (items ρ' T st'.G++(items ρ' T fr.H++Φ)) w'∧ai ρ' T st.E fr.F=ai ρ T st.E fr.F
theorem tx {pp:Pt} {G1:List Row} {p:Tup (hol pp)} {v:Value} {w':World} {N1:List Nm} {I1:Its} {X1:Bxs}
  (hl:st.low fr=true) (hG1:aS st.c G1=true) (h1:Sem pp v none none [] (unt _ p) I1 X1 N1)
  (hs:Sat (bG I1++(items ρ T G1++(items ρ T fr.H++Φ))) w') (h:v9 st pp G1 KP p=some r):DM r KP T fr st ρ Φ v w':=by
 have hp1:=nc _ _ _ _ _ _ _ _ _ h1
 have hnm:=BN (ρ:=ρ) (c:=st.c) (N:=[]) (B:=[]) (N2:=N1) .nil hp1 rfl
 have hag:ay st.c ρ (fun i=>ifS (Nat.blt i st.c) (ρ i) ((N1[i-st.c]?).getD nm0)):=fun j hj=>by
  have:Nat.blt j st.c=true:=by simpa using hj
  simp only [this]
 generalize hρ:(fun i=>ifS (Nat.blt i st.c) (ρ i) ((N1[i-st.c]?).getD nm0))=ρ' at hnm hag
 obtain ⟨a1,a2,a3,a4,a5⟩:=su (T:=T) pp v none none [] (unt _ p) I1 X1 N1 h1 (rn _) hnm (by simp) []
 rw [List.append_nil,List.length_nil] at a1 a2 a3 a4 a5
 unfold v9 at h
 generalize fill (kI [] st.c) pp none none 0 (unt _ p)=L at a1 a2 a3 a4 a5 h
 obtain ⟨v',R1,k,DD,XX⟩:=L
 simp only at a1 a2 a3 a4 a5
 dsimp only at h
 have e3:=aE (T:=T) hag hG1
 have e4:=aE (T:=T) hag (StB.bq.1 hl).2.2.2
 refine ⟨ρ',_,v',h,hag,Nat.le_add_right _ _,rfl,a1,?_,iY hl hag⟩
 show Sat (items ρ' T (R1.map (·.2)++G1)++(items ρ' T fr.H++Φ)) w'
 rw [aH,e3,e4,List.append_assoc]
 exact Sat.leL (A:=[]) (B:=bG I1) (C:=items ρ T G1++(items ρ T fr.H++Φ)) (by simpa using hs) a5.rw
theorem Je {pp:Pt}:{pq:Option Pt}→{G1:List Row}→{p:ErT pp pq}→{v:Value}→{w':World}→{N1:List Nm}→{I1:Its}→{X1:Bxs}→
  st.low fr=true→aS st.c G1=true→J1 pp pq p v I1 X1 N1→Sat (bG I1++(items ρ T G1++(items ρ T fr.H++Φ))) w'→Le st pp pq G1 KP p=some r→DM r KP T fr st ρ Φ v w'
 | none,_,_,_,_,_,_,_,hl,hG,h1,hs,h=>tx hl hG h1 hs h
 | some _,_,.inl _,_,_,_,_,_,hl,hG,h1,hs,h=>tx hl hG h1 hs h
 | some _,_,.inr _,_,_,_,_,_,hl,hG,h1,hs,h=>tx hl hG h1 hs h
theorem LN {e:bA} {args:List AV} (hl:st.low fr=true) (hs:Sat (items ρ T st.G++(items ρ T fr.H++Φ)) w) (he:e.Ok P Γg) (hΓ: ∀ it∈Γg,it∈Φ) (h:Eu fr st d args e KP K=some (some r)):
  fG P e.f (AV.ah ρ args) w (aA r K T fr st none d ρ Φ) (fun c w'=> ∃ v,c=pan v∧DM r KP T fr st ρ Φ v w'):=by
 have hGl:=ki (ids:=cF st.G fr.H e.ps args) (StB.bq.1 hl).2.2.1
 replace hs:=eK (ids:=cF st.G fr.H e.ps args) hs
 unfold Eu at h
 generalize frz (cF st.G fr.H e.ps args) st.G=Gu at hGl hs h
 split at h
 ·rename_i mr hm
  obtain ⟨h1,h2⟩:=an h
  simp only [Bool.and_eq_true] at h1
  obtain ⟨⟨⟨⟨⟨h3,h4⟩,h5⟩,h6⟩,h7⟩,h9⟩:=h1
  split at h2
  ·rename_i s htup
   simp only [Option.some.injEq] at h2
   obtain ⟨N,I,s1,n1,a1⟩:=oh hs e.ps args [] [] [] mr [] hm (.inl rfl) .nil
   rw [← nz _ htup] at s1
   obtain ⟨p1,p2⟩:=s9 hs a1
   have hnd':=lL h3
   obtain ⟨q1,_⟩:=lK hs p1 hnd'
   have key2: ∀ (L:List (Option Nat)) (G:List Row) (k:Nat),aS st.c G=true→aS st.c (gA (kP L k G))=true:=fun L G=>by
    induction G with
    | nil=>intro k _;rfl
    | cons r G ih=>
     intro k hG
     simp only [aS,Bool.and_eq_true] at hG
     show aS st.c (gA ((ifS (fV k L) .gone r)::kP L (k+1) G))=true
     cases fV k L
     ·cases r <;> first | exact ih (k+1) hG.2 | (simp only [gA,aS,Bool.and_eq_true];exact ⟨hG.1,ih (k+1) hG.2⟩)
     ·exact ih (k+1) hG.2
   have hlow:=key2 (qm Gu fr.H mr.S) Gu 0 hGl
   have hsub: ∀ it∈Γg,it∈mkP (mr.S.map fun x=>bS Gu fr.H x.2) (items ρ T Gu++(items ρ T fr.H++Φ)):=fun it hit=>by
    obtain ⟨k,hk⟩:=List.mem_iff_getElem?.1 (hΓ it hit)
    have hk2:(items ρ T Gu++(items ρ T fr.H++Φ))[Gu.length+fr.H.length+k]? =some it:=by
     rw [List.getElem?_append_right (by simp [items];omega),List.getElem?_append_right (by simp [items];omega)]
     have:Gu.length+fr.H.length+k-(items ρ T Gu).length-(items ρ T fr.H).length=k:=by simp [items];omega
     rw [this];exact hk
    refine List.mem_of_getElem? (i:=Gu.length+fr.H.length+k) ?_
    rw [po,hk2]
    intro hmem
    obtain ⟨x,_,hx⟩:=List.mem_map.1 hmem
    have:=DE hx
    omega
   have call:=fun rr hr=>he.2 s rr hr (AV.ah ρ args) N I (cm ρ mr.X) _ w (by simpa only [AV.ah] using s1) q1 hsub
   have backs: ∀ {A:Ctx} {w':World},Sat (A++(df I++mkP (mr.S.map fun x=>bS Gu fr.H x.2) (items ρ T Gu++(items ρ T fr.H++Φ)))) w'→Sat (A++(items ρ T (gA (kP (qm Gu fr.H mr.S) 0 Gu))++(items ρ T fr.H++Φ))) w':=fun {A w'} c4=>by
    have c5:=sN p2 hnd' c4
    rw [y5 a1,nG h4] at c5
    exact qW c5
   rcases Ji h2 with ⟨p,hq,hk⟩ | ⟨q,hq,hk⟩
   ·refine (call _ hq).mono (fun v w' hv=> ?_) (fun c w' hv=> ?_)
    ·obtain ⟨x',q',hq',_⟩:=hv;cases hq'
    ·obtain ⟨p',hp',v,N1,I1,X1,c1,c2,c3⟩:=hv
     cases hp'
     exact ⟨v,c1,Je hl hlow c2 (backs c3) hk⟩
   ·refine (call _ hq).mono (fun v w' hv=> ?_) (fun c w' hv=> ?_)
    ·obtain ⟨x',q',hq',hi,N1,N2,D1,D2,I1,I2,X1,X2,c1,c2,c3,c4⟩:=hv
     cases hq'
     exact wm (e:=e.oe) hl hlow n1 h5 h6 h7 h9 c1 c2 c3 Tbl.get_none (backs c4) (.inl rfl) (Qn hi hk)
    ·obtain ⟨p',hp',_⟩:=hv;cases hp'
  ·cases h2
 ·cases h
theorem wC {f:FuncId} {args:List AV} (hl:st.low fr=true) (hs:Sat (items ρ T st.G++(items ρ T fr.H++Φ)) w) (hΓ: ∀ it∈Γg,it∈Φ): ∀ {tp:List bA},(∀ e∈tp,e.Ok P Γg)→vS fr st d f args KP K tp=some (some r)→
  cR P f∧fG P f (AV.ah ρ args) w (aA r K T fr st none d ρ Φ) (fun c w'=> ∃ v,c=pan v∧DM r KP T fr st ρ Φ v w')
 | [],_,h=>by cases h
 | e::tp,htp,h=>by
  unfold vS at h
  rcases cj h with ⟨h1,h2⟩ | ⟨_,h2⟩
  ·split at h2
   ·rename_i r' hr'
    cases h2
    have:=Nat.eq_of_beq_eq_true h1
    subst this
    exact ⟨(htp e (List.mem_cons_self ..)).1,LN hl hs (htp e (List.mem_cons_self ..)) hΓ hr'⟩
   ·exact wC hl hs hΓ (fun e he=>htp e (List.mem_cons_of_mem _ he)) h2
  ·exact wC hl hs hΓ (fun e he=>htp e (List.mem_cons_of_mem _ he)) h2
variable {σ : Option Nat} {Q : aG} {D : List Deferred} {ops rest : List Oper} {tp : List bA}
theorem O8 {o:Oper} (h1:cS T st.E fr.F) (hs:Sat (items ρ T st.G++(items ρ T fr.H++Φ)) w) (hΓ: ∀ it∈Γg,it∈Φ) (htp: ∀ e∈tp,e.Ok P Γg)
  (h:Jj tp T fr st o KP K=some (some r))
  (next: ∀ st' ρ' w',cS T st'.E fr.F→ay st.c ρ ρ'→st.c≤st'.c→K st'=some r→items ρ' T fr.H=items ρ T fr.H→Sat (items ρ' T st'.G++(items ρ' T fr.H++Φ)) w'→WL P σ ops.toArray Q fr.n D rest (ai ρ' T st'.E fr.F) w')
  (pnext: ∀ v st' ρ' w',ay st.c ρ ρ'→st.c≤st'.c→KP v st'=some r→st'.E=st.E→ai ρ' T st.E fr.F=ai ρ T st.E fr.F→Sat (items ρ' T st'.G++(items ρ' T fr.H++Φ)) w'→At Q (.panic (pan (v.val ρ'))) fr.n D (ai ρ' T st'.E fr.F) w'):
  WL P σ ops.toArray Q fr.n D (o::rest) (ai ρ T st.E fr.F) w:=by
 obtain ⟨dst,op,ty,pos,af,gd⟩:=o
 unfold Jj at h
 split at h
 ·cases h
 rename_i hgd
 simp only at hgd
 subst hgd
 split at h
 ·rename_i x hop
  simp only at hop
  subst hop
  split at h
  ·rename_i t v hx
   have hk:=Option.some.inj h
   have hx':=ax (ρ:=ρ) hx
   rw [Tbl.get_none] at hx'
   simp only [AV.val] at hx'
   refine Ou hx' ?_
   have:=pnext (.ifc t v) st ρ w .refl (Nat.le_refl _) hk rfl rfl hs
   simp only [AV.val] at this
   exact this
  ·cases h
 ·rename_i c hop
  simp only at hop
  subst hop
  obtain ⟨callee,xs,tys⟩:=c
  obtain ⟨xs⟩:=xs
  simp only at h
  split at h
  ·rename_i fo
   split at h
   ·rename_i f a b hfo
    split at h
    ·rename_i vs hxs
     obtain ⟨h2,h3⟩:=an h
     simp only [Bool.and_eq_true] at h2
     obtain ⟨⟨hak,hd⟩,hl⟩:=h2
     obtain ⟨hen,hc⟩:=wC hl hs hΓ htp h3
     have hfo':=ax (ρ:=ρ) hfo
     have hxs':=ek (ρ:=ρ) hxs
     rw [Tbl.get_none] at hfo' hxs'
     simp only [AV.val] at hfo'
     have hargs:AV.ah ρ (a++vs++b)=AV.ah ρ a++AV.ah ρ vs++AV.ah ρ b:=by rw [bH,bH]
     have fin: ∀ v w',aA r K T fr st none dst ρ Φ v w'→WL P σ ops.toArray Q fr.n D rest (jH dst true v (ai ρ T st.E fr.F)) w':=fun v w' hv=>by
      obtain ⟨ρ',st',av,k1,k2,k3,k4,k5,k6,k7,k8⟩:=hv
      have:=next st' ρ' w' (by rw [k4];exact h1.out hak none av) k2 k3 k1 k7 k8
      rw [k4,lQ,k5,k6,Tbl.get_none] at this
      exact this
     have pfin: ∀ c w',(∃ v,c=pan v∧DM r KP T fr st ρ Φ v w')→At Q (.panic c) fr.n D (ai ρ T st.E fr.F) w':=fun c w' hv=>by
      obtain ⟨v,rfl,ρ',st',av,k1,k2,k3,k4,k5,k6,k7⟩:=hv
      have:=pnext av st' ρ' w' k2 k3 k1 k4 k7 k6
      rw [k5,k4,k7] at this
      exact this
     cases dst with
     | none=>exact Lo hen hfo' hxs' hargs hc fin pfin
     | some dd=>exact Nx hen hfo' hxs' hargs hd hc fin pfin
    ·cases h
   ·cases h
  ·cases h
 ·cases h
end
end Go.Proofs.YtgcgmclghbebjaaGreat
namespace Go.Proofs.YtgcgmclghbebjaaGreat
open Go.Lib
theorem Sat.Ob {A B:Ctx} {x:Item} {w:World} (h:Sat (A++x::B) w):Sat (x::(A++B)) w:=by
 refine h.oX (fun j k=>(j=0∧k=A.length)∨(0<j∧j≤A.length∧k+1=j)∨(A.length<j∧k=j)) (fun j jt hj=> ?_) (fun j k q hjk h1 h2=>by omega)
 cases j with
 | zero=>
  simp only [List.getElem?_cons_zero,Option.some.injEq] at hj
  subst hj
  exact .inr ⟨A.length,x,.inl ⟨rfl,rfl⟩,by simp,aX.refl⟩
 | succ j=>
  simp only [List.getElem?_cons_succ] at hj
  by_cases e:j<A.length
  ·rw [List.getElem?_append_left e] at hj
   exact .inr ⟨j,jt,.inr (.inl ⟨by omega,by omega,rfl⟩),by rw [List.getElem?_append_left e];exact hj,aX.refl⟩
  ·rw [List.getElem?_append_right (by omega)] at hj
   refine .inr ⟨j+1,jt,.inr (.inr ⟨by omega,rfl⟩),?_,aX.refl⟩
   rw [List.getElem?_append_right (by omega)]
   have:j+1-A.length=(j-A.length)+1:=by omega
   rw [this,List.getElem?_cons_succ]
   exact hj
theorem Sat.Sl {Γ:Ctx} {it new:Item} {w:World} (h:Sat (it::Γ) w) (hR: ∀ b∈new.own,b∈it.own) (hP: ∀ M',Mv (Ctx.M (it::Γ)) w M' w→new.P M' w):Sat (new::Γ) w:=by
 have:=h.upd (i:=0) (it:=it) (new:=new) (w':=w) rfl ⟨rfl,rfl,rfl,Nat.le_refl _,fun _ _ _=>rfl⟩ (fun b hb=>⟨h.lt (Ctx.oq.2 (.inl (hR b hb))),.inl (hR b hb)⟩) (fun M' m _=>hP M' m)
 simpa using this
def tw (X:Cx) (T:Tbl) (fr:Fr) (st:StB) (o:Oper):Option (TypeId×List AV×List AV):=match o.op,o.guard with
 | .alloc t,none=>(match Dk X.P t with
  | some cs=>some (t,[],cs)
  | none=>none)
 | .buildSlice t len ps,none=>(match dW X.P t with
  | some e=>(match tiA X.P e with
   | some z=>(match ku T st.E fr.F none (ps.toList.map (·.2)) with
    | some vs=>(match ra (fun i=>some (i*z.1,z.1)) ((ps.toList.map (·.1)).zip vs) (DC len (z.2.2.cells.toList.map cst)) with
     | some cs=>ifS ( Nat.beq z.2.2.cells.size z.1&&Nat.ble (len*z.1) 16777216&&(Nat.blt 0 (len*z.1)||Nat.beq len 0&&ps.toList.isEmpty) ) (some (e,vs,cs)) none
     | none=>none)
    | none=>none)
   | none=>none)
  | none=>none)
 | _,_=>none
theorem E7 {X:Cx} {T:Tbl} {fr:Fr} {st:StB} {ρ:Nms} {o:Oper} {e:TypeId} {vs cs:List AV} (h:tw X T fr st o=some (e,vs,cs)) (w:World):
  iB X.P (ai ρ T st.E fr.F) o w (rI o w.heap.size) (w.alloc (.cells (AV.ah ρ cs).toArray e)):=by
 obtain ⟨dst,op,ty,pos,af,gd⟩:=o
 unfold tw at h
 simp only at h
 split at h
 ·rename_i t
  split at h
  ·rename_i cs' hcs
   cases h
   unfold Dk at hcs
   split at hcs
   ·rename_i z hz
    cases hcs
    obtain ⟨n,b,z⟩:=z
    have:=zP (P:=X.P) (E:=ai ρ T st.E fr.F) (w:=w) (dst:=dst) (ty:=ty) (pos:=pos) (af:=af) (zs:=z.cells.toList) (bC hz) (by simp)
    rw [ja]
    exact this
   ·cases hcs
  ·cases h
 ·rename_i t len ps
  obtain ⟨ps⟩:=ps
  split at h
  ·rename_i e' he
   split at h
   ·rename_i z hz
    obtain ⟨n,bytes,z⟩:=z
    split at h
    ·rename_i vs' hvs
     split at h
     ·rename_i cs' hcs
      obtain ⟨h1,h2⟩:=an h
      cases h2
      simp only [Bool.and_eq_true,Bool.or_eq_true] at h1
      obtain ⟨⟨a2,a3⟩,h3⟩:=h1
      have hzs:z.cells.size=n:=Nat.eq_of_beq_eq_true a2
      have hops:=ek (ρ:=ρ) hvs
      rw [Tbl.get_none] at hops
      have hfill:=pY (ρ:=ρ) hcs
      rw [tI,E8,ja] at hfill
      rcases h3 with h3 | ⟨h3,h5⟩
      ·have hpos:0<n:=by
        have:0<len*n:=by simpa using h3
        exact Nat.pos_of_ne_zero (fun e=>by simp [e] at this)
       have hlit:nE n len z.cells.toList ((ps.map (·.1)).zip (AV.ah ρ vs))=some (AV.ah ρ cs).toArray:=by
        unfold nE
        have e1:=wv z.cells.toList (by simp [hzs];exact hpos) len
        simp only [Array.length_toList,hzs] at e1
        simp only [Array.length_toList,hzs]
        rw [← hfill,← e1]
       exact mz (P:=X.P) (w:=w) (dst:=dst) (ty:=ty) (pos:=pos) (af:=af) (bk he) (bC hz) (zs:=z.cells.toList) (by simp) h3 a3 hops hlit
      ·have e0:len=0:=Nat.eq_of_beq_eq_true h3
       subst e0
       have e1:ps=[]:=by simpa using h5
       subst e1
       have:cs=[]:=by
        simp only [List.map_nil,List.zip_nil_left,DC,List.replicate_zero,List.flatten_nil,ra,Option.some.injEq] at hcs
        exact hcs.symm
       subst this
       exact lj (P:=X.P) (E:=ai ρ T st.E fr.F) (w:=w) (dst:=dst) (ty:=ty) (pos:=pos) (af:=af) (bk he) (bC hz)
     ·cases h
    ·cases h
   ·cases h
  ·cases h
 ·cases h
def Om {R:Type} (X:Cx) (T:Tbl) (fr:Fr) (st:StB) (o:Oper) (K:Go_ R):Option R:=match tw X T fr st o,o.dst with
 | some p,some d=>(match o.op with
  | .buildSlice _ len _=>(match o8 X.tys p.1 with
   | some u=>(match rdL (frz (AV.sls (.agg p.2.1)++(p.2.1.map AV.sls).flatten) st.G) fr.H u len p.2.2 with
    | some xs=>ifS (st.low fr&&Nat.ble len 9223372036854775807) (K { st with c:=st.c+1,E:=bw (some d) none (.sl st.c) st.E,G:= .own st.c u p.1 xs st.c::frz (AV.sls (.agg p.2.1)++(p.2.1.map AV.sls).flatten) st.G }) none
    | none=>none)
   | none=>none)
  | _=>ifS (st.low fr&&AV.bc st.c p.2.2) (J6 st d p.1 p.2.2 K) none)
 | _,_=>none
section
variable {X : Cx} {R : Type} {r : R} {K : Go_ R} {T : Tbl} {fr : Fr} {st : StB} {ρ : Nms} {Φ : Ctx} {w : World}
theorem PM {o:Oper} {b:Nat} {e':TypeId} {vs':List Value} (hs:Sat (items ρ T st.G++(items ρ T fr.H++(box b e' vs'::Φ))) w)
  (hr: ∀ e vs cs,tw X T fr st o=some (e,vs,cs)→e'=e∧vs'=AV.ah ρ cs) (h:Om X T fr st o K=some r):
  aA r K T fr st none o.dst ρ Φ (rI o b) w:=by
 obtain ⟨dst,op,ty,pos,af,gd⟩:=o
 unfold Om at h
 simp only at h
 split at h
 ·rename_i p d hp
  obtain ⟨e,vs,cs⟩:=p
  obtain ⟨rfl,rfl⟩:=hr _ _ _ hp
  split at h
  ·rename_i t len ps
   split at h
   ·rename_i u hu
    split at h
    ·rename_i xs hxs
     obtain ⟨h1,h2⟩:=an h
     simp only [Bool.and_eq_true] at h1
     obtain ⟨hl,h8⟩:=h1
     have hGl:=ki (ids:=AV.sls (.agg vs)++(vs.map AV.sls).flatten) (StB.bq.1 hl).2.2.1
     replace hs:=eK (ids:=AV.sls (.agg vs)++(vs.map AV.sls).flatten) hs
     simp only at h2
     generalize frz (AV.sls (.agg vs)++(vs.map AV.sls).flatten) st.G=G at h2 hGl hs hxs
     obtain ⟨k1,k2⟩:=Aq (ρ:=ρ) (T:=T) hs _ _ _ hxs
     have hs1:Sat ((items ρ T G++items ρ T fr.H)++box b e' (AV.ah ρ cs)::Φ) w:=by rw [List.append_assoc];exact hs
     have hs2:=hs1.Ob
     have mv:Mv (Ctx.M (items ρ T G++(items ρ T fr.H++(box b e' (AV.ah ρ cs)::Φ)))) w (Ctx.M (box b e' (AV.ah ρ cs)::((items ρ T G++items ρ T fr.H)++Φ))) w:=Mv.weaken w fun c hc=>by
      obtain ⟨it,hi,hb⟩:=hc
      refine ⟨it,?_,hb⟩
      simp only [List.mem_cons,List.mem_append] at hi ⊢
      rcases hi with h | (h | h) | h
      ·exact .inr (.inr (.inl h))
      ·exact .inl h
      ·exact .inr (.inl h)
      ·exact .inr (.inr (.inr h))
     refine aA.new (ρ':=ρ.set st.c { nm0 with v:=(some ⟨b,0,none⟩,len,len),y:=⟨.l u,xs⟩ }) (av:= .sl st.c) hl h2 Nms.aD (Nat.le_succ _) rfl (by simp only [AV.val,Nms.aP];rfl) ?_
     show Sat (items _ T (_::G)++_) w
     have e:=aE (T:=T) (Nms.aD (ρ:=ρ) (j:=st.c) (x:={ nm0 with v:=(some ⟨b,0,none⟩,len,len),y:=⟨.l u,xs⟩ })) hGl
     rw [items,List.map_cons]
     rw [items] at e
     rw [e]
     have hb:cw w b e' (AV.ah ρ cs):=hs2.at_ (i:=0) rfl
     have hs3:Sat ((Row.own st.c u e' xs st.c).item (ρ.set st.c { nm0 with v:=(some ⟨b,0,none⟩,len,len),y:=⟨.l u,xs⟩ }) T::((items ρ T G++items ρ T fr.H)++Φ)) w:=by
      refine hs2.Sl (fun c hc=> ?_) (fun M' m=> ?_)
      ·simp only [Row.item,Nms.aP] at hc
       exact sD hc
      ·simp only [Row.item,Nms.aP]
       exact ⟨(Own.of (OSl.fresh hb k1 h8 (k2.mv (mv.trans m)))).vQ,trivial⟩
     rw [List.append_assoc] at hs3
     exact hs3
    ·cases h
   ·cases h
  ·rename_i hne
   obtain ⟨h1,h2⟩:=an h
   simp only [Bool.and_eq_true] at h1
   obtain ⟨hl,hcs⟩:=h1
   have hs1:Sat ((items ρ T st.G++items ρ T fr.H)++box b e' (AV.ah ρ cs)::Φ) w:=by rw [List.append_assoc];exact hs
   have hs2:=hs1.Ob
   rw [List.append_assoc] at hs2
   have ev:rI ⟨some d,op,ty,pos,af,gd⟩ b= .pointer (some ⟨b,0,none⟩):=by
    unfold rI
    split
    ·rename_i heq
     exact (hne _ _ _ heq).elim
    ·rfl
   rw [ev]
   refine aA.new (ρ':=ρ.set st.c { nm0 with b:=b }) (av:= .ptr st.c 0) hl h2 Nms.aD (Nat.le_succ _) rfl (by simp only [AV.val,Nms.aP]) ?_
   show Sat (items _ T (_::st.G)++_) w
   have e:=aE (T:=T) (Nms.aD (ρ:=ρ) (j:=st.c) (x:={ nm0 with b:=b })) (StB.bq.1 hl).2.2.1
   rw [items,List.map_cons]
   rw [items] at e
   rw [e]
   simp only [Row.item,Nms.aP]
   rw [AV.aZ Nms.aD _ hcs]
   exact hs2
 ·cases h
end
end Go.Proofs.YtgcgmclghbebjaaGreat
namespace Go.Proofs.YtgcgmclghbebjaaGreat
open Go.Lib
abbrev Im {R:Type} (fr:Fr) (KP:AV→StB→Option R) (T:Tbl) (v:AV) (st:StB):Option R:=ifS (vq T fr st) (KP v (nO T st)) none
noncomputable def pJ {R:Type} (X:Cx) (tb:List Ent) (tp:List bA) (KP:AV→StB→Option R) (ops:List Oper) (fr:Fr):List Oper→Tbl→StB→Go_ R→Option R
 | [],T,st,K=>ifS (vq T fr st) (K (nO T st)) none
 | o::l,T,st,K=>match Jj tp T fr st o (Im fr KP T) (fun st=>pJ X tb tp KP ops fr l T st K) with
  | some q=>q
  | none=>stepG ops T fr st o fun T g=>opD X tb T fr st g o fun st=>pJ X tb tp KP ops fr l T st K
section
variable {R : Type} {X : Cx} {tb : List Ent} {tp : List bA} {KP : AV → StB → Option R} {σ : Option Nat} {Q : aG} {D : List Deferred} {ops : List Oper} {r : R} {fr : Fr} {Φ : Ctx} {K : Go_ R}
theorem HI {T:Tbl} {v:AV} {st:StB} {ρ:Nms} {w:World} (hf:FT T fr) (h:Im fr KP T v st=some r) (hs:Sat (items ρ T st.G++(items ρ T fr.H++Φ)) w):
  ∃ st',KP v st'=some r∧st'.c=st.c∧fc (ai ρ [] st'.E fr.F) (ai ρ T st.E fr.F)∧Sat (items ρ [] st'.G++(items ρ [] fr.H++Φ)) w:=by
 unfold Im at h
 obtain ⟨h3,h4⟩:=an h
 obtain ⟨k1,k2,k3⟩:=uq h3 hf hs
 exact ⟨_,h4,k1,k2,k3⟩
theorem ug {rest:List Oper} (hΓ: ∀ it∈X.Γ,it∈Φ) (htb: ∀ e∈tb,e.Ok X.P X.Γ) (htp: ∀ e∈tp,e.Ok X.P X.Γ): ∀ {l:List Oper} {T:Tbl} {st:StB} {ρ:Nms} {w:World},cS T st.E fr.F→jh ops fr.n T→FT T fr→Sat (items ρ T st.G++(items ρ T fr.H++Φ)) w→
  pJ X tb tp KP ops fr l T st K=some r→
  (∀ st' ρ' w',ay st.c ρ ρ'→st.c≤st'.c→K st'=some r→Sat (items ρ' [] st'.G++(items ρ' [] fr.H++Φ)) w'→WL X.P σ ops.toArray Q fr.n D rest (ai ρ' [] st'.E fr.F) w')→
  (∀ v st' ρ' w',ay st.c ρ ρ'→st.c≤st'.c→KP v st'=some r→Sat (items ρ' [] st'.G++(items ρ' [] fr.H++Φ)) w'→At Q (.panic (pan (v.val ρ'))) fr.n D (ai ρ' [] st'.E fr.F) w')→
  WL X.P σ ops.toArray Q fr.n D (l++rest) (ai ρ T st.E fr.F) w
 | [],T,st,ρ,w,h1,h2,hf,hs,h,next,pnext=>by
  unfold pJ at h
  obtain ⟨h3,h4⟩:=an h
  obtain ⟨k1,k2,k3⟩:=uq h3 hf hs
  exact fun a hf hd=>next _ ρ w .refl (by rw [k1];exact Nat.le_refl _) h4 k3 a (hf.ig k2) hd
 | o::l,T,st,ρ,w,h1,h2,hf,hs,h,next,pnext=>by
  unfold pJ at h
  split at h
  ·rename_i q hq
   subst h
   refine O8 h1 hs hΓ htp hq (fun st' ρ' w' a1 a4 a5 a6 a7 a8=> ?_) (fun v st' ρ' w' a1 a2 a3 ae1 ae2 a4=> ?_)
   ·exact ug hΓ htb htp a1 h2 hf a8 a6 (fun st2 ρ2 w2 b1 b2 b3 b4=>next st2 ρ2 w2 (a4.trans b1 a5) (Nat.le_trans a5 b2) b3 b4) (fun v st2 ρ2 w2 b1 b2 b3 b4=>pnext v st2 ρ2 w2 (a4.trans b1 a5) (Nat.le_trans a5 b2) b3 b4)
   ·obtain ⟨st2,k1,k2,k4,k3⟩:=HI hf a3 a4
    exact (pnext v st2 ρ' w' a1 (by omega) k1 k3).ig _ k4
  ·exact F9 (K:=fun T st=>pJ X tb tp KP ops fr l T st K) h1 h2 rfl (fun _ h=>h) hf hs hΓ htb h (fun T' st' ρ' w' a1 a2 a3 a4 a5 a6 a7 a8=>
    ug hΓ htb htp a1 a2 a3 a8 a6 (fun st2 ρ2 w2 b1 b2 b3 b4=>next st2 ρ2 w2 (a4.trans b1 a5) (Nat.le_trans a5 b2) b3 b4) (fun v st2 ρ2 w2 b1 b2 b3 b4=>pnext v st2 ρ2 w2 (a4.trans b1 a5) (Nat.le_trans a5 b2) b3 b4))
theorem Hq (hΓ: ∀ it∈X.Γ,it∈Φ) (htb: ∀ e∈tb,e.Ok X.P X.Γ) (htp: ∀ e∈tp,e.Ok X.P X.Γ) {l:List Oper} {T:Tbl} {st:StB} {ρ:Nms} {w:World} (h1:cS T st.E fr.F) (h2:jh ops fr.n T) (hf:FT T fr) (hs:Sat (items ρ T st.G++(items ρ T fr.H++Φ)) w)
  (h:pJ X tb tp KP ops fr l T st K=some r)
  (next: ∀ st' ρ' w',ay st.c ρ ρ'→st.c≤st'.c→K st'=some r→Sat (items ρ' [] st'.G++(items ρ' [] fr.H++Φ)) w'→At Q .normal fr.n D (ai ρ' [] st'.E fr.F) w')
  (pnext: ∀ v st' ρ' w',ay st.c ρ ρ'→st.c≤st'.c→KP v st'=some r→Sat (items ρ' [] st'.G++(items ρ' [] fr.H++Φ)) w'→At Q (.panic (pan (v.val ρ'))) fr.n D (ai ρ' [] st'.E fr.F) w'):
  WL X.P σ ops.toArray Q fr.n D l (ai ρ T st.E fr.F) w:=by
 have:=ug (σ:=σ) (Q:=Q) (D:=D) (rest:=[]) hΓ htb htp h1 h2 hf hs h (fun st' ρ' w' a1 a2 a3 a4=>bB (next st' ρ' w' a1 a2 a3 a4)) pnext
 rwa [List.append_nil] at this
end
def gG (c:Nat):List AV→List AV×List Row×Nat
 | []=>([],[],c)
 | v::vs=>match v with
  | .nv u=>match gG c vs with
   | (cs,R,c)=>(.nv u::cs,R,c)
  | v=>match gG (c+1) vs with
   | (cs,R,c')=>(.nv c::cs,.eq c v::R,c')
structure OQ (c:Nat) (vs:List AV) (ρ ρ':Nms) (x:List AV×List Row×Nat):Prop where
 ag:ay c ρ ρ'
 le:c≤x.2.2
 eq:AV.ah ρ' x.1=AV.ah ρ vs
 lw:AV.bc x.2.2 x.1=true
 rl:aS x.2.2 x.2.1=true
 rp: ∀ r∈x.2.1,(r.item ρ' []).bX=true∧ ∀ M w,(r.item ρ' []).P M w
 rg: ∀ r∈x.2.1,r.gd=none
theorem n7 {c d:Nat} (hcd:c≤d):{G:List Row}→aS c G=true→aS d G=true
 | [],_=>rfl
 | r::G,h=>by
  simp only [aS,Bool.and_eq_true] at h ⊢
  exact ⟨Row.dm hcd h.1,n7 hcd h.2⟩
theorem kJ {c:Nat}:{G H:List Row}→aS c G=true→aS c H=true→aS c (G++H)=true
 | [],_,_,h=>h
 | r::G,H,h,k=>by
  simp only [List.cons_append,aS,Bool.and_eq_true] at h ⊢
  exact ⟨h.1,kJ h.2 k⟩
theorem tT:{vs:List AV}→{c:Nat}→{ρ:Nms}→AV.bc c vs=true→ ∃ ρ',OQ c vs ρ ρ' (gG c vs)
 | [],c,ρ,h=>⟨ρ,.refl,Nat.le_refl _,rfl,rfl,rfl,(fun _ h=>by cases h),fun _ h=>by cases h⟩
 | v::vs,c,ρ,h=>by
  simp only [AV.bc,Bool.and_eq_true] at h
  have other:(∀ u,v≠ .nv u)→gG c (v::vs)=(match gG (c+1) vs with | (cs,R,c')=>(.nv c::cs,.eq c v::R,c'))→ ∃ ρ',OQ c (v::vs) ρ ρ' (gG c (v::vs)):=fun _ e=>by
   have a1:ay c ρ (ρ.set c { nm0 with x:=v.val ρ }):=Nms.aD
   obtain ⟨ρ',l⟩:=tT (c:=c+1) (ρ:=ρ.set c { nm0 with x:=v.val ρ }) (AV.fz (Nat.le_succ c) _ h.2)
   rw [e]
   generalize gG (c+1) vs=L at l
   obtain ⟨cs,R,c'⟩:=L
   have hag:ay c ρ ρ':=a1.trans l.ag (Nat.le_succ _)
   have hx:(ρ' c).x=v.val ρ:=by rw [l.ag _ (Nat.lt_succ_self _),Nms.aP]
   have hle:c+1≤c':=l.le
   refine ⟨ρ',hag,Nat.le_trans (Nat.le_succ _) l.le,?_,?_,?_,?_,?_⟩
   ·simp only [AV.ah,AV.val,hx]
    rw [l.eq,AV.aZ a1 _ h.2]
   ·simp only [AV.bc,AV.low,Bool.and_eq_true,Nat.blt_eq]
    exact ⟨by omega,l.lw⟩
   ·simp only [aS,Row.low,Bool.and_eq_true,Nat.blt_eq]
    exact ⟨⟨by omega,AV.dm (by omega) _ h.1⟩,l.rl⟩
   ·intro r hr
    rcases List.mem_cons.1 hr with rfl | hr
    ·exact ⟨rfl,fun M w=>by show (ρ' c).x=v.val ρ';rw [hx,AV.gC hag _ h.1]⟩
    ·exact l.rp r hr
   ·intro r hr
    rcases List.mem_cons.1 hr with rfl | hr
    ·rfl
    ·exact l.rg r hr
  cases v with
  | nv u=>
   obtain ⟨ρ',l⟩:=tT (c:=c) (ρ:=ρ) h.2
   unfold gG
   dsimp only
   generalize gG c vs=L at l
   obtain ⟨cs,R,c'⟩:=L
   refine ⟨ρ',l.ag,l.le,?_,?_,l.rl,l.rp,l.rg⟩
   ·simp only [AV.ah]
    rw [l.eq,AV.gC l.ag _ h.1]
   ·simp only [AV.bc,Bool.and_eq_true]
    exact ⟨AV.dm l.le _ h.1,l.lw⟩
  | _=>exact other (fun u h=>by cases h) rfl
/-! regions that draw their order -/
noncomputable def Ld {R:Type} (X:Cx) (T:Tbl) (fr:Fr) (st:StB) (g:GK) (op:Op) (dst:Option Tmp) (K:Go_ R):Option R:=match op,dst with
 | .indexAddr t x y,some d=>(match dW X.P t with
  | some _=>Is X T fr st g d t x y K
  | none=>(match opA T st.E fr.F g x with
   | some (.gp _)=>Dc X T fr st g d t x y K
   | _=>gone g (JU X T fr st d t x y K)))
 | .slice t x lo hi mx,some d=>Ea X T fr st g d t x lo hi mx K
 | .call ⟨.builtin .unsafeSliceData,⟨[x]⟩,_⟩,some d=>gone g (Dd T fr st d x K)
 | .call ⟨.builtin .len,⟨[x]⟩,⟨[t]⟩⟩,some d=>Jb X T fr st g d t x K
 | _,_=>none
noncomputable def FC {R:Type} (X:Cx) (T:Tbl) (fr:Fr) (st:StB) (g:GK) (o:Oper) (K:Go_ R):Option R:=
 match JT X T st.E fr.F g o.op with
 | some cv=>uP cv.1 (g.map fun _=>T.get g) (K { st with E:=bw o.dst g cv.2 st.E })
 | none=>match Ih X T st.E fr.F [] fr.H g o.op with
  | some cv=>uP cv.1 (g.map fun _=>T.get g) (K { st with E:=bw o.dst g cv.2 st.E })
  | none=>ifS (st.low fr) (Ld X T fr st g o.op o.dst K) none
def aJ (p:Row→Bool):List Row→List Row
 | []=>[]
 | r::G=>ifS (p r) (r::aJ p G) (aJ p G)
def bO (r:Row):Bool:= !r.bX
theorem Sat.move {A B C:Ctx} {x:Item} {w:World} (h:Sat (A++x::(B++C)) w):Sat (A++(B++x::C)) w:=by
 refine h.oX (fun j k=>(j<A.length∧k=j)∨(A.length≤j∧j<A.length+B.length∧k=j+1)∨(j=A.length+B.length∧k=A.length)∨(A.length+B.length<j∧k=j)) (fun j jt hj=> ?_) (fun j k q hjk h1 h2=>by omega)
 by_cases e:j<A.length
 ·rw [List.getElem?_append_left e] at hj
  exact .inr ⟨j,jt,.inl ⟨e,rfl⟩,by rw [List.getElem?_append_left e];exact hj,aX.refl⟩
 ·rw [List.getElem?_append_right (by omega)] at hj
  by_cases e2:j<A.length+B.length
  ·rw [List.getElem?_append_left (by omega)] at hj
   refine .inr ⟨j+1,jt,.inr (.inl ⟨by omega,e2,rfl⟩),?_,aX.refl⟩
   rw [List.getElem?_append_right (by omega)]
   have:j+1-A.length=(j-A.length)+1:=by omega
   rw [this,List.getElem?_cons_succ,List.getElem?_append_left (by omega)]
   exact hj
  ·rw [List.getElem?_append_right (by omega)] at hj
   by_cases e3:j=A.length+B.length
   ·subst e3
    rw [show A.length+B.length-A.length-B.length=0 by omega] at hj
    simp at hj
    subst hj
    exact .inr ⟨A.length,x,.inr (.inr (.inl ⟨rfl,rfl⟩)),by simp,aX.refl⟩
   ·refine .inr ⟨j,jt,.inr (.inr (.inr ⟨by omega,rfl⟩)),?_,aX.refl⟩
    rw [List.getElem?_append_right (by omega)]
    have e4:j-A.length-B.length=(j-A.length-B.length-1)+1:=by omega
    rw [e4,List.getElem?_cons_succ] at hj
    have e5:j-A.length=(j-A.length-1)+1:=by omega
    rw [e5,List.getElem?_cons_succ,List.getElem?_append_right (by omega)]
    have e6:j-A.length-1-B.length=j-A.length-B.length-1:=by omega
    rw [e6];exact hj
theorem Sat.qN {w:World} {B:Ctx}: ∀ {A:Ctx},Sat (A++B) w→Sat B w
 | [],h=>h
 | _x::A,h=>Sat.qN (A:=A) (Sat.rb (A:=[]) h)
section
variable {ρ : Nms} {T : Tbl} {w : World}
theorem kV {p:Row→Bool} {H:List Row} {Φ:Ctx}: ∀ {G:List Row} {A:Ctx},Sat (A++(items ρ T G++(items ρ T H++Φ))) w→Sat (A++(items ρ T (aJ p G)++(items ρ T (aJ (fun r=> !(p r)) G++H)++Φ))) w
 | [],_,h=>h
 | r::G,A,h=>by
  unfold aJ
  cases hp:p r
  ·have h1:Sat ((A++[r.item ρ T])++(items ρ T G++(items ρ T H++Φ))) w:=by simpa [items] using h
   have h2:=kV (p:=p) (G:=G) h1
   have h3:Sat (A++r.item ρ T::(items ρ T (aJ p G)++(items ρ T (aJ (fun r=> !(p r)) G++H)++Φ))) w:=by simpa using h2
   exact h3.move
  ·have h1:Sat ((A++[r.item ρ T])++(items ρ T G++(items ρ T H++Φ))) w:=by simpa [items] using h
   have h2:=kV (p:=p) (G:=G) h1
   simpa [items] using h2
end
abbrev frM (fr:Fr) (A:List Row) (st:StB):Fr:=⟨fr.F,aJ (fun r=> !(bO r)) st.G++(A++fr.H),fr.n⟩
abbrev stM (st:StB):StB:={ st with G:=aJ bO st.G }
abbrev Pdg:=Nat×Nat×Nat×List Nat
def xx:List AV→Option (List Nat)
 | []=>some []
 | v::l=>(match v with
  | .nv u=>(match xx l with
   | some us=>some (u::us)
   | none=>none)
  | _=>none)
def DB:List AV→List Nat→Bool
 | _,[]=>true
 | l,n::ns=>(match l with
  | .nv u::l=>Nat.beq u n&&DB l ns
  | _=>false)
def pdB (G:List Row):List Pdg→Bool
 | []=>true
 | x::Pd=>(match iT (nW x.2.1) G with
  | some (_,.box _ _ cs)=> !(Nat.beq x.2.2.1 1000000000)&&DB (cs.drop x.2.2.1) x.2.2.2
  | _=>false)&&pdB G Pd
def pdF (G:List Row):List Pdg→Bool
 | []=>true
 | x::Pd=>(Nat.beq x.2.2.1 1000000000||(match iT (nW x.2.1) G with
  | some (_,.box _ _ cs)=> !(Nat.beq x.2.2.1 1000000000)&&DB (cs.drop x.2.2.1) x.2.2.2
  | _=>false))&&pdF G Pd
def cT (ops:List Oper) (k:Nat):List Pdg→List Pdg
 | []=>[]
 | x::Pd=>ifS (waits .any ops.toArray k x.1) (cT ops k Pd) (x::cT ops k Pd)
def szA (P:Program) (t:TypeId):Option Nat:=match P.underlying t with
 | some d=>ifS (fO d) (match tiA P t with
  | some z=>some z.1
  | none=>none) (some 1)
 | none=>none
def JJ {R:Type} (X:Cx) (T:Tbl) (fr:Fr) (st:StB) (g:GK) (k:Nat) (o:Oper) (K:List Row→Pdg→StB→Option R):Option (Option R):=match o.op,o.dst with
 | .load t x,some d=>(match opA T st.E fr.F g x with
  | some (.ptr id off)=>(match iT (nW id) st.G with
   | some (j,.box _ bt cs)=>some (match szA X.P t with
    | some n=>(match gf X.P t ((cs.drop off).map (l6 st.G fr.H)) with
     | some v=>(match xx (gG st.c ((cs.drop off).take n)).1 with
      | some us=>ifS (st.low fr&&v.low st.c&&Nat.ble (off+n) cs.length&& !(Nat.beq off 1000000000)) (
        K (gG st.c ((cs.drop off).take n)).2.1 (k,id,off,us) { st with c:=(gG st.c ((cs.drop off).take n)).2.2,E:=bw (some d) g v st.E,G:=st.G.set j (.box id bt (lA cs off (gG st.c ((cs.drop off).take n)).1)) } ) none
      | none=>none)
     | none=>none)
    | none=>none)
   | _=>none)
  | _=>none)
 | _,_=>none
def O6 (T:Tbl) (fr:Fr) (st:StB) (g:GK) (o:Oper):Option (Tmp×TypeId×Nat×Nat):=match o.op,o.dst with
 | .load t x,some d=>(match opA T st.E fr.F g x with
  | some (.adr q off)=>(match nZ T [] fr.H g (.adr q off) with
   | some _=>none
   | none=>(match cn st.G fr.H (zn q) with
    | some _=>some (d,t,q,off)
    | none=>none))
  | _=>none)
 | _,_=>none
noncomputable def xd {R:Type} (X:Cx) (tb:List Ent) (tp:List bA) (KP:AV→StB→Option R) (ops:List Oper) (fr:Fr) (A:List Row) (T:Tbl) (st:StB) (o:Oper) (K:Tbl→Go_ R):Option R:=
 match Jj tp T (frM fr A st) (stM st) o (fun v st'=>Im fr KP T v { st' with G:=st'.G++(aJ (fun r=> !(bO r)) st.G++A) }) (K T) with
 | some q=>q
 | none=>stepG ops T (frM fr A st) (stM st) o fun T g=>opD X tb T (frM fr A st) (stM st) g o (K T)
def RG (X:Cx) (T:Tbl) (fr:Fr) (st:StB) (ops:List Oper) (k:Nat) (fl:List Nat) (rest:OT) (f:Nat):Bool:=(match ops[f]? with
 | some o=>(match tw X T fr st o,o.dst with
  | some _,some d=>dU o&&Nat.blt d fr.n&&(match cf st.E fr.F d with | some _=>false | none=>true)&&(o.looksAt ops.toArray).all (fun t=> !(Nat.beq t d))
  | _,_=>false)
 | none=>false)&&(k::rest.ops).all (fun j=>jD ops.toArray j f)&&(fl++rest.fls).all (fun j=>Nat.beq j f||jD ops.toArray j f)
def Kg {R:Type} (X:Cx) (ops:List Oper) (fr:Fr) (T:Tbl):List Nat→StB→Go_ R→Option R
 | [],st,K=>K st
 | f::fs,st,K=>(match ops[f]? with
  | some o=>ifS (iP o.dst T&& !(bJ f fs)) (Om X T fr st o fun st=>Kg X ops fr T fs st K) none
  | none=>none)
abbrev frA (fr:Fr) (A:List Row):Fr:=⟨fr.F,A++fr.H,fr.n⟩
noncomputable def js {R:Type} (X:Cx) (tb:List Ent) (tp:List bA) (KP:AV→StB→Option R) (ops:List Oper) (fr:Fr):OT→List Row→List Pdg→Tbl→StB→Go_ R→Option R
 | .nil,A,_,T,st,K=>ifS (vq T fr { st with G:=st.G++A }) (K (nO T { st with G:=st.G++A })) none
 | .q k _ rest,A,Pd,T,st,K=>(match ops[k]? with
  | some o=>stepG ops T (frM fr A st) (stM st) o fun T g=>match JJ X T (frM fr A st) (stM st) g k o (fun R p st'=>js X tb tp KP ops fr rest (R++(aJ (fun r=> !(bO r)) st.G++A)) (p::Pd) T st' K) with
   | some q=>q
   | none=>(match O6 T (frM fr A st) (stM st) g o with
    | some p=>ifS ((stM st).low (frM fr A st)) (Ai X T (frM fr A st) (stM st) g p.1 p.2.1 p.2.2.1 p.2.2.2 fun st'=>js X tb tp KP ops fr rest (aJ (fun r=> !(bO r)) st.G++A) ((k,p.2.2.1,1000000000,[])::Pd) T st' K) none
    | none=>FC X T (frM fr A st) (stM st) g o fun st'=>js X tb tp KP ops fr rest (aJ (fun r=> !(bO r)) st.G++A) Pd T st' K)
  | none=>none)
 | .l k _ rest,A,Pd,T,st,K=>(match ops[k]? with
  | some o=>xd X tb tp KP ops fr A T st o fun T st'=>ifS (pdB st'.G (cT ops k Pd)) (js X tb tp KP ops fr rest (aJ (fun r=> !(bO r)) st.G++A) (cT ops k Pd) T st' K) none
  | none=>none)
 | .l2 _ k₁ r₁ k₂ r₂,A,Pd,T,st,K=>both
  (match ops[k₁]? with
  | some o=>xd X tb tp KP ops fr A T st o fun T st'=>ifS (pdB st'.G (cT ops k₁ Pd)) (js X tb tp KP ops fr r₁ (aJ (fun r=> !(bO r)) st.G++A) (cT ops k₁ Pd) T st' K) none
  | none=>none)
  (match ops[k₂]? with
  | some o=>xd X tb tp KP ops fr A T st o fun T st'=>ifS (pdB st'.G (cT ops k₂ Pd)) (js X tb tp KP ops fr r₂ (aJ (fun r=> !(bO r)) st.G++A) (cT ops k₂ Pd) T st' K) none
  | none=>none)
 | .f k _ fl fs rest,A,Pd,T,st,K=>ifS (fl.all (RG X T (frA fr A) st ops k fl rest)&&pdF st.G Pd) (Kg X ops (frA fr A) T fs st fun st=>(match ops[k]? with
  | some o=>xd X tb tp KP ops fr A T st o fun T st'=>ifS (pdB st'.G (cT ops k Pd)) (js X tb tp KP ops fr rest (aJ (fun r=> !(bO r)) st.G++A) (cT ops k Pd) T st' K) none
  | none=>none)) none
section
variable {R : Type} {X : Cx} {tb : List Ent} {tp : List bA} {KP : AV → StB → Option R} {σ : Option Nat} {Q : aG} {D : List Deferred} {ops : List Oper} {r : R} {fr : Fr} {Φ : Ctx} {K : Go_ R}
theorem Kw {T:Tbl} {st:StB} {g:GK} {o:Oper} {ρ:Nms} {w:World} (hΓ: ∀ it∈X.Γ,it∈Φ) (hT:cS T st.E fr.F) (hs:Sat (items ρ T st.G++(items ρ T fr.H++Φ)) w) (h:FC X T fr st g o K=some r):
  ∃ (v:Value) (J:World→Prop),(∀ w',(∃ Φ',Sat (items ρ T fr.H++Φ') w')→J w')∧(∀ w',J w'→Run X.P (ai ρ T st.E fr.F) (T.get g) o w' v)∧aA r K T fr st g o.dst ρ Φ v w:=by
 obtain ⟨dst,op,ty,pos,af,gd⟩:=o
 unfold FC at h
 simp only at h
 have okq: ∀ {O:Value→World→Prop},Okq X.P T g (ai ρ T st.E fr.F) ⟨dst,op,ty,pos,af,gd⟩ w O→ ∃ (v:Value) (J:World→Prop),(∀ w',(∃ Φ',Sat (items ρ T fr.H++Φ') w')→J w')∧(∀ w',J w'→Run X.P (ai ρ T st.E fr.F) (T.get g) ⟨dst,op,ty,pos,af,gd⟩ w' v)∧O v w:=fun h=>by
  obtain ⟨v,h1,h2⟩:=h
  exact ⟨v,fun _=>True,fun _ _=>trivial,fun w' _=>h1 w',h2⟩
 split at h
 ·rename_i cv hcv
  obtain ⟨h1,h2⟩:=jT h
  exact okq ⟨_,fun w'=>E6 hT hcv h1,aA.old h2 (Nat.le_refl _) rfl rfl hs⟩
 ·split at h
  ·rename_i cv hcv
   obtain ⟨h1,h2⟩:=jT h
   refine ⟨_,fun w'=> ∃ Φ',Sat (items ρ T fr.H++Φ') w',fun _ h=>h,fun w' hw=> ?_,aA.old h2 (Nat.le_refl _) rfl rfl hs⟩
   obtain ⟨Φ',hΦ⟩:=hw
   exact Gh (G:=[]) (Φ:=Φ') hΦ hcv h1
  ·obtain ⟨h1,h2⟩:=an h
   unfold Ld at h2
   split at h2
   ·split at h2
    ·exact okq (Hk h1 hs h2)
    ·split at h2
     ·exact okq (DA h1 hΓ hs h2)
     ·obtain ⟨rfl,h3⟩:=bP h2
      exact okq (HV hs h3)
   ·exact okq (BA h1 hs h2)
   ·obtain ⟨rfl,h3⟩:=bP h2
    exact okq (Gq h1 hs h3)
   ·exact okq (Mp hs h2)
   ·cases h2
def BF (ρ:Nms) (x:Pdg) (w:World):Prop:=Nat.beq x.2.2.1 1000000000=false∧ ∃ cs t,cw w (ρ x.2.1).b t cs∧(cs.drop x.2.2.1).take x.2.2.2.length=x.2.2.2.map fun u=>(ρ u).x
def It (c:Nat) (Pd:List Pdg):Prop:= ∀ x,x∈Pd→x.2.1<c∧ ∀ u,u∈x.2.2.2→u<c
theorem qb {ρ ρ':Nms} {c:Nat} (ha:ay c ρ ρ') {x:Pdg} (hx:x.2.1<c∧ ∀ u,u∈x.2.2.2→u<c) {w:World}:BF ρ' x w↔BF ρ x w:=by
 unfold BF
 rw [ha _ hx.1]
 have:(x.2.2.2.map fun u=>(ρ' u).x)=x.2.2.2.map fun u=>(ρ u).x:=List.map_congr_left fun u hu=>by rw [ha _ (hx.2 u hu)]
 rw [this]
theorem BV {ρ:Nms}: ∀ {l:List AV} {us:List Nat},DB l us=true→(AV.ah ρ l).take us.length=us.map fun u=>(ρ u).x
 | l,[],_=>by simp
 | l,n::ns,h=>by
  unfold DB at h
  split at h
  ·rename_i u l'
   simp only [Bool.and_eq_true] at h
   have e:=Nat.eq_of_beq_eq_true h.1
   subst e
   simp only [AV.ah,AV.val,List.length_cons,List.take_succ_cons,List.map_cons]
   rw [BV h.2]
  ·cases h
theorem AA {ρ:Nms}: ∀ {l:List AV} {us:List Nat},xx l=some us→AV.ah ρ l=us.map (fun u=>(ρ u).x)∧us.length=l.length
 | [],us,h=>by cases h;simp [AV.ah]
 | v::l,us,h=>by
  unfold xx at h
  split at h
  ·rename_i u
   split at h
   ·rename_i us' hus
    cases h
    obtain ⟨h1,h2⟩:=AA (ρ:=ρ) hus
    simp [AV.ah,AV.val,h1,h2]
   ·cases h
  ·cases h
theorem B0 {c:Nat}: ∀ {l:List AV} {us:List Nat},xx l=some us→AV.bc c l=true→ ∀ u,u∈us→u<c
 | [],us,h,_,u,hu=>by cases h;cases hu
 | v::l,us,h,hl,u,hu=>by
  unfold xx at h
  split at h
  ·rename_i u'
   split at h
   ·rename_i us' hus
    cases h
    simp only [AV.bc,AV.low,Bool.and_eq_true,Nat.blt_eq] at hl
    rcases List.mem_cons.1 hu with rfl | hu
    ·exact hl.1
    ·exact B0 hus hl.2 u hu
   ·cases h
  ·cases h
theorem Gm {ρ:Nms} {T:Tbl} {G:List Row} {B:Ctx} {w:World} (hs:Sat (items ρ T G++B) w): ∀ {Pd:List Pdg},pdB G Pd=true→ ∀ x,x∈Pd→BF ρ x w
 | [],_,x,hx=>by cases hx
 | y::Pd,h,x,hx=>by
  simp only [pdB,Bool.and_eq_true] at h
  rcases List.mem_cons.1 hx with rfl | hx
  ·have h1:=h.1
   split at h1
   ·rename_i j id t cs hf
    obtain ⟨f1,f2⟩:=ie hf
    have:id=x.2.1:=Nat.eq_of_beq_eq_true f2
    subst this
    have hb:cw w (ρ x.2.1).b t (AV.ah ρ cs):=hs.at_ (dp f1)
    simp only [Bool.and_eq_true] at h1
    refine ⟨by simpa using h1.1,_,t,hb,?_⟩
    rw [← AV.dZ]
    exact BV h1.2
   ·cases h1
  ·exact Gm hs h.2 x hx
theorem K9 {ρ:Nms} {T:Tbl} {G:List Row} {B:Ctx} {w:World} (hs:Sat (items ρ T G++B) w): ∀ {Pd:List Pdg},pdF G Pd=true→ ∀ x,x∈Pd→BF ρ x w∨Nat.beq x.2.2.1 1000000000=true
 | [],_,x,hx=>by cases hx
 | y::Pd,h,x,hx=>by
  simp only [pdF,Bool.and_eq_true,Bool.or_eq_true] at h
  rcases List.mem_cons.1 hx with rfl | hx
  ·rcases h.1 with h1 | h1
   ·exact .inr h1
   ·exact .inl (Gm hs (Pd:=[x]) (by simp only [pdB,Bool.and_eq_true];exact ⟨h1,trivial⟩) x (List.mem_cons_self ..))
  ·exact K9 hs h.2 x hx
theorem mC {k:Nat}: ∀ {Pd:List Pdg} {x:Pdg},x∈cT ops k Pd↔x∈Pd∧waits .any ops.toArray k x.1=false
 | [],x=>by simp [cT]
 | y::Pd,x=>by
  unfold cT
  cases hw:waits .any ops.toArray k y.1
  ·show x∈y::cT ops k Pd↔_
   rw [List.mem_cons,List.mem_cons,mC]
   constructor
   ·rintro (rfl | ⟨h1,h2⟩)
    ·exact ⟨.inl rfl,hw⟩
    ·exact ⟨.inr h1,h2⟩
   ·rintro ⟨rfl | h1,h2⟩
    ·exact .inl rfl
    ·exact .inr ⟨h1,h2⟩
  ·show x∈cT ops k Pd↔_
   rw [List.mem_cons,mC]
   constructor
   ·rintro ⟨h1,h2⟩;exact ⟨.inr h1,h2⟩
   ·rintro ⟨rfl | h1,h2⟩
    ·rw [hw] at h2;cases h2
    ·exact ⟨h1,h2⟩
theorem HY {pend:cD} {w:World} (h: ∀ p,p∈pend→p.2 w):dN pend w:=by
 induction pend with
 | nil=>trivial
 | cons p l ih=>exact ⟨h p (List.mem_cons_self ..),ih fun q hq=>h q (List.mem_cons_of_mem _ hq)⟩
theorem P7 {P:Program} {ρ:Nms} {Ev:Env} {g:Bool} {t:TypeId} {x:Operand} {n:Nat} {l:List AV} {v:AV} {ad:Addr} {w:World} {dst:Option Tmp} {ty:TypeId} {pos:String} {af:Array Edge} {gd:Option (Nat×Bool)}
  (hx:Opd Ev g x (.pointer (some ad))) (hn:szA P t=some n) (hv:gf P t l=some v) (hl:n≤l.length) (hc:aL w ad ((AV.ah ρ l).take n)):Run P Ev g ⟨dst,.load t x,ty,pos,af,gd⟩ w (v.val ρ):=by
 have h':gf P t (l.drop 0)=some v:=by simpa using hv
 obtain ⟨d,n',bytes,z,c1,c2,c3⟩:=iM (X:=⟨P,[],[],[],(fun _ h=>nomatch h),0,[],[],(fun _ h=>nomatch h),[]⟩) (ρ:=ρ) h'
 have c1:P.underlying t=some d:=c1
 unfold szA at hn
 rw [c1] at hn
 rcases cj hn with ⟨hd,h2⟩ | ⟨hd,h2⟩
 ·split at h2
  ·rename_i z2 hz2
   obtain ⟨m,b2,z2⟩:=z2
   cases h2
   unfold gf at hv
   rw [c1] at hv
   rcases cj hv with ⟨_,h3⟩ | ⟨h3,_⟩
   ·rw [hz2] at h3
    obtain ⟨_,h5⟩:=an h3
    cases h5
    simp only [AV.val,AV.fA]
    exact vk c1 hd (bC hz2) hx (fun _=>hc) (by rw [List.length_take,AV.aF];exact Nat.min_eq_left hl)
   ·rw [hd] at h3;cases h3
  ·cases h2
 ·cases h2
  rw [hd] at c3
  simp only [Bool.false_eq_true,if_false] at c3
  refine wh c1 hd hx (fun _=> ?_)
  have e:(AV.ah ρ l).take 1=[v.val ρ]:=by
   cases hq:AV.ah ρ l with
   | nil=>rw [hq] at c3;cases c3
   | cons a l=>rw [hq] at c3;cases c3;rfl
  rw [e] at hc;exact hc
theorem G9 {l:List Value} {off n:Nat} (h:off+n≤l.length):iI l off ((l.drop off).take n)=l:=by
 unfold iI
 have e1:((l.drop off).take n).length=n:=by rw [List.length_take,List.length_drop];omega
 rw [e1]
 have e2:(l.drop off).take n++l.drop (off+n)=l.drop off:=by
  rw [← List.drop_drop,List.take_append_drop]
 rw [List.append_assoc,e2,List.take_append_drop]
theorem MV {T:Tbl} {st:StB} {g:GK} {k:Nat} {o:Oper} {ρ:Nms} {w:World} {KQ:List Row→Pdg→StB→Option R} (hs:Sat (items ρ T st.G++(items ρ T fr.H++Φ)) w) (h:JJ X T fr st g k o KQ=some (some r)):
  ∃ (v:Value) (ρ':Nms) (st':StB) (av:AV) (Rq:List Row) (p:Pdg),KQ Rq p st'=some r∧ay st.c ρ ρ'∧st.c≤st'.c∧st'.E=bw o.dst g av st.E∧av.val ρ'=v∧ai ρ' T st.E fr.F=ai ρ T st.E fr.F∧items ρ' T fr.H=items ρ T fr.H∧
   Sat (items ρ' T st'.G++(items ρ' T (Rq++fr.H)++Φ)) w∧p.1=k∧BF ρ' p w∧(p.2.1<st'.c∧ ∀ u,u∈p.2.2.2→u<st'.c)∧(∀ w',BF ρ' p w'→Run X.P (ai ρ T st.E fr.F) (T.get g) o w' v):=by
 obtain ⟨dst,op,ty,pos,af,gd⟩:=o
 unfold JJ at h
 simp only at h
 split at h
 ·rename_i t x d
  split at h
  ·rename_i id off hx
   split at h
   ·rename_i j id' bt cs hf
    simp only [Option.some.injEq] at h
    split at h
    ·rename_i n hn
     split at h
     ·rename_i v hv
      split at h
      ·rename_i us hus
       obtain ⟨h1,h2⟩:=an h
       simp only [Bool.and_eq_true,Nat.ble_eq] at h1
       obtain ⟨⟨⟨hl,hvl⟩,hle⟩,hmk⟩:=h1
       obtain ⟨l1,l2,l3,l4⟩:=StB.bq.1 hl
       obtain ⟨f1,f2⟩:=ie hf
       have:id'=id:=Nat.eq_of_beq_eq_true f2
       subst this
       have hj:j<st.G.length:=(List.getElem?_eq_some_iff.1 f1).1
       have hrow:=j3 l3 f1
       simp only [Row.low,Bool.and_eq_true,Nat.blt_eq] at hrow
       have hsub: ∀ {l:List AV} {c m q:Nat},AV.bc c l=true→AV.bc c ((l.drop m).take q)=true:=fun {l c m q} h=>by
        have dr: ∀ (l:List AV) (m:Nat),AV.bc c l=true→AV.bc c (l.drop m)=true:=fun l=>by
         induction l with
         | nil=>intro m h;simp [AV.bc]
         | cons a l ih=>
          intro m h
          cases m with
          | zero=>exact h
          | succ m=>simp only [AV.bc,Bool.and_eq_true] at h;exact ih m h.2
        have tk: ∀ (l:List AV) (m:Nat),AV.bc c l=true→AV.bc c (l.take m)=true:=fun l=>by
         induction l with
         | nil=>intro m h;simp [AV.bc]
         | cons a l ih=>
          intro m h
          cases m with
          | zero=>rfl
          | succ m=>simp only [AV.bc,Bool.and_eq_true,List.take_succ_cons] at h ⊢; exact ⟨h.1,ih m h.2⟩
        exact tk _ _ (dr _ _ h)
       obtain ⟨ρ',lk⟩:=tT (ρ:=ρ) (hsub (m:=off) (q:=n) hrow.2)
       obtain ⟨i1,i2⟩:=AA (ρ:=ρ') hus
       have hil:=B0 hus lk.lw
       generalize gG st.c ((cs.drop off).take n)=L at h2 lk hus i1 i2 hil
       obtain ⟨ls,Rq,c'⟩:=L
       have hcc:st.c≤c':=lk.le
       have hag:ay st.c ρ ρ':=lk.ag
       have heq:AV.ah ρ' ls=AV.ah ρ ((cs.drop off).take n):=lk.eq
       have hb:cw w (ρ id').b bt (AV.ah ρ cs):=hs.at_ (dp f1)
       have hcsl:AV.ah ρ' cs=AV.ah ρ cs:=AV.aZ hag _ hrow.2
       have hval:v.val ρ'=v.val ρ:=AV.gC hag _ hvl
       have hus2:us.length=n:=by
        have e1:(AV.ah ρ' ls).length=n:=by rw [heq,AV.aF,List.length_take,List.length_drop];omega
        rw [i2,← AV.aF (ρ:=ρ') (l:=ls)];exact e1
       have eG:=aE (T:=T) hag l3
       have eH:=aE (T:=T) hag l4
       have e3:(us.map fun u=>(ρ' u).x)=((AV.ah ρ cs).drop off).take n:=by rw [← i1,heq,AV.fA,AV.dZ]
       refine ⟨v.val ρ,ρ',_,v,Rq,(k,id',off,us),h2,hag,hcc,rfl,hval,iY hl hag,eH,?_,rfl,⟨by simpa using hmk,AV.ah ρ cs,bt,?_,?_⟩,⟨Nat.lt_of_lt_of_le hrow.1 hcc,hil⟩,fun w' hw=> ?_⟩
       ·show Sat (items ρ' T (st.G.set j _)++(items ρ' T (Rq++fr.H)++Φ)) w
        rw [cW hj,eG]
        have e4:(Row.box id' bt (lA cs off ls)).item ρ' T=(Row.box id' bt cs).item ρ T:=by
         simp only [Row.item]
         rw [hag _ hrow.1,← nL,hcsl,heq,AV.fA,AV.dZ,G9 (by rw [AV.aF];exact hle)]
        have hi:=dp (ρ:=ρ) (T:=T) (Φ:=items ρ' T (Rq++fr.H)++Φ) f1
        have e5:(items ρ T st.G++(items ρ' T (Rq++fr.H)++Φ)).set j ((Row.box id' bt (lA cs off ls)).item ρ' T)=items ρ T st.G++(items ρ' T (Rq++fr.H)++Φ):=by
         rw [e4]
         apply List.ext_getElem?
         intro q
         by_cases hq:q=j
         ·subst hq
          rw [List.getElem?_set_self (List.getElem?_eq_some_iff.1 hi).1,hi]
         ·rw [List.getElem?_set_ne (fun h=>hq h.symm)]
        rw [e5,aH,eH,List.append_assoc]
        have ins: ∀ (L:List Item) (A B:Ctx),Sat (A++B) w→(∀ it∈L,it.own=[]∧ ∀ M w,it.P M w)→Sat (A++(L++B)) w:=fun L=>by
         induction L with
         | nil=>intro A B h _;exact h
         | cons x L ih=>
          intro A B h hL
          have h1:=ih A B h (fun it hit=>hL it (List.mem_cons_of_mem _ hit))
          have hx:=hL x (List.mem_cons_self ..)
          refine h1.oX (fun j k=>(j<A.length∧k=j)∨(A.length<j∧k+1=j)) (fun j jt hj=> ?_) (fun j k q hjk h1 h2=>by omega)
          by_cases e:j<A.length
          ·rw [List.getElem?_append_left e] at hj
           exact .inr ⟨j,jt,.inl ⟨e,rfl⟩,by rw [List.getElem?_append_left e];exact hj,aX.refl⟩
          ·rw [List.getElem?_append_right (by omega)] at hj
           by_cases e2:j=A.length
           ·subst e2
            simp at hj
            subst hj
            exact .inl hx
           ·refine .inr ⟨j-1,jt,.inr ⟨by omega,by omega⟩,?_,aX.refl⟩
            rw [List.getElem?_append_right (by omega)]
            have:j-A.length=(j-1-A.length)+1:=by omega
            rw [this,List.cons_append,List.getElem?_cons_succ] at hj
            exact hj
        refine ins (items ρ' T Rq) (items ρ T st.G) (items ρ T fr.H++Φ) hs (fun it hit=> ?_)
        obtain ⟨rw_,hr1,rfl⟩:=List.mem_map.1 hit
        have h9:=lk.rp rw_ hr1
        have h10:rw_.item ρ' T=rw_.item ρ' []:=by
         have hgd:rw_.gd=none:=lk.rg rw_ hr1
         exact Row.qg (by rw [hgd,Tbl.get_none,Tbl.get_none])
        rw [h10]
        exact ⟨(rw_.item ρ' []).hp h9.1,h9.2⟩
       ·show cw w (ρ' id').b bt _
        rw [hag _ hrow.1];exact hb
       ·show ((AV.ah ρ cs).drop off).take us.length=us.map fun u=>(ρ' u).x
        rw [hus2,e3]
       ·obtain ⟨_,csv,t2,b1,b2⟩:=hw
        have b1:cw w' (ρ' id').b t2 csv:=b1
        have b2:(csv.drop off).take us.length=us.map fun u=>(ρ' u).x:=b2
        rw [hag _ hrow.1] at b1
        rw [hus2,e3] at b2
        have hx':=ax (ρ:=ρ) hx
        simp only [AV.val] at hx'
        have e6:AV.ah ρ ((cs.drop off).map (l6 st.G fr.H))=(AV.ah ρ cs).drop off:=by rw [vZ hs,AV.dZ]
        refine P7 hx' hn hv (by rw [List.length_map,List.length_drop];omega) ?_
        rw [e6]
        refine b1.part off ?_
        have:(((AV.ah ρ cs).drop off).take n).length=n:=by rw [List.length_take,List.length_drop,AV.aF];omega
        rw [this];exact b2
      ·cases h
     ·cases h
    ·cases h
   ·cases h
  ·cases h
 ·cases h
theorem vo {order:OT} {k mk_:Nat} {pend:cD} {EV:List Flt} {o:Oper} {T T':Tbl} {g:GK} {fr1:Fr} {st1:StB} {ρ:Nms} {w:World} {v:Value} {J:World→Prop} (hn:fr1.n=fr.n) (so:Lm ops fr fr1 st1 ρ o T T' g) (ho:ops[k]? =some o) (hfr: ∀ x∈EV,jD ops.toArray k x.1=true) (hJw:J w)
  (hr: ∀ w',J w'→Run X.P (ai ρ T' st1.E fr1.F) (T'.get g) o w' v) (hnext:WDE X.P σ ops.toArray Q fr.n D order EV ((k,J)::pend) (jH o.dst (T'.get g) v (ai ρ T' st1.E fr1.F)) w):
  WDE X.P σ ops.toArray Q fr.n D (.q k mk_ order) EV pend (ai ρ T' st1.E fr1.F) w:=by
 have ho':ops.toArray[k]? =some o:=by simpa using ho
 have hds:=so.ds
 rw [hn] at hds
 intro a hfit hD hC
 have hC': ∀ v,∀ x∈EV,ln X.P ops.toArray (a.put o.dst v) x:=fun v x hx=>(hC x hx).put ho' (hfr x hx)
 simp only [wpD,ho']
 cases hg:g with
 | none=>
  subst hg
  rw [Tbl.get_none] at hr hnext
  refine ⟨v,J,hJw,.inl ⟨by simp [Region.wanted,so.gg],fun w' hw'=>hr w' hw' _ a hfit rfl⟩,?_⟩
  exact hnext _ (hfit.jH hds) (by rw [eO];exact hD) (hC' _)
 | some gk=>
  obtain ⟨rj,par,b,g1,g2,g3,g4⟩:=so.gk gk hg
  rw [hn] at g3
  subst hg
  have hw:=oB (ops:=ops.toArray) so.gg (by simpa using g1) g2 hfit g3
  rw [g4] at hw
  cases hT:T'.get (some gk)
  ·rw [hT] at hw hnext
   refine ⟨undef,J,hJw,.inr ⟨hw,rfl⟩,?_⟩
   exact hnext _ (hfit.jH (g:=false) (v:=v) hds) (by rw [eO];exact hD) (hC' _)
  ·rw [hT] at hw hr hnext
   refine ⟨v,J,hJw,.inl ⟨hw,fun w' hw'=>hr w' hw' _ a hfit rfl⟩,?_⟩
   exact hnext _ (hfit.jH hds) (by rw [eO];exact hD) (hC' _)
theorem R4 {G H:List Row} {s:Src} {rw_:Row} {q c:Nat} (h:s.at_ G H rw_) (hk:zn q rw_=true) (hG:aS c G=true) (hH:aS c H=true):q<c:=by
 have key: ∀ {L:List Row},aS c L=true→rw_∈L→q<c:=fun {L} hl hm=>by
  have hr:rw_.low c=true:=by
   induction L with
   | nil=>cases hm
   | cons x L ih=>
    simp only [aS,Bool.and_eq_true] at hl
    rcases List.mem_cons.1 hm with rfl | hm
    ·exact hl.1
    ·exact ih hl.2 hm
  unfold zn at hk
  split at hk
  ·have e:=Nat.eq_of_beq_eq_true hk
   subst e
   simp only [Row.low,Bool.and_eq_true,Nat.blt_eq] at hr
   exact hr.1.1
  ·cases hk
 cases s with
 | top i=>exact key hG (List.mem_of_getElem? h)
 | frz i=>exact key hH (List.mem_of_getElem? h)
 | nilI t=>exact h.elim
 | nilO t e=>exact h.elim
 | nilM k v=>exact h.elim
def HP (ρ:Nms) (T:Tbl) (fr:Fr) (A:List Row) (Pd:List Pdg) (pend:cD) (w:World):Prop:= ∀ p,p∈pend→ ∀ w',(∃ Φ',Sat (items ρ T (A++fr.H)++Φ') w')→(∀ x,x∈Pd→x.1=p.1→BF ρ x w'∨(Nat.beq x.2.2.1 1000000000=true∧Ext w w'))→p.2 w'
def EVI (EV:List Flt):Ctx:=EV.map fun x=>box x.2.1 x.2.2.1 x.2.2.2
def Bt (ops:List Oper) (order:OT) (EV:List Flt):Prop:= ∀ x∈EV,(∀ j∈order.ops,jD ops.toArray j x.1=true)∧ ∀ j∈order.fls,j=x.1∨jD ops.toArray j x.1=true
theorem tq {B:Ctx} {w:World} {p:Flt→Bool}: ∀ {EV:List Flt} {A:Ctx},Sat (A++(EVI EV++B)) w→Sat (A++(EVI (EV.filter p)++B)) w
 | [],_,h=>h
 | x::EV,A,h=>by
  rw [List.filter_cons]
  split
  ·have h1:Sat ((A++[box x.2.1 x.2.2.1 x.2.2.2])++(EVI EV++B)) w:=by simpa [EVI] using h
   have:=tq (p:=p) h1
   simpa [EVI] using this
  ·exact tq (p:=p) (Sat.rb (A:=A) (B:=EVI EV++B) h)
theorem yZ {B:Ctx} {w:World}: ∀ {EV:List Flt} {A:Ctx},Sat (A++(EVI EV++B)) w→Sat (A++B) w
 | [],_,h=>h
 | _::EV,A,h=>yZ (EV:=EV) (Sat.rb (A:=A) (B:=EVI EV++B) h)
theorem Fits.old {n:Nat} {E:Env} {a:Act} {d:Tmp} {v:Value} (h:Fits n E a) (e:a.tmps.getD d undef=v):Fits n ((d,true,v)::E) a:=by
 refine ⟨h.size,fun t g v' ht=> ?_⟩
 simp only [look] at ht
 cases hb:Nat.beq d t
 ·rw [hb,cond_false] at ht
  exact h.at_ t g v' ht
 ·rw [hb,cond_true] at ht
  have:=Nat.eq_of_beq_eq_true hb
  subst this
  cases ht
  exact e
theorem Fits.R8 {n:Nat} {E:Env} {a:Act} {d:Tmp} (h:Fits n E a) (hd:look E d=none) (v:Value):Fits n E (a.put (some d) v):=by
 refine ⟨by simp [Act.put,h.size],fun t g v' ht=> ?_⟩
 have hne:d≠t:=fun e=>by subst e;rw [hd] at ht;cases ht
 have:=Act.eval_put (a:=a) (dst:=some d) (v:=v) (x:= .tmp t) (fun e he hc=>hne (by cases he;cases hc;rfl))
 exact Eq.trans this (h.at_ t g v' ht)
theorem PF {X:Cx} {T:Tbl} {fr:Fr} {st:StB} {o:Oper} {p:TypeId×List AV×List AV} (h:tw X T fr st o=some p):o.guard=none∧ ∀ cs b,o.op≠ .select cs b:=by
 unfold tw at h
 split at h
 ·rename_i e1 e2
  exact ⟨e2,fun cs b hc=>by rw [e1] at hc;cases hc⟩
 ·rename_i e1 e2
  exact ⟨e2,fun cs b hc=>by rw [e1] at hc;cases hc⟩
 ·cases h
theorem ln.same {P:Program} {ops:Array Oper} {a:Act} {x:Flt} {X:Cx} {T:Tbl} {fr:Fr} {st:StB} {ρ:Nms} {o:Oper} (hP:X.P=P) (h:ln P ops a x) (ho:ops[x.1]? =some o) (hf:Fits fr.n (ai ρ T st.E fr.F) a):
  ∀ e vs cs,tw X T fr st o=some (e,vs,cs)→x.2.2.1=e∧x.2.2.2=AV.ah ρ cs:=fun e vs cs hA=>by
 subst hP
 obtain ⟨o',d,w0,h1,h2,h3,h4,h5,h6⟩:=h
 rw [ho] at h1
 cases h1
 have h7:=E7 (ρ:=ρ) hA w0 _ a hf
 rw [h6] at h7
 have h8:w0.alloc (.cells x.2.2.2.toArray x.2.2.1)=w0.alloc (.cells (AV.ah ρ cs).toArray e):=by
  injection h7
 have h9:(some (Obj.cells x.2.2.2.toArray x.2.2.1):Option Obj)=some (.cells (AV.ah ρ cs).toArray e):=by
  rw [← heap_alloc_new w0 (.cells x.2.2.2.toArray x.2.2.1),← heap_alloc_new w0 (.cells (AV.ah ρ cs).toArray e),h8]
 simp only [Option.some.injEq,Obj.cells.injEq] at h9
 exact ⟨h9.2.1,by simpa using h9.1⟩
theorem Hl {frx:Fr} {T:Tbl} {w:World} {a:Act} {KK:Go_ R}: ∀ {fs:List Nat} {EV:List Flt} {st:StB} {ρ:Nms},cS T st.E frx.F→Sat (items ρ T st.G++(items ρ T frx.H++(EVI EV++Φ))) w→Fits frx.n (ai ρ T st.E frx.F) a→
  (∀ x∈EV,ln X.P ops.toArray a x)→(∀ f∈fs,f∈EV.map (·.1))→Kg X ops frx T fs st KK=some r→
  ∃ st' ρ',KK st'=some r∧ay st.c ρ ρ'∧st.c≤st'.c∧cS T st'.E frx.F∧Fits frx.n (ai ρ' T st'.E frx.F) a∧items ρ' T frx.H=items ρ T frx.H∧
   Sat (items ρ' T st'.G++(items ρ' T frx.H++(EVI (EV.filter fun x=> !(bJ x.1 fs))++Φ))) w
 | [],EV,st,ρ,ht,hs,hf,hC,_,h=>by
  refine ⟨st,ρ,h,.refl,Nat.le_refl _,ht,hf,rfl,?_⟩
  have e:(EV.filter fun x=> !(bJ x.1 []))=EV:=by
   rw [List.filter_eq_self]
   intro x _
   rfl
  rw [e];exact hs
 | f::fs,EV,st,ρ,ht,hs,hf,hC,hin,h=>by
  unfold Kg at h
  split at h
  ·rename_i o ho
   obtain ⟨h1,h2⟩:=an h
   simp only [Bool.and_eq_true,Bool.not_eq_true'] at h1
   obtain ⟨x,hx,hxf⟩:=List.mem_map.1 (hin f (List.mem_cons_self ..))
   subst hxf
   obtain ⟨E1,E2,hE⟩:=List.append_of_mem hx
   have ho':ops.toArray[x.1]? =some o:=by simpa using ho
   have hs1:Sat (((items ρ T st.G++items ρ T frx.H)++EVI E1)++box x.2.1 x.2.2.1 x.2.2.2::(EVI E2++Φ)) w:=by
    have e:items ρ T st.G++(items ρ T frx.H++(EVI EV++Φ))=((items ρ T st.G++items ρ T frx.H)++EVI E1)++box x.2.1 x.2.2.1 x.2.2.2::(EVI E2++Φ):=by
     rw [hE];simp [EVI]
    rw [← e];exact hs
   have hs2:Sat ([]++box x.2.1 x.2.2.1 x.2.2.2::((items ρ T st.G++items ρ T frx.H)++(EVI E1++(EVI E2++Φ)))) w:=by
    have:=hs1.Ob
    simpa using this
   have hs3:Sat (items ρ T st.G++(items ρ T frx.H++(box x.2.1 x.2.2.1 x.2.2.2::(EVI E1++(EVI E2++Φ))))) w:=by
    have:=hs2.move
    simpa using this
   have hR:=hC x hx
   obtain ⟨o2,d,w0,r1,r2,r3,r4,r5,r6⟩:=id hR
   rw [ho'] at r1
   cases r1
   obtain ⟨ρ1,st1,av,k1,k2,k3,k4,k5,k6,k7,k8⟩:=PM hs3 (ln.same rfl hR ho' hf) h2
   have e1:ai ρ1 T st1.E frx.F=(d,true,rI o x.2.1)::ai ρ T st.E frx.F:=by
    rw [k4,lQ,k5,k6,r2,Tbl.get_none];rfl
   have hs4:Sat (items ρ1 T st1.G++(items ρ1 T frx.H++(EVI (EV.filter fun y=> !(Nat.beq x.1 y.1))++Φ))) w:=by
    have e2:(EV.filter fun y=> !(Nat.beq x.1 y.1))=(E1++E2).filter fun y=> !(Nat.beq x.1 y.1):=by
     rw [hE];simp
    rw [e2]
    have:Sat ((items ρ1 T st1.G++items ρ1 T frx.H)++(EVI (E1++E2)++Φ)) w:=by
     have e3:EVI (E1++E2)=EVI E1++EVI E2:=by simp [EVI]
     rw [e3];simpa using k8
    have:=tq (p:=fun y=> !(Nat.beq x.1 y.1)) this
    simpa using this
   have ht1:cS T st1.E frx.F:=by rw [k4];exact ht.out h1.1 none av
   obtain ⟨st2,ρ2,q1,q2,q3,q4,q5,q6,q7⟩:=Hl ht1 hs4 (by rw [e1];exact hf.old r5) (fun y hy=>hC y (List.mem_filter.1 hy).1) (fun f' hf'=>by
    obtain ⟨y,hy,hyf⟩:=List.mem_map.1 (hin f' (List.mem_cons_of_mem _ hf'))
    subst hyf
    refine List.mem_map.2 ⟨y,List.mem_filter.2 ⟨hy,?_⟩,rfl⟩
    rw [Bool.not_eq_true',Bool.eq_false_iff]
    intro hb
    have:=Nat.eq_of_beq_eq_true hb
    rw [← this] at hf'
    rw [bL.2 hf'] at h1
    cases h1.2) k1
   refine ⟨st2,ρ2,q1,k2.trans q2 k3,Nat.le_trans k3 q3,q4,q5,q6.trans k7,?_⟩
   have e4:((EV.filter fun y=> !(Nat.beq x.1 y.1)).filter fun y=> !(bJ y.1 fs))=EV.filter fun y=> !(bJ y.1 (x.1::fs)):=by
    rw [List.filter_filter]
    congr 1
    funext y
    simp only [bJ,Bool.not_or]
    exact Bool.and_comm ..
   rw [← e4];exact q7
  ·cases h
theorem Qd (hΓ: ∀ it∈X.Γ,it∈Φ) (htb: ∀ e∈tb,e.Ok X.P X.Γ) (htp: ∀ e∈tp,e.Ok X.P X.Γ): ∀ {order:OT} {EV:List Flt} {A:List Row} {Pd:List Pdg} {T:Tbl} {st:StB} {ρ:Nms} {w:World} {pend:cD},cS T st.E fr.F→jh ops fr.n T→FT T fr→Bt ops order EV→It st.c Pd→Sat (items ρ T st.G++(items ρ T (A++fr.H)++(EVI EV++Φ))) w→
  HP ρ T fr A Pd pend w→js X tb tp KP ops fr order A Pd T st K=some r→
  (∀ st' ρ' w',ay st.c ρ ρ'→st.c≤st'.c→K st'=some r→Sat (items ρ' [] st'.G++(items ρ' [] fr.H++Φ)) w'→At Q .normal fr.n D (ai ρ' [] st'.E fr.F) w')→
  (∀ v st' ρ' w',ay st.c ρ ρ'→st.c≤st'.c→KP v st'=some r→Sat (items ρ' [] st'.G++(items ρ' [] fr.H++Φ)) w'→AtP Q (pan (v.val ρ')) D w')→
  WDE X.P σ ops.toArray Q fr.n D order EV pend (ai ρ T st.E fr.F) w:=by
 intro order
 -- a loud operation, the rest by induction
 have loud: ∀ (rest:OT) (k mk:Nat),(∀ {EV:List Flt} {A:List Row} {Pd:List Pdg} {T:Tbl} {st:StB} {ρ:Nms} {w:World} {pend:cD},cS T st.E fr.F→jh ops fr.n T→FT T fr→Bt ops rest EV→It st.c Pd→Sat (items ρ T st.G++(items ρ T (A++fr.H)++(EVI EV++Φ))) w→
   HP ρ T fr A Pd pend w→js X tb tp KP ops fr rest A Pd T st K=some r→
   (∀ st' ρ' w',ay st.c ρ ρ'→st.c≤st'.c→K st'=some r→Sat (items ρ' [] st'.G++(items ρ' [] fr.H++Φ)) w'→At Q .normal fr.n D (ai ρ' [] st'.E fr.F) w')→
   (∀ v st' ρ' w',ay st.c ρ ρ'→st.c≤st'.c→KP v st'=some r→Sat (items ρ' [] st'.G++(items ρ' [] fr.H++Φ)) w'→AtP Q (pan (v.val ρ')) D w')→
   WDE X.P σ ops.toArray Q fr.n D rest EV pend (ai ρ T st.E fr.F) w)→
   ∀ {EV:List Flt} {A:List Row} {Pd:List Pdg} {T:Tbl} {st:StB} {ρ:Nms} {w:World} {pend:cD},cS T st.E fr.F→jh ops fr.n T→FT T fr→(∀ x∈EV,jD ops.toArray k x.1=true)→Bt ops rest EV→It st.c Pd→Sat (items ρ T st.G++(items ρ T (A++fr.H)++(EVI EV++Φ))) w→
   HP ρ T fr A Pd pend w→
   (match ops[k]? with
    | some o=>xd X tb tp KP ops fr A T st o fun T st'=>ifS (pdB st'.G (cT ops k Pd)) (js X tb tp KP ops fr rest (aJ (fun r=> !(bO r)) st.G++A) (cT ops k Pd) T st' K) none
    | none=>none)=some r→
   (∀ st' ρ' w',ay st.c ρ ρ'→st.c≤st'.c→K st'=some r→Sat (items ρ' [] st'.G++(items ρ' [] fr.H++Φ)) w'→At Q .normal fr.n D (ai ρ' [] st'.E fr.F) w')→
   (∀ v st' ρ' w',ay st.c ρ ρ'→st.c≤st'.c→KP v st'=some r→Sat (items ρ' [] st'.G++(items ρ' [] fr.H++Φ)) w'→AtP Q (pan (v.val ρ')) D w')→
   WDE X.P σ ops.toArray Q fr.n D (.l k mk rest) EV pend (ai ρ T st.E fr.F) w:=by
  intro rest k mk ih EV A Pd T st ρ w pend h1 h2 hf hfk hev hpd hs hp h next pnext
  have hΓ': ∀ it∈X.Γ,it∈EVI EV++Φ:=fun it hit=>List.mem_append_right _ (hΓ it hit)
  split at h
  ·rename_i o ho
   have hs1:=kV (A:=[]) (p:=bO) hs
   refine Ms (k:=k) (mk:=mk) (o:=o) (by simpa using ho) hfk rfl ?_
   have fin: ∀ T' st' ρ' w',cS T' st'.E (frM fr A st).F→jh ops (frM fr A st).n T'→FT T' fr→ay (stM st).c ρ ρ'→(stM st).c≤st'.c→(ifS (pdB st'.G (cT ops k Pd)) (js X tb tp KP ops fr rest (aJ (fun r=> !(bO r)) st.G++A) (cT ops k Pd) T' st' K) none)=some r→items ρ' T' (frM fr A st).H=items ρ T (frM fr A st).H→Sat (items ρ' T' st'.G++(items ρ' T' (frM fr A st).H++(EVI EV++Φ))) w'→
     WL X.P σ ops.toArray (QKE X.P σ ops.toArray Q rest EV (still .any ops.toArray k pend)) fr.n D [] (ai ρ' T' st'.E (frM fr A st).F) w':=by
    intro T' st' ρ' w' a1 a2 a3 a4 a5 a6 a7 a8
    obtain ⟨a9,a10⟩:=an a6
    have e1:aJ (fun r=> !(bO r)) st.G++(A++fr.H)=(aJ (fun r=> !(bO r)) st.G++A)++fr.H:=by rw [List.append_assoc]
    have hs8:Sat (items ρ' T' st'.G++(items ρ' T' ((aJ (fun r=> !(bO r)) st.G++A)++fr.H)++(EVI EV++Φ))) w':=by rw [← e1];exact a8
    have conv: ∀ w2,(∃ Φ',Sat (items ρ' T' ((aJ (fun r=> !(bO r)) st.G++A)++fr.H)++Φ') w2)→ ∃ Φ',Sat (items ρ T (A++fr.H)++Φ') w2:=fun w2 hw=>by
     obtain ⟨Φ',hΦ⟩:=hw
     refine ⟨Φ',?_⟩
     rw [← e1] at hΦ
     have hΦ2:Sat (items ρ T (aJ (fun r=> !(bO r)) st.G++(A++fr.H))++Φ') w2:=by rw [← a7];exact hΦ
     rw [aH,List.append_assoc] at hΦ2
     exact hΦ2.qN
    have mem: ∀ p,p∈still .any ops.toArray k pend→p∈pend∧ ∀ x,x∈Pd→x.1=p.1→x∈cT ops k Pd:=fun p hpm=>by
     unfold still at hpm
     rw [List.mem_filter] at hpm
     exact ⟨hpm.1,fun x hx he=>mC.2 ⟨hx,by rw [he];simpa using hpm.2⟩⟩
    have hBF:=Gm (B:=items ρ' T' ((aJ (fun r=> !(bO r)) st.G++A)++fr.H)++(EVI EV++Φ)) hs8 a9
    have HP':HP ρ' T' fr (aJ (fun r=> !(bO r)) st.G++A) (cT ops k Pd) (still .any ops.toArray k pend) w':=fun p hpm w2 hw hB=>by
     obtain ⟨m1,m2⟩:=mem p hpm
     exact hp p m1 w2 (conv w2 hw) (fun x hx he=>(hB x (m2 x hx he) he).elim (fun h=> .inl ((qb a4 (hpd x hx)).1 h)) (fun h=>by have:=(hBF x (m2 x hx he)).1;rw [h.1] at this;cases this))
    refine bB (Rn (HY fun p hpm=>HP' p hpm w' ⟨EVI EV++Φ,hs8.qN⟩ (fun x hx _=> .inl (hBF x hx))) ?_)
    exact ih a1 a2 a3 hev (fun x hx=>⟨Nat.lt_of_lt_of_le (hpd x (mC.1 hx).1).1 a5,fun u hu=>Nat.lt_of_lt_of_le ((hpd x (mC.1 hx).1).2 u hu) a5⟩) hs8 HP' a10 (fun st2 ρ2 w2 b1 b2 b3 b4=>next st2 ρ2 w2 (a4.trans b1 a5) (Nat.le_trans a5 b2) b3 b4) (fun v st2 ρ2 w2 b1 b2 b3 b4=>pnext v st2 ρ2 w2 (a4.trans b1 a5) (Nat.le_trans a5 b2) b3 b4)
   unfold xd at h
   split at h
   ·rename_i q hq
    subst h
    refine O8 (fr:=frM fr A st) (st:=stM st) h1 hs1 hΓ' htp hq (fun st' ρ' w' a1 a4 a5 a6 a7 a8=>fin T st' ρ' w' a1 h2 hf a4 a5 a6 a7 a8) (fun v st' ρ' w' a1 a2 a3 ae1 ae2 a4=> ?_)
    have a4':Sat (items ρ' T ({ st' with G:=st'.G++(aJ (fun r=> !(bO r)) st.G++A) }:StB).G++(items ρ' T fr.H++(EVI EV++Φ))) w':=by
     have e2:(frM fr A st).H=(aJ (fun r=> !(bO r)) st.G++A)++fr.H:=by rw [List.append_assoc]
     rw [e2,aH,List.append_assoc] at a4
     show Sat (items ρ' T (st'.G++(aJ (fun r=> !(bO r)) st.G++A))++_) w'
     rw [aH,List.append_assoc]
     exact a4
    obtain ⟨st2,k1,k2,_,k3⟩:=HI (fr:=fr) hf a3 a4'
    rw [← List.append_assoc] at k3
    replace k3:=yZ k3
    rw [List.append_assoc] at k3
    have k2':st2.c=st'.c:=k2
    have:=pnext v st2 ρ' w' a1 (by rw [k2'];exact a2) k1 k3
    exact FE this
   ·exact F9 (fr:=frM fr A st) (st:=stM st) (fr0:=fr) (K:=fun T st'=>ifS (pdB st'.G (cT ops k Pd)) (js X tb tp KP ops fr rest (aJ (fun r=> !(bO r)) st.G++A) (cT ops k Pd) T st' K) none) h1 h2 rfl (fun r hr=>List.mem_append_right _ (List.mem_append_right _ hr)) hf hs1 hΓ' htb h fin
  ·cases h
 induction order with
 | nil=>
  intro EV A Pd T st ρ w pend h1 h2 hf hev hpd hs hp h next pnext
  have hΓ': ∀ it∈X.Γ,it∈EVI EV++Φ:=fun it hit=>List.mem_append_right _ (hΓ it hit)
  unfold js at h
  obtain ⟨h3,h4⟩:=an h
  have hs':Sat (items ρ T ({ st with G:=st.G++A }:StB).G++(items ρ T fr.H++(EVI EV++Φ))) w:=by
   show Sat (items ρ T (st.G++A)++_) w
   rw [aH,List.append_assoc]
   rw [aH,List.append_assoc] at hs
   exact hs
  obtain ⟨k1,k2,k3⟩:=uq h3 hf hs'
  rw [← List.append_assoc] at k3
  replace k3:=yZ k3
  rw [List.append_assoc] at k3
  exact PL ((next _ ρ w .refl (by rw [k1];exact Nat.le_refl _) h4 k3).ig _ k2)
 | q k m rest ih=>
  intro EV A Pd T st ρ w pend h1 h2 hf hev hpd hs hp h next pnext
  have hevr:Bt ops rest EV:=fun x hx=>⟨fun j hj=>(hev x hx).1 j (List.mem_cons_of_mem _ hj),(hev x hx).2⟩
  have hΓ': ∀ it∈X.Γ,it∈EVI EV++Φ:=fun it hit=>List.mem_append_right _ (hΓ it hit)
  unfold js at h
  split at h
  ·rename_i o ho
   have hs1:=kV (A:=[]) (p:=bO) hs
   obtain ⟨T',g,hk,so⟩:=Fj (ρ:=ρ) (fr0:=fr) (fr:=frM fr A st) (st:=stM st) h1 h2 rfl (fun r hr=>List.mem_append_right _ (List.mem_append_right _ hr)) hf h
   have hs':Sat (items ρ T' (stM st).G++(items ρ T' (frM fr A st).H++(EVI EV++Φ))) w:=by rw [so.eg,so.eh];exact hs1
   have he:ai ρ T st.E fr.F=ai ρ T' st.E fr.F:=by
    have e1:=so.ee
    have e2:=so.ef
    rw [ai,ai,e1,e2]
   rw [he]
   have e1:aJ (fun r=> !(bO r)) st.G++(A++fr.H)=(aJ (fun r=> !(bO r)) st.G++A)++fr.H:=by rw [List.append_assoc]
   -- from what stands then to what stands now
   have conv0: ∀ w2 Φ',Sat (items ρ T' (aJ (fun r=> !(bO r)) st.G++(A++fr.H))++Φ') w2→ ∃ Φ',Sat (items ρ T (A++fr.H)++Φ') w2:=fun w2 Φ' hΦ=>by
    refine ⟨Φ',?_⟩
    have hΦ2:Sat (items ρ T (aJ (fun r=> !(bO r)) st.G++(A++fr.H))++Φ') w2:=by rw [← so.eh];exact hΦ
    rw [aH,List.append_assoc] at hΦ2
    exact hΦ2.qN
   split at hk
   ·rename_i q hq
    subst hk
    obtain ⟨v,ρ',st',av,Rq,p,k1,k2,k3,k4,k5,k6,k7,k8,k9,k10,k11,k12⟩:=MV (fr:=frM fr A st) (st:=stM st) hs' hq
    have e2:Rq++(aJ (fun r=> !(bO r)) st.G++(A++fr.H))=(Rq++(aJ (fun r=> !(bO r)) st.G++A))++fr.H:=by simp
    refine vo (fr1:=frM fr A st) (st1:=stM st) (J:=BF ρ' p) rfl so ho (fun x hx=>(hev x hx).1 k (List.mem_cons_self ..)) k10 k12 ?_
    have:=ih (A:=Rq++(aJ (fun r=> !(bO r)) st.G++A)) (Pd:=p::Pd) (T:=T') (st:=st') (ρ:=ρ') (w:=w) (pend:=(k,BF ρ' p)::pend) (by rw [k4];exact so.t1.out so.ak g av) so.t2 so.ft hevr (fun x hx=> ?_) (by rw [← e2];exact k8) (fun q hqm w2 hw hB=> ?_) k1 (fun st2 ρ2 w2 b1 b2 b3 b4=>next st2 ρ2 w2 (k2.trans b1 k3) (Nat.le_trans k3 b2) b3 b4) (fun v st2 ρ2 w2 b1 b2 b3 b4=>pnext v st2 ρ2 w2 (k2.trans b1 k3) (Nat.le_trans k3 b2) b3 b4)
    ·rw [k4,lQ,k5,k6] at this
     exact this
    ·rcases List.mem_cons.1 hx with rfl | hx
     ·exact k11
     ·exact ⟨Nat.lt_of_lt_of_le (hpd x hx).1 k3,fun u hu=>Nat.lt_of_lt_of_le ((hpd x hx).2 u hu) k3⟩
    ·rcases List.mem_cons.1 hqm with rfl | hqm
     ·exact (hB p (List.mem_cons_self ..) k9).elim id (fun h=>by have:=k10.1;rw [h.1] at this;cases this)
     ·obtain ⟨Φ',hΦ⟩:=hw
      rw [← e2,aH,List.append_assoc] at hΦ
      have hΦ1:=hΦ.qN
      have hΦ2:Sat (items ρ T' (aJ (fun r=> !(bO r)) st.G++(A++fr.H))++Φ') w2:=by rw [← k7];exact hΦ1
      exact hp q hqm w2 (conv0 w2 Φ' hΦ2) (fun x hx he=>(hB x (List.mem_cons_of_mem _ hx) he).imp (qb k2 (hpd x hx)).1 id)
   ·split at hk
    ·rename_i p hpo
     obtain ⟨lw,hk⟩:=an hk
     obtain ⟨dst,op,ty,pos,af,gd⟩:=o
     unfold O6 at hpo
     split at hpo
     ·rename_i t x d hop hdst
      simp only at hop hdst
      subst hop hdst
      split at hpo
      ·rename_i q off hx
       split at hpo
       ·cases hpo
       split at hpo
       ·rename_i sr hkn
        cases hpo
        obtain ⟨v,hr,hO⟩:=Cl (ty:=ty) (pos:=pos) (af:=af) (gd:=gd) lw hs' hx hk
        obtain ⟨ρ',st',av,k1,k2,k3,k4,k5,k6,k7,k8⟩:=hO
        have hq:q<st.c:=by
         obtain ⟨_,_,l3,l4⟩:=StB.bq.1 lw
         obtain ⟨f1,f2⟩:=aY hkn
         exact R4 f1 f2 l3 l4
        refine vo (fr1:=frM fr A st) (st1:=stM st) (J:=fun w'=>Ext w w') (v:=v) rfl so ho (fun x hx=>(hev x hx).1 k (List.mem_cons_self ..)) (Ext.refl w) (fun w' hw'=>hr w' hw') ?_
        have:=ih (A:=aJ (fun r=> !(bO r)) st.G++A) (Pd:=(k,q,1000000000,[])::Pd) (T:=T') (st:=st') (ρ:=ρ') (w:=w) (pend:=(k,fun w'=>Ext w w')::pend) (by rw [k4];exact so.t1.out so.ak g av) so.t2 so.ft hevr (fun x hx=> ?_) (by rw [← e1];exact k8) (fun q' hqm w2 hw hB=> ?_) k1 (fun st2 ρ2 w2 b1 b2 b3 b4=>next st2 ρ2 w2 (k2.trans b1 k3) (Nat.le_trans k3 b2) b3 b4) (fun v st2 ρ2 w2 b1 b2 b3 b4=>pnext v st2 ρ2 w2 (k2.trans b1 k3) (Nat.le_trans k3 b2) b3 b4)
        ·rw [k4,lQ,k5,k6] at this
         exact this
        ·rcases List.mem_cons.1 hx with rfl | hx
         ·exact ⟨Nat.lt_of_lt_of_le hq k3,fun u hu=>by cases hu⟩
         ·exact ⟨Nat.lt_of_lt_of_le (hpd x hx).1 k3,fun u hu=>Nat.lt_of_lt_of_le ((hpd x hx).2 u hu) k3⟩
        ·obtain ⟨Φ',hΦ⟩:=hw
         rw [← e1] at hΦ
         have hΦ1:Sat (items ρ T' (aJ (fun r=> !(bO r)) st.G++(A++fr.H))++Φ') w2:=by rw [← k7];exact hΦ
         rcases List.mem_cons.1 hqm with rfl | hqm
         ·exact (hB (k,q,1000000000,[]) (List.mem_cons_self ..) rfl).elim (fun h=>by have:=h.1;simp at this) (fun h=>h.2)
         ·exact hp q' hqm w2 (conv0 w2 Φ' hΦ1) (fun x hx he=>(hB x (List.mem_cons_of_mem _ hx) he).imp (qb k2 (hpd x hx)).1 id)
       ·cases hpo
      ·cases hpo
     ·cases hpo
    ·obtain ⟨v,J,hJ,hr,hO⟩:=Kw (fr:=frM fr A st) (st:=stM st) hΓ' so.t1 hs' hk
     obtain ⟨ρ',st',av,k1,k2,k3,k4,k5,k6,k7,k8⟩:=hO
     refine vo (fr1:=frM fr A st) (st1:=stM st) rfl so ho (fun x hx=>(hev x hx).1 k (List.mem_cons_self ..)) (hJ w ⟨EVI EV++Φ,hs'.qN⟩) hr ?_
     have:=ih (A:=aJ (fun r=> !(bO r)) st.G++A) (Pd:=Pd) (T:=T') (st:=st') (ρ:=ρ') (w:=w) (pend:=(k,J)::pend) (by rw [k4];exact so.t1.out so.ak g av) so.t2 so.ft hevr (fun x hx=>⟨Nat.lt_of_lt_of_le (hpd x hx).1 k3,fun u hu=>Nat.lt_of_lt_of_le ((hpd x hx).2 u hu) k3⟩) (by rw [← e1];exact k8) (fun q hqm w2 hw hB=> ?_) k1 (fun st2 ρ2 w2 b1 b2 b3 b4=>next st2 ρ2 w2 (k2.trans b1 k3) (Nat.le_trans k3 b2) b3 b4) (fun v st2 ρ2 w2 b1 b2 b3 b4=>pnext v st2 ρ2 w2 (k2.trans b1 k3) (Nat.le_trans k3 b2) b3 b4)
     ·rw [k4,lQ,k5,k6] at this
      exact this
     ·obtain ⟨Φ',hΦ⟩:=hw
      rw [← e1] at hΦ
      have hΦ1:Sat (items ρ T' (aJ (fun r=> !(bO r)) st.G++(A++fr.H))++Φ') w2:=by rw [← k7];exact hΦ
      rcases List.mem_cons.1 hqm with rfl | hqm
      ·exact hJ w2 ⟨Φ',hΦ1⟩
      ·exact hp q hqm w2 (conv0 w2 Φ' hΦ1) (fun x hx he=>(hB x hx he).imp (qb k2 (hpd x hx)).1 id)
  ·cases h
 | l k m rest ih=>
  intro EV A Pd T st ρ w pend h1 h2 hf hev hpd hs hp h next pnext
  have hΓ': ∀ it∈X.Γ,it∈EVI EV++Φ:=fun it hit=>List.mem_append_right _ (hΓ it hit)
  unfold js at h
  exact loud rest k m (fun {EV A Pd T st ρ w pend}=>ih) h1 h2 hf (fun x hx=>(hev x hx).1 k (List.mem_cons_self ..)) (fun x hx=>⟨fun j hj=>(hev x hx).1 j (List.mem_cons_of_mem _ hj),(hev x hx).2⟩) hpd hs hp h next pnext
 | l2 m k1 r1 k2 r2 ih1 ih2=>
  intro EV A Pd T st ρ w pend h1 h2 hf hev hpd hs hp h next pnext
  have hΓ': ∀ it∈X.Γ,it∈EVI EV++Φ:=fun it hit=>List.mem_append_right _ (hΓ it hit)
  unfold js at h
  obtain ⟨h3,h4⟩:=B1 h
  exact QZ (loud r1 k1 m (fun {EV A Pd T st ρ w pend}=>ih1) h1 h2 hf (fun x hx=>(hev x hx).1 k1 (List.mem_cons_self ..)) (fun x hx=>⟨fun j hj=>(hev x hx).1 j (List.mem_cons_of_mem _ (List.mem_cons_of_mem _ (List.mem_append_left _ hj))),fun j hj=>(hev x hx).2 j (List.mem_append_left _ hj)⟩) hpd hs hp h3 next pnext)
   (loud r2 k2 m (fun {EV A Pd T st ρ w pend}=>ih2) h1 h2 hf (fun x hx=>(hev x hx).1 k2 (List.mem_cons_of_mem _ (List.mem_cons_self ..))) (fun x hx=>⟨fun j hj=>(hev x hx).1 j (List.mem_cons_of_mem _ (List.mem_cons_of_mem _ (List.mem_append_right _ hj))),fun j hj=>(hev x hx).2 j (List.mem_append_right _ hj)⟩) hpd hs hp h4 next pnext)
 | f k m fl fs rest ih=>
  intro EV A Pd T st ρ w₀ pend h1 h2 hf hev hpd hs hp h next pnext
  unfold js at h
  obtain ⟨hc,h⟩:=an h
  simp only [Bool.and_eq_true,List.all_eq_true] at hc
  obtain ⟨hfl,hpd0⟩:=hc
  have hrun: ∀ f∈fl,∃ o p d,ops[f]? =some o∧tw X T (frA fr A) st o=some p∧o.dst=some d∧dU o=true∧Nat.blt d fr.n=true∧cf st.E fr.F d=none∧(∀ t∈o.looksAt ops.toArray,t≠d)∧
    (∀ j∈k::rest.ops,jD ops.toArray j f=true)∧ ∀ j∈fl++rest.fls,j=f∨jD ops.toArray j f=true:=fun f hf=>by
   have:=hfl f hf
   unfold RG at this
   simp only [Bool.and_eq_true,List.all_eq_true,Bool.or_eq_true] at this
   obtain ⟨⟨g1,g2⟩,g3⟩:=this
   split at g1
   ·rename_i o ho
    split at g1
    ·rename_i p d hp hd
     simp only [Bool.and_eq_true,List.all_eq_true] at g1
     obtain ⟨⟨⟨g4,g5⟩,g6⟩,g7⟩:=g1
     refine ⟨o,p,d,ho,hp,hd,g4,g5,?_,fun t ht hc=> ?_,g2,fun j hj=>(g3 j hj).imp Nat.eq_of_beq_eq_true id⟩
     ·split at g6
      ·cases g6
      ·assumption
     ·have:=g7 t ht
      rw [hc] at this
      simp at this
    ·cases g1
   ·cases g1
  have nxp: ∀ (EV:List Flt) (a:Act) (w:World),Ext w₀ w→Bt ops (.f k m fl fs rest) EV→Sat (items ρ T st.G++(items ρ T (A++fr.H)++(EVI EV++Φ))) w→Fits fr.n (ai ρ T st.E fr.F) a→a.defers=D→(∀ x∈EV,ln X.P ops.toArray a x)→
    (∀ f∈fs,f∈EV.map (·.1))→wpOpIn (FW σ) 0 X.P ops.toArray (QN Q) k (fun a' w'=>dN (still .any ops.toArray k pend) w'∧wpD X.P σ ops.toArray (QN Q) rest ((EV.map (·.1)).filter fun f=> !(bJ f fs)) (still .any ops.toArray k pend) a' w') a w:=by
   intro EV a w hx0 hev hs hfit hD hC hall
   obtain ⟨st1,ρ1,k1,k2,k3,k4,k5,k6,k7⟩:=Hl (frx:=frA fr A) h1 hs hfit hC hall h
   have hev': ∀ x∈EV.filter (fun x=> !(bJ x.1 fs)),(∀ j∈k::rest.ops,jD ops.toArray j x.1=true)∧ ∀ j∈rest.fls,j=x.1∨jD ops.toArray j x.1=true:=fun x hx=>
    ⟨(hev x (List.mem_filter.1 hx).1).1,fun j hj=>(hev x (List.mem_filter.1 hx).1).2 j (List.mem_append_right _ hj)⟩
   have HP':HP ρ1 T fr A Pd pend w:=fun p hpm w2 hw hB=>by
    have k6:items ρ1 T (A++fr.H)=items ρ T (A++fr.H):=k6
    rw [k6] at hw
    exact hp p hpm w2 hw (fun x hx he=>(hB x hx he).imp (qb k2 (hpd x hx)).1 (fun h=>⟨h.1,hx0.trans h.2⟩))
   have hl:=loud rest k 0 (fun {EV A Pd T st ρ w pend}=>ih) (EV:=EV.filter fun x=> !(bJ x.1 fs)) (pend:=pend) k4 h2 hf (fun x hx=>(hev' x hx).1 k (List.mem_cons_self ..)) (fun x hx=>⟨fun j hj=>(hev' x hx).1 j (List.mem_cons_of_mem _ hj),(hev' x hx).2⟩)
    (fun x hx=>⟨Nat.lt_of_lt_of_le (hpd x hx).1 k3,fun u hu=>Nat.lt_of_lt_of_le ((hpd x hx).2 u hu) k3⟩) k7 HP' k1 (fun st2 ρ2 w2 b1 b2 b3 b4=>next st2 ρ2 w2 (k2.trans b1 k3) (Nat.le_trans k3 b2) b3 b4) (fun v st2 ρ2 w2 b1 b2 b3 b4=>pnext v st2 ρ2 w2 (k2.trans b1 k3) (Nat.le_trans k3 b2) b3 b4)
   have:=hl a k5 hD (fun x hx=>hC x (List.mem_filter.1 hx).1)
   simp only [wpD] at this
   have e:(EV.map (·.1)).filter (fun f=> !(bJ f fs))=(EV.filter fun x=> !(bJ x.1 fs)).map (·.1):=by
    rw [List.filter_map];rfl
   rw [e]
   split at this
   ·exact this.elim
   ·exact this
  have main: ∀ (nf:Nat) (EV:List Flt) (a:Act) (w:World),Ext w₀ w→Bt ops (.f k m fl fs rest) EV→Sat (items ρ T st.G++(items ρ T (A++fr.H)++(EVI EV++Φ))) w→Fits fr.n (ai ρ T st.E fr.F) a→a.defers=D→(∀ x∈EV,ln X.P ops.toArray a x)→
    wpE X.P σ ops.toArray (QN Q) fl pend (fun ea a w=>(∀ f∈fs,f∈ea)→wpOpIn (FW σ) 0 X.P ops.toArray (QN Q) k (fun a' w'=>dN (still .any ops.toArray k pend) w'∧wpD X.P σ ops.toArray (QN Q) rest (ea.filter fun f=> !(bJ f fs)) (still .any ops.toArray k pend) a' w') a w) nf (EV.map (·.1)) a w:=by
   intro nf
   induction nf with
   | zero=>exact fun EV a w hx0 hev hs hfit hD hC=>nxp EV a w hx0 hev hs hfit hD hC
   | succ nf ihf=>
    intro EV a w hx0 hev hs hfit hD hC
    refine ⟨nxp EV a w hx0 hev hs hfit hD hC,fun f hf' hm=> ?_⟩
    obtain ⟨o,p,d,r1,r2,r3,r4,r5,r6,r7,r8,r9⟩:=hrun f hf'
    obtain ⟨e,vs,cs⟩:=p
    obtain ⟨gn,ns⟩:=PF r2
    have ho':ops.toArray[f]? =some o:=by simpa using r1
    have hR:=E7 (ρ:=ρ) r2 w _ a hfit
    have hw:Region.wanted o (yielded ops.toArray a.tmps)=true:=by simp [Region.wanted,gn]
    have hdn:look (ai ρ T st.E fr.F) d=none:=by rw [dH,r6];rfl
    have hne: ∀ x∈EV,f≠x.1:=fun x hx hc=>by
     have:bJ f (EV.map (·.1))=true:=bL.2 (List.mem_map.2 ⟨x,hx,hc.symm⟩)
     rw [hm] at this;cases this
    have hs1:Sat (box w.heap.size e (AV.ah ρ cs)::(items ρ T st.G++(items ρ T (A++fr.H)++(EVI EV++Φ)))) (w.alloc (.cells (AV.ah ρ cs).toArray e)):=hs.push (cG _ _) (fun b hb=>by
     have:b=w.heap.size:=by simpa [box] using hb
     subst this;simp) (fun _ _=>heap_alloc_new w _)
    have hs2:Sat (items ρ T st.G++(items ρ T (A++fr.H)++(EVI ((f,w.heap.size,e,AV.ah ρ cs)::EV)++Φ))) (w.alloc (.cells (AV.ah ρ cs).toArray e)):=by
     have h0:Sat ([]++box w.heap.size e (AV.ah ρ cs)::((items ρ T st.G++items ρ T (A++fr.H))++(EVI EV++Φ))) (w.alloc (.cells (AV.ah ρ cs).toArray e)):=by
      rw [List.append_assoc];exact hs1
     have:=h0.move
     rw [List.nil_append,List.append_assoc] at this
     exact this
    have hfit':=hfit.R8 hdn (rI o w.heap.size)
    have hflo: ∀ x∈(f,w.heap.size,e,AV.ah ρ cs)::EV,ln X.P ops.toArray (a.put o.dst (rI o w.heap.size)) x:=fun x hx=>by
     rcases List.mem_cons.1 hx with rfl | hx
     ·refine ⟨o,d,w,ho',r3,ns,rfl,?_,?_⟩
      ·rw [r3]
       have hlt:d<a.tmps.size:=by rw [hfit.size];simpa using r5
       show (a.tmps.setIfInBounds d _).getD d undef=_
       simp [Array.getD,hlt]
      ·rw [execOp_put (ops:=ops.toArray) o ns a o.dst _ (fun t ht hc=>r7 t hc (by rw [r3] at ht;exact (Option.some.inj ht).symm))]
       exact hR
     ·refine (hC x hx).put ho' ?_
      rcases (hev x hx).2 f (List.mem_append_left _ hf') with h9 | h9
      ·exact absurd h9 (hne x hx)
      ·exact h9
    unfold wpOpIn
    simp only [ho',hw,if_true]
    refine eY r4 ?_
    rw [hR,Oper.uponIn_value]
    refine ⟨HY fun p hpm=>hp p hpm _ ⟨EVI ((f,w.heap.size,e,AV.ah ρ cs)::EV)++Φ,hs2.qN⟩ (fun x hx _=>(K9 hs2 hpd0 x hx).imp id (fun h=>⟨h,hx0.trans (cG _ _)⟩)),?_⟩
    have:=ihf ((f,w.heap.size,e,AV.ah ρ cs)::EV) (a.put o.dst (rI o w.heap.size)) _ (hx0.trans (cG _ _)) (fun x hx=> ?_) hs2 (by rw [r3];exact hfit') (by rw [eO];exact hD) hflo
    ·exact this
    ·rcases List.mem_cons.1 hx with rfl | hx
     ·exact ⟨r8,r9⟩
     ·exact hev x hx
  intro a hfit hD hC
  simp only [wpD]
  exact main fl.length EV a w₀ (Ext.refl _) hev hs hfit hD hC
end
end Go.Proofs.YtgcgmclghbebjaaGreat
namespace Go.Proofs.YtgcgmclghbebjaaGreat
open Go.Lib
/-! what a piece of code assigns -/
def bu:Code→Nat
 | .region _ ops _=>ops.toList.foldl (fun m o=>match o.dst with | some d=>Nat.lor m (Nat.shiftLeft 1 d) | none=>m) 0
 | .seq a b=>Nat.lor (bu a) (bu b)
 | .cond _ a b=>Nat.lor (bu a) (bu b)
 | .block _ c=>bu c
 | .loop c=>bu c
 | .scope c=>bu c
 | .rangeFunc _ ps a b=>Nat.lor (ps.toList.foldl (fun m d=>Nat.lor m (Nat.shiftLeft 1 d)) 0) (Nat.lor (bu a) (bu b))
 | _=>0
def yD (t:Nat):List (Bool×Nat×Pt)→Bool
 | []=>false
 | x::l=>(!x.1&&Nat.beq x.2.1 t)||yD t l
def mA (m:Nat) (vs:List (Bool×Nat×Pt)) (t:Nat):Bool:= !(Nat.testBit m t)&& !(yD t vs)
def iq (m:Nat) (vs:List (Bool×Nat×Pt)):aj→aj
 | []=>[]
 | x::E=>ifS ( mA m vs x.1 ) ( x::iq m vs E ) ( iq m vs E )
def iQ (m:Nat) (vs:List (Bool×Nat×Pt)):aj→aj
 | []=>[]
 | x::E=>ifS ( mA m vs x.1 ) ( iQ m vs E ) ( x::iQ m vs E )
theorem BY {m:Nat} {vs:List (Bool×Nat×Pt)} {t:Nat}:{E:aj}→aI E t=ifS (mA m vs t) (aI (iq m vs E) t) (aI (iQ m vs E) t)∧aI (ifS (mA m vs t) (iQ m vs E) (iq m vs E)) t=none
 | []=>by cases mA m vs t <;> exact ⟨rfl,rfl⟩
 | (t',g,v)::E=>by
  obtain ⟨ih1,ih2⟩:=BY (m:=m) (vs:=vs) (t:=t) (E:=E)
  cases hb:Nat.beq t' t
  ·rw [cL hb]
   unfold iq iQ
   cases h1:mA m vs t' <;> cases h2:mA m vs t <;> rw [h2] at ih1 ih2 <;> first
    | exact ⟨by rw [cL hb];exact ih1,ih2⟩
    | exact ⟨ih1,by rw [cL hb];exact ih2⟩
    | exact ⟨ih1,ih2⟩
  ·have e:=Nat.eq_of_beq_eq_true hb
   subst e
   rw [ed hb]
   unfold iq iQ
   cases h1:mA m vs t' <;> rw [h1] at ih2
   ·exact ⟨(ed hb).symm,ih2⟩
   ·exact ⟨(ed hb).symm,ih2⟩
theorem JP {m:Nat} {vs:List (Bool×Nat×Pt)} {t:Nat} {E F:aj}:cf (iQ m vs E) (iq m vs E++F) t=cf E F t:=by
 have app: ∀ A B:aj,aI (A++B) t=match aI A t with | some x=>some x | none=>aI B t:=fun A B=>by
  induction A with
  | nil=>rfl
  | cons x A ih=>
   obtain ⟨t',g,v⟩:=x
   cases hb:Nat.beq t' t
   ·rw [List.cons_append,cL hb,cL hb];exact ih
   ·rw [List.cons_append,ed hb,ed hb]
 obtain ⟨h1,h2⟩:=BY (m:=m) (vs:=vs) (t:=t) (E:=E)
 unfold cf
 rw [app]
 cases hk:mA m vs t <;> rw [hk] at h1 h2
 ·rw [show aI (iq m vs E) t=none from h2,h1]
 ·rw [show aI (iQ m vs E) t=none from h2,h1]
  rfl
theorem KN {ρ:Nms} {E E' F F':aj} (h: ∀ t,cf E' F' t=cf E F t):fc (ai ρ [] E' F') (ai ρ [] E F):=fun t p hp=>by
 rw [dH] at hp ⊢
 rw [← h];exact hp
mutual
def AV.ids:AV→List Nat
 | .ptr id _ | .sl id | .adr id _ | .mp id | .nv id | .sfp id _=>[id]
 | .agg l | .tuple l=>AV.FZ l
 | .fn _ a b=>AV.FZ a++AV.FZ b
 | .ifc _ v=>v.ids
 | _=>[]
def AV.FZ:List AV→List Nat
 | []=>[]
 | v::l=>v.ids++AV.FZ l
end
def Ng (res:AV→AV) (ids:List Nat):List Row→List Nat
 | []=>[]
 | r::G=>(match r with
  | .box j _ vs=>ifS (lp j ids) (AV.FZ (vs.map res)) []
  | _=>[])++Ng res ids G
def reach (st:StB) (fr:Fr) (ts:List Nat):List Nat:=
 let a:=(ts.map fun t=>match cf st.E fr.F t with
  | some (_,v)=>v.ids
  | none=>[]).flatten
 let b:=a++Ng (l6 st.G fr.H) a st.G
 b++Ng (l6 st.G fr.H) b st.G
def dw (ids:List Nat) (r:Row):Bool:=lp r.id ids
def gW (ids:List Nat) (c:Nat):List Row→List Row×List Row×Nat
 | []=>([],[],c)
 | r::G=>match r with
  | .box j t vs=>ifS ( lp j ids ) ( match gG c vs with
   | (cs,R,c)=>match gW ids c G with
    | (G,R',c)=>(.box j t cs::G,R++R',c) )<|match gW ids c G with
   | (G,R',c)=>(.box j t vs::G,R',c)
  | r=>match gW ids c G with
   | (G,R',c)=>(r::G,R',c)
def bxs:List Row→List (List AV)
 | []=>[]
 | r::G=>(match r with
  | .box _ _ cs=>cs::bxs G
  | _=>bxs G)
structure OS (c:Nat) (G:List Row) (ρ ρ':Nms) (x:List Row×List Row×Nat):Prop where
 ag:ay c ρ ρ'
 le:c≤x.2.2
 eq:items ρ' [] x.1=items ρ [] G
 lw:aS x.2.2 x.1=true
 rl:aS x.2.2 x.2.1=true
 rp: ∀ r∈x.2.1,(r.item ρ' []).bX=true∧ ∀ M w,(r.item ρ' []).P M w
 bx:(bxs x.1).map (AV.ah ρ')=(bxs G).map (AV.ah ρ)
theorem wB {ρ ρ':Nms} {c:Nat} (ha:ay c ρ ρ'):{G:List Row}→aS c G=true→(bxs G).map (AV.ah ρ')=(bxs G).map (AV.ah ρ)
 | [],_=>rfl
 | r::G,h=>by
  simp only [aS,Bool.and_eq_true] at h
  have ih:=wB ha h.2
  cases r with
  | box j t cs=>
   have h1:=h.1
   simp only [Row.low,Bool.and_eq_true] at h1
   show AV.ah ρ' cs::(bxs G).map (AV.ah ρ')=AV.ah ρ cs::(bxs G).map (AV.ah ρ)
   rw [ih,AV.aZ ha _ h1.2]
  | _=>exact ih
theorem tf {ids:List Nat}:{G:List Row}→{c:Nat}→{ρ:Nms}→aS c G=true→ ∃ ρ',OS c G ρ ρ' (gW ids c G)
 | [],c,ρ,h=>⟨ρ,.refl,Nat.le_refl _,rfl,rfl,rfl,(fun _ h=>by cases h),rfl⟩
 | r::G,c,ρ,h=>by
  simp only [aS,Bool.and_eq_true] at h
  have other:(∀ t cs j,r= .box j t cs→lp j ids=false)→gW ids c (r::G)=(match gW ids c G with | (G,R',c)=>(r::G,R',c))→ ∃ ρ',OS c (r::G) ρ ρ' (gW ids c (r::G)):=fun _ e=>by
   obtain ⟨ρ',l⟩:=tf (ids:=ids) (c:=c) (ρ:=ρ) h.2
   rw [e]
   generalize gW ids c G=L at l
   obtain ⟨G',R,c'⟩:=L
   refine ⟨ρ',l.ag,l.le,?_,?_,l.rl,l.rp,?_⟩
   ·have:=l.eq
    simp only [items,List.map_cons] at this ⊢
    rw [this,Row.pb l.ag h.1]
   ·simp only [aS,Bool.and_eq_true]
    exact ⟨Row.dm l.le h.1,l.lw⟩
   ·have hb:(bxs G').map (AV.ah ρ')=(bxs G).map (AV.ah ρ):=l.bx
    cases r with
    | box j t cs=>
     have h1:=h.1
     simp only [Row.low,Bool.and_eq_true] at h1
     show AV.ah ρ' cs::(bxs G').map (AV.ah ρ')=AV.ah ρ cs::(bxs G).map (AV.ah ρ)
     rw [hb,AV.aZ l.ag _ h1.2]
    | _=>exact hb
  cases r with
  | box j t vs=>
   cases hm:lp j ids
   ·exact other (fun t cs j h=>by cases h;exact hm) (by simp only [gW,hm])
   ·have hr:=h.1
    simp only [Row.low,Bool.and_eq_true,Nat.blt_eq] at hr
    obtain ⟨ρ1,l1⟩:=tT (ρ:=ρ) hr.2
    have e:gW ids c (.box j t vs::G)=(match gG c vs with
     | (cs,R,c)=>match gW ids c G with
      | (G,R',c)=>(.box j t cs::G,R++R',c)):=by simp only [gW,hm]
    rw [e]
    generalize gG c vs=L at l1
    obtain ⟨cs,R,c1⟩:=L
    obtain ⟨ρ2,l2⟩:=tf (ids:=ids) (c:=c1) (ρ:=ρ1) (n7 l1.le h.2)
    dsimp only
    generalize gW ids c1 G=L at l2
    obtain ⟨G',R',c2⟩:=L
    have hle1:c≤c1:=l1.le
    have hle2:c1≤c2:=l2.le
    have hag:ay c ρ ρ2:=l1.ag.trans l2.ag l1.le
    refine ⟨ρ2,hag,Nat.le_trans hle1 hle2,?_,?_,kJ (n7 hle2 l1.rl) l2.rl,?_,?_⟩
    ·have e2:=l2.eq
     simp only [items,List.map_cons,Row.item] at e2 ⊢
     have hlw:AV.bc c1 cs=true:=l1.lw
     have heq:AV.ah ρ1 cs=AV.ah ρ vs:=l1.eq
     rw [e2,hag _ hr.1,AV.aZ l2.ag _ hlw,heq]
     have:=aE (T:=[]) l1.ag h.2
     simp only [items] at this
     rw [this]
    ·simp only [aS,Row.low,Bool.and_eq_true,Nat.blt_eq]
     exact ⟨⟨by omega,AV.fz hle2 _ l1.lw⟩,l2.lw⟩
    ·intro r hr
     rcases List.mem_append.1 hr with hr | hr
     ·have hrl:r.low c1=true:=by
       have key: ∀ {R:List Row},aS c1 R=true→ ∀ r∈R,r.low c1=true:=fun {R}=>by
        induction R with
        | nil=>intro _ r h;cases h
        | cons x R ih=>
         intro h r hr
         simp only [aS,Bool.and_eq_true] at h
         rcases List.mem_cons.1 hr with rfl | hr
         ·exact h.1
         ·exact ih h.2 r hr
       exact key l1.rl r hr
      rw [Row.pb l2.ag hrl]
      exact l1.rp r hr
     ·exact l2.rp r hr
    ·have hb:(bxs G').map (AV.ah ρ2)=(bxs G).map (AV.ah ρ1):=l2.bx
     show AV.ah ρ2 cs::(bxs G').map (AV.ah ρ2)=AV.ah ρ vs::(bxs G).map (AV.ah ρ)
     have hlw:AV.bc c1 cs=true:=l1.lw
     have heq:AV.ah ρ1 cs=AV.ah ρ vs:=l1.eq
     rw [hb,AV.aZ l2.ag _ hlw,heq,wB l1.ag h.2]
  | _=>exact other (fun t cs j h=>by cases h) rfl
end Go.Proofs.YtgcgmclghbebjaaGreat
namespace Go.Proofs.YtgcgmclghbebjaaGreat
open Go.Lib
def ou (E F:aj) (t:Nat):Option AV:=match cf E F t with
 | some (none,v)=>some v
 | _=>none
theorem rQ {ρ:Nms} {E F:aj} {t:Nat} {v:AV} (h:ou E F t=some v):look (ai ρ [] E F) t=some (true,v.val ρ):=by
 unfold ou at h
 split at h
 ·rename_i v' hv
  cases h
  rw [dH,hv]
  simp
 ·cases h
def AI (st:StB) (fr:Fr):List (Bool×Nat×Pt)→List Nat
 | []=>[]
 | x::l=>(ifS x.1 (match cf st.E fr.F x.2.1 with
  | some (_,v)=>v.ids
  | none=>[]) [])++AI st fr l
mutual
def Mw (G H:List Row):Pt→AV→List Nat
 | .own _ _ _,v=>v.ids
 | .mp _ _ _,v=>v.ids
 | .it,v=>v.ids
 | .bx _ _ _ vs,v=>(match v with
  | .ptr j _=>j::xj G H vs (cellsOf G H j)
  | _=>[])
 | .agg l,v=>(match v with
  | .agg vs=>xj G H l vs
  | _=>[])
 | .tup l,v=>(match v with
  | .tuple vs=>xj G H l vs
  | _=>[])
 | .fn _ a b,v=>(match v with
  | .fn _ a' b'=>xj G H a a'++xj G H b b'
  | _=>[])
 | .ifc _ p,v=>(match v with
  | .ifc _ u=>Mw G H p u
  | _=>[])
 | .dat _ o,v=>ifS (o.all (fun x=>x.isNone)) [] v.ids
 | _,_=>[]
def xj (G H:List Row):List Pt→List AV→List Nat
 | [],_=>[]
 | p::l,vs=>(match vs with
  | v::vs=>Mw G H p (l6 G H v)++xj G H l vs
  | []=>[])
end
def Mi (st:StB) (fr:Fr):List (Bool×Nat×Pt)→List Nat
 | []=>[]
 | x::l=>(match cf st.E fr.F x.2.1 with
  | some (_,v)=>Mw st.G fr.H x.2.2 (l6 st.G fr.H v)
  | none=>[])++Mi st fr l
structure En where
 fr:Fr
 E:aj
 G:List Row
 Et:aj
 Gt:List Row
 c:Nat
 fix:Nat→FxA
def N9 (E F:aj) (G:List Row) (t:Nat):FxA:=match cf E F t with
 | some (_,v)=>some (v,match v with
  | .ptr j _=>cellsOf G [] j
  | _=>[])
 | none=>none
def enter (fr:Fr) (tm:Tm) (m:Nat) (st:StB):En:=
 let ids:=Mi st fr tm.vs++reach st fr tm.th
 match gW (AI st fr tm.vs) st.c (aJ (dw ids) st.G) with
 | (Gt,R,c)=>⟨⟨iq m tm.vs st.E++fr.F,(R++aJ (fun r=> !(dw ids r)) st.G)++fr.H,fr.n⟩,iq m tm.vs st.E,R++aJ (fun r=> !(dw ids r)) st.G,iQ m tm.vs st.E,Gt,c,N9 st.E fr.F Gt⟩
structure SC (fr:Fr) (st:StB) (Φ:Ctx) (w:World) (ρ ρ':Nms) (en:En):Prop where
 ag:ay st.c ρ ρ'
 le:st.c≤en.c
 ff:en.fr.F=en.E++fr.F
 fh:en.fr.H=en.G++fr.H
 fn:en.fr.n=fr.n
 lF:aj.low en.c en.fr.F=true
 lH:aS en.c en.fr.H=true
 sub:fc (ai ρ' [] en.Et en.fr.F) (ai ρ [] st.E fr.F)
 sat:Sat (items ρ' [] en.Gt++(items ρ' [] en.fr.H++Φ)) w
 fx: ∀ t q,en.fix t=some q→q.1.low en.c=true∧AV.bc en.c q.2=true
theorem aj.dm {c d:Nat} (hcd:c≤d):{E:aj}→E.low c=true→E.low d=true
 | [],_=>rfl
 | x::E,h=>by
  simp only [aj.low,Bool.and_eq_true] at h ⊢
  exact ⟨AV.dm hcd _ h.1,aj.dm hcd h.2⟩
theorem aj.tE {c:Nat}:{E F:aj}→E.low c=true→F.low c=true→aj.low c (E++F)=true
 | [],_,_,h=>h
 | x::E,F,h,k=>by
  simp only [List.cons_append,aj.low,Bool.and_eq_true] at h ⊢
  exact ⟨h.1,aj.tE h.2 k⟩
theorem tl {c:Nat}:{E:aj}→E.low c=true→{t:Nat}→{x:GK×AV}→aI E t=some x→x.2.low c=true
 | [],_,_,_,h=>by cases h
 | (t',g,v)::E,h,t,x,hx=>by
  simp only [aj.low,Bool.and_eq_true] at h
  cases hb:Nat.beq t' t
  ·rw [cL hb] at hx;exact tl h.2 hx
  ·rw [ed hb] at hx;cases hx;exact h.1
theorem wI {c m:Nat} {vs:List (Bool×Nat×Pt)}:{E:aj}→E.low c=true→(iq m vs E).low c=true
 | [],_=>rfl
 | x::E,h=>by
  simp only [aj.low,Bool.and_eq_true] at h
  unfold iq
  cases mA m vs x.1
  ·exact wI h.2
  ·show aj.low c (x::iq m vs E)=true
   simp only [aj.low,Bool.and_eq_true]
   exact ⟨h.1,wI h.2⟩
theorem wx {c m:Nat} {vs:List (Bool×Nat×Pt)}:{E:aj}→E.low c=true→(iQ m vs E).low c=true
 | [],_=>rfl
 | x::E,h=>by
  simp only [aj.low,Bool.and_eq_true] at h
  unfold iQ
  cases mA m vs x.1
  ·show aj.low c (x::iQ m vs E)=true
   simp only [aj.low,Bool.and_eq_true]
   exact ⟨h.1,wx h.2⟩
  ·exact wx h.2
theorem qZ {c:Nat} {p:Row→Bool}:{G:List Row}→aS c G=true→aS c (aJ p G)=true
 | [],_=>rfl
 | r::G,h=>by
  simp only [aS,Bool.and_eq_true] at h
  unfold aJ
  cases p r
  ·exact qZ h.2
  ·show aS c (r::aJ p G)=true
   simp only [aS,Bool.and_eq_true]
   exact ⟨h.1,qZ h.2⟩
theorem GU {c:Nat} {G:List Row} {j:Nat} (h:aS c G=true):AV.bc c (cellsOf G [] j)=true:=by
 unfold cellsOf
 split
 ·rename_i s j' t cs hf
  obtain ⟨f1,_⟩:=aY hf
  cases s with
  | top i=>
   have:=j3 h (show G[i]? =some _ from f1)
   simp only [Row.low,Bool.and_eq_true] at this
   exact this.2
  | frz i=>have f1:([]:List Row)[i]? =some _:=f1;simp at f1
  | nilI=>exact f1.elim
  | nilO=>exact f1.elim
  | nilM=>exact f1.elim
 ·rfl
theorem NS {c:Nat} {E F:aj} {G:List Row} (hE:E.low c=true) (hF:F.low c=true) (hG:aS c G=true) {t:Nat} {q:AV×List AV} (h:N9 E F G t=some q):q.1.low c=true∧AV.bc c q.2=true:=by
 unfold N9 at h
 split at h
 ·rename_i v hv
  cases h
  refine ⟨?_,?_⟩
  ·unfold cf at hv
   split at hv
   ·rename_i x hx;cases hv;exact tl hE hx
   ·exact tl hF hv
  ·split
   ·exact GU hG
   ·rfl
 ·cases h
theorem nb {fr:Fr} {tm:Tm} {m:Nat} {st:StB} {ρ:Nms} {Φ:Ctx} {w:World} (hl:st.low fr=true) (hs:Sat (items ρ [] st.G++(items ρ [] fr.H++Φ)) w): ∃ ρ',SC fr st Φ w ρ ρ' (enter fr tm m st):=by
 obtain ⟨l1,l2,l3,l4⟩:=StB.bq.1 hl
 unfold enter
 dsimp only
 generalize Mi st fr tm.vs++reach st fr tm.th=ids
 have hs1:=kV (A:=[]) (p:=dw ids) hs
 obtain ⟨ρ',l⟩:=tf (ids:=AI st fr tm.vs) (c:=st.c) (ρ:=ρ) (qZ (p:=dw ids) l3)
 generalize gW (AI st fr tm.vs) st.c (aJ (dw ids) st.G)=L at l
 obtain ⟨Gt,R,c⟩:=L
 have hle:st.c≤c:=l.le
 have hE:=wI (m:=m) (vs:=tm.vs) l1
 have hp:=qZ (p:=fun r=> !(dw ids r)) l3
 refine ⟨ρ',l.ag,hle,rfl,rfl,rfl,?_,?_,?_,?_,fun t q hq=> ?_⟩
 ·exact aj.tE (aj.dm hle hE) (aj.dm hle l2)
 ·exact kJ (kJ l.rl (n7 hle hp)) (n7 hle l4)
 ·have e1:ai ρ' [] (iQ m tm.vs st.E) (iq m tm.vs st.E++fr.F)=ai ρ [] (iQ m tm.vs st.E) (iq m tm.vs st.E++fr.F):=by
   rw [ai,ai,jL l.ag (wx l1),jL l.ag (aj.tE hE l2)]
  show fc (ai ρ' [] (iQ m tm.vs st.E) (iq m tm.vs st.E++fr.F)) _
  rw [e1]
  exact KN fun t=>JP
 ·show Sat (items ρ' [] Gt++(items ρ' [] ((R++aJ (fun r=> !(dw ids r)) st.G)++fr.H)++Φ)) w
  have e1:items ρ' [] Gt=items ρ [] (aJ (dw ids) st.G):=l.eq
  have e2:items ρ' [] (aJ (fun r=> !(dw ids r)) st.G++fr.H)=items ρ [] (aJ (fun r=> !(dw ids r)) st.G++fr.H):=aE l.ag (kJ hp l4)
  rw [List.append_assoc,aH,e1,e2]
  have hs2:Sat (items ρ [] (aJ (dw ids) st.G)++(items ρ [] (aJ (fun r=> !(dw ids r)) st.G++fr.H)++Φ)) w:=by simpa using hs1
  have hadd: ∀ (L:List Item) (A B:Ctx),(∀ it∈L,it.bX=true∧ ∀ M w,it.P M w)→Sat (A++B) w→Sat (A++(L++B)) w:=fun L A B hL h=>by
   have h1:=qt h L (fun it hit=>⟨(hL it hit).1,(hL it hit).2 _ _⟩)
   have mv: ∀ (L:List Item) (A B:Ctx),Sat (L++(A++B)) w→Sat (A++(L++B)) w:=fun L=>by
    induction L with
    | nil=>intro A B h;exact h
    | cons x L ih=>
     intro A B h
     have h2:Sat ([]++x::((L++A)++B)) w:=by simpa using h
     have h3:Sat ([]++((L++A)++x::B)) w:=h2.move
     have h4:Sat (L++(A++x::B)) w:=by simpa using h3
     have h5:Sat (A++(L++x::B)) w:=ih _ _ h4
     have h6:Sat (A++(L++[x]++B)) w:=by simpa using h5
     -- x goes ahead of L
     refine h6.oX (fun j k=>(j<A.length∧k=j)∨(j=A.length∧k=A.length+L.length)∨(A.length<j∧j≤A.length+L.length∧k+1=j)∨(A.length+L.length<j∧k=j)) (fun j jt hj=> ?_) (fun j k q hjk h1 h2=>by omega)
     by_cases c1:j<A.length
     ·rw [List.getElem?_append_left c1] at hj
      exact .inr ⟨j,jt,.inl ⟨c1,rfl⟩,by rw [List.getElem?_append_left c1];exact hj,aX.refl⟩
     ·rw [List.getElem?_append_right (by omega)] at hj
      by_cases c2:j=A.length
      ·subst c2
       simp at hj
       subst hj
       refine .inr ⟨A.length+L.length,x,.inr (.inl ⟨rfl,rfl⟩),?_,aX.refl⟩
       rw [List.getElem?_append_right (by omega)]
       have:A.length+L.length-A.length=L.length:=by omega
       rw [this];simp
      ·have e9:j-A.length=(j-A.length-1)+1:=by omega
       rw [e9,List.cons_append,List.getElem?_cons_succ] at hj
       by_cases c3:j≤A.length+L.length
       ·rw [List.getElem?_append_left (by omega)] at hj
        refine .inr ⟨j-1,jt,.inr (.inr (.inl ⟨by omega,c3,by omega⟩)),?_,aX.refl⟩
        rw [List.getElem?_append_right (by omega),List.append_assoc,List.getElem?_append_left (by omega)]
        rw [show j-1-A.length=j-A.length-1 by omega];exact hj
       ·rw [List.getElem?_append_right (by omega)] at hj
        refine .inr ⟨j,jt,.inr (.inr (.inr ⟨by omega,rfl⟩)),?_,aX.refl⟩
        rw [List.getElem?_append_right (by omega),List.getElem?_append_right (by simp;omega)]
        have:j-A.length-(L++[x]).length=j-A.length-1-L.length:=by simp;omega
        rw [this];exact hj
   exact mv L A B h1
  have:=hadd (items ρ' [] R) (items ρ [] (aJ (dw ids) st.G)) (items ρ [] (aJ (fun r=> !(dw ids r)) st.G++fr.H)++Φ) (fun it hit=>by
   obtain ⟨r,hr,rfl⟩:=List.mem_map.1 hit
   exact l.rp r hr) hs2
  simpa using this
 ·exact NS (aj.dm hle l1) (aj.dm hle l2) l.lw hq
/-! coming backT -/
def AE (G H:List Row) (look:Nat→Option AV) (fix:Nat→FxA):List (Bool×Nat×Pt)→List Nat
 | []=>[]
 | x::l=>(match (ifS x.1 ((fix x.2.1).map (·.1)) (look x.2.1)) with
  | some v=>jZ G H x.2.2 v
  | none=>[])++AE G H look fix l
def Aw (F:aj) (vs:List (Bool×Nat×Pt)):aj→Bool
 | []=>true
 | x::E=>(yD x.1 vs||jX (aI F x.1))&&Aw F vs E
def xD (en:En) (tm:Tm) (E:aj) (G:List Row):List Row:=frz (AE G en.fr.H (ou E en.fr.F) en.fix tm.vs) G
def fX (en:En) (tm:Tm) (E:aj) (G:List Row):Option (Tup (dP tm.vs)):=
 match mtV (xD en tm E G) en.fr.H (ou E en.fr.F) en.fix tm.vs [] with
 | some mr=>ifS (qj (mr.S.map fun x=>bS (xD en tm E G) en.fr.H x.2)&&ltT (xD en tm E G).length (mr.S.map fun x=>bS (xD en tm E G) en.fr.H x.2)&&Aw en.fr.F tm.vs E) (tup _ mr.D) none
 | none=>none
def rowsOf (R:List (Bool×Row)):List Row:=R.map (·.2)
def bz (en:En) (tm:Tm) (s:Tup (dP tm.vs)) (h:HT):StB:=match db (fun n=>en.c+n) en.fix tm.vs 0 (unt _ s) with
 | ⟨E,R,k,_⟩=>⟨en.c+k,E,rowsOf R,h⟩
def dM (en:En) (tm:Tm) (s:Tup (dP tm.vs)) (h:HT):StB:=match db (fun n=>en.c+n) en.fix tm.vs 0 (unt _ s) with
 | ⟨E,R,k,_⟩=>⟨en.c+k,E++en.E,rowsOf R++en.G,h⟩
def qp (en:En) (st:StB):StB:={ st with E:=st.E++en.E,G:=st.G++en.G }
theorem Sat.xz {w:World} {A C:Ctx}: ∀ {B:Ctx},Sat (A++(B++C)) w→Sat (A++C) w
 | [],h=>h
 | _x::B,h=>Sat.xz (B:=B) (Sat.rb h)
theorem B2 {nm:Nat→Nat} {fix:Nat→FxA} {t:Nat}:{l:List (Bool×Nat×Pt)}→{n:Nat}→{D:List Dyn}→yD t l=true→aI (db nm fix l n D).E t≠none
 | [],n,D,h=>by cases h
 | (b,t',p)::l,n,D,h=>by
  unfold db
  dsimp only
  generalize fill nm p (ifS b (fix t') none) none n D=L
  obtain ⟨v,R,k,DD,XX⟩:=L
  dsimp only
  generalize hg:db nm fix l k DD=L2
  obtain ⟨E2,R2,k2,DD2⟩:=L2
  dsimp only
  have ih:yD t l=true→aI E2 t≠none:=fun h'=>by
   have:=B2 (nm:=nm) (fix:=fix) (n:=k) (D:=DD) h'
   rw [hg] at this;exact this
  simp only [yD,Bool.or_eq_true,Bool.and_eq_true] at h
  cases b
  ·show aI ((t',none,v)::E2) t≠none
   cases hb:Nat.beq t' t
   ·rw [cL hb]
    rcases h with ⟨_,h⟩ | h
    ·rw [hb] at h;cases h
    ·exact ih h
   ·rw [ed hb];simp
  ·show aI E2 t≠none
   rcases h with ⟨h,_⟩ | h
   ·cases h
   ·exact ih h
theorem EM {F:aj} {vs:List (Bool×Nat×Pt)} {t:Nat}:{E:aj}→{x:GK×AV}→Aw F vs E=true→aI E t=some x→yD t vs=true∨aI F t=none
 | [],x,_,h=>by cases h
 | (t',g,v)::E,x,hb,h=>by
  simp only [Aw,Bool.and_eq_true,Bool.or_eq_true] at hb
  cases hq:Nat.beq t' t
  ·rw [cL hq] at h;exact EM hb.2 h
  ·have e:=Nat.eq_of_beq_eq_true hq
   subst e
   rcases hb.1 with h1 | h1
   ·exact .inl h1
   ·cases hF:aI F t' with
    | none=>exact .inr rfl
    | some y=>rw [hF] at h1;cases h1
section
variable {en : En} {tm : Tm} {Φ : Ctx} {w : World} {ρ : Nms}
theorem jl {E:aj} {G:List Row} {s:Tup (dP tm.vs)} (lF:aj.low en.c en.fr.F=true) (lH:aS en.c en.fr.H=true) (fx: ∀ t q,en.fix t=some q→q.1.low en.c=true∧AV.bc en.c q.2=true)
  (hs:Sat (items ρ [] G++(items ρ [] en.fr.H++Φ)) w) (h:fX en tm E G=some s):
  ∃ ρ' E' R k D,db (fun n=>en.c+n) en.fix tm.vs 0 (unt _ s)=⟨E',R,k,D⟩∧ay en.c ρ ρ'∧fc (ai ρ' [] E' en.fr.F) (ai ρ [] E en.fr.F)∧Sat (items ρ' [] (rowsOf R)++(items ρ' [] en.fr.H++Φ)) w:=by
 unfold fX at h
 have hs0:=eK (ids:=AE G en.fr.H (ou E en.fr.F) en.fix tm.vs) hs
 change Sat (items ρ [] (xD en tm E G)++_) w at hs0
 generalize xD en tm E G=G' at h hs0
 split at h
 ·rename_i mr hm
  obtain ⟨h1,h2⟩:=an h
  simp only [Bool.and_eq_true] at h1
  obtain ⟨⟨h3,h4⟩,h5⟩:=h1
  obtain ⟨N,I,s1,n1,a1⟩:=Au hs0 tm.vs [] mr [] hm .nil
  rw [← nz _ h2] at s1
  obtain ⟨p1,_⟩:=s9 hs0 a1
  obtain ⟨q1,_⟩:=lK hs0 p1 (lL h3)
  rw [nG h4] at q1
  have q2:=q1.xz
  -- names
  have hag:ay en.c ρ (fun i=>ifS (Nat.blt i en.c) (ρ i) ((N[i-en.c]?).getD nm0)):=fun j hj=>by
   have:Nat.blt j en.c=true:=by simpa using hj
   simp only [this]
  have hnm:mL (fun i=>ifS (Nat.blt i en.c) (ρ i) ((N[i-en.c]?).getD nm0)) (fun n=>en.c+n) 0 N:=fun i a ha=>by
   have:Nat.blt (en.c+i) en.c=false:=by
    cases hb:Nat.blt (en.c+i) en.c
    ·rfl
    ·simp only [Nat.blt_eq] at hb;omega
   simp only [this,show en.c+i-en.c=i by omega,ha,Option.getD_some]
   exact ⟨trivial,trivial,trivial,fun _=>trivial⟩
  generalize (fun i=>ifS (Nat.blt i en.c) (ρ i) ((N[i-en.c]?).getD nm0))=ρ' at hag hnm
  have e1:(fun i=>dB ρ (en.fix i))=fun i=>dB ρ' (en.fix i):=by
   funext i
   cases hq:en.fix i with
   | none=>rfl
   | some q=>
    obtain ⟨k1,k2⟩:=fx i q hq
    show some (q.1.val ρ,AV.ah ρ q.2)=some (q.1.val ρ',AV.ah ρ' q.2)
    rw [AV.gC hag _ k1,AV.aZ hag _ k2]
  rw [e1] at s1
  obtain ⟨b1,b2,b3,b4⟩:=zp (T:=[]) (nm:=fun n=>en.c+n) tm.vs [] (unt _ s) I (cm ρ mr.X) N s1 (E9 hm) hnm (Nat.zero_le _) []
  simp only [List.append_nil,List.length_nil] at b1 b2 b3 b4
  generalize hF:db (fun n=>en.c+n) en.fix tm.vs 0 (unt _ s)=L at b1 b2 b3 b4
  obtain ⟨E',R,k,D⟩:=L
  refine ⟨ρ',E',R,k,D,rfl,hag,fun t p hp=> ?_,?_⟩
  ·rw [dH] at hp
   cases hk:aI E' t with
   | some x=>
    have hk2:look (aj.env ρ' [] E') t=some (Tbl.get [] x.1,x.2.val ρ'):=by rw [lf,hk];rfl
    obtain ⟨c1,c2⟩:=b1 t _ hk2
    have e2:cf E' en.fr.F t=some x:=by unfold cf;rw [hk]
    rw [e2] at hp
    simp only [Option.map_some,Option.some.injEq] at hp
    subst hp
    simp only at c1 c2
    cases hpl:ou E en.fr.F t with
    | none=>rw [hpl] at c2;cases c2
    | some v=>
     rw [hpl] at c2
     simp only [Option.map_some,Option.some.injEq] at c2
     rw [rQ hpl,c1,c2]
   | none=>
    have e2:cf E' en.fr.F t=aI en.fr.F t:=by unfold cf;rw [hk]
    rw [e2] at hp
    cases hFt:aI en.fr.F t with
    | none=>rw [hFt] at hp;cases hp
    | some y=>
     rw [hFt] at hp
     simp only [Option.map_some,Option.some.injEq] at hp
     have hE:aI E t=none:=by
      cases hE:aI E t with
      | none=>rfl
      | some z=>
       rcases EM h5 hE with h6 | h6
       ·have:=B2 (nm:=fun n=>en.c+n) (fix:=en.fix) (n:=0) (D:=unt _ s) h6
        rw [hF] at this
        exact (this hk).elim
       ·rw [hFt] at h6;cases h6
     rw [dH]
     unfold cf
     rw [hE,hFt,← hp]
     simp only [Option.map_some]
     rw [AV.gC hag _ (tl lF hFt)]
  ·have q3:=Sat.leL (A:=[]) (B:=bG I) (C:=items ρ [] en.fr.H++Φ) q2 b4.rw
   rw [aE hag lH]
   exact q3
 ·cases h
end
end Go.Proofs.YtgcgmclghbebjaaGreat
namespace Go.Proofs.YtgcgmclghbebjaaGreat
open Go.Lib
def OO (P:Program) (o:Oper):Bool:=match o.op with
 | .store .. | .alloc _ | .box .. | .buildSlice .. | .makeSlice .. | .makeMap .. | .mapUpdate .. | .insert .. | .range .. | .next .. | .defer _ | .panic _=>true
 | .convert s d _=>isStr P s&& !(isStr P d)
 | .call ⟨.builtin b,_,_⟩=>(match b with
  | .len | .cap | .min | .max | .unsafeSliceData=>false
  | _=>true)
 | .call _=>true
 | _=>false
def JW (q:Bool) (m:Nat):Nat→List (Nat×Bool)→Option Nat
 | _,[]=>none
 | k,x::l=>ifS ( Bu x.2 (!q)&& !(Nat.testBit m k)&&uh x.1 m ) ( some k )<|JW q m (k+1) l
def Ga (l:List (Nat×Bool)):Nat→Nat→OT
 | 0,_=> .nil
 | n+1,m=>match JW true m 0 l with
  | some k=> .q k m (Ga l n (bit m k))
  | none=>match JW false m 0 l with
   | none=> .nil
   | some k=>match JW false m (k+1) (l.drop (k+1)) with
    | none=> .l k m (Ga l n (bit m k))
    | some j=> .l2 m k (Ga l n (bit m k)) j (Ga l n (bit m j))
def Su (o:Oper):Bool:=match o.op,o.guard with
 | .alloc _,none=>true
 | .buildSlice .., none=>true
 | _,_=>false
def Nj (kd m:Nat):Nat→List (Nat×Nat)→Option (Nat×Nat)
 | _,[]=>none
 | k,x::l=>ifS ( Nat.beq x.2 kd&& !(Nat.testBit m k)&&uh x.1 m ) ( some (k,x.1) )<|Nj kd m (k+1) l
def Bz (m:Nat):Nat→List (Nat×Nat)→List Nat
 | _,[]=>[]
 | k,x::l=>ifS ( Nat.beq x.2 2&& !(Nat.testBit m k)&&uh x.1 m ) ( k::Bz m (k+1) l )<|Bz m (k+1) l
def Ot (l:List (Nat×Nat)):Nat→Nat→OT
 | 0,_=> .nil
 | n+1,m=>match Nj 0 m 0 l with
  | some p=> .q p.1 m (Ot l n (bit m p.1))
  | none=>match Nj 1 (eW m (Bz m 0 l)) 0 l with
   | none=> .nil
   | some p=> .f p.1 m (Bz m 0 l) ((Bz m 0 l).filter fun f=>Nat.testBit p.2 f) (Ot l n (bit (eW m ((Bz m 0 l).filter fun f=>Nat.testBit p.2 f)) p.1))
noncomputable def O4 {R:Type} (X:Cx) (tb:List Ent) (tp:List bA) (KP:AV→StB→Option R) (ops:Array Oper) (fr:Fr) (th:List Nat) (t:OT) (st:StB) (K:Go_ R):Option R:=
 ifS ( X.P.follows .mixedOrders&&Eo ops (ops.toList.map fun o=>eV o.after.toList) t ) (
  js X tb tp KP ops.toList fr t (aJ (fun r=> !(dw (reach st fr th) r)) st.G) [] [] { st with G:=aJ (dw (reach st fr th)) st.G } K ) none
def NK (fr:Fr) (st:StB):List Nat→List Nat
 | []=>[]
 | t::th=>ifS (Nat.ble 20000 t) ((match cf st.E fr.F (t-20000) with
  | some (_,v)=>AV.sls v++(match v with
   | .ptr id _=>(match iT (nW id) st.G with
    | some (_,.box _ _ cs)=>((cs.map (l6 st.G fr.H)).map AV.sls).flatten
    | _=>[])
   | _=>[])
  | none=>[])++NK fr st th) (NK fr st th)
def za (fr:Fr) (st:StB) (th:List Nat):StB:=match NK fr st th with
 | []=>st
 | ids=>{ st with G:=frz ids st.G }
theorem Ib {fr:Fr} {st:StB} {th:List Nat} {ρ:Nms} {T:Tbl} {B:Ctx} {w:World} (h:Sat (items ρ T st.G++B) w):
  (za fr st th).c=st.c∧(za fr st th).E=st.E∧Sat (items ρ T (za fr st th).G++B) w:=by
 unfold za
 split
 ·exact ⟨rfl,rfl,h⟩
 ·exact ⟨rfl,rfl,eK h⟩
noncomputable def uz {R:Type} (X:Cx) (tb:List Ent) (tp:List bA) (KP:AV→StB→Option R) (ops:Array Oper) (fr:Fr) (th:List Nat) (st:StB) (K:Go_ R):Option R:=
 O4 X tb tp KP ops fr th (cond (bJ 40000 th) (Ot (ops.toList.map fun o=>(eV o.after.toList,cond (Su o) 2 (cond (OO X.P o) 1 0))) ops.toList.length 0) (Ga (ops.toList.map fun o=>(eV o.after.toList,OO X.P o)) ops.toList.length 0)) (za fr st th) K
abbrev brk {R:Type} (i:Nat) (K:XE→StB→Option R):XE→StB→Option R
 | .ext j,st=>ifS ( Nat.beq j i ) ( K .nrm st ) ( K (.ext j) st )
 | e,st=>K e st
abbrev thn {R:Type} (K1:StB→Option R) (K:XE→StB→Option R):XE→StB→Option R
 | .nrm,st=>K1 st
 | e,st=>K e st
abbrev cnd {R:Type} (b:Bool) (d1 d2:HT→Option R) (h:HT):Option R:=match h with
 | .c p q=>cond b (d1 p) (d2 q)
 | h=>cond b (d1 h) (d2 h)
def Gj (fr:Fr) (st:StB):StB:=match st.h with
 | .r (30000::th) h=>za fr { st with h:=h } th
 | _=>st
theorem PW {fr:Fr} {st:StB} {ρ:Nms} {T:Tbl} {B:Ctx} {w:World} (h:Sat (items ρ T st.G++B) w):
  (Gj fr st).c=st.c∧(Gj fr st).E=st.E∧Sat (items ρ T (Gj fr st).G++B) w:=by
 unfold Gj
 split
 ·rename_i th h' _
  exact Ib (st:={ st with h:=h' }) h
 ·exact ⟨rfl,rfl,h⟩
def Mj (v:AV) (i:Nat):Option (Int×(Int→AV)):=match v with
 | .int k x=>(match i with
  | 0=>some (x,.int k)
  | _=>none)
 | .agg l=>(match i with
  | 0=>none
  | j+1=>(match l[j]? with
   | some (.int k x)=>some (x,fun y=> .agg (l.set j (.int k y)))
   | _=>none))
 | _=>none
theorem Qo {v:AV} {i:Nat} {p:Int×(Int→AV)} (h:Mj v i=some p):p.2 p.1=v:=by
 unfold Mj at h
 split at h
 ·split at h
  ·cases h;rfl
  ·cases h
 ·split at h
  ·cases h
  ·rename_i l j
   split at h
   ·rename_i k x hx
    cases h
    simp only
    congr 1
    obtain ⟨h1,h2⟩:=List.getElem?_eq_some_iff.1 hx
    rw [← h2];exact List.set_getElem_self h1
   ·cases h
 ·cases h
def Dx {R:Type} (F:aj) (t i:Nat) (k:StB→Option R):List Nat→HT→StB→Option R
 | v::vs,h,st=>(match h with
  | .c h hs=>(match cf st.E F t with
   | some (none,av)=>(match Mj av i with
    | some p=>cond (p.1==(v:Int)) (k { st with h:=h,E:=(t,none,p.2 (v:Int))::st.E }) (Dx F t i k vs hs st)
    | none=>none)
   | _=>none)
  | _=>none)
 | [],h,st=>(match h with
  | .n 77777 _=>none
  | h=>k { st with h:=h })
theorem Hw {R:Type} {r:R} {F:aj} {t i:Nat} {k:StB→Option R} {st:StB}: ∀ {vs:List Nat} {h:HT},Dx F t i k vs h st=some r→
  ∃ st',k st'=some r∧st'.c=st.c∧st'.G=st.G∧ ∀ ρ T,fc (ai ρ T st'.E F) (ai ρ T st.E F)
 | [],h,hh=>by
  unfold Dx at hh
  split at hh
  ·cases hh
  ·exact ⟨_,hh,rfl,rfl,fun _ _=> .refl⟩
 | v::vs,h,hh=>by
  unfold Dx at hh
  split at hh
  ·rename_i h1 hs1
   split at hh
   ·rename_i av hav
    split at hh
    ·rename_i p hp
     rcases lu hh with ⟨e,h2⟩ | ⟨_,h2⟩
     ·refine ⟨_,h2,rfl,rfl,fun ρ T u x hx=> ?_⟩
      have e1:p.2 (v:Int)=av:=by rw [← Qo hp,eq_of_beq e]
      have hl:look (ai ρ T st.E F) t=some (true,av.val ρ):=by rw [dH,hav];simp
      show look (ai ρ T st.E F) u=some x
      rw [e1] at hx
      have hx':look ((t,true,av.val ρ)::ai ρ T st.E F) u=some x:=by simpa [ai,aj.env] using hx
      unfold look at hx'
      cases hb:Nat.beq t u
      ·rw [hb] at hx';exact hx'
      ·rw [hb] at hx'
       have:=Nat.eq_of_beq_eq_true hb
       subst this
       rw [hl];exact hx'
     ·exact Hw h2
    ·cases hh
   ·cases hh
  ·cases hh
noncomputable def den {R:Type} (X:Cx) (tb:List Ent) (tp:List bA):Code→Fr→(XE→StB→Option R)→StB→Option R
 | .skip,_,K,st=>K .nrm st
 | .label _,_,K,st=>K .nrm st
 | .exit i,_,K,st=>K (.ext i) st
 | .goto l,_,K,st=>K (.gto l) st
 | .ret,_,K,st=>K .ret st
 | .block i c,fr,K,st=>den X tb tp c fr (brk i K) (Gj fr st)
 | .cond c x y,fr,K,st=>match opA [] st.E fr.F none c with
  | some (.bool b)=>cnd b (fun h=>den X tb tp x fr K { st with h:=h }) (fun h=>den X tb tp y fr K { st with h:=h }) st.h
  | _=>none
 | .seq x y,fr,K,st=>match st.h with
  | .j tm p q=>ifS (st.low fr) (
   al (fun s:Tup (dP tm.vs)=>den X tb tp y fr K (dM (enter fr tm (bu x) st) tm s q)) fun k=>
   den X tb tp x (enter fr tm (bu x) st).fr (thn (fun st'=>match fX (enter fr tm (bu x) st) tm st'.E st'.G with
     | some s=>k s
     | none=>none) (fun e st'=>K e (qp (enter fr tm (bu x) st) st'))) ⟨(enter fr tm (bu x) st).c,(enter fr tm (bu x) st).Et,(enter fr tm (bu x) st).Gt,p⟩ ) none
  | .s h=>den X tb tp x fr (thn (den X tb tp y fr K) K) { st with h:=h }
  | .r (60000::t::i::vs) h=>Dx fr.F t i (fun st=>den X tb tp x fr (thn (den X tb tp y fr K) K) st) vs h st
  | _=>den X tb tp x fr (thn (den X tb tp y fr K) K) st
 | .loop c,fr,K,st=>match st.h with
  | .l tm p=>ifS (st.low fr) (
   match fX (enter fr tm (bu c) st) tm (enter fr tm (bu c) st).Et (enter fr tm (bu c) st).Gt with
   | some s=>aq (fun again s=>den X tb tp c (enter fr tm (bu c) st).fr (thn (fun st'=>match fX (enter fr tm (bu c) st) tm st'.E st'.G with
      | some s=>again s
      | none=>none) (fun e st'=>K e (qp (enter fr tm (bu c) st) st'))) (bz (enter fr tm (bu c) st) tm s p)) X.fl s
   | none=>none ) none
  | .n k h=>aq (fun again st=>den X tb tp c fr (thn again K) st) k { st with h:=h }
  | _=>none
 | .region _ ops false,fr,K,st=>pJ X tb tp (fun v st=>K (.panE v) st) ops.toList fr ops.toList [] st (K .nrm)
 | .region _ ops true,fr,K,st=>match st.h with
  | .r th h=>uz X tb tp (fun v st=>K (.pan v) st) ops fr th { st with h:=h } (K .nrm)
  | _=>uz X tb tp (fun v st=>K (.pan v) st) ops fr [] st (K .nrm)
 | _,_,_,_=>none
def XE.ex:XE→Exit
 | .nrm=> .normal
 | .ret=> .ret
 | .ext i=> .exit i
 | .gto l=> .goto l
 | .pan _=> .goto 0
 | .panE _=> .goto 0
def AtX (Q:aG) (e:XE) (ρ:Nms) (n:Nat) (D:List Deferred) (E:Env) (w:World):Prop:=match e with
 | .pan v=>AtP Q (pan (v.val ρ)) D w
 | .panE v=>At Q (.panic (pan (v.val ρ))) n D E w
 | e=>At Q e.ex n D E w
def fZ {R:Type} (Q:aG) (D:List Deferred) (fr:Fr) (Φ:Ctx) (c0:Nat) (ρ0:Nms) (r:R) (K:XE→StB→Option R):Prop:=
 ∀ e st ρ w,ay c0 ρ0 ρ→c0≤st.c→K e st=some r→Sat (items ρ [] st.G++(items ρ [] fr.H++Φ)) w→AtX Q e ρ fr.n D (ai ρ [] st.E fr.F) w
theorem fZ.less {R:Type} {Q:aG} {D:List Deferred} {fr:Fr} {Φ:Ctx} {c0 c1:Nat} {ρ0 ρ1:Nms} {r:R} {K:XE→StB→Option R} (h:fZ Q D fr Φ c0 ρ0 r K) (ha:ay c0 ρ0 ρ1) (hc:c0≤c1):fZ Q D fr Φ c1 ρ1 r K:=
 fun e st ρ w h1 h2 h3 h4=>h e st ρ w (ha.trans h1 hc) (Nat.le_trans hc h2) h3 h4
section
variable {P : Program} {ρ : Option Nat} {Q : aG} {n : Nat} {D : List Deferred} {E : Env} {w : World}
theorem yG {σ γ τ:Type} {F:(σ→Option τ)→σ→Option τ} {r:τ} (J:σ→γ→World→Prop) (Es:σ→γ→Env) {body:Code}
  {N:Nat} {s0:σ} (hm:aq F N s0=some r) (g0:γ) (h0:J s0 g0 w) (hE:fc (Es s0 g0) E)
  (round: ∀ again s g w,F again s=some r→J s g w→WC P ρ body (Exit.then (o7 again r J Es n D) Q) n D (Es s g) w):
  WC P ρ (.loop body) Q n D E w:=fun a hf hd=>
 sR (fun m=>o7 (aq F m) r J Es n D) N ⟨s0,g0,hm,h0,hf.ig hE,hd⟩ fun m a w ⟨s,g,hs,hJ,hF,hD⟩=>by
  obtain ⟨m',rfl,hs'⟩:=oC hs
  exact wpIn_mono (round (aq F m') s g w hs' hJ a hF hD) fun e a w h=>by
   cases e <;> first | exact h | exact ⟨m',Nat.lt_succ_self _,h⟩
theorem wO {σ γ τ:Type} {again:σ→Option τ} {r:τ} {J:σ→γ→World→Prop} {Es:σ→γ→Env}
  (s:σ) (g:γ) (hm:again s=some r) (hJ:J s g w) (hs:fc (Es s g) E):At (Exit.then (o7 again r J Es n D) Q) .normal n D E w:=
 fun _a hf hd=>⟨s,g,hm,hJ,hf.ig hs,hd⟩
theorem ND {γ:Type} {J:γ→World→Prop} {Es:γ→Env} (g:γ) (hJ:J g w) (hs:fc (Es g) E):At (Exit.then (zu J Es n D) Q) .normal n D E w:=
 fun _a hf hd=>⟨g,hJ,hf.ig hs,hd⟩
theorem dV {K:Act→World→Prop} {e:XE} {ρ:Nms} (hne:e≠ .nrm) (h:AtX Q e ρ n D E w):AtX (Exit.then K Q) e ρ n D E w:=by
 cases e <;> first | exact (hne rfl).elim | exact h
end
section
variable {X : Cx} {tb : List Ent} {tp : List bA} {σ : Option Nat} {D : List Deferred} {R : Type} {r : R} {Φ : Ctx}
theorem yv {Q:aG} {fr:Fr} {c0 i:Nat} {ρ0:Nms} {K:XE→StB→Option R} (h:fZ Q D fr Φ c0 ρ0 r K):fZ (Exit.inBlock i Q) D fr Φ c0 ρ0 r (brk i K):=fun e st ρ w h1 h2 h3 h4=>by
 cases e with
 | nrm=>exact Cn (h .nrm st ρ w h1 h2 h3 h4)
 | ret=>exact I7 (h .ret st ρ w h1 h2 h3 h4)
 | gto l=>exact GH (h (.gto l) st ρ w h1 h2 h3 h4)
 | pan v=>exact Pe (h (.pan v) st ρ w h1 h2 h3 h4)
 | panE v=>exact EH (h (.panE v) st ρ w h1 h2 h3 h4)
 | ext j=>
  unfold brk at h3
  rcases cj h3 with ⟨h5,h6⟩ | ⟨h5,h6⟩
  ·have:=Nat.eq_of_beq_eq_true h5
   subst this
   exact GQ (h .nrm st ρ w h1 h2 h6 h4)
  ·exact Gr h5 (h (.ext j) st ρ w h1 h2 h6 h4)
theorem iJ {K1:StB→Option R} {K:XE→StB→Option R} {e:XE} {st:StB} (hne:e≠ .nrm):thn K1 K e st=K e st:=by
 cases e <;> first | exact (hne rfl).elim | rfl
theorem lR {Q:aG} {fr:Fr} {c0:Nat} {ρ0 ρ1:Nms} {en:En} {K:XE→StB→Option R} (h:fZ Q D fr Φ c0 ρ0 r K) (ag:ay c0 ρ0 ρ1) (le:c0≤en.c) (ff:en.fr.F=en.E++fr.F) (fh:en.fr.H=en.G++fr.H) (fn:en.fr.n=fr.n):
  ∀ e st ρ w,ay en.c ρ1 ρ→en.c≤st.c→K e (qp en st)=some r→Sat (items ρ [] st.G++(items ρ [] en.fr.H++Φ)) w→AtX Q e ρ en.fr.n D (ai ρ [] st.E en.fr.F) w:=fun e st ρ w h1 h2 h3 h4=>by
 have:=h e (qp en st) ρ w (ag.trans h1 le) (Nat.le_trans le h2) h3 (by
  show Sat (items ρ [] (st.G++en.G)++_) w
  rw [fh] at h4
  rw [aH,List.append_assoc]
  rw [aH,List.append_assoc] at h4
  exact h4)
 rw [fn,ff]
 have e1:ai ρ [] st.E (en.E++fr.F)=ai ρ [] (qp en st).E fr.F:=by
  show aj.env ρ [] st.E++aj.env ρ [] (en.E++fr.F)=aj.env ρ [] (st.E++en.E)++aj.env ρ [] fr.F
  rw [jb,jb,List.append_assoc]
 rw [e1];exact this
theorem QA {Q:aG} {fr:Fr} {st:StB} {ρ:Nms} {w:World} {K:XE→StB→Option R} (hΓ: ∀ it∈X.Γ,it∈Φ) (htb: ∀ e∈tb,e.Ok X.P X.Γ) (htp: ∀ e∈tp,e.Ok X.P X.Γ) {id:Nat} {ops:Array Oper} (hs:Sat (items ρ [] st.G++(items ρ [] fr.H++Φ)) w)
  (h:pJ X tb tp (fun v st=>K (.panE v) st) ops.toList fr ops.toList [] st (K .nrm)=some r) (hK:fZ Q D fr Φ st.c ρ r K):WC X.P σ (.region id ops false) Q fr.n D (ai ρ [] st.E fr.F) w:=by
 obtain ⟨l⟩:=ops
 exact aU (Hq hΓ htb htp (fun x h=>by cases h) (fun x h=>by cases h) ⟨fun x _=>rfl,fun x _=>rfl⟩ hs h (fun st' ρ' w' a1 a2 a3 a4=>hK .nrm st' ρ' w' a1 a2 a3 a4) (fun v st' ρ' w' a1 a2 a3 a4=>hK (.panE v) st' ρ' w' a1 a2 a3 a4))
theorem y4 {Q:aG} {fr:Fr} {st:StB} {ρ:Nms} {w:World} {K:XE→StB→Option R} (hΓ: ∀ it∈X.Γ,it∈Φ) (htb: ∀ e∈tb,e.Ok X.P X.Γ) (htp: ∀ e∈tp,e.Ok X.P X.Γ) {id:Nat} {ops:Array Oper} {th:List Nat} (hs:Sat (items ρ [] st.G++(items ρ [] fr.H++Φ)) w)
  (h:uz X tb tp (fun v st=>K (.pan v) st) ops fr th st (K .nrm)=some r) (hK:fZ Q D fr Φ st.c ρ r K):WC X.P σ (.region id ops true) Q fr.n D (ai ρ [] st.E fr.F) w:=by
 obtain ⟨l⟩:=ops
 unfold uz at h
 generalize cond (bJ 40000 th) _ _=t at h
 obtain ⟨z1,z2,hs⟩:=Ib (fr:=fr) (th:=th) hs
 rw [← z1] at hK
 rw [← z2]
 generalize za fr st th=st at h hs hK
 unfold O4 at h
 obtain ⟨h1,h2⟩:=an h
 simp only [Bool.and_eq_true] at h1
 refine mM _ t h1.1 h1.2 (fun w1 hE=> ?_)
 have hs1:=kV (A:=[]) (p:=dw (reach st fr th)) (hs.ext hE)
 exact WDE.wd (Qd (EV:=[]) (st:={ st with G:=aJ (dw (reach st fr th)) st.G }) hΓ htb htp (fun x h=>by cases h) (fun x h=>by cases h) ⟨fun x _=>rfl,fun x _=>rfl⟩ (fun x h=>by cases h) (fun x h=>by cases h) hs1 (fun p h=>by cases h) h2 (fun st' ρ' w' a1 a2 a3 a4=>hK .nrm st' ρ' w' a1 a2 a3 a4) (fun v st' ρ' w' a1 a2 a3 a4=>hK (.pan v) st' ρ' w' a1 a2 a3 a4))
theorem zf {b:Bool} {d1 d2:HT→Option R} {h:HT} (hh:cnd b d1 d2 h=some r): ∃ p q,(b=true→d1 p=some r)∧(b=false→d2 q=some r):=by
 unfold cnd at hh
 split at hh
 ·rename_i p q
  rcases lu hh with ⟨h1,h2⟩ | ⟨h1,h2⟩
  ·exact ⟨p,q,fun _=>h2,fun e=>by rw [h1] at e;cases e⟩
  ·exact ⟨p,q,(fun e=>by rw [h1] at e;cases e),fun _=>h2⟩
 ·rcases lu hh with ⟨h1,h2⟩ | ⟨h1,h2⟩
  ·exact ⟨_,h,fun _=>h2,fun e=>by rw [h1] at e;cases e⟩
  ·exact ⟨h,_,(fun e=>by rw [h1] at e;cases e),fun _=>h2⟩
theorem dj (hΓ: ∀ it∈X.Γ,it∈Φ) (htb: ∀ e∈tb,e.Ok X.P X.Γ) (htp: ∀ e∈tp,e.Ok X.P X.Γ): ∀ (c:Code) {Q:aG} {fr:Fr} {K:XE→StB→Option R} {st:StB} {ρ:Nms} {w:World},Sat (items ρ [] st.G++(items ρ [] fr.H++Φ)) w→
  den X tb tp c fr K st=some r→fZ Q D fr Φ st.c ρ r K→WC X.P σ c Q fr.n D (ai ρ [] st.E fr.F) w
 | .skip,Q,fr,K,st,ρ,w,hs,h,hK=>lC (hK .nrm st ρ w .refl (Nat.le_refl _) (by unfold den at h;exact h) hs)
 | .label _,Q,fr,K,st,ρ,w,hs,h,hK=>FU (hK .nrm st ρ w .refl (Nat.le_refl _) (by unfold den at h;exact h) hs)
 | .exit i,Q,fr,K,st,ρ,w,hs,h,hK=>Bi (hK (.ext i) st ρ w .refl (Nat.le_refl _) (by unfold den at h;exact h) hs)
 | .goto l,Q,fr,K,st,ρ,w,hs,h,hK=>Ic (hK (.gto l) st ρ w .refl (Nat.le_refl _) (by unfold den at h;exact h) hs)
 | .ret,Q,fr,K,st,ρ,w,hs,h,hK=>sK (hK .ret st ρ w .refl (Nat.le_refl _) (by unfold den at h;exact h) hs)
 | .block i c,Q,fr,K,st,ρ,w,hs,h,hK=>by
  obtain ⟨z1,z2,z3⟩:=PW (fr:=fr) hs
  unfold den at h
  rw [← z2]
  rw [← z1] at hK
  exact y9 (dj hΓ htb htp c z3 h (yv hK))
 | .cond c x y,Q,fr,K,st,ρ,w,hs,h,hK=>by
  unfold den at h
  split at h
  ·rename_i b hb
   have hc:=aQ (ρ:=ρ) hb
   simp only [AV.val] at hc
   obtain ⟨p,q,h1,h2⟩:=zf h
   exact gz hc (fun hb=>dj hΓ htb htp x (st:={ st with h:=p }) hs (h1 hb) hK) (fun hb=>dj hΓ htb htp y (st:={ st with h:=q }) hs (h2 hb) hK)
  ·cases h
 | .seq x y,Q,fr,K,st,ρ,w,hs,h,hK=>by
  have plain: ∀ h',den X tb tp x fr (thn (den X tb tp y fr K) K) { st with h:=h' }=some r→WC X.P σ (.seq x y) Q fr.n D (ai ρ [] st.E fr.F) w:=fun h' hd=>by
   refine aV (dj hΓ htb htp x (st:={ st with h:=h' }) hs hd (fun e st' ρ' w' a1 a2 a3 a4=> ?_))
   by_cases he:e= .nrm
   ·subst he
    exact aN (dj hΓ htb htp y a4 a3 (hK.less a1 a2))
   ·rw [iJ he] at a3
    exact dV he (hK e st' ρ' w' a1 a2 a3 a4)
  unfold den at h
  split at h
  ·rename_i tm p q hh
   obtain ⟨hl,h2⟩:=an h
   obtain ⟨ρ1,en⟩:=nb (tm:=tm) (m:=bu x) hl hs
   generalize enter fr tm (bu x) st=E0 at h2 en
   unfold al at h2
   refine IE (γ:=Tup (dP tm.vs)×Nms) (fun g w'=>den X tb tp y fr K (dM E0 tm g.1 q)=some r∧ay E0.c ρ1 g.2∧Sat (items g.2 [] (dM E0 tm g.1 q).G++(items g.2 [] fr.H++Φ)) w') (fun g=>ai g.2 [] (dM E0 tm g.1 q).E fr.F) (fun g w' hg=> ?_) ?_
   ·obtain ⟨g1,g2,g3⟩:=hg
    refine dj hΓ htb htp y g3 g1 (hK.less (en.ag.trans g2 en.le) ?_)
    have:E0.c≤(dM E0 tm g.1 q).c:=by
     unfold dM
     generalize db (fun n=>E0.c+n) E0.fix tm.vs 0 (unt _ g.1)=L
     obtain ⟨a,b,c,d⟩:=L
     exact Nat.le_add_right _ _
    exact Nat.le_trans en.le this
   ·have hx:=dj hΓ htb htp x (fr:=E0.fr) (st:=⟨E0.c,E0.Et,E0.Gt,p⟩) (ρ:=ρ1) (Q:=Exit.then (zu (fun (g:Tup (dP tm.vs)×Nms) w'=>den X tb tp y fr K (dM E0 tm g.1 q)=some r∧ay E0.c ρ1 g.2∧Sat (items g.2 [] (dM E0 tm g.1 q).G++(items g.2 [] fr.H++Φ)) w') (fun g=>ai g.2 [] (dM E0 tm g.1 q).E fr.F) fr.n D) Q) en.sat h2 (fun e st' ρ' w' a1 a2 a3 a4=> ?_)
    ·rw [en.fn] at hx
     exact hx.ig _ en.sub
    ·by_cases he:e= .nrm
     ·subst he
      have a3':(match fX E0 tm st'.E st'.G with | some s=>den X tb tp y fr K (dM E0 tm s q) | none=>none)=some r:=a3
      split at a3'
      ·rename_i s hb
       obtain ⟨ρ2,E',R',k,DD,b1,b2,b3,b4⟩:=jl en.lF en.lH en.fx a4 hb
       have eJ:dM E0 tm s q=⟨E0.c+k,E'++E0.E,rowsOf R'++E0.G,q⟩:=by unfold dM;rw [b1]
       rw [en.fn]
       refine ND (s,ρ2) ⟨a3',a1.trans b2 (Nat.le_refl _),?_⟩ ?_
       ·rw [eJ]
        show Sat (items ρ2 [] (rowsOf R'++E0.G)++_) w'
        rw [aH,List.append_assoc]
        rw [en.fh,aH,List.append_assoc] at b4
        exact b4
       ·rw [eJ]
        show fc (aj.env ρ2 [] (E'++E0.E)++_) _
        rw [en.ff] at b3
        have e2:ai ρ2 [] E' (E0.E++fr.F)=aj.env ρ2 [] (E'++E0.E)++aj.env ρ2 [] fr.F:=by
         show aj.env ρ2 [] E'++aj.env ρ2 [] (E0.E++fr.F)=_
         rw [jb,jb,List.append_assoc]
        rw [← e2,en.ff];exact b3
      ·cases a3'
     ·rw [iJ he] at a3
      have:=lR hK en.ag en.le en.ff en.fh en.fn e st' ρ' w' a1 a2 a3 a4
      exact dV he this
  ·rename_i h' hh;exact plain h' h
  ·obtain ⟨st',k1,k2,k3,k4⟩:=Hw h
   have hs':Sat (items ρ [] st'.G++(items ρ [] fr.H++Φ)) w:=by rw [k3];exact hs
   have hK':fZ Q D fr Φ st'.c ρ r K:=by rw [k2];exact hK
   refine WC.ig _ (k4 ρ []) (aV (dj hΓ htb htp x (st:=st') hs' k1 (fun e st2 ρ' w' a1 a2 a3 a4=> ?_)))
   by_cases he:e= .nrm
   ·subst he
    exact aN (dj hΓ htb htp y a4 a3 (hK'.less a1 a2))
   ·rw [iJ he] at a3
    exact dV he (hK' e st2 ρ' w' a1 a2 a3 a4)
  ·exact plain st.h h
 | .loop c,Q,fr,K,st,ρ,w,hs,h,hK=>by
  unfold den at h
  split at h
  ·rename_i tm p hh
   obtain ⟨hl,h2⟩:=an h
   obtain ⟨ρ1,en⟩:=nb (tm:=tm) (m:=bu c) hl hs
   generalize enter fr tm (bu c) st=E0 at h2 en
   split at h2
   ·rename_i s0 hb0
    obtain ⟨ρ2,E',R',k,DD,b1,b2,b3,b4⟩:=jl en.lF en.lH en.fx en.sat hb0
    have eL: ∀ s E' R' k DD,db (fun n=>E0.c+n) E0.fix tm.vs 0 (unt _ s)=⟨E',R',k,DD⟩→bz E0 tm s p=⟨E0.c+k,E',rowsOf R',p⟩:=fun s E' R' k DD hb=>by unfold bz;rw [hb]
    refine yG (γ:=Nms) (fun s g w'=>ay E0.c ρ1 g∧Sat (items g [] (bz E0 tm s p).G++(items g [] E0.fr.H++Φ)) w') (fun s g=>ai g [] (bz E0 tm s p).E E0.fr.F) h2 ρ2 ⟨b2,?_⟩ ?_ (fun again s g w' hag hJ=> ?_)
    ·rw [eL _ _ _ _ _ b1];exact b4
    ·rw [eL _ _ _ _ _ b1];exact b3.trans en.sub
    ·have hx:=dj hΓ htb htp c (fr:=E0.fr) (st:=bz E0 tm s p) (ρ:=g) (Q:=Exit.then (o7 again r (fun s g w'=>ay E0.c ρ1 g∧Sat (items g [] (bz E0 tm s p).G++(items g [] E0.fr.H++Φ)) w') (fun s g=>ai g [] (bz E0 tm s p).E E0.fr.F) fr.n D) Q) hJ.2 hag (fun e st' ρ' w2 a1 a2 a3 a4=> ?_)
     ·rw [en.fn] at hx;exact hx
     ·have hc:E0.c≤(bz E0 tm s p).c:=by
       unfold bz
       generalize db (fun n=>E0.c+n) E0.fix tm.vs 0 (unt _ s)=L
       obtain ⟨a,b,c,d⟩:=L
       exact Nat.le_add_right _ _
      by_cases he:e= .nrm
      ·subst he
       have a3':(match fX E0 tm st'.E st'.G with | some s=>again s | none=>none)=some r:=a3
       split at a3'
       ·rename_i s' hb
        obtain ⟨ρ3,E2,R2,k2,DD2,d1,d2,d3,d4⟩:=jl en.lF en.lH en.fx a4 hb
        rw [en.fn]
        refine wO s' ρ3 a3' ⟨(hJ.1.trans (a1.less hc) (Nat.le_refl _)).trans d2 (Nat.le_refl _),?_⟩ ?_
        ·rw [eL _ _ _ _ _ d1];exact d4
        ·rw [eL _ _ _ _ _ d1];exact d3
       ·cases a3'
      ·rw [iJ he] at a3
       have:=lR hK en.ag en.le en.ff en.fh en.fn e st' ρ' w2 (hJ.1.trans (a1.less hc) (Nat.le_refl _)) (Nat.le_trans hc a2) a3 a4
       exact dV he this
   ·cases h2
  ·rename_i k h' hh
   refine yG (γ:=Nms) (fun s g w'=>ay st.c ρ g∧st.c≤s.c∧Sat (items g [] s.G++(items g [] fr.H++Φ)) w') (fun s g=>ai g [] s.E fr.F) h ρ ⟨.refl,Nat.le_refl _,hs⟩ .refl (fun again s g w' hag hJ=> ?_)
   refine dj hΓ htb htp c (st:=s) hJ.2.2 hag (fun e st' ρ' w2 a1 a2 a3 a4=> ?_)
   by_cases he:e= .nrm
   ·subst he
    exact wO st' ρ' a3 ⟨hJ.1.trans a1 hJ.2.1,Nat.le_trans hJ.2.1 a2,a4⟩ .refl
   ·rw [iJ he] at a3
    exact dV he (hK e st' ρ' w2 (hJ.1.trans a1 hJ.2.1) (Nat.le_trans hJ.2.1 a2) a3 a4)
  ·cases h
 | .region id ops false,Q,fr,K,st,ρ,w,hs,h,hK=>QA hΓ htb htp hs (by unfold den at h;exact h) hK
 | .region id ops true,Q,fr,K,st,ρ,w,hs,h,hK=>by
  unfold den at h
  split at h
  ·rename_i th h' hh
   exact y4 (st:={ st with h:=h' }) hΓ htb htp hs h hK
  ·exact y4 hΓ htb htp hs h hK
 | .scope _,Q,fr,K,st,ρ,w,hs,h,hK=>by unfold den at h;cases h
 | .rangeFunc _ _ _ _,Q,fr,K,st,ρ,w,hs,h,hK=>by unfold den at h;cases h
end
end Go.Proofs.YtgcgmclghbebjaaGreat
namespace Go.Proofs.YtgcgmclghbebjaaGreat
open Go.Lib
def je (l:Nat):Code→Bool
 | .label j=>j==l
 | .seq x y=>je l x||je l y
 | _=>false
theorem Ph {l:Nat}:(c:Code)→je l c=false→findLabel c l=none:=fun c=>by
 induction c with
 | label j=>
  intro h
  unfold je at h
  unfold findLabel
  rw [h];rfl
 | seq x y ihx ihy=>
  intro h
  simp only [je,Bool.or_eq_false_iff] at h
  simp only [findLabel,ihx h.1,ihy h.2]
 | _=>intro _;rfl
theorem Ec {l:Nat}:(c:Code)→je l c=true→ ∃ r,findLabel c l=some r:=fun c=>by
 induction c with
 | label j=>
  intro h
  unfold je at h
  unfold findLabel
  rw [h];exact ⟨_,rfl⟩
 | seq x y ihx ihy=>
  intro h
  simp only [je,Bool.or_eq_true] at h
  unfold findLabel
  cases hx:findLabel x l with
  | some r=>exact ⟨_,rfl⟩
  | none=>
   rcases h with h | h
   ·obtain ⟨r,hr⟩:=ihx h;rw [hx] at hr;cases hr
   ·exact ihy h
 | _=>intro h;cases h
def lab (P:Program) (ρ:Option Nat) (l:Nat):Code→aG→aG
 | .seq x y,Q=>ifS (je l x) (lab P ρ l x (Exit.then (y.wpIn (FW ρ) 0 P Q) Q)) (lab P ρ l y Q)
 | _,Q=>Q
theorem Mu {P:Program} {ρ:Option Nat} {l:Nat}:(c:Code)→{r:Code}→{Q:aG}→{a:Act}→{w:World}→findLabel c l=some r→lab P ρ l c Q .normal a w→r.wpIn (FW ρ) 0 P Q a w:=fun c=>by
 induction c with
 | label j=>
  intro r Q a w hr h
  unfold findLabel at hr
  split at hr
  ·cases hr;exact wpIn_skip h
  ·cases hr
 | seq x y ihx ihy=>
  intro r Q a w hr h
  unfold lab at h
  unfold findLabel at hr
  cases hx:je l x
  ·rw [hx] at h
   rw [Ph x hx] at hr
   exact ihy hr h
  ·rw [hx] at h
   obtain ⟨r',hr'⟩:=Ec x hx
   rw [hr'] at hr
   cases hr
   exact wpIn_seq (ihx hr' h)
 | _=>intro r Q a w hr h;cases hr
def pC (l:Nat):Code→Nat
 | .seq x y=>ifS (je l x) (Nat.lor (pC l x) (bu y)) (pC l y)
 | _=>0
def oM (st:StB):StB:=match st.h with
 | .s h=>{ st with h:=h }
 | _=>st
abbrev gtk {R:Type} (l:Nat) (A:StB→Option R) (K:XE→StB→Option R):XE→StB→Option R
 | .gto j,st=>ifS (Nat.beq j l) (A st) none
 | e,st=>K e st
noncomputable def xl {R:Type} (X:Cx) (tb:List Ent) (tp:List bA) (l:Nat) (fr:Fr):Code→(XE→StB→Option R)→StB→Option R
 | .seq x y,K,st=>ifS (je l x) (xl X tb tp l fr x (thn (den X tb tp y fr K) K) st) (xl X tb tp l fr y K st)
 | .label _,K,st=>K .nrm st
 | _,_,_=>none
noncomputable def wT {R:Type} (X:Cx) (tb:List Ent) (tp:List bA) (l:Nat) (fr:Fr) (K:XE→StB→Option R) (KL:StB→Option R):Code→StB→Option R
 | .seq x y,st=>ifS (je l x) (wT X tb tp l fr K KL x (oM st)) (den X tb tp x fr (thn (fun st=>wT X tb tp l fr K KL y st) K) (oM st))
 | .label _,st=>KL st
 | _,_=>none
noncomputable def NY {R:Type} (X:Cx) (tb:List Ent) (tp:List bA) (c:Code) (fr:Fr) (K:XE→StB→Option R) (st:StB):Option R:=match st.h with
 | .n l (.j tm p q)=>ifS (je l c) (
   wT X tb tp l fr (gtk l (fun _=>none) K) (fun st1=>ifS (st1.low fr) (
     match fX (enter fr tm (pC l c) st1) tm (enter fr tm (pC l c) st1).Et (enter fr tm (pC l c) st1).Gt with
     | some s=>aq (fun again s=>xl X tb tp l (enter fr tm (pC l c) st1).fr c (gtk l (fun st'=>match fX (enter fr tm (pC l c) st1) tm st'.E st'.G with
       | some s=>again s
       | none=>none) (fun e st'=>K e (qp (enter fr tm (pC l c) st1) st'))) (bz (enter fr tm (pC l c) st1) tm s q)) X.fl s
     | none=>none) none) c { st with h:=p }) none
 | _=>none
section
variable {X : Cx} {tb : List Ent} {tp : List bA} {σ : Option Nat} {D : List Deferred} {R : Type} {r : R} {Φ : Ctx}
theorem Hp {Q:aG} {l n:Nat} {E:Env} {w:World} {e:XE} {ρ:Nms} {J:Act→World→Prop} (hne: ∀ j,e≠ .gto j) (h:AtX Q e ρ n D E w):AtX (Exit.jump l J Q) e ρ n D E w:=by
 cases e <;> first | exact ((hne _) rfl).elim | exact h
theorem MY {l:Nat} (hΓ: ∀ it∈X.Γ,it∈Φ) (htb: ∀ e∈tb,e.Ok X.P X.Γ) (htp: ∀ e∈tp,e.Ok X.P X.Γ): ∀ (c:Code) {Q:aG} {fr:Fr} {K:XE→StB→Option R} {st:StB} {ρ:Nms} {w:World},Sat (items ρ [] st.G++(items ρ [] fr.H++Φ)) w→
  xl X tb tp l fr c K st=some r→fZ Q D fr Φ st.c ρ r K→ ∀ a,Fits fr.n (ai ρ [] st.E fr.F) a→a.defers=D→lab X.P σ l c Q .normal a w:=fun c=>by
 induction c with
 | label j=>intro Q fr K st ρ w hs h hK a hf hd;exact hK .nrm st ρ w .refl (Nat.le_refl _) h hs a hf hd
 | seq x y ihx ihy=>
  intro Q fr K st ρ w hs h hK a hf hd
  unfold xl at h
  unfold lab
  cases hx:je l x
  ·rw [hx] at h
   exact ihy hs h hK a hf hd
  ·rw [hx] at h
   refine ihx (Q:=Exit.then (y.wpIn (FW σ) 0 X.P Q) Q) hs h (fun e st' ρ' w' a1 a2 a3 a4=> ?_) a hf hd
   by_cases he:e= .nrm
   ·subst he
    exact aN (dj hΓ htb htp y a4 a3 (hK.less a1 a2))
   ·rw [iJ he] at a3
    exact dV he (hK e st' ρ' w' a1 a2 a3 a4)
 | _=>intro Q fr K st ρ w hs h;cases h
theorem H5 {st:StB}:(oM st).c=st.c∧(oM st).E=st.E∧(oM st).G=st.G:=by
 unfold oM
 split <;> exact ⟨rfl,rfl,rfl⟩
theorem Lz {l:Nat} (hΓ: ∀ it∈X.Γ,it∈Φ) (htb: ∀ e∈tb,e.Ok X.P X.Γ) (htp: ∀ e∈tp,e.Ok X.P X.Γ) {Q0:aG} {fr:Fr} {K:XE→StB→Option R} {KL:StB→Option R} {c0:Nat} {ρ0:Nms} (hK:fZ Q0 D fr Φ c0 ρ0 r K): ∀ (c:Code) {Q:aG} {st:StB} {ρ:Nms} {w:World},
  (∀ e (E:Env) (ρ:Nms) w,e≠ .nrm→AtX Q0 e ρ fr.n D E w→AtX Q e ρ fr.n D E w)→
  (∀ st1 ρ1 w1,ay c0 ρ0 ρ1→c0≤st1.c→KL st1=some r→Sat (items ρ1 [] st1.G++(items ρ1 [] fr.H++Φ)) w1→ ∀ a,Fits fr.n (ai ρ1 [] st1.E fr.F) a→a.defers=D→lab X.P σ l c Q .normal a w1)→
  je l c=true→ay c0 ρ0 ρ→c0≤st.c→Sat (items ρ [] st.G++(items ρ [] fr.H++Φ)) w→
  wT X tb tp l fr K KL c st=some r→WC X.P σ c Q fr.n D (ai ρ [] st.E fr.F) w:=fun c=>by
 induction c with
 | label j=>intro Q st ρ w hQ hL _ ha hc hs h;exact FU (fun a hf hd=>hL st ρ w ha hc h hs a hf hd)
 | seq x y ihx ihy=>
  intro Q st ρ w hQ hL hh ha hc hs h
  obtain ⟨p1,p2,p3⟩:=H5 (st:=st)
  unfold wT at h
  cases hx:je l x
  ·rw [hx] at h
   simp only [je,hx,Bool.false_or] at hh
   refine aV ?_
   have:=dj (σ:=σ) (D:=D) hΓ htb htp x (fr:=fr) (st:=oM st) (ρ:=ρ) (w:=w) (Q:=Exit.then (y.wpIn (FW σ) 0 X.P Q) Q) (by rw [p3];exact hs) h (fun e st' ρ' w' a1 a2 a3 a4=> ?_)
   ·rw [p2] at this;exact this
   ·rw [p1] at a1 a2
    by_cases he:e= .nrm
    ·subst he
     refine aN (ihy hQ (fun st1 ρ1 w1 b1 b2 b3 b4 a hf hd=> ?_) hh (ha.trans a1 hc) (Nat.le_trans hc a2) a4 a3)
     have:=hL st1 ρ1 w1 b1 b2 b3 b4 a hf hd
     unfold lab at this
     rw [hx] at this
     exact this
    ·rw [iJ he] at a3
     exact dV he (hQ _ _ _ _ he (hK e st' ρ' w' (ha.trans a1 hc) (Nat.le_trans hc a2) a3 a4))
  ·rw [hx] at h
   refine aV ?_
   have:=ihx (Q:=Exit.then (y.wpIn (FW σ) 0 X.P Q) Q) (st:=oM st) (ρ:=ρ) (w:=w) (fun e E ρ w hne he=>dV hne (hQ e E ρ w hne he)) (fun st1 ρ1 w1 b1 b2 b3 b4 a hf hd=> ?_) hx ha (by rw [p1];exact hc) (by rw [p3];exact hs) h
   ·rw [p2] at this;exact this
   ·have:=hL st1 ρ1 w1 b1 b2 b3 b4 a hf hd
    unfold lab at this
    rw [hx] at this
    exact this
 | _=>intro Q st ρ w hQ hL hh;cases hh
theorem Qy {c:Code} {Q:aG} {fr:Fr} {K:XE→StB→Option R} {st:StB} {ρ:Nms} {w:World} (hΓ: ∀ it∈X.Γ,it∈Φ) (htb: ∀ e∈tb,e.Ok X.P X.Γ) (htp: ∀ e∈tp,e.Ok X.P X.Γ) (hs:Sat (items ρ [] st.G++(items ρ [] fr.H++Φ)) w)
  (h:NY X tb tp c fr K st=some r) (hK:fZ Q D fr Φ st.c ρ r K):WC X.P σ (.scope c) Q fr.n D (ai ρ [] st.E fr.F) w:=by
 unfold NY at h
 split at h
 ·rename_i l tm p q hh
  obtain ⟨hlab,h0⟩:=an h
  obtain ⟨rest,hrest⟩:=Ec c hlab
  -- what holds at the label
  let F:En→(Tup (dP tm.vs)→Option R)→Tup (dP tm.vs)→Option R:=fun E0 again s=>xl X tb tp l E0.fr c (gtk l (fun st'=>match fX E0 tm st'.E st'.G with
     | some s=>again s
     | none=>none) (fun e st'=>K e (qp E0 st'))) (bz E0 tm s q)
  let I:Nat→Act→World→Prop:=fun m a w=> ∃ (E0:En) (ρ1:Nms),(E0.fr.F=E0.E++fr.F∧E0.fr.H=E0.G++fr.H∧E0.fr.n=fr.n∧aj.low E0.c E0.fr.F=true∧aS E0.c E0.fr.H=true∧(∀ t q,E0.fix t=some q→q.1.low E0.c=true∧AV.bc E0.c q.2=true))∧ay st.c ρ ρ1∧st.c≤E0.c∧
   o7 (aq (F E0) m) r (fun s (g:Nms) w'=>ay E0.c ρ1 g∧Sat (items g [] (bz E0 tm s q).G++(items g [] E0.fr.H++Φ)) w') (fun s g=>ai g [] (bz E0 tm s q).E E0.fr.F) fr.n D a w
  have at_lab: ∀ m a w,I m a w→lab X.P σ l c (Exit.jump l (fun a' w'=> ∃ m'<m,I m' a' w') Q) .normal a w:=by
   rintro m a w ⟨E0,ρ1,⟨ff,fh,fn,lF,lH,fx⟩,hag,hle,s,g,hm,hJ,hF,hD⟩
   obtain ⟨m',rfl,hm'⟩:=oC hm
   have eL: ∀ s E' R' k DD,db (fun n=>E0.c+n) E0.fix tm.vs 0 (unt _ s)=⟨E',R',k,DD⟩→bz E0 tm s q=⟨E0.c+k,E',rowsOf R',q⟩:=fun s E' R' k DD hb=>by unfold bz;rw [hb]
   have hc:E0.c≤(bz E0 tm s q).c:=by
    unfold bz
    generalize db (fun n=>E0.c+n) E0.fix tm.vs 0 (unt _ s)=L
    obtain ⟨a,b,c,d⟩:=L
    exact Nat.le_add_right _ _
   refine MY (σ:=σ) (D:=D) hΓ htb htp c (fr:=E0.fr) (st:=bz E0 tm s q) (ρ:=g) (Q:=Exit.jump l (fun a' w'=> ∃ m''<m'+1,I m'' a' w') Q) hJ.2 hm' (fun e st' ρ' w2 a1 a2 a3 a4=> ?_) a (by rw [fn];exact hF) hD
   by_cases he: ∃ j,e= .gto j
   ·obtain ⟨j,rfl⟩:=he
    unfold gtk at a3
    obtain ⟨hj,a5⟩:=an a3
    have:=Nat.eq_of_beq_eq_true hj
    subst this
    dsimp only at a5
    split at a5
    ·rename_i s' hb
     obtain ⟨ρ3,E2,R2,k2,DD2,d1,d2,d3,d4⟩:=jl lF lH fx a4 hb
     refine fun a2' hf2 hd2=>⟨rfl,m',Nat.lt_succ_self _,E0,ρ1,⟨ff,fh,fn,lF,lH,fx⟩,hag,hle,s',ρ3,a5,⟨(hJ.1.trans (a1.less hc) (Nat.le_refl _)).trans d2 (Nat.le_refl _),?_⟩,?_,hd2⟩
     ·rw [eL _ _ _ _ _ d1];exact d4
     ·rw [fn] at hf2
      show Fits fr.n (ai ρ3 [] (bz E0 tm s' q).E E0.fr.F) a2'
      rw [eL _ _ _ _ _ d1]
      exact hf2.ig d3
    ·cases a5
   ·have hne: ∀ j,e≠ .gto j:=fun j hj=>he ⟨j,hj⟩
    have a3':K e (qp E0 st')=some r:=by
     cases e <;> first | exact ((hne _) rfl).elim | exact a3
    exact Hp hne (lR hK hag hle ff fh fn e st' ρ' w2 (hJ.1.trans (a1.less hc) (Nat.le_refl _)) (Nat.le_trans hc a2) a3' a4)
  refine fun a hf hd=>q8 l I hrest ?_ (fun m a w hI=>Mu c hrest (at_lab m a w hI))
  -- the way to the label
  have hK':fZ (Exit.jump l (fun a w=> ∃ m,I m a w) Q) D fr Φ st.c ρ r (gtk l (fun _=>none) K):=fun e st1 ρ' w' a1 a2 a3 a4=>by
   by_cases he: ∃ j,e= .gto j
   ·obtain ⟨j,rfl⟩:=he
    unfold gtk at a3
    obtain ⟨_,a5⟩:=an a3
    cases a5
   ·have hne: ∀ j,e≠ .gto j:=fun j hj=>he ⟨j,hj⟩
    have a3':K e st1=some r:=by
     cases e <;> first | exact ((hne _) rfl).elim | exact a3
    exact Hp hne (hK e st1 ρ' w' a1 a2 a3' a4)
  refine Lz (σ:=σ) hΓ htb htp hK' c (Q:=Exit.jump l (fun a w=> ∃ m,I m a w) Q) (st:={ st with h:=p }) (ρ:=ρ) (fun _ _ _ _ _ h=>h) (fun st1 ρ' w' a1 a2 a3 a4 a' hf' hd'=> ?_) hlab .refl (Nat.le_refl _) hs h0 a hf hd
  obtain ⟨hl,h2⟩:=an a3
  obtain ⟨ρ1,en⟩:=nb (tm:=tm) (m:=pC l c) hl a4
  generalize enter fr tm (pC l c) st1=E0 at h2 en
  split at h2
  ·rename_i s0 hb0
   obtain ⟨ρ2,E',R',k,DD,b1,b2,b3,b4⟩:=jl en.lF en.lH en.fx en.sat hb0
   have eL:bz E0 tm s0 q=⟨E0.c+k,E',rowsOf R',q⟩:=by unfold bz;rw [b1]
   have key:I X.fl a' w':=by
    refine ⟨E0,ρ1,⟨en.ff,en.fh,en.fn,en.lF,en.lH,en.fx⟩,a1.trans en.ag a2,Nat.le_trans a2 en.le,s0,ρ2,h2,⟨b2,?_⟩,?_,hd'⟩
    ·rw [eL];exact b4
    ·show Fits fr.n (ai ρ2 [] (bz E0 tm s0 q).E E0.fr.F) a'
     rw [eL];exact hf'.ig (b3.trans en.sub)
   have mono: ∀ (c:Code) (Q1 Q2:aG),(∀ e a w,Q1 e a w→Q2 e a w)→ ∀ a w,lab X.P σ l c Q1 .normal a w→lab X.P σ l c Q2 .normal a w:=fun c=>by
    induction c with
    | seq x y ihx ihy=>
     intro Q1 Q2 hq a w h
     unfold lab at h ⊢
     cases hx:je l x
     ·rw [hx] at h;exact ihy Q1 Q2 hq a w h
     ·rw [hx] at h
      refine ihx _ _ (fun e a w he=> ?_) a w h
      cases e with
      | normal=>exact wpIn_mono he hq
      | _=>exact hq _ _ _ he
    | _=>intro Q1 Q2 hq a w h;exact hq _ _ _ h
   exact mono c _ _ (fun e a w he=>by
    cases e <;> first | exact he | exact ⟨he.1,let ⟨m',_,hI⟩:=he.2;⟨m',hI⟩⟩) a' w' (at_lab X.fl a' w' key)
  ·cases h2
 ·cases h
end
end Go.Proofs.YtgcgmclghbebjaaGreat
