/-
  Own texts for the statement StoreTells, cut down to what it needs: B33, B17, B23, B31, B18, B19, B20, B21, B26. (cut and joined by a program)
-/
import Derived.Test.YtgcgmclghbebjaaGreatStoreTellsA
import Derived.Test.YtgcgmclghbebjaaGreatStoreTellsB
import Derived.Test.YtgcgmclghbebjaaGreatStoreTellsC
namespace Go.Proofs.YtgcgmclghbebjaaGreat
open Go.Lib
abbrev gone {R:Type} (g:GK) (k:Option R):Option R:=match g with
 | none=>k
 | some _=>none
theorem bW {R:Type} {r:R} {g:GK} {k:Option R} (h:gone g k=some r):g=none∧k=some r:=by
 cases g with
 | none=>exact ⟨rfl,h⟩
 | some _=>cases h
def Mw {R:Type} (X:Cx) (T:Tbl) (fr:Fr) (st:StB) (d:Option Tmp) (t:TypeId) (x y:Operand) (K:Go_ R):Option R:=match eI X.P t with
 | some e=>(match qZ X.tys e with
  | some u=>(match tiA X.P e with
   | some z=>(match opA T st.E fr.F none x with
    | some (.sl id)=>(match opA T st.E fr.F none y with
     | some b=>ifS (Nat.beq z.1 u.n') (match mg (frz b.sls st.G) fr.H u b with
      | some ys=>(match cz (frz b.sls st.G) fr.H (jQ id) with
       | some (.top j,.own _ u' e' xs _)=>ifS (Nat.beq e e') (match mg.Dyn.asL u ⟨.l u',xs⟩ with
        | some xs=>K { st with c:=st.c+1,E:=bC d none (.int .i64 ((Nat.min ys.length xs.length:Nat):Int)) st.E,G:=(frz b.sls st.G).set j (.own id u e (oB xs ys) st.c) }
        | none=>none) none
       | _=>none)
      | none=>none) none
     | none=>none)
    | _=>none)
   | none=>none)
  | none=>none)
 | none=>none
def inO (n d:Nat):List (Nat×Nat)→Bool
 | []=>false
 | x::l=>(Nat.beq x.1 n&&Nat.beq x.2 d)||inO n d l
def Np {R:Type} (X:Cx) (T:Tbl) (fr:Fr) (st:StB) (d:Tmp) (t:TypeId) (x:Operand) (hi:Option Operand) (K:Go_ R):Option R:=match eI X.P t with
 | some e=>(match tiA X.P e with
  | some z=>(match opA T st.E fr.F none x with
   | some (.sl id)=>(match hiA T st.E fr.F none hi with
    | some j=>(match cz st.G fr.H (jQ id) with
     | some (.top k,.own _ u e' xs _)=>ifS (Nat.beq z.1 u.n') (chk (fX 0 (j.getD (xs.length:Int)) xs.length) (K { st with c:=st.c+1,E:=bC (some d) none (.sl st.c) st.E,G:=st.G.set k (.own st.c u e' (bd xs 0 (j.getD (xs.length:Int))) st.c) })) none
     | _=>none)
    | none=>none)
   | _=>none)
  | none=>none)
 | none=>none
def R9 {R:Type} (X:Cx) (T:Tbl) (fr:Fr) (st:StB) (d:Tmp) (t:TypeId) (x:Operand) (lo hi mx:Option Operand) (K:Go_ R):Option R:=match lo,hi,mx with
 | none,some y,some y3=>(match X.P.underlying t with
  | some (.array n e)=>(match qZ X.tys e with
   | some u=>(match tiA X.P e with
    | some z=>(match opA T st.E fr.F none x with
     | some (.ptr id 0)=>(match opA T st.E fr.F none y with
      | some (.int _ h)=>(match opA T st.E fr.F none y3 with
       | some (.int _ m)=>(match ki (pR id) st.G with
        | some (j,.box _ _ cs)=>ifS ((h==(n:Int))&&(m==(n:Int))&&Nat.beq z.1 u.n') (match rdL st.G fr.H u n cs with
         | some xs=>K { st with c:=st.c+1,E:=bC (some d) none (.sl st.c) st.E,G:=st.G.set j (.sli none st.c u xs true) }
         | none=>none) none
        | _=>none)
       | _=>none)
      | _=>none)
     | _=>none)
    | none=>none)
   | none=>none)
  | _=>none)
 | _,_,_=>none
def MB (X:Cx) (T:Tbl) (fr:Fr) (st:StB) (d:Tmp) (t:TypeId) (x y:Operand) {R:Type} (K:Go_ R):Option R:=match X.P.underlying t with
 | some (.array n e)=>(match tiA X.P e with
  | some z=>(match opA T st.E fr.F none x with
   | some (.adr id off)=>(match opA T st.E fr.F none y with
    | some (.int _ i)=>HA i z.1 (fun k=>K { st with E:=bC (some d) none (.adr id (off+k)) st.E }) n 0
    | _=>none)
   | some (.ptr id off)=>(match opA T st.E fr.F none y with
    | some (.int _ i)=>HA i z.1 (fun k=>K { st with E:=bC (some d) none (.ptr id (off+k)) st.E }) n 0
    | _=>none)
   | _=>none)
  | none=>none)
 | _=>none
def L4 (P:Program) (t:TypeId) (nm:String):Option (FuncId×Bool):=match P.info? t with
 | some i=>(match i.methods.find? (·.name==nm) with
  | some m=>(match m.path.toList with
   | []=>m.func
   | _=>none)
  | none=>none)
 | none=>none
def Vc:TypeDesc→Bool
 | .pointer _=>true
 | _=>false
def wY (X:Cx) (T:Tbl) (fr:Fr) (st:StB) (g:GK) (t:TypeId) (u:AV) (nm:String):Option (FuncId×AV):=match L4 X.P t nm with
 | some (f,true)=>(match X.P.underlying t with
  | some (.pointer _)=>some (f,u)
  | _=>none)
 | some (f,false)=>(match X.P.underlying t with
  | some (.pointer e)=>(match qc T st.G fr.H g u with
   | some cs=>(match iD X.P e cs with
    | some v=>some (f,v)
    | none=>none)
   | none=>none)
  | some d=>ifS (Vc d) none (some (f,u))
  | none=>none)
 | none=>none
def GR:List Inl→FuncId→Option Inl
 | [],_=>none
 | i::l,f=>match Nat.beq i.f f with
  | true=>some i
  | false=>GR l f
def RK {R:Type} (X:Cx) (T:Tbl) (fr:Fr) (st:StB) (g:GK) (d:Option Tmp) (f:FuncId) (args:List AV) (K:Go_ R) (els:Option R):Option R:=match GR X.inl f with
 | none=>els
 | some i=>(match T with
  | []=>gone g (i.run args fr.H st (fun av st'=>K { st' with E:=bC d none av st.E,h:=st.h }))
  | _::_=>none)
def byT {R:Type} (k:TypeId→Option R) (t:TypeId):List TypeId→Option R
 | []=>none
 | c::cs=>cond (Nat.beq t c) (k c) (byT k t cs)
section
variable {X : Cx} {R : Type} {r : R} {K : Go_ R} {T : Tbl} {fr : Fr} {st : StB} {g : GK} {ρ : Nms} {Φ : Ctx} {w : World} {ty : TypeId} {pos : String} {af : Array Edge} {gd : Option (Nat × Bool)}
theorem JE:{l:List Inl}→{f:FuncId}→{i:Inl}→GR l f=some i→i∈l∧i.f=f
 | [],_,_,h=>by cases h
 | j::l,f,i,h=>by
  unfold GR at h
  split at h
  ·rename_i h1
   cases h;exact ⟨List.mem_cons_self .., Nat.eq_of_beq_eq_true h1⟩
  ·obtain ⟨q1,q2⟩:=JE h;exact ⟨List.mem_cons_of_mem _ q1,q2⟩
theorem Tl {d:Option Tmp} {op:Op} {f:FuncId} {args:List AV} {els:Option R} (hl:st.low fr=true) (hs:Sat (items ρ T st.G++(items ρ T fr.H++Φ)) w)
  (ent:cV X.P f→T.get g=true→ ∀ n act,Fits n (ai ρ T st.E fr.F) act→(execOp act.eval ⟨d,op,ty,pos,af,gd⟩).run X.P w= .ok (.enter f (AV.ah ρ args).toArray) w) (h:RK X T fr st g d f args K els=some r) (hels:els=some r→Ok2 X.P T g (ai ρ T st.E fr.F) ⟨d,op,ty,pos,af,gd⟩ w (aB r K T fr st g d ρ Φ)):
  Ok2 X.P T g (ai ρ T st.E fr.F) ⟨d,op,ty,pos,af,gd⟩ w (aB r K T fr st g d ρ Φ):=by
 unfold RK at h
 split at h
 ·exact hels h
 ·rename_i i hi
  obtain ⟨i1,i2⟩:=JE hi
  subst i2
  obtain ⟨e1,e2⟩:=X.inlOk i i1
  split at h
  ·obtain ⟨rfl,h2⟩:=bW h
   refine .none_ (fun n act hf=> .inr (.inr ⟨i.f,AV.ah ρ args,ent e1 Tbl.get_none n act hf,(e2 r args fr.H st _ ρ Φ w hs h2).mono fun v w' hv=> ?_⟩))
   obtain ⟨ρ',st',av,k1,k2,k3,k4,k5⟩:=hv
   have e3:=aF (T:=[]) k2 (StB.bz.1 hl).2.2.2
   exact aB.new (ρ':=ρ') (st':={ st' with E:=bC d none av st.E,h:=st.h }) hl k1 k2 k3 rfl k4 (by rw [← e3];exact k5)
  ·cases h
theorem Hv {k:TypeId→Option R} {t:TypeId}: ∀ {cs:List TypeId},byT k t cs=some r→k t=some r
 | [],h=>by cases h
 | c::cs,h=>by
  unfold byT at h
  rcases m6 h with ⟨h1,h2⟩ | ⟨_,h2⟩
  ·rw [Nat.eq_of_beq_eq_true h1];exact h2
  ·exact Hv h2
theorem Il {P:Program} {t:TypeId} {nm:String} {q:FuncId×Bool} (h:L4 P t nm=some q):za P t nm q.1 q.2:=by
 unfold L4 at h
 split at h
 ·rename_i i hi
  split at h
  ·rename_i m hm
   split at h
   ·rename_i hp
    unfold za
    rw [hi]
    simp only [Option.bind_some]
    rw [hm]
    simp [hp,h]
   ·cases h
  ·cases h
 ·cases h
theorem Rb {t:TypeId} {u v:AV} {cs:List AV} {G H:List Row} (hs:Sat (items ρ T G++(items ρ T H++Φ)) w) (hc:qc T G H g u=some cs) (h:iD X.P t cs=some v) (hg:T.get g=true):
  ∃ p,u.val ρ= .pointer (some p)∧(loadVar t p).run X.P w= .ok (v.val ρ) w:=by
 obtain ⟨p,hp,hc⟩:=zV hs hc hg
 refine ⟨p,hp,?_⟩
 have h':iD X.P t (cs.drop 0)=some v:=by simpa using h
 obtain ⟨d,n,bytes,z,c1,c2,c3⟩:=kD (ρ:=ρ) h'
 cases hd:gR d
 ·rw [hd] at c3
  simp only [Bool.false_eq_true,if_false] at c3
  exact zi c1 hd (hc.cell0 c3)
 ·unfold iD at h
  rw [c1] at h
  rcases cw h with ⟨_,h2⟩ | ⟨h1,_⟩
  ·split at h2
   ·rename_i q hq
    obtain ⟨n,bytes,z⟩:=q
    obtain ⟨h3,h4⟩:=ao h2
    cases h4
    have hl:n≤cs.length:=Nat.le_of_ble_eq_true h3
    simp only [AV.val]
    refine y8 c1 hd (bH hq) (vs:=AV.ah ρ (cs.take n)) ?_ ?_
    ·have:=hc.sub (us:=AV.ah ρ (cs.take n)) 0 (by
      rw [AV.gH,List.drop_zero,List.length_take,AV.aH,Nat.min_eq_left hl])
     simpa [Addr.add] using this
    ·rw [AV.aH,List.length_take,Nat.min_eq_left hl]
   ·cases h2
  ·rw [hd] at h1;cases h1
theorem H9 {t:TypeId} {u:AV} {nm:String} {q:FuncId×AV} (hs:Sat (items ρ T st.G++(items ρ T fr.H++Φ)) w) (h:wY X T fr st g t u nm=some q):T.get g=true→Reach X.P w t (u.val ρ) nm q.1 (q.2.val ρ):=by
 unfold wY at h
 split at h
 ·rename_i f hf
  have hm:=Il hf
  split at h
  ·rename_i e ht
   cases h
   exact fun _=>Reach.ptr hm ht
  ·cases h
 ·rename_i f hf
  have hm:=Il hf
  split at h
  ·rename_i e ht
   split at h
   ·rename_i cs hc
    split at h
    ·rename_i v hv
     cases h
     intro hg
     obtain ⟨p,hp,hl⟩:=Rb hs hc hv hg
     rw [hp]
     exact Reach.load hm ht hl
    ·cases h
   ·cases h
  ·rename_i d ht
   obtain ⟨h1,h2⟩:=Ak h
   cases h2
   exact fun _=>Reach.val hm ht (fun e he=>by subst he;cases h1)
  ·cases h
 ·cases h
theorem KS {d:Tmp} {t:TypeId} {x y:Operand} (hs:Sat (items ρ T st.G++(items ρ T fr.H++Φ)) w) (h:MB X T fr st d t x y K=some r):
  Okq X.P T none (ai ρ T st.E fr.F) ⟨some d,.indexAddr t x y,ty,pos,af,gd⟩ w (aB r K T fr st none (some d) ρ Φ):=by
 unfold MB at h
 split at h
 ·rename_i n e ht
  split at h
  ·rename_i z hz
   obtain ⟨m,bytes,z⟩:=z
   split at h
   ·rename_i id off hx
    split at h
    ·rename_i k i hy
     obtain ⟨q,_,q2,q3,q4⟩:=y5 h
     have hx':=aT (ρ:=ρ) hx
     have hy':=aT (ρ:=ρ) hy
     simp only [AV.val] at hx' hy'
     refine ⟨.pointer (some (((ρ id).a.add off).add (i.toNat*m))),fun w'=> ?_,?_⟩
     ·rw [Tbl.get_none]
      exact ob (P:=X.P) (w:=w') (dst:=some d) (ty:=ty) (pos:=pos) (af:=af) (gd:=gd) ht (bH hz) hx' hy' (by
       intro _;subst q3;exact jR.2 ⟨by omega,by omega⟩)
     ·refine aB.old (av:= .adr id (off+q*m)) q4 (Nat.le_refl _) rfl ?_ hs
      simp only [AV.val]
      rw [add_add,q3];rfl
    ·cases h
   ·rename_i id off hx
    split at h
    ·rename_i k i hy
     obtain ⟨q,_,q2,q3,q4⟩:=y5 h
     have hx':=aT (ρ:=ρ) hx
     have hy':=aT (ρ:=ρ) hy
     simp only [AV.val] at hx' hy'
     refine ⟨.pointer (some ((⟨(ρ id).b,off,none⟩:Addr).add (i.toNat*m))),fun w'=> ?_,?_⟩
     ·rw [Tbl.get_none]
      exact ob (P:=X.P) (w:=w') (dst:=some d) (ty:=ty) (pos:=pos) (af:=af) (gd:=gd) ht (bH hz) hx' hy' (by
       intro _;subst q3;exact jR.2 ⟨by omega,by omega⟩)
     ·refine aB.old (av:= .ptr id (off+q*m)) q4 (Nat.le_refl _) rfl ?_ hs
      simp only [AV.val]
      rw [add_plain,q3];rfl
    ·cases h
   ·cases h
  ·cases h
 ·cases h
theorem Qx {d:Option Tmp} {t:TypeId} {x y:Operand} (hl:st.low fr=true) (hs:Sat (items ρ T st.G++(items ρ T fr.H++Φ)) w) (h:Mw X T fr st d t x y K=some r):
  Ok2 X.P T none (ai ρ T st.E fr.F) ⟨d,.call ⟨.builtin .copy,#[x,y],#[t,t]⟩,ty,pos,af,gd⟩ w (aB r K T fr st none d ρ Φ):=by
 unfold Mw at h
 split at h
 ·rename_i e he
  split at h
  ·rename_i u hu
   split at h
   ·rename_i z hz
    obtain ⟨n,bytes,z⟩:=z
    split at h
    ·rename_i id hx
     split at h
     ·rename_i b hy
      obtain ⟨h1,h2⟩:=ao h
      have hn:n=u.rep.n:=(Nat.eq_of_beq_eq_true h1).trans u.rR.symm
      have hti:=bH hz
      subst hn
      have hGl:=lO (ids:=b.sls) (StB.bz.1 hl).2.2.1
      replace hs:=fz (ids:=b.sls) hs
      generalize frz b.sls st.G=G at h2 hGl hs
      have hx':=aT (ρ:=ρ) hx
      have hy':=aT (ρ:=ρ) hy
      simp only [AV.val] at hx'
      split at h2
      ·rename_i ys hys
       have hyr:=Av hs hys
       split at h2
       ·rename_i j id' u' e' xs' ver hf
        obtain ⟨h3,h4⟩:=ao h2
        have:=Nat.eq_of_beq_eq_true h3
        subst this
        split at h4
        ·rename_i xs hxs
         obtain ⟨eu,ex⟩:=lC hxs
         subst eu
         simp only at ex
         subst ex
         obtain ⟨f1,f2⟩:=ba hf
         have:id'=id:=Nat.eq_of_beq_eq_true f2
         subst this
         have hi:=dF (ρ:=ρ) (T:=T) (Φ:=items ρ T fr.H++Φ) f1
         obtain ⟨hO,_⟩:=hs.at_ hi
         obtain ⟨w',hr,hC,hsz,hP⟩:=Ps (P:=X.P) (ty:=ty) (w:=w) (t:=t) (bq he) hti hO hyr (fun b hb=>Ctx.gA hi hb)
         have hj:j<G.length:=(List.getElem?_eq_some_iff.1 f1).1
         have hrow:=lU hGl f1
         simp only [Row.low,Bool.and_eq_true,Nat.blt_eq] at hrow
         refine .none_ (aQ.gd (aQ.kT (qb hx' hy' hr) (aB.new (ρ':=ρ.set st.c { nm0 with y:=⟨.l u',oB xs' ys⟩ }) (av:= .int .i64 ((Nat.min ys.length xs'.length:Nat):Int)) hl h4 Nms.aD (Nat.le_succ _) rfl (by simp only [AV.val]) ?_)))
         show Sat (items _ T (G.set j _)++_) _
         rw [du hj,aF Nms.aD hGl]
         refine hs.upd hi hC (fun b hb=> ?_) (fun M' m _=> ?_)
         ·simp only [Row.item,Nms.aD _ hrow.1] at hb
          exact ⟨by rw [hsz];exact hO.lt b hb,.inl hb⟩
         ·simp only [Row.item,Nms.aD _ hrow.1,Nms.aS]
          exact ⟨hP M' m,trivial⟩
        ·cases h4
       ·cases h2
      ·cases h2
     ·cases h
    ·cases h
   ·cases h
  ·cases h
 ·cases h
theorem Qu {d:Tmp} {t:TypeId} {x:Operand} {hi:Option Operand} (hl:st.low fr=true) (hs:Sat (items ρ T st.G++(items ρ T fr.H++Φ)) w) (h:Np X T fr st d t x hi K=some r):
  Ok2 X.P T none (ai ρ T st.E fr.F) ⟨some d,.slice t x none hi none,ty,pos,af,gd⟩ w (aB r K T fr st none (some d) ρ Φ):=by
 have hGl:=(StB.bz.1 hl).2.2.1
 unfold Np at h
 split at h
 ·rename_i e he
  split at h
  ·rename_i z hz
   obtain ⟨n,bytes,z⟩:=z
   split at h
   ·rename_i id hx
    split at h
    ·rename_i j hj
     split at h
     ·rename_i k id' u e' xs ver hf
      obtain ⟨h1,h2⟩:=ao h
      obtain ⟨h3,h4⟩:=fZ h2
      have hn:n=u.rep.n:=(Nat.eq_of_beq_eq_true h1).trans u.rR.symm
      have hti:=bH hz
      subst hn
      obtain ⟨f1,f2⟩:=ba hf
      have:id'=id:=Nat.eq_of_beq_eq_true f2
      subst this
      have hx':=aT (ρ:=ρ) hx
      simp only [AV.val] at hx'
      have hi':=dF (ρ:=ρ) (T:=T) (Φ:=items ρ T fr.H++Φ) f1
      obtain ⟨hO,_⟩:=hs.at_ hi'
      obtain ⟨p,k1,k2⟩:=hO.VV h3
      have hk:k<st.G.length:=(List.getElem?_eq_some_iff.1 f1).1
      have hhi:=Dp (ρ:=ρ) (len:=xs.length) hj
      rw [Tbl.get_none] at hhi
      refine .none_ (aQ.gd (aQ.run (tz (lo:=none) (hi:=hi) (bq he) hti hx' (fun _=>hO.len) rfl hhi (fun _=>k1)) (aB.new (ρ':=ρ.set st.c { nm0 with v:=p,y:=⟨.l u,bd xs 0 (j.getD (xs.length:Int))⟩ }) hl h4 Nms.aD (Nat.le_succ _) rfl (by simp only [AV.val,Nms.aS]) ?_)))
      show Sat (items _ T (st.G.set k _)++_) _
      rw [du hk,aF Nms.aD hGl]
      refine hs.upd hi' ((Ext.refl w).chg _) (fun b hb=> ?_) (fun M' m _=> ?_)
      ·simp only [Row.item,Nms.aS] at hb
       have:=k2.canon.1 b hb
       exact ⟨k2.lt b this,.inl this⟩
      ·simp only [Row.item,Nms.aS]
       exact ⟨k2.canon.2 _ _ (k2.bm (fun _ _=>rfl) m),trivial⟩
     ·cases h
    ·cases h
   ·cases h
  ·cases h
 ·cases h
theorem TP {d:Tmp} {t:TypeId} {x:Operand} {lo hi mx:Option Operand} (hl:st.low fr=true) (hs:Sat (items ρ T st.G++(items ρ T fr.H++Φ)) w) (h:R9 X T fr st d t x lo hi mx K=some r):
  Ok2 X.P T none (ai ρ T st.E fr.F) ⟨some d,.slice t x lo hi mx,ty,pos,af,gd⟩ w (aB r K T fr st none (some d) ρ Φ):=by
 have hGl:=(StB.bz.1 hl).2.2.1
 unfold R9 at h
 split at h
 ·rename_i y y3
  split at h
  ·rename_i n e ht
   split at h
   ·rename_i u hu
    split at h
    ·rename_i z hz
     obtain ⟨m0,bytes,z⟩:=z
     split at h
     ·rename_i id hx
      split at h
      ·rename_i k hh hy
       split at h
       ·rename_i k3 m hy3
        split at h
        ·rename_i j id' bt cs hf
         obtain ⟨h1,h2⟩:=ao h
         simp only [Bool.and_eq_true,beq_iff_eq] at h1
         obtain ⟨⟨rfl,rfl⟩,h3⟩:=h1
         split at h2
         ·rename_i xs hxs
          obtain ⟨f1,f2⟩:=ju hf
          have:id'=id:=Nat.eq_of_beq_eq_true f2
          subst this
          have hx':=aT (ρ:=ρ) hx
          have hy':=aT (ρ:=ρ) hy
          have hy3':=aT (ρ:=ρ) hy3
          simp only [AV.val] at hx' hy' hy3'
          have hi:=dF (ρ:=ρ) (T:=T) (Φ:=items ρ T fr.H++Φ) f1
          have hb:cG w (ρ id').b bt (AV.ah ρ cs):=hs.at_ hi
          obtain ⟨l1,l2⟩:=CD hs n cs xs hxs
          have hj:j<st.G.length:=(List.getElem?_eq_some_iff.1 f1).1
          refine .none_ (aQ.gd (aQ.run (J5 ht (bH hz) hx' hy' hy3') (aB.upd (x:={ nm0 with v:=(some ⟨(ρ id').b,0,none⟩,n,n) }) hl hj h2 (by simp only [AV.val,Nms.aS];rfl) ?_)))
          refine hs.upd hi ((Ext.refl w).chg _) (fun b hb=>by cases hb) (fun M' m hn=> ?_)
          simp only [Row.item,Nms.aS]
          exact fun _=>⟨SRd.fresh hb (hn _ (by simp [Row.item,box]) (fun hb=>by cases hb)) l1 (l2.mv m),fun _=>l1.symm⟩
         ·cases h2
        ·cases h
       ·cases h
      ·cases h
     ·cases h
    ·cases h
   ·cases h
  ·cases h
 ·cases h
end
end Go.Proofs.YtgcgmclghbebjaaGreat
namespace Go.Proofs.YtgcgmclghbebjaaGreat
open Go.Lib
def NY {R:Type} (X:Cx) (T:Tbl) (fr:Fr) (st:StB) (t:TypeId) (x y:Operand) (K:Go_ R):Option R:=match opA T st.E fr.F none x with
 | some (.ptr id off)=>(match opA T st.E fr.F none y with
  | some v=>HI X.P st t id off v K
  | none=>none)
 | some (.adr q off)=>(match opA T st.E fr.F none y with
  | some v=>IQ X.P fr st t q off v K
  | none=>none)
 | _=>none
def SE {R:Type} (X:Cx) (T:Tbl) (fr:Fr) (st:StB) (g:GK) (d:Tmp) (t:TypeId) (x:Operand) (K:Go_ R):Option R:=match opA T st.E fr.F g x with
 | some (.adr q off)=>CC X T fr st g d t q off K
 | _=>none
def Vs {R:Type} (X:Cx) (T:Tbl) (fr:Fr) (st:StB) (g:GK) (b:Builtin) (d:Option Tmp) (xs:List Operand) (ts:List TypeId) (K:Go_ R):Option R:=match b,xs,ts,d with
 | .append,[x,y],[t,u],some d=>gone g (ifS (Nat.beq t u) (PH X T fr st d t x y K) (Lp X T fr st d t u x y K))
 | .unsafeSliceData,[x],_,some d=>gone g (GS T fr st d x K)
 | .unsafeString,[x,y],[pt,_],some d=>gone g (M6 X T fr st d pt x y K)
 | .copy,[x,y],[t,u],d=>gone g (ifS (Nat.beq t u) (Mw X T fr st d t x y K) none)
 | _,_,_,_=>none
def QA {R:Type} (X:Cx) (tb:List Ent) (T:Tbl) (fr:Fr) (st:StB) (g:GK) (d:Option Tmp) (c:Callee) (xs:List Operand) (ts:List TypeId) (K:Go_ R):Option R:=match c with
 | .builtin b=>Vs X T fr st g b d xs ts K
 | .value fo=>(match opA T st.E fr.F g fo with
  | some (.fn f a b)=>(match my T st.E fr.F g xs with
   | some vs=>RK X T fr st g d f (a++vs++b) K (oD T fr st g d f (a++vs++b) K tb)
   | none=>none)
  | some (.raw (.func (.methodOf it nm) ⟨[]⟩ ⟨[]⟩))=>(match X.P.underlying it with
   | some dI=>ifS (fk dI) (match my T st.E fr.F g xs with
    | some (.ifc t u::vs)=>byT (fun c=>match wY X T fr st g c u nm with
     | some q=>oD T fr st g d q.1 (q.2::vs) K tb
     | none=>none) t X.ks
    | _=>none) none
   | none=>none)
  | _=>none)
 | .invoke rc nm=>(match opA T st.E fr.F g rc with
  | some (.ifc t u)=>(match my T st.E fr.F g xs with
   | some vs=>(match u with
    | .agg []=>byT (fun c=>match wY X T fr st g c u nm with
     | some q=>oD T fr st g d q.1 (q.2::vs) K tb
     | none=>none) t X.ks
    | _=>(match wY X T fr st g t u nm with
     | some q=>oD T fr st g d q.1 (q.2::vs) K tb
     | none=>none))
   | none=>none)
  | _=>none)
noncomputable def opN {R:Type} (X:Cx) (tb:List Ent) (T:Tbl) (fr:Fr) (st:StB) (g:GK) (op:Op) (dst:Option Tmp) (K:Go_ R):Option R:=match op,dst with
 | .indexAddr t x y,some d=>(match eI X.P t with
  | some _=>No X T fr st g d t x y K
  | none=>(match opA T st.E fr.F g x with
   | some (.gp _)=>GI X T fr st g d t x y K
   | _=>gone g (MB X T fr st d t x y K)))
 | .slice t x lo hi mx,some d=>(match eI X.P t with
  | some _=>(match lo,mx with
   | none,none=>ifS (inO fr.n d X.oc) (gone g (Np X T fr st d t x hi K)) (IB X T fr st g d t x none hi none K)
   | lo,mx=>IB X T fr st g d t x lo hi mx K)
  | none=>(match opA T st.E fr.F g x with
   | some (.gp _)=>gone g (PQ X T fr st d t x lo hi mx K)
   | _=>gone g (R9 X T fr st d t x lo hi mx K)))
 | .alloc t,some d=>gone g (Jl X st d t K)
 | .box t x,some d=>gone g (QM T fr st d t x K)
 | .store t x y,none=>gone g (NY X T fr st t x y K)
 | .load t x,some d=>SE X T fr st g d t x K
 | .buildSlice t n ps,some d=>PT X T fr st g d t n ps.toList K
 | .makeSlice t x y,some d=>gone g (LG X T fr st d t x y K)
 | .makeMap t none,some d=>gone g (MH X st d t K)
 | .mapUpdate t x y z,none=>gone g (Ln X T fr st t x y z K)
 | .range t x,some d=>gone g (Rt X T fr st d t x K)
 | .next x true,some d=>gone g (RN T fr st d x K)
 | .convert s dt x,some d=>Rj X T fr st g d s dt x K
 | .binOp op t x y _,some d=>gone g (P5 X T fr st d op t x y K)
 | .call c,d=>QA X tb T fr st g d c.callee c.args.toList c.argTypes.toList K
 | _,_=>none
noncomputable def opD {R:Type} (X:Cx) (tb:List Ent) (T:Tbl) (fr:Fr) (st:StB) (g:GK) (o:Oper) (K:Go_ R):Option R:=
 match LB X T st.E fr.F g o.op with
 | some cv=>xx cv.1 (g.map fun _=>T.get g) (K { st with E:=bC o.dst g cv.2 st.E })
 | none=>match Ni X T st.E fr.F st.G fr.H g o.op with
  | some cv=>xx cv.1 (g.map fun _=>T.get g) (K { st with E:=bC o.dst g cv.2 st.E })
  | none=>ifS (st.low fr) (opN X tb T fr st g o.op o.dst K) none
section
variable {X : Cx} {tb : List Ent} {R : Type} {r : R} {K : Go_ R} {T : Tbl} {fr : Fr} {st : StB} {g : GK} {ρ : Nms} {Φ : Ctx} {w : World} {ty : TypeId} {pos : String} {af : Array Edge} {gd : Option (Nat × Bool)}
theorem qo {d:Option Tmp} {op:Op} {f:FuncId} {args:List AV} (hl:st.low fr=true) (hs:Sat (items ρ T st.G++(items ρ T fr.H++Φ)) w) (hΓ: ∀ it∈X.Γ,it∈Φ)
  (ent:cV X.P f→T.get g=true→ ∀ n act,Fits n (ai ρ T st.E fr.F) act→(execOp act.eval ⟨d,op,ty,pos,af,gd⟩).run X.P w= .ok (.enter f (AV.ah ρ args).toArray) w): ∀ {tb:List Ent},(∀ e∈tb,e.Ok X.P X.Γ)→oD T fr st g d f args K tb=some r→
  Ok2 X.P T g (ai ρ T st.E fr.F) ⟨d,op,ty,pos,af,gd⟩ w (aB r K T fr st g d ρ Φ)
 | [],_,h=>by cases h
 | e::tb,htb,h=>by
  unfold oD at h
  rcases cw h with ⟨h1,h2⟩ | ⟨_,h2⟩
  ·split at h2
   ·rename_i r' hr'
    subst h2
    have:=Nat.eq_of_beq_eq_true h1
    subst this
    have he:=htb e (List.mem_cons_self ..)
    exact N7 hl hs he hΓ (ent he.1) hr'
   ·exact qo hl hs hΓ ent (fun e he=>htb e (List.mem_cons_of_mem _ he)) h2
  ·exact qo hl hs hΓ ent (fun e he=>htb e (List.mem_cons_of_mem _ he)) h2
theorem RV {d:Option Tmp} {f:FuncId} {fo:Operand} {xs:List Operand} {tys:Array TypeId} {a b vs:List AV} (hl:st.low fr=true) (hs:Sat (items ρ T st.G++(items ρ T fr.H++Φ)) w) (hΓ: ∀ it∈X.Γ,it∈Φ)
  (hfo:opA T st.E fr.F g fo=some (.fn f a b)) (hxs:my T st.E fr.F g xs=some vs) {tb:List Ent} (htb: ∀ e∈tb,e.Ok X.P X.Γ) (h:oD T fr st g d f (a++vs++b) K tb=some r):
  Ok2 X.P T g (ai ρ T st.E fr.F) ⟨d,.call ⟨.value fo,xs.toArray,tys⟩,ty,pos,af,gd⟩ w (aB r K T fr st g d ρ Φ):=by
 have hfo':=az (ρ:=ρ) hfo
 have hxs':=eY (ρ:=ρ) hxs
 simp only [AV.val] at hfo'
 refine qo hl hs hΓ (fun he hg n act hf=> ?_) htb h
 rw [bK,bK]
 exact p7 he hfo' hxs' hf hg
theorem Hw {d:Option Tmp} {rc:Operand} {nm:String} {xs:List Operand} {tys:Array TypeId} {t:TypeId} {u:AV} {vs:List AV} {q:FuncId×AV} (hl:st.low fr=true) (hs:Sat (items ρ T st.G++(items ρ T fr.H++Φ)) w) (hΓ: ∀ it∈X.Γ,it∈Φ)
  (hrc:opA T st.E fr.F g rc=some (.ifc t u)) (hxs:my T st.E fr.F g xs=some vs) (hq:wY X T fr st g t u nm=some q) {tb:List Ent} (htb: ∀ e∈tb,e.Ok X.P X.Γ) (h:oD T fr st g d q.1 (q.2::vs) K tb=some r):
  Ok2 X.P T g (ai ρ T st.E fr.F) ⟨d,.call ⟨.invoke rc nm,xs.toArray,tys⟩,ty,pos,af,gd⟩ w (aB r K T fr st g d ρ Φ):=by
 have hrc':=az (ρ:=ρ) hrc
 have hxs':=eY (ρ:=ρ) hxs
 simp only [AV.val] at hrc'
 exact qo hl hs hΓ (fun he hg n act hf=>RF he hrc' (H9 hs hq) hxs' hf hg) htb h
theorem Qh {d:Option Tmp} {fo:Operand} {it:TypeId} {dI:TypeDesc} {nm:String} {xs:List Operand} {tys:Array TypeId} {t:TypeId} {u:AV} {vs:List AV} {q:FuncId×AV} (hl:st.low fr=true) (hs:Sat (items ρ T st.G++(items ρ T fr.H++Φ)) w) (hΓ: ∀ it∈X.Γ,it∈Φ)
  (hfo:opA T st.E fr.F g fo=some (.raw (.func (.methodOf it nm) #[] #[]))) (hit:X.P.underlying it=some dI) (hd:fk dI=true) (hxs:my T st.E fr.F g xs=some (.ifc t u::vs)) (hq:wY X T fr st g t u nm=some q) {tb:List Ent} (htb: ∀ e∈tb,e.Ok X.P X.Γ) (h:oD T fr st g d q.1 (q.2::vs) K tb=some r):
  Ok2 X.P T g (ai ρ T st.E fr.F) ⟨d,.call ⟨.value fo,xs.toArray,tys⟩,ty,pos,af,gd⟩ w (aB r K T fr st g d ρ Φ):=by
 have hfo':=az (ρ:=ρ) hfo
 have hxs':=eY (ρ:=ρ) hxs
 simp only [AV.val,AV.ah] at hfo' hxs'
 exact qo hl hs hΓ (fun he hg n act hf=>J9 he hfo' hit hd (H9 hs hq) hxs' hf hg) htb h
theorem TZ {d:Option Tmp} {c:Callee} {xs:Array Operand} {ts:Array TypeId} (hl:st.low fr=true) (hs:Sat (items ρ T st.G++(items ρ T fr.H++Φ)) w) (hΓ: ∀ it∈X.Γ,it∈Φ) (htb: ∀ e∈tb,e.Ok X.P X.Γ)
  (h:QA X tb T fr st g d c xs.toList ts.toList K=some r):Ok2 X.P T g (ai ρ T st.E fr.F) ⟨d,.call ⟨c,xs,ts⟩,ty,pos,af,gd⟩ w (aB r K T fr st g d ρ Φ):=by
 obtain ⟨xs⟩:=xs
 obtain ⟨ts⟩:=ts
 unfold QA at h
 split at h
 ·unfold Vs at h
  split at h
  ·rename_i x y t u d' e1 e2
   simp only at e1 e2;subst e1;subst e2
   obtain ⟨rfl,h1⟩:=bW h
   rcases cw h1 with ⟨h2,h3⟩ | ⟨_,h3⟩
   ·have:=Nat.eq_of_beq_eq_true h2
    subst this
    exact S1 hl hs h3
   ·exact QU hl hs h3
  ·rename_i x d' e1
   simp only at e1;subst e1
   obtain ⟨rfl,h1⟩:=bW h
   exact (Ii hl hs h1).ok2
  ·rename_i x y pt it d' e1 e2
   simp only at e1 e2;subst e1;subst e2
   obtain ⟨rfl,h1⟩:=bW h
   exact Qb hl hs h1
  ·rename_i x y t u e1 e2
   simp only at e1 e2;subst e1;subst e2
   obtain ⟨rfl,h1⟩:=bW h
   obtain ⟨h2,h3⟩:=ao h1
   have:=Nat.eq_of_beq_eq_true h2
   subst this
   exact Qx hl hs h3
  ·cases h
 ·split at h
  ·rename_i f a b hfo
   split at h
   ·rename_i vs hxs
    refine Tl hl hs (fun he hg n act hf=> ?_) h (fun h=>RV hl hs hΓ hfo hxs htb h)
    have hfo':=az (ρ:=ρ) hfo
    have hxs':=eY (ρ:=ρ) hxs
    simp only [AV.val] at hfo'
    rw [bK,bK]
    exact p7 he hfo' hxs' hf hg
   ·cases h
  ·rename_i it nm hfo
   split at h
   ·rename_i dI hit
    obtain ⟨h1,h2⟩:=ao h
    split at h2
    ·rename_i t u vs hxs
     have h3:=Hv h2
     split at h3
     ·rename_i q hq
      exact Qh hl hs hΓ hfo hit h1 hxs hq htb h3
     ·cases h3
    ·cases h2
   ·cases h
  ·cases h
 ·split at h
  ·rename_i t u hrc
   split at h
   ·rename_i vs hxs
    split at h
    ·have h3:=Hv h
     split at h3
     ·rename_i q hq
      exact Hw hl hs hΓ hrc hxs hq htb h3
     ·cases h3
    ·split at h
     ·rename_i q hq
      exact Hw hl hs hΓ hrc hxs hq htb h
     ·cases h
   ·cases h
  ·cases h
theorem Vz {op:Op} {dst:Option Tmp} (hl:st.low fr=true) (hs:Sat (items ρ T st.G++(items ρ T fr.H++Φ)) w) (hΓ: ∀ it∈X.Γ,it∈Φ) (htb: ∀ e∈tb,e.Ok X.P X.Γ)
  (h:opN X tb T fr st g op dst K=some r):Ok2 X.P T g (ai ρ T st.E fr.F) ⟨dst,op,ty,pos,af,gd⟩ w (aB r K T fr st g dst ρ Φ):=by
 unfold opN at h
 split at h
 ·split at h
  ·exact (Lf hl hs h).ok2
  ·split at h
   ·exact (G5 hl hΓ hs h).ok2
   ·obtain ⟨rfl,h1⟩:=bW h;exact (KS hs h1).ok2
 ·split at h
  ·split at h
   ·rcases cw h with ⟨_,h2⟩ | ⟨_,h2⟩
    ·obtain ⟨rfl,h3⟩:=bW h2
     exact Qu hl hs h3
    ·exact (ED hl hs h2).ok2
   ·exact (ED hl hs h).ok2
  ·split at h
   ·obtain ⟨rfl,h1⟩:=bW h;exact S8 hl hΓ hs h1
   ·obtain ⟨rfl,h1⟩:=bW h;exact TP hl hs h1
 ·obtain ⟨rfl,h1⟩:=bW h;exact O7 hl hs h1
 ·obtain ⟨rfl,h1⟩:=bW h;exact TB hl hs h1
 ·obtain ⟨rfl,h1⟩:=bW h
  unfold NY at h1
  split at h1
  ·rename_i id off hx
   split at h1
   ·rename_i v hv;exact .none_ (OL hs hx hv h1)
   ·cases h1
  ·rename_i id off hx
   split at h1
   ·rename_i v hv;exact .none_ (Ox hl hs hx hv h1)
   ·cases h1
  ·cases h1
 ·unfold SE at h
  split at h
  ·rename_i q off hx;exact Rn hl hs hx h
  ·cases h
 ·exact T6 hl hs h
 ·obtain ⟨rfl,h1⟩:=bW h;exact Pw hl hs h1
 ·obtain ⟨rfl,h1⟩:=bW h;exact P8 hl hs h1
 ·obtain ⟨rfl,h1⟩:=bW h;exact Qd hs h1
 ·obtain ⟨rfl,h1⟩:=bW h;exact TW hl hs h1
 ·obtain ⟨rfl,h1⟩:=bW h;exact Uu hs h1
 ·exact S9 hl hs h
 ·obtain ⟨rfl,h1⟩:=bW h;exact S5 hs h1
 ·exact TZ hl hs hΓ htb h
 ·cases h
theorem Vb {o:Oper} (hT:di T st.E fr.F) (hs:Sat (items ρ T st.G++(items ρ T fr.H++Φ)) w) (hΓ: ∀ it∈X.Γ,it∈Φ) (htb: ∀ e∈tb,e.Ok X.P X.Γ)
  (h:opD X tb T fr st g o K=some r):Ok2 X.P T g (ai ρ T st.E fr.F) o w (aB r K T fr st g o.dst ρ Φ):=by
 obtain ⟨dst,op,ty,pos,af,gd⟩:=o
 unfold opD at h
 simp only at h
 split at h
 ·rename_i cv hcv
  obtain ⟨h1,h2⟩:=lK h
  exact Okq.ok2 ⟨_,fun w'=>G2 hT hcv h1,aB.old h2 (Nat.le_refl _) rfl rfl hs⟩
 ·split at h
  ·rename_i cv hcv
   obtain ⟨h1,h2⟩:=lK h
   have hr:=Iw (dst:=dst) (ty:=ty) (pos:=pos) (af:=af) (gd:=gd) hs hcv h1
   have hout:aB r K T fr st g dst ρ Φ (cv.2.val ρ) w:=aB.old h2 (Nat.le_refl _) rfl rfl hs
   exact ⟨fun hg=>aQ.run (by rwa [hg] at hr) hout,fun _=>⟨_,hout⟩⟩
  ·obtain ⟨h1,h2⟩:=ao h
   exact Vz h1 hs hΓ htb h2
end
/-! guards -/
def Row.gd:Row→GK
 | .sli g _ _ _ _ | .elm g _ _ | .kn g _ _ _ _ _ _=>g
 | _=>none
theorem Row.rG {ρ:Nms} {T T':Tbl} {r:Row} (h:T'.get r.gd=T.get r.gd):r.item ρ T'=r.item ρ T:=by
 cases r <;> simp only [Row.gd] at h <;> simp only [Row.item,h]
def sx (k:Nat×Bool) (g:GK):Bool:= !(GK.eq (some k) g)
def wM (k:Nat×Bool):al→Bool
 | []=>true
 | x::E=>sx k x.2.1&&wM k E
def BW (k:Nat×Bool):List Row→Bool
 | []=>true
 | r::G=>sx k r.gd&&BW k G
def MZ (k:Nat×Bool):Tbl→Bool
 | []=>true
 | x::T=>sx k (some x.1)&&sx k x.2.1&&MZ k T
theorem py {k:Nat×Bool} {par:GK} {rj:Nat} {b:Bool} {T:Tbl} {g:GK} (h:sx k g=true):Tbl.get ((k,par,rj,b)::T) g=T.get g:=Tbl.BZ h
theorem Bm {ρ:Nms} {k:Nat×Bool} {par:GK} {rj:Nat} {b:Bool} {T:Tbl}:{E:al}→wM k E=true→al.env ρ ((k,par,rj,b)::T) E=al.env ρ T E
 | [],_=>rfl
 | (t,g,v)::E,h=>by
  simp only [wM,Bool.and_eq_true] at h
  simp only [al.env]
  rw [py h.1,Bm h.2]
theorem xq {ρ:Nms} {k:Nat×Bool} {par:GK} {rj:Nat} {b:Bool} {T:Tbl}:{G:List Row}→BW k G=true→items ρ ((k,par,rj,b)::T) G=items ρ T G
 | [],_=>rfl
 | r::G,h=>by
  simp only [BW,Bool.and_eq_true] at h
  simp only [items,List.map_cons]
  rw [Row.rG (py h.1)]
  have:=xq (ρ:=ρ) (par:=par) (rj:=rj) (b:=b) (T:=T) h.2
  simp only [items] at this
  rw [this]
theorem zh {k:Nat×Bool}:{E:al}→wM k E=true→{t:Nat}→{x:GK×AV}→aL E t=some x→sx k x.1=true
 | [],_,_,_,h=>by cases h
 | (r,g,v)::E,h,t,x,hx=>by
  simp only [wM,Bool.and_eq_true] at h
  unfold aL at hx
  rcases cw hx with ⟨_,h2⟩ | ⟨_,h2⟩
  ·cases h2;exact h.1
  ·exact zh h.2 h2
def B6 (k:Nat×Bool):Tbl→Bool
 | []=>false
 | x::T=>GK.eq (some k) (some x.1)||B6 k T
def kj (d:Option Tmp):Tbl→Bool
 | []=>true
 | x::T=>(match d with
  | none=>true
  | some d=> !(Nat.beq d x.2.2.1))&&kj d T
def kJ (ops:List Oper) (n:Nat) (T:Tbl):Prop:= ∀ x,x∈T→(ops[x.1.1]?).bind (·.dst)=some x.2.2.1∧Nat.blt x.2.2.1 n=true
def FT (T:Tbl) (fr:Fr):Prop:=(∀ x,x∈fr.F→T.get x.2.1=Tbl.get [] x.2.1)∧ ∀ r,r∈fr.H→T.get r.gd=Tbl.get [] r.gd
def stepG {R:Type} (ops:List Oper) (T:Tbl) (fr:Fr) (st:StB) (o:Oper) (run:Tbl→GK→Option R):Option R:=
 ifS (eO o&&zd fr.n o.dst) (match o.guard with
 | none=>ifS ( kj o.dst T ) ( run T none ) none
 | some k=>ifS ( B6 k T ) ( ifS ( kj o.dst T ) ( run T (some k) ) none )<|match ops[k.1]? with
  | some oj=>(match oj.dst with
   | some rj=>(match cr st.E fr.F rj with
    | some (par,.bool b)=>ifS ( Nat.blt rj fr.n&&wM k st.E&&wM k fr.F&&BW k st.G&&BW k fr.H&&MZ k T&&kj o.dst ((k,par,rj,b)::T) ) ( run ((k,par,rj,b)::T) (some k) ) none
    | _=>none)
   | none=>none)
  | none=>none) none
structure OD (ops:List Oper) (fr0 fr:Fr) (st:StB) (ρ:Nms) (o:Oper) (T T':Tbl) (g:GK):Prop where
 pl:eO o=true
 ds:zd fr.n o.dst=true
 t1:di T' st.E fr.F
 t2:kJ ops fr.n T'
 ft:FT T' fr0
 ak:kj o.dst T'=true
 ee:al.env ρ T' st.E=al.env ρ T st.E
 ef:al.env ρ T' fr.F=al.env ρ T fr.F
 eg:items ρ T' st.G=items ρ T st.G
 eh:items ρ T' fr.H=items ρ T fr.H
 gg:o.guard=g
 gk: ∀ k,g=some k→ ∃ rj par b,(ops[k.1]?).bind (·.dst)=some rj∧look (ai ρ T' st.E fr.F) rj=some (T'.get par,.bool b)∧Nat.blt rj fr.n=true∧(T'.get par&&(b==k.2))=T'.get g
theorem KV {k:Nat×Bool}:{T:Tbl}→B6 k T=true→ ∃ x,x∈T∧x.1=k
 | [],h=>by cases h
 | x::T,h=>by
  simp only [B6,Bool.or_eq_true] at h
  rcases h with h | h
  ·have:=GK.eq_eq h
   cases this
   exact ⟨x,List.mem_cons_self .., rfl⟩
  ·obtain ⟨y,h1,h2⟩:=KV h
   exact ⟨y,List.mem_cons_of_mem _ h1,h2⟩
theorem Kw {k:Nat×Bool}:{T:Tbl}→MZ k T=true→ ∀ x,x∈T→sx k (some x.1)=true∧sx k x.2.1=true
 | [],_,x,h=>by cases h
 | y::T,h,x,hx=>by
  simp only [MZ,Bool.and_eq_true] at h
  rcases List.mem_cons.1 hx with rfl | hx
  ·exact h.1
  ·exact Kw h.2 x hx
theorem Kz {k:Nat×Bool}:{E:al}→wM k E=true→ ∀ x,x∈E→sx k x.2.1=true
 | [],_,x,h=>by cases h
 | y::T,h,x,hx=>by
  simp only [wM,Bool.and_eq_true] at h
  rcases List.mem_cons.1 hx with rfl | hx
  ·exact h.1
  ·exact Kz h.2 x hx
theorem KM {k:Nat×Bool}:{E:List Row}→BW k E=true→ ∀ x,x∈E→sx k x.gd=true
 | [],_,x,h=>by cases h
 | y::T,h,x,hx=>by
  simp only [BW,Bool.and_eq_true] at h
  rcases List.mem_cons.1 hx with rfl | hx
  ·exact h.1
  ·exact KM h.2 x hx
theorem Jf {R:Type} {r:R} {ops:List Oper} {T:Tbl} {fr0 fr:Fr} {st:StB} {o:Oper} {run:Tbl→GK→Option R} {ρ:Nms} (h1:di T st.E fr.F) (h2:kJ ops fr.n T) (hF0:fr0.F=fr.F) (hH0: ∀ r,r∈fr0.H→r∈fr.H) (hf:FT T fr0) (h:stepG ops T fr st o run=some r):
  ∃ T' g,run T' g=some r∧OD ops fr0 fr st ρ o T T' g:=by
 unfold stepG at h
 obtain ⟨h3,h4⟩:=ao h
 simp only [Bool.and_eq_true] at h3
 have old: ∀ k x,x∈T→x.1=k→ ∃ rj par b,(ops[k.1]?).bind (·.dst)=some rj∧look (ai ρ T st.E fr.F) rj=some (T.get par,.bool b)∧Nat.blt rj fr.n=true∧(T.get par&&(b==k.2))=T.get (some k):=fun k x hx hk=>by
  subst hk
  obtain ⟨a1,a2⟩:=h1 x hx
  obtain ⟨a3,a4⟩:=h2 x hx
  exact ⟨x.2.2.1,x.2.1,x.2.2.2,a3,by rw [dX,a1];simp [AV.val],a4,by rw [a2,Ap]⟩
 split at h4
 ·rename_i hg
  obtain ⟨h5,h6⟩:=ao h4
  exact ⟨T,none,h6,⟨h3.1,h3.2,h1,h2,hf,h5,rfl,rfl,rfl,rfl,hg,fun k hk=>by cases hk⟩⟩
 ·rename_i k hg
  rcases cw h4 with ⟨h5,h6⟩ | ⟨h5,h6⟩
  ·obtain ⟨h7,h8⟩:=ao h6
   obtain ⟨x,hx,hk⟩:=KV h5
   exact ⟨T,some k,h8,⟨h3.1,h3.2,h1,h2,hf,h7,rfl,rfl,rfl,rfl,hg,fun k' hk'=>by cases hk';exact old k x hx hk⟩⟩
  ·split at h6
   ·rename_i oj hoj
    split at h6
    ·rename_i rj hrj
     split at h6
     ·rename_i par b hlk
      obtain ⟨h7,h8⟩:=ao h6
      simp only [Bool.and_eq_true] at h7
      obtain ⟨⟨⟨⟨⟨⟨b1,b2⟩,b3⟩,b4⟩,b5⟩,b6⟩,b7⟩:=h7
      have hpar:sx k par=true:=by
       unfold cr at hlk
       split at hlk
       ·rename_i x hx;cases hlk;exact zh b2 hx
       ·exact zh b3 hlk
      have hself:Tbl.get ((k,par,rj,b)::T) (some k)=(Tbl.get ((k,par,rj,b)::T) par&&pG k.2 b):=by
       rw [Tbl.Py,py hpar]
      have ee:=Bm (ρ:=ρ) (par:=par) (rj:=rj) (b:=b) (T:=T) b2
      have ef:=Bm (ρ:=ρ) (par:=par) (rj:=rj) (b:=b) (T:=T) b3
      refine ⟨(k,par,rj,b)::T,some k,h8,⟨h3.1,h3.2,fun x hx=> ?_,fun x hx=> ?_,⟨fun x hx=> ?_,fun x hx=> ?_⟩,b7,ee,ef,xq b4,xq b5,hg,fun k' hk'=> ?_⟩⟩
      ·rcases List.mem_cons.1 hx with rfl | hx
       ·exact ⟨hlk,hself⟩
       ·obtain ⟨a1,a2⟩:=h1 x hx
        obtain ⟨a3,a4⟩:=Kw b6 x hx
        exact ⟨a1,by rw [py a3,py a4];exact a2⟩
      ·rcases List.mem_cons.1 hx with rfl | hx
       ·exact ⟨by simp [hoj,hrj],b1⟩
       ·exact h2 x hx
      ·rw [py (Kz b3 x (hF0▸hx))];exact hf.1 x hx
      ·rw [py (KM b5 x (hH0 x hx))];exact hf.2 x hx
      ·cases hk'
       refine ⟨rj,par,b,by simp [hoj,hrj],?_,b1,by rw [hself,Ap]⟩
       rw [dX,hlk];simp [AV.val]
     ·cases h6
    ·cases h6
   ·cases h6
theorem E3 {d:Option Tmp}:{T:Tbl}→kj d T=true→ ∀ x,x∈T→ ∀ (g:GK) (v:AV) (E F:al),cr (bC d g v E) F x.2.2.1=cr E F x.2.2.1
 | [],_,x,h=>by cases h
 | y::T,h,x,hx=>fun g v E F=>by
  simp only [kj,Bool.and_eq_true] at h
  rcases List.mem_cons.1 hx with rfl | hx
  ·cases d with
   | none=>rfl
   | some d=>
    have h1:=h.1
    simp only [Bool.not_eq_true'] at h1
    unfold cr
    simp only [bC,aL,h1]
  ·exact E3 h.2 x hx g v E F
theorem di.out {T:Tbl} {E F:al} (h:di T E F) {d:Option Tmp} (ha:kj d T=true) (g:GK) (v:AV):di T (bC d g v E) F:=fun x hx=>by
 rw [E3 ha x hx];exact h x hx
theorem nq {ρ:Nms} {T:Tbl} {d:Option Tmp} {g:GK} {v:AV} {E F:al}:ai ρ T (bC d g v E) F=lv d (T.get g) (v.val ρ) (ai ρ T E F):=by
 cases d <;> rfl
section
variable {X : Cx} {tb : List Ent} {σ : Option Nat} {Q : aI} {D : List Deferred} {ops : List Oper} {rest : List Oper} {R : Type} {r : R} {T : Tbl} {fr : Fr} {st : StB} {ρ : Nms} {Φ : Ctx} {w : World}
theorem Hx {fr0:Fr} {o:Oper} {K:Tbl→Go_ R} (h1:di T st.E fr.F) (h2:kJ ops fr.n T) (hF0:fr0.F=fr.F) (hH0: ∀ r,r∈fr0.H→r∈fr.H) (hf:FT T fr0) (hs:Sat (items ρ T st.G++(items ρ T fr.H++Φ)) w) (hΓ: ∀ it∈X.Γ,it∈Φ) (htb: ∀ e∈tb,e.Ok X.P X.Γ)
  (h:stepG ops T fr st o (fun T g=>opD X tb T fr st g o (K T))=some r)
  (next: ∀ T' st' ρ' w',di T' st'.E fr.F→kJ ops fr.n T'→FT T' fr0→aA st.c ρ ρ'→st.c≤st'.c→K T' st'=some r→items ρ' T' fr.H=items ρ T fr.H→Sat (items ρ' T' st'.G++(items ρ' T' fr.H++Φ)) w'→WL X.P σ ops.toArray Q fr.n D rest (ai ρ' T' st'.E fr.F) w'):
  WL X.P σ ops.toArray Q fr.n D (o::rest) (ai ρ T st.E fr.F) w:=by
 obtain ⟨T',g,hk,so⟩:=Jf (ρ:=ρ) h1 h2 hF0 hH0 hf h
 have hs':Sat (items ρ T' st.G++(items ρ T' fr.H++Φ)) w:=by rw [so.eg,so.eh];exact hs
 have he:ai ρ T st.E fr.F=ai ρ T' st.E fr.F:=by rw [ai,ai,so.ee,so.ef]
 rw [he]
 have hop:=Vb so.t1 hs' hΓ htb hk
 have fin: ∀ v w',aB r (K T') T' fr st g o.dst ρ Φ v w'→WL X.P σ ops.toArray Q fr.n D rest (lv o.dst (T'.get g) v (ai ρ T' st.E fr.F)) w':=fun v w' hv=>by
  obtain ⟨ρ',st',av,k1,k2,k3,k4,k5,k6,k7,k8⟩:=hv
  have:=next T' st' ρ' w' (by rw [k4];exact so.t1.out so.ak g av) so.t2 so.ft k2 k3 k1 (k7.trans so.eh) k8
  rw [k4,nq,k5,k6] at this
  exact this
 cases hg:g with
 | none=>
  subst hg
  have:=fin
  rw [Tbl.get_none] at this
  exact Tn (hop.1 Tbl.get_none) so.pl so.gg so.ds this
 | some k=>
  obtain ⟨rj,par,b,g1,g2,g3,g4⟩:=so.gk k hg
  subst hg
  exact R6 hop.1 hop.2 so.pl so.gg (by simpa using g1) g2 g3 g4 so.ds fin
end
/-! regions in their order -/
def lY {α:Type}:Option α→Bool
 | none=>true
 | some _=>false
def jO (E0:al):al→al
 | []=>[]
 | x::E=>(match aL E0 x.1 with
  | some (none,_)=>ifS (lY x.2.1) (x::jO E0 E) (jO E0 E)
  | _=>jO E0 E)
def iK:List Row→List Row
 | []=>[]
 | r::G=>ifS (lY r.gd) (r::iK G) (iK G)
def p6 (T:Tbl) (st:StB):StB:=match T with
 | []=>st
 | _::_=>{ st with E:=jO st.E st.E,G:=iK st.G }
theorem fa {t' t:Nat} {g:GK} {v:AV} {E:al} (h:Nat.beq t' t=true):aL ((t',g,v)::E) t=some (g,v):=by simp only [aL,h]
theorem cY {t' t:Nat} {g:GK} {v:AV} {E:al} (h:Nat.beq t' t=false):aL ((t',g,v)::E) t=aL E t:=by simp only [aL,h]
theorem uI {E0:al} {t:Nat}:{E:al}→{x:GK×AV}→aL (jO E0 E) t=some x→x.1=none∧(∃ v,aL E0 t=some (none,v))∧((∃ v,aL E t=some (none,v))→aL E t=some x)
 | [],x,h=>by cases h
 | (t',g',v')::E,x,h=>by
  unfold jO at h
  have bm:aL (jO E0 E) t=some x→(∀ v,Nat.beq t' t=true→aL E0 t'≠some (none,v)∨g'≠none)→x.1=none∧(∃ v,aL E0 t=some (none,v))∧((∃ v,aL ((t',g',v')::E) t=some (none,v))→aL ((t',g',v')::E) t=some x):=fun h' hn=>by
   obtain ⟨h1,h2,h3⟩:=uI h'
   refine ⟨h1,h2,fun hv=> ?_⟩
   cases hb:Nat.beq t' t
   ·rw [cY hb] at hv ⊢; exact h3 hv
   ·exfalso
    obtain ⟨v0,hv0⟩:=h2
    obtain ⟨v1,hv1⟩:=hv
    rw [fa hb] at hv1
    simp only [Option.some.injEq,Prod.mk.injEq] at hv1
    have e:=Nat.eq_of_beq_eq_true hb
    rcases hn v0 hb with h4 | h4
    ·rw [e] at h4;exact h4 hv0
    ·exact h4 hv1.1
  dsimp only at h
  split at h
  ·rename_i v hv
   cases h1:lY g'
   ·rw [h1] at h
    exact bm h (fun v _=> .inr (fun e=>by rw [e] at h1;cases h1))
   ·rw [h1] at h
    have h2:aL ((t',g',v')::jO E0 E) t=some x:=h
    cases hb:Nat.beq t' t
    ·rw [cY hb] at h2 ⊢
     exact uI (E:=E) h2
    ·rw [fa hb] at h2 ⊢
     cases h2
     have e:=Nat.eq_of_beq_eq_true hb
     refine ⟨?_,⟨v,by rw [← e];exact hv⟩,fun _=>rfl⟩
     cases hy:g' with
     | none=>rfl
     | some _=>rw [hy] at h1;cases h1
  ·rename_i hn
   exact bm h (fun v hb=> .inl (fun e=>hn v e))
theorem AY {E0:al} {t:Nat} {v0:AV} (h0:aL E0 t=some (none,v0)):{E:al}→{v:AV}→aL E t=some (none,v)→aL (jO E0 E) t=some (none,v)
 | [],v,h=>by cases h
 | (t',g',v')::E,v,h=>by
  unfold jO
  cases hb:Nat.beq t' t
  ·rw [cY hb] at h
   have ih:=AY h0 h
   dsimp only
   split
   ·cases lY g'
    ·exact ih
    ·show aL ((t',g',v')::jO E0 E) t=_
     rw [cY hb];exact ih
   ·exact ih
  ·rw [fa hb] at h
   cases h
   have e:=Nat.eq_of_beq_eq_true hb
   subst e
   dsimp only
   rw [h0]
   exact fa hb
def GF (F E0:al):al→Bool
 | []=>true
 | x::E=>(match aL E0 x.1 with
  | some (none,_)=>true
  | _=>lY (aL F x.1))&&GF F E0 E
theorem Hj {F E0:al} {t:Nat}:{E:al}→{x:GK×AV}→GF F E0 E=true→aL E t=some x→(∃ v,aL E0 t=some (none,v))∨aL F t=none
 | [],x,_,h=>by cases h
 | (t',g',v')::E,x,hb,h=>by
  simp only [GF,Bool.and_eq_true] at hb
  cases hq:Nat.beq t' t
  ·rw [cY hq] at h;exact Hj hb.2 h
  ·have e:=Nat.eq_of_beq_eq_true hq
   subst e
   have h1:=hb.1
   split at h1
   ·rename_i v hv;exact .inl ⟨v,hv⟩
   ·cases hF:aL F t' with
    | none=>exact .inr rfl
    | some y=>rw [hF] at h1;cases h1
def yy (T:Tbl) (fr:Fr) (st:StB):Bool:=match T with
 | []=>true
 | _::_=>GF fr.F st.E st.E
theorem R4 {ρ:Nms} {T:Tbl} {E:al} (h: ∀ x,x∈E→T.get x.2.1=Tbl.get [] x.2.1):al.env ρ T E=al.env ρ [] E:=by
 induction E with
 | nil=>rfl
 | cons x E ih=>
  obtain ⟨t,g,v⟩:=x
  simp only [al.env]
  rw [h _ (List.mem_cons_self ..),ih (fun x hx=>h x (List.mem_cons_of_mem _ hx))]
theorem CB {ρ:Nms} {T:Tbl} {G:List Row} (h: ∀ r,r∈G→T.get r.gd=Tbl.get [] r.gd):items ρ T G=items ρ [] G:=
 List.map_congr_left fun r hr=>Row.rG (h r hr)
theorem pY:{G:List Row}→ ∀ r,r∈iK G→r.gd=none
 | [],r,h=>by cases h
 | y::G,r,h=>by
  unfold iK at h
  cases hy:lY y.gd
  ·rw [hy] at h;exact pY r h
  ·rw [hy] at h
   rcases List.mem_cons.1 h with rfl | h
   ·cases hg:r.gd with
    | none=>rfl
    | some _=>rw [hg] at hy;cases hy
   ·exact pY r h
theorem rm {ρ:Nms} {T:Tbl} {w:World} {B:Ctx}: ∀ {G:List Row} {A:Ctx},Sat (A++(items ρ T G++B)) w→Sat (A++(items ρ T (iK G)++B)) w
 | [],_,h=>h
 | r::G,A,h=>by
  unfold iK
  cases lY r.gd
  ·exact rm (G:=G) (Sat.tD h)
  ·have h':Sat ((A++[r.item ρ T])++(items ρ T G++B)) w:=by simpa [items] using h
   have:=rm (G:=G) h'
   simpa [items] using this
theorem wS {ρ:Nms} {T:Tbl} {fr:Fr} {st:StB} {Φ:Ctx} {w:World} (hB:yy T fr st=true) (hf:FT T fr) (hs:Sat (items ρ T st.G++(items ρ T fr.H++Φ)) w):
  (p6 T st).c=st.c∧fV (ai ρ [] (p6 T st).E fr.F) (ai ρ T st.E fr.F)∧Sat (items ρ [] (p6 T st).G++(items ρ [] fr.H++Φ)) w:=by
 cases T with
 | nil=>exact ⟨rfl,fV.refl,hs⟩
 | cons x T=>
  refine ⟨rfl,fun t p hp=> ?_,?_⟩
  ·have eF:al.env ρ (x::T) fr.F=al.env ρ [] fr.F:=R4 hf.1
   rw [ai,uT] at hp ⊢
   rw [eF]
   cases hl:look (al.env ρ [] (p6 (x::T) st).E) t with
   | none=>
    rw [hl] at hp
    -- nothing kept: nothing told, or under a guard
    have:look (al.env ρ (x::T) st.E) t=none:=by
     rw [mW] at hl hp ⊢
     cases hE:aL st.E t with
     | none=>rfl
     | some y=>
      exfalso
      have hk:aL (jO st.E st.E) t=none:=by
       cases hk:aL (jO st.E st.E) t with
       | none=>rfl
       | some z=>
        have:aL (p6 (x::T) st).E t=some z:=hk
        rw [this] at hl;cases hl
      rcases Hj hB hE with ⟨v,hv⟩ | hF
      ·rw [AY hv hv] at hk;cases hk
      ·rw [hF] at hp;cases hp
    rw [this];exact hp
   | some q=>
    rw [hl] at hp
    cases hp
    rw [mW] at hl
    cases hk:aL (p6 (x::T) st).E t with
    | none=>rw [hk] at hl;cases hl
    | some y=>
     rw [hk] at hl
     obtain ⟨h1,h2,h3⟩:=uI hk
     have h4:=h3 h2
     rw [mW,h4]
     simp only [Option.map_some,Option.some.injEq] at hl ⊢
     rw [← hl,h1,Tbl.get_none,Tbl.get_none]
  ·have h1:=rm (A:=[]) hs
   have e1:items ρ (x::T) (iK st.G)=items ρ [] (iK st.G):=CB fun r hr=>by rw [pY r hr,Tbl.get_none,Tbl.get_none]
   have e2:items ρ (x::T) fr.H=items ρ [] fr.H:=CB hf.2
   rw [List.nil_append,e1,e2] at h1
   exact h1
end Go.Proofs.YtgcgmclghbebjaaGreat
namespace Go.Proofs.YtgcgmclghbebjaaGreat
open Go.Lib
def OkT:Bool→Pt→List (Bool×Nat×Pt)→Type
 | true,_,_=>Empty
 | false,r,os=>Tup (hol r++eR os)
abbrev VF {R:Type}:(nv:Bool)→(r:Pt)→(os:List (Bool×Nat×Pt))→OkT nv r os→(Tup (hol r++eR os)→Option R)→Option R
 | true,_,_,x,_=>Empty.elim x
 | false,_,_,x,K=>K x
def isOk:(nv:Bool)→(r:Pt)→(os:List (Bool×Nat×Pt))→OkT nv r os→Tup (hol r++eR os)→Prop
 | true,_,_,_,_=>False
 | false,_,_,x,q=>x=q
theorem TE {R:Type} {r':R}:{nv:Bool}→{r:Pt}→{os:List (Bool×Nat×Pt)}→{x:OkT nv r os}→{q:Tup (hol r++eR os)}→{K:Tup (hol r++eR os)→Option R}→isOk nv r os x q→VF nv r os x K=some r'→K q=some r'
 | true,_,_,_,_,_,h,_=>h.elim
 | false,_,_,_,_,_,rfl,h=>h
abbrev ErT (p:Pt):Option Pt→Type
 | none=>Tup (hol p)
 | some q=>Tup (hol p) ⊕ Tup (hol q)
abbrev Wm {A B R:Type} (x:A ⊕ B) (f:A→R) (g:B→R):R:=match x with
 | .inl a=>f a
 | .inr b=>g b
def Nu (pp:Pt):(pq:Option Pt)→ErT pp pq→Value→Its→Bxs→List Nm→Prop
 | none,p,v,I,X,N=>Sem pp v none none [] (unt _ p) I X N
 | some _,.inl p,v,I,X,N=>Sem pp v none none [] (unt _ p) I X N
 | some q,.inr p,v,I,X,N=>Sem q v none none [] (unt _ p) I X N
structure bD where
 f:FuncId
 ps:List Pt
 pp:Pt
 pq:Option Pt
 nv:Bool
 r:Pt
 os:List (Bool×Nat×Pt)
 m:Tup (kg ps)→Option (Except (ErT pp pq) (OkT nv r os))
def bD.oe (e:bD):Ent:=⟨e.f,e.ps,e.r,e.os,fun _=>none⟩
def bD.S (e:bD) (vs:List Value) (N:List Nm) (I:Its) (X:Bxs) (Φ:Ctx) (r:Except (ErT e.pp e.pq) (OkT e.nv e.r e.os)) (v:Value) (w':World):Prop:=
 ∃ x q,r= .ok x∧isOk e.nv e.r e.os x q∧ ∃ (N1 N2:List Nm) (D1 D2:List Dyn) (I1 I2:Its) (X1 X2:Bxs),Sem e.r v none none N D1 I1 X1 N1∧uf (fxS e.ps vs X) (fun i=>vs[i]?) e.os N1 D2 I2 X2 N2∧D1++D2=unt _ q∧
  Sat ((bJ I1++bJ I2)++(dz I++Φ)) w'
def bD.Sp (e:bD) (I:Its) (Φ:Ctx) (r:Except (ErT e.pp e.pq) (OkT e.nv e.r e.os)) (c:List PanicEntry) (w':World):Prop:=
 ∃ p,r= .error p∧ ∃ (v:Value) (N1:List Nm) (I1:Its) (X1:Bxs),c=pan v∧Nu e.pp e.pq p v I1 X1 N1∧Sat (bJ I1++(dz I++Φ)) w'
def bD.Ok (P:Program) (Γg:Ctx) (e:bD):Prop:=cV P e.f∧ ∀ s r,e.m s=some r→ ∀ (vs:List Value) (N:List Nm) (I:Its) (X:Bxs) (Φ:Ctx) (w:World),
 nU e.ps vs [] [] [] (unt _ s) I X N→Sat (bJ I++Φ) w→(∀ it∈Γg,it∈Φ)→gO P e.f vs w (e.S vs N I X Φ r) (e.Sp I Φ r)
def y6 {R:Type} (st:StB) (pp:Pt) (G1:List Row) (KP:AV→StB→Option R) (p:Tup (hol pp)):Option R:=
 match fill (mJ [] st.c) pp none none 0 (unt _ p) with
 | ⟨v,R1,k,_,_⟩=>KP v { st with c:=st.c+k,G:=R1.map (·.2)++G1 }
abbrev Oy {R:Type} (st:StB) (pp:Pt):(pq:Option Pt)→(G1:List Row)→(KP:AV→StB→Option R)→ErT pp pq→Option R
 | none,G1,KP,p=>y6 st pp G1 KP p
 | some q,G1,KP,p=>Wm p (y6 st pp G1 KP) (y6 st q G1 KP)
def Iv {R:Type} (fr:Fr) (st:StB) (d:Option Tmp) (args:List AV) (e:bD) (KP:AV→StB→Option R) (K:Go_ R):Option (Option R):=
 match mts (frz (cN st.G fr.H e.ps args) st.G) fr.H e.ps args [] [] [] with
  | some mr=>ifS (rT (mr.S.map fun x=>bY (frz (cN st.G fr.H e.ps args) st.G) fr.H x.2)&&ltT (frz (cN st.G fr.H e.ps args) st.G).length (sL (frz (cN st.G fr.H e.ps args) st.G) fr.H mr.S)&&ltB st.c mr.B&&AV.bh st.c args&&Bv st.c mr.X&&lQ (fxK e.ps args mr.X) e.os) (match tup (kg e.ps) mr.D with
   | some s=>some (GH (e.m s) (Oy st e.pp e.pq (jh (mS (sL (frz (cN st.G fr.H e.ps args) st.G) fr.H mr.S) 0 (frz (cN st.G fr.H e.ps args) st.G))) KP)
     (fun x=>VF e.nv e.r e.os x (Am fr st none d args e.oe mr (jh (mS (sL (frz (cN st.G fr.H e.ps args) st.G) fr.H mr.S) 0 (frz (cN st.G fr.H e.ps args) st.G))) K)))
   | none=>none) none
  | none=>none
def yX {R:Type} (fr:Fr) (st:StB) (d:Option Tmp) (f:FuncId) (args:List AV) (KP:AV→StB→Option R) (K:Go_ R):List bD→Option (Option R)
 | []=>none
 | e::tp=>ifS (Nat.beq e.f f) (match Iv fr st d args e KP K with
   | some r=>some r
   | none=>yX fr st d f args KP K tp) (yX fr st d f args KP K tp)
def LI {R:Type} (tp:List bD) (T:Tbl) (fr:Fr) (st:StB) (o:Oper) (KP:AV→StB→Option R) (K:Go_ R):Option (Option R):=match o.guard with
 | some _=>none
 | none=>(match o.op with
  | .panic x=>(match opA T st.E fr.F none x with
   | some (.ifc t v)=>some (KP (.ifc t v) st)
   | _=>none)
  | .call c=>(match c.callee with
   | .value fo=>(match opA T st.E fr.F none fo with
    | some (.fn f a b)=>(match my T st.E fr.F none c.args.toList with
     | some vs=>ifS (kj o.dst T&&zd fr.n o.dst&&st.low fr) (yX fr st o.dst f (a++vs++b) KP K tp) none
     | none=>none)
    | _=>none)
   | _=>none)
  | _=>none)
section
variable {P : Program} {R : Type} {r : R} {K : Go_ R} {KP : AV → StB → Option R} {T : Tbl} {fr : Fr} {st : StB} {d : Option Tmp} {ρ : Nms} {Φ Γg : Ctx} {w : World}
def H8 (r:R) (KP:AV→StB→Option R) (T:Tbl) (fr:Fr) (st:StB) (ρ:Nms) (Φ:Ctx) (v:Value) (w':World):Prop:=
 ∃ (ρ':Nms) (st':StB) (av:AV),KP av st'=some r∧aA st.c ρ ρ'∧st.c≤st'.c∧st'.E=st.E∧av.val ρ'=v∧Sat (items ρ' T st'.G++(items ρ' T fr.H++Φ)) w'∧ai ρ' T st.E fr.F=ai ρ T st.E fr.F
theorem wo {pp:Pt} {G1:List Row} {p:Tup (hol pp)} {v:Value} {w':World} {N1:List Nm} {I1:Its} {X1:Bxs}
  (hl:st.low fr=true) (hG1:aU st.c G1=true) (h1:Sem pp v none none [] (unt _ p) I1 X1 N1)
  (hs:Sat (bJ I1++(items ρ T G1++(items ρ T fr.H++Φ))) w') (h:y6 st pp G1 KP p=some r):H8 r KP T fr st ρ Φ v w':=by
 have hp1:=pj _ _ _ _ _ _ _ _ _ h1
 have hnm:=Fq (ρ:=ρ) (c:=st.c) (N:=[]) (B:=[]) (N2:=N1) .nil hp1 rfl
 have hag:aA st.c ρ (fun i=>ifS (Nat.blt i st.c) (ρ i) ((N1[i-st.c]?).getD nm0)):=fun j hj=>by
  have:Nat.blt j st.c=true:=by simpa using hj
  simp only [this]
 generalize hρ:(fun i=>ifS (Nat.blt i st.c) (ρ i) ((N1[i-st.c]?).getD nm0))=ρ' at hnm hag
 obtain ⟨a1,a2,a3,a4,a5⟩:=vj (T:=T) pp v none none [] (unt _ p) I1 X1 N1 h1 (um _) hnm (by simp) []
 rw [List.append_nil,List.length_nil] at a1 a2 a3 a4 a5
 unfold y6 at h
 generalize fill (mJ [] st.c) pp none none 0 (unt _ p)=L at a1 a2 a3 a4 a5 h
 obtain ⟨v',R1,k,DD,XX⟩:=L
 simp only at a1 a2 a3 a4 a5
 dsimp only at h
 have e3:=aF (T:=T) hag hG1
 have e4:=aF (T:=T) hag (StB.bz.1 hl).2.2.2
 refine ⟨ρ',_,v',h,hag,Nat.le_add_right _ _,rfl,a1,?_,kh hl hag⟩
 show Sat (items ρ' T (R1.map (·.2)++G1)++(items ρ' T fr.H++Φ)) w'
 rw [aJ,e3,e4,List.append_assoc]
 exact Sat.leL (A:=[]) (B:=bJ I1) (C:=items ρ T G1++(items ρ T fr.H++Φ)) (by simpa using hs) a5.rw
theorem Lr {pp:Pt}:{pq:Option Pt}→{G1:List Row}→{p:ErT pp pq}→{v:Value}→{w':World}→{N1:List Nm}→{I1:Its}→{X1:Bxs}→
  st.low fr=true→aU st.c G1=true→Nu pp pq p v I1 X1 N1→Sat (bJ I1++(items ρ T G1++(items ρ T fr.H++Φ))) w'→Oy st pp pq G1 KP p=some r→H8 r KP T fr st ρ Φ v w'
 | none,_,_,_,_,_,_,_,hl,hG,h1,hs,h=>wo hl hG h1 hs h
 | some _,_,.inl _,_,_,_,_,_,hl,hG,h1,hs,h=>wo hl hG h1 hs h
 | some _,_,.inr _,_,_,_,_,_,hl,hG,h1,hs,h=>wo hl hG h1 hs h
theorem OV {e:bD} {args:List AV} (hl:st.low fr=true) (hs:Sat (items ρ T st.G++(items ρ T fr.H++Φ)) w) (he:e.Ok P Γg) (hΓ: ∀ it∈Γg,it∈Φ) (h:Iv fr st d args e KP K=some (some r)):
  gO P e.f (AV.ah ρ args) w (aB r K T fr st none d ρ Φ) (fun c w'=> ∃ v,c=pan v∧H8 r KP T fr st ρ Φ v w'):=by
 have hGl:=lO (ids:=cN st.G fr.H e.ps args) (StB.bz.1 hl).2.2.1
 replace hs:=fz (ids:=cN st.G fr.H e.ps args) hs
 unfold Iv at h
 generalize frz (cN st.G fr.H e.ps args) st.G=Gu at hGl hs h
 split at h
 ·rename_i mr hm
  obtain ⟨h1,h2⟩:=ao h
  simp only [Bool.and_eq_true] at h1
  obtain ⟨⟨⟨⟨⟨h3,h4⟩,h5⟩,h6⟩,h7⟩,h9⟩:=h1
  split at h2
  ·rename_i s htup
   simp only [Option.some.injEq] at h2
   obtain ⟨N,I,s1,n1,a1⟩:=qn hs e.ps args [] [] [] mr [] hm (.inl rfl) .nil
   rw [← po _ htup] at s1
   obtain ⟨p1,p2⟩:=wT hs a1
   have hnd':=nr h3
   obtain ⟨q1,_⟩:=nw hs p1 hnd'
   have key2: ∀ (L:List (Option Nat)) (G:List Row) (k:Nat),aU st.c G=true→aU st.c (jh (mS L k G))=true:=fun L G=>by
    induction G with
    | nil=>intro k _;rfl
    | cons r G ih=>
     intro k hG
     simp only [aU,Bool.and_eq_true] at hG
     show aU st.c (jh ((ifS (gY k L) .gone r)::mS L (k+1) G))=true
     cases gY k L
     ·cases r <;> first | exact ih (k+1) hG.2 | (simp only [jh,aU,Bool.and_eq_true];exact ⟨hG.1,ih (k+1) hG.2⟩)
     ·exact ih (k+1) hG.2
   have hlow:=key2 (sL Gu fr.H mr.S) Gu 0 hGl
   have hsub: ∀ it∈Γg,it∈mkP (mr.S.map fun x=>bY Gu fr.H x.2) (items ρ T Gu++(items ρ T fr.H++Φ)):=fun it hit=>by
    obtain ⟨k,hk⟩:=List.mem_iff_getElem?.1 (hΓ it hit)
    have hk2:(items ρ T Gu++(items ρ T fr.H++Φ))[Gu.length+fr.H.length+k]? =some it:=by
     rw [List.getElem?_append_right (by simp [items];omega),List.getElem?_append_right (by simp [items];omega)]
     have:Gu.length+fr.H.length+k-(items ρ T Gu).length-(items ρ T fr.H).length=k:=by simp [items];omega
     rw [this];exact hk
    refine List.mem_of_getElem? (i:=Gu.length+fr.H.length+k) ?_
    rw [rC,hk2]
    intro hmem
    obtain ⟨x,_,hx⟩:=List.mem_map.1 hmem
    have:=Hd hx
    omega
   have call:=fun rr hr=>he.2 s rr hr (AV.ah ρ args) N I (ct ρ mr.X) _ w (by simpa only [AV.ah] using s1) q1 hsub
   have backs: ∀ {A:Ctx} {w':World},Sat (A++(dz I++mkP (mr.S.map fun x=>bY Gu fr.H x.2) (items ρ T Gu++(items ρ T fr.H++Φ)))) w'→Sat (A++(items ρ T (jh (mS (sL Gu fr.H mr.S) 0 Gu))++(items ρ T fr.H++Φ))) w':=fun {A w'} c4=>by
    have c5:=vl p2 hnd' c4
    rw [BA a1,pw h4] at c5
    exact tS c5
   rcases Lq h2 with ⟨p,hq,hk⟩ | ⟨q,hq,hk⟩
   ·refine (call _ hq).mono (fun v w' hv=> ?_) (fun c w' hv=> ?_)
    ·obtain ⟨x',q',hq',_⟩:=hv;cases hq'
    ·obtain ⟨p',hp',v,N1,I1,X1,c1,c2,c3⟩:=hv
     cases hp'
     exact ⟨v,c1,Lr hl hlow c2 (backs c3) hk⟩
   ·refine (call _ hq).mono (fun v w' hv=> ?_) (fun c w' hv=> ?_)
    ·obtain ⟨x',q',hq',hi,N1,N2,D1,D2,I1,I2,X1,X2,c1,c2,c3,c4⟩:=hv
     cases hq'
     exact zI (e:=e.oe) hl hlow n1 h5 h6 h7 h9 c1 c2 c3 Tbl.get_none (backs c4) (.inl rfl) (TE hi hk)
    ·obtain ⟨p',hp',_⟩:=hv;cases hp'
  ·cases h2
 ·cases h
theorem yR {f:FuncId} {args:List AV} (hl:st.low fr=true) (hs:Sat (items ρ T st.G++(items ρ T fr.H++Φ)) w) (hΓ: ∀ it∈Γg,it∈Φ): ∀ {tp:List bD},(∀ e∈tp,e.Ok P Γg)→yX fr st d f args KP K tp=some (some r)→
  cV P f∧gO P f (AV.ah ρ args) w (aB r K T fr st none d ρ Φ) (fun c w'=> ∃ v,c=pan v∧H8 r KP T fr st ρ Φ v w')
 | [],_,h=>by cases h
 | e::tp,htp,h=>by
  unfold yX at h
  rcases cw h with ⟨h1,h2⟩ | ⟨_,h2⟩
  ·split at h2
   ·rename_i r' hr'
    cases h2
    have:=Nat.eq_of_beq_eq_true h1
    subst this
    exact ⟨(htp e (List.mem_cons_self ..)).1,OV hl hs (htp e (List.mem_cons_self ..)) hΓ hr'⟩
   ·exact yR hl hs hΓ (fun e he=>htp e (List.mem_cons_of_mem _ he)) h2
  ·exact yR hl hs hΓ (fun e he=>htp e (List.mem_cons_of_mem _ he)) h2
variable {σ : Option Nat} {Q : aI} {D : List Deferred} {ops rest : List Oper} {tp : List bD}
theorem Sl {o:Oper} (h1:di T st.E fr.F) (hs:Sat (items ρ T st.G++(items ρ T fr.H++Φ)) w) (hΓ: ∀ it∈Γg,it∈Φ) (htp: ∀ e∈tp,e.Ok P Γg)
  (h:LI tp T fr st o KP K=some (some r))
  (next: ∀ st' ρ' w',di T st'.E fr.F→aA st.c ρ ρ'→st.c≤st'.c→K st'=some r→items ρ' T fr.H=items ρ T fr.H→Sat (items ρ' T st'.G++(items ρ' T fr.H++Φ)) w'→WL P σ ops.toArray Q fr.n D rest (ai ρ' T st'.E fr.F) w')
  (pnext: ∀ v st' ρ' w',aA st.c ρ ρ'→st.c≤st'.c→KP v st'=some r→st'.E=st.E→ai ρ' T st.E fr.F=ai ρ T st.E fr.F→Sat (items ρ' T st'.G++(items ρ' T fr.H++Φ)) w'→At Q (.panic (pan (v.val ρ'))) fr.n D (ai ρ' T st'.E fr.F) w'):
  WL P σ ops.toArray Q fr.n D (o::rest) (ai ρ T st.E fr.F) w:=by
 obtain ⟨dst,op,ty,pos,af,gd⟩:=o
 unfold LI at h
 split at h
 ·cases h
 rename_i hgd
 simp only at hgd
 subst hgd
 split at h
 ·rename_i x hop
  simp only at hop
  subst hop
  split at h
  ·rename_i t v hx
   have hk:=Option.some.inj h
   have hx':=az (ρ:=ρ) hx
   rw [Tbl.get_none] at hx'
   simp only [AV.val] at hx'
   refine Rh hx' ?_
   have:=pnext (.ifc t v) st ρ w .refl (Nat.le_refl _) hk rfl rfl hs
   simp only [AV.val] at this
   exact this
  ·cases h
 ·rename_i c hop
  simp only at hop
  subst hop
  obtain ⟨callee,xs,tys⟩:=c
  obtain ⟨xs⟩:=xs
  simp only at h
  split at h
  ·rename_i fo
   split at h
   ·rename_i f a b hfo
    split at h
    ·rename_i vs hxs
     obtain ⟨h2,h3⟩:=ao h
     simp only [Bool.and_eq_true] at h2
     obtain ⟨⟨hak,hd⟩,hl⟩:=h2
     obtain ⟨hen,hc⟩:=yR hl hs hΓ htp h3
     have hfo':=az (ρ:=ρ) hfo
     have hxs':=eY (ρ:=ρ) hxs
     rw [Tbl.get_none] at hfo' hxs'
     simp only [AV.val] at hfo'
     have hargs:AV.ah ρ (a++vs++b)=AV.ah ρ a++AV.ah ρ vs++AV.ah ρ b:=by rw [bK,bK]
     have fin: ∀ v w',aB r K T fr st none dst ρ Φ v w'→WL P σ ops.toArray Q fr.n D rest (lv dst true v (ai ρ T st.E fr.F)) w':=fun v w' hv=>by
      obtain ⟨ρ',st',av,k1,k2,k3,k4,k5,k6,k7,k8⟩:=hv
      have:=next st' ρ' w' (by rw [k4];exact h1.out hak none av) k2 k3 k1 k7 k8
      rw [k4,nq,k5,k6,Tbl.get_none] at this
      exact this
     have pfin: ∀ c w',(∃ v,c=pan v∧H8 r KP T fr st ρ Φ v w')→At Q (.panic c) fr.n D (ai ρ T st.E fr.F) w':=fun c w' hv=>by
      obtain ⟨v,rfl,ρ',st',av,k1,k2,k3,k4,k5,k6,k7⟩:=hv
      have:=pnext av st' ρ' w' k2 k3 k1 k4 k7 k6
      rw [k5,k4,k7] at this
      exact this
     cases dst with
     | none=>exact OP hen hfo' hxs' hargs hc fin pfin
     | some dd=>exact RR hen hfo' hxs' hargs hd hc fin pfin
    ·cases h
   ·cases h
  ·cases h
 ·cases h
end
end Go.Proofs.YtgcgmclghbebjaaGreat
namespace Go.Proofs.YtgcgmclghbebjaaGreat
open Go.Lib
theorem Sat.PX {A B:Ctx} {x:Item} {w:World} (h:Sat (A++x::B) w):Sat (x::(A++B)) w:=by
 refine h.qP (fun j k=>(j=0∧k=A.length)∨(0<j∧j≤A.length∧k+1=j)∨(A.length<j∧k=j)) (fun j jt hj=> ?_) (fun j k q hjk h1 h2=>by omega)
 cases j with
 | zero=>
  simp only [List.getElem?_cons_zero,Option.some.injEq] at hj
  subst hj
  exact .inr ⟨A.length,x,.inl ⟨rfl,rfl⟩,by simp,aY.refl⟩
 | succ j=>
  simp only [List.getElem?_cons_succ] at hj
  by_cases e:j<A.length
  ·rw [List.getElem?_append_left e] at hj
   exact .inr ⟨j,jt,.inr (.inl ⟨by omega,by omega,rfl⟩),by rw [List.getElem?_append_left e];exact hj,aY.refl⟩
  ·rw [List.getElem?_append_right (by omega)] at hj
   refine .inr ⟨j+1,jt,.inr (.inr ⟨by omega,rfl⟩),?_,aY.refl⟩
   rw [List.getElem?_append_right (by omega)]
   have:j+1-A.length=(j-A.length)+1:=by omega
   rw [this,List.getElem?_cons_succ]
   exact hj
theorem Sat.VP {Γ:Ctx} {it new:Item} {w:World} (h:Sat (it::Γ) w) (hR: ∀ b∈new.own,b∈it.own) (hP: ∀ M',Mv (Ctx.M (it::Γ)) w M' w→new.P M' w):Sat (new::Γ) w:=by
 have:=h.upd (i:=0) (it:=it) (new:=new) (w':=w) rfl ⟨rfl,rfl,rfl,Nat.le_refl _,fun _ _ _=>rfl⟩ (fun b hb=>⟨h.lt (Ctx.p9.2 (.inl (hR b hb))),.inl (hR b hb)⟩) (fun M' m _=>hP M' m)
 simpa using this
def wv (X:Cx) (T:Tbl) (fr:Fr) (st:StB) (o:Oper):Option (TypeId×List AV×List AV):=match o.op,o.guard with
 | .alloc t,none=>(match GC X.P t with
  | some cs=>some (t,[],cs)
  | none=>none)
 | .buildSlice t len ps,none=>(match eI X.P t with
  | some e=>(match tiA X.P e with
   | some z=>(match my T st.E fr.F none (ps.toList.map (·.2)) with
    | some vs=>(match tH (fun i=>some (i*z.1,z.1)) ((ps.toList.map (·.1)).zip vs) (I8 len (z.2.2.cells.toList.map cst)) with
     | some cs=>ifS ( Nat.beq z.2.2.cells.size z.1&&Nat.ble (len*z.1) 16777216&&(Nat.blt 0 (len*z.1)||Nat.beq len 0&&ps.toList.isEmpty) ) (some (e,vs,cs)) none
     | none=>none)
    | none=>none)
   | none=>none)
  | none=>none)
 | _,_=>none
theorem IC {X:Cx} {T:Tbl} {fr:Fr} {st:StB} {ρ:Nms} {o:Oper} {e:TypeId} {vs cs:List AV} (h:wv X T fr st o=some (e,vs,cs)) (w:World):
  j4 X.P (ai ρ T st.E fr.F) o w (uY o w.heap.size) (w.alloc (.cells (AV.ah ρ cs).toArray e)):=by
 obtain ⟨dst,op,ty,pos,af,gd⟩:=o
 unfold wv at h
 simp only at h
 split at h
 ·rename_i t
  split at h
  ·rename_i cs' hcs
   cases h
   unfold GC at hcs
   split at hcs
   ·rename_i z hz
    cases hcs
    obtain ⟨n,b,z⟩:=z
    have:=Dz (P:=X.P) (E:=ai ρ T st.E fr.F) (w:=w) (dst:=dst) (ty:=ty) (pos:=pos) (af:=af) (zs:=z.cells.toList) (bH hz) (by simp)
    rw [ku]
    exact this
   ·cases hcs
  ·cases h
 ·rename_i t len ps
  obtain ⟨ps⟩:=ps
  split at h
  ·rename_i e' he
   split at h
   ·rename_i z hz
    obtain ⟨n,bytes,z⟩:=z
    split at h
    ·rename_i vs' hvs
     split at h
     ·rename_i cs' hcs
      obtain ⟨h1,h2⟩:=ao h
      cases h2
      simp only [Bool.and_eq_true,Bool.or_eq_true] at h1
      obtain ⟨⟨a2,a3⟩,h3⟩:=h1
      have hzs:z.cells.size=n:=Nat.eq_of_beq_eq_true a2
      have hops:=eY (ρ:=ρ) hvs
      rw [Tbl.get_none] at hops
      have hfill:=rL (ρ:=ρ) hcs
      rw [xQ,IM,ku] at hfill
      rcases h3 with h3 | ⟨h3,h5⟩
      ·have hpos:0<n:=by
        have:0<len*n:=by simpa using h3
        exact Nat.pos_of_ne_zero (fun e=>by simp [e] at this)
       have hlit:px n len z.cells.toList ((ps.map (·.1)).zip (AV.ah ρ vs))=some (AV.ah ρ cs).toArray:=by
        unfold px
        have e1:=zH z.cells.toList (by simp [hzs];exact hpos) len
        simp only [Array.length_toList,hzs] at e1
        simp only [Array.length_toList,hzs]
        rw [← hfill,← e1]
       exact oA (P:=X.P) (w:=w) (dst:=dst) (ty:=ty) (pos:=pos) (af:=af) (bq he) (bH hz) (zs:=z.cells.toList) (by simp) h3 a3 hops hlit
      ·have e0:len=0:=Nat.eq_of_beq_eq_true h3
       subst e0
       have e1:ps=[]:=by simpa using h5
       subst e1
       have:cs=[]:=by
        simp only [List.map_nil,List.zip_nil_left,I8,List.replicate_zero,List.flatten_nil,tH,Option.some.injEq] at hcs
        exact hcs.symm
       subst this
       exact m7 (P:=X.P) (E:=ai ρ T st.E fr.F) (w:=w) (dst:=dst) (ty:=ty) (pos:=pos) (af:=af) (bq he) (bH hz)
     ·cases h
    ·cases h
   ·cases h
  ·cases h
 ·cases h
def Ri {R:Type} (X:Cx) (T:Tbl) (fr:Fr) (st:StB) (o:Oper) (K:Go_ R):Option R:=match wv X T fr st o,o.dst with
 | some p,some d=>(match o.op with
  | .buildSlice _ len _=>(match qZ X.tys p.1 with
   | some u=>(match rdL (frz (AV.sls (.agg p.2.1)++(p.2.1.map AV.sls).flatten) st.G) fr.H u len p.2.2 with
    | some xs=>ifS (st.low fr&&Nat.ble len 9223372036854775807) (K { st with c:=st.c+1,E:=bC (some d) none (.sl st.c) st.E,G:= .own st.c u p.1 xs st.c::frz (AV.sls (.agg p.2.1)++(p.2.1.map AV.sls).flatten) st.G }) none
    | none=>none)
   | none=>none)
  | _=>ifS (st.low fr&&AV.bh st.c p.2.2) (M8 st d p.1 p.2.2 K) none)
 | _,_=>none
section
variable {X : Cx} {R : Type} {r : R} {K : Go_ R} {T : Tbl} {fr : Fr} {st : StB} {ρ : Nms} {Φ : Ctx} {w : World}
theorem TQ {o:Oper} {b:Nat} {e':TypeId} {vs':List Value} (hs:Sat (items ρ T st.G++(items ρ T fr.H++(box b e' vs'::Φ))) w)
  (hr: ∀ e vs cs,wv X T fr st o=some (e,vs,cs)→e'=e∧vs'=AV.ah ρ cs) (h:Ri X T fr st o K=some r):
  aB r K T fr st none o.dst ρ Φ (uY o b) w:=by
 obtain ⟨dst,op,ty,pos,af,gd⟩:=o
 unfold Ri at h
 simp only at h
 split at h
 ·rename_i p d hp
  obtain ⟨e,vs,cs⟩:=p
  obtain ⟨rfl,rfl⟩:=hr _ _ _ hp
  split at h
  ·rename_i t len ps
   split at h
   ·rename_i u hu
    split at h
    ·rename_i xs hxs
     obtain ⟨h1,h2⟩:=ao h
     simp only [Bool.and_eq_true] at h1
     obtain ⟨hl,h8⟩:=h1
     have hGl:=lO (ids:=AV.sls (.agg vs)++(vs.map AV.sls).flatten) (StB.bz.1 hl).2.2.1
     replace hs:=fz (ids:=AV.sls (.agg vs)++(vs.map AV.sls).flatten) hs
     simp only at h2
     generalize frz (AV.sls (.agg vs)++(vs.map AV.sls).flatten) st.G=G at h2 hGl hs hxs
     obtain ⟨k1,k2⟩:=CD (ρ:=ρ) (T:=T) hs _ _ _ hxs
     have hs1:Sat ((items ρ T G++items ρ T fr.H)++box b e' (AV.ah ρ cs)::Φ) w:=by rw [List.append_assoc];exact hs
     have hs2:=hs1.PX
     have mv:Mv (Ctx.M (items ρ T G++(items ρ T fr.H++(box b e' (AV.ah ρ cs)::Φ)))) w (Ctx.M (box b e' (AV.ah ρ cs)::((items ρ T G++items ρ T fr.H)++Φ))) w:=Mv.weaken w fun c hc=>by
      obtain ⟨it,hi,hb⟩:=hc
      refine ⟨it,?_,hb⟩
      simp only [List.mem_cons,List.mem_append] at hi ⊢
      rcases hi with h | (h | h) | h
      ·exact .inr (.inr (.inl h))
      ·exact .inl h
      ·exact .inr (.inl h)
      ·exact .inr (.inr (.inr h))
     refine aB.new (ρ':=ρ.set st.c { nm0 with v:=(some ⟨b,0,none⟩,len,len),y:=⟨.l u,xs⟩ }) (av:= .sl st.c) hl h2 Nms.aD (Nat.le_succ _) rfl (by simp only [AV.val,Nms.aS];rfl) ?_
     show Sat (items _ T (_::G)++_) w
     have e:=aF (T:=T) (Nms.aD (ρ:=ρ) (j:=st.c) (x:={ nm0 with v:=(some ⟨b,0,none⟩,len,len),y:=⟨.l u,xs⟩ })) hGl
     rw [items,List.map_cons]
     rw [items] at e
     rw [e]
     have hb:cG w b e' (AV.ah ρ cs):=hs2.at_ (i:=0) rfl
     have hs3:Sat ((Row.own st.c u e' xs st.c).item (ρ.set st.c { nm0 with v:=(some ⟨b,0,none⟩,len,len),y:=⟨.l u,xs⟩ }) T::((items ρ T G++items ρ T fr.H)++Φ)) w:=by
      refine hs2.VP (fun c hc=> ?_) (fun M' m=> ?_)
      ·simp only [Row.item,Nms.aS] at hc
       exact vR hc
      ·simp only [Row.item,Nms.aS]
       exact ⟨(Own.of (OSl.fresh hb k1 h8 (k2.mv (mv.trans m)))).zD,trivial⟩
     rw [List.append_assoc] at hs3
     exact hs3
    ·cases h
   ·cases h
  ·rename_i hne
   obtain ⟨h1,h2⟩:=ao h
   simp only [Bool.and_eq_true] at h1
   obtain ⟨hl,hcs⟩:=h1
   have hs1:Sat ((items ρ T st.G++items ρ T fr.H)++box b e' (AV.ah ρ cs)::Φ) w:=by rw [List.append_assoc];exact hs
   have hs2:=hs1.PX
   rw [List.append_assoc] at hs2
   have ev:uY ⟨some d,op,ty,pos,af,gd⟩ b= .pointer (some ⟨b,0,none⟩):=by
    unfold uY
    split
    ·rename_i heq
     exact (hne _ _ _ heq).elim
    ·rfl
   rw [ev]
   refine aB.new (ρ':=ρ.set st.c { nm0 with b:=b }) (av:= .ptr st.c 0) hl h2 Nms.aD (Nat.le_succ _) rfl (by simp only [AV.val,Nms.aS]) ?_
   show Sat (items _ T (_::st.G)++_) w
   have e:=aF (T:=T) (Nms.aD (ρ:=ρ) (j:=st.c) (x:={ nm0 with b:=b })) (StB.bz.1 hl).2.2.1
   rw [items,List.map_cons]
   rw [items] at e
   rw [e]
   simp only [Row.item,Nms.aS]
   rw [AV.bc Nms.aD _ hcs]
   exact hs2
 ·cases h
end
end Go.Proofs.YtgcgmclghbebjaaGreat
namespace Go.Proofs.YtgcgmclghbebjaaGreat
open Go.Lib
abbrev MN {R:Type} (fr:Fr) (KP:AV→StB→Option R) (T:Tbl) (v:AV) (st:StB):Option R:=ifS (yy T fr st) (KP v (p6 T st)) none
noncomputable def sy {R:Type} (X:Cx) (tb:List Ent) (tp:List bD) (KP:AV→StB→Option R) (ops:List Oper) (fr:Fr):List Oper→Tbl→StB→Go_ R→Option R
 | [],T,st,K=>ifS (yy T fr st) (K (p6 T st)) none
 | o::l,T,st,K=>match LI tp T fr st o (MN fr KP T) (fun st=>sy X tb tp KP ops fr l T st K) with
  | some q=>q
  | none=>stepG ops T fr st o fun T g=>opD X tb T fr st g o fun st=>sy X tb tp KP ops fr l T st K
section
variable {R : Type} {X : Cx} {tb : List Ent} {tp : List bD} {KP : AV → StB → Option R} {σ : Option Nat} {Q : aI} {D : List Deferred} {ops : List Oper} {r : R} {fr : Fr} {Φ : Ctx} {K : Go_ R}
theorem Kp {T:Tbl} {v:AV} {st:StB} {ρ:Nms} {w:World} (hf:FT T fr) (h:MN fr KP T v st=some r) (hs:Sat (items ρ T st.G++(items ρ T fr.H++Φ)) w):
  ∃ st',KP v st'=some r∧st'.c=st.c∧fV (ai ρ [] st'.E fr.F) (ai ρ T st.E fr.F)∧Sat (items ρ [] st'.G++(items ρ [] fr.H++Φ)) w:=by
 unfold MN at h
 obtain ⟨h3,h4⟩:=ao h
 obtain ⟨k1,k2,k3⟩:=wS h3 hf hs
 exact ⟨_,h4,k1,k2,k3⟩
theorem wH {rest:List Oper} (hΓ: ∀ it∈X.Γ,it∈Φ) (htb: ∀ e∈tb,e.Ok X.P X.Γ) (htp: ∀ e∈tp,e.Ok X.P X.Γ): ∀ {l:List Oper} {T:Tbl} {st:StB} {ρ:Nms} {w:World},di T st.E fr.F→kJ ops fr.n T→FT T fr→Sat (items ρ T st.G++(items ρ T fr.H++Φ)) w→
  sy X tb tp KP ops fr l T st K=some r→
  (∀ st' ρ' w',aA st.c ρ ρ'→st.c≤st'.c→K st'=some r→Sat (items ρ' [] st'.G++(items ρ' [] fr.H++Φ)) w'→WL X.P σ ops.toArray Q fr.n D rest (ai ρ' [] st'.E fr.F) w')→
  (∀ v st' ρ' w',aA st.c ρ ρ'→st.c≤st'.c→KP v st'=some r→Sat (items ρ' [] st'.G++(items ρ' [] fr.H++Φ)) w'→At Q (.panic (pan (v.val ρ'))) fr.n D (ai ρ' [] st'.E fr.F) w')→
  WL X.P σ ops.toArray Q fr.n D (l++rest) (ai ρ T st.E fr.F) w
 | [],T,st,ρ,w,h1,h2,hf,hs,h,next,pnext=>by
  unfold sy at h
  obtain ⟨h3,h4⟩:=ao h
  obtain ⟨k1,k2,k3⟩:=wS h3 hf hs
  exact fun a hf hd=>next _ ρ w .refl (by rw [k1];exact Nat.le_refl _) h4 k3 a (hf.jw k2) hd
 | o::l,T,st,ρ,w,h1,h2,hf,hs,h,next,pnext=>by
  unfold sy at h
  split at h
  ·rename_i q hq
   subst h
   refine Sl h1 hs hΓ htp hq (fun st' ρ' w' a1 a4 a5 a6 a7 a8=> ?_) (fun v st' ρ' w' a1 a2 a3 ae1 ae2 a4=> ?_)
   ·exact wH hΓ htb htp a1 h2 hf a8 a6 (fun st2 ρ2 w2 b1 b2 b3 b4=>next st2 ρ2 w2 (a4.trans b1 a5) (Nat.le_trans a5 b2) b3 b4) (fun v st2 ρ2 w2 b1 b2 b3 b4=>pnext v st2 ρ2 w2 (a4.trans b1 a5) (Nat.le_trans a5 b2) b3 b4)
   ·obtain ⟨st2,k1,k2,k4,k3⟩:=Kp hf a3 a4
    exact (pnext v st2 ρ' w' a1 (by omega) k1 k3).jw _ k4
  ·exact Hx (K:=fun T st=>sy X tb tp KP ops fr l T st K) h1 h2 rfl (fun _ h=>h) hf hs hΓ htb h (fun T' st' ρ' w' a1 a2 a3 a4 a5 a6 a7 a8=>
    wH hΓ htb htp a1 a2 a3 a8 a6 (fun st2 ρ2 w2 b1 b2 b3 b4=>next st2 ρ2 w2 (a4.trans b1 a5) (Nat.le_trans a5 b2) b3 b4) (fun v st2 ρ2 w2 b1 b2 b3 b4=>pnext v st2 ρ2 w2 (a4.trans b1 a5) (Nat.le_trans a5 b2) b3 b4))
theorem KX (hΓ: ∀ it∈X.Γ,it∈Φ) (htb: ∀ e∈tb,e.Ok X.P X.Γ) (htp: ∀ e∈tp,e.Ok X.P X.Γ) {l:List Oper} {T:Tbl} {st:StB} {ρ:Nms} {w:World} (h1:di T st.E fr.F) (h2:kJ ops fr.n T) (hf:FT T fr) (hs:Sat (items ρ T st.G++(items ρ T fr.H++Φ)) w)
  (h:sy X tb tp KP ops fr l T st K=some r)
  (next: ∀ st' ρ' w',aA st.c ρ ρ'→st.c≤st'.c→K st'=some r→Sat (items ρ' [] st'.G++(items ρ' [] fr.H++Φ)) w'→At Q .normal fr.n D (ai ρ' [] st'.E fr.F) w')
  (pnext: ∀ v st' ρ' w',aA st.c ρ ρ'→st.c≤st'.c→KP v st'=some r→Sat (items ρ' [] st'.G++(items ρ' [] fr.H++Φ)) w'→At Q (.panic (pan (v.val ρ'))) fr.n D (ai ρ' [] st'.E fr.F) w'):
  WL X.P σ ops.toArray Q fr.n D l (ai ρ T st.E fr.F) w:=by
 have:=wH (σ:=σ) (Q:=Q) (D:=D) (rest:=[]) hΓ htb htp h1 h2 hf hs h (fun st' ρ' w' a1 a2 a3 a4=>bG (next st' ρ' w' a1 a2 a3 a4)) pnext
 rwa [List.append_nil] at this
end
def iW (c:Nat):List AV→List AV×List Row×Nat
 | []=>([],[],c)
 | v::vs=>match v with
  | .nv u=>match iW c vs with
   | (cs,R,c)=>(.nv u::cs,R,c)
  | v=>match iW (c+1) vs with
   | (cs,R,c')=>(.nv c::cs,.eq c v::R,c')
structure SH (c:Nat) (vs:List AV) (ρ ρ':Nms) (x:List AV×List Row×Nat):Prop where
 ag:aA c ρ ρ'
 le:c≤x.2.2
 eq:AV.ah ρ' x.1=AV.ah ρ vs
 lw:AV.bh x.2.2 x.1=true
 rl:aU x.2.2 x.2.1=true
 rp: ∀ r∈x.2.1,(r.item ρ' []).ck=true∧ ∀ M w,(r.item ρ' []).P M w
 rg: ∀ r∈x.2.1,r.gd=none
theorem qi {c d:Nat} (hcd:c≤d):{G:List Row}→aU c G=true→aU d G=true
 | [],_=>rfl
 | r::G,h=>by
  simp only [aU,Bool.and_eq_true] at h ⊢
  exact ⟨Row.dH hcd h.1,qi hcd h.2⟩
theorem mM {c:Nat}:{G H:List Row}→aU c G=true→aU c H=true→aU c (G++H)=true
 | [],_,_,h=>h
 | r::G,H,h,k=>by
  simp only [List.cons_append,aU,Bool.and_eq_true] at h ⊢
  exact ⟨h.1,mM h.2 k⟩
theorem wj:{vs:List AV}→{c:Nat}→{ρ:Nms}→AV.bh c vs=true→ ∃ ρ',SH c vs ρ ρ' (iW c vs)
 | [],c,ρ,h=>⟨ρ,.refl,Nat.le_refl _,rfl,rfl,rfl,(fun _ h=>by cases h),fun _ h=>by cases h⟩
 | v::vs,c,ρ,h=>by
  simp only [AV.bh,Bool.and_eq_true] at h
  have other:(∀ u,v≠ .nv u)→iW c (v::vs)=(match iW (c+1) vs with | (cs,R,c')=>(.nv c::cs,.eq c v::R,c'))→ ∃ ρ',SH c (v::vs) ρ ρ' (iW c (v::vs)):=fun _ e=>by
   have a1:aA c ρ (ρ.set c { nm0 with x:=v.val ρ }):=Nms.aD
   obtain ⟨ρ',l⟩:=wj (c:=c+1) (ρ:=ρ.set c { nm0 with x:=v.val ρ }) (AV.gG (Nat.le_succ c) _ h.2)
   rw [e]
   generalize iW (c+1) vs=L at l
   obtain ⟨cs,R,c'⟩:=L
   have hag:aA c ρ ρ':=a1.trans l.ag (Nat.le_succ _)
   have hx:(ρ' c).x=v.val ρ:=by rw [l.ag _ (Nat.lt_succ_self _),Nms.aS]
   have hle:c+1≤c':=l.le
   refine ⟨ρ',hag,Nat.le_trans (Nat.le_succ _) l.le,?_,?_,?_,?_,?_⟩
   ·simp only [AV.ah,AV.val,hx]
    rw [l.eq,AV.bc a1 _ h.2]
   ·simp only [AV.bh,AV.low,Bool.and_eq_true,Nat.blt_eq]
    exact ⟨by omega,l.lw⟩
   ·simp only [aU,Row.low,Bool.and_eq_true,Nat.blt_eq]
    exact ⟨⟨by omega,AV.dH (by omega) _ h.1⟩,l.rl⟩
   ·intro r hr
    rcases List.mem_cons.1 hr with rfl | hr
    ·exact ⟨rfl,fun M w=>by show (ρ' c).x=v.val ρ';rw [hx,AV.iO hag _ h.1]⟩
    ·exact l.rp r hr
   ·intro r hr
    rcases List.mem_cons.1 hr with rfl | hr
    ·rfl
    ·exact l.rg r hr
  cases v with
  | nv u=>
   obtain ⟨ρ',l⟩:=wj (c:=c) (ρ:=ρ) h.2
   unfold iW
   dsimp only
   generalize iW c vs=L at l
   obtain ⟨cs,R,c'⟩:=L
   refine ⟨ρ',l.ag,l.le,?_,?_,l.rl,l.rp,l.rg⟩
   ·simp only [AV.ah]
    rw [l.eq,AV.iO l.ag _ h.1]
   ·simp only [AV.bh,Bool.and_eq_true]
    exact ⟨AV.dH l.le _ h.1,l.lw⟩
  | _=>exact other (fun u h=>by cases h) rfl
/-! regions that draw their order -/
noncomputable def N8 {R:Type} (X:Cx) (T:Tbl) (fr:Fr) (st:StB) (g:GK) (op:Op) (dst:Option Tmp) (K:Go_ R):Option R:=match op,dst with
 | .indexAddr t x y,some d=>(match eI X.P t with
  | some _=>No X T fr st g d t x y K
  | none=>(match opA T st.E fr.F g x with
   | some (.gp _)=>GI X T fr st g d t x y K
   | _=>gone g (MB X T fr st d t x y K)))
 | .slice t x lo hi mx,some d=>IB X T fr st g d t x lo hi mx K
 | .call ⟨.builtin .unsafeSliceData,⟨[x]⟩,_⟩,some d=>gone g (GS T fr st d x K)
 | .call ⟨.builtin .len,⟨[x]⟩,⟨[t]⟩⟩,some d=>Lo X T fr st g d t x K
 | _,_=>none
noncomputable def IP {R:Type} (X:Cx) (T:Tbl) (fr:Fr) (st:StB) (g:GK) (o:Oper) (K:Go_ R):Option R:=
 match LB X T st.E fr.F g o.op with
 | some cv=>xx cv.1 (g.map fun _=>T.get g) (K { st with E:=bC o.dst g cv.2 st.E })
 | none=>match Ni X T st.E fr.F [] fr.H g o.op with
  | some cv=>xx cv.1 (g.map fun _=>T.get g) (K { st with E:=bC o.dst g cv.2 st.E })
  | none=>ifS (st.low fr) (N8 X T fr st g o.op o.dst K) none
def aK (p:Row→Bool):List Row→List Row
 | []=>[]
 | r::G=>ifS (p r) (r::aK p G) (aK p G)
def bT (r:Row):Bool:= !r.ck
theorem Sat.move {A B C:Ctx} {x:Item} {w:World} (h:Sat (A++x::(B++C)) w):Sat (A++(B++x::C)) w:=by
 refine h.qP (fun j k=>(j<A.length∧k=j)∨(A.length≤j∧j<A.length+B.length∧k=j+1)∨(j=A.length+B.length∧k=A.length)∨(A.length+B.length<j∧k=j)) (fun j jt hj=> ?_) (fun j k q hjk h1 h2=>by omega)
 by_cases e:j<A.length
 ·rw [List.getElem?_append_left e] at hj
  exact .inr ⟨j,jt,.inl ⟨e,rfl⟩,by rw [List.getElem?_append_left e];exact hj,aY.refl⟩
 ·rw [List.getElem?_append_right (by omega)] at hj
  by_cases e2:j<A.length+B.length
  ·rw [List.getElem?_append_left (by omega)] at hj
   refine .inr ⟨j+1,jt,.inr (.inl ⟨by omega,e2,rfl⟩),?_,aY.refl⟩
   rw [List.getElem?_append_right (by omega)]
   have:j+1-A.length=(j-A.length)+1:=by omega
   rw [this,List.getElem?_cons_succ,List.getElem?_append_left (by omega)]
   exact hj
  ·rw [List.getElem?_append_right (by omega)] at hj
   by_cases e3:j=A.length+B.length
   ·subst e3
    rw [show A.length+B.length-A.length-B.length=0 by omega] at hj
    simp at hj
    subst hj
    exact .inr ⟨A.length,x,.inr (.inr (.inl ⟨rfl,rfl⟩)),by simp,aY.refl⟩
   ·refine .inr ⟨j,jt,.inr (.inr (.inr ⟨by omega,rfl⟩)),?_,aY.refl⟩
    rw [List.getElem?_append_right (by omega)]
    have e4:j-A.length-B.length=(j-A.length-B.length-1)+1:=by omega
    rw [e4,List.getElem?_cons_succ] at hj
    have e5:j-A.length=(j-A.length-1)+1:=by omega
    rw [e5,List.getElem?_cons_succ,List.getElem?_append_right (by omega)]
    have e6:j-A.length-1-B.length=j-A.length-B.length-1:=by omega
    rw [e6];exact hj
theorem Sat.tP {w:World} {B:Ctx}: ∀ {A:Ctx},Sat (A++B) w→Sat B w
 | [],h=>h
 | _x::A,h=>Sat.tP (A:=A) (Sat.tD (A:=[]) h)
section
variable {ρ : Nms} {T : Tbl} {w : World}
theorem nn {p:Row→Bool} {H:List Row} {Φ:Ctx}: ∀ {G:List Row} {A:Ctx},Sat (A++(items ρ T G++(items ρ T H++Φ))) w→Sat (A++(items ρ T (aK p G)++(items ρ T (aK (fun r=> !(p r)) G++H)++Φ))) w
 | [],_,h=>h
 | r::G,A,h=>by
  unfold aK
  cases hp:p r
  ·have h1:Sat ((A++[r.item ρ T])++(items ρ T G++(items ρ T H++Φ))) w:=by simpa [items] using h
   have h2:=nn (p:=p) (G:=G) h1
   have h3:Sat (A++r.item ρ T::(items ρ T (aK p G)++(items ρ T (aK (fun r=> !(p r)) G++H)++Φ))) w:=by simpa using h2
   exact h3.move
  ·have h1:Sat ((A++[r.item ρ T])++(items ρ T G++(items ρ T H++Φ))) w:=by simpa [items] using h
   have h2:=nn (p:=p) (G:=G) h1
   simpa [items] using h2
end
abbrev frM (fr:Fr) (A:List Row) (st:StB):Fr:=⟨fr.F,aK (fun r=> !(bT r)) st.G++(A++fr.H),fr.n⟩
abbrev stM (st:StB):StB:={ st with G:=aK bT st.G }
abbrev Pdg:=Nat×Nat×Nat×List Nat
def Ag:List AV→Option (List Nat)
 | []=>some []
 | v::l=>(match v with
  | .nv u=>(match Ag l with
   | some us=>some (u::us)
   | none=>none)
  | _=>none)
def IF:List AV→List Nat→Bool
 | _,[]=>true
 | l,n::ns=>(match l with
  | .nv u::l=>Nat.beq u n&&IF l ns
  | _=>false)
def pdB (G:List Row):List Pdg→Bool
 | []=>true
 | x::Pd=>(match ki (pR x.2.1) G with
  | some (_,.box _ _ cs)=> !(Nat.beq x.2.2.1 1000000000)&&IF (cs.drop x.2.2.1) x.2.2.2
  | _=>false)&&pdB G Pd
def pdF (G:List Row):List Pdg→Bool
 | []=>true
 | x::Pd=>(Nat.beq x.2.2.1 1000000000||(match ki (pR x.2.1) G with
  | some (_,.box _ _ cs)=> !(Nat.beq x.2.2.1 1000000000)&&IF (cs.drop x.2.2.1) x.2.2.2
  | _=>false))&&pdF G Pd
def dm (ops:List Oper) (k:Nat):List Pdg→List Pdg
 | []=>[]
 | x::Pd=>ifS (waits .any ops.toArray k x.1) (dm ops k Pd) (x::dm ops k Pd)
def szA (P:Program) (t:TypeId):Option Nat:=match P.underlying t with
 | some d=>ifS (gR d) (match tiA P t with
  | some z=>some z.1
  | none=>none) (some 1)
 | none=>none
def Mm {R:Type} (X:Cx) (T:Tbl) (fr:Fr) (st:StB) (g:GK) (k:Nat) (o:Oper) (K:List Row→Pdg→StB→Option R):Option (Option R):=match o.op,o.dst with
 | .load t x,some d=>(match opA T st.E fr.F g x with
  | some (.ptr id off)=>(match ki (pR id) st.G with
   | some (j,.box _ bt cs)=>some (match szA X.P t with
    | some n=>(match iD X.P t ((cs.drop off).map (nT st.G fr.H)) with
     | some v=>(match Ag (iW st.c ((cs.drop off).take n)).1 with
      | some us=>ifS (st.low fr&&v.low st.c&&Nat.ble (off+n) cs.length&& !(Nat.beq off 1000000000)) (
        K (iW st.c ((cs.drop off).take n)).2.1 (k,id,off,us) { st with c:=(iW st.c ((cs.drop off).take n)).2.2,E:=bC (some d) g v st.E,G:=st.G.set j (.box id bt (nO cs off (iW st.c ((cs.drop off).take n)).1)) } ) none
      | none=>none)
     | none=>none)
    | none=>none)
   | _=>none)
  | _=>none)
 | _,_=>none
def SD (T:Tbl) (fr:Fr) (st:StB) (g:GK) (o:Oper):Option (Tmp×TypeId×Nat×Nat):=match o.op,o.dst with
 | .load t x,some d=>(match opA T st.E fr.F g x with
  | some (.adr q off)=>(match qc T [] fr.H g (.adr q off) with
   | some _=>none
   | none=>(match cz st.G fr.H (Cj q) with
    | some _=>some (d,t,q,off)
    | none=>none))
  | _=>none)
 | _,_=>none
noncomputable def An {R:Type} (X:Cx) (tb:List Ent) (tp:List bD) (KP:AV→StB→Option R) (ops:List Oper) (fr:Fr) (A:List Row) (T:Tbl) (st:StB) (o:Oper) (K:Tbl→Go_ R):Option R:=
 match LI tp T (frM fr A st) (stM st) o (fun v st'=>MN fr KP T v { st' with G:=st'.G++(aK (fun r=> !(bT r)) st.G++A) }) (K T) with
 | some q=>q
 | none=>stepG ops T (frM fr A st) (stM st) o fun T g=>opD X tb T (frM fr A st) (stM st) g o (K T)
def UF (X:Cx) (T:Tbl) (fr:Fr) (st:StB) (ops:List Oper) (k:Nat) (fl:List Nat) (rest:OT) (f:Nat):Bool:=(match ops[f]? with
 | some o=>(match wv X T fr st o,o.dst with
  | some _,some d=>eO o&&Nat.blt d fr.n&&(match cr st.E fr.F d with | some _=>false | none=>true)&&(o.looksAt ops.toArray).all (fun t=> !(Nat.beq t d))
  | _,_=>false)
 | none=>false)&&(k::rest.ops).all (fun j=>lg ops.toArray j f)&&(fl++rest.fls).all (fun j=>Nat.beq j f||lg ops.toArray j f)
def LP {R:Type} (X:Cx) (ops:List Oper) (fr:Fr) (T:Tbl):List Nat→StB→Go_ R→Option R
 | [],st,K=>K st
 | f::fs,st,K=>(match ops[f]? with
  | some o=>ifS (kj o.dst T&& !(bO f fs)) (Ri X T fr st o fun st=>LP X ops fr T fs st K) none
  | none=>none)
abbrev frA (fr:Fr) (A:List Row):Fr:=⟨fr.F,A++fr.H,fr.n⟩
noncomputable def kW {R:Type} (X:Cx) (tb:List Ent) (tp:List bD) (KP:AV→StB→Option R) (ops:List Oper) (fr:Fr):OT→List Row→List Pdg→Tbl→StB→Go_ R→Option R
 | .nil,A,_,T,st,K=>ifS (yy T fr { st with G:=st.G++A }) (K (p6 T { st with G:=st.G++A })) none
 | .q k _ rest,A,Pd,T,st,K=>(match ops[k]? with
  | some o=>stepG ops T (frM fr A st) (stM st) o fun T g=>match Mm X T (frM fr A st) (stM st) g k o (fun R p st'=>kW X tb tp KP ops fr rest (R++(aK (fun r=> !(bT r)) st.G++A)) (p::Pd) T st' K) with
   | some q=>q
   | none=>(match SD T (frM fr A st) (stM st) g o with
    | some p=>ifS ((stM st).low (frM fr A st)) (CC X T (frM fr A st) (stM st) g p.1 p.2.1 p.2.2.1 p.2.2.2 fun st'=>kW X tb tp KP ops fr rest (aK (fun r=> !(bT r)) st.G++A) ((k,p.2.2.1,1000000000,[])::Pd) T st' K) none
    | none=>IP X T (frM fr A st) (stM st) g o fun st'=>kW X tb tp KP ops fr rest (aK (fun r=> !(bT r)) st.G++A) Pd T st' K)
  | none=>none)
 | .l k _ rest,A,Pd,T,st,K=>(match ops[k]? with
  | some o=>An X tb tp KP ops fr A T st o fun T st'=>ifS (pdB st'.G (dm ops k Pd)) (kW X tb tp KP ops fr rest (aK (fun r=> !(bT r)) st.G++A) (dm ops k Pd) T st' K) none
  | none=>none)
 | .l2 _ k₁ r₁ k₂ r₂,A,Pd,T,st,K=>both
  (match ops[k₁]? with
  | some o=>An X tb tp KP ops fr A T st o fun T st'=>ifS (pdB st'.G (dm ops k₁ Pd)) (kW X tb tp KP ops fr r₁ (aK (fun r=> !(bT r)) st.G++A) (dm ops k₁ Pd) T st' K) none
  | none=>none)
  (match ops[k₂]? with
  | some o=>An X tb tp KP ops fr A T st o fun T st'=>ifS (pdB st'.G (dm ops k₂ Pd)) (kW X tb tp KP ops fr r₂ (aK (fun r=> !(bT r)) st.G++A) (dm ops k₂ Pd) T st' K) none
  | none=>none)
 | .f k _ fl fs rest,A,Pd,T,st,K=>ifS (fl.all (UF X T (frA fr A) st ops k fl rest)&&pdF st.G Pd) (LP X ops (frA fr A) T fs st fun st=>(match ops[k]? with
  | some o=>An X tb tp KP ops fr A T st o fun T st'=>ifS (pdB st'.G (dm ops k Pd)) (kW X tb tp KP ops fr rest (aK (fun r=> !(bT r)) st.G++A) (dm ops k Pd) T st' K) none
  | none=>none)) none
section
variable {R : Type} {X : Cx} {tb : List Ent} {tp : List bD} {KP : AV → StB → Option R} {σ : Option Nat} {Q : aI} {D : List Deferred} {ops : List Oper} {r : R} {fr : Fr} {Φ : Ctx} {K : Go_ R}
theorem O9 {T:Tbl} {st:StB} {g:GK} {o:Oper} {ρ:Nms} {w:World} (hΓ: ∀ it∈X.Γ,it∈Φ) (hT:di T st.E fr.F) (hs:Sat (items ρ T st.G++(items ρ T fr.H++Φ)) w) (h:IP X T fr st g o K=some r):
  ∃ (v:Value) (J:World→Prop),(∀ w',(∃ Φ',Sat (items ρ T fr.H++Φ') w')→J w')∧(∀ w',J w'→Run X.P (ai ρ T st.E fr.F) (T.get g) o w' v)∧aB r K T fr st g o.dst ρ Φ v w:=by
 obtain ⟨dst,op,ty,pos,af,gd⟩:=o
 unfold IP at h
 simp only at h
 have okq: ∀ {O:Value→World→Prop},Okq X.P T g (ai ρ T st.E fr.F) ⟨dst,op,ty,pos,af,gd⟩ w O→ ∃ (v:Value) (J:World→Prop),(∀ w',(∃ Φ',Sat (items ρ T fr.H++Φ') w')→J w')∧(∀ w',J w'→Run X.P (ai ρ T st.E fr.F) (T.get g) ⟨dst,op,ty,pos,af,gd⟩ w' v)∧O v w:=fun h=>by
  obtain ⟨v,h1,h2⟩:=h
  exact ⟨v,fun _=>True,fun _ _=>trivial,fun w' _=>h1 w',h2⟩
 split at h
 ·rename_i cv hcv
  obtain ⟨h1,h2⟩:=lK h
  exact okq ⟨_,fun w'=>G2 hT hcv h1,aB.old h2 (Nat.le_refl _) rfl rfl hs⟩
 ·split at h
  ·rename_i cv hcv
   obtain ⟨h1,h2⟩:=lK h
   refine ⟨_,fun w'=> ∃ Φ',Sat (items ρ T fr.H++Φ') w',fun _ h=>h,fun w' hw=> ?_,aB.old h2 (Nat.le_refl _) rfl rfl hs⟩
   obtain ⟨Φ',hΦ⟩:=hw
   exact Iw (G:=[]) (Φ:=Φ') hΦ hcv h1
  ·obtain ⟨h1,h2⟩:=ao h
   unfold N8 at h2
   split at h2
   ·split at h2
    ·exact okq (Lf h1 hs h2)
    ·split at h2
     ·exact okq (G5 h1 hΓ hs h2)
     ·obtain ⟨rfl,h3⟩:=bW h2
      exact okq (KS hs h3)
   ·exact okq (ED h1 hs h2)
   ·obtain ⟨rfl,h3⟩:=bW h2
    exact okq (Ii h1 hs h3)
   ·exact okq (QF hs h2)
   ·cases h2
def BF (ρ:Nms) (x:Pdg) (w:World):Prop:=Nat.beq x.2.2.1 1000000000=false∧ ∃ cs t,cG w (ρ x.2.1).b t cs∧(cs.drop x.2.2.1).take x.2.2.2.length=x.2.2.2.map fun u=>(ρ u).x
def MY (c:Nat) (Pd:List Pdg):Prop:= ∀ x,x∈Pd→x.2.1<c∧ ∀ u,u∈x.2.2.2→u<c
theorem sK {ρ ρ':Nms} {c:Nat} (ha:aA c ρ ρ') {x:Pdg} (hx:x.2.1<c∧ ∀ u,u∈x.2.2.2→u<c) {w:World}:BF ρ' x w↔BF ρ x w:=by
 unfold BF
 rw [ha _ hx.1]
 have:(x.2.2.2.map fun u=>(ρ' u).x)=x.2.2.2.map fun u=>(ρ u).x:=List.map_congr_left fun u hu=>by rw [ha _ (hx.2 u hu)]
 rw [this]
theorem FA {ρ:Nms}: ∀ {l:List AV} {us:List Nat},IF l us=true→(AV.ah ρ l).take us.length=us.map fun u=>(ρ u).x
 | l,[],_=>by simp
 | l,n::ns,h=>by
  unfold IF at h
  split at h
  ·rename_i u l'
   simp only [Bool.and_eq_true] at h
   have e:=Nat.eq_of_beq_eq_true h.1
   subst e
   simp only [AV.ah,AV.val,List.length_cons,List.take_succ_cons,List.map_cons]
   rw [FA h.2]
  ·cases h
theorem CZ {ρ:Nms}: ∀ {l:List AV} {us:List Nat},Ag l=some us→AV.ah ρ l=us.map (fun u=>(ρ u).x)∧us.length=l.length
 | [],us,h=>by cases h;simp [AV.ah]
 | v::l,us,h=>by
  unfold Ag at h
  split at h
  ·rename_i u
   split at h
   ·rename_i us' hus
    cases h
    obtain ⟨h1,h2⟩:=CZ (ρ:=ρ) hus
    simp [AV.ah,AV.val,h1,h2]
   ·cases h
  ·cases h
theorem Fg {c:Nat}: ∀ {l:List AV} {us:List Nat},Ag l=some us→AV.bh c l=true→ ∀ u,u∈us→u<c
 | [],us,h,_,u,hu=>by cases h;cases hu
 | v::l,us,h,hl,u,hu=>by
  unfold Ag at h
  split at h
  ·rename_i u'
   split at h
   ·rename_i us' hus
    cases h
    simp only [AV.bh,AV.low,Bool.and_eq_true,Nat.blt_eq] at hl
    rcases List.mem_cons.1 hu with rfl | hu
    ·exact hl.1
    ·exact Fg hus hl.2 u hu
   ·cases h
  ·cases h
theorem Ij {ρ:Nms} {T:Tbl} {G:List Row} {B:Ctx} {w:World} (hs:Sat (items ρ T G++B) w): ∀ {Pd:List Pdg},pdB G Pd=true→ ∀ x,x∈Pd→BF ρ x w
 | [],_,x,hx=>by cases hx
 | y::Pd,h,x,hx=>by
  simp only [pdB,Bool.and_eq_true] at h
  rcases List.mem_cons.1 hx with rfl | hx
  ·have h1:=h.1
   split at h1
   ·rename_i j id t cs hf
    obtain ⟨f1,f2⟩:=ju hf
    have:id=x.2.1:=Nat.eq_of_beq_eq_true f2
    subst this
    have hb:cG w (ρ x.2.1).b t (AV.ah ρ cs):=hs.at_ (dF f1)
    simp only [Bool.and_eq_true] at h1
    refine ⟨by simpa using h1.1,_,t,hb,?_⟩
    rw [← AV.eZ]
    exact FA h1.2
   ·cases h1
  ·exact Ij hs h.2 x hx
theorem OI {ρ:Nms} {T:Tbl} {G:List Row} {B:Ctx} {w:World} (hs:Sat (items ρ T G++B) w): ∀ {Pd:List Pdg},pdF G Pd=true→ ∀ x,x∈Pd→BF ρ x w∨Nat.beq x.2.2.1 1000000000=true
 | [],_,x,hx=>by cases hx
 | y::Pd,h,x,hx=>by
  simp only [pdF,Bool.and_eq_true,Bool.or_eq_true] at h
  rcases List.mem_cons.1 hx with rfl | hx
  ·rcases h.1 with h1 | h1
   ·exact .inr h1
   ·exact .inl (Ij hs (Pd:=[x]) (by simp only [pdB,Bool.and_eq_true];exact ⟨h1,trivial⟩) x (List.mem_cons_self ..))
  ·exact OI hs h.2 x hx
theorem oE {k:Nat}: ∀ {Pd:List Pdg} {x:Pdg},x∈dm ops k Pd↔x∈Pd∧waits .any ops.toArray k x.1=false
 | [],x=>by simp [dm]
 | y::Pd,x=>by
  unfold dm
  cases hw:waits .any ops.toArray k y.1
  ·show x∈y::dm ops k Pd↔_
   rw [List.mem_cons,List.mem_cons,oE]
   constructor
   ·rintro (rfl | ⟨h1,h2⟩)
    ·exact ⟨.inl rfl,hw⟩
    ·exact ⟨.inr h1,h2⟩
   ·rintro ⟨rfl | h1,h2⟩
    ·exact .inl rfl
    ·exact .inr ⟨h1,h2⟩
  ·show x∈dm ops k Pd↔_
   rw [List.mem_cons,oE]
   constructor
   ·rintro ⟨h1,h2⟩;exact ⟨.inr h1,h2⟩
   ·rintro ⟨rfl | h1,h2⟩
    ·rw [hw] at h2;cases h2
    ·exact ⟨h1,h2⟩
theorem KD {pend:cM} {w:World} (h: ∀ p,p∈pend→p.2 w):eC pend w:=by
 induction pend with
 | nil=>trivial
 | cons p l ih=>exact ⟨h p (List.mem_cons_self ..),ih fun q hq=>h q (List.mem_cons_of_mem _ hq)⟩
theorem UB {P:Program} {ρ:Nms} {Ev:Env} {g:Bool} {t:TypeId} {x:Operand} {n:Nat} {l:List AV} {v:AV} {ad:Addr} {w:World} {dst:Option Tmp} {ty:TypeId} {pos:String} {af:Array Edge} {gd:Option (Nat×Bool)}
  (hx:Opd Ev g x (.pointer (some ad))) (hn:szA P t=some n) (hv:iD P t l=some v) (hl:n≤l.length) (hc:aM w ad ((AV.ah ρ l).take n)):Run P Ev g ⟨dst,.load t x,ty,pos,af,gd⟩ w (v.val ρ):=by
 have h':iD P t (l.drop 0)=some v:=by simpa using hv
 obtain ⟨d,n',bytes,z,c1,c2,c3⟩:=kD (X:=⟨P,[],[],[],(fun _ h=>nomatch h),0,[],[],(fun _ h=>nomatch h),[]⟩) (ρ:=ρ) h'
 have c1:P.underlying t=some d:=c1
 unfold szA at hn
 rw [c1] at hn
 rcases cw hn with ⟨hd,h2⟩ | ⟨hd,h2⟩
 ·split at h2
  ·rename_i z2 hz2
   obtain ⟨m,b2,z2⟩:=z2
   cases h2
   unfold iD at hv
   rw [c1] at hv
   rcases cw hv with ⟨_,h3⟩ | ⟨h3,_⟩
   ·rw [hz2] at h3
    obtain ⟨_,h5⟩:=ao h3
    cases h5
    simp only [AV.val,AV.gH]
    exact zj c1 hd (bH hz2) hx (fun _=>hc) (by rw [List.length_take,AV.aH];exact Nat.min_eq_left hl)
   ·rw [hd] at h3;cases h3
  ·cases h2
 ·cases h2
  rw [hd] at c3
  simp only [Bool.false_eq_true,if_false] at c3
  refine zw c1 hd hx (fun _=> ?_)
  have e:(AV.ah ρ l).take 1=[v.val ρ]:=by
   cases hq:AV.ah ρ l with
   | nil=>rw [hq] at c3;cases c3
   | cons a l=>rw [hq] at c3;cases c3;rfl
  rw [e] at hc;exact hc
theorem J1 {l:List Value} {off n:Nat} (h:off+n≤l.length):j2 l off ((l.drop off).take n)=l:=by
 unfold j2
 have e1:((l.drop off).take n).length=n:=by rw [List.length_take,List.length_drop];omega
 rw [e1]
 have e2:(l.drop off).take n++l.drop (off+n)=l.drop off:=by
  rw [← List.drop_drop,List.take_append_drop]
 rw [List.append_assoc,e2,List.take_append_drop]
theorem QP {T:Tbl} {st:StB} {g:GK} {k:Nat} {o:Oper} {ρ:Nms} {w:World} {KQ:List Row→Pdg→StB→Option R} (hs:Sat (items ρ T st.G++(items ρ T fr.H++Φ)) w) (h:Mm X T fr st g k o KQ=some (some r)):
  ∃ (v:Value) (ρ':Nms) (st':StB) (av:AV) (Rq:List Row) (p:Pdg),KQ Rq p st'=some r∧aA st.c ρ ρ'∧st.c≤st'.c∧st'.E=bC o.dst g av st.E∧av.val ρ'=v∧ai ρ' T st.E fr.F=ai ρ T st.E fr.F∧items ρ' T fr.H=items ρ T fr.H∧
   Sat (items ρ' T st'.G++(items ρ' T (Rq++fr.H)++Φ)) w∧p.1=k∧BF ρ' p w∧(p.2.1<st'.c∧ ∀ u,u∈p.2.2.2→u<st'.c)∧(∀ w',BF ρ' p w'→Run X.P (ai ρ T st.E fr.F) (T.get g) o w' v):=by
 obtain ⟨dst,op,ty,pos,af,gd⟩:=o
 unfold Mm at h
 simp only at h
 split at h
 ·rename_i t x d
  split at h
  ·rename_i id off hx
   split at h
   ·rename_i j id' bt cs hf
    simp only [Option.some.injEq] at h
    split at h
    ·rename_i n hn
     split at h
     ·rename_i v hv
      split at h
      ·rename_i us hus
       obtain ⟨h1,h2⟩:=ao h
       simp only [Bool.and_eq_true,Nat.ble_eq] at h1
       obtain ⟨⟨⟨hl,hvl⟩,hle⟩,hmk⟩:=h1
       obtain ⟨l1,l2,l3,l4⟩:=StB.bz.1 hl
       obtain ⟨f1,f2⟩:=ju hf
       have:id'=id:=Nat.eq_of_beq_eq_true f2
       subst this
       have hj:j<st.G.length:=(List.getElem?_eq_some_iff.1 f1).1
       have hrow:=lU l3 f1
       simp only [Row.low,Bool.and_eq_true,Nat.blt_eq] at hrow
       have hsub: ∀ {l:List AV} {c m q:Nat},AV.bh c l=true→AV.bh c ((l.drop m).take q)=true:=fun {l c m q} h=>by
        have dr: ∀ (l:List AV) (m:Nat),AV.bh c l=true→AV.bh c (l.drop m)=true:=fun l=>by
         induction l with
         | nil=>intro m h;simp [AV.bh]
         | cons a l ih=>
          intro m h
          cases m with
          | zero=>exact h
          | succ m=>simp only [AV.bh,Bool.and_eq_true] at h;exact ih m h.2
        have tk: ∀ (l:List AV) (m:Nat),AV.bh c l=true→AV.bh c (l.take m)=true:=fun l=>by
         induction l with
         | nil=>intro m h;simp [AV.bh]
         | cons a l ih=>
          intro m h
          cases m with
          | zero=>rfl
          | succ m=>simp only [AV.bh,Bool.and_eq_true,List.take_succ_cons] at h ⊢; exact ⟨h.1,ih m h.2⟩
        exact tk _ _ (dr _ _ h)
       obtain ⟨ρ',lk⟩:=wj (ρ:=ρ) (hsub (m:=off) (q:=n) hrow.2)
       obtain ⟨i1,i2⟩:=CZ (ρ:=ρ') hus
       have hil:=Fg hus lk.lw
       generalize iW st.c ((cs.drop off).take n)=L at h2 lk hus i1 i2 hil
       obtain ⟨ls,Rq,c'⟩:=L
       have hcc:st.c≤c':=lk.le
       have hag:aA st.c ρ ρ':=lk.ag
       have heq:AV.ah ρ' ls=AV.ah ρ ((cs.drop off).take n):=lk.eq
       have hb:cG w (ρ id').b bt (AV.ah ρ cs):=hs.at_ (dF f1)
       have hcsl:AV.ah ρ' cs=AV.ah ρ cs:=AV.bc hag _ hrow.2
       have hval:v.val ρ'=v.val ρ:=AV.iO hag _ hvl
       have hus2:us.length=n:=by
        have e1:(AV.ah ρ' ls).length=n:=by rw [heq,AV.aH,List.length_take,List.length_drop];omega
        rw [i2,← AV.aH (ρ:=ρ') (l:=ls)];exact e1
       have eG:=aF (T:=T) hag l3
       have eH:=aF (T:=T) hag l4
       have e3:(us.map fun u=>(ρ' u).x)=((AV.ah ρ cs).drop off).take n:=by rw [← i1,heq,AV.gH,AV.eZ]
       refine ⟨v.val ρ,ρ',_,v,Rq,(k,id',off,us),h2,hag,hcc,rfl,hval,kh hl hag,eH,?_,rfl,⟨by simpa using hmk,AV.ah ρ cs,bt,?_,?_⟩,⟨Nat.lt_of_lt_of_le hrow.1 hcc,hil⟩,fun w' hw=> ?_⟩
       ·show Sat (items ρ' T (st.G.set j _)++(items ρ' T (Rq++fr.H)++Φ)) w
        rw [du hj,eG]
        have e4:(Row.box id' bt (nO cs off ls)).item ρ' T=(Row.box id' bt cs).item ρ T:=by
         simp only [Row.item]
         rw [hag _ hrow.1,← pW,hcsl,heq,AV.gH,AV.eZ,J1 (by rw [AV.aH];exact hle)]
        have hi:=dF (ρ:=ρ) (T:=T) (Φ:=items ρ' T (Rq++fr.H)++Φ) f1
        have e5:(items ρ T st.G++(items ρ' T (Rq++fr.H)++Φ)).set j ((Row.box id' bt (nO cs off ls)).item ρ' T)=items ρ T st.G++(items ρ' T (Rq++fr.H)++Φ):=by
         rw [e4]
         apply List.ext_getElem?
         intro q
         by_cases hq:q=j
         ·subst hq
          rw [List.getElem?_set_self (List.getElem?_eq_some_iff.1 hi).1,hi]
         ·rw [List.getElem?_set_ne (fun h=>hq h.symm)]
        rw [e5,aJ,eH,List.append_assoc]
        have ins: ∀ (L:List Item) (A B:Ctx),Sat (A++B) w→(∀ it∈L,it.own=[]∧ ∀ M w,it.P M w)→Sat (A++(L++B)) w:=fun L=>by
         induction L with
         | nil=>intro A B h _;exact h
         | cons x L ih=>
          intro A B h hL
          have h1:=ih A B h (fun it hit=>hL it (List.mem_cons_of_mem _ hit))
          have hx:=hL x (List.mem_cons_self ..)
          refine h1.qP (fun j k=>(j<A.length∧k=j)∨(A.length<j∧k+1=j)) (fun j jt hj=> ?_) (fun j k q hjk h1 h2=>by omega)
          by_cases e:j<A.length
          ·rw [List.getElem?_append_left e] at hj
           exact .inr ⟨j,jt,.inl ⟨e,rfl⟩,by rw [List.getElem?_append_left e];exact hj,aY.refl⟩
          ·rw [List.getElem?_append_right (by omega)] at hj
           by_cases e2:j=A.length
           ·subst e2
            simp at hj
            subst hj
            exact .inl hx
           ·refine .inr ⟨j-1,jt,.inr ⟨by omega,by omega⟩,?_,aY.refl⟩
            rw [List.getElem?_append_right (by omega)]
            have:j-A.length=(j-1-A.length)+1:=by omega
            rw [this,List.cons_append,List.getElem?_cons_succ] at hj
            exact hj
        refine ins (items ρ' T Rq) (items ρ T st.G) (items ρ T fr.H++Φ) hs (fun it hit=> ?_)
        obtain ⟨rw_,hr1,rfl⟩:=List.mem_map.1 hit
        have h9:=lk.rp rw_ hr1
        have h10:rw_.item ρ' T=rw_.item ρ' []:=by
         have hgd:rw_.gd=none:=lk.rg rw_ hr1
         exact Row.rG (by rw [hgd,Tbl.get_none,Tbl.get_none])
        rw [h10]
        exact ⟨(rw_.item ρ' []).hp h9.1,h9.2⟩
       ·show cG w (ρ' id').b bt _
        rw [hag _ hrow.1];exact hb
       ·show ((AV.ah ρ cs).drop off).take us.length=us.map fun u=>(ρ' u).x
        rw [hus2,e3]
       ·obtain ⟨_,csv,t2,b1,b2⟩:=hw
        have b1:cG w' (ρ' id').b t2 csv:=b1
        have b2:(csv.drop off).take us.length=us.map fun u=>(ρ' u).x:=b2
        rw [hag _ hrow.1] at b1
        rw [hus2,e3] at b2
        have hx':=az (ρ:=ρ) hx
        simp only [AV.val] at hx'
        have e6:AV.ah ρ ((cs.drop off).map (nT st.G fr.H))=(AV.ah ρ cs).drop off:=by rw [zq hs,AV.eZ]
        refine UB hx' hn hv (by rw [List.length_map,List.length_drop];omega) ?_
        rw [e6]
        refine b1.part off ?_
        have:(((AV.ah ρ cs).drop off).take n).length=n:=by rw [List.length_take,List.length_drop,AV.aH];omega
        rw [this];exact b2
      ·cases h
     ·cases h
    ·cases h
   ·cases h
  ·cases h
 ·cases h
theorem yJ {order:OT} {k mk_:Nat} {pend:cM} {EV:List Flt} {o:Oper} {T T':Tbl} {g:GK} {fr1:Fr} {st1:StB} {ρ:Nms} {w:World} {v:Value} {J:World→Prop} (hn:fr1.n=fr.n) (so:OD ops fr fr1 st1 ρ o T T' g) (ho:ops[k]? =some o) (hfr: ∀ x∈EV,lg ops.toArray k x.1=true) (hJw:J w)
  (hr: ∀ w',J w'→Run X.P (ai ρ T' st1.E fr1.F) (T'.get g) o w' v) (hnext:WDE X.P σ ops.toArray Q fr.n D order EV ((k,J)::pend) (lv o.dst (T'.get g) v (ai ρ T' st1.E fr1.F)) w):
  WDE X.P σ ops.toArray Q fr.n D (.q k mk_ order) EV pend (ai ρ T' st1.E fr1.F) w:=by
 have ho':ops.toArray[k]? =some o:=by simpa using ho
 have hds:=so.ds
 rw [hn] at hds
 intro a hfit hD hC
 have hC': ∀ v,∀ x∈EV,ng X.P ops.toArray (a.put o.dst v) x:=fun v x hx=>(hC x hx).put ho' (hfr x hx)
 simp only [wpD,ho']
 cases hg:g with
 | none=>
  subst hg
  rw [Tbl.get_none] at hr hnext
  refine ⟨v,J,hJw,.inl ⟨by simp [Region.wanted,so.gg],fun w' hw'=>hr w' hw' _ a hfit rfl⟩,?_⟩
  exact hnext _ (hfit.lv hds) (by rw [fD];exact hD) (hC' _)
 | some gk=>
  obtain ⟨rj,par,b,g1,g2,g3,g4⟩:=so.gk gk hg
  rw [hn] at g3
  subst hg
  have hw:=qp (ops:=ops.toArray) so.gg (by simpa using g1) g2 hfit g3
  rw [g4] at hw
  cases hT:T'.get (some gk)
  ·rw [hT] at hw hnext
   refine ⟨undef,J,hJw,.inr ⟨hw,rfl⟩,?_⟩
   exact hnext _ (hfit.lv (g:=false) (v:=v) hds) (by rw [fD];exact hD) (hC' _)
  ·rw [hT] at hw hr hnext
   refine ⟨v,J,hJw,.inl ⟨hw,fun w' hw'=>hr w' hw' _ a hfit rfl⟩,?_⟩
   exact hnext _ (hfit.lv hds) (by rw [fD];exact hD) (hC' _)
theorem UC {G H:List Row} {s:Src} {rw_:Row} {q c:Nat} (h:s.at_ G H rw_) (hk:Cj q rw_=true) (hG:aU c G=true) (hH:aU c H=true):q<c:=by
 have key: ∀ {L:List Row},aU c L=true→rw_∈L→q<c:=fun {L} hl hm=>by
  have hr:rw_.low c=true:=by
   induction L with
   | nil=>cases hm
   | cons x L ih=>
    simp only [aU,Bool.and_eq_true] at hl
    rcases List.mem_cons.1 hm with rfl | hm
    ·exact hl.1
    ·exact ih hl.2 hm
  unfold Cj at hk
  split at hk
  ·have e:=Nat.eq_of_beq_eq_true hk
   subst e
   simp only [Row.low,Bool.and_eq_true,Nat.blt_eq] at hr
   exact hr.1.1
  ·cases hk
 cases s with
 | top i=>exact key hG (List.mem_of_getElem? h)
 | frz i=>exact key hH (List.mem_of_getElem? h)
 | nilI t=>exact h.elim
 | nilO t e=>exact h.elim
 | nilM k v=>exact h.elim
def HP (ρ:Nms) (T:Tbl) (fr:Fr) (A:List Row) (Pd:List Pdg) (pend:cM) (w:World):Prop:= ∀ p,p∈pend→ ∀ w',(∃ Φ',Sat (items ρ T (A++fr.H)++Φ') w')→(∀ x,x∈Pd→x.1=p.1→BF ρ x w'∨(Nat.beq x.2.2.1 1000000000=true∧Ext w w'))→p.2 w'
def EVI (EV:List Flt):Ctx:=EV.map fun x=>box x.2.1 x.2.2.1 x.2.2.2
def ER (ops:List Oper) (order:OT) (EV:List Flt):Prop:= ∀ x∈EV,(∀ j∈order.ops,lg ops.toArray j x.1=true)∧ ∀ j∈order.fls,j=x.1∨lg ops.toArray j x.1=true
theorem xh {B:Ctx} {w:World} {p:Flt→Bool}: ∀ {EV:List Flt} {A:Ctx},Sat (A++(EVI EV++B)) w→Sat (A++(EVI (EV.filter p)++B)) w
 | [],_,h=>h
 | x::EV,A,h=>by
  rw [List.filter_cons]
  split
  ·have h1:Sat ((A++[box x.2.1 x.2.2.1 x.2.2.2])++(EVI EV++B)) w:=by simpa [EVI] using h
   have:=xh (p:=p) h1
   simpa [EVI] using this
  ·exact xh (p:=p) (Sat.tD (A:=A) (B:=EVI EV++B) h)
theorem B7 {B:Ctx} {w:World}: ∀ {EV:List Flt} {A:Ctx},Sat (A++(EVI EV++B)) w→Sat (A++B) w
 | [],_,h=>h
 | _::EV,A,h=>B7 (EV:=EV) (Sat.tD (A:=A) (B:=EVI EV++B) h)
theorem Fits.old {n:Nat} {E:Env} {a:Act} {d:Tmp} {v:Value} (h:Fits n E a) (e:a.tmps.getD d undef=v):Fits n ((d,true,v)::E) a:=by
 refine ⟨h.size,fun t g v' ht=> ?_⟩
 simp only [look] at ht
 cases hb:Nat.beq d t
 ·rw [hb,cond_false] at ht
  exact h.at_ t g v' ht
 ·rw [hb,cond_true] at ht
  have:=Nat.eq_of_beq_eq_true hb
  subst this
  cases ht
  exact e
theorem Fits.V6 {n:Nat} {E:Env} {a:Act} {d:Tmp} (h:Fits n E a) (hd:look E d=none) (v:Value):Fits n E (a.put (some d) v):=by
 refine ⟨by simp [Act.put,h.size],fun t g v' ht=> ?_⟩
 have hne:d≠t:=fun e=>by subst e;rw [hd] at ht;cases ht
 have:=Act.eval_put (a:=a) (dst:=some d) (v:=v) (x:= .tmp t) (fun e he hc=>hne (by cases he;cases hc;rfl))
 exact Eq.trans this (h.at_ t g v' ht)
theorem Ts {X:Cx} {T:Tbl} {fr:Fr} {st:StB} {o:Oper} {p:TypeId×List AV×List AV} (h:wv X T fr st o=some p):o.guard=none∧ ∀ cs b,o.op≠ .select cs b:=by
 unfold wv at h
 split at h
 ·rename_i e1 e2
  exact ⟨e2,fun cs b hc=>by rw [e1] at hc;cases hc⟩
 ·rename_i e1 e2
  exact ⟨e2,fun cs b hc=>by rw [e1] at hc;cases hc⟩
 ·cases h
theorem ng.same {P:Program} {ops:Array Oper} {a:Act} {x:Flt} {X:Cx} {T:Tbl} {fr:Fr} {st:StB} {ρ:Nms} {o:Oper} (hP:X.P=P) (h:ng P ops a x) (ho:ops[x.1]? =some o) (hf:Fits fr.n (ai ρ T st.E fr.F) a):
  ∀ e vs cs,wv X T fr st o=some (e,vs,cs)→x.2.2.1=e∧x.2.2.2=AV.ah ρ cs:=fun e vs cs hA=>by
 subst hP
 obtain ⟨o',d,w0,h1,h2,h3,h4,h5,h6⟩:=h
 rw [ho] at h1
 cases h1
 have h7:=IC (ρ:=ρ) hA w0 _ a hf
 rw [h6] at h7
 have h8:w0.alloc (.cells x.2.2.2.toArray x.2.2.1)=w0.alloc (.cells (AV.ah ρ cs).toArray e):=by
  injection h7
 have h9:(some (Obj.cells x.2.2.2.toArray x.2.2.1):Option Obj)=some (.cells (AV.ah ρ cs).toArray e):=by
  rw [← heap_alloc_new w0 (.cells x.2.2.2.toArray x.2.2.1),← heap_alloc_new w0 (.cells (AV.ah ρ cs).toArray e),h8]
 simp only [Option.some.injEq,Obj.cells.injEq] at h9
 exact ⟨h9.2.1,by simpa using h9.1⟩
theorem KN {frx:Fr} {T:Tbl} {w:World} {a:Act} {KK:Go_ R}: ∀ {fs:List Nat} {EV:List Flt} {st:StB} {ρ:Nms},di T st.E frx.F→Sat (items ρ T st.G++(items ρ T frx.H++(EVI EV++Φ))) w→Fits frx.n (ai ρ T st.E frx.F) a→
  (∀ x∈EV,ng X.P ops.toArray a x)→(∀ f∈fs,f∈EV.map (·.1))→LP X ops frx T fs st KK=some r→
  ∃ st' ρ',KK st'=some r∧aA st.c ρ ρ'∧st.c≤st'.c∧di T st'.E frx.F∧Fits frx.n (ai ρ' T st'.E frx.F) a∧items ρ' T frx.H=items ρ T frx.H∧
   Sat (items ρ' T st'.G++(items ρ' T frx.H++(EVI (EV.filter fun x=> !(bO x.1 fs))++Φ))) w
 | [],EV,st,ρ,ht,hs,hf,hC,_,h=>by
  refine ⟨st,ρ,h,.refl,Nat.le_refl _,ht,hf,rfl,?_⟩
  have e:(EV.filter fun x=> !(bO x.1 []))=EV:=by
   rw [List.filter_eq_self]
   intro x _
   rfl
  rw [e];exact hs
 | f::fs,EV,st,ρ,ht,hs,hf,hC,hin,h=>by
  unfold LP at h
  split at h
  ·rename_i o ho
   obtain ⟨h1,h2⟩:=ao h
   simp only [Bool.and_eq_true,Bool.not_eq_true'] at h1
   obtain ⟨x,hx,hxf⟩:=List.mem_map.1 (hin f (List.mem_cons_self ..))
   subst hxf
   obtain ⟨E1,E2,hE⟩:=List.append_of_mem hx
   have ho':ops.toArray[x.1]? =some o:=by simpa using ho
   have hs1:Sat (((items ρ T st.G++items ρ T frx.H)++EVI E1)++box x.2.1 x.2.2.1 x.2.2.2::(EVI E2++Φ)) w:=by
    have e:items ρ T st.G++(items ρ T frx.H++(EVI EV++Φ))=((items ρ T st.G++items ρ T frx.H)++EVI E1)++box x.2.1 x.2.2.1 x.2.2.2::(EVI E2++Φ):=by
     rw [hE];simp [EVI]
    rw [← e];exact hs
   have hs2:Sat ([]++box x.2.1 x.2.2.1 x.2.2.2::((items ρ T st.G++items ρ T frx.H)++(EVI E1++(EVI E2++Φ)))) w:=by
    have:=hs1.PX
    simpa using this
   have hs3:Sat (items ρ T st.G++(items ρ T frx.H++(box x.2.1 x.2.2.1 x.2.2.2::(EVI E1++(EVI E2++Φ))))) w:=by
    have:=hs2.move
    simpa using this
   have hR:=hC x hx
   obtain ⟨o2,d,w0,r1,r2,r3,r4,r5,r6⟩:=id hR
   rw [ho'] at r1
   cases r1
   obtain ⟨ρ1,st1,av,k1,k2,k3,k4,k5,k6,k7,k8⟩:=TQ hs3 (ng.same rfl hR ho' hf) h2
   have e1:ai ρ1 T st1.E frx.F=(d,true,uY o x.2.1)::ai ρ T st.E frx.F:=by
    rw [k4,nq,k5,k6,r2,Tbl.get_none];rfl
   have hs4:Sat (items ρ1 T st1.G++(items ρ1 T frx.H++(EVI (EV.filter fun y=> !(Nat.beq x.1 y.1))++Φ))) w:=by
    have e2:(EV.filter fun y=> !(Nat.beq x.1 y.1))=(E1++E2).filter fun y=> !(Nat.beq x.1 y.1):=by
     rw [hE];simp
    rw [e2]
    have:Sat ((items ρ1 T st1.G++items ρ1 T frx.H)++(EVI (E1++E2)++Φ)) w:=by
     have e3:EVI (E1++E2)=EVI E1++EVI E2:=by simp [EVI]
     rw [e3];simpa using k8
    have:=xh (p:=fun y=> !(Nat.beq x.1 y.1)) this
    simpa using this
   have ht1:di T st1.E frx.F:=by rw [k4];exact ht.out h1.1 none av
   obtain ⟨st2,ρ2,q1,q2,q3,q4,q5,q6,q7⟩:=KN ht1 hs4 (by rw [e1];exact hf.old r5) (fun y hy=>hC y (List.mem_filter.1 hy).1) (fun f' hf'=>by
    obtain ⟨y,hy,hyf⟩:=List.mem_map.1 (hin f' (List.mem_cons_of_mem _ hf'))
    subst hyf
    refine List.mem_map.2 ⟨y,List.mem_filter.2 ⟨hy,?_⟩,rfl⟩
    rw [Bool.not_eq_true',Bool.eq_false_iff]
    intro hb
    have:=Nat.eq_of_beq_eq_true hb
    rw [← this] at hf'
    rw [bN.2 hf'] at h1
    cases h1.2) k1
   refine ⟨st2,ρ2,q1,k2.trans q2 k3,Nat.le_trans k3 q3,q4,q5,q6.trans k7,?_⟩
   have e4:((EV.filter fun y=> !(Nat.beq x.1 y.1)).filter fun y=> !(bO y.1 fs))=EV.filter fun y=> !(bO y.1 (x.1::fs)):=by
    rw [List.filter_filter]
    congr 1
    funext y
    simp only [bO,Bool.not_or]
    exact Bool.and_comm ..
   rw [← e4];exact q7
  ·cases h
theorem Uh (hΓ: ∀ it∈X.Γ,it∈Φ) (htb: ∀ e∈tb,e.Ok X.P X.Γ) (htp: ∀ e∈tp,e.Ok X.P X.Γ): ∀ {order:OT} {EV:List Flt} {A:List Row} {Pd:List Pdg} {T:Tbl} {st:StB} {ρ:Nms} {w:World} {pend:cM},di T st.E fr.F→kJ ops fr.n T→FT T fr→ER ops order EV→MY st.c Pd→Sat (items ρ T st.G++(items ρ T (A++fr.H)++(EVI EV++Φ))) w→
  HP ρ T fr A Pd pend w→kW X tb tp KP ops fr order A Pd T st K=some r→
  (∀ st' ρ' w',aA st.c ρ ρ'→st.c≤st'.c→K st'=some r→Sat (items ρ' [] st'.G++(items ρ' [] fr.H++Φ)) w'→At Q .normal fr.n D (ai ρ' [] st'.E fr.F) w')→
  (∀ v st' ρ' w',aA st.c ρ ρ'→st.c≤st'.c→KP v st'=some r→Sat (items ρ' [] st'.G++(items ρ' [] fr.H++Φ)) w'→AtP Q (pan (v.val ρ')) D w')→
  WDE X.P σ ops.toArray Q fr.n D order EV pend (ai ρ T st.E fr.F) w:=by
 intro order
 -- a loud operation, the rest by induction
 have loud: ∀ (rest:OT) (k mk:Nat),(∀ {EV:List Flt} {A:List Row} {Pd:List Pdg} {T:Tbl} {st:StB} {ρ:Nms} {w:World} {pend:cM},di T st.E fr.F→kJ ops fr.n T→FT T fr→ER ops rest EV→MY st.c Pd→Sat (items ρ T st.G++(items ρ T (A++fr.H)++(EVI EV++Φ))) w→
   HP ρ T fr A Pd pend w→kW X tb tp KP ops fr rest A Pd T st K=some r→
   (∀ st' ρ' w',aA st.c ρ ρ'→st.c≤st'.c→K st'=some r→Sat (items ρ' [] st'.G++(items ρ' [] fr.H++Φ)) w'→At Q .normal fr.n D (ai ρ' [] st'.E fr.F) w')→
   (∀ v st' ρ' w',aA st.c ρ ρ'→st.c≤st'.c→KP v st'=some r→Sat (items ρ' [] st'.G++(items ρ' [] fr.H++Φ)) w'→AtP Q (pan (v.val ρ')) D w')→
   WDE X.P σ ops.toArray Q fr.n D rest EV pend (ai ρ T st.E fr.F) w)→
   ∀ {EV:List Flt} {A:List Row} {Pd:List Pdg} {T:Tbl} {st:StB} {ρ:Nms} {w:World} {pend:cM},di T st.E fr.F→kJ ops fr.n T→FT T fr→(∀ x∈EV,lg ops.toArray k x.1=true)→ER ops rest EV→MY st.c Pd→Sat (items ρ T st.G++(items ρ T (A++fr.H)++(EVI EV++Φ))) w→
   HP ρ T fr A Pd pend w→
   (match ops[k]? with
    | some o=>An X tb tp KP ops fr A T st o fun T st'=>ifS (pdB st'.G (dm ops k Pd)) (kW X tb tp KP ops fr rest (aK (fun r=> !(bT r)) st.G++A) (dm ops k Pd) T st' K) none
    | none=>none)=some r→
   (∀ st' ρ' w',aA st.c ρ ρ'→st.c≤st'.c→K st'=some r→Sat (items ρ' [] st'.G++(items ρ' [] fr.H++Φ)) w'→At Q .normal fr.n D (ai ρ' [] st'.E fr.F) w')→
   (∀ v st' ρ' w',aA st.c ρ ρ'→st.c≤st'.c→KP v st'=some r→Sat (items ρ' [] st'.G++(items ρ' [] fr.H++Φ)) w'→AtP Q (pan (v.val ρ')) D w')→
   WDE X.P σ ops.toArray Q fr.n D (.l k mk rest) EV pend (ai ρ T st.E fr.F) w:=by
  intro rest k mk ih EV A Pd T st ρ w pend h1 h2 hf hfk hev hpd hs hp h next pnext
  have hΓ': ∀ it∈X.Γ,it∈EVI EV++Φ:=fun it hit=>List.mem_append_right _ (hΓ it hit)
  split at h
  ·rename_i o ho
   have hs1:=nn (A:=[]) (p:=bT) hs
   refine Qa (k:=k) (mk:=mk) (o:=o) (by simpa using ho) hfk rfl ?_
   have fin: ∀ T' st' ρ' w',di T' st'.E (frM fr A st).F→kJ ops (frM fr A st).n T'→FT T' fr→aA (stM st).c ρ ρ'→(stM st).c≤st'.c→(ifS (pdB st'.G (dm ops k Pd)) (kW X tb tp KP ops fr rest (aK (fun r=> !(bT r)) st.G++A) (dm ops k Pd) T' st' K) none)=some r→items ρ' T' (frM fr A st).H=items ρ T (frM fr A st).H→Sat (items ρ' T' st'.G++(items ρ' T' (frM fr A st).H++(EVI EV++Φ))) w'→
     WL X.P σ ops.toArray (QKE X.P σ ops.toArray Q rest EV (still .any ops.toArray k pend)) fr.n D [] (ai ρ' T' st'.E (frM fr A st).F) w':=by
    intro T' st' ρ' w' a1 a2 a3 a4 a5 a6 a7 a8
    obtain ⟨a9,a10⟩:=ao a6
    have e1:aK (fun r=> !(bT r)) st.G++(A++fr.H)=(aK (fun r=> !(bT r)) st.G++A)++fr.H:=by rw [List.append_assoc]
    have hs8:Sat (items ρ' T' st'.G++(items ρ' T' ((aK (fun r=> !(bT r)) st.G++A)++fr.H)++(EVI EV++Φ))) w':=by rw [← e1];exact a8
    have conv: ∀ w2,(∃ Φ',Sat (items ρ' T' ((aK (fun r=> !(bT r)) st.G++A)++fr.H)++Φ') w2)→ ∃ Φ',Sat (items ρ T (A++fr.H)++Φ') w2:=fun w2 hw=>by
     obtain ⟨Φ',hΦ⟩:=hw
     refine ⟨Φ',?_⟩
     rw [← e1] at hΦ
     have hΦ2:Sat (items ρ T (aK (fun r=> !(bT r)) st.G++(A++fr.H))++Φ') w2:=by rw [← a7];exact hΦ
     rw [aJ,List.append_assoc] at hΦ2
     exact hΦ2.tP
    have mem: ∀ p,p∈still .any ops.toArray k pend→p∈pend∧ ∀ x,x∈Pd→x.1=p.1→x∈dm ops k Pd:=fun p hpm=>by
     unfold still at hpm
     rw [List.mem_filter] at hpm
     exact ⟨hpm.1,fun x hx he=>oE.2 ⟨hx,by rw [he];simpa using hpm.2⟩⟩
    have hBF:=Ij (B:=items ρ' T' ((aK (fun r=> !(bT r)) st.G++A)++fr.H)++(EVI EV++Φ)) hs8 a9
    have HP':HP ρ' T' fr (aK (fun r=> !(bT r)) st.G++A) (dm ops k Pd) (still .any ops.toArray k pend) w':=fun p hpm w2 hw hB=>by
     obtain ⟨m1,m2⟩:=mem p hpm
     exact hp p m1 w2 (conv w2 hw) (fun x hx he=>(hB x (m2 x hx he) he).elim (fun h=> .inl ((sK a4 (hpd x hx)).1 h)) (fun h=>by have:=(hBF x (m2 x hx he)).1;rw [h.1] at this;cases this))
    refine bG (Vl (KD fun p hpm=>HP' p hpm w' ⟨EVI EV++Φ,hs8.tP⟩ (fun x hx _=> .inl (hBF x hx))) ?_)
    exact ih a1 a2 a3 hev (fun x hx=>⟨Nat.lt_of_lt_of_le (hpd x (oE.1 hx).1).1 a5,fun u hu=>Nat.lt_of_lt_of_le ((hpd x (oE.1 hx).1).2 u hu) a5⟩) hs8 HP' a10 (fun st2 ρ2 w2 b1 b2 b3 b4=>next st2 ρ2 w2 (a4.trans b1 a5) (Nat.le_trans a5 b2) b3 b4) (fun v st2 ρ2 w2 b1 b2 b3 b4=>pnext v st2 ρ2 w2 (a4.trans b1 a5) (Nat.le_trans a5 b2) b3 b4)
   unfold An at h
   split at h
   ·rename_i q hq
    subst h
    refine Sl (fr:=frM fr A st) (st:=stM st) h1 hs1 hΓ' htp hq (fun st' ρ' w' a1 a4 a5 a6 a7 a8=>fin T st' ρ' w' a1 h2 hf a4 a5 a6 a7 a8) (fun v st' ρ' w' a1 a2 a3 ae1 ae2 a4=> ?_)
    have a4':Sat (items ρ' T ({ st' with G:=st'.G++(aK (fun r=> !(bT r)) st.G++A) }:StB).G++(items ρ' T fr.H++(EVI EV++Φ))) w':=by
     have e2:(frM fr A st).H=(aK (fun r=> !(bT r)) st.G++A)++fr.H:=by rw [List.append_assoc]
     rw [e2,aJ,List.append_assoc] at a4
     show Sat (items ρ' T (st'.G++(aK (fun r=> !(bT r)) st.G++A))++_) w'
     rw [aJ,List.append_assoc]
     exact a4
    obtain ⟨st2,k1,k2,_,k3⟩:=Kp (fr:=fr) hf a3 a4'
    rw [← List.append_assoc] at k3
    replace k3:=B7 k3
    rw [List.append_assoc] at k3
    have k2':st2.c=st'.c:=k2
    have:=pnext v st2 ρ' w' a1 (by rw [k2'];exact a2) k1 k3
    exact Ih this
   ·exact Hx (fr:=frM fr A st) (st:=stM st) (fr0:=fr) (K:=fun T st'=>ifS (pdB st'.G (dm ops k Pd)) (kW X tb tp KP ops fr rest (aK (fun r=> !(bT r)) st.G++A) (dm ops k Pd) T st' K) none) h1 h2 rfl (fun r hr=>List.mem_append_right _ (List.mem_append_right _ hr)) hf hs1 hΓ' htb h fin
  ·cases h
 induction order with
 | nil=>
  intro EV A Pd T st ρ w pend h1 h2 hf hev hpd hs hp h next pnext
  have hΓ': ∀ it∈X.Γ,it∈EVI EV++Φ:=fun it hit=>List.mem_append_right _ (hΓ it hit)
  unfold kW at h
  obtain ⟨h3,h4⟩:=ao h
  have hs':Sat (items ρ T ({ st with G:=st.G++A }:StB).G++(items ρ T fr.H++(EVI EV++Φ))) w:=by
   show Sat (items ρ T (st.G++A)++_) w
   rw [aJ,List.append_assoc]
   rw [aJ,List.append_assoc] at hs
   exact hs
  obtain ⟨k1,k2,k3⟩:=wS h3 hf hs'
  rw [← List.append_assoc] at k3
  replace k3:=B7 k3
  rw [List.append_assoc] at k3
  exact Te ((next _ ρ w .refl (by rw [k1];exact Nat.le_refl _) h4 k3).jw _ k2)
 | q k m rest ih=>
  intro EV A Pd T st ρ w pend h1 h2 hf hev hpd hs hp h next pnext
  have hevr:ER ops rest EV:=fun x hx=>⟨fun j hj=>(hev x hx).1 j (List.mem_cons_of_mem _ hj),(hev x hx).2⟩
  have hΓ': ∀ it∈X.Γ,it∈EVI EV++Φ:=fun it hit=>List.mem_append_right _ (hΓ it hit)
  unfold kW at h
  split at h
  ·rename_i o ho
   have hs1:=nn (A:=[]) (p:=bT) hs
   obtain ⟨T',g,hk,so⟩:=Jf (ρ:=ρ) (fr0:=fr) (fr:=frM fr A st) (st:=stM st) h1 h2 rfl (fun r hr=>List.mem_append_right _ (List.mem_append_right _ hr)) hf h
   have hs':Sat (items ρ T' (stM st).G++(items ρ T' (frM fr A st).H++(EVI EV++Φ))) w:=by rw [so.eg,so.eh];exact hs1
   have he:ai ρ T st.E fr.F=ai ρ T' st.E fr.F:=by
    have e1:=so.ee
    have e2:=so.ef
    rw [ai,ai,e1,e2]
   rw [he]
   have e1:aK (fun r=> !(bT r)) st.G++(A++fr.H)=(aK (fun r=> !(bT r)) st.G++A)++fr.H:=by rw [List.append_assoc]
   -- from what stands then to what stands now
   have conv0: ∀ w2 Φ',Sat (items ρ T' (aK (fun r=> !(bT r)) st.G++(A++fr.H))++Φ') w2→ ∃ Φ',Sat (items ρ T (A++fr.H)++Φ') w2:=fun w2 Φ' hΦ=>by
    refine ⟨Φ',?_⟩
    have hΦ2:Sat (items ρ T (aK (fun r=> !(bT r)) st.G++(A++fr.H))++Φ') w2:=by rw [← so.eh];exact hΦ
    rw [aJ,List.append_assoc] at hΦ2
    exact hΦ2.tP
   split at hk
   ·rename_i q hq
    subst hk
    obtain ⟨v,ρ',st',av,Rq,p,k1,k2,k3,k4,k5,k6,k7,k8,k9,k10,k11,k12⟩:=QP (fr:=frM fr A st) (st:=stM st) hs' hq
    have e2:Rq++(aK (fun r=> !(bT r)) st.G++(A++fr.H))=(Rq++(aK (fun r=> !(bT r)) st.G++A))++fr.H:=by simp
    refine yJ (fr1:=frM fr A st) (st1:=stM st) (J:=BF ρ' p) rfl so ho (fun x hx=>(hev x hx).1 k (List.mem_cons_self ..)) k10 k12 ?_
    have:=ih (A:=Rq++(aK (fun r=> !(bT r)) st.G++A)) (Pd:=p::Pd) (T:=T') (st:=st') (ρ:=ρ') (w:=w) (pend:=(k,BF ρ' p)::pend) (by rw [k4];exact so.t1.out so.ak g av) so.t2 so.ft hevr (fun x hx=> ?_) (by rw [← e2];exact k8) (fun q hqm w2 hw hB=> ?_) k1 (fun st2 ρ2 w2 b1 b2 b3 b4=>next st2 ρ2 w2 (k2.trans b1 k3) (Nat.le_trans k3 b2) b3 b4) (fun v st2 ρ2 w2 b1 b2 b3 b4=>pnext v st2 ρ2 w2 (k2.trans b1 k3) (Nat.le_trans k3 b2) b3 b4)
    ·rw [k4,nq,k5,k6] at this
     exact this
    ·rcases List.mem_cons.1 hx with rfl | hx
     ·exact k11
     ·exact ⟨Nat.lt_of_lt_of_le (hpd x hx).1 k3,fun u hu=>Nat.lt_of_lt_of_le ((hpd x hx).2 u hu) k3⟩
    ·rcases List.mem_cons.1 hqm with rfl | hqm
     ·exact (hB p (List.mem_cons_self ..) k9).elim id (fun h=>by have:=k10.1;rw [h.1] at this;cases this)
     ·obtain ⟨Φ',hΦ⟩:=hw
      rw [← e2,aJ,List.append_assoc] at hΦ
      have hΦ1:=hΦ.tP
      have hΦ2:Sat (items ρ T' (aK (fun r=> !(bT r)) st.G++(A++fr.H))++Φ') w2:=by rw [← k7];exact hΦ1
      exact hp q hqm w2 (conv0 w2 Φ' hΦ2) (fun x hx he=>(hB x (List.mem_cons_of_mem _ hx) he).imp (sK k2 (hpd x hx)).1 id)
   ·split at hk
    ·rename_i p hpo
     obtain ⟨lw,hk⟩:=ao hk
     obtain ⟨dst,op,ty,pos,af,gd⟩:=o
     unfold SD at hpo
     split at hpo
     ·rename_i t x d hop hdst
      simp only at hop hdst
      subst hop hdst
      split at hpo
      ·rename_i q off hx
       split at hpo
       ·cases hpo
       split at hpo
       ·rename_i sr hkn
        cases hpo
        obtain ⟨v,hr,hO⟩:=E6 (ty:=ty) (pos:=pos) (af:=af) (gd:=gd) lw hs' hx hk
        obtain ⟨ρ',st',av,k1,k2,k3,k4,k5,k6,k7,k8⟩:=hO
        have hq:q<st.c:=by
         obtain ⟨_,_,l3,l4⟩:=StB.bz.1 lw
         obtain ⟨f1,f2⟩:=ba hkn
         exact UC f1 f2 l3 l4
        refine yJ (fr1:=frM fr A st) (st1:=stM st) (J:=fun w'=>Ext w w') (v:=v) rfl so ho (fun x hx=>(hev x hx).1 k (List.mem_cons_self ..)) (Ext.refl w) (fun w' hw'=>hr w' hw') ?_
        have:=ih (A:=aK (fun r=> !(bT r)) st.G++A) (Pd:=(k,q,1000000000,[])::Pd) (T:=T') (st:=st') (ρ:=ρ') (w:=w) (pend:=(k,fun w'=>Ext w w')::pend) (by rw [k4];exact so.t1.out so.ak g av) so.t2 so.ft hevr (fun x hx=> ?_) (by rw [← e1];exact k8) (fun q' hqm w2 hw hB=> ?_) k1 (fun st2 ρ2 w2 b1 b2 b3 b4=>next st2 ρ2 w2 (k2.trans b1 k3) (Nat.le_trans k3 b2) b3 b4) (fun v st2 ρ2 w2 b1 b2 b3 b4=>pnext v st2 ρ2 w2 (k2.trans b1 k3) (Nat.le_trans k3 b2) b3 b4)
        ·rw [k4,nq,k5,k6] at this
         exact this
        ·rcases List.mem_cons.1 hx with rfl | hx
         ·exact ⟨Nat.lt_of_lt_of_le hq k3,fun u hu=>by cases hu⟩
         ·exact ⟨Nat.lt_of_lt_of_le (hpd x hx).1 k3,fun u hu=>Nat.lt_of_lt_of_le ((hpd x hx).2 u hu) k3⟩
        ·obtain ⟨Φ',hΦ⟩:=hw
         rw [← e1] at hΦ
         have hΦ1:Sat (items ρ T' (aK (fun r=> !(bT r)) st.G++(A++fr.H))++Φ') w2:=by rw [← k7];exact hΦ
         rcases List.mem_cons.1 hqm with rfl | hqm
         ·exact (hB (k,q,1000000000,[]) (List.mem_cons_self ..) rfl).elim (fun h=>by have:=h.1;simp at this) (fun h=>h.2)
         ·exact hp q' hqm w2 (conv0 w2 Φ' hΦ1) (fun x hx he=>(hB x (List.mem_cons_of_mem _ hx) he).imp (sK k2 (hpd x hx)).1 id)
       ·cases hpo
      ·cases hpo
     ·cases hpo
    ·obtain ⟨v,J,hJ,hr,hO⟩:=O9 (fr:=frM fr A st) (st:=stM st) hΓ' so.t1 hs' hk
     obtain ⟨ρ',st',av,k1,k2,k3,k4,k5,k6,k7,k8⟩:=hO
     refine yJ (fr1:=frM fr A st) (st1:=stM st) rfl so ho (fun x hx=>(hev x hx).1 k (List.mem_cons_self ..)) (hJ w ⟨EVI EV++Φ,hs'.tP⟩) hr ?_
     have:=ih (A:=aK (fun r=> !(bT r)) st.G++A) (Pd:=Pd) (T:=T') (st:=st') (ρ:=ρ') (w:=w) (pend:=(k,J)::pend) (by rw [k4];exact so.t1.out so.ak g av) so.t2 so.ft hevr (fun x hx=>⟨Nat.lt_of_lt_of_le (hpd x hx).1 k3,fun u hu=>Nat.lt_of_lt_of_le ((hpd x hx).2 u hu) k3⟩) (by rw [← e1];exact k8) (fun q hqm w2 hw hB=> ?_) k1 (fun st2 ρ2 w2 b1 b2 b3 b4=>next st2 ρ2 w2 (k2.trans b1 k3) (Nat.le_trans k3 b2) b3 b4) (fun v st2 ρ2 w2 b1 b2 b3 b4=>pnext v st2 ρ2 w2 (k2.trans b1 k3) (Nat.le_trans k3 b2) b3 b4)
     ·rw [k4,nq,k5,k6] at this
      exact this
     ·obtain ⟨Φ',hΦ⟩:=hw
      rw [← e1] at hΦ
      have hΦ1:Sat (items ρ T' (aK (fun r=> !(bT r)) st.G++(A++fr.H))++Φ') w2:=by rw [← k7];exact hΦ
      rcases List.mem_cons.1 hqm with rfl | hqm
      ·exact hJ w2 ⟨Φ',hΦ1⟩
      ·exact hp q hqm w2 (conv0 w2 Φ' hΦ1) (fun x hx he=>(hB x hx he).imp (sK k2 (hpd x hx)).1 id)
  ·cases h
 | l k m rest ih=>
  intro EV A Pd T st ρ w pend h1 h2 hf hev hpd hs hp h next pnext
  have hΓ': ∀ it∈X.Γ,it∈EVI EV++Φ:=fun it hit=>List.mem_append_right _ (hΓ it hit)
  unfold kW at h
  exact loud rest k m (fun {EV A Pd T st ρ w pend}=>ih) h1 h2 hf (fun x hx=>(hev x hx).1 k (List.mem_cons_self ..)) (fun x hx=>⟨fun j hj=>(hev x hx).1 j (List.mem_cons_of_mem _ hj),(hev x hx).2⟩) hpd hs hp h next pnext
 | l2 m k1 r1 k2 r2 ih1 ih2=>
  intro EV A Pd T st ρ w pend h1 h2 hf hev hpd hs hp h next pnext
  have hΓ': ∀ it∈X.Γ,it∈EVI EV++Φ:=fun it hit=>List.mem_append_right _ (hΓ it hit)
  unfold kW at h
  obtain ⟨h3,h4⟩:=FE h
  exact VC (loud r1 k1 m (fun {EV A Pd T st ρ w pend}=>ih1) h1 h2 hf (fun x hx=>(hev x hx).1 k1 (List.mem_cons_self ..)) (fun x hx=>⟨fun j hj=>(hev x hx).1 j (List.mem_cons_of_mem _ (List.mem_cons_of_mem _ (List.mem_append_left _ hj))),fun j hj=>(hev x hx).2 j (List.mem_append_left _ hj)⟩) hpd hs hp h3 next pnext)
   (loud r2 k2 m (fun {EV A Pd T st ρ w pend}=>ih2) h1 h2 hf (fun x hx=>(hev x hx).1 k2 (List.mem_cons_of_mem _ (List.mem_cons_self ..))) (fun x hx=>⟨fun j hj=>(hev x hx).1 j (List.mem_cons_of_mem _ (List.mem_cons_of_mem _ (List.mem_append_right _ hj))),fun j hj=>(hev x hx).2 j (List.mem_append_right _ hj)⟩) hpd hs hp h4 next pnext)
 | f k m fl fs rest ih=>
  intro EV A Pd T st ρ w₀ pend h1 h2 hf hev hpd hs hp h next pnext
  unfold kW at h
  obtain ⟨hc,h⟩:=ao h
  simp only [Bool.and_eq_true,List.all_eq_true] at hc
  obtain ⟨hfl,hpd0⟩:=hc
  have hrun: ∀ f∈fl,∃ o p d,ops[f]? =some o∧wv X T (frA fr A) st o=some p∧o.dst=some d∧eO o=true∧Nat.blt d fr.n=true∧cr st.E fr.F d=none∧(∀ t∈o.looksAt ops.toArray,t≠d)∧
    (∀ j∈k::rest.ops,lg ops.toArray j f=true)∧ ∀ j∈fl++rest.fls,j=f∨lg ops.toArray j f=true:=fun f hf=>by
   have:=hfl f hf
   unfold UF at this
   simp only [Bool.and_eq_true,List.all_eq_true,Bool.or_eq_true] at this
   obtain ⟨⟨g1,g2⟩,g3⟩:=this
   split at g1
   ·rename_i o ho
    split at g1
    ·rename_i p d hp hd
     simp only [Bool.and_eq_true,List.all_eq_true] at g1
     obtain ⟨⟨⟨g4,g5⟩,g6⟩,g7⟩:=g1
     refine ⟨o,p,d,ho,hp,hd,g4,g5,?_,fun t ht hc=> ?_,g2,fun j hj=>(g3 j hj).imp Nat.eq_of_beq_eq_true id⟩
     ·split at g6
      ·cases g6
      ·assumption
     ·have:=g7 t ht
      rw [hc] at this
      simp at this
    ·cases g1
   ·cases g1
  have nxp: ∀ (EV:List Flt) (a:Act) (w:World),Ext w₀ w→ER ops (.f k m fl fs rest) EV→Sat (items ρ T st.G++(items ρ T (A++fr.H)++(EVI EV++Φ))) w→Fits fr.n (ai ρ T st.E fr.F) a→a.defers=D→(∀ x∈EV,ng X.P ops.toArray a x)→
    (∀ f∈fs,f∈EV.map (·.1))→wpOpIn (FW σ) 0 X.P ops.toArray (QN Q) k (fun a' w'=>eC (still .any ops.toArray k pend) w'∧wpD X.P σ ops.toArray (QN Q) rest ((EV.map (·.1)).filter fun f=> !(bO f fs)) (still .any ops.toArray k pend) a' w') a w:=by
   intro EV a w hx0 hev hs hfit hD hC hall
   obtain ⟨st1,ρ1,k1,k2,k3,k4,k5,k6,k7⟩:=KN (frx:=frA fr A) h1 hs hfit hC hall h
   have hev': ∀ x∈EV.filter (fun x=> !(bO x.1 fs)),(∀ j∈k::rest.ops,lg ops.toArray j x.1=true)∧ ∀ j∈rest.fls,j=x.1∨lg ops.toArray j x.1=true:=fun x hx=>
    ⟨(hev x (List.mem_filter.1 hx).1).1,fun j hj=>(hev x (List.mem_filter.1 hx).1).2 j (List.mem_append_right _ hj)⟩
   have HP':HP ρ1 T fr A Pd pend w:=fun p hpm w2 hw hB=>by
    have k6:items ρ1 T (A++fr.H)=items ρ T (A++fr.H):=k6
    rw [k6] at hw
    exact hp p hpm w2 hw (fun x hx he=>(hB x hx he).imp (sK k2 (hpd x hx)).1 (fun h=>⟨h.1,hx0.trans h.2⟩))
   have hl:=loud rest k 0 (fun {EV A Pd T st ρ w pend}=>ih) (EV:=EV.filter fun x=> !(bO x.1 fs)) (pend:=pend) k4 h2 hf (fun x hx=>(hev' x hx).1 k (List.mem_cons_self ..)) (fun x hx=>⟨fun j hj=>(hev' x hx).1 j (List.mem_cons_of_mem _ hj),(hev' x hx).2⟩)
    (fun x hx=>⟨Nat.lt_of_lt_of_le (hpd x hx).1 k3,fun u hu=>Nat.lt_of_lt_of_le ((hpd x hx).2 u hu) k3⟩) k7 HP' k1 (fun st2 ρ2 w2 b1 b2 b3 b4=>next st2 ρ2 w2 (k2.trans b1 k3) (Nat.le_trans k3 b2) b3 b4) (fun v st2 ρ2 w2 b1 b2 b3 b4=>pnext v st2 ρ2 w2 (k2.trans b1 k3) (Nat.le_trans k3 b2) b3 b4)
   have:=hl a k5 hD (fun x hx=>hC x (List.mem_filter.1 hx).1)
   simp only [wpD] at this
   have e:(EV.map (·.1)).filter (fun f=> !(bO f fs))=(EV.filter fun x=> !(bO x.1 fs)).map (·.1):=by
    rw [List.filter_map];rfl
   rw [e]
   split at this
   ·exact this.elim
   ·exact this
  have main: ∀ (nf:Nat) (EV:List Flt) (a:Act) (w:World),Ext w₀ w→ER ops (.f k m fl fs rest) EV→Sat (items ρ T st.G++(items ρ T (A++fr.H)++(EVI EV++Φ))) w→Fits fr.n (ai ρ T st.E fr.F) a→a.defers=D→(∀ x∈EV,ng X.P ops.toArray a x)→
    wpE X.P σ ops.toArray (QN Q) fl pend (fun ea a w=>(∀ f∈fs,f∈ea)→wpOpIn (FW σ) 0 X.P ops.toArray (QN Q) k (fun a' w'=>eC (still .any ops.toArray k pend) w'∧wpD X.P σ ops.toArray (QN Q) rest (ea.filter fun f=> !(bO f fs)) (still .any ops.toArray k pend) a' w') a w) nf (EV.map (·.1)) a w:=by
   intro nf
   induction nf with
   | zero=>exact fun EV a w hx0 hev hs hfit hD hC=>nxp EV a w hx0 hev hs hfit hD hC
   | succ nf ihf=>
    intro EV a w hx0 hev hs hfit hD hC
    refine ⟨nxp EV a w hx0 hev hs hfit hD hC,fun f hf' hm=> ?_⟩
    obtain ⟨o,p,d,r1,r2,r3,r4,r5,r6,r7,r8,r9⟩:=hrun f hf'
    obtain ⟨e,vs,cs⟩:=p
    obtain ⟨gn,ns⟩:=Ts r2
    have ho':ops.toArray[f]? =some o:=by simpa using r1
    have hR:=IC (ρ:=ρ) r2 w _ a hfit
    have hw:Region.wanted o (yielded ops.toArray a.tmps)=true:=by simp [Region.wanted,gn]
    have hdn:look (ai ρ T st.E fr.F) d=none:=by rw [dX,r6];rfl
    have hne: ∀ x∈EV,f≠x.1:=fun x hx hc=>by
     have:bO f (EV.map (·.1))=true:=bN.2 (List.mem_map.2 ⟨x,hx,hc.symm⟩)
     rw [hm] at this;cases this
    have hs1:Sat (box w.heap.size e (AV.ah ρ cs)::(items ρ T st.G++(items ρ T (A++fr.H)++(EVI EV++Φ)))) (w.alloc (.cells (AV.ah ρ cs).toArray e)):=hs.push (cQ _ _) (fun b hb=>by
     have:b=w.heap.size:=by simpa [box] using hb
     subst this;simp) (fun _ _=>heap_alloc_new w _)
    have hs2:Sat (items ρ T st.G++(items ρ T (A++fr.H)++(EVI ((f,w.heap.size,e,AV.ah ρ cs)::EV)++Φ))) (w.alloc (.cells (AV.ah ρ cs).toArray e)):=by
     have h0:Sat ([]++box w.heap.size e (AV.ah ρ cs)::((items ρ T st.G++items ρ T (A++fr.H))++(EVI EV++Φ))) (w.alloc (.cells (AV.ah ρ cs).toArray e)):=by
      rw [List.append_assoc];exact hs1
     have:=h0.move
     rw [List.nil_append,List.append_assoc] at this
     exact this
    have hfit':=hfit.V6 hdn (uY o w.heap.size)
    have hflo: ∀ x∈(f,w.heap.size,e,AV.ah ρ cs)::EV,ng X.P ops.toArray (a.put o.dst (uY o w.heap.size)) x:=fun x hx=>by
     rcases List.mem_cons.1 hx with rfl | hx
     ·refine ⟨o,d,w,ho',r3,ns,rfl,?_,?_⟩
      ·rw [r3]
       have hlt:d<a.tmps.size:=by rw [hfit.size];simpa using r5
       show (a.tmps.setIfInBounds d _).getD d undef=_
       simp [Array.getD,hlt]
      ·rw [execOp_put (ops:=ops.toArray) o ns a o.dst _ (fun t ht hc=>r7 t hc (by rw [r3] at ht;exact (Option.some.inj ht).symm))]
       exact hR
     ·refine (hC x hx).put ho' ?_
      rcases (hev x hx).2 f (List.mem_append_left _ hf') with h9 | h9
      ·exact absurd h9 (hne x hx)
      ·exact h9
    unfold wpOpIn
    simp only [ho',hw,if_true]
    refine fP r4 ?_
    rw [hR,Oper.uponIn_value]
    refine ⟨KD fun p hpm=>hp p hpm _ ⟨EVI ((f,w.heap.size,e,AV.ah ρ cs)::EV)++Φ,hs2.tP⟩ (fun x hx _=>(OI hs2 hpd0 x hx).imp id (fun h=>⟨h,hx0.trans (cQ _ _)⟩)),?_⟩
    have:=ihf ((f,w.heap.size,e,AV.ah ρ cs)::EV) (a.put o.dst (uY o w.heap.size)) _ (hx0.trans (cQ _ _)) (fun x hx=> ?_) hs2 (by rw [r3];exact hfit') (by rw [fD];exact hD) hflo
    ·exact this
    ·rcases List.mem_cons.1 hx with rfl | hx
     ·exact ⟨r8,r9⟩
     ·exact hev x hx
  intro a hfit hD hC
  simp only [wpD]
  exact main fl.length EV a w₀ (Ext.refl _) hev hs hfit hD hC
end
end Go.Proofs.YtgcgmclghbebjaaGreat
namespace Go.Proofs.YtgcgmclghbebjaaGreat
open Go.Lib
/-! what a piece of code assigns -/
def bB:Code→Nat
 | .region _ ops _=>ops.toList.foldl (fun m o=>match o.dst with | some d=>Nat.lor m (Nat.shiftLeft 1 d) | none=>m) 0
 | .seq a b=>Nat.lor (bB a) (bB b)
 | .cond _ a b=>Nat.lor (bB a) (bB b)
 | .block _ c=>bB c
 | .loop c=>bB c
 | .scope c=>bB c
 | .rangeFunc _ ps a b=>Nat.lor (ps.toList.foldl (fun m d=>Nat.lor m (Nat.shiftLeft 1 d)) 0) (Nat.lor (bB a) (bB b))
 | _=>0
def BU (t:Nat):List (Bool×Nat×Pt)→Bool
 | []=>false
 | x::l=>(!x.1&&Nat.beq x.2.1 t)||BU t l
def oq (m:Nat) (vs:List (Bool×Nat×Pt)) (t:Nat):Bool:= !(Nat.testBit m t)&& !(BU t vs)
def jJ (m:Nat) (vs:List (Bool×Nat×Pt)):al→al
 | []=>[]
 | x::E=>ifS ( oq m vs x.1 ) ( x::jJ m vs E ) ( jJ m vs E )
def ko (m:Nat) (vs:List (Bool×Nat×Pt)):al→al
 | []=>[]
 | x::E=>ifS ( oq m vs x.1 ) ( ko m vs E ) ( x::ko m vs E )
theorem E4 {m:Nat} {vs:List (Bool×Nat×Pt)} {t:Nat}:{E:al}→aL E t=ifS (oq m vs t) (aL (jJ m vs E) t) (aL (ko m vs E) t)∧aL (ifS (oq m vs t) (ko m vs E) (jJ m vs E)) t=none
 | []=>by cases oq m vs t <;> exact ⟨rfl,rfl⟩
 | (t',g,v)::E=>by
  obtain ⟨ih1,ih2⟩:=E4 (m:=m) (vs:=vs) (t:=t) (E:=E)
  cases hb:Nat.beq t' t
  ·rw [cY hb]
   unfold jJ ko
   cases h1:oq m vs t' <;> cases h2:oq m vs t <;> rw [h2] at ih1 ih2 <;> first
    | exact ⟨by rw [cY hb];exact ih1,ih2⟩
    | exact ⟨ih1,by rw [cY hb];exact ih2⟩
    | exact ⟨ih1,ih2⟩
  ·have e:=Nat.eq_of_beq_eq_true hb
   subst e
   rw [fa hb]
   unfold jJ ko
   cases h1:oq m vs t' <;> rw [h1] at ih2
   ·exact ⟨(fa hb).symm,ih2⟩
   ·exact ⟨(fa hb).symm,ih2⟩
theorem Ly {m:Nat} {vs:List (Bool×Nat×Pt)} {t:Nat} {E F:al}:cr (ko m vs E) (jJ m vs E++F) t=cr E F t:=by
 have app: ∀ A B:al,aL (A++B) t=match aL A t with | some x=>some x | none=>aL B t:=fun A B=>by
  induction A with
  | nil=>rfl
  | cons x A ih=>
   obtain ⟨t',g,v⟩:=x
   cases hb:Nat.beq t' t
   ·rw [List.cons_append,cY hb,cY hb];exact ih
   ·rw [List.cons_append,fa hb,fa hb]
 obtain ⟨h1,h2⟩:=E4 (m:=m) (vs:=vs) (t:=t) (E:=E)
 unfold cr
 rw [app]
 cases hk:oq m vs t <;> rw [hk] at h1 h2
 ·rw [show aL (jJ m vs E) t=none from h2,h1]
 ·rw [show aL (ko m vs E) t=none from h2,h1]
  rfl
theorem NF {ρ:Nms} {E E' F F':al} (h: ∀ t,cr E' F' t=cr E F t):fV (ai ρ [] E' F') (ai ρ [] E F):=fun t p hp=>by
 rw [dX] at hp ⊢
 rw [← h];exact hp
mutual
def AV.ids:AV→List Nat
 | .ptr id _ | .sl id | .adr id _ | .mp id | .nv id | .sfp id _=>[id]
 | .agg l | .tuple l=>AV.Je l
 | .fn _ a b=>AV.Je a++AV.Je b
 | .ifc _ v=>v.ids
 | _=>[]
def AV.Je:List AV→List Nat
 | []=>[]
 | v::l=>v.ids++AV.Je l
end
def QZ (res:AV→AV) (ids:List Nat):List Row→List Nat
 | []=>[]
 | r::G=>(match r with
  | .box j _ vs=>ifS (na j ids) (AV.Je (vs.map res)) []
  | _=>[])++QZ res ids G
def reach (st:StB) (fr:Fr) (ts:List Nat):List Nat:=
 let a:=(ts.map fun t=>match cr st.E fr.F t with
  | some (_,v)=>v.ids
  | none=>[]).flatten
 let b:=a++QZ (nT st.G fr.H) a st.G
 b++QZ (nT st.G fr.H) b st.G
def dK (ids:List Nat) (r:Row):Bool:=na r.id ids
def ji (ids:List Nat) (c:Nat):List Row→List Row×List Row×Nat
 | []=>([],[],c)
 | r::G=>match r with
  | .box j t vs=>ifS ( na j ids ) ( match iW c vs with
   | (cs,R,c)=>match ji ids c G with
    | (G,R',c)=>(.box j t cs::G,R++R',c) )<|match ji ids c G with
   | (G,R',c)=>(.box j t vs::G,R',c)
  | r=>match ji ids c G with
   | (G,R',c)=>(r::G,R',c)
def bxs:List Row→List (List AV)
 | []=>[]
 | r::G=>(match r with
  | .box _ _ cs=>cs::bxs G
  | _=>bxs G)
structure Sn (c:Nat) (G:List Row) (ρ ρ':Nms) (x:List Row×List Row×Nat):Prop where
 ag:aA c ρ ρ'
 le:c≤x.2.2
 eq:items ρ' [] x.1=items ρ [] G
 lw:aU x.2.2 x.1=true
 rl:aU x.2.2 x.2.1=true
 rp: ∀ r∈x.2.1,(r.item ρ' []).ck=true∧ ∀ M w,(r.item ρ' []).P M w
 bx:(bxs x.1).map (AV.ah ρ')=(bxs G).map (AV.ah ρ)
theorem yz {ρ ρ':Nms} {c:Nat} (ha:aA c ρ ρ'):{G:List Row}→aU c G=true→(bxs G).map (AV.ah ρ')=(bxs G).map (AV.ah ρ)
 | [],_=>rfl
 | r::G,h=>by
  simp only [aU,Bool.and_eq_true] at h
  have ih:=yz ha h.2
  cases r with
  | box j t cs=>
   have h1:=h.1
   simp only [Row.low,Bool.and_eq_true] at h1
   show AV.ah ρ' cs::(bxs G).map (AV.ah ρ')=AV.ah ρ cs::(bxs G).map (AV.ah ρ)
   rw [ih,AV.bc ha _ h1.2]
  | _=>exact ih
theorem xO {ids:List Nat}:{G:List Row}→{c:Nat}→{ρ:Nms}→aU c G=true→ ∃ ρ',Sn c G ρ ρ' (ji ids c G)
 | [],c,ρ,h=>⟨ρ,.refl,Nat.le_refl _,rfl,rfl,rfl,(fun _ h=>by cases h),rfl⟩
 | r::G,c,ρ,h=>by
  simp only [aU,Bool.and_eq_true] at h
  have other:(∀ t cs j,r= .box j t cs→na j ids=false)→ji ids c (r::G)=(match ji ids c G with | (G,R',c)=>(r::G,R',c))→ ∃ ρ',Sn c (r::G) ρ ρ' (ji ids c (r::G)):=fun _ e=>by
   obtain ⟨ρ',l⟩:=xO (ids:=ids) (c:=c) (ρ:=ρ) h.2
   rw [e]
   generalize ji ids c G=L at l
   obtain ⟨G',R,c'⟩:=L
   refine ⟨ρ',l.ag,l.le,?_,?_,l.rl,l.rp,?_⟩
   ·have:=l.eq
    simp only [items,List.map_cons] at this ⊢
    rw [this,Row.ra l.ag h.1]
   ·simp only [aU,Bool.and_eq_true]
    exact ⟨Row.dH l.le h.1,l.lw⟩
   ·have hb:(bxs G').map (AV.ah ρ')=(bxs G).map (AV.ah ρ):=l.bx
    cases r with
    | box j t cs=>
     have h1:=h.1
     simp only [Row.low,Bool.and_eq_true] at h1
     show AV.ah ρ' cs::(bxs G').map (AV.ah ρ')=AV.ah ρ cs::(bxs G).map (AV.ah ρ)
     rw [hb,AV.bc l.ag _ h1.2]
    | _=>exact hb
  cases r with
  | box j t vs=>
   cases hm:na j ids
   ·exact other (fun t cs j h=>by cases h;exact hm) (by simp only [ji,hm])
   ·have hr:=h.1
    simp only [Row.low,Bool.and_eq_true,Nat.blt_eq] at hr
    obtain ⟨ρ1,l1⟩:=wj (ρ:=ρ) hr.2
    have e:ji ids c (.box j t vs::G)=(match iW c vs with
     | (cs,R,c)=>match ji ids c G with
      | (G,R',c)=>(.box j t cs::G,R++R',c)):=by simp only [ji,hm]
    rw [e]
    generalize iW c vs=L at l1
    obtain ⟨cs,R,c1⟩:=L
    obtain ⟨ρ2,l2⟩:=xO (ids:=ids) (c:=c1) (ρ:=ρ1) (qi l1.le h.2)
    dsimp only
    generalize ji ids c1 G=L at l2
    obtain ⟨G',R',c2⟩:=L
    have hle1:c≤c1:=l1.le
    have hle2:c1≤c2:=l2.le
    have hag:aA c ρ ρ2:=l1.ag.trans l2.ag l1.le
    refine ⟨ρ2,hag,Nat.le_trans hle1 hle2,?_,?_,mM (qi hle2 l1.rl) l2.rl,?_,?_⟩
    ·have e2:=l2.eq
     simp only [items,List.map_cons,Row.item] at e2 ⊢
     have hlw:AV.bh c1 cs=true:=l1.lw
     have heq:AV.ah ρ1 cs=AV.ah ρ vs:=l1.eq
     rw [e2,hag _ hr.1,AV.bc l2.ag _ hlw,heq]
     have:=aF (T:=[]) l1.ag h.2
     simp only [items] at this
     rw [this]
    ·simp only [aU,Row.low,Bool.and_eq_true,Nat.blt_eq]
     exact ⟨⟨by omega,AV.gG hle2 _ l1.lw⟩,l2.lw⟩
    ·intro r hr
     rcases List.mem_append.1 hr with hr | hr
     ·have hrl:r.low c1=true:=by
       have key: ∀ {R:List Row},aU c1 R=true→ ∀ r∈R,r.low c1=true:=fun {R}=>by
        induction R with
        | nil=>intro _ r h;cases h
        | cons x R ih=>
         intro h r hr
         simp only [aU,Bool.and_eq_true] at h
         rcases List.mem_cons.1 hr with rfl | hr
         ·exact h.1
         ·exact ih h.2 r hr
       exact key l1.rl r hr
      rw [Row.ra l2.ag hrl]
      exact l1.rp r hr
     ·exact l2.rp r hr
    ·have hb:(bxs G').map (AV.ah ρ2)=(bxs G).map (AV.ah ρ1):=l2.bx
     show AV.ah ρ2 cs::(bxs G').map (AV.ah ρ2)=AV.ah ρ vs::(bxs G).map (AV.ah ρ)
     have hlw:AV.bh c1 cs=true:=l1.lw
     have heq:AV.ah ρ1 cs=AV.ah ρ vs:=l1.eq
     rw [hb,AV.bc l2.ag _ hlw,heq,yz l1.ag h.2]
  | _=>exact other (fun t cs j h=>by cases h) rfl
end Go.Proofs.YtgcgmclghbebjaaGreat
namespace Go.Proofs.YtgcgmclghbebjaaGreat
open Go.Lib
def qe (E F:al) (t:Nat):Option AV:=match cr E F t with
 | some (none,v)=>some v
 | _=>none
theorem ui {ρ:Nms} {E F:al} {t:Nat} {v:AV} (h:qe E F t=some v):look (ai ρ [] E F) t=some (true,v.val ρ):=by
 unfold qe at h
 split at h
 ·rename_i v' hv
  cases h
  rw [dX,hv]
  simp
 ·cases h
def CJ (st:StB) (fr:Fr):List (Bool×Nat×Pt)→List Nat
 | []=>[]
 | x::l=>(ifS x.1 (match cr st.E fr.F x.2.1 with
  | some (_,v)=>v.ids
  | none=>[]) [])++CJ st fr l
mutual
def PZ (G H:List Row):Pt→AV→List Nat
 | .own _ _ _,v=>v.ids
 | .mp _ _ _,v=>v.ids
 | .it,v=>v.ids
 | .bx _ _ _ vs,v=>(match v with
  | .ptr j _=>j::Ai G H vs (cellsOf G H j)
  | _=>[])
 | .agg l,v=>(match v with
  | .agg vs=>Ai G H l vs
  | _=>[])
 | .tup l,v=>(match v with
  | .tuple vs=>Ai G H l vs
  | _=>[])
 | .fn _ a b,v=>(match v with
  | .fn _ a' b'=>Ai G H a a'++Ai G H b b'
  | _=>[])
 | .ifc _ p,v=>(match v with
  | .ifc _ u=>PZ G H p u
  | _=>[])
 | .dat _ o,v=>ifS (o.all (fun x=>x.isNone)) [] v.ids
 | _,_=>[]
def Ai (G H:List Row):List Pt→List AV→List Nat
 | [],_=>[]
 | p::l,vs=>(match vs with
  | v::vs=>PZ G H p (nT G H v)++Ai G H l vs
  | []=>[])
end
def PY (st:StB) (fr:Fr):List (Bool×Nat×Pt)→List Nat
 | []=>[]
 | x::l=>(match cr st.E fr.F x.2.1 with
  | some (_,v)=>PZ st.G fr.H x.2.2 (nT st.G fr.H v)
  | none=>[])++PY st fr l
structure En where
 fr:Fr
 E:al
 G:List Row
 Et:al
 Gt:List Row
 c:Nat
 fix:Nat→FxA
def Pr (E F:al) (G:List Row) (t:Nat):FxA:=match cr E F t with
 | some (_,v)=>some (v,match v with
  | .ptr j _=>cellsOf G [] j
  | _=>[])
 | none=>none
def enter (fr:Fr) (tm:Tm) (m:Nat) (st:StB):En:=
 let ids:=PY st fr tm.vs++reach st fr tm.th
 match ji (CJ st fr tm.vs) st.c (aK (dK ids) st.G) with
 | (Gt,R,c)=>⟨⟨jJ m tm.vs st.E++fr.F,(R++aK (fun r=> !(dK ids r)) st.G)++fr.H,fr.n⟩,jJ m tm.vs st.E,R++aK (fun r=> !(dK ids r)) st.G,ko m tm.vs st.E,Gt,c,Pr st.E fr.F Gt⟩
structure Wj (fr:Fr) (st:StB) (Φ:Ctx) (w:World) (ρ ρ':Nms) (en:En):Prop where
 ag:aA st.c ρ ρ'
 le:st.c≤en.c
 ff:en.fr.F=en.E++fr.F
 fh:en.fr.H=en.G++fr.H
 fn:en.fr.n=fr.n
 lF:al.low en.c en.fr.F=true
 lH:aU en.c en.fr.H=true
 sub:fV (ai ρ' [] en.Et en.fr.F) (ai ρ [] st.E fr.F)
 sat:Sat (items ρ' [] en.Gt++(items ρ' [] en.fr.H++Φ)) w
 fx: ∀ t q,en.fix t=some q→q.1.low en.c=true∧AV.bh en.c q.2=true
theorem al.dH {c d:Nat} (hcd:c≤d):{E:al}→E.low c=true→E.low d=true
 | [],_=>rfl
 | x::E,h=>by
  simp only [al.low,Bool.and_eq_true] at h ⊢
  exact ⟨AV.dH hcd _ h.1,al.dH hcd h.2⟩
theorem al.xl {c:Nat}:{E F:al}→E.low c=true→F.low c=true→al.low c (E++F)=true
 | [],_,_,h=>h
 | x::E,F,h,k=>by
  simp only [List.cons_append,al.low,Bool.and_eq_true] at h ⊢
  exact ⟨h.1,al.xl h.2 k⟩
theorem xz {c:Nat}:{E:al}→E.low c=true→{t:Nat}→{x:GK×AV}→aL E t=some x→x.2.low c=true
 | [],_,_,_,h=>by cases h
 | (t',g,v)::E,h,t,x,hx=>by
  simp only [al.low,Bool.and_eq_true] at h
  cases hb:Nat.beq t' t
  ·rw [cY hb] at hx;exact xz h.2 hx
  ·rw [fa hb] at hx;cases hx;exact h.1
theorem zm {c m:Nat} {vs:List (Bool×Nat×Pt)}:{E:al}→E.low c=true→(jJ m vs E).low c=true
 | [],_=>rfl
 | x::E,h=>by
  simp only [al.low,Bool.and_eq_true] at h
  unfold jJ
  cases oq m vs x.1
  ·exact zm h.2
  ·show al.low c (x::jJ m vs E)=true
   simp only [al.low,Bool.and_eq_true]
   exact ⟨h.1,zm h.2⟩
theorem zT {c m:Nat} {vs:List (Bool×Nat×Pt)}:{E:al}→E.low c=true→(ko m vs E).low c=true
 | [],_=>rfl
 | x::E,h=>by
  simp only [al.low,Bool.and_eq_true] at h
  unfold ko
  cases oq m vs x.1
  ·show al.low c (x::ko m vs E)=true
   simp only [al.low,Bool.and_eq_true]
   exact ⟨h.1,zT h.2⟩
  ·exact zT h.2
theorem tM {c:Nat} {p:Row→Bool}:{G:List Row}→aU c G=true→aU c (aK p G)=true
 | [],_=>rfl
 | r::G,h=>by
  simp only [aU,Bool.and_eq_true] at h
  unfold aK
  cases p r
  ·exact tM h.2
  ·show aU c (r::aK p G)=true
   simp only [aU,Bool.and_eq_true]
   exact ⟨h.1,tM h.2⟩
theorem JH {c:Nat} {G:List Row} {j:Nat} (h:aU c G=true):AV.bh c (cellsOf G [] j)=true:=by
 unfold cellsOf
 split
 ·rename_i s j' t cs hf
  obtain ⟨f1,_⟩:=ba hf
  cases s with
  | top i=>
   have:=lU h (show G[i]? =some _ from f1)
   simp only [Row.low,Bool.and_eq_true] at this
   exact this.2
  | frz i=>have f1:([]:List Row)[i]? =some _:=f1;simp at f1
  | nilI=>exact f1.elim
  | nilO=>exact f1.elim
  | nilM=>exact f1.elim
 ·rfl
theorem RJ {c:Nat} {E F:al} {G:List Row} (hE:E.low c=true) (hF:F.low c=true) (hG:aU c G=true) {t:Nat} {q:AV×List AV} (h:Pr E F G t=some q):q.1.low c=true∧AV.bh c q.2=true:=by
 unfold Pr at h
 split at h
 ·rename_i v hv
  cases h
  refine ⟨?_,?_⟩
  ·unfold cr at hv
   split at hv
   ·rename_i x hx;cases hv;exact xz hE hx
   ·exact xz hF hv
  ·split
   ·exact JH hG
   ·rfl
 ·cases h
theorem o9 {fr:Fr} {tm:Tm} {m:Nat} {st:StB} {ρ:Nms} {Φ:Ctx} {w:World} (hl:st.low fr=true) (hs:Sat (items ρ [] st.G++(items ρ [] fr.H++Φ)) w): ∃ ρ',Wj fr st Φ w ρ ρ' (enter fr tm m st):=by
 obtain ⟨l1,l2,l3,l4⟩:=StB.bz.1 hl
 unfold enter
 dsimp only
 generalize PY st fr tm.vs++reach st fr tm.th=ids
 have hs1:=nn (A:=[]) (p:=dK ids) hs
 obtain ⟨ρ',l⟩:=xO (ids:=CJ st fr tm.vs) (c:=st.c) (ρ:=ρ) (tM (p:=dK ids) l3)
 generalize ji (CJ st fr tm.vs) st.c (aK (dK ids) st.G)=L at l
 obtain ⟨Gt,R,c⟩:=L
 have hle:st.c≤c:=l.le
 have hE:=zm (m:=m) (vs:=tm.vs) l1
 have hp:=tM (p:=fun r=> !(dK ids r)) l3
 refine ⟨ρ',l.ag,hle,rfl,rfl,rfl,?_,?_,?_,?_,fun t q hq=> ?_⟩
 ·exact al.xl (al.dH hle hE) (al.dH hle l2)
 ·exact mM (mM l.rl (qi hle hp)) (qi hle l4)
 ·have e1:ai ρ' [] (ko m tm.vs st.E) (jJ m tm.vs st.E++fr.F)=ai ρ [] (ko m tm.vs st.E) (jJ m tm.vs st.E++fr.F):=by
   rw [ai,ai,lA l.ag (zT l1),lA l.ag (al.xl hE l2)]
  show fV (ai ρ' [] (ko m tm.vs st.E) (jJ m tm.vs st.E++fr.F)) _
  rw [e1]
  exact NF fun t=>Ly
 ·show Sat (items ρ' [] Gt++(items ρ' [] ((R++aK (fun r=> !(dK ids r)) st.G)++fr.H)++Φ)) w
  have e1:items ρ' [] Gt=items ρ [] (aK (dK ids) st.G):=l.eq
  have e2:items ρ' [] (aK (fun r=> !(dK ids r)) st.G++fr.H)=items ρ [] (aK (fun r=> !(dK ids r)) st.G++fr.H):=aF l.ag (mM hp l4)
  rw [List.append_assoc,aJ,e1,e2]
  have hs2:Sat (items ρ [] (aK (dK ids) st.G)++(items ρ [] (aK (fun r=> !(dK ids r)) st.G++fr.H)++Φ)) w:=by simpa using hs1
  have hadd: ∀ (L:List Item) (A B:Ctx),(∀ it∈L,it.ck=true∧ ∀ M w,it.P M w)→Sat (A++B) w→Sat (A++(L++B)) w:=fun L A B hL h=>by
   have h1:=sb h L (fun it hit=>⟨(hL it hit).1,(hL it hit).2 _ _⟩)
   have mv: ∀ (L:List Item) (A B:Ctx),Sat (L++(A++B)) w→Sat (A++(L++B)) w:=fun L=>by
    induction L with
    | nil=>intro A B h;exact h
    | cons x L ih=>
     intro A B h
     have h2:Sat ([]++x::((L++A)++B)) w:=by simpa using h
     have h3:Sat ([]++((L++A)++x::B)) w:=h2.move
     have h4:Sat (L++(A++x::B)) w:=by simpa using h3
     have h5:Sat (A++(L++x::B)) w:=ih _ _ h4
     have h6:Sat (A++(L++[x]++B)) w:=by simpa using h5
     -- x goes ahead of L
     refine h6.qP (fun j k=>(j<A.length∧k=j)∨(j=A.length∧k=A.length+L.length)∨(A.length<j∧j≤A.length+L.length∧k+1=j)∨(A.length+L.length<j∧k=j)) (fun j jt hj=> ?_) (fun j k q hjk h1 h2=>by omega)
     by_cases c1:j<A.length
     ·rw [List.getElem?_append_left c1] at hj
      exact .inr ⟨j,jt,.inl ⟨c1,rfl⟩,by rw [List.getElem?_append_left c1];exact hj,aY.refl⟩
     ·rw [List.getElem?_append_right (by omega)] at hj
      by_cases c2:j=A.length
      ·subst c2
       simp at hj
       subst hj
       refine .inr ⟨A.length+L.length,x,.inr (.inl ⟨rfl,rfl⟩),?_,aY.refl⟩
       rw [List.getElem?_append_right (by omega)]
       have:A.length+L.length-A.length=L.length:=by omega
       rw [this];simp
      ·have e9:j-A.length=(j-A.length-1)+1:=by omega
       rw [e9,List.cons_append,List.getElem?_cons_succ] at hj
       by_cases c3:j≤A.length+L.length
       ·rw [List.getElem?_append_left (by omega)] at hj
        refine .inr ⟨j-1,jt,.inr (.inr (.inl ⟨by omega,c3,by omega⟩)),?_,aY.refl⟩
        rw [List.getElem?_append_right (by omega),List.append_assoc,List.getElem?_append_left (by omega)]
        rw [show j-1-A.length=j-A.length-1 by omega];exact hj
       ·rw [List.getElem?_append_right (by omega)] at hj
        refine .inr ⟨j,jt,.inr (.inr (.inr ⟨by omega,rfl⟩)),?_,aY.refl⟩
        rw [List.getElem?_append_right (by omega),List.getElem?_append_right (by simp;omega)]
        have:j-A.length-(L++[x]).length=j-A.length-1-L.length:=by simp;omega
        rw [this];exact hj
   exact mv L A B h1
  have:=hadd (items ρ' [] R) (items ρ [] (aK (dK ids) st.G)) (items ρ [] (aK (fun r=> !(dK ids r)) st.G++fr.H)++Φ) (fun it hit=>by
   obtain ⟨r,hr,rfl⟩:=List.mem_map.1 hit
   exact l.rp r hr) hs2
  simpa using this
 ·exact RJ (al.dH hle l1) (al.dH hle l2) l.lw hq
/-! coming backT -/
def Cl (G H:List Row) (look:Nat→Option AV) (fix:Nat→FxA):List (Bool×Nat×Pt)→List Nat
 | []=>[]
 | x::l=>(match (ifS x.1 ((fix x.2.1).map (·.1)) (look x.2.1)) with
  | some v=>lV G H x.2.2 v
  | none=>[])++Cl G H look fix l
def Dq (F:al) (vs:List (Bool×Nat×Pt)):al→Bool
 | []=>true
 | x::E=>(BU x.1 vs||lY (aL F x.1))&&Dq F vs E
def Af (en:En) (tm:Tm) (E:al) (G:List Row):List Row:=frz (Cl G en.fr.H (qe E en.fr.F) en.fix tm.vs) G
def iq (en:En) (tm:Tm) (E:al) (G:List Row):Option (Tup (eR tm.vs)):=
 match mtV (Af en tm E G) en.fr.H (qe E en.fr.F) en.fix tm.vs [] with
 | some mr=>ifS (rT (mr.S.map fun x=>bY (Af en tm E G) en.fr.H x.2)&&ltT (Af en tm E G).length (mr.S.map fun x=>bY (Af en tm E G) en.fr.H x.2)&&Dq en.fr.F tm.vs E) (tup _ mr.D) none
 | none=>none
def rowsOf (R:List (Bool×Row)):List Row:=R.map (·.2)
def bE (en:En) (tm:Tm) (s:Tup (eR tm.vs)) (h:HT):StB:=match dx (fun n=>en.c+n) en.fix tm.vs 0 (unt _ s) with
 | ⟨E,R,k,_⟩=>⟨en.c+k,E,rowsOf R,h⟩
def ek (en:En) (tm:Tm) (s:Tup (eR tm.vs)) (h:HT):StB:=match dx (fun n=>en.c+n) en.fix tm.vs 0 (unt _ s) with
 | ⟨E,R,k,_⟩=>⟨en.c+k,E++en.E,rowsOf R++en.G,h⟩
def sQ (en:En) (st:StB):StB:={ st with E:=st.E++en.E,G:=st.G++en.G }
theorem Sat.z9 {w:World} {A C:Ctx}: ∀ {B:Ctx},Sat (A++(B++C)) w→Sat (A++C) w
 | [],h=>h
 | _x::B,h=>Sat.z9 (B:=B) (Sat.tD h)
theorem Ft {nm:Nat→Nat} {fix:Nat→FxA} {t:Nat}:{l:List (Bool×Nat×Pt)}→{n:Nat}→{D:List Dyn}→BU t l=true→aL (dx nm fix l n D).E t≠none
 | [],n,D,h=>by cases h
 | (b,t',p)::l,n,D,h=>by
  unfold dx
  dsimp only
  generalize fill nm p (ifS b (fix t') none) none n D=L
  obtain ⟨v,R,k,DD,XX⟩:=L
  dsimp only
  generalize hg:dx nm fix l k DD=L2
  obtain ⟨E2,R2,k2,DD2⟩:=L2
  dsimp only
  have ih:BU t l=true→aL E2 t≠none:=fun h'=>by
   have:=Ft (nm:=nm) (fix:=fix) (n:=k) (D:=DD) h'
   rw [hg] at this;exact this
  simp only [BU,Bool.or_eq_true,Bool.and_eq_true] at h
  cases b
  ·show aL ((t',none,v)::E2) t≠none
   cases hb:Nat.beq t' t
   ·rw [cY hb]
    rcases h with ⟨_,h⟩ | h
    ·rw [hb] at h;cases h
    ·exact ih h
   ·rw [fa hb];simp
  ·show aL E2 t≠none
   rcases h with ⟨h,_⟩ | h
   ·cases h
   ·exact ih h
theorem HR {F:al} {vs:List (Bool×Nat×Pt)} {t:Nat}:{E:al}→{x:GK×AV}→Dq F vs E=true→aL E t=some x→BU t vs=true∨aL F t=none
 | [],x,_,h=>by cases h
 | (t',g,v)::E,x,hb,h=>by
  simp only [Dq,Bool.and_eq_true,Bool.or_eq_true] at hb
  cases hq:Nat.beq t' t
  ·rw [cY hq] at h;exact HR hb.2 h
  ·have e:=Nat.eq_of_beq_eq_true hq
   subst e
   rcases hb.1 with h1 | h1
   ·exact .inl h1
   ·cases hF:aL F t' with
    | none=>exact .inr rfl
    | some y=>rw [hF] at h1;cases h1
section
variable {en : En} {tm : Tm} {Φ : Ctx} {w : World} {ρ : Nms}
theorem kQ {E:al} {G:List Row} {s:Tup (eR tm.vs)} (lF:al.low en.c en.fr.F=true) (lH:aU en.c en.fr.H=true) (fx: ∀ t q,en.fix t=some q→q.1.low en.c=true∧AV.bh en.c q.2=true)
  (hs:Sat (items ρ [] G++(items ρ [] en.fr.H++Φ)) w) (h:iq en tm E G=some s):
  ∃ ρ' E' R k D,dx (fun n=>en.c+n) en.fix tm.vs 0 (unt _ s)=⟨E',R,k,D⟩∧aA en.c ρ ρ'∧fV (ai ρ' [] E' en.fr.F) (ai ρ [] E en.fr.F)∧Sat (items ρ' [] (rowsOf R)++(items ρ' [] en.fr.H++Φ)) w:=by
 unfold iq at h
 have hs0:=fz (ids:=Cl G en.fr.H (qe E en.fr.F) en.fix tm.vs) hs
 change Sat (items ρ [] (Af en tm E G)++_) w at hs0
 generalize Af en tm E G=G' at h hs0
 split at h
 ·rename_i mr hm
  obtain ⟨h1,h2⟩:=ao h
  simp only [Bool.and_eq_true] at h1
  obtain ⟨⟨h3,h4⟩,h5⟩:=h1
  obtain ⟨N,I,s1,n1,a1⟩:=CO hs0 tm.vs [] mr [] hm .nil
  rw [← po _ h2] at s1
  obtain ⟨p1,_⟩:=wT hs0 a1
  obtain ⟨q1,_⟩:=nw hs0 p1 (nr h3)
  rw [pw h4] at q1
  have q2:=q1.z9
  -- names
  have hag:aA en.c ρ (fun i=>ifS (Nat.blt i en.c) (ρ i) ((N[i-en.c]?).getD nm0)):=fun j hj=>by
   have:Nat.blt j en.c=true:=by simpa using hj
   simp only [this]
  have hnm:oF (fun i=>ifS (Nat.blt i en.c) (ρ i) ((N[i-en.c]?).getD nm0)) (fun n=>en.c+n) 0 N:=fun i a ha=>by
   have:Nat.blt (en.c+i) en.c=false:=by
    cases hb:Nat.blt (en.c+i) en.c
    ·rfl
    ·simp only [Nat.blt_eq] at hb;omega
   simp only [this,show en.c+i-en.c=i by omega,ha,Option.getD_some]
   exact ⟨trivial,trivial,trivial,fun _=>trivial⟩
  generalize (fun i=>ifS (Nat.blt i en.c) (ρ i) ((N[i-en.c]?).getD nm0))=ρ' at hag hnm
  have e1:(fun i=>dR ρ (en.fix i))=fun i=>dR ρ' (en.fix i):=by
   funext i
   cases hq:en.fix i with
   | none=>rfl
   | some q=>
    obtain ⟨k1,k2⟩:=fx i q hq
    show some (q.1.val ρ,AV.ah ρ q.2)=some (q.1.val ρ',AV.ah ρ' q.2)
    rw [AV.iO hag _ k1,AV.bc hag _ k2]
  rw [e1] at s1
  obtain ⟨b1,b2,b3,b4⟩:=B1 (T:=[]) (nm:=fun n=>en.c+n) tm.vs [] (unt _ s) I (ct ρ mr.X) N s1 (Iu hm) hnm (Nat.zero_le _) []
  simp only [List.append_nil,List.length_nil] at b1 b2 b3 b4
  generalize hF:dx (fun n=>en.c+n) en.fix tm.vs 0 (unt _ s)=L at b1 b2 b3 b4
  obtain ⟨E',R,k,D⟩:=L
  refine ⟨ρ',E',R,k,D,rfl,hag,fun t p hp=> ?_,?_⟩
  ·rw [dX] at hp
   cases hk:aL E' t with
   | some x=>
    have hk2:look (al.env ρ' [] E') t=some (Tbl.get [] x.1,x.2.val ρ'):=by rw [mW,hk];rfl
    obtain ⟨c1,c2⟩:=b1 t _ hk2
    have e2:cr E' en.fr.F t=some x:=by unfold cr;rw [hk]
    rw [e2] at hp
    simp only [Option.map_some,Option.some.injEq] at hp
    subst hp
    simp only at c1 c2
    cases hpl:qe E en.fr.F t with
    | none=>rw [hpl] at c2;cases c2
    | some v=>
     rw [hpl] at c2
     simp only [Option.map_some,Option.some.injEq] at c2
     rw [ui hpl,c1,c2]
   | none=>
    have e2:cr E' en.fr.F t=aL en.fr.F t:=by unfold cr;rw [hk]
    rw [e2] at hp
    cases hFt:aL en.fr.F t with
    | none=>rw [hFt] at hp;cases hp
    | some y=>
     rw [hFt] at hp
     simp only [Option.map_some,Option.some.injEq] at hp
     have hE:aL E t=none:=by
      cases hE:aL E t with
      | none=>rfl
      | some z=>
       rcases HR h5 hE with h6 | h6
       ·have:=Ft (nm:=fun n=>en.c+n) (fix:=en.fix) (n:=0) (D:=unt _ s) h6
        rw [hF] at this
        exact (this hk).elim
       ·rw [hFt] at h6;cases h6
     rw [dX]
     unfold cr
     rw [hE,hFt,← hp]
     simp only [Option.map_some]
     rw [AV.iO hag _ (xz lF hFt)]
  ·have q3:=Sat.leL (A:=[]) (B:=bJ I) (C:=items ρ [] en.fr.H++Φ) q2 b4.rw
   rw [aF hag lH]
   exact q3
 ·cases h
end
end Go.Proofs.YtgcgmclghbebjaaGreat
namespace Go.Proofs.YtgcgmclghbebjaaGreat
open Go.Lib
def Sr (P:Program) (o:Oper):Bool:=match o.op with
 | .store .. | .alloc _ | .box .. | .buildSlice .. | .makeSlice .. | .makeMap .. | .mapUpdate .. | .insert .. | .range .. | .next .. | .defer _ | .panic _=>true
 | .convert s d _=>isStr P s&& !(isStr P d)
 | .call ⟨.builtin b,_,_⟩=>(match b with
  | .len | .cap | .min | .max | .unsafeSliceData=>false
  | _=>true)
 | .call _=>true
 | _=>false
def My (q:Bool) (m:Nat):Nat→List (Nat×Bool)→Option Nat
 | _,[]=>none
 | k,x::l=>ifS ( DN x.2 (!q)&& !(Nat.testBit m k)&&xG x.1 m ) ( some k )<|My q m (k+1) l
def Jk (l:List (Nat×Bool)):Nat→Nat→OT
 | 0,_=> .nil
 | n+1,m=>match My true m 0 l with
  | some k=> .q k m (Jk l n (bit m k))
  | none=>match My false m 0 l with
   | none=> .nil
   | some k=>match My false m (k+1) (l.drop (k+1)) with
    | none=> .l k m (Jk l n (bit m k))
    | some j=> .l2 m k (Jk l n (bit m k)) j (Jk l n (bit m j))
def Wg (o:Oper):Bool:=match o.op,o.guard with
 | .alloc _,none=>true
 | .buildSlice .., none=>true
 | _,_=>false
def PU (kd m:Nat):Nat→List (Nat×Nat)→Option (Nat×Nat)
 | _,[]=>none
 | k,x::l=>ifS ( Nat.beq x.2 kd&& !(Nat.testBit m k)&&xG x.1 m ) ( some (k,x.1) )<|PU kd m (k+1) l
def EI (m:Nat):Nat→List (Nat×Nat)→List Nat
 | _,[]=>[]
 | k,x::l=>ifS ( Nat.beq x.2 2&& !(Nat.testBit m k)&&xG x.1 m ) ( k::EI m (k+1) l )<|EI m (k+1) l
def Rc (l:List (Nat×Nat)):Nat→Nat→OT
 | 0,_=> .nil
 | n+1,m=>match PU 0 m 0 l with
  | some p=> .q p.1 m (Rc l n (bit m p.1))
  | none=>match PU 1 (fQ m (EI m 0 l)) 0 l with
   | none=> .nil
   | some p=> .f p.1 m (EI m 0 l) ((EI m 0 l).filter fun f=>Nat.testBit p.2 f) (Rc l n (bit (fQ m ((EI m 0 l).filter fun f=>Nat.testBit p.2 f)) p.1))
noncomputable def Si {R:Type} (X:Cx) (tb:List Ent) (tp:List bD) (KP:AV→StB→Option R) (ops:Array Oper) (fr:Fr) (th:List Nat) (t:OT) (st:StB) (K:Go_ R):Option R:=
 ifS ( X.P.follows .mixedOrders&&IV ops (ops.toList.map fun o=>fS o.after.toList) t ) (
  kW X tb tp KP ops.toList fr t (aK (fun r=> !(dK (reach st fr th) r)) st.G) [] [] { st with G:=aK (dK (reach st fr th)) st.G } K ) none
def Re (fr:Fr) (st:StB):List Nat→List Nat
 | []=>[]
 | t::th=>ifS (Nat.ble 20000 t) ((match cr st.E fr.F (t-20000) with
  | some (_,v)=>AV.sls v++(match v with
   | .ptr id _=>(match ki (pR id) st.G with
    | some (_,.box _ _ cs)=>((cs.map (nT st.G fr.H)).map AV.sls).flatten
    | _=>[])
   | _=>[])
  | none=>[])++Re fr st th) (Re fr st th)
def BM (fr:Fr) (st:StB) (th:List Nat):StB:=match Re fr st th with
 | []=>st
 | ids=>{ st with G:=frz ids st.G }
theorem Kv {fr:Fr} {st:StB} {th:List Nat} {ρ:Nms} {T:Tbl} {B:Ctx} {w:World} (h:Sat (items ρ T st.G++B) w):
  (BM fr st th).c=st.c∧(BM fr st th).E=st.E∧Sat (items ρ T (BM fr st th).G++B) w:=by
 unfold BM
 split
 ·exact ⟨rfl,rfl,h⟩
 ·exact ⟨rfl,rfl,fz h⟩
noncomputable def xB {R:Type} (X:Cx) (tb:List Ent) (tp:List bD) (KP:AV→StB→Option R) (ops:Array Oper) (fr:Fr) (th:List Nat) (st:StB) (K:Go_ R):Option R:=
 Si X tb tp KP ops fr th (cond (bO 40000 th) (Rc (ops.toList.map fun o=>(fS o.after.toList,cond (Wg o) 2 (cond (Sr X.P o) 1 0))) ops.toList.length 0) (Jk (ops.toList.map fun o=>(fS o.after.toList,Sr X.P o)) ops.toList.length 0)) (BM fr st th) K
abbrev brk {R:Type} (i:Nat) (K:XE→StB→Option R):XE→StB→Option R
 | .ext j,st=>ifS ( Nat.beq j i ) ( K .nrm st ) ( K (.ext j) st )
 | e,st=>K e st
abbrev thn {R:Type} (K1:StB→Option R) (K:XE→StB→Option R):XE→StB→Option R
 | .nrm,st=>K1 st
 | e,st=>K e st
abbrev cnd {R:Type} (b:Bool) (d1 d2:HT→Option R) (h:HT):Option R:=match h with
 | .c p q=>cond b (d1 p) (d2 q)
 | h=>cond b (d1 h) (d2 h)
def IX (fr:Fr) (st:StB):StB:=match st.h with
 | .r (30000::th) h=>BM fr { st with h:=h } th
 | _=>st
theorem Tz {fr:Fr} {st:StB} {ρ:Nms} {T:Tbl} {B:Ctx} {w:World} (h:Sat (items ρ T st.G++B) w):
  (IX fr st).c=st.c∧(IX fr st).E=st.E∧Sat (items ρ T (IX fr st).G++B) w:=by
 unfold IX
 split
 ·rename_i th h' _
  exact Kv (st:={ st with h:=h' }) h
 ·exact ⟨rfl,rfl,h⟩
def QH (v:AV) (i:Nat):Option (Int×(Int→AV)):=match v with
 | .int k x=>(match i with
  | 0=>some (x,.int k)
  | _=>none)
 | .agg l=>(match i with
  | 0=>none
  | j+1=>(match l[j]? with
   | some (.int k x)=>some (x,fun y=> .agg (l.set j (.int k y)))
   | _=>none))
 | _=>none
theorem T2 {v:AV} {i:Nat} {p:Int×(Int→AV)} (h:QH v i=some p):p.2 p.1=v:=by
 unfold QH at h
 split at h
 ·split at h
  ·cases h;rfl
  ·cases h
 ·split at h
  ·cases h
  ·rename_i l j
   split at h
   ·rename_i k x hx
    cases h
    simp only
    congr 1
    obtain ⟨h1,h2⟩:=List.getElem?_eq_some_iff.1 hx
    rw [← h2];exact List.set_getElem_self h1
   ·cases h
 ·cases h
def Ht {R:Type} (F:al) (t i:Nat) (k:StB→Option R):List Nat→HT→StB→Option R
 | v::vs,h,st=>(match h with
  | .c h hs=>(match cr st.E F t with
   | some (none,av)=>(match QH av i with
    | some p=>cond (p.1==(v:Int)) (k { st with h:=h,E:=(t,none,p.2 (v:Int))::st.E }) (Ht F t i k vs hs st)
    | none=>none)
   | _=>none)
  | _=>none)
 | [],h,st=>(match h with
  | .n 77777 _=>none
  | h=>k { st with h:=h })
theorem KI {R:Type} {r:R} {F:al} {t i:Nat} {k:StB→Option R} {st:StB}: ∀ {vs:List Nat} {h:HT},Ht F t i k vs h st=some r→
  ∃ st',k st'=some r∧st'.c=st.c∧st'.G=st.G∧ ∀ ρ T,fV (ai ρ T st'.E F) (ai ρ T st.E F)
 | [],h,hh=>by
  unfold Ht at hh
  split at hh
  ·cases hh
  ·exact ⟨_,hh,rfl,rfl,fun _ _=> .refl⟩
 | v::vs,h,hh=>by
  unfold Ht at hh
  split at hh
  ·rename_i h1 hs1
   split at hh
   ·rename_i av hav
    split at hh
    ·rename_i p hp
     rcases m6 hh with ⟨e,h2⟩ | ⟨_,h2⟩
     ·refine ⟨_,h2,rfl,rfl,fun ρ T u x hx=> ?_⟩
      have e1:p.2 (v:Int)=av:=by rw [← T2 hp,eq_of_beq e]
      have hl:look (ai ρ T st.E F) t=some (true,av.val ρ):=by rw [dX,hav];simp
      show look (ai ρ T st.E F) u=some x
      rw [e1] at hx
      have hx':look ((t,true,av.val ρ)::ai ρ T st.E F) u=some x:=by simpa [ai,al.env] using hx
      unfold look at hx'
      cases hb:Nat.beq t u
      ·rw [hb] at hx';exact hx'
      ·rw [hb] at hx'
       have:=Nat.eq_of_beq_eq_true hb
       subst this
       rw [hl];exact hx'
     ·exact KI h2
    ·cases hh
   ·cases hh
  ·cases hh
noncomputable def den {R:Type} (X:Cx) (tb:List Ent) (tp:List bD):Code→Fr→(XE→StB→Option R)→StB→Option R
 | .skip,_,K,st=>K .nrm st
 | .label _,_,K,st=>K .nrm st
 | .exit i,_,K,st=>K (.ext i) st
 | .goto l,_,K,st=>K (.gto l) st
 | .ret,_,K,st=>K .ret st
 | .block i c,fr,K,st=>den X tb tp c fr (brk i K) (IX fr st)
 | .cond c x y,fr,K,st=>match opA [] st.E fr.F none c with
  | some (.bool b)=>cnd b (fun h=>den X tb tp x fr K { st with h:=h }) (fun h=>den X tb tp y fr K { st with h:=h }) st.h
  | _=>none
 | .seq x y,fr,K,st=>match st.h with
  | .j tm p q=>ifS (st.low fr) (
   aj (fun s:Tup (eR tm.vs)=>den X tb tp y fr K (ek (enter fr tm (bB x) st) tm s q)) fun k=>
   den X tb tp x (enter fr tm (bB x) st).fr (thn (fun st'=>match iq (enter fr tm (bB x) st) tm st'.E st'.G with
     | some s=>k s
     | none=>none) (fun e st'=>K e (sQ (enter fr tm (bB x) st) st'))) ⟨(enter fr tm (bB x) st).c,(enter fr tm (bB x) st).Et,(enter fr tm (bB x) st).Gt,p⟩ ) none
  | .s h=>den X tb tp x fr (thn (den X tb tp y fr K) K) { st with h:=h }
  | .r (60000::t::i::vs) h=>Ht fr.F t i (fun st=>den X tb tp x fr (thn (den X tb tp y fr K) K) st) vs h st
  | _=>den X tb tp x fr (thn (den X tb tp y fr K) K) st
 | .loop c,fr,K,st=>match st.h with
  | .l tm p=>ifS (st.low fr) (
   match iq (enter fr tm (bB c) st) tm (enter fr tm (bB c) st).Et (enter fr tm (bB c) st).Gt with
   | some s=>aq (fun again s=>den X tb tp c (enter fr tm (bB c) st).fr (thn (fun st'=>match iq (enter fr tm (bB c) st) tm st'.E st'.G with
      | some s=>again s
      | none=>none) (fun e st'=>K e (sQ (enter fr tm (bB c) st) st'))) (bE (enter fr tm (bB c) st) tm s p)) X.fl s
   | none=>none ) none
  | .n k h=>aq (fun again st=>den X tb tp c fr (thn again K) st) k { st with h:=h }
  | _=>none
 | .region _ ops false,fr,K,st=>sy X tb tp (fun v st=>K (.panE v) st) ops.toList fr ops.toList [] st (K .nrm)
 | .region _ ops true,fr,K,st=>match st.h with
  | .r th h=>xB X tb tp (fun v st=>K (.pan v) st) ops fr th { st with h:=h } (K .nrm)
  | _=>xB X tb tp (fun v st=>K (.pan v) st) ops fr [] st (K .nrm)
 | _,_,_,_=>none
def XE.ex:XE→Exit
 | .nrm=> .normal
 | .ret=> .ret
 | .ext i=> .exit i
 | .gto l=> .goto l
 | .pan _=> .goto 0
 | .panE _=> .goto 0
def AtX (Q:aI) (e:XE) (ρ:Nms) (n:Nat) (D:List Deferred) (E:Env) (w:World):Prop:=match e with
 | .pan v=>AtP Q (pan (v.val ρ)) D w
 | .panE v=>At Q (.panic (pan (v.val ρ))) n D E w
 | e=>At Q e.ex n D E w
def iw {R:Type} (Q:aI) (D:List Deferred) (fr:Fr) (Φ:Ctx) (c0:Nat) (ρ0:Nms) (r:R) (K:XE→StB→Option R):Prop:=
 ∀ e st ρ w,aA c0 ρ0 ρ→c0≤st.c→K e st=some r→Sat (items ρ [] st.G++(items ρ [] fr.H++Φ)) w→AtX Q e ρ fr.n D (ai ρ [] st.E fr.F) w
theorem iw.less {R:Type} {Q:aI} {D:List Deferred} {fr:Fr} {Φ:Ctx} {c0 c1:Nat} {ρ0 ρ1:Nms} {r:R} {K:XE→StB→Option R} (h:iw Q D fr Φ c0 ρ0 r K) (ha:aA c0 ρ0 ρ1) (hc:c0≤c1):iw Q D fr Φ c1 ρ1 r K:=
 fun e st ρ w h1 h2 h3 h4=>h e st ρ w (ha.trans h1 hc) (Nat.le_trans hc h2) h3 h4
section
variable {P : Program} {ρ : Option Nat} {Q : aI} {n : Nat} {D : List Deferred} {E : Env} {w : World}
theorem B5 {σ γ τ:Type} {F:(σ→Option τ)→σ→Option τ} {r:τ} (J:σ→γ→World→Prop) (Es:σ→γ→Env) {body:Code}
  {N:Nat} {s0:σ} (hm:aq F N s0=some r) (g0:γ) (h0:J s0 g0 w) (hE:fV (Es s0 g0) E)
  (round: ∀ again s g w,F again s=some r→J s g w→WC P ρ body (Exit.then (rn again r J Es n D) Q) n D (Es s g) w):
  WC P ρ (.loop body) Q n D E w:=fun a hf hd=>
 v8 (fun m=>rn (aq F m) r J Es n D) N ⟨s0,g0,hm,h0,hf.jw hE,hd⟩ fun m a w ⟨s,g,hs,hJ,hF,hD⟩=>by
  obtain ⟨m',rfl,hs'⟩:=qf hs
  exact wpIn_mono (round (aq F m') s g w hs' hJ a hF hD) fun e a w h=>by
   cases e <;> first | exact h | exact ⟨m',Nat.lt_succ_self _,h⟩
theorem zb {σ γ τ:Type} {again:σ→Option τ} {r:τ} {J:σ→γ→World→Prop} {Es:σ→γ→Env}
  (s:σ) (g:γ) (hm:again s=some r) (hJ:J s g w) (hs:fV (Es s g) E):At (Exit.then (rn again r J Es n D) Q) .normal n D E w:=
 fun _a hf hd=>⟨s,g,hm,hJ,hf.jw hs,hd⟩
theorem Rg {γ:Type} {J:γ→World→Prop} {Es:γ→Env} (g:γ) (hJ:J g w) (hs:fV (Es g) E):At (Exit.then (Bn J Es n D) Q) .normal n D E w:=
 fun _a hf hd=>⟨g,hJ,hf.jw hs,hd⟩
theorem eS {K:Act→World→Prop} {e:XE} {ρ:Nms} (hne:e≠ .nrm) (h:AtX Q e ρ n D E w):AtX (Exit.then K Q) e ρ n D E w:=by
 cases e <;> first | exact (hne rfl).elim | exact h
end
section
variable {X : Cx} {tb : List Ent} {tp : List bD} {σ : Option Nat} {D : List Deferred} {R : Type} {r : R} {Φ : Ctx}
theorem BY {Q:aI} {fr:Fr} {c0 i:Nat} {ρ0:Nms} {K:XE→StB→Option R} (h:iw Q D fr Φ c0 ρ0 r K):iw (Exit.inBlock i Q) D fr Φ c0 ρ0 r (brk i K):=fun e st ρ w h1 h2 h3 h4=>by
 cases e with
 | nrm=>exact FG (h .nrm st ρ w h1 h2 h3 h4)
 | ret=>exact MM (h .ret st ρ w h1 h2 h3 h4)
 | gto l=>exact JF (h (.gto l) st ρ w h1 h2 h3 h4)
 | pan v=>exact Ut (h (.pan v) st ρ w h1 h2 h3 h4)
 | panE v=>exact Ik (h (.panE v) st ρ w h1 h2 h3 h4)
 | ext j=>
  unfold brk at h3
  rcases cw h3 with ⟨h5,h6⟩ | ⟨h5,h6⟩
  ·have:=Nat.eq_of_beq_eq_true h5
   subst this
   exact Kc (h .nrm st ρ w h1 h2 h6 h4)
  ·exact G0 h5 (h (.ext j) st ρ w h1 h2 h6 h4)
theorem j7 {K1:StB→Option R} {K:XE→StB→Option R} {e:XE} {st:StB} (hne:e≠ .nrm):thn K1 K e st=K e st:=by
 cases e <;> first | exact (hne rfl).elim | rfl
theorem nt {Q:aI} {fr:Fr} {c0:Nat} {ρ0 ρ1:Nms} {en:En} {K:XE→StB→Option R} (h:iw Q D fr Φ c0 ρ0 r K) (ag:aA c0 ρ0 ρ1) (le:c0≤en.c) (ff:en.fr.F=en.E++fr.F) (fh:en.fr.H=en.G++fr.H) (fn:en.fr.n=fr.n):
  ∀ e st ρ w,aA en.c ρ1 ρ→en.c≤st.c→K e (sQ en st)=some r→Sat (items ρ [] st.G++(items ρ [] en.fr.H++Φ)) w→AtX Q e ρ en.fr.n D (ai ρ [] st.E en.fr.F) w:=fun e st ρ w h1 h2 h3 h4=>by
 have:=h e (sQ en st) ρ w (ag.trans h1 le) (Nat.le_trans le h2) h3 (by
  show Sat (items ρ [] (st.G++en.G)++_) w
  rw [fh] at h4
  rw [aJ,List.append_assoc]
  rw [aJ,List.append_assoc] at h4
  exact h4)
 rw [fn,ff]
 have e1:ai ρ [] st.E (en.E++fr.F)=ai ρ [] (sQ en st).E fr.F:=by
  show al.env ρ [] st.E++al.env ρ [] (en.E++fr.F)=al.env ρ [] (st.E++en.E)++al.env ρ [] fr.F
  rw [kx,kx,List.append_assoc]
 rw [e1];exact this
theorem Td {Q:aI} {fr:Fr} {st:StB} {ρ:Nms} {w:World} {K:XE→StB→Option R} (hΓ: ∀ it∈X.Γ,it∈Φ) (htb: ∀ e∈tb,e.Ok X.P X.Γ) (htp: ∀ e∈tp,e.Ok X.P X.Γ) {id:Nat} {ops:Array Oper} (hs:Sat (items ρ [] st.G++(items ρ [] fr.H++Φ)) w)
  (h:sy X tb tp (fun v st=>K (.panE v) st) ops.toList fr ops.toList [] st (K .nrm)=some r) (hK:iw Q D fr Φ st.c ρ r K):WC X.P σ (.region id ops false) Q fr.n D (ai ρ [] st.E fr.F) w:=by
 obtain ⟨l⟩:=ops
 exact aW (KX hΓ htb htp (fun x h=>by cases h) (fun x h=>by cases h) ⟨fun x _=>rfl,fun x _=>rfl⟩ hs h (fun st' ρ' w' a1 a2 a3 a4=>hK .nrm st' ρ' w' a1 a2 a3 a4) (fun v st' ρ' w' a1 a2 a3 a4=>hK (.panE v) st' ρ' w' a1 a2 a3 a4))
theorem Cc {Q:aI} {fr:Fr} {st:StB} {ρ:Nms} {w:World} {K:XE→StB→Option R} (hΓ: ∀ it∈X.Γ,it∈Φ) (htb: ∀ e∈tb,e.Ok X.P X.Γ) (htp: ∀ e∈tp,e.Ok X.P X.Γ) {id:Nat} {ops:Array Oper} {th:List Nat} (hs:Sat (items ρ [] st.G++(items ρ [] fr.H++Φ)) w)
  (h:xB X tb tp (fun v st=>K (.pan v) st) ops fr th st (K .nrm)=some r) (hK:iw Q D fr Φ st.c ρ r K):WC X.P σ (.region id ops true) Q fr.n D (ai ρ [] st.E fr.F) w:=by
 obtain ⟨l⟩:=ops
 unfold xB at h
 generalize cond (bO 40000 th) _ _=t at h
 obtain ⟨z1,z2,hs⟩:=Kv (fr:=fr) (th:=th) hs
 rw [← z1] at hK
 rw [← z2]
 generalize BM fr st th=st at h hs hK
 unfold Si at h
 obtain ⟨h1,h2⟩:=ao h
 simp only [Bool.and_eq_true] at h1
 refine nS _ t h1.1 h1.2 (fun w1 hE=> ?_)
 have hs1:=nn (A:=[]) (p:=dK (reach st fr th)) (hs.ext hE)
 exact WDE.wd (Uh (EV:=[]) (st:={ st with G:=aK (dK (reach st fr th)) st.G }) hΓ htb htp (fun x h=>by cases h) (fun x h=>by cases h) ⟨fun x _=>rfl,fun x _=>rfl⟩ (fun x h=>by cases h) (fun x h=>by cases h) hs1 (fun p h=>by cases h) h2 (fun st' ρ' w' a1 a2 a3 a4=>hK .nrm st' ρ' w' a1 a2 a3 a4) (fun v st' ρ' w' a1 a2 a3 a4=>hK (.pan v) st' ρ' w' a1 a2 a3 a4))
theorem Cg {b:Bool} {d1 d2:HT→Option R} {h:HT} (hh:cnd b d1 d2 h=some r): ∃ p q,(b=true→d1 p=some r)∧(b=false→d2 q=some r):=by
 unfold cnd at hh
 split at hh
 ·rename_i p q
  rcases m6 hh with ⟨h1,h2⟩ | ⟨h1,h2⟩
  ·exact ⟨p,q,fun _=>h2,fun e=>by rw [h1] at e;cases e⟩
  ·exact ⟨p,q,(fun e=>by rw [h1] at e;cases e),fun _=>h2⟩
 ·rcases m6 hh with ⟨h1,h2⟩ | ⟨h1,h2⟩
  ·exact ⟨_,h,fun _=>h2,fun e=>by rw [h1] at e;cases e⟩
  ·exact ⟨h,_,(fun e=>by rw [h1] at e;cases e),fun _=>h2⟩
theorem dC (hΓ: ∀ it∈X.Γ,it∈Φ) (htb: ∀ e∈tb,e.Ok X.P X.Γ) (htp: ∀ e∈tp,e.Ok X.P X.Γ): ∀ (c:Code) {Q:aI} {fr:Fr} {K:XE→StB→Option R} {st:StB} {ρ:Nms} {w:World},Sat (items ρ [] st.G++(items ρ [] fr.H++Φ)) w→
  den X tb tp c fr K st=some r→iw Q D fr Φ st.c ρ r K→WC X.P σ c Q fr.n D (ai ρ [] st.E fr.F) w
 | .skip,Q,fr,K,st,ρ,w,hs,h,hK=>nu (hK .nrm st ρ w .refl (Nat.le_refl _) (by unfold den at h;exact h) hs)
 | .label _,Q,fr,K,st,ρ,w,hs,h,hK=>Iy (hK .nrm st ρ w .refl (Nat.le_refl _) (by unfold den at h;exact h) hs)
 | .exit i,Q,fr,K,st,ρ,w,hs,h,hK=>DI (hK (.ext i) st ρ w .refl (Nat.le_refl _) (by unfold den at h;exact h) hs)
 | .goto l,Q,fr,K,st,ρ,w,hs,h,hK=>KG (hK (.gto l) st ρ w .refl (Nat.le_refl _) (by unfold den at h;exact h) hs)
 | .ret,Q,fr,K,st,ρ,w,hs,h,hK=>wb (hK .ret st ρ w .refl (Nat.le_refl _) (by unfold den at h;exact h) hs)
 | .block i c,Q,fr,K,st,ρ,w,hs,h,hK=>by
  obtain ⟨z1,z2,z3⟩:=Tz (fr:=fr) hs
  unfold den at h
  rw [← z2]
  rw [← z1] at hK
  exact B2 (dC hΓ htb htp c z3 h (BY hK))
 | .cond c x y,Q,fr,K,st,ρ,w,hs,h,hK=>by
  unfold den at h
  split at h
  ·rename_i b hb
   have hc:=aT (ρ:=ρ) hb
   simp only [AV.val] at hc
   obtain ⟨p,q,h1,h2⟩:=Cg h
   exact iF hc (fun hb=>dC hΓ htb htp x (st:={ st with h:=p }) hs (h1 hb) hK) (fun hb=>dC hΓ htb htp y (st:={ st with h:=q }) hs (h2 hb) hK)
  ·cases h
 | .seq x y,Q,fr,K,st,ρ,w,hs,h,hK=>by
  have plain: ∀ h',den X tb tp x fr (thn (den X tb tp y fr K) K) { st with h:=h' }=some r→WC X.P σ (.seq x y) Q fr.n D (ai ρ [] st.E fr.F) w:=fun h' hd=>by
   refine aX (dC hΓ htb htp x (st:={ st with h:=h' }) hs hd (fun e st' ρ' w' a1 a2 a3 a4=> ?_))
   by_cases he:e= .nrm
   ·subst he
    exact aN (dC hΓ htb htp y a4 a3 (hK.less a1 a2))
   ·rw [j7 he] at a3
    exact eS he (hK e st' ρ' w' a1 a2 a3 a4)
  unfold den at h
  split at h
  ·rename_i tm p q hh
   obtain ⟨hl,h2⟩:=ao h
   obtain ⟨ρ1,en⟩:=o9 (tm:=tm) (m:=bB x) hl hs
   generalize enter fr tm (bB x) st=E0 at h2 en
   unfold aj at h2
   refine Lz (γ:=Tup (eR tm.vs)×Nms) (fun g w'=>den X tb tp y fr K (ek E0 tm g.1 q)=some r∧aA E0.c ρ1 g.2∧Sat (items g.2 [] (ek E0 tm g.1 q).G++(items g.2 [] fr.H++Φ)) w') (fun g=>ai g.2 [] (ek E0 tm g.1 q).E fr.F) (fun g w' hg=> ?_) ?_
   ·obtain ⟨g1,g2,g3⟩:=hg
    refine dC hΓ htb htp y g3 g1 (hK.less (en.ag.trans g2 en.le) ?_)
    have:E0.c≤(ek E0 tm g.1 q).c:=by
     unfold ek
     generalize dx (fun n=>E0.c+n) E0.fix tm.vs 0 (unt _ g.1)=L
     obtain ⟨a,b,c,d⟩:=L
     exact Nat.le_add_right _ _
    exact Nat.le_trans en.le this
   ·have hx:=dC hΓ htb htp x (fr:=E0.fr) (st:=⟨E0.c,E0.Et,E0.Gt,p⟩) (ρ:=ρ1) (Q:=Exit.then (Bn (fun (g:Tup (eR tm.vs)×Nms) w'=>den X tb tp y fr K (ek E0 tm g.1 q)=some r∧aA E0.c ρ1 g.2∧Sat (items g.2 [] (ek E0 tm g.1 q).G++(items g.2 [] fr.H++Φ)) w') (fun g=>ai g.2 [] (ek E0 tm g.1 q).E fr.F) fr.n D) Q) en.sat h2 (fun e st' ρ' w' a1 a2 a3 a4=> ?_)
    ·rw [en.fn] at hx
     exact hx.jw _ en.sub
    ·by_cases he:e= .nrm
     ·subst he
      have a3':(match iq E0 tm st'.E st'.G with | some s=>den X tb tp y fr K (ek E0 tm s q) | none=>none)=some r:=a3
      split at a3'
      ·rename_i s hb
       obtain ⟨ρ2,E',R',k,DD,b1,b2,b3,b4⟩:=kQ en.lF en.lH en.fx a4 hb
       have eJ:ek E0 tm s q=⟨E0.c+k,E'++E0.E,rowsOf R'++E0.G,q⟩:=by unfold ek;rw [b1]
       rw [en.fn]
       refine Rg (s,ρ2) ⟨a3',a1.trans b2 (Nat.le_refl _),?_⟩ ?_
       ·rw [eJ]
        show Sat (items ρ2 [] (rowsOf R'++E0.G)++_) w'
        rw [aJ,List.append_assoc]
        rw [en.fh,aJ,List.append_assoc] at b4
        exact b4
       ·rw [eJ]
        show fV (al.env ρ2 [] (E'++E0.E)++_) _
        rw [en.ff] at b3
        have e2:ai ρ2 [] E' (E0.E++fr.F)=al.env ρ2 [] (E'++E0.E)++al.env ρ2 [] fr.F:=by
         show al.env ρ2 [] E'++al.env ρ2 [] (E0.E++fr.F)=_
         rw [kx,kx,List.append_assoc]
        rw [← e2,en.ff];exact b3
      ·cases a3'
     ·rw [j7 he] at a3
      have:=nt hK en.ag en.le en.ff en.fh en.fn e st' ρ' w' a1 a2 a3 a4
      exact eS he this
  ·rename_i h' hh;exact plain h' h
  ·obtain ⟨st',k1,k2,k3,k4⟩:=KI h
   have hs':Sat (items ρ [] st'.G++(items ρ [] fr.H++Φ)) w:=by rw [k3];exact hs
   have hK':iw Q D fr Φ st'.c ρ r K:=by rw [k2];exact hK
   refine WC.jw _ (k4 ρ []) (aX (dC hΓ htb htp x (st:=st') hs' k1 (fun e st2 ρ' w' a1 a2 a3 a4=> ?_)))
   by_cases he:e= .nrm
   ·subst he
    exact aN (dC hΓ htb htp y a4 a3 (hK'.less a1 a2))
   ·rw [j7 he] at a3
    exact eS he (hK' e st2 ρ' w' a1 a2 a3 a4)
  ·exact plain st.h h
 | .loop c,Q,fr,K,st,ρ,w,hs,h,hK=>by
  unfold den at h
  split at h
  ·rename_i tm p hh
   obtain ⟨hl,h2⟩:=ao h
   obtain ⟨ρ1,en⟩:=o9 (tm:=tm) (m:=bB c) hl hs
   generalize enter fr tm (bB c) st=E0 at h2 en
   split at h2
   ·rename_i s0 hb0
    obtain ⟨ρ2,E',R',k,DD,b1,b2,b3,b4⟩:=kQ en.lF en.lH en.fx en.sat hb0
    have eL: ∀ s E' R' k DD,dx (fun n=>E0.c+n) E0.fix tm.vs 0 (unt _ s)=⟨E',R',k,DD⟩→bE E0 tm s p=⟨E0.c+k,E',rowsOf R',p⟩:=fun s E' R' k DD hb=>by unfold bE;rw [hb]
    refine B5 (γ:=Nms) (fun s g w'=>aA E0.c ρ1 g∧Sat (items g [] (bE E0 tm s p).G++(items g [] E0.fr.H++Φ)) w') (fun s g=>ai g [] (bE E0 tm s p).E E0.fr.F) h2 ρ2 ⟨b2,?_⟩ ?_ (fun again s g w' hag hJ=> ?_)
    ·rw [eL _ _ _ _ _ b1];exact b4
    ·rw [eL _ _ _ _ _ b1];exact b3.trans en.sub
    ·have hx:=dC hΓ htb htp c (fr:=E0.fr) (st:=bE E0 tm s p) (ρ:=g) (Q:=Exit.then (rn again r (fun s g w'=>aA E0.c ρ1 g∧Sat (items g [] (bE E0 tm s p).G++(items g [] E0.fr.H++Φ)) w') (fun s g=>ai g [] (bE E0 tm s p).E E0.fr.F) fr.n D) Q) hJ.2 hag (fun e st' ρ' w2 a1 a2 a3 a4=> ?_)
     ·rw [en.fn] at hx;exact hx
     ·have hc:E0.c≤(bE E0 tm s p).c:=by
       unfold bE
       generalize dx (fun n=>E0.c+n) E0.fix tm.vs 0 (unt _ s)=L
       obtain ⟨a,b,c,d⟩:=L
       exact Nat.le_add_right _ _
      by_cases he:e= .nrm
      ·subst he
       have a3':(match iq E0 tm st'.E st'.G with | some s=>again s | none=>none)=some r:=a3
       split at a3'
       ·rename_i s' hb
        obtain ⟨ρ3,E2,R2,k2,DD2,d1,d2,d3,d4⟩:=kQ en.lF en.lH en.fx a4 hb
        rw [en.fn]
        refine zb s' ρ3 a3' ⟨(hJ.1.trans (a1.less hc) (Nat.le_refl _)).trans d2 (Nat.le_refl _),?_⟩ ?_
        ·rw [eL _ _ _ _ _ d1];exact d4
        ·rw [eL _ _ _ _ _ d1];exact d3
       ·cases a3'
      ·rw [j7 he] at a3
       have:=nt hK en.ag en.le en.ff en.fh en.fn e st' ρ' w2 (hJ.1.trans (a1.less hc) (Nat.le_refl _)) (Nat.le_trans hc a2) a3 a4
       exact eS he this
   ·cases h2
  ·rename_i k h' hh
   refine B5 (γ:=Nms) (fun s g w'=>aA st.c ρ g∧st.c≤s.c∧Sat (items g [] s.G++(items g [] fr.H++Φ)) w') (fun s g=>ai g [] s.E fr.F) h ρ ⟨.refl,Nat.le_refl _,hs⟩ .refl (fun again s g w' hag hJ=> ?_)
   refine dC hΓ htb htp c (st:=s) hJ.2.2 hag (fun e st' ρ' w2 a1 a2 a3 a4=> ?_)
   by_cases he:e= .nrm
   ·subst he
    exact zb st' ρ' a3 ⟨hJ.1.trans a1 hJ.2.1,Nat.le_trans hJ.2.1 a2,a4⟩ .refl
   ·rw [j7 he] at a3
    exact eS he (hK e st' ρ' w2 (hJ.1.trans a1 hJ.2.1) (Nat.le_trans hJ.2.1 a2) a3 a4)
  ·cases h
 | .region id ops false,Q,fr,K,st,ρ,w,hs,h,hK=>Td hΓ htb htp hs (by unfold den at h;exact h) hK
 | .region id ops true,Q,fr,K,st,ρ,w,hs,h,hK=>by
  unfold den at h
  split at h
  ·rename_i th h' hh
   exact Cc (st:={ st with h:=h' }) hΓ htb htp hs h hK
  ·exact Cc hΓ htb htp hs h hK
 | .scope _,Q,fr,K,st,ρ,w,hs,h,hK=>by unfold den at h;cases h
 | .rangeFunc _ _ _ _,Q,fr,K,st,ρ,w,hs,h,hK=>by unfold den at h;cases h
end
end Go.Proofs.YtgcgmclghbebjaaGreat
namespace Go.Proofs.YtgcgmclghbebjaaGreat
open Go.Lib
def kf (l:Nat):Code→Bool
 | .label j=>j==l
 | .seq x y=>kf l x||kf l y
 | _=>false
theorem Um {l:Nat}:(c:Code)→kf l c=false→findLabel c l=none:=fun c=>by
 induction c with
 | label j=>
  intro h
  unfold kf at h
  unfold findLabel
  rw [h];rfl
 | seq x y ihx ihy=>
  intro h
  simp only [kf,Bool.or_eq_false_iff] at h
  simp only [findLabel,ihx h.1,ihy h.2]
 | _=>intro _;rfl
theorem Im {l:Nat}:(c:Code)→kf l c=true→ ∃ r,findLabel c l=some r:=fun c=>by
 induction c with
 | label j=>
  intro h
  unfold kf at h
  unfold findLabel
  rw [h];exact ⟨_,rfl⟩
 | seq x y ihx ihy=>
  intro h
  simp only [kf,Bool.or_eq_true] at h
  unfold findLabel
  cases hx:findLabel x l with
  | some r=>exact ⟨_,rfl⟩
  | none=>
   rcases h with h | h
   ·obtain ⟨r,hr⟩:=ihx h;rw [hx] at hr;cases hr
   ·exact ihy h
 | _=>intro h;cases h
def lab (P:Program) (ρ:Option Nat) (l:Nat):Code→aI→aI
 | .seq x y,Q=>ifS (kf l x) (lab P ρ l x (Exit.then (y.wpIn (FW ρ) 0 P Q) Q)) (lab P ρ l y Q)
 | _,Q=>Q
theorem Qy {P:Program} {ρ:Option Nat} {l:Nat}:(c:Code)→{r:Code}→{Q:aI}→{a:Act}→{w:World}→findLabel c l=some r→lab P ρ l c Q .normal a w→r.wpIn (FW ρ) 0 P Q a w:=fun c=>by
 induction c with
 | label j=>
  intro r Q a w hr h
  unfold findLabel at hr
  split at hr
  ·cases hr;exact wpIn_skip h
  ·cases hr
 | seq x y ihx ihy=>
  intro r Q a w hr h
  unfold lab at h
  unfold findLabel at hr
  cases hx:kf l x
  ·rw [hx] at h
   rw [Um x hx] at hr
   exact ihy hr h
  ·rw [hx] at h
   obtain ⟨r',hr'⟩:=Im x hx
   rw [hr'] at hr
   cases hr
   exact wpIn_seq (ihx hr' h)
 | _=>intro r Q a w hr h;cases hr
def sT (l:Nat):Code→Nat
 | .seq x y=>ifS (kf l x) (Nat.lor (sT l x) (bB y)) (sT l y)
 | _=>0
def qC (st:StB):StB:=match st.h with
 | .s h=>{ st with h:=h }
 | _=>st
abbrev gtk {R:Type} (l:Nat) (A:StB→Option R) (K:XE→StB→Option R):XE→StB→Option R
 | .gto j,st=>ifS (Nat.beq j l) (A st) none
 | e,st=>K e st
noncomputable def Ab {R:Type} (X:Cx) (tb:List Ent) (tp:List bD) (l:Nat) (fr:Fr):Code→(XE→StB→Option R)→StB→Option R
 | .seq x y,K,st=>ifS (kf l x) (Ab X tb tp l fr x (thn (den X tb tp y fr K) K) st) (Ab X tb tp l fr y K st)
 | .label _,K,st=>K .nrm st
 | _,_,_=>none
noncomputable def yH {R:Type} (X:Cx) (tb:List Ent) (tp:List bD) (l:Nat) (fr:Fr) (K:XE→StB→Option R) (KL:StB→Option R):Code→StB→Option R
 | .seq x y,st=>ifS (kf l x) (yH X tb tp l fr K KL x (qC st)) (den X tb tp x fr (thn (fun st=>yH X tb tp l fr K KL y st) K) (qC st))
 | .label _,st=>KL st
 | _,_=>none
noncomputable def Sa {R:Type} (X:Cx) (tb:List Ent) (tp:List bD) (c:Code) (fr:Fr) (K:XE→StB→Option R) (st:StB):Option R:=match st.h with
 | .n l (.j tm p q)=>ifS (kf l c) (
   yH X tb tp l fr (gtk l (fun _=>none) K) (fun st1=>ifS (st1.low fr) (
     match iq (enter fr tm (sT l c) st1) tm (enter fr tm (sT l c) st1).Et (enter fr tm (sT l c) st1).Gt with
     | some s=>aq (fun again s=>Ab X tb tp l (enter fr tm (sT l c) st1).fr c (gtk l (fun st'=>match iq (enter fr tm (sT l c) st1) tm st'.E st'.G with
       | some s=>again s
       | none=>none) (fun e st'=>K e (sQ (enter fr tm (sT l c) st1) st'))) (bE (enter fr tm (sT l c) st1) tm s q)) X.fl s
     | none=>none) none) c { st with h:=p }) none
 | _=>none
section
variable {X : Cx} {tb : List Ent} {tp : List bD} {σ : Option Nat} {D : List Deferred} {R : Type} {r : R} {Φ : Ctx}
theorem K4 {Q:aI} {l n:Nat} {E:Env} {w:World} {e:XE} {ρ:Nms} {J:Act→World→Prop} (hne: ∀ j,e≠ .gto j) (h:AtX Q e ρ n D E w):AtX (Exit.jump l J Q) e ρ n D E w:=by
 cases e <;> first | exact ((hne _) rfl).elim | exact h
theorem RM {l:Nat} (hΓ: ∀ it∈X.Γ,it∈Φ) (htb: ∀ e∈tb,e.Ok X.P X.Γ) (htp: ∀ e∈tp,e.Ok X.P X.Γ): ∀ (c:Code) {Q:aI} {fr:Fr} {K:XE→StB→Option R} {st:StB} {ρ:Nms} {w:World},Sat (items ρ [] st.G++(items ρ [] fr.H++Φ)) w→
  Ab X tb tp l fr c K st=some r→iw Q D fr Φ st.c ρ r K→ ∀ a,Fits fr.n (ai ρ [] st.E fr.F) a→a.defers=D→lab X.P σ l c Q .normal a w:=fun c=>by
 induction c with
 | label j=>intro Q fr K st ρ w hs h hK a hf hd;exact hK .nrm st ρ w .refl (Nat.le_refl _) h hs a hf hd
 | seq x y ihx ihy=>
  intro Q fr K st ρ w hs h hK a hf hd
  unfold Ab at h
  unfold lab
  cases hx:kf l x
  ·rw [hx] at h
   exact ihy hs h hK a hf hd
  ·rw [hx] at h
   refine ihx (Q:=Exit.then (y.wpIn (FW σ) 0 X.P Q) Q) hs h (fun e st' ρ' w' a1 a2 a3 a4=> ?_) a hf hd
   by_cases he:e= .nrm
   ·subst he
    exact aN (dC hΓ htb htp y a4 a3 (hK.less a1 a2))
   ·rw [j7 he] at a3
    exact eS he (hK e st' ρ' w' a1 a2 a3 a4)
 | _=>intro Q fr K st ρ w hs h;cases h
theorem Ko {st:StB}:(qC st).c=st.c∧(qC st).E=st.E∧(qC st).G=st.G:=by
 unfold qC
 split <;> exact ⟨rfl,rfl,rfl⟩
theorem NK {l:Nat} (hΓ: ∀ it∈X.Γ,it∈Φ) (htb: ∀ e∈tb,e.Ok X.P X.Γ) (htp: ∀ e∈tp,e.Ok X.P X.Γ) {Q0:aI} {fr:Fr} {K:XE→StB→Option R} {KL:StB→Option R} {c0:Nat} {ρ0:Nms} (hK:iw Q0 D fr Φ c0 ρ0 r K): ∀ (c:Code) {Q:aI} {st:StB} {ρ:Nms} {w:World},
  (∀ e (E:Env) (ρ:Nms) w,e≠ .nrm→AtX Q0 e ρ fr.n D E w→AtX Q e ρ fr.n D E w)→
  (∀ st1 ρ1 w1,aA c0 ρ0 ρ1→c0≤st1.c→KL st1=some r→Sat (items ρ1 [] st1.G++(items ρ1 [] fr.H++Φ)) w1→ ∀ a,Fits fr.n (ai ρ1 [] st1.E fr.F) a→a.defers=D→lab X.P σ l c Q .normal a w1)→
  kf l c=true→aA c0 ρ0 ρ→c0≤st.c→Sat (items ρ [] st.G++(items ρ [] fr.H++Φ)) w→
  yH X tb tp l fr K KL c st=some r→WC X.P σ c Q fr.n D (ai ρ [] st.E fr.F) w:=fun c=>by
 induction c with
 | label j=>intro Q st ρ w hQ hL _ ha hc hs h;exact Iy (fun a hf hd=>hL st ρ w ha hc h hs a hf hd)
 | seq x y ihx ihy=>
  intro Q st ρ w hQ hL hh ha hc hs h
  obtain ⟨p1,p2,p3⟩:=Ko (st:=st)
  unfold yH at h
  cases hx:kf l x
  ·rw [hx] at h
   simp only [kf,hx,Bool.false_or] at hh
   refine aX ?_
   have:=dC (σ:=σ) (D:=D) hΓ htb htp x (fr:=fr) (st:=qC st) (ρ:=ρ) (w:=w) (Q:=Exit.then (y.wpIn (FW σ) 0 X.P Q) Q) (by rw [p3];exact hs) h (fun e st' ρ' w' a1 a2 a3 a4=> ?_)
   ·rw [p2] at this;exact this
   ·rw [p1] at a1 a2
    by_cases he:e= .nrm
    ·subst he
     refine aN (ihy hQ (fun st1 ρ1 w1 b1 b2 b3 b4 a hf hd=> ?_) hh (ha.trans a1 hc) (Nat.le_trans hc a2) a4 a3)
     have:=hL st1 ρ1 w1 b1 b2 b3 b4 a hf hd
     unfold lab at this
     rw [hx] at this
     exact this
    ·rw [j7 he] at a3
     exact eS he (hQ _ _ _ _ he (hK e st' ρ' w' (ha.trans a1 hc) (Nat.le_trans hc a2) a3 a4))
  ·rw [hx] at h
   refine aX ?_
   have:=ihx (Q:=Exit.then (y.wpIn (FW σ) 0 X.P Q) Q) (st:=qC st) (ρ:=ρ) (w:=w) (fun e E ρ w hne he=>eS hne (hQ e E ρ w hne he)) (fun st1 ρ1 w1 b1 b2 b3 b4 a hf hd=> ?_) hx ha (by rw [p1];exact hc) (by rw [p3];exact hs) h
   ·rw [p2] at this;exact this
   ·have:=hL st1 ρ1 w1 b1 b2 b3 b4 a hf hd
    unfold lab at this
    rw [hx] at this
    exact this
 | _=>intro Q st ρ w hQ hL hh;cases hh
theorem SX {c:Code} {Q:aI} {fr:Fr} {K:XE→StB→Option R} {st:StB} {ρ:Nms} {w:World} (hΓ: ∀ it∈X.Γ,it∈Φ) (htb: ∀ e∈tb,e.Ok X.P X.Γ) (htp: ∀ e∈tp,e.Ok X.P X.Γ) (hs:Sat (items ρ [] st.G++(items ρ [] fr.H++Φ)) w)
  (h:Sa X tb tp c fr K st=some r) (hK:iw Q D fr Φ st.c ρ r K):WC X.P σ (.scope c) Q fr.n D (ai ρ [] st.E fr.F) w:=by
 unfold Sa at h
 split at h
 ·rename_i l tm p q hh
  obtain ⟨hlab,h0⟩:=ao h
  obtain ⟨rest,hrest⟩:=Im c hlab
  -- what holds at the label
  let F:En→(Tup (eR tm.vs)→Option R)→Tup (eR tm.vs)→Option R:=fun E0 again s=>Ab X tb tp l E0.fr c (gtk l (fun st'=>match iq E0 tm st'.E st'.G with
     | some s=>again s
     | none=>none) (fun e st'=>K e (sQ E0 st'))) (bE E0 tm s q)
  let I:Nat→Act→World→Prop:=fun m a w=> ∃ (E0:En) (ρ1:Nms),(E0.fr.F=E0.E++fr.F∧E0.fr.H=E0.G++fr.H∧E0.fr.n=fr.n∧al.low E0.c E0.fr.F=true∧aU E0.c E0.fr.H=true∧(∀ t q,E0.fix t=some q→q.1.low E0.c=true∧AV.bh E0.c q.2=true))∧aA st.c ρ ρ1∧st.c≤E0.c∧
   rn (aq (F E0) m) r (fun s (g:Nms) w'=>aA E0.c ρ1 g∧Sat (items g [] (bE E0 tm s q).G++(items g [] E0.fr.H++Φ)) w') (fun s g=>ai g [] (bE E0 tm s q).E E0.fr.F) fr.n D a w
  have at_lab: ∀ m a w,I m a w→lab X.P σ l c (Exit.jump l (fun a' w'=> ∃ m'<m,I m' a' w') Q) .normal a w:=by
   rintro m a w ⟨E0,ρ1,⟨ff,fh,fn,lF,lH,fx⟩,hag,hle,s,g,hm,hJ,hF,hD⟩
   obtain ⟨m',rfl,hm'⟩:=qf hm
   have eL: ∀ s E' R' k DD,dx (fun n=>E0.c+n) E0.fix tm.vs 0 (unt _ s)=⟨E',R',k,DD⟩→bE E0 tm s q=⟨E0.c+k,E',rowsOf R',q⟩:=fun s E' R' k DD hb=>by unfold bE;rw [hb]
   have hc:E0.c≤(bE E0 tm s q).c:=by
    unfold bE
    generalize dx (fun n=>E0.c+n) E0.fix tm.vs 0 (unt _ s)=L
    obtain ⟨a,b,c,d⟩:=L
    exact Nat.le_add_right _ _
   refine RM (σ:=σ) (D:=D) hΓ htb htp c (fr:=E0.fr) (st:=bE E0 tm s q) (ρ:=g) (Q:=Exit.jump l (fun a' w'=> ∃ m''<m'+1,I m'' a' w') Q) hJ.2 hm' (fun e st' ρ' w2 a1 a2 a3 a4=> ?_) a (by rw [fn];exact hF) hD
   by_cases he: ∃ j,e= .gto j
   ·obtain ⟨j,rfl⟩:=he
    unfold gtk at a3
    obtain ⟨hj,a5⟩:=ao a3
    have:=Nat.eq_of_beq_eq_true hj
    subst this
    dsimp only at a5
    split at a5
    ·rename_i s' hb
     obtain ⟨ρ3,E2,R2,k2,DD2,d1,d2,d3,d4⟩:=kQ lF lH fx a4 hb
     refine fun a2' hf2 hd2=>⟨rfl,m',Nat.lt_succ_self _,E0,ρ1,⟨ff,fh,fn,lF,lH,fx⟩,hag,hle,s',ρ3,a5,⟨(hJ.1.trans (a1.less hc) (Nat.le_refl _)).trans d2 (Nat.le_refl _),?_⟩,?_,hd2⟩
     ·rw [eL _ _ _ _ _ d1];exact d4
     ·rw [fn] at hf2
      show Fits fr.n (ai ρ3 [] (bE E0 tm s' q).E E0.fr.F) a2'
      rw [eL _ _ _ _ _ d1]
      exact hf2.jw d3
    ·cases a5
   ·have hne: ∀ j,e≠ .gto j:=fun j hj=>he ⟨j,hj⟩
    have a3':K e (sQ E0 st')=some r:=by
     cases e <;> first | exact ((hne _) rfl).elim | exact a3
    exact K4 hne (nt hK hag hle ff fh fn e st' ρ' w2 (hJ.1.trans (a1.less hc) (Nat.le_refl _)) (Nat.le_trans hc a2) a3' a4)
  refine fun a hf hd=>tX l I hrest ?_ (fun m a w hI=>Qy c hrest (at_lab m a w hI))
  -- the way to the label
  have hK':iw (Exit.jump l (fun a w=> ∃ m,I m a w) Q) D fr Φ st.c ρ r (gtk l (fun _=>none) K):=fun e st1 ρ' w' a1 a2 a3 a4=>by
   by_cases he: ∃ j,e= .gto j
   ·obtain ⟨j,rfl⟩:=he
    unfold gtk at a3
    obtain ⟨_,a5⟩:=ao a3
    cases a5
   ·have hne: ∀ j,e≠ .gto j:=fun j hj=>he ⟨j,hj⟩
    have a3':K e st1=some r:=by
     cases e <;> first | exact ((hne _) rfl).elim | exact a3
    exact K4 hne (hK e st1 ρ' w' a1 a2 a3' a4)
  refine NK (σ:=σ) hΓ htb htp hK' c (Q:=Exit.jump l (fun a w=> ∃ m,I m a w) Q) (st:={ st with h:=p }) (ρ:=ρ) (fun _ _ _ _ _ h=>h) (fun st1 ρ' w' a1 a2 a3 a4 a' hf' hd'=> ?_) hlab .refl (Nat.le_refl _) hs h0 a hf hd
  obtain ⟨hl,h2⟩:=ao a3
  obtain ⟨ρ1,en⟩:=o9 (tm:=tm) (m:=sT l c) hl a4
  generalize enter fr tm (sT l c) st1=E0 at h2 en
  split at h2
  ·rename_i s0 hb0
   obtain ⟨ρ2,E',R',k,DD,b1,b2,b3,b4⟩:=kQ en.lF en.lH en.fx en.sat hb0
   have eL:bE E0 tm s0 q=⟨E0.c+k,E',rowsOf R',q⟩:=by unfold bE;rw [b1]
   have key:I X.fl a' w':=by
    refine ⟨E0,ρ1,⟨en.ff,en.fh,en.fn,en.lF,en.lH,en.fx⟩,a1.trans en.ag a2,Nat.le_trans a2 en.le,s0,ρ2,h2,⟨b2,?_⟩,?_,hd'⟩
    ·rw [eL];exact b4
    ·show Fits fr.n (ai ρ2 [] (bE E0 tm s0 q).E E0.fr.F) a'
     rw [eL];exact hf'.jw (b3.trans en.sub)
   have mono: ∀ (c:Code) (Q1 Q2:aI),(∀ e a w,Q1 e a w→Q2 e a w)→ ∀ a w,lab X.P σ l c Q1 .normal a w→lab X.P σ l c Q2 .normal a w:=fun c=>by
    induction c with
    | seq x y ihx ihy=>
     intro Q1 Q2 hq a w h
     unfold lab at h ⊢
     cases hx:kf l x
     ·rw [hx] at h;exact ihy Q1 Q2 hq a w h
     ·rw [hx] at h
      refine ihx _ _ (fun e a w he=> ?_) a w h
      cases e with
      | normal=>exact wpIn_mono he hq
      | _=>exact hq _ _ _ he
    | _=>intro Q1 Q2 hq a w h;exact hq _ _ _ h
   exact mono c _ _ (fun e a w he=>by
    cases e <;> first | exact he | exact ⟨he.1,let ⟨m',_,hI⟩:=he.2;⟨m',hI⟩⟩) a' w' (at_lab X.fl a' w' key)
  ·cases h2
 ·cases h
end
end Go.Proofs.YtgcgmclghbebjaaGreat
