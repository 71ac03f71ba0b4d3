/-
  Own texts for the statement StoreTells, cut down to what it needs: B9, B10, B11, B12, B13, B14, B15, B16, B24, B25, K20, B32, B30. (cut and joined by a program)
-/
import Derived.Test.YtgcgmclghbebjaaGreatStoreTellsA
import Derived.Test.YtgcgmclghbebjaaGreatStoreTellsB
namespace Go.Proofs.YtgcgmclghbebjaaGreat
open Go.Lib
section
variable {X : Cx} {R : Type} {r : R} {K : Go_ R} {T : Tbl} {fr : Fr} {st : StB} {g : GK} {d : Tmp} {ρ : Nms} {Φ : Ctx} {w : World} {ty : TypeId} {pos : String} {af : Array Edge} {gd : Option (Nat × Bool)}
/-! cuts -/
def GU:Operand→Operand→Bool
 | .tmp a,.tmp b=>Nat.beq a b
 | .const (.int .i64 a),.const (.int .i64 b)=>decide (a=b)
 | _,_=>false
theorem IT {x y:Operand} (h:GU x y=true):x=y:=by
 unfold GU at h
 split at h
 ·rw [Nat.eq_of_beq_eq_true h]
 ·rw [of_decide_eq_true h]
 ·cases h
def LA (_T:Tbl) (g:GK) (st:StB) (d:Tmp) (G:List Row) (t:Ty) (l:List t.T) (i j:Int) (clip:Bool) (K:Go_ R):Option R:=
 K { st with c:=st.c+1,E:=bC (some d) g (.sl st.c) st.E,G:= .sli g st.c t (bd l i j) clip::G }
def IB (X:Cx) (T:Tbl) (fr:Fr) (st:StB) (g:GK) (d:Tmp) (t:TypeId) (x:Operand) (lo hi mx:Option Operand) (K:Go_ R):Option R:=match eI X.P t with
 | some e=>(match tiA X.P e with
  | some z=>(match opA T st.E fr.F g x with
   | some (.sl id)=>(match loA T st.E fr.F g lo with
    | some i=>(match hiA T st.E fr.F g hi with
     | some j=>(match cz (frz [id] st.G) fr.H (jQ id) with
      | some (_,.sli g' _ u l _)=>ifS ( T.imp g g'&&Nat.beq z.1 u.n' ) ( match mx with
       | none=>xx (some (fX i (j.getD (l.length:Int)) l.length)) (g.map fun _=>T.get g) (LA T g st d (frz [id] st.G) u l i (j.getD (l.length:Int)) false K)
       | some y=>(match hi with
        | some h=>(match opA T st.E fr.F g y with
         | some (.int _ m)=>ifS (GU h y) ( xx (some (jj i m m l.length)) (g.map fun _=>T.get g) (LA T g st d (frz [id] st.G) u l i m true K) )
          ( xx (some (jj i m m l.length&&(j.getD (l.length:Int)==m))) (g.map fun _=>T.get g) (LA T g st d (frz [id] st.G) u l i m true K) )
         | _=>none)
        | none=>none) ) none
      | _=>none)
     | none=>none)
    | none=>none)
   | _=>none)
  | none=>none)
 | none=>none
theorem Bp {G:List Row} {t:Ty} {l:List t.T} {i j:Int} {clip:Bool} {p:SLV} (hl:st.low fr=true) (hGl:aU st.c G=true) (hs:Sat (items ρ T G++(items ρ T fr.H++Φ)) w)
  (hp:T.get g=true→SRd t.rep (Ctx.M (items ρ T G++(items ρ T fr.H++Φ))) w (sl p) (bd l i j)∧(clip=true→p.2.2=(bd l i j).length)) (h:LA T g st d G t l i j clip K=some r):
  aB r K T fr st g (some d) ρ Φ (sl p) w:=by
 refine aB.new (ρ':=ρ.set st.c { nm0 with v:=p }) hl h Nms.aD (Nat.le_succ _) rfl (by simp only [AV.val,Nms.aS]) ?_
 show Sat (items _ T (_::G)++_) w
 have e:=aF (T:=T) (Nms.aD (ρ:=ρ) (j:=st.c) (x:={ nm0 with v:=p })) hGl
 rw [items,List.map_cons]
 rw [items] at e
 rw [e]
 refine hs.add rfl ?_
 simp only [Row.item,Nms.aS]
 exact hp
theorem ED {t:TypeId} {x:Operand} {lo hi mx:Option Operand} (hl:st.low fr=true) (hs:Sat (items ρ T st.G++(items ρ T fr.H++Φ)) w) (h:IB X T fr st g d t x lo hi mx K=some r):
  Okq X.P T g (ai ρ T st.E fr.F) ⟨some d,.slice t x lo hi mx,ty,pos,af,gd⟩ w (aB r K T fr st g (some d) ρ Φ):=by
 unfold IB at h
 split at h
 ·rename_i e he
  split at h
  ·rename_i z hz
   obtain ⟨n,bytes,z⟩:=z
   split at h
   ·rename_i id hx
    split at h
    ·rename_i i hi
     split at h
     ·rename_i j hj
      replace hs:=fz (ids:=[id]) hs
      have hGl:=lO (ids:=[id]) (StB.bz.1 hl).2.2.1
      have hx':=az (ρ:=ρ) hx
      simp only [AV.val] at hx'
      split at h
      ·rename_i s g' id' u l b hf
       obtain ⟨h1,h2⟩:=ao h
       simp only [Bool.and_eq_true] at h1
       have hn:n=u.rep.n:=(Nat.eq_of_beq_eq_true h1.2).trans u.rR.symm
       obtain ⟨f1,f2⟩:=ba hf
       have:id'=id:=Nat.eq_of_beq_eq_true f2
       subst this
       have hT:=Src.holds hs f1
       have hS:T.get g=true→SRd u.rep _ w (sl (ρ id').v) l:=fun hg=>(hT (Tbl.gZ h1.1 hg)).1
       have hti:=bH hz
       rw [hn] at hti
       split at h2
       ·obtain ⟨h3,h4⟩:=lK h2
        obtain ⟨p,k1,k2⟩:=SRd.V8 hS (fun hg=>h3 _ rfl hg)
        have hout:=Bp (p:=p) hl hGl hs (fun hg=>⟨k2 hg,fun hb=>by cases hb⟩) h4
        exact ⟨_,fun w'=>tz (bq he) hti hx' (fun hg=>(hS hg).len) (C0 hi) (Dp hj) k1,hout⟩
       ·rename_i y
        split at h2
        ·rename_i hh
         split at h2
         ·rename_i k m hy
          have hy':=az (ρ:=ρ) hy
          simp only [AV.val] at hy'
          rcases cw h2 with ⟨h5,h6⟩ | ⟨_,h6⟩
          ·have:=IT h5
           subst this
           obtain ⟨h3,h4⟩:=lK h6
           have key: ∃ p:SLV,(T.get g=true→Aw (sl (ρ id').v) i m m u.rep.n (sl p))∧(T.get g=true→SRd u.rep (Ctx.M (items ρ T (frz [id'] st.G)++(items ρ T fr.H++Φ))) w (sl p) (bd l i m)∧(true=true→p.2.2=(bd l i m).length)):=by
            cases hg:T.get g
            ·exact ⟨(none,0,0),(fun h=>by cases h),(fun h=>by cases h)⟩
            ·obtain ⟨p,q1,q2⟩:=SRd.SG (hS hg) (h3 _ rfl hg)
             exact ⟨_,fun _=>q1,fun _=>⟨q2,fun _=>rfl⟩⟩
           obtain ⟨p,k1,k2⟩:=key
           have hout:=Bp (p:=p) hl hGl hs k2 h4
           exact ⟨_,fun w'=>Dl (lo:=lo) (hi:=some hh) (bq he) hti hx' (fun hg=>(hS hg).len) (C0 hi) ⟨k,hy'⟩ hy' k1,hout⟩
          ·obtain ⟨h3,h4⟩:=lK h6
           have h3':T.get g=true→jj i m m l.length=true∧j.getD (l.length:Int)=m:=fun hg=>by
            have:=h3 _ rfl hg
            simp only [Bool.and_eq_true,beq_iff_eq] at this
            exact this
           have key: ∃ p:SLV,(T.get g=true→Aw (sl (ρ id').v) i m m u.rep.n (sl p))∧(T.get g=true→SRd u.rep (Ctx.M (items ρ T (frz [id'] st.G)++(items ρ T fr.H++Φ))) w (sl p) (bd l i m)∧(true=true→p.2.2=(bd l i m).length)):=by
            cases hg:T.get g
            ·exact ⟨(none,0,0),(fun h=>by cases h),(fun h=>by cases h)⟩
            ·obtain ⟨p,q1,q2⟩:=SRd.SG (hS hg) (h3' hg).1
             exact ⟨_,fun _=>q1,fun _=>⟨q2,fun _=>rfl⟩⟩
           obtain ⟨p,k1,k2⟩:=key
           have hout:=Bp (p:=p) hl hGl hs k2 h4
           have hhi: ∃ k,Opd (ai ρ T st.E fr.F) (T.get g) hh (.int k m):=by
            obtain ⟨k,hk⟩: ∃ k,Opd (ai ρ T st.E fr.F) (T.get g) hh (.int k (j.getD (l.length:Int))):=Dp (ρ:=ρ) (len:=l.length) hj
            exact ⟨k,fun n a hf hg=>by rw [hk n a hf hg,(h3' hg).2]⟩
           exact ⟨_,fun w'=>Dl (lo:=lo) (hi:=some hh) (bq he) hti hx' (fun hg=>(hS hg).len) (C0 hi) hhi hy' k1,hout⟩
         ·cases h2
        ·cases h2
      ·cases h
     ·cases h
    ·cases h
   ·cases h
  ·cases h
 ·cases h
/-! literals -/
def I8 (len:Nat) (z:List AV):List AV:=(List.replicate len z).flatten
theorem IM {len:Nat} {z:List AV}:AV.ah ρ (I8 len z)=(List.replicate len (AV.ah ρ z)).flatten:=by
 unfold I8
 induction len with
 | zero=>simp [AV.ah]
 | succ n ih=>simp only [List.replicate_succ,List.flatten_cons,bK,ih]
def unR (T:Tbl) (g:GK):List Row→List Row
 | []=>[]
 | r::G=>(match r with
  | .sli g' id t l c=>ifS (T.imp g g') (.sli none id t l c) (.sli g' id t l c)
  | r=>r)::unR T g G
def unG (T:Tbl) (g:GK) (G:List Row):List Row:=match g with
 | none=>G
 | some _=>unR T g G
theorem Fk {ρ:Nms} {T:Tbl} {g:GK} (hg:T.get g=true):{G:List Row}→items ρ T (unR T g G)=items ρ T G
 | []=>rfl
 | r::G=>by
  have ih:=Fk (ρ:=ρ) hg (G:=G)
  unfold unR
  simp only [items,List.map_cons] at ih ⊢
  rw [ih]
  congr 1
  cases r with
  | sli g' id t l c=>
   show Row.item ρ T (ifS (T.imp g g') (.sli none id t l c) (.sli g' id t l c))=_
   cases h:T.imp g g' with
   | false=>rfl
   | true=>
    show Row.item ρ T (.sli none id t l c)=_
    simp only [Row.item,Tbl.get_none,Tbl.gZ h hg]
  | _=>rfl
theorem tU {ρ:Nms} {T:Tbl} {g:GK} (hg:T.get g=true) {G:List Row}:items ρ T (unG T g G)=items ρ T G:=by
 cases g with
 | none=>rfl
 | some k=>exact Fk hg
def PT (X:Cx) (T:Tbl) (fr:Fr) (st:StB) (g:GK) (d:Tmp) (t:TypeId) (len:Nat) (ps:List (Nat×Operand)) (K:Go_ R):Option R:=match eI X.P t with
 | some e=>(match qZ X.tys e with
  | some u=>(match tiA X.P e with
   | some z=>(match my T st.E fr.F g (ps.map (·.2)) with
    | some vs=>(match tH (fun i=>some (i*z.1,z.1)) ((ps.map (·.1)).zip vs) (I8 len (z.2.2.cells.toList.map cst)) with
     | some cs=>(match rdL (unG T g (frz (AV.sls (.agg vs)++(vs.map AV.sls).flatten) st.G)) (unG T g fr.H) u len cs with
      | some xs=>ifS ( Nat.beq z.1 u.n'&&Nat.beq z.2.2.cells.size z.1&&Nat.ble (len*z.1) 16777216 ) ( match g with
       | none=>ifS ( Nat.blt 0 (len*z.1)||Nat.beq len 0&&ps.isEmpty ) ( K { st with c:=st.c+1,E:=bC (some d) none (.sl st.c) st.E,G:= .own st.c u e xs st.c::frz (AV.sls (.agg vs)++(vs.map AV.sls).flatten) st.G } ) none
       | some _=>ifS ( Nat.blt 0 (len*z.1)||Nat.beq len 0&&ps.isEmpty ) ( K { st with c:=st.c+1,E:=bC (some d) g (.sl st.c) st.E,G:= .sli g st.c u xs false::frz (AV.sls (.agg vs)++(vs.map AV.sls).flatten) st.G } ) none ) none
      | none=>none)
     | none=>none)
    | none=>none)
   | none=>none)
  | none=>none)
 | none=>none
theorem o6 {t:Ty} {e:TypeId} {p:SLV} {l:List t.T} {G:List Row} {w':World} {st':StB} (hl:st.low fr=true) (hGl:aU st.c G=true) (hs:Sat (items ρ T G++(items ρ T fr.H++Φ)) w) (hE:Ext w w')
  (hR: ∀ b∈slR p,b<w'.heap.size∧w.heap.size≤b) (hP: ∀ M',Mv (Ctx.M (items ρ T G++(items ρ T fr.H++Φ))) w M' w'→Own t.rep e M' w' (sl p) l (slR p))
  (hst:st'={ st with c:=st.c+1,E:=bC (some d) none (.sl st.c) st.E,G:= .own st.c t e l st.c::G }) (hK:K st'=some r):aB r K T fr st none (some d) ρ Φ (sl p) w':=by
 subst hst
 refine aB.new (ρ':=ρ.set st.c { nm0 with v:=p,y:=⟨.l t,l⟩ }) hl hK Nms.aD (Nat.le_succ _) rfl (by simp only [AV.val,Nms.aS]) ?_
 show Sat (items _ T (_::G)++_) w'
 have e:=aF (T:=T) (Nms.aD (ρ:=ρ) (j:=st.c) (x:={ nm0 with v:=p,y:=⟨.l t,l⟩ })) hGl
 rw [items,List.map_cons]
 rw [items] at e
 rw [e]
 refine hs.push hE (fun b hb=> ?_) (fun M' m=> ?_)
 ·simp only [Row.item,Nms.aS] at hb
  exact hR b hb
 ·simp only [Row.item,Nms.aS]
  exact ⟨hP M' m,trivial⟩
theorem zQ {b n c:Nat}:blk (sl (some ⟨b,0,none⟩,n,c))=[b]:=rfl
theorem vR {p:SLV} {b:Nat} (h:b∈slR p):b∈blk (sl p):=by
 unfold slR at h
 split at h
 ·cases h
 ·exact h
theorem T6 {t:TypeId} {len:Nat} {ps:Array (Nat×Operand)} (hl:st.low fr=true) (hs:Sat (items ρ T st.G++(items ρ T fr.H++Φ)) w) (h:PT X T fr st g d t len ps.toList K=some r):
  Ok2 X.P T g (ai ρ T st.E fr.F) ⟨some d,.buildSlice t len ps,ty,pos,af,gd⟩ w (aB r K T fr st g (some d) ρ Φ):=by
 obtain ⟨ps⟩:=ps
 simp only at h
 unfold PT at h
 split at h
 ·rename_i e he
  split at h
  ·rename_i u hu
   split at h
   ·rename_i z hz
    obtain ⟨n,bytes,z⟩:=z
    split at h
    ·rename_i vs hvs
     split at h
     ·rename_i cs hcs
      have hGl:=lO (ids:=AV.sls (.agg vs)++(vs.map AV.sls).flatten) (StB.bz.1 hl).2.2.1
      replace hs:=fz (ids:=AV.sls (.agg vs)++(vs.map AV.sls).flatten) hs
      generalize frz (AV.sls (.agg vs)++(vs.map AV.sls).flatten) st.G=G at h hGl hs
      split at h
      ·rename_i xs hxs
       obtain ⟨h1,h2⟩:=ao h
       simp only [Bool.and_eq_true] at h1
       obtain ⟨⟨a1,a2⟩,a3⟩:=h1
       have hn:n=u.rep.n:=(Nat.eq_of_beq_eq_true a1).trans u.rR.symm
       have hzs:z.cells.size=n:=Nat.eq_of_beq_eq_true a2
       have hk:T.get g=true→xs.length=len∧ARd u.rep (Ctx.M (items ρ T G++(items ρ T fr.H++Φ))) w (AV.ah ρ cs) xs:=fun hg=>by
        have:=CD (ρ:=ρ) (T:=T) (Φ:=Φ) (w:=w) (by rw [tU hg,tU hg];exact hs) _ _ _ hxs
        rwa [tU hg,tU hg] at this
       have hti:=bH hz
       have hfill:=rL (ρ:=ρ) hcs
       rw [xQ,IM,ku] at hfill
       have hlit:0<n→px n len z.cells.toList ((ps.map (·.1)).zip (AV.ah ρ vs))=some (AV.ah ρ cs).toArray:=fun hpos=>by
        unfold px
        have e1:=zH z.cells.toList (by simp [hzs];exact hpos) len
        simp only [Array.length_toList,hzs] at e1
        simp only [Array.length_toList,hzs]
        rw [← hfill,← e1]
       have hops:=eY (ρ:=ρ) hvs
       subst hn
       cases g with
       | none=>
        obtain ⟨k1,k2⟩:=hk Tbl.get_none
        obtain ⟨h3,h4⟩:=ao h2
        simp only [Bool.or_eq_true,Bool.and_eq_true] at h3
        have hops:jS (ai ρ T st.E fr.F) true (ps.map (·.2)) (AV.ah ρ vs):=by simpa using hops
        rcases h3 with h3 | ⟨h3,h5⟩
        ·have hpos:0<u.rep.n:=by
          have:0<len*u.rep.n:=by simpa using h3
          exact Nat.pos_of_ne_zero (fun e=>by simp [e] at this)
         have hrun:=oA (P:=X.P) (w:=w) (dst:=some d) (ty:=ty) (pos:=pos) (af:=af) (bq he) hti (zs:=z.cells.toList) (by simp) h3 a3 hops (hlit hpos)
         have hlen:len*1≤len*u.rep.n:=Nat.mul_le_mul_left _ hpos
         have h9:=Nat.le_of_ble_eq_true a3
         have h8:Nat.ble len 9223372036854775807=true:=Nat.ble_eq_true_of_le (by omega)
         refine .none_ (aQ.gd (aQ.kT hrun ?_))
         have:=o6 (d:=d) (t:=u) (e:=e) (p:=(some ⟨w.heap.size,0,none⟩,len,len)) hl hGl hs (cQ w (.cells (AV.ah ρ cs).toArray e)) (fun b hb=>by
          have:=vR hb
          rw [zQ] at this
          simp only [List.mem_singleton] at this
          subst this;simp) (fun M' m=>(Own.of (OSl.fresh (heap_alloc_new w _) k1 h8 (k2.mv m))).zD) rfl h4
         exact this
        ·have e0:len=0:=Nat.eq_of_beq_eq_true h3
         subst e0
         have e1:ps=[]:=by simpa using h5
         subst e1
         have hx0:xs=[]:=List.eq_nil_of_length_eq_zero k1
         subst hx0
         have hrun:=m7 (P:=X.P) (E:=ai ρ T st.E fr.F) (w:=w) (dst:=some d) (ty:=ty) (pos:=pos) (af:=af) (bq he) hti
         refine .none_ (aQ.gd (aQ.kT hrun ?_))
         have:=o6 (d:=d) (t:=u) (e:=e) (p:=(some ⟨w.heap.size,0,none⟩,0,0)) hl hGl hs (cQ w (.cells ([]:List Value).toArray e)) (fun b hb=>by
          have:=vR hb
          rw [zQ] at this
          simp only [List.mem_singleton] at this
          subst this;simp) (fun M' m=>(Own.of (OSl.fresh (heap_alloc_new w _) rfl rfl ARd.nil)).zD) rfl h4
         exact this
       | some k=>
        obtain ⟨h3,h4⟩:=ao h2
        simp only [Bool.or_eq_true,Bool.and_eq_true] at h3
        refine ⟨fun hg=> ?_,fun hg=> ?_⟩
        ·obtain ⟨k1,k2⟩:=hk hg
         rw [hg] at hops
         have key: ∃ cells:List Value,j4 X.P (ai ρ T st.E fr.F) ⟨some d,.buildSlice t len ⟨ps⟩,ty,pos,af,none⟩ w (.slice (some ⟨w.heap.size,0,none⟩) len len) (w.alloc (.cells cells.toArray e))∧ARd u.rep (Ctx.M (items ρ T G++(items ρ T fr.H++Φ))) w cells xs:=by
          rcases h3 with h3 | ⟨h3,h5⟩
          ·have hpos:0<u.rep.n:=by
            have:0<len*u.rep.n:=by simpa using h3
            exact Nat.pos_of_ne_zero (fun e=>by simp [e] at this)
           exact ⟨AV.ah ρ cs,oA (P:=X.P) (w:=w) (dst:=some d) (ty:=ty) (pos:=pos) (af:=af) (bq he) hti (zs:=z.cells.toList) (by simp) h3 a3 hops (hlit hpos),k2⟩
          ·have e0:len=0:=Nat.eq_of_beq_eq_true h3
           subst e0
           have e1:ps=[]:=by simpa using h5
           subst e1
           have hx0:xs=[]:=List.eq_nil_of_length_eq_zero k1
           subst hx0
           exact ⟨[],m7 (P:=X.P) (E:=ai ρ T st.E fr.F) (w:=w) (dst:=some d) (ty:=ty) (pos:=pos) (af:=af) (bq he) hti,ARd.nil⟩
         obtain ⟨cells,hrun,k2⟩:=key
         refine aQ.gd (aQ.kT hrun ?_)
         have h1:=hs.ext (cQ w (.cells cells.toArray e))
         have hf:SRd u.rep (Ctx.M (items ρ T G++(items ρ T fr.H++Φ))) (w.alloc (.cells cells.toArray e)) (sl (some ⟨w.heap.size,0,none⟩,len,len)) xs:=
          SRd.fresh (heap_alloc_new w _) (fun hm=>by have:=hs.lt hm;omega) k1 (k2.mv ((cQ w _).mv _))
         refine aB.new (ρ':=ρ.set st.c { nm0 with v:=(some ⟨w.heap.size,0,none⟩,len,len) }) (av:= .sl st.c) hl h4 Nms.aD (Nat.le_succ _) rfl (by simp only [AV.val,Nms.aS];rfl) ?_
         show Sat (items _ T (_::G)++_) _
         have e:=aF (T:=T) (Nms.aD (ρ:=ρ) (j:=st.c) (x:={ nm0 with v:=(some ⟨w.heap.size,0,none⟩,len,len) })) hGl
         rw [items,List.map_cons]
         rw [items] at e
         rw [e]
         refine h1.add rfl ?_
         simp only [Row.item,Nms.aS]
         exact fun _=>⟨hf,fun hb=>by cases hb⟩
        ·refine ⟨_,aB.new (ρ':=ρ.set st.c nm0) (av:= .sl st.c) hl h4 Nms.aD (Nat.le_succ _) rfl rfl ?_⟩
         show Sat (items _ T (_::G)++_) _
         have e:=aF (T:=T) (Nms.aD (ρ:=ρ) (j:=st.c) (x:=nm0)) hGl
         rw [items,List.map_cons]
         rw [items] at e
         rw [e]
         refine hs.add rfl ?_
         exact fun h=>by rw [hg] at h;cases h
      ·cases h
     ·cases h
    ·cases h
   ·cases h
  ·cases h
 ·cases h
end
end Go.Proofs.YtgcgmclghbebjaaGreat
namespace Go.Proofs.YtgcgmclghbebjaaGreat
open Go.Lib
section
variable {X : Cx} {R : Type} {r : R} {K : Go_ R} {T : Tbl} {fr : Fr} {st : StB} {g : GK} {d : Tmp} {ρ : Nms} {Φ : Ctx} {w : World} {ty : TypeId} {pos : String} {af : Array Edge} {gd : Option (Nat × Bool)}
def LG (X:Cx) (T:Tbl) (fr:Fr) (st:StB) (d:Tmp) (t:TypeId) (x y:Operand) (K:Go_ R):Option R:=match eI X.P t with
 | some e=>(match qZ X.tys e with
  | some u=>(match tiA X.P e with
   | some z=>(match opA T st.E fr.F none x with
    | some (.int _ l)=>ifS ( GU x y&&Nat.beq z.1 u.n'&&Nat.beq z.2.2.cells.size z.1&&Nat.blt 0 z.1 ) (
     match rd1 [] [] u (z.2.2.cells.toList.map cst) with
     | some zx=>chk (decide (0≤l)) (chk (aw l.toNat z.2.1) (K { st with c:=st.c+1,E:=bC (some d) none (.sl st.c) st.E,G:= .own st.c u e (List.replicate l.toNat zx) st.c::st.G }))
     | none=>none ) none
    | _=>none)
   | none=>none)
  | none=>none)
 | none=>none
theorem GY {t:Ty} {v:AV} {l:List t.T} (h:mg [] [] t v=some l): ∀ (M:Nat→Prop) (w:World),SRd t.rep M w (v.val ρ) l:=by
 unfold mg at h
 split at h
 ·rename_i j
  split at h
  ·rename_i hf;simp [cz,ki] at hf
  ·cases h
 ·cases h;intro M w;simp only [AV.val];exact SRd.nil
 ·cases h
theorem EK:(t:Ty)→(vs:List AV)→(x:t.T×List AV)→rdA [] [] t vs=some x→ ∃ us,vs=us++x.2∧ ∀ (M:Nat→Prop) (w:World),t.rep.rd M w (AV.ah ρ us) x.1
 | .i k,vs,x,h=>by
  unfold rdA at h
  split at h
  ·rename_i k' y us
   obtain ⟨h1,h2⟩:=ao h
   have:=iE h1;subst this
   cases h2
   exact ⟨[.int k y],rfl,fun M w=>by simp only [AV.ah,AV.val];rfl⟩
  ·cases h
 | .bo,vs,x,h=>by
  unfold rdA at h
  split at h
  ·rename_i y us
   cases h
   exact ⟨[.bool y],rfl,fun M w=>by simp only [AV.ah,AV.val];rfl⟩
  ·cases h
 | .s,vs,x,h=>by
  unfold rdA at h
  split at h
  ·rename_i y us
   cases h
   exact ⟨[.str y],rfl,fun M w=>by simp only [AV.ah,AV.val];rfl⟩
  ·cases h
 | .un,vs,x,h=>by
  unfold rdA at h
  cases h
  exact ⟨[],rfl,fun M w=>by simp only [AV.ah];rfl⟩
 | .n,vs,x,h=>by
  unfold rdA at h
  split at h
  ·rename_i t us
   cases h
   exact ⟨[.ifc t (.agg [])],rfl,fun M w=>by simp only [AV.ah,AV.val];rfl⟩
  ·cases h
 | .mp _ _,vs,x,h=>by unfold rdA at h;cases h
 | .p a b,vs,x,h=>by
  unfold rdA at h
  split at h
  ·rename_i y hy
   split at h
   ·rename_i z hz
    cases h
    obtain ⟨us,e1,h1⟩:=EK a vs y hy
    obtain ⟨us',e2,h2⟩:=EK b y.2 z hz
    refine ⟨us++us',by rw [e1,e2,List.append_assoc],fun M w=> ?_⟩
    rw [bK]
    exact ⟨_,_,rfl,h1 M w,h2 M w⟩
   ·cases h
  ·cases h
 | .l t,vs,x,h=>by
  unfold rdA at h
  split at h
  ·rename_i v us
   split at h
   ·rename_i l hl
    cases h
    refine ⟨[v],rfl,fun M w=> ?_⟩
    simp only [AV.ah]
    exact (GY hl M w).rsl
   ·cases h
  ·cases h
 | .ex,vs,x,h=>by
  unfold rdA at h
  split at h
  ·rename_i a b c v us
   split at h
   ·rename_i l hl
    cases h
    refine ⟨[.int .i64 a,.int .i64 b,.int .i64 c,v],rfl,fun M w=> ?_⟩
    simp only [AV.ah,AV.val]
    exact A8 (GY hl M w).rsl
   ·cases h
  ·cases h
theorem Pw {t:TypeId} {x y:Operand} (hl:st.low fr=true) (hs:Sat (items ρ T st.G++(items ρ T fr.H++Φ)) w) (h:LG X T fr st d t x y K=some r):
  Ok2 X.P T none (ai ρ T st.E fr.F) ⟨some d,.makeSlice t x y,ty,pos,af,gd⟩ w (aB r K T fr st none (some d) ρ Φ):=by
 unfold LG at h
 split at h
 ·rename_i e he
  split at h
  ·rename_i u hu
   split at h
   ·rename_i z hz
    obtain ⟨n,bytes,z⟩:=z
    split at h
    ·rename_i k l hx
     obtain ⟨h1,h2⟩:=ao h
     simp only [Bool.and_eq_true] at h1
     obtain ⟨⟨⟨a1,a2⟩,a3⟩,a4⟩:=h1
     have:=IT a1
     subst this
     have hn:n=u.rep.n:=(Nat.eq_of_beq_eq_true a2).trans u.rR.symm
     have hzs:z.cells.size=n:=Nat.eq_of_beq_eq_true a3
     split at h2
     ·rename_i zx hzx
      obtain ⟨b1,h3⟩:=fZ h2
      obtain ⟨b2,h4⟩:=fZ h3
      have hx':=aT (ρ:=ρ) hx
      simp only [AV.val] at hx'
      have hti:=bH hz
      subst hn
      have hzr: ∀ (M:Nat→Prop) (w:World),u.rep.rd M w z.cells.toList zx:=by
       unfold rd1 at hzx
       split at hzx
       ·rename_i y' hy'
        cases hzx
        obtain ⟨us,e1,h5⟩:=EK (ρ:=ρ) u _ _ hy'
        simp only [List.append_nil] at e1
        intro M w
        have:=h5 M w
        rw [← e1,ku] at this
        exact this
       ·cases hzx
      obtain ⟨w',hr,hE,hlt,hO⟩:=Om (P:=X.P) (E:=ai ρ T st.E fr.F) (w:=w) (dst:=some d) (ty:=ty) (pos:=pos) (af:=af) (bq he) hti (zs:=z.cells.toList) (by simp) (by simpa using hzs) (by simpa using a4) hx' hx' b1 b2 hzr
      refine .none_ (aQ.gd (aQ.kT hr ?_))
      exact o6 (d:=d) (t:=u) (e:=e) (p:=(some ⟨w.heap.size,0,none⟩,l.toNat,l.toNat)) hl (StB.bz.1 hl).2.2.1 hs hE (fun b hb=>by
       have:=vR hb
       rw [zQ] at this
       simp only [List.mem_singleton] at this
       subst this;exact ⟨hlt,Nat.le_refl _⟩) (fun M' m=>(Own.of (hO M')).zD) rfl h4
     ·cases h2
    ·cases h
   ·cases h
  ·cases h
 ·cases h
/-! appends -/
def PH (X:Cx) (T:Tbl) (fr:Fr) (st:StB) (d:Tmp) (t:TypeId) (x y:Operand) (K:Go_ R):Option R:=match eI X.P t with
 | some e=>(match qZ X.tys e with
  | some u=>(match tiA X.P e with
   | some z=>(match opA T st.E fr.F none x with
    | some a=>(match opA T st.E fr.F none y with
     | some b=>ifS ( Nat.beq z.1 u.n'&&Nat.beq z.2.2.cells.size z.1&&Nat.blt 0 z.1 ) ( match mg (frz b.sls st.G) fr.H u b with
      | some ys=>(match a with
       | .sl id=>(match cz (frz b.sls st.G) fr.H (jQ id) with
        | some (.top j,.own _ u' e' xs _)=>ifS ( Nat.beq e e' ) ( match mg.Dyn.asL u ⟨.l u',xs⟩ with
         | some xs=>chk (aw (xs.length+ys.length) z.2.1) (K { st with c:=st.c+1,E:=bC (some d) none (.sl st.c) st.E,G:=(frz b.sls st.G).set j (.own st.c u e (xs++ys) st.c) })
         | none=>none ) none
        | some (_,.sli none _ u' xs true)=>(match mg.Dyn.asL u ⟨.l u',xs⟩ with
         | some xs=>(match ys with
          | y::ys=>chk (aw (xs.length+(y::ys).length) z.2.1) (K { st with c:=st.c+1,E:=bC (some d) none (.sl st.c) st.E,G:= .own st.c u e (xs++y::ys) st.c::frz b.sls st.G })
          | []=>none)
         | none=>none)
        | _=>none)
       | .raw (.slice none 0 0)=>chk (aw (([]:List u.T).length+ys.length) z.2.1) (K { st with c:=st.c+1,E:=bC (some d) none (.sl st.c) st.E,G:= .own st.c u e ([]++ys) st.c::frz b.sls st.G })
       | _=>none)
      | none=>none ) none
     | none=>none)
    | none=>none)
   | none=>none)
  | none=>none)
 | none=>none
theorem S1 {t:TypeId} {x y:Operand} (hl:st.low fr=true) (hs:Sat (items ρ T st.G++(items ρ T fr.H++Φ)) w) (h:PH X T fr st d t x y K=some r):
  Ok2 X.P T none (ai ρ T st.E fr.F) ⟨some d,.call ⟨.builtin .append,#[x,y],#[t,t]⟩,ty,pos,af,gd⟩ w (aB r K T fr st none (some d) ρ Φ):=by
 unfold PH at h
 split at h
 ·rename_i e he
  split at h
  ·rename_i u hu
   split at h
   ·rename_i z hz
    obtain ⟨n,bytes,z⟩:=z
    split at h
    ·rename_i a hx
     split at h
     ·rename_i b hy
      obtain ⟨h1,h2⟩:=ao h
      simp only [Bool.and_eq_true] at h1
      obtain ⟨⟨a1,a2⟩,a3⟩:=h1
      have hn:n=u.rep.n:=(Nat.eq_of_beq_eq_true a1).trans u.rR.symm
      have hzs:z.cells.size=n:=Nat.eq_of_beq_eq_true a2
      have hti:=bH hz
      subst hn
      have hGl:=lO (ids:=b.sls) (StB.bz.1 hl).2.2.1
      replace hs:=fz (ids:=b.sls) hs
      generalize frz b.sls st.G=G at h2 hGl hs
      have hx':=aT (ρ:=ρ) hx
      have hy':=aT (ρ:=ρ) hy
      have hpos:0<u.rep.n:=by simpa using a3
      split at h2
      ·rename_i ys hys
       have hyr:=Av hs hys
       split at h2
       ·rename_i id
        simp only [AV.val] at hx'
        split at h2
        ·rename_i j id' u' e' xs' ver hf
         obtain ⟨h3,h4⟩:=ao h2
         have:=Nat.eq_of_beq_eq_true h3
         subst this
         split at h4
         ·rename_i xs hxs
          obtain ⟨eu,ex⟩:=lC hxs
          subst eu
          simp only at ex
          subst ex
          obtain ⟨h5,h6⟩:=fZ h4
          obtain ⟨f1,f2⟩:=ba hf
          have:id'=id:=Nat.eq_of_beq_eq_true f2
          subst this
          have hi:=dF (ρ:=ρ) (T:=T) (Φ:=items ρ T fr.H++Φ) f1
          obtain ⟨hO,_⟩:=hs.at_ hi
          obtain ⟨v',R',w',hr,hC,hR,hP⟩:=Bd (P:=X.P) (E:=ai ρ T st.E fr.F) (w:=w) (dst:=some d) (ty:=ty) (pos:=pos) (af:=af) (bq he) hti hzs hpos hx' hy' hO hyr (fun b hb=>Ctx.gA hi hb) h5
          have mv0:Mv (Ctx.M (items ρ T G++(items ρ T fr.H++Φ))) w (Ctx.M (items ρ T G++(items ρ T fr.H++Φ))) w':=⟨hC.size,fun b hb hn=>⟨hn,hC.block b hb (fun hc=>hn (Ctx.gA hi hc))⟩⟩
          have hO':=hP _ mv0
          have hv: ∃ p:SLV,v'=sl p:=by
           obtain ⟨a,cap,hv⟩:=hO'.len
           exact ⟨(a,_,cap),hv⟩
          obtain ⟨p,rfl⟩:=hv
          have hj:j<G.length:=(List.getElem?_eq_some_iff.1 f1).1
          refine .none_ (aQ.gd (aQ.kT hr (aB.new (ρ':=ρ.set st.c { nm0 with v:=p,y:=⟨.l u',xs'++ys⟩ }) hl h6 Nms.aD (Nat.le_succ _) rfl (by simp only [AV.val,Nms.aS]) ?_)))
          show Sat (items _ T (G.set j _)++_) _
          rw [du hj,aF Nms.aD hGl]
          refine hs.upd hi hC (fun b hb=> ?_) (fun M' m _=> ?_)
          ·simp only [Row.item,Nms.aS] at hb
           exact hR b (hO'.canon.1 b hb)
          ·simp only [Row.item,Nms.aS]
           exact ⟨hO'.canon.2 _ _ (hP M' m),trivial⟩
         ·cases h4
        ·rename_i s' id' u' xs' hf
         split at h2
         ·rename_i xs hxs
          obtain ⟨eu,ex⟩:=lC hxs
          subst eu
          simp only at ex
          subst ex
          split at h2
          ·rename_i y0 ys0
           obtain ⟨h5,h6⟩:=fZ h2
           obtain ⟨f1,f2⟩:=ba hf
           have:id'=id:=Nat.eq_of_beq_eq_true f2
           subst this
           obtain ⟨hS,hcl⟩:=(Src.holds hs f1) Tbl.get_none
           have hcl:=hcl rfl
           obtain ⟨ad,cap,hlen⟩:=hS.len
           have ep:(ρ id').v=((ρ id').v.1,xs'.length,xs'.length):=by
            simp only [sl,Value.slice.injEq] at hlen
            ext1
            ·rfl
            ·ext1
             ·exact hlen.2.1
             ·exact hcl
           rw [ep] at hS hx'
           obtain ⟨i',hi',hsz',hby,hzz⟩:=hti.out
           subst hby
           obtain ⟨v',w',hr,hE,hB,hP⟩:=Dt t ty e i' z (bq he) hi' hzz hsz' hzs hS hyr (List.cons_ne_nil _ _) h5
           have hO':=Own.of (hP _ (hE.mv _))
           have hv: ∃ p:SLV,v'=sl p:=by
            obtain ⟨a,cap,hv⟩:=hO'.len
            exact ⟨(a,_,cap),hv⟩
           obtain ⟨p,rfl⟩:=hv
           have hrun:j4 X.P (ai ρ T st.E fr.F) ⟨some d,.call ⟨.builtin .append,#[x,y],#[t,t]⟩,ty,pos,af,none⟩ w (sl p) w':=fun n' a hf=>by
            simp [execOp,resolve,invoke,builtin,hx' n' a hf rfl,hy' n' a hf rfl,show (Builtin.append_ #[t,t] ty #[sl ((ρ id').v.1,xs'.length,xs'.length),AV.val ρ b]).run X.P w=_ from hr]
           refine .none_ (aQ.gd (aQ.kT hrun ?_))
           exact o6 (d:=d) (t:=u') (e:=e) (p:=p) hl hGl hs hE (fun b hb=>hB b (vR hb)) (fun M' m=>(Own.of (hP M' m)).zD) rfl h6
          ·cases h2
         ·cases h2
        ·cases h2
       ·simp only [AV.val] at hx'
        obtain ⟨h5,h6⟩:=fZ h2
        obtain ⟨v',R',w',hr,hC,hR,hP⟩:=Bd (P:=X.P) (E:=ai ρ T st.E fr.F) (w:=w) (dst:=some d) (ty:=ty) (pos:=pos) (af:=af) (xs:=([]:List u.T)) (bq he) hti hzs hpos hx' hy' Own.nil hyr (fun b hb=>by cases hb) h5
        have hE:Ext w w':=⟨hC.os,hC.tape,hC.output,hC.size,fun b hb=>hC.block b hb (fun h=>by cases h)⟩
        have hO':=hP _ (hE.mv _)
        have hv: ∃ p:SLV,v'=sl p:=by
         obtain ⟨a,cap,hv⟩:=hO'.len
         exact ⟨(a,_,cap),hv⟩
        obtain ⟨p,rfl⟩:=hv
        refine .none_ (aQ.gd (aQ.kT hr ?_))
        exact o6 (d:=d) (t:=u) (e:=e) (p:=p) hl hGl hs hE (fun b hb=>by
         obtain ⟨q1,q2⟩:=hR b (hO'.canon.1 b hb)
         rcases q2 with q2 | q2
         ·cases q2
         ·exact ⟨q1,q2⟩) (fun M' m=>hO'.canon.2 _ _ (hP M' m)) rfl h6
       ·cases h2
      ·cases h2
     ·cases h
    ·cases h
   ·cases h
  ·cases h
 ·cases h
end
end Go.Proofs.YtgcgmclghbebjaaGreat
namespace Go.Proofs.YtgcgmclghbebjaaGreat
open Go.Lib
noncomputable def both {R:Type} (a b:Option R):Option R:=open Classical in if a=b then a else none
theorem FE {R:Type} {a b:Option R} {r:R} (h:both a b=some r):a=some r∧b=some r:=by
 unfold both at h
 split at h
 ·rename_i e;exact ⟨h,e▸h⟩
 ·cases h
inductive Sh where
 | l
 | b (x y:Sh)
noncomputable def o7 {α R:Type} (l:List α) (k1 k0:Option R):Option R:=match l with
 | []=>both k1 k0
 | _::_=>k0
theorem E7 {α R:Type} {l:List α} {k1 k0:Option R} {r:R} (h:o7 l k1 k0=some r):k0=some r∧(l=[]→k1=some r):=by
 unfold o7 at h
 split at h
 ·obtain ⟨h1,h2⟩:=FE h;exact ⟨h2,fun _=>h1⟩
 ·exact ⟨h,fun e=>by cases e⟩
theorem jk {α:Type} {l:List α} {b:Nat}:o7 l (some []) (chk (aw (List.length ([]:List α)+List.length l) b)<|some (([]:List α)++l))=chk (aw (List.length l) b) (some l):=by
 cases l with
 | nil=>
  have:aw 0 b=true:=by unfold aw;simp
  show both (some []) (chk (aw 0 b) (some []))=chk (aw 0 b) (some [])
  rw [this];unfold both;simp [chk]
 | cons x l=>show chk (aw (0+(l.length+1)) b) _=_;rw [Nat.zero_add];rfl
section
variable {X : Cx} {R : Type} {r : R} {K : Go_ R} {T : Tbl} {fr : Fr} {st : StB} {g : GK} {d : Tmp} {ρ : Nms} {Φ : Ctx} {w : World} {ty : TypeId} {pos : String} {af : Array Edge} {gd : Option (Nat × Bool)}
def MH (X:Cx) (st:StB) (d:Tmp) (t:TypeId) (K:Go_ R):Option R:=match EO X.P t with
 | some p=>(match qZ X.tys p.1 with
  | some k=>(match qZ X.tys p.2 with
   | some v=>K { st with c:=st.c+1,E:=bC (some d) none (.mp st.c) st.E,G:= .mp st.c k v (some [])::st.G }
   | none=>none)
  | none=>none)
 | none=>none
theorem P8 {t:TypeId} (hl:st.low fr=true) (hs:Sat (items ρ T st.G++(items ρ T fr.H++Φ)) w) (h:MH X st d t K=some r):
  Ok2 X.P T none (ai ρ T st.E fr.F) ⟨some d,.makeMap t none,ty,pos,af,gd⟩ w (aB r K T fr st none (some d) ρ Φ):=by
 unfold MH at h
 split at h
 ·rename_i p hp
  split at h
  ·rename_i k hk
   split at h
   ·rename_i v hv
    have hrun:j4 X.P (ai ρ T st.E fr.F) ⟨some d,.makeMap t none,ty,pos,af,none⟩ w (.map (some w.heap.size)) (w.alloc (.map #[] 0)):=fun n a hf=>by simp [execOp,Instr.makeMap]
    refine .none_ (aQ.gd (aQ.kT hrun (aB.push (x:={ nm0 with m:=some w.heap.size }) hl h (by simp only [AV.val,Nms.aS]) ?_)))
    simp only [Row.item,Nms.aS]
    exact hs.push (cQ _ _) (fun b hb=>by
     have:b=w.heap.size:=by simpa [omap,xk] using hb
     subst this
     exact ⟨by show _<(w.heap.push _).size;simp,Nat.le_refl _⟩) (fun M' m=> .inr ⟨_,#[],0,[],rfl,rfl,by show (w.heap.push _)[w.heap.size]? =_;simp,rfl⟩)
   ·cases h
  ·cases h
 ·cases h
def Ln (X:Cx) (T:Tbl) (fr:Fr) (st:StB) (t:TypeId) (x y z:Operand) (K:Go_ R):Option R:=match EO X.P t with
 | some p=>(match opA T st.E fr.F none x with
  | some (.mp id)=>(match ki (Nw id) st.G with
   | some (j,.mp _ k v md)=>(match opA T st.E fr.F none y with
    | some kv=>(match opA T st.E fr.F none z with
     | some vv=>(match Ix k kv with
      | some key=>(match Ix v vv with
       | some val=>ifS ( Mn X.P p.1 k ) ( md.bind fun l=>K { st with G:=st.G.set j (.mp id k v (some (kI l key val))) } ) none
       | none=>none)
      | none=>none)
     | none=>none)
    | none=>none)
   | _=>none)
  | _=>none)
 | none=>none
theorem Qd {t:TypeId} {x y z:Operand} (hs:Sat (items ρ T st.G++(items ρ T fr.H++Φ)) w) (h:Ln X T fr st t x y z K=some r):
  Ok2 X.P T none (ai ρ T st.E fr.F) ⟨none,.mapUpdate t x y z,ty,pos,af,gd⟩ w (aB r K T fr st none none ρ Φ):=by
 unfold Ln at h
 split at h
 ·rename_i p hp
  split at h
  ·rename_i id hx
   split at h
   ·rename_i j id' k v md hf
    split at h
    ·rename_i kv hy
     split at h
     ·rename_i vv hz
      split at h
      ·rename_i key hkey
       split at h
       ·rename_i val hval
        obtain ⟨h1,h2⟩:=ao h
        obtain ⟨l,hmd,h3⟩:=eP h2
        subst hmd
        obtain ⟨f1,f2⟩:=ju hf
        have:id'=id:=Nat.eq_of_beq_eq_true f2
        subst this
        have hx':=aT (ρ:=ρ) hx
        have hy':=aT (ρ:=ρ) hy
        have hz':=aT (ρ:=ρ) hz
        simp only [AV.val] at hx'
        rw [Ej hkey] at hy'
        rw [Ej hval] at hz'
        have hi:=dF (ρ:=ρ) (T:=T) (Φ:=items ρ T fr.H++Φ) f1
        obtain ⟨w',hr,hC,hsz,hm⟩:=ET (P:=X.P) (E:=ai ρ T st.E fr.F) (w:=w) (ty:=ty) (pos:=pos) (af:=af) (DZ h1) (o8 hp) hx' hy' hz' (hs.omap hi)
        refine .none_ (aQ.gd (aQ.Lt hr (aB.old (av:= .raw undef) h3 (Nat.le_refl _) rfl (by simp only [AV.val]) ?_)))
        have hj:j<st.G.length:=(List.getElem?_eq_some_iff.1 f1).1
        show Sat (items ρ T (st.G.set j _)++_) _
        rw [du hj]
        exact hs.upd hi hC (fun b hb=>⟨hm.lt b hb,.inl hb⟩) (fun M' m _=>hm)
       ·cases h
      ·cases h
     ·cases h
    ·cases h
   ·cases h
  ·cases h
 ·cases h
def Rt (X:Cx) (T:Tbl) (fr:Fr) (st:StB) (d:Tmp) (t:TypeId) (x:Operand) (K:Go_ R):Option R:=match opA T st.E fr.F none x with
 | some (.str s)=>ifS ( isStr X.P t ) ( K { st with c:=st.c+1,E:=bC (some d) none (.ptr st.c 0) st.E,G:= .it st.c s 0::st.G } ) none
 | _=>none
theorem TW {t:TypeId} {x:Operand} (hl:st.low fr=true) (hs:Sat (items ρ T st.G++(items ρ T fr.H++Φ)) w) (h:Rt X T fr st d t x K=some r):
  Ok2 X.P T none (ai ρ T st.E fr.F) ⟨some d,.range t x,ty,pos,af,gd⟩ w (aB r K T fr st none (some d) ρ Φ):=by
 unfold Rt at h
 split at h
 ·rename_i s hx
  obtain ⟨h1,h2⟩:=ao h
  have hx':=aT (ρ:=ρ) hx
  simp only [AV.val] at hx'
  have hrun:j4 X.P (ai ρ T st.E fr.F) ⟨some d,.range t x,ty,pos,af,none⟩ w (.pointer (some ⟨w.heap.size,0,none⟩)) (w.alloc (.stringIter ⟨s.toArray⟩ 0)):=fun n' a hf=>by
   simp [execOp,hx' n' a hf rfl,Instr.range,run_underlying (lB h1),S]
  refine .none_ (aQ.gd (aQ.kT hrun (aB.push (x:={ nm0 with b:=w.heap.size }) hl h2 (by simp only [AV.val,Nms.aS]) ?_)))
  simp only [Row.item,Nms.aS]
  exact hs.push (cQ _ _) (fun b hb=>by
   have:b=w.heap.size:=by simpa [iter] using hb
   subst this;simp) (fun _ _=>heap_alloc_new w _)
 ·cases h
def RN (T:Tbl) (fr:Fr) (st:StB) (d:Tmp) (x:Operand) (K:Go_ R):Option R:=match opA T st.E fr.F none x with
 | some (.ptr id 0)=>(match ki (VA id) st.G with
  | some (j,.it _ s p)=>cond (decide (p<s.length)) (K { st with E:=bC (some d) none (.tuple [.bool true,.int .i64 (p:Int),.int .i32 (It s p)]) st.E,G:=st.G.set j (.it id s (nN s p)) })
   (K { st with E:=bC (some d) none (.tuple [.bool false]) st.E })
  | _=>none)
 | _=>none
theorem Uu {x:Operand} (hs:Sat (items ρ T st.G++(items ρ T fr.H++Φ)) w) (h:RN T fr st d x K=some r):
  Ok2 X.P T none (ai ρ T st.E fr.F) ⟨some d,.next x true,ty,pos,af,gd⟩ w (aB r K T fr st none (some d) ρ Φ):=by
 unfold RN at h
 split at h
 ·rename_i id hx
  split at h
  ·rename_i j id' s p hf
   obtain ⟨f1,f2⟩:=ju hf
   have:id'=id:=Nat.eq_of_beq_eq_true f2
   subst this
   have hx':=aT (ρ:=ρ) hx
   simp only [AV.val] at hx'
   have hi:=dF (ρ:=ρ) (T:=T) (Φ:=items ρ T fr.H++Φ) f1
   have hI:CR w (ρ id').b s p:=hs.iter hi
   have hg:(getObj (ρ id').b).run X.P w= .ok (.stringIter ⟨s.toArray⟩ p) w:=by
    simp only [getObj,Sem.run];rw [hI]
   rcases m6 h with ⟨hq,h2⟩ | ⟨hq,h2⟩
   ·have hq':p<s.length:=by simpa using hq
    have hlt:=(Array.getElem?_eq_some_iff.1 hI).1
    have hIt:CR { w with heap:=w.heap.setIfInBounds (ρ id').b (.stringIter ⟨s.toArray⟩ (nN s p)) } (ρ id').b s (nN s p):=by
     show (w.heap.setIfInBounds (ρ id').b _)[(ρ id').b]? =_
     rw [Array.getElem?_setIfInBounds_self_of_lt hlt]
    have hC:Chg [(ρ id').b] w { w with heap:=w.heap.setIfInBounds (ρ id').b (.stringIter ⟨s.toArray⟩ (nN s p)) }:=⟨rfl,rfl,rfl,by show w.heap.size≤(w.heap.setIfInBounds (ρ id').b _).size;simp,fun c _ hcb=>by
     show (w.heap.setIfInBounds (ρ id').b _)[c]? =_
     have hne:c≠(ρ id').b:=by simpa using hcb
     rw [Array.getElem?_setIfInBounds_ne (Ne.symm hne)]⟩
    have hst:(setObj (ρ id').b (.stringIter ⟨s.toArray⟩ (nN s p))).run X.P w= .ok () { w with heap:=w.heap.setIfInBounds (ρ id').b (.stringIter ⟨s.toArray⟩ (nN s p)) }:=by
     simp only [setObj,Sem.run];rw [hI]
    have hsz:p<(⟨s.toArray⟩:ByteArray).size:=by rw [iS];exact hq'
    have e1:nN s p=p+(Utf8.decode ⟨s.toArray⟩ p).2:=rfl
    have hrun:j4 X.P (ai ρ T st.E fr.F) ⟨some d,.next x true,ty,pos,af,none⟩ w (.tuple #[.bool true,.int .i64 (p:Int),.int .i32 (It s p)]) { w with heap:=w.heap.setIfInBounds (ρ id').b (.stringIter ⟨s.toArray⟩ (nN s p)) }:=fun n' a hf=>by
     rw [e1] at hst ⊢
     simp only [execOp,hx' n' a hf rfl,Instr.next,Sem.run_bind,hg,Result.andThen_ok,if_pos hsz,Sem.run_pure,hst,goInt]
     rfl
    refine .none_ (aQ.gd (aQ.kT hrun (aB.old (av:= .tuple [.bool true,.int .i64 (p:Int),.int .i32 (It s p)]) h2 (Nat.le_refl _) rfl (by simp only [AV.val,AV.ah]) ?_)))
    have hj:j<st.G.length:=(List.getElem?_eq_some_iff.1 f1).1
    show Sat (items ρ T (st.G.set j _)++_) _
    rw [du hj]
    exact hs.upd hi hC (fun c hc=>by
     have:c=(ρ id').b:=by simpa [Row.item,Go.Proofs.YtgcgmclghbebjaaGreat.iter] using hc
     subst this;exact ⟨(Array.getElem?_eq_some_iff.1 hIt).1,.inl (by simp [Row.item,Go.Proofs.YtgcgmclghbebjaaGreat.iter])⟩) (fun _ _ _=>hIt)
   ·have hq': ¬ p<s.length:=by simpa using hq
    have hrun:j4 X.P (ai ρ T st.E fr.F) ⟨some d,.next x true,ty,pos,af,none⟩ w (.tuple #[.bool false]) w:=fun n' a hf=>by
     have hsz: ¬ p<(⟨s.toArray⟩:ByteArray).size:=by rw [iS];exact hq'
     simp only [execOp,hx' n' a hf rfl,Instr.next,Sem.run_bind,hg,Result.andThen_ok,if_neg hsz,Sem.run_pure]
    exact .none_ (aQ.gd (aQ.kT hrun (aB.old (av:= .tuple [.bool false]) h2 (Nat.le_refl _) rfl (by simp only [AV.val,AV.ah]) hs)))
  ·cases h
 ·cases h
def Rj (X:Cx) (T:Tbl) (fr:Fr) (st:StB) (g:GK) (d:Tmp) (s dt:TypeId) (x:Operand) (K:Go_ R):Option R:=match opA T st.E fr.F g x with
 | some (.str l)=>ifS ( isStr X.P s ) ( match eI X.P dt with
  | some e=>(match tyK X.P e with
   | some .u8=>K { st with c:=st.c+1,E:=bC (some d) g (.sl st.c) st.E,G:= .sli g st.c (.i .u8) (bytesOf l) false::st.G }
   | _=>none)
  | none=>none ) none
 | _=>none
theorem S9 {s dt:TypeId} {x:Operand} (hl:st.low fr=true) (hs:Sat (items ρ T st.G++(items ρ T fr.H++Φ)) w) (h:Rj X T fr st g d s dt x K=some r):
  Ok2 X.P T g (ai ρ T st.E fr.F) ⟨some d,.convert s dt x,ty,pos,af,gd⟩ w (aB r K T fr st g (some d) ρ Φ):=by
 unfold Rj at h
 split at h
 ·rename_i l hx
  obtain ⟨h1,h2⟩:=ao h
  split at h2
  ·rename_i e he
   split at h2
   ·rename_i hk
    have hx':=az (ρ:=ρ) hx
    simp only [AV.val] at hx'
    refine ⟨fun hg=> ?_,fun hg=> ?_⟩
    ·rw [hg] at hx'
     obtain ⟨v',w',hr,hE,hlt,hO⟩:=Rs (P:=X.P) (E:=ai ρ T st.E fr.F) (w:=w) (dst:=some d) (ty:=ty) (pos:=pos) (af:=af) (lB h1) (bq he) (Cw hk) hx'
     have hf:=hO (Ctx.M (items ρ T st.G++(items ρ T fr.H++Φ))) (fun hm=>by have:=hs.lt hm;omega)
     obtain ⟨p,rfl⟩:=hf.jQ
     refine aQ.gd (aQ.kT hr (aB.push (x:={ nm0 with v:=p }) hl h2 (by simp only [AV.val,Nms.aS]) ((hs.ext hE).add rfl ?_)))
     simp only [Row.item,Nms.aS]
     exact fun _=>⟨hf,fun hb=>by cases hb⟩
    ·exact ⟨_,aB.push (x:=nm0) hl h2 rfl (hs.add rfl fun h=>by rw [hg] at h;cases h)⟩
   ·cases h2
  ·cases h2
 ·cases h
noncomputable def P5 (X:Cx) (T:Tbl) (fr:Fr) (st:StB) (d:Tmp) (op:BinOp) (t:TypeId) (x y:Operand) (K:Go_ R):Option R:=match eI X.P t with
 | some _=>(match opA T st.E fr.F none x with
  | some (.sl id)=>(match opA T st.E fr.F none y with
   | some (.raw (.slice none 0 0))=>(match slA st.G fr.H id with
    | some ⟨none,_,l⟩=>(match op with
     | .eql=>o7 l (K { st with E:=bC (some d) none (.bool true) st.E }) (K { st with E:=bC (some d) none (.bool false) st.E })
     | .neq=>o7 l (K { st with E:=bC (some d) none (.bool false) st.E }) (K { st with E:=bC (some d) none (.bool true) st.E })
     | _=>none)
    | _=>none)
   | _=>none)
  | _=>none)
 | none=>none
theorem S5 {op:BinOp} {t t':TypeId} {x y:Operand} (hs:Sat (items ρ T st.G++(items ρ T fr.H++Φ)) w) (h:P5 X T fr st d op t x y K=some r):
  Ok2 X.P T none (ai ρ T st.E fr.F) ⟨some d,.binOp op t x y t',ty,pos,af,gd⟩ w (aB r K T fr st none (some d) ρ Φ):=by
 unfold P5 at h
 split at h
 ·rename_i e he
  split at h
  ·rename_i id hx
   split at h
   ·rename_i hy
    split at h
    ·rename_i u l hsl
     have hx':=aT (ρ:=ρ) hx
     have hy':=aT (ρ:=ρ) hy
     simp only [AV.val] at hx' hy'
     have hlen:=Eu hs hsl Tbl.get_none
     have hcase:(mQ (sl (ρ id).v)=true∧l=[])∨mQ (sl (ρ id).v)=false:=by
      rcases HQ hs hsl Tbl.get_none with hS | ⟨e',hO⟩
      ·rcases J3 hS with ⟨h1,h2⟩ | h1
       ·exact .inl ⟨by rw [h1];rfl,h2⟩
       ·exact .inr h1
      ·exact JR hO
     have mk: ∀ b:Bool,K { st with E:=bC (some d) none (.bool b) st.E }=some r→aB r K T fr st none (some d) ρ Φ (.bool b) w:=fun b hb=>aB.old (av:= .bool b) hb (Nat.le_refl _) rfl (by simp only [AV.val]) hs
     split at h
     ·obtain ⟨k0,k1⟩:=E7 h
      refine .none_ (aQ.gd (aQ.run (Kf (bq he) hx' hlen hy') ?_))
      rcases hcase with ⟨c1,c2⟩ | c1
      ·rw [c1];exact mk _ (k1 c2)
      ·rw [c1];exact mk _ k0
     ·obtain ⟨k0,k1⟩:=E7 h
      refine .none_ (aQ.gd (aQ.run (JN (bq he) hx' hlen hy') ?_))
      rcases hcase with ⟨c1,c2⟩ | c1
      ·rw [c1];exact mk _ (k1 c2)
      ·rw [c1];exact mk _ k0
     ·cases h
    ·cases h
   ·cases h
  ·cases h
 ·cases h
def HA (i:Int) (m:Nat) (k:Nat→Option R):Nat→Nat→Option R
 | 0,_=>none
 | n+1,j=>cond (i==(j:Int)) (k (j*m)) (HA i m k n (j+1))
theorem y5 {i:Int} {m:Nat} {k:Nat→Option R}: ∀ {n j:Nat},HA i m k n j=some r→ ∃ q,j≤q∧q<j+n∧i=(q:Int)∧k (q*m)=some r
 | 0,j,h=>by cases h
 | n+1,j,h=>by
  unfold HA at h
  rcases m6 h with ⟨h1,h2⟩ | ⟨_,h2⟩
  ·exact ⟨j,Nat.le_refl _,by omega,by simpa using h1,h2⟩
  ·obtain ⟨q,q1,q2,q3,q4⟩:=y5 h2
   exact ⟨q,by omega,by omega,q3,q4⟩
end
end Go.Proofs.YtgcgmclghbebjaaGreat
namespace Go.Proofs.YtgcgmclghbebjaaGreat
open Go.Lib
/-! tuples of holes -/
def Tup:List Ty→Type
 | []=>Unit
 | [t]=>t.T
 | t::u::ts=>t.T×Tup (u::ts)
def unt:(ts:List Ty)→Tup ts→List Dyn
 | [],_=>[]
 | [t],x=>[⟨t,x⟩]
 | t::u::ts,x=>⟨t,x.1⟩::unt (u::ts) x.2
def tup:(ts:List Ty)→List Dyn→Option (Tup ts)
 | [],D=>(match D with
  | []=>some ()
  | _=>none)
 | [t],D=>(match D with
  | [d]=>d.as t
  | _=>none)
 | t::u::ts,D=>(match D with
  | d::D=>(match d.as t with
   | some x=>(match tup (u::ts) D with
    | some y=>some (x,y)
    | none=>none)
   | none=>none)
  | _=>none)
theorem po:(ts:List Ty)→{D:List Dyn}→{s:Tup ts}→tup ts D=some s→unt ts s=D
 | [],D,s,h=>by
  unfold tup at h
  split at h
  ·rfl
  ·cases h
 | [t],D,s,h=>by
  match D,h with
  | [d],h=>rw [Dyn.Ar (t:=t) (d:=d) (x:=s) h];rfl
  | [],h=>cases h
  | _::_::_,h=>cases h
 | t::u::ts,D,s,h=>by
  unfold tup at h
  split at h
  ·rename_i d D'
   split at h
   ·rename_i x hx
    split at h
    ·rename_i y hy
     cases h
     show ⟨t,x⟩::unt (u::ts) y=_
     rw [po (u::ts) hy,Dyn.Ar hx]
    ·cases h
   ·cases h
  ·cases h
def L5:(ts:List Ty)→Tup ts
 | []=>()
 | [t]=>t.lD
 | t::u::ts=>(t.lD,L5 (u::ts))
mutual
def hol:Pt→List Ty
 | .int k=>[.i k]
 | .bool=>[.bo]
 | .str=>[.s]
 | .sli t=>[.l t]
 | .own t _ _=>[.l t]
 | .bx _ _ _ vs=>kg vs
 | .mp k v _=>[.mp k v]
 | .it=>[.s,.n]
 | .agg l=>kg l
 | .tup l=>kg l
 | .fn _ a b=>kg a++kg b
 | .ifc _ p=>hol p
 | .dat t _=>[t]
 | .ifn=>[.n]
 | .sfp=>[.bo]
 | _=>[]
def kg:List Pt→List Ty
 | []=>[]
 | p::l=>hol p++kg l
end
def eR:List (Bool×Nat×Pt)→List Ty
 | []=>[]
 | x::l=>hol x.2.2++eR l
/-! what forms say -/
abbrev Fx:=Option (Value×List Value)
def oN (fx:Fx) (v:Value):Prop:= ∀ p,fx=some p→v=p.1
def fxC (fx:Fx):List Value:=match fx with
 | some p=>p.2
 | none=>[]
def GQ:Pt→Bool
 | .agg _=>true
 | .fn _ _ _=>true
 | .ifc _ _=>true
 | _=>false
def fx1 (p:Pt) (fxs:List Value):Fx:=match fxs with
 | []=>none
 | u::_=>ifS (GQ p) none (some (u,[]))
abbrev Its:=List (Bool×Item)
abbrev Bxs:=List (Nat×List Value)
def oe (e:Nat):Nat:=e/2
def ow (e:Nat):Bool:=Nat.beq (e%2) 1
def BG:(t:Ty)→t.T→List Value→List (Option TypeId)→List Nm→Its→List Nm→List (Option TypeId)→Prop
 | .i k,x,cs,o,N,I,N',o'=>cs=[.int k x]∧I=[]∧N'=N∧o'=o
 | .bo,x,cs,o,N,I,N',o'=>cs=[.bool x]∧I=[]∧N'=N∧o'=o
 | .s,x,cs,o,N,I,N',o'=>cs=[S x]∧I=[]∧N'=N∧o'=o
 | .un,_,cs,o,N,I,N',o'=>cs=[]∧I=[]∧N'=N∧o'=o
 | .p a b,x,cs,o,N,I,N',o'=> ∃ c1 c2 N1 I1 I2 o1,BG a x.1 c1 o N I1 N1 o1∧BG b x.2 c2 o1 N1 I2 N' o'∧cs=c1++c2∧I=I1++I2
 | .l t,x,cs,o,N,I,N',o'=> ∃ a:Nm,cs=[sl a.v]∧N'=N++[a]∧((o=none::o'∧I=[(false,zL true t.rep a.v x false)])∨ ∃ e,o=some e::o'∧I=[(ow e,mX t.rep (oe e) a.v x True)]∧a.y=⟨.l t,x⟩)
 | .ex,x,cs,o,N,I,N',o'=> ∃ a:Nm,cs=[.int .i64 x.op,.int .i64 x.n,.int .i64 x.at_,sl a.v]∧N'=N++[a]∧((o=none::o'∧I=[(false,zL true wF a.v x.l false)])∨ ∃ e,o=some e::o'∧I=[(ow e,mX wF (oe e) a.v x.l True)]∧a.y=⟨.l .ex,x.l⟩)
 | _,_,_,_,_,_,_,_=>False
mutual
def Sem:Pt→Value→Fx→Option Value→List Nm→List Dyn→Its→Bxs→List Nm→Prop
 | .int k,v,_,_,N,D,I,X,N'=> ∃ x,v= .int k x∧D=[⟨.i k,x⟩]∧I=[]∧X=[]∧N'=N
 | .bool,v,_,_,N,D,I,X,N'=> ∃ x,v= .bool x∧D=[⟨.bo,x⟩]∧I=[]∧X=[]∧N'=N
 | .str,v,_,_,N,D,I,X,N'=> ∃ x,v=S x∧D=[⟨.s,x⟩]∧I=[]∧X=[]∧N'=N
 | .sli t,v,_,_,N,D,I,X,N'=> ∃ (a:Nm) (l:List t.T),v=sl a.v∧D=[⟨.l t,l⟩]∧I=[(false,zL true t.rep a.v l false)]∧X=[]∧N'=N++[a]
 | .own t e m,v,fx,_,N,D,I,X,N'=> ∃ (a:Nm) (l:List t.T),v=sl a.v∧oN fx v∧D=[⟨.l t,l⟩]∧I=[(m,mX t.rep e a.v l True)]∧X=[]∧N'=N++[a]∧a.y=⟨.l t,l⟩
 | .slr n,v,_,_,N,D,I,X,N'=> ∃ a:Nm,N[n]? =some a∧v=sl a.v∧D=[]∧I=[]∧X=[]∧N'=N
 | .bx t off m vs,v,fx,_,N,D,I,X,N'=> ∃ (a:Nm) (cs:List Value) (I':Its) (X':Bxs),v= .pointer (some ⟨a.b,off,none⟩)∧oN fx v∧nU vs cs [] (fxC fx) (N++[a]) D I' X' N'∧I=(m,box a.b t cs)::I'∧X=(ifS m [(N.length,cs)] [])++X'
 | .ptr n off,v,_,_,N,D,I,X,N'=> ∃ a:Nm,N[n]? =some a∧v= .pointer (some ⟨a.b,off,none⟩)∧D=[]∧I=[]∧X=[]∧N'=N
 | .mp k u m,v,fx,_,N,D,I,X,N'=> ∃ (a:Nm) (d:Option (List (k.T×u.T))),v= .map a.m∧oN fx v∧D=[⟨.mp k u,d⟩]∧I=[(m,omap (uN k) (uN u) (.map a.m) d)]∧X=[]∧N'=N++[a]
 | .it,v,fx,_,N,D,I,X,N'=> ∃ (a:Nm) (s:Str) (p:Nat),v= .pointer (some ⟨a.b,0,none⟩)∧oN fx v∧D=[⟨.s,s⟩,⟨.n,p⟩]∧I=[(true,iter a.b s p)]∧X=[]∧N'=N++[a]
 | .agg l,v,fx,_,N,D,I,X,N'=> ∃ cs:List Value,v= .agg cs.toArray∧oN fx v∧nU l cs (ifS fx.isSome cs []) [] N D I X N'
 | .tup l,v,_,_,N,D,I,X,N'=> ∃ cs:List Value,v= .tuple cs.toArray∧nU l cs [] [] N D I X N'
 | .fn f a b,v,fx,_,N,D,I,X,N'=> ∃ (us vs:List Value) (D1 D2:List Dyn) (I1 I2:Its) (X1 X2:Bxs) (N1:List Nm),v= .func (.func f) us.toArray vs.toArray∧oN fx v∧nU a us [] [] N D1 I1 X1 N1∧nU b vs (ifS fx.isSome vs []) [] N1 D2 I2 X2 N'∧D=D1++D2∧I=I1++I2∧X=X1++X2
 | .ifc t p,v,fx,_,N,D,I,X,N'=> ∃ u,v= .iface t u∧oN fx v∧Sem p u (fx1 p (ifS fx.isSome [u] [])) none N D I X N'
 | .cst c,v,_,_,N,D,I,X,N'=>(v=c.val (fun _=>nm0)∧ ∀ ρ,c.val ρ=c.val (fun _=>nm0))∧D=[]∧I=[]∧X=[]∧N'=N
 | .dat t o,v,_,_,N,D,I,X,N'=> ∃ (cs:List Value) (x:t.T) (o':List (Option TypeId)),v= .agg cs.toArray∧D=[⟨t,x⟩]∧BG t x cs o N I N' o'∧X=[]
 | .ifn,v,_,_,N,D,I,X,N'=> ∃ x:Nat,v= .iface x (.agg #[])∧D=[⟨.n,x⟩]∧I=[]∧X=[]∧N'=N
 | .sfp,v,_,_,N,D,I,X,N'=> ∃ (a:Nm) (f:Bool),N[N.length-1]? =some a∧v=qV f a.b∧D=[⟨.bo,f⟩]∧I=[]∧X=[]∧N'=N
 | .same,v,fx,sm,N,D,I,X,N'=>((∃ p,fx=some p∧v=p.1)∨(fx=none∧sm=some v))∧D=[]∧I=[]∧X=[]∧N'=N
def nU:List Pt→List Value→List Value→List Value→List Nm→List Dyn→Its→Bxs→List Nm→Prop
 | [],vs,_,_,N,D,I,X,N'=>vs=[]∧D=[]∧I=[]∧X=[]∧N'=N
 | p::l,vs,fxs,sms,N,D,I,X,N'=> ∃ (v:Value) (vs':List Value) (D1 D2:List Dyn) (I1 I2:Its) (X1 X2:Bxs) (N1:List Nm),vs=v::vs'∧Sem p v (fx1 p fxs) sms.head? N D1 I1 X1 N1∧nU l vs' fxs.tail sms.tail N1 D2 I2 X2 N'∧D=D1++D2∧I=I1++I2∧X=X1++X2
end
def uf (fix:Nat→Fx) (val:Nat→Option Value):List (Bool×Nat×Pt)→List Nm→List Dyn→Its→Bxs→List Nm→Prop
 | [],N,D,I,X,N'=>D=[]∧I=[]∧X=[]∧N'=N
 | x::l,N,D,I,X,N'=> ∃ (v:Value) (D1 D2:List Dyn) (I1 I2:Its) (X1 X2:Bxs) (N1:List Nm),(ifS x.1 ((fix x.2.1).map (·.1)) (val x.2.1))=some v∧Sem x.2.2 v (ifS x.1 (fix x.2.1) none) none N D1 I1 X1 N1∧uf fix val l N1 D2 I2 X2 N'∧D=D1++D2∧I=I1++I2∧X=X1++X2
/-! matching -/
mutual
def AV.same:AV→AV→Bool
 | .fn f a b,v=>(match v with
  | .fn f' a' b'=>Nat.beq f f'&&AV.Ao a a'&&AV.Ao b b'
  | _=>false)
 | .tuple l,v=>(match l with
  | []=>(match v with
   | .tuple l=>l.isEmpty
   | _=>false)
  | _=>false)
 | .int k x,v=>(match v with
  | .int k' x'=>fc k k'&&(x==x')
  | _=>false)
 | .raw u,v=>(match v with
  | .raw u'=>(match u,u' with
   | .slice none m n,.slice none m' n'=>Nat.beq m m'&&Nat.beq n n'
   | .pointer none,.pointer none=>true
   | .nilFunc,.nilFunc=>true
   | .nilIface,.nilIface=>true
   | .map none,.map none=>true
   | _,_=>false)
  | _=>false)
 | _,_=>false
def AV.Ao:List AV→List AV→Bool
 | [],l'=>l'.isEmpty
 | v::l,l'=>(match l' with
  | v'::l'=>AV.same v v'&&AV.Ao l l'
  | []=>false)
end
mutual
theorem AV.xL {ρ ρ':Nms}:(v:AV)→(v':AV)→AV.same v v'=true→v'.val ρ'=v.val ρ
 | .fn f a b,v',h=>by
  unfold AV.same at h
  split at h
  ·rename_i f' a' b'
   simp only [Bool.and_eq_true] at h
   simp only [AV.val]
   rw [Nat.eq_of_beq_eq_true h.1.1,AV.zG a a' h.1.2,AV.zG b b' h.2]
  ·cases h
 | .tuple l,v',h=>by
  unfold AV.same at h
  split at h
  ·split at h
   ·rename_i l'
    have:l'=[]:=by simpa using h
    subst this;simp only [AV.val,AV.ah]
   ·cases h
  ·cases h
 | .raw u,v',h=>by
  unfold AV.same at h
  split at h
  ·rename_i u'
   split at h
   ·simp only [Bool.and_eq_true] at h
    simp only [AV.val];rw [Nat.eq_of_beq_eq_true h.1,Nat.eq_of_beq_eq_true h.2]
   ·simp only [AV.val]
   ·simp only [AV.val]
   ·simp only [AV.val]
   ·simp only [AV.val]
   ·cases h
  ·cases h
 | .int k x,v',h=>by
  unfold AV.same at h
  split at h
  ·simp only [Bool.and_eq_true] at h
   simp only [AV.val];rw [iE h.1,eq_of_beq h.2]
  ·cases h
 | .bool _,v',h | .str _,v',h | .agg _,v',h | .ptr _ _,v',h | .sl _,v',h | .adr _ _,v',h | .ifc _ _,v',h | .mp _,v',h | .gp _,v',h | .nv _,v',h | .sfp _ _,v',h=>by unfold AV.same at h;cases h
theorem AV.zG {ρ ρ':Nms}:(l:List AV)→(l':List AV)→AV.Ao l l'=true→AV.ah ρ' l'=AV.ah ρ l
 | [],l',h=>by
  unfold AV.Ao at h
  have:l'=[]:=by simpa using h
  subst this;rfl
 | v::l,l',h=>by
  unfold AV.Ao at h
  split at h
  ·rename_i v' l'
   simp only [Bool.and_eq_true] at h
   simp only [AV.ah]
   rw [AV.xL v v' h.1,AV.zG l l' h.2]
  ·cases h
end
structure MR where
 B:List (Option Nat)
 S:List (Bool×Src)
 D:List Dyn
 X:List (Nat×List AV)
def H6 (G H:List Row) (t:Ty) (v:AV):Option (Option Nat×Src×List t.T):=match v with
 | .sl j=>(match cz G H (jQ j) with
  | some (s,.sli none _ t' l _)=>(match mg.Dyn.asL t ⟨.l t',l⟩ with
   | some l=>some (some j,s,l)
   | none=>none)
  | _=>none)
 | .raw (.slice none 0 0)=>some (none,.nilI t,[])
 | _=>none
def JD (G H:List Row) (t:Ty) (e:TypeId) (v:AV):Option (Option Nat×Src×List t.T):=match v with
 | .sl j=>(match cz G H (jQ j) with
  | some (s,.own _ t' e' l _)=>ifS ( Nat.beq e e' ) ( match mg.Dyn.asL t ⟨.l t',l⟩ with
   | some l=>some (some j,s,l)
   | none=>none
   ) none
  | _=>none)
 | .raw (.slice none 0 0)=>some (none,.nilO t e,[])
 | _=>none
structure DR (t:Ty) where
 x:t.T
 vs:List AV
 o:List (Option TypeId)
 B:List (Option Nat)
 S:List (Bool×Src)
def pH (G H:List Row):(t:Ty)→List AV→List (Option TypeId)→List (Option Nat)→Option (DR t)
 | .i k,vs,o,B=>(match vs with
  | .int k' x::vs=>ifS ( fc k k' ) ( some ⟨x,vs,o,B,[]⟩ ) none
  | _=>none)
 | .bo,vs,o,B=>(match vs with
  | .bool x::vs=>some ⟨x,vs,o,B,[]⟩
  | _=>none)
 | .s,vs,o,B=>(match vs with
  | .str x::vs=>some ⟨x,vs,o,B,[]⟩
  | _=>none)
 | .un,vs,o,B=>some ⟨(),vs,o,B,[]⟩
 | .p a b,vs,o,B=>(match pH G H a vs o B with
  | some d=>(match pH G H b d.vs d.o d.B with
   | some e=>some ⟨(d.x,e.x),e.vs,e.o,e.B,d.S++e.S⟩
   | none=>none)
  | none=>none)
 | .l t,vs,o,B=>(match vs with
  | v::vs=>(match o with
   | none::o=>(match H6 G H t v with
    | some q=>some ⟨q.2.2,vs,o,B++[q.1],[(false,q.2.1)]⟩
    | none=>none)
   | some e::o=>(match JD G H t (oe e) v with
    | some q=>some ⟨q.2.2,vs,o,B++[q.1],[(ow e,q.2.1)]⟩
    | none=>none)
   | []=>none)
  | []=>none)
 | .ex,vs,o,B=>(match vs with
  | .int .i64 a:: .int .i64 b:: .int .i64 c::v::vs=>(match o with
   | none::o=>(match H6 G H .ex v with
    | some q=>some ⟨Ex.mk a b c q.2.2,vs,o,B++[q.1],[(false,q.2.1)]⟩
    | none=>none)
   | some e::o=>(match JD G H .ex (oe e) v with
    | some q=>some ⟨Ex.mk a b c q.2.2,vs,o,B++[q.1],[(ow e,q.2.1)]⟩
    | none=>none)
   | []=>none)
  | _=>none)
 | _,_,_,_=>none
def BR:Option Nat→Option Nat→Bool
 | some a,some b=>Nat.beq a b
 | none,none=>true
 | _,_=>false
theorem SO {a b:Option Nat} (h:BR a b=true):a=b:=by
 unfold BR at h
 split at h
 ·rw [Nat.eq_of_beq_eq_true h]
 ·rfl
 ·cases h
abbrev FxA:=Option (AV×List AV)
def kF (p:Pt) (fxs:List AV):FxA:=match fxs with
 | []=>none
 | u::_=>ifS (GQ p) none (some (u,[]))
def lL (p:Pt) (fx:FxA):Bool:=match p with
 | .agg _=>(match fx with
  | some (.agg _,_)=>true
  | some _=>false
  | none=>true)
 | .fn _ _ _=>(match fx with
  | some (.fn _ _ _,_)=>true
  | some _=>false
  | none=>true)
 | .ifc _ _=>(match fx with
  | some (.ifc _ _,_)=>true
  | some _=>false
  | none=>true)
 | _=>true
def ew (fx:FxA):List AV:=match fx with
 | some (.agg us,_)=>us
 | some (.fn _ _ b,_)=>b
 | some (.ifc _ u,_)=>[u]
 | _=>[]
def wy (fx:FxA):List AV:=match fx with
 | some p=>p.2
 | none=>[]
def nvs (v:AV) (fx:FxA) (sm:Option AV):Bool:=match fx with
 | some _=>true
 | none=>(match sm with
  | some (.nv u)=>(match v with
   | .nv w=>Nat.beq u w
   | _=>false)
  | _=>false)
def Hn:Pt→Bool
 | .same=>true
 | _=>false
mutual
def mt (G H:List Row):Pt→AV→FxA→Option AV→List (Option Nat)→Option MR
 | .int k,v,_,_,B=>(match v with
  | .int k' x=>ifS (fc k k') (some ⟨B,[],[⟨.i k,x⟩],[]⟩) none
  | _=>none)
 | .bool,v,_,_,B=>(match v with
  | .bool x=>some ⟨B,[],[⟨.bo,x⟩],[]⟩
  | _=>none)
 | .str,v,_,_,B=>(match v with
  | .str x=>some ⟨B,[],[⟨.s,x⟩],[]⟩
  | _=>none)
 | .sli t,v,_,_,B=>(match H6 G H t v with
  | some q=>some ⟨B++[q.1],[(false,q.2.1)],[⟨.l t,q.2.2⟩],[]⟩
  | none=>none)
 | .own t e m,v,_,_,B=>(match JD G H t e v with
  | some q=>some ⟨B++[q.1],[(m,q.2.1)],[⟨.l t,q.2.2⟩],[]⟩
  | none=>none)
 | .slr n,v,_,_,B=>(match v with
  | .sl j=>ifS (BR ((B[n]?).getD none) (some j)) (some ⟨B,[],[],[]⟩) none
  | _=>none)
 | .bx t off m vs,v,fx,_,B=>(match v with
  | .ptr j off'=>ifS (Nat.beq off off') (match cz G H (pR j) with
   | some (s,.box _ t' cs)=>ifS (Nat.beq t t') (match mts G H vs cs [] (wy fx) (B++[some j]) with
     | some r=>some ⟨r.B,(m,s)::r.S,r.D,(ifS m [(B.length,cs)] [])++r.X⟩
     | none=>none) none
   | _=>none) none
  | _=>none)
 | .ptr n off,v,_,_,B=>(match v with
  | .ptr j off'=>ifS (Nat.beq off off'&&BR ((B[n]?).getD none) (some j)) (some ⟨B,[],[],[]⟩) none
  | _=>none)
 | .mp k u m,v,_,_,B=>(match v with
  | .mp j=>(match cz G H (Nw j) with
   | some (s,.mp _ k' u' d)=>(match Dyn.as (.mp k u) ⟨.mp k' u',d⟩ with
    | some d=>some ⟨B++[some j],[(m,s)],[⟨.mp k u,d⟩],[]⟩
    | none=>none)
   | _=>none)
  | .raw (.map none)=>some ⟨B++[none],[(m,.nilM k u)],[⟨.mp k u,(none:Option (List (k.T×u.T)))⟩],[]⟩
  | _=>none)
 | .it,v,_,_,B=>(match v with
  | .ptr j 0=>(match cz G H (VA j) with
   | some (s,.it _ x p)=>some ⟨B++[some j],[(true,s)],[⟨.s,x⟩,⟨.n,p⟩],[]⟩
   | _=>none)
  | _=>none)
 | .agg l,v,fx,_,B=>(match v with
  | .agg vs=>ifS (lL (.agg l) fx) (mts G H l vs (ifS fx.isSome vs []) [] B) none
  | _=>none)
 | .tup l,v,_,_,B=>(match v with
  | .tuple vs=>mts G H l vs [] [] B
  | _=>none)
 | .fn f a b,v,fx,_,B=>(match v with
  | .fn f' a' b'=>ifS (Nat.beq f f'&&lL (.fn f a b) fx) (match mts G H a a' [] [] B with
   | some r=>(match mts G H b b' (ifS fx.isSome b' []) [] r.B with
    | some q=>some ⟨q.B,r.S++q.S,r.D++q.D,r.X++q.X⟩
    | none=>none)
   | none=>none) none
  | _=>none)
 | .ifc t p,v,fx,_,B=>(match v with
  | .ifc t' u=>ifS (Nat.beq t t'&&lL (.ifc t p) fx) (mt G H p u (kF p (ifS fx.isSome [u] [])) none B) none
  | _=>none)
 | .cst c,v,_,_,B=>ifS (AV.same c v) (some ⟨B,[],[],[]⟩) none
 | .dat t o,v,_,_,B=>(match v with
  | .agg cs=>(match pH G H t cs o B with
   | some ⟨x,[],_,B',S⟩=>some ⟨B',S,[⟨t,x⟩],[]⟩
   | _=>none)
  | _=>none)
 | .ifn,v,_,_,B=>(match v with
  | .ifc t (.agg [])=>some ⟨B,[],[⟨.n,t⟩],[]⟩
  | _=>none)
 | .sfp,v,_,_,B=>(match v with
  | .raw (.pointer none)=>(match B[B.length-1]? with
   | some _=>some ⟨B,[],[⟨.bo,false⟩],[]⟩
   | none=>none)
  | .sfp j f=>ifS (BR ((B[B.length-1]?).getD none) (some j)) (some ⟨B,[],[⟨.bo,f⟩],[]⟩) none
  | .ptr j 0=>ifS (BR ((B[B.length-1]?).getD none) (some j)) (some ⟨B,[],[⟨.bo,true⟩],[]⟩) none
  | _=>none)
 | .same,v,fx,sm,B=>ifS (nvs v fx sm) (some ⟨B,[],[],[]⟩) none
def mts (G H:List Row):List Pt→List AV→List AV→List AV→List (Option Nat)→Option MR
 | [],vs,_,_,B=>(match vs with
  | []=>some ⟨B,[],[],[]⟩
  | _=>none)
 | p::l,vs,fxs,sms,B=>(match vs with
  | v::vs=>(match mt G H p (ifS (Hn p) v (nT G H v)) (kF p fxs) sms.head? B with
   | some r=>(match mts G H l vs fxs.tail sms.tail r.B with
    | some q=>some ⟨q.B,r.S++q.S,r.D++q.D,r.X++q.X⟩
    | none=>none)
   | none=>none)
  | []=>none)
end
def lQ (fix:Nat→FxA):List (Bool×Nat×Pt)→Bool
 | []=>true
 | x::l=>lL x.2.2 (ifS x.1 (fix x.2.1) none)&&lQ fix l
theorem Tt {G H:List Row} {p:Pt} {v:AV} {fx:FxA} {sm:Option AV} {B:List (Option Nat)} {r:MR} (h:mt G H p v fx sm B=some r):lL p fx=true:=by
 cases p <;> first | rfl | skip
 ·unfold mt at h
  split at h
  ·exact (ao h).1
  ·cases h
 ·unfold mt at h
  split at h
  ·have:=(ao h).1
   simp only [Bool.and_eq_true] at this
   exact this.2
  ·cases h
 ·unfold mt at h
  split at h
  ·have:=(ao h).1
   simp only [Bool.and_eq_true] at this
   exact this.2
  ·cases h
def mtV (G H:List Row) (look:Nat→Option AV) (fix:Nat→FxA):List (Bool×Nat×Pt)→List (Option Nat)→Option MR
 | [],B=>some ⟨B,[],[],[]⟩
 | x::l,B=>(match (ifS x.1 ((fix x.2.1).map (·.1)) (look x.2.1)) with
  | some v=>(match mt G H x.2.2 v (ifS x.1 (fix x.2.1) none) none B with
   | some r=>(match mtV G H look fix l r.B with
    | some q=>some ⟨q.B,r.S++q.S,r.D++q.D,r.X++q.X⟩
    | none=>none)
   | none=>none)
  | none=>none)
theorem Iu {G H:List Row} {lk:Nat→Option AV} {fix:Nat→FxA}:{l:List (Bool×Nat×Pt)}→{B:List (Option Nat)}→{r:MR}→mtV G H lk fix l B=some r→lQ fix l=true
 | [],_,_,_=>rfl
 | x::l,B,r,h=>by
  unfold mtV at h
  split at h
  ·split at h
   ·rename_i q hq
    split at h
    ·rename_i q2 hq2
     simp only [lQ,Bool.and_eq_true]
     exact ⟨Tt hq,Iu hq2⟩
    ·cases h
   ·cases h
  ·cases h
end Go.Proofs.YtgcgmclghbebjaaGreat
namespace Go.Proofs.YtgcgmclghbebjaaGreat
open Go.Lib
def aY (a b:Item):Prop:=(∀ x,x∈b.own→x∈a.own)∧ ∀ M w,a.P M w→b.P M w
theorem aY.refl {a:Item}:aY a a:=⟨fun _ h=>h,fun _ _ h=>h⟩
def MA (ρ:Nms) (T:Tbl) (G H:List Row) (s:Src) (it:Item):Prop:=
 (it.own=[]∧(∀ M w,it.P M w)∧ ∀ r,¬ s.at_ G H r)∨ ∃ r,s.at_ G H r∧aY (r.item ρ T) it∧(r.ck=true→it.own=[])∧(r.ck=false→aY it (r.item ρ T))
def SI (ρ:Nms) (T:Tbl) (G H:List Row) (a:Bool×Src) (b:Bool×Item):Prop:=a.1=b.1∧MA ρ T G H a.2 b.2
inductive dk {α β:Type} (R:α→β→Prop):List α→List β→Prop
 | nil:dk R [] []
 | cons {a b l m}:R a b→dk R l m→dk R (a::l) (b::m)
theorem dk.length {α β:Type} {R:α→β→Prop} {l:List α} {m:List β} (h:dk R l m):l.length=m.length:=by
 induction h with
 | nil=>rfl
 | cons _ _ ih=>simp [ih]
theorem dk.append {α β:Type} {R:α→β→Prop} {l l':List α} {m m':List β} (h:dk R l m) (k:dk R l' m'):dk R (l++l') (m++m'):=by
 induction h with
 | nil=>exact k
 | cons h1 _ ih=>exact .cons h1 ih
theorem dk.get {α β:Type} {R:α→β→Prop} {l:List α} {m:List β} (h:dk R l m): ∀ {i:Nat} {a:α},l[i]? =some a→ ∃ b,m[i]? =some b∧R a b:=by
 induction h with
 | nil=>intro i a h;simp at h
 | cons h1 _ ih=>
  intro i a h
  cases i with
  | zero=>simp at h;subst h;exact ⟨_,rfl,h1⟩
  | succ i=>exact ih (by simpa using h)
def NBr (ρ:Nms) (o:Option Nat) (a:Nm):Prop:=match o with
 | some j=>a.b=(ρ j).b∧a.v=(ρ j).v∧a.m=(ρ j).m
 | none=>a.v=(none,0,0)∧a.m=none
abbrev NB (ρ:Nms) (B:List (Option Nat)) (N:List Nm):Prop:=dk (NBr ρ) B N
theorem NB.at_ {ρ:Nms} {B:List (Option Nat)} {N:List Nm} (h:NB ρ B N) {n j:Nat} (hb:BR ((B[n]?).getD none) (some j)=true): ∃ a,N[n]? =some a∧a.b=(ρ j).b∧a.v=(ρ j).v:=by
 have e:=SO hb
 cases hn:B[n]? with
 | none=>rw [hn] at e;cases e
 | some o=>
  rw [hn] at e
  simp only [Option.getD_some] at e
  subst e
  obtain ⟨a,h1,h2⟩:=h.get hn
  exact ⟨a,h1,h2.1,h2.2.1⟩
section
variable {ρ : Nms} {T : Tbl} {G H : List Row} {Φ : Ctx} {w : World}
theorem DV (_hs:Sat (items ρ T G++(items ρ T H++Φ)) w) {t:Ty} {v:AV} {q:Option Nat×Src×List t.T} (h:H6 G H t v=some q): ∃ a:Nm,NBr ρ q.1 a∧v.val ρ=sl a.v∧MA ρ T G H q.2.1 (zL true t.rep a.v q.2.2 false):=by
 unfold H6 at h
 split at h
 ·rename_i j
  split at h
  ·rename_i s j' t' l b hf
   split at h
   ·rename_i l' hl
    cases h
    obtain ⟨rfl,rfl⟩:=lC hl
    obtain ⟨f1,f2⟩:=ba hf
    have:j'=j:=Nat.eq_of_beq_eq_true f2
    subst this
    refine ⟨ρ j',⟨rfl,rfl,rfl⟩,by simp only [AV.val],.inr ⟨_,f1,⟨fun _ h=>h,fun M w h _=>⟨(h Tbl.get_none).1,fun hb=>by cases hb⟩⟩,fun _=>rfl,fun h=>by cases h⟩⟩
   ·cases h
  ·cases h
 ·cases h
  exact ⟨nm0,⟨rfl,rfl⟩,by simp only [AV.val];rfl,.inl ⟨rfl,fun M w _=>⟨SRd.nil,fun hb=>by cases hb⟩,fun r h=>h⟩⟩
 ·cases h
theorem EN (hs:Sat (items ρ T G++(items ρ T H++Φ)) w) {t:Ty} {e:TypeId} {v:AV} {q:Option Nat×Src×List t.T} (h:JD G H t e v=some q): ∃ a:Nm,NBr ρ q.1 a∧v.val ρ=sl a.v∧a.y=⟨.l t,q.2.2⟩∧MA ρ T G H q.2.1 (mX t.rep e a.v q.2.2 True):=by
 unfold JD at h
 split at h
 ·rename_i j
  split at h
  ·rename_i s j' t' e' l ver hf
   obtain ⟨h1,h2⟩:=ao h
   have e1:=Nat.eq_of_beq_eq_true h1
   subst e1
   split at h2
   ·rename_i l' hl
    cases h2
    obtain ⟨rfl,rfl⟩:=lC hl
    obtain ⟨f1,f2⟩:=ba hf
    have:j'=j:=Nat.eq_of_beq_eq_true f2
    subst this
    have hfact:=(Src.holds hs f1).2
    refine ⟨{ ρ j' with y:=⟨.l t',l⟩ },⟨rfl,rfl,rfl⟩,by simp only [AV.val],rfl,.inr ⟨_,f1,⟨fun _ h=>h,fun M w h=>⟨h.1,trivial⟩⟩,fun h=>(by cases h),fun _=>⟨fun _ h=>h,fun M w h=>⟨h.1,hfact⟩⟩⟩⟩
   ·cases h2
  ·cases h
 ·cases h
  exact ⟨{ nm0 with y:=⟨.l t,([]:List t.T)⟩ },⟨rfl,rfl⟩,by simp only [AV.val];rfl,rfl,.inl ⟨rfl,fun M w=>⟨Own.nil,trivial⟩,fun r h=>h⟩⟩
 ·cases h
theorem DU (hs:Sat (items ρ T G++(items ρ T H++Φ)) w):(t:Ty)→(vs:List AV)→(o:List (Option TypeId))→(B:List (Option Nat))→(d:DR t)→(N:List Nm)→pH G H t vs o B=some d→NB ρ B N→
  ∃ us N' I,vs=us++d.vs∧BG t d.x (AV.ah ρ us) o N I N' d.o∧NB ρ d.B N'∧dk (SI ρ T G H) d.S I
 | .i k,vs,o,B,d,N,h,hN=>by
  unfold pH at h
  split at h
  ·rename_i k' x us
   obtain ⟨h1,h2⟩:=ao h
   have:=iE h1;subst this
   cases h2
   exact ⟨[.int k x],N,[],rfl,⟨by simp only [AV.ah,AV.val],rfl,rfl,rfl⟩,hN,.nil⟩
  ·cases h
 | .bo,vs,o,B,d,N,h,hN=>by
  unfold pH at h
  split at h
  ·rename_i x us
   cases h
   exact ⟨[.bool x],N,[],rfl,⟨by simp only [AV.ah,AV.val],rfl,rfl,rfl⟩,hN,.nil⟩
  ·cases h
 | .s,vs,o,B,d,N,h,hN=>by
  unfold pH at h
  split at h
  ·rename_i x us
   cases h
   exact ⟨[.str x],N,[],rfl,⟨by simp only [AV.ah,AV.val],rfl,rfl,rfl⟩,hN,.nil⟩
  ·cases h
 | .un,vs,o,B,d,N,h,hN=>by
  unfold pH at h
  cases h
  exact ⟨[],N,[],rfl,⟨by simp only [AV.ah],rfl,rfl,rfl⟩,hN,.nil⟩
 | .n,vs,o,B,d,N,h,hN=>by unfold pH at h;cases h
 | .mp _ _,vs,o,B,d,N,h,hN=>by unfold pH at h;cases h
 | .p a b,vs,o,B,d,N,h,hN=>by
  unfold pH at h
  split at h
  ·rename_i d1 h1
   split at h
   ·rename_i d2 h2
    cases h
    obtain ⟨us1,N1,I1,e1,s1,n1,a1⟩:=DU hs a vs o B d1 N h1 hN
    obtain ⟨us2,N2,I2,e2,s2,n2,a2⟩:=DU hs b d1.vs d1.o d1.B d2 N1 h2 n1
    refine ⟨us1++us2,N2,I1++I2,by rw [e1,e2,List.append_assoc],?_,n2,a1.append a2⟩
    rw [bK]
    exact ⟨_,_,N1,I1,I2,d1.o,s1,s2,rfl,rfl⟩
   ·cases h
  ·cases h
 | .l t,vs,o,B,d,N,h,hN=>by
  unfold pH at h
  split at h
  ·rename_i v us
   split at h
   ·rename_i o'
    split at h
    ·rename_i q hq
     cases h
     obtain ⟨a,n1,e1,s1⟩:=DV hs hq
     refine ⟨[v],N++[a],_,rfl,⟨a,by simp only [AV.ah];rw [e1],rfl,.inl ⟨rfl,rfl⟩⟩,hN.append (.cons n1 .nil),.cons ⟨rfl,s1⟩ .nil⟩
    ·cases h
   ·rename_i e o'
    split at h
    ·rename_i q hq
     cases h
     obtain ⟨a,n1,e1,y1,s1⟩:=EN hs hq
     refine ⟨[v],N++[a],_,rfl,⟨a,by simp only [AV.ah];rw [e1],rfl,.inr ⟨e,rfl,rfl,y1⟩⟩,hN.append (.cons n1 .nil),.cons ⟨rfl,s1⟩ .nil⟩
    ·cases h
   ·cases h
  ·cases h
 | .ex,vs,o,B,d,N,h,hN=>by
  unfold pH at h
  split at h
  ·rename_i xa xb xc v us
   split at h
   ·rename_i o'
    split at h
    ·rename_i q hq
     cases h
     obtain ⟨a,n1,e1,s1⟩:=DV hs hq
     refine ⟨[.int .i64 xa,.int .i64 xb,.int .i64 xc,v],N++[a],_,rfl,⟨a,by simp only [AV.ah,AV.val];rw [e1];rfl,rfl,.inl ⟨rfl,rfl⟩⟩,hN.append (.cons n1 .nil),.cons ⟨rfl,s1⟩ .nil⟩
    ·cases h
   ·rename_i e o'
    split at h
    ·rename_i q hq
     cases h
     obtain ⟨a,n1,e1,y1,s1⟩:=EN hs hq
     refine ⟨[.int .i64 xa,.int .i64 xb,.int .i64 xc,v],N++[a],_,rfl,⟨a,by simp only [AV.ah,AV.val];rw [e1];rfl,rfl,.inr ⟨e,rfl,rfl,y1⟩⟩,hN.append (.cons n1 .nil),.cons ⟨rfl,s1⟩ .nil⟩
    ·cases h
   ·cases h
  ·cases h
abbrev ct (ρ:Nms) (X:List (Nat×List AV)):Bxs:=X.map fun x=>(x.1,AV.ah ρ x.2)
abbrev dR (ρ:Nms) (fx:FxA):Fx:=fx.map fun q=>(q.1.val ρ,AV.ah ρ q.2)
theorem KO {fx:FxA}:fxC (dR ρ fx)=AV.ah ρ (wy fx):=by
 cases fx with
 | none=>simp [fxC,wy,AV.ah]
 | some q=>rfl
theorem Ah {p:Pt} {fxs:List AV}:fx1 p (AV.ah ρ fxs)=dR ρ (kF p fxs):=by
 cases fxs with
 | nil=>rfl
 | cons u us=>
  unfold fx1 kF
  simp only [AV.ah]
  cases GQ p <;> simp [ifS,AV.ah]
theorem Ji {b:Bool} {x:List AV}:AV.ah ρ (ifS b x [])=ifS b (AV.ah ρ x) []:=by
 cases b
 ·show AV.ah ρ []=[];simp only [AV.ah]
 ·rfl
theorem CU {fx:FxA}:(dR ρ fx).isSome=fx.isSome:=by cases fx <;> rfl
theorem nz {fx:FxA} {v:AV} (h: ∀ q,fx=some q→q.1.val ρ=v.val ρ):oN (dR ρ fx) (v.val ρ):=by
 intro p hp
 cases fx with
 | none=>cases hp
 | some q=>cases hp;exact (h q rfl).symm
theorem EU (hs:Sat (items ρ T G++(items ρ T H++Φ)) w) {p:Pt} {v:AV}:(ifS (Hn p) v (nT G H v)).val ρ=v.val ρ:=by
 cases Hn p
 ·exact HU hs
 ·rfl
theorem Ff {l:List AV}:(AV.ah ρ l).head? =l.head?.map (AV.val ρ):=by cases l <;> simp [AV.ah]
theorem tI {l:List AV}:(AV.ah ρ l).tail=AV.ah ρ l.tail:=by cases l <;> simp [AV.ah]
mutual
theorem xE (hs:Sat (items ρ T G++(items ρ T H++Φ)) w):(p:Pt)→(v:AV)→(fx:FxA)→(sm:Option AV)→(B:List (Option Nat))→(r:MR)→(N:List Nm)→mt G H p v fx sm B=some r→NB ρ B N→(∀ q,fx=some q→q.1.val ρ=v.val ρ)→
  ∃ N' I,Sem p (v.val ρ) (dR ρ fx) (sm.map (AV.val ρ)) N r.D I (ct ρ r.X) N'∧NB ρ r.B N'∧dk (SI ρ T G H) r.S I
 | .int k,v,fx,sm,B,r,N,h,hN,hf=>by
  unfold mt at h
  split at h
  ·rename_i k' x
   obtain ⟨h1,h2⟩:=ao h
   have:=iE h1;subst this
   cases h2
   exact ⟨N,[],⟨x,by simp only [AV.val],rfl,rfl,rfl,rfl⟩,hN,.nil⟩
  ·cases h
 | .bool,v,fx,sm,B,r,N,h,hN,hf=>by
  unfold mt at h
  split at h
  ·rename_i x
   cases h
   exact ⟨N,[],⟨x,by simp only [AV.val],rfl,rfl,rfl,rfl⟩,hN,.nil⟩
  ·cases h
 | .str,v,fx,sm,B,r,N,h,hN,hf=>by
  unfold mt at h
  split at h
  ·rename_i x
   cases h
   exact ⟨N,[],⟨x,by simp only [AV.val],rfl,rfl,rfl,rfl⟩,hN,.nil⟩
  ·cases h
 | .sli t,v,fx,sm,B,r,N,h,hN,hf=>by
  unfold mt at h
  split at h
  ·rename_i q hq
   cases h
   obtain ⟨a,n1,e1,s1⟩:=DV hs hq
   exact ⟨N++[a],_,⟨a,q.2.2,e1,rfl,rfl,rfl,rfl⟩,hN.append (.cons n1 .nil),.cons ⟨rfl,s1⟩ .nil⟩
  ·cases h
 | .own t e m,v,fx,sm,B,r,N,h,hN,hf=>by
  unfold mt at h
  split at h
  ·rename_i q hq
   cases h
   obtain ⟨a,n1,e1,y1,s1⟩:=EN hs hq
   exact ⟨N++[a],_,⟨a,q.2.2,e1,nz hf,rfl,rfl,rfl,rfl,y1⟩,hN.append (.cons n1 .nil),.cons ⟨rfl,s1⟩ .nil⟩
  ·cases h
 | .slr n,v,fx,sm,B,r,N,h,hN,hf=>by
  unfold mt at h
  split at h
  ·rename_i j
   obtain ⟨h1,h2⟩:=ao h
   cases h2
   obtain ⟨a,a1,a2,a3⟩:=hN.at_ h1
   exact ⟨N,[],⟨a,a1,by simp only [AV.val];rw [a3],rfl,rfl,rfl,rfl⟩,hN,.nil⟩
  ·cases h
 | .bx t off m vs,v,fx,sm,B,r,N,h,hN,hf=>by
  unfold mt at h
  split at h
  ·rename_i j off'
   obtain ⟨h1,h2⟩:=ao h
   have e1:=Nat.eq_of_beq_eq_true h1
   subst e1
   split at h2
   ·rename_i s j' t' cs hfi
    obtain ⟨h3,h4⟩:=ao h2
    have e2:=Nat.eq_of_beq_eq_true h3
    subst e2
    split at h4
    ·rename_i q hq
     cases h4
     obtain ⟨f1,f2⟩:=ba hfi
     have:j'=j:=Nat.eq_of_beq_eq_true f2
     subst this
     obtain ⟨N',I,s1,n1,a1⟩:=qn hs vs cs [] (wy fx) (B++[some j']) q (N++[ρ j']) hq (.inl rfl) (hN.append (.cons ⟨rfl,rfl,rfl⟩ .nil))
     refine ⟨N',_,⟨ρ j',AV.ah ρ cs,I,ct ρ q.X,by simp only [AV.val],nz hf,by rw [KO];simpa only [AV.ah] using s1,rfl,?_⟩,n1,.cons ⟨rfl,.inr ⟨_,f1,aY.refl,(fun h=>by cases h),fun _=>aY.refl⟩⟩ a1⟩
     rw [← hN.length]
     cases m <;> simp [ct]
    ·cases h4
   ·cases h2
  ·cases h
 | .ptr n off,v,fx,sm,B,r,N,h,hN,hf=>by
  unfold mt at h
  split at h
  ·rename_i j off'
   obtain ⟨h1,h2⟩:=ao h
   simp only [Bool.and_eq_true] at h1
   cases h2
   have e1:=Nat.eq_of_beq_eq_true h1.1
   subst e1
   obtain ⟨a,a1,a2,a3⟩:=hN.at_ h1.2
   exact ⟨N,[],⟨a,a1,by simp only [AV.val];rw [a2],rfl,rfl,rfl,rfl⟩,hN,.nil⟩
  ·cases h
 | .mp k u m,v,fx,sm,B,r,N,h,hN,hf=>by
  unfold mt at h
  split at h
  ·rename_i j
   split at h
   ·rename_i s j' k' u' d hfi
    split at h
    ·rename_i d' hd
     cases h
     have:=Dyn.Ar hd
     cases this
     obtain ⟨f1,f2⟩:=ba hfi
     have:j'=j:=Nat.eq_of_beq_eq_true f2
     subst this
     exact ⟨N++[ρ j'],_,⟨ρ j',d',by simp only [AV.val],nz hf,rfl,rfl,rfl,rfl⟩,hN.append (.cons ⟨rfl,rfl,rfl⟩ .nil),.cons ⟨rfl,.inr ⟨_,f1,aY.refl,(fun h=>by cases h),fun _=>aY.refl⟩⟩ .nil⟩
    ·cases h
   ·cases h
  ·cases h
   exact ⟨N++[nm0],_,⟨nm0,none,by simp only [AV.val];rfl,nz hf,rfl,rfl,rfl,rfl⟩,hN.append (.cons ⟨rfl,rfl⟩ .nil),.cons ⟨rfl,.inl ⟨rfl,fun M w=>gU.nil,fun r h=>h⟩⟩ .nil⟩
  ·cases h
 | .it,v,fx,sm,B,r,N,h,hN,hf=>by
  unfold mt at h
  split at h
  ·rename_i j
   split at h
   ·rename_i s j' x p hfi
    cases h
    obtain ⟨f1,f2⟩:=ba hfi
    have:j'=j:=Nat.eq_of_beq_eq_true f2
    subst this
    exact ⟨N++[ρ j'],_,⟨ρ j',x,p,by simp only [AV.val],nz hf,rfl,rfl,rfl,rfl⟩,hN.append (.cons ⟨rfl,rfl,rfl⟩ .nil),.cons ⟨rfl,.inr ⟨_,f1,aY.refl,(fun h=>by cases h),fun _=>aY.refl⟩⟩ .nil⟩
   ·cases h
  ·cases h
 | .agg l,v,fx,sm,B,r,N,h,hN,hf=>by
  unfold mt at h
  split at h
  ·rename_i vs
   obtain ⟨_,h⟩:=ao h
   obtain ⟨N',I,s1,n1,a1⟩:=qn hs l vs (ifS fx.isSome vs []) [] B r N h (by cases fx <;> first | exact .inl rfl | exact .inr rfl) hN
   exact ⟨N',I,⟨AV.ah ρ vs,by simp only [AV.val],nz hf,by rw [CU,← Ji];simpa only [AV.ah] using s1⟩,n1,a1⟩
  ·cases h
 | .tup l,v,fx,sm,B,r,N,h,hN,hf=>by
  unfold mt at h
  split at h
  ·rename_i vs
   obtain ⟨N',I,s1,n1,a1⟩:=qn hs l vs [] [] B r N h (.inl rfl) hN
   exact ⟨N',I,⟨AV.ah ρ vs,by simp only [AV.val],by simpa only [AV.ah] using s1⟩,n1,a1⟩
  ·cases h
 | .fn f a b,v,fx,sm,B,r,N,h,hN,hf=>by
  unfold mt at h
  split at h
  ·rename_i f' a' b'
   obtain ⟨h1,h2⟩:=ao h
   simp only [Bool.and_eq_true] at h1
   have e1:=Nat.eq_of_beq_eq_true h1.1
   subst e1
   split at h2
   ·rename_i q1 hq1
    split at h2
    ·rename_i q2 hq2
     cases h2
     obtain ⟨N1,I1,s1,n1,a1⟩:=qn hs a a' [] [] B q1 N hq1 (.inl rfl) hN
     obtain ⟨N2,I2,s2,n2,a2⟩:=qn hs b b' (ifS fx.isSome b' []) [] q1.B q2 N1 hq2 (by cases fx <;> first | exact .inl rfl | exact .inr rfl) n1
     exact ⟨N2,I1++I2,⟨AV.ah ρ a',AV.ah ρ b',q1.D,q2.D,I1,I2,ct ρ q1.X,ct ρ q2.X,N1,by simp only [AV.val],nz hf,by simpa only [AV.ah] using s1,by rw [CU,← Ji];simpa only [AV.ah] using s2,rfl,rfl,by simp [ct]⟩,n2,a1.append a2⟩
    ·cases h2
   ·cases h2
  ·cases h
 | .ifc t p,v,fx,sm,B,r,N,h,hN,hf=>by
  unfold mt at h
  split at h
  ·rename_i t' u
   obtain ⟨h1,h2⟩:=ao h
   simp only [Bool.and_eq_true] at h1
   have e1:=Nat.eq_of_beq_eq_true h1.1
   subst e1
   obtain ⟨N',I,s1,n1,a1⟩:=xE hs p u (kF p (ifS fx.isSome [u] [])) none B r N h2 hN (fun q hq=>by
    cases fx with
    | none=>cases hq
    | some f=>
     have hq:ifS (GQ p) none (some (u,[]))=some q:=hq
     obtain ⟨_,h3⟩:=Ak hq
     cases h3;rfl)
   refine ⟨N',I,⟨u.val ρ,by simp only [AV.val],nz hf,?_⟩,n1,a1⟩
   have e2:(ifS (dR ρ fx).isSome [u.val ρ] []:List Value)=AV.ah ρ (ifS fx.isSome [u] []):=by
    cases fx
    ·show ([]:List Value)=AV.ah ρ [];simp only [AV.ah]
    ·show [u.val ρ]=AV.ah ρ [u];simp only [AV.ah]
   rw [e2,Ah];exact s1
  ·cases h
 | .cst c,v,fx,sm,B,r,N,h,hN,hf=>by
  unfold mt at h
  obtain ⟨h1,h2⟩:=ao h
  cases h2
  exact ⟨N,[],⟨⟨AV.xL c v h1,fun ρ'=>(AV.xL (ρ':=ρ) (ρ:=ρ') c v h1).symm.trans (AV.xL c v h1)⟩,rfl,rfl,rfl,rfl⟩,hN,.nil⟩
 | .dat t o,v,fx,sm,B,r,N,h,hN,hf=>by
  unfold mt at h
  split at h
  ·rename_i cs
   split at h
   ·rename_i x o' B' S hd
    cases h
    obtain ⟨us,N',I,e1,s1,n1,a1⟩:=DU hs t cs o B _ N hd hN
    simp only [List.append_nil] at e1
    subst e1
    exact ⟨N',I,⟨_,x,o',by simp only [AV.val],rfl,s1,rfl⟩,n1,a1⟩
   ·cases h
  ·cases h
 | .ifn,v,fx,sm,B,r,N,h,hN,hf=>by
  unfold mt at h
  split at h
  ·rename_i t
   cases h
   exact ⟨N,[],⟨t,by simp only [AV.val,AV.ah],rfl,rfl,rfl,rfl⟩,hN,.nil⟩
  ·cases h
 | .sfp,v,fx,sm,B,r,N,h,hN,hf=>by
  have hl:=hN.length
  unfold mt at h
  split at h
  ·split at h
   ·rename_i o ho
    cases h
    obtain ⟨a,h1,_⟩:=hN.get ho
    exact ⟨N,[],⟨a,false,by rw [← hl];exact h1,by simp only [AV.val,qV,cond_false],rfl,rfl,rfl,rfl⟩,hN,.nil⟩
   ·cases h
  ·rename_i j f
   obtain ⟨h1,h2⟩:=ao h
   cases h2
   obtain ⟨a,a1,a2,_⟩:=hN.at_ h1
   exact ⟨N,[],⟨a,f,by rw [← hl];exact a1,by simp only [AV.val];rw [a2],rfl,rfl,rfl,rfl⟩,hN,.nil⟩
  ·rename_i j
   obtain ⟨h1,h2⟩:=ao h
   cases h2
   obtain ⟨a,a1,a2,_⟩:=hN.at_ h1
   exact ⟨N,[],⟨a,true,by rw [← hl];exact a1,by simp only [AV.val,qV,cond_true];rw [a2],rfl,rfl,rfl,rfl⟩,hN,.nil⟩
  ·cases h
 | .same,v,fx,sm,B,r,N,h,hN,hf=>by
  unfold mt at h
  obtain ⟨h1,h2⟩:=ao h
  cases h2
  refine ⟨N,[],⟨?_,rfl,rfl,rfl,rfl⟩,hN,.nil⟩
  unfold nvs at h1
  split at h1
  ·rename_i q
   exact .inl ⟨_,rfl,(hf q rfl).symm⟩
  ·split at h1
   ·split at h1
    ·rename_i u u'
     rw [Nat.eq_of_beq_eq_true h1]
     exact .inr ⟨rfl,rfl⟩
    ·cases h1
   ·cases h1
theorem qn (hs:Sat (items ρ T G++(items ρ T H++Φ)) w):(l:List Pt)→(vs:List AV)→(fxs:List AV)→(sms:List AV)→(B:List (Option Nat))→(r:MR)→(N:List Nm)→mts G H l vs fxs sms B=some r→(fxs=[]∨fxs=vs)→NB ρ B N→
  ∃ N' I,nU l (AV.ah ρ vs) (AV.ah ρ fxs) (AV.ah ρ sms) N r.D I (ct ρ r.X) N'∧NB ρ r.B N'∧dk (SI ρ T G H) r.S I
 | [],vs,fxs,sms,B,r,N,h,hfx,hN=>by
  unfold mts at h
  split at h
  ·cases h
   exact ⟨N,[],⟨by simp only [AV.ah],rfl,rfl,rfl,rfl⟩,hN,.nil⟩
  ·cases h
 | p::l,vs,fxs,sms,B,r,N,h,hfx,hN=>by
  unfold mts at h
  split at h
  ·rename_i v us
   split at h
   ·rename_i q1 hq1
    split at h
    ·rename_i q2 hq2
     cases h
     obtain ⟨N1,I1,s1,n1,a1⟩:=xE hs p _ (kF p fxs) sms.head? B q1 N hq1 hN (fun q hq=>by
      rcases hfx with rfl | rfl
      ·cases hq
      ·unfold kF at hq
       dsimp only at hq
       obtain ⟨_,h2⟩:=Ak hq
       cases h2
       exact (EU hs).symm)
     obtain ⟨N2,I2,s2,n2,a2⟩:=qn hs l us fxs.tail sms.tail q1.B q2 N1 hq2 (by rcases hfx with rfl | rfl <;> first | exact .inl rfl | exact .inr rfl) n1
     rw [EU hs] at s1
     refine ⟨N2,I1++I2,⟨v.val ρ,AV.ah ρ us,q1.D,q2.D,I1,I2,ct ρ q1.X,ct ρ q2.X,N1,by simp only [AV.ah],by rw [Ff,Ah];exact s1,by rw [tI,tI];exact s2,rfl,rfl,by simp [ct]⟩,n2,a1.append a2⟩
    ·cases h
   ·cases h
  ·cases h
end
theorem CO (hs:Sat (items ρ T G++(items ρ T H++Φ)) w) {lk:Nat→Option AV} {fix:Nat→FxA}:(l:List (Bool×Nat×Pt))→(B:List (Option Nat))→(r:MR)→(N:List Nm)→mtV G H lk fix l B=some r→NB ρ B N→
  ∃ N' I,uf (fun i=>dR ρ (fix i)) (fun i=>(lk i).map (AV.val ρ)) l N r.D I (ct ρ r.X) N'∧NB ρ r.B N'∧dk (SI ρ T G H) r.S I
 | [],B,r,N,h,hN=>by
  unfold mtV at h
  cases h
  exact ⟨N,[],⟨rfl,rfl,rfl,rfl⟩,hN,.nil⟩
 | (b,t,p)::l,B,r,N,h,hN=>by
  unfold mtV at h
  split at h
  ·rename_i v hv
   split at h
   ·rename_i q1 hq1
    split at h
    ·rename_i q2 hq2
     cases h
     cases b
     ·simp only at hv hq1
      obtain ⟨N1,I1,s1,n1,a1⟩:=xE hs p v none none B q1 N hq1 hN (fun q hq=>by cases hq)
      obtain ⟨N2,I2,s2,n2,a2⟩:=CO hs l q1.B q2 N1 hq2 n1
      exact ⟨N2,I1++I2,⟨v.val ρ,q1.D,q2.D,I1,I2,ct ρ q1.X,ct ρ q2.X,N1,by simp only [hv,Option.map_some],s1,s2,rfl,rfl,by simp [ct]⟩,n2,a1.append a2⟩
     ·simp only at hv hq1
      cases hfx:fix t with
      | none=>rw [hfx] at hv;cases hv
      | some q=>
       rw [hfx] at hv hq1
       cases hv
       obtain ⟨N1,I1,s1,n1,a1⟩:=xE hs p q.1 (some q) none B q1 N hq1 hN (fun q' hq=>by cases hq;rfl)
       obtain ⟨N2,I2,s2,n2,a2⟩:=CO hs l q1.B q2 N1 hq2 n1
       exact ⟨N2,I1++I2,⟨q.1.val ρ,q1.D,q2.D,I1,I2,ct ρ q1.X,ct ρ q2.X,N1,by simp only [hfx];rfl,by simp only [hfx];exact s1,s2,rfl,rfl,by simp [ct]⟩,n2,a1.append a2⟩
    ·cases h
   ·cases h
  ·cases h
end
end Go.Proofs.YtgcgmclghbebjaaGreat
namespace Go.Proofs.YtgcgmclghbebjaaGreat
open Go.Lib
structure FR where
 v:AV
 R:List (Bool×Row)
 k:Nat
 D:List Dyn
 X:List (Nat×List AV)
structure FRs where
 vs:List AV
 R:List (Bool×Row)
 k:Nat
 D:List Dyn
 X:List (Nat×List AV)
def dS (t:Ty) (D:List Dyn):t.T:=match D with
 | d::_=>(d.as t).getD t.lD
 | []=>t.lD
theorem lM {t:Ty} {x:t.T} {D:List Dyn}:dS t (⟨t,x⟩::D)=x:=by
 simp [dS,Dyn.S6]
theorem U7 {k:IntKind} {x:Int} {D:List Dyn}:dS (.i k) (⟨.i k,x⟩::D)=x:=lM (t:= .i k)
theorem UE {x:Bool} {D:List Dyn}:dS .bo (⟨.bo,x⟩::D)=x:=lM (t:= .bo)
theorem NS {x:Str} {D:List Dyn}:dS .s (⟨.s,x⟩::D)=x:=lM (t:= .s)
theorem NI {x:Nat} {D:List Dyn}:dS .n (⟨.n,x⟩::D)=x:=lM (t:= .n)
theorem NW {t:Ty} {x:List t.T} {D:List Dyn}:dS (.l t) (⟨.l t,x⟩::D)=x:=lM (t:= .l t)
theorem TK {k v:Ty} {x:Option (List (k.T×v.T))} {D:List Dyn}:dS (.mp k v) (⟨.mp k v,x⟩::D)=x:=lM (t:= .mp k v)
structure LR where
 vs:List AV
 R:List (Bool×Row)
 k:Nat
 o:List (Option TypeId)
def eD (nm:Nat→Nat):(t:Ty)→t.T→Nat→List (Option TypeId)→LR
 | .i k,x,n,o=>⟨[.int k x],[],n,o⟩
 | .bo,x,n,o=>⟨[.bool x],[],n,o⟩
 | .s,x,n,o=>⟨[.str x],[],n,o⟩
 | .un,_,n,o=>⟨[],[],n,o⟩
 | .p a b,x,n,o=>match eD nm a x.1 n o with
  | ⟨u,p,n,o⟩=>match eD nm b x.2 n o with
   | ⟨v,q,n,o⟩=>⟨u++v,p++q,n,o⟩
 | .l t,x,n,o=>match o with
  | none::o=>⟨[.sl (nm n)],[(false,.sli none (nm n) t x false)],n+1,o⟩
  | some e::o=>⟨[.sl (nm n)],[(ow e,.own (nm n) t (oe e) x (nm n))],n+1,o⟩
  | []=>⟨[],[],n,[]⟩
 | .ex,x,n,o=>match o with
  | none::o=>⟨[.int .i64 x.op,.int .i64 x.n,.int .i64 x.at_,.sl (nm n)],[(false,.sli none (nm n) .ex x.l false)],n+1,o⟩
  | some e::o=>⟨[.int .i64 x.op,.int .i64 x.n,.int .i64 x.at_,.sl (nm n)],[(ow e,.own (nm n) .ex (oe e) x.l (nm n))],n+1,o⟩
  | []=>⟨[],[],n,[]⟩
 | _,_,n,o=>⟨[],[],n,o⟩
def nmS (nm:Nat→Nat) (fx:FxA) (n:Nat):Nat:=match fx with
 | some (.sl j,_)=>j
 | _=>nm n
def nmP (nm:Nat→Nat) (fx:FxA) (n:Nat):Nat:=match fx with
 | some (.ptr j _,_)=>j
 | _=>nm n
def nmM (nm:Nat→Nat) (fx:FxA) (n:Nat):Nat:=match fx with
 | some (.mp j,_)=>j
 | _=>nm n
def Sx (fx:FxA) (sm:Option AV):AV:=match fx with
 | some p=>p.1
 | none=>match sm with
  | some x=>x
  | none=> .bool false
def reS (id:Nat):List Pt→List AV→List AV
 | .sfp::_,.sfp _ f::us=> .sfp id f::us
 | _,us=>us
mutual
def fill (nm:Nat→Nat):Pt→FxA→Option AV→Nat→List Dyn→FR
 | .int k,_,_,n,D=>⟨.int k (dS (.i k) D),[],n,D.tail,[]⟩
 | .bool,_,_,n,D=>⟨.bool (dS .bo D),[],n,D.tail,[]⟩
 | .str,_,_,n,D=>⟨.str (dS .s D),[],n,D.tail,[]⟩
 | .sli t,_,_,n,D=>⟨.sl (nm n),[(false,.sli none (nm n) t (dS (.l t) D) false)],n+1,D.tail,[]⟩
 | .own t e m,fx,_,n,D=>⟨.sl (nmS nm fx n),[(m,.own (nmS nm fx n) t e (dS (.l t) D) (nm n))],n+1,D.tail,[]⟩
 | .slr k,_,_,n,D=>⟨.sl (nm k),[],n,D,[]⟩
 | .bx t off m vs,fx,_,n,D=>match cO nm vs [] (wy fx) (n+1) D with
  | ⟨cs,R,k,D,X⟩=>⟨.ptr (nmP nm fx n) off,(m,.box (nmP nm fx n) t (reS (nmP nm fx n) vs cs))::R,k,D,(ifS m [(n,reS (nmP nm fx n) vs cs)] [])++X⟩
 | .ptr k off,_,_,n,D=>⟨.ptr (nm k) off,[],n,D,[]⟩
 | .mp k v m,fx,_,n,D=>⟨.mp (nmM nm fx n),[(m,.mp (nmM nm fx n) k v (dS (.mp k v) D))],n+1,D.tail,[]⟩
 | .it,fx,_,n,D=>⟨.ptr (nmP nm fx n) 0,[(true,.it (nmP nm fx n) (dS .s D) (dS .n D.tail))],n+1,D.tail.tail,[]⟩
 | .agg l,fx,_,n,D=>match cO nm l (ew fx) [] n D with
  | ⟨cs,R,k,D,X⟩=>⟨.agg cs,R,k,D,X⟩
 | .tup l,_,_,n,D=>match cO nm l [] [] n D with
  | ⟨cs,R,k,D,X⟩=>⟨.tuple cs,R,k,D,X⟩
 | .fn f a b,fx,_,n,D=>match cO nm a [] [] n D with
  | ⟨cs,R,k,D,X⟩=>match cO nm b (ew fx) [] k D with
   | ⟨cs',R',k,D,X'⟩=>⟨.fn f cs cs',R++R',k,D,X++X'⟩
 | .ifc t p,fx,_,n,D=>match fill nm p (kF p (ew fx)) none n D with
  | ⟨v,R,k,D,X⟩=>⟨.ifc t v,R,k,D,X⟩
 | .cst v,_,_,n,D=>⟨v,[],n,D,[]⟩
 | .dat t o,_,_,n,D=>match eD nm t (dS t D) n o with
  | ⟨cs,R,k,_⟩=>⟨.agg cs,R,k,D.tail,[]⟩
 | .ifn,_,_,n,D=>⟨.ifc (dS .n D) (.agg []),[],n,D.tail,[]⟩
 | .sfp,_,_,n,D=>⟨.sfp (nm (n-1)) (dS .bo D),[],n,D.tail,[]⟩
 | .same,fx,sm,n,D=>⟨Sx fx sm,[],n,D,[]⟩
def cO (nm:Nat→Nat):List Pt→List AV→List AV→Nat→List Dyn→FRs
 | [],_,_,n,D=>⟨[],[],n,D,[]⟩
 | p::l,fxs,sms,n,D=>match fill nm p (kF p fxs) sms.head? n D with
  | ⟨v,R,k,D,X⟩=>match cO nm l fxs.tail sms.tail k D with
   | ⟨vs,R',k,D,X'⟩=>⟨v::vs,R++R',k,D,X++X'⟩
end
structure FV where
 E:al
 R:List (Bool×Row)
 k:Nat
 D:List Dyn
def dx (nm:Nat→Nat) (fix:Nat→FxA):List (Bool×Nat×Pt)→Nat→List Dyn→FV
 | [],n,D=>⟨[],[],n,D⟩
 | x::l,n,D=>match fill nm x.2.2 (ifS x.1 (fix x.2.1) none) none n D with
  | ⟨v,R,k,D,_⟩=>match dx nm fix l k D with
   | ⟨E,R',k,D⟩=>⟨ifS x.1 E ((x.2.1,none,v)::E),R++R',k,D⟩
/-! names come one behind the other -/
def Pre (N N':List Nm):Prop:= ∃ E,N'=N++E
theorem Pre.refl {N:List Nm}:Pre N N:=⟨[],by simp⟩
theorem Pre.trans {A B C:List Nm} (h:Pre A B) (k:Pre B C):Pre A C:=by
 obtain ⟨E,rfl⟩:=h
 obtain ⟨F,rfl⟩:=k
 exact ⟨E++F,by simp⟩
theorem Pre.one {N:List Nm} {a:Nm}:Pre N (N++[a]):=⟨[a],rfl⟩
theorem Pre.len {A B:List Nm} (h:Pre A B):A.length≤B.length:=by
 obtain ⟨E,rfl⟩:=h
 simp
theorem Pre.at_ {A B:List Nm} (h:Pre A B) {i:Nat} {a:Nm} (ha:A[i]? =some a):B[i]? =some a:=by
 obtain ⟨E,rfl⟩:=h
 rw [List.getElem?_append_left (List.getElem?_eq_some_iff.1 ha).1];exact ha
theorem sA:(t:Ty)→(x:t.T)→(cs:List Value)→(o:List (Option TypeId))→(N:List Nm)→(I:Its)→(N':List Nm)→(o':List (Option TypeId))→BG t x cs o N I N' o'→Pre N N'
 | .i _,_,_,_,_,_,_,_,h | .bo,_,_,_,_,_,_,_,h | .s,_,_,_,_,_,_,_,h | .un,_,_,_,_,_,_,_,h=>by obtain ⟨_,_,rfl,_⟩:=h;exact .refl
 | .n,_,_,_,_,_,_,_,h | .mp _ _,_,_,_,_,_,_,_,h=>h.elim
 | .p a b,x,cs,o,N,I,N',o',h=>by
  obtain ⟨c1,c2,N1,I1,I2,o1,h1,h2,_⟩:=h
  exact (sA a _ _ _ _ _ _ _ h1).trans (sA b _ _ _ _ _ _ _ h2)
 | .l t,x,cs,o,N,I,N',o',h=>by obtain ⟨a,_,rfl,_⟩:=h;exact .one
 | .ex,x,cs,o,N,I,N',o',h=>by obtain ⟨a,_,rfl,_⟩:=h;exact .one
mutual
theorem pj:(p:Pt)→(v:Value)→(fx:Fx)→(sm:Option Value)→(N:List Nm)→(D:List Dyn)→(I:Its)→(X:Bxs)→(N':List Nm)→Sem p v fx sm N D I X N'→Pre N N'
 | .int _,v,fx,sm,N,D,I,X,N',h | .bool,v,fx,sm,N,D,I,X,N',h | .str,v,fx,sm,N,D,I,X,N',h=>by obtain ⟨_,_,_,_,_,rfl⟩:=h;exact .refl
 | .sli t,v,fx,sm,N,D,I,X,N',h=>by obtain ⟨a,l,_,_,_,_,rfl⟩:=h;exact .one
 | .own t e m,v,fx,sm,N,D,I,X,N',h=>by obtain ⟨a,l,_,_,_,_,_,rfl,_⟩:=h;exact .one
 | .slr n,v,fx,sm,N,D,I,X,N',h | .ptr n _,v,fx,sm,N,D,I,X,N',h=>by obtain ⟨a,_,_,_,_,_,rfl⟩:=h;exact .refl
 | .bx t off m vs,v,fx,sm,N,D,I,X,N',h=>by
  obtain ⟨a,cs,I',X',_,_,h1,_⟩:=h
  exact Pre.one.trans (jv vs _ _ _ _ _ _ _ _ h1)
 | .mp k u m,v,fx,sm,N,D,I,X,N',h=>by obtain ⟨a,d,_,_,_,_,_,rfl⟩:=h;exact .one
 | .it,v,fx,sm,N,D,I,X,N',h=>by obtain ⟨a,s,p,_,_,_,_,_,rfl⟩:=h;exact .one
 | .agg l,v,fx,sm,N,D,I,X,N',h=>by obtain ⟨cs,_,_,h1⟩:=h;exact jv l _ _ _ _ _ _ _ _ h1
 | .tup l,v,fx,sm,N,D,I,X,N',h=>by obtain ⟨cs,_,h1⟩:=h;exact jv l _ _ _ _ _ _ _ _ h1
 | .fn f a b,v,fx,sm,N,D,I,X,N',h=>by
  obtain ⟨us,vs,D1,D2,I1,I2,X1,X2,N1,_,_,h1,h2,_⟩:=h
  exact (jv a _ _ _ _ _ _ _ _ h1).trans (jv b _ _ _ _ _ _ _ _ h2)
 | .ifc t p,v,fx,sm,N,D,I,X,N',h=>by obtain ⟨u,_,_,h1⟩:=h;exact pj p _ _ _ _ _ _ _ _ h1
 | .cst c,v,fx,sm,N,D,I,X,N',h=>by obtain ⟨_,_,_,_,rfl⟩:=h;exact .refl
 | .dat t o,v,fx,sm,N,D,I,X,N',h=>by obtain ⟨cs,x,o',_,_,h1,_⟩:=h;exact sA t _ _ _ _ _ _ _ h1
 | .ifn,v,fx,sm,N,D,I,X,N',h=>by obtain ⟨_,_,_,_,_,rfl⟩:=h;exact .refl
 | .sfp,v,fx,sm,N,D,I,X,N',h=>by obtain ⟨_,_,_,_,_,_,_,rfl⟩:=h;exact .refl
 | .same,v,fx,sm,N,D,I,X,N',h=>by obtain ⟨_,_,_,_,rfl⟩:=h;exact .refl
theorem jv:(l:List Pt)→(vs:List Value)→(fxs:List Value)→(sms:List Value)→(N:List Nm)→(D:List Dyn)→(I:Its)→(X:Bxs)→(N':List Nm)→nU l vs fxs sms N D I X N'→Pre N N'
 | [],vs,fxs,sms,N,D,I,X,N',h=>by obtain ⟨_,_,_,_,rfl⟩:=h;exact .refl
 | p::l,vs,fxs,sms,N,D,I,X,N',h=>by
  obtain ⟨v,vs',D1,D2,I1,I2,X1,X2,N1,_,h1,h2,_⟩:=h
  exact (pj p _ _ _ _ _ _ _ _ h1).trans (jv l _ _ _ _ _ _ _ _ h2)
end
theorem BO {fix:Nat→Fx} {val:Nat→Option Value}:(l:List (Bool×Nat×Pt))→(N:List Nm)→(D:List Dyn)→(I:Its)→(X:Bxs)→(N':List Nm)→uf fix val l N D I X N'→Pre N N'
 | [],N,D,I,X,N',h=>by obtain ⟨_,_,_,rfl⟩:=h;exact .refl
 | x::l,N,D,I,X,N',h=>by
  obtain ⟨v,D1,D2,I1,I2,X1,X2,N1,_,h1,h2,_⟩:=h
  exact (pj _ _ _ _ _ _ _ _ _ h1).trans (BO l _ _ _ _ _ h2)
/-! what is filled is what the form says -/
def RwI (ρ:Nms) (T:Tbl) (a:Bool×Row) (b:Bool×Item):Prop:=a.1=b.1∧aY b.2 (a.2.item ρ T)∧aY (a.2.item ρ T) b.2
section
variable {ρ : Nms} {T : Tbl} {nm : Nat → Nat} {n0 : Nat}
theorem TX {id:Nat} {vs:List Pt} {us:List AV} {cs sms:List Value} {N N':List Nm} {a:Nm} {D:List Dyn} {I:Its} {X:Bxs} (h:nU vs cs [] sms (N++[a]) D I X N') (hP:(ρ id).b=a.b) (hv:AV.ah ρ us=cs):AV.ah ρ (reS id vs us)=cs:=by
 unfold reS
 split
 ·rename_i l j f us'
  obtain ⟨v,vs',D1,D3,I1,I2,X1,X2,N1,rfl,h1,_⟩:=h
  obtain ⟨a',f',ha,rfl,_⟩:=h1
  have e:a'=a:=by simpa using ha.symm
  subst e
  simp only [AV.ah,AV.val,List.cons.injEq] at hv ⊢
  refine ⟨?_,hv.2⟩
  rw [hP]
  have h2:=hv.1
  cases f <;> cases f' <;> simp [qV] at h2 ⊢
 ·exact hv
def oF (ρ:Nms) (nm:Nat→Nat) (n0:Nat) (N:List Nm):Prop:= ∀ i a,N[i]? =some a→(ρ (nm i)).b=a.b∧(ρ (nm i)).v=a.v∧(ρ (nm i)).m=a.m∧(n0≤i→(ρ (nm i)).y=a.y)
theorem oF.pre {A B:List Nm} (h:oF ρ nm n0 B) (k:Pre A B):oF ρ nm n0 A:=fun i a ha=>h i a (k.at_ ha)
theorem oF.last {A:List Nm} {a:Nm} (h:oF ρ nm n0 (A++[a])):(ρ (nm A.length)).b=a.b∧(ρ (nm A.length)).v=a.v∧(ρ (nm A.length)).m=a.m∧(n0≤A.length→(ρ (nm A.length)).y=a.y):=h _ _ (by simp)
theorem HX {t:Ty} {a:Nm} {l:List t.T} {j:Nat} (h:(ρ j).v=a.v):aY (zL true t.rep a.v l false) ((Row.sli none j t l false).item ρ T)∧aY ((Row.sli none j t l false).item ρ T) (zL true t.rep a.v l false):=by
 simp only [Row.item,h]
 exact ⟨⟨fun _ h=>h,fun M w h _=>h rfl⟩,⟨fun _ h=>h,fun M w h _=>h Tbl.get_none⟩⟩
theorem Io {t:Ty} {e:TypeId} {a:Nm} {l:List t.T} {j ver:Nat} (h:(ρ j).v=a.v) (hy:(ρ ver).y=⟨.l t,l⟩):aY (mX t.rep e a.v l True) ((Row.own j t e l ver).item ρ T)∧aY ((Row.own j t e l ver).item ρ T) (mX t.rep e a.v l True):=by
 simp only [Row.item,h]
 exact ⟨⟨fun _ h=>h,fun M w h=>⟨h.1,hy⟩⟩,⟨fun _ h=>h,fun M w h=>⟨h.1,trivial⟩⟩⟩
theorem Eh:(t:Ty)→(x:t.T)→(cs:List Value)→(o:List (Option TypeId))→(N:List Nm)→(I:Its)→(N':List Nm)→(o':List (Option TypeId))→BG t x cs o N I N' o'→oF ρ nm n0 N'→n0≤N.length→
  AV.ah ρ (eD nm t x N.length o).vs=cs∧(eD nm t x N.length o).k=N'.length∧(eD nm t x N.length o).o=o'∧dk (RwI ρ T) (eD nm t x N.length o).R I
 | .i k,x,cs,o,N,I,N',o',h,hn,hle=>by
  obtain ⟨rfl,rfl,rfl,rfl⟩:=h
  exact ⟨by simp only [eD,AV.ah,AV.val],rfl,rfl,.nil⟩
 | .bo,x,cs,o,N,I,N',o',h,hn,hle=>by
  obtain ⟨rfl,rfl,rfl,rfl⟩:=h
  exact ⟨by simp only [eD,AV.ah,AV.val],rfl,rfl,.nil⟩
 | .s,x,cs,o,N,I,N',o',h,hn,hle=>by
  obtain ⟨rfl,rfl,rfl,rfl⟩:=h
  exact ⟨by simp only [eD,AV.ah,AV.val],rfl,rfl,.nil⟩
 | .un,x,cs,o,N,I,N',o',h,hn,hle=>by
  obtain ⟨rfl,rfl,rfl,rfl⟩:=h
  exact ⟨by simp only [eD,AV.ah],rfl,rfl,.nil⟩
 | .n,x,cs,o,N,I,N',o',h,hn,hle=>h.elim
 | .mp _ _,x,cs,o,N,I,N',o',h,hn,hle=>h.elim
 | .p a b,x,cs,o,N,I,N',o',h,hn,hle=>by
  obtain ⟨c1,c2,N1,I1,I2,o1,h1,h2,rfl,rfl⟩:=h
  have p2:=sA b _ _ _ _ _ _ _ h2
  obtain ⟨a1,a2,a3,a4⟩:=Eh a x.1 c1 o N I1 N1 o1 h1 (hn.pre p2) hle
  obtain ⟨b1,b2,b3,b4⟩:=Eh b x.2 c2 o1 N1 I2 N' o' h2 hn (Nat.le_trans hle (sA a _ _ _ _ _ _ _ h1).len)
  unfold eD
  generalize eD nm a x.1 N.length o=L1 at a1 a2 a3 a4
  obtain ⟨u,p,n,oo⟩:=L1
  simp only at a1 a2 a3 a4
  subst a2;subst a3
  dsimp only
  generalize eD nm b x.2 N1.length oo=L2 at b1 b2 b3 b4
  obtain ⟨u2,p2,n2,oo2⟩:=L2
  simp only at b1 b2 b3 b4
  dsimp only
  exact ⟨by rw [bK,a1,b1],b2,b3,a4.append b4⟩
 | .l t,x,cs,o,N,I,N',o',h,hn,hle=>by
  obtain ⟨a,rfl,rfl,h⟩:=h
  have hl:=hn.last
  rcases h with ⟨rfl,rfl⟩ | ⟨e,rfl,rfl,hy⟩
  ·exact ⟨by simp only [eD,AV.ah,AV.val,hl.2.1],by simp [eD],rfl,.cons ⟨rfl,HX hl.2.1⟩ .nil⟩
  ·exact ⟨by simp only [eD,AV.ah,AV.val,hl.2.1],by simp [eD],rfl,.cons ⟨rfl,Io hl.2.1 (by rw [hl.2.2.2 hle];exact hy)⟩ .nil⟩
 | .ex,x,cs,o,N,I,N',o',h,hn,hle=>by
  obtain ⟨a,rfl,rfl,h⟩:=h
  have hl:=hn.last
  rcases h with ⟨rfl,rfl⟩ | ⟨e,rfl,rfl,hy⟩
  ·exact ⟨by simp only [eD,AV.ah,AV.val,hl.2.1],by simp [eD],rfl,.cons ⟨rfl,HX (t:= .ex) hl.2.1⟩ .nil⟩
  ·exact ⟨by simp only [eD,AV.ah,AV.val,hl.2.1],by simp [eD],rfl,.cons ⟨rfl,Io (t:= .ex) hl.2.1 (by rw [hl.2.2.2 hle];exact hy)⟩ .nil⟩
theorem U1 {p q:SLV} (h:sl p=sl q):p=q:=by
 obtain ⟨a,b,c⟩:=p
 obtain ⟨a',b',c'⟩:=q
 simp only [sl,Value.slice.injEq] at h
 rw [h.1,h.2.1,h.2.2]
theorem U2 {fx:FxA} {N:List Nm} {a:Nm} (hn:oF ρ nm n0 (N++[a])) (hf:oN (dR ρ fx) (sl a.v)):(ρ (nmS nm fx N.length)).v=a.v:=by
 unfold nmS
 split
 ·have:=hf _ rfl
  simp only [AV.val] at this
  exact (U1 this).symm
 ·rw [hn.last.2.1]
theorem ON {fx:FxA} {N:List Nm} {a:Nm} {off:Nat} (hn:(ρ (nm N.length)).b=a.b) (hf:oN (dR ρ fx) (.pointer (some ⟨a.b,off,none⟩))):(ρ (nmP nm fx N.length)).b=a.b:=by
 unfold nmP
 split
 ·have:=hf _ rfl
  simp only [AV.val,Value.pointer.injEq,Option.some.injEq,Addr.mk.injEq] at this
  exact this.1.symm
 ·rw [hn]
theorem Vm {fx:FxA} {N:List Nm} {a:Nm} (hn:oF ρ nm n0 (N++[a])) (hf:oN (dR ρ fx) (.map a.m)):(ρ (nmM nm fx N.length)).m=a.m:=by
 unfold nmM
 split
 ·have:=hf _ rfl
  simp only [AV.val,Value.map.injEq] at this
  exact this.symm
 ·rw [hn.last.2.2.1]
theorem um (p:Pt):lL p none=true:=by cases p <;> rfl
theorem Ie (p:Pt) (fxs:List AV):lL p (kF p fxs)=true:=by
 unfold kF
 cases fxs with
 | nil=>exact um p
 | cons u us=>cases p <;> rfl
theorem QJ {l:List Pt} {fx:FxA} {cs:List Value} (hg:lL (.agg l) fx=true) (hf:oN (dR ρ fx) (.agg cs.toArray)):AV.ah ρ (ew fx)=ifS (dR ρ fx).isSome cs []:=by
 cases fx with
 | none=>rfl
 | some q=>
  obtain ⟨v,d⟩:=q
  cases v <;> first | (cases hg;done) | skip
  have:=hf _ rfl
  simp only [AV.val,Value.agg.injEq] at this
  show AV.ah ρ (ew (some (_,_)))=cs
  simpa [ew] using this.symm
theorem SQ {f:FuncId} {a b:List Pt} {fx:FxA} {us vs:List Value} (hg:lL (.fn f a b) fx=true) (hf:oN (dR ρ fx) (.func (.func f) us.toArray vs.toArray)):AV.ah ρ (ew fx)=ifS (dR ρ fx).isSome vs []:=by
 cases fx with
 | none=>rfl
 | some q=>
  obtain ⟨v,d⟩:=q
  cases v <;> first | (cases hg;done) | skip
  have:=hf _ rfl
  simp only [AV.val,Value.func.injEq] at this
  show AV.ah ρ (ew (some (_,_)))=vs
  simpa [ew] using this.2.2.symm
theorem QO {t:TypeId} {p:Pt} {fx:FxA} {u:Value} (hg:lL (.ifc t p) fx=true) (hf:oN (dR ρ fx) (.iface t u)):AV.ah ρ (ew fx)=ifS (dR ρ fx).isSome [u] []:=by
 cases fx with
 | none=>rfl
 | some q=>
  obtain ⟨v,d⟩:=q
  cases v <;> first | (cases hg;done) | skip
  have:=hf _ rfl
  simp only [AV.val,Value.iface.injEq] at this
  show AV.ah ρ (ew (some (_,_)))=[u]
  simp [ew,AV.ah,this.2]
mutual
theorem vj:(p:Pt)→(v:Value)→(fx:FxA)→(sm:Option AV)→(N:List Nm)→(D:List Dyn)→(I:Its)→(X:Bxs)→(N':List Nm)→Sem p v (dR ρ fx) (sm.map (AV.val ρ)) N D I X N'→lL p fx=true→oF ρ nm n0 N'→n0≤N.length→(D2:List Dyn)→
  (fill nm p fx sm N.length (D++D2)).v.val ρ=v∧(fill nm p fx sm N.length (D++D2)).k=N'.length∧(fill nm p fx sm N.length (D++D2)).D=D2∧X=ct ρ (fill nm p fx sm N.length (D++D2)).X∧dk (RwI ρ T) (fill nm p fx sm N.length (D++D2)).R I
 | .int k,v,fx,sm,N,D,I,X,N',h,hg,hn,hle,D2=>by
  obtain ⟨x,rfl,rfl,rfl,rfl,rfl⟩:=h
  exact ⟨by simp only [fill,List.singleton_append,U7,AV.val],rfl,rfl,rfl,.nil⟩
 | .bool,v,fx,sm,N,D,I,X,N',h,hg,hn,hle,D2=>by
  obtain ⟨x,rfl,rfl,rfl,rfl,rfl⟩:=h
  exact ⟨by simp only [fill,List.singleton_append,UE,AV.val],rfl,rfl,rfl,.nil⟩
 | .str,v,fx,sm,N,D,I,X,N',h,hg,hn,hle,D2=>by
  obtain ⟨x,rfl,rfl,rfl,rfl,rfl⟩:=h
  exact ⟨by simp only [fill,List.singleton_append,NS,AV.val],rfl,rfl,rfl,.nil⟩
 | .sli t,v,fx,sm,N,D,I,X,N',h,hg,hn,hle,D2=>by
  obtain ⟨a,l,rfl,rfl,rfl,rfl,rfl⟩:=h
  have hl:=hn.last
  refine ⟨by simp only [fill,AV.val,hl.2.1],by simp [fill],rfl,rfl,.cons ⟨rfl,?_⟩ .nil⟩
  show aY _ ((Row.sli none (nm N.length) t (dS (.l t) (⟨.l t,l⟩::D2)) false).item ρ T)∧aY ((Row.sli none (nm N.length) t (dS (.l t) (⟨.l t,l⟩::D2)) false).item ρ T) _
  rw [NW]
  exact HX hl.2.1
 | .own t e m,v,fx,sm,N,D,I,X,N',h,hg,hn,hle,D2=>by
  obtain ⟨a,l,rfl,hf,rfl,rfl,rfl,rfl,hy⟩:=h
  have hS:=U2 hn hf
  refine ⟨by simp only [fill,AV.val,hS],by simp [fill],rfl,rfl,.cons ⟨rfl,?_⟩ .nil⟩
  show aY _ ((Row.own (nmS nm fx N.length) t e (dS (.l t) (⟨.l t,l⟩::D2)) (nm N.length)).item ρ T)∧aY ((Row.own (nmS nm fx N.length) t e (dS (.l t) (⟨.l t,l⟩::D2)) (nm N.length)).item ρ T) _
  rw [NW]
  exact Io hS (by rw [hn.last.2.2.2 hle];exact hy)
 | .slr n,v,fx,sm,N,D,I,X,N',h,hg,hn,hle,D2=>by
  obtain ⟨a,ha,rfl,rfl,rfl,rfl,rfl⟩:=h
  exact ⟨by simp only [fill,AV.val,(hn _ _ ha).2.1],rfl,rfl,rfl,.nil⟩
 | .bx t off m vs,v,fx,sm,N,D,I,X,N',h,hg,hn,hle,D2=>by
  obtain ⟨a,cs,I',X',rfl,hf,h1,rfl,rfl⟩:=h
  rw [KO] at h1
  have p1:=jv vs _ _ _ _ _ _ _ _ h1
  have hl:=hn.pre p1
  have hP:=ON hl.last.1 hf
  have hlen:(N++[a]).length=N.length+1:=by simp
  obtain ⟨b1,b2,b3,b4,b5⟩:=nh vs cs [] (wy fx) (N++[a]) D I' X' N' (by simpa only [AV.ah] using h1) hn (by simp;omega) D2
  rw [hlen] at b1 b2 b3 b4 b5
  unfold fill
  generalize cO nm vs [] (wy fx) (N.length+1) (D++D2)=L at b1 b2 b3 b4 b5
  obtain ⟨us,R,k,DD,XX⟩:=L
  simp only at b1 b2 b3 b4 b5
  dsimp only
  have b6:AV.ah ρ (reS (nmP nm fx N.length) vs us)=cs:=TX h1 hP b1
  refine ⟨by simp only [AV.val,hP],b2,b3,?_,.cons ⟨rfl,?_⟩ b5⟩
  ·rw [b4];cases m <;> simp [ct,b6]
  ·simp only [Row.item,hP,b6];exact ⟨aY.refl,aY.refl⟩
 | .ptr n off,v,fx,sm,N,D,I,X,N',h,hg,hn,hle,D2=>by
  obtain ⟨a,ha,rfl,rfl,rfl,rfl,rfl⟩:=h
  exact ⟨by simp only [fill,AV.val,(hn _ _ ha).1],rfl,rfl,rfl,.nil⟩
 | .mp k u m,v,fx,sm,N,D,I,X,N',h,hg,hn,hle,D2=>by
  obtain ⟨a,d,rfl,hf,rfl,rfl,rfl,rfl⟩:=h
  have hM:=Vm hn hf
  refine ⟨by simp only [fill,AV.val,hM],by simp [fill],rfl,rfl,.cons ⟨rfl,?_⟩ .nil⟩
  show aY _ ((Row.mp (nmM nm fx N.length) k u (dS (.mp k u) (⟨.mp k u,d⟩::D2))).item ρ T)∧aY ((Row.mp (nmM nm fx N.length) k u (dS (.mp k u) (⟨.mp k u,d⟩::D2))).item ρ T) _
  rw [TK]
  simp only [Row.item,hM];exact ⟨aY.refl,aY.refl⟩
 | .it,v,fx,sm,N,D,I,X,N',h,hg,hn,hle,D2=>by
  obtain ⟨a,s,p,rfl,hf,rfl,rfl,rfl,rfl⟩:=h
  have hP:=ON hn.last.1 hf
  refine ⟨by simp only [fill,AV.val,hP],by simp [fill],rfl,rfl,.cons ⟨rfl,?_⟩ .nil⟩
  show aY _ ((Row.it (nmP nm fx N.length) (dS .s (⟨.s,s⟩::⟨.n,p⟩::D2)) (dS .n (⟨.n,p⟩::D2))).item ρ T)∧aY ((Row.it (nmP nm fx N.length) (dS .s (⟨.s,s⟩::⟨.n,p⟩::D2)) (dS .n (⟨.n,p⟩::D2))).item ρ T) _
  rw [NS,NI]
  simp only [Row.item,hP];exact ⟨aY.refl,aY.refl⟩
 | .agg l,v,fx,sm,N,D,I,X,N',h,hg,hn,hle,D2=>by
  obtain ⟨cs,rfl,hf,h1⟩:=h
  obtain ⟨b1,b2,b3,b4,b5⟩:=nh l cs (ew fx) [] N D I X N' (by rw [QJ hg hf];simpa only [AV.ah] using h1) hn hle D2
  unfold fill
  generalize cO nm l (ew fx) [] N.length (D++D2)=L at b1 b2 b3 b4 b5
  obtain ⟨us,R,k,DD,XX⟩:=L
  simp only at b1 b2 b3 b4 b5
  dsimp only
  exact ⟨by simp only [AV.val,b1],b2,b3,b4,b5⟩
 | .tup l,v,fx,sm,N,D,I,X,N',h,hg,hn,hle,D2=>by
  obtain ⟨cs,rfl,h1⟩:=h
  obtain ⟨b1,b2,b3,b4,b5⟩:=nh l cs [] [] N D I X N' (by simpa only [AV.ah] using h1) hn hle D2
  unfold fill
  generalize cO nm l [] [] N.length (D++D2)=L at b1 b2 b3 b4 b5
  obtain ⟨us,R,k,DD,XX⟩:=L
  simp only at b1 b2 b3 b4 b5
  dsimp only
  exact ⟨by simp only [AV.val,b1],b2,b3,b4,b5⟩
 | .fn f a b,v,fx,sm,N,D,I,X,N',h,hg,hn,hle,D2=>by
  obtain ⟨us,vs,D1,D3,I1,I2,X1,X2,N1,rfl,hf,h1,h2,rfl,rfl,rfl⟩:=h
  have p2:=jv b _ _ _ _ _ _ _ _ h2
  obtain ⟨b1,b2,b3,b4,b5⟩:=nh a us [] [] N D1 I1 X1 N1 (by simpa only [AV.ah] using h1) (hn.pre p2) hle (D3++D2)
  obtain ⟨c1,c2,c3,c4,c5⟩:=nh b vs (ew fx) [] N1 D3 I2 X2 N' (by rw [SQ hg hf];simpa only [AV.ah] using h2) hn (Nat.le_trans hle (jv a _ _ _ _ _ _ _ _ h1).len) D2
  unfold fill
  rw [List.append_assoc]
  generalize cO nm a [] [] N.length (D1++(D3++D2))=L at b1 b2 b3 b4 b5
  obtain ⟨us',R,k,DD,XX⟩:=L
  simp only at b1 b2 b3 b4 b5
  subst b2;subst b3
  dsimp only
  generalize cO nm b (ew fx) [] N1.length (D3++D2)=L at c1 c2 c3 c4 c5
  obtain ⟨us2,R2,k2,DD2,XX2⟩:=L
  simp only at c1 c2 c3 c4 c5
  dsimp only
  exact ⟨by simp only [AV.val,b1,c1],c2,c3,by rw [b4,c4];simp [ct],b5.append c5⟩
 | .ifc t p,v,fx,sm,N,D,I,X,N',h,hg,hn,hle,D2=>by
  obtain ⟨u,rfl,hf,h1⟩:=h
  rw [← QO hg hf,Ah] at h1
  obtain ⟨b1,b2,b3,b4,b5⟩:=vj p u (kF p (ew fx)) none N D I X N' h1 (Ie p _) hn hle D2
  unfold fill
  generalize fill nm p (kF p (ew fx)) none N.length (D++D2)=L at b1 b2 b3 b4 b5
  obtain ⟨us,R,k,DD,XX⟩:=L
  simp only at b1 b2 b3 b4 b5
  dsimp only
  exact ⟨by simp only [AV.val,b1],b2,b3,b4,b5⟩
 | .cst c,v,fx,sm,N,D,I,X,N',h,hg,hn,hle,D2=>by
  obtain ⟨⟨h1,h0⟩,rfl,rfl,rfl,rfl⟩:=h
  exact ⟨by rw [h1];exact h0 ρ,rfl,rfl,rfl,.nil⟩
 | .dat t o,v,fx,sm,N,D,I,X,N',h,hg,hn,hle,D2=>by
  obtain ⟨cs,x,o',rfl,rfl,h1,rfl⟩:=h
  obtain ⟨b1,b2,b3,b5⟩:=Eh (T:=T) t x cs o N I N' o' h1 hn hle
  unfold fill
  rw [List.singleton_append,lM]
  generalize eD nm t x N.length o=L at b1 b2 b3 b5
  obtain ⟨us,R,k,oo⟩:=L
  simp only at b1 b2 b3 b5
  dsimp only
  exact ⟨by simp only [AV.val,b1],b2,rfl,rfl,b5⟩
 | .ifn,v,fx,sm,N,D,I,X,N',h,hg,hn,hle,D2=>by
  obtain ⟨x,rfl,rfl,rfl,rfl,rfl⟩:=h
  exact ⟨by simp only [fill,List.singleton_append,NI,AV.val,AV.ah],rfl,rfl,rfl,.nil⟩
 | .sfp,v,fx,sm,N,D,I,X,N',h,hg,hn,hle,D2=>by
  obtain ⟨a,f,ha,rfl,rfl,rfl,rfl,rfl⟩:=h
  refine ⟨?_,rfl,rfl,rfl,.nil⟩
  simp only [fill,AV.val,(hn _ _ ha).1,List.singleton_append]
  rfl
 | .same,v,fx,sm,N,D,I,X,N',h,hg,hn,hle,D2=>by
  obtain ⟨h1,rfl,rfl,rfl,rfl⟩:=h
  refine ⟨?_,rfl,rfl,rfl,.nil⟩
  simp only [fill,Sx]
  rcases h1 with ⟨p,hp,rfl⟩ | ⟨hs0,h1⟩
  ·cases fx with
   | none=>cases hp
   | some q=>cases hp;rfl
  ·cases fx with
   | some q=>cases hs0
   | none=>
    cases sm with
    | none=>cases h1
    | some y=>cases h1;rfl
theorem nh:(l:List Pt)→(vs:List Value)→(fxs:List AV)→(sms:List AV)→(N:List Nm)→(D:List Dyn)→(I:Its)→(X:Bxs)→(N':List Nm)→nU l vs (AV.ah ρ fxs) (AV.ah ρ sms) N D I X N'→oF ρ nm n0 N'→n0≤N.length→(D2:List Dyn)→
  AV.ah ρ (cO nm l fxs sms N.length (D++D2)).vs=vs∧(cO nm l fxs sms N.length (D++D2)).k=N'.length∧(cO nm l fxs sms N.length (D++D2)).D=D2∧X=ct ρ (cO nm l fxs sms N.length (D++D2)).X∧dk (RwI ρ T) (cO nm l fxs sms N.length (D++D2)).R I
 | [],vs,fxs,sms,N,D,I,X,N',h,hn,hle,D2=>by
  obtain ⟨rfl,rfl,rfl,rfl,rfl⟩:=h
  exact ⟨by simp only [cO,AV.ah],rfl,rfl,rfl,.nil⟩
 | p::l,vs,fxs,sms,N,D,I,X,N',h,hn,hle,D2=>by
  obtain ⟨v,vs',D1,D3,I1,I2,X1,X2,N1,rfl,h1,h2,rfl,rfl,rfl⟩:=h
  rw [Ff,Ah] at h1
  rw [tI,tI] at h2
  have p2:=jv l _ _ _ _ _ _ _ _ h2
  obtain ⟨b1,b2,b3,b4,b5⟩:=vj p v (kF p fxs) sms.head? N D1 I1 X1 N1 h1 (Ie p fxs) (hn.pre p2) hle (D3++D2)
  obtain ⟨c1,c2,c3,c4,c5⟩:=nh l vs' fxs.tail sms.tail N1 D3 I2 X2 N' h2 hn (Nat.le_trans hle (pj p _ _ _ _ _ _ _ _ h1).len) D2
  unfold cO
  rw [List.append_assoc]
  generalize fill nm p (kF p fxs) sms.head? N.length (D1++(D3++D2))=L at b1 b2 b3 b4 b5
  obtain ⟨us',R,k,DD,XX⟩:=L
  simp only at b1 b2 b3 b4 b5
  subst b2;subst b3
  dsimp only
  generalize cO nm l fxs.tail sms.tail N1.length (D3++D2)=L at c1 c2 c3 c4 c5
  obtain ⟨us2,R2,k2,DD2,XX2⟩:=L
  simp only at c1 c2 c3 c4 c5
  dsimp only
  exact ⟨by simp only [AV.ah,b1,c1],c2,c3,by rw [b4,c4];simp [ct],b5.append c5⟩
end
def SB:List (Bool×Nat×Pt)→List Nat
 | []=>[]
 | x::l=>ifS x.1 (SB l) (x.2.1::SB l)
theorem B1 {fix:Nat→FxA} {lk:Nat→Option Value}:(l:List (Bool×Nat×Pt))→(N:List Nm)→(D:List Dyn)→(I:Its)→(X:Bxs)→(N':List Nm)→uf (fun i=>dR ρ (fix i)) lk l N D I X N'→lQ fix l=true→oF ρ nm n0 N'→n0≤N.length→(D2:List Dyn)→
  (∀ t p,look (al.env ρ [] (dx nm fix l N.length (D++D2)).E) t=some p→p.1=true∧lk t=some p.2)∧(dx nm fix l N.length (D++D2)).k=N'.length∧(dx nm fix l N.length (D++D2)).D=D2∧dk (RwI ρ T) (dx nm fix l N.length (D++D2)).R I
 | [],N,D,I,X,N',h,hg,hn,hle,D2=>by
  obtain ⟨rfl,rfl,rfl,rfl⟩:=h
  exact ⟨(fun t p h=>by cases h),rfl,rfl,.nil⟩
 | (b,t,p)::l,N,D,I,X,N',h,hg,hn,hle,D2=>by
  simp only [lQ,Bool.and_eq_true] at hg
  obtain ⟨v,D1,D3,I1,I2,X1,X2,N1,hv,h1,h2,rfl,rfl,rfl⟩:=h
  have p2:=BO l _ _ _ _ _ h2
  have h1':Sem p v (dR ρ (ifS b (fix t) none)) ((none:Option AV).map (AV.val ρ)) N D1 I1 X1 N1:=by
   cases b <;> exact h1
  obtain ⟨b1,b2,b3,b4,b5⟩:=vj (T:=T) p v _ none N D1 I1 X1 N1 h1' hg.1 (hn.pre p2) hle (D3++D2)
  obtain ⟨c1,c2,c3,c5⟩:=B1 l N1 D3 I2 X2 N' h2 hg.2 hn (Nat.le_trans hle (pj p _ _ _ _ _ _ _ _ h1).len) D2
  unfold dx
  rw [List.append_assoc]
  dsimp only
  generalize fill nm p (ifS b (fix t) none) none N.length (D1++(D3++D2))=L at b1 b2 b3 b4 b5
  obtain ⟨us',R,k,DD,XX⟩:=L
  simp only at b1 b2 b3 b4 b5
  subst b2;subst b3
  dsimp only
  generalize dx nm fix l N1.length (D3++D2)=L at c1 c2 c3 c5
  obtain ⟨E2,R2,k2,DD2⟩:=L
  simp only at c1 c2 c3 c5
  dsimp only
  refine ⟨fun t' q hq=> ?_,c2,c3,b5.append c5⟩
  cases b
  ·simp only [al.env,look] at hq
   cases hb:Nat.beq t t'
   ·rw [hb] at hq;exact c1 t' q hq
   ·rw [hb] at hq
    simp only [cond_true,Option.some.injEq] at hq
    subst hq
    have:=Nat.eq_of_beq_eq_true hb
    subst this
    refine ⟨Tbl.get_none,?_⟩
    have hv':lk t=some v:=hv
    rw [hv',b1]
  ·exact c1 t' q hq
end
end Go.Proofs.YtgcgmclghbebjaaGreat
namespace Go.Proofs.YtgcgmclghbebjaaGreat
open Go.Lib
section
variable {Γ Γ' : Ctx} {w : World}
theorem Sat.qP (h:Sat Γ w) (Rl:Nat→Nat→Prop) (h1: ∀ (j:Nat) (jt:Item),Γ'[j]? =some jt→(jt.own=[]∧ ∀ M w,jt.P M w)∨ ∃ (i:Nat) (it:Item),Rl j i∧Γ[i]? =some it∧aY it jt)
  (h2: ∀ (j k i:Nat),j≠k→Rl j i→Rl k i→False):Sat Γ' w:=by
 have mv:Mv Γ.M w (Ctx.M Γ') w:=Mv.weaken w fun b hb=>by
  obtain ⟨it,hi,hb⟩:=hb
  obtain ⟨k,hk⟩:=List.mem_iff_getElem?.1 hi
  rcases h1 k it hk with ⟨h3,_⟩ | ⟨i,jt,_,h4,h5⟩
  ·rw [h3] at hb;cases hb
  ·exact Ctx.gA h4 (h5.1 b hb)
 refine ⟨fun jt hj=> ?_,fun j k jt kt hj hk hjk b hb hb'=> ?_⟩
 ·obtain ⟨k,hk⟩:=List.mem_iff_getElem?.1 hj
  rcases h1 k jt hk with ⟨_,h3⟩ | ⟨i,it,_,h4,h5⟩
  ·exact h3 _ _
  ·exact h5.2 _ _ (it.bm (h.at_ h4) mv (fun _ _=>rfl) (dA.refl w))
 ·rcases h1 j jt hj with ⟨h3,_⟩ | ⟨i,it,r1,h4,h5⟩
  ·rw [h3] at hb;cases hb
  ·rcases h1 k kt hk with ⟨h3,_⟩ | ⟨i',it',r2,h4',h5'⟩
   ·rw [h3] at hb';cases hb'
   ·by_cases e:i=i'
    ·subst e;exact h2 j k i hjk r1 r2
    ·exact h.sep i i' it it' h4 h4' e b (h5.1 b hb) (h5'.1 b hb')
def fB:Item:=GJ True
theorem Sat.pull (h:Sat Γ w) {i:Nat} {it jt:Item} (hi:Γ[i]? =some it) (hl:aY it jt):Sat (jt::Γ.set i fB) w:=by
 refine h.qP (fun j k=>(j=0∧k=i)∨(j=k+1∧k≠i)) (fun j kt hj=> ?_) (fun j k q hjk h1 h2=>by omega)
 cases j with
 | zero=>simp at hj;subst hj;exact .inr ⟨i,it,.inl ⟨rfl,rfl⟩,hi,hl⟩
 | succ j=>
  simp only [List.getElem?_cons_succ] at hj
  by_cases e:j=i
  ·subst e
   rw [List.getElem?_set_self (List.getElem?_eq_some_iff.1 hi).1] at hj
   cases hj
   exact .inl ⟨rfl,fun _ _=>trivial⟩
  ·rw [List.getElem?_set_ne (fun h=>e h.symm)] at hj
   exact .inr ⟨j,kt,.inr ⟨rfl,e⟩,hj,aY.refl⟩
theorem Sat.tD {A B:Ctx} {x:Item} (h:Sat (A++x::B) w):Sat (A++B) w:=by
 refine h.qP (fun j k=>(j<A.length∧k=j)∨(A.length≤j∧k=j+1)) (fun j jt hj=> ?_) (fun j k q hjk h1 h2=>by omega)
 by_cases e:j<A.length
 ·rw [List.getElem?_append_left e] at hj
  exact .inr ⟨j,jt,.inl ⟨e,rfl⟩,by rw [List.getElem?_append_left e];exact hj,aY.refl⟩
 ·have e':A.length≤j:=by omega
  rw [List.getElem?_append_right e'] at hj
  refine .inr ⟨j+1,jt,.inr ⟨e',rfl⟩,?_,aY.refl⟩
  rw [List.getElem?_append_right (by omega)]
  have:j+1-A.length=(j-A.length)+1:=by omega
  rw [this]
  simpa using hj
theorem Sat.T4 {A B:Ctx} {x jt:Item} {k:Nat} (h:Sat (A++x::B.set k fB) w) (hk:B[k]? =some jt) (hl:aY x jt):Sat (A++B) w:=by
 have hlt:=(List.getElem?_eq_some_iff.1 hk).1
 refine h.qP (fun j q=>(j<A.length∧q=j)∨(j=A.length+k∧q=A.length)∨(A.length≤j∧j≠A.length+k∧q=j+1)) (fun j kt hj=> ?_) (fun j k q hjk h1 h2=>by omega)
 by_cases e:j<A.length
 ·rw [List.getElem?_append_left e] at hj
  exact .inr ⟨j,kt,.inl ⟨e,rfl⟩,by rw [List.getElem?_append_left e];exact hj,aY.refl⟩
 ·have e':A.length≤j:=by omega
  rw [List.getElem?_append_right e'] at hj
  by_cases e2:j=A.length+k
  ·subst e2
   rw [show A.length+k-A.length=k by omega,hk] at hj
   cases hj
   exact .inr ⟨A.length,x,.inr (.inl ⟨rfl,rfl⟩),by simp,hl⟩
  ·refine .inr ⟨j+1,kt,.inr (.inr ⟨e',e2,rfl⟩),?_,aY.refl⟩
   rw [List.getElem?_append_right (by omega)]
   have:j+1-A.length=(j-A.length)+1:=by omega
   rw [this,List.getElem?_cons_succ,List.getElem?_set_ne (by omega)]
   exact hj
theorem Sat.le2 {A B:Ctx} {x y:Item} (h:Sat (A++x::B) w) (hl:aY x y):Sat (A++y::B) w:=by
 refine h.qP (fun j k=>j=k) (fun j jt hj=> ?_) (fun j k q hjk h1 h2=>by omega)
 by_cases e:j<A.length
 ·rw [List.getElem?_append_left e] at hj
  exact .inr ⟨j,jt,rfl,by rw [List.getElem?_append_left e];exact hj,aY.refl⟩
 ·have e':A.length≤j:=by omega
  rw [List.getElem?_append_right e'] at hj
  by_cases e2:j=A.length
  ·subst e2
   simp at hj
   subst hj
   exact .inr ⟨A.length,x,rfl,by simp,hl⟩
  ·refine .inr ⟨j,jt,rfl,?_,aY.refl⟩
   rw [List.getElem?_append_right e']
   have:j-A.length=(j-A.length-1)+1:=by omega
   rw [this,List.getElem?_cons_succ] at hj ⊢
   exact hj
theorem Sat.leL {A B C:Ctx} (h:Sat (A++(B++C)) w) {B':Ctx} (hl:dk aY B B'):Sat (A++(B'++C)) w:=by
 induction hl generalizing A with
 | nil=>exact h
 | @cons a b l m h1 _ ih=>
  have h2:Sat (A++b::(l++C)) w:=h.le2 h1
  have h3:Sat ((A++[b])++(l++C)) w:=by simpa using h2
  have:=ih h3
  simpa using this
/-! things by places -/
def mkP:List (Option Nat)→Ctx→Ctx
 | [],Γ=>Γ
 | none::l,Γ=>mkP l Γ
 | some i::l,Γ=>(mkP l Γ).set i fB
def Ndp:List (Option Nat)→Prop
 | []=>True
 | none::l=>Ndp l
 | some i::l=>some i∉l∧Ndp l
theorem EM: ∀ {l:List (Option Nat)} {Γ:Ctx},(mkP l Γ).length=Γ.length
 | [],_=>rfl
 | none::l,Γ=>EM (l:=l)
 | some j::l,Γ=>by
  show ((mkP l Γ).set j fB).length=_
  rw [List.length_set,EM]
theorem rC: ∀ {l:List (Option Nat)} {Γ:Ctx} {i:Nat},some i∉l→(mkP l Γ)[i]? =Γ[i]?
 | [],_,_,_=>rfl
 | none::l,Γ,i,h=>rC (l:=l) (fun h'=>h (List.mem_cons_of_mem _ h'))
 | some j::l,Γ,i,h=>by
  have e:j≠i:=fun e=>h (by rw [e];exact List.mem_cons_self ..)
  show ((mkP l Γ).set j fB)[i]? =_
  rw [List.getElem?_set_ne e]
  exact rC (fun h'=>h (List.mem_cons_of_mem _ h'))
theorem xR {x:Item}: ∀ {l:List (Option Nat)} {Γ:Ctx} {i:Nat},some i∉l→(mkP l Γ).set i x=mkP l (Γ.set i x)
 | [],_,_,_=>rfl
 | none::l,Γ,i,h=>xR (l:=l) (fun h'=>h (List.mem_cons_of_mem _ h'))
 | some j::l,Γ,i,h=>by
  have e:j≠i:=fun e=>h (by rw [e];exact List.mem_cons_self ..)
  show ((mkP l Γ).set j fB).set i x=(mkP l (Γ.set i x)).set j fB
  rw [List.set_comm _ _ e,xR (fun h'=>h (List.mem_cons_of_mem _ h'))]
def PI (Γ:Ctx) (w:World) (o:Option Nat) (x:Bool×Item):Prop:=match o with
 | some i=> ∃ jt,Γ[i]? =some jt∧aY jt x.2
 | none=>x.2.own=[]∧x.2.P Γ.M w
abbrev bJ (I:Its):Ctx:=I.map (·.2)
def dz (I:Its):Ctx:=I.map fun x=>ifS x.1 fB x.2
theorem nw (h:Sat Γ w): ∀ {L:List (Option Nat)} {I:Its},dk (PI Γ w) L I→Ndp L→Sat (bJ I++mkP L Γ) w∧ ∀ b,Ctx.M (bJ I++mkP L Γ) b→Γ.M b
 | _,_,.nil,_=>⟨h,fun _ h=>h⟩
 | _,_,.cons (a:=none) (b:=x) h1 hr,hd=>by
  obtain ⟨ih,ihM⟩:=nw h hr hd
  refine ⟨ih.add h1.1 (x.2.bm h1.2 (Mv.weaken w ihM) (fun _ _=>rfl) (dA.refl w)),fun b hb=> ?_⟩
  rcases Ctx.p9.1 hb with hb | hb
  ·rw [h1.1] at hb;cases hb
  ·exact ihM b hb
 | _,_,.cons (a:=some i) (b:=x) (l:=l) (m:=m) h1 hr,hd=>by
  obtain ⟨ih,ihM⟩:=nw h hr hd.2
  obtain ⟨jt,hj,hl⟩:=h1
  have hi:(bJ m++mkP l Γ)[(bJ m).length+i]? =some jt:=by
   rw [List.getElem?_append_right (by omega),show (bJ m).length+i-(bJ m).length=i by omega,rC hd.1];exact hj
  have h2:=ih.pull hi hl
  rw [List.set_append_right _ _ (by omega),show (bJ m).length+i-(bJ m).length=i by omega] at h2
  refine ⟨h2,fun b hb=> ?_⟩
  rcases Ctx.p9.1 hb with hb | hb
  ·exact Ctx.gA hj (hl.1 b hb)
  ·obtain ⟨it,h3,h4⟩:=hb
   refine ihM b ?_
   rcases List.mem_append.1 h3 with h3 | h3
   ·exact ⟨it,List.mem_append_left _ h3,h4⟩
   ·rcases List.mem_or_eq_of_mem_set h3 with h3 | h3
    ·exact ⟨it,List.mem_append_right _ h3,h4⟩
    ·subst h3;cases h4
def p8:List (Option Nat)→Its→List (Option Nat)
 | o::L,x::I=>(ifS x.1 o none)::p8 L I
 | _,_=>[]
def rZ (Γ:Ctx) (o:Option Nat) (x:Bool×Item):Prop:=match o with
 | some i=> ∃ jt,Γ[i]? =some jt∧(x.1=false→aY x.2 jt)
 | none=>True
theorem rZ.set {Γ:Ctx} {i:Nat} {y:Item}: ∀ {L:List (Option Nat)} {I:Its},dk (rZ Γ) L I→some i∉L→dk (rZ (Γ.set i y)) L I
 | _,_,.nil,_=> .nil
 | _,_,.cons (a:=none) h1 hr,hn=> .cons trivial (rZ.set hr (fun h=>hn (List.mem_cons_of_mem _ h)))
 | _,_,.cons (a:=some j) h1 hr,hn=>by
  obtain ⟨jt,hj,hl⟩:=h1
  have e:i≠j:=fun e=>hn (by rw [e];exact List.mem_cons_self ..)
  exact .cons ⟨jt,by rw [List.getElem?_set_ne e];exact hj,hl⟩ (rZ.set hr (fun h=>hn (List.mem_cons_of_mem _ h)))
theorem CF {i:Nat}: ∀ {L:List (Option Nat)} {I:Its},some i∈p8 L I→some i∈L
 | [],_,h=>by cases h
 | o::L,[],h=>by cases h
 | o::L,x::I,h=>by
  rcases List.mem_cons.1 h with h | h
  ·cases hx:x.1
   ·rw [hx] at h;cases h
   ·rw [hx] at h;exact h▸List.mem_cons_self ..
  ·exact List.mem_cons_of_mem _ (CF h)
theorem vl {A:Ctx}: ∀ {L:List (Option Nat)} {I:Its} {Γ:Ctx},dk (rZ Γ) L I→Ndp L→Sat (A++(dz I++mkP L Γ)) w→Sat (A++mkP (p8 L I) Γ) w
 | _,_,_,.nil,_,h=>h
 | _,_,_,.cons (a:=none) (b:=x) (l:=l) (m:=m) h1 hr,hd,h=>by
  have h2:Sat (A++(dz m++mkP l _)) w:=Sat.tD h
  have:=vl hr hd h2
  cases hx:x.1 <;> simpa [p8,hx,mkP] using this
 | _,_,Γ,.cons (a:=some i) (b:=x) (l:=l) (m:=m) h1 hr,hd,h=>by
  obtain ⟨jt,hj,hl⟩:=h1
  cases hx:x.1
  ·have e1:dz (x::m)++mkP (some i::l) Γ=x.2::(dz m++mkP l Γ).set (m.length+i) fB:=by
    show (ifS x.1 fB x.2)::(dz m++(mkP l Γ).set i fB)=_
    rw [hx,List.set_append_right _ _ (by simp [dz])]
    simp [dz]
   rw [e1] at h
   have h2:=h.T4 (jt:=jt) (by
    rw [List.getElem?_append_right (by simp [dz])]
    have:m.length+i-(dz m).length=i:=by simp [dz]
    rw [this,rC hd.1];exact hj) (hl hx)
   have:=vl hr hd.2 h2
   simpa [p8,hx,mkP] using this
  ·have e1:dz (x::m)++mkP (some i::l) Γ=fB::(dz m++mkP l (Γ.set i fB)):=by
    show (ifS x.1 fB x.2)::(dz m++(mkP l Γ).set i fB)=_
    rw [hx,xR hd.1]
   rw [e1] at h
   have h2:=Sat.tD h
   have:=vl (rZ.set hr hd.1) hd.2 h2
   rw [← xR (fun h=>hd.1 (CF h))] at this
   simpa [p8,hx,mkP] using this
end
/-! sources by places -/
def bY (G H:List Row) (s:Src):Option Nat:=match s with
 | .top i=>(match G[i]? with
  | some r=>ifS r.ck none (some i)
  | none=>none)
 | .frz i=>(match H[i]? with
  | some r=>ifS r.ck none (some (G.length+i))
  | none=>none)
 | _=>none
def gY (n:Nat):List (Option Nat)→Bool
 | []=>false
 | o::l=>(match o with
  | some m=>Nat.beq n m
  | none=>false)||gY n l
theorem BQ {n:Nat}:{l:List (Option Nat)}→(gY n l=true↔some n∈l)
 | []=>by simp [gY]
 | none::l=>by simp [gY,BQ]
 | some m::l=>by
  simp only [gY,Bool.or_eq_true,List.mem_cons,Option.some.injEq]
  rw [BQ,Nat.beq_eq]
def rT:List (Option Nat)→Bool
 | []=>true
 | o::l=>(match o with
  | some i=> !(gY i l)
  | none=>true)&&rT l
theorem nr:{l:List (Option Nat)}→rT l=true→Ndp l
 | [],_=>trivial
 | none::l,h=>by
  simp only [rT,Bool.true_and] at h
  exact nr (l:=l) h
 | some i::l,h=>by
  simp only [rT,Bool.and_eq_true,Bool.not_eq_true'] at h
  exact ⟨(fun h'=>by rw [BQ.2 h'] at h;cases h.1),nr h.2⟩
def Wi (n:Nat):List (Bool×Option Nat)→Bool
 | []=>true
 | (m,o)::l=>(match o with
  | some i=>ifS m (Nat.blt i n) true
  | none=>true)&&Wi n l
section
variable {ρ : Nms} {T : Tbl} {G H : List Row} {Φ : Ctx} {w : World}
theorem Src.pos {s:Src} {r:Row} (h:s.at_ G H r) (hp:r.ck=false): ∃ i,bY G H s=some i∧(items ρ T G++(items ρ T H++Φ))[i]? =some (r.item ρ T):=by
 cases s with
 | top i=>
  have h:G[i]? =some r:=h
  exact ⟨i,by simp only [bY,h,hp],dF h⟩
 | frz i=>
  have h:H[i]? =some r:=h
  exact ⟨G.length+i,by simp only [bY,h,hp],FD h⟩
 | nilI=>exact h.elim
 | nilO=>exact h.elim
 | nilM=>exact h.elim
theorem Src.Wb {s:Src} {r:Row} (h:s.at_ G H r) (hp:r.ck=true):bY G H s=none:=by
 cases s with
 | top i=>
  have h:G[i]? =some r:=h
  simp only [bY,h,hp]
 | frz i=>
  have h:H[i]? =some r:=h
  simp only [bY,h,hp]
 | nilI=>exact h.elim
 | nilO=>exact h.elim
 | nilM=>exact h.elim
theorem Src.V9 {s:Src} (h: ∀ r,¬ s.at_ G H r):bY G H s=none:=by
 cases s with
 | top i=>
  cases hg:G[i]? with
  | none=>simp only [bY,hg]
  | some r=>exact (h r hg).elim
 | frz i=>
  cases hg:H[i]? with
  | none=>simp only [bY,hg]
  | some r=>exact (h r hg).elim
 | nilI=>rfl
 | nilO=>rfl
 | nilM=>rfl
theorem wT (hs:Sat (items ρ T G++(items ρ T H++Φ)) w): ∀ {S:List (Bool×Src)} {I:Its},dk (SI ρ T G H) S I→dk (PI (items ρ T G++(items ρ T H++Φ)) w) (S.map fun x=>bY G H x.2) I∧dk (rZ (items ρ T G++(items ρ T H++Φ))) (S.map fun x=>bY G H x.2) I
 | _,_,.nil=>⟨.nil,.nil⟩
 | _,_,.cons (a:=a) (b:=x) h1 hr=>by
  obtain ⟨i1,i2⟩:=wT hs hr
  obtain ⟨e,h2⟩:=h1
  rcases h2 with ⟨k1,k2,k3⟩ | ⟨r,k1,k2,k3,k4⟩
  ·have hp:=Src.V9 k3
   refine ⟨.cons ?_ i1,.cons ?_ i2⟩
   ·show PI _ _ (bY G H a.2) x;rw [hp];exact ⟨k1,k2 _ _⟩
   ·show rZ _ (bY G H a.2) x;rw [hp];trivial
  ·cases hpe:r.ck
   ·obtain ⟨i,p1,p2⟩:=Src.pos (ρ:=ρ) (T:=T) (Φ:=Φ) k1 hpe
    refine ⟨.cons ?_ i1,.cons ?_ i2⟩
    ·show PI _ _ (bY G H a.2) x;rw [p1];exact ⟨_,p2,k2⟩
    ·show rZ _ (bY G H a.2) x;rw [p1];exact ⟨_,p2,fun _=>k4 hpe⟩
   ·have hp:=Src.Wb k1 hpe
    refine ⟨.cons ?_ i1,.cons ?_ i2⟩
    ·show PI _ _ (bY G H a.2) x;rw [hp];exact ⟨k3 hpe,k2.2 _ _ (Src.holds hs k1)⟩
    ·show rZ _ (bY G H a.2) x;rw [hp];trivial
def mS (is:List (Option Nat)):Nat→List Row→List Row
 | _,[]=>[]
 | k,r::G=>(ifS (gY k is) .gone r)::mS is (k+1) G
def jh:List Row→List Row
 | []=>[]
 | r::G=>(match r with
  | .gone=>jh G
  | r=>r::jh G)
theorem tS {B:Ctx}: ∀ {G:List Row} {A:Ctx},Sat (A++(items ρ T G++B)) w→Sat (A++(items ρ T (jh G)++B)) w
 | [],_,h=>h
 | r::G,A,h=>by
  unfold jh
  split
  ·exact tS (G:=G) (Sat.tD h)
  ·have h':Sat ((A++[r.item ρ T])++(items ρ T G++B)) w:=by simpa [items] using h
   have:=tS (G:=G) h'
   simpa [items] using this
theorem Bh {L:List (Option Nat)}: ∀ {G:List Row} {k:Nat},items ρ T (mS L k G)=(items ρ T G).mapIdx fun i it=>ifS (gY (k+i) L) fB it
 | [],_=>rfl
 | r::G,k=>by
  simp only [mS,items,List.map_cons,List.mapIdx_cons]
  have:=Bh (L:=L) (G:=G) (k:=k+1)
  simp only [items] at this
  rw [this]
  congr 1
  ·simp only [Nat.add_zero];cases gY k L <;> rfl
  ·congr 1
   funext i it
   rw [Nat.add_right_comm,Nat.add_assoc]
theorem HK: ∀ {L:List (Option Nat)} {Γ:Ctx} {j:Nat},(mkP L Γ)[j]? =(Γ[j]?).map fun it=>ifS (gY j L) fB it
 | [],Γ,j=>by
  show Γ[j]? =_
  cases Γ[j]? <;> rfl
 | none::l,Γ,j=>HK (L:=l)
 | some i::l,Γ,j=>by
  show ((mkP l Γ).set i fB)[j]? =_
  by_cases e:i=j
  ·subst e
   rw [List.getElem?_set]
   have hl:(mkP l Γ).length=Γ.length:=EM
   have e1:gY i (some i::l)=true:=by simp [gY]
   rw [e1]
   simp only [if_true,hl]
   by_cases hi:i<Γ.length
   ·rw [List.getElem?_eq_getElem hi];simp [hi]
   ·rw [List.getElem?_eq_none (by omega)];simp [hi]
  ·rw [List.getElem?_set_ne e,HK (L:=l)]
   have e2:Nat.beq j i=false:=by
    cases hb:Nat.beq j i
    ·rfl
    ·exact absurd (Nat.eq_of_beq_eq_true hb).symm e
   simp [gY,e2]
end
end Go.Proofs.YtgcgmclghbebjaaGreat
namespace Go.Proofs.YtgcgmclghbebjaaGreat
open Go.Lib
structure Ent where
 f:FuncId
 ps:List Pt
 r:Pt
 os:List (Bool×Nat×Pt)
 m:Tup (kg ps)→Option (Tup (hol r++eR os))
def Rd:Ty→List (Option TypeId)→Nat×List (Option TypeId)
 | .p a b,o=>match Rd a o with
  | (n,o)=>match Rd b o with
   | (m,o)=>(n+m,o)
 | .l _,o=>(1,o.tail)
 | .ex,o=>(1,o.tail)
 | _,o=>(0,o)
mutual
def QQ:Pt→Nat
 | .sli _ | .own _ _ _ | .mp _ _ _ | .it=>1
 | .bx _ _ _ vs=>C3 vs+1
 | .agg l | .tup l=>C3 l
 | .fn _ a b=>C3 a+C3 b
 | .ifc _ p=>QQ p
 | .dat t o=>(Rd t o).1
 | _=>0
def C3:List Pt→Nat
 | []=>0
 | p::l=>QQ p+C3 l
end
def ixN:List Pt→Nat→Nat
 | p::l,i+1=>QQ p+ixN l i
 | _,_=>0
def CX (X:Bxs) (n:Nat):List Value:=match X with
 | []=>[]
 | x::X=>ifS (Nat.beq x.1 n) x.2 (CX X n)
def yB (X:List (Nat×List AV)) (n:Nat):List AV:=match X with
 | []=>[]
 | x::X=>ifS (Nat.beq x.1 n) x.2 (yB X n)
theorem Fb {ρ:Nms} {n:Nat}:{X:List (Nat×List AV)}→CX (ct ρ X) n=AV.ah ρ (yB X n)
 | []=>by simp [CX,yB,AV.ah]
 | x::X=>by
  show (ifS (Nat.beq x.1 n) (AV.ah ρ x.2) (CX (ct ρ X) n))=AV.ah ρ (ifS (Nat.beq x.1 n) x.2 (yB X n))
  cases Nat.beq x.1 n
  ·exact Fb
  ·rfl
def fxS (ps:List Pt) (vs:List Value) (X:Bxs) (i:Nat):Fx:=(vs[i]?).map fun v=>(v,CX X (ixN ps i))
def fxK (ps:List Pt) (vs:List AV) (X:List (Nat×List AV)) (i:Nat):FxA:=match vs[i]? with
 | some v=>some (v,yB X (ixN ps i))
 | none=>none
theorem Ez {ρ:Nms}:{l:List AV}→{i:Nat}→(AV.ah ρ l)[i]? =(l[i]?).map (AV.val ρ)
 | [],i=>by simp [AV.ah]
 | v::l,0=>by simp [AV.ah]
 | v::l,i+1=>by simp only [AV.ah,List.getElem?_cons_succ];exact Ez
theorem K6 {ρ:Nms} {ps:List Pt} {vs:List AV} {X:List (Nat×List AV)} {i:Nat}:fxS ps (AV.ah ρ vs) (ct ρ X) i=dR ρ (fxK ps vs X i):=by
 unfold fxS fxK
 rw [Ez]
 cases vs[i]? with
 | none=>rfl
 | some v=>simp [Fb]
def Ent.Ok (P:Program) (Γg:Ctx) (e:Ent):Prop:=cV P e.f∧ ∀ s r,e.m s=some r→ ∀ (vs:List Value) (N:List Nm) (I:Its) (X:Bxs) (Φ:Ctx) (w:World),
 nU e.ps vs [] [] [] (unt _ s) I X N→Sat (bJ I++Φ) w→(∀ it∈Γg,it∈Φ)→
 fg P e.f vs w fun v w'=> ∃ (N1 N2:List Nm) (D1 D2:List Dyn) (I1 I2:Its) (X1 X2:Bxs),Sem e.r v none none N D1 I1 X1 N1∧uf (fxS e.ps vs X) (fun i=>vs[i]?) e.os N1 D2 I2 X2 N2∧D1++D2=unt _ r∧
  Sat ((bJ I1++bJ I2)++(dz I++Φ)) w'
def cellsOf (G H:List Row) (j:Nat):List AV:=match cz G H (pR j) with
 | some (_,.box _ _ cs)=>cs
 | _=>[]
def Qc:(t:Ty)→List AV→List (Option TypeId)→List Nat×List AV×List (Option TypeId)
 | .i _,vs,o | .bo,vs,o | .s,vs,o=>([],vs.tail,o)
 | .p a b,vs,o=>match Qc a vs o with
  | (i,vs,o)=>match Qc b vs o with
   | (j,vs,o)=>(i++j,vs,o)
 | .l _,vs,o=>(match o with
  | none::_=>(match vs with
   | v::_=>v.sls
   | []=>[])
  | _=>[],vs.tail,o.tail)
 | .ex,vs,o=>(match o with
  | none::_=>(match vs with
   | _::_::_::v::_=>v.sls
   | _=>[])
  | _=>[],vs.drop 4,o.tail)
 | _,vs,o=>([],vs,o)
mutual
def lV (G H:List Row):Pt→AV→List Nat
 | .sli _,v=>v.sls
 | .bx _ _ _ vs,v=>(match v with
  | .ptr j _=>cN G H vs (cellsOf G H j)
  | _=>[])
 | .agg l,v=>(match v with
  | .agg vs=>cN G H l vs
  | _=>[])
 | .tup l,v=>(match v with
  | .tuple vs=>cN G H l vs
  | _=>[])
 | .fn _ a b,v=>(match v with
  | .fn _ a' b'=>cN G H a a'++cN G H b b'
  | _=>[])
 | .ifc _ p,v=>(match v with
  | .ifc _ u=>lV G H p u
  | _=>[])
 | .dat t o,v=>(match v with
  | .agg cs=>(Qc t cs o).1
  | _=>[])
 | _,_=>[]
def cN (G H:List Row):List Pt→List AV→List Nat
 | [],_=>[]
 | p::l,vs=>(match vs with
  | v::vs=>lV G H p (nT G H v)++cN G H l vs
  | []=>[])
end
def n5 (T:Tbl) (g:GK):List Row→List Row
 | []=>[]
 | r::G=>(match r with
  | .sli (some k) id t l b=> .sli (ifS (T.imp g (some k)) none (some k)) id t l b
  | r=>r)::n5 T g G
def qQ (g:GK) (r:Row):Row:=match g with
 | none=>r
 | some g=>(match r with
  | .sli none id t l b=> .sli (some g) id t l b
  | .own id t _ l _=> .sli (some g) id t l false
  | r=>r)
def slB:Row→Bool
 | .sli none _ _ _ _ | .own .. =>true
 | _=>false
def Ew:List (Bool×Row)→Bool
 | []=>true
 | x::l=>slB x.2&&Ew l
def mJ (B:List (Option Nat)) (c:Nat) (n:Nat):Nat:=match B[n]? with
 | some (some j)=>j
 | _=>c+n
def ltB (c:Nat):List (Option Nat)→Bool
 | []=>true
 | o::l=>(match o with
  | some j=>Nat.blt j c
  | none=>true)&&ltB c l
def Bv (c:Nat):List (Nat×List AV)→Bool
 | []=>true
 | x::l=>AV.bh c x.2&&Bv c l
def sL (G H:List Row):List (Bool×Src)→List (Option Nat)
 | []=>[]
 | x::S=>(ifS x.1 (bY G H x.2) none)::sL G H S
def ltT (n:Nat):List (Option Nat)→Bool
 | []=>true
 | o::l=>(match o with
  | some i=>Nat.blt i n
  | none=>true)&&ltT n l
def CQ:List (Option Nat)→Bool
 | []=>true
 | o::l=>(match o with
  | some _=>false
  | none=>true)&&CQ l
def Am {R:Type} (_fr:Fr) (st:StB) (g:GK) (d:Option Tmp) (args:List AV) (e:Ent) (mr:MR) (G1:List Row) (K:Go_ R) (r:Tup (hol e.r++eR e.os)):Option R:=
 match fill (mJ mr.B st.c) e.r none none mr.B.length (unt _ r) with
 | ⟨v,R1,k,D,_⟩=>match dx (mJ mr.B st.c) (fxK e.ps args mr.X) e.os k D with
  | ⟨_,R2,k,_⟩=>ifS (match g with | none=>true | some _=>Ew R1) (K { st with c:=st.c+k,E:=bC d g v st.E,G:=(R1++R2).map (fun x=>qQ g x.2)++G1 }) none
def MG {R:Type} (T:Tbl) (fr:Fr) (st:StB) (g:GK) (d:Option Tmp) (args:List AV) (e:Ent) (K:Go_ R):Option (Option R):=
 match g with
 | none=>(match mts (frz (cN st.G fr.H e.ps args) st.G) fr.H e.ps args [] [] [] with
  | some mr=>ifS (rT (mr.S.map fun x=>bY (frz (cN st.G fr.H e.ps args) st.G) fr.H x.2)&&ltT (frz (cN st.G fr.H e.ps args) st.G).length (sL (frz (cN st.G fr.H e.ps args) st.G) fr.H mr.S)&&ltB st.c mr.B&&AV.bh st.c args&&Bv st.c mr.X&&lQ (fxK e.ps args mr.X) e.os) (match tup (kg e.ps) mr.D with
   | some s=>some ((e.m s).bind (Am fr st none d args e mr (jh (mS (sL (frz (cN st.G fr.H e.ps args) st.G) fr.H mr.S) 0 (frz (cN st.G fr.H e.ps args) st.G))) K))
   | none=>none) none
  | none=>none)
 | some gk=>(match mts (n5 T (some gk) (frz (cN st.G fr.H e.ps args) st.G)) (n5 T (some gk) fr.H) e.ps args [] [] [] with
  | some mr=>ifS (rT (mr.S.map fun x=>bY (n5 T (some gk) (frz (cN st.G fr.H e.ps args) st.G)) (n5 T (some gk) fr.H) x.2)&&CQ (sL (n5 T (some gk) (frz (cN st.G fr.H e.ps args) st.G)) (n5 T (some gk) fr.H) mr.S)&&e.os.isEmpty&&ltB st.c mr.B&&AV.bh st.c args&&Bv st.c mr.X&&lQ (fxK e.ps args mr.X) e.os) (match tup (kg e.ps) mr.D with
   | some s=>some (cf (T.get (some gk)) (L5 _) (e.m s) (Am fr st (some gk) d args e mr (frz (cN st.G fr.H e.ps args) st.G) K))
   | none=>none) none
  | none=>none)
def oD {R:Type} (T:Tbl) (fr:Fr) (st:StB) (g:GK) (d:Option Tmp) (f:FuncId) (args:List AV) (K:Go_ R):List Ent→Option R
 | []=>none
 | e::tb=>ifS (Nat.beq e.f f) (match MG T fr st g d args e K with
   | some r=>r
   | none=>oD T fr st g d f args K tb) (oD T fr st g d f args K tb)
section
variable {ρ : Nms} {T : Tbl} {G H : List Row} {Φ : Ctx} {w : World}
theorem Hd {s:Src} {i:Nat} (h:bY G H s=some i):i<G.length+H.length:=by
 cases s with
 | top j=>
  simp only [bY] at h
  split at h
  ·rename_i r hr
   obtain ⟨_,h2⟩:=Ak h
   cases h2
   have:=(List.getElem?_eq_some_iff.1 hr).1
   omega
  ·cases h
 | frz j=>
  simp only [bY] at h
  split at h
  ·rename_i r hr
   obtain ⟨_,h2⟩:=Ak h
   cases h2
   have:=(List.getElem?_eq_some_iff.1 hr).1
   omega
  ·cases h
 | nilI=>cases h
 | nilO=>cases h
 | nilM=>cases h
theorem BA: ∀ {S:List (Bool×Src)} {I:Its},dk (SI ρ T G H) S I→p8 (S.map fun x=>bY G H x.2) I=sL G H S
 | _,_,.nil=>rfl
 | _,_,.cons (a:=a) (b:=x) h1 hr=>by
  show (ifS x.1 (bY G H a.2) none)::p8 _ _=(ifS a.1 (bY G H a.2) none)::_
  rw [BA hr,h1.1]
theorem D9 {n:Nat}: ∀ {L:List (Option Nat)} {j:Nat},ltT n L=true→gY j L=true→j<n
 | [],j,h,h'=>by cases h'
 | none::l,j,h,h'=>by
  simp only [ltT,Bool.true_and] at h
  simp only [gY,Bool.false_or] at h'
  exact D9 h h'
 | some i::l,j,h,h'=>by
  simp only [ltT,Bool.and_eq_true,Nat.blt_eq] at h
  simp only [gY,Bool.or_eq_true] at h'
  rcases h' with h' | h'
  ·rw [Nat.eq_of_beq_eq_true h'];exact h.1
  ·exact D9 h.2 h'
theorem pw {L:List (Option Nat)} {Δ:Ctx} (h:ltT G.length L=true):mkP L (items ρ T G++Δ)=items ρ T (mS L 0 G)++Δ:=by
 apply List.ext_getElem?
 intro j
 rw [HK,Bh]
 by_cases hj:j<G.length
 ·rw [List.getElem?_append_left (by simpa [items] using hj),List.getElem?_append_left (by simpa [items] using hj),List.getElem?_mapIdx]
  simp
 ·have e:gY j L=false:=by
   cases hm:gY j L
   ·rfl
   ·exact absurd (D9 h hm) hj
  rw [List.getElem?_append_right (by simp [items];omega),List.getElem?_append_right (by simp [items];omega),e]
  have e2:(items ρ T G).length=((items ρ T G).mapIdx fun i it=>ifS (gY (0+i) L) fB it).length:=by simp
  rw [← e2]
  cases Δ[j-(items ρ T G).length]? <;> rfl
theorem Hm: ∀ {L:List (Option Nat)} {Γ:Ctx},CQ L=true→mkP L Γ=Γ
 | [],_,_=>rfl
 | none::l,Γ,h=>by
  simp only [CQ,Bool.true_and] at h
  exact Hm (L:=l) h
 | some i::l,Γ,h=>by simp [CQ] at h
theorem BB {g:GK} (hg:T.get g=true) {B:Ctx}: ∀ {G:List Row} {A:Ctx},Sat (A++(items ρ T G++B)) w→Sat (A++(items ρ T (n5 T g G)++B)) w
 | [],_,h=>h
 | r::G,A,h=>by
  have step: ∀ r':Row,aY (r.item ρ T) (r'.item ρ T)→Sat (A++(items ρ T (r'::n5 T g G)++B)) w:=fun r' hl=>by
   have h1:Sat (A++r'.item ρ T::(items ρ T G++B)) w:=Sat.le2 h hl
   have h':Sat ((A++[r'.item ρ T])++(items ρ T G++B)) w:=by simpa [items] using h1
   have:=BB hg (G:=G) h'
   simpa [items] using this
  unfold n5
  split
  ·rename_i k id t l b
   refine step _ ?_
   cases hi:T.imp g (some k)
   ·exact aY.refl
   ·refine ⟨fun _ h=>h,fun M w h _=>h (Tbl.gZ hi hg)⟩
  ·exact step _ aY.refl
theorem Ep {g:GK}: ∀ {G:List Row},dk aY (items ρ T (n5 T g G)) (items ρ T G)
 | []=> .nil
 | r::G=>by
  show dk aY (items ρ T (n5 T g (r::G))) (r.item ρ T::items ρ T G)
  unfold n5
  refine .cons ?_ Ep
  split
  ·rename_i k id t l b
   cases hi:T.imp g (some k)
   ·exact aY.refl
   ·exact ⟨fun _ h=>h,fun M w h _=>h Tbl.get_none⟩
  ·exact aY.refl
theorem G6 {g:Nat×Bool} {B:Ctx}: ∀ {R:List (Bool×Row)} {A:Ctx},Ew R=true→Sat (A++(items ρ T (R.map (·.2))++B)) w→Sat (A++(items ρ T (R.map fun x=>qQ (some g) x.2)++B)) w
 | [],_,_,h=>h
 | (m,r)::R,A,hb,h=>by
  simp only [Ew,Bool.and_eq_true] at hb
  have step:Sat (A++(qQ (some g) r).item ρ T::(items ρ T (R.map (·.2))++B)) w:=by
   have h0:Sat (A++r.item ρ T::(items ρ T (R.map (·.2))++B)) w:=h
   cases r with
   | sli k id t l b=>
    cases k with
    | none=>exact h0.le2 ⟨fun _ h=>h,fun M w h _=>h Tbl.get_none⟩
    | some k=>simp [slB] at hb
   | own id t e l ver=>
    have hi:(A++(Row.own id t e l ver).item ρ T::(items ρ T (R.map (·.2))++B))[A.length]? =some (mX t.rep e (ρ id).v l ((ρ ver).y=⟨.l t,l⟩)):=by simp [Row.item]
    have h2:=h0.upd hi (new:=(qQ (some g) (Row.own id t e l ver)).item ρ T) ((Ext.refl w).chg _) (fun b hb=>by cases hb) (fun M' m hn=>fun _=>⟨(h0.at_ hi).1.freeze (fun b hb=>hn b hb (fun hb=>by cases hb)) m,fun hb=>by cases hb⟩)
    simpa using h2
   | _=>simp [slB] at hb
  have h':Sat ((A++[(qQ (some g) r).item ρ T])++(items ρ T (R.map (·.2))++B)) w:=by simpa using step
  have:=G6 (g:=g) hb.2 h'
  simpa [items] using this
theorem wq {g:Nat×Bool} (hg:T.get (some g)=false): ∀ {R:List (Bool×Row)},Ew R=true→ ∀ it∈items ρ T (R.map fun x=>qQ (some g) x.2),it.ck=true∧ ∀ M w,it.P M w
 | [],_,it,h=>by cases h
 | (m,r)::R,hb,it,h=>by
  simp only [Ew,Bool.and_eq_true] at hb
  rw [List.map_cons,items,List.map_cons] at h
  rcases List.mem_cons.1 h with rfl | h
  ·cases r with
   | sli k id t l b=>
    cases k with
    | none=>exact ⟨rfl,fun M w h=>by rw [hg] at h;cases h⟩
    | some k=>simp [slB] at hb
   | own id t e l ver=>exact ⟨rfl,fun M w h=>by rw [hg] at h;cases h⟩
   | _=>simp [slB] at hb
  ·exact wq hg hb.2 it h
theorem dk.rw {R:List (Bool×Row)} {I:Its} (h:dk (RwI ρ T) R I):dk aY (bJ I) (items ρ T (R.map (·.2))):=by
 induction h with
 | nil=>exact .nil
 | cons h1 _ ih=>exact .cons h1.2.1 ih
theorem Cp {R:List (Bool×Row)}:(R.map fun x=>qQ none x.2)=R.map (·.2):=rfl
theorem Fq {N N2:List Nm} {B:List (Option Nat)} {c:Nat} (hN:NB ρ B N) (hp:Pre N N2) (hB:ltB c B=true):
  oF (fun i=>ifS (Nat.blt i c) (ρ i) ((N2[i-c]?).getD nm0)) (mJ B c) B.length N2:=by
 intro i a ha
 have hge: ∀ n,(ifS (Nat.blt (c+n) c) (ρ (c+n)) ((N2[c+n-c]?).getD nm0))=(N2[n]?).getD nm0:=fun n=>by
  have:Nat.blt (c+n) c=false:=by
   cases hb:Nat.blt (c+n) c
   ·rfl
   ·simp only [Nat.blt_eq] at hb;omega
  rw [this,show c+n-c=n by omega]
 unfold mJ
 split
 ·rename_i j hj
  obtain ⟨a',h1,h2⟩:=hN.get hj
  have e1:=hp.at_ h1
  rw [ha] at e1
  cases e1
  have hlt:Nat.blt j c=true:=by
   have key: ∀ (B:List (Option Nat)) (i:Nat),ltB c B=true→B[i]? =some (some j)→Nat.blt j c=true:=fun B=>by
    induction B with
    | nil=>intro i _ h;simp at h
    | cons o l ih=>
     intro i h h'
     simp only [ltB,Bool.and_eq_true] at h
     cases i with
     | zero=>simp at h';subst h';exact h.1
     | succ i=>exact ih i h.2 (by simpa using h')
   exact key B i hB hj
  simp only [hlt]
  refine ⟨h2.1.symm,h2.2.1.symm,h2.2.2.symm,fun hle=> ?_⟩
  have:=(List.getElem?_eq_some_iff.1 hj).1
  omega
 ·simp only [hge,ha,Option.getD_some]
  exact ⟨trivial,trivial,trivial,fun _=>trivial⟩
theorem Ha {ρ':Nms} {c:Nat} (ha:aA c ρ ρ'):{X:List (Nat×List AV)}→Bv c X=true→ct ρ' X=ct ρ X
 | [],_=>rfl
 | x::X,h=>by
  simp only [Bv,Bool.and_eq_true] at h
  show (x.1,AV.ah ρ' x.2)::ct ρ' X=(x.1,AV.ah ρ x.2)::ct ρ X
  rw [AV.bc ha _ h.1,Ha ha h.2]
end
section
variable {P : Program} {R : Type} {r : R} {K : Go_ R} {T : Tbl} {fr : Fr} {st : StB} {g : GK} {d : Option Tmp} {ρ : Nms} {Φ Γg : Ctx} {w : World} {ty : TypeId} {pos : String} {af : Array Edge} {gd : Option (Nat × Bool)}
theorem zI {e:Ent} {args:List AV} {mr:MR} {G1:List Row} {q:Tup (hol e.r++eR e.os)} {v:Value} {w':World} {N N1 N2:List Nm} {D1 D2:List Dyn} {I1 I2:Its} {X1 X2:Bxs}
  (hl:st.low fr=true) (hG1:aU st.c G1=true) (hN:NB ρ mr.B N) (hB:ltB st.c mr.B=true) (hA:AV.bh st.c args=true) (hX:Bv st.c mr.X=true) (hF:lQ (fxK e.ps args mr.X) e.os=true)
  (h1:Sem e.r v none none N D1 I1 X1 N1) (h2:uf (fxS e.ps (AV.ah ρ args) (ct ρ mr.X)) (fun i=>(AV.ah ρ args)[i]?) e.os N1 D2 I2 X2 N2) (hD:D1++D2=unt _ q)
  (hg:T.get g=true) (hs:Sat ((bJ I1++bJ I2)++(items ρ T G1++(items ρ T fr.H++Φ))) w') (hos:g=none∨e.os=[]) (h:Am fr st g d args e mr G1 K q=some r):aB r K T fr st g d ρ Φ v w':=by
 have hp1:=pj _ _ _ _ _ _ _ _ _ h1
 have hp2:=BO _ _ _ _ _ _ h2
 have hnm:=Fq (N2:=N2) hN (hp1.trans hp2) hB
 have hag:aA st.c ρ (fun i=>ifS (Nat.blt i st.c) (ρ i) ((N2[i-st.c]?).getD nm0)):=fun j hj=>by
  have:Nat.blt j st.c=true:=by simpa using hj
  simp only [this]
 generalize hρ:(fun i=>ifS (Nat.blt i st.c) (ρ i) ((N2[i-st.c]?).getD nm0))=ρ' at hnm hag
 have hlen:mr.B.length=N.length:=hN.length
 obtain ⟨a1,a2,a3,a4,a5⟩:=vj (T:=T) e.r v none none N D1 I1 X1 N1 h1 (um _) (hnm.pre hp2) (by omega) D2
 have h2':uf (fun i=>dR ρ' (fxK e.ps args mr.X i)) (fun i=>(AV.ah ρ args)[i]?) e.os N1 D2 I2 X2 N2:=by
  have e1:(fun i=>dR ρ' (fxK e.ps args mr.X i))=fxS e.ps (AV.ah ρ args) (ct ρ mr.X):=by
   funext i
   rw [← AV.bc hag _ hA,← Ha hag hX,K6]
  rw [e1];exact h2
 obtain ⟨b1,b2,b3,b4⟩:=B1 (T:=T) e.os N1 D2 I2 X2 N2 h2' hF hnm (Nat.le_trans (by omega) hp1.len) []
 unfold Am at h
 rw [← hD,hlen] at h
 generalize fill (mJ mr.B st.c) e.r none none N.length (D1++D2)=L at a1 a2 a3 a4 a5 h
 obtain ⟨v',R1,k,DD,XX⟩:=L
 simp only at a1 a2 a3 a4 a5
 subst a2;subst a3
 dsimp only at h
 rw [List.append_nil] at b1 b2 b3 b4
 generalize dx (mJ mr.B st.c) (fxK e.ps args mr.X) e.os N1.length DD=L at b1 b2 b3 b4 h
 obtain ⟨E2,R2,k2,DD2⟩:=L
 simp only at b2 b3 b4
 dsimp only at h
 obtain ⟨c1,c2⟩:=ao h
 refine aB.new (ρ':=ρ') hl c2 hag (by simp) rfl a1 ?_
 have hs2:Sat ((items ρ' T (R1.map (·.2))++items ρ' T (R2.map (·.2)))++(items ρ T G1++(items ρ T fr.H++Φ))) w':=by
  have k1:=Sat.leL (A:=[]) (B:=bJ I1) (C:=bJ I2++(items ρ T G1++(items ρ T fr.H++Φ))) (by simpa using hs) a5.rw
  have k2:=Sat.leL (A:=items ρ' T (R1.map (·.2))) (B:=bJ I2) (C:=items ρ T G1++(items ρ T fr.H++Φ)) k1 b4.rw
  simpa using k2
 have e3:=aF (T:=T) hag hG1
 show Sat (items ρ' T ((R1++R2).map (fun x=>qQ g x.2)++G1)++(items ρ T fr.H++Φ)) w'
 rw [aJ,e3,List.map_append,aJ]
 cases g with
 | none=>
  rw [Cp,Cp]
  simpa using hs2
 | some gk=>
  rcases hos with hos | hos
  ·cases hos
  ·have hR2:R2=[]:=by
    have hI:I2=[]:=by rw [hos] at h2;exact h2.2.1
    rw [hI] at b4
    cases b4;rfl
   subst hR2
   have k3:=G6 (g:=gk) (A:=[]) (R:=R1) (B:=items ρ T G1++(items ρ T fr.H++Φ)) c1 (by simpa using hs2)
   simpa using k3
theorem N7 {e:Ent} {op:Op} {args:List AV} (hl:st.low fr=true) (hs:Sat (items ρ T st.G++(items ρ T fr.H++Φ)) w) (he:e.Ok P Γg) (hΓ: ∀ it∈Γg,it∈Φ)
  (ent:T.get g=true→ ∀ n act,Fits n (ai ρ T st.E fr.F) act→(execOp act.eval ⟨d,op,ty,pos,af,gd⟩).run P w= .ok (.enter e.f (AV.ah ρ args).toArray) w) (h:MG T fr st g d args e K=some (some r)):
  Ok2 P T g (ai ρ T st.E fr.F) ⟨d,op,ty,pos,af,gd⟩ w (aB r K T fr st g d ρ Φ):=by
 have hGl:=lO (ids:=cN st.G fr.H e.ps args) (StB.bz.1 hl).2.2.1
 replace hs:=fz (ids:=cN st.G fr.H e.ps args) hs
 -- what is lent, taken and handed back
 have key: ∀ (Gu Hu:List Row) (mr:MR) (s:Tup (kg e.ps)) (q:Tup (hol e.r++eR e.os)),Sat (items ρ T Gu++(items ρ T Hu++Φ)) w→mts Gu Hu e.ps args [] [] []=some mr→rT (mr.S.map fun x=>bY Gu Hu x.2)=true→
   tup (kg e.ps) mr.D=some s→e.m s=some q→fg P e.f (AV.ah ρ args) w fun v w'=> ∃ (N N1 N2:List Nm) (D1 D2:List Dyn) (I1 I2:Its) (X1 X2:Bxs),NB ρ mr.B N∧Sem e.r v none none N D1 I1 X1 N1∧
    uf (fxS e.ps (AV.ah ρ args) (ct ρ mr.X)) (fun i=>(AV.ah ρ args)[i]?) e.os N1 D2 I2 X2 N2∧D1++D2=unt _ q∧Sat ((bJ I1++bJ I2)++mkP (sL Gu Hu mr.S) (items ρ T Gu++(items ρ T Hu++Φ))) w':=fun Gu Hu mr s q hs hm hnd htup hq=>by
  obtain ⟨N,I,s1,n1,a1⟩:=qn hs e.ps args [] [] [] mr [] hm (.inl rfl) .nil
  rw [← po _ htup] at s1
  obtain ⟨p1,p2⟩:=wT hs a1
  have hnd':=nr hnd
  obtain ⟨q1,_⟩:=nw hs p1 hnd'
  refine (he.2 s q hq (AV.ah ρ args) N I (ct ρ mr.X) _ w (by simpa only [AV.ah] using s1) q1 (fun it hit=> ?_)).mono ?_
  ·obtain ⟨k,hk⟩:=List.mem_iff_getElem?.1 (hΓ it hit)
   have hk2:(items ρ T Gu++(items ρ T Hu++Φ))[Gu.length+Hu.length+k]? =some it:=by
    rw [List.getElem?_append_right (by simp [items];omega),List.getElem?_append_right (by simp [items];omega)]
    have:Gu.length+Hu.length+k-(items ρ T Gu).length-(items ρ T Hu).length=k:=by simp [items];omega
    rw [this];exact hk
   refine List.mem_of_getElem? (i:=Gu.length+Hu.length+k) ?_
   rw [rC,hk2]
   intro hmem
   obtain ⟨x,_,hx⟩:=List.mem_map.1 hmem
   have:=Hd hx
   omega
  ·intro v w' hv
   obtain ⟨N1,N2,D1,D2,I1,I2,X1,X2,c1,c2,c3,c4⟩:=hv
   have c5:=vl p2 hnd' c4
   rw [BA a1] at c5
   exact ⟨N,N1,N2,D1,D2,I1,I2,X1,X2,n1,c1,c2,c3,c5⟩
 unfold MG at h
 cases g with
 | none=>
  dsimp only at h
  split at h
  ·rename_i mr hm
   obtain ⟨h1,h2⟩:=ao h
   simp only [Bool.and_eq_true] at h1
   obtain ⟨⟨⟨⟨⟨h3,h4⟩,h5⟩,h6⟩,h7⟩,h9⟩:=h1
   split at h2
   ·rename_i s htup
    simp only [Option.some.injEq] at h2
    obtain ⟨q,hq,hk⟩:=eP h2
    refine .none_ (fun n act hf=> .inr (.inr ⟨e.f,AV.ah ρ args,ent Tbl.get_none n act hf,(key _ _ mr s q hs hm h3 htup hq).mono fun v w' hv=> ?_⟩))
    obtain ⟨N,N1,N2,D1,D2,I1,I2,X1,X2,n1,c1,c2,c3,c4⟩:=hv
    rw [pw h4] at c4
    have c5:=tS c4
    refine zI hl ?_ n1 h5 h6 h7 h9 c1 c2 c3 Tbl.get_none c5 (.inl rfl) hk
    have key2: ∀ (L:List (Option Nat)) (G:List Row) (k:Nat),aU st.c G=true→aU st.c (jh (mS L k G))=true:=fun L G=>by
     induction G with
     | nil=>intro k _;rfl
     | cons r G ih=>
      intro k hG
      simp only [aU,Bool.and_eq_true] at hG
      show aU st.c (jh ((ifS (gY k L) .gone r)::mS L (k+1) G))=true
      cases gY k L
      ·cases r <;> first | exact ih (k+1) hG.2 | (simp only [jh,aU,Bool.and_eq_true];exact ⟨hG.1,ih (k+1) hG.2⟩)
      ·exact ih (k+1) hG.2
    exact key2 _ _ _ hGl
   ·cases h2
  ·cases h
 | some gk=>
  dsimp only at h
  split at h
  ·rename_i mr hm
   obtain ⟨h1,h2⟩:=ao h
   simp only [Bool.and_eq_true] at h1
   obtain ⟨⟨⟨⟨⟨⟨h3,h4⟩,h8⟩,h5⟩,h6⟩,h7⟩,h9⟩:=h1
   have hos:e.os=[]:=by simpa using h8
   split at h2
   ·rename_i s htup
    simp only [Option.some.injEq] at h2
    obtain ⟨q,hq1,hq0,hk⟩:=CM h2
    refine ⟨fun hg=>fun n act hf=> .inr (.inr ⟨e.f,AV.ah ρ args,ent hg n act hf,(key _ _ mr s q (BB (A:=items ρ T (n5 T (some gk) (frz (cN st.G fr.H e.ps args) st.G))) hg (BB (A:=[]) hg hs)) hm h3 htup (hq1 hg)).mono fun v w' hv=> ?_⟩),fun hg=> ?_⟩
    ·obtain ⟨N,N1,N2,D1,D2,I1,I2,X1,X2,n1,c1,c2,c3,c4⟩:=hv
     rw [Hm h4] at c4
     have c5:=Sat.leL c4 Ep
     rw [← List.append_assoc] at c5
     have c6:=Sat.leL c5 Ep
     rw [List.append_assoc] at c6
     exact zI hl hGl n1 h5 h6 h7 h9 c1 c2 c3 hg c6 (.inr hos) hk
    ·have e0:=hq0 hg
     subst e0
     unfold Am at hk
     generalize fill (mJ mr.B st.c) e.r none none mr.B.length (unt _ (L5 _))=L at hk
     obtain ⟨v',R1,k,DD,XX⟩:=L
     dsimp only at hk
     have e2:dx (mJ mr.B st.c) (fxK e.ps args mr.X) e.os k DD=⟨[],[],k,DD⟩:=by rw [hos];rfl
     rw [e2] at hk
     dsimp only at hk
     obtain ⟨d1,d2⟩:=ao hk
     refine ⟨_,aB.old d2 (by simp) rfl rfl ?_⟩
     show Sat (items ρ T ((R1++[]).map (fun x:Bool×Row=>qQ (some gk) x.2)++_)++_) w
     rw [List.append_nil,aJ,List.append_assoc]
     exact sb hs _ (fun it hit=>⟨(wq hg d1 it hit).1,(wq hg d1 it hit).2 _ _⟩)
   ·cases h2
  ·cases h
end
end Go.Proofs.YtgcgmclghbebjaaGreat
namespace Go.Proofs.YtgcgmclghbebjaaGreat
open Go.Lib
def CW:(t:Ty)→List t.T→Option (List Value)
 | .s,xs=>some (xs.map S)
 | .i k,xs=>some (xs.map (.int k))
 | _,_=>none
def glI (p:Nat×Nat×Dyn):Item:=match p.2.2 with
 | ⟨.l t,xs⟩=>(match CW t xs with
  | some cs=>gl p.1 cs
  | none=>fB)
 | _=>fB
def Cx.Γ (X:Cx):Ctx:=X.gls.map glI
def GP:List (Nat×Nat×Dyn)→Nat→Option Dyn
 | [],_=>none
 | p::l,b=>ifS (Nat.beq p.1 b) (some p.2.2) (GP l b)
theorem Hp:{l:List (Nat×Nat×Dyn)}→{b:Nat}→{d:Dyn}→GP l b=some d→ ∃ p,p∈l∧p.1=b∧p.2.2=d
 | [],_,_,h=>by cases h
 | p::l,b,d,h=>by
  unfold GP at h
  rcases cw h with ⟨h1,h2⟩ | ⟨_,h2⟩
  ·cases h2;exact ⟨p,List.mem_cons_self .., Nat.eq_of_beq_eq_true h1,rfl⟩
  ·obtain ⟨q,q1,q2⟩:=Hp h2
   exact ⟨q,List.mem_cons_of_mem _ q1,q2⟩
theorem Of {M:Nat→Prop} {w:World}:{t:Ty}→{xs:List t.T}→{cs:List Value}→CW t xs=some cs→ARd t.rep M w cs xs
 | .s,xs,_,h=>by cases h;exact H3 xs
 | .i k,xs,_,h=>by cases h;exact Fs xs
 | .bo,_,_,h | .un,_,_,h | .n,_,_,h | .p _ _,_,_,h | .l _,_,_,h | .mp _ _,_,_,h | .ex,_,_,h=>by cases h
structure GA where
 n:Nat
 e:TypeId
 b:Nat
 t:Ty
 xs:List t.T
 m:Nat
def gaA (X:Cx) (T:Tbl) (fr:Fr) (st:StB) (g:GK) (t:TypeId) (x:Operand):Option GA:=match X.P.underlying t with
 | some (.array n e)=>(match tiA X.P e with
  | some z=>(match opA T st.E fr.F g x with
   | some (.gp b)=>(match GP X.gls b with
    | some ⟨.l u,xs⟩=>ifS ((CW u xs).isSome&&Nat.beq z.1 u.n'&&Nat.beq n xs.length&&Nat.blt 0 n) (some ⟨n,e,b,u,xs,z.1⟩) none
    | _=>none)
   | _=>none)
  | none=>none)
 | _=>none
section
variable {X : Cx} {R : Type} {r : R} {K : Go_ R} {T : Tbl} {fr : Fr} {st : StB} {g : GK} {d : Tmp} {ρ : Nms} {Φ : Ctx} {w : World} {ty : TypeId} {pos : String} {af : Array Edge} {gd : Option (Nat × Bool)}
theorem OF {t:TypeId} {x:Operand} {q:GA} (hΓ: ∀ it∈X.Γ,it∈Φ) (hs:Sat (items ρ T st.G++(items ρ T fr.H++Φ)) w) (h:gaA X T fr st g t x=some q):
  X.P.underlying t=some (.array q.n q.e)∧(∃ bytes z,TI X.P q.e q.m bytes z)∧Opd (ai ρ T st.E fr.F) (T.get g) x (.pointer (some ⟨q.b,0,none⟩))∧q.m=q.t.rep.n∧q.n=q.xs.length∧Nat.blt 0 q.n=true∧
   SRd q.t.rep (Ctx.M (items ρ T st.G++(items ρ T fr.H++Φ))) w (sl (some ⟨q.b,0,none⟩,q.xs.length,q.xs.length)) q.xs:=by
 unfold gaA at h
 split at h
 ·rename_i n e ht
  split at h
  ·rename_i z hz
   obtain ⟨m,bytes,z⟩:=z
   split at h
   ·rename_i b hx
    split at h
    ·rename_i u xs hg
     obtain ⟨h1,h2⟩:=ao h
     cases h2
     simp only [Bool.and_eq_true] at h1
     obtain ⟨⟨⟨h3,h4⟩,h5⟩,h6⟩:=h1
     have hx':=az (ρ:=ρ) hx
     simp only [AV.val] at hx'
     obtain ⟨p,p1,p2,p3⟩:=Hp hg
     obtain ⟨b',k',d'⟩:=p
     simp only at p2 p3
     subst p2;subst p3
     cases hc:CW u xs with
     | none=>rw [hc] at h3;cases h3
     | some cs=>
      have hmem:gl b' cs∈Φ:=by
       have:=hΓ (glI (b',k',⟨.l u,xs⟩)) (List.mem_map.2 ⟨_,p1,rfl⟩)
       unfold glI at this
       simp only [hc] at this
       exact this
      have hmem2:gl b' cs∈items ρ T st.G++(items ρ T fr.H++Φ):=List.mem_append_right _ (List.mem_append_right _ hmem)
      obtain ⟨i,hi⟩:=List.mem_iff_getElem?.1 hmem2
      obtain ⟨g1,g2⟩:=hs.gl hi
      exact ⟨ht,⟨bytes,z,bH hz⟩,hx',(Nat.eq_of_beq_eq_true h4).trans u.rR.symm,Nat.eq_of_beq_eq_true h5,h6,VX g1 g2 (Of hc)⟩
    ·cases h
   ·cases h
  ·cases h
 ·cases h
def GI (X:Cx) (T:Tbl) (fr:Fr) (st:StB) (g:GK) (d:Tmp) (t:TypeId) (x y:Operand) (K:Go_ R):Option R:=match gaA X T fr st g t x with
 | some q=>(match opA T st.E fr.F g y with
  | some (.int _ i)=>U9 T g st d q.t q.xs i K
  | _=>none)
 | none=>none
theorem G5 {tt:TypeId} {x y:Operand} (hl:st.low fr=true) (hΓ: ∀ it∈X.Γ,it∈Φ) (hs:Sat (items ρ T st.G++(items ρ T fr.H++Φ)) w) (h:GI X T fr st g d tt x y K=some r):
  Okq X.P T g (ai ρ T st.E fr.F) ⟨some d,.indexAddr tt x y,ty,pos,af,gd⟩ w (aB r K T fr st g (some d) ρ Φ):=by
 unfold GI at h
 split at h
 ·rename_i q hq
  obtain ⟨ht,⟨bytes,z,hti⟩,hx',hm,hn,_,hS⟩:=OF hΓ hs hq
  obtain ⟨n,e,b,t,l,m⟩:=q
  simp only at ht hti hx' hm hn hS h
  split at h
  ·rename_i k i hy
   have hy':=az (ρ:=ρ) hy
   simp only [AV.val] at hy'
   obtain ⟨x',b1,b2⟩:=qX h
   have key: ∃ (p:Addr) (ρ1:Nms),aA st.c ρ ρ1∧(ρ1 st.c).a=p∧(T.get g=true→mu (sl (some ⟨b,0,none⟩,l.length,l.length)) i m p)∧
     ∀ it∈items ρ1 T (.elm g st.c (mat t x' (st.c+1)).1::((mat t x' (st.c+1)).2.1.map (nR g))),it.ck=true∧it.P (Ctx.M (items ρ T st.G++(items ρ T fr.H++Φ))) w:=by
    cases hg:T.get g
    ·refine ⟨⟨0,0,none⟩,ρ.set st.c nm0,Nms.aD,by rw [Nms.aS];rfl,(fun h=>by cases h),fun it hit=> ?_⟩
     rw [items,List.map_cons] at hit
     rcases List.mem_cons.1 hit with rfl | hit
     ·exact ⟨rfl,fun h=>by rw [hg] at h;cases h⟩
     ·obtain ⟨r1,hr1,rfl⟩:=List.mem_map.1 hit
      obtain ⟨r2,hr2,rfl⟩:=List.mem_map.1 hr1
      obtain ⟨j1,t1,l1,rfl⟩:=y7 _ _ _ _ hr2
      exact nC (fun h=>by rw [hg] at h;cases h)
    ·obtain ⟨e1,vs,e2,e3,e4⟩:=hS.atA (b1 hg)
     obtain ⟨ρ1,m1⟩:=wa (T:=T) t x' (st.c+1) vs e3 (ρ.set st.c { nm0 with a:=elA (sl (some ⟨b,0,none⟩,l.length,l.length)) i t.rep.n })
     have ha1:(ρ1 st.c).a=elA (sl (some ⟨b,0,none⟩,l.length,l.length)) i t.rep.n:=by rw [m1.ag _ (Nat.lt_succ_self _),Nms.aS]
     refine ⟨elA (sl (some ⟨b,0,none⟩,l.length,l.length)) i t.rep.n,ρ1,Nms.aD.trans m1.ag (Nat.le_succ _),ha1,fun _=>by rw [hm];exact e1,fun it hit=> ?_⟩
     rw [items,List.map_cons] at hit
     rcases List.mem_cons.1 hit with rfl | hit
     ·refine ⟨rfl,fun _=> ?_⟩
      show ¬ Ctx.M _ (ρ1 st.c).a.block∧aM w (ρ1 st.c).a _
      rw [ha1,m1.eq]
      exact ⟨e4,e2⟩
     ·obtain ⟨r1,hr1,rfl⟩:=List.mem_map.1 hit
      obtain ⟨r2,hr2,rfl⟩:=List.mem_map.1 hr1
      have hp2:=m1.rp _ hr2
      obtain ⟨j1,t1,l1,rfl⟩:=m1.rs _ hr2
      exact nC (fun _=>hp2)
   obtain ⟨p,ρ1,k1,k2,k3,k4⟩:=key
   have hs2:=sb hs _ k4
   have eG:=aF (T:=T) k1 (StB.bz.1 hl).2.2.1
   -- what stands there where g does not hold does not count
   have hrun: ∀ w',Run X.P (ai ρ T st.E fr.F) (T.get g) ⟨some d,.indexAddr tt x y,ty,pos,af,gd⟩ w' (.pointer (some ((⟨b,0,none⟩:Addr).add (i.toNat*m)))):=fun w'=>
    ob ht hti hx' hy' (fun hg=>Ui (b1 hg) hn.symm)
   have hout:aB r K T fr st g (some d) ρ Φ (.pointer (some p)) w:=by
    refine aB.new (ρ':=ρ1) hl b2 k1 (Nat.le_trans (Nat.le_succ _) (yW _ _ _)) rfl (by simp only [AV.val,k2];simp [Addr.add]) ?_
    show Sat (items ρ1 T (Row.elm g st.c _::(_++st.G))++_) w
    have e8:items ρ1 T (Row.elm g st.c (mat t x' (st.c+1)).1::((mat t x' (st.c+1)).2.1.map (nR g)++st.G))=items ρ1 T (.elm g st.c (mat t x' (st.c+1)).1::((mat t x' (st.c+1)).2.1.map (nR g)))++items ρ1 T st.G:=by
     simp [items]
    rw [e8,eG,List.append_assoc]
    exact hs2
   cases hg:T.get g
   ·exact ⟨_,fun w'=>fun n a hf hg'=>(by rw [hg] at hg';cases hg'),hout⟩
   ·obtain ⟨a,len,cap,e1,_,_,e2⟩:=k3 hg
    have e3:p=(⟨b,0,none⟩:Addr).add (i.toNat*m):=by
     injection e1 with e1 _ _
     cases e1
     exact e2
    subst e3
    exact ⟨_,hrun,hout⟩
  ·cases h
 ·cases h
def PQ (X:Cx) (T:Tbl) (fr:Fr) (st:StB) (d:Tmp) (t:TypeId) (x:Operand) (lo hi mx:Option Operand) (K:Go_ R):Option R:=match lo,hi,mx with
 | none,none,none=>(match gaA X T fr st none t x with
  | some q=>K { st with c:=st.c+1,E:=bC (some d) none (.sl st.c) st.E,G:= .sli none st.c q.t q.xs false::st.G }
  | none=>none)
 | _,_,_=>none
theorem S8 {t:TypeId} {x:Operand} {lo hi mx:Option Operand} (hl:st.low fr=true) (hΓ: ∀ it∈X.Γ,it∈Φ) (hs:Sat (items ρ T st.G++(items ρ T fr.H++Φ)) w) (h:PQ X T fr st d t x lo hi mx K=some r):
  Ok2 X.P T none (ai ρ T st.E fr.F) ⟨some d,.slice t x lo hi mx,ty,pos,af,gd⟩ w (aB r K T fr st none (some d) ρ Φ):=by
 unfold PQ at h
 split at h
 ·split at h
  ·rename_i q hq
   obtain ⟨ht,⟨bytes,z,hti⟩,hx',hm,hn,hpos,hS⟩:=OF hΓ hs hq
   rw [Tbl.get_none] at hx'
   refine .none_ (aQ.gd (aQ.run (Mz ht hti hpos hx') ?_))
   refine aB.push (x:={ nm0 with v:=(some ⟨q.b,0,none⟩,q.n,q.n) }) hl h (by simp only [AV.val,Nms.aS];rfl) (hs.add rfl ?_)
   intro _
   rw [Nms.aS]
   exact ⟨by rw [hn];exact hS,fun h=>by cases h⟩
  ·cases h
 ·cases h
end
end Go.Proofs.YtgcgmclghbebjaaGreat
namespace Go.Proofs.YtgcgmclghbebjaaGreat
open Go.Lib
def sEq (P:Program) (t:TypeId) (a b:AV):Option Bool:=match P.underlying t with
 | some (.int _)=>(match a,b with
  | .int k x,.int k' y=>ifS (fc k k') (some (x==y)) none
  | _,_=>none)
 | some .bool=>(match a,b with
  | .bool x,.bool y=>some (x==y)
  | _,_=>none)
 | some .string=>(match a,b with
  | .str x,.str y=>some (x==y)
  | _,_=>none)
 | _=>none
def fEq (P:Program):List Field→Nat→List AV→List AV→Option (List Bool)
 | [],_,l1,l2=>ifS (l1.isEmpty&&l2.isEmpty) (some []) none
 | f::fs,k,l1,l2=>(match l1,l2 with
  | a::l1,b::l2=>ifS (f.name != "_" &&Nat.beq f.offset k) (match sEq P f.type a b with
   | some r=>(match fEq P fs (k+1) l1 l2 with
    | some l=>some (r::l)
    | none=>none)
   | none=>none) none
  | _,_=>none)
def GW:Bool→List Bool→Bool
 | b,[]=>b
 | b,c::l=>GW (b&&c) l
def eqL:List Bool→Bool
 | []=>true
 | b::l=>GW b l
theorem Ks: ∀ {l:List Bool} {b:Bool},GW b l=(b&&l.foldr (· && ·) true)
 | [],b=>by simp [GW]
 | c::l,b=>by simp only [GW,Ks,List.foldr_cons,Bool.and_assoc]
theorem Vn: ∀ {l:List Bool},eqL l=l.foldr (· && ·) true
 | []=>rfl
 | b::l=>by simp only [eqL,Ks,List.foldr_cons]
def Qi (X:Cx) (T:Tbl) (E F:al) (g:GK):Op→CV
 | .binOp op t x y _=>(match opA T E F g x with
  | some (.agg l1)=>(match opA T E F g y with
   | some (.agg l2)=>(match X.P.underlying t with
    | some (.struct fs)=>ifS (!(X.P.eqGuardType X.P.depth t)&& !(X.P.stoodInHeld t)) (match fEq X.P fs.toList 0 l1 l2 with
     | some bs=>(match op with
      | .eql=>pv (.bool (eqL bs))
      | .neq=>pv (.bool (!(eqL bs)))
      | _=>none)
     | none=>none) none
    | _=>none)
   | _=>none)
  | _=>none)
 | _=>none
def QY (X:Cx) (T:Tbl) (E F:al) (g:GK):Op→CV
 | .typeAssert x _ t true=>(match X.P.underlying t with
  | some dd=>ifS (!(fk dd)) (match opA T E F g x with
   | some (.ifc t' v)=>ifS (Nat.beq t' t) (pv (.tuple [v,.bool true])) none
   | some (.raw .nilIface)=>(match tiA X.P t with
    | some z=>pv (.tuple [.raw z.2.2,.bool false])
    | none=>none)
   | _=>none) none
  | none=>none)
 | _=>none
def Mt (X:Cx) (T:Tbl) (E F:al) (g:GK):Op→CV
 | .indexAddr t x (.const (.int _ (.ofNat j)))=>(match X.P.underlying t with
  | some (.array n e)=>(match tiA X.P e with
   | some z=>(match opA T E F g x with
    | some (.ptr id off)=>ifS (Nat.blt j n) (pv (.ptr id (off+j*z.1))) none
    | _=>none)
   | none=>none)
  | _=>none)
 | _=>none
def Pz (X:Cx) (T:Tbl) (E F:al) (g:GK) (op:Op):CV:=match RY X T E F g op with
 | some cv=>some cv
 | none=>(match Qi X T E F g op with
  | some cv=>some cv
  | none=>(match QY X T E F g op with
   | some cv=>some cv
   | none=>Mt X T E F g op))
section
variable {X : Cx} {T : Tbl} {E F : al} {g : GK} {ρ : Nms} {w : World} {dst : Option Tmp} {ty : TypeId} {pos : String} {af : Array Edge} {gd : Option (Nat × Bool)}
theorem U0 {P:Program} {t:TypeId} {a b:AV} {r:Bool} (d:Nat) (h:sEq P t a b=some r):(∃ td,P.underlying t=some td∧gR td=false)∧(Op.equalIn (d+1) t (a.val ρ) (b.val ρ)).run P w= .ok r w:=by
 unfold sEq at h
 split at h
 ·rename_i k0 ht
  split at h
  ·rename_i k x k' y
   obtain ⟨h1,h2⟩:=ao h
   cases h2
   have e:=iE h1
   subst e
   exact ⟨⟨_,ht,rfl⟩,by simp only [AV.val];exact run_equalIn_int w d t _ _ _ _ ht⟩
  ·cases h
 ·rename_i ht
  split at h
  ·cases h
   exact ⟨⟨_,ht,rfl⟩,by simp only [AV.val];exact run_equalIn_bool' w d t _ _ ht⟩
  ·cases h
 ·rename_i ht
  split at h
  ·cases h
   exact ⟨⟨_,ht,rfl⟩,by simp only [AV.val];exact Gy _ w d t _ _ ht⟩
  ·cases h
 ·cases h
theorem Oa {P:Program} {xs ys:List Value} (d:Nat): ∀ {fs:List Field} {k:Nat} {l1 l2:List AV} {bs:List Bool},fEq P fs k l1 l2=some bs→xs.drop k=AV.ah ρ l1→ys.drop k=AV.ah ρ l2→
  (Op.eqFields (d+1) xs.toArray ys.toArray fs).run P w= .ok (bs.foldr (· && ·) true) w
 | [],k,l1,l2,bs,h,_,_=>by
  unfold fEq at h
  obtain ⟨_,h2⟩:=ao h
  cases h2
  exact S3
 | f::fs,k,l1,l2,bs,h,hx,hy=>by
  unfold fEq at h
  split at h
  ·rename_i a l1 b l2
   obtain ⟨h1,h2⟩:=ao h
   simp only [Bool.and_eq_true] at h1
   have ho:=Nat.eq_of_beq_eq_true h1.2
   split at h2
   ·rename_i r hr
    split at h2
    ·rename_i l hl
     cases h2
     obtain ⟨⟨td,t1,t2⟩,t3⟩:=U0 (ρ:=ρ) (w:=w) d hr
     simp only [AV.ah] at hx hy
     have gx:xs[k]? =some (a.val ρ):=by rw [← List.head?_drop,hx];rfl
     have gy:ys[k]? =some (b.val ρ):=by rw [← List.head?_drop,hy];rfl
     refine RZ h1.1 (Nj t1 t2 (by rw [ho];exact gx)) (Nj t1 t2 (by rw [ho];exact gy)) t3 ?_
     refine Oa d hl ?_ ?_
     ·rw [← List.drop_drop,hx];rfl
     ·rw [← List.drop_drop,hy];rfl
    ·cases h2
   ·cases h2
  ·cases h
theorem RG {op:Op} {cv:Option Bool×AV} (h:Qi X T E F g op=some cv):j3 X.P (ai ρ T E F) ρ (T.get g) ⟨dst,op,ty,pos,af,gd⟩ w cv:=by
 unfold Qi at h
 split at h
 ·rename_i bop t x y t'
  split at h
  ·rename_i l1 hx
   split at h
   ·rename_i l2 hy
    split at h
    ·rename_i fs ht
     obtain ⟨h1,h2⟩:=ao h
     simp only [Bool.and_eq_true,Bool.not_eq_true'] at h1
     split at h2
     ·rename_i bs hbs
      have hx':=az (ρ:=ρ) hx
      have hy':=az (ρ:=ρ) hy
      simp only [AV.val] at hx' hy'
      have hf:X.P.fieldsOf t=fs:=by simp [Program.fieldsOf,ht]
      have key:(Op.equalIn 10000 t (.agg (AV.ah ρ l1).toArray) (.agg (AV.ah ρ l2).toArray)).run X.P w= .ok (eqL bs) w:=by
       rw [run_equalIn_struct w 9999 t _ _ (by rw [hf];exact ht) h1.2,hf,Vn]
       exact Oa 9998 hbs rfl rfl
      split at h2
      ·refine .pv h2 (bw hx' hy' ?_)
       rw [Sem.run_bind,run_eqGuard_agg w _ _ _ _ _ _ h1.1,Result.andThen_ok,run_eql_struct,key]
       simp only [AV.val,Result.andThen_ok]
      ·refine .pv h2 (bw hx' hy' ?_)
       rw [Sem.run_bind,run_eqGuard_agg w _ _ _ _ _ _ h1.1,Result.andThen_ok,run_neq_struct,key]
       simp only [AV.val,Result.andThen_ok]
      ·cases h2
     ·cases h2
    ·cases h
   ·cases h
  ·cases h
 ·cases h
theorem Rv {op:Op} {cv:Option Bool×AV} (h:QY X T E F g op=some cv):j3 X.P (ai ρ T E F) ρ (T.get g) ⟨dst,op,ty,pos,af,gd⟩ w cv:=by
 unfold QY at h
 split at h
 ·rename_i x s t
  split at h
  ·rename_i dd ht
   obtain ⟨h1,h2⟩:=ao h
   have hd:fk dd=false:=by simpa using h1
   split at h2
   ·rename_i t' v hx
    obtain ⟨h3,h4⟩:=ao h2
    have:=Nat.eq_of_beq_eq_true h3
    subst this
    have hx':=az (ρ:=ρ) hx
    simp only [AV.val] at hx'
    refine .pv h4 ?_
    simp only [AV.val,AV.ah]
    exact Gw ht hd hx'
   ·rename_i hx
    split at h2
    ·rename_i z hz
     obtain ⟨n,bytes,z⟩:=z
     have hx':=az (ρ:=ρ) hx
     simp only [AV.val] at hx'
     refine .pv h2 ?_
     simp only [AV.val,AV.ah]
     exact FY ht hd (bH hz) hx'
    ·cases h2
   ·cases h2
  ·cases h
 ·cases h
theorem ND {op:Op} {cv:Option Bool×AV} (h:Mt X T E F g op=some cv):j3 X.P (ai ρ T E F) ρ (T.get g) ⟨dst,op,ty,pos,af,gd⟩ w cv:=by
 unfold Mt at h
 split at h
 ·rename_i t x k j
  split at h
  ·rename_i n e ht
   split at h
   ·rename_i z hz
    obtain ⟨m,bytes,z⟩:=z
    split at h
    ·rename_i id off hx
     obtain ⟨h1,h2⟩:=ao h
     have hx':=az (ρ:=ρ) hx
     simp only [AV.val] at hx'
     refine .pv h2 ?_
     have hrun:=ob (P:=X.P) (w:=w) (dst:=dst) (ty:=ty) (pos:=pos) (af:=af) (gd:=gd) (y:= .const (.int k (.ofNat j))) ht (bH hz) hx' Opd.c (by
      intro _;rw [Nat.blt_eq] at h1;exact jR.2 ⟨Int.natCast_nonneg j,by simpa using h1⟩)
     have e1:((⟨(ρ id).b,off,none⟩:Addr).add ((Int.ofNat j).toNat*m))=⟨(ρ id).b,off+j*m,none⟩:=by rw [add_plain];rfl
     rw [e1] at hrun
     simpa only [AV.val] using hrun
    ·cases h
   ·cases h
  ·cases h
 ·cases h
theorem Ra {op:Op} {cv:Option Bool×AV} (hT:di T E F) (h:Pz X T E F g op=some cv):j3 X.P (ai ρ T E F) ρ (T.get g) ⟨dst,op,ty,pos,af,gd⟩ w cv:=by
 unfold Pz at h
 split at h
 ·rename_i cv' hcv
  cases h
  exact Qk hT hcv
 ·split at h
  ·rename_i cv' hcv
   cases h
   exact RG hcv
  ·split at h
   ·rename_i cv' hcv
    cases h
    exact Rv hcv
   ·exact ND h
end
end Go.Proofs.YtgcgmclghbebjaaGreat
namespace Go.Proofs.YtgcgmclghbebjaaGreat
def oB {α:Type} (xs ys:List α):List α:=ys.take xs.length++xs.drop ys.length
section
variable {P : Program} {E : Env} {w : World} {g : Bool}
variable {dst : Option Tmp} {ty : TypeId} {pos : String} {af : Array Edge} {gd : Option (Nat × Bool)}
theorem Ps {α:Type} {A:Rep α} {M:Nat→Prop} {v u:Value} {t ty e:TypeId} {bytes:Nat} {z:Value} {R:List Nat} (ht:P.underlying t=some (.slice e)) (hti:TI P e A.n bytes z)
  {xs ys:List α} (ho:Own A e M w v xs R) (hyr:SRd A M w u ys) (_hM: ∀ b∈R,M b):
  ∃ w',(Builtin.copy_ #[t,t] ty #[v,u]).run P w= .ok (.int .i64 ((Nat.min ys.length xs.length:Nat):Int)) w'∧Chg R w w'∧w'.heap.size=w.heap.size∧ ∀ M',Mv M w M' w'→Own A e M' w' v (oB xs ys) R:=by
 obtain ⟨i,hi,hs,_,_⟩:=hti.out
 by_cases h0:xs=[]∨ys=[]
 ·have hc:oB xs ys=xs:=by
   unfold oB
   rcases h0 with h0 | h0 <;> subst h0 <;> simp
  have hn:Nat.min ys.length xs.length=0:=by rcases h0 with h0 | h0 <;> subst h0 <;> simp
  obtain ⟨p,c,rfl,_⟩:=ho.shape
  obtain ⟨a,c2,rfl⟩:=hyr.len
  refine ⟨w,?_,(Ext.refl w).chg _,rfl,fun M' m=> ?_⟩
  ·have hl: ∀ a:Addr,(loadCells a 0).run P w= .ok #[] w:=fun a=>run_loadCells_list (P:=P) w a [] (fun j v hj=>by simp at hj)
   rw [hn]
   cases a <;> cases p <;> simp [Builtin.copy_,run_underlying ht,sizeOf,typeInfo,hi,Builtin.lenOf,Builtin.firstCells,hn,hl,storeCells,goInt]
  ·rw [hc];exact ho.bm (fun b hb=>rfl) m
 ·have hx:xs≠[]:=fun h=>h0 (.inl h)
  have hy:ys≠[]:=fun h=>h0 (.inr h)
  obtain ⟨b,c,cur,rfl,rfl,hh,hcap,hmax,hsz,hrx⟩:=ho.row hx
  rcases hyr with ⟨_,hy0⟩ | ⟨b2,off,cap2,cs2,e2,fr2,rfl,hMb2,hb2,hc2,ho2,hry⟩
  ·exact absurd hy0 hy
  have hly:((cs2.toList.drop off).take (ys.length*A.n)).length=ys.length*A.n:=hry.1
  generalize hcy:(cs2.toList.drop off).take (ys.length*A.n)=cy at hry hly
  have hn1:Nat.min ys.length xs.length≤ys.length:=Nat.min_le_left _ _
  have hn2:Nat.min ys.length xs.length≤xs.length:=Nat.min_le_right _ _
  generalize hn:Nat.min ys.length xs.length=n at hn1 hn2
  have m1:n*A.n≤ys.length*A.n:=Nat.mul_le_mul_right _ hn1
  have m2:n*A.n≤xs.length*A.n:=Nat.mul_le_mul_right _ hn2
  have m3:xs.length*A.n≤c*A.n:=Nat.mul_le_mul_right _ hcap
  have hcl:(cy.take (n*A.n)).length=n*A.n:=by rw [List.length_take];omega
  have hcurl:cur.toList.length=c*A.n:=by simpa using hsz
  have run:=mK (P:=P) (w:=w) (ty:=ty) ht hti (b:=b) (o:=0) (dl:=xs.length) (dc:=c) (cur:=cur) (e':=e) (a:=⟨b2,off,none⟩) (ls:=ys.length) (sc:=cap2) (cs:=cy.take (n*A.n))
   (by rw [hcl,hn]) (cell_of_heap hb2 off _ (by
    rw [hcl,← hcy,List.take_take,Nat.min_eq_left m1])) hh (by rw [hcl];omega) (fun v hv=>hry.rA v (List.mem_of_mem_take hv))
  refine ⟨_,by rw [run,hn];rfl,nZ b _,by simp,fun M' m=> ?_⟩
  have hd:oB xs ys=ys.take n++xs.drop n:=by
   unfold oB
   have hn':min ys.length xs.length=n:=hn
   clear hn
   rcases Nat.le_total ys.length xs.length with h | h
   ·rw [Nat.min_eq_left h] at hn'
    subst hn'
    rw [List.take_of_length_le h,List.take_of_length_le (Nat.le_refl _)]
   ·rw [Nat.min_eq_right h] at hn'
    subst hn'
    rw [List.drop_eq_nil_of_le h,List.drop_eq_nil_of_le (Nat.le_refl _)]
  have hlen:(oB xs ys).length=xs.length:=by rw [hd,List.length_append,List.length_take,List.length_drop];omega
  have key:=(((hry.take n).mv m).append ((hrx.drop n).mv m))
  have hrow:=setRow_heap w b cur (cur.toList.take 0++cy.take (n*A.n)++cur.toList.drop (0+(cy.take (n*A.n)).length)).toArray e (0,0) hh
  have hv:Value.slice (some ⟨b,0,none⟩) xs.length c=Value.slice (some ⟨b,0,none⟩) (oB xs ys).length c:=by rw [hlen]
  rw [hv]
  refine Own.mk_ hrow (by rw [hlen];exact hcap) hmax ?_ ?_
  ·simp only [List.take_zero,List.nil_append,Nat.zero_add,List.size_toArray,List.length_append,hcl,List.length_drop,hcurl];omega
  ·rw [hlen,hd]
   simp only [List.take_zero,List.nil_append,Nat.zero_add,hcl]
   have e1:((cy.take (n*A.n))++cur.toList.drop (n*A.n)).take (xs.length*A.n)=cy.take (n*A.n)++(cur.toList.take (xs.length*A.n)).drop (n*A.n):=by
    rw [List.take_append,hcl,List.take_take,Nat.min_eq_right m2,List.drop_take]
   rw [e1]
   simpa only [List.take_zero,List.nil_append,Nat.zero_add,hcl] using key
theorem Mk {x y:Operand} {t e:TypeId} {n m bytes:Nat} {z v:Value} {d:TypeDesc} {cs:List Value} {i:Int} {k:IntKind} (ht:P.underlying t=some (.array n e)) (hd:P.underlying e=some d) (hti:TI P e m bytes z)
  (hx:Opd E g x (.agg cs.toArray)) (hy:Opd E g y (.int k i)) (h0:0≤i) (h1:i<(n:Nat)) (hv:(if gR d then some (.agg ((cs.drop (i.toNat*m)).take m).toArray) else cs[i.toNat*m]?)=some v):
  Run P E g ⟨dst,.index t x y,ty,pos,af,gd⟩ w v:=
 fun n' a hf hg=>by
  have hp:=Jx (w:=w) hd hti hv
  obtain ⟨i',hi,hs,_,_⟩:=hti.out
  simp [execOp,hx n' a hf hg,hy n' a hf hg,Instr.index,asIntOf,run_underlying ht,sizeOf,typeInfo,hi,hs,h0,h1,hp]
theorem J5 {x y y3:Operand} {p:Addr} {len m bytes:Nat} {z:Value} {t e:TypeId} {k k3:IntKind} (ht:P.underlying t=some (.array len e)) (hti:TI P e m bytes z) (hx:Opd E g x (.pointer (some p))) (hy:Opd E g y (.int k (len:Nat))) (h3:Opd E g y3 (.int k3 (len:Nat))):
  Run P E g ⟨dst,.slice t x none (some y) (some y3),ty,pos,af,gd⟩ w (.slice (some p) len len):=
 fun n' a hf hg=>by
  obtain ⟨i',hii,hs,_,_⟩:=hti.out
  simp [execOp,hx n' a hf hg,hy n' a hf hg,h3 n' a hf hg,Instr.sliceAt,run_underlying ht,Instr.sureAddr,Instr.sliceBounds,run_sliceBound,sizeOf,typeInfo,hii,Addr.add]
theorem Nb {x y:Operand} {t t' u:TypeId} {d:TypeDesc} {v:Value} (ht:P.underlying t=some d) (hd:fk d=true) (hx:Opd E g x (.iface u v)) (hy:Opd E g y .nilIface):
  Run P E g ⟨dst,.binOp .neq t x y t',ty,pos,af,gd⟩ w (.bool true):=
 bw (P:=P) hx hy (by
  rw [Sem.run_bind,cp rfl,Result.andThen_ok]
  have h: ∀ k:Nat,(Op.equalIn (k+1) t (.iface u v) .nilIface).run P w= .ok false w:=fun k=>by
   cases d <;> first | (cases hd;done) | simp [Op.equalIn,run_underlying ht]
  simp only [binOp]
  simp [Op.equal,Op.maxDepth,h 9999])
theorem Ki {x:Operand} {t t':TypeId} {d:TypeDesc} (ht:P.underlying t=some d) (hd:fk d=true) (hx:Opd E g x .nilIface):
  Run P E g ⟨dst,.binOp .neq t x (.const .nilIface) t',ty,pos,af,gd⟩ w (.bool false):=
 bw (P:=P) hx (y:= .const .nilIface) (v:= .nilIface) (fun _ _ _ _=>rfl) (by
  have h: ∀ k:Nat,(Op.equalIn (k+1) t .nilIface .nilIface).run P w= .ok true w:=fun k=>by
   cases d <;> first | (cases hd;done) | simp [Op.equalIn,run_underlying ht]
  have h2:(eqGuard .neq t x (.const .nilIface) .nilIface .nilIface).run P w= .ok () w:=by
   unfold eqGuard
   simp
  rw [Sem.run_bind,h2,Result.andThen_ok]
  simp only [binOp]
  simp [Op.equal,Op.maxDepth,h 9999])
theorem Reach.val {t:TypeId} {d:TypeDesc} {u:Value} {name:String} {f:FuncId} (h:za P t name f false) (ht:P.underlying t=some d) (hd: ∀ e,d≠ .pointer e):Reach P w t u name f u:=fun k=>by
 obtain ⟨i,m,hi,hm,hp,hf⟩:=h.out
 unfold method
 simp only [typeInfo,hi,hm,hp,hf,follow,Sem.run_bind,Sem.run_pure,Result.andThen_ok,run_program]
 cases d <;> first | exact absurd rfl (hd _) | simp [receiverAt,run_underlying ht,Place.get]
theorem J9 {n:Nat} {g:Bool} {f:FuncId} {r:Operand} {it t:TypeId} {d:TypeDesc} {u u':Value} {name:String} {vs:List Value} {xs:List Operand} {tys:Array TypeId} {dst:Option Tmp} {gd:Option (Nat×Bool)}
  (he:cV P f) (hr:Opd E g r (.func (.methodOf it name) #[] #[])) (hit:P.underlying it=some d) (hd:fk d=true) (hm:g=true→Reach P w t u name f u') (hxs:jS E g xs (.iface t u::vs)) {a:Act} (hf:Fits n E a) (hg:g=true):
  (execOp a.eval ⟨dst,.call ⟨.value r,xs.toArray,tys⟩,ty,pos,af,gd⟩).run P w= .ok (.enter f (u'::vs).toArray) w:=by
 have e1:(Array.map a.eval xs.toArray)=(Value.iface t u::vs).toArray:=by simp [hxs.map hf hg]
 have h1:=he (u'::vs).toArray w
 have h2:=hm hg (P.types.size+99)
 have e2:P.types.size+99+1=P.types.size+Made.depth:=rfl
 rw [e2] at h2
 have e3:((Value.iface t u::vs).toArray)[0]? =some (Value.iface t u):=by simp
 have e4:((Value.iface t u::vs).toArray).extract 1 ((Value.iface t u::vs).toArray).size=vs.toArray:=by simp
 have e5:(#[u']++vs.toArray)=(u'::vs).toArray:=by simp
 cases d <;> first | (cases hd;done) | skip
 simp only [execOp,resolve,hr n a hf hg,Deferred.ofValue,e1,Sem.run_bind,Sem.run_pure,Result.andThen_ok]
 simp only [Array.empty_append,invoke,e3,e4,Sem.run_bind,run_underlying hit,Result.andThen_ok,callMethod,run_program,h2,e5,h1]
end
end Go.Proofs.YtgcgmclghbebjaaGreat
namespace Go.Proofs.YtgcgmclghbebjaaGreat
open Go.Lib
def Qs (X:Cx) (T:Tbl) (E F:al) (g:GK):Op→CV
 | .index t x y=>(match X.P.underlying t with
  | some (.array n e)=>(match tiA X.P e with
   | some z=>(match opA T E F g x with
    | some (.agg cs)=>(match opA T E F g y with
     | some (.int _ i)=>ifS (decide (0≤i)&&decide (i<(n:Int))) (match iD X.P e (cs.drop (i.toNat*z.1)) with
      | some v=>pv v
      | none=>none) none
     | _=>none)
    | _=>none)
   | none=>none)
  | _=>none)
 | .binOp .neq t x (.const .nilIface) _=>(match X.P.underlying t with
  | some d=>ifS (fk d) (match opA T E F g x with
   | some (.ifc _ _)=>pv (.bool true)
   | some (.raw .nilIface)=>pv (.bool false)
   | _=>none) none
  | none=>none)
 | .makeFunc (.methodOf t nm) ⟨[]⟩ ⟨[]⟩=>pv (.raw (.func (.methodOf t nm) #[] #[]))
 | _=>none
section
variable {X : Cx} {ρ : Nms} {T : Tbl} {E F : al} {g : GK} {w : World} {dst : Option Tmp} {ty : TypeId} {pos : String} {af : Array Edge} {gd : Option (Nat × Bool)}
theorem RA {op:Op} {cv:Option Bool×AV} (h:Qs X T E F g op=some cv):j3 X.P (ai ρ T E F) ρ (T.get g) ⟨dst,op,ty,pos,af,gd⟩ w cv:=by
 unfold Qs at h
 split at h
 ·rename_i t x y
  split at h
  ·rename_i n e ht
   split at h
   ·rename_i z hz
    obtain ⟨m,bytes,z⟩:=z
    split at h
    ·rename_i cs hx
     split at h
     ·rename_i k i hy
      obtain ⟨h1,h2⟩:=ao h
      simp only [Bool.and_eq_true,decide_eq_true_eq] at h1
      split at h2
      ·rename_i v hv
       obtain ⟨d,n',bytes',z',c1,c2,c3⟩:=kD (ρ:=ρ) hv
       have hx':=az (ρ:=ρ) hx
       have hy':=az (ρ:=ρ) hy
       simp only [AV.val] at hx' hy'
       have hti:=bH hz
       refine .pv h2 (Mk ht c1 hti hx' hy' h1.1 h1.2 ?_)
       cases hd:gR d
       ·rw [hd] at c3;exact c3
       ·rw [hd] at c3
        have e1:=c2 hd
        unfold TI at e1 hti
        rw [hti] at e1
        simp only [Option.some.injEq,Prod.mk.injEq] at e1
        have e2:m=n':=e1.1
        subst e2;exact c3
      ·cases h2
     ·cases h
    ·cases h
   ·cases h
  ·cases h
 ·split at h
  ·rename_i d ht
   obtain ⟨h1,h2⟩:=ao h
   split at h2
   ·rename_i u v hx
    have hx':=az (ρ:=ρ) hx
    simp only [AV.val] at hx'
    exact .pv h2 (Nb ht h1 hx' (fun _ _ _ _=>rfl))
   ·rename_i hx
    have hx':=az (ρ:=ρ) hx
    simp only [AV.val] at hx'
    exact .pv h2 (Ki ht h1 hx')
   ·cases h2
  ·cases h
 ·exact .pv h (yx (first:=[]) (cap:=[]) .nil .nil)
 ·cases h
end
end Go.Proofs.YtgcgmclghbebjaaGreat
namespace Go.Proofs.YtgcgmclghbebjaaGreat
open Go.Lib
def Pp (X:Cx) (T:Tbl) (E F:al) (g:GK):Op→CV
 | .binOp .eql t x y _=>(match X.P.underlying t with
  | some (.pointer _)=>(match opA T E F g x with
   | some (.sfp _ f)=>(match opA T E F g y with
    | some (.raw (.pointer none))=>pv (.bool (!f))
    | _=>none)
   | _=>none)
  | _=>none)
 | .binOp .neq t x y _=>(match X.P.underlying t with
  | some (.pointer e)=>(match tiA X.P e with
   | some _=>(match opA T E F g x with
    | some (.sfp j f)=>(match opA T E F g y with
     | some (.ptr j' 0)=>ifS (Nat.beq j j') (pv (.bool (!f))) none
     | _=>none)
    | _=>none)
   | none=>none)
  | _=>none)
 | .call ⟨.value (.func f),⟨[x]⟩,_⟩=>ifS (na f X.ids) (match opA T E F g x with
  | some v=>pv v
  | none=>none) none
 | _=>none
def PS (X:Cx) (T:Tbl) (E F:al) (G H:List Row) (g:GK):Op→CV
 | .convert s d x=>(match opA T E F g x with
  | some (.ptr j 0)=>(match cz G H (pR j) with
   | some (_,.box _ e' cs)=>(match X.P.underlying s with
    | some (.pointer e)=>(match X.P.underlying d with
     | some .unsafePointer=>(match tiA X.P e with
      | some z=>ifS (Nat.blt 0 z.1&&Nat.blt 0 cs.length) (pv (.ptr j 0)) none
      | none=>none)
     | _=>none)
    | some .unsafePointer=>(match X.P.underlying d with
     | some (.pointer e)=>(match tiA X.P e with
      | some _=>ifS (liesAt X.P X.P.depth e' (cs.length/X.P.cellsOf e') 0 e 1) (pv (.ptr j 0)) none
      | none=>none)
     | _=>none)
    | _=>none)
   | _=>none)
  | _=>none)
 | _=>none
def LB (X:Cx) (T:Tbl) (E F:al) (g:GK) (op:Op):CV:=match Pz X T E F g op with
 | some cv=>some cv
 | none=>(match Qs X T E F g op with
  | some cv=>some cv
  | none=>Pp X T E F g op)
def Ni (X:Cx) (T:Tbl) (E F:al) (G H:List Row) (g:GK) (op:Op):CV:=match RX X T E F G H g op with
 | some cv=>some cv
 | none=>PS X T E F G H g op
abbrev VB (xs ys:List Int):List Int:=xs++ys
def Lp {R:Type} (X:Cx) (T:Tbl) (fr:Fr) (st:StB) (d:Tmp) (t u:TypeId) (x y:Operand) (K:Go_ R):Option R:=match eI X.P t with
 | some e=>(match tiA X.P e with
  | some (1,1,.int .u8 (.ofNat 0))=>ifS (isStr X.P u) (match opA T st.E fr.F none y with
   | some (.str s)=>(match opA T st.E fr.F none x with
    | some (.sl id)=>(match cz st.G fr.H (jQ id) with
     | some (.top j,.own _ u' e' xs _)=>ifS (Nat.beq e e') (match mg.Dyn.asL (.i .u8) ⟨.l u',xs⟩ with
      | some xs=>chk (aw (List.length xs+s.length) 1) (K { st with c:=st.c+1,E:=bC (some d) none (.sl st.c) st.E,G:=st.G.set j (.own st.c (.i .u8) e (VB xs (bytesOf s)) st.c) })
      | none=>none) none
     | _=>none)
    | some (.raw (.slice none 0 0))=>chk (aw (([]:List Int).length+s.length) 1) (K { st with c:=st.c+1,E:=bC (some d) none (.sl st.c) st.E,G:= .own st.c (.i .u8) e (([]:List Int)++bytesOf s) st.c::st.G })
    | _=>none)
   | _=>none) none
  | _=>none)
 | none=>none
section
variable {X : Cx} {T : Tbl} {E F : al} {G H : List Row} {g : GK} {ρ : Nms} {w : World} {dst : Option Tmp} {ty : TypeId} {pos : String} {af : Array Edge} {gd : Option (Nat × Bool)} {Φ : Ctx}
theorem PE {op:Op} {cv:Option Bool×AV} (h:Pp X T E F g op=some cv):j3 X.P (ai ρ T E F) ρ (T.get g) ⟨dst,op,ty,pos,af,gd⟩ w cv:=by
 unfold Pp at h
 split at h
 ·rename_i t x y s
  split at h
  ·rename_i e ht
   split at h
   ·rename_i j f hx
    split at h
    ·rename_i hy
     have hx':=az (ρ:=ρ) hx
     have hy':=az (ρ:=ρ) hy
     simp only [AV.val] at hx' hy'
     exact .pv h (L7 ht hx' hy')
    ·cases h
   ·cases h
  ·cases h
 ·rename_i t x y s
  split at h
  ·rename_i e ht
   split at h
   ·rename_i z hz
    obtain ⟨n,bytes,z⟩:=z
    split at h
    ·rename_i j f hx
     split at h
     ·rename_i j' hy
      obtain ⟨h1,h2⟩:=ao h
      have:=Nat.eq_of_beq_eq_true h1
      subst this
      have hx':=az (ρ:=ρ) hx
      have hy':=az (ρ:=ρ) hy
      simp only [AV.val] at hx' hy'
      exact .pv h2 (Nv ht (bH hz) hx' hy')
     ·cases h
    ·cases h
   ·cases h
  ·cases h
 ·rename_i f x tys
  obtain ⟨h1,h2⟩:=ao h
  split at h2
  ·rename_i v hx
   exact .pv h2 (RW (X.idsOk f (G7.1 h1)) (az (ρ:=ρ) hx))
  ·cases h2
 ·cases h
theorem Ql {op:Op} {cv:Option Bool×AV} (hs:Sat (items ρ T G++(items ρ T H++Φ)) w) (h:PS X T E F G H g op=some cv):j3 X.P (ai ρ T E F) ρ (T.get g) ⟨dst,op,ty,pos,af,gd⟩ w cv:=by
 unfold PS at h
 split at h
 ·rename_i s d x
  split at h
  ·rename_i j hx
   split at h
   ·rename_i sr j' e' cs hf
    obtain ⟨f1,f2⟩:=ba hf
    have:j'=j:=Nat.eq_of_beq_eq_true f2
    subst this
    have hb:cG w (ρ j').b e' (AV.ah ρ cs):=Src.holds hs f1
    have hx':=az (ρ:=ρ) hx
    simp only [AV.val] at hx'
    split at h
    ·rename_i e hse
     split at h
     ·rename_i hde
      split at h
      ·rename_i z hz
       obtain ⟨n,bytes,z⟩:=z
       obtain ⟨h1,h2⟩:=ao h
       simp only [Bool.and_eq_true] at h1
       refine .pv h2 ?_
       simp only [AV.val]
       exact Jc hse hde (bH hz) h1.1 hx' hb (by rw [AV.aH];exact h1.2)
      ·cases h
     ·cases h
    ·rename_i hse
     split at h
     ·rename_i e hde
      split at h
      ·rename_i z hz
       obtain ⟨n,bytes,z⟩:=z
       obtain ⟨h1,h2⟩:=ao h
       refine .pv h2 ?_
       simp only [AV.val]
       exact Ei hse hde (bH hz) hx' hb (by rw [AV.aH];exact h1)
      ·cases h
     ·cases h
    ·cases h
   ·cases h
  ·cases h
 ·cases h
theorem G2 {op:Op} {cv:Option Bool×AV} (hT:di T E F) (h:LB X T E F g op=some cv):j3 X.P (ai ρ T E F) ρ (T.get g) ⟨dst,op,ty,pos,af,gd⟩ w cv:=by
 unfold LB at h
 split at h
 ·rename_i cv' hcv
  cases h
  exact Ra hT hcv
 ·split at h
  ·rename_i cv' hcv
   cases h
   exact RA hcv
  ·exact PE h
theorem Iw {op:Op} {cv:Option Bool×AV} (hs:Sat (items ρ T G++(items ρ T H++Φ)) w) (h:Ni X T E F G H g op=some cv):j3 X.P (ai ρ T E F) ρ (T.get g) ⟨dst,op,ty,pos,af,gd⟩ w cv:=by
 unfold Ni at h
 split at h
 ·rename_i cv' hcv
  cases h
  exact Pq hs hcv
 ·exact Ql hs h
end
section
variable {X : Cx} {R : Type} {r : R} {K : Go_ R} {T : Tbl} {fr : Fr} {st : StB} {d : Tmp} {ρ : Nms} {Φ : Ctx} {w : World} {ty : TypeId} {pos : String} {af : Array Edge} {gd : Option (Nat × Bool)}
theorem zN {P:Program} {E:Env} {M:Nat→Prop} {v:Value} {x y:Operand} {t u e:TypeId} {R:List Nat} {xs:List Int} {s:Str} (ht:P.underlying t=some (.slice e)) (hu:P.underlying u=some .string) (hti:TI P e 1 1 (.int .u8 0)) (hx:Opd E true x v) (hy:Opd E true y (S s))
  (hO:Own (RI .u8) e M w v xs R) (hM: ∀ b∈R,M b) (hroom:aw (xs.length+s.length) 1=true):
  ∃ v' R' w',j4 P E ⟨some d,.call ⟨.builtin .append,#[x,y],#[t,u]⟩,ty,pos,af,gd⟩ w v' w'∧Chg R w w'∧(∀ b∈R',b<w'.heap.size∧(b∈R∨w.heap.size≤b))∧ ∀ M',Mv M w M' w'→Own (RI .u8) e M' w' v' (xs++bytesOf s) R':=by
 rcases hO with ⟨rfl,ho⟩ | ⟨rfl,rfl,⟨a0,rfl⟩,hr0⟩
 ·obtain ⟨v',w',hr,hC,hR,hO⟩:=tw t u ty e ht hu hti ho hM hroom
  exact ⟨v',blk v',w',(fun n' a hf=>by simp [execOp,resolve,invoke,builtin,hx n' a hf rfl,hy n' a hf rfl,hr]),hC,hR,fun M' m=>Own.of (hO M' m)⟩
 ·rcases AK (M:=M) (w:=w) t u ty e ht hu hti (a0:=a0) (s:=s) (by simpa using hroom) with ⟨hr,rfl⟩ | ⟨v',w',hr,hE,hB,hO⟩
  ·exact ⟨.slice a0 0 0,[],w,(fun n' a hf=>by simp [execOp,resolve,invoke,builtin,hx n' a hf rfl,hy n' a hf rfl,hr]),(Ext.refl w).chg _,(fun b hb=>by cases hb),fun M' m=>by simpa [bytesOf] using Own.empty (e:=e) (hr0.mv m)⟩
  ·exact ⟨v',blk v',w',(fun n' a hf=>by simp [execOp,resolve,invoke,builtin,hx n' a hf rfl,hy n' a hf rfl,hr]),hE.chg _,(fun b hb=>⟨(hB b hb).1,.inr (hB b hb).2⟩),fun M' m=>Own.of (by simpa using hO M' m)⟩
theorem QU {t u:TypeId} {x y:Operand} (hl:st.low fr=true) (hs:Sat (items ρ T st.G++(items ρ T fr.H++Φ)) w) (h:Lp X T fr st d t u x y K=some r):
  Ok2 X.P T none (ai ρ T st.E fr.F) ⟨some d,.call ⟨.builtin .append,#[x,y],#[t,u]⟩,ty,pos,af,gd⟩ w (aB r K T fr st none (some d) ρ Φ):=by
 have hGl:=(StB.bz.1 hl).2.2.1
 unfold Lp at h
 split at h
 ·rename_i e he
  split at h
  ·rename_i hz
   have hti:TI X.P e 1 1 (.int .u8 0):=bH hz
   obtain ⟨hu,h⟩:=ao h
   have hu':=lB hu
   split at h
   ·rename_i s hy
    have hy':=aT (ρ:=ρ) hy
    simp only [AV.val] at hy'
    split at h
    ·rename_i id hx
     have hx':=aT (ρ:=ρ) hx
     simp only [AV.val] at hx'
     split at h
     ·rename_i j id' u' e' xs' ver hf
      obtain ⟨h3,h4⟩:=ao h
      have:=Nat.eq_of_beq_eq_true h3
      subst this
      split at h4
      ·rename_i xs hxs
       obtain ⟨eu,ex⟩:=lC hxs
       subst eu
       simp only at ex
       subst ex
       obtain ⟨h5,h6⟩:=fZ h4
       obtain ⟨f1,f2⟩:=ba hf
       have:id'=id:=Nat.eq_of_beq_eq_true f2
       subst this
       have hi:=dF (ρ:=ρ) (T:=T) (Φ:=items ρ T fr.H++Φ) f1
       obtain ⟨hO,_⟩:=hs.at_ hi
       obtain ⟨v',R',w',hr,hC,hR,hP⟩:=zN (P:=X.P) (E:=ai ρ T st.E fr.F) (w:=w) (d:=d) (ty:=ty) (pos:=pos) (af:=af) (gd:=none) (bq he) hu' hti hx' hy' hO (fun b hb=>Ctx.gA hi hb) h5
       have mv0:Mv (Ctx.M (items ρ T st.G++(items ρ T fr.H++Φ))) w (Ctx.M (items ρ T st.G++(items ρ T fr.H++Φ))) w':=⟨hC.size,fun b hb hn=>⟨hn,hC.block b hb (fun hc=>hn (Ctx.gA hi hc))⟩⟩
       have hO':=hP _ mv0
       have hv: ∃ p:SLV,v'=sl p:=by
        obtain ⟨a,cap,hv⟩:=hO'.len
        exact ⟨(a,_,cap),hv⟩
       obtain ⟨p,rfl⟩:=hv
       have hj:j<st.G.length:=(List.getElem?_eq_some_iff.1 f1).1
       refine .none_ (aQ.gd (aQ.kT hr (aB.new (ρ':=ρ.set st.c { nm0 with v:=p,y:=⟨.l (.i .u8),VB xs' (bytesOf s)⟩ }) hl h6 Nms.aD (Nat.le_succ _) rfl (by simp only [AV.val,Nms.aS]) ?_)))
       show Sat (items _ T (st.G.set j _)++_) _
       rw [du hj,aF Nms.aD hGl]
       refine hs.upd hi hC (fun b hb=> ?_) (fun M' m _=> ?_)
       ·simp only [Row.item,Nms.aS] at hb
        exact hR b (hO'.canon.1 b hb)
       ·simp only [Row.item,Nms.aS]
        exact ⟨hO'.canon.2 _ _ (hP M' m),trivial⟩
      ·cases h4
     ·cases h
    ·rename_i hx
     have hx':=aT (ρ:=ρ) hx
     simp only [AV.val] at hx'
     obtain ⟨h5,h6⟩:=fZ h
     obtain ⟨v',R',w',hr,hC,hR,hP⟩:=zN (P:=X.P) (E:=ai ρ T st.E fr.F) (w:=w) (d:=d) (ty:=ty) (pos:=pos) (af:=af) (gd:=none) (M:=Ctx.M (items ρ T st.G++(items ρ T fr.H++Φ))) (xs:=([]:List Int)) (bq he) hu' hti hx' hy' Own.nil (fun b hb=>by cases hb) h5
     have hE:Ext w w':=⟨hC.os,hC.tape,hC.output,hC.size,fun b hb=>hC.block b hb (fun h=>by cases h)⟩
     have hO':=hP _ (hE.mv _)
     have hv: ∃ p:SLV,v'=sl p:=by
      obtain ⟨a,cap,hv⟩:=hO'.len
      exact ⟨(a,_,cap),hv⟩
     obtain ⟨p,rfl⟩:=hv
     refine .none_ (aQ.gd (aQ.kT hr ?_))
     exact o6 (d:=d) (t:= .i .u8) (e:=e) (p:=p) hl hGl hs hE (fun b hb=>by
      obtain ⟨q1,q2⟩:=hR b (hO'.canon.1 b hb)
      rcases q2 with q2 | q2
      ·cases q2
      ·exact ⟨q1,q2⟩) (fun M' m=>hO'.canon.2 _ _ (hP M' m)) rfl h6
    ·cases h
   ·cases h
  ·cases h
 ·cases h
def GS {R:Type} (T:Tbl) (fr:Fr) (st:StB) (d:Tmp) (x:Operand) (K:Go_ R):Option R:=match opA T st.E fr.F none x with
 | some (.sl id)=>(match cz st.G fr.H (jQ id) with
  | some (_,.own _ t _ l ver)=>Vv T none st d id ver t l 0 K
  | _=>none)
 | _=>none
def M6 {R:Type} (X:Cx) (T:Tbl) (fr:Fr) (st:StB) (d:Tmp) (pt:TypeId) (x y:Operand) (K:Go_ R):Option R:=match X.P.underlying pt with
 | some (.pointer e)=>ifS (Nat.beq (X.P.cellsOf e) 1) (match opA T st.E fr.F none x with
  | some (.adr q 0)=>(match opA T st.E fr.F none y with
   | some (.int .i64 m)=>(match cz st.G fr.H (Cj q) with
    | some (_,.kn none _ id ver _ i _)=>(match cz st.G fr.H (jQ id) with
     | some (.top j,.own _ u e' xs ver')=>ifS (Nat.beq ver ver'&&Nat.beq e e') (match mg.Dyn.asL (.i .u8) ⟨.l u,xs⟩ with
      | some xs=>chk (decide (i=0)&&decide (m=(List.length xs:Int))) (K { st with E:=bC (some d) none (.str (strOf xs)) st.E,G:=st.G.set j (.sli none id (.i .u8) xs false) })
      | none=>none) none
     | _=>none)
    | _=>none)
   | _=>none)
  | _=>none) none
 | _=>none
theorem Own.NG {α:Type} {A:Rep α} {e:TypeId} {M:Nat→Prop} {w:World} {v:Value} {xs:List α} {R:List Nat} (h:Own A e M w v xs R) (h0:xs≠[]):Roomy v:=by
 rcases h with ⟨_,cells,h1,_⟩ | ⟨_,rfl,_⟩
 ·rcases h1.2 with ⟨_,hz⟩ | ⟨g,cap,cur,rfl,_,_,hc,_⟩
  ·exact absurd (List.eq_nil_of_length_eq_zero hz) h0
  ·obtain ⟨k,rfl⟩: ∃ k,cap=k+1:=⟨cap-1,by have:=List.length_pos_iff.2 h0;omega⟩
   exact ⟨g,_,k,rfl⟩
 ·exact absurd rfl h0
theorem Fm {v:SLV} {n:Nat} (h:Roomy (sl v)):v.1=some (elA (sl v) 0 n):=by
 obtain ⟨b,len,cap,e⟩:=h
 obtain ⟨v1,v2,v3⟩:=v
 simp only [sl,Value.slice.injEq] at e
 obtain ⟨rfl,rfl,rfl⟩:=e
 simp [sl,elA,Addr.add]
theorem N5 {α:Type} {l:List α} {i:Int} {x:α} (h:idx l i=some x):l≠[]:=fun e=>by
 subst e
 unfold idx at h
 split at h <;> cases h
theorem Ii {x:Operand} {ts:Array TypeId} (hl:st.low fr=true) (hs:Sat (items ρ T st.G++(items ρ T fr.H++Φ)) w) (h:GS T fr st d x K=some r):
  Okq X.P T none (ai ρ T st.E fr.F) ⟨some d,.call ⟨.builtin .unsafeSliceData,#[x],ts⟩,ty,pos,af,gd⟩ w (aB r K T fr st none (some d) ρ Φ):=by
 unfold GS at h
 split at h
 ·rename_i id hx
  have hx':=aT (ρ:=ρ) hx
  simp only [AV.val] at hx'
  split at h
  ·rename_i s id' t e' l ver hf
   obtain ⟨f1,f2⟩:=ba hf
   have:id'=id:=Nat.eq_of_beq_eq_true f2
   subst this
   obtain ⟨x',b1,b2⟩:=qX h
   have b1:=b1 Tbl.get_none
   obtain ⟨hO,hy2⟩:=Src.holds hs f1
   have hrow:id'<st.c∧ver<st.c:=by
    have:(Row.own id' t e' l ver).low st.c=true:=by
     cases s with
     | top j=>exact lU (StB.bz.1 hl).2.2.1 f1
     | frz j=>exact lU (StB.bz.1 hl).2.2.2 f1
     | _=>exact f1.elim
    simpa only [Row.low,Bool.and_eq_true,Nat.blt_eq] using this
   have hr:=hO.NG (N5 b1)
   have hout:aB r K T fr st none (some d) ρ Φ (.pointer (some (elA (sl (ρ id').v) 0 t.rep.n))) w:=by
    refine aB.push (x:={ nm0 with a:=elA (sl (ρ id').v) 0 t.rep.n }) hl b2 (by simp only [AV.val,Nms.aS];simp [Addr.add]) (hs.add rfl ?_)
    intro hg
    rw [Nms.aD _ hrow.1,Nms.aD _ hrow.2,Nms.aS]
    exact ⟨l,hy2,b1,rfl⟩
   refine ⟨_,fun w'=> ?_,hout⟩
   rw [← Fm hr]
   rw [Tbl.get_none]
   exact Oj (g:=true) hx' (fun _=>hr)
  ·cases h
 ·cases h
theorem R3 {P:Program} {E:Env} {v:SLV} {x y:Operand} {pt it e:TypeId} {M:Nat→Prop} {R:List Nat} {xs:List Int} (hO:Own (RI .u8) e M w (sl v) xs R) (hp:P.underlying pt=some (.pointer e)) (hc:P.cellsOf e=1)
  (hx:Opd E true x (.pointer v.1)) (hy:Opd E true y (.int .i64 (xs.length:Int))) (h0:xs≠[]):
  ∃ w',j4 P E ⟨some d,.call ⟨.builtin .unsafeString,#[x,y],#[pt,it]⟩,ty,pos,af,gd⟩ w (S (strOf xs)) w'∧Chg R w w'∧ ∀ M',Mv M w M' w'→(∀ b∈R,¬ M' b)→SRd (RI .u8) M' w' (sl v) xs:=by
 have hl0:xs.length≠0:=fun e=>h0 (List.eq_nil_of_length_eq_zero e)
 rcases hO with ⟨hR,cells,⟨h1,h2⟩,hr⟩ | ⟨_,rfl,_⟩
 ·rcases h2 with ⟨_,hz⟩ | ⟨g,cap,cur,h3,hg,hh,hcap,hm,hcs,htk⟩
  ·exact absurd hz hl0
  ·obtain ⟨v1,v2,v3⟩:=v
   simp only [sl,Value.slice.injEq] at h3
   obtain ⟨rfl,rfl,rfl⟩:=h3
   have hn1:(RI .u8).n=1:=rfl
   have hcs':cur.size=v3:=by simpa [hn1] using hcs
   have hsh:w.shape? g=some (e,cur.size):=by unfold World.shape?;rw [hh]
   have hcell: ∀ (j:Nat) (a:Int),xs[j]? =some a→w.cell? ((⟨g,0,none⟩:Addr).add j)=some (.int .u8 a):=fun j a hj=>by
    have hjl:=(List.getElem?_eq_some_iff.1 hj).1
    have hA:=hr.2 j hjl
    have ha:xs[j]=a:=(List.getElem?_eq_some_iff.1 hj).2
    have hcj:cells[j]? =some (.int .u8 a):=by
     have e1:(cells.drop (j*1)).take 1=[.int .u8 a]:=by rw [← ha];exact hA
     have e2:=congrArg (fun l=>l[0]?) e1
     simpa using e2
    have key:aM w ⟨g,0,none⟩ cells:=⟨rfl,cur,e,(0,0),hh,fun j u hj=>by
     rw [← htk,List.getElem?_take] at hj
     split at hj
     ·simpa using hj
     ·cases hj⟩
    exact key.cell hcj
   have hmx:xs.length≤9223372036854775807:=by unfold maxLen at hm;omega
   have hrun:(Builtin.unsafeString_ #[pt,it] ty #[.pointer (some ⟨g,0,none⟩),.int .i64 xs.length]).run P w= .ok (S (strOf xs)) (w.freeze ⟨g,0,none⟩ xs.length):=by
    have hlb:=vK (P:=P) (w:=w) xs ⟨g,0,none⟩ .empty hcell
    have hlies:=Lib.liesAt_bytes (P:=P) hc (cur.size/P.cellsOf e) xs.length (by rw [hc,hcs'];simpa using hcap)
    have h63': ¬ (9223372036854775807:Int)<(xs.length:Int):=by omega
    have hmax:IntKind.i64.max=9223372036854775807:=rfl
    have hneg: ¬ (xs.length:Int)<0:=by omega
    refine (Sem.run_bind (P:=P) (w:=w) (asInt (.int .i64 xs.length)) _).trans ?_
    simp [asInt,asIntOf,hmax,h63',hneg,hl0,variablesAt,hsh,elemOf,run_underlying hp,hlies,hlb,S]
   have hw:(w.freeze ⟨g,0,none⟩ xs.length).heap[g]? =some (.cells cur e (0,xs.length)):=by
    unfold World.freeze
    rw [if_neg hl0]
    simp [Array.getElem?_modify,hh]
   have hRg:R=[g]:=by rw [hR];simp [blk,Value.ownBlock,sl]
   refine ⟨w.freeze ⟨g,0,none⟩ xs.length,fun n' a hf=>by simp [execOp,resolve,invoke,builtin,hx n' a hf rfl,hy n' a hf rfl,hrun],?_,fun M' m hb=> ?_⟩
   ·rw [hRg]
    unfold World.freeze
    rw [if_neg hl0]
    refine ⟨rfl,rfl,rfl,by simp,fun c _ hcb=> ?_⟩
    have:g≠c:=fun e=>hcb (by simp [e])
    simp [Array.getElem?_modify,this]
   ·refine .inr ⟨g,0,v3,cur,e,_,rfl,hb g (by rw [hRg];simp),hw,hcap,by rw [Nat.zero_add];exact Nat.le_of_eq hcs.symm,?_⟩
    rw [List.drop_zero,htk]
    exact hr.mv m
 ·exact absurd rfl h0
theorem Qb {x y:Operand} {pt it:TypeId} (_hl:st.low fr=true) (hs:Sat (items ρ T st.G++(items ρ T fr.H++Φ)) w) (h:M6 X T fr st d pt x y K=some r):
  Ok2 X.P T none (ai ρ T st.E fr.F) ⟨some d,.call ⟨.builtin .unsafeString,#[x,y],#[pt,it]⟩,ty,pos,af,gd⟩ w (aB r K T fr st none (some d) ρ Φ):=by
 unfold M6 at h
 split at h
 ·rename_i e hp
  obtain ⟨hc,h⟩:=ao h
  have hc:=Nat.eq_of_beq_eq_true hc
  split at h
  ·rename_i q hx
   have hx':=aT (ρ:=ρ) hx
   simp only [AV.val] at hx'
   split at h
   ·rename_i m hy
    have hy':=aT (ρ:=ρ) hy
    simp only [AV.val] at hy'
    split at h
    ·rename_i s1 q' id ver u1 i xe hf1
     obtain ⟨f1,f2⟩:=ba hf1
     have:q'=q:=Nat.eq_of_beq_eq_true f2
     subst this
     have hF:=Src.holds hs f1
     split at h
     ·rename_i j id' u e' xs' ver' hf
      obtain ⟨f3,f4⟩:=ba hf
      have:id'=id:=Nat.eq_of_beq_eq_true f4
      subst this
      obtain ⟨h3,h4⟩:=ao h
      simp only [Bool.and_eq_true] at h3
      have e1:=Nat.eq_of_beq_eq_true h3.1
      have e2:=Nat.eq_of_beq_eq_true h3.2
      subst e1;subst e2
      split at h4
      ·rename_i xs hxs
       obtain ⟨eu,ex⟩:=lC hxs
       subst eu
       subst ex
       obtain ⟨h5,h6⟩:=fZ h4
       simp only [Bool.and_eq_true,decide_eq_true_eq] at h5
       obtain ⟨rfl,rfl⟩:=h5
       have hi:=dF (ρ:=ρ) (T:=T) (Φ:=items ρ T fr.H++Φ) f3
       obtain ⟨hO,hy2⟩:=hs.at_ hi
       obtain ⟨l0,b1,b2,b3⟩:=hF Tbl.get_none
       obtain ⟨e4,e5⟩:=Ac b1 hy2
       cases e4
       cases e5
       have hne:=N5 b2
       have hr:=hO.NG hne
       have hx2:Opd (ai ρ T st.E fr.F) true x (.pointer (ρ id').v.1):=by
        rw [Fm (n:=(Ty.i .u8).rep.n) hr,← b3]
        simpa [Addr.add] using hx'
       obtain ⟨w',hrun,hC,hP⟩:=R3 (P:=X.P) (d:=d) (ty:=ty) (pos:=pos) (af:=af) (gd:=gd) (it:=it) hO hp hc hx2 hy' hne
       have hj:j<st.G.length:=(List.getElem?_eq_some_iff.1 f3).1
       refine .none_ (aQ.gd (aQ.kT hrun (aB.old h6 (Nat.le_refl _) rfl rfl ?_)))
       show Sat (items _ T (st.G.set j _)++_) _
       rw [du hj]
       exact hs.upd hi hC (fun b hb=>by cases hb) (fun M' m hb _=>⟨hP M' m (fun b hb'=>hb b hb' (fun h=>by cases h)),fun h=>by cases h⟩)
      ·cases h4
     ·cases h
    ·cases h
   ·cases h
  ·cases h
 ·cases h
def Lo {R:Type} (X:Cx) (T:Tbl) (fr:Fr) (st:StB) (g:GK) (d:Tmp) (t:TypeId) (x:Operand) (K:Go_ R):Option R:=match eI X.P t with
 | some _=>(match opA T st.E fr.F g x with
  | some (.sl id)=>(match slA st.G fr.H id with
   | some s=>ifS (T.imp g s.g) (K { st with E:=bC (some d) g (.int .i64 (s.l.length:Int)) st.E }) none
   | none=>none)
  | _=>none)
 | none=>none
theorem QF {g:GK} {t:TypeId} {x:Operand} (hs:Sat (items ρ T st.G++(items ρ T fr.H++Φ)) w) (h:Lo X T fr st g d t x K=some r):
  Okq X.P T g (ai ρ T st.E fr.F) ⟨some d,.call ⟨.builtin .len,#[x],#[t]⟩,ty,pos,af,gd⟩ w (aB r K T fr st g (some d) ρ Φ):=by
 unfold Lo at h
 split at h
 ·rename_i e he
  split at h
  ·rename_i id hx
   have hx':=az (ρ:=ρ) hx
   simp only [AV.val] at hx'
   split at h
   ·rename_i s hsl
    obtain ⟨h1,h2⟩:=ao h
    exact ⟨_,fun w'=>kB (bq he) hx' (fun hg=>Eu hs hsl (Tbl.gZ h1 hg)),aB.old h2 (Nat.le_refl _) rfl rfl hs⟩
   ·cases h
  ·cases h
 ·cases h
end
end Go.Proofs.YtgcgmclghbebjaaGreat
