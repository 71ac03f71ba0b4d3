/-
  Own texts for the statement StoreTells, cut down to what it needs: B28, B29, B27, B22, KIt. (cut and joined by a program)
-/
import Derived.Test.YtgcgmclghbebjaaGreatStoreTellsA
import Derived.Test.YtgcgmclghbebjaaGreatStoreTellsB
import Derived.Test.YtgcgmclghbebjaaGreatStoreTellsC
import Derived.Test.YtgcgmclghbebjaaGreatStoreTellsD
import Derived.Lib.ItoaNum
namespace Go.Proofs.YtgcgmclghbebjaaGreat
open Go.Lib
def jU:Nat→List AV→al
 | _,[]=>[]
 | k,v::vs=>(k,none,v)::jU (k+1) vs
theorem sa {ρ:Nms}:{vs:List AV}→{k:Nat}→al.env ρ [] (jU k vs)=iota k (AV.ah ρ vs)
 | [],_=>rfl
 | v::vs,k=>by simp only [jU,al.env,AV.ah,iota,Tbl.get_none,sa]
structure Clo where
 f:FuncId
 fn:Func
def Clo.Ok (P:Program) (c:Clo):Prop:=cV P c.f∧P.funcs[c.f]? =some c.fn
def Dv:List Clo→Nat→Option Clo
 | [],_=>none
 | c::l,f=>ifS (Nat.beq c.f f) (some c) (Dv l f)
theorem BS {P:Program} {f:Nat} {c:Clo}:{l:List Clo}→(∀ c∈l,c.Ok P)→Dv l f=some c→c.Ok P∧c.f=f
 | [],_,h=>by cases h
 | c'::l,hl,h=>by
  unfold Dv at h
  rcases cw h with ⟨h1,h2⟩ | ⟨_,h2⟩
  ·cases h2;exact ⟨hl _ (List.mem_cons_self ..),Nat.eq_of_beq_eq_true h1⟩
  ·exact BS (fun c hc=>hl c (List.mem_cons_of_mem _ hc)) h2
structure YC (R:Type) where
 id:Nat
 rnd:List AV→StB→(Bool→Nat→StB→Option R)→Option R
def YOk {R:Type} (X:Cx) (y:YC R) (r:R) (ly:Nat) (ρ0:Nms) (H0:List Row) (Φ:Nat→Ctx):Prop:=
 ∀ (vs:List AV) (st:StB) (ρ:Nms) (w:World) (H1:List Row) (KY:Bool→Nat→StB→Option R),y.id<st.c→aA (y.id+1) ρ0 ρ→AV.bh st.c vs=true→aU st.c st.G=true→aU st.c (H1++H0)=true→
  Sat (items ρ [] st.G++(items ρ [] (H1++H0)++Φ 0)) w→y.rnd vs st KY=some r→
  Yld X.P ly (AV.ah ρ vs) w (fun v w'=> ∃ b p' st' ρ',v= .bool b∧aA st.c ρ ρ'∧st.c≤st'.c∧KY b p' st'=some r∧Sat (items ρ' [] st'.G++(items ρ' [] (H1++H0)++Φ p')) w')
def noG:List Row→Bool
 | []=>true
 | r::G=>lY r.gd&&noG G
theorem Ov:{G:List Row}→noG G=true→ ∀ r,r∈G→r.gd=none
 | [],_,_,h=>by cases h
 | x::G,h,r,hr=>by
  simp only [noG,Bool.and_eq_true] at h
  rcases List.mem_cons.1 hr with rfl | hr
  ·cases hg:r.gd with
   | none=>rfl
   | some k=>rw [hg] at h;cases h.1
  ·exact Ov h.2 r hr
theorem Di {ρ:Nms} {T T':Tbl} {G:List Row} (h: ∀ r,r∈G→r.gd=none):items ρ T G=items ρ T' G:=
 List.map_congr_left fun r hr=>Row.rG (by rw [h r hr];simp)
theorem Jw {ρ:Nms} {T:Tbl} {fr:Fr} (hf:FT T fr):items ρ T fr.H=items ρ [] fr.H:=
 List.map_congr_left fun r hr=>Row.rG (hf.2 r hr)
def Nl {R:Type} (y:YC R) (T:Tbl) (fr:Fr) (st:StB) (o:Oper) (p:Nat) (K:Nat→Go_ R):Option (Option R):=match o.guard,o.op,o.dst with
 | none,.call c,some d=>(match c.callee with
  | .value fo=>(match opA T st.E fr.F none fo with
   | some (.nv i)=>some (ifS (Nat.beq i y.id&&Nat.beq p 0&&Nat.blt d fr.n&&kj (some d) T&&st.low fr&&noG st.G) (match my T st.E fr.F none c.args.toList with
     | some vs=>ifS (AV.bh st.c vs) (y.rnd vs st (fun b p' st'=>K p' { st' with E:=bC (some d) none (.bool b) st.E,G:=iK st'.G,h:=st.h })) none
     | none=>none) none)
   | _=>none)
  | _=>none)
 | _,_,_=>none
inductive UG where
 | bm | skip | run | no
def unK (ops:List Oper) (fr:Fr) (kn:List Nat) (E:al) (o:Oper):UG:=match o.guard with
 | none=> .bm
 | some k=>ifS (na k.1 kn) (match (ops[k.1]?).bind (·.dst) with
  | some rj=>ifS (Nat.blt rj fr.n) (match cr E fr.F rj with
   | some (none,.bool b)=>(match pG k.2 b with
    | true=> .run
    | false=> .skip)
   | _=> .no) .no
  | none=> .no) .bm
def knT (ops:List Oper) (t:Tmp):List Nat→Bool
 | []=>false
 | j::kn=>(match (ops[j]?).bind (·.dst) with
  | some d=>Nat.beq d t
  | none=>false)||knT ops t kn
def ES (ops:List Oper) (fr:Fr) (kn:List Nat) (E:al) (o:Oper):Oper:=match o.guard,o.op with
 | none,.pick (.tmp t) x y=>ifS (knT ops t kn) (match cr E fr.F t with
  | some (none,.bool v)=>(match v with
   | true=>{ o with op:= .move x }
   | false=>{ o with op:= .move y })
  | _=>o) o
 | _,_=>o
def unO (ops:List Oper) (fr:Fr) (kn:List Nat) (E:al) (o:Oper):UG→Oper
 | .run=>{ o with guard:=none }
 | _=>ES ops fr kn E o
noncomputable def jn {R:Type} (X:Cx) (tb:List Ent) (y:YC R) (ops:List Oper) (fr:Fr):List Oper→List Nat→Tbl→StB→Nat→(Nat→Go_ R)→Option R
 | [],_,T,st,p,K=>ifS (yy T fr st) (K p (p6 T st)) none
 | o::l,kn,T,st,p,K=>match unK ops fr kn st.E o with
  | .no=>none
  | .skip=>(match o.guard with
   | some k=>ifS (zd fr.n o.dst&&kj o.dst T&& !(B6 k T)) (jn X tb y ops fr l kn T { st with E:=bC o.dst (some k) (.raw undef) st.E } p K) none
   | none=>none)
  | u=>match Nl y T fr st (unO ops fr kn st.E o u) p (fun p' st'=>jn X tb y ops fr l kn T st' p' K) with
   | some q=>q
   | none=>stepG ops T fr st (unO ops fr kn st.E o u) fun T g=>opD X tb T fr st g (unO ops fr kn st.E o u) fun st'=>match st'.h,o.dst with
    | .n j (.c ha hb),some d=>ifS (Nat.beq j (ops.length-l.length-1)&&kj (some d) T) (match aL st'.E d with
      | some (none,.bool b)=>cond b (jn X tb y ops fr l (j::kn) T { st' with E:=(d,none,.bool true)::st'.E,h:=ha } p K) (jn X tb y ops fr l (j::kn) T { st' with E:=(d,none,.bool false)::st'.E,h:=hb } p K)
      | _=>none) (jn X tb y ops fr l kn T st' p K)
    | _,_=>jn X tb y ops fr l kn T st' p K
section
variable {R : Type} {r : R} {X : Cx} {tb : List Ent} {y : YC R} {σ : Option Nat} {Q : aI} {D : List Deferred} {ops : List Oper} {fr : Fr} {Φ : Nat → Ctx} {ly : Nat} {H0 H1 : List Row} {ρ0 : Nms}
theorem UM {P:Program} {n:Nat} {E:Env} {w:World} {ops:Array Oper} {rest:List Oper} {o:Oper} {j:Nat} {pol:Bool} {rj:Tmp} {bj:Bool} (hgd:o.guard=some (j,pol)) (hj:(ops[j]?).bind (·.dst)=some rj) (hl:look E rj=some (true,.bool bj)) (hn:Nat.blt rj n=true) (hb:pG pol bj=true)
  (h:WL P σ ops Q n D ({ o with guard:=none }::rest) E w):WL P σ ops Q n D (o::rest) E w:=fun a hf hD=>by
 have h1:=h a hf hD
 have hw:=qp (ops:=ops) hgd hj hl hf hn
 rw [← Ap,hb] at hw
 unfold wpListIn at h1 ⊢
 rw [hw]
 have e:Region.wanted { o with guard:=none } (yielded ops a.tmps)=true:=by simp [Region.wanted]
 rw [e] at h1
 simp only [Bool.true_and,if_true] at h1 ⊢
 exact h1
theorem UX {P:Program} {n:Nat} {E:Env} {w:World} {ops:Array Oper} {rest:List Oper} {o:Oper} {j:Nat} {pol:Bool} {rj:Tmp} {bj:Bool} (hgd:o.guard=some (j,pol)) (hj:(ops[j]?).bind (·.dst)=some rj) (hl:look E rj=some (true,.bool bj)) (hn:Nat.blt rj n=true) (hb:pG pol bj=false) (hd:zd n o.dst=true)
  (h:WL P σ ops Q n D rest (lv o.dst false undef E) w):WL P σ ops Q n D (o::rest) E w:=fun a hf hD=>
 wpListIn_step fun K hK=>by
  rw [qp hgd hj hl hf hn,← Ap,hb]
  simp only [Bool.true_and,Bool.false_eq_true,if_false]
  have:=hf.lv (g:=false) (v:=undef) hd
  exact ⟨fun _ _=>trivial,hK _ _ (h _ this (by rw [fD];exact hD))⟩
def IsY (y:YC R) (ρ0:Nms) (ρ:Nms) (c:Nat):Prop:=y.id<c∧aA (y.id+1) ρ0 ρ
theorem IsY.less {ρ0 ρ ρ':Nms} {c c':Nat} (h:IsY y ρ0 ρ c) (ha:aA c ρ ρ') (hc:c≤c'):IsY y ρ0 ρ' c':=⟨Nat.lt_of_lt_of_le h.1 hc,h.2.trans ha h.1⟩
theorem VO {T:Tbl} {st:StB} {o:Oper} {p:Nat} {K:Nat→Go_ R} {l:List Oper} {ρ:Nms} {w:World} {q:Option R} (hyv:(ρ0 y.id).x= .func (.yield ly) #[] #[]) (hY:YOk X y r ly ρ0 H0 Φ) (hH:fr.H=H1++H0) (hI:IsY y ρ0 ρ st.c) (h1:di T st.E fr.F) (hf:FT T fr)
  (hs:Sat (items ρ T st.G++(items ρ T fr.H++Φ p)) w) (h:Nl y T fr st o p K=some q) (hq:q=some r)
  (next: ∀ p' st' ρ' w',di T st'.E fr.F→aA st.c ρ ρ'→st.c≤st'.c→K p' st'=some r→Sat (items ρ' T st'.G++(items ρ' T fr.H++Φ p')) w'→WL X.P σ ops.toArray Q fr.n D l (ai ρ' T st'.E fr.F) w'):
  WL X.P σ ops.toArray Q fr.n D (o::l) (ai ρ T st.E fr.F) w:=by
 obtain ⟨dst,op,ty,pos,af,gd⟩:=o
 unfold Nl at h
 split at h
 ·rename_i c d hg ho hd
  simp only at hg ho hd
  subst hg ho hd
  split at h
  ·rename_i fo hc
   split at h
   ·rename_i i hfo
    injection h with h
    rw [hq] at h
    obtain ⟨b1,h'⟩:=ao h
    clear h
    simp only [Bool.and_eq_true] at b1
    obtain ⟨⟨⟨⟨⟨c1,c2⟩,c3⟩,c4⟩,c5⟩,c6⟩:=b1
    have e1:=Nat.eq_of_beq_eq_true c1
    have e2:=Nat.eq_of_beq_eq_true c2
    subst e1 e2
    split at h'
    ·rename_i vs hvs
     obtain ⟨b2,h⟩:=ao h'
     obtain ⟨cc,xs,tys⟩:=c
     simp only at hc hvs
     subst hc
     have hfo':=aT (ρ:=ρ) hfo
     simp only [AV.val] at hfo'
     rw [hI.2 _ (Nat.lt_succ_self _),hyv] at hfo'
     have hxs:=eY (ρ:=ρ) hvs
     rw [Tbl.get_none] at hxs
     obtain ⟨_,_,l3,l4⟩:=StB.bz.1 c5
     have hG:=Ov c6
     have hs0:Sat (items ρ [] st.G++(items ρ [] (H1++H0)++Φ 0)) w:=by
      rw [← hH,← Jw hf,Di (T':=T) hG];exact hs
     have hyl:=hY vs st ρ w H1 _ hI.1 hI.2 b2 l3 (by rw [← hH];exact l4) hs0 h
     refine RC (xs:=xs.toList) (vs:=AV.ah ρ vs) hfo' hxs c3 hyl (fun v w' hv=> ?_)
     obtain ⟨b,p',st',ρ',rfl,a1,a2,a3,a4⟩:=hv
     rw [← hH] at a4
     have hE:ai ρ' T st.E fr.F=ai ρ T st.E fr.F:=kh c5 a1
     have:=next p' { st' with E:=bC (some d) none (.bool b) st.E,G:=iK st'.G,h:=st.h } ρ' w' (h1.out (d:=some d) c4 none (.bool b)) a1 a2 a3 (by
      have s1:=rm (A:=[]) a4
      have e3:items ρ' T (iK st'.G)=items ρ' [] (iK st'.G):=Di pY
      have s2:Sat (items ρ' T (iK st'.G)++(items ρ' T fr.H++Φ p')) w':=by rw [e3,Jw hf];exact s1
      exact s2)
     rw [nq,hE] at this
     simpa [lv,AV.val] using this
    ·cases h'
   ·cases h
  ·cases h
 ·cases h
theorem Tg {P:Program} {n:Nat} {E:Env} {w:World} {ops:Array Oper} {rest:List Oper} {c x y:Operand} {v:Bool} {dst:Option Tmp} {ty:TypeId} {pos:String} {af:Array Edge} (hc:Opd E true c (.bool v))
  (h:WL P σ ops Q n D (⟨dst,.move (cond v x y),ty,pos,af,none⟩::rest) E w):WL P σ ops Q n D (⟨dst,.pick c x y,ty,pos,af,none⟩::rest) E w:=fun a hf hD=>
 wpListIn_plain rfl fun K hK=>fP rfl (by
  have h1:=h a hf hD
  unfold wpListIn at h1
  have e0:Region.wanted ⟨dst,.move (cond v x y),ty,pos,af,none⟩ (yielded ops a.tmps)=true:=rfl
  rw [if_pos e0] at h1
  have h2:=Oper.wpIn_mono hK h1
  obtain ⟨_,h3⟩:=h2
  rw [show (FW σ).round=σ from rfl,xJ rfl] at h3
  have e:(execOp a.eval ⟨dst,.pick c x y,ty,pos,af,none⟩).run P w=(execOp a.eval ⟨dst,.move (cond v x y),ty,pos,af,none⟩).run P w:=by
   cases v <;> simp [execOp,hc n a hf rfl,asBool]
  rw [e]
  exact h3)
theorem QE {kn:List Nat} {E:al} {o:Oper}:(ES ops fr kn E o).dst=o.dst:=by
 unfold ES
 split
 ·cases knT ops _ kn
  ·rfl
  ·split
   ·split <;> rfl
   ·rfl
 ·rfl
theorem VW {kn:List Nat} {E:al} {o:Oper} {ρ:Nms} {T:Tbl} {w:World} {l:List Oper} (h:WL X.P σ ops.toArray Q fr.n D (ES ops fr kn E o::l) (ai ρ T E fr.F) w):WL X.P σ ops.toArray Q fr.n D (o::l) (ai ρ T E fr.F) w:=by
 obtain ⟨dst,op,ty,pos,af,gd⟩:=o
 unfold ES at h
 split at h
 ·rename_i t x y hg ho
  simp only at hg ho
  subst hg ho
  cases hk:knT ops t kn
  ·rw [hk] at h;exact h
  ·rw [hk] at h
   split at h
   ·rename_i v hl
    refine Tg (v:=v) ?_ (by cases v <;> exact h)
    exact Opd.t (by rw [dX,hl];simp [AV.val])
   ·exact h
 ·exact h
theorem Jg {k:Nat×Bool}:{T:Tbl}→B6 k T=false→T.get (some k)=false
 | [],_=>rfl
 | (k',par,rj,b)::T,h=>by
  simp only [B6,Bool.or_eq_false_iff] at h
  have h2:GK.eq (some k') (some k)=false:=by
   cases hb:GK.eq (some k') (some k)
   ·rfl
   ·have e:=GK.eq_eq hb
    cases e
    rw [GK.Lm] at h
    cases h.1
  unfold Tbl.get
  rw [h2]
  exact Jg h.2
theorem KA (hΓ: ∀ p,∀ it∈X.Γ,it∈Φ p) (htb: ∀ e∈tb,e.Ok X.P X.Γ) (hyv:(ρ0 y.id).x= .func (.yield ly) #[] #[]) (hY:YOk X y r ly ρ0 H0 Φ) (hH:fr.H=H1++H0) {K:Nat→Go_ R}: ∀ {l:List Oper} {kn:List Nat} {T:Tbl} {st:StB} {p:Nat} {ρ:Nms} {w:World},IsY y ρ0 ρ st.c→di T st.E fr.F→kJ ops fr.n T→FT T fr→Sat (items ρ T st.G++(items ρ T fr.H++Φ p)) w→
  jn X tb y ops fr l kn T st p K=some r→
  (∀ p' st' ρ' w',aA st.c ρ ρ'→st.c≤st'.c→K p' st'=some r→Sat (items ρ' [] st'.G++(items ρ' [] fr.H++Φ p')) w'→At Q .normal fr.n D (ai ρ' [] st'.E fr.F) w')→
  WL X.P σ ops.toArray Q fr.n D l (ai ρ T st.E fr.F) w
 | [],kn,T,st,p,ρ,w,hI,h1,h2,hf,hs,h,next=>by
  unfold jn at h
  obtain ⟨h3,h4⟩:=ao h
  obtain ⟨k1,k2,k3⟩:=wS h3 hf hs
  exact bG fun a hfi hd=>next p _ ρ w .refl (by rw [k1];exact Nat.le_refl _) h4 k3 a (hfi.jw k2) hd
 | o::l,kn,T,st,p,ρ,w,hI,h1,h2,hf,hs,h,next=>by
  have rc: ∀ {kn:List Nat} {T':Tbl} {st':StB} {p':Nat} {ρ':Nms} {w':World},aA st.c ρ ρ'→st.c≤st'.c→di T' st'.E fr.F→kJ ops fr.n T'→FT T' fr→Sat (items ρ' T' st'.G++(items ρ' T' fr.H++Φ p')) w'→jn X tb y ops fr l kn T' st' p' K=some r→
    WL X.P σ ops.toArray Q fr.n D l (ai ρ' T' st'.E fr.F) w':=fun {kn T' st' p' ρ' w'} a1 a2 a3 a4 a5 a6 a7=>
   KA hΓ htb hyv hY hH (hI.less a1 a2) a3 a4 a5 a6 a7 (fun p2 st2 ρ2 w2 b1 b2 b3 b4=>next p2 st2 ρ2 w2 (a1.trans b1 a2) (Nat.le_trans a2 b2) b3 b4)
  -- the operation itself, guarded or not
  have main: ∀ o':Oper,o'.dst=o.dst→(match Nl y T fr st o' p (fun p' st'=>jn X tb y ops fr l kn T st' p' K) with
   | some q=>q
   | none=>stepG ops T fr st o' fun T g=>opD X tb T fr st g o' fun st'=>match st'.h,o.dst with
    | .n j (.c ha hb),some d=>ifS (Nat.beq j (ops.length-l.length-1)&&kj (some d) T) (match aL st'.E d with
      | some (none,.bool b)=>cond b (jn X tb y ops fr l (j::kn) T { st' with E:=(d,none,.bool true)::st'.E,h:=ha } p K) (jn X tb y ops fr l (j::kn) T { st' with E:=(d,none,.bool false)::st'.E,h:=hb } p K)
      | _=>none) (jn X tb y ops fr l kn T st' p K)
    | _,_=>jn X tb y ops fr l kn T st' p K)=some r→WL X.P σ ops.toArray Q fr.n D (o'::l) (ai ρ T st.E fr.F) w:=fun o' ho' h=>by
   split at h
   ·rename_i q hq
    exact VO hyv hY hH hI h1 hf hs hq h (fun p' st' ρ' w' a1 a2 a3 a4 a5=>rc a2 a3 a1 h2 hf a5 a4)
   ·refine Hx (K:=fun T st'=>match st'.h,o.dst with
     | .n j (.c ha hb),some d=>ifS (Nat.beq j (ops.length-l.length-1)&&kj (some d) T) (match aL st'.E d with
       | some (none,.bool b)=>cond b (jn X tb y ops fr l (j::kn) T { st' with E:=(d,none,.bool true)::st'.E,h:=ha } p K) (jn X tb y ops fr l (j::kn) T { st' with E:=(d,none,.bool false)::st'.E,h:=hb } p K)
       | _=>none) (jn X tb y ops fr l kn T st' p K)
     | _,_=>jn X tb y ops fr l kn T st' p K) h1 h2 rfl (fun _ h=>h) hf hs (hΓ p) htb h (fun T' st' ρ' w' a1 a2 a3 a4 a5 a6 a7 a8=> ?_)
    split at a6
    ·rename_i j ha hb d hh hd
     rcases cw a6 with ⟨b1,b2⟩ | ⟨_,b2⟩
     ·simp only [Bool.and_eq_true] at b1
      split at b2
      ·rename_i b hl
       have one: ∀ (v:Bool) (h':HT),b=v→jn X tb y ops fr l (j::kn) T' { st' with E:=(d,none,.bool v)::st'.E,h:=h' } p K=some r→WL X.P σ ops.toArray Q fr.n D l (ai ρ' T' st'.E fr.F) w':=fun v h' hb hv=>by
        have:=rc (st':={ st' with E:=(d,none,.bool v)::st'.E,h:=h' }) a4 a5 (a1.out (d:=some d) b1.2 none (.bool v)) a2 a3 a8 hv
        refine fun a hfi hd'=>this a (hfi.jw ?_) hd'
        intro t pp hp
        rw [dX] at hp ⊢
        unfold cr at hp ⊢
        cases hq:Nat.beq d t
        ·rw [cY hq] at hp;exact hp
        ·have:=Nat.eq_of_beq_eq_true hq
         subst this
         rw [fa hq] at hp
         rw [hl,hb];exact hp
       rcases m6 b2 with ⟨c1,c2⟩ | ⟨c1,c2⟩
       ·exact one true ha c1 c2
       ·exact one false hb c1 c2
      ·cases b2
     ·exact rc a4 a5 a1 a2 a3 a8 b2
    ·exact rc a4 a5 a1 a2 a3 a8 a6
  unfold jn at h
  -- what is known of its guard
  have kk: ∀ {v:Bool},(unK ops fr kn st.E o= .run∧v=true∨unK ops fr kn st.E o= .skip∧v=false)→ ∃ j pol rj bj,o.guard=some (j,pol)∧(ops[j]?).bind (·.dst)=some rj∧look (ai ρ T st.E fr.F) rj=some (true,.bool bj)∧Nat.blt rj fr.n=true∧pG pol bj=v:=fun {v} hv=>by
   unfold unK at hv
   split at hv
   ·rcases hv with ⟨h,_⟩ | ⟨h,_⟩ <;> cases h
   ·rename_i k hg
    obtain ⟨j,pol⟩:=k
    cases hm:na j kn
    ·simp only [hm] at hv
     rcases hv with ⟨h,_⟩ | ⟨h,_⟩ <;> cases h
    ·simp only [hm] at hv
     split at hv
     ·rename_i rj hr
      cases hb:Nat.blt rj fr.n
      ·simp only [hb] at hv
       rcases hv with ⟨h,_⟩ | ⟨h,_⟩ <;> cases h
      ·simp only [hb] at hv
       split at hv
       ·rename_i b hl
        refine ⟨j,pol,rj,b,hg,hr,by rw [dX,hl];simp [AV.val],hb,?_⟩
        cases hp:pG pol b
        ·simp only [hp] at hv
         rcases hv with ⟨h,_⟩ | ⟨_,h⟩
         ·cases h
         ·exact h.symm
        ·simp only [hp] at hv
         rcases hv with ⟨_,h⟩ | ⟨h,_⟩
         ·exact h.symm
         ·cases h
       ·rcases hv with ⟨h,_⟩ | ⟨h,_⟩ <;> cases h
     ·rcases hv with ⟨h,_⟩ | ⟨h,_⟩ <;> cases h
  cases hu:unK ops fr kn st.E o with
  | no=>rw [hu] at h;cases h
  | bm=>rw [hu] at h;exact VW (by exact main (ES ops fr kn st.E o) QE h)
  | run=>
   rw [hu] at h
   obtain ⟨j,pol,rj,bj,g1,g2,g3,g4,g5⟩:=kk (v:=true) (.inl ⟨hu,rfl⟩)
   exact UM g1 (by simpa using g2) g3 g4 g5 (main { o with guard:=none } rfl h)
  | skip=>
   rw [hu] at h
   obtain ⟨j,pol,rj,bj,g1,g2,g3,g4,g5⟩:=kk (v:=false) (.inr ⟨hu,rfl⟩)
   dsimp only at h
   rw [g1] at h
   obtain ⟨b1,b2⟩:=ao h
   simp only [Bool.and_eq_true] at b1
   refine UX g1 (by simpa using g2) g3 g4 g5 b1.1.1 ?_
   have:=rc (st':={ st with E:=bC o.dst (some (j,pol)) (.raw undef) st.E }) .refl (Nat.le_refl _) (h1.out b1.1.2 _ _) h2 hf hs b2
   rw [nq] at this
   have hg:T.get (some (j,pol))=false:=Jg (by simpa using b1.2)
   rw [hg] at this
   exact this
end
noncomputable def hZ {R:Type} (X:Cx) (tb:List Ent) (y:YC R):Code→Fr→(Nat→XE→StB→Option R)→Nat→StB→Option R
 | .skip,_,K,p,st=>K p .nrm st
 | .exit i,_,K,p,st=>K p (.ext i) st
 | .ret,_,K,p,st=>K p .ret st
 | .block i c,fr,K,p,st=>hZ X tb y c fr (fun p=>brk i (K p)) p st
 | .cond c a b,fr,K,p,st=>match opA [] st.E fr.F none c with
  | some (.bool v)=>cnd v (fun h=>hZ X tb y a fr K p { st with h:=h }) (fun h=>hZ X tb y b fr K p { st with h:=h }) st.h
  | _=>none
 | .seq a b,fr,K,p,st=>hZ X tb y a fr (fun p=>thn (hZ X tb y b fr K p) (K p)) p (match st.h with
  | .s h=>{ st with h:=h }
  | _=>st)
 | .loop c,fr,K,p,st=>match st.h with
  | .l tm q=>ifS (st.low fr) (
   match iq (enter fr tm (bB c) st) tm (enter fr tm (bB c) st).Et (enter fr tm (bB c) st).Gt with
   | some s=>aq (fun again s=>hZ X tb y c (enter fr tm (bB c) st).fr (fun p'=>thn (fun st'=>match iq (enter fr tm (bB c) st) tm st'.E st'.G with
      | some s=>ifS (Nat.beq p' p) (again s) none
      | none=>none) (fun e st'=>K p' e (sQ (enter fr tm (bB c) st) st'))) p (bE (enter fr tm (bB c) st) tm s q)) X.fl s
   | none=>none ) none
  | _=>none
 | .region _ ops false,fr,K,p,st=>jn X tb y ops.toList fr ops.toList [] [] st p (fun p=>K p .nrm)
 | .region _ ops true,fr,K,p,st=>match st.h with
  | .r th h=>xB X tb [] (fun _ _=>none) ops fr th { st with h:=h } (K p .nrm)
  | _=>xB X tb [] (fun _ _=>none) ops fr [] st (K p .nrm)
 | _,_,_,_,_=>none
section
variable {R : Type} {r : R} {X : Cx} {tb : List Ent} {y : YC R} {D : List Deferred} {Φ : Nat → Ctx} {ly : Nat} {H0 : List Row} {ρ0 : Nms}
def GD (Q:aI) (D:List Deferred) (fr:Fr) (Φ:Nat→Ctx) (c0:Nat) (ρ0:Nms) (r:R) (K:Nat→XE→StB→Option R):Prop:= ∀ p,iw Q D fr (Φ p) c0 ρ0 r (K p)
theorem GD.less {Q:aI} {fr:Fr} {c0 c1:Nat} {ρ0 ρ1:Nms} {K:Nat→XE→StB→Option R} (h:GD Q D fr Φ c0 ρ0 r K) (ha:aA c0 ρ0 ρ1) (hc:c0≤c1):GD Q D fr Φ c1 ρ1 r K:=fun p=>(h p).less ha hc
theorem pE (hΓ: ∀ p,∀ it∈X.Γ,it∈Φ p) (htb: ∀ e∈tb,e.Ok X.P X.Γ) (hyv:(ρ0 y.id).x= .func (.yield ly) #[] #[]) (hY:YOk X y r ly ρ0 H0 Φ): ∀ (c:Code) {Q:aI} {fr:Fr} {H1:List Row} {K:Nat→XE→StB→Option R} {p:Nat} {st:StB} {ρ:Nms} {w:World},fr.H=H1++H0→IsY y ρ0 ρ st.c→Sat (items ρ [] st.G++(items ρ [] fr.H++Φ p)) w→
  hZ X tb y c fr K p st=some r→GD Q D fr Φ st.c ρ r K→WC X.P none c Q fr.n D (ai ρ [] st.E fr.F) w
 | .skip,Q,fr,H1,K,p,st,ρ,w,hH,hI,hs,h,hK=>nu (hK p .nrm st ρ w .refl (Nat.le_refl _) (by unfold hZ at h;exact h) hs)
 | .exit i,Q,fr,H1,K,p,st,ρ,w,hH,hI,hs,h,hK=>DI (hK p (.ext i) st ρ w .refl (Nat.le_refl _) (by unfold hZ at h;exact h) hs)
 | .ret,Q,fr,H1,K,p,st,ρ,w,hH,hI,hs,h,hK=>wb (hK p .ret st ρ w .refl (Nat.le_refl _) (by unfold hZ at h;exact h) hs)
 | .block i c,Q,fr,H1,K,p,st,ρ,w,hH,hI,hs,h,hK=>B2 (pE hΓ htb hyv hY c hH hI hs (by unfold hZ at h;exact h) (fun p=>BY (hK p)))
 | .cond c a b,Q,fr,H1,K,p,st,ρ,w,hH,hI,hs,h,hK=>by
  unfold hZ at h
  split at h
  ·rename_i v hb
   have hc:=aT (ρ:=ρ) hb
   simp only [AV.val] at hc
   obtain ⟨h1,h2,q1,q2⟩:=Cg h
   exact iF hc (fun hv=>pE hΓ htb hyv hY a (st:={ st with h:=h1 }) hH hI hs (q1 hv) hK) (fun hv=>pE hΓ htb hyv hY b (st:={ st with h:=h2 }) hH hI hs (q2 hv) hK)
  ·cases h
 | .seq a b,Q,fr,H1,K,p,st,ρ,w,hH,hI,hs,h,hK=>by
  unfold hZ at h
  have plain: ∀ h',hZ X tb y a fr (fun p=>thn (hZ X tb y b fr K p) (K p)) p { st with h:=h' }=some r→WC X.P none (.seq a b) Q fr.n D (ai ρ [] st.E fr.F) w:=fun h' hd=>by
   refine aX (pE hΓ htb hyv hY a (st:={ st with h:=h' }) hH hI hs hd (fun p' e st' ρ' w' a1 a2 a3 a4=> ?_))
   by_cases he:e= .nrm
   ·subst he
    exact aN (pE hΓ htb hyv hY b hH (hI.less a1 a2) a4 a3 (hK.less a1 a2))
   ·rw [j7 he] at a3
    exact eS he (hK p' e st' ρ' w' a1 a2 a3 a4)
  split at h
  ·rename_i h' hh;exact plain h' h
  ·exact plain st.h h
 | .loop c,Q,fr,H1,K,p,st,ρ,w,hH,hI,hs,h,hK=>by
  unfold hZ at h
  split at h
  ·rename_i tm q hh
   obtain ⟨hl,h2⟩:=ao h
   obtain ⟨ρ1,en⟩:=o9 (tm:=tm) (m:=bB c) hl hs
   generalize enter fr tm (bB c) st=E0 at h2 en
   split at h2
   ·rename_i s0 hb0
    obtain ⟨ρ2,E',R',k,DD,b1,b2,b3,b4⟩:=kQ en.lF en.lH en.fx en.sat hb0
    have eL: ∀ s E' R' k DD,dx (fun n=>E0.c+n) E0.fix tm.vs 0 (unt _ s)=⟨E',R',k,DD⟩→bE E0 tm s q=⟨E0.c+k,E',rowsOf R',q⟩:=fun s E' R' k DD hb=>by unfold bE;rw [hb]
    refine B5 (γ:=Nms) (fun s g w'=>aA E0.c ρ1 g∧Sat (items g [] (bE E0 tm s q).G++(items g [] E0.fr.H++Φ p)) w') (fun s g=>ai g [] (bE E0 tm s q).E E0.fr.F) h2 ρ2 ⟨b2,?_⟩ ?_ (fun again s g w' hag hJ=> ?_)
    ·rw [eL _ _ _ _ _ b1];exact b4
    ·rw [eL _ _ _ _ _ b1];exact b3.trans en.sub
    ·have hc:E0.c≤(bE E0 tm s q).c:=by
      unfold bE
      generalize dx (fun n=>E0.c+n) E0.fix tm.vs 0 (unt _ s)=L
      obtain ⟨a,b,c,d⟩:=L
      exact Nat.le_add_right _ _
     have hx:=pE hΓ htb hyv hY c (fr:=E0.fr) (H1:=E0.G++H1) (st:=bE E0 tm s q) (ρ:=g) (Q:=Exit.then (rn again r (fun s g w'=>aA E0.c ρ1 g∧Sat (items g [] (bE E0 tm s q).G++(items g [] E0.fr.H++Φ p)) w') (fun s g=>ai g [] (bE E0 tm s q).E E0.fr.F) fr.n D) Q)
      (by rw [en.fh,hH,List.append_assoc]) ((hI.less en.ag en.le).less hJ.1 hc) hJ.2 hag (fun p' e st' ρ' w2 a1 a2 a3 a4=> ?_)
     ·rw [en.fn] at hx;exact hx
     ·by_cases he:e= .nrm
      ·subst he
       have a3':(match iq E0 tm st'.E st'.G with | some s=>ifS (Nat.beq p' p) (again s) none | none=>none)=some r:=a3
       split at a3'
       ·rename_i s' hb
        obtain ⟨hp,a5⟩:=ao a3'
        have:=Nat.eq_of_beq_eq_true hp
        subst this
        obtain ⟨ρ3,E2,R2,k2,DD2,d1,d2,d3,d4⟩:=kQ en.lF en.lH en.fx a4 hb
        rw [en.fn]
        refine zb s' ρ3 a5 ⟨(hJ.1.trans (a1.less hc) (Nat.le_refl _)).trans d2 (Nat.le_refl _),?_⟩ ?_
        ·rw [eL _ _ _ _ _ d1];exact d4
        ·rw [eL _ _ _ _ _ d1];exact d3
       ·cases a3'
      ·rw [j7 he] at a3
       have:=nt (hK p') en.ag en.le en.ff en.fh en.fn e st' ρ' w2 (hJ.1.trans (a1.less hc) (Nat.le_refl _)) (Nat.le_trans hc a2) a3 a4
       exact eS he this
   ·cases h2
  ·cases h
 | .region id ops false,Q,fr,H1,K,p,st,ρ,w,hH,hI,hs,h,hK=>by
  unfold hZ at h
  obtain ⟨l⟩:=ops
  exact aW (KA (σ:=none) hΓ htb hyv hY hH hI (fun x h=>by cases h) (fun x h=>by cases h) ⟨fun x _=>rfl,fun x _=>rfl⟩ hs h (fun p' st' ρ' w' a1 a2 a3 a4=>hK p' .nrm st' ρ' w' a1 a2 a3 a4))
 | .region id ops true,Q,fr,H1,K,p,st,ρ,w,hH,hI,hs,h,hK=>by
  unfold hZ at h
  have key: ∀ th h',xB X tb [] (fun _ _=>none) ops fr th { st with h:=h' } (K p .nrm)=some r→WC X.P none (.region id ops true) Q fr.n D (ai ρ [] st.E fr.F) w:=fun th h' hd=>
   Cc (K:=fun e st=>match e with
    | .nrm=>K p .nrm st
    | _=>none) (st:={ st with h:=h' }) (hΓ p) htb (fun _ h=>by cases h) hs hd (fun e st' ρ' w' a1 a2 a3 a4=>by
     cases e with
     | nrm=>exact hK p .nrm st' ρ' w' a1 a2 a3 a4
     | _=>cases a3)
  split at h
  ·exact key _ _ h
  ·exact key [] st.h h
 | .label _,Q,fr,H1,K,p,st,ρ,w,hH,hI,hs,h,hK=>by unfold hZ at h;cases h
 | .goto _,Q,fr,H1,K,p,st,ρ,w,hH,hI,hs,h,hK=>by unfold hZ at h;cases h
 | .scope _,Q,fr,H1,K,p,st,ρ,w,hH,hI,hs,h,hK=>by unfold hZ at h;cases h
 | .rangeFunc _ _ _ _,Q,fr,H1,K,p,st,ρ,w,hH,hI,hs,h,hK=>by unfold hZ at h;cases h
end
end Go.Proofs.YtgcgmclghbebjaaGreat
namespace Go.Proofs.YtgcgmclghbebjaaGreat
open Go.Lib
theorem Sat.swap {w:World} {C D:Ctx}: ∀ {B A:Ctx},Sat (A++(B++(C++D))) w→Sat (A++(C++(B++D))) w
 | [],A,h=>h
 | x::B,A,h=>by
  have h1:Sat ((A++[x])++(B++(C++D))) w:=by simpa using h
  have h2:Sat (A++x::(C++(B++D))) w:=by simpa using h1.swap
  simpa using Sat.move h2
theorem Sat.front {w:World} {A B:Ctx} {x:Item} (h:Sat (A++x::B) w):Sat (x::(A++B)) w:=by
 have:=Sat.swap (A:=[]) (B:=A) (C:=[x]) (D:=B) (by simpa using h)
 simpa using this
theorem Sat.behind {w:World} {A B:Ctx} {x:Item} (h:Sat (x::(A++B)) w):Sat (A++x::B) w:=Sat.move (A:=[]) h
theorem yI {α:Type} {A B:List α} {x:α}:(A++x::B)[A.length]? =some x:=by simp
theorem K2 {α:Type} {A B:List α} {x y:α}:(A++x::B).set A.length y=A++y::B:=by
 induction A with
 | nil=>rfl
 | cons a A ih=>simp [ih]
def sH:Nat→Option Code
 | 0=>none
 | 1=>some .ret
 | n+2=>ifS (Nat.beq (n%2) 0) (some (.exit (n/2))) (some (.goto (n/2)))
def BJ:Nat→XE
 | 0=> .nrm
 | 1=> .ret
 | n+2=>ifS (Nat.beq (n%2) 0) (.ext (n/2)) (.gto (n/2))
def zP:Nat→LoopState
 | 0=> .ready
 | _+1=> .done
theorem RQ (i:Nat):sH (2*i+2)=some (.exit i):=by
 have h1:2*i%2=0:=Nat.mul_mod_right 2 i
 have h2:2*i/2=i:=Nat.mul_div_cancel_left i (by decide)
 show ifS (Nat.beq (2*i%2) 0) (some (Code.exit (2*i/2))) _=_
 rw [h1,h2]
theorem R5 (i:Nat):sH (2*i+3)=some (.goto i):=by
 have h1:(2*i+1)%2=1:=by omega
 have h2:(2*i+1)/2=i:=by omega
 show ifS (Nat.beq ((2*i+1)%2) 0) _ (some (Code.goto ((2*i+1)/2)))=_
 rw [h1,h2]
def RD:List Tmp→List AV→al→Option al
 | [],[],E=>some E
 | p::ps,v::vs,E=>RD ps vs ((p,none,v)::E)
 | _,_,_=>none
theorem Lg {ρ:Nms} {F:Env}:{ps:List Tmp}→{vs:List AV}→{E E':al}→RD ps vs E=some E'→al.env ρ [] E'++F=Ip ps (AV.ah ρ vs) (al.env ρ [] E++F)∧Nat.beq (AV.ah ρ vs).length ps.length=true
 | [],[],E,E',h=>by cases h;exact ⟨rfl,rfl⟩
 | p::ps,v::vs,E,E',h=>by
  obtain ⟨h1,h2⟩:=Lg (ρ:=ρ) (F:=F) (ps:=ps) (vs:=vs) (E:=(p,none,v)::E) h
  refine ⟨?_,?_⟩
  ·rw [h1];simp [al.env,AV.ah,Ip]
  ·simpa [AV.ah] using h2
 | [],_::_,_,_,h=>by cases h
 | _::_,[],_,_,h=>by cases h
noncomputable def HS {R:Type} (X:Cx) (tb:List Ent) (tp:List bD) (ps:List Tmp) (assign body:Code) (fr:Fr) (E:al) (hb:HT) (vs:List AV) (st:StB) (KY:Bool→Nat→StB→Option R):Option R:=match RD ps vs E with
 | some E'=>den X tb tp assign fr (fun e st1=>match e with
  | .nrm=>den X tb tp body fr (fun e st2=>match e with
   | .nrm=>KY true 0 st2
   | .ret=>KY false 1 st2
   | .ext i=>KY false (2*i+2) st2
   | .gto l=>KY false (2*l+3) st2
   | _=>none) { st1 with h:=hb }
  | _=>none) ⟨st.c,E',st.G,.o⟩
 | none=>none
section
variable {R : Type} {r : R} {X : Cx} {tb : List Ent} {tp : List bD} {fr : Fr}
theorem Rr {Φ1:Ctx} (hΓ: ∀ it∈X.Γ,it∈Φ1) (htb: ∀ e∈tb,e.Ok X.P X.Γ) (htp: ∀ e∈tp,e.Ok X.P X.Γ) {ps:List Tmp} {assign body:Code} {E:al} {hb:HT} {c0 l b:Nat} {ρ0:Nms} {r0:LoopState→Option Code→Loop}
  (hr:Rec fr.n (ai ρ0 [] E fr.F) ps.toArray assign body b r0) (hE:E.low c0=true) (hF:al.low c0 fr.F=true) (hp:ps.all (fun p=>Nat.blt p fr.n)=true):
  YOk X ⟨c0,HS X tb tp ps assign body fr E hb⟩ r l ρ0 fr.H (fun p=>bR l r0 (zP p) (sH p)::Φ1):=by
 intro vs st ρ w H1 KY hid hag hvs hG hH hs h
 have h':HS X tb tp ps assign body fr E hb vs st KY=some r:=h
 unfold HS at h'
 split at h'
 ·rename_i E' hz
  have hag0:aA c0 ρ0 ρ:=hag.less (Nat.le_succ _)
  obtain ⟨z1,z2⟩:=Lg (ρ:=ρ) (F:=al.env ρ [] fr.F) hz
  have eE:ai ρ0 [] E fr.F=ai ρ [] E fr.F:=by
   rw [ai,ai,lA hag0 hE,lA hag0 hF]
  rw [eE] at hr
  have lH1:aU st.c H1=true:=by
   clear h h' hs hz
   induction H1 with
   | nil=>rfl
   | cons x H1 ih=>
    simp only [List.cons_append,aU,Bool.and_eq_true] at hH ⊢
    exact ⟨hH.1,ih hH.2⟩
  -- the row, parted in another way
  have toR: ∀ {G:List Row} {ρ':Nms} {x:Item} {w':World},Sat (items ρ' [] G++(items ρ' [] (H1++fr.H)++x::Φ1)) w'→Sat (items ρ' [] G++(items ρ' [] fr.H++(items ρ' [] H1++x::Φ1))) w':=fun {G ρ' x w'} hw=>by
   rw [aJ,List.append_assoc] at hw
   exact hw.swap
  have frR: ∀ {G:List Row} {ρ':Nms} {x:Item} {w':World},Sat (items ρ' [] G++(items ρ' [] fr.H++(items ρ' [] H1++x::Φ1))) w'→Sat (items ρ' [] G++(items ρ' [] (H1++fr.H)++x::Φ1)) w':=fun {G ρ' x w'} hw=>by
   rw [aJ,List.append_assoc]
   exact hw.swap
  -- the loop's row, exchanged
  have mid: ∀ {G:List Row} {ρ':Nms} {x:Item},∃ A:Ctx,items ρ' [] G++(items ρ' [] fr.H++(items ρ [] H1++x::Φ1))=A++x::Φ1∧ ∀ z,A++z::Φ1=items ρ' [] G++(items ρ' [] fr.H++(items ρ [] H1++z::Φ1)):=fun {G ρ' x}=>
   ⟨items ρ' [] G++(items ρ' [] fr.H++items ρ [] H1),by simp,fun z=>by simp⟩
  have hs1:=toR hs
  have hΓ1: ∀ x:Item,∀ it∈X.Γ,it∈items ρ [] H1++x::Φ1:=fun x it hi=>List.mem_append_right _ (List.mem_cons_of_mem _ (hΓ it hi))
  have hs0:Sat (bR l r0 .ready none::(items ρ [] st.G++(items ρ [] (H1++fr.H)++Φ1))) w:=by
   have:Sat ((items ρ [] st.G++items ρ [] (H1++fr.H))++bR l r0 .ready none::Φ1) w:=by
    rw [List.append_assoc];exact hs
   have:=this.front
   rw [List.append_assoc] at this
   exact this
  refine Vh hr hs0 z2 hp ?_
  rw [← z1]
  refine dC (σ:=some l) (D:=[]) (Φ:=items ρ [] H1++bR l r0 .ready none::Φ1) (hΓ1 _) htb htp assign (fr:=fr) (st:=⟨st.c,E',st.G,.o⟩) (ρ:=ρ) hs1 h' (fun e st1 ρ1 w1 a1 a2 a3 a4=> ?_)
  cases e with
  | nrm=>
   obtain ⟨A,e1,e2⟩:=mid (G:=st1.G) (ρ':=ρ1) (x:=bR l r0 .ready none)
   have a4':Sat (A++bR l r0 .ready none::Φ1) w1:=by rw [← e1];exact a4
   refine Rw (i:=A.length) hr a4' yI (fun w2 hs2=> ?_)
   rw [K2,e2] at hs2
   refine dC (σ:=some l) (D:=[]) (Φ:=items ρ [] H1++bR l r0 .busy none::Φ1) (hΓ1 _) htb htp body (fr:=fr) (st:={ st1 with h:=hb }) (ρ:=ρ1) hs2 a3 (fun e st2 ρ2 w3 b1 b2 b3 b4=> ?_)
   obtain ⟨A2,e3,e4⟩:=mid (G:=st2.G) (ρ':=ρ2) (x:=bR l r0 .busy none)
   have b4':Sat (A2++bR l r0 .busy none::Φ1) w3:=by rw [← e3];exact b4
   have ag2:aA st.c ρ ρ2:=a1.trans b1 a2
   have le2:st.c≤st2.c:=Nat.le_trans a2 b2
   have fin: ∀ {bv:Bool} {p':Nat} {w4:World},KY bv p' st2=some r→Sat ((A2++bR l r0 .busy none::Φ1).set A2.length (bR l r0 (zP p') (sH p'))) w4→
     ∃ b p' st' ρ',Value.bool bv= .bool b∧aA st.c ρ ρ'∧st.c≤st'.c∧KY b p' st'=some r∧Sat (items ρ' [] st'.G++(items ρ' [] (H1++fr.H)++bR l r0 (zP p') (sH p')::Φ1)) w4:=fun {bv p' w4} hk hw=>by
    rw [K2,e4,← aF ag2 lH1] at hw
    exact ⟨bv,p',st2,ρ2,rfl,ag2,le2,hk,frR hw⟩
   cases e with
   | nrm=>exact RO (i:=A2.length) hr b4' yI (fun w4 hw=>fin (p':=0) b3 hw)
   | ret=>exact HD (i:=A2.length) hr b4' yI (fun w4 hw=>fin (p':=1) b3 hw)
   | ext i=>exact F9 (i:=A2.length) hr b4' yI (fun w4 hw=>fin (p':=2*i+2) b3 (by rw [RQ];exact hw))
   | gto j=>exact FK (i:=A2.length) hr b4' yI (fun w4 hw=>fin (p':=2*j+3) b3 (by rw [R5];exact hw))
   | pan v=>cases b3
   | panE v=>cases b3
  | _=>cases a3
 ·cases h'
end
def yT:al→al
 | []=>[]
 | (t,_,v)::E=>(t+10000,some (1000000000,false),v)::yT E
theorem KW {ρ:Nms}:{E:al}→{t:Nat}→{p:Bool×Value}→look (al.env ρ [] (yT E)) t=some p→10000≤t∧p.1=false
 | [],_,_,h=>by cases h
 | (t',g,v)::E,t,p,h=>by
  simp only [yT,al.env,look] at h
  cases hb:Nat.beq (t'+10000) t
  ·rw [hb,cond_false] at h;exact KW h
  ·rw [hb,cond_true] at h
   have:=Nat.eq_of_beq_eq_true hb
   cases h
   exact ⟨by omega,rfl⟩
theorem Fits.far {n:Nat} {E:Env} {a:Act} {ρ:Nms} {F:al} (h:Fits n E a) (hn:n≤10000):Fits n (E++al.env ρ [] (yT F)) a:=by
 refine ⟨h.size,fun t g v ht=> ?_⟩
 rw [uT] at ht
 split at ht
 ·rename_i p hp
  cases ht
  exact h.at_ t g v hp
 ·obtain ⟨h1,h2⟩:=KW ht
  simp only at h2
  subst h2
  have hs:=h.size
  have: ¬ t<a.tmps.size:=by omega
  simp [Array.getD,this,qH]
def itE {R:Type} (Kend:Nat→StB→Option R) (p:Nat):XE→StB→Option R
 | .nrm,st=>Kend p st
 | .ret,st=>Kend p st
 | _,_=>none
noncomputable def rfD {R:Type} (X:Cx) (tb:List Ent) (tp:List bD) (tc:List Clo) (ps:List Tmp) (assign body:Code) (gv:AV) (fr:Fr) (st:StB) (hi hb:HT) (Kend:Nat→StB→Option R):Option R:=match gv with
 | .fn f a b=>(match Dv tc f with
  | some cl=>(match cl.fn.body with
   | some ib=>ifS (cl.fn.results.isEmpty&&Nat.ble (a.length+(b.length+1)) cl.fn.ntmps&&Nat.ble cl.fn.ntmps 10000&&st.low fr&&ps.all (fun p=>Nat.blt p fr.n)&&AV.bh st.c a&&AV.bh st.c b) (
     hZ X tb ⟨st.c,HS X tb tp ps assign body fr st.E hb⟩ ib ⟨yT (st.E++fr.F),fr.H,cl.fn.ntmps⟩ (itE Kend) 0 ⟨st.c+1,jU 0 (a++ .nv st.c::b),st.G,hi⟩) none
   | none=>none)
  | none=>none)
 | _=>none
section
variable {P : Program} {n : Nat} {D0 : List Deferred} {E : Env} {w : World} {Γ : Ctx} {Q : aI}
theorem Gh {g:Operand} {ps:Array Tmp} {assign body:Code} {f:FuncId} {first cap:List Value} (ds:List Nat)
  (he:cV P f) (hg:Opd E true g (.func (.func f) first.toArray cap.toArray)) (hs:Sat (cg ds::Γ) w)
  (h: ∀ (l b:Nat) (r:LoopState→Option Code→Loop) w1,Rec n E ps assign body b r→Sat (bR l r .ready none::cg (b::ds)::Γ) w1→
   fg P f (first++[Value.func (.yield l) #[] #[]]++cap) w1 (gJ P none l n (mk (b::ds)++D0) Q E)):
  WC P none (.rangeFunc g ps assign body) Q n (mk ds++D0) E w:=fun a hf hd=>by
 refine wpIn_rangeFunc fun fn hfn=> ?_
 obtain ⟨r,hr⟩: ∃ r:LoopState→Option Code→Loop,r=fun st pe=>{ state:=st,pending:=pe,fn,tmps:=a.tmps,params:=ps,assign,body,defers:=w.heap.size }:=⟨_,rfl⟩
 obtain ⟨W1,hW1⟩: ∃ W1,(w.alloc (.deferred (some []))).alloc (.loop (r .ready none))=W1:=⟨_,rfl⟩
 have hs1:Sat (kX w.heap.size (.deferred (some []))::cg ds::Γ) (w.alloc (.deferred (some []))):=hs.push (cQ _ _) (fun b hb=>by
  have:b=w.heap.size:=by simpa [kX] using hb
  subst this;simp) (fun _ _=>World.alloc_heap_new w _)
 have hs2:Sat (bR (w.heap.size+1) r .ready none::cg (w.heap.size::ds)::Γ) W1:=by
  rw [← hW1]
  have:=hs1.dfr.push (new:=bR (w.alloc (.deferred (some []))).heap.size r .ready none) (cQ _ _) (fun b hb=>by
   have:b=(w.alloc (.deferred (some []))).heap.size:=by simpa [kX] using hb
   subst this;simp) (fun _ _=>World.alloc_heap_new (w.alloc (.deferred (some []))) (.loop (r .ready none)))
  rwa [World.size_alloc] at this
 have hrec:Rec n E ps assign body w.heap.size r:=⟨fn,a.tmps,⟨hf.size,hf.at_⟩,hr⟩
 have hev:a.eval g=Value.func (.func f) first.toArray cap.toArray:=hg n a hf rfl
 refine ⟨w.heap.size+1,[{ target:= .collected w.heap.size,args:= #[] }],W1,{ target:= .fn (.func f) cap.toArray,args:=first.toArray++ #[Value.func (.yield (w.heap.size+1)) #[] #[]] },W1,f,
  (first++[Value.func (.yield (w.heap.size+1)) #[] #[]]++cap).toArray,W1,?_,?_,fun _ _=>trivial,?_,rX,?_⟩
 ·rw [← hW1,hr];exact run_enterLoop_outer _ _ _ _ _
 ·simp only [resolve,hev,Deferred.ofValue]
  simp [Act.eval]
 ·have:=he (first++[Value.func (.yield (w.heap.size+1)) #[] #[]]++cap).toArray W1
  simp only [invoke]
  simpa using this
 ·refine xo (Calls.mono (h (w.heap.size+1) w.heap.size r W1 hrec hs2) fun e w' he=> ?_)
  cases e with
  | returned v=>
   obtain ⟨j,w'',h1,h2⟩:=he
   refine ⟨j,w'',h1,?_⟩
   have hf':Fits n E { a with defers:=[{ target:= .collected w.heap.size,args:= #[] }]++a.defers }:=⟨hf.size,hf.at_⟩
   cases j with
   | none=>exact h2 _ hf' (by simp [hd,mk])
   | some c=>exact h2 _ hf' (by simp [hd,mk])
  | panicked c=>exact he.elim
  | outgrown=>exact he.elim
end
section
variable {R : Type} {r : R} {X : Cx} {tb : List Ent} {tp : List bD} {tc : List Clo} {fr : Fr} {Φ : Ctx} {D : List Deferred} {Q : aI}
theorem NR (hΓ: ∀ it∈X.Γ,it∈Φ) (htb: ∀ e∈tb,e.Ok X.P X.Γ) (htp: ∀ e∈tp,e.Ok X.P X.Γ) (htc: ∀ c∈tc,c.Ok X.P) {g:Operand} {ps:Array Tmp} {assign body:Code} {gv:AV} {st:StB} {hi hb:HT} {Kend:Nat→StB→Option R} {ρ:Nms} {w:World} {ds:List Nat}
  (hg:opA [] st.E fr.F none g=some gv) (hs:Sat (items ρ [] st.G++(items ρ [] fr.H++cg ds::Φ)) w) (h:rfD X tb tp tc ps.toList assign body gv fr st hi hb Kend=some r)
  (hend: ∀ p st1 ρ1 w1 ds',aA st.c ρ ρ1→st.c≤st1.c→Kend p st1=some r→Sat (items ρ1 [] st1.G++(items ρ1 [] fr.H++cg ds'::Φ)) w1→AtX Q (BJ p) ρ1 fr.n (mk ds'++D) (ai ρ1 [] st.E fr.F) w1):
  WC X.P none (.rangeFunc g ps assign body) Q fr.n (mk ds++D) (ai ρ [] st.E fr.F) w:=by
 unfold rfD at h
 split at h
 ·rename_i f a b
  split at h
  ·rename_i cl hcl
   obtain ⟨c1,c2⟩:=BS htc hcl
   subst c2
   split at h
   ·rename_i ib hib
    obtain ⟨k1,h1⟩:=ao h
    simp only [Bool.and_eq_true] at k1
    obtain ⟨⟨⟨⟨⟨⟨d1,d2⟩,d3⟩,d4⟩,d5⟩,d6⟩,d7⟩:=k1
    have hres:cl.fn.results= #[]:=by simpa using d1
    have hn1:cl.fn.ntmps≤10000:=Nat.le_of_ble_eq_true d3
    obtain ⟨l1,l2,l3,l4⟩:=StB.bz.1 d4
    have hg':=aT (ρ:=ρ) hg
    simp only [AV.val] at hg'
    have hab:AV.bh st.c a=true∧AV.bh st.c b=true:=⟨d6,d7⟩
    -- the marks in front
    have hs0:Sat (cg ds::(items ρ [] st.G++(items ρ [] fr.H++Φ))) w:=by
     have:Sat ((items ρ [] st.G++items ρ [] fr.H)++cg ds::Φ) w:=by rw [List.append_assoc];exact hs
     have:=this.front
     rwa [List.append_assoc] at this
    refine Gh ds c1.1 hg' hs0 (fun l bb r0 w1 hr hs1=> ?_)
    have hr':Rec fr.n (ai ρ [] st.E fr.F) ps.toList.toArray assign body bb r0:=by simpa using hr
    -- yield's name
    generalize hρ:ρ.set st.c { nm0 with x:= .func (.yield l) #[] #[] }=ρ1
    have hag:aA st.c ρ ρ1:=by rw [← hρ];exact Nms.aD
    have hyv:(ρ1 st.c).x= .func (.yield l) #[] #[]:=by rw [← hρ,Nms.aS]
    have hvals:AV.ah ρ1 (a++ .nv st.c::b)=AV.ah ρ a++[Value.func (.yield l) #[] #[]]++AV.ah ρ b:=by
     rw [bK]
     simp only [AV.ah,AV.val,hyv]
     rw [AV.bc hag _ hab.1,AV.bc hag _ hab.2]
     simp
    rw [← hvals]
    -- the rows
    have hs2:Sat (items ρ1 [] st.G++(items ρ1 [] fr.H++(bR l r0 (zP 0) (sH 0)::cg (bb::ds)::Φ))) w1:=by
     rw [aF hag l3,aF hag l4]
     have e1:Sat ([]++([bR l r0 .ready none,cg (bb::ds)]++((items ρ [] st.G++items ρ [] fr.H)++Φ))) w1:=by simpa using hs1
     have:=e1.swap
     simp only [List.nil_append,List.append_assoc,List.cons_append] at this
     exact this
    have hΓ1: ∀ p,∀ it∈X.Γ,it∈(bR l r0 (zP p) (sH p)::cg (bb::ds)::Φ):=fun p it hi=>List.mem_cons_of_mem _ (List.mem_cons_of_mem _ (hΓ it hi))
    have hrr:Rec fr.n (ai ρ1 [] st.E fr.F) ps.toList.toArray assign body bb r0:=by rw [kh d4 hag];exact hr'
    have hY:=Rr (r:=r) (tp:=tp) (hb:=hb) (Φ1:=cg (bb::ds)::Φ) (fun it hi=>List.mem_cons_of_mem _ (hΓ it hi)) htb htp (l:=l) hrr l1 l2 d5
    refine Calls.mono (jL (S:=gJ X.P none l fr.n (mk (bb::ds)++D) Q (ai ρ [] st.E fr.F)) (Sp:=fun _ _=>False) c1.2 hib rfl (by rw [AV.aH];simpa [Nat.add_comm,Nat.add_left_comm,Nat.add_assoc] using d2) ?_) (fun e w' he=>he)
    have hE:ai ρ1 [] (jU 0 (a++ .nv st.c::b)) (yT (st.E++fr.F))=iota 0 (AV.ah ρ1 (a++ .nv st.c::b))++al.env ρ1 [] (yT (st.E++fr.F)):=by
     show al.env ρ1 [] (jU 0 _)++al.env ρ1 [] _=_
     rw [sa]
    have hx:=pE (r:=r) (D:=[]) (Φ:=fun p=>bR l r0 (zP p) (sH p)::cg (bb::ds)::Φ) hΓ1 htb (y:=⟨st.c,HS X tb tp ps.toList assign body fr st.E hb⟩) hyv hY ib (Q:=BP X.P cl.fn (gJ X.P none l fr.n (mk (bb::ds)++D) Q (ai ρ [] st.E fr.F)) (fun _ _=>False)) (fr:=⟨yT (st.E++fr.F),fr.H,cl.fn.ntmps⟩) (H1:=[]) (K:=itE Kend) (st:=⟨st.c+1,jU 0 (a++ .nv st.c::b),st.G,hi⟩) (ρ:=ρ1) (w:=w1) rfl ⟨Nat.lt_succ_self _,.refl⟩ hs2 h1 (fun p e st1 ρ2 w2 a1 a2 a3 a4=> ?_)
    ·rw [hE] at hx
     exact fun aa hf hd=>hx aa (hf.far hn1) hd
    · -- the iterator's end
     have ag2:aA st.c ρ ρ2:=hag.trans (a1.less (Nat.le_succ _)) (Nat.le_refl _)
     have le2:st.c≤st1.c:=Nat.le_of_succ_le a2
     have eE:ai ρ2 [] st.E fr.F=ai ρ [] st.E fr.F:=kh d4 ag2
     have fin:Kend p st1=some r→gJ X.P none l fr.n (mk (bb::ds)++D) Q (ai ρ [] st.E fr.F) (.tuple #[]) w2:=fun hk=>by
      have b4:Sat (bR l r0 (zP p) (sH p)::(items ρ2 [] st1.G++(items ρ2 [] fr.H++cg (bb::ds)::Φ))) w2:=by
       have:Sat ((items ρ2 [] st1.G++items ρ2 [] fr.H)++bR l r0 (zP p) (sH p)::cg (bb::ds)::Φ) w2:=by rw [List.append_assoc];exact a4
       have:=this.front
       rwa [List.append_assoc] at this
      have at_: ∀ w3,Sat (items ρ2 [] st1.G++(items ρ2 [] fr.H++cg (bb::ds)::Φ)) w3→AtX Q (BJ p) ρ2 fr.n (mk (bb::ds)++D) (ai ρ [] st.E fr.F) w3:=fun w3 hw=>by
       have:=hend p st1 ρ2 w3 (bb::ds) ag2 le2 hk hw
       rwa [eE] at this
      match p,b4,at_ with
      | 0,b4,at_=>exact gJ.go hr b4 (fun w3 hw=>at_ w3 hw)
      | 1,b4,at_=>exact gJ.jump hr b4 (fun w3 hw=>wb (at_ w3 hw))
      | q+2,b4,at_=>
       simp only [sH,BJ] at b4 at_
       cases hq:Nat.beq (q%2) 0
       ·simp only [hq] at b4 at_
        exact gJ.jump hr b4 (fun w3 hw=>KG (at_ w3 hw))
       ·simp only [hq] at b4 at_
        exact gJ.jump hr b4 (fun w3 hw=>DI (at_ w3 hw))
     cases e with
     | nrm=>exact (Mp (vs:=[]) (by simp [hres]) (fun aa hf=>by rw [hres];simp) (v:= .tuple #[]) rfl (fin a3):At (BP X.P cl.fn _ _) .ret cl.fn.ntmps [] _ w2)
     | ret=>exact Mp (vs:=[]) (by simp [hres]) (fun aa hf=>by rw [hres];simp) (v:= .tuple #[]) rfl (fin a3)
     | _=>cases a3
   ·cases h
  ·cases h
 ·cases h
end
def kZ:Code→Bool
 | .rangeFunc .. =>true
 | .seq a b=>kZ a||kZ b
 | .cond _ a b=>kZ a||kZ b
 | .block _ c=>kZ c
 | .loop c=>kZ c
 | .scope c=>kZ c
 | _=>false
noncomputable def gz {R:Type} (X:Cx) (tb:List Ent) (tp:List bD) (tc:List Clo):Code→Fr→(XE→StB→Option R)→StB→Option R
 | .block i c,fr,K,st=>gz X tb tp tc c fr (brk i K) st
 | .cond c x y,fr,K,st=>ifS (kZ x||kZ y) (match opA [] st.E fr.F none c with
  | some (.bool b)=>cnd b (fun h=>gz X tb tp tc x fr K { st with h:=h }) (fun h=>gz X tb tp tc y fr K { st with h:=h }) st.h
  | _=>none) (den X tb tp (.cond c x y) fr K st)
 | .seq x y,fr,K,st=>ifS (kZ x||kZ y) (match st.h with
  | .j tm p q=>ifS (st.low fr) (
   aj (fun s:Tup (eR tm.vs)=>gz X tb tp tc y fr K (ek (enter fr tm (bB x) st) tm s q)) fun k=>
   gz X tb tp tc x (enter fr tm (bB x) st).fr (thn (fun st'=>match iq (enter fr tm (bB x) st) tm st'.E st'.G with
     | some s=>k s
     | none=>none) (fun e st'=>K e (sQ (enter fr tm (bB x) st) st'))) ⟨(enter fr tm (bB x) st).c,(enter fr tm (bB x) st).Et,(enter fr tm (bB x) st).Gt,p⟩ ) none
  | .s h=>gz X tb tp tc x fr (thn (gz X tb tp tc y fr K) K) { st with h:=h }
  | _=>gz X tb tp tc x fr (thn (gz X tb tp tc y fr K) K) st) (den X tb tp (.seq x y) fr K st)
 | .loop c,fr,K,st=>ifS (kZ c) (match st.h with
  | .l tm p=>ifS (st.low fr) (
   match iq (enter fr tm (bB c) st) tm (enter fr tm (bB c) st).Et (enter fr tm (bB c) st).Gt with
   | some s=>aq (fun again s=>gz X tb tp tc c (enter fr tm (bB c) st).fr (thn (fun st'=>match iq (enter fr tm (bB c) st) tm st'.E st'.G with
      | some s=>again s
      | none=>none) (fun e st'=>K e (sQ (enter fr tm (bB c) st) st'))) (bE (enter fr tm (bB c) st) tm s p)) X.fl s
   | none=>none ) none
  | _=>none) (den X tb tp (.loop c) fr K st)
 | .rangeFunc g ps assign body,fr,K,st=>match st.h with
  | .c (.c hi hb) (.r (70000::th) hr)=>(match opA [] st.E fr.F none g with
   | some gv=>rfD X tb tp tc ps.toList assign body gv ⟨fr.F,aK (fun r=> !(dK (reach st fr th) r)) st.G++fr.H,fr.n⟩ { st with G:=aK (dK (reach st fr th)) st.G } hi hb (fun p st1=>K (BJ p) { st1 with E:=st.E,h:=hr,G:=st1.G++aK (fun r=> !(dK (reach st fr th) r)) st.G })
   | none=>none)
  | .c (.c hi hb) hr=>(match opA [] st.E fr.F none g with
   | some gv=>rfD X tb tp tc ps.toList assign body gv fr st hi hb (fun p st1=>K (BJ p) { st1 with E:=st.E,h:=hr })
   | none=>none)
  | _=>none
 | c,fr,K,st=>den X tb tp c fr K st
section
variable {P : Program} {ρ : Option Nat} {Q : aI} {n : Nat} {E : Env} {w : World}
def MS {γ:Type} (J:γ→World→Prop) (Es:γ→Env) (n:Nat) (Ds:γ→List Deferred) (a:Act) (w:World):Prop:=
 ∃ g,J g w∧Fits n (Es g) a∧a.defers=Ds g
theorem Kl {γ:Type} (J:γ→World→Prop) (Es:γ→Env) (Ds:γ→List Deferred) {D:List Deferred} {x y:Code}
  (hy: ∀ g w',J g w'→WC P ρ y Q n (Ds g) (Es g) w') (hx:WC P ρ x (Exit.then (MS J Es n Ds) Q) n D E w):WC P ρ (.seq x y) Q n D E w:=
 fun a hf hd=>wpIn_seq (wpIn_mono (hx a hf hd) (fun e a' w' h=>by
  cases e <;> first | exact h | (obtain ⟨g,hJ,hF,hD⟩:=h;exact hy g w' hJ a' hF hD)))
theorem Rm {γ:Type} {J:γ→World→Prop} {Es:γ→Env} {Ds:γ→List Deferred} {D:List Deferred} (g:γ) (hJ:J g w) (hs:fV (Es g) E) (hD:D=Ds g):At (Exit.then (MS J Es n Ds) Q) .normal n D E w:=
 fun _a hf hd=>⟨g,hJ,hf.jw hs,hd.trans hD⟩
def Cm {σ γ τ:Type} (again:σ→Option τ) (r:τ) (J:σ→γ→World→Prop) (Es:σ→γ→Env) (n:Nat) (Ds:γ→List Deferred) (a:Act) (w:World):Prop:=
 ∃ s g,again s=some r∧J s g w∧Fits n (Es s g) a∧a.defers=Ds g
theorem Rf {σ γ τ:Type} {F:(σ→Option τ)→σ→Option τ} {r:τ} (J:σ→γ→World→Prop) (Es:σ→γ→Env) (Ds:γ→List Deferred) {body:Code} {D:List Deferred}
  {N:Nat} {s0:σ} (hm:aq F N s0=some r) (g0:γ) (h0:J s0 g0 w) (hE:fV (Es s0 g0) E) (hD:D=Ds g0)
  (round: ∀ again s g w,F again s=some r→J s g w→WC P ρ body (Exit.then (Cm again r J Es n Ds) Q) n (Ds g) (Es s g) w):
  WC P ρ (.loop body) Q n D E w:=fun a hf hd=>
 v8 (fun m=>Cm (aq F m) r J Es n Ds) N ⟨s0,g0,hm,h0,hf.jw hE,hd.trans hD⟩ fun m a w ⟨s,g,hs,hJ,hF,hD⟩=>by
  obtain ⟨m',rfl,hs'⟩:=qf hs
  exact wpIn_mono (round (aq F m') s g w hs' hJ a hF hD) fun e a w h=>by
   cases e <;> first | exact h | exact ⟨m',Nat.lt_succ_self _,h⟩
theorem Ot {σ γ τ:Type} {again:σ→Option τ} {r:τ} {J:σ→γ→World→Prop} {Es:σ→γ→Env} {Ds:γ→List Deferred} {D:List Deferred}
  (s:σ) (g:γ) (hm:again s=some r) (hJ:J s g w) (hs:fV (Es s g) E) (hD:D=Ds g):At (Exit.then (Cm again r J Es n Ds) Q) .normal n D E w:=
 fun _a hf hd=>⟨s,g,hm,hJ,hf.jw hs,hd.trans hD⟩
end
section
variable {R : Type} {r : R} {X : Cx} {tb : List Ent} {tp : List bD} {tc : List Clo} {Φ : Ctx} {D : List Deferred}
def Dr (Q:aI) (D:List Deferred) (fr:Fr) (Φ:Ctx) (c0:Nat) (ρ0:Nms) (r:R) (K:XE→StB→Option R):Prop:= ∀ ds,iw Q (mk ds++D) fr (cg ds::Φ) c0 ρ0 r K
theorem Dr.less {Q:aI} {fr:Fr} {c0 c1:Nat} {ρ0 ρ1:Nms} {K:XE→StB→Option R} (h:Dr Q D fr Φ c0 ρ0 r K) (ha:aA c0 ρ0 ρ1) (hc:c0≤c1):Dr Q D fr Φ c1 ρ1 r K:=fun ds=>(h ds).less ha hc
theorem SN (hΓ: ∀ it∈X.Γ,it∈Φ) (htb: ∀ e∈tb,e.Ok X.P X.Γ) (htp: ∀ e∈tp,e.Ok X.P X.Γ) (htc: ∀ c∈tc,c.Ok X.P): ∀ (c:Code) {Q:aI} {fr:Fr} {K:XE→StB→Option R} {st:StB} {ρ:Nms} {w:World} {ds:List Nat},Sat (items ρ [] st.G++(items ρ [] fr.H++cg ds::Φ)) w→
  gz X tb tp tc c fr K st=some r→Dr Q D fr Φ st.c ρ r K→WC X.P none c Q fr.n (mk ds++D) (ai ρ [] st.E fr.F) w:=fun c=>by
 have hΓ': ∀ ds:List Nat,∀ it∈X.Γ,it∈cg ds::Φ:=fun ds it hi=>List.mem_cons_of_mem _ (hΓ it hi)
 have lD: ∀ (c:Code) {Q:aI} {fr:Fr} {K:XE→StB→Option R} {st:StB} {ρ:Nms} {w:World} {ds:List Nat},Sat (items ρ [] st.G++(items ρ [] fr.H++cg ds::Φ)) w→
   den X tb tp c fr K st=some r→Dr Q D fr Φ st.c ρ r K→WC X.P none c Q fr.n (mk ds++D) (ai ρ [] st.E fr.F) w:=fun c {Q fr K st ρ w ds} hs h hK=>
  dC (hΓ' ds) htb htp c hs h (hK ds)
 induction c with
 | block i c ih=>
  intro Q fr K st ρ w ds hs h hK
  exact B2 (ih hs (by unfold gz at h;exact h) (fun ds=>BY (hK ds)))
 | cond c x y ihx ihy=>
  intro Q fr K st ρ w ds hs h hK
  unfold gz at h
  rcases cw h with ⟨_,h⟩ | ⟨_,h⟩
  ·split at h
   ·rename_i b hb
    have hc:=aT (ρ:=ρ) hb
    simp only [AV.val] at hc
    obtain ⟨p,q,h1,h2⟩:=Cg h
    exact iF hc (fun hb=>ihx (st:={ st with h:=p }) hs (h1 hb) hK) (fun hb=>ihy (st:={ st with h:=q }) hs (h2 hb) hK)
   ·cases h
  ·exact lD _ hs h hK
 | seq x y ihx ihy=>
  intro Q fr K st ρ w ds hs h hK
  unfold gz at h
  rcases cw h with ⟨_,h⟩ | ⟨_,h⟩
  ·have plain: ∀ h',gz X tb tp tc x fr (thn (gz X tb tp tc y fr K) K) { st with h:=h' }=some r→WC X.P none (.seq x y) Q fr.n (mk ds++D) (ai ρ [] st.E fr.F) w:=fun h' hd=>by
    refine aX (ihx (st:={ st with h:=h' }) hs hd (fun ds' e st' ρ' w' a1 a2 a3 a4=> ?_))
    by_cases he:e= .nrm
    ·subst he
     exact aN (ihy a4 a3 (hK.less a1 a2))
    ·rw [j7 he] at a3
     exact eS he (hK ds' e st' ρ' w' a1 a2 a3 a4)
   split at h
   ·rename_i tm p q hh
    obtain ⟨hl,h2⟩:=ao h
    obtain ⟨ρ1,en⟩:=o9 (tm:=tm) (m:=bB x) hl hs
    generalize enter fr tm (bB x) st=E0 at h2 en
    unfold aj at h2
    refine Kl (γ:=(Tup (eR tm.vs)×Nms)×List Nat) (fun g w'=>gz X tb tp tc y fr K (ek E0 tm g.1.1 q)=some r∧aA E0.c ρ1 g.1.2∧Sat (items g.1.2 [] (ek E0 tm g.1.1 q).G++(items g.1.2 [] fr.H++cg g.2::Φ)) w') (fun g=>ai g.1.2 [] (ek E0 tm g.1.1 q).E fr.F) (fun g=>mk g.2++D) (fun g w' hg=> ?_) ?_
    ·obtain ⟨g1,g2,g3⟩:=hg
     refine ihy g3 g1 (hK.less (en.ag.trans g2 en.le) ?_)
     have:E0.c≤(ek E0 tm g.1.1 q).c:=by
      unfold ek
      generalize dx (fun n=>E0.c+n) E0.fix tm.vs 0 (unt _ g.1.1)=L
      obtain ⟨a,b,c,d⟩:=L
      exact Nat.le_add_right _ _
     exact Nat.le_trans en.le this
    ·have hx:=ihx (fr:=E0.fr) (st:=⟨E0.c,E0.Et,E0.Gt,p⟩) (ρ:=ρ1) (Q:=Exit.then (MS (fun (g:(Tup (eR tm.vs)×Nms)×List Nat) w'=>gz X tb tp tc y fr K (ek E0 tm g.1.1 q)=some r∧aA E0.c ρ1 g.1.2∧Sat (items g.1.2 [] (ek E0 tm g.1.1 q).G++(items g.1.2 [] fr.H++cg g.2::Φ)) w') (fun g=>ai g.1.2 [] (ek E0 tm g.1.1 q).E fr.F) fr.n (fun g=>mk g.2++D)) Q) en.sat h2 (fun ds' e st' ρ' w' a1 a2 a3 a4=> ?_)
     ·rw [en.fn] at hx
      exact hx.jw _ en.sub
     ·by_cases he:e= .nrm
      ·subst he
       have a3':(match iq E0 tm st'.E st'.G with | some s=>gz X tb tp tc y fr K (ek E0 tm s q) | none=>none)=some r:=a3
       split at a3'
       ·rename_i s hb
        obtain ⟨ρ2,E',R',k,DD,b1,b2,b3,b4⟩:=kQ en.lF en.lH en.fx a4 hb
        have eJ:ek E0 tm s q=⟨E0.c+k,E'++E0.E,rowsOf R'++E0.G,q⟩:=by unfold ek;rw [b1]
        rw [en.fn]
        refine Rm ((s,ρ2),ds') ⟨a3',a1.trans b2 (Nat.le_refl _),?_⟩ ?_ rfl
        ·rw [eJ]
         show Sat (items ρ2 [] (rowsOf R'++E0.G)++_) w'
         rw [aJ,List.append_assoc]
         rw [en.fh,aJ,List.append_assoc] at b4
         exact b4
        ·rw [eJ]
         show fV (al.env ρ2 [] (E'++E0.E)++_) _
         rw [en.ff] at b3
         have e2:ai ρ2 [] E' (E0.E++fr.F)=al.env ρ2 [] (E'++E0.E)++al.env ρ2 [] fr.F:=by
          show al.env ρ2 [] E'++al.env ρ2 [] (E0.E++fr.F)=_
          rw [kx,kx,List.append_assoc]
         rw [← e2,en.ff];exact b3
       ·cases a3'
      ·rw [j7 he] at a3
       have:=nt (hK ds') en.ag en.le en.ff en.fh en.fn e st' ρ' w' a1 a2 a3 a4
       exact eS he this
   ·rename_i h' hh;exact plain h' h
   ·exact plain st.h h
  ·exact lD _ hs h hK
 | loop c ih=>
  intro Q fr K st ρ w ds hs h hK
  unfold gz at h
  rcases cw h with ⟨_,h⟩ | ⟨_,h⟩
  ·split at h
   ·rename_i tm p hh
    obtain ⟨hl,h2⟩:=ao h
    obtain ⟨ρ1,en⟩:=o9 (tm:=tm) (m:=bB c) hl hs
    generalize enter fr tm (bB c) st=E0 at h2 en
    split at h2
    ·rename_i s0 hb0
     obtain ⟨ρ2,E',R',k,DD,b1,b2,b3,b4⟩:=kQ en.lF en.lH en.fx en.sat hb0
     have eL: ∀ s E' R' k DD,dx (fun n=>E0.c+n) E0.fix tm.vs 0 (unt _ s)=⟨E',R',k,DD⟩→bE E0 tm s p=⟨E0.c+k,E',rowsOf R',p⟩:=fun s E' R' k DD hb=>by unfold bE;rw [hb]
     refine Rf (γ:=Nms×List Nat) (fun s g w'=>aA E0.c ρ1 g.1∧Sat (items g.1 [] (bE E0 tm s p).G++(items g.1 [] E0.fr.H++cg g.2::Φ)) w') (fun s g=>ai g.1 [] (bE E0 tm s p).E E0.fr.F) (fun g=>mk g.2++D) h2 (ρ2,ds) ⟨b2,?_⟩ ?_ rfl (fun again s g w' hag hJ=> ?_)
     ·rw [eL _ _ _ _ _ b1];exact b4
     ·rw [eL _ _ _ _ _ b1];exact b3.trans en.sub
     ·have hc:E0.c≤(bE E0 tm s p).c:=by
       unfold bE
       generalize dx (fun n=>E0.c+n) E0.fix tm.vs 0 (unt _ s)=L
       obtain ⟨a,b,c,d⟩:=L
       exact Nat.le_add_right _ _
      have hx:=ih (fr:=E0.fr) (st:=bE E0 tm s p) (ρ:=g.1) (ds:=g.2) (Q:=Exit.then (Cm again r (fun s (g:Nms×List Nat) w'=>aA E0.c ρ1 g.1∧Sat (items g.1 [] (bE E0 tm s p).G++(items g.1 [] E0.fr.H++cg g.2::Φ)) w') (fun s g=>ai g.1 [] (bE E0 tm s p).E E0.fr.F) fr.n (fun g=>mk g.2++D)) Q) hJ.2 hag (fun ds' e st' ρ' w2 a1 a2 a3 a4=> ?_)
      ·rw [en.fn] at hx;exact hx
      ·by_cases he:e= .nrm
       ·subst he
        have a3':(match iq E0 tm st'.E st'.G with | some s=>again s | none=>none)=some r:=a3
        split at a3'
        ·rename_i s' hb
         obtain ⟨ρ3,E2,R2,k2,DD2,d1,d2,d3,d4⟩:=kQ en.lF en.lH en.fx a4 hb
         rw [en.fn]
         refine Ot s' (ρ3,ds') a3' ⟨(hJ.1.trans (a1.less hc) (Nat.le_refl _)).trans d2 (Nat.le_refl _),?_⟩ ?_ rfl
         ·rw [eL _ _ _ _ _ d1];exact d4
         ·rw [eL _ _ _ _ _ d1];exact d3
        ·cases a3'
       ·rw [j7 he] at a3
        have:=nt (hK ds') en.ag en.le en.ff en.fh en.fn e st' ρ' w2 (hJ.1.trans (a1.less hc) (Nat.le_refl _)) (Nat.le_trans hc a2) a3 a4
        exact eS he this
    ·cases h2
   ·cases h
  ·exact lD _ hs h hK
 | rangeFunc g ps assign body=>
  intro Q fr K st ρ w ds hs h hK
  unfold gz at h
  split at h
  ·rename_i hi hb th hr hh
   split at h
   ·rename_i gv hg
    have hs2:=nn (A:=[]) (p:=dK (reach st fr th)) hs
    refine NR (fr:=⟨fr.F,aK (fun r=> !(dK (reach st fr th) r)) st.G++fr.H,fr.n⟩) (st:={ st with G:=aK (dK (reach st fr th)) st.G }) hΓ htb htp htc hg (by simpa [items] using hs2) h (fun p st1 ρ1 w1 ds' a1 a2 a3 a4=>hK ds' (BJ p) { st1 with E:=st.E,h:=hr,G:=st1.G++aK (fun r=> !(dK (reach st fr th) r)) st.G } ρ1 w1 a1 a2 a3 ?_)
    rw [aJ,List.append_assoc]
    simpa [items] using a4
   ·cases h
  ·rename_i hi hb hr _ hh
   split at h
   ·rename_i gv hg
    exact NR hΓ htb htp htc hg hs h (fun p st1 ρ1 w1 ds' a1 a2 a3 a4=>hK ds' (BJ p) { st1 with E:=st.E,h:=hr } ρ1 w1 a1 a2 a3 a4)
   ·cases h
  ·cases h
 | _=>intro Q fr K st ρ w ds hs h hK;exact lD _ hs (by unfold gz at h;exact h) hK
def Sg (K:XE→StB→Option R):XE→StB→Option R
 | .nrm,st=>K .nrm st
 | .ret,st=>K .ret st
 | _,_=>none
theorem R7 (hΓ: ∀ it∈X.Γ,it∈Φ) (htb: ∀ e∈tb,e.Ok X.P X.Γ) (htp: ∀ e∈tp,e.Ok X.P X.Γ) (htc: ∀ c∈tc,c.Ok X.P) {fn:Func} {S:Value→World→Prop} {Sp:List PanicEntry→World→Prop} (c:Code) {fr:Fr} {K:XE→StB→Option R} {st:StB} {ρ:Nms} {w:World}
  (hs:Sat (items ρ [] st.G++(items ρ [] fr.H++Φ)) w) (h:gz X tb tp tc c fr (Sg K) st=some r) (hK:iw (BP X.P fn S Sp) [] fr Φ st.c ρ r K):WC X.P none c (BP X.P fn S Sp) fr.n [] (ai ρ [] st.E fr.F) w:=by
 have hs1:Sat (items ρ [] st.G++(items ρ [] fr.H++cg []::Φ)) w:=by
  have h1:Sat (cg []::((items ρ [] st.G++items ρ [] fr.H)++Φ)) w:=by
   rw [List.append_assoc];exact hs.S2
  have:=h1.behind
  rwa [List.append_assoc] at this
 refine SN (D:=[]) (ds:=[]) hΓ htb htp htc c hs1 h (fun ds e st' ρ' w' a1 a2 a3 a4=> ?_)
 have a5:Sat (cg ds::(items ρ' [] st'.G++(items ρ' [] fr.H++Φ))) w':=by
  have h1:Sat ((items ρ' [] st'.G++items ρ' [] fr.H)++cg ds::Φ) w':=by rw [List.append_assoc];exact a4
  have:=h1.front
  rwa [List.append_assoc] at this
 rw [List.append_nil]
 cases e with
 | nrm=>exact Iz ds a5 (fun w2 hw=>hK .nrm st' ρ' w2 a1 a2 a3 hw)
 | ret=>exact Cb ds a5 (fun w2 hw=>hK .ret st' ρ' w2 a1 a2 a3 hw)
 | _=>cases a3
end
end Go.Proofs.YtgcgmclghbebjaaGreat
namespace Go.Proofs.YtgcgmclghbebjaaGreat
open Go.Lib
abbrev Wf {R:Type} (E0:al) (K:StB→Option R):XE→StB→Option R
 | .nrm,st=>K { st with E:=E0 }
 | .ret,st=>K { st with E:=E0 }
 | _,_=>none
noncomputable def HM {R:Type} (X:Cx) (tb:List Ent) (tp:List bD) (cl:Clo) (cap:List AV) (v:AV) (fr:Fr) (st:StB) (K:StB→Option R):Option R:=match cl.fn.body with
 | some (.seq (.region _ ops false) y)=>(match ops.toList with
  | ⟨some d,.call ⟨.builtin .recover,xs,_⟩,_,_,_,none⟩::l=>ifS (xs.isEmpty&&l.all GO&&cl.fn.results.isEmpty&&Nat.ble cap.length cl.fn.ntmps&&Nat.blt d cl.fn.ntmps) (
    sy X tb tp (fun _ _=>none) ops.toList ⟨[],fr.H,cl.fn.ntmps⟩ l [] { st with E:=(d,none,v)::jU 0 cap,h:= .c (.r (List.range cap.length) .o) .o } (fun st1=>den X tb tp y ⟨[],fr.H,cl.fn.ntmps⟩ (Wf st.E K) st1)) none
  | _=>none)
 | _=>none
section
variable {X : Cx} {tb : List Ent} {tp : List bD} {D : List Deferred} {R : Type} {r : R} {Φ : Ctx}
theorem EP {cl:Clo} {cap:List AV} {v:AV} {fr:Fr} {st:StB} {K:StB→Option R} {ρ:Nms} {w:World} {u u':FrameMode} {T:World→Prop} (hcl:cl.Ok X.P) (hΓ: ∀ it∈X.Γ,it∈Φ) (htb: ∀ e∈tb,e.Ok X.P X.Γ) (htp: ∀ e∈tp,e.Ok X.P X.Γ)
  (hs:Sat (items ρ [] st.G++(items ρ [] fr.H++Φ)) w) (hu:(u= .returning∧u'= .returning∧v.val ρ= .nilIface)∨(u= .panicking (pan (v.val ρ))∧u'= .panicking [{ v:=v.val ρ,recovered:=true }]))
  (h:HM X tb tp cl cap v fr st K=some r) (hK: ∀ (st':StB) (ρ':Nms) (w':World),aA st.c ρ ρ'→st.c≤st'.c→K { st' with E:=st.E }=some r→Sat (items ρ' [] st'.G++(items ρ' [] fr.H++Φ)) w'→T w'):
  zF X.P cl.f (AV.ah ρ cap) u w fun u2 w'=>u2=u'∧T w':=by
 unfold HM at h
 split at h
 ·rename_i id ops y hb
  split at h
  ·rename_i d xs tys ty pos af l hops
   obtain ⟨h1,h2⟩:=ao h
   simp only [Bool.and_eq_true] at h1
   obtain ⟨⟨⟨⟨h3,h4⟩,h5⟩,h6⟩,h7⟩:=h1
   have hxs:xs= #[]:=by simpa using h3
   subst hxs
   have hres:cl.fn.results= #[]:=by simpa using h5
   refine EG (n:=cl.fn.ntmps) hcl.2 hb hops h4 hres rfl (by rw [AV.aH];exact h6) h7 hu ?_
   obtain ⟨opl⟩:=ops
   simp only at hops h2
   have:=KX (σ:=none) (D:=[]) (Q:=Exit.then (y.wpIn (FW none) 0 X.P (QB T)) (QB T)) (ρ:=ρ) (w:=w) (r:=r) (ops:=opl) (fr:=⟨[],fr.H,cl.fn.ntmps⟩) (st:={ st with E:=(d,none,v)::jU 0 cap,h:= .c (.r (List.range cap.length) .o) .o }) hΓ htb htp (fun x h=>by cases h) (fun x h=>by cases h) ⟨fun x _=>rfl,fun x _=>rfl⟩ hs h2 (fun st1 ρ1 w1 a1 a2 a3 a4=> ?_) (fun v st1 ρ1 w1 a1 a2 a3 a4=>by cases a3)
   ·have e1:ai ρ [] ((d,none,v)::jU 0 cap) []=(d,true,v.val ρ)::iota 0 (AV.ah ρ cap):=by
     show al.env ρ [] ((d,none,v)::jU 0 cap)++[]=_
     simp only [al.env,Tbl.get_none,sa,List.append_nil]
    have e2:ai ρ [] ({ st with E:=(d,none,v)::jU 0 cap,h:= .c (.r (List.range cap.length) .o) .o }:StB).E (⟨[],fr.H,cl.fn.ntmps⟩:Fr).F=(d,true,v.val ρ)::iota 0 (AV.ah ρ cap):=e1
    rw [e2] at this
    exact this
   ·refine aN (dC (σ:=none) (D:=[]) hΓ htb htp y (fr:=⟨[],fr.H,cl.fn.ntmps⟩) a4 a3 (fun e st2 ρ2 w2 b1 b2 b3 b4=> ?_))
    cases e with
    | nrm=>exact V3 (hK st2 ρ2 w2 (a1.trans b1 a2) (Nat.le_trans a2 b2) b3 b4)
    | ret=>exact Vx (hK st2 ρ2 w2 (a1.trans b1 a2) (Nat.le_trans a2 b2) b3 b4)
    | ext i=>cases b3
    | gto l=>cases b3
    | pan v=>cases b3
    | panE v=>cases b3
  ·cases h
 ·cases h
end
def LL:List Oper→Option (List Oper×Operand)
 | []=>none
 | o::l=>(match l with
  | []=>(match o with
   | ⟨none,.defer ⟨.value fo,xs,_⟩,_,_,_,none⟩=>ifS xs.isEmpty (some ([],fo)) none
   | _=>none)
  | _::_=>(match LL l with
   | some p=>some (o::p.1,p.2)
   | none=>none))
theorem KU:{l l':List Oper}→{fo:Operand}→LL l=some (l',fo)→ ∃ tys ty pos af,l=l'++[⟨none,.defer ⟨.value fo,#[],tys⟩,ty,pos,af,none⟩]
 | [],_,_,h=>by cases h
 | o::l,l',fo,h=>by
  unfold LL at h
  split at h
  ·split at h
   ·obtain ⟨h1,h2⟩:=ao h
    rename_i xs _ _ _ _
    have:xs= #[]:=by simpa using h1
    subst this
    cases h2
    exact ⟨_,_,_,_,rfl⟩
   ·cases h
  ·split at h
   ·rename_i p hp
    cases h
    obtain ⟨tys,ty,pos,af,h2⟩:=KU (fo:=p.2) (l':=p.1) (by rw [hp])
    exact ⟨tys,ty,pos,af,by rw [h2];rfl⟩
   ·cases h
def MV:Code→Option (List Oper×List Oper×Operand)
 | .region _ ops false=>(match LL ops.toList with
  | some p=>some (ops.toList,p.1,p.2)
  | none=>none)
 | _=>none
def SA:Code→Bool
 | .scope _=>true
 | .seq x y=>(MV x).isSome||SA y
 | _=>false
noncomputable def We {R:Type} (X:Cx) (tb:List Ent) (tp:List bD) (cl:Clo) (cap:List AV) (fr:Fr) (K:XE→StB→Option R):XE→StB→Option R
 | .nrm,st=>ifS (st.low fr) (HM X tb tp cl cap (.raw .nilIface) fr st (K .ret)) none
 | .ret,st=>ifS (st.low fr) (HM X tb tp cl cap (.raw .nilIface) fr st (K .ret)) none
 | .panE v,st=>ifS (st.low fr) (HM X tb tp cl cap v fr st (K .ret)) none
 | _,_=>none
noncomputable def Ny {R:Type} (X:Cx) (tb:List Ent) (tp:List bD) (tc:List Clo):Code→Fr→(XE→StB→Option R)→StB→Option R
 | .scope c,fr,K,st=>Sa X tb tp c fr K st
 | .seq x y,fr,K,st=>(match MV x with
  | some p=>sy X tb tp (fun v st=>K (.panE v) st) p.1 fr p.2.1 [] (qC st) (fun st1=>match opA [] st1.E fr.F none p.2.2 with
   | some (.fn f [] cap)=>(match Dv tc f with
    | some cl=>ifS (AV.bh st1.c cap) (den X tb tp y fr (We X tb tp cl cap fr K) st1) none
    | none=>none)
   | _=>none)
  | none=>ifS (SA y) (den X tb tp x fr (thn (Ny X tb tp tc y fr K) K) (qC st)) (ifS (kZ x||kZ y) (gz X tb tp tc (.seq x y) fr (Sg K) st) (den X tb tp (.seq x y) fr K st)))
 | c,fr,K,st=>den X tb tp c fr K st
section
variable {X : Cx} {tb : List Ent} {tp : List bD} {tc : List Clo} {R : Type} {r : R} {Φ : Ctx} {fn : Func} {S : Value → World → Prop} {Sp : List PanicEntry → World → Prop}
theorem SY {c:Code} {p:List Oper×List Oper×Operand} (h:MV c=some p): ∃ id ops,c= .region id ops false∧ops.toList=p.1∧ ∃ tys ty pos af,p.1=p.2.1++[⟨none,.defer ⟨.value p.2.2,#[],tys⟩,ty,pos,af,none⟩]:=by
 unfold MV at h
 split at h
 ·rename_i id ops
  split at h
  ·rename_i q hq
   cases h
   exact ⟨id,ops,rfl,rfl,KU hq⟩
  ·cases h
 ·cases h
theorem T9 (hΓ: ∀ it∈X.Γ,it∈Φ) (htb: ∀ e∈tb,e.Ok X.P X.Γ) (htp: ∀ e∈tp,e.Ok X.P X.Γ) (htc: ∀ c∈tc,c.Ok X.P): ∀ (c:Code) {fr:Fr} {K:XE→StB→Option R} {st:StB} {ρ:Nms} {w:World},Sat (items ρ [] st.G++(items ρ [] fr.H++Φ)) w→
  Ny X tb tp tc c fr K st=some r→iw (BP X.P fn S Sp) [] fr Φ st.c ρ r K→WC X.P none c (BP X.P fn S Sp) fr.n [] (ai ρ [] st.E fr.F) w:=fun c=>by
 induction c with
 | scope c=>intro fr K st ρ w hs h hK;exact SX hΓ htb htp hs h hK
 | seq x y ihx ihy=>
  intro fr K st ρ w hs h hK
  obtain ⟨p1,p2,p3⟩:=Ko (st:=st)
  unfold Ny at h
  split at h
  ·rename_i p hp
   obtain ⟨id,ops,rfl,e1,tys,ty,pos,af,e2⟩:=SY hp
   refine aX (aW ?_)
   obtain ⟨opl⟩:=ops
   simp only at e1
   subst e1
   have hw:=wH (σ:=none) (D:=[]) (Q:=Exit.then (y.wpIn (FW none) 0 X.P (BP X.P fn S Sp)) (BP X.P fn S Sp)) (ρ:=ρ) (w:=w) (st:=qC st) (rest:=[⟨none,.defer ⟨.value p.2.2,#[],tys⟩,ty,pos,af,none⟩]) hΓ htb htp (fun x h=>by cases h) (fun x h=>by cases h) ⟨fun x _=>rfl,fun x _=>rfl⟩ (by rw [p3];exact hs) h (fun st1 ρ1 w1 a1 a2 a3 a4=> ?_) (fun v st1 ρ1 w1 a1 a2 a3 a4=> ?_)
   ·rw [p2,← e2] at hw
    exact hw
   ·split at a3
    ·rename_i f cap hfo
     split at a3
     ·rename_i cl hcl
      obtain ⟨b1,b2⟩:=ao a3
      obtain ⟨c1,c2⟩:=BS htc hcl
      have hfo':=aT (ρ:=ρ1) hfo
      simp only [AV.val,AV.ah] at hfo'
      subst c2
      refine Qv hfo' (bG (aN ?_))
      rw [p1] at a1 a2
      refine dC (σ:=none) (D:=[dfr cl.f (AV.ah ρ1 cap)]) hΓ htb htp y a4 b2 (fun e st2 ρ2 w2 d1 d2 d3 d4=> ?_)
      have hcap:AV.ah ρ2 cap=AV.ah ρ1 cap:=AV.bc d1 _ b1
      have kk:st2.low fr=true→ ∀ (st3:StB) (ρ3:Nms) (w3:World),aA st2.c ρ2 ρ3→st2.c≤st3.c→K .ret { st3 with E:=st2.E }=some r→Sat (items ρ3 [] st3.G++(items ρ3 [] fr.H++Φ)) w3→At (BP X.P fn S Sp) .ret fr.n [] (ai ρ2 [] st2.E fr.F) w3:=fun hl st3 ρ3 w3 f1 f2 f3 f4=>by
       have:=hK .ret { st3 with E:=st2.E } ρ3 w3 (a1.trans (d1.trans f1 d2) a2) (Nat.le_trans a2 (Nat.le_trans d2 f2)) f3 f4
       rw [← kh hl f1]
       exact this
      rw [← hcap]
      cases e with
      | nrm=>
       obtain ⟨l1,l2⟩:=ao d3
       exact Pn c1.1 (EP (u:= .returning) (T:=fun w'=>At (BP X.P fn S Sp) .ret fr.n [] (ai ρ2 [] st2.E fr.F) w') c1 hΓ htb htp d4 (.inl ⟨rfl,rfl,rfl⟩) l2 (kk l1)) (fun _ h=>h)
      | ret=>
       obtain ⟨l1,l2⟩:=ao d3
       exact Pn c1.1 (EP (u:= .returning) (T:=fun w'=>At (BP X.P fn S Sp) .ret fr.n [] (ai ρ2 [] st2.E fr.F) w') c1 hΓ htb htp d4 (.inl ⟨rfl,rfl,rfl⟩) l2 (kk l1)) (fun _ h=>h)
      | ext i=>cases d3
      | gto l=>cases d3
      | pan v=>cases d3
      | panE v=>
       obtain ⟨l1,l2⟩:=ao d3
       have hp:=EP (u:= .panicking (pan (v.val ρ2))) (T:=fun w'=>At (BP X.P fn S Sp) .ret fr.n [] (ai ρ2 [] st2.E fr.F) w') c1 hΓ htb htp d4 (.inr ⟨rfl,rfl⟩) l2 (kk l1)
       exact TV c1.1 hp (fun _ h=>h)
     ·cases a3
    ·cases a3
   ·rw [p1] at a1 a2
    exact F0 (hK (.panE v) st1 ρ1 w1 a1 a2 a3 a4)
  ·rename_i hp
   rcases cw h with ⟨h1,h2⟩ | ⟨_,h2⟩
   ·refine aX ?_
    have:=dC (σ:=none) (D:=[]) hΓ htb htp x (fr:=fr) (st:=qC st) (ρ:=ρ) (w:=w) (Q:=Exit.then (y.wpIn (FW none) 0 X.P (BP X.P fn S Sp)) (BP X.P fn S Sp)) (by rw [p3];exact hs) h2 (fun e st' ρ' w' a1 a2 a3 a4=> ?_)
    ·rw [p2] at this;exact this
    ·rw [p1] at a1 a2
     by_cases he:e= .nrm
     ·subst he
      exact aN (ihy a4 a3 (hK.less a1 a2))
     ·rw [j7 he] at a3
      exact eS he (hK e st' ρ' w' a1 a2 a3 a4)
   ·rcases cw h2 with ⟨_,h3⟩ | ⟨_,h3⟩
    ·exact R7 hΓ htb htp htc (.seq x y) hs h3 hK
    ·exact dC hΓ htb htp (.seq x y) hs h3 hK
 | _=>intro fr K st ρ w hs h hK;exact dC hΓ htb htp _ hs h hK
end
end Go.Proofs.YtgcgmclghbebjaaGreat
namespace Go.Proofs.YtgcgmclghbebjaaGreat
open Go.Lib
def cB:List (Bool×Row)→List Row
 | []=>[]
 | x::R=>ifS x.1 (x.2::cB R) (cB R)
def iB:List (Bool×Row)→List Row
 | []=>[]
 | x::R=>ifS x.1 (iB R) (x.2::iB R)
def yZ:List Row→List Nat
 | []=>[]
 | r::G=>(match r with
  | .box j _ _=>j::yZ G
  | _=>yZ G)
def idB:Nat→Nat→List (Option Nat)
 | 0,_=>[]
 | n+1,k=>some k::idB n (k+1)
def HH:List (Nat×List AV)→List (List AV)→List (Nat×List AV)
 | x::X,cs::C=>(x.1,cs)::HH X C
 | _,_=>[]
def xH (X:Cx) (fr:Fr) (st:StB):ResultVar→Option AV
 | .tmp t=>qe st.E fr.F t
 | .cell p t=>(match qe st.E fr.F p with
  | some v=>(match qc [] st.G fr.H none v with
   | some cs=>iD X.P t cs
   | none=>none)
  | none=>none)
def ud (vs:List AV):AV:=match vs with
 | [v]=>v
 | vs=> .tuple vs
def Qo (e:Ent) (fr:Fr) (st:StB) (v:AV) (fix0:Nat→Option AV) (fix:Nat→FxA):List Row:=frz (lV st.G fr.H e.r v++Cl st.G fr.H fix0 fix e.os) st.G
def Vg (e:Ent) (fr:Fr) (n:Nat) (G:List Row) (v:AV) (fix0:Nat→Option AV) (fix:Nat→FxA):Option (Tup (hol e.r++eR e.os)):=match mt G fr.H e.r v none none (idB n 0) with
 | some mr=>(match mtV G fr.H fix0 fix e.os mr.B with
  | some mq=>ifS (rT ((mr.S++mq.S).map fun x=>bY G fr.H x.2)&&ltT G.length ((mr.S++mq.S).map fun x=>bY G fr.H x.2)) (tup _ (mr.D++mq.D)) none
  | none=>none)
 | none=>none
def LW (X:Cx) (e:Ent) (fn:Func) (fr:Fr) (n:Nat) (fix0:Nat→Option AV) (fix:Nat→FxA) (st:StB):Option (Tup (hol e.r++eR e.os)):=match og (xH X fr st) fn.results.toList with
 | some rs=>Vg e fr n (Qo e fr st (ud rs) fix0 fix) (ud rs) fix0 fix
 | none=>none
abbrev Wk {R:Type} (K:StB→Option R):XE→StB→Option R
 | .nrm,st=>K st
 | .ret,st=>K st
 | _,_=>none
noncomputable def LK {R:Type} (X:Cx) (tb:List Ent) (tp:List bD) (tc:List Clo) (h:HT) (fn:Func) (ps:List Pt) (KF:List AV→List Row→Nat→List (Nat×List AV)→XE→StB→Option R) (s:Tup (kg ps)):Option R:=
 match cO id ps [] [] 0 (unt _ s) with
 | ⟨vs,R,n,_,XA⟩=>match ji (yZ (cB R)) n (cB R) with
  | (G,Q,c)=>match fn.body with
   | none=>none
   | some body=>ifS (Nat.ble vs.length fn.ntmps&&AV.bh n vs&&aU n (R.map (·.2))) (
    Ny X tb tp tc body ⟨[],Q++iB R,fn.ntmps⟩ (KF vs (Q++iB R) n (HH XA (bxs G))) ⟨c,jU 0 vs,G,h⟩) none
noncomputable def M9 (X:Cx) (tb:List Ent) (tp:List bD) (tc:List Clo) (h:HT) (fn:Func) (e:Ent) (s:Tup (kg e.ps)):Option (Tup (hol e.r++eR e.os)):=
 LK X tb tp tc h fn e.ps (fun vs H n XX=>Wk (LW X e fn ⟨[],H,fn.ntmps⟩ n (fun (i:Nat)=>vs[i]?) (fxK e.ps vs XX))) s
def rq (pp:Pt) (fr:Fr) (v:AV) (st:StB):Option (Tup (hol pp)):=match mt (frz (lV st.G fr.H pp v) st.G) fr.H pp v none none [] with
 | some mr=>ifS (rT (mr.S.map fun x=>bY (frz (lV st.G fr.H pp v) st.G) fr.H x.2)&&ltT (frz (lV st.G fr.H pp v) st.G).length (mr.S.map fun x=>bY (frz (lV st.G fr.H pp v) st.G) fr.H x.2)) (tup _ mr.D) none
 | none=>none
abbrev wX (pp:Pt):(pq:Option Pt)→(fr:Fr)→(v:AV)→(st:StB)→Option (ErT pp pq)
 | none,fr,v,st=>rq pp fr v st
 | some q,fr,v,st=>match rq pp fr v st with
  | some x=>some (.inl x)
  | none=>(rq q fr v st).map .inr
abbrev inT {B:Type}:(nv:Bool)→(r:Pt)→(os:List (Bool×Nat×Pt))→Option (Tup (hol r++eR os))→Option (Except B (OkT nv r os))
 | true,_,_,_=>none
 | false,_,_,o=>o.map .ok
theorem Hk {B:Type}:{nv:Bool}→{r:Pt}→{os:List (Bool×Nat×Pt)}→{o:Option (Tup (hol r++eR os))}→{z:Except B (OkT nv r os)}→inT nv r os o=some z→ ∃ x q,o=some q∧z= .ok x∧isOk nv r os x q
 | true,_,_,_,_,h=>by cases h
 | false,_,_,none,_,h=>by cases h
 | false,_,_,some q,_,h=>by cases h;exact ⟨q,q,rfl,rfl,rfl⟩
abbrev Wd {B:Type} (nv:Bool) (r:Pt) (os:List (Bool×Nat×Pt)) (K:StB→Option (Tup (hol r++eR os))) (KP:AV→StB→Option B):XE→StB→Option (Except B (OkT nv r os))
 | .nrm,st=>inT nv r os (K st)
 | .ret,st=>inT nv r os (K st)
 | .pan v,st=>(KP v st).map .error
 | .panE v,st=>(KP v st).map .error
 | _,_=>none
noncomputable def Vi (X:Cx) (tb:List Ent) (tp:List bD) (tc:List Clo) (h:HT) (fn:Func) (e:bD) (s:Tup (kg e.ps)):Option (Except (ErT e.pp e.pq) (OkT e.nv e.r e.os)):=
 LK X tb tp tc h fn e.ps (fun vs H n XX=>Wd e.nv e.r e.os (LW X e.oe fn ⟨[],H,fn.ntmps⟩ n (fun (i:Nat)=>vs[i]?) (fxK e.ps vs XX)) (wX e.pp e.pq ⟨[],H,fn.ntmps⟩)) s
theorem qN:{G H:List Row}→bxs (G++H)=bxs G++bxs H
 | [],_=>rfl
 | r::G,H=>by
  cases r <;> simp only [List.cons_append,bxs,qN]
theorem pV:{R S:List (Bool×Row)}→cB (R++S)=cB R++cB S
 | [],_=>rfl
 | x::R,S=>by
  have e: ∀ Q,cB (x::Q)=ifS x.1 (x.2::cB Q) (cB Q):=fun _=>rfl
  rw [List.cons_append,e,e,pV]
  cases x.1 <;> rfl
theorem Eg {nm:Nat→Nat}:(t:Ty)→(x:t.T)→(n:Nat)→(o:List (Option TypeId))→bxs (cB (eD nm t x n o).R)=[]
 | .i _,_,_,_ | .bo,_,_,_ | .s,_,_,_ | .un,_,_,_ | .n,_,_,_ | .mp _ _,_,_,_=>rfl
 | .p a b,x,n,o=>by
  unfold eD
  have h1:=Eg (nm:=nm) a x.1 n o
  generalize eD nm a x.1 n o=L at h1
  obtain ⟨u,p,n1,o1⟩:=L
  dsimp only
  have h2:=Eg (nm:=nm) b x.2 n1 o1
  generalize eD nm b x.2 n1 o1=L at h2
  obtain ⟨u2,p2,n2,o2⟩:=L
  show bxs (cB (p++p2))=[]
  rw [pV,qN,show bxs (cB p)=[] from h1,show bxs (cB p2)=[] from h2]
  rfl
 | .l t,x,n,o=>by
  unfold eD
  split <;> first | rfl | (rename_i e _;show bxs (cB [(ow e,_)])=[];unfold cB;cases ow e <;> rfl)
 | .ex,x,n,o=>by
  unfold eD
  split <;> first | rfl | (rename_i e _;show bxs (cB [(ow e,_)])=[];unfold cB;cases ow e <;> rfl)
mutual
theorem Km {nm:Nat→Nat}:(p:Pt)→(fx:FxA)→(sm:Option AV)→(n:Nat)→(D:List Dyn)→(fill nm p fx sm n D).X.map (·.2)=bxs (cB (fill nm p fx sm n D).R)
 | .int _,_,_,_,_ | .bool,_,_,_,_ | .str,_,_,_,_ | .sli _,_,_,_,_ | .slr _,_,_,_,_ | .ptr _ _,_,_,_,_ | .it,_,_,_,_ | .cst _,_,_,_,_ | .ifn,_,_,_,_ | .sfp,_,_,_,_ | .same,_,_,_,_=>rfl
 | .own t e m,fx,sm,n,D=>by cases m <;> rfl
 | .mp k v m,fx,sm,n,D=>by cases m <;> rfl
 | .bx t off m vs,fx,sm,n,D=>by
  unfold fill
  have h:=mZ (nm:=nm) vs [] (wy fx) (n+1) D
  generalize cO nm vs [] (wy fx) (n+1) D=L at h
  obtain ⟨cs,R,k,DD,XX⟩:=L
  have h':XX.map (·.2)=bxs (cB R):=h
  cases m
  ·exact h'
  ·show reS (nmP nm fx n) vs cs::XX.map (·.2)=reS (nmP nm fx n) vs cs::bxs (cB R)
   rw [h']
 | .agg l,fx,sm,n,D=>by
  unfold fill
  have h:=mZ (nm:=nm) l (ew fx) [] n D
  generalize cO nm l (ew fx) [] n D=L at h
  obtain ⟨cs,R,k,DD,XX⟩:=L
  exact h
 | .tup l,fx,sm,n,D=>by
  unfold fill
  have h:=mZ (nm:=nm) l [] [] n D
  generalize cO nm l [] [] n D=L at h
  obtain ⟨cs,R,k,DD,XX⟩:=L
  exact h
 | .fn f a b,fx,sm,n,D=>by
  unfold fill
  have h:=mZ (nm:=nm) a [] [] n D
  generalize cO nm a [] [] n D=L at h
  obtain ⟨cs,R,k,DD,XX⟩:=L
  dsimp only
  have h2:=mZ (nm:=nm) b (ew fx) [] k DD
  generalize cO nm b (ew fx) [] k DD=L at h2
  obtain ⟨cs2,R2,k2,DD2,XX2⟩:=L
  show (XX++XX2).map (·.2)=bxs (cB (R++R2))
  rw [List.map_append,pV,qN,show XX.map (·.2)=bxs (cB R) from h,show XX2.map (·.2)=bxs (cB R2) from h2]
 | .ifc t p,fx,sm,n,D=>by
  unfold fill
  have h:=Km (nm:=nm) p (kF p (ew fx)) none n D
  generalize fill nm p (kF p (ew fx)) none n D=L at h
  obtain ⟨v,R,k,DD,XX⟩:=L
  exact h
 | .dat t o,fx,sm,n,D=>by
  unfold fill
  have h:=Eg (nm:=nm) t (dS t D) n o
  generalize eD nm t (dS t D) n o=L at h
  obtain ⟨cs,R,k,oo⟩:=L
  exact h.symm
theorem mZ {nm:Nat→Nat}:(l:List Pt)→(fxs sms:List AV)→(n:Nat)→(D:List Dyn)→(cO nm l fxs sms n D).X.map (·.2)=bxs (cB (cO nm l fxs sms n D).R)
 | [],_,_,_,_=>rfl
 | p::l,fxs,sms,n,D=>by
  unfold cO
  have h:=Km (nm:=nm) p (kF p fxs) sms.head? n D
  generalize fill nm p (kF p fxs) sms.head? n D=L at h
  obtain ⟨cs,R,k,DD,XX⟩:=L
  dsimp only
  have h2:=mZ (nm:=nm) l fxs.tail sms.tail k DD
  generalize cO nm l fxs.tail sms.tail k DD=L at h2
  obtain ⟨cs2,R2,k2,DD2,XX2⟩:=L
  show (XX++XX2).map (·.2)=bxs (cB (R++R2))
  rw [List.map_append,pV,qN,show XX.map (·.2)=bxs (cB R) from h,show XX2.map (·.2)=bxs (cB R2) from h2]
end
theorem H5 {ρ ρ':Nms}:{X:List (Nat×List AV)}→{C:List (List AV)}→C.map (AV.ah ρ')=X.map (fun x=>AV.ah ρ x.2)→ct ρ' (HH X C)=ct ρ X
 | [],[],_=>rfl
 | [],_::_,h=>by cases h
 | _::_,[],h=>by cases h
 | x::X,cs::C,h=>by
  simp only [List.map_cons,List.cons.injEq] at h
  show (x.1,AV.ah ρ' cs)::ct ρ' (HH X C)=(x.1,AV.ah ρ x.2)::ct ρ X
  rw [h.1,H5 h.2]
section
variable {w : World} {ρ : Nms}
theorem Sat.UN {A B:Ctx} {x:Item} (h:Sat (A++B) w) (hx:x.own=[]∧ ∀ M w,x.P M w):Sat (A++x::B) w:=by
 refine h.qP (fun j k=>(j<A.length∧k=j)∨(A.length<j∧k+1=j)) (fun j jt hj=> ?_) (fun j k q hjk h1 h2=>by omega)
 by_cases e:j<A.length
 ·rw [List.getElem?_append_left e] at hj
  exact .inr ⟨j,jt,.inl ⟨e,rfl⟩,by rw [List.getElem?_append_left e];exact hj,aY.refl⟩
 ·rw [List.getElem?_append_right (by omega)] at hj
  by_cases e2:j=A.length
  ·subst e2
   simp at hj
   subst hj
   exact .inl hx
  ·refine .inr ⟨j-1,jt,.inr ⟨by omega,by omega⟩,?_,aY.refl⟩
   rw [List.getElem?_append_right (by omega)]
   have:j-A.length=(j-1-A.length)+1:=by omega
   rw [this,List.getElem?_cons_succ] at hj
   exact hj
theorem Sat.ik {A B:Ctx} (h:Sat (A++B) w): ∀ (L:List Item),(∀ it∈L,it.ck=true∧ ∀ M w,it.P M w)→Sat (A++(L++B)) w
 | [],_=>h
 | x::L,hL=>(Sat.ik h L (fun it hit=>hL it (List.mem_cons_of_mem _ hit))).UN ⟨x.hp (hL x (List.mem_cons_self ..)).1,(hL x (List.mem_cons_self ..)).2⟩
theorem Fu {Φ:Ctx} {T:Tbl}: ∀ {R:List (Bool×Row)} {A:Ctx},Sat (A++(items ρ T (R.map (·.2))++Φ)) w→Sat (A++(items ρ T (cB R)++(items ρ T (iB R)++Φ))) w
 | [],_,h=>h
 | x::R,A,h=>by
  have h1:Sat ((A++[x.2.item ρ T])++(items ρ T (R.map (·.2))++Φ)) w:=by simpa [items] using h
  have h2:=Fu h1
  unfold cB iB
  cases x.1
  ·have h3:Sat (A++x.2.item ρ T::(items ρ T (cB R)++(items ρ T (iB R)++Φ))) w:=by simpa using h2
   exact h3.move
  ·simpa [items] using h2
theorem zS {Φ:Ctx} {T:Tbl}: ∀ {R:List (Bool×Row)} {I:Its} {A:Ctx},dk (RwI ρ T) R I→Sat (A++(items ρ T (iB R)++Φ)) w→Sat (A++(dz I++Φ)) w
 | _,_,_,.nil,h=>h
 | _,_,A,.cons (a:=a) (b:=b) (l:=l) (m:=m) h1 hr,h=>by
  unfold iB at h
  show Sat (A++(ifS b.1 fB b.2)::(dz m++Φ)) w
  rw [← h1.1]
  cases ha:a.1
  ·rw [ha] at h
   have h2:Sat (A++b.2::(items ρ T (iB l)++Φ)) w:=by
    have h3:Sat (A++a.2.item ρ T::(items ρ T (iB l)++Φ)) w:=h
    exact h3.le2 h1.2.2
   have h4:Sat ((A++[b.2])++(items ρ T (iB l)++Φ)) w:=by simpa using h2
   have:=zS hr h4
   simpa using this
  ·rw [ha] at h
   have h3:Sat (A++(items ρ T (iB l)++Φ)) w:=h
   exact (zS hr h3).UN ⟨rfl,fun _ _=>trivial⟩
theorem Jt {c:Nat}:{R:List (Bool×Row)}→aU c (R.map (·.2))=true→aU c (cB R)=true∧aU c (iB R)=true
 | [],_=>⟨rfl,rfl⟩
 | x::R,h=>by
  simp only [List.map_cons,aU,Bool.and_eq_true] at h
  obtain ⟨h1,h2⟩:=Jt h.2
  unfold cB iB
  cases x.1
  ·exact ⟨h1,by show aU c (x.2::iB R)=true;simp only [aU,Bool.and_eq_true];exact ⟨h.1,h2⟩⟩
  ·exact ⟨by show aU c (x.2::cB R)=true;simp only [aU,Bool.and_eq_true];exact ⟨h.1,h1⟩,h2⟩
theorem NL {N:List Nm}: ∀ {M:List Nm} {k:Nat},(∀ i a,M[i]? =some a→ρ (k+i)=a)→NB ρ (idB M.length k) M
 | [],_,_=> .nil
 | a::M,k,h=> .cons (by
   have:=h 0 a rfl
   rw [Nat.add_zero] at this
   exact ⟨by rw [this],by rw [this],by rw [this]⟩) (NL (N:=N) fun i b hb=>by
   have:=h (i+1) b (by simpa using hb)
   rw [← this];congr 1;omega)
end
section
variable {X : Cx} {fr : Fr} {st : StB} {ρ : Nms} {Φ : Ctx} {w : World}
theorem Ub (hs:Sat (items ρ [] st.G++(items ρ [] fr.H++Φ)) w) {r:ResultVar} {v:AV} (h:xH X fr st r=some v):jD X.P (ai ρ [] st.E fr.F) w r (v.val ρ):=by
 cases r with
 | tmp t=>exact jD.t (ui h)
 | cell p t=>
  unfold xH at h
  dsimp only at h
  split at h
  ·rename_i u hu
   split at h
   ·rename_i cs hcs
    obtain ⟨ad,e1,hc⟩:=zV hs hcs Tbl.get_none
    have hl:=ui (ρ:=ρ) hu
    rw [e1] at hl
    have h':iD X.P t (cs.drop 0)=some v:=by simpa using h
    obtain ⟨d,n,bytes,z,c1,c2,c3⟩:=kD (ρ:=ρ) h'
    cases hd:gR d
    ·rw [hd] at c3
     simp only [Bool.false_eq_true,if_false] at c3
     exact jD.c1 hl c1 hd hc c3
    ·unfold iD at h
     rw [c1] at h
     rcases cw h with ⟨_,h2⟩ | ⟨h1,_⟩
     ·split at h2
      ·rename_i q hq
       obtain ⟨n,bytes,z⟩:=q
       obtain ⟨h3,h4⟩:=ao h2
       cases h4
       have hle:n≤cs.length:=Nat.le_of_ble_eq_true h3
       simp only [AV.val]
       refine jD.cA hl c1 hd (bH hq) (vs:=AV.ah ρ (cs.take n)) ?_ (by rw [AV.aH,List.length_take,Nat.min_eq_left hle])
       have:=hc.sub (us:=AV.ah ρ (cs.take n)) 0 (by rw [AV.gH,List.drop_zero,List.length_take,AV.aH,Nat.min_eq_left hle])
       simpa [Addr.add] using this
      ·cases h2
     ·rw [hd] at h1;cases h1
   ·cases h
  ·cases h
theorem PL {rs:List AV}:(if h:(AV.ah ρ rs).length=1 then (AV.ah ρ rs)[0] else .tuple (AV.ah ρ rs).toArray)=(ud rs).val ρ:=by
 match rs with
 | []=>simp [ud,AV.ah,AV.val]
 | [v]=>simp [ud,AV.ah]
 | u::v::l=>simp [ud,AV.ah,AV.val]
theorem OK {fn:Func} {S:Value→World→Prop} {Sp:List PanicEntry→World→Prop} {rs:List AV} (hs:Sat (items ρ [] st.G++(items ρ [] fr.H++Φ)) w) (h:og (xH X fr st) fn.results.toList=some rs) (hS:S ((ud rs).val ρ) w):
  At (BP X.P fn S Sp) .ret fr.n [] (ai ρ [] st.E fr.F) w:=by
 have hlen: ∀ {α β:Type} {f:α→Option β} {l:List α} {ys:List β},og f l=some ys→l.length=ys.length:=fun {α β f l}=>by
  induction l with
  | nil=>intro ys h;cases h;rfl
  | cons x l ih=>
   intro ys h
   unfold og at h
   split at h
   ·split at h
    ·rename_i zs hz;cases h;simp [ih hz]
    ·cases h
   ·cases h
 have hmap: ∀ {l:List ResultVar} {ys:List AV},og (xH X fr st) l=some ys→og (fun r=>(xH X fr st r).map (AV.val ρ)) l=some (AV.ah ρ ys):=fun {l}=>by
  induction l with
  | nil=>intro ys h;cases h;simp [og,AV.ah]
  | cons x l ih=>
   intro ys h
   unfold og at h ⊢
   split at h
   ·rename_i y hy
    split at h
    ·rename_i zs hz
     cases h
     rw [hy,ih hz]
     simp [AV.ah]
    ·cases h
   ·cases h
 refine Mp (vs:=AV.ah ρ rs) (by rw [AV.aH];exact hlen h) (fun a hf=>Cv (g:=fun r=>(xH X fr st r).map (AV.val ρ)) (fun r v hv=> ?_) (hmap h)) PL hS
 cases hr:xH X fr st r with
 | none=>rw [hr] at hv;cases hv
 | some u=>
  rw [hr] at hv
  cases hv
  exact (Ub hs hr).run hf
end
theorem Lb {R:Type} {X:Cx} {tb:List Ent} {tp:List bD} {tc:List Clo} {h:HT} {fn:Func} {f:FuncId} {ps:List Pt} {KF:List AV→List Row→Nat→List (Nat×List AV)→XE→StB→Option R} {s:Tup (kg ps)} {r:R} {S:Value→World→Prop} {Sp:List PanicEntry→World→Prop}
  (hfn:X.P.funcs[f]? =some fn) (htb: ∀ e∈tb,e.Ok X.P X.Γ) (htp: ∀ e∈tp,e.Ok X.P X.Γ) (htc: ∀ c∈tc,c.Ok X.P) (hd:LK X tb tp tc h fn ps KF s=some r) {vsV:List Value} {N:List Nm} {I:Its} {XX:Bxs} {Φ:Ctx} {w:World}
  (hS:nU ps vsV [] [] [] (unt _ s) I XX N) (hsat:Sat (bJ I++Φ) w) (hΓ: ∀ it∈X.Γ,it∈Φ)
  (fin: ∀ (x:XE) (vs:List AV) (H:List Row) (XA:List (Nat×List AV)) (st:StB) (ρ:Nms) (w':World),KF vs H N.length XA x st=some r→Sat (items ρ [] st.G++(items ρ [] H++Φ)) w'→NB ρ (idB N.length 0) N→AV.ah ρ vs=vsV→ct ρ XA=XX→
   (∀ {A:Ctx} {w2:World},Sat (A++(items ρ [] H++Φ)) w2→Sat (A++(dz I++Φ)) w2)→AtX (BP X.P fn S Sp) x ρ fn.ntmps [] (ai ρ [] st.E []) w'):gO X.P f vsV w S Sp:=by
 -- names of the arguments
 have hnm:oF (fun (i:Nat)=>(N[i]?).getD nm0) id 0 N:=fun i a ha=>by simp only [id,ha,Option.getD_some];exact ⟨trivial,trivial,trivial,fun _=>trivial⟩
 have hN0: ∀ (i:Nat) a,N[i]? =some a→(fun (i:Nat)=>(N[i]?).getD nm0) (0+i)=a:=fun i a ha=>by simp only [Nat.zero_add,ha,Option.getD_some]
 generalize (fun (i:Nat)=>(N[i]?).getD nm0)=ρ at hnm hN0
 obtain ⟨f1,f2,f3,f4,f5⟩:=nh (T:=[]) (nm:=id) ps vsV [] [] [] (unt _ s) I XX N (by simpa only [AV.ah] using hS) hnm (Nat.zero_le _) []
 have fb:=mZ (nm:=id) ps [] [] 0 (unt _ s)
 simp only [List.append_nil,List.length_nil] at f1 f2 f3 f4 f5
 unfold LK at hd
 generalize cO id ps [] [] 0 (unt _ s)=L at f1 f2 f3 f4 f5 fb hd
 obtain ⟨vs,R,n,DD,XA⟩:=L
 simp only at f1 f2 f3 f4 f5 fb
 dsimp only at hd
 subst f2
 generalize hL:ji (yZ (cB R)) N.length (cB R)=L at hd
 obtain ⟨G,Qr,c⟩:=L
 dsimp only at hd
 split at hd
 ·cases hd
 rename_i body hbody
 obtain ⟨h1,h2⟩:=ao hd
 simp only [Bool.and_eq_true] at h1
 obtain ⟨⟨h3,h4⟩,h5⟩:=h1
 obtain ⟨l1,l2⟩:=Jt h5
 obtain ⟨ρ1,lk⟩:=xO (ids:=yZ (cB R)) (ρ:=ρ) l1
 rw [hL] at lk
 have hc:N.length≤c:=lk.le
 have hs1:Sat (items ρ [] (R.map (·.2))++Φ) w:=Sat.leL (A:=[]) (B:=bJ I) (C:=Φ) hsat f5.rw
 have hs2:=Fu (A:=[]) hs1
 have e1:items ρ1 [] G=items ρ [] (cB R):=lk.eq
 have hs3:Sat (items ρ1 [] G++(items ρ1 [] (Qr++iB R)++Φ)) w:=by
  rw [e1,aJ,aF lk.ag l2,List.append_assoc]
  exact Sat.ik (A:=items ρ [] (cB R)) (B:=items ρ [] (iB R)++Φ) hs2 (items ρ1 [] Qr) (fun it hit=>by
   obtain ⟨q,hq,rfl⟩:=List.mem_map.1 hit
   exact lk.rp q hq)
 have hvs:AV.ah ρ1 vs=vsV:=by rw [AV.bc lk.ag _ h4,f1]
 refine jL hfn hbody rfl (by rw [← hvs,AV.aH];exact h3) ?_
 have hE:ai ρ1 [] (jU 0 vs) []=iota 0 vsV:=by
  show al.env ρ1 [] (jU 0 vs)++[]=_
  rw [sa,hvs,List.append_nil]
 rw [← hE]
 refine T9 (fr:=⟨[],Qr++iB R,fn.ntmps⟩) (st:=⟨c,jU 0 vs,G,h⟩) hΓ htb htp htc body hs3 h2 (fun x st' ρ' w' a1 a2 a3 a4=> ?_)
 have hag:aA N.length ρ ρ':=lk.ag.trans (a1.less hc) (Nat.le_refl _)
 refine fin x vs (Qr++iB R) (HH XA (bxs G)) st' ρ' w' a3 a4 (NL (N:=N) (fun i a ha=>by
   have hi:i<N.length:=(List.getElem?_eq_some_iff.1 ha).1
   rw [hag _ (by omega)];exact hN0 i a ha)) (by rw [AV.bc hag _ h4,f1]) ?_ (fun {A w2} hw=> ?_)
 ·rw [f4]
  refine H5 ?_
  have g1:(bxs G).map (AV.ah ρ')=(bxs G).map (AV.ah ρ1):=yz a1 lk.lw
  have g2:(bxs G).map (AV.ah ρ1)=(bxs (cB R)).map (AV.ah ρ):=lk.bx
  rw [g1,g2,← fb,List.map_map];rfl
 ·rw [aJ,List.append_assoc] at hw
  have p4:=hw.z9
  have hfr:items ρ' [] (iB R)=items ρ [] (iB R):=aF hag l2
  rw [hfr] at p4
  exact zS f5 p4
theorem Aj {X:Cx} {e:Ent} {fn:Func} {S:Value→World→Prop} {Sp:List PanicEntry→World→Prop} {q:Tup (hol e.r++eR e.os)} {vsV:List Value} {N:List Nm} {I:Its} {XX:Bxs} {Φ:Ctx} {vs:List AV} {H:List Row} {XA:List (Nat×List AV)} {st:StB} {ρ:Nms} {w':World}
  (hk:LW X e fn ⟨[],H,fn.ntmps⟩ N.length (fun (i:Nat)=>vs[i]?) (fxK e.ps vs XA) st=some q) (a4:Sat (items ρ [] st.G++(items ρ [] H++Φ)) w') (hNB:NB ρ (idB N.length 0) N) (hvs':AV.ah ρ vs=vsV) (hX:ct ρ XA=XX)
  (hback: ∀ {A:Ctx} {w2:World},Sat (A++(items ρ [] H++Φ)) w2→Sat (A++(dz I++Φ)) w2)
  (hSS: ∀ v w',(∃ (N1 N2:List Nm) (D1 D2:List Dyn) (I1 I2:Its) (X1 X2:Bxs),Sem e.r v none none N D1 I1 X1 N1∧uf (fxS e.ps vsV XX) (fun (i:Nat)=>vsV[i]?) e.os N1 D2 I2 X2 N2∧D1++D2=unt _ q∧Sat ((bJ I1++bJ I2)++(dz I++Φ)) w')→S v w'):
  At (BP X.P fn S Sp) .ret fn.ntmps [] (ai ρ [] st.E []) w':=by
 unfold LW at hk
 split at hk
 ·rename_i rs hrs
  refine OK (fr:=⟨[],H,fn.ntmps⟩) a4 hrs (hSS _ _ ?_)
  generalize ud rs=v at hk
  have b4:=fz (ids:=lV st.G H e.r v++Cl st.G H (fun (i:Nat)=>vs[i]?) (fxK e.ps vs XA) e.os) a4
  change Sat (items ρ [] (Qo e ⟨[],H,fn.ntmps⟩ st v (fun (i:Nat)=>vs[i]?) (fxK e.ps vs XA))++_) w' at b4
  generalize Qo e ⟨[],H,fn.ntmps⟩ st v (fun (i:Nat)=>vs[i]?) (fxK e.ps vs XA)=G' at hk b4
  unfold Vg at hk
  split at hk
  ·rename_i mr hmr
   split at hk
   ·rename_i mq hmq
    obtain ⟨k1,k2⟩:=ao hk
    simp only [Bool.and_eq_true] at k1
    obtain ⟨N1,I1,s1,n1,q1⟩:=xE b4 e.r v none none _ mr N hmr hNB (fun q hq=>by cases hq)
    obtain ⟨N2,I2,s2,n2,q2⟩:=CO b4 e.os mr.B mq N1 hmq n1
    have hfx:(fun i=>dR ρ (fxK e.ps vs XA i))=fxS e.ps vsV XX:=by
     funext i
     rw [← K6,hvs',hX]
    have hval:(fun (i:Nat)=>(vs[i]?).map (AV.val ρ))=fun (i:Nat)=>vsV[i]? :=by
     funext i
     rw [← hvs',Ez]
    rw [hfx,hval] at s2
    obtain ⟨p1,_⟩:=wT b4 (q1.append q2)
    obtain ⟨p2,_⟩:=nw b4 p1 (nr k1.1)
    rw [pw k1.2] at p2
    have p3:=p2.z9
    have p5:=hback p3
    refine ⟨N1,N2,mr.D,mq.D,I1,I2,_,_,s1,s2,(po _ k2).symm,?_⟩
    simpa [bJ] using p5
   ·cases hk
  ·cases hk
 ·cases hk
theorem UQ {X:Cx} {tb:List Ent} {tp:List bD} {tc:List Clo} {h:HT} {fn:Func} {e:Ent} (hen:cV X.P e.f) (hfn:X.P.funcs[e.f]? =some fn) (htb: ∀ e∈tb,e.Ok X.P X.Γ) (htp: ∀ e∈tp,e.Ok X.P X.Γ) (htc: ∀ c∈tc,c.Ok X.P) (hm: ∀ s r,e.m s=some r→M9 X tb tp tc h fn e s=some r):e.Ok X.P X.Γ:=by
 refine ⟨hen,fun s r hr vsV N I XX Φ w hS hsat hΓ=> ?_⟩
 refine Lb hfn htb htp htc (hm s r hr) hS hsat hΓ (fun x vs H XA st ρ w' hk a4 hNB hvs hX hback=> ?_)
 cases x with
 | nrm=>exact Aj hk a4 hNB hvs hX hback (fun _ _ h=>h)
 | ret=>exact Aj hk a4 hNB hvs hX hback (fun _ _ h=>h)
 | ext i=>cases hk
 | gto l=>cases hk
 | pan v=>cases hk
 | panE v=>cases hk
theorem Tp {X:Cx} {tb:List Ent} {tp:List bD} {tc:List Clo} {h:HT} {fn:Func} {e:bD} (hen:cV X.P e.f) (hfn:X.P.funcs[e.f]? =some fn) (htb: ∀ e∈tb,e.Ok X.P X.Γ) (htp: ∀ e∈tp,e.Ok X.P X.Γ) (htc: ∀ c∈tc,c.Ok X.P) (hm: ∀ s r,e.m s=some r→Vi X tb tp tc h fn e s=some r):e.Ok X.P X.Γ:=by
 refine ⟨hen,fun s r hr vsV N I XX Φ w hS hsat hΓ=> ?_⟩
 refine Lb hfn htb htp htc (hm s r hr) hS hsat hΓ (fun x vs H XA st ρ w' hk a4 hNB hvs hX hback=> ?_)
 cases x with
 | nrm=>
  obtain ⟨x,q,hq,rfl,hi⟩:=Hk hk
  exact Aj hq a4 hNB hvs hX hback (fun _ _ h=>⟨x,q,rfl,hi,h⟩)
 | ret=>
  obtain ⟨x,q,hq,rfl,hi⟩:=Hk hk
  exact Aj hq a4 hNB hvs hX hback (fun _ _ h=>⟨x,q,rfl,hi,h⟩)
 | ext i=>cases hk
 | gto l=>cases hk
 | pan v=>
  have hk':(wX e.pp e.pq ⟨[],H,fn.ntmps⟩ v st).map Except.error=some r:=hk
  have one: ∀ (pp:Pt) (p:Tup (hol pp)),rq pp ⟨[],H,fn.ntmps⟩ v st=some p→ ∃ (N1:List Nm) (I1:Its) (X1:Bxs),Sem pp (v.val ρ) none none [] (unt _ p) I1 X1 N1∧Sat (bJ I1++(dz I++Φ)) w':=fun pp p hp=>by
   unfold rq at hp
   have b4:=fz (ids:=lV st.G H pp v) a4
   generalize frz (lV st.G H pp v) st.G=G' at hp b4
   split at hp
   ·rename_i mr hmr
    obtain ⟨k1,k2⟩:=ao hp
    simp only [Bool.and_eq_true] at k1
    obtain ⟨N1,I1,s1,n1,q1⟩:=xE b4 pp v none none _ mr [] hmr .nil (fun q hq=>by cases hq)
    obtain ⟨p1,_⟩:=wT b4 q1
    obtain ⟨p2,_⟩:=nw b4 p1 (nr k1.1)
    rw [pw k1.2] at p2
    have p5:=hback p2.z9
    rw [← po _ k2] at s1
    exact ⟨N1,I1,_,s1,by simpa [bJ] using p5⟩
   ·cases hp
  have two: ∀ (pp:Pt) (pq:Option Pt) (p:ErT pp pq),wX pp pq ⟨[],H,fn.ntmps⟩ v st=some p→ ∃ (N1:List Nm) (I1:Its) (X1:Bxs),Nu pp pq p (v.val ρ) I1 X1 N1∧Sat (bJ I1++(dz I++Φ)) w':=fun pp pq p hp=>by
   cases pq with
   | none=>exact one pp p hp
   | some q=>
    simp only [wX] at hp
    split at hp
    ·rename_i x hx
     cases hp
     exact one pp x hx
    ·cases hq:rq q ⟨[],H,fn.ntmps⟩ v st with
     | none=>rw [hq] at hp;cases hp
     | some x=>
      rw [hq] at hp
      cases hp
      exact one q x hq
  cases hp:wX e.pp e.pq ⟨[],H,fn.ntmps⟩ v st with
  | none=>rw [hp] at hk';cases hk'
  | some p=>
   rw [hp] at hk'
   cases hk'
   obtain ⟨N1,I1,X1,s1,s2⟩:=two e.pp e.pq p hp
   exact SF ⟨p,rfl,v.val ρ,N1,I1,X1,rfl,s1,s2⟩
 | panE v=>
  have hk':(wX e.pp e.pq ⟨[],H,fn.ntmps⟩ v st).map Except.error=some r:=hk
  have one: ∀ (pp:Pt) (p:Tup (hol pp)),rq pp ⟨[],H,fn.ntmps⟩ v st=some p→ ∃ (N1:List Nm) (I1:Its) (X1:Bxs),Sem pp (v.val ρ) none none [] (unt _ p) I1 X1 N1∧Sat (bJ I1++(dz I++Φ)) w':=fun pp p hp=>by
   unfold rq at hp
   have b4:=fz (ids:=lV st.G H pp v) a4
   generalize frz (lV st.G H pp v) st.G=G' at hp b4
   split at hp
   ·rename_i mr hmr
    obtain ⟨k1,k2⟩:=ao hp
    simp only [Bool.and_eq_true] at k1
    obtain ⟨N1,I1,s1,n1,q1⟩:=xE b4 pp v none none _ mr [] hmr .nil (fun q hq=>by cases hq)
    obtain ⟨p1,_⟩:=wT b4 q1
    obtain ⟨p2,_⟩:=nw b4 p1 (nr k1.1)
    rw [pw k1.2] at p2
    have p5:=hback p2.z9
    rw [← po _ k2] at s1
    exact ⟨N1,I1,_,s1,by simpa [bJ] using p5⟩
   ·cases hp
  have two: ∀ (pp:Pt) (pq:Option Pt) (p:ErT pp pq),wX pp pq ⟨[],H,fn.ntmps⟩ v st=some p→ ∃ (N1:List Nm) (I1:Its) (X1:Bxs),Nu pp pq p (v.val ρ) I1 X1 N1∧Sat (bJ I1++(dz I++Φ)) w':=fun pp pq p hp=>by
   cases pq with
   | none=>exact one pp p hp
   | some q=>
    simp only [wX] at hp
    split at hp
    ·rename_i x hx
     cases hp
     exact one pp x hx
    ·cases hq:rq q ⟨[],H,fn.ntmps⟩ v st with
     | none=>rw [hq] at hp;cases hp
     | some x=>
      rw [hq] at hp
      cases hp
      exact one q x hq
  cases hp:wX e.pp e.pq ⟨[],H,fn.ntmps⟩ v st with
  | none=>rw [hp] at hk';cases hk'
  | some p=>
   rw [hp] at hk'
   cases hk'
   obtain ⟨N1,I1,X1,s1,s2⟩:=two e.pp e.pq p hp
   exact (SF ⟨p,rfl,v.val ρ,N1,I1,X1,rfl,s1,s2⟩:AtP _ _ [] _).at
theorem vr {X:Cx} {A B:Type} {E:(A→Option B)→Ent} {F:(A→Option B)→A→Option B} (h0:(E fun _=>none).Ok X.P X.Γ) (step: ∀ k,(E k).Ok X.P X.Γ→(E (F k)).Ok X.P X.Γ): ∀ n,(E (aq F n)).Ok X.P X.Γ
 | 0=>h0
 | n+1=>step _ (vr h0 step n)
theorem HL {X:Cx} {A B:Type} {E:(A→Option B)→bD} {F:(A→Option B)→A→Option B} (h0:(E fun _=>none).Ok X.P X.Γ) (step: ∀ k,(E k).Ok X.P X.Γ→(E (F k)).Ok X.P X.Γ): ∀ n,(E (aq F n)).Ok X.P X.Γ
 | 0=>h0
 | n+1=>step _ (HL h0 step n)
theorem an {X:Cx} {tb:List Ent} {tp:List bD} {tc:List Clo} {fn:Func} {e:Ent} (h:HT) (hen:cV X.P e.f) (hfn:X.P.funcs[e.f]? =some fn) (htb: ∀ e∈tb,e.Ok X.P X.Γ) (htp: ∀ e∈tp,e.Ok X.P X.Γ) (htc: ∀ c∈tc,c.Ok X.P) (eq: ∀ s,M9 X tb tp tc h fn e s=e.m s):e.Ok X.P X.Γ:=
 UQ hen hfn htb htp htc fun s _ hr=>(eq s).trans hr
theorem R8 {X:Cx} {tb:List Ent} {tp:List bD} {tc:List Clo} {fn:Func} {e:bD} (h:HT) (hen:cV X.P e.f) (hfn:X.P.funcs[e.f]? =some fn) (htb: ∀ e∈tb,e.Ok X.P X.Γ) (htp: ∀ e∈tp,e.Ok X.P X.Γ) (htc: ∀ c∈tc,c.Ok X.P) (eq: ∀ s,Vi X tb tp tc h fn e s=e.m s):e.Ok X.P X.Γ:=
 Tp hen hfn htb htp htc fun s _ hr=>(eq s).trans hr
theorem ok0 {E:Type} {p:E→Prop}: ∀ e∈([]:List E),p e:=fun _ h=>by cases h
theorem ok1 {E:Type} {p:E→Prop} {x:E} {l:List E} (hx:p x) (hl: ∀ e∈l,p e): ∀ e∈x::l,p e:=fun e he=>by
 rcases List.mem_cons.1 he with rfl | he
 ·exact hx
 ·exact hl e he
end Go.Proofs.YtgcgmclghbebjaaGreat
namespace Go.Proofs.YtgcgmclghbebjaaGreat
def i64B (x:Int):Bool:=decide (-9223372036854775808≤x)&&decide (x≤9223372036854775807)
end Go.Proofs.YtgcgmclghbebjaaGreat
