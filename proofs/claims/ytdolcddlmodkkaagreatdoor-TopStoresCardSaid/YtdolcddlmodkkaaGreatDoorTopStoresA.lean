/- Own texts for TopStores, cut and joined by a program. -/
import Derived.WalkKit
import Derived.ScopeJumps
import Derived.Deep.Quiet
import Derived.KernelRfl
import Derived.TacticsIn
import Derived.OrdersIn
import Derived.RangeFuncRecord
import Derived.Laws.BytesArg
import Derived.Laws.IdiomStrings
import Derived.Laws.Cover3
import Derived.Laws.Shifts
import Derived.Laws.BitsAllLaws
set_option linter.all false
namespace Go.Proofs.YtdolcddlmodkkaaGreatDoor
open IntKind (i64 u32 u64 u8)
abbrev zC:=List Nat
abbrev zB:=List Int
abbrev zA:=List Bool
abbrev zz:=List Oper
abbrev zy:=Array Bool
abbrev zw:=Array Edge
abbrev zv:=Array Oper
abbrev zu:=Option Tmp
abbrev zt:=Option Nat
abbrev zr:=Option Int
abbrev zq:=List Value
abbrev zp:=Array Value
abbrev zo:=Option Bool
abbrev zn:=List Operand
abbrev zm:=List Deferred
abbrev zl:=Except Int Int
abbrev zk:=List (Int×Int)
abbrev zj:=List PanicEntry
abbrev zi:=List (List Int)
abbrev zh:=List (Option Nat)
abbrev zg:=Option (Nat × Bool)
abbrev zf:=List (Option TypeId)
abbrev ah:=@Bool.and_eq_true
abbrev ai:=@Nat.eq_of_beq_eq_true
abbrev aT:=@List.getElem?_eq_getElem
abbrev aZ:=@cond_false
abbrev b0:=@List.append_assoc
abbrev b7:=@Nat.le_refl
abbrev b9:=@List.length_take
abbrev ca:=@List.getElem?_append_right
abbrev cb:=@List.mem_cons_of_mem
abbrev cr:=@cond_true
abbrev ct:=@List.mem_cons_self
abbrev cu:=@decide_eq_true
abbrev cw:=@List.getElem?_eq_none
abbrev cx:=@if_neg
abbrev cy:=@List.getElem?_append_left
abbrev cH:=@Option.some.injEq
abbrev cM:=@decide_eq_false
abbrev cN:=@if_pos
abbrev cO:=@List.length_append
abbrev c8:=@List.getElem?_cons_succ
abbrev c9:=@Nat.le_trans
abbrev de:=@Array.length_toList
abbrev dk:=@Nat.le_of_ble_eq_true
abbrev du:=@Option.some.inj
abbrev eb:=@List.eq_nil_of_length_eq_zero
abbrev ec:=@List.length_drop
abbrev ei:=@List.take_of_length_le
abbrev ej:=@List.mem_of_getElem?
abbrev er:=@List.map_cons
abbrev et:=@Nat.min_eq_left
abbrev eF:=@Bool.or_eq_true
abbrev e9:=@Int.toNat_natCast
abbrev gj:=@Bool.not_eq_true'
abbrev gr:=@Nat.lt_of_lt_of_le
abbrev gx:=@List.mem_append_right
abbrev gy:=@List.getElem?_cons_zero
abbrev hV:=@List.append_nil
abbrev jy:=@Nat.mul_le_mul_right
abbrev j0:=@List.getElem_mem
abbrev j5:=@Nat.blt_eq
abbrev j6:=@decide_eq_true_eq
abbrev kR:=@beq_iff_eq
abbrev lk:=@List.getElem?_drop
abbrev l5:=@List.mem_singleton
abbrev l7:=@Nat.zero_add
abbrev l9:=@Nat.lt_irrefl
abbrev mi:=@Nat.le_succ
abbrev mj:=@Option.map_some
abbrev mo:=@List.getElem?_take
abbrev mE:=@List.drop_eq_nil_of_le
abbrev mN:=@Bool.not_true
abbrev nc:=@List.ext_getElem?
abbrev np:=@List.getElem?_map
abbrev nA:=@Array.getD_eq_getD_getElem?
abbrev nI:=@List.cons.injEq
abbrev nJ:=@Bool.eq_false_iff
abbrev n3:=@Bool.false_or
abbrev n5:=@List.cons_append
abbrev n7:=@List.size_toArray
abbrev n9:=@List.drop_drop
abbrev oi:=@List.length_set
abbrev pa:=@List.mem_cons
abbrev pc:=@List.count_append
abbrev pA:=@Bool.false_eq_true
abbrev pF:=@List.take_take
abbrev p0:=@List.length_cons
abbrev p5:=@List.take_append_of_le_length
abbrev p8:=@Prod.mk.injEq
abbrev qa:=@List.drop_zero
abbrev qb:=@List.take_append_drop
abbrev qc:=@Nat.ble_eq_true_of_le
abbrev qd:=@List.length_singleton
abbrev qe:=@Nat.add_mul
abbrev qf:=@Nat.zero_le
abbrev qg:=@List.length_nil
abbrev qh:=@Bool.eq_iff_iff
abbrev qi:=@List.length_map
abbrev qj:=@List.getElem?_set_ne
abbrev qk:=@List.mem_append_left
abbrev ql:=@Nat.lt_or_ge
abbrev qm:=@Bool.true_and
abbrev qn:=@List.drop_take
abbrev qo:=@Bool.not_false
abbrev qp:=@of_decide_eq_true
abbrev qq:=@List.getElem_of_mem
abbrev qs:=@List.nil_append
abbrev qt:=@List.mem_append
abbrev qu:=@Nat.add_zero
abbrev qv:=@List.filter_cons
abbrev qw:=@List.all_eq_true
abbrev qx:=@Nat.lt_succ_self
abbrev qy:=@Bool.or_eq_false_iff
abbrev qz:=@dif_pos
abbrev qA:=@Int.eq_ofNat_of_zero_le
abbrev qB:=@List.map_congr_left
abbrev qC:=@Nat.add_assoc
abbrev qD:=@Option.getD_some
abbrev qE:=@Array.getElem?_toList
abbrev qF:=@List.singleton_append
abbrev qG:=@List.drop_eq_getElem_cons
abbrev qH:=@Array.getElem?_setIfInBounds_ne
abbrev qI:=@List.getElem?_append
abbrev qJ:=@Array.size_append
abbrev qK:=@List.getElem?_set
abbrev qL:=@List.take_add_one
abbrev qM:=@List.replicate_succ
abbrev qN:=@List.nodup_nil
abbrev qO:=@Nat.le_add_right
abbrev qP:=@List.getElem?_set_self
abbrev qQ:=@if_true
abbrev qR:=@List.set_append_right
abbrev qS:=@List.mem_of_mem_drop
abbrev qT:=@if_false
abbrev qU:=@Bool.not_eq_true
abbrev qV:=@List.getElem?_replicate
abbrev qW:=@Option.bind_eq_some_iff
abbrev qX:=@List.all_cons
abbrev qY:=@Nat.mod_lt
abbrev qZ:=@List.filter_filter
abbrev q0:=@List.map_append
abbrev q4:=@List.getElem_take
abbrev q5:=@List.getElem_drop
abbrev q6:=@Bool.false_and
abbrev q7:=@Bool.or_self
abbrev q8:=@Option.bind_some
abbrev q9:=@List.take_append
abbrev rJ:=@List.drop_append
abbrev si:=@List.ext_getElem
abbrev sj:=@List.mem_of_mem_take
abbrev so:=@Array.getElem?_append_left
abbrev sv:=@Array.getElem?_setIfInBounds_self_of_lt
abbrev s3:=@Array.toList_append
abbrev tj:=@List.take_succ_cons
abbrev tt:=@beq_eq_false_iff_ne
abbrev ua:=@Nat.div_add_mod
abbrev ub:=@List.isEmpty_eq_false_iff
abbrev uc:=@and_true
abbrev u9:=@Nat.succ_mul
abbrev vb:=@Nat.sub_self
abbrev vc:=@Array.empty_append
abbrev vl:=@Bool.true_or
abbrev vy:=@Nat.pos_of_ne_zero
abbrev v7:=@List.take_left
abbrev w4:=@bne_self_eq_false
abbrev w5:=@List.drop_of_length_le
abbrev xa:=@Nat.mul_one
abbrev xb:=@Nat.min_eq_right
abbrev xc:=@List.not_mem_nil
abbrev x3:=@List.prefix_refl
abbrev x6:=@beq_self_eq_true
abbrev x8:=@List.flatMap_def
abbrev yK:=@Array.getElem?_modify
abbrev y2:=@List.length_replicate
abbrev za:=@List.map_map
abbrev zb:=@bne_iff_ne
abbrev zc:=@List.getElem?_of_mem
abbrev zd:=@Array.size_replicate
abbrev ze:=@Nat.pow_succ
variable {K : Act -> World -> Prop} {R : Ending -> World -> Prop} {i : Nat} {o : Oper}
abbrev aS:=List UInt8
def S(l:aS):Value:= .string ⟨l.toArray⟩
noncomputable def ax{σ ρ:Type}(F:(σ->Option ρ)->σ->Option ρ)(n:Nat):σ->Option ρ:=Nat.rec (λ_=>none) (λ_ ih s=>F ih s) n
theorem bF{σ ρ:Type}{F:(σ->Option ρ)->σ->Option ρ}{n:Nat}{s:σ}:ax F (n+1) s=F (ax F n) s:=rfl
def aA:Nat:=2^64
def aJ{ρ:Type}(c:Bool)(k:Option ρ):Option ρ:=bif c then k else none
def aj{α ρ:Type}(x:α)(k:α->Option ρ):Option ρ:=k x
def bm{α ρ:Type}(g:Bool)(d:α)(m:Option α)(k:α->Option ρ):Option ρ:=(bif g then m else some d).bind k
theorem fj{ρ:Type}{c:Bool}{k:Option ρ}{r:ρ}(h:aJ c k=some r):c=true/\k=some r:=by
 cases c
 .cases h
 .exact ⟨rfl,h⟩
theorem iy{α ρ:Type}{m:Option α}{k:α->Option ρ}{r:ρ}(h:m.bind k=some r):∃y,m=some y/\k y=some r:=by
 cases m with
 |none=>cases h
 |some y=>exact ⟨y,rfl,h⟩
theorem WE{α ρ:Type}{g:Bool}{d:α}{m:Option α}{k:α->Option ρ}{r:ρ}(h:bm g d m k=some r):
  ∃y,(g=true->m=some y)/\(g=false->y=d)/\k y=some r:=by
 cases g
 .exact ⟨d,(λh=>by cases h),λ_=>rfl,h⟩
 .obtain ⟨y,a,b⟩:=iy h;exact ⟨y,λ_=>a,(λh=>by cases h),b⟩
theorem vL{ρ:Type}{c:Bool}{x y:Option ρ}{r:ρ}(h:(bif c then x else y)=some r):
  (c=true/\x=some r)\/(c=false/\y=some r):=by
 cases c
 .exact .inr ⟨rfl,h⟩
 .exact .inl ⟨rfl,h⟩
def aaE{ρ:Type}(g c:Bool)(k:Option ρ):Option ρ:=bif g then (bif c then k else none) else k
theorem amN{ρ:Type}{g c:Bool}{k:Option ρ}{r:ρ}(h:aaE g c k=some r):(g=true->c=true)/\k=some r:=by
 cases g
 .exact ⟨(λh=>by cases h),h⟩
 .obtain ⟨b,a⟩:=fj (c:=c) h;exact ⟨λ_=>b,a⟩
theorem NR{σ ρ:Type}{F:(σ->Option ρ)->σ->Option ρ}{n:Nat}{s:σ}{r:ρ}(h:ax F n s=some r):
  ∃m,n=m+1/\F (ax F m) s=some r:=by
 cases n with
 |zero=>cases h
 |succ m=>exact ⟨m,rfl,h⟩
abbrev Env:=List (Nat×Bool×Value)
def look:Env->Nat->Option (Bool×Value)
 |[],_=>none
 |(r,g,v)::E,t=>bif Nat.beq r t then some (g,v) else look E t
def y6(g:Bool)(v:Value):Value:=bif g then v else undef
structure Fits(n:Nat)(E:Env)(a:Act):Prop where
 size:a.tmps.size=n
 at_:∀t g v,look E t=some (g,v)->a.tmps.getD t undef=y6 g v
def aw(E:Env)(g:Bool)(x:Operand)(v:Value):Prop:=
 ∀n a,Fits n E a->g=true->a.eval x=v
theorem aw.t{E:Env}{g:Bool}{t:Tmp}{v:Value}(h:look E t=some (true,v)):aw E g (.tmp t) v:=
 λn a b _=>by simpa [y6,Act.eval] using b.at_ t true v h
theorem aw.g{E:Env}{g g':Bool}{t:Tmp}{v:Value}(h:look E t=some (g',v))(c:g=true->g'=true):aw E g (.tmp t) v:=
 λn a d b=>by have:=d.at_ t g' v h;rw [c b] at this;simpa [y6,Act.eval] using this
theorem aw.c{E:Env}{g:Bool}{v:Value}:aw E g (.const v) v:=λ_ _ _ _=>rfl
theorem aw.f{E:Env}{g:Bool}{f:FuncId}:aw E g (.func f) (.func (.func f) #[] #[]):=λ_ _ _ _=>rfl
theorem aw.gl{E:Env}{g:Bool}{f:Nat}:aw E g (.global f) (.pointer (some ⟨f,0,none⟩)):=λ_ _ _ _=>rfl
inductive iQ(E:Env)(g:Bool):zn->zq->Prop
 |nil:iQ E g [] []
 |cons {x v xs vs}:aw E g x v->iQ E g xs vs->iQ E g (x::xs) (v::vs)
theorem iQ.map{E:Env}{g:Bool}{xs:zn}{vs:zq}(h:iQ E g xs vs){n:Nat}{a:Act}(c:Fits n E a)(b:g=true):
  xs.map a.eval=vs:=by
 induction h with
 |nil=>rfl
 |cons hx _ ih=>simp [hx n a c b,ih]
def put(dst:zu)(g:Bool)(v:Value)(E:Env):Env:=
 match dst with
 |some d=>(d,g,v)::E
 |none=>E
theorem Ob(xs:zp)(i j:Nat)(v:Value):
  (xs.setIfInBounds i v).getD j undef=if i=j/\i<xs.size then v else xs.getD j undef:=by
 simp only [nA,Array.getElem?_setIfInBounds];by_cases h:i=j
 .subst h;by_cases a:i<xs.size
  .simp [a]
  .simp [a]
 .simp [h]
theorem Fits.put{n:Nat}{E:Env}{a:Act}(h:Fits n E a){d:Tmp}{g:Bool}{v:Value}(f:Nat.blt d n=true):
  Fits n ((d,g,v)::E) (a.put (some d) (y6 g v)):=by
 have e:d<n:=by simpa using f
 refine ⟨by simp [Act.put,h.size],λt g' v' c=>?_⟩;simp only [Act.put,Ob,h.size,e,uc];simp only [look] at c;by_cases b:d=t
 .subst b;simp only [Nat.beq_refl,cr,cH,p8] at c;obtain ⟨rfl,rfl⟩:=c;simp
 .have:Nat.beq d t=false:=by cases hb:Nat.beq d t with
   |true=>exact absurd (ai hb) b
   |false=>rfl
  rw [this,aZ] at c;rw [cx b];exact h.at_ t g' v' c
abbrev bD:=Exit->Act->World->Prop
def FW(ρ:zt):Fence:={ fn:=λ_=>True,depth:=none,alive:=false,round:=ρ }
theorem Kk{ρ:zt}{p:Prop}:(FW ρ).depth.isSome=true->p:=λh=>by cases h
theorem wW{ρ:zt}{P:Program}{m:Machine}:m.fenced P (FW ρ):=fenced_wide P m
theorem WT{ρ:zt}{n:Nat}{P:Program}{f:FuncId}{args:zp}{w:World}(h:Calls P f args w R):CallsIn (FW ρ) n P f args w R:=
 callsIn_wide.2 h
theorem ahE{ρ:zt}{n:Nat}{P:Program}{f:FuncId}{args:zp}{w:World}(h:CallsIn (FW ρ) n P f args w R):Calls P f args w R:=
 callsIn_wide.1 h
def At(Q:bD)(e:Exit)(n:Nat)(D:zm)(E:Env)(w:World):Prop:=
 ∀a,Fits n E a->a.defers=D->Q e a w
def WC(P:Program)(ρ:zt)(c:Code)(Q:bD)(n:Nat)(D:zm)(E:Env)(w:World):Prop:=
 ∀a,Fits n E a->a.defers=D->c.wpIn (FW ρ) 0 P Q a w
def WL(P:Program)(ρ:zt)(ops:zv)(Q:bD)(n:Nat)(D:zm)(l:zz)(E:Env)(w:World):Prop:=
 ∀a,Fits n E a->a.defers=D->wpListIn (FW ρ) 0 P ops Q l a w
section
variable {P : Program} {ρ : zt} {Q : bD} {n : Nat} {D : zm} {E : Env} {w : World}
theorem bB{x y:Code}(h:WC P ρ x (Exit.then (y.wpIn (FW ρ) 0 P Q) Q) n D E w):WC P ρ (.seq x y) Q n D E w:=
 λa b c=>wpIn_seq (h a b c)
theorem bg{y:Code}(h:WC P ρ y Q n D E w):At (Exit.then (y.wpIn (FW ρ) 0 P Q) Q) .normal n D E w:=h
theorem pW(h:At Q .ret n D E w):At (Exit.then K Q) .ret n D E w:=h
theorem Mx{i:zj}(h:At Q (.panic i) n D E w):At (Exit.then K Q) (.panic i) n D E w:=h
theorem adi(h:At Q .normal n D E w):At (Exit.inBlock i Q) .normal n D E w:=h
theorem alw(h:At Q .ret n D E w):At (Exit.inBlock i Q) .ret n D E w:=h
theorem ahM{j:Nat}(h:At Q (.goto j) n D E w):At (Exit.inBlock i Q) (.goto j) n D E w:=h
theorem Oc{j:zj}(h:At Q (.panic j) n D E w):At (Exit.inBlock i Q) (.panic j) n D E w:=h
theorem ahO(h:At Q .normal n D E w):At (Exit.inBlock i Q) (.exit i) n D E w:=
 λa b c=>by simp only [Exit.inBlock,qQ];exact h a b c
theorem aeM{j:Nat}(b:Nat.beq j i=false)(h:At Q (.exit j) n D E w):At (Exit.inBlock i Q) (.exit j) n D E w:=
 λa c d=>by
  have:¬j=i:=λe=>by subst e;simp at b
  simp only [Exit.inBlock,cx this];exact h a c d
theorem tw(h:At Q .normal n D E w):WC P ρ .skip Q n D E w:=λa b c=>wpIn_skip (h a b c)
theorem ae5{l:Nat}(h:At Q .normal n D E w):WC P ρ (.label l) Q n D E w:=λa b c=>wpIn_label (h a b c)
theorem Z1(h:At Q (.exit i) n D E w):WC P ρ (.exit i) Q n D E w:=λa b c=>wpIn_exit (h a b c)
theorem ajh(h:At Q (.goto i) n D E w):WC P ρ (.goto i) Q n D E w:=λa b c=>wpIn_goto (h a b c)
theorem wV(h:At Q .ret n D E w):WC P ρ .ret Q n D E w:=λa b c=>wpIn_ret (h a b c)
theorem VQ{c:Code}(h:WC P ρ c (Exit.inBlock i Q) n D E w):WC P ρ (.block i c) Q n D E w:=λa b d=>wpIn_block (h a b d)
theorem bn{id:Nat}{l:zz}(h:WL P ρ l.toArray Q n D l E w):WC P ρ (.region id l.toArray false) Q n D E w:=
 λa b c=>wpIn_region_lit (h a b c)
theorem j4{c:Operand}{x y:Code}{b:Bool}(i:aw E true c (.bool b))
  (f:b=true->WC P ρ x Q n D E w) (g:b=false->WC P ρ y Q n D E w):WC P ρ (.cond c x y) Q n D E w:=
 λa d e=>wpIn_cond_split (i n a d rfl) (λh=>f h a d e) (λh=>g h a d e)
def U0{γ:Type}(J:γ->World->Prop)(Es:γ->Env)(n:Nat)(D:zm)(a:Act)(w:World):Prop:=
 ∃g,J g w/\Fits n (Es g) a/\a.defers=D
theorem aka{γ:Type}(J:γ->World->Prop)(b:γ->Env){x y:Code}
  (c:∀g w',J g w'->WC P ρ y Q n D (b g) w') (hx:WC P ρ x (Exit.then (U0 J b n D) Q) n D E w):WC P ρ (.seq x y) Q n D E w:=
 λa d f=>wpIn_seq (wpIn_mono (hx a d f) (λe l w' h=>by cases e <;> first|exact h|(obtain ⟨g,i,j,k⟩:=h;exact c g w' i l j k)))
theorem JO{c:Code}(I:Nat->Act->World->Prop){a:Act}{w:World}(N:Nat)(q:I N a w)
  (round:∀m a w,I m a w->c.wpIn (FW ρ) 0 P (Exit.then (λo w'=>∃t<m,I t o w') Q) a w):(Code.loop c).wpIn (FW ρ) 0 P Q a w:=by
 intro b k cs u hb y;have key:∀m a w,I m a w->
   ∃e o w',Q e o w'/\ArrivesIn (Machine.fenced P (FW ρ)) P (lone (b.atR a (.code c:: .inLoop c::k)) cs w) b k cs e o w':=by
  intro m
  induction m using Nat.strongRecOn with
  |_ m ih=>
   intro a w z;obtain ⟨e,g,f,i,d⟩:=round m a w z b (.inLoop c::k) cs u hb y;cases e with
   |normal=>
    obtain ⟨t,v,n⟩:=i;obtain ⟨r,s,p,j,h⟩:=ih t v g f n;exact ⟨r,s,p,j,.of_steps (StepsIn.trans d (.one wW stepR_inLoop)) h⟩
   |exit id=>exact ⟨_,g,f,i,.pass (x:= .inLoop c) rfl (λ_ _=> .inl (by simp)) d⟩
   |goto l=>exact ⟨_,g,f,i,.pass (x:= .inLoop c) rfl (λ_ _=> .inl (by simp)) d⟩
   |ret=>exact ⟨_,g,f,i,.pass (x:= .inLoop c) rfl (λ_ _=> .inl (by simp)) d⟩
   |panic ch=>exact ⟨_,g,f,i,.pass (x:= .inLoop c) rfl (λ_ _=> .inl (by simp)) d⟩
   |outgrown=>exact ⟨_,g,f,i,.pass (x:= .inLoop c) rfl (λ_ _=> .inl (by simp)) d⟩
 obtain ⟨e,o,w',i,d⟩:=key N a w q;exact ⟨e,o,w',i,.of_steps (.one wW stepR_loop) d⟩
def Qa{σ γ τ:Type}(again:σ->Option τ)(r:τ)(J:σ->γ->World->Prop)(Es:σ->γ->Env)(n:Nat)(D:zm)(a:Act)(w:World):Prop:=
 ∃s g,again s=some r/\J s g w/\Fits n (Es s g) a/\a.defers=D
theorem ob{b:Frame}{a:Act}{k:List Item}{cs:List Frame}{c:Code}:step P (lone (b.atR a (.code (.scope c)::k)) cs w)= .next (lone (b.atR a (.code c:: .inScope c::k)) cs w):=
 step_lone_go (by simp [stepG,stepG.exec,Frame.atR])
theorem Y6{b:Frame}{a:Act}{k:List Item}{cs:List Frame}{c:Code}:step P (lone (b.atR a (.inScope c::k)) cs w)= .next (lone (b.atR a k) cs w):=
 step_lone_go (by simp [stepG,stepG.exec,Frame.atR])
theorem Xl{c rest:Code}(l:Nat)(J:Nat->Act->World->Prop){a:Act}{w:World}(F:findLabel c l=some rest)
  (first:c.wpIn (FW ρ) 0 P (Exit.jump l (λa w=>∃m,J m a w) Q) a w)
  (t:∀m a w,J m a w->rest.wpIn (FW ρ) 0 P (Exit.jump l (λv w'=>∃x<m,J x v w') Q) a w):(Code.scope c).wpIn (FW ρ) 0 P Q a w:=by
 intro b k cs u hb C;have D:gotoIn l (.inScope c::k)=some (.code rest:: .inScope c::k):=by simp [gotoIn,F]
 have hx:∀id,exitTo id (.inScope c::k)=exitTo id k:=λid=>by simp [exitTo]
 have out:∀{p:Machine} {e:Exit} {f:Act} {d:World},(∀l',e≠ .goto l')->ArrivesIn (Machine.fenced P (FW ρ)) P p b (.inScope c::k) cs e f d->ArrivesIn (Machine.fenced P (FW ρ)) P p b k cs e f d:=by
  intro p e f d z h;cases e with
  |normal=>exact StepsIn.trans h (.one wW Y6)
  |exit id=>exact ⟨λE B=>h.1 E (by rw [hx];exact B),λy B=>h.2 y (by rw [hx];exact B)⟩
  |goto l'=>exact absurd rfl (z l')
  |ret=>exact h
  |panic ch=>exact h
  |outgrown=>exact h
 have key:∀m a w,J m a w->∃e v w',Q e v w'/\ArrivesIn (Machine.fenced P (FW ρ)) P (lone (b.atR a (.code rest:: .inScope c::k)) cs w) b k cs e v w':=by
  intro m
  induction m using Nat.strongRecOn with
  |_ m ih=>
   intro a w G;obtain ⟨e,f,d,n,g⟩:=t m a w G b (.inScope c::k) cs u hb C;cases e with
   |normal=>exact ⟨.normal,f,d,n,out (by simp) g⟩
   |exit id=>exact ⟨.exit id,f,d,n,out (by simp) g⟩
   |goto l'=>
    obtain ⟨rfl,x,A,s⟩:=n;obtain ⟨q,r,o,j,i⟩:=ih x A f d s;exact ⟨q,r,o,j,.of_steps (g.1 _ D) i⟩
   |ret=>exact ⟨_,f,d,n,out (by simp) g⟩
   |panic ch=>exact ⟨_,f,d,n,out (by simp) g⟩
   |outgrown=>exact ⟨_,f,d,n,out (by simp) g⟩
 obtain ⟨e,f,d,n,g⟩:=first b (.inScope c::k) cs u hb C;cases e with
 |normal=>exact ⟨.normal,f,d,n,.of_steps (.one wW ob) (out (e:= .normal) (by simp) g)⟩
 |exit id=>exact ⟨.exit id,f,d,n,.of_steps (.one wW ob) (out (by simp) g)⟩
 |goto l'=>
  obtain ⟨rfl,m,s⟩:=n;obtain ⟨q,r,o,j,i⟩:=key m f d s;exact ⟨q,r,o,j,.of_steps (.head wW ob (g.1 _ D)) i⟩
 |ret=>exact ⟨_,f,d,n,.of_steps (.one wW ob) (out (by simp) g)⟩
 |panic ch=>exact ⟨_,f,d,n,.of_steps (.one wW ob) (out (by simp) g)⟩
 |outgrown=>exact ⟨_,f,d,n,.of_steps (.one wW ob) (out (by simp) g)⟩
end
def RE(S:Value->World->Prop)(Sp:zj->World->Prop):Ending->World->Prop
 | .returned v,w=>S v w
 | .panicked c,w=>Sp c w
 | .outgrown,_=>False
def mV(P:Program)(f:FuncId)(args:zq)(w:World)(S:Value->World->Prop)(Sp:zj->World->Prop):Prop:=
 Calls P f args.toArray w (RE S Sp)
abbrev gK(P:Program)(f:FuncId)(args:zq)(w:World)(S:Value->World->Prop):Prop:=mV P f args w S (λ_ _=>False)
theorem mV.mono{P:Program}{f:FuncId}{args:zq}{w:World}{S d:Value->World->Prop}{Sp a:zj->World->Prop}(h:mV P f args w S Sp)
  (g:∀v w',S v w'->d v w') (hp:∀v w',Sp v w'->a v w'):mV P f args w d a:=
 Calls.mono h λe w' b=>by
  cases e with
  |returned v=>exact g _ _ b
  |panicked c=>exact hp _ _ b
  |outgrown=>exact b
theorem gK.mono{P:Program}{f:FuncId}{args:zq}{w:World}{S a:Value->World->Prop}(h:gK P f args w S)
  (b:∀v w',S v w'->a v w'):gK P f args w a:=mV.mono h b (λ_ _ h=>h)
def iota:Nat->zq->Env
 |_,[]=>[]
 |k,v::vs=>(k,true,v)::iota (k+1) vs
theorem GO:∀(vs:zq) (k t:Nat) (g:Bool) (v:Value),look (iota k vs) t=some (g,v)->∃j,t=k+j/\vs[j]? =some v/\g=true
 |[],_,_,_,_,h=>by cases h
 |u::vs,k,t,g,v,h=>by
  simp only [iota,look] at h;cases hb:Nat.beq k t with
  |true=>
   rw [hb,cr] at h;have:=ai hb;subst this;cases h;exact ⟨0,rfl,rfl,rfl⟩
  |false=>
   rw [hb,aZ] at h;obtain ⟨j,c,a,b⟩:=GO vs (k+1) t g v h;exact ⟨j+1,by omega,by simpa using a,b⟩
abbrev BP(P:Program)(fn:Func)(S:Value->World->Prop)(Sp:zj->World->Prop):bD:=bodyPostM (FW none) 0 P fn (RE S Sp)
theorem jG{P:Program}{f:FuncId}{fn:Func}{c:Code}{vs:zq}{w:World}{n:Nat}{S:Value->World->Prop}{Sp:zj->World->Prop}
  (k:P.funcs[f]? =some fn) (hb:fn.body=some c) (d:fn.ntmps=n) (e:Nat.ble vs.length n=true)
  (h:WC P none c (BP P fn S Sp) n [] (iota 0 vs) w):mV P f vs w S Sp:=by
 refine ahE (ρ:=none) (callsIn_of_wp_marks k hb trivial (h _ ⟨?_,λt g v b=>?_⟩ rfl))
 .have:vs.length<=n:=by simpa using e
  simp [d];omega
 .obtain ⟨j,rfl,a,rfl⟩:=GO vs 0 t g v b;have i:j<vs.length:=by
   rcases ql j vs.length with h|h
   .exact h
   .rw [cw h] at a;cases a
  simp only [y6,cr,l7,nA];rw [so (by simpa using i)];simp [a]
def bk(P:Program)(E:Env)(g:Bool)(o:Oper)(w:World)(v:Value):Prop:=
 ∀n a,Fits n E a->g=true->(execOp a.eval o).run P w= .ok (.value v) w
theorem bk.eqB{P:Program}{E:Env}{g:Bool}{w:World}{x y:Bool}(h:bk P E g o w (.bool x))(e:x=y):bk P E g o w (.bool y):=e▸h
theorem bk.eqI{P:Program}{E:Env}{g:Bool}{w:World}{k:IntKind}{x y:Int}(h:bk P E g o w (.int k x))(e:x=y):bk P E g o w (.int k y):=e▸h
section
variable {P : Program} {ρ : zt} {Q : bD} {n : Nat} {D : zm} {E : Env} {w : World} {ops : zv} {rest : zz}
theorem cg(h:At Q .normal n D E w):WL P ρ ops Q n D [] E w:=λa b c=>wpListIn_nil (h a b c)
def jc(o:Oper):Bool:=match o.op with
 | .defer _=>false
 |_=>true
theorem Lp(h:jc o=true)(a:Operand->Value):o.semAt ρ a=execOp a o:=by
 cases ρ with
 |none=>rfl
 |some l=>exact Oper.semAt_some l a o (λc e=>by simp [jc,e] at h)
theorem lY(hp:jc o=true){a:Act}{next:Act->World->Prop}(h:o.uponIn (FW ρ) 0 P a next Q ((execOp a.eval o).run P w)):o.wpIn (FW ρ) 0 P a w next Q:=
 ⟨λ_ _=>trivial,by rw [show (FW ρ).round=ρ from rfl,Lp hp];exact h⟩
theorem aL{o:Oper}{d:Tmp}{v:Value}(c:bk P E true o w v)(hp:jc o=true)(f:o.guard=none)(g:o.dst=some d)(e:Nat.blt d n=true)
  (h:WL P ρ ops Q n D rest ((d,true,v)::E) w):WL P ρ ops Q n D (o::rest) E w:=λa b j=>
 wpListIn_plain f λK i=>lY hp (by rw [c n a b rfl,Oper.uponIn_value,g];exact i _ _ (h _ (b.put e) j))
theorem GC{j:Nat}{b:Bool}{rj:Tmp}{d e:Bool}{a:Act}(k:o.guard=some (j,b))(i:(ops[j]?).bind (·.dst)=some rj)
  (h:look E rj=some (d,.bool e)) (f:Fits n E a) (g:Nat.blt rj n=true):Region.wanted o (yielded ops a.tmps)=(d&&(e==b)):=by
 have c:rj<a.tmps.size:=by rw [f.size];simpa using g
 have m:=f.at_ rj d _ h;have l:a.tmps[rj]? =some (y6 d (.bool e)):=by rw [Array.getElem?_eq_getElem c,<-m];simp [Array.getD,c]
 simp only [Region.wanted,k,yielded,i,q8,l];cases d
 .simp [y6,undef]
 .cases e <;> cases b <;> rfl
end
variable {fo : Operand} {k : IntKind} {m : Int} {t' : TypeId} {tys : Array TypeId} {v : Value} {vs : zq} {x y : Operand}
section
variable {P : Program} {E : Env} {g : Bool} {w : World} {dst : zu} {ty : TypeId} {pos : String} {af : zw} {gd : zg}
theorem aM(hx:aw E g x v):bk P E g ⟨dst,.move x,ty,pos,af,gd⟩ w v:=
 λn a c b=>by simp only [execOp,hx n a c b];rfl
theorem da(hx:aw E g x v):bk P E g ⟨dst,.assign x,ty,pos,af,gd⟩ w v:=
 λn a c b=>by simp only [execOp,hx n a c b];rfl
theorem asc{c:Operand}{b y:Bool}(f:aw E g c (.bool b))(hx:aw E (g&&b) x (.bool y)):
  bk P E g ⟨dst,.pick c x (.const (.bool false)),ty,pos,af,gd⟩ w (.bool (b&&y)):=
 λn a d e=>by
  subst e;simp only [execOp,f n a d rfl];cases b
  .rfl
  .simp only [hx n a d rfl];rfl
theorem atU{c:Operand}{b y:Bool}(f:aw E g c (.bool b))(hx:aw E (g&& !b) x (.bool y)):
  bk P E g ⟨dst,.pick c (.const (.bool true)) x,ty,pos,af,gd⟩ w (.bool (b||y)):=
 λn a d e=>by
  subst e;simp only [execOp,f n a d rfl];cases b
  .simp only [hx n a d rfl];rfl
  .rfl
theorem afu{b:Bool}{t:TypeId}(hx:aw E g x (.bool b)):bk P E g ⟨dst,.unOp .not t x,ty,pos,af,gd⟩ w (.bool (!b)):=
 λn a d c=>by simp only [execOp,hx n a d c];rfl
theorem atv{t:TypeId}(hx:aw E g x (.int k m)):bk P E g ⟨dst,.unOp .neg t x,ty,pos,af,gd⟩ w (.int k (k.wrap (0-m))):=
 λn a c b=>by simp only [execOp,hx n a c b];rfl
theorem cQ{op:BinOp}{u z:Value}{t:TypeId}(hx:aw E g x u)(d:aw E g y v)
  (h:(do eqGuard op t x y u v;binOp op t u v:Sem Value).run P w= .ok z w):bk P E g ⟨dst,.binOp op t x y t',ty,pos,af,gd⟩ w z:=
 λn a c b=>by simp only [execOp,hx n a c b,d n a c b,Sem.run_bind] at h ⊢;simp only [h,Result.andThen_ok];rfl
def am2:Value->Bool
 | .nilIface=>false
 | .agg _=>false
 |_=>true
theorem eo{op:BinOp}{t:TypeId}{u:Value}(a:am2 u=true):(eqGuard op t x y u v).run P w= .ok () w:=by unfold eqGuard;cases op <;> simp <;> (split <;> simp_all [am2])
theorem vW{l:Int}{t:TypeId}(hx:aw E g x (.int k m))(a:aw E g y (.int k l)):
  bk P E g ⟨dst,.binOp .add t x y t',ty,pos,af,gd⟩ w (.int k (k.wrap (m+l))):=cQ hx a (by simp [eqGuard,binOp,Op.intArith])
theorem aju{l:Int}{t:TypeId}(hx:aw E g x (.int k m))(a:aw E g y (.int k l)):
  bk P E g ⟨dst,.binOp .sub t x y t',ty,pos,af,gd⟩ w (.int k (k.wrap (m-l))):=cQ hx a (by simp [eqGuard,binOp,Op.intArith])
theorem ath{l:Int}{t:TypeId}(hx:aw E g x (.int k m))(a:aw E g y (.int k l)):
  bk P E g ⟨dst,.binOp .mul t x y t',ty,pos,af,gd⟩ w (.int k (k.wrap (m*l))):=cQ hx a (by simp [eqGuard,binOp,Op.intArith])
theorem ast{l:Int}{t:TypeId}(hx:aw E g x (.int k m))(a:aw E g y (.int k l))(b:(l==0)=false):
  bk P E g ⟨dst,.binOp .quo t x y t',ty,pos,af,gd⟩ w (.int k (k.wrap (m.tdiv l))):=cQ hx a (by
   have:¬l=0:=by simpa using b
   simp [eqGuard,binOp,Op.intDiv,this])
theorem asI{l:Int}{t:TypeId}(hx:aw E g x (.int k m))(a:aw E g y (.int k l))(b:(l==0)=false):
  bk P E g ⟨dst,.binOp .rem t x y t',ty,pos,af,gd⟩ w (.int k (m.tmod l)):=cQ hx a (by
   have:¬l=0:=by simpa using b
   simp [eqGuard,binOp,Op.intDiv,this])
theorem tO{l:Int}{t:TypeId}(hx:aw E g x (.int k m))(a:aw E g y (.int k l)):
  bk P E g ⟨dst,.binOp .eql t x y t',ty,pos,af,gd⟩ w (.bool (m==l)):=cQ hx a (by simp [eqGuard,binOp,Op.intCmp])
theorem asa{l:Int}{t:TypeId}(hx:aw E g x (.int k m))(a:aw E g y (.int k l)):
  bk P E g ⟨dst,.binOp .neq t x y t',ty,pos,af,gd⟩ w (.bool (m != l)):=cQ hx a (by simp [eqGuard,binOp,Op.intCmp])
theorem ajK{l:Int}{t:TypeId}(hx:aw E g x (.int k m))(a:aw E g y (.int k l)):
  bk P E g ⟨dst,.binOp .lss t x y t',ty,pos,af,gd⟩ w (.bool (decide (m<l))):=cQ hx a (by simp [eqGuard,binOp,Op.intCmp])
theorem asY{l:Int}{t:TypeId}(hx:aw E g x (.int k m))(a:aw E g y (.int k l)):
  bk P E g ⟨dst,.binOp .leq t x y t',ty,pos,af,gd⟩ w (.bool (decide (m<=l))):=cQ hx a (by simp [eqGuard,binOp,Op.intCmp])
theorem ZA{l:Int}{t:TypeId}(hx:aw E g x (.int k m))(a:aw E g y (.int k l)):
  bk P E g ⟨dst,.binOp .gtr t x y t',ty,pos,af,gd⟩ w (.bool (decide (l<m))):=cQ hx a (by simp [eqGuard,binOp,Op.intCmp])
theorem asU{l:Int}{t:TypeId}(hx:aw E g x (.int k m))(a:aw E g y (.int k l)):
  bk P E g ⟨dst,.binOp .geq t x y t',ty,pos,af,gd⟩ w (.bool (decide (l<=m))):=cQ hx a (by simp [eqGuard,binOp,Op.intCmp])
theorem GN{op:BinOp}(a:op= .and\/op= .or\/op= .xor\/op= .andNot){x y:Operand}{k:IntKind}{m l:Int}{t t':TypeId}(hx:aw E g x (.int k m))(c:aw E g y (.int k l))
  {z:Int} (b:∀w:World,(Op.intBits op k m l).run P w= .ok (.int k z) w):
  bk P E g ⟨dst,.binOp op t x y t',ty,pos,af,gd⟩ w (.int k z):=cQ hx c (by rcases a with h|h|h|h <;> subst h <;> simp [eqGuard,binOp,b])
theorem Kj(l:aS):(⟨l.toArray⟩:ByteArray).toList=l:=by rw [ByteArray.toList_eq]
theorem mz(l:aS):(⟨l.toArray⟩:ByteArray).size=l.length:=by simp [ByteArray.size]
theorem ar3{m l:aS}{t:TypeId}(hx:aw E g x (S m))(a:aw E g y (S l)):
  bk P E g ⟨dst,.binOp .eql t x y t',ty,pos,af,gd⟩ w (.bool (m==l)):=cQ hx a (by simp [eqGuard,S,binOp,Op.stringOp])
theorem asb{m l:aS}{t:TypeId}(hx:aw E g x (S m))(a:aw E g y (S l)):
  bk P E g ⟨dst,.binOp .neq t x y t',ty,pos,af,gd⟩ w (.bool (m != l)):=cQ hx a (by simp [eqGuard,S,binOp,Op.stringOp,bne])
def ae3(m l:aS):Bool:=Nat.ble (m.length+l.length) 9223372036854775807
theorem apX(m l:aS):((⟨m.toArray⟩:ByteArray)++(⟨l.toArray⟩:ByteArray))=⟨(m++l).toArray⟩:=by apply ByteArray.ext;simp [ByteArray.data_append]
theorem atm{m l:aS}{t:TypeId}(hx:aw E g x (S m))(c:aw E g y (S l))(e:g=true->ae3 m l=true):
  bk P E g ⟨dst,.binOp .add t x y t',ty,pos,af,gd⟩ w (S (m++l)):=λn a d b=>
 cQ (P:=P) (z:=S (m++l)) hx c (by
  have h:m.length+l.length<=9223372036854775807:=dk (e b);have f:¬((((⟨m.toArray⟩:ByteArray).size+(⟨l.toArray⟩:ByteArray).size:Nat):Int)>i64.max):=by rw [mz,mz];show ¬(9223372036854775807:Int)<_;omega
  simp only [eqGuard,S,binOp,Op.stringOp,Sem.run_bind,cx f,apX];simp) n a d b
theorem ata{m l:Bool}{t:TypeId}(b:P.underlying t=some .bool)(hx:aw E g x (.bool m))(a:aw E g y (.bool l)):
  bk P E g ⟨dst,.binOp .eql t x y t',ty,pos,af,gd⟩ w (.bool (m==l)):=cQ hx a (by rw [Sem.run_bind,eo rfl,Result.andThen_ok,run_eql_bool w t m l b])
theorem asP{m l:Bool}{t:TypeId}(b:P.underlying t=some .bool)(hx:aw E g x (.bool m))(a:aw E g y (.bool l)):
  bk P E g ⟨dst,.binOp .neq t x y t',ty,pos,af,gd⟩ w (.bool (m != l)):=cQ hx a (by rw [Sem.run_bind,eo rfl,Result.andThen_ok,run_neq_bool w t m l b];rfl)
theorem ahi{b:IntKind}{s d:TypeId}{ds:TypeDesc}(e:P.underlying s=some ds)(c:P.underlying d=some (.int k))(hx:aw E g x (.int b m)):
  bk P E g ⟨dst,.convert s d x,ty,pos,af,gd⟩ w (.int k (k.wrap m)):=
 λn a h f=>by simp [execOp,hx n a h f,convert,run_underlying e,run_underlying c,Conv.intToInt]
theorem ahr(hx:aw E g x (.tuple vs.toArray))(hi:vs[i]? =some v):
  bk P E g ⟨dst,.extract x i,ty,pos,af,gd⟩ w v:=
 λn a c b=>by simp [execOp,hx n a c b,Instr.extract,hi]
theorem aqw{l:aS}{t:TypeId}(b:P.underlying t=some .string)(hx:aw E g x (S l)):
  bk P E g ⟨dst,.call ⟨.builtin .len,#[x],#[t]⟩,ty,pos,af,gd⟩ w (.int .i64 l.length):=
 λn a d c=>by simp [execOp,resolve,invoke,builtin,hx n a d c,Builtin.len_,run_underlying b,S,goInt,mz]
def wG(i:Int)(n:Nat):Bool:=decide (0<=i)&&decide (i<n)
theorem pR{i:Int}{n:Nat}:wG i n=true↔0<=i/\i<n:=by simp [wG]
def oh(l:aS)(i:Int):Int:=(l.getD i.toNat 0).toNat
theorem akS(l:aS)(i:Nat):(⟨l.toArray⟩:ByteArray)[i]? =l[i]? :=by
 by_cases h:i<l.length
 .have a:i<(⟨l.toArray⟩:ByteArray).size:=by rw [mz];exact h
  rw [getElem?_pos (⟨l.toArray⟩:ByteArray) i a,aT h];rfl
 .have a:¬i<(⟨l.toArray⟩:ByteArray).size:=by rw [mz];exact h
  rw [getElem?_neg (⟨l.toArray⟩:ByteArray) i a,cw (by omega)]
theorem apm{l:aS}{i:Int}{t:TypeId}(f:P.underlying t=some .string)(hx:aw E g x (S l))(e:aw E g y (.int k i))(hi:g=true->wG i l.length=true):
  bk P E g ⟨dst,.index t x y,ty,pos,af,gd⟩ w (.int .u8 (oh l i)):=
 λn a c b=>by
  obtain ⟨j,m⟩:=pR.1 (hi b);have d:i.toNat<l.length:=by omega
  have h:(⟨l.toArray⟩:ByteArray)[i.toNat]? =some l[i.toNat]:=by rw [akS,aT d]
  simp only [execOp,hx n a c b,e n a c b,Instr.index,asIntOf,S,Sem.run_bind,Sem.run_pure,Result.andThen_ok,run_underlying f];rw [cN j,h];simp [oh,d]
def dW(i j:Int)(n:Nat):Bool:=decide (0<=i)&&decide (i<=j)&&decide (j<=n)
theorem y4{i j:Int}{n:Nat}:dW i j n=true↔(0<=i/\i<=j)/\j<=n:=by simp [dW]
def cut(l:aS)(i j:Int):aS:=(l.drop i.toNat).take (j.toNat-i.toNat)
theorem NI(l:aS)(i j:Nat):(⟨l.toArray⟩:ByteArray).extract i j=⟨((l.drop i).take (j-i)).toArray⟩:=by apply ByteArray.ext;simp [ByteArray.data_extract]
theorem aqI{l:aS}{i j:Int}{lo hi:Option Operand}{t:TypeId}(f:P.underlying t=some .string)(hx:aw E g x (S l))
  (e:match lo with|none=>i=0|some y=>∃k,aw E g y (.int k i)) (b:match hi with|none=>j=l.length|some y=>∃k,aw E g y (.int k j))
  (s:g=true->dW i j l.length=true):
  bk P E g ⟨dst,.slice t x lo hi none,ty,pos,af,gd⟩ w (S (cut l i j)):=
 λn a d c=>by
  obtain ⟨⟨r,q⟩,p⟩:=y4.1 (s c);have o:0<=j:=by omega
  have e1:(((j.toNat:Nat):Int))=j:=by omega
  cases lo with
  |none=>
   subst e;cases hi with
   |none=>
    subst b;simp [execOp,hx n a d c,Instr.sliceAt,Instr.slice,Instr.sliceBounds,run_underlying f,S,cut]
   |some y=>
    obtain ⟨k,h⟩:=b;simp [execOp,hx n a d c,h n a d c,Instr.sliceAt,Instr.slice,Instr.sliceBounds,Instr.sliceBound,asIntOf,run_underlying f,S,NI,cut,mz,p,o]
  |some z=>
   obtain ⟨k,m⟩:=e;cases hi with
   |none=>
    subst b;simp [execOp,hx n a d c,m n a d c,Instr.sliceAt,Instr.slice,Instr.sliceBounds,Instr.sliceBound,asIntOf,run_underlying f,S,NI,cut,mz,r,q]
   |some y=>
    obtain ⟨u,h⟩:=b;have v:i<=((j.toNat:Nat):Int):=by omega
    simp [execOp,hx n a d c,m n a d c,h n a d c,Instr.sliceAt,Instr.slice,Instr.sliceBounds,Instr.sliceBound,asIntOf,run_underlying f,S,NI,cut,mz,r,q,p,o,e1]
theorem OP{fn:Fn}{first cap:zn}{us:zq}(e:iQ E g first vs)(d:iQ E g cap us):
  bk P E g ⟨dst,.makeFunc fn first.toArray cap.toArray,ty,pos,af,gd⟩ w (.func fn vs.toArray us.toArray):=
 λn a c b=>by simp [execOp,Instr.makeFunc,e.map c b,d.map c b]
theorem aqs{l:Int}{t:TypeId}(hx:aw E g x (.int k m))(e:aw E g y (.int k l))
  (d:∀w:World,(Builtin.max_ #[t,t'] ty #[.int k m,.int k l]).run P w= .ok (.int k (max m l)) w):
  bk P E g ⟨dst,.call ⟨.builtin .max,#[x,y],#[t,t']⟩,ty,pos,af,gd⟩ w (.int k (max m l)):=
 λn a c b=>by simp [execOp,resolve,invoke,builtin,hx n a c b,e n a c b,d]
theorem aqk{l:Int}{t:TypeId}(hx:aw E g x (.int k m))(e:aw E g y (.int k l))
  (d:∀w:World,(Builtin.min_ #[t,t'] ty #[.int k m,.int k l]).run P w= .ok (.int k (min m l)) w):
  bk P E g ⟨dst,.call ⟨.builtin .min,#[x,y],#[t,t']⟩,ty,pos,af,gd⟩ w (.int k (min m l)):=
 λn a c b=>by simp [execOp,resolve,invoke,builtin,hx n a c b,e n a c b,d]
end
structure Ext(w w':World):Prop where
 os:w'.os=w.os
 tape:w'.tape=w.tape
 output:w'.output=w.output
 size:w.heap.size<=w'.heap.size
 block:∀k,k<w.heap.size->w'.heap[k]? =w.heap[k]?
theorem Ext.refl(w:World):Ext w w:=⟨rfl,rfl,rfl,b7 _,λ_ _=>rfl⟩
theorem Ext.trans{a b c:World}(h:Ext a b)(k:Ext b c):Ext a c:=
 ⟨k.os.trans h.os,k.tape.trans h.tape,k.output.trans h.output,c9 h.size k.size,λi hi=>(k.block i (gr hi h.size)).trans (h.block i hi)⟩
def Enters(P:Program)(f:FuncId):Prop:= ∀(args:zp) (w:World),(callFunc f args).run P w= .ok (.enter f args) w
section
variable {P : Program} {ρ : zt} {Q : bD} {n : Nat} {D : zm} {E : Env} {w : World} {ops : zv} {rest : zz}
theorem GJ{g:Bool}{f:FuncId}{first cap:zq}{xs:zn}{dst:zu}{ty:TypeId}{pos:String}{af:zw}{gd:Option (Nat×Bool)}
  (h:Enters P f) (c:aw E g fo (.func (.func f) first.toArray cap.toArray)) (b:iQ E g xs vs) {a:Act} (e:Fits n E a) (d:g=true):
  (execOp a.eval ⟨dst,.call ⟨.value fo,xs.toArray,tys⟩,ty,pos,af,gd⟩).run P w= .ok (.enter f (first++vs++cap).toArray) w:=by
 have e1:(Array.map a.eval xs.toArray)=vs.toArray:=by simp [b.map e d]
 have:=h (first++vs++cap).toArray w;simp only [execOp,resolve,c n a e d,Deferred.ofValue,e1,Sem.run_bind,Sem.run_pure,Result.andThen_ok,invoke];simp at this;simpa using this
theorem Lf{a:Act}{next:Act->World->Prop}{f:FuncId}{args:zq}{S:Value->World->Prop}{Sp:zj->World->Prop}
  (d:mV P f args w S Sp) (h:∀v w',S v w'->next (a.put o.dst v) w') (hp:∀c w',Sp c w'->Q (.panic c) a w'):o.uponIn (FW ρ) 0 P a next Q (.ok (.enter f args.toArray) w):=by
 rw [Oper.uponIn_enter];refine ⟨Kk,WT (Calls.mono d λe w' b=>?_)⟩;cases e with
 |returned v=>exact h v w' b
 |panicked c=>exact hp c w' b
 |outgrown=>exact b.elim
theorem af3{f:FuncId}{first cap args:zq}{xs:zn}{d:Tmp}{ty:TypeId}{pos:String}{af:zw}{S:Value->World->Prop}{Sp:zj->World->Prop}
  (l:Enters P f) (g:aw E true fo (.func (.func f) first.toArray cap.toArray)) (b:iQ E true xs vs) (o:args=first++vs++cap)
  (k:Nat.blt d n=true) (m:mV P f args w S Sp)
  (h:∀v w',S v w'->WL P ρ ops Q n D rest ((d,true,v)::E) w') (hp:∀c w',Sp c w'->At Q (.panic c) n D E w'):WL P ρ ops Q n D (⟨some d,.call ⟨.value fo,xs.toArray,tys⟩,ty,pos,af,none⟩::rest) E w:=λa i j=>
 wpListIn_plain rfl λK p=>lY rfl (by subst o;rw [GJ l g b i rfl];exact Lf m (λv w' e=>p _ _ (h v w' e _ (i.put k) j)) (λc w' e=>hp c w' e a i j))
theorem Zf{f:FuncId}{first cap args:zq}{xs:zn}{d:Tmp}{ty:TypeId}{pos:String}{af:zw}{S:Value->World->Prop}
  (e:Enters P f) (b:aw E true fo (.func (.func f) first.toArray cap.toArray)) (a:iQ E true xs vs) (i:args=first++vs++cap)
  (c:Nat.blt d n=true) (g:gK P f args w S)
  (h:∀v w',S v w'->WL P ρ ops Q n D rest ((d,true,v)::E) w'):WL P ρ ops Q n D (⟨some d,.call ⟨.value fo,xs.toArray,tys⟩,ty,pos,af,none⟩::rest) E w:=
 af3 e b a i c g h (λ_ _ h=>h.elim)
theorem am0{f:FuncId}{first cap args:zq}{xs:zn}{ty:TypeId}{pos:String}{af:zw}{S:Value->World->Prop}{Sp:zj->World->Prop}
  (j:Enters P f) (e:aw E true fo (.func (.func f) first.toArray cap.toArray)) (b:iQ E true xs vs) (l:args=first++vs++cap)
  (k:mV P f args w S Sp)
  (h:∀v w',S v w'->WL P ρ ops Q n D rest E w') (hp:∀c w',Sp c w'->At Q (.panic c) n D E w'):WL P ρ ops Q n D (⟨none,.call ⟨.value fo,xs.toArray,tys⟩,ty,pos,af,none⟩::rest) E w:=λa g i=>
 wpListIn_plain rfl λK m=>lY rfl (by subst l;rw [GJ j e b g rfl];exact Lf k (λv w' d=>m _ _ (h v w' d _ g i)) (λc w' d=>hp c w' d a g i))
def ny(P:Program)(E:Env)(o:Oper)(w:World)(v:Value)(w':World):Prop:=
 ∀n a,Fits n E a->(execOp a.eval o).run P w= .ok (.value v) w'
theorem xP{o:Oper}{v:Value}{w':World}{d:Tmp}(c:ny P E o w v w')(hp:jc o=true)(f:o.guard=none)(g:o.dst=some d)(e:Nat.blt d n=true)
  (h:WL P ρ ops Q n D rest ((d,true,v)::E) w'):WL P ρ ops Q n D (o::rest) E w:=λa b j=>
 wpListIn_plain f λK i=>lY hp (by rw [c n a b,Oper.uponIn_value,g];exact i _ _ (h _ (b.put e) j))
def Uz(P:Program)(E:Env)(o:Oper)(w:World)(w':World):Prop:=
 ∀n a,Fits n E a->(execOp a.eval o).run P w= .ok .skip w'
end
variable {b : Nat} {i : Int}
def Mv(M:Nat->Prop)(w:World)(M':Nat->Prop)(w':World):Prop:=
 w.heap.size<=w'.heap.size/\∀b,b<w.heap.size-> ¬M b-> ¬M' b/\w'.heap[b]? =w.heap[b]?
theorem Mv.trans{M M' c:Nat->Prop}{w w' a:World}(h:Mv M w M' w')(k:Mv M' w' c a):Mv M w c a:=
 ⟨c9 h.1 k.1,λb hb f=>by obtain ⟨i,g⟩:=h.2 b hb f;obtain ⟨e,d⟩:=k.2 b (gr hb h.1) i;exact ⟨e,d.trans g⟩⟩
theorem Ext.mv{w w':World}(h:Ext w w')(M:Nat->Prop):Mv M w M w':=⟨h.size,λb hb a=>⟨a,h.block b hb⟩⟩
theorem Mv.weaken{M M':Nat->Prop}(w:World)(h:∀b,M' b->M b):Mv M w M' w:=⟨b7 _,λb _ a=>⟨λc=>a (h b c),rfl⟩⟩
structure eB(α:Type) where
 n:Nat
 rd:(Nat->Prop)->World->zq->α->Prop
 len:∀{M w vs x},rd M w vs x->vs.length=n
 one:∀{M w vs x},rd M w vs x->∀v∈vs,v.oneCell'=true
 mv:∀{M M' w w' vs x},rd M w vs x->Mv M w M' w'->rd M' w' vs x
def RI(k:IntKind):eB Int where
 n:=1
 rd _ _ vs x:=vs=[.int k x]
 len h:=by rw [h];rfl
 one h:=by rw [h];simp [Value.oneCell']
 mv h _:=h
def RB:eB Bool where
 n:=1
 rd _ _ vs x:=vs=[.bool x]
 len h:=by rw [h];rfl
 one h:=by rw [h];simp [Value.oneCell']
 mv h _:=h
def RS:eB aS where
 n:=1
 rd _ _ vs x:=vs=[S x]
 len h:=by rw [h];rfl
 one h:=by rw [h];simp [S,Value.oneCell']
 mv h _:=h
def RU:eB Unit where
 n:=0
 rd _ _ vs _:=vs=[]
 len h:=by rw [h];rfl
 one h:=by rw [h];simp
 mv h _:=h
def RP{α β:Type}(A:eB α)(B:eB β):eB (α×β) where
 n:=A.n+B.n
 rd M w vs x:= ∃a b,vs=a++b/\A.rd M w a x.1/\B.rd M w b x.2
 len h:=by obtain ⟨a,b,rfl,h1,h2⟩:=h;rw [cO,A.len h1,B.len h2]
 one h:=by
  obtain ⟨a,b,rfl,h1,h2⟩:=h;intro v hv;rcases List.mem_append.1 hv with hv|hv
  .exact A.one h1 v hv
  .exact B.one h2 v hv
 mv h m:=by obtain ⟨a,b,rfl,h1,h2⟩:=h;exact ⟨a,b,rfl,A.mv h1 m,B.mv h2 m⟩
section
variable {α β : Type} (A : eB α)
def db(M:Nat->Prop)(w:World)(cs:zq)(xs:List α):Prop:=
 cs.length=xs.length*A.n/\∀i (h:i<xs.length),A.rd M w ((cs.drop (i*A.n)).take A.n) xs[i]
variable {A}
theorem db.nil{M:Nat->Prop}{w:World}:db A M w [] []:=⟨by simp,λi h=>by simp at h⟩
theorem db.cons{M:Nat->Prop}{w:World}{c cs:zq}{x:α}{xs:List α}(h:A.rd M w c x)(b:db A M w cs xs):db A M w (c++cs) (x::xs):=by
 have a:=A.len h;refine ⟨by simp [a,b.1,qe,Nat.add_comm],λi hi=>?_⟩;cases i with
 |zero=>simpa [a,q9] using (by simpa [<-a] using h)
 |succ i=>
  have:=b.2 i (by simpa using hi);have e:(c++cs).drop ((i+1)*A.n)=cs.drop (i*A.n):=by
   rw [rJ];have:(i+1)*A.n=c.length+i*A.n:=by rw [a,qe];omega
   rw [this,w5 (by omega)];simp
  rw [e];simpa using this
theorem db.one{M:Nat->Prop}{w:World}{c:zq}{x:α}(h:A.rd M w c x):db A M w c [x]:=by have:=db.cons h (db.nil (A:=A) (M:=M) (w:=w));simpa using this
theorem db.mv{M M':Nat->Prop}{w w':World}{cs:zq}{xs:List α}(h:db A M w cs xs)(m:Mv M w M' w'):db A M' w' cs xs:=
 ⟨h.1,λi hi=>A.mv (h.2 i hi) m⟩
theorem db.Dm{M:Nat->Prop}{w:World}{cs:zq}{xs:List α}(h:db A M w cs xs):∀v∈cs,v.oneCell'=true:=by
 intro v d;obtain ⟨j,i,rfl⟩:=List.mem_iff_getElem.1 d;have f:=h.1;rcases Nat.eq_zero_or_pos A.n with b|b
 .rw [b] at f;omega
 .have hi:j/A.n<xs.length:=by rw [Nat.div_lt_iff_lt_mul b];omega
  have c:=h.2 (j/A.n) hi;refine A.one c _ ?_;have e:j%A.n<A.n:=qY _ b;have g:j/A.n*A.n+j%A.n=j:=by rw [Nat.mul_comm];exact ua j A.n
  rw [List.mem_iff_getElem];have a:=A.len c;refine ⟨j%A.n,by rw [a];exact e,?_⟩;rw [q4,q5];congr 1
theorem db.append{M:Nat->Prop}{w:World}{cs ds:zq}{xs ys:List α}(h:db A M w cs xs)(k:db A M w ds ys):db A M w (cs++ds) (xs++ys):=by
 refine ⟨by simp [h.1,k.1,qe],λi hi=>?_⟩;by_cases a:i<xs.length
 .have b:=h.2 i a;have e:((cs++ds).drop (i*A.n)).take A.n=(cs.drop (i*A.n)).take A.n:=by
   have d:i*A.n+A.n<=cs.length:=by rw [h.1,<-u9];exact jy _ a
   rw [List.drop_append_of_le_length (by omega),p5 (by simp;omega)]
  rw [e,List.getElem_append_left a];exact b
 .have c:i-xs.length<ys.length:=by simp at hi;omega
  have b:=k.2 _ c;have e:(cs++ds).drop (i*A.n)=ds.drop ((i-xs.length)*A.n):=by
   have:i*A.n=cs.length+(i-xs.length)*A.n:=by rw [h.1,<-qe];congr 1;omega
   rw [this,rJ];simp
  rw [e,List.getElem_append_right (by omega)];exact b
theorem db.take{M:Nat->Prop}{w:World}{cs:zq}{xs:List α}(h:db A M w cs xs)(k:Nat):db A M w (cs.take (k*A.n)) (xs.take k):=by
 have e:(cs.take (k*A.n)).length=(xs.take k).length*A.n:=by
  rw [b9,b9,h.1];by_cases c:k<=xs.length
  .rw [et c,et (jy _ c)]
  .have a:xs.length<=k:=by omega
   rw [xb (jy A.n a),xb a]
 refine ⟨e,λi hi=>?_⟩;have b:i<k/\i<xs.length:=by rw [b9] at hi;omega
 have d:=h.2 i b.2;have f:i*A.n+A.n<=k*A.n:=by rw [<-u9];exact jy _ b.1
 rw [q4,qn,pF,et (by omega)];exact d
theorem db.drop{M:Nat->Prop}{w:World}{cs:zq}{xs:List α}(h:db A M w cs xs)(k:Nat):db A M w (cs.drop (k*A.n)) (xs.drop k):=by
 refine ⟨by rw [ec,ec,h.1,<-Nat.sub_mul],λi hi=>?_⟩;have a:k+i<xs.length:=by simp at hi;omega
 have b:=h.2 (k+i) a;rw [q5,n9];have:(k+i)*A.n=k*A.n+i*A.n:=qe ..;rw [this] at b;exact b
theorem db.set{M:Nat->Prop}{w:World}{cs c:zq}{xs:List α}{x:α}{i:Nat}(h:db A M w cs xs)(hi:i<xs.length)(hx:A.rd M w c x):
  db A M w (cs.take (i*A.n)++c++cs.drop ((i+1)*A.n)) (xs.set i x):=by
 have d:=h.take i;have b:=h.drop (i+1);have a:=(d.append (db.one hx)).append b;have e:xs.set i x=xs.take i++[x]++xs.drop (i+1):=by rw [List.set_eq_take_append_cons_drop,cN hi];simp
 rw [e];exact a
variable (A)
def bW(M:Nat->Prop)(w:World)(v:Value)(xs:List α):Prop:=
 ((∃a,v= .slice a 0 0)/\xs=[])\/∃b off cap cs e fr,v= .slice (some ⟨b,off,none⟩) xs.length cap/\ ¬M b/\w.heap[b]? =some (.cells cs e fr)/\xs.length<=cap/\
  off+cap*A.n<=cs.size/\db A M w ((cs.toList.drop off).take (xs.length*A.n)) xs
variable {A}
theorem bW.nil{M:Nat->Prop}{w:World}:bW A M w (.slice none 0 0) []:= .inl ⟨⟨none,rfl⟩,rfl⟩
theorem bW.emp{M:Nat->Prop}{w:World}{a:Option Addr}:bW A M w (.slice a 0 0) []:= .inl ⟨⟨a,rfl⟩,rfl⟩
theorem bW.mv{M M':Nat->Prop}{w w':World}{v:Value}{xs:List α}(h:bW A M w v xs)(m:Mv M w M' w'):bW A M' w' v xs:=by
 rcases h with h|⟨b,off,cap,cs,e,fr,a,g,hb,f,d,c⟩
 .exact .inl h
 .obtain ⟨j,i⟩:=m.2 b (Array.getElem?_eq_some_iff.1 hb).1 g;exact .inr ⟨b,off,cap,cs,e,fr,a,j,by rw [i];exact hb,f,d,c.mv m⟩
abbrev gP:=Option Addr×Nat×Nat
def sl(p:gP):Value:= .slice p.1 p.2.1 p.2.2
variable (A)
def Mw:eB (List α) where
 n:=1
 rd M w vs xs:= ∃p,vs=[sl p]/\bW A M w (sl p) xs
 len h:=by obtain ⟨v,rfl,_⟩:=h;rfl
 one h:=by obtain ⟨v,rfl,h⟩:=h;simp [Value.oneCell',sl]
 mv h m:=by obtain ⟨v,rfl,h⟩:=h;exact ⟨v,rfl,h.mv m⟩
variable {A}
theorem bW.ox{M:Nat->Prop}{w:World}{v:Value}{xs:List α}(h:bW A M w v xs):∃p,v=sl p:=by
 rcases h with ⟨⟨a,rfl⟩,_⟩|⟨b,off,cap,cs,e,fr,rfl,_⟩
 .exact ⟨(a,0,0),rfl⟩
 .exact ⟨(_,_,_),rfl⟩
theorem bW.rsl{M:Nat->Prop}{w:World}{v:Value}{xs:List α}(h:bW A M w v xs):(Mw A).rd M w [v] xs:=by obtain ⟨p,rfl⟩:=h.ox;exact ⟨p,rfl,h⟩
def SE(v:Value)(n:Nat):Prop:= ∃a cap,v= .slice a n cap
theorem bW.len{M:Nat->Prop}{w:World}{v:Value}{xs:List α}(h:bW A M w v xs):SE v xs.length:=by
 rcases h with ⟨⟨a,rfl⟩,rfl⟩|⟨b,off,cap,cs,e,fr,rfl,_⟩
 .exact ⟨_,_,rfl⟩
 .exact ⟨_,_,rfl⟩
def bT(w:World)(p:Addr)(vs:zq):Prop:=p.spot=none/\∃cs e fr,w.heap[p.block]? =some (.cells cs e fr)/\∀j u,vs[j]? =some u->cs[p.off+j]? =some u
theorem bT.ext{w w':World}{p:Addr}(h:bT w p vs)(e:Ext w w'):bT w' p vs:=by obtain ⟨a,cs,t,fr,hb,b⟩:=h;exact ⟨a,cs,t,fr,by rw [e.block _ (Array.getElem?_eq_some_iff.1 hb).1];exact hb,b⟩
theorem bT.cell{w:World}{p:Addr}{vs:zq}(h:bT w p vs){j:Nat}{u:Value}(a:vs[j]? =some u):w.cell? (p.add j)=some u:=by
 obtain ⟨b,cs,t,fr,hb,c⟩:=h;have:=c j u a;unfold Addr.add;split
 next d=>subst d;simp only [World.cell?,hb,b];simpa using this
 .simp only [World.cell?,hb];simpa using this
theorem bT.sub{w:World}{p:Addr}{us:zq}(h:bT w p vs)(k:Nat)(b:(vs.drop k).take us.length=us):bT w (p.add k) us:=by
 obtain ⟨c,cs,t,fr,hb,d⟩:=h;have key:∀j u,us[j]? =some u->cs[p.off+k+j]? =some u:=λj u a=>by
  rw [<-b,mo] at a;split at a
  .rw [lk] at a;have:=d _ _ a;rwa [<-qC] at this
  .cases a
 unfold Addr.add;split
 next e=>subst e;exact ⟨c,cs,t,fr,hb,key⟩
 .exact ⟨rfl,cs,t,fr,hb,key⟩
def BR(v:Value)(i:Int)(n:Nat)(p:Addr):Prop:= ∃a len cap,v= .slice (some a) len cap/\0<=i/\i<(len:Nat)/\p=a.add (i.toNat*n)
def idx(xs:List α)(i:Int):Option α:=if 0<=i then xs[i.toNat]? else none
theorem EG{xs:List α}{x:α}(h:idx xs i=some x):0<=i/\∃hi:i.toNat<xs.length,xs[i.toNat]=x:=by
 unfold idx at h;split at h
 next a=>obtain ⟨hi,hx⟩:=List.getElem?_eq_some_iff.1 h;exact ⟨a,hi,hx⟩
 .cases h
theorem bW.at_{M:Nat->Prop}{w:World}{v:Value}{xs:List α}{x:α}(h:bW A M w v xs)(hx:idx xs i=some x):
  ∃p vs,BR v i A.n p/\bT w p vs/\A.rd M w vs x:=by
 obtain ⟨g,hi,rfl⟩:=EG hx;rcases h with ⟨_,rfl⟩|⟨b,off,cap,cs,e,fr,rfl,m,hb,l,k,f⟩
 .simp at hi
 .have d:=f.2 _ hi;have a:=A.len d;refine ⟨(⟨b,off,none⟩:Addr).add (i.toNat*A.n),_,⟨_,_,_,rfl,g,by omega,rfl⟩,?_,d⟩;have key:bT w ⟨b,off,none⟩ ((cs.toList.drop off).take (xs.length*A.n)):=⟨rfl,cs,e,fr,hb,λj u c=>by
   rw [mo] at c;split at c
   .simpa [lk] using c
   .cases c⟩
  exact key.sub _ (by rw [a])
end
structure kP(C:zC)(w w':World):Prop where
 os:w'.os=w.os
 tape:w'.tape=w.tape
 output:w'.output=w.output
 size:w.heap.size<=w'.heap.size
 block:∀b,b<w.heap.size->b∉C->w'.heap[b]? =w.heap[b]?
theorem Ext.uP{w w':World}(h:Ext w w')(C:zC):kP C w w':=⟨h.os,h.tape,h.output,h.size,λb hb _=>h.block b hb⟩
def fL(w:World)(b:Nat)(e:TypeId)(vs:zq):Prop:=w.heap[b]? =some (.cells vs.toArray e (0,0))
theorem fL.cE{w w':World}{e:TypeId}(h:fL w b e vs)(k:w'.heap[b]? =w.heap[b]?):fL w' b e vs:=k.trans h
theorem fL.lt{w:World}{e:TypeId}(h:fL w b e vs):b<w.heap.size:=(Array.getElem?_eq_some_iff.1 h).1
theorem fL.cells{w:World}{e:TypeId}(h:fL w b e vs):bT w ⟨b,0,none⟩ vs:=
 ⟨rfl,_,_,_,h,λj u a=>by simpa using a⟩
theorem fL.part{w:World}{e:TypeId}{us:zq}(h:fL w b e vs)(k:Nat)(a:(vs.drop k).take us.length=us):bT w ⟨b,k,none⟩ us:=by
 have:=h.cells.sub k a;unfold Addr.add at this;split at this
 next c=>subst c;exact this
 .simpa using this
def dV(v:Value):zC:=v.ownBlock.toList
section
variable {α : Type} {A : eB α}
def YL(w:World)(e:TypeId)(size:Nat)(v:Value)(n:Nat)(xs:zq):Prop:=
 xs.length=n*size/\((v= .slice none 0 0/\n=0)\/∃g off cap cur,v= .slice (some ⟨g,off,none⟩) n cap/\w.heap[g]? =some (.cells cur e (0,0))/\n<=cap/\cap<=maxLen/\(off+cap*size=cur.size/\(off=0\/size=1))/\
  (cur.toList.drop off).take (n*size)=xs)
theorem YL.of{w:World}{size n:Nat}{e:TypeId}{v:Value}{xs:zq}(h:w.ownsRow b e size v n xs):YL w e size v n xs:=by obtain ⟨j,i⟩:=h;refine ⟨j,i.imp id ?_⟩;rintro ⟨g,cap,cur,rfl,_,d,f,c,k,a⟩;exact ⟨g,0,cap,cur,rfl,d,f,c,⟨by omega,.inl rfl⟩,by simpa using a⟩
variable (A) in
def iv(e:TypeId)(M:Nat->Prop)(w:World)(v:Value)(xs:List α):Prop:=
 ∃cells,YL w e A.n v xs.length cells/\db A M w cells xs
theorem iv.nil{e:TypeId}{M:Nat->Prop}{w:World}:iv A e M w (.slice none 0 0) []:=⟨[],.of (World.ownsRow_nil w 0 e A.n),db.nil⟩
theorem iv.len{e:TypeId}{M:Nat->Prop}{w:World}{v:Value}{xs:List α}(h:iv A e M w v xs):SE v xs.length:=by
 obtain ⟨cells,⟨_,h⟩,_⟩:=h;rcases h with ⟨rfl,a⟩|⟨g,off,cap,cur,rfl,_⟩
 .exact ⟨none,0,by rw [a]⟩
 .exact ⟨_,_,rfl⟩
theorem iv.lt{e:TypeId}{M:Nat->Prop}{w:World}{v:Value}{xs:List α}(h:iv A e M w v xs):∀b∈dV v,b<w.heap.size:=λb hb=>by
 obtain ⟨cells,⟨_,h⟩,_⟩:=h;rcases h with ⟨rfl,c⟩|⟨g,off,cap,cur,rfl,a,_⟩
 .cases hb
 .have:b=g:=by simpa [dV,Value.ownBlock] using hb
  subst this;exact (Array.getElem?_eq_some_iff.1 a).1
theorem iv.cE{e:TypeId}{M M':Nat->Prop}{w w':World}{v:Value}{xs:List α}(h:iv A e M w v xs)(k:∀b∈dV v,w'.heap[b]? =w.heap[b]?)(m:Mv M w M' w'):iv A e M' w' v xs:=by
 obtain ⟨cells,⟨f,a⟩,c⟩:=h;refine ⟨cells,⟨f,?_⟩,c.mv m⟩;rcases a with a|⟨g,off,cap,cur,rfl,d,r⟩
 .exact .inl a
 .exact .inr ⟨g,off,cap,cur,rfl,by rw [k g (by simp [dV,Value.ownBlock])];exact d,r⟩
theorem iv.freeze{e:TypeId}{M M':Nat->Prop}{w:World}{v:Value}{xs:List α}(h:iv A e M w v xs)(j:∀b∈dV v,¬M' b)(m:Mv M w M' w):bW A M' w v xs:=by
 obtain ⟨cells,⟨o,k⟩,d⟩:=h;rcases k with ⟨rfl,l⟩|⟨g,off,cap,cur,rfl,f,i,n,c,a⟩
 .exact .inl ⟨⟨_,rfl⟩,eb l⟩
 .refine .inr ⟨g,off,cap,cur,e,(0,0),rfl,j g (by simp [dV,Value.ownBlock]),f,i,Nat.le_of_eq c.1,?_⟩;rw [a];exact d.mv m
theorem Gc{w:World}{g off n:Nat}{cur:zp}{e:TypeId}{fr:Nat×Nat}{cells:zq}(c:w.heap[g]? =some (.cells cur e fr))(b:(cur.toList.drop off).take n=cells):bT w ⟨g,off,none⟩ cells:=⟨rfl,cur,e,fr,c,λj u a=>by
 rw [<-b,mo] at a;split at a
 .simpa [lk] using a
 .cases a⟩
theorem iv.at_{e:TypeId}{M:Nat->Prop}{w:World}{v:Value}{xs:List α}{x:α}(h:iv A e M w v xs)(hx:idx xs i=some x):
  ∃p vs,BR v i A.n p/\bT w p vs/\A.rd M w vs x:=by
 obtain ⟨c,hi,rfl⟩:=EG hx;obtain ⟨cells,⟨q,k⟩,f⟩:=h;rcases k with ⟨rfl,c⟩|⟨g,off,cap,cur,rfl,j,o,m,l,d⟩
 .omega
 .have b:=f.2 _ hi;have a:=A.len b;exact ⟨(⟨g,off,none⟩:Addr).add (i.toNat*A.n),_,⟨_,_,_,rfl,c,by omega,rfl⟩,(Gc j d).sub _ (by rw [a]),b⟩
end
section
variable {α : Type} {A : eB α}
variable (A) in
def bR(e:TypeId)(M:Nat->Prop)(w:World)(v:Value)(xs:List α)(R:zC):Prop:=
 (R=dV v/\iv A e M w v xs)\/(R=[]/\xs=[]/\(∃a,v= .slice a 0 0)/\bW A M w v [])
variable {e : TypeId} {M M' : Nat -> Prop} {w w' : World} {v : Value} {xs : List α} {R : zC}
theorem bR.nil:bR A e M w (.slice none 0 0) [] []:= .inl ⟨rfl,iv.nil⟩
theorem bR.empty{a:Option Addr}(h:bW A M w (.slice a 0 0) []):bR A e M w (.slice a 0 0) [] []:= .inr ⟨rfl,rfl,⟨a,rfl⟩,h⟩
theorem bR.of(h:iv A e M w v xs):bR A e M w v xs (dV v):= .inl ⟨rfl,h⟩
theorem bR.len(h:bR A e M w v xs R):SE v xs.length:=by
 rcases h with ⟨_,h⟩|⟨_,rfl,⟨a,rfl⟩,_⟩
 .exact h.len
 .exact ⟨_,_,rfl⟩
theorem bR.lt(h:bR A e M w v xs R):∀b∈R,b<w.heap.size:=by
 rcases h with ⟨rfl,h⟩|⟨rfl,_⟩
 .exact h.lt
 .intro b hb;cases hb
theorem bR.cE(h:bR A e M w v xs R)(k:∀b∈R,w'.heap[b]? =w.heap[b]?)(m:Mv M w M' w'):bR A e M' w' v xs R:=by
 rcases h with ⟨rfl,h⟩|h
 .exact .inl ⟨rfl,h.cE k m⟩
 .exact .inr ⟨h.1,h.2.1,h.2.2.1,h.2.2.2.mv m⟩
theorem bR.atG{g:Bool}{x:α}(h:g=true->bR A e M w v xs R)(hx:g=true->idx xs i=some x):
  ∃p vs,(g=true->BR v i A.n p)/\(g=true->bT w p vs)/\(g=true->A.rd M w vs x):=by
 cases g
 .exact ⟨⟨0,0,none⟩,[],λh=>(by cases h),λh=>(by cases h),λh=>(by cases h)⟩
 .rcases h rfl with ⟨_,h⟩|⟨_,rfl,_⟩
  .obtain ⟨p,vs,c,b,a⟩:=h.at_ (hx rfl);exact ⟨p,vs,λ_=>c,λ_=>b,λ_=>a⟩
  .obtain ⟨_,hi,_⟩:=EG (hx rfl);simp at hi
theorem bR.iB{x:α}(h:bR A e M w v xs R)(hx:idx xs i=some x):iv A e M w v xs/\R=dV v:=by
 rcases h with ⟨a,h⟩|⟨_,rfl,_⟩
 .exact ⟨h,a⟩
 .obtain ⟨_,hi,_⟩:=EG hx;simp at hi
theorem bR.freeze(h:bR A e M w v xs R)(a:∀b∈R,¬M' b)(m:Mv M w M' w):bW A M' w v xs:=by
 rcases h with ⟨rfl,h⟩|⟨_,rfl,_,h⟩
 .exact h.freeze a m
 .exact h.mv m
end
variable {α : Type} {A : eB α} {d : TypeDesc} {e : TypeId} {p : Addr} {z : Value} {zs : zq}
def TI(P:Program)(e:TypeId)(size bytes:Nat)(z:Value):Prop:=(P.info? e).map (λi=>(i.size,i.bytes,i.zero))=some (size,bytes,some z)
theorem TI.out{P:Program}{size bytes:Nat}(h:TI P e size bytes z):∃i,P.info? e=some i/\i.size=size/\i.bytes=bytes/\i.zero=some z:=by
 unfold TI at h;cases hi:P.info? e with
 |none=>simp [hi] at h
 |some i=>
  simp only [hi,mj,cH,p8] at h;exact ⟨i,rfl,h.1,h.2.1,h.2.2⟩
def kI:TypeDesc->Bool
 | .struct _=>true
 | .array _ _=>true
 |_=>false
theorem Bc{P:Program}{t:TypeId}(h:P.underlying t=some d)(w:World):(isAgg t).run P w= .ok (kI d) w:=by unfold isAgg;rw [Sem.run_bind,run_underlying h w];cases d <;> rfl
section
variable {P : Program} {E : Env} {g : Bool} {w : World} {dst : zu} {ty : TypeId} {pos : String} {af : zw} {gd : zg}
theorem GU{n:Nat}{t:TypeId}(b:P.underlying t=some (.slice e))(hx:aw E g x v)(c:SE v n):
  bk P E g ⟨dst,.call ⟨.builtin .len,#[x],#[t]⟩,ty,pos,af,gd⟩ w (.int .i64 n):=
 λn' a f d=>by obtain ⟨h,cap,rfl⟩:=c;simp [execOp,resolve,invoke,builtin,hx n' a f d,Builtin.len_,run_underlying b,goInt]
theorem Iy{n bytes:Nat}{t:TypeId}(h:P.underlying t=some (.slice e))(b:TI P e n bytes z)
  (hx:aw E g x v) (f:aw E g y (.int k i)) (l:g=true->BR v i n p):
  bk P E g ⟨dst,.indexAddr t x y,ty,pos,af,gd⟩ w (.pointer (some p)):=
 λn' a d c=>by obtain ⟨q,hi,j,_,_⟩:=b.out;obtain ⟨r,len,cap,rfl,o,m,rfl⟩:=l c;simp [execOp,hx n' a d c,f n' a d c,Instr.indexAt,asIntOf,run_underlying h,o,m,sizeOf,typeInfo,hi,j]
theorem NA{t:TypeId}(a:P.underlying t=some d)(b:kI d=false)(c:w.cell? p=some v):
  (loadVar t p).run P w= .ok v w:=by
 simp [loadVar,Bc a,b,c]
theorem bT.cell0(a:bT w p vs)(b:vs[0]? =some v):w.cell? p=some v:=by have:=a.cell b;simpa [Addr.add] using this
theorem NT{t:TypeId}(c:P.underlying t=some d)(f:kI d=false)(hx:aw E g x (.pointer (some p)))
  (h:g=true->bT w p [v]):bk P E g ⟨dst,.load t x,ty,pos,af,gd⟩ w v:=
 λn' a e b=>by simp [execOp,hx n' a e b,Instr.loadAt,Instr.sureAddr,NA c f ((h b).cell0 rfl)]
theorem PH{t:TypeId}{n bytes:Nat}(c:P.underlying t=some d)(g:kI d=true)(a:TI P t n bytes z)(h:bT w p vs)(f:vs.length=n):
  (loadVar t p).run P w= .ok (.agg vs.toArray) w:=by
 obtain ⟨i,hi,e,_,_⟩:=a.out;have:=run_loadCells_list (P:=P) w p vs (λj v b=>h.cell b);rw [f] at this;simp [loadVar,Bc c,g,sizeOf,typeInfo,hi,e,this]
theorem Ol{t:TypeId}{n bytes:Nat}(e:P.underlying t=some d)(i:kI d=true)(b:TI P t n bytes z)(hx:aw E g x (.pointer (some p)))
  (j:g=true->bT w p vs) (f:vs.length=n):bk P E g ⟨dst,.load t x,ty,pos,af,gd⟩ w (.agg vs.toArray):=
 λn' a h c=>by simp [execOp,hx n' a h c,Instr.loadAt,Instr.sureAddr,PH e i b (j c) f]
def aiG(P:Program)(t:TypeId)(k:Nat)(off:Nat):Prop:=
 ∃fs f i,P.underlying t=some (.struct fs)/\fs[k]? =some f/\f.offset=off/\P.info? f.type=some i/\i.size≠0
theorem My{t:TypeId}{k off:Nat}(c:aiG P t k off)(hx:aw E g x (.pointer (some p))):
  bk P E g ⟨dst,.fieldAddr t x k,ty,pos,af,gd⟩ w (.pointer (some (p.add off))):=
 λn' a o n=>by obtain ⟨d,f,i,e,m,l,hi,j⟩:=c;have b:∃h:k<d.size,d[k]=f:=Array.getElem?_eq_some_iff.1 m;obtain ⟨r,q⟩:=b;simp [execOp,hx n' a o n,Instr.fieldAt,run_underlying e,Instr.sureAddr,fieldPlace,sizeOf,typeInfo,hi,j,l,r,q]
theorem afA(hx:aw E g x (.pointer (some p))):bk P E g ⟨dst,.nilCheck x,ty,pos,af,gd⟩ w (.pointer (some p)):=
 λn' a c b=>by simp only [execOp,hx n' a c b];rfl
theorem api{f:FuncId}{us vs:zp}(hx:aw E g x (.func (.func f) us vs)):bk P E g ⟨dst,.nilCheck x,ty,pos,af,gd⟩ w (.func (.func f) us vs):=
 λn' a c b=>by simp only [execOp,hx n' a c b];rfl
theorem afh{t:TypeId}{n bytes off:Nat}{cs:zq}(e:P.underlying t=some d)(b:TI P t n bytes z)
  (a:(if kI d then some (.agg ((cs.drop off).take n).toArray) else cs[off]?)=some v):(part t cs.toArray off).run P w= .ok v w:=by
 obtain ⟨g,hi,f,_,_⟩:=b.out;unfold part;rw [Sem.run_bind,Bc e];cases c:kI d
 .simp only [c,pA,qT] at a ⊢;simp [a]
 .have e1:(cs.toArray.extract off (off+n))=((cs.drop off).take n).toArray:=by rw [List.extract_toArray];congr 1;simp [List.extract_eq_take_drop]
  simp only [c,qQ,cH] at a;subst a;simp [sizeOf,typeInfo,hi,f]
theorem aoa{t:TypeId}{k n bytes off:Nat}{i:Array Field}{f:Field}{cs:zq}
  (l:P.underlying t=some (.struct i)) (m:i[k]? =some f) (e:f.type=t') (h:f.offset=off) (c:P.underlying t'=some d) (b:TI P t' n bytes z) (hx:aw E g x (.agg cs.toArray))
  (j:(if kI d then some (.agg ((cs.drop off).take n).toArray) else cs[off]?)=some v):
  bk P E g ⟨dst,.field t x k,ty,pos,af,gd⟩ w v:=
 λn' a p o=>by subst e;subst h;have hp:=afh (w:=w) c b j;simp only [execOp,hx n' a p o,Instr.field,Sem.run_bind,run_underlying l,Result.andThen_ok,m,asAgg,Sem.run_pure,hp]
theorem anJ{t:TypeId}{b:List (Nat×Operand)}(hx:iQ E g (b.map (·.2)) vs)
  (hb:∀w:World,(Instr.build t ((b.map (·.1)).zip vs).toArray).run P w= .ok v w):
  bk P E g ⟨dst,.build t b.toArray,ty,pos,af,gd⟩ w v:=
 λn' a d c=>by
  have e:(b.map λp=>(p.1,a.eval p.2))=(b.map (·.1)).zip vs:=by
   have h:=hx.map d c;rw [za] at h;subst h;clear hx hb
   induction b with
   |nil=>rfl
   |cons p ps ih=>simp [ih]
  simp only [execOp,List.map_toArray];have e2:(b.map λx:Nat×Operand=>match x with|(i,x)=>(i,a.eval x))=(b.map (·.1)).zip vs:=e;rw [e2];simp [hb]
def VH(v:Value)(i j:Int)(n:Nat)(v':Value):Prop:=
 ∃ad len cap,v= .slice ad len cap/\0<=i/\i<=j/\j<=(len:Nat)/\len<=cap/\
  v'= .slice (if cap=i.toNat then ad else ad.map (·.add (i.toNat*n))) (j.toNat-i.toNat) (cap-i.toNat)
def Qx(v:Value)(i j k:Int)(n:Nat)(v':Value):Prop:=
 ∃ad len cap,v= .slice ad len cap/\0<=i/\i<=j/\j<=k/\k<=(len:Nat)/\len<=cap/\
  v'= .slice (if k.toNat=i.toNat then ad else ad.map (·.add (i.toNat*n))) (j.toNat-i.toNat) (k.toNat-i.toNat)
def br{α:Type}(xs:List α)(i j:Int):List α:=(xs.drop i.toNat).take (j.toNat-i.toNat)
def jT(i j k:Int)(n:Nat):Bool:=decide (0<=i)&&decide (i<=j)&&decide (j<=k)&&decide (k<=n)
theorem anC{j k:Int}{n:Nat}:jT i j k n=true↔((0<=i/\i<=j)/\j<=k)/\k<=n:=by simp [jT]
theorem bW.sub{M:Nat->Prop}{off cap:Nat}{cs:zp}{e':TypeId}{fr:Nat×Nat}{xs:List α}{i m:Nat}{j:Nat}(g:¬M b)(hb:w.heap[b]? =some (.cells cs e' fr))(h:xs.length<=cap)
  (p:off+cap*A.n<=cs.size) (k:db A M w ((cs.toList.drop off).take (xs.length*A.n)) xs) (t:i<=j) (s:j<=xs.length) (r:j<=m) (o:m<=cap):
  bW A M w (.slice (if m=i then some ⟨b,off,none⟩ else (some (⟨b,off,none⟩:Addr)).map (·.add (i*A.n))) (j-i) (m-i)) ((xs.drop i).take (j-i)):=by
 have a:((xs.drop i).take (j-i)).length=j-i:=by rw [b9,ec];omega
 by_cases c:m=i
 .rw [cN c];have e:j-i=0:=by omega
  refine .inr ⟨b,off,m-i,cs,e',fr,by rw [a],g,hb,by rw [a];omega,?_,?_⟩
  .have:(m-i)*A.n<=cap*A.n:=jy _ (by omega);omega
  .have:((xs.drop i).take (j-i))=[]:=by rw [e];rfl
   rw [this];simpa using (db.nil (A:=A) (M:=M) (w:=w))
 .rw [cx c];have d:(⟨b,off,none⟩:Addr).add (i*A.n)=⟨b,off+i*A.n,none⟩:=by unfold Addr.add;split <;> simp_all
  refine .inr ⟨b,off+i*A.n,m-i,cs,e',fr,by rw [a];simp [d],g,hb,by rw [a];omega,?_,?_⟩
  .have q:i*A.n+(m-i)*A.n=m*A.n:=by rw [<-qe];congr 1;omega
   have f:m*A.n<=cap*A.n:=jy _ o;omega
  .have f:=(k.drop i).take (j-i);rw [qn,n9,pF] at f;rw [a];have l:(j-i)*A.n<=xs.length*A.n-i*A.n:=by rw [<-Nat.sub_mul];exact jy _ (by omega)
   rwa [et l] at f
theorem bW.cut{M:Nat->Prop}{xs:List α}{j:Int}(h:bW A M w v xs)(g:dW i j xs.length=true):
  ∃v',VH v i j A.n v'/\bW A M w v' (br xs i j):=by
 obtain ⟨⟨o,m⟩,d⟩:=y4.1 g;rcases h with ⟨⟨p,rfl⟩,rfl⟩|⟨b,off,cap,cs,e',fr,rfl,k,hb,a,e,l⟩
 .have f:j=0:=by simp at d;omega
  have c:i=0:=by omega
  subst f;subst c;exact ⟨_,⟨p,0,0,rfl,by omega,by omega,by simp,b7 _,rfl⟩,.inl ⟨⟨_,rfl⟩,by simp [br]⟩⟩
 .exact ⟨_,⟨some ⟨b,off,none⟩,xs.length,cap,rfl,o,m,d,a,rfl⟩,bW.sub k hb a e l (by omega) (by omega) (by omega) (b7 _)⟩
theorem bW.awb{M:Nat->Prop}{xs:List α}{j k:Int}(h:bW A M w v xs)(l:jT i j k xs.length=true):
  ∃v',Qx v i j k A.n v'/\bW A M w v' (br xs i j):=by
 obtain ⟨⟨⟨r,q⟩,p⟩,d⟩:=anC.1 l;rcases h with ⟨⟨s,rfl⟩,rfl⟩|⟨b,off,cap,cs,e',fr,rfl,m,hb,a,e,o⟩
 .have f:k=0:=by simp at d;omega
  have g:j=0:=by omega
  have c:i=0:=by omega
  subst f;subst g;subst c;exact ⟨_,⟨s,0,0,rfl,by omega,by omega,by omega,by simp,b7 _,rfl⟩,.inl ⟨⟨_,rfl⟩,by simp [br]⟩⟩
 .exact ⟨_,⟨some ⟨b,off,none⟩,xs.length,cap,rfl,r,q,p,d,a,rfl⟩,bW.sub m hb a e o (by omega) (by omega) (by omega) (by omega)⟩
theorem G4{v':Value}{j:Int}{lo hi:Option Operand}{t:TypeId}{n bytes len:Nat}
  (m:P.underlying t=some (.slice e)) (p:TI P e n bytes z) (hx:aw E g x v) (q:g=true->SE v len)
  (l:match lo with|none=>i=0|some y=>∃k,aw E g y (.int k i)) (c:match hi with|none=>j=len|some y=>∃k,aw E g y (.int k j))
  (F:g=true->VH v i j n v'):bk P E g ⟨dst,.slice t x lo hi none,ty,pos,af,gd⟩ w v':=by
 cases u:g
 .intro n' a d h;cases h
 .subst u;obtain ⟨I,b,s,_,_⟩:=p.out;obtain ⟨M,r,cap,rfl,D,C,L,K,rfl⟩:=F rfl;obtain ⟨_,_,q⟩:=q rfl;cases q;intro n' a d u;have J:i<=((j.toNat:Nat):Int):=by omega
  have B:j<=(cap:Nat):=by omega
  have A:0<=j:=by omega
  have e1:((j.toNat:Nat):Int)=j:=by omega
  cases lo with
  |none=>
   subst l;cases hi with
   |none=>
    subst c;simp [execOp,hx n' a d rfl,Instr.sliceAt,Instr.slice,Instr.sliceBounds,run_underlying m,sizeOf,typeInfo,b]
   |some y=>
    obtain ⟨k,o⟩:=c;simp [execOp,hx n' a d rfl,o n' a d rfl,Instr.sliceAt,Instr.slice,Instr.sliceBounds,Instr.sliceBound,asIntOf,run_underlying m,sizeOf,typeInfo,b,A,B]
  |some G=>
   obtain ⟨H,f⟩:=l;cases hi with
   |none=>
    subst c;simp [execOp,hx n' a d rfl,f n' a d rfl,Instr.sliceAt,Instr.slice,Instr.sliceBounds,Instr.sliceBound,asIntOf,run_underlying m,sizeOf,typeInfo,b,s,D,C]
   |some y=>
    obtain ⟨k,o⟩:=c;simp [execOp,hx n' a d rfl,f n' a d rfl,o n' a d rfl,Instr.sliceAt,Instr.slice,Instr.sliceBounds,Instr.sliceBound,asIntOf,run_underlying m,sizeOf,typeInfo,b,s,D,A,B,C,e1]
theorem XG{p:Operand}{v':Value}{j k:Int}{H:IntKind}{lo hi:Option Operand}{t:TypeId}{n bytes len:Nat}
  (s:P.underlying t=some (.slice e)) (m:TI P e n bytes z) (hx:aw E g x v) (o:g=true->SE v len)
  (c:match lo with|none=>i=0|some y=>∃k,aw E g y (.int k i)) (f:match hi with|none=>False|some y=>∃k,aw E g y (.int k j)) (D:aw E g p (.int H k))
  (J:g=true->Qx v i j k n v'):bk P E g ⟨dst,.slice t x lo hi (some p),ty,pos,af,gd⟩ w v':=by
 cases u:g
 .intro n' a b h;cases h
 .subst u;obtain ⟨R,d,I,_,_⟩:=m.out;obtain ⟨U,q,cap,rfl,M,L,G,K,F,rfl⟩:=J rfl;obtain ⟨_,_,o⟩:=o rfl;cases o;intro n' a b u;have T:i<=((j.toNat:Nat):Int):=by omega
  have C:k<=(cap:Nat):=by omega
  have B:0<=j:=by omega
  have A:0<=k:=by omega
  have S:j<=((k.toNat:Nat):Int):=by omega
  have e1:((j.toNat:Nat):Int)=j:=by omega
  have e2:((k.toNat:Nat):Int)=k:=by omega
  cases hi with
  |none=>exact f.elim
  |some y=>
   obtain ⟨Q,r⟩:=f;cases lo with
   |none=>
    subst c;simp [execOp,hx n' a b rfl,r n' a b rfl,D n' a b rfl,Instr.sliceAt,Instr.slice,Instr.sliceBounds,Instr.sliceBound,asIntOf,run_underlying s,sizeOf,typeInfo,d,B,A,C,G,e2]
   |some N=>
    obtain ⟨O,l⟩:=c;simp [execOp,hx n' a b rfl,l n' a b rfl,r n' a b rfl,D n' a b rfl,Instr.sliceAt,Instr.slice,Instr.sliceBounds,Instr.sliceBound,asIntOf,run_underlying s,sizeOf,typeInfo,d,I,M,L,B,A,C,G,e1,e2]
end
section
variable {P : Program} {E : Env} {w : World}
theorem apa(a:Array TypeId)(t:TypeId)(k:IntKind)(x y:Int)(w:World):(Builtin.max_ a t #[.int k x,.int k y]).run P w= .ok (.int k (max x y)) w:=by rw [run_max_int2];congr 2;split <;> omega
theorem aoT(a:Array TypeId)(t:TypeId)(k:IntKind)(x y:Int)(w:World):(Builtin.min_ a t #[.int k x,.int k y]).run P w= .ok (.int k (min x y)) w:=by rw [run_min_int2];congr 2;split <;> omega
theorem oE{g:Bool}{dst:zu}{ty:TypeId}{pos:String}{af:zw}{gd:Option (Nat×Bool)}{m:Nat}{t:TypeId}(c:P.underlying t=some (.slice e))(hx:aw E g x v)(d:g=true->SE v m):
  bk P E g ⟨dst,.call ⟨.builtin .len,#[x],#[t]⟩,ty,pos,af,gd⟩ w (.int .i64 m):=λn' a f b=>GU c hx (d b) n' a f b
theorem acb(P:Program)(w:World)(d:Nat)(t:TypeId)(a b:aS)(h:P.underlying t=some .string):(Op.equalIn (d+1) t (S a) (S b)).run P w= .ok (a==b) w:=by unfold S;rw [run_equalIn_string w d t _ _ h,Kj,Kj]
theorem amk{t:TypeId}{cs:zq}{off:Nat}(b:P.underlying t=some d)(c:kI d=false)(a:cs[off]? =some v):(part t cs.toArray off).run P w= .ok v w:=by unfold part;rw [Sem.run_bind,Bc b];simp [c,a]
theorem aq6{d:Nat}{xs ys:zp}{f:Field}{e:List Field}{a b:Value}{r s:Bool}(g:(f.name != "_")=true) (k:(part f.type xs f.offset).run P w= .ok a w) (j:(part f.type ys f.offset).run P w= .ok b w)
  (i:(Op.equalIn d f.type a b).run P w= .ok r w) (h:(Op.eqFields d xs ys e).run P w= .ok s w):(Op.eqFields d xs ys (f::e)).run P w= .ok (r&&s) w:=by
 have c:f.name≠ "_" :=by simpa using g
 simp only [Op.eqFields,cN c,Sem.run_bind,k,j,i,Result.andThen_ok];cases r
 .rfl
 .simpa using h
theorem asm{d:Nat}{xs ys:zp}:(Op.eqFields d xs ys []).run P w= .ok true w:=rfl
end
def tW(v:Value)(i:Int)(n:Nat):Addr:=match v with
 | .slice (some a) _ _=>a.add (i.toNat*n)
 |_=>⟨0,0,none⟩
theorem BR.tW{n:Nat}(h:BR v i n p):p=tW v i n:=by obtain ⟨a,len,cap,rfl,_,_,rfl⟩:=h;rfl
theorem bW.atA{M:Nat->Prop}{w:World}{xs:List α}{x:α}(h:bW A M w v xs)(hx:idx xs i=some x):
  BR v i A.n (tW v i A.n)/\∃vs,bT w (tW v i A.n) vs/\A.rd M w vs x/\ ¬M (tW v i A.n).block:=by
 have g:∀p,BR v i A.n p-> ¬M p.block:=by
  intro p hp;rcases h with ⟨⟨a0,rfl⟩,rfl⟩|⟨b,off,cap,cs,e,fr,rfl,j,_⟩
  .obtain ⟨a,l,c,f,o,d,_⟩:=hp;simp only [Value.slice.injEq] at f;omega
  .obtain ⟨a,l,c,f,_,_,rfl⟩:=hp;cases f;unfold Addr.add;split <;> exact j
 obtain ⟨p,vs,d,m,k⟩:=h.at_ hx;have:=d.tW;subst this;exact ⟨d,vs,m,k,g _ d⟩
theorem bR.atA{M:Nat->Prop}{w:World}{xs:List α}{R:zC}{x:α}(h:bR A e M w v xs R)(hx:idx xs i=some x):
  BR v i A.n (tW v i A.n)/\∃vs,bT w (tW v i A.n) vs/\A.rd M w vs x:=by
 obtain ⟨p,vs,a,c,b⟩:=bR.atG (g:=true) (λ_=>h) (λ_=>hx);have:=(a rfl).tW;subst this;exact ⟨a rfl,vs,c rfl,b rfl⟩
section
variable {P : Program} {E : Env} {w : World} {dst : zu} {ty : TypeId} {pos : String} {af : zw}
theorem fi(w:World)(o:Obj):Ext w (w.alloc o):=⟨rfl,rfl,rfl,by simp,λb hb=>heap_alloc_old w o hb⟩
theorem Lb{t:TypeId}{size bytes:Nat}(c:TI P t size bytes z)(d:z.cells=zs.toArray):
  ny P E ⟨dst,.alloc t,ty,pos,af,none⟩ w (.pointer (some ⟨w.heap.size,0,none⟩)) (w.alloc (.cells zs.toArray t)):=λn' a f=>by
 obtain ⟨e,hi,_,_,b⟩:=c.out;simp [execOp,Instr.alloc,zeroValue,typeInfo,hi,b,newVar,newRow,d]
theorem apl{t:TypeId}(hx:aw E true x v)(b:v.cells=zs.toArray):
  ny P E ⟨dst,.box t x,ty,pos,af,none⟩ w (.pointer (some ⟨w.heap.size,0,none⟩)) (w.alloc (.cells zs.toArray t)):=λn' a c=>by
 simp [execOp,Instr.box,newVar,newRow,hx n' a c rfl,b]
def sI(size len:Nat)(z:zq)(parts:List (Nat×Value)):Option zp:=
 Instr.fill (λi=>some (i*size,size)) ((Array.range (len*size)).map (z.toArray[· %z.length]!)) parts
theorem an1{b:List (Nat×Operand)}(hx:iQ E true (b.map (·.2)) vs){n:Nat}{a:Act}(c:Fits n E a):
  (b.map λx:Nat×Operand=>match x with|(i,x)=>(i,a.eval x))=(b.map (·.1)).zip vs:=by
 have h:=hx.map c rfl;rw [za] at h;subst h;clear hx
 induction b with
 |nil=>rfl
 |cons p ps ih=>simp [ih]
theorem rQ{t:TypeId}{len size bytes:Nat}{cells:zq}{b:List (Nat×Operand)}
  (l:P.underlying t=some (.slice e)) (g:TI P e size bytes z) (k:z.cells=zs.toArray) (c:Nat.blt 0 (len*size)=true) (d:Nat.ble (len*size) 16777216=true)
  (hx:iQ E true (b.map (·.2)) vs) (o:sI size len zs ((b.map (·.1)).zip vs)=some cells.toArray):
  ny P E ⟨dst,.buildSlice t len b.toArray,ty,pos,af,none⟩ w (.slice (some ⟨w.heap.size,0,none⟩) len len) (w.alloc (.cells cells.toArray e)):=λn' a n=>by
 obtain ⟨q,hi,m,_,f⟩:=g.out;have e2:=an1 hx n;have p:¬len*size=0:=by
  have:0<len*size:=by simpa using c
  omega
 have j:¬(len*size>2^24):=by have:=dk d;omega
 have h:Instr.fill (λi=>some (i*size,size)) ((Array.range (len*size)).map (z.cells[· %z.cells.size]!)) ((b.map (·.1)).zip vs)=some cells.toArray:=by rw [k];simpa [sI] using o
 simp only [execOp,List.map_toArray,e2,Instr.buildSlice,Sem.run_bind,run_underlying l,Result.andThen_ok,sizeOf,typeInfo,run_program,hi,Sem.run_pure,m,cx j,cx p,zeroValue,f,h,newRow,run_newObj];rfl
theorem vr{t:TypeId}{size bytes:Nat}(d:P.underlying t=some (.slice e))(b:TI P e size bytes z):
  ny P E ⟨dst,.buildSlice t 0 #[],ty,pos,af,none⟩ w (.slice (some ⟨w.heap.size,0,none⟩) 0 0) (w.alloc (.cells ([]:zq).toArray e)):=λn' a i=>by
 obtain ⟨g,hi,h,_,c⟩:=b.out;have f:(Array.range 0).map (λ_=>(default:Value))= #[]:=Array.eq_empty_of_size_eq_zero (by simp);simp [execOp,Instr.buildSlice,run_underlying d,sizeOf,typeInfo,hi,Instr.fill,newRow,f]
theorem bW.fresh{M:Nat->Prop}{len:Nat}{cells:zq}{xs:List α}(hb:fL w b e cells)(d:¬M b)
  (c:xs.length=len) (a:db A M w cells xs):bW A M w (.slice (some ⟨b,0,none⟩) len len) xs:=
 .inr ⟨b,0,len,cells.toArray,e,(0,0),by rw [c],d,hb,by omega,by simp [a.1,c],by rw [qa,<-a.1];simpa using a⟩
theorem iv.fresh{M:Nat->Prop}{len:Nat}{cells:zq}{xs:List α}(hb:fL w b e cells)
  (c:xs.length=len) (d:Nat.ble len 9223372036854775807=true) (a:db A M w cells xs):iv A e M w (.slice (some ⟨b,0,none⟩) len len) xs:=
 ⟨cells,⟨a.1,.inr ⟨b,0,len,cells.toArray,by rw [c],hb,by omega,by simpa [maxLen] using dk d,⟨by simp [a.1,c],.inl rfl⟩,by simp [<-a.1]⟩⟩,a⟩
def pE(vs:zq)(k:Nat)(us:zq):zq:=vs.take k++us++vs.drop (k+us.length)
theorem ak0{t:TypeId}{k:Nat}{us d:zq}{size bytes:Nat}(g:TI P t size bytes z)
  (hx:aw E true x (.pointer (some ⟨b,k,none⟩))) (m:aw E true y v) (o:v.cells=us.toArray) (j:us.length=size)
  (r:us.all Value.oneCell'=true) (hb:fL w b e vs) (q:Nat.ble (k+us.length) vs.length=true) (f:pE vs k us=d):
  Uz P E ⟨dst,.store t x y,ty,pos,af,none⟩ w (w.setRow b d.toArray)/\kP [b] w (w.setRow b d.toArray)/\fL (w.setRow b d.toArray) b e d:=by
 obtain ⟨s,hi,p,_,_⟩:=g.out;have h:=dk q;have tT:=run_storeCells_at P b k e us 0 vs.toArray w hb (by simpa using h) (by simpa using r);refine ⟨λn a l=>?_,⟨rfl,rfl,rfl,by simp,λc _ i=>setRow_other w b c _ (by simpa using i)⟩,setRow_heap w b _ _ e (0,0) hb⟩;have e1:(vs.take k++us++vs.drop (k+us.length))=d:=f;simp only [qu] at tT;simp [execOp,Instr.storeAt,Instr.sureAddr,hx n a l rfl,m n a l rfl,storeVar,sizeOf,typeInfo,hi,p,o,j,tT];rw [<-e1];simp [j]
theorem Mr{M:Nat->Prop}{t:TypeId}{k:Nat}{r:Value}{xs:List α}{u:α}{us d:zq}{size bytes:Nat}(O:TI P t size bytes z)
  (hx:aw E true x (.pointer (some (p.add k)))) (hy:aw E true y v) (hv:v.cells=us.toArray) (Q:us.length=size) (Y:us.all Value.oneCell'=true) (W:BR r i A.n p) (ho:iv A e M w r xs) (hC:bT w p vs) (hvl:vs.length=A.n)
  (C:Nat.ble (k+us.length) vs.length=true) (K:pE vs k us=d) (N:A.rd M w d u) (hM:∀b∈dV r,M b):
  ∃w',Uz P E ⟨dst,.store t x y,ty,pos,af,none⟩ w w'/\kP (dV r) w w'/\w'.heap.size=w.heap.size/\∀M',Mv M w M' w'->iv A e M' w' r (xs.set i.toNat u):=by
 obtain ⟨i',hi,hs,_,_⟩:=O.out;obtain ⟨ad,len,cap,rfl,h0,h1,rfl⟩:=W;obtain ⟨cells,⟨hcl,B⟩,hA⟩:=ho;rcases B with ⟨G,_⟩|⟨g,off,cap',cur,s,U,hc,hm,D,ht⟩
 .cases G
 .cases s;have hcs1:=D.1;have C:=dk C;have T:=A.len N;have m:i.toNat<xs.length:=by omega
  have H:((⟨g,off,none⟩:Addr).add (i.toNat*A.n))=⟨g,off+i.toNat*A.n,none⟩:=by unfold Addr.add;split <;> simp_all
  rw [H] at hx hC;have q:((⟨g,off+i.toNat*A.n,none⟩:Addr).add k)=⟨g,off+i.toNat*A.n+k,none⟩:=by unfold Addr.add;split <;> simp_all
  rw [q] at hx;have e3:(i.toNat+1)*A.n=i.toNat*A.n+A.n:=u9 ..;have V:off+i.toNat*A.n+A.n<=cur.size:=by have:(i.toNat+1)*A.n<=cap*A.n:=jy _ (by omega);omega
  have tT:=run_storeCells_at P g (off+i.toNat*A.n+k) e us 0 cur w U (by simp only [qu];omega) (by simpa using Y);simp only [qu] at tT;generalize J:cur.toList.drop off=L at ht;have f:L.length=cur.size-off:=by rw [<-J];simp
  -- the element's cells
  have h:vs=(L.drop (i.toNat*A.n)).take A.n:=by
   obtain ⟨_,cs,t',fr,hb,o⟩:=hC;rw [U] at hb;cases hb;apply si
   .simp only [b9,ec,f];omega
   .intro j h2 h3;have:=o j _ (aT h2);have hj:j<A.n:=by omega
    subst J;rw [q4,q5,q5,Array.getElem_toList];simp only [<-qC];rw [Array.getElem?_eq_getElem (by show off+i.toNat*A.n+j<cur.size;omega)] at this;exact (du this).symm
  have I:cur.toList.take (off+i.toNat*A.n+k)++us++cur.toList.drop (off+i.toNat*A.n+k+us.length)=cur.toList.take off++(L.take (i.toNat*A.n)++d++L.drop ((i.toNat+1)*A.n)):=by
   have e1:cur.toList.take (off+i.toNat*A.n+k)=cur.toList.take off++(L.take (i.toNat*A.n)++vs.take k):=by rw [h,<-J,pF,qC,List.take_add,List.take_add,n9,et (by omega)]
   have e2:cur.toList.drop (off+i.toNat*A.n+k+us.length)=vs.drop (k+us.length)++L.drop ((i.toNat+1)*A.n):=by
    have Z:cur.toList.drop (off+i.toNat*A.n+k+us.length)=L.drop (i.toNat*A.n+(k+us.length)):=by rw [<-J,n9];congr 1;omega
    rw [Z,h,qn,n9,e3];have e4:L.drop (i.toNat*A.n+A.n)=(L.drop (i.toNat*A.n+(k+us.length))).drop (A.n-(k+us.length)):=by rw [n9];congr 1;omega
    rw [e4,qb]
   rw [e1,e2,<-K];simp [pE]
  have l:Uz P E ⟨dst,.store t x y,ty,pos,af,none⟩ w (w.setRow g (cur.toList.take (off+i.toNat*A.n+k)++us++cur.toList.drop (off+i.toNat*A.n+k+us.length)).toArray):=λn a hf=>by
   have R:¬(us.toArray.size≠i'.size):=by simp [Q,hs]
   simp only [execOp,Instr.storeAt,Instr.sureAddr,hx n a hf rfl,hy n a hf rfl,storeVar,sizeOf,typeInfo,hi,hv,Sem.run_bind,Sem.run_pure,Result.andThen_ok,run_program,cx R,tT]
  rw [I] at l;have F:kP [g] w (w.setRow g (cur.toList.take off++(L.take (i.toNat*A.n)++d++L.drop ((i.toNat+1)*A.n))).toArray):=
   ⟨rfl,rfl,rfl,by simp,λc _ X=>setRow_other w g c _ (by simpa using X)⟩
  refine ⟨_,l,F,by simp,λM' S=>?_⟩;refine ⟨cells.take (i.toNat*A.n)++d++cells.drop ((i.toNat+1)*A.n),⟨?_,.inr ⟨g,off,cap,_,by simp,setRow_heap w g cur _ e _ U,by simpa using hc,hm,⟨?_,D.2⟩,?_⟩⟩,((hA.set m N).mv S)⟩
  .exact (hA.set m N).1
  .simp only [n7,cO,b9,ec,de,f];omega
  .have e6:(cur.toList.take off++(L.take (i.toNat*A.n)++d++L.drop ((i.toNat+1)*A.n))).drop off=L.take (i.toNat*A.n)++d++L.drop ((i.toNat+1)*A.n):=by
    have e7:(cur.toList.take off).length=off:=by rw [b9,de];omega
    rw [rJ,w5 (by omega),e7,vb];rfl
   rw [oi,<-ht,e6];have hk:i.toNat*A.n+A.n<=xs.length*A.n:=by rw [<-u9];exact jy _ m
   have e3:(i.toNat+1)*A.n=i.toNat*A.n+d.length:=by rw [T,qe];omega
   rw [e3,q9,q9,pF,pF,qn];have e4:min (xs.length*A.n) (i.toNat*A.n)=i.toNat*A.n:=by omega
   have Z:min (i.toNat*A.n) (xs.length*A.n)=i.toNat*A.n:=by omega
   rw [e4,Z];congr 1
   .congr 1;rw [ei];simp only [b9,f];omega
   .congr 1;simp only [cO,b9,f];omega
def aH(k bytes:Nat):Bool:=Nat.ble (k*bytes) 140737488355328&&Nat.ble k 9223372036854775807
theorem ajA{l ns:zq}{off m:Nat}(c:m=((l.drop off).take m).length)(d:off+m+ns.length<=l.length):
  ((l.take (off+m)++ns++l.drop (off+m+ns.length)).drop off).take ((l.drop off).take m++ns).length=(l.drop off).take m++ns:=by
 have e1:l.take (off+m)=l.take off++(l.drop off).take m:=List.take_add;have b:(l.take off).length=off:=by rw [b9];omega
 have a:(l.take off++(l.drop off).take m++ns++l.drop (off+m+ns.length)).drop off=(l.drop off).take m++ns++l.drop (off+m+ns.length):=by have:=List.drop_left (l₁:=l.take off) (l₂:=(l.drop off).take m++ns++l.drop (off+m+ns.length));rw [b] at this;simpa only [b0] using this
 rw [e1,a];exact v7
theorem Vq(t ty e:TypeId)(i:TypeInfo)(n:P.underlying t=some (.slice e))(hi:P.info? e=some i)
  (g off d f:Nat) (cur:zp) (p:w.heap[g]? =some (.cells cur e (0,0)))
  (a:Addr) (m c:Nat) (b:zq) (o:b.length=m*i.size) (k:∀j u,b[j]? =some u->w.cell? (a.add j)=some u) (r:∀u∈b,u.oneCell'=true)
  (h:d+m<=f) (l:off+d*i.size+b.length<=cur.size):
  (Builtin.append_ #[t,t] ty #[.slice (some ⟨g,off,none⟩) d f,.slice (some a) m c]).run P w=
   .ok (.slice (some ⟨g,off,none⟩) (d+m) f) (w.setRow g (cur.toList.take (off+d*i.size)++b++cur.toList.drop (off+d*i.size+b.length)).toArray):=by
 have q:=run_firstCells_some (P:=P) w i.size m a m c b o k;have tT:=run_storeCells_at P g (off+d*i.size) e b 0 cur w p (by simpa using l) r;simp only [qu] at tT;simp [Builtin.append_,run_underlying n,sizeOf,typeInfo,hi,Builtin.lenOf,h,q,Addr.add_lit,tT]
theorem JX{M:Nat->Prop}(t D e:TypeId)(i:TypeInfo)(z:Value)(J:P.underlying t=some (.slice e))(hi:P.info? e=some i)(hz:i.zero=some z)(F:i.size=A.n)
  (X:z.cells.size=A.n) {v u:Value} {xs ys:List α} (ho:iv A e M w v xs) (hy:bW A M w u ys) (hM:∀b∈dV v,M b) (l:aH (xs.length+ys.length) i.bytes=true) (_hpos:0<A.n):
  ∃v' w',(Builtin.append_ #[t,t] D #[v,u]).run P w= .ok v' w'/\kP (dV v) w w'/\(∀b∈dV v',b<w'.heap.size/\(b∈dV v\/w.heap.size<=b))/\
   (∀M',Mv M w M' w'->iv A e M' w' v' (xs++ys)):=by
 simp only [aH,ah] at l;have W:=dk l.1;have V:=dk l.2;have U:=ho.lt;obtain ⟨cells,f,R⟩:=ho
 -- the new cells
 have T:(u= .slice none 0 0/\ys=[])\/∃I c d,u= .slice (some I) ys.length c/\d.length=ys.length*A.n/\(∀j x,d[j]? =some x->w.cell? (I.add j)=some x)/\db A M w d ys:=by
  rcases hy with ⟨⟨uo,rfl⟩,rfl⟩|⟨b,off,cap,cs,e',fr,rfl,hMb,hb,hc,hof,B⟩
  .cases uo with
   |none=>exact .inl ⟨rfl,rfl⟩
   |some I=>exact .inr ⟨I,0,[],rfl,by simp,by simp,db.nil⟩
  .refine .inr ⟨⟨b,off,none⟩,cap,_,rfl,B.1,λj x G=>?_,B⟩;have key:bT w ⟨b,off,none⟩ ((cs.toList.drop off).take (ys.length*A.n)):=⟨rfl,cs,e',fr,hb,λj u G=>by
    rw [mo] at G;split at G
    .simpa [lk] using G
    .cases G⟩
   exact key.cell G
 rcases T with ⟨rfl,rfl⟩|⟨I,c,d,rfl,q,K,L⟩
 . -- nothing is appended
  refine ⟨v,w,?_,(Ext.refl w).uP _,λb hb=>⟨?_,.inl hb⟩,λM' m=>⟨cells,?_,?_⟩⟩
  .rcases f.2 with ⟨rfl,h0⟩|⟨g,off,cap,cur,rfl,Q,p,_⟩
   .simp [Builtin.append_,run_underlying J,sizeOf,typeInfo,hi,Builtin.lenOf,Builtin.firstCells]
   .simp [Builtin.append_,run_underlying J,sizeOf,typeInfo,hi,Builtin.lenOf,Builtin.firstCells,storeCells,p]
  .exact U b hb
  .simpa using f
  .simpa using R.mv m
 .have r:=R.append L;have S:=L.Dm;by_cases hm0:ys.length=0
  . -- a slice without elements
   have Y:ys=[]:=eb hm0;subst Y;have hn0:d=[]:=eb (by simpa using q);subst hn0;refine ⟨v,w,?_,(Ext.refl w).uP _,λb hb=>⟨?_,.inl hb⟩,λM' m=>⟨cells,?_,?_⟩⟩
   .rcases f.2 with ⟨rfl,h0⟩|⟨g,off,cap,cur,rfl,Q,p,_⟩
    .simp [Builtin.append_,run_underlying J,sizeOf,typeInfo,hi,Builtin.lenOf,Builtin.firstCells,loadCells,loadCellsFrom]
    .simp [Builtin.append_,run_underlying J,sizeOf,typeInfo,hi,Builtin.lenOf,Builtin.firstCells,storeCells,loadCells,loadCellsFrom,p]
   .exact U b hb
   .simpa using f
   .simpa using R.mv m
  .have y:∀(jP:Nat),jP<xs.length+ys.length->
     (w.drew.alloc (.cells (cells.toArray++d.toArray++Builtin.zeroCells z.cells (grownCap w (xs.length+ys.length) jP e-(xs.length+ys.length))) e)).ownsRow 0 e A.n
      (.slice (some ⟨w.heap.size,0,none⟩) (xs++ys).length (grownCap w (xs.length+ys.length) jP e)) (xs++ys).length (cells++d):=by
    intro jP hold;have hge:=grownCap_ge w (xs.length+ys.length) jP e;have O:grownCap w (xs.length+ys.length) jP e<=maxLen:=grownCap_le_maxLen w _ jP e (by simpa [maxLen] using V);refine ⟨r.1,.inr ⟨w.heap.size,_,_,rfl,qf _,heap_alloc_new w.drew _,by simpa using hge,O,?_,?_⟩⟩
    .simp only [qJ,n7,size_zeroCells,X,R.1,q,<-qe];congr 1;omega
    .simp only [s3,b0];rw [<-b0,<-r.1];exact v7
   have H:∀o C,kP C w (w.drew.alloc o):=λo C=>⟨rfl,rfl,rfl,by simp,λb hb _=>heap_alloc_old w.drew o hb⟩;rcases f.2 with ⟨rfl,h0⟩|⟨g,off,cap,cur,rfl,Q,p,O,N,k⟩
   .have Z:xs=[]:=eb h0;subst Z;have hc0:cells=[]:=eb (by simpa using f.1);subst hc0;have B:=run_append_nil (P:=P) w t D e i z J hi hz I ys.length c d (by rw [F];exact q) K (by omega) (by simp at V;omega) (by simp at W;omega);have E:=y 0 (by simp;omega);simp only [qg,l7,qs,vc] at E B;refine ⟨_,_,B,H _ _,λb hb=>?_,λM' m=>⟨_,.of (by simpa using E),by simpa using L.mv m⟩⟩;have:b=w.heap.size:=by simpa [dV,Value.ownBlock] using hb
    subst this;exact ⟨by simp,.inr (b7 _)⟩
   .by_cases h:xs.length+ys.length<=cap
    .have s:off+xs.length*i.size+d.length<=cur.size:=by have:(xs.length+ys.length)*A.n<=cap*A.n:=jy _ h;rw [qe] at this;have:=N.1;rw [F,q];omega
     have B:=Vq (P:=P) (w:=w) t D e i J hi g off xs.length cap cur Q I ys.length c d (by rw [F];exact q) K S h s;rw [F] at B;refine ⟨_,_,B,⟨rfl,rfl,rfl,by simp,λb hb hbg=>setRow_other w g b _ (by simpa [dV,Value.ownBlock] using hbg)⟩,λb hb=>?_,λM' m=>⟨cells++d,⟨r.1,.inr ⟨g,off,cap,_,by simp,setRow_heap w g cur _ e _ Q,by simpa using h,O,⟨?_,N.2⟩,?_⟩⟩,r.mv m⟩⟩
     .have:b=g:=by simpa [dV,Value.ownBlock] using hb
      subst this;exact ⟨by simpa using (Array.getElem?_eq_some_iff.1 Q).1,.inl (by simp [dV,Value.ownBlock])⟩
     .simp only [n7,cO,b9,ec,de];rw [F] at s;have:=N.1;omega
     .rw [<-r.1,<-k];exact ajA (by rw [k];exact R.1.symm) (by rw [F] at s;simp only [de];omega)
    .have holds:∀j x,cells[j]? =some x->w.cell? ((⟨g,off,none⟩:Addr).add j)=some x:=λj x G=>(Gc Q k).cell G;have B:=run_append_grow (P:=P) w t D e i z J hi hz ⟨g,off,none⟩ xs.length cap cells (by rw [F];exact R.1) holds I ys.length c d (by rw [F];exact q) K (by omega) (by omega) (growslice_fits (by omega) W);have E:=y cap (by omega);refine ⟨_,_,B,H _ _,λb hb=>?_,λM' m=>⟨_,.of (by simpa using E),r.mv m⟩⟩;have:b=w.heap.size:=by simpa [dV,Value.ownBlock] using hb
     subst this;exact ⟨by simp,.inr (b7 _)⟩
theorem vO{M:Nat->Prop}(t g e:TypeId)(i:TypeInfo)(z:Value)(s:P.underlying t=some (.slice e))(hi:P.info? e=some i)(I:i.zero=some z)(J:i.size=A.n)
  (y:z.cells.size=A.n) {a0:Option Addr} {u:Value} {ys:List α} (hx:bW A M w (.slice a0 0 0) []) (O:bW A M w u ys) (d:aH ys.length i.bytes=true):
  ((Builtin.append_ #[t,t] g #[.slice a0 0 0,u]).run P w= .ok (.slice a0 0 0) w/\ys=[])\/
  ∃v' w',(Builtin.append_ #[t,t] g #[.slice a0 0 0,u]).run P w= .ok v' w'/\Ext w w'/\(∀b∈dV v',b<w'.heap.size/\w.heap.size<=b)/\(∀M',Mv M w M' w'->iv A e M' w' v' ys):=by
 simp only [aH,ah] at d;have G:=dk d.1;have F:=dk d.2;have o:(u= .slice none 0 0/\ys=[])\/∃l c a,u= .slice (some l) ys.length c/\a.length=ys.length*A.n/\(∀j x,a[j]? =some x->w.cell? (l.add j)=some x)/\db A M w a ys:=by
  rcases O with ⟨⟨N,rfl⟩,rfl⟩|⟨b,off,cap,cs,e',fr,rfl,R,hb,S,Q,k⟩
  .cases N with
   |none=>exact .inl ⟨rfl,rfl⟩
   |some l=>exact .inr ⟨l,0,[],rfl,by simp,by simp,db.nil⟩
  .refine .inr ⟨⟨b,off,none⟩,cap,_,rfl,k.1,λj x h=>?_,k⟩;have key:bT w ⟨b,off,none⟩ ((cs.toList.drop off).take (ys.length*A.n)):=⟨rfl,cs,e',fr,hb,λj u h=>by
    rw [mo] at h;split at h
    .simpa [lk] using h
    .cases h⟩
   exact key.cell h
 rcases o with ⟨rfl,rfl⟩|⟨l,c,a,rfl,f,p,q⟩
 .refine .inl ⟨?_,rfl⟩;cases a0 <;> simp [Builtin.append_,run_underlying s,sizeOf,typeInfo,hi,Builtin.lenOf,Builtin.firstCells,storeCells]
 .by_cases C:ys.length=0
  .have B:ys=[]:=eb C;subst B;refine .inl ⟨?_,rfl⟩;cases a0 <;> simp [Builtin.append_,run_underlying s,sizeOf,typeInfo,hi,Builtin.lenOf,Builtin.firstCells,storeCells,loadCells,loadCellsFrom]
  .refine .inr ?_;have D:=grownCap_ge w ys.length 0 e;have E:grownCap w ys.length 0 e<=maxLen:=grownCap_le_maxLen w _ 0 e (by simpa [maxLen] using F);have r:(w.drew.alloc (.cells (a.toArray++Builtin.zeroCells z.cells (grownCap w ys.length 0 e-ys.length)) e)).ownsRow 0 e A.n
      (.slice (some ⟨w.heap.size,0,none⟩) ys.length (grownCap w ys.length 0 e)) ys.length a:=by
    refine ⟨f,.inr ⟨w.heap.size,_,_,rfl,qf _,heap_alloc_new w.drew _,D,E,?_,?_⟩⟩
    .simp only [qJ,n7,size_zeroCells,y,f,<-qe];congr 1;omega
    .simp only [s3];rw [<-f];exact v7
   have K:Ext w (w.drew.alloc (.cells (a.toArray++Builtin.zeroCells z.cells (grownCap w ys.length 0 e-ys.length)) e)):=⟨rfl,rfl,rfl,by simp,λb hb=>heap_alloc_old w.drew _ hb⟩;have L:∀b∈dV (.slice (some ⟨w.heap.size,0,none⟩) ys.length (grownCap w ys.length 0 e)),b<(w.drew.alloc (.cells (a.toArray++Builtin.zeroCells z.cells (grownCap w ys.length 0 e-ys.length)) e)).heap.size/\w.heap.size<=b:=λb hb=>by
    have:b=w.heap.size:=by simpa [dV,Value.ownBlock] using hb
    subst this;exact ⟨by simp,b7 _⟩
   cases a0 with
   |none=>
    have k:=run_append_nil (P:=P) w t g e i z s hi I l ys.length c a (by rw [J];exact f) p (by omega) (by omega) (by omega);exact ⟨_,_,k,K,L,λM' m=>⟨a,.of r,q.mv m⟩⟩
   |some H=>
    have k:=run_append_grow (P:=P) w t g e i z s hi I H 0 0 [] (by simp) (by intro j v h;simp at h) l ys.length c a (by rw [J];exact f) p (by omega) (by omega) (growslice_fits (by omega) (by simpa using G));simp only [l7,vc] at k;exact ⟨_,_,by simpa using k,K,L,λM' m=>⟨a,.of r,q.mv m⟩⟩
theorem Ip{M:Nat->Prop}{u:Value}{t:TypeId}{bytes:Nat}{R:zC}(C:P.underlying t=some (.slice e))(o:TI P e A.n bytes z)
  (f:z.cells.size=A.n) (j:0<A.n) (hx:aw E true x v) (l:aw E true y u)
  {xs ys:List α} (p:bR A e M w v xs R) (g:bW A M w u ys) (H:∀b∈R,M b) (c:aH (xs.length+ys.length) bytes=true):
  ∃v' R' w',ny P E ⟨dst,.call ⟨.builtin .append,#[x,y],#[t,t]⟩,ty,pos,af,none⟩ w v' w'/\kP R w w'/\(∀b∈R',b<w'.heap.size/\(b∈R\/w.heap.size<=b))/\∀M',Mv M w M' w'->bR A e M' w' v' (xs++ys) R':=by
 obtain ⟨s,k,D,q,B⟩:=o.out;subst q;rcases p with ⟨rfl,p⟩|⟨rfl,rfl,⟨a0,rfl⟩,h⟩
 .obtain ⟨v',w',i,J,G,r⟩:=JX t ty e s z C k B D f p g H c j;exact ⟨v',dV v',w',(λn' a d=>by simp [execOp,resolve,invoke,builtin,hx n' a d rfl,l n' a d rfl,i]),J,G,λM' m=>bR.of (r M' m)⟩
 .rcases vO t ty e s z C k B D f h g (by simpa using c) with ⟨i,rfl⟩|⟨v',w',i,I,F,r⟩
  .exact ⟨_,[],w,(λn' a d=>by simp [execOp,resolve,invoke,builtin,hx n' a d rfl,l n' a d rfl,i]),(Ext.refl w).uP _,(λb hb=>by cases hb),λM' m=>bR.empty (h.mv m)⟩
  .exact ⟨v',dV v',w',(λn' a d=>by simp [execOp,resolve,invoke,builtin,hx n' a d rfl,l n' a d rfl,i]),I.uP _,(λb hb=>⟨(F b hb).1,.inr (F b hb).2⟩),λM' m=>bR.of (by simpa using r M' m)⟩
theorem afv(zs:zq):∀m j,j<m*zs.length->((List.replicate m zs).flatten)[j]? =zs[j%zs.length]?
 |0,j,h=>by simp at h
 |m+1,j,h=>by
  rw [qM,List.flatten_cons];by_cases a:j<zs.length
  .rw [cy a,Nat.mod_eq_of_lt a]
  .have b:j-zs.length<m*zs.length:=by rw [u9] at h;omega
   rw [ca (by omega),afv zs m _ b,Nat.mod_eq_sub_mod (by omega:zs.length<=j)]
theorem Gj(zs:zq)(a:0<zs.length)(m:Nat):((Array.range (m*zs.length)).map (zs.toArray[· %zs.toArray.size]!))=((List.replicate m zs).flatten).toArray:=by
 apply Array.toList_inj.1;apply nc;intro j;by_cases d:j<m*zs.length
 .have b:j%zs.length<zs.length:=qY _ a;rw [afv zs m j d];simp only [Array.toList_map,Array.toList_range,np,List.getElem?_range d,n7,mj];rw [aT b];simp [b]
 .have c:((List.replicate m zs).flatten).length=m*zs.length:=by simp
  rw [cw (by simp;omega),cw (by simp at c ⊢; omega)]
theorem aoc{t:TypeId}{bytes:Nat}{v:IntKind}{l:Int}{g:α}(H:P.underlying t=some (.slice e))(o:TI P e A.n bytes z)
  (F:z.cells=zs.toArray) (j:zs.length=A.n) (C:0<A.n) (hx:aw E true x (.int k l)) (G:aw E true y (.int v l)) (L:decide (0<=l)=true) (b:aH l.toNat bytes=true)
  (i:∀M w,A.rd M w zs g):
  ∃w',ny P E ⟨dst,.makeSlice t x y,ty,pos,af,none⟩ w (.slice (some ⟨w.heap.size,0,none⟩) l.toNat l.toNat) w'/\Ext w w'/\w.heap.size<w'.heap.size/\∀M,iv A e M w' (.slice (some ⟨w.heap.size,0,none⟩) l.toNat l.toNat) (List.replicate l.toNat g):=by
 obtain ⟨f,p,I,q,h⟩:=o.out;subst q;simp only [aH,ah] at b;have J:=dk b.1;have r:=dk b.2;have u:0<=l:=by simpa using L
 have N:((l.toNat:Nat):Int)=l:=by omega
 have s:(f.bytes:Int)*l<=281474976710656:=by
  have K:((f.bytes*l.toNat:Nat):Int)<=281474976710656:=by rw [Nat.mul_comm];omega
  rwa [Int.natCast_mul,N] at K
 have B:=run_make (P:=P) w t e f z H p h k v l l u (Int.le_refl _) s (by omega);have d:∀m M w',db A M w' ((List.replicate m zs).flatten) (List.replicate m g):=by
  intro m M w'
  induction m with
  |zero=>simpa using db.nil
  |succ m ih=>rw [qM,List.flatten_cons,qM];exact db.cons (i M w') ih
 have c:madeCells z.cells (l.toNat*f.size)=((List.replicate l.toNat zs).flatten).toArray:=by rw [F,I,<-j,<-Gj zs (by omega) l.toNat];simp [madeCells]
 rw [c] at B;refine ⟨w.alloc (.cells ((List.replicate l.toNat zs).flatten).toArray e),(λn' a D=>by simp [execOp,hx n' a D rfl,G n' a D rfl,B]),fi _ _,by simp,λM=>?_⟩;exact iv.fresh (heap_alloc_new w _) (by simp) (by simpa using r) (d _ _ _)
end
section
variable {P : Program} {fn : Func} {S : Value -> World -> Prop} {Sp : zj -> World -> Prop} {n : Nat} {E : Env} {w : World}
def kK(P:Program)(E:Env)(w:World)(r:ResultVar)(v:Value):Prop:=
 match r with
 | .tmp t=>look E t=some (true,v)
 | .cell p t=>∃ad,look E p=some (true,.pointer (some ad))/\(loadVar t ad).run P w= .ok v w
theorem kK.t{t:Tmp}(h:look E t=some (true,v)):kK P E w (.tmp t) v:=h
theorem kK.cA{p:Tmp}{t:TypeId}{b:Addr}{size bytes:Nat}(h:look E p=some (true,.pointer (some b)))(c:P.underlying t=some d)(f:kI d=true)
  (a:TI P t size bytes z) (g:bT w b vs) (e:vs.length=size):kK P E w (.cell p t) (.agg vs.toArray):=⟨b,h,PH c f a g e⟩
theorem kK.c1{p:Tmp}{t:TypeId}{a:Addr}(h:look E p=some (true,.pointer (some a)))(b:P.underlying t=some d)(c:kI d=false)
  (e:bT w a vs) (f:vs[0]? =some v):kK P E w (.cell p t) v:=⟨a,h,NA b c (e.cell0 f)⟩
def WN(a:Act)(r:ResultVar):Sem Value:=
 match r with
 | .tmp t=>pure (a.tmps.getD t undef)
 | .cell p t=>do loadVar t (<-asAddr (a.tmps.getD p undef))
theorem kK.run{r:ResultVar}(c:kK P E w r v){a:Act}(d:Fits n E a):(WN a r).run P w= .ok v w:=by
 cases r with
 |tmp t=>have:=d.at_ t true v c;simp [WN,this,y6]
 |cell p t=>
  obtain ⟨f,e,b⟩:=c;have:=d.at_ p true _ e;simp [WN,this,y6,asAddr,b]
theorem XU(fn:Func)(a:Act):results fn a.tmps=(do let vs <-fn.results.mapM (WN a);pure (if h:vs.size=1 then vs[0] else .tuple vs)):=rfl
theorem akC(f:fn.results.toList.length=vs.length)(h:∀a,Fits n E a->(fn.results.mapM (WN a)).run P w= .ok vs.toArray w){v:Value}(b:(if h:vs.length=1 then vs[0] else .tuple vs.toArray)=v)(e:S v w):
  At (BP P fn S Sp) .ret n [] E w:=λa c d=>by
 show LeavesInM _ _ _ _ _ _ a.defers _ _;rw [d];refine ⟨v,?_,e⟩;rw [XU];simp only [Sem.run_bind,h a c,Result.andThen_ok,Sem.run_pure];subst b;simp
theorem QM{r:ResultVar}(b:fn.results= #[r])(e:kK P E w r v)(d:S v w):At (BP P fn S Sp) .ret n [] E w:=
 akC (vs:=[v]) (by rw [b];rfl) (λa c=>by rw [b];simp [e.run c]) (by simp) d
end
structure hU(w w':World):Prop where
 os:w'.os=w.os
 tape:w'.tape=w.tape
 output:w'.output=w.output
theorem hU.refl(w:World):hU w w:=⟨rfl,rfl,rfl⟩
theorem hU.trans{a b c:World}(h:hU a b)(k:hU b c):hU a c:=⟨k.os.trans h.os,k.tape.trans h.tape,k.output.trans h.output⟩
theorem kP.env{C:zC}{w w':World}(h:kP C w w'):hU w w':=⟨h.os,h.tape,h.output⟩
structure Item where
 own:zC
 P:(Nat->Prop)->World->Prop
 lt:∀{M w},P M w->∀b∈own,b<w.heap.size
 cE:∀{M M' w w'},P M w->Mv M w M' w'->(∀b∈own,w'.heap[b]? =w.heap[b]?)->hU w w'->P M' w'
 cV:Bool
 hp:cV=true->own=[]
abbrev Ctx:=List Item
def Ctx.M(Γ:Ctx)(b:Nat):Prop:= ∃it,it∈Γ/\b∈it.own
structure Sat(Γ:Ctx)(w:World):Prop where
 all:∀it,it∈Γ->it.P Γ.M w
 sep:∀(i j:Nat) (it jt:Item),Γ[i]? =some it->Γ[j]? =some jt->i≠j->∀b,b∈it.own->b∉jt.own
section
variable {Γ : Ctx} {w w' : World} {it new : Item} {i : Nat}
theorem Sat.nil:Sat [] w:=⟨λ_ h=>(by cases h),λi j it jt h=>(by simp at h)⟩
theorem Sat.at_(h:Sat Γ w)(hi:Γ[i]? =some it):it.P Γ.M w:=h.all it (ej hi)
theorem Ctx.j7(hi:Γ[i]? =some it){b:Nat}(hb:b∈it.own):Γ.M b:=⟨it,ej hi,hb⟩
theorem Sat.lt(h:Sat Γ w){b:Nat}(hb:Γ.M b):b<w.heap.size:=by obtain ⟨it,hi,hb⟩:=hb;exact it.lt (h.all it hi) b hb
theorem Ctx.EY:Ctx.M (new::Γ) b↔b∈new.own\/Γ.M b:=by
 constructor
 .rintro ⟨it,hi,hb⟩;rcases List.mem_cons.1 hi with rfl|hi
  .exact .inl hb
  .exact .inr ⟨it,hi,hb⟩
 .rintro (hb|⟨it,hi,hb⟩)
  .exact ⟨new,ct .., hb⟩
  .exact ⟨it,cb _ hi,hb⟩
theorem Sat.ext(h:Sat Γ w)(x:Ext w w'):Sat Γ w':=
 ⟨λit hi=>it.cE (h.all it hi) (x.mv _) (λb hb=>x.block b (h.lt ⟨it,hi,hb⟩)) ⟨x.os,x.tape,x.output⟩,h.sep⟩
theorem Sat.iP(h:Sat Γ w)(hi:Γ[i]? =some it)(p:kP it.own w w')(u:∀b∈new.own,b<w'.heap.size/\(b∈it.own\/w.heap.size<=b))
  (x:∀M',Mv Γ.M w M' w'->(∀b∈it.own,b∉new.own-> ¬M' b)->new.P M' w'):Sat (Γ.set i new) w':=by
 have v:i<Γ.length:=(List.getElem?_eq_some_iff.1 hi).1;have l:∀{j jt},Γ[j]? =some jt->j≠i->∀b∈new.own,b∉jt.own:=λ{j jt} a d b hb c=>by
  rcases (u b hb).2 with o|o
  .exact h.sep j i jt it a hi d b c o
  .have:=h.lt (Ctx.j7 a c);omega
 have f:∀{jt},jt∈Γ.set i new->jt=new\/∃j,j≠i/\Γ[j]? =some jt:=λ{jt} a=>by
  obtain ⟨j,a⟩:=List.mem_iff_getElem?.1 a;rw [qK] at a;split at a
  next e=>subst e;simp only [cH] at a;exact .inl a.symm
  next e=>exact .inr ⟨j,λe'=>e e'.symm,a⟩
 have mv:Mv Γ.M w (Ctx.M (Γ.set i new)) w':=by
  refine ⟨p.size,λb hb q=>⟨?_,p.block b hb (λs=>q (Ctx.j7 hi s))⟩⟩;rintro ⟨jt,a,n⟩;rcases f a with rfl|⟨j,_,a⟩
  .rcases (u b n).2 with o|o
   .exact q (Ctx.j7 hi o)
   .omega
  .exact q (Ctx.j7 a n)
 refine ⟨λjt a=>?_,λj k jt kt a g r b hb c=>?_⟩
 .rcases f a with rfl|⟨j,d,a⟩
  .refine x _ mv (λb hb t=>?_);rintro ⟨kt,g,m⟩;rcases f g with rfl|⟨k,d,g⟩
   .exact t m
   .exact h.sep k i kt it g hi d b m hb
  .exact jt.cE (h.at_ a) mv (λb hb=>p.block b (h.lt (Ctx.j7 a hb)) (λs=>h.sep j i jt it a hi d b hb s)) p.env
 .rw [qK] at a g;split at a <;> split at g
  .omega
  next e1 e2=>subst e1;simp only [cH] at a;subst a;exact l g (λe=>e2 e.symm) b hb c
  next e1 e2=>subst e2;simp only [cH] at g;subst g;exact l a (λe=>e1 e.symm) b c hb
  .exact h.sep j k jt kt a g r b hb c
theorem Sat.push(h:Sat Γ w)(x:Ext w w')(f:∀b∈new.own,b<w'.heap.size/\w.heap.size<=b)(l:∀M',Mv Γ.M w M' w'->new.P M' w'):Sat (new::Γ) w':=by
 have mv:Mv Γ.M w (Ctx.M (new::Γ)) w':=by
  refine ⟨x.size,λb hb i=>⟨?_,x.block b hb⟩⟩;rw [Ctx.EY];rintro (g|g)
  .have:=(f b g).2;omega
  .exact i g
 refine ⟨λjt a=>?_,λj k jt kt a d e b hb c=>?_⟩
 .rcases List.mem_cons.1 a with rfl|a
  .exact l _ mv
  .exact jt.cE (h.all jt a) mv (λb hb=>x.block b (h.lt ⟨jt,a,hb⟩)) ⟨x.os,x.tape,x.output⟩
 .cases j with
  |zero=>
   simp only [gy,cH] at a;subst a;cases k with
   |zero=>exact e rfl
   |succ k=>
    simp only [c8] at d;have:=(f b hb).2;have:=h.lt (Ctx.j7 d c);omega
  |succ j=>
   simp only [c8] at a;cases k with
   |zero=>
    simp only [gy,cH] at d;subst d;have:=(f b c).2;have:=h.lt (Ctx.j7 a hb);omega
   |succ k=>
    simp only [c8] at d;exact h.sep j k jt kt a d (by omega) b hb c
theorem Sat.add(h:Sat Γ w)(hp:new.own=[])(a:new.P Γ.M w):Sat (new::Γ) w:=by refine h.push (Ext.refl w) (λb hb=>absurd (hp▸hb:b∈([]:zC)) xc) (λM' m=>new.cE a m (λb _=>rfl) (hU.refl w))
theorem Sat.map{Γ':Ctx}(h:Sat Γ w)(f:Nat->Nat)(d:∀(j:Nat) (jt:Item),Γ'[j]? =some jt->Γ[f j]? =some jt)(l:∀(j k:Nat) (jt:Item),j≠k->f j=f k->Γ'[j]? =some jt->(Γ'[k]?).isSome=true->jt.cV=true):Sat Γ' w:=by
 have mv:Mv Γ.M w (Ctx.M Γ') w:=Mv.weaken w λb hb=>by obtain ⟨it,hi,hb⟩:=hb;obtain ⟨k,a⟩:=List.mem_iff_getElem?.1 hi;exact Ctx.j7 (d k it a) hb
 refine ⟨λjt c=>?_,λj k jt kt c a g b hb i=>?_⟩
 .obtain ⟨k,a⟩:=List.mem_iff_getElem?.1 c;exact jt.cE (h.at_ (d k jt a)) mv (λ_ _=>rfl) (hU.refl w)
 .by_cases e:f j=f k
  .have hp:=l j k jt g e c (by rw [a];rfl);rw [jt.hp hp] at hb;cases hb
  .exact h.sep (f j) (f k) jt kt (d j jt c) (d k kt a) e b hb i
def reB(Γ:Ctx)(k:Nat):zC->Bool
 |[]=>true
 |i::is=>Nat.blt i k&&(match Γ[i]? with
   |none=>false
   |some it=> !(is.contains i)||it.cV)&&reB Γ k is
def Ctx.re(Γ:Ctx)(k:Nat):zC->Ctx
 |[]=>Γ.drop k
 |i::is=>match Γ[i]? with
   |none=>[]
   |some it=>it::Γ.re k is
def wk(k:Nat):zC->Nat->Nat
 |[],j=>k+j
 |i::_,0=>i
 |_::is,j+1=>wk k is j
theorem Jc{k:Nat}:∀(a:zC),reB Γ k a=true->∀(j:Nat) (jt:Item),(Γ.re k a)[j]? =some jt->Γ[wk k a j]? =some jt
 |[],_,j,jt,h=>by simpa [Ctx.re,wk] using h
 |i::a,hB,j,jt,h=>by
  simp only [reB,ah] at hB;simp only [Ctx.re] at h;cases hi:Γ[i]? with
  |none=>simp [hi] at hB
  |some it=>
   simp only [hi] at h;cases j with
   |zero=>simp only [gy,cH] at h;subst h;exact hi
   |succ j=>simp only [c8] at h;exact Jc a hB.2 j jt h
theorem aiN(k:Nat):∀(a:zC) (j:Nat),(wk k a j∈a/\j<a.length)\/(k<=wk k a j/\wk k a j=k+(j-a.length)/\a.length<=j)
 |[],j=> .inr ⟨by simp [wk],by simp [wk],by simp⟩
 |i::a,0=> .inl ⟨by simp [wk],by simp⟩
 |i::a,j+1=>by
  rcases aiN k a j with ⟨h,d⟩|⟨c,e,b⟩
  .exact .inl ⟨by simp [wk,h],by simpa using d⟩
  .exact .inr ⟨by simpa [wk] using c,by simp only [wk,p0];omega,by simpa using b⟩
theorem Zx{k:Nat}:∀(b:zC),reB Γ k b=true->∀(j a:Nat) (it:Item),j<a->wk k b j=wk k b a->Γ[wk k b j]? =some it->it.cV=true
 |[],_,j,a,it,hlt,e,_=>by simp [wk] at e;omega
 |i::b,hB,j,a,it,hlt,e,hi=>by
  have f:=hB;simp only [reB,ah] at hB;cases a with
  |zero=>omega
  |succ a=>
   cases j with
   |zero=>
    simp only [wk] at e hi;simp only [hi,eF] at hB;rcases hB.1.2 with h|h
    .have d:i<k:=by simpa using hB.1.1
     rcases aiN k b a with ⟨c,_⟩|⟨c,_⟩
     .rw [<-e] at c;have:b.contains i=true:=by simpa using c
      rw [this] at h;cases h
     .omega
    .exact h
   |succ j=>exact Zx b hB.2 j a it (by omega) (by simpa [wk] using e) (by simpa [wk] using hi)
theorem Sat.re(h:Sat Γ w)(k:Nat)(a:zC)(c:reB Γ k a=true):Sat (Γ.re k a) w:=
 h.map (wk k a) (Jc a c) λj d jt f e i g=>by
  rcases Nat.lt_or_gt_of_ne f with b|b
  .exact Zx a c j d jt b e (Jc a c j jt i)
  .obtain ⟨kt,n⟩:=Option.isSome_iff_exists.1 g;have m:=Jc a c j jt i;have l:=Jc a c d kt n;rw [e,l] at m;cases m;exact Zx a c d j jt b e.symm l
end
def Mi{α:Type}(A:eB α)(vs:zq)(x:α):Item where
 own:=[]
 P M w:=A.rd M w vs x
 lt _ b hb:=by cases hb
 cE h m _ _:=A.mv h m
 cV:=true
 hp _:=rfl
def box(b:Nat)(e:TypeId)(vs:zq):Item where
 own:=[b]
 P _ w:=fL w b e vs
 lt h c hc:=by
  have:c=b:=by simpa using hc
  subst this;exact h.lt
 cE h _ k _:=fL.cE h (k b (by simp))
 cV:=false
 hp h:=by cases h
def iB{α:Type}(A:eB α)(e:TypeId)(v:Value)(xs:List α)(R:zC):Item where
 own:=R
 P M w:=bR A e M w v xs R
 lt h:=h.lt
 cE h m k _:=h.cE k m
 cV:=false
 hp h:=by cases h
def Xg(w:World)(b:Nat)(l:aS)(pos:Nat):Prop:=w.heap[b]? =some (.stringIter ⟨l.toArray⟩ pos)
def iter(b:Nat)(l:aS)(pos:Nat):Item where
 own:=[b]
 P _ w:=Xg w b l pos
 lt h c hc:=by
  have:c=b:=by simpa using hc
  subst this;exact (Array.getElem?_eq_some_iff.1 h).1
 cE h _ k _:=(k b (by simp)).trans h
 cV:=false
 hp h:=by cases h
def elem(g:Bool)(p:Addr)(vs:zq):Item where
 own:=[]
 P M w:=g=true-> ¬M p.block/\bT w p vs
 lt _ b hb:=by cases hb
 cE {M M' w w'} h m _ _:=λhg=>by obtain ⟨h1,hs,cs,t,fr,hb,hc⟩:=h hg;obtain ⟨h2,h3⟩:=m.2 _ (Array.getElem?_eq_some_iff.1 hb).1 h1;exact ⟨h2,hs,cs,t,fr,h3.trans hb,hc⟩
 cV:=true
 hp _:=rfl
def kept(w0:World)(M0:Nat->Prop):Item where
 own:=[]
 P M w:=hU w0 w/\w0.heap.size<=w.heap.size/\∀b,b<w0.heap.size-> ¬M0 b-> ¬M b/\w.heap[b]? =w0.heap[b]?
 lt _ b hb:=by cases hb
 cE h m _ e:=⟨h.1.trans e,c9 h.2.1 m.1,λb hb hn=>by obtain ⟨h1,h2⟩:=h.2.2 b hb hn;obtain ⟨h3,h4⟩:=m.2 b (gr hb h.2.1) h1;exact ⟨h3,h4.trans h2⟩⟩
 cV:=true
 hp _:=rfl
section
variable {Γ : Ctx} {w w' : World} {α : Type} {A : eB α} {i : Nat}
theorem Sat.Mi(h:Sat Γ w){vs:zq}{x:α}(hi:Γ[i]? =some (Mi A vs x)):A.rd Γ.M w vs x:=h.at_ hi
theorem auA{M:Nat->Prop}{xs:List α}(h:(Mw A).rd M w [v] xs):bW A M w v xs:=by
 obtain ⟨u,a,h⟩:=h;have:v=sl u:=by simpa using a
 rw [this];exact h
theorem Sat.sl(h:Sat Γ w){v:Value}{xs:List α}(hi:Γ[i]? =some (Go.Proofs.YtdolcddlmodkkaaGreatDoor.Mi (Mw A) [v] xs)):bW A Γ.M w v xs:=auA (h.Mi hi)
theorem Sat.box(h:Sat Γ w){b:Nat}{e:TypeId}{vs:zq}(hi:Γ[i]? =some (box b e vs)):fL w b e vs:=h.at_ hi
theorem Sat.own(h:Sat Γ w){e:TypeId}{v:Value}{xs:List α}{R:zC}(hi:Γ[i]? =some (iB A e v xs R)):bR A e Γ.M w v xs R:=h.at_ hi
theorem Sat.iter(h:Sat Γ w){b:Nat}{l:aS}{pos:Nat}(hi:Γ[i]? =some (iter b l pos)):Xg w b l pos:=h.at_ hi
theorem Sat.kept(h:Sat Γ w){a:World}{c:Nat->Prop}(hi:Γ[i]? =some (kept a c)):hU a w/\a.heap.size<=w.heap.size/\∀b,b<a.heap.size-> ¬c b-> ¬ Γ.M b/\w.heap[b]? =a.heap[b]? :=h.at_ hi
theorem Sat.freeze(h:Sat Γ w){e:TypeId}{v:Value}{xs:List α}{R:zC}(hi:Γ[i]? =some (iB A e v xs R)):Sat (Γ.set i (Go.Proofs.YtdolcddlmodkkaaGreatDoor.Mi (Mw A) [v] xs)) w:=
 h.iP hi ((Ext.refl w).uP _) (λb hb=>by cases hb) (λM' m a=>((h.own hi).freeze (λb hb=>a b hb (λhb=>by cases hb)) m).rsl)
end
def ajY(M:Nat->Prop)(w:World):List Item->Prop
 |[]=>True
 |it::l=>it.P M w/\ajY M w l
theorem aom{Γ:Ctx}{b:Nat}:∀(new:List Item),new.all (·.cV)=true->Ctx.M (new++Γ) b->Γ.M b
 |[],_,h=>h
 |it::l,hp,h=>by
  simp only [qX,ah] at hp;rcases Ctx.EY.1 h with h|h
  .rw [it.hp hp.1] at h;cases h
  .exact aom l hp.2 h
theorem Sat.aqH{Γ:Ctx}{w:World}(h:Sat Γ w):∀(new:List Item),new.all (·.cV)=true->ajY Γ.M w new->Sat (new++Γ) w
 |[],_,_=>h
 |it::l,hp,hP=>by have a:=hp;simp only [qX,ah] at hp;have c:=h.aqH l hp.2 hP.2;exact c.add (it.hp hp.1) (it.cE hP.1 (Mv.weaken w λb hb=>aom l hp.2 hb) (λ_ _=>rfl) (hU.refl w))
theorem dP{x:Int}(h: -9223372036854775808<=x/\x<=9223372036854775807):i64.wrap x=x:=by rw [IntKind.wrap_i64];omega
theorem ajU{x:Int}(h:0<=x/\x<=4294967295):u32.wrap x=x:=by rw [IntKind.wrap_u32];omega
theorem agu{x:Int}(h:0<=x/\x<=18446744073709551615):u64.wrap x=x:=by rw [IntKind.wrap_u64];omega
def strOf(xs:zB):aS:=xs.map λn=>UInt8.ofNat n.toNat
section
variable {P : Program} {E : Env} {g : Bool} {w : World}
theorem db.ints{M:Nat->Prop}{cs:zq}{xs:zB}(h:db (RI k) M w cs xs):cs=xs.map (Value.int k):=by
 have b:=h.1;simp only [RI,xa] at b;apply si (by simpa using b);intro i d c;have hi:i<xs.length:=by omega
 have a:=h.2 i hi;simp only [RI,xa] at a;have:cs[i]=((cs.drop i).take 1)[0]'(by simp;omega):=by simp
 rw [this];simp only [a,List.getElem_cons_zero,List.getElem_map]
theorem as7{M:Nat->Prop}{xs:zB}{c d:TypeId}(j:P.underlying c=some (.slice e))(k:P.underlying e=some (.int .u8))(l:P.underlying d=some .string)
  (h:bW (RI .u8) M w v xs):(convert c d v).run P w= .ok (S (strOf xs)) w:=by
 rcases h with ⟨⟨a,rfl⟩,rfl⟩|⟨b,off,cap,cs,e',fr,rfl,r,hb,q,p,m⟩
 .cases a with
  |none=>exact run_convert_bytes_nil w c e j k 0 0 d l
  |some a=>
   rw [run_convert_bytes_string w c d e _ 0 0 j k l];simp [Conv.bytesToString,loadCells,loadCellsFrom,strOf,S]
   try rfl
 .have hi:=m.ints;have o:=m.1;refine run_convert_bytes_arg w c e j k b off xs.length cap xs rfl (λi f=>?_) d l;have g:(List.take (xs.length*(RI u8).n) (List.drop off cs.toList))[i]? =some (.int .u8 xs[i]):=by rw [hi];simp [f]
  rw [mo] at g;split at g
  .rw [lk] at g;simp only [World.cell?,hb];simpa [List.getD,f] using g
  .cases g
theorem as9{M:Nat->Prop}{dst:zu}{ty:TypeId}{pos:String}{af:zw}{gd:Option (Nat×Bool)}{xs:zB}{b d:TypeId}(f:P.underlying b=some (.slice e))(j:P.underlying e=some (.int .u8))(k:P.underlying d=some .string)
  (hx:aw E g x v) (h:g=true->bW (RI .u8) M w v xs):bk P E g ⟨dst,.convert b d x,ty,pos,af,gd⟩ w (S (strOf xs)):=
 λn a i c=>by simp [execOp,hx n a i c,as7 f j k (h c)]
end
section
variable {P : Program} {E : Env} {w : World} {g : Bool}
variable {dst : zu} {ty : TypeId} {pos : String} {af : zw} {gd : zg}
def gT(k:IntKind)(x y:Int):Int:=x/2^min y.toNat k.bits
def bZ(k:IntKind)(x y:Int):Int:=k.wrap (x*2^min y.toNat k.bits)
theorem asz{b:IntKind}{l:Int}{t:TypeId}(hx:aw E g x (.int k m))(d:aw E g y (.int b l))(f:g=true->decide (0<=l)=true):
  bk P E g ⟨dst,.binOp .shr t x y t',ty,pos,af,gd⟩ w (.int k (gT k m l)):=λn a e c=>
 cQ (P:=P) hx d (by rw [Sem.run_bind,eo rfl,Result.andThen_ok];show (Op.shift .shr k m b l).run P w=_;rw [shift_shr_any k b m l (qp (f c))];rfl) n a e c
theorem asg{b:IntKind}{l:Int}{t:TypeId}(hx:aw E g x (.int k m))(d:aw E g y (.int b l))(f:g=true->decide (0<=l)=true):
  bk P E g ⟨dst,.binOp .shl t x y t',ty,pos,af,gd⟩ w (.int k (bZ k m l)):=λn a e c=>
 cQ (P:=P) hx d (by rw [Sem.run_bind,eo rfl,Result.andThen_ok];show (Op.shift .shl k m b l).run P w=_;rw [shift_shl_any k b m l (qp (f c))];rfl) n a e c
def kb(k:IntKind)(x y:Int):Int:=k.wrap ((BitVec.ofInt k.bits x &&& BitVec.ofInt k.bits y).toNat:Nat)
def ed(k:IntKind)(x y:Int):Int:=k.wrap ((BitVec.ofInt k.bits x ||| BitVec.ofInt k.bits y).toNat:Nat)
def Fb(k:IntKind)(x y:Int):Int:=k.wrap ((BitVec.ofInt k.bits x ^^^ BitVec.ofInt k.bits y).toNat:Nat)
def bP(k:IntKind)(x y:Int):Int:=k.wrap ((BitVec.ofInt k.bits x &&& ~~~ BitVec.ofInt k.bits y).toNat:Nat)
theorem apK{l:Int}{t:TypeId}(hx:aw E g x (.int k m))(a:aw E g y (.int k l)):
  bk P E g ⟨dst,.binOp .and t x y t',ty,pos,af,gd⟩ w (.int k (kb k m l)):=GN (.inl rfl) hx a (λ_=>rfl)
theorem atl{l:Int}{t:TypeId}(hx:aw E g x (.int k m))(a:aw E g y (.int k l)):
  bk P E g ⟨dst,.binOp .or t x y t',ty,pos,af,gd⟩ w (.int k (ed k m l)):=GN (.inr (.inl rfl)) hx a (λ_=>rfl)
theorem aov{l:Int}{t:TypeId}(hx:aw E g x (.int k m))(a:aw E g y (.int k l)):
  bk P E g ⟨dst,.binOp .xor t x y t',ty,pos,af,gd⟩ w (.int k (Fb k m l)):=GN (.inr (.inr (.inl rfl))) hx a (λ_=>rfl)
theorem ahR{l:Int}{t:TypeId}(hx:aw E g x (.int k m))(a:aw E g y (.int k l)):
  bk P E g ⟨dst,.binOp .andNot t x y t',ty,pos,af,gd⟩ w (.int k (bP k m l)):=GN (.inr (.inr (.inr rfl))) hx a (λ_=>rfl)
def Mt(x y:aS):Bool:=Op.bytesLess x y
theorem ass{m l:aS}{t:TypeId}(hx:aw E g x (S m))(a:aw E g y (S l)):
  bk P E g ⟨dst,.binOp .lss t x y t',ty,pos,af,gd⟩ w (.bool (Mt m l)):=cQ hx a (by simp [eqGuard,S,binOp,Op.stringOp,Mt])
theorem atf{m l:aS}{t:TypeId}(hx:aw E g x (S m))(a:aw E g y (S l)):
  bk P E g ⟨dst,.binOp .leq t x y t',ty,pos,af,gd⟩ w (.bool (Mt m l||m==l)):=cQ hx a (by simp [eqGuard,S,binOp,Op.stringOp,Mt])
theorem asM{m l:aS}{t:TypeId}(hx:aw E g x (S m))(a:aw E g y (S l)):
  bk P E g ⟨dst,.binOp .gtr t x y t',ty,pos,af,gd⟩ w (.bool (!(Mt m l||m==l))):=cQ hx a (by simp [eqGuard,S,binOp,Op.stringOp,Mt])
theorem asK{m l:aS}{t:TypeId}(hx:aw E g x (S m))(a:aw E g y (S l)):
  bk P E g ⟨dst,.binOp .geq t x y t',ty,pos,af,gd⟩ w (.bool (!(Mt m l))):=cQ hx a (by simp [eqGuard,S,binOp,Op.stringOp,Mt])
def AR:Value->Bool
 | .slice none _ _=>true
 |_=>false
theorem ahP{t:TypeId}{len:Nat}(c:P.underlying t=some (.slice e))(hx:aw E g x v)(d:SE v len)(b:aw E g y (.slice none 0 0)):
  bk P E g ⟨dst,.binOp .eql t x y t',ty,pos,af,gd⟩ w (.bool (AR v)):=by
 obtain ⟨a,cap,rfl⟩:=d;exact cQ hx b (by cases a <;> simp [eqGuard,binOp,run_equal_slice_nil w t e _ _ _ c,AR])
theorem air{t:TypeId}{len:Nat}(c:P.underlying t=some (.slice e))(hx:aw E g x v)(d:SE v len)(b:aw E g y (.slice none 0 0)):
  bk P E g ⟨dst,.binOp .neq t x y t',ty,pos,af,gd⟩ w (.bool (!AR v)):=by
 obtain ⟨a,cap,rfl⟩:=d;exact cQ hx b (by cases a <;> simp [eqGuard,binOp,run_equal_slice_nil w t e _ _ _ c,AR])
end
def bS(l:aS):zB:=l.map λb=>(b.toNat:Int)
theorem Ps{w:World}{M:Nat->Prop}:∀l:aS,db (RI .u8) M w (l.map λb=>Value.int .u8 (b.toNat:Int)) (bS l)
 |[]=>db.nil
 |b::l=>db.cons (A:=RI .u8) (c:=[Value.int .u8 (b.toNat:Int)]) rfl (Ps l)
section
variable {P : Program} {E : Env} {w : World} {dst : zu} {ty : TypeId} {pos : String} {af : zw}
theorem apz{l:aS}{g k:TypeId}(m:P.underlying g=some .string)(q:P.underlying k=some (.slice e))(p:P.underlying e=some (.int .u8))(hx:aw E true x (S l)):
  ∃v' w',ny P E ⟨dst,.convert g k x,ty,pos,af,none⟩ w v' w'/\Ext w w'/\w.heap.size<w'.heap.size/\(∀M:Nat->Prop,¬M w.heap.size->bW (RI .u8) M w' v' (bS l)):=by
 have d:=run_bytes_of_string (P:=P) w g k e ⟨l.toArray⟩ m q p;have c:(w.drew.alloc (.cells (bytesRow ⟨l.toArray⟩ (grownCap w l.length 0 e)) e ((bytesRow ⟨l.toArray⟩ (grownCap w l.length 0 e)).size,(bytesRow ⟨l.toArray⟩ (grownCap w l.length 0 e)).size+1))).heap[w.heap.size]? =some (.cells (bytesRow ⟨l.toArray⟩ (grownCap w l.length 0 e)) e ((bytesRow ⟨l.toArray⟩ (grownCap w l.length 0 e)).size,(bytesRow ⟨l.toArray⟩ (grownCap w l.length 0 e)).size+1)):=by show (w.heap.push _)[w.heap.size]? =_;simp
 have i:=fi w.drew (.cells (bytesRow ⟨l.toArray⟩ (grownCap w l.length 0 e)) e ((bytesRow ⟨l.toArray⟩ (grownCap w l.length 0 e)).size,(bytesRow ⟨l.toArray⟩ (grownCap w l.length 0 e)).size+1));have j:=(Array.getElem?_eq_some_iff.1 c).1;refine ⟨.slice (some ⟨w.heap.size,0,none⟩) l.length (grownCap w l.length 0 e),_,?_,⟨i.os,i.tape,i.output,i.size,i.block⟩,j,λM r=>?_⟩
 .intro n a o;rw [mz] at d;simp only [execOp,hx n a o rfl];simp [S,d]
 .have h:l.length<=grownCap w l.length 0 e:=grownCap_ge w l.length 0 e;have f:(bS l).length=l.length:=by simp [bS]
  refine .inr ⟨w.heap.size,0,grownCap w l.length 0 e,bytesRow ⟨l.toArray⟩ (grownCap w l.length 0 e),e,_,by rw [f],r,c,by rw [f];exact h,?_,?_⟩
  .simp [bytesRow,RI,mz];omega
  .have:((bytesRow ⟨l.toArray⟩ (grownCap w l.length 0 e)).toList.drop 0).take ((bS l).length*(RI .u8).n)=l.map λb=>Value.int .u8 (b.toNat:Int):=by simp [bytesRow,bS,RI]
   rw [this];exact Ps l
end
section
variable {P : Program} {ρ : zt} {Q : bD} {n : Nat} {D : zm} {E : Env} {w : World} {ops : zv} {rest : zz} {Γ : Ctx} {i : Nat}
variable {d : Tmp} {ty : TypeId} {pos : String} {af : zw}
theorem apM{t:TypeId}{size bytes:Nat}{z:Value}{zs:zq}(e:Sat Γ w)(a:TI P t size bytes z)(c:z.cells=zs.toArray)(f:Nat.blt d n=true)
  (h:∀b w',Sat (box b t zs::Γ) w'->WL P ρ ops Q n D rest ((d,true,.pointer (some ⟨b,0,none⟩))::E) w'):
  WL P ρ ops Q n D (⟨some d,.alloc t,ty,pos,af,none⟩::rest) E w:=
 xP (Lb a c) rfl rfl rfl f (h _ _ (e.push (fi _ _) (λb hb=>by
  have:b=w.heap.size:=by simpa [box] using hb
  subst this;simp) (λ_ _=>heap_alloc_new w _)))
theorem an2{u:Value}{t:TypeId}{bytes:Nat}{R:zC}{xs ys:List α}(r:Sat Γ w)(i:Nat)(hi:Γ[i]? =some (iB A e v xs R))
  (C:P.underlying t=some (.slice e)) (o:TI P e A.n bytes z) (j:z.cells.size=A.n) (f:Nat.blt 0 A.n=true) (hx:aw E true x v) (B:aw E true y u) (k:bW A Γ.M w u ys)
  (c:aH (xs.length+ys.length) bytes=true) (H:Nat.blt d n=true)
  (h:∀(p:gP) g w',Sat (Γ.set i (iB A e (sl p) (xs++ys) g)) w'->WL P ρ ops Q n D rest ((d,true,sl p)::E) w'):
  WL P ρ ops Q n D (⟨some d,.call ⟨.builtin .append,#[x,y],#[t,t]⟩,ty,pos,af,none⟩::rest) E w:=by
 obtain ⟨v',g,w',F,K,I,J⟩:=Ip (P:=P) (E:=E) (w:=w) (dst:=some d) (ty:=ty) (pos:=pos) (af:=af) C o j (by simpa using f) hx B (r.own hi) k (λb hb=>Ctx.j7 hi hb) c;have s:=r.iP hi (new:=iB A e v' (xs++ys) g) K I (λM' m _=>J M' m);have l:∃p,v'=sl p:=by have q:i<Γ.length:=(List.getElem?_eq_some_iff.1 hi).1;have G:=s.own (i:=i) (A:=A) (e:=e) (v:=v') (xs:=xs++ys) (R:=g) (by rw [qP q]);obtain ⟨a,cap,l⟩:=G.len;exact ⟨(a,_,cap),l⟩
 obtain ⟨p,rfl⟩:=l;exact xP F rfl rfl rfl H (h _ _ _ s)
def DQ(l:aS)(pos:Nat):Int:=((Utf8.decode ⟨l.toArray⟩ pos).1:Nat)
def pV(l:aS)(pos:Nat):Nat:=pos+(Utf8.decode ⟨l.toArray⟩ pos).2
end
variable {J : World -> Prop} {i j : Nat} {oj : Oper}
def Fc(Q:bD)(c:zj)(D:zm)(w:World):Prop:= ∀a,a.defers=D->Q (.panic c) a w
def QN(Q:bD):bD:=λe a w=>match e with|.panic c=>Fc Q c a.defers w|e=>Q e a w
theorem ase{Q:bD}{c:zj}{D:zm}{w:World}(h:Fc Q c D w):Fc (Exit.inBlock i Q) c D w:=h
theorem Fc.at{Q:bD}{c:zj}{D:zm}{w:World}{n:Nat}{E:Env}(h:Fc Q c D w):At Q (.panic c) n D E w:=λa _ b=>h a b
theorem jx(a:Act)(d:zu)(v:Value):(a.put d v).defers=a.defers:=by cases d <;> rfl
section
variable {P : Program} {ρ : zt} {ops : zv} {md : Region.Mode}
def YJ(P:Program)(ops:zv)(J:World->Prop)(o:Oper)(v:Value)(a:Act):Prop:=
 (Region.wanted o (yielded ops a.tmps)=true/\∀w,J w->(execOp a.eval o).run P w= .ok (.value v) w)\/
 (Region.wanted o (yielded ops a.tmps)=false/\v=undef)
theorem YJ.wpOp{a:Act}{Q:bD}(hi:ops[i]? =some o)(hp:jc o=true)(c:YJ P ops J o v a)
  {K:Act->World->Prop} {w:World} (e:J w) (h:K (a.put o.dst v) w):wpOpIn (FW ρ) 0 P ops Q i K a w:=by
 unfold Go.wpOpIn;simp only [hi];rcases c with ⟨b,d⟩|⟨b,rfl⟩
 .simp only [b,qQ];exact lY hp (by rw [d w e];exact h)
 .simp only [b,pA,qT];exact ⟨λ_ _=>trivial,h⟩
theorem YJ.of_same{a b:Act}(c:YJ P ops J o v a)(e:execOp b.eval o=execOp a.eval o)
  (d:Region.wanted o (yielded ops b.tmps)=Region.wanted o (yielded ops a.tmps)):YJ P ops J o v b:=by
 unfold YJ at*;rw [e,d];exact c
theorem anh{g:Oper}{Q:bD}(E:ops[j]? =some oj)(q:jc oj=true)(z:g.apart ops oj=true)
  (y:∀cs b,g.op≠ .select cs b) (t:∀cs b,oj.op≠ .select cs b) (A:∀c a w,Q (.panic c) (a.put g.dst v) w->Q (.panic c) a w) {K:Act->World->Prop} {a:Act} {w:World}
  (i:YJ P ops J g v a) (h:wpOpIn (FW ρ) 0 P ops Q j K (a.put g.dst v) w):
  wpOpIn (FW ρ) 0 P ops Q j (λD w'=>YJ P ops J g v D/\K (D.put g.dst v) w') a w:=by
 obtain ⟨C,o,B⟩:=Oper.apart_spec z;have cE:∀(a:Act),YJ P ops J g v a->∀u,YJ P ops J g v (a.put oj.dst u):=λa i u=>
  i.of_same (execOp_put g y a oj.dst u B) (wanted_put g a oj.dst u B)
 have m:∀d,YJ P ops J g v { a with defers:=d::a.defers }:=λd=>i.of_same rfl rfl;unfold wpOpIn at*;simp only [E] at*;rw [wanted_put oj a g.dst v C] at h;split
 .rename_i s;simp only [s,qQ] at h;refine lY q ?_;have h:=h.2;rw [show (FW ρ).round=ρ from rfl,Lp q,execOp_put oj t a g.dst v C] at h;generalize (execOp a.eval oj).run P w=r at*;cases r with
  |ok n w'=>
   cases n <;> simp only [Oper.uponIn] at h ⊢
   case value u=>exact ⟨cE a i u,by rw [<-Act.put_comm a v u o];exact h⟩
   case skip=>exact ⟨cE a i _,by rw [<-Act.put_comm a v undef o];exact h⟩
   case defer d=>
    refine ⟨cE _ (m d) _,?_⟩;rw [<-Act.put_comm _ v undef o,<-Act.put_defers];exact h
   case enter f args=>
    refine ⟨h.1,CallsIn.mono h.2 λe p k=>?_⟩;cases e with
    |returned u=>exact ⟨cE a i u,by rw [<-Act.put_comm a v u o];exact k⟩
    |panicked c=>exact A _ _ _ k
    |outgrown=>exact k
   case row row args=>exact ⟨h.1,RowsIn.mono h.2 λu p k=>⟨cE a i u,by rw [<-Act.put_comm a v u o];exact k⟩⟩
   case round l f tmps assign body=>
    refine ⟨h.1,RoundIn.mono h.2 λe p k=>?_⟩;cases e with
    |returned u=>exact ⟨cE a i u,by rw [<-Act.put_comm a v u o];exact k⟩
    |panicked c=>exact A _ _ _ k
    |outgrown=>exact k
  |halt x w'=>
   cases x <;> simp only [Oper.uponIn] at h ⊢
   case panic u=>exact A _ _ _ h
 next s=>simp only [s] at h;exact ⟨λ_ _=>trivial,cE a i _,by rw [<-Act.put_comm a v undef o];exact h.2⟩
def gN:List Edge->Nat
 |[]=>0
 |e::l=>bif Region.binds .any e then Nat.lor (Nat.shiftLeft 1 e.on) (gN l) else gN l
theorem oC:∀(l:List Edge) (i:Nat),(gN l).testBit i=l.any (λe=>Region.binds .any e&&e.on==i)
 |[],i=>by simp [gN]
 |e::l,i=>by
  simp only [gN,List.any_cons];cases h:Region.binds .any e
  .simp [oC l i]
  .have d:(Nat.lor (Nat.shiftLeft 1 e.on) (gN l)).testBit i=((1 <<< e.on) ||| gN l).testBit i:=rfl;rw [cr,d,Nat.testBit_or,oC l i,Nat.testBit_shiftLeft];simp only [qm];congr 1;by_cases hi:e.on=i
   .subst hi;simp
   .have c:(e.on==i)=false:=by simpa using hi
    rw [c];by_cases b:e.on<=i
    .obtain ⟨n,a⟩:∃n,i-e.on=n+1:=⟨i-e.on-1,by omega⟩;rw [a];simp [Nat.testBit_succ]
    .simp [b]
def Hc:zz->Nat->Nat->Nat
 |[],_,m=>m
 |o::os,k,m=>bif (Hc os (k+1) m).testBit k then Nat.lor (gN o.after.toList) (Hc os (k+1) m) else Hc os (k+1) m
def waits(md:Region.Mode)(ops:zv)(k i:Nat):Bool:=match ops[k]? with
 |some o=>(o.after.any λe=>Region.binds md e&&e.on==i)||(match md with
  | .any=>(Hc ops.toList 0 (gN o.after.toList)).testBit i
  |_=>false)
 |none=>false
def xl(ops:zv)(listed:zy):Prop:= ∀(l:Nat) (ol:Oper),ops[l]? =some ol->listed[l]? =some true->∀e∈ol.after.toList,Region.binds .any e=true->listed[e.on]? =some true
theorem YI{a:zy}(f:xl ops a){m:Nat}(d:∀i,m.testBit i=true->a[i]? =some true):∀(os:zz) (k:Nat),(∀j,os[j]? =ops[k+j]?)->∀i,(Hc os k m).testBit i=true->a[i]? =some true
 |[],k,_,i,h=>d i h
 |o::os,k,ho,i,h=>by
  have ih:=YI f d os (k+1) (λj=>by have:=ho (j+1);rw [c8] at this;rw [this];congr 1;omega);unfold Hc at h;cases c:(Hc os (k+1) m).testBit k with
  |false=>rw [c] at h;exact ih i h
  |true=>
   rw [c] at h;have b:(Nat.lor (gN o.after.toList) (Hc os (k+1) m)).testBit i=true:=h;have e:(Nat.lor (gN o.after.toList) (Hc os (k+1) m)).testBit i=((gN o.after.toList).testBit i||(Hc os (k+1) m).testBit i):=Nat.testBit_or ..;rw [e,eF] at b;rcases b with b|b
   .rw [oC] at b;obtain ⟨e,g,hb⟩:=List.any_eq_true.1 b;simp only [ah,kR] at hb;have:=f k o (by have:=ho 0;simpa using this.symm) (ih k c) e g hb.1;rwa [hb.2] at this
   .exact ih i b
abbrev fq:=List (Nat×(World->Prop))
def iq:fq->World->Prop
 |[],_=>True
 |p::l,w=>p.2 w/\iq l w
def still(md:Region.Mode)(ops:zv)(k:Nat)(l:fq):fq:=l.filter λp=> !waits md ops k p.1
theorem aga{w:World}:iq [] w:=trivial
theorem nu{f:Nat×(World->Prop)->Bool}{w:World}:∀{l:fq},iq l w->iq (l.filter f) w
 |[],_=>trivial
 |p::l,h=>by
  rw [qv];split
  .exact ⟨h.1,nu h.2⟩
  .exact nu h.2
def GY(P:Program)(ρ:zt)(md:Region.Mode)(ops:zv)(Q:bD):Nat->fq->zy->Act->World->Prop
 |0,pend,listed,a,w=>iq pend w/\Region.ready md ops listed=[]/\Q .normal a w
 |fuel+1,pend,listed,a,w=>iq pend w/\(Region.ready md ops listed=[]->Q .normal a w)/\
  ∀i∈Region.ready md ops listed,wpOpIn (FW ρ) 0 P ops Q i (GY P ρ md ops Q fuel (still md ops i pend) (listed.setIfInBounds i true)) a w
theorem agr{Q:bD}(p:Nat×(World->Prop)):∀(c:Nat) (pend:fq) (b:zy) (a:Act) (w:World),GY P ρ md ops Q c (p::pend) b a w->GY P ρ md ops Q c pend b a w
 |0,_,_,_,_,h=>⟨h.1.2,h.2⟩
 |c+1,pend,b,a,w,h=>⟨h.1.2,h.2.1,λi hi=>wpOpIn_mono (λe w' d=>by
   unfold still at d;rw [qv] at d;split at d
   .exact agr p c _ _ _ _ d
   .exact d) (h.2.2 i hi)⟩
theorem ajB{Q:bD}:∀(c:Nat) (pend:fq) (b:zy) (a:Act) (w:World),GY P ρ md ops Q c pend b a w->wpAnyIn (FW ρ) 0 P md ops Q c b a w
 |0,_,_,_,_,h=>h.2
 |c+1,_,_,_,_,h=>⟨h.2.1,λi hi=>wpOpIn_mono (λf e d=>ajB c _ _ _ _ d) (h.2.2 i hi)⟩
theorem ahn{k:Nat}{a:zy}(g:ops[k]? =some o)(h:xl ops a)(d:∀e∈o.after,Region.binds .any e=true->a[e.on]? =some true)(hi:a[i]? ≠some true):waits .any ops k i=false:=by
 unfold waits;simp only [g];rw [nJ];intro b;rw [eF] at b;rcases b with b|b
 .obtain ⟨e,c,hb⟩:=Array.any_eq_true'.1 b;simp only [ah,kR] at hb;have:=d e c hb.1;rw [hb.2] at this;exact hi this
 .refine hi (YI h (λj f=>?_) ops.toList 0 (λj=>by rw [l7,qE]) i b);rw [oC] at f;obtain ⟨e,c,hb⟩:=List.any_eq_true.1 f;simp only [ah,kR] at hb;have:=d e (by simpa using c) hb.1;rwa [hb.2] at this
theorem Oi{a:zy}(h:j∈Region.ready .any ops a)(i:ops[j]? =some oj):∀e∈oj.after,Region.binds .any e=true->a[e.on]? =some true:=λe k hb=>by
 obtain ⟨_,l,d,f⟩:=mem_ready.1 h;rw [i] at d;cases d;have c:=f e k hb;rw [nA] at c;cases g:a[e.on]? with
 |none=>rw [g] at c;cases c
 |some b=>rw [g] at c;simp only [qD] at c;rw [c]
theorem Zt{a:zy}(h:i∈Region.ready .any ops a):a[i]? ≠some true:=λc=>by have b:=(mem_ready.1 h).1;rw [nA,c] at b;cases b
theorem oJ{a:zy}(m:xl ops a)(h:j∈Region.ready .any ops a):xl ops (a.setIfInBounds j true):=λl k d g e f hb=>by
 have cE:∀i,a[i]? =some true->(a.setIfInBounds j true)[i]? =some true:=λi hi=>by
  by_cases c:j=i
  .subst c;rw [sv (Array.getElem?_eq_some_iff.1 hi).1]
  .rw [qH c];exact hi
 by_cases b:j=l
 .subst b;exact cE _ (Oi h d e (by simpa using f) hb)
 .rw [qH b] at g;exact cE _ (m l k d g e f hb)
theorem aob{Q:bD}{z:Oper}(hi:ops[i]? =some z)(s:∀(j:Nat) (o:Oper) cs b,ops[j]? =some o->o.op≠ .select cs b)
  (V:∀c (a:Act) d v w,Q (.panic c) (a.put d v) w->Q (.panic c) a w) (x:∀(j:Nat) (o:Oper),ops[j]? =some o->jc o=true):
  ∀(l:Nat) (pend:fq) (g:zy) (a:Act) (w:World),
   (∀j oj,ops[j]? =some oj->j≠i->g.getD j true=false->(∀e∈oj.after,Region.binds .any e=true->e.on≠i)->z.apart ops oj=true)->
   xl ops g->i∈Region.ready .any ops g->YJ P ops J z v a->
   GY P ρ .any ops Q l ((i,J)::pend) (g.setIfInBounds i true) (a.put z.dst v) w->GY P ρ .any ops Q (l+1) pend g a w:=by
 intro l
 induction l with
 |zero=>
  intro pend g a w _ _ t I H;refine ⟨H.1.2,λh=>(by rw [h] at t;cases t),λj A=>?_⟩;by_cases m:j=i
  .subst m;exact I.wpOp hi (x _ _ hi) H.1.1 ⟨nu H.1.2,H.2⟩
  .have:=ready_mono A m;rw [H.2.1] at this;cases this
 |succ l ih=>
  intro pend g a w q E t I H;refine ⟨H.1.2,λh=>(by rw [h] at t;cases t),λj A=>?_⟩;by_cases m:j=i
  .subst m;refine I.wpOp hi (x _ _ hi) H.1.1 ?_;have X:=agr _ _ _ _ _ _ H
   -- fewer promises
   have key:∀(l:Nat) (pend:fq) (f:Nat×(World->Prop)->Bool) (g:zy) (a:Act) (w:World),GY P ρ .any ops Q l pend g a w->GY P ρ .any ops Q l (pend.filter f) g a w:=by
    intro l
    induction l with
    |zero=>intro pend f g a w h;exact ⟨nu h.1,h.2⟩
    |succ l K=>
     intro pend f g a w h;refine ⟨nu h.1,h.2.1,λi hi=>wpOpIn_mono (λS w' G=>?_) (h.2.2 i hi)⟩;have:still .any ops i (pend.filter f)=(still .any ops i pend).filter f:=by unfold still;rw [qZ,qZ];congr 1;funext p;exact Bool.and_comm ..
     rw [this];exact K _ f _ _ _ G
   exact key _ _ _ _ _ _ X
  .have y:=H.2.2 j (ready_mono A m);obtain ⟨u,oj,n,F⟩:=mem_ready.1 A;have C:∀e∈oj.after,Region.binds .any e=true->e.on≠i:=λe U hb N=>by
    have y:=F e U hb;have R:=(mem_ready.1 t).1;rw [N] at y;rcases ql i g.size with G|G
    .simp [G] at R y;rw [R] at y;cases y
    .simp [Array.getElem?_eq_none G] at y
   have W:=anh n (x _ _ n) (q j oj n m u C) (λcs b=>s i z cs b hi) (λcs b=>s j oj cs b n) (λc a w=>V c a _ _ w) I y;have r:∀k ok,ops[k]? =some ok->k≠i->(g.setIfInBounds j true).getD k true=false->
     (∀e∈ok.after,Region.binds .any e=true->e.on≠i)->z.apart ops ok=true:=λk ok T M B L=>by
    refine q k ok T M ?_ L;by_cases D:j=k
    .subst D;exact u
    .rw [getD_set_ne true D] at B;exact B
   refine wpOpIn_mono (λS w' O=>ih _ (g.setIfInBounds j true) S w' r (oJ E A) (ready_mono t (Ne.symm m)) O.1 ?_) W;rw [Array.setIfInBounds_comm _ _ m];have e:still .any ops j ((i,J)::pend)=(i,J)::still .any ops j pend:=by unfold still;rw [qv,ahn n E (Oi A n) (Zt t)];rfl
   rw [e] at O;exact O.2
inductive OT where
 |nil
 |q (k m:Nat) (r:OT)
 |l (k m:Nat) (r:OT)
 |l2 (m:Nat) (k₁:Nat) (r₁:OT) (k₂:Nat) (r₂:OT)
 /-- k changes the world and takes the floats fs; the floats fl (new blocks) may run here, ahead of it, in whatever order -/
 |f (k m:Nat) (fl fs:zC) (r:OT)
def LL(a m:Nat):Bool:=Nat.beq (Nat.land a m) a
theorem Af{a m:Nat}:LL a m=true↔ ∀i,a.testBit i=true->m.testBit i=true:=by
 unfold LL;constructor
 .intro h i hi;have c:a &&& m=a:=ai h;have b:(a &&& m).testBit i=true:=by rw [c];exact hi
  rw [Nat.testBit_and] at b;simp only [ah] at b;exact b.2
 .intro h;have c:a &&& m=a:=by
   apply Nat.eq_of_testBit_eq;intro i;rw [Nat.testBit_and];cases hi:a.testBit i
   .rfl
   .rw [h i hi];rfl
  show Nat.beq (a &&& m) a=true;rw [c];simp
def Gm:zC->Nat->Nat->zC->Bool
 |[],_,_,_=>true
 |a::as,j,m,ks=>(Nat.testBit m j|| !(LL a m)||ks.any (Nat.beq j))&&Gm as (j+1) m ks
theorem YO:∀(l:zC) (b m:Nat) (ks:zC),Gm l b m ks=true->∀j a,l[j]? =some a->m.testBit (b+j)=false->LL a m=true->(b+j)∈ks
 |[],_,_,_,_,j,a,h,_,_=>by simp at h
 |a0::as,b,m,ks,hB,j,a,h,h1,h2=>by
  simp only [Gm,ah,eF,gj,List.any_eq_true] at hB;cases j with
  |zero=>
   simp only [gy,cH] at h;subst h;rcases hB.1 with (c|c)|⟨x,hx,c⟩
   .rw [qu] at h1;rw [h1] at c;cases c
   .rw [h2] at c;cases c
   .have:=ai c;rw [qu,this];exact hx
  |succ j=>
   simp only [c8] at h;have:=YO as (b+1) m ks hB.2 j a h (by rw [<-h1];congr 1;omega) h2;have e:b+1+j=b+(j+1):=by omega
   rwa [e] at this
def AI(masks:zC)(k m:Nat):Bool:=match masks[k]? with
 |some a=> !(Nat.testBit m k)&&LL a m
 |none=>false
def bit(m k:Nat):Nat:=Nat.lor m (Nat.shiftLeft 1 k)
theorem Dp(m k i:Nat):(bit m k).testBit i=(m.testBit i||k==i):=by
 have d:(bit m k).testBit i=(m ||| (1 <<< k)).testBit i:=rfl;rw [d,Nat.testBit_or,Nat.testBit_shiftLeft];congr 1;by_cases hi:k=i
 .subst hi;simp
 .have c:(k==i)=false:=by simpa using hi
  rw [c];by_cases b:k<=i
  .obtain ⟨n,a⟩:∃n,i-k=n+1:=⟨i-k-1,by omega⟩;rw [a];simp [Nat.testBit_succ]
  .simp [b]
def dF(f:Nat):zC->Bool
 |[]=>false
 |x::l=>Nat.beq x f||dF f l
theorem dG{f:Nat}:∀{l:zC},dF f l=true↔f∈l
 |[]=>by simp [dF]
 |x::l=>by
  simp only [dF,eF,pa,dG (l:=l)];constructor
  .rintro (h|h)
   .exact .inl (ai h).symm
   .exact .inr h
  .rintro (h|h)
   .exact .inl (by rw [h];simp)
   .exact .inr h
def jA(m:Nat):zC->Nat
 |[]=>m
 |f::l=>bit (jA m l) f
theorem eO{m i:Nat}:∀{l:zC},(jA m l).testBit i=(m.testBit i||dF i l)
 |[]=>by simp [jA,dF]
 |f::l=>by
  have e:(f==i)=Nat.beq f i:=by rw [qh,kR];exact ⟨λh=>by rw [h];simp,ai⟩
  rw [jA,Dp,eO (l:=l),dF,e];cases m.testBit i <;> cases Nat.beq f i <;> cases dF i l <;> rfl
def hasB(masks:zC)(k f:Nat):Bool:=match masks[k]? with
 |some a=>a.testBit f
 |none=>false
def uY(masks:zC):OT->zC->Nat->Bool
 | .nil,pf,m=>pf.isEmpty&&Gm masks 0 m []
 | .q k m' r,pf,m=>Nat.beq m' m&&AI masks k m'&& !(dF k pf)&&uY masks r pf (bit m' k)
 | .l k m' r,pf,m=>pf.isEmpty&&Nat.beq m' m&&AI masks k m'&&Gm masks 0 m' [k]&&uY masks r [] (bit m' k)
 | .l2 m' k₁ r₁ k₂ r₂,pf,m=>pf.isEmpty&&Nat.beq m' m&&AI masks k₁ m'&&AI masks k₂ m'&&Gm masks 0 m' [k₁,k₂]&&uY masks r₁ [] (bit m' k₁)&&uY masks r₂ [] (bit m' k₂)
 | .f k m' fl fs r,pf,m=>Nat.beq m' m&&pf.all (λf=>dF f fl)&&fl.all (λf=>AI masks f m')&&fs.all (λf=>dF f fl&&hasB masks k f)&& !(dF k fl)&&AI masks k (jA m' fs)&&Gm masks 0 (jA m' fl) [k]&&
  uY masks r (fl.filter λf=> !(dF f fs)) (bit (jA m' fs) k)
def LM(n:Nat)(listed:zy)(m:Nat):Prop:=listed.size=n/\∀i,i<n->listed.getD i true=m.testBit i
theorem LM.set{n k m:Nat}{a:zy}(h:LM n a m):LM n (a.setIfInBounds k true) (bit m k):=by
 refine ⟨by simp [h.1],λi hi=>?_⟩;rw [Dp];by_cases e:k=i
 .subst e;simp [nA,h.1,hi]
 .have c:(k==i)=false:=by simpa using e
  have b:=h.2 i hi;rw [c,Bool.or_false,<-b];simp [nA,e]
theorem LM.getD{n m i:Nat}{a:zy}(h:LM n a m)(b:Bool)(hi:i<n):a.getD i b=m.testBit i:=by
 rw [<-h.2 i hi];have:i<a.size:=by rw [h.1];exact hi
 simp [Array.getD,this]
def Yv(ops:zz)(masks:zC):Bool:=match ops,masks with
 |[],[]=>true
 |o::ops,a::as=>Nat.beq (gN o.after.toList) a&&Yv ops as
 |_,_=>false
theorem Sv:∀(ops:zz) (masks:zC),Yv ops masks=true->masks=ops.map λo=>gN o.after.toList
 |[],[],_=>rfl
 |o::ops,a::as,h=>by
  simp only [Yv,ah] at h;rw [er,<-ai h.1,<-Sv ops as h.2]
 |[],_::_,h=>by cases h
 |_::_,[],h=>by cases h
def aeK(n:Nat)(ops:zz):Bool:=ops.all λo=>o.after.toList.all λe=> !Region.binds .any e||Nat.blt e.on n
section
variable {ops : zv} {masks : zC}
theorem GP(s:masks=ops.toList.map λo=>gN o.after.toList)(t:aeK ops.size ops.toList=true){b:zy}{m j:Nat}(r:LM ops.size b m):
  j∈Region.ready .any ops b↔ ∃a,masks[j]? =some a/\m.testBit j=false/\LL a m=true:=by
 rw [mem_ready];have g:∀{o:Oper} {e:Edge},o∈ops.toList->e∈o.after->Region.binds .any e=true->e.on<ops.size:=λ{o e} n d hb=>by have q:=List.all_eq_true.1 t o n;have l:=List.all_eq_true.1 q e (by simpa using d);rw [hb] at l;simpa using l
 constructor
 .rintro ⟨q,oj,c,l⟩;have k:j<ops.size:=(Array.getElem?_eq_some_iff.1 c).1;refine ⟨gN oj.after.toList,by rw [s,np];simp [c],by rw [<-r.2 j k];exact q,?_⟩;rw [Af];intro i hi;rw [oC,List.any_eq_true] at hi;obtain ⟨e,d,hb⟩:=hi;simp only [ah,kR] at hb;have h:e∈oj.after:=by simpa using d
  have f:oj∈ops.toList:=by simpa using Array.mem_of_getElem? c
  have:=l e h hb.1;rw [r.getD false (g f h hb.1),hb.2] at this;exact this
 .rintro ⟨a,p,q,l⟩;rw [s,np] at p;cases n:ops.toList[j]? with
  |none=>rw [n] at p;cases p
  |some oj=>
   rw [n] at p;simp only [mj,cH] at p;have c:ops[j]? =some oj:=by simpa using n
   have k:j<ops.size:=(Array.getElem?_eq_some_iff.1 c).1;refine ⟨by rw [r.2 j k];exact q,oj,c,λe d hb=>?_⟩;have f:oj∈ops.toList:=ej n;rw [r.getD false (g f d hb)];rw [Af] at l;refine l _ ?_;rw [<-p,oC,List.any_eq_true];exact ⟨e,by simpa using d,by simp [hb]⟩
end
def QP(t:Tmp)(o:Oper):Bool:=match o.dst with
 |some d=>Nat.beq d t
 |none=>false
def afl(t:Tmp)(j a:Nat):zz->zC->Nat->Bool
 |[],_,_=>true
 |o::l,ms,i=>(!(QP t o)||Nat.beq i j||Nat.testBit a i||(match ms with|m::_=>Nat.testBit m j|[]=>false))&&afl t j a l ms.tail (i+1)
def O9(t:Tmp)(j:Nat):zz->Nat->Bool
 |[],_=>true
 |o::l,i=>(!(QP t o)||Nat.beq i j)&&O9 t j l (i+1)
def Qq(ops:zv)(all:zz)(mall:zC):zz->zC->Nat->Bool
 |[],_,_=>true
 |o::l,a::as,j=>(o.looksAt ops).all (λt=>afl t j a all mall 0)&&(match o.dst with|some d=>O9 d j all 0|none=>true)&&Qq ops all mall l as (j+1)
 |_::_,[],_=>false
theorem NC{t:Tmp}{j a:Nat}:∀(l:zz) (c:zC) (i0:Nat),afl t j a l c i0=true->∀i o,l[i]? =some o->o.dst=some t->i0+i≠j->a.testBit (i0+i)=true\/∃m,c[i]? =some m/\m.testBit j=true
 |[],_,_,_,i,o,h,_,_=>by simp at h
 |o0::l,c,i0,hB,i,o,h,hd,hne=>by
  simp only [afl,ah,eF,gj] at hB;cases i with
  |zero=>
   simp only [gy,cH] at h;subst h;rcases hB.1 with ((b|b)|b)|b
   .simp [QP,hd] at b
   .exact absurd (ai b) hne
   .exact .inl b
   .cases c with
    |nil=>cases b
    |cons m c=>exact .inr ⟨m,rfl,b⟩
  |succ i=>
   simp only [c8] at h;have e:i0+1+i=i0+(i+1):=by omega
   have:=NC l c.tail (i0+1) hB.2 i o h hd (by rw [e];exact hne);rw [e] at this;rcases this with b|⟨m,b,d⟩
   .exact .inl b
   .refine .inr ⟨m,?_,d⟩;cases c with
    |nil=>simp at b
    |cons f c=>simpa using b
theorem SS{t:Tmp}{j:Nat}:∀(l:zz) (i0:Nat),O9 t j l i0=true->∀i o,l[i]? =some o->o.dst=some t->i0+i=j
 |[],_,_,i,o,h,_=>by simp at h
 |o0::l,i0,hB,i,o,h,hd=>by
  simp only [O9,ah,eF,gj] at hB;cases i with
  |zero=>
   simp only [gy,cH] at h;subst h;rcases hB.1 with a|a
   .simp [QP,hd] at a
   .exact ai a
  |succ i=>
   simp only [c8] at h;have:=SS l (i0+1) hB.2 i o h hd;omega
theorem Li{ops:zv}{all:zz}{b:zC}:∀(l:zz) (as:zC) (c:Nat),Qq ops all b l as c=true->∀j o a,l[j]? =some o->as[j]? =some a->
  (∀t∈o.looksAt ops,afl t (c+j) a all b 0=true)/\(∀d,o.dst=some d->O9 d (c+j) all 0=true)
 |[],_,_,_,j,o,a,h,_=>by simp at h
 |o0::l,[],_,h,_,_,_,_,_=>by cases h
 |o0::l,a0::as,c,hB,j,o,a,h,ha=>by
  simp only [Qq,ah,qw] at hB;cases j with
  |zero=>
   simp only [gy,cH] at h ha;subst h;subst ha;refine ⟨λt f=>hB.1.1 t f,λd g=>?_⟩;have:=hB.1.2;rw [g] at this;exact this
  |succ j=>
   simp only [c8] at h ha;have e:c+1+j=c+(j+1):=by omega
   have:=Li l as (c+1) hB.2 j o a h ha;rwa [e] at this
theorem apt{ops:zv}{masks:zC}(r:masks=ops.toList.map λo=>gN o.after.toList)(s:Qq ops ops.toList masks ops.toList masks 0=true){i j:Nat}{a oj:Oper}(hi:ops[i]? =some a)(w:ops[j]? =some oj)(v:j≠i)
  (u:(gN oj.after.toList).testBit i=false) (t:(gN a.after.toList).testBit j=false):a.apart ops oj=true:=by
 have b:ops.toList[i]? =some a:=by simpa using hi
 have c:ops.toList[j]? =some oj:=by simpa using w
 have q:masks[i]? =some (gN a.after.toList):=by rw [r,np,b];rfl
 have p:masks[j]? =some (gN oj.after.toList):=by rw [r,np,c];rfl
 obtain ⟨n,ti⟩:=Li _ _ 0 s i a _ b q;obtain ⟨l,k⟩:=Li _ _ 0 s j oj _ c p;simp only [l7] at n ti l k;unfold Oper.apart;simp only [ah];constructor
 .cases g:a.dst with
  |none=>rfl
  |some d=>
   simp only [ah,gj,zb];refine ⟨?_,?_⟩
   .rw [nJ];intro e;rcases NC _ _ 0 (l d (by simpa using e)) i a b g (by omega) with h|⟨m,h,f⟩
    .rw [l7,u] at h;cases h
    .rw [q] at h;cases h;rw [t] at f;cases f
   .intro e;have:=SS _ 0 (k d e) i a b g;omega
 .cases g:oj.dst with
  |none=>rfl
  |some d=>
   simp only [gj];rw [nJ];intro e;rcases NC _ _ 0 (n d (by simpa using e)) j oj c g (by omega) with h|⟨m,h,f⟩
   .rw [l7,t] at h;cases h
   .rw [p] at h;cases h;rw [u] at f;cases f
def agF(ops:zv)(masks:zC)(order:OT):Bool:=
 ops.toList.all jc&&Region.noSelect ops&&Yv ops.toList masks&&aeK ops.size ops.toList&&Qq ops ops.toList masks ops.toList masks 0&&uY masks order [] 0
def wpE(P:Program)(ρ:zt)(ops:zv)(Q:bD)(fl:zC)(pend:fq)(nx:zC->Act->World->Prop):Nat->zC->Act->World->Prop
 |0,ea,a,w=>nx ea a w
 |n+1,ea,a,w=>nx ea a w/\∀f∈fl,dF f ea=false->wpOpIn (FW ρ) 0 P ops Q f (λa' w'=>iq pend w'/\wpE P ρ ops Q fl pend nx n (f::ea) a' w') a w
def jn(P:Program)(ρ:zt)(ops:zv)(Q:bD):OT->zC->fq->Act->World->Prop
 | .nil,_,_,a,w=>Q .normal a w
 | .q k _ r,ea,pend,a,w=>match ops[k]? with
  |none=>False
  |some o=>∃v J,J w/\YJ P ops J o v a/\jn P ρ ops Q r ea ((k,J)::pend) (a.put o.dst v) w
 | .l k _ r,ea,pend,a,w=>match ops[k]? with
  |none=>False
  |some _=>wpOpIn (FW ρ) 0 P ops Q k (λa' w'=>iq (still .any ops k pend) w'/\jn P ρ ops Q r ea (still .any ops k pend) a' w') a w
 | .l2 _ k₁ r₁ k₂ r₂,ea,pend,a,w=>(match ops[k₁]? with
  |none=>False
  |some _=>wpOpIn (FW ρ) 0 P ops Q k₁ (λa' w'=>iq (still .any ops k₁ pend) w'/\jn P ρ ops Q r₁ ea (still .any ops k₁ pend) a' w') a w)/\
  (match ops[k₂]? with
  |none=>False
  |some _=>wpOpIn (FW ρ) 0 P ops Q k₂ (λa' w'=>iq (still .any ops k₂ pend) w'/\jn P ρ ops Q r₂ ea (still .any ops k₂ pend) a' w') a w)
 | .f k _ fl fs r,ea,pend,a,w=>wpE P ρ ops Q fl pend (λea a w=>(∀f∈fs,f∈ea)->wpOpIn (FW ρ) 0 P ops Q k (λa' w'=>iq (still .any ops k pend) w'/\jn P ρ ops Q r (ea.filter λf=> !(dF f fs)) (still .any ops k pend) a' w') a w) fl.length ea a w
def wZ:zA->Nat
 |[]=>0
 |true::l=>wZ l
 |false::l=>wZ l+1
theorem ae7:∀{l:zA} {i:Nat},l[i]? =some false->wZ (l.set i true)+1=wZ l
 |[],i,h=>by simp at h
 |b::l,0,h=>by
  simp only [gy,cH] at h;subst h;rfl
 |b::l,i+1,h=>by simp only [c8] at h;have:=ae7 h;cases b <;> simp only [List.set_cons_succ,wZ] <;> omega
theorem agG:∀{n:Nat},wZ (List.replicate n false)=n
 |0=>rfl
 |n+1=>by rw [qM,wZ,agG]
theorem Wb{Q:bD}:∀(c:Nat) (pend:fq) (f:Nat×(World->Prop)->Bool) (b:zy) (a:Act) (w:World),GY P ρ md ops Q c pend b a w->GY P ρ md ops Q c (pend.filter f) b a w
 |0,_,_,_,_,_,h=>⟨nu h.1,h.2⟩
 |c+1,pend,f,b,a,w,h=>⟨nu h.1,h.2.1,λi hi=>wpOpIn_mono (λe w' d=>by
   have:still md ops i (pend.filter f)=(still md ops i pend).filter f:=by unfold still;rw [qZ,qZ];congr 1;funext p;exact Bool.and_comm ..
   rw [this];exact Wb c _ f _ _ _ d) (h.2.2 i hi)⟩
theorem filter_lt{α:Type}{p q:α->Bool}(a:∀x,q x=true->p x=true):∀{l:List α} {x:α},x∈l->p x=true->q x=false->(l.filter q).length<(l.filter p).length
 |y::l,x,hx,hp,hq=>by
  have c:∀l:List α,(l.filter q).length<=(l.filter p).length:=λl=>by
   induction l with
   |nil=>exact b7 _
   |cons z l ih=>
    rw [qv,qv];cases b:q z
    .cases p z <;> simp <;> omega
    .rw [a z b];simp;omega
  rw [qv,qv];rcases List.mem_cons.1 hx with rfl|hx
  .rw [hp,hq];have:=c l;simp;omega
  .have ih:=filter_lt a hx hp hq;cases b:q y
   .cases p y <;> simp <;> omega
   .rw [a y b];simp;omega
theorem avn{Q:bD}{masks:zC}(hm:masks=ops.toList.map λo=>gN o.after.toList)(he:aeK ops.size ops.toList=true)(hD:Qq ops ops.toList masks ops.toList masks 0=true)
  (hs:Region.noSelect ops=true) (hQ:∀c (a:Act) d v w,Q (.panic c) (a.put d v) w->Q (.panic c) a w) (hpl:∀(j:Nat) (o:Oper),ops[j]? =some o->jc o=true):∀(D:OT) (n:Nat) (pf s:zC) (pend:fq) (g:zy) (m:Nat) (a:Act) (w:World),
  (∀f∈s,f∈pf)->LM ops.size g (jA m s)->wZ g.toList=n->uY masks D pf m=true->iq pend w->xl ops g->jn P ρ ops Q D s pend a w->GY P ρ .any ops Q n pend g a w:=by
 have U:∀{k m:Nat} {s:zC} {g:zy},LM ops.size g (jA m s)->AI masks k m=true->k∉s->k∈Region.ready .any ops g:=λ{k m s g} u h N=>by
  rw [GP hm he u];unfold AI at h;cases ha:masks[k]? with
  |none=>rw [ha] at h;cases h
  |some a=>
   rw [ha] at h;simp only [ah,gj] at h;refine ⟨a,rfl,?_,?_⟩
   .rw [eO,h.1,n3,nJ];exact λy=>N (dG.1 y)
   .rw [Af] at h ⊢;intro i hi;rw [eO,h.2 i hi,vl]
 have only:∀{m:Nat} {ks fl s:zC} {g:zy},(∀f∈s,f∈fl)->LM ops.size g (jA m s)->Gm masks 0 (jA m fl) ks=true->∀i∈Region.ready .any ops g,i∉s/\m.testBit i=false/\(i∈fl\/i∈ks):=λ{m ks fl s g} r u h i hi=>by
  obtain ⟨a,ha,B,R⟩:=(GP hm he u).1 hi;rw [eO,qy] at B;refine ⟨(λy=>by rw [dG.2 y] at B;cases B.2),B.1,?_⟩;by_cases F:i∈fl
  .exact .inl F
  .refine .inr ?_;have:=YO masks 0 (jA m fl) ks h i a ha (by rw [l7,eO,B.1,n3,nJ];exact λy=>F (dG.1 y)) (by rw [Af] at R ⊢;intro j hj;have:=R j hj;rw [eO,eF] at this;rw [eO,eF];exact this.imp id λh=>dG.2 (r j (dG.1 h)))
   rwa [l7] at this
 have C:∀{i n:Nat} {g:zy},i∈Region.ready .any ops g->wZ g.toList=n->∃n',n=n'+1/\wZ (g.setIfInBounds i true).toList=n':=λ{i n g} hi E=>by
  have B:=(mem_ready.1 hi).1;have R:g.toList[i]? =some false:=by
   rw [nA] at B;rw [qE];cases hl:g[i]? with
   |none=>rw [hl] at B;cases B
   |some b=>rw [hl] at B;simp only [qD] at B;rw [B]
  have O:=ae7 R;refine ⟨wZ (g.toList.set i true),by omega,?_⟩;rw [Array.toList_setIfInBounds]
 have Y:∀{g:zy} {m V:Nat},LM ops.size g m->(∀i,m.testBit i=V.testBit i)->LM ops.size g V:=λh e=>⟨h.1,λi hi=>by rw [h.2 i hi,e]⟩;have M:∀{g:zy} {m k:Nat} {s:zC},LM ops.size g (jA m s)->LM ops.size (g.setIfInBounds k true) (jA (bit m k) s):=λ{g m k s} h=>Y h.set λi=>by rw [Dp,eO,eO,Dp];cases m.testBit i <;> cases (k==i) <;> cases dF i s <;> rfl
 intro D
 induction D with
 |nil=>
  intro n pf s pend g m a w r u E A I t h;simp only [uY,ah,List.isEmpty_iff] at A;obtain ⟨rfl,A⟩:=A;have h0:Region.ready .any ops g=[]:=by
   cases hr:Region.ready .any ops g with
   |nil=>rfl
   |cons x xs=>
    obtain ⟨_,_,B⟩:=only (fl:=[]) r u A x (by rw [hr];exact ct ..);simp at B
  cases n with
  |zero=>exact ⟨I,h0,h⟩
  |succ n=>exact ⟨I,λ_=>h,λi hi=>by rw [h0] at hi;cases hi⟩
 |q k V rest ih=>
  intro n pf s pend g m a w r u E A I t h;simp only [uY,ah,gj] at A;obtain ⟨⟨⟨L,N⟩,hkp⟩,A⟩:=A;have:=ai L;subst this;simp only [jn] at h;split at h
  .exact h.elim
  .rename_i o Z;obtain ⟨v,J,hJw,hy,h⟩:=h;have H:=U u N (λy=>by rw [dG.2 (r k y)] at hkp;cases hkp);obtain ⟨n',rfl,W⟩:=C H E;refine aob Z (Region.noSelect_spec hs) hQ hpl n' pend g a w (λj oj hj hne hun hno=>?_) t H hy (ih _ _ _ _ _ _ _ _ r (M u) W A ⟨hJw,I⟩ (oJ t H) h);refine apt hm hD Z hj hne ?_ ?_
   .rw [oC,nJ];intro y;obtain ⟨e,hin,hb⟩:=List.any_eq_true.1 y;simp only [ah,kR] at hb;exact hno e (by simpa using hin) hb.1 hb.2
   .rw [oC,nJ];intro y;obtain ⟨e,hin,hb⟩:=List.any_eq_true.1 y;simp only [ah,kR] at hb;obtain ⟨_,o',ho',z⟩:=mem_ready.1 H;rw [Z] at ho';cases ho';have O:=z e (by simpa using hin) hb.1;have hlt:j<ops.size:=(Array.getElem?_eq_some_iff.1 hj).1;rw [hb.2,u.getD false hlt,<-u.2 j hlt,hun] at O;cases O
 |l k V rest ih=>
  intro n pf s pend g m a w r u E A I t h;simp only [uY,ah,List.isEmpty_iff] at A;obtain ⟨⟨⟨⟨rfl,L⟩,N⟩,Z⟩,A⟩:=A;have:=ai L;subst this;simp only [jn] at h;have H:=U u N (λy=>by cases r k y);obtain ⟨n',rfl,W⟩:=C H E;split at h
  .exact h.elim
  .refine ⟨I,(λh0=>by rw [h0] at H;cases H),λi hi=>?_⟩;obtain ⟨_,_,B⟩:=only (fl:=[]) r u Z i hi;have:i=k:=by simpa using B
   subst this;exact wpOpIn_mono (λT w' K=>ih _ _ _ _ _ _ _ _ r (M u) W A K.1 (oJ t hi) K.2) h
 |l2 V k₁ r₁ k₂ r₂ ih1 ih2=>
  intro n pf s pend g m a w r u E A I t h;simp only [uY,ah,List.isEmpty_iff] at A;obtain ⟨⟨⟨⟨⟨⟨rfl,L⟩,hk1⟩,hk2⟩,Z⟩,hB1⟩,hB2⟩:=A;have:=ai L;subst this;simp only [jn] at h;obtain ⟨B,R⟩:=h;have X:=U u hk1 (λy=>by cases r k₁ y);have hk2':=U u hk2 (λy=>by cases r k₂ y);obtain ⟨n',rfl,hn1⟩:=C X E;obtain ⟨n2,e2,hn2⟩:=C hk2' E;have e3:n2=n':=by omega
  subst e3;refine ⟨I,(λh0=>by rw [h0] at X;cases X),λi hi=>?_⟩;obtain ⟨_,_,O⟩:=only (fl:=[]) r u Z i hi;have O:i=k₁\/i=k₂:=by simpa using O
  rcases O with rfl|rfl
  .split at B
   .exact B.elim
   .exact wpOpIn_mono (λT w' K=>ih1 _ _ _ _ _ _ _ _ r (M u) hn1 hB1 K.1 (oJ t hi) K.2) B
  .split at R
   .exact R.elim
   .exact wpOpIn_mono (λT w' K=>ih2 _ _ _ _ _ _ _ _ r (M u) hn2 hB2 K.1 (oJ t hi) K.2) R
 |f k V fl S rest ih=>
  intro n pf s pend g m a w r u E A I t h;simp only [uY,ah,qw,gj] at A;obtain ⟨⟨⟨⟨⟨⟨⟨L,hpf⟩,hfl⟩,hfs⟩,hkf⟩,N⟩,Z⟩,A⟩:=A;have:=ai L;subst this;simp only [jn] at h;have hsub':∀f∈s,f∈fl:=λf F=>dG.1 (hpf f (r f F));have hkfl:k∉fl:=λy=>by rw [dG.2 y] at hkf;cases hkf
  have flm:∀f∈fl,V.testBit f=false:=λf F=>by
   have:=hfl f F;unfold AI at this;split at this
   .simp only [ah,gj] at this;exact this.1
   .cases this
  have main:∀(nf n:Nat) (s:zC) (g:zy) (a:Act) (w:World),(∀f∈s,f∈fl)->(fl.filter λf=> !(dF f s)).length<=nf->LM ops.size g (jA V s)->wZ g.toList=n->iq pend w->xl ops g->
    wpE P ρ ops Q fl pend (λs a w=>(∀f∈S,f∈s)->wpOpIn (FW ρ) 0 P ops Q k (λT w'=>iq (still .any ops k pend) w'/\jn P ρ ops Q rest (s.filter λf=> !(dF f S)) (still .any ops k pend) T w') a w) nf s a w->GY P ρ .any ops Q n pend g a w:=by
   have body:∀(n:Nat) (s:zC) (g:zy) (a:Act) (w:World),(∀f∈s,f∈fl)->LM ops.size g (jA V s)->wZ g.toList=n->iq pend w->xl ops g->
     ((∀f∈S,f∈s)->wpOpIn (FW ρ) 0 P ops Q k (λT w'=>iq (still .any ops k pend) w'/\jn P ρ ops Q rest (s.filter λf=> !(dF f S)) (still .any ops k pend) T w') a w)->
     (∀i∈fl,i∉s->wpOpIn (FW ρ) 0 P ops Q i (λT w'=>∀n',LM ops.size (g.setIfInBounds i true) (jA V (i::s))->wZ (g.setIfInBounds i true).toList=n'->xl ops (g.setIfInBounds i true)->GY P ρ .any ops Q n' pend (g.setIfInBounds i true) T w') a w)->GY P ρ .any ops Q n pend g a w:=by
    intro n s g a w r u E I t hx F;have G:∃i,i∈Region.ready .any ops g:=by
     by_cases z:∀f∈S,f∈s
     .refine ⟨k,?_⟩;rw [GP hm he u];unfold AI at N;cases ha:masks[k]? with
      |none=>rw [ha] at N;cases N
      |some x=>
       rw [ha] at N;simp only [ah,gj] at N;refine ⟨x,rfl,?_,?_⟩
       .have:=N.1;rw [eO,qy] at this;rw [eO,this.1,n3,nJ];exact λy=>hkfl (r k (dG.1 y))
       .have R:=N.2;rw [Af] at R ⊢;intro j hj;have:=R j hj;rw [eO,eF] at this;rw [eO,eF];exact this.imp id λh=>dG.2 (z j (dG.1 h))
     .obtain ⟨f,hff,hfe⟩:∃f,f∈S/\f∉s:=by apply Classical.byContradiction;intro y;exact z λf F=>Classical.byContradiction λE=>y ⟨f,F,E⟩
      exact ⟨f,U u (hfl f (dG.1 (hfs f hff).1)) hfe⟩
    obtain ⟨i0,hi0⟩:=G;obtain ⟨n',rfl,_⟩:=C hi0 E;refine ⟨I,(λh0=>by rw [h0] at hi0;cases hi0),λi hi=>?_⟩;obtain ⟨n2,e2,hn2⟩:=C hi E;have e3:n2=n':=by omega
    subst e3;obtain ⟨B,R,O⟩:=only r u Z i hi;rcases O with O|O
    .exact wpOpIn_mono (λT w' K=>Wb _ _ _ _ _ _ (K _ u.set hn2 (oJ t hi))) (F i O B)
    .have:i=k:=by simpa using O
     subst this;have z:∀f∈S,f∈s:=λf hf'=>by obtain ⟨x,hx1,_,hx3⟩:=(GP hm he u).1 hi;obtain ⟨q1,q2⟩:=hfs f hf';unfold hasB at q2;rw [hx1] at q2;have:=Af.1 hx3 f q2;rw [eO,flm f (dG.1 q1),n3] at this;exact dG.1 this
     refine wpOpIn_mono (λT w' K=>ih _ _ _ _ _ _ _ _ (λf F=>?_) (Y u.set λj=>?_) hn2 A K.1 (oJ t hi) K.2) (hx z)
     .rw [List.mem_filter] at F ⊢;exact ⟨r f F.1,F.2⟩
     .rw [Dp,eO,eO,Dp,eO];have e:dF j s=(dF j S||dF j (s.filter λf=> !(dF f S))):=by
       rw [qh,eF,dG,dG,dG,List.mem_filter];constructor
       .intro h;by_cases hj:j∈S
        .exact .inl hj
        .refine .inr ⟨h,?_⟩;rw [gj,nJ];exact λy=>hj (dG.1 y)
       .rintro (h|h)
        .exact z j h
        .exact h.1
      rw [e];cases V.testBit j <;> cases (i==j) <;> cases dF j S <;> cases dF j (s.filter λf=> !(dF f S)) <;> rfl
   intro nf
   induction nf with
   |zero=>
    intro n s g a w r hlen u E I t h;refine body n s g a w r u E I t h λi hi hie=>?_;have:i∈fl.filter λf=> !(dF f s):=List.mem_filter.2 ⟨hi,by rw [gj,nJ];exact λy=>hie (dG.1 y)⟩
    rw [eb (Nat.le_zero.1 hlen)] at this;cases this
   |succ nf ihf=>
    intro n s g a w r hlen u E I t h;refine body n s g a w r u E I t h.1 λi hi hie=>?_;have hie':dF i s=false:=by rw [nJ];exact λy=>hie (dG.1 y)
    refine wpOpIn_mono (λT w' K n' hL' W hcl'=>ihf n' (i::s) _ T w' (λf F=>?_) ?_ hL' W K.1 hcl' K.2) (h.2 i hi hie')
    .rcases List.mem_cons.1 F with rfl|F
     .exact hi
     .exact r f F
    .have:=filter_lt (p:=λf=> !(dF f s)) (q:=λf=> !(dF f (i::s))) (λx hx=>by simp only [dF,Bool.not_or,ah] at hx;exact hx.2) hi (by rw [hie'];rfl) (by simp [dF])
     omega
  exact main fl.length n s g a w hsub' (List.length_filter_le ..) u E I t h
theorem Px{j:Nat}:∀(b a:fq) (w:World),iq (b++a) w->iq (b++(j,λ_=>True)::a) w
 |[],_,_,h=>⟨trivial,h⟩
 |_::b,a,w,h=>⟨h.1,Px b a w h.2⟩
theorem ajS{Q:bD}{fl:zC}{pend pend':fq}{nx c:zC->Act->World->Prop}(hp:∀w,iq pend w->iq pend' w)(hx:∀b a w,nx b a w->c b a w):∀(n:Nat) (b:zC) (a:Act) (w:World),wpE P ρ ops Q fl pend nx n b a w->wpE P ρ ops Q fl pend' c n b a w
 |0,b,a,w,h=>hx b a w h
 |n+1,b,a,w,h=>⟨hx b a w h.1,λf g e=>wpOpIn_mono (λ_ w' d=>⟨hp w' d.1,ajS hp hx n _ _ _ d.2⟩) (h.2 f g e)⟩
theorem aqy{Q:bD}:∀(d:OT) (g:zC) (b l2:fq) (a:Act) (w:World),jn P ρ ops Q d g (b++l2) a w->jn P ρ ops Q d g (b++(j,λ_=>True)::l2) a w:=by
 have c:∀(k:Nat) (b l2:fq),still .any ops k (b++l2)=still .any ops k b++still .any ops k l2:=λk b l2=>List.filter_append ..;intro d;have i:∀(k:Nat) (r:OT) (g:zC) (b l2:fq) (a:Act) (w:World),(∀(g:zC) (b l2:fq) (a:Act) (w:World),jn P ρ ops Q r g (b++l2) a w->jn P ρ ops Q r g (b++(j,λ_=>True)::l2) a w)->
   wpOpIn (FW ρ) 0 P ops Q k (λx w'=>iq (still .any ops k (b++l2)) w'/\jn P ρ ops Q r g (still .any ops k (b++l2)) x w') a w->
   wpOpIn (FW ρ) 0 P ops Q k (λx w'=>iq (still .any ops k (b++(j,λ_=>True)::l2)) w'/\jn P ρ ops Q r g (still .any ops k (b++(j,λ_=>True)::l2)) x w') a w:=λk r g b l2 a w ih h=>by
  refine wpOpIn_mono (λx w' u=>?_) h;rw [c] at u;rw [c];have e:still .any ops k ((j,λ_=>True)::l2)=(j,λ_=>True)::still .any ops k l2\/still .any ops k ((j,λ_=>True)::l2)=still .any ops k l2:=by
   unfold still;rw [qv];split
   .exact .inl rfl
   .exact .inr rfl
  rcases e with e|e
  .rw [e];exact ⟨Px _ _ _ u.1,ih _ _ _ _ _ u.2⟩
  .rw [e];exact u
 induction d with
 |nil=>intro g b l2 a w h;exact h
 |q k m r ih=>
  intro g b l2 a w h;simp only [jn] at h ⊢;split at h
  .exact h.elim
  .obtain ⟨v,J,E,C,h⟩:=h;exact ⟨v,J,E,C,ih g ((k,J)::b) l2 _ _ h⟩
 |l k m r ih=>
  intro g b l2 a w h;simp only [jn] at h ⊢;split at h
  .exact h.elim
  .exact i k r g b l2 a w ih h
 |l2 m s o p n z y=>
  intro g b l2 a w h;simp only [jn] at h ⊢;obtain ⟨B,A⟩:=h;refine ⟨?_,?_⟩
  .split at B
   .exact B.elim
   .exact i s o g b l2 a w z B
  .split at A
   .exact A.elim
   .exact i p n g b l2 a w y A
 |f k m fl F r ih=>
  intro g b l2 a w h;simp only [jn] at h ⊢;exact ajS (λw D=>Px _ _ _ D) (λg a w hx t=>i k r _ b l2 a w ih (hx t)) _ _ _ _ h
theorem ap1{Q:bD}(c:zj)(a:Act)(d:zu)(v:Value)(w:World)(h:QN Q (.panic c) (a.put d v) w):QN Q (.panic c) a w:=by unfold QN at*;rwa [jx] at h
end
def WD(P:Program)(ρ:zt)(ops:zv)(Q:bD)(n:Nat)(D:zm)(order:OT)(pend:fq)(E:Env)(w:World):Prop:=
 ∀a,Fits n E a->a.defers=D->jn P ρ ops (QN Q) order [] pend a w
section
variable {P : Program} {ρ : zt} {Q : bD} {n : Nat} {D : zm} {E : Env} {w : World}
theorem XW{id:Nat}{ops:zv}{a:Act}(h:(Code.region id ops true).wpIn (FW ρ) 0 P (QN Q) a w):(Code.region id ops true).wpIn (FW ρ) 0 P Q a w:=
 wpIn_mono h λe a w b=>by cases e <;> first|exact b|exact b a rfl
theorem xz{id:Nat}{l:zz}(masks:zC)(b:OT)(r:P.follows .mixedOrders=true)(q:agF l.toArray masks b=true)
  (h:∀w1,Ext w w1->WD P ρ l.toArray Q n D b [] E w1):WC P ρ (.region id l.toArray true) Q n D E w:=by
 simp only [agF,ah] at q;obtain ⟨⟨⟨⟨⟨f,c⟩,g⟩,k⟩,m⟩,e⟩:=q;intro a t u;refine XW (wpIn_region_any r ?_);have d:∀(j:Nat) (o:Oper),l.toArray[j]? =some o->jc o=true:=λj o s=>List.all_eq_true.1 f o (by simpa using Array.mem_of_getElem? s);have v:LM l.toArray.size (Array.replicate l.toArray.size false) (jA 0 []):=⟨by simp,λi hi=>by show _=Nat.testBit 0 i;simp at hi;simp [Array.getD,hi]⟩
 exact ajB _ _ _ _ _ (avn (Sv _ _ g) k m c ap1 d b _ [] [] [] _ 0 a _ (λ_ h=>by cases h) v (by rw [Array.toList_replicate];exact agG) e trivial (λl x y p=>by rw [Array.getElem?_replicate] at p;split at p <;> cases p) (h { w with drawn:=w.drawn+1 } ⟨rfl,rfl,rfl,b7 _,λ_ _=>rfl⟩ a t u))
variable {ops : zv} {rest : OT} {pend : fq} {k mk : Nat}
theorem ann(h:At Q .normal n D E w):WD P ρ ops Q n D .nil pend E w:=λa b c=>h a b c
theorem avF{d:Tmp}(J:World->Prop)(l:J w)(e:∀w,J w->bk P E true o w v)(g:ops[k]? =some o)(i:o.guard=none)(j:o.dst=some d)(f:Nat.blt d n=true)
  (h:WD P ρ ops Q n D rest ((k,J)::pend) ((d,true,v)::E) w):WD P ρ ops Q n D (.q k mk rest) pend E w:=λa c m=>by
 simp only [jn,g];refine ⟨v,J,l,.inl ⟨by simp [Region.wanted,i],λw' b=>e w' b n a c rfl⟩,?_⟩;rw [j];exact h _ (c.put f) m
theorem iK{d:Tmp}(b:∀w,bk P E true o w v)(e:ops[k]? =some o)(f:o.guard=none)(i:o.dst=some d)(c:Nat.blt d n=true)
  (h:WD P ρ ops Q n D rest pend ((d,true,v)::E) w):WD P ρ ops Q n D (.q k mk rest) pend E w:=
 avF (λ_=>True) trivial (λw _=>b w) e f i c (λa g j=>aqy rest [] [] pend a w (h a g j))
def QK(P:Program)(ρ:zt)(ops:zv)(Q:bD)(_n:Nat)(_D:zm)(rest:OT)(pend:fq):bD:=λe a w=>match e with
 | .normal=>iq pend w/\jn P ρ ops (QN Q) rest [] pend a w
 | .panic c=>Fc Q c a.defers w
 |e=>Q e a w
theorem ara(d:iq pend w)(h:WD P ρ ops Q n D rest pend E w):At (QK P ρ ops Q n D rest pend) .normal n D E w:=λa b c=>⟨d,h a b c⟩
theorem ajz{pend':fq}(d:ops[k]? =some o)(hp:still .any ops k pend=pend')(h:WL P ρ ops (QK P ρ ops Q n D rest pend') n D [o] E w):
  WD P ρ ops Q n D (.l k mk rest) pend E w:=λa e f=>by
 subst hp;simp only [jn,d];have b:=h a e f;unfold wpOpIn;simp only [d];simp only [wpListIn] at b;split
 .rename_i c;simp only [c,qQ] at b;refine ⟨b.1,?_⟩;have b:=b.2;generalize (o.semAt (FW ρ).round a.eval).run P w=r at*;cases r with
  |ok n w'=>
   cases n <;> simp only [Oper.uponIn] at b ⊢ <;> exact b
  |halt x w'=>cases x <;> simp only [Oper.uponIn] at b ⊢ <;> exact b
 next c=>simp only [c] at b;exact b
end
def OT.ops:OT->zC
 | .nil=>[]
 | .q k _ r=>k::r.ops
 | .l k _ r=>k::r.ops
 | .l2 _ k₁ r₁ k₂ r₂=>k₁::k₂::(r₁.ops++r₂.ops)
 | .f k _ _ _ r=>k::r.ops
def OT.WV:OT->zC
 | .nil=>[]
 | .q _ _ r=>r.WV
 | .l _ _ r=>r.WV
 | .l2 _ _ r₁ _ r₂=>r₁.WV++r₂.WV
 | .f _ _ fl _ r=>fl++r.WV
def rM(ops:zv)(j f:Nat):Bool:=match ops[j]?, ops[f]? with
 |some oj,some f=>(match oj.dst with
  |none=>true
  |some d=>(f.looksAt ops).all (λt=> !(Nat.beq t d))&& !(QP d f))
 |_,_=>false
theorem akT{ops:zv}{f:Nat}(h:rM ops j f=true)(c:ops[j]? =some oj)(e:ops[f]? =some o):(∀d,oj.dst=some d->d∉o.looksAt ops)/\(∀d,oj.dst=some d->o.dst≠some d):=by
 unfold rM at h;rw [c,e] at h;simp only at h;constructor
 .intro d a b;rw [a] at h;simp only [ah,qw] at h;have:=h.1 d b;simp at this
 .intro d a b;rw [a] at h;simp only [ah,gj,QP,b] at h;simp at h
def H8(o:Oper)(b:Nat):Value:=match o.op with
 | .buildSlice _ len _=> .slice (some ⟨b,0,none⟩) len len
 |_=> .pointer (some ⟨b,0,none⟩)
abbrev tS:=Nat×Nat×TypeId×zq
def vt(P:Program)(ops:zv)(a:Act)(x:tS):Prop:= ∃(o:Oper) (d:Tmp) (w0:World),ops[x.1]? =some o/\o.dst=some d/\(∀cs b,o.op≠ .select cs b)/\x.2.1=w0.heap.size/\
 a.tmps.getD d undef=H8 o x.2.1/\(execOp a.eval o).run P w0= .ok (.value (H8 o x.2.1)) (w0.alloc (.cells x.2.2.2.toArray x.2.2.1))
section
variable {P : Program} {ρ : zt} {Q : bD} {n : Nat} {D : zm} {E : Env} {w : World} {ops : zv}
theorem vt.put{a:Act}{x:tS}(h:vt P ops a x)(i:ops[j]? =some oj)(k:rM ops j x.1=true):vt P ops (a.put oj.dst v) x:=by
 obtain ⟨o,d,g,f,c,b,q,p,n⟩:=h;obtain ⟨s,r⟩:=akT k i f;refine ⟨o,d,g,f,c,b,q,?_,?_⟩
 .rw [<-p];have:=Act.eval_put (a:=a) (dst:=oj.dst) (v:=v) (x:= .tmp d) (λe l m=>r e l (by cases m;exact c));exact this
 .rw [execOp_put (ops:=ops) o b a oj.dst v s];exact n
theorem an5{C:Act->Prop}(p:ops[j]? =some oj)(g:∀a v,C a->C (a.put oj.dst v))(m:∀(a:Act) d,C a->C { a with defers:=d::a.defers }){K:Act->World->Prop}{a:Act}
  (hc:C a) (h:wpOpIn (FW ρ) 0 P ops Q j K a w):wpOpIn (FW ρ) 0 P ops Q j (λo w'=>C o/\K o w') a w:=by
 unfold wpOpIn at*;simp only [p] at*;split
 .rename_i k;simp only [k,qQ] at h;refine ⟨h.1,?_⟩;have h:=h.2;generalize (oj.semAt (FW ρ).round a.eval).run P w=r at*;cases r with
  |ok n w'=>
   cases n <;> simp only [Oper.uponIn] at h ⊢
   case value u=>exact ⟨g a u hc,h⟩
   case skip=>exact ⟨g a _ hc,h⟩
   case defer d=>exact ⟨g _ _ (m a d hc),h⟩
   case enter f args=>
    refine ⟨h.1,CallsIn.mono h.2 λe i b=>?_⟩;cases e with
    |returned u=>exact ⟨g a u hc,b⟩
    |panicked c=>exact b
    |outgrown=>exact b
   case row row args=>exact ⟨h.1,RowsIn.mono h.2 λu i b=>⟨g a u hc,b⟩⟩
   case round l f tmps assign body=>
    refine ⟨h.1,RoundIn.mono h.2 λe i b=>?_⟩;cases e with
    |returned u=>exact ⟨g a u hc,b⟩
    |panicked c=>exact b
    |outgrown=>exact b
  |halt x w'=>
   cases x <;> simp only [Oper.uponIn] at h ⊢
   case panic u=>exact h
 next k=>simp only [k] at h;exact ⟨h.1,g a _ hc,h.2⟩
def Gv(P:Program)(ρ:zt)(ops:zv)(Q:bD)(n:Nat)(D:zm)(order:OT)(EV:List tS)(pend:fq)(E:Env)(w:World):Prop:=
 ∀a,Fits n E a->a.defers=D->(∀x∈EV,vt P ops a x)->jn P ρ ops (QN Q) order (EV.map (·.1)) pend a w
theorem Gv.wd{b:OT}{pend:fq}(h:Gv P ρ ops Q n D b [] pend E w):WD P ρ ops Q n D b pend E w:=λa c d=>h a c d λ_ hx=>by cases hx
theorem asF{EV:List tS}{pend:fq}(h:At Q .normal n D E w):Gv P ρ ops Q n D .nil EV pend E w:=λa b c _=>h a b c
theorem auc{EV:List tS}{pend:fq}{mk e d:Nat}{c b:OT}(g:Gv P ρ ops Q n D (.l e mk c) EV pend E w)(f:Gv P ρ ops Q n D (.l d mk b) EV pend E w):Gv P ρ ops Q n D (.l2 mk e c d b) EV pend E w:=λa h j i=>by have g:=g a h j i;have f:=f a h j i;simp only [jn] at g f ⊢;exact ⟨g,f⟩
def QKE(P:Program)(ρ:zt)(ops:zv)(Q:bD)(rest:OT)(EV:List tS)(pend:fq):bD:=λe a w=>match e with
 | .normal=>(∀x∈EV,vt P ops a x)->iq pend w/\jn P ρ ops (QN Q) rest (EV.map (·.1)) pend a w
 | .panic c=>Fc Q c a.defers w
 |e=>Q e a w
theorem auP{rest:OT}{EV:List tS}{pend:fq}(e:iq pend w)(h:Gv P ρ ops Q n D rest EV pend E w):At (QKE P ρ ops Q rest EV pend) .normal n D E w:=λa b c d=>⟨e,h a b c d⟩
theorem aex{rest:OT}{EV:List tS}{pend:fq}{c:zj}(h:Fc Q c D w):At (QKE P ρ ops Q rest EV pend) (.panic c) n D E w:=λa _ b=>by subst b;exact h
theorem ap5{rest:OT}{EV:List tS}{pend pend':fq}{k mk:Nat}(e:ops[k]? =some o)(m:∀x∈EV,rM ops k x.1=true)(hp:still .any ops k pend=pend')(h:WL P ρ ops (QKE P ρ ops Q rest EV pend') n D [o] E w):
  Gv P ρ ops Q n D (.l k mk rest) EV pend E w:=λa i j c=>by
 subst hp;simp only [jn,e];have b:=h a i j;have p:wpOpIn (FW ρ) 0 P ops (QN Q) k (λg w'=>(∀x∈EV,vt P ops g x)->iq (still .any ops k pend) w'/\jn P ρ ops (QN Q) rest (EV.map (·.1)) (still .any ops k pend) g w') a w:=by
  unfold wpOpIn;simp only [e];simp only [wpListIn] at b;split
  .rename_i f;simp only [f,qQ] at b;refine ⟨b.1,?_⟩;have b:=b.2;generalize (o.semAt (FW ρ).round a.eval).run P w=r at*;cases r with
   |ok n w'=>cases n <;> simp only [Oper.uponIn] at b ⊢ <;> exact b
   |halt x w'=>cases x <;> simp only [Oper.uponIn] at b ⊢ <;> exact b
  next f=>simp only [f] at b;exact b
 exact wpOpIn_mono (λg w' h=>h.2 h.1) (an5 (C:=λa=>∀x∈EV,vt P ops a x) e (λa v c x hx=>(c x hx).put e (m x hx)) (λa d c x hx=>c x hx) c p)
end
section
variable {α : Type} {A : eB α} {M : Nat -> Prop} {w : World} {v : Value} {xs : List α} {i : Int} {x : α} {e : TypeId} {R : zC} {cs : zq}
end
theorem bW.av5{α:Type}{A:eB α}{M:Nat->Prop}{w:World}{g:Bool}{v:Value}{xs:List α}{i j:Int}(h:g=true->bW A M w v xs)(b:g=true->dW i j xs.length=true):
  ∃p:gP,(g=true->VH v i j A.n (sl p))/\(g=true->bW A M w (sl p) (br xs i j)):=by
 cases g
 .exact ⟨(none,0,0),(λh=>by cases h),(λh=>by cases h)⟩
 .obtain ⟨v',c,a⟩:=bW.cut (h rfl) (b rfl);obtain ⟨p,rfl⟩:=a.ox;exact ⟨p,λ_=>c,λ_=>a⟩
theorem bW.avo{α:Type}{A:eB α}{M:Nat->Prop}{w:World}{g:Bool}{v:Value}{xs:List α}{i j k:Int}(h:g=true->bW A M w v xs)(b:g=true->jT i j k xs.length=true):
  ∃p:gP,(g=true->Qx v i j k A.n (sl p))/\(g=true->bW A M w (sl p) (br xs i j)):=by
 cases g
 .exact ⟨(none,0,0),(λh=>by cases h),(λh=>by cases h)⟩
 .obtain ⟨v',c,a⟩:=bW.awb (h rfl) (b rfl);obtain ⟨p,rfl⟩:=a.ox;exact ⟨p,λ_=>c,λ_=>a⟩
section
variable {P : Program} {ρ : zt} {Q : bD} {n : Nat} {D : zm} {E : Env} {w : World} {ops : zv} {rest : zz} {Γ : Ctx} {g : Bool}
variable {dst : zu} {d : Tmp} {ty : TypeId} {pos : String} {af : zw} {gd : zg}
def gY:TypeDesc->Bool
 | .interface _=>true
 |_=>false
theorem ahJ{x:Operand}{v:Value}{t:TypeId}{dd:TypeDesc}(b:P.underlying t=some dd)(e:gY dd=false)(hx:aw E g x v):bk P E g ⟨dst,.makeInterface t x,ty,pos,af,gd⟩ w (.iface t v):=
 λn a d c=>by simp only [execOp,hx n a d c,Instr.makeInterface,Sem.run_bind,run_underlying b,Result.andThen_ok];cases dd <;> first|rfl|(simp [gY] at e)
theorem ah8{x:Operand}{v:Value}{s t:TypeId}{dd:TypeDesc}(b:P.underlying t=some dd)(e:gY dd=false)(hx:aw E g x (.iface t v)):bk P E g ⟨dst,.typeAssert x s t false,ty,pos,af,gd⟩ w v:=
 λn a d c=>by simp only [execOp,hx n a d c,Instr.typeAssert,Sem.run_bind,run_underlying b,Result.andThen_ok];cases dd <;> first|(dsimp only;rw [cN rfl];rfl)|(simp [gY] at e)
end
def gl(b:Nat)(vs:zq):Item where
 own:=[]
 P M w:= ¬M b/\∃t fr,w.heap[b]? =some (.cells vs.toArray t fr)
 lt _ b hb:=by cases hb
 cE {M M' w w'} h m _ _:=by obtain ⟨h1,t,fr,hb⟩:=h;obtain ⟨h2,h3⟩:=m.2 _ (Array.getElem?_eq_some_iff.1 hb).1 h1;exact ⟨h2,t,fr,h3.trans hb⟩
 cV:=true
 hp _:=rfl
section
variable {Γ : Ctx} {w : World} {α : Type} {A : eB α} {i : Nat}
theorem Sat.gl0(h:Sat Γ w){b:Nat}{vs:zq}(hi:Γ[i]? =some (gl b vs)):¬ Γ.M b/\∃t fr,w.heap[b]? =some (.cells vs.toArray t fr):=h.at_ hi
theorem Sat.gl(h:Sat Γ w){b:Nat}{vs:zq}(hi:Γ[i]? =some (gl b vs)):¬ Γ.M b/\bT w ⟨b,0,none⟩ vs:=by obtain ⟨c,t,fr,hb⟩:=h.gl0 hi;exact ⟨c,rfl,_,t,fr,hb,λj u a=>by simpa using a⟩
theorem avE{M:Nat->Prop}{xs:List α}(f:¬M b)(h:bT w ⟨b,0,none⟩ vs)(c:db A M w vs xs):bW A M w (sl (some ⟨b,0,none⟩,xs.length,xs.length)) xs:=by
 obtain ⟨_,cs,t,fr,hb,a⟩:=h;have k:=c.1;have d:vs.length<=cs.size:=by
  rcases Nat.eq_zero_or_pos vs.length with i|i
  .omega
  .have:=a (vs.length-1) _ (aT (by omega));have:=(Array.getElem?_eq_some_iff.1 this).1;omega
 refine .inr ⟨b,0,xs.length,cs,t,fr,rfl,f,hb,b7 _,by omega,?_⟩;have e:(cs.toList.drop 0).take (xs.length*A.n)=vs:=by
  apply si
  .simp;omega
  .intro j l g;have:=a j _ (aT g);simp only [qa,q4,Array.getElem_toList];rw [l7] at this;exact (Array.getElem?_eq_some_iff.1 this).2
 rw [e];exact c
theorem as4{β:Type}{xs:List β}{j:Int}{x:β}{n:Nat}(hx:idx xs j=some x)(b:xs.length=n):wG j n=true:=by obtain ⟨a,hi,_⟩:=EG hx;exact pR.2 ⟨a,by omega⟩
theorem UD{M:Nat->Prop}:∀l:List aS,db RS M w (l.map S) l
 |[]=>db.nil
 |x::l=>db.cons (A:=RS) (c:=[S x]) rfl (UD l)
theorem abS{M:Nat->Prop}{k:IntKind}:∀l:zB,db (RI k) M w (l.map (Value.int k)) l
 |[]=>db.nil
 |x::l=>db.cons (A:=RI k) (c:=[Value.int k x]) rfl (abS l)
end
section
variable {P : Program} {ρ : zt} {Q : bD} {n : Nat} {D : zm} {E : Env} {w : World} {ops : zv} {rest : zz} {Γ : Ctx} {g : Bool}
variable {dst : zu} {d : Tmp} {ty : TypeId} {pos : String} {af : zw} {gd : zg}
theorem CN{i:Int}{m len bytes:Nat}{t:TypeId}(j:P.underlying t=some (.array len e))(b:TI P e m bytes z)(hx:aw E g x (.pointer (some p)))(h:aw E g y (.int k i))
  (hi:g=true->wG i len=true):bk P E g ⟨dst,.indexAddr t x y,ty,pos,af,gd⟩ w (.pointer (some (p.add (i.toNat*m)))):=
 λn' a f d=>by obtain ⟨q,c,l,_,_⟩:=b.out;obtain ⟨o,n⟩:=pR.1 (hi d);simp [execOp,hx n' a f d,h n' a f d,Instr.indexAt,asIntOf,run_underlying j,Instr.sureAddr,o,n,sizeOf,typeInfo,c,l]
theorem X8{len:Nat}{m bytes:Nat}{t:TypeId}(f:P.underlying t=some (.array len e))(c:TI P e m bytes z)(b:Nat.blt 0 len=true)(hx:aw E g x (.pointer (some p))):
  bk P E g ⟨dst,.slice t x none none none,ty,pos,af,gd⟩ w (.slice (some p) len len):=
 λn' a i h=>by
  obtain ⟨j,d,k,_,_⟩:=c.out;have l:0<len:=by simpa using b
  simp [execOp,hx n' a i h,Instr.sliceAt,run_underlying f,Instr.sureAddr,Instr.sliceBounds,sizeOf,typeInfo,d,Addr.add]
theorem aib{α:Type}{A:eB α}{M:Nat->Prop}{p:gP}{xs:List α}(h:bW A M w (sl p) xs):(p=(none,0,0)/\xs=[])\/AR (sl p)=false:=by
 rcases h with ⟨⟨a0,h⟩,rfl⟩|⟨b,off,cap,cs,e,fr,h,_⟩
 .cases a0 with
  |none=>
   obtain ⟨a,l,c⟩:=p;simp only [sl,Value.slice.injEq] at h;exact .inl ⟨by rw [h.1,h.2.1,h.2.2],rfl⟩
  |some a0=>rw [h];exact .inr rfl
 .rw [h];exact .inr rfl
theorem aip{α:Type}{A:eB α}{M:Nat->Prop}{p:gP}{xs:List α}{R:zC}(h:bR A e M w (sl p) xs R):(AR (sl p)=true/\xs=[])\/AR (sl p)=false:=by
 cases b:AR (sl p)
 .exact .inr rfl
 .refine .inl ⟨rfl,?_⟩;obtain ⟨a,l,c⟩:=p;rcases h with ⟨_,cells,⟨_,h⟩,_⟩|⟨_,h,_⟩
  .rcases h with ⟨_,f⟩|⟨g,off,cap,cur,d,_⟩
   .exact eb f
   .rw [d] at b;cases b
  .exact h
end
section
variable {P : Program} {ρ : zt} {Q : bD} {n : Nat} {D : zm} {E : Env} {w : World} {ops : zv} {rest : zz} {Γ : Ctx} {g : Bool}
variable {d : Tmp} {ty : TypeId} {pos : String} {af : zw}
end
variable {kt : TypeId}
structure vJ(P:Program)(kt:TypeId){κ:Type}[BEq κ](ke:κ->Value):Prop where
 ut:∃d,P.underlying kt=some d/\((∀a b,Instr.sameNow d (ke a) (ke b)=some (a==b))\/((∀a b,Instr.sameNow d (ke a) (ke b)=none)/\∀a b (w:World),(Op.equal kt (ke a) (ke b)).run P w= .ok (a==b) w))
 bits:∀a b,(a==b)=true->a=b/\Instr.sameBits 10000 (ke b) (ke a)=true
 check:∀(em:Bool) (a:κ) (w:World),(Instr.checkKey em 10000 kt (ke a)).run P w= .ok () w
theorem vJ.int{P:Program}(h:P.underlying kt=some (.int k)):vJ P kt (Value.int k) where
 ut:=⟨_,h,.inl λa b=>by simp [Instr.sameNow]⟩
 bits a b h:=by
  have:a=b:=by simpa using h
  subst this;exact ⟨rfl,by simp [Instr.sameBits]⟩
 check em a w:=by show (Instr.checkKey em (9999+1) kt _).run P w=_;unfold Instr.checkKey;simp [run_underlying h]
theorem arl(a b:aS):((⟨a.toArray⟩:ByteArray)==(⟨b.toArray⟩:ByteArray))=(a==b):=by
 rw [qh,MapKept.bytes_beq,kR];constructor
 .intro h;have:=congrArg ByteArray.toList h;rwa [Kj,Kj] at this
 .intro h;rw [h]
theorem vJ.str{P:Program}(h:P.underlying kt=some .string):vJ P kt S where
 ut:=⟨_,h,.inl λa b=>by simp only [Instr.sameNow,S,arl]⟩
 bits a b h:=by
  have:a=b:=by simpa using h
  subst this;exact ⟨rfl,by simp only [Instr.sameBits,S,arl,h]⟩
 check em a w:=by show (Instr.checkKey em (9999+1) kt _).run P w=_;unfold Instr.checkKey;simp [run_underlying h,S]
def XT(k1 k2:IntKind)(p:Int×Int):Value:= .agg #[.int k1 p.1,.int k2 p.2]
theorem GM{P:Program}{w:World}{t:TypeId}{cs:zp}{off:Nat}(h:P.underlying t=some (.int k))(a:cs[off]? =some v):(part t cs off).run P w= .ok v w:=by unfold part;rw [Sem.run_bind,Bc h];simp [kI,a]
theorem vJ.pair{P:Program}{f e:Field}{d c:IntKind}(h:P.underlying kt=some (.struct #[f,e]))(m:f.name≠ "_") (l:e.name≠ "_") (k:f.offset=0) (j:e.offset=1)
  (t1:P.underlying f.type=some (.int d)) (t2:P.underlying e.type=some (.int c)) (n:P.stoodInHeld kt=false):vJ P kt (XT d c) where
 ut:=⟨_,h,.inr ⟨λa b=>rfl,λa b w=>by
  have i:∀x:Int×Int,(part f.type #[.int d x.1,.int c x.2] 0).run P w= .ok (.int d x.1) w:=λx=>GM t1 rfl;have g:∀x:Int×Int,(part e.type #[.int d x.1,.int c x.2] 1).run P w= .ok (.int c x.2) w:=λx=>GM t2 rfl;have e1:(Op.equalIn 9999 f.type (.int d a.1) (.int d b.1)).run P w= .ok (a.1==b.1) w:=by show (Op.equalIn (9998+1) _ _ _).run P w=_;unfold Op.equalIn;simp [run_underlying t1]
  have e2:(Op.equalIn 9999 e.type (.int c a.2) (.int c b.2)).run P w= .ok (a.2==b.2) w:=by show (Op.equalIn (9998+1) _ _ _).run P w=_;unfold Op.equalIn;simp [run_underlying t2]
  show (Op.equalIn (9999+1) kt _ _).run P w=_;unfold Op.equalIn;have ee:(a==b)=(a.1==b.1&&a.2==b.2):=rfl;simp only [run_underlying h,Sem.run_bind,Result.andThen_ok,XT,run_program,n];rw [ee];cases p:(a.1==b.1) <;> cases o:(a.2==b.2) <;> simp [m,l,k,j,i,g,e1,e2,p,o]⟩⟩
 bits a b h:=by
  have:a=b:=by obtain ⟨u,t⟩:=a;obtain ⟨s,r⟩:=b;have:(u==s&&t==r)=true:=h;simp only [ah,kR] at this;rw [this.1,this.2]
  subst this;refine ⟨rfl,?_⟩;show Instr.sameBits (9999+1) _ _=true;simp [Instr.sameBits,XT]
 check em a w:=by
  have c1:(Instr.checkKey em 9999 f.type (.int d a.1)).run P w= .ok () w:=by show (Instr.checkKey em (9998+1) _ _).run P w=_;unfold Instr.checkKey;simp [run_underlying t1]
  have q:(Instr.checkKey em 9999 e.type (.int c a.2)).run P w= .ok () w:=by show (Instr.checkKey em (9998+1) _ _).run P w=_;unfold Instr.checkKey;simp [run_underlying t2]
  have i:(part f.type #[.int d a.1,.int c a.2] 0).run P w= .ok (.int d a.1) w:=GM t1 rfl;have g:(part e.type #[.int d a.1,.int c a.2] 1).run P w= .ok (.int c a.2) w:=GM t2 rfl;show (Instr.checkKey em (9999+1) kt _).run P w=_;unfold Instr.checkKey;simp [run_underlying h,XT,m,l,k,j,i,g,c1,q]
def j8{κ ν:Type}[BEq κ](l:List (κ×ν))(k:κ):Option ν:=match l with
 |[]=>none
 |p::l=>bif k==p.1 then some p.2 else j8 l k
def iR{κ ν:Type}[BEq κ](l:List (κ×ν))(k:κ)(v:ν):List (κ×ν):=match l with
 |[]=>[(k,v)]
 |p::l=>bif k==p.1 then (k,v)::l else p::iR l k v
section
variable {κ ν : Type} [BEq κ] {ke : κ -> Value} {vi : ν -> Value}
def yI(ke:κ->Value)(vi:ν->Value)(es:List MapEntry)(l:List (κ×ν)):Prop:=es.map (λe=>(e.key,e.val))=l.map λp=>(ke p.1,vi p.2)
def rE(ke:κ->Value)(vi:ν->Value)(w:World)(v:Value)(d:Option (List (κ×ν))):Prop:=
 (v= .map none/\d=none)\/∃b es clock l,v= .map (some b)/\d=some l/\w.heap[b]? =some (.map es clock)/\yI ke vi es.toList l
def Kl:Value->zC
 | .map (some b)=>[b]
 |_=>[]
omit [BEq κ] in
theorem rE.nil{w:World}:rE ke vi w (.map none) none:= .inl ⟨rfl,rfl⟩
omit [BEq κ] in
theorem rE.lt{w:World}{d:Option (List (κ×ν))}(h:rE ke vi w v d):∀b∈Kl v,b<w.heap.size:=λb hb=>by
 rcases h with ⟨rfl,_⟩|⟨f,e,a,l,rfl,_,c,_⟩
 .cases hb
 .simp [Kl] at hb;subst hb;exact (Array.getElem?_eq_some_iff.1 c).1
omit [BEq κ] in
theorem rE.cE{w w':World}{d:Option (List (κ×ν))}(h:rE ke vi w v d)(k:∀b∈Kl v,w'.heap[b]? =w.heap[b]?):rE ke vi w' v d:=by
 rcases h with h|⟨b,g,a,l,rfl,f,e,c⟩
 .exact .inl h
 .exact .inr ⟨b,g,a,l,rfl,f,by rw [k b (by simp [Kl])];exact e,c⟩
theorem Se{d:TypeDesc}(m:∀a b:κ,Instr.sameNow d (ke a) (ke b)=some (a==b))(k:κ):∀(g:List MapEntry) (l:List (κ×ν)) (i:Nat),yI ke vi g l->
  (j8 l k=none/\(l.any λp=>k==p.1)=false/\Instr.findNow d (ke k) g i=some none)\/
  ∃j v,j8 l k=some v/\Instr.findNow d (ke k) g i=some (some (i+j,vi v))/\j<g.length/\(∃p,l[j]? =some p/\(k==p.1)=true/\∀q,iR l k q=l.set j (k,q))
 |[],[],i,_=> .inl ⟨rfl,rfl,rfl⟩
 |[],_::_,_,h=>by simp [yI] at h
 |_::_,[],_,h=>by simp [yI] at h
 |e::g,p::l,i,h=>by
  simp only [yI,er,nI,p8] at h;obtain ⟨⟨r,w⟩,t⟩:=h;cases f:(k==p.1)
  .rcases Se m k g l (i+1) t with ⟨a,b,c⟩|⟨j,v,a,b,c,q,s,o,n⟩
   .exact .inl ⟨by simp [j8,f,a],by simp [f,b],by simp [Instr.findNow,r,m,f,c]⟩
   .refine .inr ⟨j+1,v,by simp [j8,f,a],?_,by simpa using c,q,by simpa using s,o,λu=>by simp [iR,f,n]⟩;simp only [Instr.findNow,r,m,f,b];congr 3;omega
  .exact .inr ⟨0,p.2,by simp [j8,f],by simp [Instr.findNow,r,m,f,w],by simp,p,by simp,f,λu=>by simp [iR,f]⟩
theorem Sk{P:Program}{w:World}{kt:TypeId}(g:∀a b:κ,(Op.equal kt (ke a) (ke b)).run P w= .ok (a==b) w)(k:κ):∀(f:List MapEntry) (l:List (κ×ν)) (i:Nat),yI ke vi f l->
  (j8 l k=none/\(l.any λp=>k==p.1)=false/\(Instr.findAsking kt (ke k) f i).run P w= .ok none w)\/
  ∃j v,j8 l k=some v/\(Instr.findAsking kt (ke k) f i).run P w= .ok (some (i+j,vi v)) w/\j<f.length/\(∃p,l[j]? =some p/\(k==p.1)=true/\∀q,iR l k q=l.set j (k,q))
 |[],[],i,_=> .inl ⟨rfl,rfl,rfl⟩
 |[],_::_,_,h=>by simp [yI] at h
 |_::_,[],_,h=>by simp [yI] at h
 |e::f,p::l,i,h=>by
  simp only [yI,er,nI,p8] at h;obtain ⟨⟨o,t⟩,s⟩:=h;cases d:(k==p.1)
  .rcases Sk g k f l (i+1) s with ⟨a,b,c⟩|⟨j,v,a,b,c,q,r,n,m⟩
   .exact .inl ⟨by simp [j8,d,a],by simp [d,b],by simp [Instr.findAsking,o,g,d,c]⟩
   .refine .inr ⟨j+1,v,by simp [j8,d,a],?_,by simpa using c,q,by simpa using r,n,λu=>by simp [iR,d,m]⟩;have:i+1+j=i+(j+1):=by omega
    rw [this] at b;simp [Instr.findAsking,o,g,d,b]
  .exact .inr ⟨0,p.2,by simp [j8,d],by simp [Instr.findAsking,o,g,d,t],by simp,p,by simp,d,λu=>by simp [iR,d]⟩
theorem HK{P:Program}(m:vJ P kt ke)(k:κ)(f:List MapEntry)(l:List (κ×ν))(h:yI ke vi f l)(w:World):
  (j8 l k=none/\(l.any λp=>k==p.1)=false/\(Instr.findKey kt (ke k) f).run P w= .ok none w)\/
  ∃j v,j8 l k=some v/\(Instr.findKey kt (ke k) f).run P w= .ok (some (j,vi v)) w/\j<f.length/\(∃p,l[j]? =some p/\(k==p.1)=true/\∀q,iR l k q=l.set j (k,q)):=by
 obtain ⟨o,d,g⟩:=m.ut;rcases g with g|⟨g,n⟩
 .rcases Se g k f l 0 h with ⟨a,b,c⟩|⟨j,v,a,b,c⟩
  .exact .inl ⟨a,b,by simp [Instr.findKey,run_underlying d,c]⟩
  .exact .inr ⟨j,v,a,by simp [Instr.findKey,run_underlying d,b],c⟩
 .have i:Instr.findNow o (ke k) f 0=none\/f=[]:=by
   cases f with
   |nil=>exact .inr rfl
   |cons e f=>
    cases l with
    |nil=>simp [yI] at h
    |cons p l=>
     simp only [yI,er,nI,p8] at h;exact .inl (by simp [Instr.findNow,h.1.1,g])
  rcases i with i|rfl
  .rcases Sk (λa b=>n a b w) k f l 0 h with ⟨a,b,c⟩|⟨j,v,a,b,c⟩
   .exact .inl ⟨a,b,by simp [Instr.findKey,run_underlying d,i,c]⟩
   .exact .inr ⟨j,v,a,by simpa [Instr.findKey,run_underlying d,i] using b,c⟩
  .cases l with
   |nil=>exact .inl ⟨rfl,rfl,by simp [Instr.findKey,run_underlying d,Instr.findNow]⟩
   |cons p l=>simp [yI] at h
theorem amR{l:List (κ×ν)}{k:κ}{v:ν}(h:(l.any λp=>k==p.1)=false):iR l k v=l++[(k,v)]:=by
 induction l with
 |nil=>rfl
 |cons p l ih=>
  simp only [List.any_cons,qy] at h;simp [iR,h.1,ih h.2]
end
def omap{κ ν:Type}(ke:κ->Value)(vi:ν->Value)(v:Value)(d:Option (List (κ×ν))):Item where
 own:=Kl v
 P _ w:=rE ke vi w v d
 lt h:=h.lt
 cE h _ k _:=h.cE k
 cV:=false
 hp h:=by cases h
section
variable {κ ν : Type} {ke : κ -> Value} {vi : ν -> Value} {Γ : Ctx} {w : World} {i : Nat}
theorem Sat.omap(h:Sat Γ w){v:Value}{d:Option (List (κ×ν))}(hi:Γ[i]? =some (Go.Proofs.YtdolcddlmodkkaaGreatDoor.omap ke vi v d)):rE ke vi w v d:=h.at_ hi
end
section
variable {κ ν : Type} [BEq κ] {ke : κ -> Value} {vi : ν -> Value}
variable {P : Program} {E : Env} {w : World} {g : Bool}
variable {dst : zu} {ty : TypeId} {pos : String} {af : zw} {gd : zg}
def eI(d:Option (List (κ×ν)))(k:κ)(z:ν):ν:=((d.getD []) |> λl=>j8 l k).getD z
def V1(d:Option (List (κ×ν)))(k:κ):Bool:=(j8 (d.getD []) k).isSome
theorem YP{o t:TypeId}(e:vJ P kt ke)(f:P.underlying t=some (.map kt o)){z:ν}(m:(zeroValue o).run P w= .ok (vi z) w){v:Value}{d:Option (List (κ×ν))}(h:rE ke vi w v d)(k:κ)(ok:Bool):
  (Instr.lookup t v (ke k) ok).run P w= .ok (bif ok then .tuple #[vi (eI d k z),.bool (V1 d k)] else vi (eI d k z)) w:=by
 rcases h with ⟨rfl,rfl⟩|⟨b,p,i,l,rfl,rfl,n,g⟩
 .rcases HK (vi:=vi) e k [] [] rfl w with ⟨a,_,c⟩|⟨j,u,a,_⟩
  .cases ok <;> simp [Instr.lookup,run_underlying f,e.check,c,m,eI,V1,j8,Result.andThen]
  .cases a
 .rcases HK e k p.toList l g w with ⟨a,_,c⟩|⟨j,u,a,c,_⟩
  .cases ok <;> simp [Instr.lookup,run_underlying f,MapKept.run_getObj_map n,e.check,c,m,eI,V1,a,Result.andThen]
  .cases ok <;> simp [Instr.lookup,run_underlying f,MapKept.run_getObj_map n,e.check,c,eI,V1,a,Result.andThen]
theorem akn{e t:TypeId}(l:vJ P kt ke)(j:P.underlying t=some (.map kt e)){z:ν}(f:(zeroValue e).run P w= .ok (vi z) w){v:Value}{d:Option (List (κ×ν))}{k:κ}(hx:aw E g x v)(i:aw E g y (ke k))(h:g=true->rE ke vi w v d):
  bk P E g ⟨dst,.lookup t x y false,ty,pos,af,gd⟩ w (vi (eI d k z)):=λn a c b=>by
 simp [execOp,hx n a c b,i n a c b,YP l j f (h b) k false]
theorem aef{e t:TypeId}(l:vJ P kt ke)(j:P.underlying t=some (.map kt e)){z:ν}(f:(zeroValue e).run P w= .ok (vi z) w){v:Value}{d:Option (List (κ×ν))}{k:κ}(hx:aw E g x v)(i:aw E g y (ke k))(h:g=true->rE ke vi w v d):
  bk P E g ⟨dst,.lookup t x y true,ty,pos,af,gd⟩ w (.tuple #[vi (eI d k z),.bool (V1 d k)]):=λn a c b=>by
 simp [execOp,hx n a c b,i n a c b,YP l j f (h b) k true]
end
section
variable {κ ν : Type} {ke : κ -> Value} {vi : ν -> Value}
variable {P : Program} {ρ : zt} {Q : bD} {n : Nat} {D : zm} {E : Env} {w : World} {ops : zv} {rest : zz} {Γ : Ctx} {i : Nat}
variable {d : Tmp} {ty : TypeId} {pos : String} {af : zw}
variable [BEq κ]
omit [BEq κ] in
theorem asT{a:List MapEntry}{l:List (κ×ν)}(h:yI ke vi a l){j:Nat}(f:MapEntry->MapEntry){k:κ}{u:ν}(g:∀e,a[j]? =some e->((f e).key,(f e).val)=(ke k,vi u)):yI ke vi (a.modify j f) (l.set j (k,u)):=by
 unfold yI at*;have n:a.length=l.length:=by simpa using congrArg List.length h
 apply nc;intro i;have hi:(a.map λe=>(e.key,e.val))[i]? =(l.map λp=>(ke p.1,vi p.2))[i]? :=by rw [h]
 rw [np,np] at hi ⊢;rw [List.getElem?_modify,qK];by_cases c:j=i
 .subst c;by_cases b:j<a.length
  .have m:j<l.length:=by omega
   have d:=g _ (aT b);simp [aT b,m,p8] at d ⊢;exact d
  .rw [cw (by omega)];simp;omega
 .simp only [c,qT];simpa using hi
theorem ZV{z:Operand}{V t:TypeId}{v:zt}{l:List (κ×ν)}{k:κ}{u:ν}(B:vJ P kt ke)(Q:P.underlying t=some (.map kt V))(hx:aw E true x (.map v))(O:aw E true y (ke k))(N:aw E true z (vi u))(T:rE ke vi w (.map v) (some l)):
  ∃w',Uz P E ⟨none,.mapUpdate t x y z,ty,pos,af,none⟩ w w'/\kP (Kl (.map v)) w w'/\w'.heap.size=w.heap.size/\rE ke vi w' (.map v) (some (iR l k u)):=by
 rcases T with ⟨S,M⟩|⟨b,o,f,l',S,M,s,g⟩
 .cases M
 cases S;cases M;have C:=(Array.getElem?_eq_some_iff.1 s).1;have A:∀(h:Array MapEntry) (d:Nat),yI ke vi h.toList (iR l k u)->Uz P E ⟨none,.mapUpdate t x y z,ty,pos,af,none⟩ w { w with heap:=w.heap.setIfInBounds b (.map h d) }->
   ∃w',Uz P E ⟨none,.mapUpdate t x y z,ty,pos,af,none⟩ w w'/\kP (Kl (.map (some b))) w w'/\w'.heap.size=w.heap.size/\rE ke vi w' (.map (some b)) (some (iR l k u)):=λh d r q=>by
  refine ⟨_,q,⟨rfl,rfl,rfl,by simp,λc _ J=>?_⟩,by simp,.inr ⟨b,h,d,_,rfl,rfl,?_,r⟩⟩
  .exact qH (λe=>J (by simp [Kl,e]))
  .simp [C]
 rcases HK B k o.toList l g w with ⟨_,W,c⟩|⟨j,X,_,c,R,p,hp,F,D⟩
 .refine A (o.push { key:=ke k,val:=vi u,born:=f }) (f+1) ?_ ?_
  .rw [amR W];unfold yI at*;simp [g]
  .intro n a i;simp [execOp,hx n a i rfl,O n a i rfl,N n a i rfl,Instr.mapUpdate,run_underlying Q,MapKept.run_getObj_map s,B.check,c,MapKept.run_setObj_map _ s,Result.andThen]
 .obtain ⟨rfl,K⟩:=B.bits k p.1 F;have H:∃e,o.toList[j]? =some e/\e.key=ke p.1:=by
   have L:(o.toList.map λe=>(e.key,e.val))[j]? =(l.map λp=>(ke p.1,vi p.2))[j]? :=by rw [g]
   rw [np,np,hp,aT R] at L;simp only [mj,cH,p8] at L;exact ⟨_,aT R,L.1⟩
  obtain ⟨e,U,G⟩:=H;have I:o[j]? =some e:=by simpa using U
  refine A (o.modify j λe=>{ e with key:=ke p.1,val:=vi u }) f ?_ ?_
  .rw [D,Array.toList_modify];exact asT g _ (λe _=>rfl)
  .have m:Instr.sameBits 10000 e.key (ke p.1)=true:=by rw [G];exact K
   intro n a i;simp [execOp,hx n a i rfl,O n a i rfl,N n a i rfl,Instr.mapUpdate,run_underlying Q,MapKept.run_getObj_map s,B.check,c,MapKept.run_setObj_map _ s,Result.andThen,I,Instr.keyThatStays,m]
end
end Go.Proofs.YtdolcddlmodkkaaGreatDoor
