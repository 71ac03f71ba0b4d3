/- Own texts for NestArgsQ, cut and joined by a program. -/
import Derived.WalkKit
import Derived.ScopeJumps
import Derived.Deep.Quiet
import Derived.KernelRfl
import Derived.TacticsIn
import Derived.OrdersIn
import Derived.RangeFuncRecord
import Derived.Laws.BytesArg
import Derived.Laws.IdiomStrings
import Derived.Laws.Cover3
import Derived.Laws.Shifts
import Derived.Laws.BitsAllLaws
import Derived.Lib.AppendZerosOnto
import Derived.Lib.Overlaps
set_option linter.all false
namespace Go.Proofs.YtcgihjbfppkcfaaGreatDoor
open IntKind (i64 u32 u64 u8)
abbrev zm:=List Nat
abbrev zl:=List Int
abbrev zk:=List Bool
abbrev zj:=List Oper
abbrev zi:=Array Bool
abbrev zh:=Array Edge
abbrev zg:=Array Oper
abbrev zf:=Option Tmp
abbrev ze:=Option Nat
abbrev zd:=Option Int
abbrev zc:=List Value
abbrev zb:=Array Value
abbrev za:=Option Bool
abbrev y2:=List Operand
abbrev x3:=List Deferred
abbrev xc:=Except Int Int
abbrev xb:=List (Int×Int)
abbrev xa:=List PanicEntry
abbrev w8:=List (List Int)
abbrev w5:=List (Option Nat)
abbrev w4:=Option (Nat × Bool)
abbrev wi:=List (Option TypeId)
abbrev au:=@Bool.and_eq_true
abbrev b0:=@Nat.eq_of_beq_eq_true
abbrev b7:=@cond_false
abbrev b9:=@List.getElem?_eq_getElem
abbrev ca:=@cond_true
abbrev cb:=@decide_eq_true
abbrev cp:=@List.mem_cons_of_mem
abbrev cx:=@List.append_assoc
abbrev cy:=@decide_eq_false
abbrev cK:=@Nat.le_refl
abbrev c8:=@List.mem_cons_self
abbrev c9:=@List.getElem_mem
abbrev de:=@List.getElem?_append_right
abbrev dk:=@if_neg
abbrev dq:=@List.length_take
abbrev du:=@if_pos
abbrev dx:=@Nat.le_trans
abbrev eb:=@List.length_cons
abbrev ec:=@List.getElem?_append_left
abbrev ei:=@Nat.le_of_ble_eq_true
abbrev ej:=@Option.some.injEq
abbrev er:=@decide_eq_true_eq
abbrev et:=@List.eq_nil_of_length_eq_zero
abbrev eF:=@List.length_append
abbrev eT:=@Bool.false_eq_true
abbrev eZ:=@Bool.or_eq_true
abbrev e9:=@List.map_cons
abbrev fb:=@List.take_of_length_le
abbrev fi:=@Array.length_toList
abbrev fj:=@Bool.true_and
abbrev fm:=@List.mem_of_getElem?
abbrev gj:=@Option.some.inj
abbrev gr:=@Nat.lt_of_lt_of_le
abbrev gx:=@Int.toNat_natCast
abbrev gy:=@List.mem_append_right
abbrev hU:=@List.getElem?_cons_succ
abbrev hV:=@Nat.mul_le_mul_right
abbrev iN:=@Bool.not_false
abbrev iQ:=@Nat.min_eq_left
abbrev j0:=@List.length_drop
abbrev j5:=@Nat.blt_eq
abbrev j6:=@Nat.le_succ
abbrev ko:=@List.append_nil
abbrev lk:=@Bool.false_and
abbrev l5:=@Bool.or_eq_false_iff
abbrev l7:=@Nat.lt_succ_self
abbrev l9:=@Bool.not_eq_true'
abbrev ma:=@List.getElem?_eq_none
abbrev mi:=@List.mem_singleton
abbrev mj:=@Option.map_some
abbrev mm:=@List.ext_getElem?
abbrev mE:=@Bool.false_or
abbrev mN:=@Nat.zero_add
abbrev nA:=@List.getElem?_eq_some_iff
abbrev nI:=@List.length_map
abbrev nJ:=@List.drop_eq_getElem_cons
abbrev n4:=@List.take_succ_eq_append_getElem
abbrev n6:=@beq_iff_eq
abbrev n9:=@List.drop_zero
abbrev oi:=@List.mem_iff_getElem?
abbrev o5:=@Nat.lt_irrefl
abbrev py:=@Bool.not_true
abbrev pA:=@decide_eq_false_iff_not
abbrev pF:=@Nat.zero_le
abbrev p5:=@List.nil_append
abbrev qa:=@List.cons.injEq
abbrev qb:=@List.cons_append
abbrev qc:=@Int.le_refl
abbrev qd:=@List.count_append
abbrev qe:=@List.mem_cons
abbrev qf:=@List.length_nil
abbrev qg:=@List.drop_eq_nil_of_le
abbrev qh:=@beq_self_eq_true
abbrev qi:=@List.size_toArray
abbrev qj:=@Bool.eq_false_iff
abbrev qk:=@List.getElem?_take
abbrev ql:=@List.getElem?_cons_zero
abbrev qm:=@Int.eq_ofNat_of_zero_le
abbrev qn:=@if_false
abbrev qo:=@List.all_eq_true
abbrev qp:=@List.all_cons
abbrev qq:=@Nat.add_mul
abbrev qt:=@List.getElem?_map
abbrev qu:=@List.take_add_one
abbrev qv:=@List.take_append_drop
abbrev qw:=@List.getElem?_drop
abbrev qx:=@List.take_length
abbrev qy:=@List.drop_take
abbrev qz:=@List.drop_drop
abbrev qA:=@List.mem_append_left
abbrev qB:=@of_decide_eq_true
abbrev qC:=@Bool.eq_iff_iff
abbrev qD:=@beq_eq_false_iff_ne
abbrev qE:=@Nat.lt_or_ge
abbrev qF:=@List.not_mem_nil
abbrev qG:=@Option.getD_some
abbrev qH:=@List.take_take
abbrev qI:=@Nat.ble_eq_true_of_le
abbrev qJ:=@List.singleton_append
abbrev qK:=@Bool.and_false
abbrev qL:=@Nat.succ_mul
abbrev qM:=@List.length_set
abbrev qN:=@List.getElem?_set_ne
abbrev qO:=@List.flatMap_cons
abbrev qP:=@List.replicate_succ
abbrev qQ:=@List.map_congr_left
abbrev qR:=@List.getElem_of_mem
abbrev qS:=@Nat.le_add_right
abbrev qT:=@Nat.mod_lt
abbrev qU:=@if_true
abbrev qV:=@List.length_filter_le
abbrev qW:=@Array.size_append
abbrev qX:=@List.mem_of_mem_take
abbrev qY:=@List.mem_of_mem_drop
abbrev qZ:=@List.nodup_nil
abbrev q0:=@List.suffix_cons
abbrev q5:=@List.take_succ_cons
abbrev q6:=@Option.bind_eq_some_iff
abbrev q7:=@Prod.mk.injEq
abbrev q8:=@Nat.add_assoc
abbrev q9:=@Bool.and_self
abbrev rJ:=@List.map_append
abbrev si:=@List.drop_of_length_le
abbrev sj:=@List.getElem?_set_self
abbrev so:=@Array.getElem?_toList
abbrev sv:=@List.set_append_right
abbrev s5:=@UInt8.le_iff_toNat_le
abbrev s6:=@List.takeWhile_prefix
abbrev s7:=@List.ext_getElem
abbrev tj:=@List.filter_cons
abbrev tt:=@List.getElem?_append
abbrev tw:=@List.prefix_refl
abbrev tx:=@Array.empty_append
abbrev tA:=@Bool.or_self
abbrev tJ:=@List.take_left
abbrev ua:=@List.take_zero
abbrev ub:=@dif_pos
abbrev uc:=@List.take_append
abbrev u9:=@Bool.not_eq_true
abbrev vb:=@List.tail_suffix
abbrev vc:=@Array.getElem?_modify
abbrev vy:=@List.length_replicate
abbrev v7:=@Bool.true_or
abbrev wb:=@Array.size_replicate
variable {K : Act -> World -> Prop} {R : Ending -> World -> Prop} {i : Nat} {o : Oper}
abbrev aE:=List UInt8
def S(l:aE):Value:= .string ⟨l.toArray⟩
noncomputable def aj{σ ρ:Type}(F:(σ->Option ρ)->σ->Option ρ)(n:Nat):σ->Option ρ:=Nat.rec (λ_=>none) (λ_ ih s=>F ih s) n
theorem ao{σ ρ:Type}{F:(σ->Option ρ)->σ->Option ρ}{n:Nat}{s:σ}:aj F (n+1) s=F (aj F n) s:=rfl
def an:Nat:=2^64
def aN{ρ:Type}(c:Bool)(k:Option ρ):Option ρ:=bif c then k else none
def ai{α ρ:Type}(x:α)(k:α->Option ρ):Option ρ:=k x
def bm{α ρ:Type}(g:Bool)(d:α)(m:Option α)(k:α->Option ρ):Option ρ:=(bif g then m else some d).bind k
theorem jz{ρ:Type}{c:Bool}{k:Option ρ}{r:ρ}(h:aN c k=some r):c=true/\k=some r:=by
 cases c
 .cases h
 .exact ⟨rfl,h⟩
theorem iJ{α ρ:Type}{m:Option α}{k:α->Option ρ}{r:ρ}(h:m.bind k=some r):∃y,m=some y/\k y=some r:=by
 cases m with
 |none=>cases h
 |some y=>exact ⟨y,rfl,h⟩
theorem Vd{α ρ:Type}{g:Bool}{d:α}{m:Option α}{k:α->Option ρ}{r:ρ}(h:bm g d m k=some r):
  ∃y,(g=true->m=some y)/\(g=false->y=d)/\k y=some r:=by
 cases g
 .exact ⟨d,(λh=>by cases h),λ_=>rfl,h⟩
 .obtain ⟨y,a,hk⟩:=iJ h;grind
theorem wK{ρ:Type}{c:Bool}{x y:Option ρ}{r:ρ}(h:(bif c then x else y)=some r):
  (c=true/\x=some r)\/(c=false/\y=some r):=by
 grind
theorem ov{α ρ:Type}{d:α}{m:Option α}{k:α->Option ρ}{r:ρ}(h:bm true d m k=some r):∃y,m=some y/\k y=some r:=iJ h
def JR{ρ:Type}(g c:Bool)(k:Option ρ):Option ρ:=bif g then (bif c then k else none) else k
theorem aks{ρ:Type}{g c:Bool}{k:Option ρ}{r:ρ}(h:JR g c k=some r):(g=true->c=true)/\k=some r:=by
 cases g
 .exact ⟨(λh=>by cases h),h⟩
 .obtain ⟨b,a⟩:=jz h;grind
theorem NO{σ ρ:Type}{F:(σ->Option ρ)->σ->Option ρ}{n:Nat}{s:σ}{r:ρ}(h:aj F n s=some r):
  ∃m,n=m+1/\F (aj F m) s=some r:=by
 cases n with
 |zero=>cases h
 |succ m=>exact ⟨m,rfl,h⟩
abbrev Env:=List (Nat×Bool×Value)
def look:Env->Nat->Option (Bool×Value)
 |[],_=>none
 |(r,g,v)::E,t=>bif Nat.beq r t then some (g,v) else look E t
def CC(g:Bool)(v:Value):Value:=bif g then v else undef
structure Fits(n:Nat)(E:Env)(a:Act):Prop where
 size:a.tmps.size=n
 at_:∀t g v,look E t=some (g,v)->a.tmps.getD t undef=CC g v
def ar(E:Env)(g:Bool)(x:Operand)(v:Value):Prop:=
 ∀n a,Fits n E a->g=true->a.eval x=v
theorem ar.t{E:Env}{g:Bool}{t:Tmp}{v:Value}(h:look E t=some (true,v)):ar E g (.tmp t) v:=
 λn a b _=>by simpa [CC,Act.eval] using b.at_ t true v h
theorem ar.g{E:Env}{g b:Bool}{t:Tmp}{v:Value}(h:look E t=some (b,v))(e:g=true->b=true):ar E g (.tmp t) v:=
 λn a d c=>by have:=d.at_ t b v h;grind [CC,Act.eval]
theorem ar.c{E:Env}{g:Bool}{v:Value}:ar E g (.const v) v:=λ_ _ _ _=>rfl
theorem ar.f{E:Env}{g:Bool}{f:FuncId}:ar E g (.func f) (.func (.func f) #[] #[]):=λ_ _ _ _=>rfl
theorem ar.gl{E:Env}{g:Bool}{f:Nat}:ar E g (.global f) (.pointer (some ⟨f,0,none⟩)):=λ_ _ _ _=>rfl
inductive kr(E:Env)(g:Bool):y2->zc->Prop
 |nil:kr E g [] []
 |cons {x v xs vs}:ar E g x v->kr E g xs vs->kr E g (x::xs) (v::vs)
theorem kr.map{E:Env}{g:Bool}{xs:y2}{vs:zc}(h:kr E g xs vs){n:Nat}{a:Act}(c:Fits n E a)(b:g=true):
  xs.map a.eval=vs:=by
 induction h with
 |nil=>rfl
 |cons hx _ ih=>simp [hx n a c b,ih]
def put(dst:zf)(g:Bool)(v:Value)(E:Env):Env:=
 match dst with
 |some d=>(d,g,v)::E
 |none=>E
theorem Oe(xs:zb)(i j:Nat)(v:Value):
  (xs.setIfInBounds i v).getD j undef=if i=j/\i<xs.size then v else xs.getD j undef:=by
 simp;grind
theorem Fits.put{n:Nat}{E:Env}{a:Act}(h:Fits n E a){d:Tmp}{g:Bool}{v:Value}(hd:Nat.blt d n=true):
  Fits n ((d,g,v)::E) (a.put (some d) (CC g v)):=by
 have c  :=by simpa using hd
 refine ⟨by simp [Act.put,h.size],λt f e ht=>?_⟩;simp only [Act.put,Oe,h.size,c,and_true];simp [look] at ht;by_cases b:d=t
 .simp_all
 .have:Nat.beq d t=false:=by grind [Nat.beq,absurd,Nat.eq_of_beq_eq_true]
  rw [this,b7] at ht;rw [dk b];exact h.at_ t f e ht
abbrev bh:=Exit->Act->World->Prop
def FW(ρ:ze):Fence:={ fn:=λ_=>True,depth:=none,alive:=false,round:=ρ }
theorem J3{ρ:ze}{p:Prop}:(FW ρ).depth.isSome=true->p:=λh=>by cases h
theorem yN{ρ:ze}{P:Program}{m:Machine}:m.fenced P (FW ρ):=fenced_wide P m
theorem S7{ρ:ze}{n:Nat}{P:Program}{f:FuncId}{args:zb}{w:World}(h:Calls P f args w R):CallsIn (FW ρ) n P f args w R:=
 callsIn_wide.2 h
theorem adE{ρ:ze}{n:Nat}{P:Program}{f:FuncId}{args:zb}{w:World}(h:CallsIn (FW ρ) n P f args w R):Calls P f args w R:=
 callsIn_wide.1 h
def At(Q:bh)(e:Exit)(n:Nat)(D:x3)(E:Env)(w:World):Prop:=
 ∀a,Fits n E a->a.defers=D->Q e a w
def WC(P:Program)(ρ:ze)(c:Code)(Q:bh)(n:Nat)(D:x3)(E:Env)(w:World):Prop:=
 ∀a,Fits n E a->a.defers=D->c.wpIn (FW ρ) 0 P Q a w
def WL(P:Program)(ρ:ze)(ops:zg)(Q:bh)(n:Nat)(D:x3)(l:zj)(E:Env)(w:World):Prop:=
 ∀a,Fits n E a->a.defers=D->wpListIn (FW ρ) 0 P ops Q l a w
section
variable {P : Program} {ρ : ze} {Q : bh} {n : Nat} {D : x3} {E : Env} {w : World}
theorem bq{x y:Code}(h:WC P ρ x (Exit.then (y.wpIn (FW ρ) 0 P Q) Q) n D E w):WC P ρ (.seq x y) Q n D E w:=
 λa b hd=>wpIn_seq (h a b hd)
theorem aZ{y:Code}(h:WC P ρ y Q n D E w):At (Exit.then (y.wpIn (FW ρ) 0 P Q) Q) .normal n D E w:=h
theorem vW(h:At Q .ret n D E w):At (Exit.then K Q) .ret n D E w:=h
theorem LL{i:xa}(h:At Q (.panic i) n D E w):At (Exit.then K Q) (.panic i) n D E w:=h
theorem YF(h:At Q .normal n D E w):At (Exit.inBlock i Q) .normal n D E w:=h
theorem afQ(h:At Q .ret n D E w):At (Exit.inBlock i Q) .ret n D E w:=h
theorem adq{j:Nat}(h:At Q (.goto j) n D E w):At (Exit.inBlock i Q) (.goto j) n D E w:=h
theorem MU{j:xa}(h:At Q (.panic j) n D E w):At (Exit.inBlock i Q) (.panic j) n D E w:=h
theorem acV(h:At Q .normal n D E w):At (Exit.inBlock i Q) (.exit i) n D E w:=
 λa b hd=>by simp [Exit.inBlock];exact h a b hd
theorem aaE{j:Nat}(b:Nat.beq j i=false)(h:At Q (.exit j) n D E w):At (Exit.inBlock i Q) (.exit j) n D E w:=
 λa c hd=>by
  have:¬j=i:=λe=>by subst e;simp at b
  simp [Exit.inBlock,dk this];exact h a c hd
theorem u5(h:At Q .normal n D E w):WC P ρ .skip Q n D E w:=λa b hd=>wpIn_skip (h a b hd)
theorem aak{l:Nat}(h:At Q .normal n D E w):WC P ρ (.label l) Q n D E w:=λa b hd=>wpIn_label (h a b hd)
theorem Ws(h:At Q (.exit i) n D E w):WC P ρ (.exit i) Q n D E w:=λa b hd=>wpIn_exit (h a b hd)
theorem aeq(h:At Q (.goto i) n D E w):WC P ρ (.goto i) Q n D E w:=λa b hd=>wpIn_goto (h a b hd)
theorem BY(h:At Q .ret n D E w):WC P ρ .ret Q n D E w:=λa b hd=>wpIn_ret (h a b hd)
theorem RD{c:Code}(h:WC P ρ c (Exit.inBlock i Q) n D E w):WC P ρ (.block i c) Q n D E w:=λa b hd=>wpIn_block (h a b hd)
theorem bp{id:Nat}{l:zj}(h:WL P ρ l.toArray Q n D l E w):WC P ρ (.region id l.toArray false) Q n D E w:=
 λa b hd=>wpIn_region_lit (h a b hd)
theorem lj{c:Operand}{x y:Code}{b:Bool}(f:ar E true c (.bool b))
  (ht:b=true->WC P ρ x Q n D E w) (e:b=false->WC P ρ y Q n D E w):WC P ρ (.cond c x y) Q n D E w:=
 λa d hd=>wpIn_cond_split (f n a d rfl) (λh=>ht h a d hd) (λh=>e h a d hd)
def Sq{γ:Type}(J:γ->World->Prop)(Es:γ->Env)(n:Nat)(D:x3)(a:Act)(w:World):Prop:=
 ∃g,J g w/\Fits n (Es g) a/\a.defers=D
theorem ag0{γ:Type}(J:γ->World->Prop)(b:γ->Env){x y:Code}
  (c:∀g w',J g w'->WC P ρ y Q n D (b g) w') (hx:WC P ρ x (Exit.then (Sq J b n D) Q) n D E w):WC P ρ (.seq x y) Q n D E w:=
 λa d hd=>wpIn_seq (wpIn_mono (hx a d hd) (λe k w' h=>by cases e <;> first|exact h|(obtain ⟨g,f,i,j⟩:=h;exact c g w' f k i j)))
theorem IG{c:Code}(I:Nat->Act->World->Prop){a:Act}{w:World}(N:Nat)(q:I N a w)
  (round:∀m a w,I m a w->c.wpIn (FW ρ) 0 P (Exit.then (λo w'=>∃t<m,I t o w') Q) a w):(Code.loop c).wpIn (FW ρ) 0 P Q a w:=by
 intro b k cs u hb x;have key:∀m a w,I m a w->
   ∃e o w',Q e o w'/\ArrivesIn (Machine.fenced P (FW ρ)) P (lone (b.atR a (.code c:: .inLoop c::k)) cs w) b k cs e o w':=by
  intro m
  induction m using Nat.strongRecOn with
  |_ m ih=>
   intro a w hI;obtain ⟨e,g,f,i,d⟩:=round m a w hI b (.inLoop c::k) cs u hb x;cases e with
   |normal=>
    obtain ⟨t,v,n⟩:=i;obtain ⟨r,s,p,j,h⟩:=ih t v g f n;exact ⟨r,s,p,j,.of_steps (StepsIn.trans d (.one yN stepR_inLoop)) h⟩
   |exit id=>exact ⟨_,g,f,i,.pass rfl (λ_ _=> .inl (by simp)) d⟩
   |goto l=>exact ⟨_,g,f,i,.pass rfl (λ_ _=> .inl (by simp)) d⟩
   |ret=>exact ⟨_,g,f,i,.pass rfl (λ_ _=> .inl (by simp)) d⟩
   |panic ch=>exact ⟨_,g,f,i,.pass rfl (λ_ _=> .inl (by simp)) d⟩
   |outgrown=>exact ⟨_,g,f,i,.pass rfl (λ_ _=> .inl (by simp)) d⟩
 obtain ⟨e,o,w',i,d⟩:=key N a w q;exact ⟨e,o,w',i,.of_steps (.one yN stepR_loop) d⟩
def OS{σ γ τ:Type}(again:σ->Option τ)(r:τ)(J:σ->γ->World->Prop)(Es:σ->γ->Env)(n:Nat)(D:x3)(a:Act)(w:World):Prop:=
 ∃s g,again s=some r/\J s g w/\Fits n (Es s g) a/\a.defers=D
theorem rM{b:Frame}{a:Act}{k:List Item}{cs:List Frame}{c:Code}:step P (lone (b.atR a (.code (.scope c)::k)) cs w)= .next (lone (b.atR a (.code c:: .inScope c::k)) cs w):=
 step_lone_go (by simp [stepG,stepG.exec,Frame.atR])
theorem Wd{b:Frame}{a:Act}{k:List Item}{cs:List Frame}{c:Code}:step P (lone (b.atR a (.inScope c::k)) cs w)= .next (lone (b.atR a k) cs w):=
 step_lone_go (by simp [stepG,stepG.exec,Frame.atR])
theorem Ua{c rest:Code}(l:Nat)(J:Nat->Act->World->Prop){a:Act}{w:World}(E:findLabel c l=some rest)
  (first:c.wpIn (FW ρ) 0 P (Exit.jump l (λa w=>∃m,J m a w) Q) a w)
  (t:∀m a w,J m a w->rest.wpIn (FW ρ) 0 P (Exit.jump l (λv w'=>∃x<m,J x v w') Q) a w):(Code.scope c).wpIn (FW ρ) 0 P Q a w:=by
 intro b k cs u hb A;have B:gotoIn l (.inScope c::k)=some (.code rest:: .inScope c::k):=by simp [gotoIn,E]
 have out:∀{p:Machine} {e:Exit} {f:Act} {d:World},(∀l',e≠ .goto l')->ArrivesIn (Machine.fenced P (FW ρ)) P p b (.inScope c::k) cs e f d->ArrivesIn (Machine.fenced P (FW ρ)) P p b k cs e f d:=by
  intro p e f d D h;cases e with
  |normal=>exact StepsIn.trans h (.one yN Wd)
  |exit id=>exact ⟨λC hk=>h.1 C (by exact hk),λy hk=>h.2 y (by exact hk)⟩
  |goto l'=>grind
  |ret=>exact h
  |panic ch=>exact h
  |outgrown=>exact h
 have key:∀m a w,J m a w->∃e v w',Q e v w'/\ArrivesIn (Machine.fenced P (FW ρ)) P (lone (b.atR a (.code rest:: .inScope c::k)) cs w) b k cs e v w':=by
  intro m
  induction m using Nat.strongRecOn with
  |_ m ih=>
   intro a w F;obtain ⟨e,f,d,n,g⟩:=t m a w F b (.inScope c::k) cs u hb A;cases e with
   |normal=>exact ⟨.normal,f,d,n,out (by simp) g⟩
   |exit id=>exact ⟨.exit id,f,d,n,out (by simp) g⟩
   |goto l'=>
    obtain ⟨rfl,x,z,s⟩:=n;obtain ⟨q,r,o,j,i⟩:=ih x z f d s;exact ⟨q,r,o,j,.of_steps (g.1 _ B) i⟩
   |ret=>exact ⟨_,f,d,n,out (by simp) g⟩
   |panic ch=>exact ⟨_,f,d,n,out (by simp) g⟩
   |outgrown=>exact ⟨_,f,d,n,out (by simp) g⟩
 obtain ⟨e,f,d,n,g⟩:=first b (.inScope c::k) cs u hb A;cases e with
 |normal=>exact ⟨.normal,f,d,n,.of_steps (.one yN rM) (out (by simp) g)⟩
 |exit id=>exact ⟨.exit id,f,d,n,.of_steps (.one yN rM) (out (by simp) g)⟩
 |goto l'=>
  obtain ⟨rfl,m,s⟩:=n;obtain ⟨q,r,o,j,i⟩:=key m f d s;exact ⟨q,r,o,j,.of_steps (.head yN rM (g.1 _ B)) i⟩
 |ret=>exact ⟨_,f,d,n,.of_steps (.one yN rM) (out (by simp) g)⟩
 |panic ch=>exact ⟨_,f,d,n,.of_steps (.one yN rM) (out (by simp) g)⟩
 |outgrown=>exact ⟨_,f,d,n,.of_steps (.one yN rM) (out (by simp) g)⟩
end
def RE(S:Value->World->Prop)(Sp:xa->World->Prop):Ending->World->Prop
 | .returned v,w=>S v w
 | .panicked c,w=>Sp c w
 | .outgrown,_=>False
def o8(P:Program)(f:FuncId)(args:zc)(w:World)(S:Value->World->Prop)(Sp:xa->World->Prop):Prop:=
 Calls P f args.toArray w (RE S Sp)
abbrev jJ(P:Program)(f:FuncId)(args:zc)(w:World)(S:Value->World->Prop):Prop:=o8 P f args w S (λ_ _=>False)
theorem o8.mono{P:Program}{f:FuncId}{args:zc}{w:World}{S d:Value->World->Prop}{Sp a:xa->World->Prop}(h:o8 P f args w S Sp)
  (g:∀v w',S v w'->d v w') (hp:∀v w',Sp v w'->a v w'):o8 P f args w d a:=
 Calls.mono h λe w' b=>by
  cases e with
  |returned v=>exact g _ _ b
  |panicked c=>exact hp _ _ b
  |outgrown=>exact b
theorem jJ.mono{P:Program}{f:FuncId}{args:zc}{w:World}{S a:Value->World->Prop}(h:jJ P f args w S)
  (b:∀v w',S v w'->a v w'):jJ P f args w a:=o8.mono h b (λ_ _ h=>h)
def iota:Nat->zc->Env
 |_,[]=>[]
 |k,v::vs=>(k,true,v)::iota (k+1) vs
theorem Nr:∀(vs:zc) (k t:Nat) (g:Bool) (v:Value),look (iota k vs) t=some (g,v)->∃j,t=k+j/\vs[j]? =some v/\g=true
 |[],_,_,_,_,h=>by cases h
 |u::vs,k,t,g,v,h=>by
  simp [iota,look] at h;cases hb:Nat.beq k t with
  |true=>
   simp_all
  |false=>
   rw [hb,b7] at h;obtain ⟨j,c,a,b⟩:=Nr vs (k+1) t g v h;exact ⟨j+1,by omega,by simpa using a,b⟩
abbrev BP(P:Program)(fn:Func)(S:Value->World->Prop)(Sp:xa->World->Prop):bh:=bodyPostM (FW none) 0 P fn (RE S Sp)
theorem nB{P:Program}{f:FuncId}{fn:Func}{c:Code}{vs:zc}{w:World}{n:Nat}{S:Value->World->Prop}{Sp:xa->World->Prop}
  (a:P.funcs[f]? =some fn) (hb:fn.body=some c) (hn:fn.ntmps=n) (hl:Nat.ble vs.length n=true)
  (h:WC P none c (BP P fn S Sp) n [] (iota 0 vs) w):o8 P f vs w S Sp:=by
 refine adE (callsIn_of_wp_marks a hb trivial (h _ ⟨?_,λt g v ht=>?_⟩ rfl))
 .simp_all
 .obtain ⟨j,rfl,b,rfl⟩:=Nr vs 0 t g v ht;have d:j<vs.length:=by grind
  simp_all [CC,Array.getElem?_append_left]
def bc(P:Program)(E:Env)(g:Bool)(o:Oper)(w:World)(v:Value):Prop:=
 ∀n a,Fits n E a->g=true->(execOp a.eval o).run P w= .ok (.value v) w
theorem bc.XH{P:Program}{E:Env}{g:Bool}{w:World}{x y:Bool}(h:bc P E g o w (.bool x))(e:x=y):bc P E g o w (.bool y):=e▸h
theorem bc.Yj{P:Program}{E:Env}{g:Bool}{w:World}{k:IntKind}{x y:Int}(h:bc P E g o w (.int k x))(e:x=y):bc P E g o w (.int k y):=e▸h
section
variable {P : Program} {ρ : ze} {Q : bh} {n : Nat} {D : x3} {E : Env} {w : World} {ops : zg} {rest : zj}
theorem cg(h:At Q .normal n D E w):WL P ρ ops Q n D [] E w:=λa b hd=>wpListIn_nil (h a b hd)
def kg(o:Oper):Bool:=match o.op with
 | .defer _=>false
 |_=>true
theorem Lc(h:kg o=true)(ev:Operand->Value):o.semAt ρ ev=execOp ev o:=by
 cases ρ with
 |none=>rfl
 |some l=>grind [Oper.semAt_some,kg]
theorem oy(hp:kg o=true){a:Act}{next:Act->World->Prop}(h:o.uponIn (FW ρ) 0 P a next Q ((execOp a.eval o).run P w)):o.wpIn (FW ρ) 0 P a w next Q:=
 ⟨λ_ _=>trivial,by rw [show (FW ρ).round=ρ from rfl,Lc hp];exact h⟩
theorem aL{o:Oper}{d:Tmp}{v:Value}(c:bc P E true o w v)(hp:kg o=true)(e:o.guard=none)(hd:o.dst=some d)(hn:Nat.blt d n=true)
  (h:WL P ρ ops Q n D rest ((d,true,v)::E) w):WL P ρ ops Q n D (o::rest) E w:=λa b g=>
 wpListIn_plain e λK f=>oy hp (by rw [c n a b rfl,Oper.uponIn_value,hd];exact f _ _ (h _ (b.put hn) g))
theorem G0{j:Nat}{b:Bool}{rj:Tmp}{c d:Bool}{a:Act}(h:o.guard=some (j,b))(g:(ops[j]?).bind (·.dst)=some rj)
  (hl:look E rj=some (c,.bool d)) (e:Fits n E a) (hn:Nat.blt rj n=true):Region.wanted o (yielded ops a.tmps)=(c&&(d==b)):=by
 have f:rj<a.tmps.size:=by rw [e.size];simpa using hn
 have k:=e.at_ rj c _ hl;have i:a.tmps[rj]? =some (CC c (.bool d)):=by simp_all
 grind [Region.wanted,yielded,CC,undef]
end
variable {fo : Operand} {k : IntKind} {m : Int} {t' : TypeId} {tys : Array TypeId} {v : Value} {vs : zc} {x y : Operand}
section
variable {P : Program} {E : Env} {g : Bool} {w : World} {dst : zf} {ty : TypeId} {pos : String} {af : zh} {gd : w4}
theorem aM(hx:ar E g x v):bc P E g ⟨dst,.move x,ty,pos,af,gd⟩ w v:=
 λn a c b=>by simp only [execOp,hx n a c b];rfl
theorem dp(hx:ar E g x v):bc P E g ⟨dst,.assign x,ty,pos,af,gd⟩ w v:=
 λn a c b=>by simp only [execOp,hx n a c b];rfl
theorem apb{c:Operand}{b y:Bool}(f:ar E g c (.bool b))(hx:ar E (g&&b) x (.bool y)):
  bc P E g ⟨dst,.pick c x (.const (.bool false)),ty,pos,af,gd⟩ w (.bool (b&&y)):=
 λn a d e=>by
  subst e;simp [execOp,f n a d rfl];cases b
  .rfl
  .simp [hx n a d rfl];rfl
theorem aqN{c:Operand}{b y:Bool}(f:ar E g c (.bool b))(hx:ar E (g&& !b) x (.bool y)):
  bc P E g ⟨dst,.pick c (.const (.bool true)) x,ty,pos,af,gd⟩ w (.bool (b||y)):=
 λn a d e=>by
  subst e;simp [execOp,f n a d rfl];cases b
  .simp [hx n a d rfl];rfl
  .rfl
theorem Zy{b:Bool}{t:TypeId}(hx:ar E g x (.bool b)):bc P E g ⟨dst,.unOp .not t x,ty,pos,af,gd⟩ w (.bool (!b)):=
 λn a d c=>by simp [execOp,hx n a d c];rfl
theorem aoR{t:TypeId}(hx:ar E g x (.int k m)):bc P E g ⟨dst,.unOp .neg t x,ty,pos,af,gd⟩ w (.int k (k.wrap (0-m))):=
 λn a c b=>by simp only [execOp,hx n a c b];rfl
theorem cD{op:BinOp}{u z:Value}{t:TypeId}(hx:ar E g x u)(d:ar E g y v)
  (h:(do eqGuard op t x y u v;binOp op t u v:Sem Value).run P w= .ok z w):bc P E g ⟨dst,.binOp op t x y t',ty,pos,af,gd⟩ w z:=
 λn a c b=>by simp only [execOp,hx n a c b,d n a c b,Sem.run_bind] at h ⊢;simp_all
def ajk:Value->Bool
 | .nilIface=>false
 | .agg _=>false
 |_=>true
theorem gX{op:BinOp}{t:TypeId}{u:Value}(a:ajk u=true):(eqGuard op t x y u v).run P w= .ok () w:=by unfold eqGuard;cases op <;> simp <;> (split <;> simp_all [ajk])
theorem xz{l:Int}{t:TypeId}(hx:ar E g x (.int k m))(a:ar E g y (.int k l)):
  bc P E g ⟨dst,.binOp .add t x y t',ty,pos,af,gd⟩ w (.int k (k.wrap (m+l))):=cD hx a (by simp [eqGuard,binOp,Op.intArith])
theorem ae5{l:Int}{t:TypeId}(hx:ar E g x (.int k m))(a:ar E g y (.int k l)):
  bc P E g ⟨dst,.binOp .sub t x y t',ty,pos,af,gd⟩ w (.int k (k.wrap (m-l))):=cD hx a (by simp [eqGuard,binOp,Op.intArith])
theorem aqw{l:Int}{t:TypeId}(hx:ar E g x (.int k m))(a:ar E g y (.int k l)):
  bc P E g ⟨dst,.binOp .mul t x y t',ty,pos,af,gd⟩ w (.int k (k.wrap (m*l))):=cD hx a (by simp [eqGuard,binOp,Op.intArith])
theorem apq{l:Int}{t:TypeId}(hx:ar E g x (.int k m))(a:ar E g y (.int k l))(b:(l==0)=false):
  bc P E g ⟨dst,.binOp .quo t x y t',ty,pos,af,gd⟩ w (.int k (k.wrap (m.tdiv l))):=cD hx a (by simp_all [eqGuard,binOp,Op.intDiv])
theorem apw{l:Int}{t:TypeId}(hx:ar E g x (.int k m))(a:ar E g y (.int k l))(b:(l==0)=false):
  bc P E g ⟨dst,.binOp .rem t x y t',ty,pos,af,gd⟩ w (.int k (m.tmod l)):=cD hx a (by simp_all [eqGuard,binOp,Op.intDiv])
theorem xu{l:Int}{t:TypeId}(hx:ar E g x (.int k m))(a:ar E g y (.int k l)):
  bc P E g ⟨dst,.binOp .eql t x y t',ty,pos,af,gd⟩ w (.bool (m==l)):=cD hx a (by simp [eqGuard,binOp,Op.intCmp])
theorem aqq{l:Int}{t:TypeId}(hx:ar E g x (.int k m))(a:ar E g y (.int k l)):
  bc P E g ⟨dst,.binOp .neq t x y t',ty,pos,af,gd⟩ w (.bool (m != l)):=cD hx a (by simp [eqGuard,binOp,Op.intCmp])
theorem aee{l:Int}{t:TypeId}(hx:ar E g x (.int k m))(a:ar E g y (.int k l)):
  bc P E g ⟨dst,.binOp .lss t x y t',ty,pos,af,gd⟩ w (.bool (decide (m<l))):=cD hx a (by simp [eqGuard,binOp,Op.intCmp])
theorem api{l:Int}{t:TypeId}(hx:ar E g x (.int k m))(a:ar E g y (.int k l)):
  bc P E g ⟨dst,.binOp .leq t x y t',ty,pos,af,gd⟩ w (.bool (decide (m<=l))):=cD hx a (by simp [eqGuard,binOp,Op.intCmp])
theorem WX{l:Int}{t:TypeId}(hx:ar E g x (.int k m))(a:ar E g y (.int k l)):
  bc P E g ⟨dst,.binOp .gtr t x y t',ty,pos,af,gd⟩ w (.bool (decide (l<m))):=cD hx a (by simp [eqGuard,binOp,Op.intCmp])
theorem aqh{l:Int}{t:TypeId}(hx:ar E g x (.int k m))(a:ar E g y (.int k l)):
  bc P E g ⟨dst,.binOp .geq t x y t',ty,pos,af,gd⟩ w (.bool (decide (l<=m))):=cD hx a (by simp [eqGuard,binOp,Op.intCmp])
theorem Hf{op:BinOp}(b:op= .and\/op= .or\/op= .xor\/op= .andNot){x y:Operand}{k:IntKind}{m l:Int}{t t':TypeId}(hx:ar E g x (.int k m))(a:ar E g y (.int k l))
  {z:Int} (c:∀w:World,(Op.intBits op k m l).run P w= .ok (.int k z) w):
  bc P E g ⟨dst,.binOp op t x y t',ty,pos,af,gd⟩ w (.int k z):=cD hx a (by grind [eqGuard,binOp])
theorem aab(l:aE):(⟨l.toArray⟩:ByteArray).toList=l:=by simp_all
theorem uu(l:aE):(⟨l.toArray⟩:ByteArray).size=l.length:=by simp [ByteArray.size]
theorem aqo{m l:aE}{t:TypeId}(hx:ar E g x (S m))(a:ar E g y (S l)):
  bc P E g ⟨dst,.binOp .eql t x y t',ty,pos,af,gd⟩ w (.bool (m==l)):=cD hx a (by simp [eqGuard,S,binOp,Op.stringOp])
theorem aqH{m l:aE}{t:TypeId}(hx:ar E g x (S m))(a:ar E g y (S l)):
  bc P E g ⟨dst,.binOp .neq t x y t',ty,pos,af,gd⟩ w (.bool (m != l)):=cD hx a (by simp [eqGuard,S,binOp,Op.stringOp,bne])
def arU(m l:aE):Bool:=Nat.ble (m.length+l.length) 9223372036854775807
theorem anT(m l:aE):((⟨m.toArray⟩:ByteArray)++(⟨l.toArray⟩:ByteArray))=⟨(m++l).toArray⟩:=by apply ByteArray.ext;simp_all
theorem aps{m l:aE}{t:TypeId}(hx:ar E g x (S m))(c:ar E g y (S l))(e:g=true->arU m l=true):
  bc P E g ⟨dst,.binOp .add t x y t',ty,pos,af,gd⟩ w (S (m++l)):=λn a d b=>
 cD hx c (by
  have h  :=ei (e b);have f:¬((((⟨m.toArray⟩:ByteArray).size+(⟨l.toArray⟩:ByteArray).size:Nat))>i64.max):=by rw [uu,uu];show ¬(9223372036854775807)<_;omega
  simp only [eqGuard,S,binOp,Op.stringOp,dk f,anT];simp) n a d b
theorem apE{m l:Bool}{t:TypeId}(ht:P.underlying t=some .bool)(hx:ar E g x (.bool m))(a:ar E g y (.bool l)):
  bc P E g ⟨dst,.binOp .eql t x y t',ty,pos,af,gd⟩ w (.bool (m==l)):=cD hx a (by rw [Sem.run_bind,gX rfl,Result.andThen_ok,run_eql_bool w t m l ht])
theorem aqC{m l:Bool}{t:TypeId}(ht:P.underlying t=some .bool)(hx:ar E g x (.bool m))(a:ar E g y (.bool l)):
  bc P E g ⟨dst,.binOp .neq t x y t',ty,pos,af,gd⟩ w (.bool (m != l)):=cD hx a (by rw [Sem.run_bind,gX rfl,Result.andThen_ok,run_neq_bool w t m l ht];rfl)
theorem ab8{b:IntKind}{s d:TypeId}{ds:TypeDesc}(c:P.underlying s=some ds)(ht:P.underlying d=some (.int k))(hx:ar E g x (.int b m)):
  bc P E g ⟨dst,.convert s d x,ty,pos,af,gd⟩ w (.int k (k.wrap m)):=
 λn a f e=>by simp [execOp,hx n a f e,convert,run_underlying c,run_underlying ht,Conv.intToInt]
theorem adp(hx:ar E g x (.tuple vs.toArray))(hi:vs[i]? =some v):
  bc P E g ⟨dst,.extract x i,ty,pos,af,gd⟩ w v:=
 λn a c b=>by simp [execOp,hx n a c b,Instr.extract,hi]
theorem amk{l:aE}{t:TypeId}(ht:P.underlying t=some .string)(hx:ar E g x (S l)):
  bc P E g ⟨dst,.call ⟨.builtin .len,#[x],#[t]⟩,ty,pos,af,gd⟩ w (.int .i64 l.length):=
 λn a c b=>by simp [execOp,resolve,invoke,builtin,hx n a c b,Builtin.len_,run_underlying ht,S,goInt,uu]
def uR(i:Int)(n:Nat):Bool:=decide (0<=i)&&decide (i<n)
theorem ou{i:Int}{n:Nat}:uR i n=true↔0<=i/\i<n:=by simp [uR]
def nh(l:aE)(i:Int):Int:=(l.getD i.toNat 0).toNat
theorem agb(l:aE)(i:Nat):(⟨l.toArray⟩:ByteArray)[i]? =l[i]? :=by
 by_cases h:i<l.length
 .have a  :=by exact h
  rw [getElem?_pos (⟨l.toArray⟩:ByteArray) i a,b9 h];rfl
 grind [uu,List.getElem?_eq_none]
theorem anA{l:aE}{i:Int}{t:TypeId}(ht:P.underlying t=some .string)(hx:ar E g x (S l))(d:ar E g y (.int k i))(hi:g=true->uR i l.length=true):
  bc P E g ⟨dst,.index t x y,ty,pos,af,gd⟩ w (.int .u8 (nh l i)):=
 λn a c b=>by
  obtain ⟨j,h⟩:=ou.1 (hi b);have e:i.toNat<l.length:=by omega
  have f:(⟨l.toArray⟩:ByteArray)[i.toNat]? =some l[i.toNat]:=by rw [agb,b9 e]
  simp [execOp,hx n a c b,d n a c b,Instr.index,asIntOf,S,Sem.run_bind,run_underlying ht];simp_all [nh]
def db(i j:Int)(n:Nat):Bool:=decide (0<=i)&&decide (i<=j)&&decide (j<=n)
theorem wO{i j:Int}{n:Nat}:db i j n=true↔(0<=i/\i<=j)/\j<=n:=by simp [db]
def cut(l:aE)(i j:Int):aE:=(l.drop i.toNat).take (j.toNat-i.toNat)
theorem MY(l:aE)(i j:Nat):(⟨l.toArray⟩:ByteArray).extract i j=⟨((l.drop i).take (j-i)).toArray⟩:=by apply ByteArray.ext;simp_all
theorem ak7{l:aE}{i j:Int}{lo hi:Option Operand}{t:TypeId}(ht:P.underlying t=some .string)(hx:ar E g x (S l))
  (e:match lo with|none=>i=0|some y=>∃k,ar E g y (.int k i)) (b:match hi with|none=>j=l.length|some y=>∃k,ar E g y (.int k j))
  (r:g=true->db i j l.length=true):
  bc P E g ⟨dst,.slice t x lo hi none,ty,pos,af,gd⟩ w (S (cut l i j)):=
 λn a d c=>by
  obtain ⟨⟨q,p⟩,o⟩:=wO.1 (r c);have m:0<=j:=by omega
  have s:(((j.toNat:Nat)))=j:=by omega
  cases lo with
  |none=>
   subst e;cases hi with
   |none=>
    subst b;simp [execOp,hx n a d c,Instr.sliceAt,Instr.slice,Instr.sliceBounds,run_underlying ht,S,cut]
   |some y=>
    obtain ⟨k,f⟩:=b;simp [execOp,hx n a d c,f n a d c,Instr.sliceAt,Instr.slice,Instr.sliceBounds,Instr.sliceBound,asIntOf,run_underlying ht,S,MY,cut,uu,o,m]
  |some z=>
   obtain ⟨k,h⟩:=e;cases hi with
   |none=>
    subst b;simp [execOp,hx n a d c,h n a d c,Instr.sliceAt,Instr.slice,Instr.sliceBounds,Instr.sliceBound,asIntOf,run_underlying ht,S,MY,cut,uu,q,p]
   |some y=>
    obtain ⟨u,f⟩:=b;simp [execOp,hx n a d c,h n a d c,f n a d c,Instr.sliceAt,Instr.slice,Instr.sliceBounds,Instr.sliceBound,asIntOf,run_underlying ht,S,MY,cut,uu,q,p,o,m,s]
theorem MG{fn:Fn}{first cap:y2}{us:zc}(e:kr E g first vs)(d:kr E g cap us):
  bc P E g ⟨dst,.makeFunc fn first.toArray cap.toArray,ty,pos,af,gd⟩ w (.func fn vs.toArray us.toArray):=
 λn a c b=>by simp [execOp,Instr.makeFunc,e.map c b,d.map c b]
theorem am8{l:Int}{t:TypeId}(hx:ar E g x (.int k m))(e:ar E g y (.int k l))
  (d:∀w:World,(Builtin.max_ #[t,t'] ty #[.int k m,.int k l]).run P w= .ok (.int k (max m l)) w):
  bc P E g ⟨dst,.call ⟨.builtin .max,#[x,y],#[t,t']⟩,ty,pos,af,gd⟩ w (.int k (max m l)):=
 λn a c b=>by simp [execOp,resolve,invoke,builtin,hx n a c b,e n a c b,d]
theorem am2{l:Int}{t:TypeId}(hx:ar E g x (.int k m))(e:ar E g y (.int k l))
  (d:∀w:World,(Builtin.min_ #[t,t'] ty #[.int k m,.int k l]).run P w= .ok (.int k (min m l)) w):
  bc P E g ⟨dst,.call ⟨.builtin .min,#[x,y],#[t,t']⟩,ty,pos,af,gd⟩ w (.int k (min m l)):=
 λn a c b=>by simp [execOp,resolve,invoke,builtin,hx n a c b,e n a c b,d]
end
structure Ext(w w':World):Prop where
 os:w'.os=w.os
 tape:w'.tape=w.tape
 output:w'.output=w.output
 size:w.heap.size<=w'.heap.size
 block:∀k,k<w.heap.size->w'.heap[k]? =w.heap[k]?
theorem Ext.refl(w:World):Ext w w:=⟨rfl,rfl,rfl,cK _,λ_ _=>rfl⟩
theorem Ext.trans{a b c:World}(h:Ext a b)(k:Ext b c):Ext a c:=
 ⟨k.os.trans h.os,k.tape.trans h.tape,k.output.trans h.output,dx h.size k.size,λi hi=>(k.block i (gr hi h.size)).trans (h.block i hi)⟩
def Enters(P:Program)(f:FuncId):Prop:= ∀(args:zb) (w:World),(callFunc f args).run P w= .ok (.enter f args) w
section
variable {P : Program} {ρ : ze} {Q : bh} {n : Nat} {D : x3} {E : Env} {w : World} {ops : zg} {rest : zj}
theorem GY{g:Bool}{f:FuncId}{first cap:zc}{xs:y2}{dst:zf}{ty:TypeId}{pos:String}{af:zh}{gd:Option (Nat×Bool)}
  (h:Enters P f) (c:ar E g fo (.func (.func f) first.toArray cap.toArray)) (b:kr E g xs vs) {a:Act} (e:Fits n E a) (d:g=true):
  (execOp a.eval ⟨dst,.call ⟨.value fo,xs.toArray,tys⟩,ty,pos,af,gd⟩).run P w= .ok (.enter f (first++vs++cap).toArray) w:=by
 have i:(Array.map a.eval xs.toArray)=vs.toArray:=by simp [b.map e d]
 have:=h (first++vs++cap).toArray w;simp [execOp,resolve,c n a e d,Deferred.ofValue,Sem.run_pure,Result.andThen_ok,invoke];grind
theorem Kj{a:Act}{next:Act->World->Prop}{f:FuncId}{args:zc}{S:Value->World->Prop}{Sp:xa->World->Prop}
  (d:o8 P f args w S Sp) (h:∀v w',S v w'->next (a.put o.dst v) w') (hp:∀c w',Sp c w'->Q (.panic c) a w'):o.uponIn (FW ρ) 0 P a next Q (.ok (.enter f args.toArray) w):=by
 refine ⟨J3,S7 (Calls.mono d λe w' b=>?_)⟩;cases e with
 |returned v=>exact h v w' b
 |panicked c=>exact hp c w' b
 |outgrown=>exact b.elim
theorem abL{f:FuncId}{first cap args:zc}{xs:y2}{d:Tmp}{ty:TypeId}{pos:String}{af:zh}{S:Value->World->Prop}{Sp:xa->World->Prop}
  (k:Enters P f) (g:ar E true fo (.func (.func f) first.toArray cap.toArray)) (b:kr E true xs vs) (ha:args=first++vs++cap)
  (hn:Nat.blt d n=true) (l:o8 P f args w S Sp)
  (h:∀v w',S v w'->WL P ρ ops Q n D rest ((d,true,v)::E) w') (hp:∀c w',Sp c w'->At Q (.panic c) n D E w'):WL P ρ ops Q n D (⟨some d,.call ⟨.value fo,xs.toArray,tys⟩,ty,pos,af,none⟩::rest) E w:=λa i j=>
 wpListIn_plain rfl λK m=>oy rfl (by subst ha;rw [GY k g b i rfl];exact Kj l (λv w' e=>m _ _ (h v w' e _ (i.put hn) j)) (λc w' e=>hp c w' e a i j))
theorem WZ{f:FuncId}{first cap args:zc}{xs:y2}{d:Tmp}{ty:TypeId}{pos:String}{af:zh}{S:Value->World->Prop}
  (c:Enters P f) (b:ar E true fo (.func (.func f) first.toArray cap.toArray)) (a:kr E true xs vs) (ha:args=first++vs++cap)
  (hn:Nat.blt d n=true) (e:jJ P f args w S)
  (h:∀v w',S v w'->WL P ρ ops Q n D rest ((d,true,v)::E) w'):WL P ρ ops Q n D (⟨some d,.call ⟨.value fo,xs.toArray,tys⟩,ty,pos,af,none⟩::rest) E w:=
 abL c b a ha hn e h (λ_ _ h=>h.elim)
theorem aiW{f:FuncId}{first cap args:zc}{xs:y2}{ty:TypeId}{pos:String}{af:zh}{S:Value->World->Prop}{Sp:xa->World->Prop}
  (j:Enters P f) (e:ar E true fo (.func (.func f) first.toArray cap.toArray)) (b:kr E true xs vs) (ha:args=first++vs++cap)
  (k:o8 P f args w S Sp)
  (h:∀v w',S v w'->WL P ρ ops Q n D rest E w') (hp:∀c w',Sp c w'->At Q (.panic c) n D E w'):WL P ρ ops Q n D (⟨none,.call ⟨.value fo,xs.toArray,tys⟩,ty,pos,af,none⟩::rest) E w:=λa g i=>
 wpListIn_plain rfl λK l=>oy rfl (by subst ha;rw [GY j e b g rfl];exact Kj k (λv w' d=>l _ _ (h v w' d _ g i)) (λc w' d=>hp c w' d a g i))
def pr(P:Program)(E:Env)(o:Oper)(w:World)(v:Value)(w':World):Prop:=
 ∀n a,Fits n E a->(execOp a.eval o).run P w= .ok (.value v) w'
theorem yI{o:Oper}{v:Value}{w':World}{d:Tmp}(c:pr P E o w v w')(hp:kg o=true)(e:o.guard=none)(hd:o.dst=some d)(hn:Nat.blt d n=true)
  (h:WL P ρ ops Q n D rest ((d,true,v)::E) w'):WL P ρ ops Q n D (o::rest) E w:=λa b g=>
 wpListIn_plain e λK f=>oy hp (by rw [c n a b,Oper.uponIn_value,hd];exact f _ _ (h _ (b.put hn) g))
def Sc(P:Program)(E:Env)(o:Oper)(w:World)(w':World):Prop:=
 ∀n a,Fits n E a->(execOp a.eval o).run P w= .ok .skip w'
end
variable {b : Nat} {i : Int}
def Mv(M:Nat->Prop)(w:World)(M':Nat->Prop)(w':World):Prop:=
 w.heap.size<=w'.heap.size/\∀b,b<w.heap.size-> ¬M b-> ¬M' b/\w'.heap[b]? =w.heap[b]?
theorem Mv.trans{M M' c:Nat->Prop}{w w' a:World}(h:Mv M w M' w')(k:Mv M' w' c a):Mv M w c a:=
 ⟨dx h.1 k.1,λb hb d=>by obtain ⟨e,g⟩:=h.2 b hb d;obtain ⟨k1,f⟩:=k.2 b (gr hb h.1) e;grind⟩
theorem Ext.mv{w w':World}(h:Ext w w')(M:Nat->Prop):Mv M w M w':=⟨h.size,λb hb a=>⟨a,h.block b hb⟩⟩
theorem Mv.weaken{M M':Nat->Prop}(w:World)(h:∀b,M' b->M b):Mv M w M' w:=⟨cK _,λb _ a=>⟨λc=>a (h b c),rfl⟩⟩
structure fp(α:Type) where
 n:Nat
 rd:(Nat->Prop)->World->zc->α->Prop
 len:∀{M w vs x},rd M w vs x->vs.length=n
 one:∀{M w vs x},rd M w vs x->∀v∈vs,v.oneCell'=true
 mv:∀{M M' w w' vs x},rd M w vs x->Mv M w M' w'->rd M' w' vs x
def RI(k:IntKind):fp Int where
 n:=1
 rd _ _ vs x:=vs=[.int k x]
 len h:=by rw [h];rfl
 one h:=by rw [h];simp [Value.oneCell']
 mv h _:=h
def RB:fp Bool where
 n:=1
 rd _ _ vs x:=vs=[.bool x]
 len h:=by rw [h];rfl
 one h:=by rw [h];simp [Value.oneCell']
 mv h _:=h
def RS:fp aE where
 n:=1
 rd _ _ vs x:=vs=[S x]
 len h:=by rw [h];rfl
 one h:=by rw [h];simp [S,Value.oneCell']
 mv h _:=h
def RU:fp Unit where
 n:=0
 rd _ _ vs _:=vs=[]
 len h:=by rw [h];rfl
 one h:=by rw [h];simp
 mv h _:=h
def RP{α β:Type}(A:fp α)(B:fp β):fp (α×β) where
 n:=A.n+B.n
 rd M w vs x:= ∃a b,vs=a++b/\A.rd M w a x.1/\B.rd M w b x.2
 len h:=by obtain ⟨a,b,rfl,h1,h2⟩:=h;rw [eF,A.len h1,B.len h2]
 one h:=by
  obtain ⟨a,b,rfl,h1,h2⟩:=h;intro v hv;rcases List.mem_append.1 hv with hv|hv
  .exact A.one h1 v hv
  .exact B.one h2 v hv
 mv h m:=by obtain ⟨a,b,rfl,h1,h2⟩:=h;exact ⟨a,b,rfl,A.mv h1 m,B.mv h2 m⟩
section
variable {α β : Type} (A : fp α)
def cV(M:Nat->Prop)(w:World)(cs:zc)(xs:List α):Prop:=
 cs.length=xs.length*A.n/\∀i (h:i<xs.length),A.rd M w ((cs.drop (i*A.n)).take A.n) xs[i]
variable {A}
theorem cV.nil{M:Nat->Prop}{w:World}:cV A M w [] []:=⟨by simp,λi h=>by simp at h⟩
theorem cV.cons{M:Nat->Prop}{w:World}{c cs:zc}{x:α}{xs:List α}(h:A.rd M w c x)(a:cV A M w cs xs):cV A M w (c++cs) (x::xs):=by
 have b:=A.len h;refine ⟨by simp [b,a.1,qq,Nat.add_comm],λi hi=>?_⟩;cases i with
 |zero=>grind
 |succ i=>
  have:=a.2 i (by simpa using hi);simp_all [List.drop_append,qq,si]
theorem cV.one{M:Nat->Prop}{w:World}{c:zc}{x:α}(h:A.rd M w c x):cV A M w c [x]:=by have:=cV.cons h (cV.nil);simpa using this
theorem cV.mv{M M':Nat->Prop}{w w':World}{cs:zc}{xs:List α}(h:cV A M w cs xs)(m:Mv M w M' w'):cV A M' w' cs xs:=
 ⟨h.1,λi hi=>A.mv (h.2 i hi) m⟩
theorem cV.DY{M:Nat->Prop}{w:World}{cs:zc}{xs:List α}(h:cV A M w cs xs):∀v∈cs,v.oneCell'=true:=by
 intro v d;obtain ⟨j,f,rfl⟩:=List.mem_iff_getElem.1 d;have hl:=h.1;rcases Nat.eq_zero_or_pos A.n with a|a
 .rw [a] at hl;omega
 .have hi:j/A.n<xs.length:=by rw [Nat.div_lt_iff_lt_mul a];omega
  have b:=h.2 (j/A.n) hi;refine A.one b _ ?_;have hm:j%A.n<A.n:=qT _ a;have e:j/A.n*A.n+j%A.n=j:=by grind [Nat.mul_comm,Nat.div_add_mod]
  rw [List.mem_iff_getElem];have c:=A.len b;grind
theorem cV.append{M:Nat->Prop}{w:World}{cs ds:zc}{xs ys:List α}(h:cV A M w cs xs)(k:cV A M w ds ys):cV A M w (cs++ds) (xs++ys):=by
 refine ⟨by simp [h.1,k.1,qq],λi hi=>?_⟩;by_cases a:i<xs.length
 .have b:=h.2 i a;have e:((cs++ds).drop (i*A.n)).take A.n=(cs.drop (i*A.n)).take A.n:=by
   have d:i*A.n+A.n<=cs.length:=by rw [h.1,<-qL];exact hV _ a
   grind
  grind
 .have c:i-xs.length<ys.length:=by simp at hi;omega
  have b:=k.2 _ c;have e:(cs++ds).drop (i*A.n)=ds.drop ((i-xs.length)*A.n):=by
   have:i*A.n=cs.length+(i-xs.length)*A.n:=by rw [h.1,<-qq];congr 1;omega
   simp_all
  grind
theorem cV.take{M:Nat->Prop}{w:World}{cs:zc}{xs:List α}(h:cV A M w cs xs)(k:Nat):cV A M w (cs.take (k*A.n)) (xs.take k):=by
 have e:(cs.take (k*A.n)).length=(xs.take k).length*A.n:=by rw [dq,dq,h.1];simp_all
 refine ⟨e,λi hi=>?_⟩;have a:i<k/\i<xs.length:=by grind
 have b:=h.2 i a.2;have c:i*A.n+A.n<=k*A.n:=by rw [<-qL];exact hV _ a.1
 grind [List.drop_take,Nat.min_eq_left]
theorem cV.drop{M:Nat->Prop}{w:World}{cs:zc}{xs:List α}(h:cV A M w cs xs)(k:Nat):cV A M w (cs.drop (k*A.n)) (xs.drop k):=by
 refine ⟨by rw [j0,j0,h.1,<-Nat.sub_mul],λi hi=>?_⟩;have a:k+i<xs.length:=by simp at hi;omega
 have b:=h.2 (k+i) a;grind [List.drop_drop,Nat.add_mul]
theorem cV.set{M:Nat->Prop}{w:World}{cs c:zc}{xs:List α}{x:α}{i:Nat}(h:cV A M w cs xs)(hi:i<xs.length)(hx:A.rd M w c x):
  cV A M w (cs.take (i*A.n)++c++cs.drop ((i+1)*A.n)) (xs.set i x):=by
 have b:=h.take i;have a:=h.drop (i+1);have d:=(b.append (cV.one hx)).append a;simp_all [List.set_eq_take_append_cons_drop]
variable (A)
def bT(M:Nat->Prop)(w:World)(v:Value)(xs:List α):Prop:=
 ((∃a,v= .slice a 0 0)/\xs=[])\/∃b off cap cs e fr,v= .slice (some ⟨b,off,none⟩) xs.length cap/\ ¬M b/\w.heap[b]? =some (.cells cs e fr)/\xs.length<=cap/\
  off+cap*A.n<=cs.size/\cV A M w ((cs.toList.drop off).take (xs.length*A.n)) xs
variable {A}
theorem bT.nil{M:Nat->Prop}{w:World}:bT A M w (.slice none 0 0) []:= .inl ⟨⟨none,rfl⟩,rfl⟩
theorem bT.emp{M:Nat->Prop}{w:World}{a:Option Addr}:bT A M w (.slice a 0 0) []:= .inl ⟨⟨a,rfl⟩,rfl⟩
theorem bT.mv{M M':Nat->Prop}{w w':World}{v:Value}{xs:List α}(h:bT A M w v xs)(m:Mv M w M' w'):bT A M' w' v xs:=by
 rcases h with h|⟨b,a,cap,cs,e,fr,c,i,hb,g,f,d⟩
 .exact .inl h
 .obtain ⟨k,j⟩:=m.2 b (Array.getElem?_eq_some_iff.1 hb).1 i;exact .inr ⟨b,a,cap,cs,e,fr,c,k,by rw [j];exact hb,g,f,d.mv m⟩
abbrev jU:=Option Addr×Nat×Nat
def sl(p:jU):Value:= .slice p.1 p.2.1 p.2.2
variable (A)
def LP:fp (List α) where
 n:=1
 rd M w vs xs:= ∃p,vs=[sl p]/\bT A M w (sl p) xs
 len h:=by obtain ⟨v,rfl,_⟩:=h;rfl
 one h:=by obtain ⟨v,rfl,h⟩:=h;simp [Value.oneCell',sl]
 mv h m:=by obtain ⟨v,rfl,h⟩:=h;exact ⟨v,rfl,h.mv m⟩
variable {A}
theorem bT.rn{M:Nat->Prop}{w:World}{v:Value}{xs:List α}(h:bT A M w v xs):∃p,v=sl p:=by
 rcases h with ⟨⟨a,rfl⟩,_⟩|⟨b,c,cap,cs,e,fr,rfl,_⟩
 .exact ⟨(a,0,0),rfl⟩
 .exact ⟨(_,_,_),rfl⟩
theorem bT.rsl{M:Nat->Prop}{w:World}{v:Value}{xs:List α}(h:bT A M w v xs):(LP A).rd M w [v] xs:=by obtain ⟨p,rfl⟩:=h.rn;exact ⟨p,rfl,h⟩
def PZ(v:Value)(n:Nat):Prop:= ∃a cap,v= .slice a n cap
theorem bT.len{M:Nat->Prop}{w:World}{v:Value}{xs:List α}(h:bT A M w v xs):PZ v xs.length:=by
 rcases h with ⟨⟨a,rfl⟩,rfl⟩|⟨b,c,cap,cs,e,fr,rfl,_⟩
 .exact ⟨_,_,rfl⟩
 .exact ⟨_,_,rfl⟩
def bN(w:World)(p:Addr)(vs:zc):Prop:=p.spot=none/\∃cs e fr,w.heap[p.block]? =some (.cells cs e fr)/\∀j u,vs[j]? =some u->cs[p.off+j]? =some u
theorem bN.ext{w w':World}{p:Addr}(h:bN w p vs)(e:Ext w w'):bN w' p vs:=by obtain ⟨a,cs,t,fr,hb,b⟩:=h;exact ⟨a,cs,t,fr,by rw [e.block _ (Array.getElem?_eq_some_iff.1 hb).1];exact hb,b⟩
theorem bN.cell{w:World}{p:Addr}{vs:zc}(h:bN w p vs){j:Nat}{u:Value}(a:vs[j]? =some u):w.cell? (p.add j)=some u:=by obtain ⟨b,cs,t,fr,hb,c⟩:=h;grind [Addr.add,World.cell?]
theorem bN.sub{w:World}{p:Addr}{us:zc}(h:bN w p vs)(k:Nat)(c:(vs.drop k).take us.length=us):bN w (p.add k) us:=by
 obtain ⟨a,cs,t,fr,hb,e⟩:=h;have key:∀j u,us[j]? =some u->cs[p.off+k+j]? =some u:=λj u d=>by grind
 unfold Addr.add;split
 next b=>subst b;exact ⟨a,cs,t,fr,hb,key⟩
 .exact ⟨rfl,cs,t,fr,hb,key⟩
def Cz(v:Value)(i:Int)(n:Nat)(p:Addr):Prop:= ∃a len cap,v= .slice (some a) len cap/\0<=i/\i<(len:Nat)/\p=a.add (i.toNat*n)
def idx(xs:List α)(i:Int):Option α:=if 0<=i then xs[i.toNat]? else none
theorem Fj{xs:List α}{x:α}(h:idx xs i=some x):0<=i/\∃hi:i.toNat<xs.length,xs[i.toNat]=x:=by grind [idx,List.getElem?_eq_some_iff]
theorem bT.at_{M:Nat->Prop}{w:World}{v:Value}{xs:List α}{x:α}(h:bT A M w v xs)(hx:idx xs i=some x):
  ∃p vs,Cz v i A.n p/\bN w p vs/\A.rd M w vs x:=by
 obtain ⟨g,hi,rfl⟩:=Fj hx;rcases h with ⟨_,rfl⟩|⟨b,a,cap,cs,e,fr,rfl,o,hb,m,k,f⟩
 .simp at hi
 .have d:=f.2 _ hi;have c:=A.len d;refine ⟨(⟨b,a,none⟩:Addr).add (i.toNat*A.n),_,⟨_,_,_,rfl,g,by omega,rfl⟩,?_,d⟩;have key:bN w ⟨b,a,none⟩ ((cs.toList.drop a).take (xs.length*A.n)):=⟨rfl,cs,e,fr,hb,λj u l=>by grind⟩
  exact key.sub _ (by rw [c])
end
structure mO(C:zm)(w w':World):Prop where
 os:w'.os=w.os
 tape:w'.tape=w.tape
 output:w'.output=w.output
 size:w.heap.size<=w'.heap.size
 block:∀b,b<w.heap.size->b∉C->w'.heap[b]? =w.heap[b]?
theorem Ext.xt{w w':World}(h:Ext w w')(C:zm):mO C w w':=⟨h.os,h.tape,h.output,h.size,λb hb _=>h.block b hb⟩
def gI(w:World)(b:Nat)(e:TypeId)(vs:zc):Prop:=w.heap[b]? =some (.cells vs.toArray e (0,0))
theorem gI.da{w w':World}{e:TypeId}(h:gI w b e vs)(k:w'.heap[b]? =w.heap[b]?):gI w' b e vs:=k.trans h
theorem gI.lt{w:World}{e:TypeId}(h:gI w b e vs):b<w.heap.size:=(Array.getElem?_eq_some_iff.1 h).1
theorem gI.cells{w:World}{e:TypeId}(h:gI w b e vs):bN w ⟨b,0,none⟩ vs:=
 ⟨rfl,_,_,_,h,λj u a=>by simpa using a⟩
theorem gI.part{w:World}{e:TypeId}{us:zc}(h:gI w b e vs)(k:Nat)(a:(vs.drop k).take us.length=us):bN w ⟨b,k,none⟩ us:=by have:=h.cells.sub k a;grind [Addr.add]
def dW(v:Value):zm:=v.ownBlock.toList
section
variable {α : Type} {A : fp α}
variable (A) in
def kD(e:TypeId)(M:Nat->Prop)(w:World)(v:Value)(xs:List α):Prop:=
 ∃cells,w.ownsRow 0 e A.n v xs.length cells/\cV A M w cells xs
theorem kD.nil{e:TypeId}{M:Nat->Prop}{w:World}:kD A e M w (.slice none 0 0) []:=⟨[],World.ownsRow_nil w 0 e A.n,cV.nil⟩
theorem kD.len{e:TypeId}{M:Nat->Prop}{w:World}{v:Value}{xs:List α}(h:kD A e M w v xs):PZ v xs.length:=by
 obtain ⟨cells,⟨_,h⟩,_⟩:=h;rcases h with ⟨rfl,a⟩|⟨g,cap,cur,rfl,_⟩
 .exact ⟨none,0,by rw [a]⟩
 .exact ⟨_,_,rfl⟩
theorem kD.lt{e:TypeId}{M:Nat->Prop}{w:World}{v:Value}{xs:List α}(h:kD A e M w v xs):∀b∈dW v,b<w.heap.size:=λb hb=>by obtain ⟨cells,h,_⟩:=h;exact (h.lt b (by simpa [dW] using hb)).2
theorem kD.da{e:TypeId}{M M':Nat->Prop}{w w':World}{v:Value}{xs:List α}(h:kD A e M w v xs)(k:∀b∈dW v,w'.heap[b]? =w.heap[b]?)(m:Mv M w M' w'):kD A e M' w' v xs:=by
 obtain ⟨cells,⟨f,a⟩,c⟩:=h;refine ⟨cells,⟨f,?_⟩,c.mv m⟩;rcases a with a|⟨g,cap,cur,rfl,d,i,r⟩
 .exact .inl a
 .exact .inr ⟨g,cap,cur,rfl,d,by grind [dW,Value.ownBlock],r⟩
theorem kD.freeze{e:TypeId}{M M':Nat->Prop}{w:World}{v:Value}{xs:List α}(h:kD A e M w v xs)(f:∀b∈dW v,¬M' b)(m:Mv M w M' w):bT A M' w v xs:=by
 obtain ⟨cells,⟨n,i⟩,a⟩:=h;rcases i with ⟨rfl,j⟩|⟨g,cap,cur,rfl,l,c,d,hm,k,ht⟩
 .exact .inl ⟨⟨_,rfl⟩,et j⟩
 .refine .inr ⟨g,0,cap,cur,e,(0,0),rfl,f g (by simp [dW,Value.ownBlock]),c,d,by omega,?_⟩;rw [n9,ht];exact a.mv m
theorem kD.at_{e:TypeId}{M:Nat->Prop}{w:World}{v:Value}{xs:List α}{x:α}(h:kD A e M w v xs)(hx:idx xs i=some x):
  ∃p vs,Cz v i A.n p/\bN w p vs/\A.rd M w vs x:=by
 obtain ⟨c,hi,rfl⟩:=Fj hx;obtain ⟨cells,⟨r,k⟩,d⟩:=h;rcases k with ⟨rfl,c⟩|⟨g,cap,cur,rfl,o,f,q,hm,l,ht⟩
 .omega
 .have b:=d.2 _ hi;have a:=A.len b;refine ⟨(⟨g,0,none⟩:Addr).add (i.toNat*A.n),_,⟨_,_,_,rfl,c,by omega,rfl⟩,?_,b⟩;have key:bN w ⟨g,0,none⟩ cells:=⟨rfl,cur,e,(0,0),f,λj u m=>by grind⟩
  exact key.sub _ (by rw [a])
end
section
variable {α : Type} {A : fp α}
variable (A) in
def cj(e:TypeId)(M:Nat->Prop)(w:World)(v:Value)(xs:List α)(R:zm):Prop:=
 (R=dW v/\kD A e M w v xs)\/(R=[]/\xs=[]/\(∃a,v= .slice a 0 0)/\bT A M w v [])
variable {e : TypeId} {M M' : Nat -> Prop} {w w' : World} {v : Value} {xs : List α} {R : zm}
theorem cj.nil:cj A e M w (.slice none 0 0) [] []:= .inl ⟨rfl,kD.nil⟩
theorem cj.empty{a:Option Addr}(h:bT A M w (.slice a 0 0) []):cj A e M w (.slice a 0 0) [] []:= .inr ⟨rfl,rfl,⟨a,rfl⟩,h⟩
theorem cj.of(h:kD A e M w v xs):cj A e M w v xs (dW v):= .inl ⟨rfl,h⟩
theorem cj.len(h:cj A e M w v xs R):PZ v xs.length:=by
 rcases h with ⟨_,h⟩|⟨_,rfl,⟨a,rfl⟩,_⟩
 .exact h.len
 .exact ⟨_,_,rfl⟩
theorem cj.lt(h:cj A e M w v xs R):∀b∈R,b<w.heap.size:=by
 rcases h with ⟨rfl,h⟩|⟨rfl,_⟩
 .exact h.lt
 .intro b hb;cases hb
theorem cj.da(h:cj A e M w v xs R)(k:∀b∈R,w'.heap[b]? =w.heap[b]?)(m:Mv M w M' w'):cj A e M' w' v xs R:=by
 rcases h with ⟨rfl,h⟩|h
 .exact .inl ⟨rfl,h.da k m⟩
 .exact .inr ⟨h.1,h.2.1,h.2.2.1,h.2.2.2.mv m⟩
theorem cj.atG{g:Bool}{x:α}(h:g=true->cj A e M w v xs R)(hx:g=true->idx xs i=some x):
  ∃p vs,(g=true->Cz v i A.n p)/\(g=true->bN w p vs)/\(g=true->A.rd M w vs x):=by
 cases g
 .simp_all
 .rcases h rfl with ⟨_,h⟩|⟨_,rfl,_⟩
  .obtain ⟨p,vs,c,b,a⟩:=h.at_ (hx rfl);grind
  .obtain ⟨_,hi,_⟩:=Fj (hx rfl);simp at hi
theorem cj.jW{x:α}(h:cj A e M w v xs R)(hx:idx xs i=some x):kD A e M w v xs/\R=dW v:=by
 rcases h with ⟨a,h⟩|⟨_,rfl,_⟩
 .exact ⟨h,a⟩
 .obtain ⟨_,hi,_⟩:=Fj hx;simp at hi
theorem cj.freeze(h:cj A e M w v xs R)(a:∀b∈R,¬M' b)(m:Mv M w M' w):bT A M' w v xs:=by
 rcases h with ⟨rfl,h⟩|⟨_,rfl,_,h⟩
 .exact h.freeze a m
 .exact h.mv m
end
variable {α : Type} {A : fp α} {d : TypeDesc} {e : TypeId} {p : Addr} {z : Value} {zs : zc}
def TI(P:Program)(e:TypeId)(size bytes:Nat)(z:Value):Prop:=(P.info? e).map (λi=>(i.size,i.bytes,i.zero))=some (size,bytes,some z)
theorem TI.out{P:Program}{size bytes:Nat}(h:TI P e size bytes z):∃i,P.info? e=some i/\i.size=size/\i.bytes=bytes/\i.zero=some z:=by
 unfold TI at h;cases hi:P.info? e with
 |none=>simp [hi] at h
 |some i=>
  simp only [hi,mj,ej,q7] at h;exact ⟨i,rfl,h.1,h.2.1,h.2.2⟩
def nD:TypeDesc->Bool
 | .struct _=>true
 | .array _ _=>true
 |_=>false
theorem GB{P:Program}{t:TypeId}(h:P.underlying t=some d)(w:World):(isAgg t).run P w= .ok (nD d) w:=by unfold isAgg;rw [Sem.run_bind,run_underlying h w];cases d <;> rfl
section
variable {P : Program} {E : Env} {g : Bool} {w : World} {dst : zf} {ty : TypeId} {pos : String} {af : zh} {gd : w4}
theorem Nx{n:Nat}{t:TypeId}(ht:P.underlying t=some (.slice e))(hx:ar E g x v)(hl:PZ v n):
  bc P E g ⟨dst,.call ⟨.builtin .len,#[x],#[t]⟩,ty,pos,af,gd⟩ w (.int .i64 n):=
 λn' a c b=>by obtain ⟨d,cap,rfl⟩:=hl;simp [execOp,resolve,invoke,builtin,hx n' a c b,Builtin.len_,run_underlying ht,goInt]
theorem Qw{n bytes:Nat}{t:TypeId}(ht:P.underlying t=some (.slice e))(b:TI P e n bytes z)
  (hx:ar E g x v) (f:ar E g y (.int k i)) (j:g=true->Cz v i n p):
  bc P E g ⟨dst,.indexAddr t x y,ty,pos,af,gd⟩ w (.pointer (some p)):=
 λn' a d c=>by obtain ⟨o,hi,h,_,_⟩:=b.out;obtain ⟨q,len,cap,rfl,m,l,rfl⟩:=j c;simp [execOp,hx n' a d c,f n' a d c,Instr.indexAt,asIntOf,run_underlying ht,m,l,sizeOf,typeInfo,hi,h]
theorem NM{t:TypeId}(ht:P.underlying t=some d)(hd:nD d=false)(a:w.cell? p=some v):
  (loadVar t p).run P w= .ok v w:=by
 simp [loadVar,GB ht,hd,a]
theorem bN.cell0(a:bN w p vs)(b:vs[0]? =some v):w.cell? p=some v:=by have:=a.cell b;simpa [Addr.add] using this
theorem Of{t:TypeId}(ht:P.underlying t=some d)(hd:nD d=false)(hx:ar E g x (.pointer (some p)))
  (e:g=true->bN w p [v]):bc P E g ⟨dst,.load t x,ty,pos,af,gd⟩ w v:=
 λn' a c b=>by simp [execOp,hx n' a c b,Instr.loadAt,Instr.sureAddr,NM ht hd ((e b).cell0 rfl)]
theorem NI{t:TypeId}{n bytes:Nat}(ht:P.underlying t=some d)(hd:nD d=true)(a:TI P t n bytes z)(e:bN w p vs)(hl:vs.length=n):
  (loadVar t p).run P w= .ok (.agg vs.toArray) w:=by
 obtain ⟨f,hi,c,_,_⟩:=a.out;have:=run_loadCells_list (P:=P) w p vs (λj v b=>e.cell b);rw [hl] at this;simp [loadVar,GB ht,hd,sizeOf,typeInfo,hi,c,this]
theorem MO{t:TypeId}{n bytes:Nat}(ht:P.underlying t=some d)(hd:nD d=true)(b:TI P t n bytes z)(hx:ar E g x (.pointer (some p)))
  (f:g=true->bN w p vs) (hl:vs.length=n):bc P E g ⟨dst,.load t x,ty,pos,af,gd⟩ w (.agg vs.toArray):=
 λn' a e c=>by simp [execOp,hx n' a e c,Instr.loadAt,Instr.sureAddr,NI ht hd b (f c) hl]
def aem(P:Program)(t:TypeId)(k:Nat)(off:Nat):Prop:=
 ∃fs f i,P.underlying t=some (.struct fs)/\fs[k]? =some f/\f.offset=off/\P.info? f.type=some i/\i.size≠0
theorem L4{t:TypeId}{k b:Nat}(d:aem P t k b)(hx:ar E g x (.pointer (some p))):
  bc P E g ⟨dst,.fieldAddr t x k,ty,pos,af,gd⟩ w (.pointer (some (p.add b))):=
 λn' a n m=>by obtain ⟨e,f,i,ht,hk,l,hi,j⟩:=d;have c:∃h:k<e.size,e[k]=f:=Array.getElem?_eq_some_iff.1 hk;obtain ⟨q,o⟩:=c;simp [execOp,hx n' a n m,Instr.fieldAt,run_underlying ht,Instr.sureAddr,fieldPlace,sizeOf,typeInfo,hi,j,l,q,o]
theorem aba(hx:ar E g x (.pointer (some p))):bc P E g ⟨dst,.nilCheck x,ty,pos,af,gd⟩ w (.pointer (some p)):=
 λn' a c b=>by simp only [execOp,hx n' a c b];rfl
theorem alu{f:FuncId}{us vs:zb}(hx:ar E g x (.func (.func f) us vs)):bc P E g ⟨dst,.nilCheck x,ty,pos,af,gd⟩ w (.func (.func f) us vs):=
 λn' a c b=>by simp only [execOp,hx n' a c b];rfl
theorem acP{t:TypeId}{n bytes a:Nat}{cs:zc}(ht:P.underlying t=some d)(c:TI P t n bytes z)
  (b:(if nD d then some (.agg ((cs.drop a).take n).toArray) else cs[a]?)=some v):(part t cs.toArray a).run P w= .ok v w:=by
 obtain ⟨f,hi,e,_,_⟩:=c.out;unfold part;rw [Sem.run_bind,GB ht];cases hd:nD d
 .simp only [hd,eT,qn] at b ⊢;simp [b]
 .have g:(cs.toArray.extract a (a+n))=((cs.drop a).take n).toArray:=by rw [List.extract_toArray];congr 1;simp [List.extract_eq_take_drop]
  simp only [hd,qU,ej] at b;subst b;simp [sizeOf,typeInfo,hi,e]
theorem akp{t:TypeId}{k n bytes b:Nat}{j:Array Field}{f:Field}{cs:zc}
  (ht:P.underlying t=some (.struct j)) (hk:j[k]? =some f) (h:f.type=t') (i:f.offset=b) (e:P.underlying t'=some d) (c:TI P t' n bytes z) (hx:ar E g x (.agg cs.toArray))
  (l:(if nD d then some (.agg ((cs.drop b).take n).toArray) else cs[b]?)=some v):
  bc P E g ⟨dst,.field t x k,ty,pos,af,gd⟩ w v:=
 λn' a o m=>by subst h;subst i;have hp:=acP (w:=w) e c l;simp only [execOp,hx n' a o m,Instr.field,Sem.run_bind,run_underlying ht,Result.andThen_ok,hk,asAgg,Sem.run_pure,hp]
theorem ajD{t:TypeId}{b:List (Nat×Operand)}(hx:kr E g (b.map (·.2)) vs)
  (hb:∀w:World,(Instr.build t ((b.map (·.1)).zip vs).toArray).run P w= .ok v w):
  bc P E g ⟨dst,.build t b.toArray,ty,pos,af,gd⟩ w v:=
 λn' a d c=>by
  have e:(b.map λp=>(p.1,a.eval p.2))=(b.map (·.1)).zip vs:=by
   have h:=hx.map d c;rw [List.map_map] at h;subst h;clear hx hb
   induction b with
   |nil=>rfl
   |cons p ps ih=>simp [ih]
  simp only [execOp,List.map_toArray];have f:(b.map λx:Nat×Operand=>match x with|(i,x)=>(i,a.eval x))=(b.map (·.1)).zip vs:=e;rw [f];simp [hb]
def aa4(v:Value)(i j:Int)(n:Nat)(v':Value):Prop:=
 ∃ad len cap,v= .slice ad len cap/\0<=i/\i<=j/\j<=(len:Nat)/\len<=cap/\
  v'= .slice (if cap=i.toNat then ad else ad.map (·.add (i.toNat*n))) (j.toNat-i.toNat) (cap-i.toNat)
def OW(v:Value)(i j k:Int)(n:Nat)(v':Value):Prop:=
 ∃ad len cap,v= .slice ad len cap/\0<=i/\i<=j/\j<=k/\k<=(len:Nat)/\len<=cap/\
  v'= .slice (if k.toNat=i.toNat then ad else ad.map (·.add (i.toNat*n))) (j.toNat-i.toNat) (k.toNat-i.toNat)
def aV{α:Type}(xs:List α)(i j:Int):List α:=(xs.drop i.toNat).take (j.toNat-i.toNat)
def kR(i j k:Int)(n:Nat):Bool:=decide (0<=i)&&decide (i<=j)&&decide (j<=k)&&decide (k<=n)
theorem akg{j k:Int}{n:Nat}:kR i j k n=true↔((0<=i/\i<=j)/\j<=k)/\k<=n:=by simp [kR]
theorem bT.sub{M:Nat->Prop}{a cap:Nat}{cs:zb}{e':TypeId}{fr:Nat×Nat}{xs:List α}{i m:Nat}{j:Nat}(h:¬M b)(hb:w.heap[b]? =some (.cells cs e' fr))(k:xs.length<=cap)
  (q:a+cap*A.n<=cs.size) (l:cV A M w ((cs.toList.drop a).take (xs.length*A.n)) xs) (u:i<=j) (t:j<=xs.length) (s:j<=m) (p:m<=cap):
  bT A M w (.slice (if m=i then some ⟨b,a,none⟩ else (some (⟨b,a,none⟩:Addr)).map (·.add (i*A.n))) (j-i) (m-i)) ((xs.drop i).take (j-i)):=by
 have c:((xs.drop i).take (j-i)).length=j-i:=by rw [dq,j0];omega
 by_cases d:m=i
 .rw [du d];have f:j-i=0:=by omega
  refine .inr ⟨b,a,m-i,cs,e',fr,by rw [c],h,hb,by rw [c];omega,?_,?_⟩
  .have:(m-i)*A.n<=cap*A.n:=hV _ (by omega);omega
  .have:((xs.drop i).take (j-i))=[]:=by rw [f];rfl
   rw [this];simpa using (cV.nil (A:=A) (M:=M) (w:=w))
 .rw [dk d];have e:(⟨b,a,none⟩:Addr).add (i*A.n)=⟨b,a+i*A.n,none⟩:=by unfold Addr.add;split <;> simp_all
  refine .inr ⟨b,a+i*A.n,m-i,cs,e',fr,by rw [c];simp [e],h,hb,by rw [c];omega,?_,?_⟩
  .have r:i*A.n+(m-i)*A.n=m*A.n:=by rw [<-qq];congr 1;omega
   have g:m*A.n<=cap*A.n:=hV _ p;omega
  .have g:=(l.drop i).take (j-i);rw [qy,qz,qH] at g;rw [c];have o:(j-i)*A.n<=xs.length*A.n-i*A.n:=by rw [<-Nat.sub_mul];exact hV _ (by omega)
   rwa [iQ o] at g
theorem bT.cut{M:Nat->Prop}{xs:List α}{j:Int}(h:bT A M w v xs)(k:db i j xs.length=true):
  ∃v',aa4 v i j A.n v'/\bT A M w v' (aV xs i j):=by
 obtain ⟨⟨p,o⟩,e⟩:=wO.1 k;rcases h with ⟨⟨q,rfl⟩,rfl⟩|⟨b,c,cap,cs,e',fr,rfl,l,hb,a,f,m⟩
 .have g:j=0:=by simp at e;omega
  have d:i=0:=by omega
  subst g;subst d;exact ⟨_,⟨q,0,0,rfl,by omega,by omega,by simp,cK _,rfl⟩,.inl ⟨⟨_,rfl⟩,by simp [aV]⟩⟩
 .exact ⟨_,⟨some ⟨b,c,none⟩,xs.length,cap,rfl,p,o,e,a,rfl⟩,bT.sub l hb a f m (by omega) (by omega) (by omega) (cK _)⟩
theorem bT.atH{M:Nat->Prop}{xs:List α}{j k:Int}(h:bT A M w v xs)(l:kR i j k xs.length=true):
  ∃v',OW v i j k A.n v'/\bT A M w v' (aV xs i j):=by
 obtain ⟨⟨⟨r,q⟩,p⟩,e⟩:=akg.1 l;rcases h with ⟨⟨s,rfl⟩,rfl⟩|⟨b,c,cap,cs,e',fr,rfl,m,hb,a,f,o⟩
 .have hk:k=0:=by simp at e;omega
  have g:j=0:=by omega
  have d:i=0:=by omega
  subst hk;subst g;subst d;exact ⟨_,⟨s,0,0,rfl,by omega,by omega,by omega,by simp,cK _,rfl⟩,.inl ⟨⟨_,rfl⟩,by simp [aV]⟩⟩
 .exact ⟨_,⟨some ⟨b,c,none⟩,xs.length,cap,rfl,r,q,p,e,a,rfl⟩,bT.sub m hb a f o (by omega) (by omega) (by omega) (by omega)⟩
theorem He{p:Value}{j:Int}{lo hi:Option Operand}{t:TypeId}{n bytes len:Nat}
  (ht:P.underlying t=some (.slice e)) (o:TI P e n bytes z) (hx:ar E g x v) (hl:g=true->PZ v len)
  (l:match lo with|none=>i=0|some y=>∃k,ar E g y (.int k i)) (c:match hi with|none=>j=len|some y=>∃k,ar E g y (.int k j))
  (D:g=true->aa4 v i j n p):bc P E g ⟨dst,.slice t x lo hi none,ty,pos,af,gd⟩ w p:=by
 cases s:g
 .intro n' a d h;cases h
 .subst s;obtain ⟨I,b,r,_,_⟩:=o.out;obtain ⟨M,q,cap,rfl,C,B,L,K,rfl⟩:=D rfl;obtain ⟨_,_,hl⟩:=hl rfl;cases hl;intro n' a d s;have J:i<=((j.toNat:Nat):Int):=by omega
  have A:j<=(cap:Nat):=by omega
  have u:0<=j:=by omega
  have F:((j.toNat:Nat):Int)=j:=by omega
  cases lo with
  |none=>
   subst l;cases hi with
   |none=>
    subst c;simp [execOp,hx n' a d rfl,Instr.sliceAt,Instr.slice,Instr.sliceBounds,run_underlying ht,sizeOf,typeInfo,b]
   |some y=>
    obtain ⟨k,m⟩:=c;simp [execOp,hx n' a d rfl,m n' a d rfl,Instr.sliceAt,Instr.slice,Instr.sliceBounds,Instr.sliceBound,asIntOf,run_underlying ht,sizeOf,typeInfo,b,u,A]
  |some G=>
   obtain ⟨H,f⟩:=l;cases hi with
   |none=>
    subst c;simp [execOp,hx n' a d rfl,f n' a d rfl,Instr.sliceAt,Instr.slice,Instr.sliceBounds,Instr.sliceBound,asIntOf,run_underlying ht,sizeOf,typeInfo,b,r,C,B]
   |some y=>
    obtain ⟨k,m⟩:=c;simp [execOp,hx n' a d rfl,f n' a d rfl,m n' a d rfl,Instr.sliceAt,Instr.slice,Instr.sliceBounds,Instr.sliceBound,asIntOf,run_underlying ht,sizeOf,typeInfo,b,r,C,u,A,B,F]
theorem UM{o:Operand}{p:Value}{j k:Int}{H:IntKind}{lo hi:Option Operand}{t:TypeId}{n bytes len:Nat}
  (ht:P.underlying t=some (.slice e)) (m:TI P e n bytes z) (hx:ar E g x v) (hl:g=true->PZ v len)
  (c:match lo with|none=>i=0|some y=>∃k,ar E g y (.int k i)) (f:match hi with|none=>False|some y=>∃k,ar E g y (.int k j)) (C:ar E g o (.int H k))
  (J:g=true->OW v i j k n p):bc P E g ⟨dst,.slice t x lo hi (some o),ty,pos,af,gd⟩ w p:=by
 cases s:g
 .intro n' a b h;cases h
 .subst s;obtain ⟨S,d,I,_,_⟩:=m.out;obtain ⟨V,q,cap,rfl,M,L,F,K,D,rfl⟩:=J rfl;obtain ⟨_,_,hl⟩:=hl rfl;cases hl;intro n' a b s;have U:i<=((j.toNat:Nat):Int):=by omega
  have B:k<=(cap:Nat):=by omega
  have A:0<=j:=by omega
  have u:0<=k:=by omega
  have T:j<=((k.toNat:Nat):Int):=by omega
  have N:((j.toNat:Nat):Int)=j:=by omega
  have G:((k.toNat:Nat):Int)=k:=by omega
  cases hi with
  |none=>exact f.elim
  |some y=>
   obtain ⟨R,r⟩:=f;cases lo with
   |none=>
    subst c;simp [execOp,hx n' a b rfl,r n' a b rfl,C n' a b rfl,Instr.sliceAt,Instr.slice,Instr.sliceBounds,Instr.sliceBound,asIntOf,run_underlying ht,sizeOf,typeInfo,d,A,u,B,F,G]
   |some O=>
    obtain ⟨Q,l⟩:=c;simp [execOp,hx n' a b rfl,l n' a b rfl,r n' a b rfl,C n' a b rfl,Instr.sliceAt,Instr.slice,Instr.sliceBounds,Instr.sliceBound,asIntOf,run_underlying ht,sizeOf,typeInfo,d,I,M,L,A,u,B,F,N,G]
end
section
variable {P : Program} {E : Env} {w : World}
theorem am5(a:Array TypeId)(t:TypeId)(k:IntKind)(x y:Int)(w:World):(Builtin.max_ a t #[.int k x,.int k y]).run P w= .ok (.int k (max x y)) w:=by rw [run_max_int2];congr 2;split <;> omega
theorem amf(a:Array TypeId)(t:TypeId)(k:IntKind)(x y:Int)(w:World):(Builtin.min_ a t #[.int k x,.int k y]).run P w= .ok (.int k (min x y)) w:=by rw [run_min_int2];congr 2;split <;> omega
theorem sg{g:Bool}{dst:zf}{ty:TypeId}{pos:String}{af:zh}{gd:Option (Nat×Bool)}{m:Nat}{t:TypeId}(ht:P.underlying t=some (.slice e))(hx:ar E g x v)(hl:g=true->PZ v m):
  bc P E g ⟨dst,.call ⟨.builtin .len,#[x],#[t]⟩,ty,pos,af,gd⟩ w (.int .i64 m):=λn' a c b=>Nx ht hx (hl b) n' a c b
theorem YL(P:Program)(w:World)(d:Nat)(t:TypeId)(a b:aE)(h:P.underlying t=some .string):(Op.equalIn (d+1) t (S a) (S b)).run P w= .ok (a==b) w:=by unfold S;rw [run_equalIn_string w d t _ _ h,aab,aab]
theorem agI{t:TypeId}{cs:zc}{a:Nat}(ht:P.underlying t=some d)(hd:nD d=false)(b:cs[a]? =some v):(part t cs.toArray a).run P w= .ok v w:=by unfold part;rw [Sem.run_bind,GB ht];simp [hd,b]
theorem amZ{d:Nat}{xs ys:zb}{f:Field}{e:List Field}{a b:Value}{r s:Bool}(hn:(f.name != "_")=true) (j:(part f.type xs f.offset).run P w= .ok a w) (i:(part f.type ys f.offset).run P w= .ok b w)
  (h:(Op.equalIn d f.type a b).run P w= .ok r w) (g:(Op.eqFields d xs ys e).run P w= .ok s w):(Op.eqFields d xs ys (f::e)).run P w= .ok (r&&s) w:=by
 have c:f.name≠ "_" :=by simpa using hn
 simp only [Op.eqFields,du c,Sem.run_bind,j,i,h,Result.andThen_ok];cases r
 .rfl
 .simpa using g
theorem aoN{d:Nat}{xs ys:zb}:(Op.eqFields d xs ys []).run P w= .ok true w:=rfl
end
def vq(v:Value)(i:Int)(n:Nat):Addr:=match v with
 | .slice (some a) _ _=>a.add (i.toNat*n)
 |_=>⟨0,0,none⟩
theorem Cz.vq{n:Nat}(h:Cz v i n p):p=vq v i n:=by obtain ⟨a,len,cap,rfl,_,_,rfl⟩:=h;rfl
theorem bT.atA{M:Nat->Prop}{w:World}{xs:List α}{x:α}(h:bT A M w v xs)(hx:idx xs i=some x):
  Cz v i A.n (vq v i A.n)/\∃vs,bN w (vq v i A.n) vs/\A.rd M w vs x/\ ¬M (vq v i A.n).block:=by
 have g:∀p,Cz v i A.n p-> ¬M p.block:=by
  intro p hp;rcases h with ⟨⟨a0,rfl⟩,rfl⟩|⟨b,j,cap,cs,e,fr,rfl,k,_⟩
  .obtain ⟨a,l,c,f,q,d,_⟩:=hp;simp only [Value.slice.injEq] at f;omega
  .obtain ⟨a,l,c,f,_,_,rfl⟩:=hp;cases f;unfold Addr.add;split <;> exact k
 obtain ⟨p,vs,d,o,m⟩:=h.at_ hx;have:=d.vq;subst this;exact ⟨d,vs,o,m,g _ d⟩
theorem cj.atA{M:Nat->Prop}{w:World}{xs:List α}{R:zm}{x:α}(h:cj A e M w v xs R)(hx:idx xs i=some x):
  Cz v i A.n (vq v i A.n)/\∃vs,bN w (vq v i A.n) vs/\A.rd M w vs x:=by
 obtain ⟨p,vs,a,c,b⟩:=cj.atG (g:=true) (λ_=>h) (λ_=>hx);have:=(a rfl).vq;subst this;exact ⟨a rfl,vs,c rfl,b rfl⟩
section
variable {P : Program} {E : Env} {w : World} {dst : zf} {ty : TypeId} {pos : String} {af : zh}
theorem gw(w:World)(o:Obj):Ext w (w.alloc o):=⟨rfl,rfl,rfl,by simp,λb hb=>heap_alloc_old w o hb⟩
theorem LA{t:TypeId}{size bytes:Nat}(c:TI P t size bytes z)(d:z.cells=zs.toArray):
  pr P E ⟨dst,.alloc t,ty,pos,af,none⟩ w (.pointer (some ⟨w.heap.size,0,none⟩)) (w.alloc (.cells zs.toArray t)):=λn' a f=>by
 obtain ⟨e,hi,_,_,b⟩:=c.out;simp [execOp,Instr.alloc,zeroValue,typeInfo,hi,b,newVar,newRow,d]
theorem aml{t:TypeId}(hx:ar E true x v)(b:v.cells=zs.toArray):
  pr P E ⟨dst,.box t x,ty,pos,af,none⟩ w (.pointer (some ⟨w.heap.size,0,none⟩)) (w.alloc (.cells zs.toArray t)):=λn' a c=>by
 simp [execOp,Instr.box,newVar,newRow,hx n' a c rfl,b]
def AN(size len:Nat)(z:zc)(parts:List (Nat×Value)):Option zb:=
 Instr.fill (λi=>some (i*size,size)) ((Array.range (len*size)).map (z.toArray[· %z.length]!)) parts
theorem aju{b:List (Nat×Operand)}(hx:kr E true (b.map (·.2)) vs){n:Nat}{a:Act}(c:Fits n E a):
  (b.map λx:Nat×Operand=>match x with|(i,x)=>(i,a.eval x))=(b.map (·.1)).zip vs:=by
 have h:=hx.map c rfl;rw [List.map_map] at h;subst h;clear hx
 induction b with
 |nil=>rfl
 |cons p ps ih=>simp [ih]
theorem yd{t:TypeId}{len size bytes:Nat}{cells:zc}{b:List (Nat×Operand)}
  (ht:P.underlying t=some (.slice e)) (g:TI P e size bytes z) (k:z.cells=zs.toArray) (c:Nat.blt 0 (len*size)=true) (d:Nat.ble (len*size) 16777216=true)
  (hx:kr E true (b.map (·.2)) vs) (n:AN size len zs ((b.map (·.1)).zip vs)=some cells.toArray):
  pr P E ⟨dst,.buildSlice t len b.toArray,ty,pos,af,none⟩ w (.slice (some ⟨w.heap.size,0,none⟩) len len) (w.alloc (.cells cells.toArray e)):=λn' a m=>by
 obtain ⟨q,hi,l,_,f⟩:=g.out;have p:=aju hx m;have o:¬len*size=0:=by
  have:0<len*size:=by simpa using c
  omega
 have j:¬(len*size>2^24):=by have:=ei d;omega
 have h:Instr.fill (λi=>some (i*size,size)) ((Array.range (len*size)).map (z.cells[· %z.cells.size]!)) ((b.map (·.1)).zip vs)=some cells.toArray:=by rw [k];simpa [AN] using n
 simp only [execOp,List.map_toArray,p,Instr.buildSlice,Sem.run_bind,run_underlying ht,Result.andThen_ok,sizeOf,typeInfo,run_program,hi,Sem.run_pure,l,dk j,dk o,zeroValue,f,h,newRow,run_newObj];rfl
theorem wL{t:TypeId}{size bytes:Nat}(ht:P.underlying t=some (.slice e))(b:TI P e size bytes z):
  pr P E ⟨dst,.buildSlice t 0 #[],ty,pos,af,none⟩ w (.slice (some ⟨w.heap.size,0,none⟩) 0 0) (w.alloc (.cells ([]:zc).toArray e)):=λn' a h=>by
 obtain ⟨f,hi,g,_,c⟩:=b.out;have d:(Array.range 0).map (λ_=>(default:Value))= #[]:=Array.eq_empty_of_size_eq_zero (by simp);simp [execOp,Instr.buildSlice,run_underlying ht,sizeOf,typeInfo,hi,Instr.fill,newRow,d]
theorem bT.fresh{M:Nat->Prop}{len:Nat}{cells:zc}{xs:List α}(hb:gI w b e cells)(c:¬M b)
  (hl:xs.length=len) (a:cV A M w cells xs):bT A M w (.slice (some ⟨b,0,none⟩) len len) xs:=
 .inr ⟨b,0,len,cells.toArray,e,(0,0),by rw [hl],c,hb,by omega,by simp [a.1,hl],by rw [n9,<-a.1];simpa using a⟩
theorem kD.fresh{M:Nat->Prop}{len:Nat}{cells:zc}{xs:List α}(hb:gI w b e cells)
  (hl:xs.length=len) (hm:Nat.ble len 9223372036854775807=true) (a:cV A M w cells xs):kD A e M w (.slice (some ⟨b,0,none⟩) len len) xs:=
 ⟨cells,⟨a.1,.inr ⟨b,len,cells.toArray,by rw [hl],pF _,hb,by omega,by simpa [maxLen] using ei hm,by simp [a.1,hl],by simp [<-a.1]⟩⟩,a⟩
def sJ(vs:zc)(k:Nat)(us:zc):zc:=vs.take k++us++vs.drop (k+us.length)
theorem afV{t:TypeId}{k:Nat}{us d:zc}{size bytes:Nat}(g:TI P t size bytes z)
  (hx:ar E true x (.pointer (some ⟨b,k,none⟩))) (l:ar E true y v) (m:v.cells=us.toArray) (hl:us.length=size)
  (p:us.all Value.oneCell'=true) (hb:gI w b e vs) (hk:Nat.ble (k+us.length) vs.length=true) (f:sJ vs k us=d):
  Sc P E ⟨dst,.store t x y,ty,pos,af,none⟩ w (w.setRow b d.toArray)/\mO [b] w (w.setRow b d.toArray)/\gI (w.setRow b d.toArray) b e d:=by
 obtain ⟨r,hi,o,_,_⟩:=g.out;have h:=ei hk;have kl:=run_storeCells_at P b k e us 0 vs.toArray w hb (by simpa using h) (by simpa using p);refine ⟨λn a j=>?_,⟨rfl,rfl,rfl,by simp,λc _ i=>setRow_other w b c _ (by simpa using i)⟩,setRow_heap w b _ _ e (0,0) hb⟩;have q:(vs.take k++us++vs.drop (k+us.length))=d:=f;simp only [Nat.add_zero] at kl;simp [execOp,Instr.storeAt,Instr.sureAddr,hx n a j rfl,l n a j rfl,storeVar,sizeOf,typeInfo,hi,o,m,hl,kl];rw [<-q];simp [hl]
theorem LK{M:Nat->Prop}{t:TypeId}{k:Nat}{q:Value}{xs:List α}{u:α}{us d:zc}{size bytes:Nat}(K:TI P t size bytes z)
  (hx:ar E true x (.pointer (some (p.add k)))) (hy:ar E true y v) (hv:v.cells=us.toArray) (L:us.length=size) (W:us.all Value.oneCell'=true) (T:Cz q i A.n p) (ho:kD A e M w q xs) (hC:bN w p vs) (hvl:vs.length=A.n)
  (B:Nat.ble (k+us.length) vs.length=true) (I:sJ vs k us=d) (J:A.rd M w d u) (hM:∀b∈dW q,M b):
  ∃w',Sc P E ⟨dst,.store t x y,ty,pos,af,none⟩ w w'/\mO (dW q) w w'/\w'.heap.size=w.heap.size/\∀M',Mv M w M' w'->kD A e M' w' q (xs.set i.toNat u):=by
 obtain ⟨i',hi,hs,_,_⟩:=K.out;obtain ⟨ad,len,cap,rfl,h0,h1,rfl⟩:=T;obtain ⟨cells,⟨hcl,s⟩,Y⟩:=ho;rcases s with ⟨F,_⟩|⟨g,Z,cur,r,_,R,hc,hm,U,ht⟩
 .cases F
 .cases r;have B:=ei B;have Q:=A.len J;have l:i.toNat<xs.length:=by omega
  have G:((⟨g,0,none⟩:Addr).add (i.toNat*A.n))=⟨g,i.toNat*A.n,none⟩:=by unfold Addr.add;split <;> simp_all
  rw [G] at hx hC;have o:((⟨g,i.toNat*A.n,none⟩:Addr).add k)=⟨g,i.toNat*A.n+k,none⟩:=by unfold Addr.add;split <;> simp_all
  rw [o] at hx;have S:i.toNat*A.n+A.n<=cur.size:=by rw [U,<-qL];exact hV _ (by omega)
  have C:i.toNat*A.n+k+us.length<=cur.size:=by omega
  have kl:=run_storeCells_at P g (i.toNat*A.n+k) e us 0 cur w R (by simpa using C) (by simpa using W);simp only [Nat.add_zero] at kl
  -- the element's cells
  have f:vs=(cur.toList.drop (i.toNat*A.n)).take A.n:=by
   obtain ⟨_,cs,t',fr,hb,m⟩:=hC;rw [R] at hb;cases hb;apply s7
   .simp only [dq,j0,fi];omega
   .intro j h2 h3;have:=m j _ (b9 h2);have hj:j<A.n:=by omega
    rw [List.getElem_take,List.getElem_drop,Array.getElem_toList];rw [Array.getElem?_eq_getElem (by show i.toNat*A.n+j<cur.size;omega)] at this;exact (gj this).symm
  have H:cur.toList.take (i.toNat*A.n+k)++us++cur.toList.drop (i.toNat*A.n+k+us.length)=cur.toList.take (i.toNat*A.n)++d++cur.toList.drop ((i.toNat+1)*A.n):=by
   have e1:cur.toList.take (i.toNat*A.n+k)=cur.toList.take (i.toNat*A.n)++vs.take k:=by rw [f,qH,List.take_add,iQ (by omega)]
   have e2:cur.toList.drop (i.toNat*A.n+k+us.length)=vs.drop (k+us.length)++cur.toList.drop ((i.toNat+1)*A.n):=by
    have e3:(i.toNat+1)*A.n=i.toNat*A.n+A.n:=qL ..;rw [f,qy,qz,e3,<-q8];have e4:cur.toList.drop (i.toNat*A.n+A.n)=(cur.toList.drop (i.toNat*A.n+k+us.length)).drop (A.n-(k+us.length)):=by rw [qz];congr 1;omega
    rw [e4,qv]
   rw [e1,e2,<-I];simp [sJ]
  have h:Sc P E ⟨dst,.store t x y,ty,pos,af,none⟩ w (w.setRow g (cur.toList.take (i.toNat*A.n+k)++us++cur.toList.drop (i.toNat*A.n+k+us.length)).toArray):=λn a X=>by
   have N:¬(us.toArray.size≠i'.size):=by simp [L,hs]
   simp only [execOp,Instr.storeAt,Instr.sureAddr,hx n a X rfl,hy n a X rfl,storeVar,sizeOf,typeInfo,hi,hv,Sem.run_bind,Sem.run_pure,Result.andThen_ok,run_program,dk N,kl]
  rw [H] at h;have D:mO [g] w (w.setRow g (cur.toList.take (i.toNat*A.n)++d++cur.toList.drop ((i.toNat+1)*A.n)).toArray):=
   ⟨rfl,rfl,rfl,by simp,λc _ V=>setRow_other w g c _ (by simpa using V)⟩
  refine ⟨_,h,D,by simp,λM' O=>?_⟩;refine ⟨cells.take (i.toNat*A.n)++d++cells.drop ((i.toNat+1)*A.n),⟨?_,.inr ⟨g,cap,_,by simp,pF _,setRow_heap w g cur _ e (0,0) R,by simpa using hc,hm,?_,?_⟩⟩,((Y.set l J).mv O)⟩
  .exact (Y.set l J).1
  .have e3:(i.toNat+1)*A.n=i.toNat*A.n+A.n:=qL ..;simp only [qi,eF,dq,j0,fi];omega
  .rw [qM,<-ht];have hk:i.toNat*A.n+A.n<=xs.length*A.n:=by rw [<-qL];exact hV _ l
   have e3:(i.toNat+1)*A.n=i.toNat*A.n+d.length:=by rw [Q,qq];omega
   rw [e3,uc,uc,qH,qH,qy];have e4:min (xs.length*A.n) (i.toNat*A.n)=i.toNat*A.n:=by omega
   have e5:min (i.toNat*A.n) (xs.length*A.n)=i.toNat*A.n:=by omega
   rw [e4,e5];congr 1
   .congr 1;rw [fb];simp only [dq,fi];omega
   .congr 1;simp only [eF,dq,fi];omega
def aH(k bytes:Nat):Bool:=Nat.ble (k*bytes) 140737488355328&&Nat.ble k 9223372036854775807
theorem IW{M:Nat->Prop}(t y e:TypeId)(i:TypeInfo)(z:Value)(ht:P.underlying t=some (.slice e))(hi:P.info? e=some i)(hz:i.zero=some z)(I:i.size=A.n)
  (V:z.cells.size=A.n) {v u:Value} {xs ys:List α} (ho:kD A e M w v xs) (hy:bT A M w u ys) (hM:∀b∈dW v,M b) (k:aH (xs.length+ys.length) i.bytes=true) (_hpos:0<A.n):
  ∃v' w',(Builtin.append_ #[t,t] y #[v,u]).run P w= .ok v' w'/\mO (dW v) w w'/\(∀b∈dW v',b<w'.heap.size/\(b∈dW v\/w.heap.size<=b))/\
   (∀M',Mv M w M' w'->kD A e M' w' v' (xs++ys)):=by
 simp only [aH,au] at k;have T:=ei k.1;have S:=ei k.2;obtain ⟨cells,f,U⟩:=ho
 -- the new cells
 have R:(u= .slice none 0 0/\ys=[])\/∃F c d,u= .slice (some F) ys.length c/\d.length=ys.length*A.n/\(∀j x,d[j]? =some x->w.cell? (F.add j)=some x)/\cV A M w d ys:=by
  rcases hy with ⟨⟨uo,rfl⟩,rfl⟩|⟨b,G,cap,cs,e',fr,rfl,hMb,hb,hc,hof,s⟩
  .cases uo with
   |none=>exact .inl ⟨rfl,rfl⟩
   |some F=>exact .inr ⟨F,0,[],rfl,by simp,by simp,cV.nil⟩
  .refine .inr ⟨⟨b,G,none⟩,cap,_,rfl,s.1,λj x N=>?_,s⟩;have key:bN w ⟨b,G,none⟩ ((cs.toList.drop G).take (ys.length*A.n)):=⟨rfl,cs,e',fr,hb,λj u N=>by
    rw [qk] at N;split at N
    .simpa [qw] using N
    .cases N⟩
   exact key.cell N
 rcases R with ⟨rfl,rfl⟩|⟨F,c,d,rfl,p,J,K⟩
 . -- nothing is appended
  refine ⟨v,w,?_,(Ext.refl w).xt _,λb hb=>⟨?_,.inl hb⟩,λM' m=>⟨cells,?_,?_⟩⟩
  .rcases f.2 with ⟨rfl,h0⟩|⟨g,cap,cur,rfl,_,O,l,_⟩
   .simp [Builtin.append_,run_underlying ht,sizeOf,typeInfo,hi,Builtin.lenOf,Builtin.firstCells]
   .have kl:=run_storeCells_at P g (xs.length*i.size) e [] 0 cur w O;simp [Builtin.append_,run_underlying ht,sizeOf,typeInfo,hi,Builtin.lenOf,Builtin.firstCells,storeCells,l]
  .exact (f.lt b (by simpa [dW] using hb)).2
  .simpa using f
  .simpa using U.mv m
 .have q:=U.append K;have Q:=K.DY;by_cases Z:ys.length=0
  . -- a slice without elements
   have W:ys=[]:=et Z;subst W;have Y:d=[]:=et (by simpa using p);subst Y;refine ⟨v,w,?_,(Ext.refl w).xt _,λb hb=>⟨?_,.inl hb⟩,λM' m=>⟨cells,?_,?_⟩⟩
   .rcases f.2 with ⟨rfl,h0⟩|⟨g,cap,cur,rfl,_,O,l,_⟩
    .simp [Builtin.append_,run_underlying ht,sizeOf,typeInfo,hi,Builtin.lenOf,Builtin.firstCells,loadCells,loadCellsFrom]
    .simp [Builtin.append_,run_underlying ht,sizeOf,typeInfo,hi,Builtin.lenOf,Builtin.firstCells,storeCells,loadCells,loadCellsFrom,l]
   .exact (f.lt b (by simpa [dW] using hb)).2
   .simpa using f
   .simpa using U.mv m
  .have r:∀(lC:Nat),lC<xs.length+ys.length->
     (w.drew.alloc (.cells (cells.toArray++d.toArray++Builtin.zeroCells z.cells (grownCap w (xs.length+ys.length) lC e-(xs.length+ys.length))) e)).ownsRow 0 e A.n
      (.slice (some ⟨w.heap.size,0,none⟩) (xs++ys).length (grownCap w (xs.length+ys.length) lC e)) (xs++ys).length (cells++d):=by
    intro lC hold;have hge:=grownCap_ge w (xs.length+ys.length) lC e;have L:grownCap w (xs.length+ys.length) lC e<=maxLen:=grownCap_le_maxLen w _ lC e (by simpa [maxLen] using S);refine ⟨q.1,.inr ⟨w.heap.size,_,_,rfl,pF _,heap_alloc_new w.drew _,by simpa using hge,L,?_,?_⟩⟩
    .simp only [qW,qi,size_zeroCells,V,U.1,p,<-qq];congr 1;omega
    .simp only [Array.toList_append,cx];rw [<-cx,<-q.1];exact tJ
   have E:∀o C,mO C w (w.drew.alloc o):=λo C=>⟨rfl,rfl,rfl,by simp,λb hb _=>heap_alloc_old w.drew o hb⟩;rcases f.2 with ⟨rfl,h0⟩|⟨g,cap,cur,rfl,_,O,l,L,hcs,H⟩
   .have X:xs=[]:=et h0;subst X;have hc0:cells=[]:=et (by simpa using f.1);subst hc0;have s:=run_append_nil (P:=P) w t y e i z ht hi hz F ys.length c d (by rw [I];exact p) J (by omega) (by simp at S;omega) (by simp at T;omega);have B:=r 0 (by simp;omega);simp only [qf,mN,p5,tx] at B s;refine ⟨_,_,s,E _ _,λb hb=>?_,λM' m=>⟨_,by simpa using B,by simpa using K.mv m⟩⟩;have:b=w.heap.size:=by simpa [dW,Value.ownBlock] using hb
    subst this;exact ⟨by simp,.inr (cK _)⟩
   .by_cases h:xs.length+ys.length<=cap
    .have D:xs.length*i.size+d.length<=cur.size:=by rw [I,p,hcs,<-qq];exact hV _ h
     have s:=run_append_room (P:=P) w t y e i ht hi g xs.length cap cur O F ys.length c d (by rw [I];exact p) J Q h D;rw [I] at s;refine ⟨_,_,s,⟨rfl,rfl,rfl,by simp,λb hb hbg=>setRow_other w g b _ (by simpa [dW,Value.ownBlock] using hbg)⟩,λb hb=>?_,λM' m=>⟨cells++d,⟨q.1,.inr ⟨g,cap,_,by simp,pF _,setRow_heap w g cur _ e _ O,by simpa using h,L,?_,?_⟩⟩,q.mv m⟩⟩
     .have:b=g:=by simpa [dW,Value.ownBlock] using hb
      subst this;exact ⟨by simpa using (Array.getElem?_eq_some_iff.1 O).1,.inl (by simp [dW,Value.ownBlock])⟩
     .simp only [qi,eF,dq,j0,fi];rw [I] at D;omega
     .rw [H,<-q.1];exact tJ
    .have holds:∀j x,cells[j]? =some x->w.cell? ((⟨g,0,none⟩:Addr).add j)=some x:=f.cells (g:=g) rfl;have s:=run_append_grow (P:=P) w t y e i z ht hi hz ⟨g,0,none⟩ xs.length cap cells (by rw [I];exact U.1) holds F ys.length c d (by rw [I];exact p) J (by omega) (by omega) (growslice_fits (by omega) T);have B:=r cap (by omega);refine ⟨_,_,s,E _ _,λb hb=>?_,λM' m=>⟨_,by simpa using B,q.mv m⟩⟩;have:b=w.heap.size:=by simpa [dW,Value.ownBlock] using hb
     subst this;exact ⟨by simp,.inr (cK _)⟩
theorem xh{M:Nat->Prop}(t g e:TypeId)(i:TypeInfo)(z:Value)(ht:P.underlying t=some (.slice e))(hi:P.info? e=some i)(I:i.zero=some z)(J:i.size=A.n)
  (y:z.cells.size=A.n) {a0:Option Addr} {u:Value} {ys:List α} (hx:bT A M w (.slice a0 0 0) []) (O:bT A M w u ys) (d:aH ys.length i.bytes=true):
  ((Builtin.append_ #[t,t] g #[.slice a0 0 0,u]).run P w= .ok (.slice a0 0 0) w/\ys=[])\/
  ∃v' w',(Builtin.append_ #[t,t] g #[.slice a0 0 0,u]).run P w= .ok v' w'/\Ext w w'/\(∀b∈dW v',b<w'.heap.size/\w.heap.size<=b)/\(∀M',Mv M w M' w'->kD A e M' w' v' ys):=by
 simp only [aH,au] at d;have G:=ei d.1;have F:=ei d.2;have p:(u= .slice none 0 0/\ys=[])\/∃o c a,u= .slice (some o) ys.length c/\a.length=ys.length*A.n/\(∀j x,a[j]? =some x->w.cell? (o.add j)=some x)/\cV A M w a ys:=by
  rcases O with ⟨⟨N,rfl⟩,rfl⟩|⟨b,k,cap,cs,e',fr,rfl,R,hb,S,Q,l⟩
  .cases N with
   |none=>exact .inl ⟨rfl,rfl⟩
   |some o=>exact .inr ⟨o,0,[],rfl,by simp,by simp,cV.nil⟩
  .refine .inr ⟨⟨b,k,none⟩,cap,_,rfl,l.1,λj x h=>?_,l⟩;have key:bN w ⟨b,k,none⟩ ((cs.toList.drop k).take (ys.length*A.n)):=⟨rfl,cs,e',fr,hb,λj u h=>by
    rw [qk] at h;split at h
    .simpa [qw] using h
    .cases h⟩
   exact key.cell h
 rcases p with ⟨rfl,rfl⟩|⟨o,c,a,rfl,f,q,r⟩
 .refine .inl ⟨?_,rfl⟩;cases a0 <;> simp [Builtin.append_,run_underlying ht,sizeOf,typeInfo,hi,Builtin.lenOf,Builtin.firstCells,storeCells]
 .by_cases C:ys.length=0
  .have B:ys=[]:=et C;subst B;refine .inl ⟨?_,rfl⟩;cases a0 <;> simp [Builtin.append_,run_underlying ht,sizeOf,typeInfo,hi,Builtin.lenOf,Builtin.firstCells,storeCells,loadCells,loadCellsFrom]
  .refine .inr ?_;have D:=grownCap_ge w ys.length 0 e;have E:grownCap w ys.length 0 e<=maxLen:=grownCap_le_maxLen w _ 0 e (by simpa [maxLen] using F);have s:(w.drew.alloc (.cells (a.toArray++Builtin.zeroCells z.cells (grownCap w ys.length 0 e-ys.length)) e)).ownsRow 0 e A.n
      (.slice (some ⟨w.heap.size,0,none⟩) ys.length (grownCap w ys.length 0 e)) ys.length a:=by
    refine ⟨f,.inr ⟨w.heap.size,_,_,rfl,pF _,heap_alloc_new w.drew _,D,E,?_,?_⟩⟩
    .simp only [qW,qi,size_zeroCells,y,f,<-qq];congr 1;omega
    .simp only [Array.toList_append];rw [<-f];exact tJ
   have K:Ext w (w.drew.alloc (.cells (a.toArray++Builtin.zeroCells z.cells (grownCap w ys.length 0 e-ys.length)) e)):=⟨rfl,rfl,rfl,by simp,λb hb=>heap_alloc_old w.drew _ hb⟩;have L:∀b∈dW (.slice (some ⟨w.heap.size,0,none⟩) ys.length (grownCap w ys.length 0 e)),b<(w.drew.alloc (.cells (a.toArray++Builtin.zeroCells z.cells (grownCap w ys.length 0 e-ys.length)) e)).heap.size/\w.heap.size<=b:=λb hb=>by
    have:b=w.heap.size:=by simpa [dW,Value.ownBlock] using hb
    subst this;exact ⟨by simp,cK _⟩
   cases a0 with
   |none=>
    have l:=run_append_nil (P:=P) w t g e i z ht hi I o ys.length c a (by rw [J];exact f) q (by omega) (by omega) (by omega);exact ⟨_,_,l,K,L,λM' m=>⟨a,s,r.mv m⟩⟩
   |some H=>
    have l:=run_append_grow (P:=P) w t g e i z ht hi I H 0 0 [] (by simp) (by intro j v h;simp at h) o ys.length c a (by rw [J];exact f) q (by omega) (by omega) (growslice_fits (by omega) (by simpa using G));simp only [mN,tx] at l;exact ⟨_,_,by simpa using l,K,L,λM' m=>⟨a,s,r.mv m⟩⟩
theorem Iv{M:Nat->Prop}{u:Value}{t:TypeId}{bytes:Nat}{R:zm}(ht:P.underlying t=some (.slice e))(p:TI P e A.n bytes z)
  (g:z.cells.size=A.n) (k:0<A.n) (hx:ar E true x v) (o:ar E true y u)
  {xs ys:List α} (q:cj A e M w v xs R) (h:bT A M w u ys) (H:∀b∈R,M b) (c:aH (xs.length+ys.length) bytes=true):
  ∃d R' w',pr P E ⟨dst,.call ⟨.builtin .append,#[x,y],#[t,t]⟩,ty,pos,af,none⟩ w d w'/\mO R w w'/\(∀b∈R',b<w'.heap.size/\(b∈R\/w.heap.size<=b))/\∀M',Mv M w M' w'->cj A e M' w' d (xs++ys) R':=by
 obtain ⟨B,l,D,r,C⟩:=p.out;subst r;rcases q with ⟨rfl,q⟩|⟨rfl,rfl,⟨a0,rfl⟩,i⟩
 .obtain ⟨d,w',j,hC,G,s⟩:=IW t ty e B z ht l C D g q h H c k;exact ⟨d,dW d,w',(λn' a f=>by simp [execOp,resolve,invoke,builtin,hx n' a f rfl,o n' a f rfl,j]),hC,G,λM' m=>cj.of (s M' m)⟩
 .rcases xh t ty e B z ht l C D g i h (by simpa using c) with ⟨j,rfl⟩|⟨d,w',j,I,F,s⟩
  .exact ⟨_,[],w,(λn' a f=>by simp [execOp,resolve,invoke,builtin,hx n' a f rfl,o n' a f rfl,j]),(Ext.refl w).xt _,(λb hb=>by cases hb),λM' m=>cj.empty (i.mv m)⟩
  .exact ⟨d,dW d,w',(λn' a f=>by simp [execOp,resolve,invoke,builtin,hx n' a f rfl,o n' a f rfl,j]),I.xt _,(λb hb=>⟨(F b hb).1,.inr (F b hb).2⟩),λM' m=>cj.of (by simpa using s M' m)⟩
theorem ab9(zs:zc):∀m j,j<m*zs.length->((List.replicate m zs).flatten)[j]? =zs[j%zs.length]?
 |0,j,h=>by simp at h
 |m+1,j,h=>by
  rw [qP,List.flatten_cons];by_cases a:j<zs.length
  .rw [ec a,Nat.mod_eq_of_lt a]
  .have b:j-zs.length<m*zs.length:=by rw [qL] at h;omega
   rw [de (by omega),ab9 zs m _ b,Nat.mod_eq_sub_mod (by omega:zs.length<=j)]
theorem Np(zs:zc)(a:0<zs.length)(m:Nat):((Array.range (m*zs.length)).map (zs.toArray[· %zs.toArray.size]!))=((List.replicate m zs).flatten).toArray:=by
 apply Array.toList_inj.1;apply mm;intro j;by_cases d:j<m*zs.length
 .have b:j%zs.length<zs.length:=qT _ a;rw [ab9 zs m j d];simp only [Array.toList_map,Array.toList_range,qt,List.getElem?_range d,qi,mj];rw [b9 b];simp [b]
 .have c:((List.replicate m zs).flatten).length=m*zs.length:=by simp
  rw [ma (by simp;omega),ma (by simp at c ⊢; omega)]
theorem ajv{t:TypeId}{bytes:Nat}{v:IntKind}{l:Int}{g:α}(ht:P.underlying t=some (.slice e))(o:TI P e A.n bytes z)
  (F:z.cells=zs.toArray) (j:zs.length=A.n) (C:0<A.n) (hx:ar E true x (.int k l)) (G:ar E true y (.int v l)) (K:decide (0<=l)=true) (b:aH l.toNat bytes=true)
  (i:∀M w,A.rd M w zs g):
  ∃w',pr P E ⟨dst,.makeSlice t x y,ty,pos,af,none⟩ w (.slice (some ⟨w.heap.size,0,none⟩) l.toNat l.toNat) w'/\Ext w w'/\w.heap.size<w'.heap.size/\∀M,kD A e M w' (.slice (some ⟨w.heap.size,0,none⟩) l.toNat l.toNat) (List.replicate l.toNat g):=by
 obtain ⟨f,p,H,q,h⟩:=o.out;subst q;simp only [aH,au] at b;have I:=ei b.1;have r:=ei b.2;have u:0<=l:=by simpa using K
 have L:((l.toNat:Nat):Int)=l:=by omega
 have s:(f.bytes:Int)*l<=281474976710656:=by
  have J:((f.bytes*l.toNat:Nat):Int)<=281474976710656:=by rw [Nat.mul_comm];omega
  rwa [Int.natCast_mul,L] at J
 have B:=run_make (P:=P) w t e f z ht p h k v l l u (qc _) s (by omega);have d:∀m M w',cV A M w' ((List.replicate m zs).flatten) (List.replicate m g):=by
  intro m M w'
  induction m with
  |zero=>simpa using cV.nil
  |succ m ih=>rw [qP,List.flatten_cons,qP];exact cV.cons (i M w') ih
 have c:madeCells z.cells (l.toNat*f.size)=((List.replicate l.toNat zs).flatten).toArray:=by rw [F,H,<-j,<-Np zs (by omega) l.toNat];simp [madeCells]
 rw [c] at B;refine ⟨w.alloc (.cells ((List.replicate l.toNat zs).flatten).toArray e),(λn' a D=>by simp [execOp,hx n' a D rfl,G n' a D rfl,B]),gw _ _,by simp,λM=>?_⟩;exact kD.fresh (heap_alloc_new w _) (by simp) (by simpa using r) (d _ _ _)
end
section
variable {P : Program} {fn : Func} {S : Value -> World -> Prop} {Sp : xa -> World -> Prop} {n : Nat} {E : Env} {w : World}
def nS(P:Program)(E:Env)(w:World)(r:ResultVar)(v:Value):Prop:=
 match r with
 | .tmp t=>look E t=some (true,v)
 | .cell p t=>∃ad,look E p=some (true,.pointer (some ad))/\(loadVar t ad).run P w= .ok v w
theorem nS.t{t:Tmp}(h:look E t=some (true,v)):nS P E w (.tmp t) v:=h
theorem nS.cA{p:Tmp}{t:TypeId}{b:Addr}{size bytes:Nat}(h:look E p=some (true,.pointer (some b)))(ht:P.underlying t=some d)(hd:nD d=true)
  (a:TI P t size bytes z) (c:bN w b vs) (hl:vs.length=size):nS P E w (.cell p t) (.agg vs.toArray):=⟨b,h,NI ht hd a c hl⟩
theorem nS.c1{p:Tmp}{t:TypeId}{a:Addr}(h:look E p=some (true,.pointer (some a)))(ht:P.underlying t=some d)(hd:nD d=false)
  (b:bN w a vs) (c:vs[0]? =some v):nS P E w (.cell p t) v:=⟨a,h,NM ht hd (b.cell0 c)⟩
def Vk(a:Act)(r:ResultVar):Sem Value:=
 match r with
 | .tmp t=>pure (a.tmps.getD t undef)
 | .cell p t=>do loadVar t (<-asAddr (a.tmps.getD p undef))
theorem nS.run{r:ResultVar}(c:nS P E w r v){a:Act}(d:Fits n E a):(Vk a r).run P w= .ok v w:=by
 cases r with
 |tmp t=>have:=d.at_ t true v c;simp [Vk,this,CC]
 |cell p t=>
  obtain ⟨e,hl,b⟩:=c;have:=d.at_ p true _ hl;simp [Vk,this,CC,asAddr,b]
theorem SA(fn:Func)(a:Act):results fn a.tmps=(do let vs <-fn.results.mapM (Vk a);pure (if h:vs.size=1 then vs[0] else .tuple vs)):=rfl
theorem afU(d:fn.results.toList.length=vs.length)(h:∀a,Fits n E a->(fn.results.mapM (Vk a)).run P w= .ok vs.toArray w){v:Value}(b:(if h:vs.length=1 then vs[0] else .tuple vs.toArray)=v)(hS:S v w):
  At (BP P fn S Sp) .ret n [] E w:=λa c hd=>by
 show LeavesInM _ _ _ _ _ _ a.defers _ _;rw [hd];refine ⟨v,?_,hS⟩;rw [SA];simp only [Sem.run_bind,h a c,Result.andThen_ok,Sem.run_pure];subst b;simp
theorem Uq{r:ResultVar}(b:fn.results= #[r])(d:nS P E w r v)(hS:S v w):At (BP P fn S Sp) .ret n [] E w:=
 afU (vs:=[v]) (by rw [b];rfl) (λa c=>by rw [b];simp [d.run c]) (by simp) hS
end
structure jc(w w':World):Prop where
 os:w'.os=w.os
 tape:w'.tape=w.tape
 output:w'.output=w.output
theorem jc.refl(w:World):jc w w:=⟨rfl,rfl,rfl⟩
theorem jc.trans{a b c:World}(h:jc a b)(k:jc b c):jc a c:=⟨k.os.trans h.os,k.tape.trans h.tape,k.output.trans h.output⟩
theorem mO.env{C:zm}{w w':World}(h:mO C w w'):jc w w':=⟨h.os,h.tape,h.output⟩
structure Item where
 own:zm
 P:(Nat->Prop)->World->Prop
 lt:∀{M w},P M w->∀b∈own,b<w.heap.size
 da:∀{M M' w w'},P M w->Mv M w M' w'->(∀b∈own,w'.heap[b]? =w.heap[b]?)->jc w w'->P M' w'
 cO:Bool
 hp:cO=true->own=[]
abbrev Ctx:=List Item
def Ctx.M(Γ:Ctx)(b:Nat):Prop:= ∃it,it∈Γ/\b∈it.own
structure Sat(Γ:Ctx)(w:World):Prop where
 all:∀it,it∈Γ->it.P Γ.M w
 sep:∀(i j:Nat) (it jt:Item),Γ[i]? =some it->Γ[j]? =some jt->i≠j->∀b,b∈it.own->b∉jt.own
section
variable {Γ : Ctx} {w w' : World} {it new : Item} {i : Nat}
theorem Sat.nil:Sat [] w:=⟨λ_ h=>(by cases h),λi j it a h=>(by simp at h)⟩
theorem Sat.at_(h:Sat Γ w)(hi:Γ[i]? =some it):it.P Γ.M w:=h.all it (fm hi)
theorem Ctx.lh(hi:Γ[i]? =some it){b:Nat}(hb:b∈it.own):Γ.M b:=⟨it,fm hi,hb⟩
theorem Sat.lt(h:Sat Γ w){b:Nat}(hb:Γ.M b):b<w.heap.size:=by obtain ⟨it,hi,hb⟩:=hb;exact it.lt (h.all it hi) b hb
theorem Ctx.Fk:Ctx.M (new::Γ) b↔b∈new.own\/Γ.M b:=by
 constructor
 .rintro ⟨it,hi,hb⟩;rcases List.mem_cons.1 hi with rfl|hi
  .exact .inl hb
  .exact .inr ⟨it,hi,hb⟩
 .rintro (hb|⟨it,hi,hb⟩)
  .exact ⟨new,c8 .., hb⟩
  .exact ⟨it,cp _ hi,hb⟩
theorem Sat.ext(h:Sat Γ w)(x:Ext w w'):Sat Γ w':=
 ⟨λit hi=>it.da (h.all it hi) (x.mv _) (λb hb=>x.block b (h.lt ⟨it,hi,hb⟩)) ⟨x.os,x.tape,x.output⟩,h.sep⟩
theorem Sat.mM(h:Sat Γ w)(hi:Γ[i]? =some it)(hC:mO it.own w w')(r:∀b∈new.own,b<w'.heap.size/\(b∈it.own\/w.heap.size<=b))
  (s:∀M',Mv Γ.M w M' w'->(∀b∈it.own,b∉new.own-> ¬M' b)->new.P M' w'):Sat (Γ.set i new) w':=by
 have o:∀{j c},Γ[j]? =some c->j≠i->∀b∈new.own,b∉c.own:=λ{j c} a d b hb f=>by
  rcases (r b hb).2 with p|p
  .exact h.sep j i c it a hi d b f p
  .have:=h.lt (Ctx.lh a f);omega
 have e:∀{c},c∈Γ.set i new->c=new\/∃j,j≠i/\Γ[j]? =some c:=λ{c} a=>by grind [List.mem_iff_getElem?,Option.some.injEq]
 have mv:Mv Γ.M w (Ctx.M (Γ.set i new)) w':=by
  refine ⟨hC.size,λb hb hn=>⟨?_,hC.block b hb (λm=>hn (Ctx.lh hi m))⟩⟩;rintro ⟨c,a,q⟩;rcases e a with rfl|⟨j,_,a⟩
  .grind [Ctx.lh]
  grind [Ctx.lh]
 refine ⟨λc a=>?_,λj k c kt a hk l b hb f=>?_⟩
 .rcases e a with rfl|⟨j,d,a⟩
  .refine s _ mv (λb hb n=>?_);rintro ⟨kt,hk,g⟩;rcases e hk with rfl|⟨k,d,hk⟩
   .exact n g
   .exact h.sep k i kt it hk hi d b g hb
  .exact c.da (h.at_ a) mv (λb hb=>hC.block b (h.lt (Ctx.lh a hb)) (λm=>h.sep j i c it a hi d b hb m)) hC.env
 .rw [List.getElem?_set] at a hk;split at a <;> split at hk
  .omega
  .grind
  .grind
  .exact h.sep j k c kt a hk l b hb f
theorem Sat.push(h:Sat Γ w)(x:Ext w w')(f:∀b∈new.own,b<w'.heap.size/\w.heap.size<=b)(g:∀M',Mv Γ.M w M' w'->new.P M' w'):Sat (new::Γ) w':=by
 have mv:Mv Γ.M w (Ctx.M (new::Γ)) w':=by refine ⟨x.size,λb hb hn=>⟨?_,x.block b hb⟩⟩;grind [Ctx.Fk]
 refine ⟨λd a=>?_,λj k d kt a hk e b hb c=>?_⟩
 .rcases List.mem_cons.1 a with rfl|a
  .exact g _ mv
  .exact d.da (h.all d a) mv (λb hb=>x.block b (h.lt ⟨d,a,hb⟩)) ⟨x.os,x.tape,x.output⟩
 .cases j with
  |zero=>
   simp at a;subst a;cases k with
   |zero=>exact e rfl
   |succ k=>
    simp at hk;have:=(f b hb).2;have:=h.lt (Ctx.lh hk c);omega
  |succ j=>
   simp at a;cases k with
   |zero=>
    simp at hk;subst hk;have:=(f b c).2;have:=h.lt (Ctx.lh a hb);omega
   |succ k=>
    exact h.sep j k d kt a hk (by omega) b hb c
theorem Sat.add(h:Sat Γ w)(hp:new.own=[])(a:new.P Γ.M w):Sat (new::Γ) w:=by refine h.push (Ext.refl w) (λb hb=>absurd (hp▸hb) qF) (λM' m=>new.da a m (λb _=>rfl) (jc.refl w))
theorem Sat.map{Γ':Ctx}(h:Sat Γ w)(f:Nat->Nat)(i:∀(j:Nat) (a:Item),Γ'[j]? =some a->Γ[f j]? =some a)(l:∀(j k:Nat) (a:Item),j≠k->f j=f k->Γ'[j]? =some a->(Γ'[k]?).isSome=true->a.cO=true):Sat Γ' w:=by
 have mv:Mv Γ.M w (Ctx.M Γ') w:=Mv.weaken w λb hb=>by obtain ⟨it,hi,hb⟩:=hb;grind [List.mem_iff_getElem?,Ctx.lh]
 refine ⟨λa c=>?_,λj k a kt c hk d b hb g=>?_⟩
 .obtain ⟨k,hk⟩:=List.mem_iff_getElem?.1 c;exact a.da (h.at_ (i k a hk)) mv (λ_ _=>rfl) (jc.refl w)
 .by_cases e:f j=f k
  .have hp:=l j k a d e c (by rw [hk];rfl);rw [a.hp hp] at hb;cases hb
  .exact h.sep (f j) (f k) a kt (i j a c) (i k kt hk) e b hb g
def reB(Γ:Ctx)(k:Nat):zm->Bool
 |[]=>true
 |i::is=>Nat.blt i k&&(match Γ[i]? with
   |none=>false
   |some it=> !(is.contains i)||it.cO)&&reB Γ k is
def Ctx.re(Γ:Ctx)(k:Nat):zm->Ctx
 |[]=>Γ.drop k
 |i::is=>match Γ[i]? with
   |none=>[]
   |some it=>it::Γ.re k is
def yg(k:Nat):zm->Nat->Nat
 |[],j=>k+j
 |i::_,0=>i
 |_::is,j+1=>yg k is j
theorem OL{k:Nat}:∀(b:zm),reB Γ k b=true->∀(j:Nat) (a:Item),(Γ.re k b)[j]? =some a->Γ[yg k b j]? =some a
 |[],_,j,a,h=>by grind [Ctx.re,yg]
 |i::b,hB,j,a,h=>by
  simp [reB,au] at hB;simp [Ctx.re] at h;cases hi:Γ[i]? with
  |none=>simp [hi] at hB
  |some it=>
   simp [hi] at h;cases j with
   |zero=>simp at h;subst h;exact hi
   |succ j=>exact OL b hB.2 j a h
theorem afo(k:Nat):∀(a:zm) (j:Nat),(yg k a j∈a/\j<a.length)\/(k<=yg k a j/\yg k a j=k+(j-a.length)/\a.length<=j)
 |[],j=> .inr ⟨by simp [yg],by simp [yg],by simp⟩
 |i::a,0=> .inl ⟨by simp [yg],by simp⟩
 |i::a,j+1=>by
  rcases afo k a j with ⟨h,e⟩|⟨d,c,b⟩
  .grind [yg]
  grind [yg,List.length_cons]
theorem W4{k:Nat}:∀(b:zm),reB Γ k b=true->∀(j a:Nat) (it:Item),j<a->yg k b j=yg k b a->Γ[yg k b j]? =some it->it.cO=true
 |[],_,j,a,it,hlt,e,_=>by simp [yg] at e;omega
 |i::b,hB,j,a,it,hlt,e,hi=>by
  simp [reB,au] at hB;cases a with
  |zero=>omega
  |succ a=>
   cases j with
   |zero=>
    simp [yg] at e hi;simp [hi,eZ] at hB;rcases hB.1.2 with h|h
    .have c  :=by simpa using hB.1.1
     grind [afo]
    .exact h
   |succ j=>exact W4 b hB.2 j a it (by omega) (by simpa [yg] using e) (by simpa [yg] using hi)
theorem Sat.re(h:Sat Γ w)(k:Nat)(a:zm)(f:reB Γ k a=true):Sat (Γ.re k a) w:=
 h.map (yg k a) (OL a f) λj i g b e l d=>by
  rcases Nat.lt_or_gt_of_ne b with c|c
  .grind [W4,OL]
  grind [Option.isSome_iff_exists,OL,W4]
end
def LS{α:Type}(A:fp α)(vs:zc)(x:α):Item where
 own:=[]
 P M w:=A.rd M w vs x
 lt _ b hb:=by cases hb
 da h m _ _:=A.mv h m
 cO:=true
 hp _:=rfl
def box(b:Nat)(e:TypeId)(vs:zc):Item where
 own:=[b]
 P _ w:=gI w b e vs
 lt h c hc:=by
  have:c=b:=by simpa using hc
  subst this;exact h.lt
 da h _ k _:=gI.da h (k b (by simp))
 cO:=false
 hp h:=by cases h
def jW{α:Type}(A:fp α)(e:TypeId)(v:Value)(xs:List α)(R:zm):Item where
 own:=R
 P M w:=cj A e M w v xs R
 lt h:=h.lt
 da h m k _:=h.da k m
 cO:=false
 hp h:=by cases h
def Zq(w:World)(b:Nat)(l:aE)(pos:Nat):Prop:=w.heap[b]? =some (.stringIter ⟨l.toArray⟩ pos)
def iter(b:Nat)(l:aE)(pos:Nat):Item where
 own:=[b]
 P _ w:=Zq w b l pos
 lt h c hc:=by
  have:c=b:=by simpa using hc
  subst this;exact (Array.getElem?_eq_some_iff.1 h).1
 da h _ k _:=(k b (by simp)).trans h
 cO:=false
 hp h:=by cases h
def elem(g:Bool)(p:Addr)(vs:zc):Item where
 own:=[]
 P M w:=g=true-> ¬M p.block/\bN w p vs
 lt _ b hb:=by cases hb
 da {M M' w w'} h m _ _:=λhg=>by obtain ⟨h1,hs,cs,t,fr,hb,hc⟩:=h hg;obtain ⟨h2,h3⟩:=m.2 _ (Array.getElem?_eq_some_iff.1 hb).1 h1;exact ⟨h2,hs,cs,t,fr,h3.trans hb,hc⟩
 cO:=true
 hp _:=rfl
def kept(w0:World)(M0:Nat->Prop):Item where
 own:=[]
 P M w:=jc w0 w/\w0.heap.size<=w.heap.size/\∀b,b<w0.heap.size-> ¬M0 b-> ¬M b/\w.heap[b]? =w0.heap[b]?
 lt _ b hb:=by cases hb
 da h m _ e:=⟨h.1.trans e,dx h.2.1 m.1,λb hb hn=>by obtain ⟨h1,h2⟩:=h.2.2 b hb hn;obtain ⟨h3,h4⟩:=m.2 b (gr hb h.2.1) h1;exact ⟨h3,h4.trans h2⟩⟩
 cO:=true
 hp _:=rfl
section
variable {Γ : Ctx} {w w' : World} {α : Type} {A : fp α} {i : Nat}
theorem Sat.LS(h:Sat Γ w){vs:zc}{x:α}(hi:Γ[i]? =some (LS A vs x)):A.rd Γ.M w vs x:=h.at_ hi
theorem arG{M:Nat->Prop}{xs:List α}(h:(LP A).rd M w [v] xs):bT A M w v xs:=by obtain ⟨u,a,h⟩:=h;grind
theorem Sat.sl(h:Sat Γ w){v:Value}{xs:List α}(hi:Γ[i]? =some (Go.Proofs.YtcgihjbfppkcfaaGreatDoor.LS (LP A) [v] xs)):bT A Γ.M w v xs:=arG (h.LS hi)
theorem Sat.box(h:Sat Γ w){b:Nat}{e:TypeId}{vs:zc}(hi:Γ[i]? =some (box b e vs)):gI w b e vs:=h.at_ hi
theorem Sat.own(h:Sat Γ w){e:TypeId}{v:Value}{xs:List α}{R:zm}(hi:Γ[i]? =some (jW A e v xs R)):cj A e Γ.M w v xs R:=h.at_ hi
theorem Sat.iter(h:Sat Γ w){b:Nat}{l:aE}{pos:Nat}(hi:Γ[i]? =some (iter b l pos)):Zq w b l pos:=h.at_ hi
theorem Sat.kept(h:Sat Γ w){a:World}{c:Nat->Prop}(hi:Γ[i]? =some (kept a c)):jc a w/\a.heap.size<=w.heap.size/\∀b,b<a.heap.size-> ¬c b-> ¬ Γ.M b/\w.heap[b]? =a.heap[b]? :=h.at_ hi
theorem Sat.freeze(h:Sat Γ w){e:TypeId}{v:Value}{xs:List α}{R:zm}(hi:Γ[i]? =some (jW A e v xs R)):Sat (Γ.set i (Go.Proofs.YtcgihjbfppkcfaaGreatDoor.LS (LP A) [v] xs)) w:=
 h.mM hi ((Ext.refl w).xt _) (λb hb=>by cases hb) (λM' m hn=>((h.own hi).freeze (λb hb=>hn b hb (λhb=>by cases hb)) m).rsl)
end
def agU(M:Nat->Prop)(w:World):List Item->Prop
 |[]=>True
 |it::l=>it.P M w/\agU M w l
theorem akD{Γ:Ctx}{b:Nat}:∀(new:List Item),new.all (·.cO)=true->Ctx.M (new++Γ) b->Γ.M b
 |[],_,h=>h
 |it::l,hp,h=>by
  simp only [qp,au] at hp;rcases Ctx.Fk.1 h with h|h
  .rw [it.hp hp.1] at h;cases h
  .exact akD l hp.2 h
theorem Sat.akJ{Γ:Ctx}{w:World}(h:Sat Γ w):∀(new:List Item),new.all (·.cO)=true->agU Γ.M w new->Sat (new++Γ) w
 |[],_,_=>h
 |it::l,hp,hP=>by simp only [qp,au] at hp;have a:=h.akJ l hp.2 hP.2;exact a.add (it.hp hp.1) (it.da hP.1 (Mv.weaken w λb hb=>akD l hp.2 hb) (λ_ _=>rfl) (jc.refl w))
theorem bB{x:Int}(h: -9223372036854775808<=x/\x<=9223372036854775807):i64.wrap x=x:=by rw [IntKind.wrap_i64];omega
theorem afN{x:Int}(h:0<=x/\x<=4294967295):u32.wrap x=x:=by rw [IntKind.wrap_u32];omega
theorem abI{x:Int}(h:0<=x/\x<=18446744073709551615):u64.wrap x=x:=by rw [IntKind.wrap_u64];omega
def strOf(xs:zl):aE:=xs.map λn=>UInt8.ofNat n.toNat
section
variable {P : Program} {E : Env} {g : Bool} {w : World}
theorem cV.ints{M:Nat->Prop}{cs:zc}{xs:zl}(h:cV (RI k) M w cs xs):cs=xs.map (Value.int k):=by
 have hl:=h.1;simp [RI] at hl;apply s7 (by simpa using hl);intro i c b;have hi:i<xs.length:=by omega
 have a:=h.2 i hi;simp [RI] at a;have:cs[i]=((cs.drop i).take 1)[0]'(by simp;omega):=by simp
 grind
theorem aqB{M:Nat->Prop}{xs:zl}{c d:TypeId}(g:P.underlying c=some (.slice e))(j:P.underlying e=some (.int .u8))(hd:P.underlying d=some .string)
  (h:bT (RI .u8) M w v xs):(convert c d v).run P w= .ok (S (strOf xs)) w:=by
 rcases h with ⟨⟨a,rfl⟩,rfl⟩|⟨b,f,cap,cs,e',fr,rfl,p,hb,o,m,k⟩
 .cases a with
  |none=>exact run_convert_bytes_nil w c e g j 0 0 d hd
  |some a=>
   rw [run_convert_bytes_string w c d e _ 0 0 g j hd]
   try rfl
 .have hi:=k.ints;refine run_convert_bytes_arg w c e g j b f xs.length cap xs rfl (λi l=>?_) d hd;have q:(List.take (xs.length*(RI u8).n) (List.drop f cs.toList))[i]? =some (.int .u8 xs[i]):=by rw [hi];simp 
  grind [World.cell?,List.getD]
theorem aqF{M:Nat->Prop}{dst:zf}{ty:TypeId}{pos:String}{af:zh}{gd:Option (Nat×Bool)}{xs:zl}{b d:TypeId}(f:P.underlying b=some (.slice e))(j:P.underlying e=some (.int .u8))(hd:P.underlying d=some .string)
  (hx:ar E g x v) (h:g=true->bT (RI .u8) M w v xs):bc P E g ⟨dst,.convert b d x,ty,pos,af,gd⟩ w (S (strOf xs)):=
 λn a i c=>by simp [execOp,hx n a i c,aqB f j hd (h c)]
end
section
variable {P : Program} {E : Env} {w : World} {g : Bool}
variable {dst : zf} {ty : TypeId} {pos : String} {af : zh} {gd : w4}
def iO(k:IntKind)(x y:Int):Int:=x/2^min y.toNat k.bits
def lN(k:IntKind)(x y:Int):Int:=k.wrap (x*2^min y.toNat k.bits)
theorem ao6{b:IntKind}{l:Int}{t:TypeId}(hx:ar E g x (.int k m))(d:ar E g y (.int b l))(f:g=true->decide (0<=l)=true):
  bc P E g ⟨dst,.binOp .shr t x y t',ty,pos,af,gd⟩ w (.int k (iO k m l)):=λn a e c=>
 cD hx d (by show (Op.shift .shr k m b l).run P w=_;rw [shift_shr_any k b m l (qB (f c))];rfl) n a e c
theorem apk{b:IntKind}{l:Int}{t:TypeId}(hx:ar E g x (.int k m))(d:ar E g y (.int b l))(f:g=true->decide (0<=l)=true):
  bc P E g ⟨dst,.binOp .shl t x y t',ty,pos,af,gd⟩ w (.int k (lN k m l)):=λn a e c=>
 cD hx d (by show (Op.shift .shl k m b l).run P w=_;rw [shift_shl_any k b m l (qB (f c))];rfl) n a e c
def rB(k:IntKind)(x y:Int):Int:=k.wrap ((BitVec.ofInt k.bits x &&& BitVec.ofInt k.bits y).toNat:Nat)
def vu(k:IntKind)(x y:Int):Int:=k.wrap ((BitVec.ofInt k.bits x ||| BitVec.ofInt k.bits y).toNat:Nat)
def Ez(k:IntKind)(x y:Int):Int:=k.wrap ((BitVec.ofInt k.bits x ^^^ BitVec.ofInt k.bits y).toNat:Nat)
def afe(k:IntKind)(x y:Int):Int:=k.wrap ((BitVec.ofInt k.bits x &&& ~~~ BitVec.ofInt k.bits y).toNat:Nat)
theorem ali{l:Int}{t:TypeId}(hx:ar E g x (.int k m))(a:ar E g y (.int k l)):
  bc P E g ⟨dst,.binOp .and t x y t',ty,pos,af,gd⟩ w (.int k (rB k m l)):=Hf (.inl rfl) hx a (λ_=>rfl)
theorem aoO{l:Int}{t:TypeId}(hx:ar E g x (.int k m))(a:ar E g y (.int k l)):
  bc P E g ⟨dst,.binOp .or t x y t',ty,pos,af,gd⟩ w (.int k (vu k m l)):=Hf (.inr (.inl rfl)) hx a (λ_=>rfl)
theorem anG{l:Int}{t:TypeId}(hx:ar E g x (.int k m))(a:ar E g y (.int k l)):
  bc P E g ⟨dst,.binOp .xor t x y t',ty,pos,af,gd⟩ w (.int k (Ez k m l)):=Hf (.inr (.inr (.inl rfl))) hx a (λ_=>rfl)
theorem adI{l:Int}{t:TypeId}(hx:ar E g x (.int k m))(a:ar E g y (.int k l)):
  bc P E g ⟨dst,.binOp .andNot t x y t',ty,pos,af,gd⟩ w (.int k (afe k m l)):=Hf (.inr (.inr (.inr rfl))) hx a (λ_=>rfl)
def LQ(x y:aE):Bool:=Op.bytesLess x y
theorem apX{m l:aE}{t:TypeId}(hx:ar E g x (S m))(a:ar E g y (S l)):
  bc P E g ⟨dst,.binOp .lss t x y t',ty,pos,af,gd⟩ w (.bool (LQ m l)):=cD hx a (by simp [eqGuard,S,binOp,Op.stringOp,LQ])
theorem apy{m l:aE}{t:TypeId}(hx:ar E g x (S m))(a:ar E g y (S l)):
  bc P E g ⟨dst,.binOp .leq t x y t',ty,pos,af,gd⟩ w (.bool (LQ m l||m==l)):=cD hx a (by simp [eqGuard,S,binOp,Op.stringOp,LQ])
theorem aqr{m l:aE}{t:TypeId}(hx:ar E g x (S m))(a:ar E g y (S l)):
  bc P E g ⟨dst,.binOp .gtr t x y t',ty,pos,af,gd⟩ w (.bool (!(LQ m l||m==l))):=cD hx a (by simp [eqGuard,S,binOp,Op.stringOp,LQ])
theorem aqm{m l:aE}{t:TypeId}(hx:ar E g x (S m))(a:ar E g y (S l)):
  bc P E g ⟨dst,.binOp .geq t x y t',ty,pos,af,gd⟩ w (.bool (!(LQ m l))):=cD hx a (by simp [eqGuard,S,binOp,Op.stringOp,LQ])
def BA:Value->Bool
 | .slice none _ _=>true
 |_=>false
theorem ade{t:TypeId}{len:Nat}(ht:P.underlying t=some (.slice e))(hx:ar E g x v)(hl:PZ v len)(b:ar E g y (.slice none 0 0)):
  bc P E g ⟨dst,.binOp .eql t x y t',ty,pos,af,gd⟩ w (.bool (BA v)):=by
 obtain ⟨a,cap,rfl⟩:=hl;exact cD hx b (by cases a <;> simp [eqGuard,binOp,run_equal_slice_nil w t e _ _ _ ht,BA])
theorem adC{t:TypeId}{len:Nat}(ht:P.underlying t=some (.slice e))(hx:ar E g x v)(hl:PZ v len)(b:ar E g y (.slice none 0 0)):
  bc P E g ⟨dst,.binOp .neq t x y t',ty,pos,af,gd⟩ w (.bool (!BA v)):=by
 obtain ⟨a,cap,rfl⟩:=hl;exact cD hx b (by cases a <;> simp [eqGuard,binOp,run_equal_slice_nil w t e _ _ _ ht,BA])
end
def aQ(l:aE):zl:=l.map λb=>(b.toNat:Int)
theorem NZ{w:World}{M:Nat->Prop}:∀l:aE,cV (RI .u8) M w (l.map λb=>Value.int .u8 (b.toNat:Int)) (aQ l)
 |[]=>cV.nil
 |b::l=>cV.cons rfl (NZ l)
section
variable {P : Program} {E : Env} {w : World} {dst : zf} {ty : TypeId} {pos : String} {af : zh}
theorem al9{l:aE}{g k:TypeId}(m:P.underlying g=some .string)(hd:P.underlying k=some (.slice e))(p:P.underlying e=some (.int .u8))(hx:ar E true x (S l)):
  ∃v' w',pr P E ⟨dst,.convert g k x,ty,pos,af,none⟩ w v' w'/\Ext w w'/\w.heap.size<w'.heap.size/\(∀M:Nat->Prop,¬M w.heap.size->bT (RI .u8) M w' v' (aQ l)):=by
 have d:=run_bytes_of_string w g k e ⟨l.toArray⟩ m hd p;have c:(w.drew.alloc (.cells (bytesRow ⟨l.toArray⟩ (grownCap w l.length 0 e)) e ((bytesRow ⟨l.toArray⟩ (grownCap w l.length 0 e)).size,(bytesRow ⟨l.toArray⟩ (grownCap w l.length 0 e)).size+1))).heap[w.heap.size]? =some (.cells (bytesRow ⟨l.toArray⟩ (grownCap w l.length 0 e)) e ((bytesRow ⟨l.toArray⟩ (grownCap w l.length 0 e)).size,(bytesRow ⟨l.toArray⟩ (grownCap w l.length 0 e)).size+1)):=by show (w.heap.push _)[w.heap.size]? =_;simp
 have i:=gw w.drew (.cells (bytesRow ⟨l.toArray⟩ (grownCap w l.length 0 e)) e ((bytesRow ⟨l.toArray⟩ (grownCap w l.length 0 e)).size,(bytesRow ⟨l.toArray⟩ (grownCap w l.length 0 e)).size+1));have j:=(Array.getElem?_eq_some_iff.1 c).1;refine ⟨.slice (some ⟨w.heap.size,0,none⟩) l.length (grownCap w l.length 0 e),_,?_,⟨i.os,i.tape,i.output,i.size,i.block⟩,j,λM q=>?_⟩
 .intro n a o;rw [uu] at d;simp [execOp,hx n a o rfl];simp [S,d]
 .have h  :=grownCap_ge w l.length 0 e;have f:(aQ l).length=l.length:=by simp [aQ]
  refine .inr ⟨w.heap.size,0,grownCap w l.length 0 e,bytesRow ⟨l.toArray⟩ (grownCap w l.length 0 e),e,_,by rw [f],q,c,by rw [f];exact h,?_,?_⟩
  .simp [bytesRow,RI,uu];omega
  .have:((bytesRow ⟨l.toArray⟩ (grownCap w l.length 0 e)).toList.drop 0).take ((aQ l).length*(RI .u8).n)=l.map λb=>Value.int .u8 (b.toNat):=by simp [bytesRow,aQ,RI]
   grind [NZ]
end
section
variable {P : Program} {ρ : ze} {Q : bh} {n : Nat} {D : x3} {E : Env} {w : World} {ops : zg} {rest : zj} {Γ : Ctx} {i : Nat}
variable {d : Tmp} {ty : TypeId} {pos : String} {af : zh}
theorem amJ{t:TypeId}{size bytes:Nat}{z:Value}{zs:zc}(e:Sat Γ w)(a:TI P t size bytes z)(c:z.cells=zs.toArray)(hn:Nat.blt d n=true)
  (h:∀b w',Sat (box b t zs::Γ) w'->WL P ρ ops Q n D rest ((d,true,.pointer (some ⟨b,0,none⟩))::E) w'):
  WL P ρ ops Q n D (⟨some d,.alloc t,ty,pos,af,none⟩::rest) E w:=
 yI (LA a c) rfl rfl rfl hn (h _ _ (e.push (gw _ _) (λb hb=>by simp_all [box]) (λ_ _=>heap_alloc_new w _)))
theorem aiD{u:Value}{t:TypeId}{bytes:Nat}{R:zm}{xs ys:List α}(r:Sat Γ w)(i:Nat)(hi:Γ[i]? =some (jW A e v xs R))
  (ht:P.underlying t=some (.slice e)) (q:TI P e A.n bytes z) (k:z.cells.size=A.n) (f:Nat.blt 0 A.n=true) (hx:ar E true x v) (s:ar E true y u) (l:bT A Γ.M w u ys)
  (c:aH (xs.length+ys.length) bytes=true) (hn:Nat.blt d n=true)
  (h:∀(p:jU) g w',Sat (Γ.set i (jW A e (sl p) (xs++ys) g)) w'->WL P ρ ops Q n D rest ((d,true,sl p)::E) w'):
  WL P ρ ops Q n D (⟨some d,.call ⟨.builtin .append,#[x,y],#[t,t]⟩,ty,pos,af,none⟩::rest) E w:=by
 obtain ⟨j,g,w',B,hC,F,G⟩:=Iv ht q k (by simpa using f) hx s (r.own hi) l (λb hb=>Ctx.lh hi hb) c;have hS:=r.mM hi (new:=jW A e j (xs++ys) g) hC F (λM' m _=>G M' m);have o:∃p,j=sl p:=by have C:=hS.own (i:=i) (A:=A) (e:=e) (v:=j) (xs:=xs++ys) (R:=g) (by grind);obtain ⟨a,cap,o⟩:=C.len;exact ⟨(a,_,cap),o⟩
 obtain ⟨p,rfl⟩:=o;exact yI B rfl rfl rfl hn (h _ _ _ hS)
def aiT(l:aE)(pos:Nat):Int:=((Utf8.decode ⟨l.toArray⟩ pos).1:Nat)
def xB(l:aE)(pos:Nat):Nat:=pos+(Utf8.decode ⟨l.toArray⟩ pos).2
end
variable {J : World -> Prop} {i j : Nat} {oj : Oper}
def EH(Q:bh)(c:xa)(D:x3)(w:World):Prop:= ∀a,a.defers=D->Q (.panic c) a w
def QN(Q:bh):bh:=λe a w=>match e with|.panic c=>EH Q c a.defers w|e=>Q e a w
theorem apd{Q:bh}{c:xa}{D:x3}{w:World}(h:EH Q c D w):EH (Exit.inBlock i Q) c D w:=h
theorem EH.at{Q:bh}{c:xa}{D:x3}{w:World}{n:Nat}{E:Env}(h:EH Q c D w):At Q (.panic c) n D E w:=λa _ hd=>h a hd
theorem kH(a:Act)(d:zf)(v:Value):(a.put d v).defers=a.defers:=by cases d <;> rfl
section
variable {P : Program} {ρ : ze} {ops : zg} {md : Region.Mode}
def YJ(P:Program)(ops:zg)(J:World->Prop)(o:Oper)(v:Value)(a:Act):Prop:=
 (Region.wanted o (yielded ops a.tmps)=true/\∀w,J w->(execOp a.eval o).run P w= .ok (.value v) w)\/
 (Region.wanted o (yielded ops a.tmps)=false/\v=undef)
theorem YJ.wpOp{a:Act}{Q:bh}(hi:ops[i]? =some o)(hp:kg o=true)(c:YJ P ops J o v a)
  {K:Act->World->Prop} {w:World} (e:J w) (h:K (a.put o.dst v) w):wpOpIn (FW ρ) 0 P ops Q i K a w:=by
 unfold Go.wpOpIn;simp [hi];rcases c with ⟨b,d⟩|⟨b,rfl⟩
 .simp [b];exact oy hp (by rw [d w e];exact h)
 .simp [b,eT];exact ⟨λ_ _=>trivial,h⟩
theorem YJ.of_same{a b:Act}(c:YJ P ops J o v a)(e:execOp b.eval o=execOp a.eval o)
  (d:Region.wanted o (yielded ops b.tmps)=Region.wanted o (yielded ops a.tmps)):YJ P ops J o v b:=by
 unfold YJ at*;rw [e,d];exact c
theorem ai2{e:Oper}{Q:bh}(y:ops[j]? =some oj)(g:kg oj=true)(o:e.apart ops oj=true)
  (m:∀cs b,e.op≠ .select cs b) (l:∀cs b,oj.op≠ .select cs b) (hQ:∀c a w,Q (.panic c) (a.put e.dst v) w->Q (.panic c) a w) {K:Act->World->Prop} {a:Act} {w:World}
  (i:YJ P ops J e v a) (h:wpOpIn (FW ρ) 0 P ops Q j K (a.put e.dst v) w):
  wpOpIn (FW ρ) 0 P ops Q j (λs w'=>YJ P ops J e v s/\K (s.put e.dst v) w') a w:=by
 obtain ⟨q,z,p⟩:=Oper.apart_spec o;have da:∀(a:Act),YJ P ops J e v a->∀u,YJ P ops J e v (a.put oj.dst u):=λa i u=>
  i.of_same (execOp_put e m a oj.dst u p) (wanted_put e a oj.dst u p)
 have k:∀d,YJ P ops J e v { a with defers:=d::a.defers }:=λd=>i.of_same rfl rfl;unfold wpOpIn at*;simp only [y] at*;rw [wanted_put oj a e.dst v q] at h;split
 .rename_i t;simp [t] at h;refine oy g ?_;have h:=h.2;rw [show (FW ρ).round=ρ from rfl,Lc g,execOp_put oj l a e.dst v q] at h;generalize (execOp a.eval oj).run P w=r at*;cases r with
  |ok n w'=>
   cases n <;> simp [Oper.uponIn] at h ⊢
   case value u=>grind [Act.put_comm]
   case skip=>grind [Act.put_comm,undef]
   case defer d=>
    grind [Act.put_comm,undef,Act.put_defers]
   case enter f args=>
    grind [CallsIn.mono,Act.put_comm]
   case row row args=>grind [RowsIn.mono,Act.put_comm]
   grind [RoundIn.mono,Act.put_comm]
  |halt x w'=>
   cases x <;> simp [Oper.uponIn] at h ⊢;grind
 .exact ⟨λ_ _=>trivial,da a i _,by grind [Act.put_comm,undef]⟩
def waits(md:Region.Mode)(ops:zg)(k i:Nat):Bool:=match ops[k]? with
 |some o=>o.after.any λe=>Region.binds md e&&e.on==i
 |none=>false
abbrev fO:=List (Nat×(World->Prop))
def jl:fO->World->Prop
 |[],_=>True
 |p::l,w=>p.2 w/\jl l w
def still(md:Region.Mode)(ops:zg)(k:Nat)(l:fO):fO:=l.filter λp=> !waits md ops k p.1
theorem abU{w:World}:jl [] w:=trivial
theorem pn{f:Nat×(World->Prop)->Bool}{w:World}:∀{l:fO},jl l w->jl (l.filter f) w
 |[],_=>trivial
 |p::l,h=>by
  rw [tj];split
  .exact ⟨h.1,pn h.2⟩
  .exact pn h.2
def GP(P:Program)(ρ:ze)(md:Region.Mode)(ops:zg)(Q:bh):Nat->fO->zi->Act->World->Prop
 |0,pend,listed,a,w=>jl pend w/\Region.ready md ops listed=[]/\Q .normal a w
 |fuel+1,pend,listed,a,w=>jl pend w/\(Region.ready md ops listed=[]->Q .normal a w)/\
  ∀i∈Region.ready md ops listed,wpOpIn (FW ρ) 0 P ops Q i (GP P ρ md ops Q fuel (still md ops i pend) (listed.setIfInBounds i true)) a w
theorem acu{Q:bh}(p:Nat×(World->Prop)):∀(c:Nat) (pend:fO) (b:zi) (a:Act) (w:World),GP P ρ md ops Q c (p::pend) b a w->GP P ρ md ops Q c pend b a w
 |0,_,_,_,_,h=>⟨h.1.2,h.2⟩
 |c+1,pend,b,a,w,h=>⟨h.1.2,h.2.1,λi hi=>wpOpIn_mono (λe w' d=>by
   unfold still at d;rw [tj] at d;split at d
   .exact acu p c _ _ _ _ d
   .exact d) (h.2.2 i hi)⟩
theorem aey{Q:bh}:∀(c:Nat) (pend:fO) (b:zi) (a:Act) (w:World),GP P ρ md ops Q c pend b a w->wpAnyIn (FW ρ) 0 P md ops Q c b a w
 |0,_,_,_,_,h=>h.2
 |c+1,_,_,_,_,h=>⟨h.2.1,λi hi=>wpOpIn_mono (λf e d=>aey c _ _ _ _ d) (h.2.2 i hi)⟩
theorem adv{k:Nat}(hk:ops[k]? =some o)(h:∀e∈o.after,Region.binds md e=true->e.on≠i):waits md ops k i=false:=by simp_all [waits,au]
theorem akx{Q:bh}{u:Oper}(hi:ops[i]? =some u)(r:∀(j:Nat) (o:Oper) cs b,ops[j]? =some o->o.op≠ .select cs b)
  (hQ:∀c (a:Act) d v w,Q (.panic c) (a.put d v) w->Q (.panic c) a w) (t:∀(j:Nat) (o:Oper),ops[j]? =some o->kg o=true):
  ∀(l:Nat) (pend:fO) (g:zi) (a:Act) (w:World),
   (∀j oj,ops[j]? =some oj->j≠i->g.getD j true=false->(∀e∈oj.after,Region.binds md e=true->e.on≠i)->u.apart ops oj=true)->
   i∈Region.ready md ops g->YJ P ops J u v a->
   GP P ρ md ops Q l ((i,J)::pend) (g.setIfInBounds i true) (a.put u.dst v) w->GP P ρ md ops Q (l+1) pend g a w:=by
 intro l
 induction l with
 |zero=>
  intro pend g a w _ x z H;refine ⟨H.1.2,λh=>(by rw [h] at x;cases x),λj A=>?_⟩;by_cases m:j=i
  .subst m;exact z.wpOp hi (t _ _ hi) H.1.1 ⟨pn H.1.2,H.2⟩
  .have:=ready_mono A m;rw [H.2.1] at this;cases this
 |succ l ih=>
  intro pend g a w n x z H;refine ⟨H.1.2,λh=>(by rw [h] at x;cases x),λj A=>?_⟩;by_cases m:j=i
  .subst m;refine z.wpOp hi (t _ _ hi) H.1.1 ?_;have O:=acu _ _ _ _ _ _ H
   -- fewer promises
   have key:∀(l:Nat) (pend:fO) (f:Nat×(World->Prop)->Bool) (g:zi) (a:Act) (w:World),GP P ρ md ops Q l pend g a w->GP P ρ md ops Q l (pend.filter f) g a w:=by
    intro l
    induction l with
    |zero=>intro pend f g a w h;exact ⟨pn h.1,h.2⟩
    |succ l G=>
     intro pend f g a w h;refine ⟨pn h.1,h.2.1,λi hi=>wpOpIn_mono (λF w' S=>?_) (h.2.2 i hi)⟩;have:still md ops i (pend.filter f)=(still md ops i pend).filter f:=by grind [still,List.filter_filter,Bool.and_comm]
     grind
   exact key _ _ _ _ _ _ O
  .have N:=H.2.2 j (ready_mono A m);obtain ⟨s,oj,p,E⟩:=mem_ready.1 A;have y:∀e∈oj.after,Region.binds md e=true->e.on≠i:=λe R hb K=>by grind [mem_ready,Nat.lt_or_ge,Array.getElem?_eq_none]
   have M:=ai2 p (t _ _ p) (n j oj p m s y) (λcs b=>r i u cs b hi) (λcs b=>r j oj cs b p) (λc a w=>hQ c a _ _ w) z N;have q:∀k ok,ops[k]? =some ok->k≠i->(g.setIfInBounds j true).getD k true=false->
     (∀e∈ok.after,Region.binds md e=true->e.on≠i)->u.apart ops ok=true:=λk ok hk C I B=>by
    refine n k ok hk C ?_ B;by_cases D:j=k
    .subst D;exact s
    simp_all
   refine wpOpIn_mono (λF w' L=>ih _ (g.setIfInBounds j true) F w' q (ready_mono x (Ne.symm m)) L.1 ?_) M;grind [Array.setIfInBounds_comm,still,adv]
inductive OT where
 |nil
 |q (k m:Nat) (r:OT)
 |l (k m:Nat) (r:OT)
 |l2 (m:Nat) (k₁:Nat) (r₁:OT) (k₂:Nat) (r₂:OT)
 /-- k changes the world and takes the floats fs; the floats fl (new blocks) may run here, ahead of it, in whatever order -/
 |f (k m:Nat) (fl fs:zm) (r:OT)
def lu:List Edge->Nat
 |[]=>0
 |e::l=>bif Region.binds .any e then Nat.lor (Nat.shiftLeft 1 e.on) (lu l) else lu l
theorem xy:∀(l:List Edge) (i:Nat),(lu l).testBit i=l.any (λe=>Region.binds .any e&&e.on==i)
 |[],i=>by simp [lu]
 |e::l,i=>by
  simp only [lu,List.any_cons];cases h:Region.binds .any e
  .simp [xy l i]
  .have c:(Nat.lor (Nat.shiftLeft 1 e.on) (lu l)).testBit i=((1 <<< e.on) ||| lu l).testBit i:=rfl;rw [ca,c,Nat.testBit_or,xy l i,Nat.testBit_shiftLeft];by_cases hi:e.on=i
   .subst hi;simp
   .have b:(e.on==i)=false:=by simpa using hi
    rw [b];by_cases a:e.on<=i
    .obtain ⟨n,hn⟩:∃n,i-e.on=n+1:=⟨i-e.on-1,by omega⟩;grind
    .simp [a]
def KA(a m:Nat):Bool:=Nat.beq (Nat.land a m) a
theorem A4{a m:Nat}:KA a m=true↔ ∀i,a.testBit i=true->m.testBit i=true:=by
 unfold KA;constructor
 .intro h i hi;have b:a &&& m=a:=b0 h;grind
 .intro h;have b:a &&& m=a:=by apply Nat.eq_of_testBit_eq;grind
  simp_all
def Gy:zm->Nat->Nat->zm->Bool
 |[],_,_,_=>true
 |a::as,j,m,ks=>(Nat.testBit m j|| !(KA a m)||ks.any (Nat.beq j))&&Gy as (j+1) m ks
theorem Uf:∀(l:zm) (b m:Nat) (ks:zm),Gy l b m ks=true->∀j a,l[j]? =some a->m.testBit (b+j)=false->KA a m=true->(b+j)∈ks
 |[],_,_,_,_,j,a,h,_,_=>by simp at h
 |a0::as,b,m,ks,hB,j,a,h,h1,h2=>by
  simp [Gy,au,l9] at hB;cases j with
  |zero=>
   simp_all 
  |succ j=>
   have:=Uf as (b+1) m ks hB.2 j a h (by grind) h2;grind
def Bz(masks:zm)(k m:Nat):Bool:=match masks[k]? with
 |some a=> !(Nat.testBit m k)&&KA a m
 |none=>false
def bit(m k:Nat):Nat:=Nat.lor m (Nat.shiftLeft 1 k)
theorem DZ(m k i:Nat):(bit m k).testBit i=(m.testBit i||k==i):=by
 have c:(bit m k).testBit i=(m ||| (1 <<< k)).testBit i:=rfl;rw [c,Nat.testBit_or,Nat.testBit_shiftLeft];by_cases hi:k=i
 .subst hi;simp
 .have b:(k==i)=false:=by simpa using hi
  rw [b];by_cases a:k<=i
  .obtain ⟨n,hn⟩:∃n,i-k=n+1:=⟨i-k-1,by omega⟩;grind
  .simp [a]
def ey(f:Nat):zm->Bool
 |[]=>false
 |x::l=>Nat.beq x f||ey f l
theorem dE{f:Nat}:∀{l:zm},ey f l=true↔f∈l
 |[]=>by simp [ey]
 |x::l=>by
  simp [ey,eZ,qe,dE];constructor
  .grind [Nat.eq_of_beq_eq_true]
  .rintro (h|h)
   .simp_all
   .exact .inr h
def lG(m:Nat):zm->Nat
 |[]=>m
 |f::l=>bit (lG m l) f
theorem eU{m i:Nat}:∀{l:zm},(lG m l).testBit i=(m.testBit i||ey i l)
 |[]=>by simp [lG,ey]
 |f::l=>by
  have e:(f==i)=Nat.beq f i:=by rw [qC,n6];simp_all
  rw [lG,DZ,eU,ey,e];grind
def hasB(masks:zm)(k f:Nat):Bool:=match masks[k]? with
 |some a=>a.testBit f
 |none=>false
def wA(masks:zm):OT->zm->Nat->Bool
 | .nil,pf,m=>pf.isEmpty&&Gy masks 0 m []
 | .q k m' r,pf,m=>Nat.beq m' m&&Bz masks k m'&& !(ey k pf)&&wA masks r pf (bit m' k)
 | .l k m' r,pf,m=>pf.isEmpty&&Nat.beq m' m&&Bz masks k m'&&Gy masks 0 m' [k]&&wA masks r [] (bit m' k)
 | .l2 m' k₁ r₁ k₂ r₂,pf,m=>pf.isEmpty&&Nat.beq m' m&&Bz masks k₁ m'&&Bz masks k₂ m'&&Gy masks 0 m' [k₁,k₂]&&wA masks r₁ [] (bit m' k₁)&&wA masks r₂ [] (bit m' k₂)
 | .f k m' fl fs r,pf,m=>Nat.beq m' m&&pf.all (λf=>ey f fl)&&fl.all (λf=>Bz masks f m')&&fs.all (λf=>ey f fl&&hasB masks k f)&& !(ey k fl)&&Bz masks k (lG m' fs)&&Gy masks 0 (lG m' fl) [k]&&
  wA masks r (fl.filter λf=> !(ey f fs)) (bit (lG m' fs) k)
def LM(n:Nat)(listed:zi)(m:Nat):Prop:=listed.size=n/\∀i,i<n->listed.getD i true=m.testBit i
theorem LM.set{n k m:Nat}{a:zi}(h:LM n a m):LM n (a.setIfInBounds k true) (bit m k):=by
 refine ⟨by simp [h.1],λi hi=>?_⟩;rw [DZ];by_cases e:k=i
 .simp_all
 .have b:=h.2 i hi;simp_all
theorem LM.getD{n m:Nat}{a:zi}(h:LM n a m)(b:Bool)(hi:i<n):a.getD i b=m.testBit i:=by
 rw [<-h.2 i hi];have:i<a.size:=by rw [h.1];exact hi
 simp [this]
def Ue(ops:zj)(masks:zm):Bool:=match ops,masks with
 |[],[]=>true
 |o::ops,a::as=>Nat.beq (lu o.after.toList) a&&Ue ops as
 |_,_=>false
theorem Qm:∀(ops:zj) (masks:zm),Ue ops masks=true->masks=ops.map λo=>lu o.after.toList
 |[],[],_=>rfl
 |o::ops,a::as,h=>by
  simp only [Ue,au] at h;rw [e9,<-b0 h.1,<-Qm ops as h.2]
 |[],_::_,h=>by cases h
 |_::_,[],h=>by cases h
def Zr(n:Nat)(ops:zj):Bool:=ops.all λo=>o.after.toList.all λe=> !Region.binds .any e||Nat.blt e.on n
section
variable {ops : zg} {masks : zm}
theorem Hj(hm:masks=ops.toList.map λo=>lu o.after.toList)(r:Zr ops.size ops.toList=true){b:zi}{m j:Nat}(p:LM ops.size b m):
  j∈Region.ready .any ops b↔ ∃a,masks[j]? =some a/\m.testBit j=false/\KA a m=true:=by
 rw [mem_ready];have f:∀{o:Oper} {e:Edge},o∈ops.toList->e∈o.after->Region.binds .any e=true->e.on<ops.size:=λ{o e} l d hb=>by have n:=List.all_eq_true.1 r o l;have q:=List.all_eq_true.1 n e (by simpa using d);simp_all
 constructor
 .rintro ⟨n,oj,g,q⟩;have k  :=(Array.getElem?_eq_some_iff.1 g).1;refine ⟨lu oj.after.toList,by grind,by rw [<-p.2 j k];exact n,?_⟩;rw [A4];intro i hi;rw [xy,List.any_eq_true] at hi;obtain ⟨e,d,hb⟩:=hi;simp at hb;have h  :=by simpa using d
  have c:oj∈ops.toList:=by grind
  have:=q e h hb.1;rw [p.getD false (f c h hb.1),hb.2] at this;exact this
 .rintro ⟨a,ha,n,q⟩;rw [hm,qt] at ha;cases l:ops.toList[j]? with
  |none=>rw [l] at ha;cases ha
  |some oj=>
   have g  :=by simpa using l
   have k  :=(Array.getElem?_eq_some_iff.1 g).1;refine ⟨by rw [p.2 j k];exact n,oj,g,λe d hb=>?_⟩;have c  :=fm l;rw [p.getD false (f c d hb)];grind [A4,xy,List.any_eq_true]
end
def O7(t:Tmp)(o:Oper):Bool:=match o.dst with
 |some d=>Nat.beq d t
 |none=>false
def acd(t:Tmp)(j a:Nat):zj->zm->Nat->Bool
 |[],_,_=>true
 |o::l,ms,i=>(!(O7 t o)||Nat.beq i j||Nat.testBit a i||(match ms with|m::_=>Nat.testBit m j|[]=>false))&&acd t j a l ms.tail (i+1)
def Ob(t:Tmp)(j:Nat):zj->Nat->Bool
 |[],_=>true
 |o::l,i=>(!(O7 t o)||Nat.beq i j)&&Ob t j l (i+1)
def OI(ops:zg)(all:zj)(mall:zm):zj->zm->Nat->Bool
 |[],_,_=>true
 |o::l,a::as,j=>(o.looksAt ops).all (λt=>acd t j a all mall 0)&&(match o.dst with|some d=>Ob d j all 0|none=>true)&&OI ops all mall l as (j+1)
 |_::_,[],_=>false
theorem Nh{t:Tmp}{j a:Nat}:∀(l:zj) (c:zm) (i0:Nat),acd t j a l c i0=true->∀i o,l[i]? =some o->o.dst=some t->i0+i≠j->a.testBit (i0+i)=true\/∃m,c[i]? =some m/\m.testBit j=true
 |[],_,_,_,i,o,h,_,_=>by simp at h
 |o0::l,c,i0,hB,i,o,h,hd,hne=>by
  simp [acd,au,eZ] at hB;cases i with
  |zero=>
   simp at h;subst h;rcases hB.1 with ((b|b)|b)|b
   .simp [O7,hd] at b
   .simp_all
   .exact .inl b
   grind
  |succ i=>
   have e:i0+1+i=i0+(i+1):=by omega
   have:=Nh l c.tail (i0+1) hB.2 i o h hd (by rw [e];exact hne);grind
theorem Qb{t:Tmp}{j:Nat}:∀(l:zj) (i0:Nat),Ob t j l i0=true->∀i o,l[i]? =some o->o.dst=some t->i0+i=j
 |[],_,_,i,o,h,_=>by simp at h
 |o0::l,i0,hB,i,o,h,hd=>by
  simp [Ob,au,eZ] at hB;cases i with
  |zero=>
   simp_all [O7]
  |succ i=>
   have:=Qb l (i0+1) hB.2 i o h hd;omega
theorem LC{ops:zg}{all:zj}{b:zm}:∀(l:zj) (as:zm) (c:Nat),OI ops all b l as c=true->∀j o a,l[j]? =some o->as[j]? =some a->
  (∀t∈o.looksAt ops,acd t (c+j) a all b 0=true)/\(∀d,o.dst=some d->Ob d (c+j) all 0=true)
 |[],_,_,_,j,o,a,h,_=>by simp at h
 |o0::l,[],_,h,_,_,_,_,_=>by cases h
 |o0::l,a0::as,c,hB,j,o,a,h,ha=>by
  simp [OI,au] at hB;cases j with
  |zero=>
   grind
  |succ j=>
   have e:c+1+j=c+(j+1):=by omega
   have:=LC l as (c+1) hB.2 j o a h ha;rwa [e] at this
theorem anq{ops:zg}{masks:zm}(hm:masks=ops.toList.map λo=>lu o.after.toList)(f:OI ops ops.toList masks ops.toList masks 0=true){i j:Nat}{a oj:Oper}(hi:ops[i]? =some a)(q:ops[j]? =some oj)(p:j≠i)
  (u:(lu oj.after.toList).testBit i=false) (t:(lu a.after.toList).testBit j=false):a.apart ops oj=true:=by
 have c:ops.toList[i]? =some a:=by simpa using hi
 have b:ops.toList[j]? =some oj:=by simpa using q
 have n:masks[i]? =some (lu a.after.toList):=by grind
 have l:masks[j]? =some (lu oj.after.toList):=by grind
 obtain ⟨k,ti⟩:=LC _ _ 0 f i a _ c n;obtain ⟨g,s⟩:=LC _ _ 0 f j oj _ b l;unfold Oper.apart;simp;constructor
 .cases hd:a.dst with
  |none=>rfl
  |some d=>
   simp only [au,l9];refine ⟨?_,?_⟩
   .rw [qj];intro e;rcases Nh _ _ 0 (g d (by simpa using e)) i a c hd (by omega) with h|⟨m,h,r⟩
    .grind
    grind
   grind [Qb]
 .cases hd:oj.dst with
  |none=>rfl
  |some d=>
   simp only [l9];rw [qj];intro e;rcases Nh _ _ 0 (k d (by simpa using e)) j oj b hd (by omega) with h|⟨m,h,r⟩
   .grind
   grind
def aci(ops:zg)(masks:zm)(order:OT):Bool:=
 ops.toList.all kg&&Region.noSelect ops&&Ue ops.toList masks&&Zr ops.size ops.toList&&OI ops ops.toList masks ops.toList masks 0&&wA masks order [] 0
def wpE(P:Program)(ρ:ze)(ops:zg)(Q:bh)(fl:zm)(pend:fO)(nx:zm->Act->World->Prop):Nat->zm->Act->World->Prop
 |0,ea,a,w=>nx ea a w
 |n+1,ea,a,w=>nx ea a w/\∀f∈fl,ey f ea=false->wpOpIn (FW ρ) 0 P ops Q f (λa' w'=>jl pend w'/\wpE P ρ ops Q fl pend nx n (f::ea) a' w') a w
def lV(P:Program)(ρ:ze)(ops:zg)(Q:bh):OT->zm->fO->Act->World->Prop
 | .nil,_,_,a,w=>Q .normal a w
 | .q k _ r,ea,pend,a,w=>match ops[k]? with
  |none=>False
  |some o=>∃v J,J w/\YJ P ops J o v a/\lV P ρ ops Q r ea ((k,J)::pend) (a.put o.dst v) w
 | .l k _ r,ea,pend,a,w=>match ops[k]? with
  |none=>False
  |some _=>wpOpIn (FW ρ) 0 P ops Q k (λa' w'=>jl (still .any ops k pend) w'/\lV P ρ ops Q r ea (still .any ops k pend) a' w') a w
 | .l2 _ k₁ r₁ k₂ r₂,ea,pend,a,w=>(match ops[k₁]? with
  |none=>False
  |some _=>wpOpIn (FW ρ) 0 P ops Q k₁ (λa' w'=>jl (still .any ops k₁ pend) w'/\lV P ρ ops Q r₁ ea (still .any ops k₁ pend) a' w') a w)/\
  (match ops[k₂]? with
  |none=>False
  |some _=>wpOpIn (FW ρ) 0 P ops Q k₂ (λa' w'=>jl (still .any ops k₂ pend) w'/\lV P ρ ops Q r₂ ea (still .any ops k₂ pend) a' w') a w)
 | .f k _ fl fs r,ea,pend,a,w=>wpE P ρ ops Q fl pend (λea a w=>(∀f∈fs,f∈ea)->wpOpIn (FW ρ) 0 P ops Q k (λa' w'=>jl (still .any ops k pend) w'/\lV P ρ ops Q r (ea.filter λf=> !(ey f fs)) (still .any ops k pend) a' w') a w) fl.length ea a w
def yL:zk->Nat
 |[]=>0
 |true::l=>yL l
 |false::l=>yL l+1
theorem aav:∀{l:zk} {i:Nat},l[i]? =some false->yL (l.set i true)+1=yL l
 |[],i,h=>by simp at h
 |b::l,0,h=>by
  simp at h;subst h;rfl
 |b::l,i+1,h=>by simp at h;have:=aav h;cases b <;> simp [List.set_cons_succ,yL] <;> omega
theorem ZL:∀{n:Nat},yL (List.replicate n false)=n
 |0=>rfl
 |n+1=>by rw [qP,yL,ZL]
theorem S3{Q:bh}:∀(c:Nat) (pend:fO) (f:Nat×(World->Prop)->Bool) (b:zi) (a:Act) (w:World),GP P ρ md ops Q c pend b a w->GP P ρ md ops Q c (pend.filter f) b a w
 |0,_,_,_,_,_,h=>⟨pn h.1,h.2⟩
 |c+1,pend,f,b,a,w,h=>⟨pn h.1,h.2.1,λi hi=>wpOpIn_mono (λe w' d=>by
   have:still md ops i (pend.filter f)=(still md ops i pend).filter f:=by grind [still,List.filter_filter,Bool.and_comm]
   rw [this];exact S3 c _ f _ _ _ d) (h.2.2 i hi)⟩
theorem filter_lt{α:Type}{p q:α->Bool}(a:∀x,q x=true->p x=true):∀{l:List α} {x:α},x∈l->p x=true->q x=false->(l.filter q).length<(l.filter p).length
 |y::l,x,hx,hp,hq=>by
  have b:∀l:List α,(l.filter q).length<=(l.filter p).length:=λl=>by
   induction l with
   |nil=>exact cK _
   |cons z l ih=>
    grind
  rcases List.mem_cons.1 hx with rfl|hx
  .grind
  .have ih:=filter_lt a hx hp hq;grind
theorem asX{Q:bh}{masks:zm}(hm:masks=ops.toList.map λo=>lu o.after.toList)(he:Zr ops.size ops.toList=true)(hD:OI ops ops.toList masks ops.toList masks 0=true)
  (hs:Region.noSelect ops=true) (hQ:∀c (a:Act) d v w,Q (.panic c) (a.put d v) w->Q (.panic c) a w) (hpl:∀(j:Nat) (o:Oper),ops[j]? =some o->kg o=true):∀(A:OT) (n:Nat) (Z r:zm) (pend:fO) (g:zi) (m:Nat) (a:Act) (w:World),
  (∀f∈r,f∈Z)->LM ops.size g (lG m r)->yL g.toList=n->wA masks A Z m=true->jl pend w->lV P ρ ops Q A r pend a w->GP P ρ .any ops Q n pend g a w:=by
 have M:∀{k m:Nat} {r:zm} {g:zi},LM ops.size g (lG m r)->Bz masks k m=true->k∉r->k∈Region.ready .any ops g:=λ{k m r g} s h hk=>by
  rw [Hj hm he s];unfold Bz at h;cases ha:masks[k]? with
  |none=>rw [ha] at h;cases h
  |some a=>
   rw [ha] at h;simp only [au,l9] at h;refine ⟨a,rfl,?_,?_⟩
   .rw [eU,h.1,mE,qj];exact λt=>hk (dE.1 t)
   .rw [A4] at h ⊢;intro i hi;rw [eU,h.2 i hi,v7]
 have only:∀{m:Nat} {ks fl r:zm} {g:zi},(∀f∈r,f∈fl)->LM ops.size g (lG m r)->Gy masks 0 (lG m fl) ks=true->∀i∈Region.ready .any ops g,i∉r/\m.testBit i=false/\(i∈fl\/i∈ks):=λ{m ks fl r g} p s h i hi=>by
  obtain ⟨a,ha,y,K⟩:=(Hj hm he s).1 hi;rw [eU,l5] at y;refine ⟨(λt=>by rw [dE.2 t] at y;cases y.2),y.1,?_⟩;by_cases I:i∈fl
  .exact .inl I
  .refine .inr ?_;have:=Uf masks 0 (lG m fl) ks h i a ha (by rw [mN,eU,y.1,mE,qj];exact λt=>I (dE.1 t)) (by rw [A4] at K ⊢;intro j W;have:=K j W;rw [eU,eZ] at this;rw [eU,eZ];exact this.imp id λh=>dE.2 (p j (dE.1 h)))
   rwa [mN] at this
 have step:∀{i n:Nat} {g:zi},i∈Region.ready .any ops g->yL g.toList=n->∃n',n=n'+1/\yL (g.setIfInBounds i true).toList=n':=λ{i n g} hi hn=>by
  have y:=(mem_ready.1 hi).1;have K:g.toList[i]? =some false:=by
   rw [Array.getD_eq_getD_getElem?] at y;rw [so];cases hl:g[i]? with
   |none=>rw [hl] at y;cases y
   |some b=>rw [hl] at y;simp only [qG] at y;rw [y]
  have H:=aav K;refine ⟨yL (g.toList.set i true),by omega,?_⟩;rw [Array.toList_setIfInBounds]
 have R:∀{g:zi} {m T:Nat},LM ops.size g m->(∀i,m.testBit i=T.testBit i)->LM ops.size g T:=λh e=>⟨h.1,λi hi=>by rw [h.2 i hi,e]⟩;have G:∀{g:zi} {m k:Nat} {r:zm},LM ops.size g (lG m r)->LM ops.size (g.setIfInBounds k true) (lG (bit m k) r):=λ{g m k r} h=>R h.set λi=>by rw [DZ,eU,eU,DZ];cases m.testBit i <;> cases (k==i) <;> cases ey i r <;> rfl
 intro A
 induction A with
 |nil=>
  intro n Z r pend g m a w p s hn u F h;simp only [wA,au,List.isEmpty_iff] at u;obtain ⟨rfl,u⟩:=u;have Y:Region.ready .any ops g=[]:=by
   cases hr:Region.ready .any ops g with
   |nil=>rfl
   |cons x xs=>
    obtain ⟨_,_,y⟩:=only (fl:=[]) p s u x (by rw [hr];exact c8 ..);simp at y
  cases n with
  |zero=>exact ⟨F,Y,h⟩
  |succ n=>exact ⟨F,λ_=>h,λi hi=>by rw [Y] at hi;cases hi⟩
 |q k T rest ih=>
  intro n Z r pend g m a w p s hn u F h;simp only [wA,au,l9] at u;obtain ⟨⟨⟨D,hk⟩,hkp⟩,u⟩:=u;have:=b0 D;subst this;simp only [lV] at h;split at h
  .exact h.elim
  .rename_i o U;obtain ⟨v,J,hJw,hy,h⟩:=h;have E:=M s hk (λt=>by rw [dE.2 (p k t)] at hkp;cases hkp);obtain ⟨n',rfl,N⟩:=step E hn;refine akx U (Region.noSelect_spec hs) hQ hpl n' pend g a w (λj oj W hne hun hno=>?_) E hy (ih _ _ _ _ _ _ _ _ p (G s) N u ⟨hJw,F⟩ h);refine anq hm hD U W hne ?_ ?_
   .rw [xy,qj];intro t;obtain ⟨e,hin,hb⟩:=List.any_eq_true.1 t;simp only [au,n6] at hb;exact hno e (by simpa using hin) hb.1 hb.2
   .rw [xy,qj];intro t;obtain ⟨e,hin,hb⟩:=List.any_eq_true.1 t;simp only [au,n6] at hb;obtain ⟨_,o',ho',z⟩:=mem_ready.1 E;rw [U] at ho';cases ho';have H:=z e (by simpa using hin) hb.1;have hlt:j<ops.size:=(Array.getElem?_eq_some_iff.1 W).1;rw [hb.2,s.getD false hlt,<-s.2 j hlt,hun] at H;cases H
 |l k T rest ih=>
  intro n Z r pend g m a w p s hn u F h;simp only [wA,au,List.isEmpty_iff] at u;obtain ⟨⟨⟨⟨rfl,D⟩,hk⟩,U⟩,u⟩:=u;have:=b0 D;subst this;simp only [lV] at h;have E:=M s hk (λt=>by cases p k t);obtain ⟨n',rfl,N⟩:=step E hn;split at h
  .exact h.elim
  .refine ⟨F,(λY=>by rw [Y] at E;cases E),λi hi=>?_⟩;obtain ⟨_,_,y⟩:=only (fl:=[]) p s U i hi;have:i=k:=by simpa using y
   subst this;exact wpOpIn_mono (λL w' C=>ih _ _ _ _ _ _ _ _ p (G s) N u C.1 C.2) h
 |l2 T k₁ r₁ k₂ r₂ ih1 ih2=>
  intro n Z r pend g m a w p s hn u F h;simp only [wA,au,List.isEmpty_iff] at u;obtain ⟨⟨⟨⟨⟨⟨rfl,D⟩,hk1⟩,hk2⟩,U⟩,hB1⟩,hB2⟩:=u;have:=b0 D;subst this;obtain ⟨y,K⟩:=h;have O:=M s hk1 (λt=>by cases p k₁ t);have hk2':=M s hk2 (λt=>by cases p k₂ t);obtain ⟨n',rfl,hn1⟩:=step O hn;obtain ⟨n2,e2,V⟩:=step hk2' hn;have e3:n2=n':=by omega
  subst e3;refine ⟨F,(λY=>by rw [Y] at O;cases O),λi hi=>?_⟩;obtain ⟨_,_,H⟩:=only p s U i hi;have H  :=by simpa using H
  rcases H with rfl|rfl
  .split at y
   .exact y.elim
   .exact wpOpIn_mono (λL w' C=>ih1 _ _ _ _ _ _ _ _ p (G s) hn1 hB1 C.1 C.2) y
  .split at K
   .exact K.elim
   .exact wpOpIn_mono (λL w' C=>ih2 _ _ _ _ _ _ _ _ p (G s) V hB2 C.1 C.2) K
 |f k T fl S rest ih=>
  intro n Z r pend g m a w p s hn u F h;simp only [wA,au,qo] at u;obtain ⟨⟨⟨⟨⟨⟨⟨D,hpf⟩,hfl⟩,hfs⟩,hkf⟩,hk⟩,U⟩,u⟩:=u;have:=b0 D;simp [lV] at h;have hsub'  :=λf I=>dE.1 (hpf f (p f I));have hkfl:k∉fl:=λt=>by rw [dE.2 t] at hkf;cases hkf
  have flm  :=λf I=>by
   have:=hfl f I;unfold Bz at this;split at this
   .simp at this;exact this.1
   .cases this
  have main:∀(nf n:Nat) (r:zm) (g:zi) (a:Act) (w:World),(∀f∈r,f∈fl)->(fl.filter λf=> !(ey f r)).length<=nf->LM ops.size g (lG T r)->yL g.toList=n->jl pend w->
    wpE P ρ ops Q fl pend (λr a w=>(∀f∈S,f∈r)->wpOpIn (FW ρ) 0 P ops Q k (λL w'=>jl (still .any ops k pend) w'/\lV P ρ ops Q rest (r.filter λf=> !(ey f S)) (still .any ops k pend) L w') a w) nf r a w->GP P ρ .any ops Q n pend g a w:=by
   have body:∀(n:Nat) (r:zm) (g:zi) (a:Act) (w:World),(∀f∈r,f∈fl)->LM ops.size g (lG T r)->yL g.toList=n->jl pend w->
     ((∀f∈S,f∈r)->wpOpIn (FW ρ) 0 P ops Q k (λL w'=>jl (still .any ops k pend) w'/\lV P ρ ops Q rest (r.filter λf=> !(ey f S)) (still .any ops k pend) L w') a w)->
     (∀i∈fl,i∉r->wpOpIn (FW ρ) 0 P ops Q i (λL w'=>∀n',LM ops.size (g.setIfInBounds i true) (lG T (i::r))->yL (g.setIfInBounds i true).toList=n'->GP P ρ .any ops Q n' pend (g.setIfInBounds i true) L w') a w)->GP P ρ .any ops Q n pend g a w:=by
    intro n r g a w p s hn F hx I;have B:∃i,i∈Region.ready .any ops g:=by
     by_cases z:∀f∈S,f∈r
     .refine ⟨k,?_⟩;rw [Hj hm he s];unfold Bz at hk;cases ha:masks[k]? with
      |none=>rw [ha] at hk;cases hk
      |some x=>
       rw [ha] at hk;simp at hk;refine ⟨x,rfl,?_,?_⟩
       .have:=hk.1;rw [eU,l5] at this;rw [eU,this.1,mE,qj];exact λt=>hkfl (p k (dE.1 t))
       .have K:=hk.2;rw [A4] at K ⊢;intro j W;have:=K j W;rw [eU,eZ] at this;rw [eU,eZ];exact this.imp id λh=>dE.2 (z j (dE.1 h))
     .obtain ⟨f,hff,hfe⟩:∃f,f∈S/\f∉r:=by apply Classical.byContradiction;intro t;exact z λf I=>Classical.byContradiction λhn=>t ⟨f,I,hn⟩
      exact ⟨f,M s (hfl f (dE.1 (hfs f hff).1)) hfe⟩
    obtain ⟨i0,hi0⟩:=B;obtain ⟨n',rfl,_⟩:=step hi0 hn;refine ⟨F,(λY=>by rw [Y] at hi0;cases hi0),λi hi=>?_⟩;obtain ⟨n2,e2,V⟩:=step hi hn;have e3:n2=n':=by omega
    subst e3;obtain ⟨y,K,H⟩:=only p s U i hi;rcases H with H|H
    .exact wpOpIn_mono (λL w' C=>S3 _ _ _ _ _ _ (C _ s.set V)) (I i H y)
    .have  :=by simpa using H
     subst this;have z:∀f∈S,f∈r:=λf hf'=>by obtain ⟨x,hx1,_,hx3⟩:=(Hj hm he s).1 hi;obtain ⟨q1,q2⟩:=hfs f hf';unfold hasB at q2;rw [hx1] at q2;have:=A4.1 hx3 f q2;rw [eU,flm f (dE.1 q1),mE] at this;exact dE.1 this
     refine wpOpIn_mono (λL w' C=>ih _ _ _ _ _ _ _ _ (λf I=>?_) (R s.set λj=>?_) V u C.1 C.2) (hx z)
     .grind
     .rw [DZ,eU,eU,DZ,eU];have e:ey j r=(ey j S||ey j (r.filter λf=> !(ey f S))):=by
       rw [qC,eZ,dE,dE,dE,List.mem_filter];constructor
       .intro h;by_cases W:j∈S
        .exact .inl W
        .grind [dE]
       grind
      grind
   intro nf
   induction nf with
   |zero=>
    intro n r g a w p hlen s hn F h;refine body n r g a w p s hn F h λi hi hie=>?_;have:i∈fl.filter λf=> !(ey f r):=List.mem_filter.2 ⟨hi,by grind [dE]⟩
    grind
   |succ nf ihf=>
    intro n r g a w p hlen s hn F h;refine body n r g a w p s hn F h.1 λi hi hie=>?_;have X:ey i r=false:=by grind [dE]
    refine wpOpIn_mono (λL w' C n' hL' N=>ihf n' (i::r) _ L w' (λf I=>?_) ?_ hL' N C.1 C.2) (h.2 i hi X)
    .grind
    .have:=filter_lt (q:=λf=> !(ey f (i::r))) (λx hx=>by simp only [ey,Bool.not_or,au] at hx;exact hx.2) hi (by rw [X];rfl) (by simp [ey])
     omega
  grind
theorem MV{j:Nat}:∀(l1 a:fO) (w:World),jl (l1++a) w->jl (l1++(j,λ_=>True)::a) w
 |[],_,_,h=>⟨trivial,h⟩
 |_::l1,a,w,h=>⟨h.1,MV l1 a w h.2⟩
theorem aeT{Q:bh}{fl:zm}{pend pend':fO}{nx c:zm->Act->World->Prop}(hp:∀w,jl pend w->jl pend' w)(hx:∀b a w,nx b a w->c b a w):∀(n:Nat) (b:zm) (a:Act) (w:World),wpE P ρ ops Q fl pend nx n b a w->wpE P ρ ops Q fl pend' c n b a w
 |0,b,a,w,h=>hx b a w h
 |n+1,b,a,w,h=>⟨hx b a w h.1,λf e hm=>wpOpIn_mono (λ_ w' d=>⟨hp w' d.1,aeT hp hx n _ _ _ d.2⟩) (h.2 f e hm)⟩
theorem ama{Q:bh}:∀(b:OT) (c:zm) (l1 l2:fO) (a:Act) (w:World),lV P ρ ops Q b c (l1++l2) a w->lV P ρ ops Q b c (l1++(j,λ_=>True)::l2) a w:=by
 have d:∀(k:Nat) (l1 l2:fO),still .any ops k (l1++l2)=still .any ops k l1++still .any ops k l2:=λk l1 l2=>List.filter_append ..;intro b;have g:∀(k:Nat) (r:OT) (c:zm) (l1 l2:fO) (a:Act) (w:World),(∀(c:zm) (l1 l2:fO) (a:Act) (w:World),lV P ρ ops Q r c (l1++l2) a w->lV P ρ ops Q r c (l1++(j,λ_=>True)::l2) a w)->
   wpOpIn (FW ρ) 0 P ops Q k (λn w'=>jl (still .any ops k (l1++l2)) w'/\lV P ρ ops Q r c (still .any ops k (l1++l2)) n w') a w->
   wpOpIn (FW ρ) 0 P ops Q k (λn w'=>jl (still .any ops k (l1++(j,λ_=>True)::l2)) w'/\lV P ρ ops Q r c (still .any ops k (l1++(j,λ_=>True)::l2)) n w') a w:=λk r c l1 l2 a w ih h=>by
  refine wpOpIn_mono (λn w' A=>?_) h;have e:still .any ops k ((j,λ_=>True)::l2)=(j,λ_=>True)::still .any ops k l2\/still .any ops k ((j,λ_=>True)::l2)=still .any ops k l2:=by unfold still;grind
  grind [MV]
 induction b with
 |nil=>intro c l1 l2 a w h;exact h
 |q k m r ih=>
  grind [lV]
 |l k m r ih=>
  intro c l1 l2 a w h;simp [lV] at h ⊢;split at h
  .exact h.elim
  simp_all
 |l2 m t p s o y x=>
  intro c l1 l2 a w h;obtain ⟨v,u⟩:=h;refine ⟨?_,?_⟩
  .split at v
   .exact v.elim
   simp_all
  .split at u
   .exact u.elim
   simp_all
 |f k m fl B r ih=>
  intro c l1 l2 a w h;exact aeT (λw z=>MV _ _ _ z) (λc a w hx i=>g k r _ l1 l2 a w ih (hx i)) _ _ _ _ h
theorem amV{Q:bh}(c:xa)(a:Act)(d:zf)(v:Value)(w:World)(h:QN Q (.panic c) (a.put d v) w):QN Q (.panic c) a w:=by unfold QN at*;rwa [kH] at h
end
def WD(P:Program)(ρ:ze)(ops:zg)(Q:bh)(n:Nat)(D:x3)(order:OT)(pend:fO)(E:Env)(w:World):Prop:=
 ∀a,Fits n E a->a.defers=D->lV P ρ ops (QN Q) order [] pend a w
section
variable {P : Program} {ρ : ze} {Q : bh} {n : Nat} {D : x3} {E : Env} {w : World}
theorem SZ{id:Nat}{ops:zg}{a:Act}(h:(Code.region id ops true).wpIn (FW ρ) 0 P (QN Q) a w):(Code.region id ops true).wpIn (FW ρ) 0 P Q a w:=
 wpIn_mono h λe a w b=>by cases e <;> first|exact b|exact b a rfl
theorem yv{id:Nat}{l:zj}(masks:zm)(b:OT)(hm:P.follows .mixedOrders=true)(p:aci l.toArray masks b=true)
  (h:∀w1,Ext w w1->WD P ρ l.toArray Q n D b [] E w1):WC P ρ (.region id l.toArray true) Q n D E w:=by
 simp only [aci,au] at p;obtain ⟨⟨⟨⟨⟨f,c⟩,g⟩,k⟩,m⟩,e⟩:=p;intro a q hd;refine SZ (wpIn_region_any hm ?_);have d:∀(j:Nat) (o:Oper),l.toArray[j]? =some o->kg o=true:=λj o s=>List.all_eq_true.1 f o (by grind);have r:LM l.toArray.size (Array.replicate l.toArray.size false) (lG 0 []):=⟨by simp,λi hi=>by show _=Nat.testBit 0 i;simp_all⟩
 exact aey _ _ _ _ _ (asX (Qm _ _ g) k m c amV d b _ [] [] [] _ 0 a _ (λ_ h=>by cases h) r (by exact ZL) e trivial (h { w with drawn:=w.drawn+1 } ⟨rfl,rfl,rfl,cK _,λ_ _=>rfl⟩ a q hd))
variable {ops : zg} {rest : OT} {pend : fO} {k mk : Nat}
theorem ai5(h:At Q .normal n D E w):WD P ρ ops Q n D .nil pend E w:=λa b hd=>h a b hd
theorem atb{d:Tmp}(J:World->Prop)(g:J w)(e:∀w,J w->bc P E true o w v)(hk:ops[k]? =some o)(f:o.guard=none)(hd:o.dst=some d)(hn:Nat.blt d n=true)
  (h:WD P ρ ops Q n D rest ((k,J)::pend) ((d,true,v)::E) w):WD P ρ ops Q n D (.q k mk rest) pend E w:=λa c i=>by
 simp [lV,hk];refine ⟨v,J,g,.inl ⟨by simp [Region.wanted,f],λw' b=>e w' b n a c rfl⟩,?_⟩;rw [hd];exact h _ (c.put hn) i
theorem jP{d:Tmp}(b:∀w,bc P E true o w v)(hk:ops[k]? =some o)(c:o.guard=none)(hd:o.dst=some d)(hn:Nat.blt d n=true)
  (h:WD P ρ ops Q n D rest pend ((d,true,v)::E) w):WD P ρ ops Q n D (.q k mk rest) pend E w:=
 atb (λ_=>True) trivial (λw _=>b w) hk c hd hn (λa e f=>ama rest [] [] pend a w (h a e f))
def QK(P:Program)(ρ:ze)(ops:zg)(Q:bh)(_n:Nat)(_D:x3)(rest:OT)(pend:fO):bh:=λe a w=>match e with
 | .normal=>jl pend w/\lV P ρ ops (QN Q) rest [] pend a w
 | .panic c=>EH Q c a.defers w
 |e=>Q e a w
theorem aoG(c:jl pend w)(h:WD P ρ ops Q n D rest pend E w):At (QK P ρ ops Q n D rest pend) .normal n D E w:=λa b hd=>⟨c,h a b hd⟩
theorem aeD{pend':fO}(hk:ops[k]? =some o)(hp:still .any ops k pend=pend')(h:WL P ρ ops (QK P ρ ops Q n D rest pend') n D [o] E w):
  WD P ρ ops Q n D (.l k mk rest) pend E w:=λa d e=>by
 subst hp;simp [lV];have b:=h a d e;unfold wpOpIn;simp [hk];simp [wpListIn] at b;split
 .rename_i c;simp [c] at b;refine ⟨b.1,?_⟩;have b:=b.2;generalize (o.semAt (FW ρ).round a.eval).run P w=r at*;cases r with
  |ok n w'=>
   cases n <;> simp [Oper.uponIn] at b ⊢ <;> exact b
  |halt x w'=>cases x <;> simp [Oper.uponIn] at b ⊢ <;> exact b
 next c=>simp [c] at b;exact b
end
def OT.ops:OT->zm
 | .nil=>[]
 | .q k _ r=>k::r.ops
 | .l k _ r=>k::r.ops
 | .l2 _ k₁ r₁ k₂ r₂=>k₁::k₂::(r₁.ops++r₂.ops)
 | .f k _ _ _ r=>k::r.ops
def OT.SY:OT->zm
 | .nil=>[]
 | .q _ _ r=>r.SY
 | .l _ _ r=>r.SY
 | .l2 _ _ r₁ _ r₂=>r₁.SY++r₂.SY
 | .f _ _ fl _ r=>fl++r.SY
def tF(ops:zg)(j f:Nat):Bool:=match ops[j]?, ops[f]? with
 |some oj,some f=>(match oj.dst with
  |none=>true
  |some d=>(f.looksAt ops).all (λt=> !(Nat.beq t d))&& !(O7 d f))
 |_,_=>false
theorem ahB{ops:zg}{f:Nat}(h:tF ops j f=true)(b:ops[j]? =some oj)(c:ops[f]? =some o):(∀d,oj.dst=some d->d∉o.looksAt ops)/\(∀d,oj.dst=some d->o.dst≠some d):=by
 unfold tF at h;rw [b,c] at h;simp only at h;constructor
 .intro d hd a;rw [hd] at h;simp at h;have:=h.1 d a;simp at this
 .intro d hd a;simp_all [O7]
def HW(o:Oper)(b:Nat):Value:=match o.op with
 | .buildSlice _ len _=> .slice (some ⟨b,0,none⟩) len len
 |_=> .pointer (some ⟨b,0,none⟩)
abbrev vA:=Nat×Nat×TypeId×zc
def Ac(P:Program)(ops:zg)(a:Act)(x:vA):Prop:= ∃(o:Oper) (d:Tmp) (w0:World),ops[x.1]? =some o/\o.dst=some d/\(∀cs b,o.op≠ .select cs b)/\x.2.1=w0.heap.size/\
 a.tmps.getD d undef=HW o x.2.1/\(execOp a.eval o).run P w0= .ok (.value (HW o x.2.1)) (w0.alloc (.cells x.2.2.2.toArray x.2.2.1))
section
variable {P : Program} {ρ : ze} {Q : bh} {n : Nat} {D : x3} {E : Env} {w : World} {ops : zg}
theorem Ac.put{a:Act}{x:vA}(h:Ac P ops a x)(i:ops[j]? =some oj)(k:tF ops j x.1=true):Ac P ops (a.put oj.dst v) x:=by
 obtain ⟨o,d,g,f,c,b,q,p,n⟩:=h;obtain ⟨s,r⟩:=ahB k i f;refine ⟨o,d,g,f,c,b,q,?_,?_⟩
 .rw [<-p];have:=Act.eval_put (a:=a) (v:=v) (x:= .tmp d) (λe l m=>r e l (by cases m;exact c));exact this
 .rw [execOp_put o b a oj.dst v s];exact n
theorem aiJ{C:Act->Prop}(e:ops[j]? =some oj)(hC:∀a v,C a->C (a.put oj.dst v))(g:∀(a:Act) d,C a->C { a with defers:=d::a.defers }){K:Act->World->Prop}{a:Act}
  (hc:C a) (h:wpOpIn (FW ρ) 0 P ops Q j K a w):wpOpIn (FW ρ) 0 P ops Q j (λb w'=>C b/\K b w') a w:=by
 unfold wpOpIn at*;simp [e] at*;split
 .rename_i c;simp [c] at h;refine ⟨h.1,?_⟩;have h:=h.2;generalize (oj.semAt (FW ρ).round a.eval).run P w=r at*;cases r with
  |ok n w'=>
   cases n <;> simp [Oper.uponIn] at h ⊢
   case value u=>grind
   case skip=>grind
   case defer d=>grind
   case enter f args=>
    grind
   case row row args=>grind
   grind
  |halt x w'=>
   simp_all [Oper.uponIn]
 grind
def Hm(P:Program)(ρ:ze)(ops:zg)(Q:bh)(n:Nat)(D:x3)(order:OT)(EV:List vA)(pend:fO)(E:Env)(w:World):Prop:=
 ∀a,Fits n E a->a.defers=D->(∀x∈EV,Ac P ops a x)->lV P ρ ops (QN Q) order (EV.map (·.1)) pend a w
theorem Hm.wd{b:OT}{pend:fO}(h:Hm P ρ ops Q n D b [] pend E w):WD P ρ ops Q n D b pend E w:=λa c hd=>h a c hd λ_ hx=>by cases hx
theorem aoX{EV:List vA}{pend:fO}(h:At Q .normal n D E w):Hm P ρ ops Q n D .nil EV pend E w:=λa b hd _=>h a b hd
theorem arN{EV:List vA}{pend:fO}{mk e d:Nat}{c b:OT}(j:Hm P ρ ops Q n D (.l e mk c) EV pend E w)(i:Hm P ρ ops Q n D (.l d mk b) EV pend E w):Hm P ρ ops Q n D (.l2 mk e c d b) EV pend E w:=λa f h g=>by have j:=j a f h g;have i:=i a f h g;grind [lV]
def QKE(P:Program)(ρ:ze)(ops:zg)(Q:bh)(rest:OT)(EV:List vA)(pend:fO):bh:=λe a w=>match e with
 | .normal=>(∀x∈EV,Ac P ops a x)->jl pend w/\lV P ρ ops (QN Q) rest (EV.map (·.1)) pend a w
 | .panic c=>EH Q c a.defers w
 |e=>Q e a w
theorem aq9{rest:OT}{EV:List vA}{pend:fO}(d:jl pend w)(h:Hm P ρ ops Q n D rest EV pend E w):At (QKE P ρ ops Q rest EV pend) .normal n D E w:=λa b hd c=>⟨d,h a b hd c⟩
theorem abk{rest:OT}{EV:List vA}{pend:fO}{c:xa}(h:EH Q c D w):At (QKE P ρ ops Q rest EV pend) (.panic c) n D E w:=λa _ hd=>by subst hd;exact h
theorem amY{rest:OT}{EV:List vA}{pend pend':fO}{k mk:Nat}(hk:ops[k]? =some o)(hC:∀x∈EV,tF ops k x.1=true)(hp:still .any ops k pend=pend')(h:WL P ρ ops (QKE P ρ ops Q rest EV pend') n D [o] E w):
  Hm P ρ ops Q n D (.l k mk rest) EV pend E w:=λa g i c=>by
 subst hp;simp [lV,hk];have b:=h a g i;have j:wpOpIn (FW ρ) 0 P ops (QN Q) k (λf w'=>(∀x∈EV,Ac P ops f x)->jl (still .any ops k pend) w'/\lV P ρ ops (QN Q) rest (EV.map (·.1)) (still .any ops k pend) f w') a w:=by
  unfold wpOpIn;simp only [hk];simp [wpListIn] at b;split
  .rename_i e;simp [e] at b;refine ⟨b.1,?_⟩;have b:=b.2;generalize (o.semAt (FW ρ).round a.eval).run P w=r at*;cases r with
   |ok n w'=>cases n <;> simp only [Oper.uponIn] at b ⊢ <;> exact b
   |halt x w'=>cases x <;> simp at b ⊢ <;> exact b
  next e=>simp [e] at b;exact b
 exact wpOpIn_mono (λf w' h=>h.2 h.1) (aiJ hk (λa v c x hx=>(c x hx).put hk (hC x hx)) (λa d c x hx=>c x hx) c j)
end
section
variable {α : Type} {A : fp α} {M : Nat -> Prop} {w : World} {v : Value} {xs : List α} {i : Int} {x : α} {e : TypeId} {R : zm} {cs : zc}
end
theorem bT.atw{α:Type}{A:fp α}{M:Nat->Prop}{w:World}{g:Bool}{v:Value}{xs:List α}{i j:Int}(h:g=true->bT A M w v xs)(a:g=true->db i j xs.length=true):
  ∃p:jU,(g=true->aa4 v i j A.n (sl p))/\(g=true->bT A M w (sl p) (aV xs i j)):=by
 cases g
 .simp_all
 .obtain ⟨c,d,b⟩:=bT.cut (h rfl) (a rfl);obtain ⟨p,rfl⟩:=b.rn;grind
theorem bT.asR{α:Type}{A:fp α}{M:Nat->Prop}{w:World}{g:Bool}{v:Value}{xs:List α}{i j k:Int}(h:g=true->bT A M w v xs)(a:g=true->kR i j k xs.length=true):
  ∃p:jU,(g=true->OW v i j k A.n (sl p))/\(g=true->bT A M w (sl p) (aV xs i j)):=by
 cases g
 .simp_all
 .obtain ⟨c,d,b⟩:=bT.atH (h rfl) (a rfl);obtain ⟨p,rfl⟩:=b.rn;grind
section
variable {P : Program} {ρ : ze} {Q : bh} {n : Nat} {D : x3} {E : Env} {w : World} {ops : zg} {rest : zj} {Γ : Ctx} {g : Bool}
variable {dst : zf} {d : Tmp} {ty : TypeId} {pos : String} {af : zh} {gd : w4}
def iY:TypeDesc->Bool
 | .interface _=>true
 |_=>false
theorem adJ{x:Operand}{v:Value}{t:TypeId}{dd:TypeDesc}(ht:P.underlying t=some dd)(hd:iY dd=false)(hx:ar E g x v):bc P E g ⟨dst,.makeInterface t x,ty,pos,af,gd⟩ w (.iface t v):=
 λn a c b=>by simp [execOp,hx n a c b,Instr.makeInterface,Sem.run_bind,run_underlying ht];cases dd <;> first|rfl|(simp [iY] at hd)
theorem adH{x:Operand}{v:Value}{s t:TypeId}{dd:TypeDesc}(ht:P.underlying t=some dd)(hd:iY dd=false)(hx:ar E g x (.iface t v)):bc P E g ⟨dst,.typeAssert x s t false,ty,pos,af,gd⟩ w v:=
 λn a c b=>by simp [execOp,hx n a c b,Instr.typeAssert,Sem.run_bind,run_underlying ht,Result.andThen_ok];cases dd <;> first|(dsimp only;rw [du rfl];rfl)|(simp [iY] at hd)
end
def gl(b:Nat)(vs:zc):Item where
 own:=[]
 P M w:= ¬M b/\∃t fr,w.heap[b]? =some (.cells vs.toArray t fr)
 lt _ b hb:=by cases hb
 da {M M' w w'} h m _ _:=by obtain ⟨h1,t,fr,hb⟩:=h;obtain ⟨h2,h3⟩:=m.2 _ (Array.getElem?_eq_some_iff.1 hb).1 h1;exact ⟨h2,t,fr,h3.trans hb⟩
 cO:=true
 hp _:=rfl
section
variable {Γ : Ctx} {w : World} {α : Type} {A : fp α} {i : Nat}
theorem Sat.gl0(h:Sat Γ w){b:Nat}{vs:zc}(hi:Γ[i]? =some (gl b vs)):¬ Γ.M b/\∃t fr,w.heap[b]? =some (.cells vs.toArray t fr):=h.at_ hi
theorem Sat.gl(h:Sat Γ w){b:Nat}{vs:zc}(hi:Γ[i]? =some (gl b vs)):¬ Γ.M b/\bN w ⟨b,0,none⟩ vs:=by obtain ⟨c,t,fr,hb⟩:=h.gl0 hi;exact ⟨c,rfl,_,t,fr,hb,λj u a=>by simpa using a⟩
theorem as1{M:Nat->Prop}{xs:List α}(f:¬M b)(h:bN w ⟨b,0,none⟩ vs)(c:cV A M w vs xs):bT A M w (sl (some ⟨b,0,none⟩,xs.length,xs.length)) xs:=by
 obtain ⟨_,cs,t,fr,hb,a⟩:=h;have hl:=c.1;have d:vs.length<=cs.size:=by
  rcases Nat.eq_zero_or_pos vs.length with i|i
  .omega
  .have:=a (vs.length-1) _ (b9 (by omega));grind
 refine .inr ⟨b,0,xs.length,cs,t,fr,rfl,f,hb,cK _,by omega,?_⟩;have e:(cs.toList.drop 0).take (xs.length*A.n)=vs:=by
  apply s7
  .simp;omega
  .intro j k g;have:=a j _ (b9 g);grind
 rw [e];exact c
theorem apJ{β:Type}{xs:List β}{j:Int}{x:β}{n:Nat}(hx:idx xs j=some x)(hl:xs.length=n):uR j n=true:=by grind [Fj,ou]
theorem abF{M:Nat->Prop}:∀l:List aE,cV RS M w (l.map S) l
 |[]=>cV.nil
 |x::l=>cV.cons rfl (abF l)
theorem Yk{M:Nat->Prop}{k:IntKind}:∀l:zl,cV (RI k) M w (l.map (Value.int k)) l
 |[]=>cV.nil
 |x::l=>cV.cons rfl (Yk l)
end
section
variable {P : Program} {ρ : ze} {Q : bh} {n : Nat} {D : x3} {E : Env} {w : World} {ops : zg} {rest : zj} {Γ : Ctx} {g : Bool}
variable {dst : zf} {d : Tmp} {ty : TypeId} {pos : String} {af : zh} {gd : w4}
theorem C9{i:Int}{m len bytes:Nat}{t:TypeId}(ht:P.underlying t=some (.array len e))(b:TI P e m bytes z)(hx:ar E g x (.pointer (some p)))(h:ar E g y (.int k i))
  (hi:g=true->uR i len=true):bc P E g ⟨dst,.indexAddr t x y,ty,pos,af,gd⟩ w (.pointer (some (p.add (i.toNat*m)))):=
 λn' a f d=>by obtain ⟨o,c,j,_,_⟩:=b.out;obtain ⟨n,l⟩:=ou.1 (hi d);simp [execOp,hx n' a f d,h n' a f d,Instr.indexAt,asIntOf,run_underlying ht,Instr.sureAddr,n,l,sizeOf,typeInfo,c,j]
theorem ahN{len:Nat}{m bytes:Nat}{t:TypeId}(ht:P.underlying t=some (.array len e))(b:TI P e m bytes z)(d:Nat.blt 0 len=true)(hx:ar E g x (.pointer (some p))):
  bc P E g ⟨dst,.slice t x none none none,ty,pos,af,gd⟩ w (.slice (some p) len len):=
 λn' a h f=>by obtain ⟨i,c,j,_,_⟩:=b.out;simp [execOp,hx n' a h f,Instr.sliceAt,run_underlying ht,Instr.sureAddr,Instr.sliceBounds,sizeOf,typeInfo,c,Addr.add]
theorem ac1{α:Type}{A:fp α}{M:Nat->Prop}{p:jU}{xs:List α}(h:bT A M w (sl p) xs):(p=(none,0,0)/\xs=[])\/BA (sl p)=false:=by
 rcases h with ⟨⟨a0,h⟩,rfl⟩|⟨b,a,cap,cs,e,fr,h,_⟩
 .cases a0 with
  |none=>
   simp [sl] at h;grind
  |some a0=>rw [h];exact .inr rfl
 .rw [h];exact .inr rfl
theorem adt{α:Type}{A:fp α}{M:Nat->Prop}{p:jU}{xs:List α}{R:zm}(h:cj A e M w (sl p) xs R):(BA (sl p)=true/\xs=[])\/BA (sl p)=false:=by
 cases hn:BA (sl p)
 .exact .inr rfl
 .refine .inl ⟨rfl,?_⟩;rcases h with ⟨_,cells,⟨_,h⟩,_⟩|⟨_,h,_⟩
  .rcases h with ⟨_,b⟩|⟨g,cap,cur,a,_⟩
   .grind
   .rw [a] at hn;cases hn
  .exact h
end
section
variable {P : Program} {ρ : ze} {Q : bh} {n : Nat} {D : x3} {E : Env} {w : World} {ops : zg} {rest : zj} {Γ : Ctx} {g : Bool}
variable {d : Tmp} {ty : TypeId} {pos : String} {af : zh}
end
variable {kt : TypeId}
structure ET(P:Program)(kt:TypeId){κ:Type}[BEq κ](ke:κ->Value):Prop where
 ut:∃d,P.underlying kt=some d/\∀a b,Instr.sameNow d (ke a) (ke b)=some (a==b)
 bits:∀a b,(a==b)=true->a=b/\Instr.sameBits 10000 (ke b) (ke a)=true
 check:∀(em:Bool) (a:κ) (w:World),(Instr.checkKey em 10000 kt (ke a)).run P w= .ok () w
theorem ET.int{P:Program}(h:P.underlying kt=some (.int k)):ET P kt (Value.int k) where
 ut:=⟨_,h,λa b=>by simp [Instr.sameNow]⟩
 bits a b h:=by
  have  :=by simpa using h
  subst this;exact ⟨rfl,by simp [Instr.sameBits]⟩
 check em a w:=by unfold Instr.checkKey;simp [run_underlying h]
theorem aoh(a b:aE):((⟨a.toArray⟩:ByteArray)==(⟨b.toArray⟩:ByteArray))=(a==b):=by rw [qC,MapKept.bytes_beq,n6];grind
theorem ET.str{P:Program}(h:P.underlying kt=some .string):ET P kt S where
 ut:=⟨_,h,λa b=>by simp [Instr.sameNow,S,aoh]⟩
 bits a b h:=by
  have  :=by simpa using h
  subst this;exact ⟨rfl,by simp [Instr.sameBits,S,aoh,h]⟩
 check em a w:=by unfold Instr.checkKey;simp [run_underlying h]
def pJ{κ ν:Type}[BEq κ](l:List (κ×ν))(k:κ):Option ν:=match l with
 |[]=>none
 |p::l=>bif k==p.1 then some p.2 else pJ l k
def l6{κ ν:Type}[BEq κ](l:List (κ×ν))(k:κ)(v:ν):List (κ×ν):=match l with
 |[]=>[(k,v)]
 |p::l=>bif k==p.1 then (k,v)::l else p::l6 l k v
section
variable {κ ν : Type} [BEq κ] {ke : κ -> Value} {vi : ν -> Value}
def UL(ke:κ->Value)(vi:ν->Value)(es:List MapEntry)(l:List (κ×ν)):Prop:=es.map (λe=>(e.key,e.val))=l.map λp=>(ke p.1,vi p.2)
def te(ke:κ->Value)(vi:ν->Value)(w:World)(v:Value)(d:Option (List (κ×ν))):Prop:=
 (v= .map none/\d=none)\/∃b es clock l,v= .map (some b)/\d=some l/\w.heap[b]? =some (.map es clock)/\UL ke vi es.toList l
def Lg:Value->zm
 | .map (some b)=>[b]
 |_=>[]
omit [BEq κ] in
theorem te.nil{w:World}:te ke vi w (.map none) none:= .inl ⟨rfl,rfl⟩
omit [BEq κ] in
theorem te.lt{w:World}{d:Option (List (κ×ν))}(h:te ke vi w v d):∀b∈Lg v,b<w.heap.size:=λb hb=>by
 rcases h with ⟨rfl,_⟩|⟨f,e,a,l,rfl,_,c,_⟩
 .cases hb
 grind [Lg,Array.getElem?_eq_some_iff]
omit [BEq κ] in
theorem te.da{w w':World}{d:Option (List (κ×ν))}(h:te ke vi w v d)(k:∀b∈Lg v,w'.heap[b]? =w.heap[b]?):te ke vi w' v d:=by
 rcases h with h|⟨b,c,a,l,rfl,hd,e,hk⟩
 .exact .inl h
 .exact .inr ⟨b,c,a,l,rfl,hd,by grind [Lg],hk⟩
theorem Ix{d:TypeDesc}(hn:∀a b:κ,Instr.sameNow d (ke a) (ke b)=some (a==b))(k:κ):∀(f:List MapEntry) (l:List (κ×ν)) (i:Nat),UL ke vi f l->
  (pJ l k=none/\(l.any λp=>k==p.1)=false/\Instr.findNow d (ke k) f i=some none)\/
  ∃j v,pJ l k=some v/\Instr.findNow d (ke k) f i=some (some (i+j,vi v))/\j<f.length/\(∃p,l[j]? =some p/\(k==p.1)=true/\∀q,l6 l k q=l.set j (k,q))
 |[],[],i,_=> .inl ⟨rfl,rfl,rfl⟩
 |[],_::_,_,h=>by simp [UL] at h
 |_::_,[],_,h=>by simp [UL] at h
 |e::f,p::l,i,h=>by
  simp [UL,e9,qa,q7] at h;obtain ⟨⟨s,r⟩,o⟩:=h;cases hk:(k==p.1)
  .rcases Ix hn k f l (i+1) o with ⟨a,b,c⟩|⟨j,v,a,b,c,q,n,m,g⟩
   .grind [pJ,Instr.findNow]
   .refine .inr ⟨j+1,v,by simp [pJ,hk,a],?_,by simpa using c,q,by simpa using n,m,λu=>by simp [l6,hk,g]⟩;grind [Instr.findNow]
  .exact .inr ⟨0,p.2,by simp [pJ,hk],by grind [Instr.findNow],by simp,p,by simp,hk,λu=>by simp [l6,hk]⟩
theorem ah5{l:List (κ×ν)}{k:κ}{v:ν}(h:(l.any λp=>k==p.1)=false):l6 l k v=l++[(k,v)]:=by
 induction l with
 |nil=>rfl
 |cons p l ih=>
  grind [Bool.or_eq_false_iff,l6]
end
def omap{κ ν:Type}(ke:κ->Value)(vi:ν->Value)(v:Value)(d:Option (List (κ×ν))):Item where
 own:=Lg v
 P _ w:=te ke vi w v d
 lt h:=h.lt
 da h _ k _:=h.da k
 cO:=false
 hp h:=by cases h
section
variable {κ ν : Type} {ke : κ -> Value} {vi : ν -> Value} {Γ : Ctx} {w : World} {i : Nat}
theorem Sat.omap(h:Sat Γ w){v:Value}{d:Option (List (κ×ν))}(hi:Γ[i]? =some (Go.Proofs.YtcgihjbfppkcfaaGreatDoor.omap ke vi v d)):te ke vi w v d:=h.at_ hi
end
section
variable {κ ν : Type} [BEq κ] {ke : κ -> Value} {vi : ν -> Value}
variable {P : Program} {E : Env} {w : World} {g : Bool}
variable {dst : zf} {ty : TypeId} {pos : String} {af : zh} {gd : w4}
def eA(d:Option (List (κ×ν)))(k:κ)(z:ν):ν:=((d.getD []) |> λl=>pJ l k).getD z
def VM(d:Option (List (κ×ν)))(k:κ):Bool:=(pJ (d.getD []) k).isSome
theorem US{n t:TypeId}(hk:ET P kt ke)(ht:P.underlying t=some (.map kt n)){z:ν}(i:(zeroValue n).run P w= .ok (vi z) w){v:Value}{d:Option (List (κ×ν))}(h:te ke vi w v d)(k:κ)(ok:Bool):
  (Instr.lookup t v (ke k) ok).run P w= .ok (bif ok then .tuple #[vi (eA d k z),.bool (VM d k)] else vi (eA d k z)) w:=by
 obtain ⟨p,e,hn⟩:=hk.ut;rcases h with ⟨rfl,rfl⟩|⟨b,o,g,l,rfl,rfl,m,f⟩
 .have:Instr.findNow p (ke k) [] 0=some none:=rfl;cases ok <;> simp [Instr.lookup,run_underlying ht,hk.check,Instr.findKey,run_underlying e,this,i,eA,VM,pJ]
 .rcases Ix hn k o.toList l 0 f with ⟨a,_,c⟩|⟨j,u,a,c,_⟩
  .cases ok <;> simp [Instr.lookup,run_underlying ht,MapKept.run_getObj_map m,hk.check,Instr.findKey,run_underlying e,c,i,eA,VM,a]
  .cases ok <;> simp [Instr.lookup,run_underlying ht,MapKept.run_getObj_map m,hk.check,Instr.findKey,run_underlying e,c,eA,VM,a]
theorem ahF{e t:TypeId}(hk:ET P kt ke)(ht:P.underlying t=some (.map kt e)){z:ν}(f:(zeroValue e).run P w= .ok (vi z) w){v:Value}{d:Option (List (κ×ν))}{k:κ}(hx:ar E g x v)(i:ar E g y (ke k))(h:g=true->te ke vi w v d):
  bc P E g ⟨dst,.lookup t x y false,ty,pos,af,gd⟩ w (vi (eA d k z)):=λn a c b=>by
 simp [execOp,hx n a c b,i n a c b,US hk ht f (h b) k false]
theorem acx{e t:TypeId}(hk:ET P kt ke)(ht:P.underlying t=some (.map kt e)){z:ν}(f:(zeroValue e).run P w= .ok (vi z) w){v:Value}{d:Option (List (κ×ν))}{k:κ}(hx:ar E g x v)(i:ar E g y (ke k))(h:g=true->te ke vi w v d):
  bc P E g ⟨dst,.lookup t x y true,ty,pos,af,gd⟩ w (.tuple #[vi (eA d k z),.bool (VM d k)]):=λn a c b=>by
 simp [execOp,hx n a c b,i n a c b,US hk ht f (h b) k true]
end
section
variable {κ ν : Type} {ke : κ -> Value} {vi : ν -> Value}
variable {P : Program} {ρ : ze} {Q : bh} {n : Nat} {D : x3} {E : Env} {w : World} {ops : zg} {rest : zj} {Γ : Ctx} {i : Nat}
variable {d : Tmp} {ty : TypeId} {pos : String} {af : zh}
variable [BEq κ]
omit [BEq κ] in
theorem ap2{a:List MapEntry}{l:List (κ×ν)}(h:UL ke vi a l){j:Nat}(f:MapEntry->MapEntry){k:κ}{u:ν}(b:∀e,a[j]? =some e->((f e).key,(f e).val)=(ke k,vi u)):UL ke vi (a.modify j f) (l.set j (k,u)):=by
 apply mm;intro i;have hi:(a.map λe=>(e.key,e.val))[i]? =(l.map λp=>(ke p.1,vi p.2))[i]? :=by rw [h]
 grind
theorem Xa{z:Operand}{Q t:TypeId}{v:ze}{l:List (κ×ν)}{k:κ}{u:ν}(hk:ET P kt ke)(ht:P.underlying t=some (.map kt Q))(hx:ar E true x (.map v))(L:ar E true y (ke k))(K:ar E true z (vi u))(hm:te ke vi w (.map v) (some l)):
  ∃w',Sc P E ⟨none,.mapUpdate t x y z,ty,pos,af,none⟩ w w'/\mO (Lg (.map v)) w w'/\w'.heap.size=w.heap.size/\te ke vi w' (.map v) (some (l6 l k u)):=by
 obtain ⟨U,s,hn⟩:=hk.ut;rcases hm with ⟨M,J⟩|⟨b,A,f,l',M,J,r,h⟩
 .cases J
 cases M;cases J;have B:=(Array.getElem?_eq_some_iff.1 r).1;have fin:∀(g:Array MapEntry) (d:Nat),UL ke vi g.toList (l6 l k u)->Sc P E ⟨none,.mapUpdate t x y z,ty,pos,af,none⟩ w { w with heap:=w.heap.setIfInBounds b (.map g d) }->
   ∃w',Sc P E ⟨none,.mapUpdate t x y z,ty,pos,af,none⟩ w w'/\mO (Lg (.map (some b))) w w'/\w'.heap.size=w.heap.size/\te ke vi w' (.map (some b)) (some (l6 l k u)):=λg d q o=>by
  refine ⟨_,o,⟨rfl,rfl,rfl,by simp,λc _ O=>?_⟩,by simp,.inr ⟨b,g,d,_,rfl,rfl,?_,q⟩⟩
  .grind [Array.getElem?_setIfInBounds_ne,Lg]
  .simp [B]
 rcases Ix hn k A.toList l 0 h with ⟨_,V,c⟩|⟨j,R,_,c,S,p,hp,D,C⟩
 .refine fin (A.push { key:=ke k,val:=vi u,born:=f }) (f+1) ?_ ?_
  .grind [ah5,UL]
  .intro n a i;simp [execOp,hx n a i rfl,L n a i rfl,K n a i rfl,Instr.mapUpdate,run_underlying ht,MapKept.run_getObj_map r,hk.check,Instr.findKey,run_underlying s,c,MapKept.run_setObj_map _ r]
 .obtain ⟨rfl,I⟩:=hk.bits k p.1 D;have G:∃e,A.toList[j]? =some e/\e.key=ke p.1:=by
   have T:(A.toList.map λe=>(e.key,e.val))[j]? =(l.map λp=>(ke p.1,vi p.2))[j]? :=by rw [h]
   grind
  obtain ⟨e,N,F⟩:=G;have H  :=by simpa using N
  refine fin (A.modify j λe=>{ e with key:=ke p.1,val:=vi u }) f ?_ ?_
  .rw [C,Array.toList_modify];exact ap2 h _ (λe _=>rfl)
  .have m:Instr.sameBits 10000 e.key (ke p.1)=true:=by rw [F];exact I
   intro n a i;simp [execOp,hx n a i rfl,L n a i rfl,K n a i rfl,Instr.mapUpdate,run_underlying ht,MapKept.run_getObj_map r,hk.check,Instr.findKey,run_underlying s,c,MapKept.run_setObj_map _ r,H,Instr.keyThatStays,m]
end
theorem TI.zero{P:Program}{e:TypeId}{size bytes:Nat}(h:TI P e size bytes z)(w:World):(zeroValue e).run P w= .ok z w:=by obtain ⟨i,hi,_,_,a⟩:=h.out;simp [zeroValue,typeInfo,hi,a]
section
variable {α : Type} {A : fp α} {e : TypeId} {M : Nat -> Prop} {w : World} {v : Value} {xs : List α} {R : zm}
theorem cj.asC{j:Int}(h:cj A e M w v xs R)(o:db 0 j xs.length=true):∃p:jU,aa4 v 0 j A.n (sl p)/\cj A e M w (sl p) (aV xs 0 j) R:=by
 obtain ⟨⟨_,r⟩,f⟩:=wO.1 o;have d:aV xs 0 j=xs.take j.toNat:=by simp [aV]
 rw [d];rcases h with ⟨rfl,cells,⟨s,q⟩,k⟩|⟨rfl,rfl,⟨a,rfl⟩,hS⟩
 .rcases q with ⟨rfl,hn⟩|⟨g,cap,cur,rfl,m,l,c,hm,i,ht⟩
  .have b:j=0:=by omega
   subst b;exact ⟨(none,0,0),⟨none,0,0,rfl,by omega,by omega,by omega,by omega,rfl⟩,.inl ⟨rfl,kD.nil⟩⟩
  .refine ⟨(some ⟨g,0,none⟩,j.toNat,cap),⟨_,_,cap,rfl,by omega,r,f,c,?_⟩,.inl ⟨rfl,cells.take (j.toNat*A.n),⟨?_,.inr ⟨g,cap,cur,by rw [dq,iQ (by omega)];rfl,m,l,?_,hm,i,?_⟩⟩,k.take _⟩⟩
   .show Value.slice (some ⟨g,0,none⟩) j.toNat cap=_;grind [Int.toNat,Addr.add]
   .simp_all
   .grind
   grind [List.length_take,Nat.min_eq_left,Nat.mul_le_mul_right]
 .have b:j=0:=by simp at f;omega
  subst b;refine ⟨(a,0,0),⟨a,0,0,rfl,by omega,by omega,by omega,by omega,?_⟩,.inr ⟨rfl,by simp,⟨a,rfl⟩,hS⟩⟩;show Value.slice a 0 0=_;simp
end
section
variable {P : Program} {ρ : ze} {Q : bh} {n : Nat} {D : x3} {E : Env} {w : World} {ops : zg} {rest : zj} {Γ : Ctx} {i : Nat}
variable {d : Tmp} {ty : TypeId} {pos : String} {af : zh}
def Oj(P:Program)(t:TypeId)(name:String)(f:FuncId)(b:Bool):Prop:=((P.info? t).bind λi=>(i.methods.find? (·.name==name)).map λm=>(m.path.toList,m.func))=some ([],some (f,b))
def Reach(P:Program)(w:World)(t:TypeId)(u:Value)(name:String)(f:FuncId)(v:Value):Prop:= ∀k,(method (k+1) t u name).run P w= .ok (f,v) w
theorem Oj.out{t:TypeId}{a:String}{f:FuncId}{b:Bool}(h:Oj P t a f b):∃i m,P.info? t=some i/\i.methods.find? (·.name==a)=some m/\m.path.toList=[]/\m.func=some (f,b):=by
 unfold Oj at h;cases hi:P.info? t with
 |none=>rw [hi] at h;cases h
 |some i=>
  simp_all
theorem Reach.ptr{t e:TypeId}{u:Value}{a:String}{f:FuncId}(h:Oj P t a f true)(ht:P.underlying t=some (.pointer e)):Reach P w t u a f u:=λk=>by obtain ⟨i,m,hi,hm,hp,b⟩:=h.out;simp_all [method,typeInfo,follow,receiverAt,run_underlying,Place.get]
theorem Reach.load{t e:TypeId}{a:Addr}{u:Value}{b:String}{f:FuncId}(h:Oj P t b f false)(ht:P.underlying t=some (.pointer e))(hl:(loadVar e a).run P w= .ok u w):Reach P w t (.pointer (some a)) b f u:=λk=>by obtain ⟨i,m,hi,hm,hp,c⟩:=h.out;have e:∀s:String,Builtin.ssaWrapNilChk_ #[t] t #[.pointer (some a),strVal "",strVal s]=pure (.pointer (some a)):=λ_=>rfl;simp_all [method,typeInfo,follow,receiverAt,run_underlying,Place.get,asAddr]
theorem amC{g:Bool}{f:FuncId}{r:Operand}{t:TypeId}{u u':Value}{b:String}{vs:zc}{xs:y2}{tys:Array TypeId}{dst:zf}{gd:Option (Nat×Bool)}
  (j:Enters P f) (i:ar E g r (.iface t u)) (hm:g=true->Reach P w t u b f u') (c:kr E g xs vs) {a:Act} (e:Fits n E a) (d:g=true):
  (execOp a.eval ⟨dst,.call ⟨.invoke r b,xs.toArray,tys⟩,ty,pos,af,gd⟩).run P w= .ok (.enter f (u'::vs).toArray) w:=by
 have o:(Array.map a.eval xs.toArray)=vs.toArray:=by simp [c.map e d]
 have k:=j (u'::vs).toArray w;have h:=hm d (P.types.size+99);have m:P.types.size+99+1=P.types.size+Made.depth:=rfl;rw [m] at h;have e3:(#[Value.iface t u]++vs.toArray)[0]? =some (Value.iface t u):=by simp
 have e4:(#[Value.iface t u]++vs.toArray).extract 1 (#[Value.iface t u]++vs.toArray).size=vs.toArray:=by simp
 have l:(#[u']++vs.toArray)=(u'::vs).toArray:=by simp
 simp [execOp,resolve,i n a e d,o,Sem.run_bind,Sem.run_pure,Result.andThen_ok,invoke,e3,e4,callMethod,run_program,h,l,k]
end
section
variable {P : Program} {w : World}
theorem Uh{α:Type}{A:fp α}{M:Nat->Prop}(t k e:TypeId)(i:TypeInfo)(z:Value)(ht:P.underlying t=some (.slice e))(hi:P.info? e=some i)(O:i.zero=some z)(G:i.size=A.n)
  (r:z.cells.size=A.n) {p:Option Addr} {u:Value} {xs ys:List α} (hx:bT A M w (.slice p xs.length xs.length) xs) (Q:bT A M w u ys) (o:ys≠[]) (c:aH (xs.length+ys.length) i.bytes=true):
  ∃v' w',(Builtin.append_ #[t,t] k #[.slice p xs.length xs.length,u]).run P w= .ok v' w'/\Ext w w'/\(∀b∈dW v',b<w'.heap.size/\w.heap.size<=b)/\(∀M',Mv M w M' w'->kD A e M' w' v' (xs++ys)):=by
 by_cases s:xs=[]
 .subst s;rcases xh t k e i z ht hi O G r hx Q (by simpa using c) with ⟨_,h⟩|h
  .exact absurd h o
  .simpa using h
 simp only [aH,au] at c;have K:=ei c.1;have hb2:=ei c.2;have Y  :=List.length_pos_iff.2 o;rcases hx with ⟨⟨a0,V⟩,L⟩|⟨b,a,cap,cs,e',fr,V,hMb,hb,hc,X,q⟩
 .exact absurd L s
 rcases Q with ⟨_,L⟩|⟨W,g,B,N,e2,fr2,rfl,U,y,hc2,R,f⟩
 .exact absurd L o
 obtain ⟨rfl,_,T⟩:=V;have d:∀{b a cap:Nat} {cs:zb} {e':TypeId} {fr:Nat×Nat} {l:List α},w.heap[b]? =some (.cells cs e' fr)->∀j x,((cs.toList.drop a).take (l.length*A.n))[j]? =some x->w.cell? ((⟨b,a,none⟩:Addr).add j)=some x:=by
  intro b a cap cs e' fr l hb j x S;have key:bN w ⟨b,a,none⟩ ((cs.toList.drop a).take (l.length*A.n)):=⟨rfl,cs,e',fr,hb,λj u S=>by grind⟩
  exact key.cell S
 generalize I:(cs.toList.drop a).take (xs.length*A.n)=D at q;generalize H:(N.toList.drop g).take (ys.length*A.n)=C at f;have F:∀j x,D[j]? =some x->w.cell? ((⟨b,a,none⟩:Addr).add j)=some x:=by rw [<-I];exact d (cap:=0) hb
 have E:∀j x,C[j]? =some x->w.cell? ((⟨W,g,none⟩:Addr).add j)=some x:=by rw [<-H];exact d (cap:=0) y
 have Z:=grownCap_ge w (xs.length+ys.length) xs.length e;have J:grownCap w (xs.length+ys.length) xs.length e<=maxLen:=grownCap_le_maxLen w _ _ e (by grind [maxLen]);have v:=run_append_grow w t k e i z ht hi O ⟨b,a,none⟩ xs.length xs.length D (by rw [G];exact q.1) F ⟨W,g,none⟩ ys.length B C (by rw [G];exact f.1) E (by omega) (by omega) (growslice_fits (by omega) K);refine ⟨_,_,v,⟨rfl,rfl,rfl,by simp,λb hb=>heap_alloc_old w.drew _ hb⟩,λb hb=>?_,λM' m=>⟨D++C,?_,(q.append f).mv m⟩⟩
 .simp_all [dW,Value.ownBlock]
 .refine ⟨by rw [eF,q.1,f.1,eF,qq],.inr ⟨w.heap.size,_,_,by rw [eF],pF _,heap_alloc_new w.drew _,by grind,J,?_,?_⟩⟩
  .simp [qW,qi,size_zeroCells,r,q.1,f.1,<-qq];congr 1;omega
  .have hl:(D++C).length=(xs++ys).length*A.n:=by rw [eF,q.1,f.1,eF,qq]
   grind
end
section
variable {P : Program} {ρ : ze} {Q : bh} {n : Nat} {D : x3} {E : Env} {w : World} {ops : zg} {rest : zj} {Γ : Ctx}
variable {d : Tmp} {ty : TypeId} {pos : String} {af : zh}
theorem bT.an0{α:Type}{A:fp α}{M:Nat->Prop}{v:Value}{xs:List α}{i j:Int}(h:bT A M w v xs)(d:kR i j j xs.length=true):
  ∃p:Option Addr,OW v i j j A.n (sl (p,(aV xs i j).length,(aV xs i j).length))/\bT A M w (sl (p,(aV xs i j).length,(aV xs i j).length)) (aV xs i j):=by
 obtain ⟨p,b,a⟩:=bT.asR (λ_=>h) (λ_=>d);have b:=b rfl;have a:=a rfl;obtain ⟨g,len,cap,f,q,o,m,l,k,e⟩:=b;simp [sl] at e;obtain ⟨r,c,hl⟩:=a.len;simp [sl] at hl;grind
end
section
variable {P : Program} {ρ : ze} {Q : bh} {n : Nat} {D : x3} {E : Env} {w : World} {ops : zg} {rest : zj} {Γ : Ctx} {g : Bool}
variable {d d2 : Tmp} {ty ty2 : TypeId} {pos pos2 : String} {af af2 : zh}
end
section
variable {P : Program} {ρ : ze} {Q : bh} {n : Nat} {D : x3} {E : Env} {w : World} {ops : zg} {rest : zj} {Γ : Ctx}
variable {ty : TypeId} {pos : String} {af : zh}
end
variable {R : zm}
def nc{α:Type}(xs:List α)(i:Int)(ys:List α):List α:=xs.take i.toNat++ys++xs.drop i.toNat
def CF(i:Int)(n:Nat):Bool:=decide (0<=i)&&decide (i<=n)
theorem aaK{i:Int}{n:Nat}:CF i n=true↔0<=i/\i<=n:=by simp [CF]
section
variable {P : Program} {E : Env} {w : World} {g : Bool}
variable {dst : zf} {ty : TypeId} {pos : String} {af : zh} {gd : w4}
theorem wq{t ty e k bytes:Nat}(ht:P.underlying t=some (.slice e))(f:TI P e k bytes z){b o dl dc:Nat}{cur:zb}{e':TypeId}{a:Addr}{ls sc:Nat}{cs:zc}
  (hn:cs.length=Nat.min ls dl*k) (c:∀j v,cs[j]? =some v->w.cell? (a.add j)=some v) (g:w.heap[b]? =some (.cells cur e' (0,0))) (d:o+cs.length<=cur.size) (h:∀v∈cs,v.oneCell'=true):
  (Builtin.copy_ #[t,t] ty #[.slice (some ⟨b,o,none⟩) dl dc,.slice (some a) ls sc]).run P w= .ok (goInt (Nat.min ls dl)) (w.setRow b (cur.toList.take o++cs++cur.toList.drop (o+cs.length)).toArray):=by
 obtain ⟨i,hi,l,_,_⟩:=f.out;have hl:=run_loadCells_list (P:=P) w a cs c;have kl:=run_storeCells_at (P:=P) b o e' cs 0 cur w g (by simpa using d) h;simp_all [Builtin.copy_,run_underlying,sizeOf,typeInfo,Builtin.lenOf,Builtin.firstCells]
theorem Xf{a:Option Addr}{n c:Nat}{t:TypeId}(ht:P.underlying t=some (.slice e))(hx:ar E g x (.slice a n c)):
  bc P E g ⟨dst,.call ⟨.builtin .cap,#[x],#[t]⟩,ty,pos,af,gd⟩ w (.int .i64 c):=λn' f d b=>by
 simp [execOp,resolve,invoke,builtin,hx n' f d b,Builtin.cap_,run_underlying ht,goInt]
theorem sB{x y:Operand}{b o n c i k bytes:Nat}{d:IntKind}{z:Value}{t e:TypeId}(ht:P.underlying t=some (.slice e))(a:TI P e k bytes z)(hx:ar E g x (.slice (some ⟨b,o,none⟩) n c))(f:ar E g y (.int d (i:Int)))
  (p:i<=n) (h:n<=c) (m:i<c):bc P E g ⟨dst,.slice t x (some y) none none,ty,pos,af,gd⟩ w (.slice (some ⟨b,o+i*k,none⟩) (n-i) (c-i)):=by
 refine He ht a hx (λ_=>⟨_,_,rfl⟩) ⟨_,f⟩ rfl (λ_=>⟨_,_,_,rfl,by omega,by omega,qc _,h,?_⟩);have l:(i:Int).toNat=i:=by omega
 have j:((n):Int).toNat=n:=by omega
 rw [l,j,dk (by omega)];simp [Addr.add]
theorem aam{x y:Operand}{a:Option Addr}{n c j k bytes:Nat}{l:IntKind}{z:Value}{t e:TypeId}(ht:P.underlying t=some (.slice e))(h:TI P e k bytes z)(hx:ar E g x (.slice a n c))(i:ar E g y (.int l (j:Int)))
  (p:j<=c):bc P E g ⟨dst,.slice t x none (some y) none,ty,pos,af,gd⟩ w (.slice a j c):=by
 obtain ⟨q,hi,r,_,_⟩:=h.out;intro n' f d b;by_cases o:c=0
 .subst o;have m:j=0:=by omega
  subst m;simp [execOp,hx n' f d b,i n' f d b,Instr.sliceAt,Instr.slice,Instr.sliceBounds,Instr.sliceBound,asIntOf,run_underlying ht,sizeOf,typeInfo,hi]
 .cases a <;> simp [execOp,hx n' f d b,i n' f d b,Instr.sliceAt,Instr.slice,Instr.sliceBounds,Instr.sliceBound,asIntOf,run_underlying ht,sizeOf,typeInfo,hi,p,Addr.add]
theorem afM{f:FuncId}{xs:y2}(a:kr E g xs vs)(e:(callFunc f vs.toArray).run P w= .ok (.value v) w):
  bc P E g ⟨dst,.call ⟨.value (.func f),xs.toArray,tys⟩,ty,pos,af,gd⟩ w v:=λn' d c b=>by
 have h:(Array.map d.eval xs.toArray)=vs.toArray:=by simp [a.map c b]
 simp_all [execOp,resolve,Act.eval,Deferred.ofValue,invoke]
theorem Qy{t:TypeId}{u r:Value}{w':World}(hx:ar E true x u)(c:ar E true y v)(d:(Builtin.append_ #[t,t'] ty #[u,v]).run P w= .ok r w'):
  pr P E ⟨dst,.call ⟨.builtin .append,#[x,y],#[t,t']⟩,ty,pos,af,gd⟩ w r w':=λn a b=>by simp [execOp,resolve,invoke,builtin,hx n a b rfl,c n a b rfl,d]
theorem BT{t:TypeId}{u r:Value}{w':World}(hx:ar E true x u)(c:ar E true y v)(d:(Builtin.copy_ #[t,t'] ty #[u,v]).run P w= .ok r w'):
  pr P E ⟨dst,.call ⟨.builtin .copy,#[x,y],#[t,t']⟩,ty,pos,af,gd⟩ w r w':=λn a b=>by simp [execOp,resolve,invoke,builtin,hx n a b rfl,c n a b rfl,d]
end
section
variable {w : World}
theorem cell_of_heap{cur:zb}{fr:Nat×Nat}(hb:w.heap[b]? =some (.cells cur e fr))(o:Nat)(l:zc)(hl:l=(cur.toList.drop o).take l.length):∀j v,l[j]? =some v->w.cell? ((⟨b,o,none⟩:Addr).add j)=some v:=by
 intro j v a;have key:bN w ⟨b,o,none⟩ l:=⟨rfl,cur,e,fr,hb,λj u a=>by grind⟩
 exact key.cell a
theorem mO.trans{C:zm}{a b c:World}(h:mO C a b)(k:mO C b c):mO C a c:=⟨k.os.trans h.os,k.tape.trans h.tape,k.output.trans h.output,dx h.size k.size,λi hi hn=>(k.block i (gr hi h.size) hn).trans (h.block i hi hn)⟩
theorem yt(b:Nat)(row:zb):mO [b] w (w.setRow b row):=⟨rfl,rfl,rfl,by simp,λc _ a=>setRow_other w b c _ (by simpa using a)⟩
theorem aiG{l:zc}{a n c:Nat}(ha:a<=n)(hb:vs.length=b)(f:n+b<=c)(hl:l.length=c):
  let r1:=l.take (a+b)++(l.drop a).take (n-a)++l.drop (a+b+((l.drop a).take (n-a)).length);let r2:=r1.take a++vs++r1.drop (a+vs.length)
  r1.length=c/\r2.length=c/\r2.take (n+b)=(l.take n).take a++vs++(l.take n).drop a:=by
 intro r1 r2;have g:((l.drop a).take (n-a)).length=n-a:=by grind
 have e:r1.length=c:=by grind
 have d:r2.length=c:=by simp [r2,eF,dq,j0];omega
 refine ⟨e,d,?_⟩;have t1:r1.take a=(l.take n).take a:=by grind
 have t2:(r1.drop (a+vs.length)).take (n-a)=(l.take n).drop a:=by simp only [r1];rw [cx,List.drop_append,hb];rw [qg (by grind),p5,dq,iQ (by omega),Nat.sub_self,n9,List.take_append_of_le_length (by omega),fb (by omega),qy]
 simp only [r2];rw [t1];have l1:((l.take n).take a++vs).length=a+b:=by grind
 rw [uc,fb (by omega),l1,show n+b-(a+b)=n-a by omega,t2]
theorem alK{l z:zc}{a n:Nat}(ha:a<=n)(hb:vs.length=b)(hl:l.length=n)(c:n+b<=a+z.length):
  let r0:=l.take a++z;let r1:=r0.take a++vs++r0.drop (a+vs.length);let r2:=r1.take (a+b)++l.drop a++r1.drop (a+b+(l.drop a).length)
  r1.length=r0.length/\r2.length=r0.length/\r2.take (n+b)=l.take a++vs++l.drop a:=by
 have:(l.take a++vs++l.drop a).length=n+b:=by grind
 grind
end
section
variable {P : Program} {w : World}
theorem af3{M:Nat->Prop}{u:Value}{t ty:TypeId}{bytes:Nat}(ht:P.underlying t=some (.slice e))(k:TI P e A.n bytes z)
  (d:z.cells.size=A.n) (i:0<A.n) {xs ys:List α} (l:cj A e M w v xs R) (f:bT A M w u ys) (B:∀b∈R,M b) (a:aH (xs.length+ys.length) bytes=true):
  ∃c R' w',(Builtin.append_ #[t,t] ty #[v,u]).run P w= .ok c w'/\mO R w w'/\(∀b∈R',b<w'.heap.size/\(b∈R\/w.heap.size<=b))/\∀M',Mv M w M' w'->cj A e M' w' c (xs++ys) R':=by
 obtain ⟨q,j,s,o,r⟩:=k.out;subst o;rcases l with ⟨rfl,l⟩|⟨rfl,rfl,⟨a0,rfl⟩,g⟩
 .obtain ⟨c,w',h,hC,y,p⟩:=IW t ty e q z ht j r s d l f B a i;exact ⟨c,dW c,w',h,hC,y,λM' m=>cj.of (p M' m)⟩
 .rcases xh t ty e q z ht j r s d g f (by simpa using a) with ⟨h,rfl⟩|⟨c,w',h,C,x,p⟩
  .exact ⟨_,[],w,h,(Ext.refl w).xt _,(λb hb=>by cases hb),λM' m=>cj.empty (g.mv m)⟩
  .exact ⟨c,dW c,w',h,C.xt _,(λb hb=>⟨(x b hb).1,.inr (x b hb).2⟩),λM' m=>cj.of (by simpa using p M' m)⟩
theorem cj.shape{M:Nat->Prop}{xs:List α}(h:cj A e M w v xs R):∃p c,v= .slice p xs.length c/\xs.length<=c:=by
 rcases h with ⟨_,cells,⟨_,b⟩,_⟩|⟨_,rfl,⟨a,rfl⟩,_⟩
 .grind
 grind
theorem cj.row{M:Nat->Prop}{xs:List α}(h:cj A e M w v xs R)(hx:xs≠[]):
  ∃b c cur,v= .slice (some ⟨b,0,none⟩) xs.length c/\R=[b]/\w.heap[b]? =some (.cells cur e (0,0))/\xs.length<=c/\c<=maxLen/\cur.size=c*A.n/\cV A M w (cur.toList.take (xs.length*A.n)) xs:=by
 rcases h with ⟨j,cells,⟨_,k⟩,d⟩|⟨_,h,_⟩
 .rcases k with ⟨_,l⟩|⟨g,cap,cur,rfl,_,f,i,hm,a,ht⟩
  .grind
  .exact ⟨g,cap,cur,rfl,by rw [j];rfl,f,i,hm,a,by rw [ht];exact d⟩
 .exact absurd h hx
theorem cj.mk_{M:Nat->Prop}{xs:List α}{c:Nat}{cur:zb}(f:w.heap[b]? =some (.cells cur e (0,0)))(g:xs.length<=c)(hm:c<=maxLen)(d:cur.size=c*A.n)(a:cV A M w (cur.toList.take (xs.length*A.n)) xs):
  cj A e M w (.slice (some ⟨b,0,none⟩) xs.length c) xs [b]:= .inl ⟨rfl,_,⟨a.1,.inr ⟨b,c,cur,rfl,pF _,f,g,hm,d,rfl⟩⟩,a⟩
theorem alZ{α:Type}{xs ys:List α}{i:Nat}(h:i<=xs.length):(nc xs (i:Int) ys).length=xs.length+ys.length:=by grind [nc,List.length_append,List.length_take,List.length_drop,Int.toNat_natCast]
theorem ann{xs ys:List α}:nc xs (xs.length:Int) ys=xs++ys:=by unfold nc;simp
theorem aeX{α:Type}{A:fp α}{M:Nat->Prop}{a b:zc}{xs ys:List α}{i:Nat}(hx:cV A M w a xs)(c:cV A M w b ys):cV A M w (a.take (i*A.n)++b++a.drop (i*A.n)) (nc xs (i:Int) ys):=by exact ((hx.take i).append c).append (hx.drop i)
end
variable {E' : Env} {ps : Array Tmp} {r : LoopState -> Option Code -> Loop}
def w9(b:Nat)(o:Obj):Item where
 own:=[b]
 P _ w:=w.heap[b]? =some o
 lt h c hc:=by
  have:c=b:=by simpa using hc
  subst this;exact (Array.getElem?_eq_some_iff.1 h).1
 da h _ k _:=(k b (by simp)).trans h
 cO:=false
 hp h:=by cases h
def pack{γ:Type}(Γ:γ->Ctx)(R:zm):Item where
 own:=R
 P M w:=(∀b∈R,b<w.heap.size)/\∃g,(∀b,(Γ g).M b↔b∈R)/\(∀it,it∈Γ g->it.P M w)/\
  (∀(i j:Nat) (it jt:Item),(Γ g)[i]? =some it->(Γ g)[j]? =some jt->i≠j->∀b,b∈it.own->b∉jt.own)
 lt h:=h.1
 da {M M' w w'} h m k e:=by obtain ⟨h1,g,h2,h3,h4⟩:=h;exact ⟨λb hb=>gr (h1 b hb) m.1,g,h2,λit hi=>it.da (h3 it hi) m (λb hb=>k b ((h2 b).1 ⟨it,hi,hb⟩)) e,h4⟩
 cO:=false
 hp h:=by cases h
structure Rec(n:Nat)(E:Env)(ps:Array Tmp)(assign body:Code)(b:Nat)(r:LoopState->Option Code->Loop):Prop where
 ex:∃fn tmps,Fits n E { tmps:=tmps,defers:=[] }/\r=λst pe=>{ state:=st,pending:=pe,fn,tmps,params:=ps,assign,body,defers:=b }
abbrev dZ(l:Nat)(r:LoopState->Option Code->Loop)(st:LoopState)(pe:Option Code):Item:=w9 l (.loop (r st pe))
def mk(ds:zm):x3:=ds.map λb=>{ target:= .collected b,args:= #[] }
def eR(ds:zm):Item where
 own:=ds
 P _ w:=ds.Nodup/\∀b∈ds,w.heap[b]? =some (.deferred (some []))
 lt h b hb:=(Array.getElem?_eq_some_iff.1 (h.2 b hb)).1
 da h _ k _:=⟨h.1,λb hb=>(k b hb).trans (h.2 b hb)⟩
 cO:=false
 hp h:=by cases h
section
variable {P : Program} {n : Nat} {D : x3} {E : Env} {w : World} {Γ : Ctx} {Q : bh}
theorem Sat.aql(a:Sat Γ w):Sat (eR []::Γ) w:=a.push (Ext.refl w) (λb hb=>by cases hb) (λ_ _=>⟨qZ,λb hb=>by cases hb⟩)
theorem Sat.Ql{b:Nat}{ds:zm}(g:Sat (w9 b (.deferred (some []))::eR ds::Γ) w):Sat (eR (b::ds)::Γ) w:=by
 have p:w.heap[b]? =some (.deferred (some [])):=g.at_ (i:=0) rfl;have m:ds.Nodup/\∀b∈ds,w.heap[b]? =some (.deferred (some [])):=g.at_ (i:=1) rfl;have o:b∉ds:=g.sep 0 1 _ _ rfl rfl (by omega) b (by simp [w9]);have n:∀c,Ctx.M (w9 b (.deferred (some []))::eR ds::Γ) c↔Ctx.M (eR (b::ds)::Γ) c:=λc=>by
  simp only [Ctx.Fk,w9,eR,qe,qF,or_false];constructor
  .rintro (h|h|h)
   .exact .inl (.inl h)
   .exact .inl (.inr h)
   .exact .inr h
  .rintro ((h|h)|h)
   .exact .inl h
   .exact .inr (.inl h)
   .exact .inr (.inr h)
 have mv:Mv (Ctx.M (w9 b (.deferred (some []))::eR ds::Γ)) w (Ctx.M (eR (b::ds)::Γ)) w:=Mv.weaken w (λc a=>(n c).2 a);have d:∀(j:Nat) (f:Item) (c:Nat),Γ[j]? =some f->c∈b::ds->c∉f.own:=λj f c e a=>by
  rcases List.mem_cons.1 a with rfl|a
  .exact g.sep 0 (j+2) _ f rfl (by simpa using e) (by omega) c (by simp [w9])
  .exact g.sep 1 (j+2) _ f rfl (by simpa using e) (by omega) c a
 refine ⟨λit hi=>?_,λi j it f hi e l c a k=>?_⟩
 .rcases List.mem_cons.1 hi with rfl|hi
  .refine ⟨List.nodup_cons.2 ⟨o,m.1⟩,λc a=>?_⟩;rcases List.mem_cons.1 a with rfl|a
   .exact p
   .exact m.2 c a
  .exact it.da (g.all it (cp _ (cp _ hi))) mv (λ_ _=>rfl) (jc.refl w)
 .cases i with
  |zero=>
   simp only [ql,ej] at hi;subst hi;cases j with
   |zero=>exact l rfl
   |succ j=>simp only [hU] at e;exact d j f c e a k
  |succ i=>
   simp only [hU] at hi;cases j with
   |zero=>
    simp only [ql,ej] at e;subst e;exact d i it c hi k a
   |succ j=>
    simp only [hU] at e;exact g.sep (i+2) (j+2) it f (by simpa using hi) (by simpa using e) (by omega) c a k
theorem Sat.putObj{i b:Nat}{o d:Obj}(g:Sat Γ w)(hi:Γ[i]? =some (w9 b o)):Sat (Γ.set i (w9 b d)) (w.putObj b d):=by
 have hb:w.heap[b]? =some o:=g.at_ hi;have a:=(Array.getElem?_eq_some_iff.1 hb).1;have f:(w.putObj b d).heap[b]? =some d:=World.putObj_heap_same a;refine g.mM hi ⟨rfl,rfl,rfl,by simp,λc _ e=>World.putObj_heap_other (by simpa [w9] using e)⟩ (λc h=>?_) (λ_ _ _=>f);have:c=b:=by simpa [w9] using h
 subst this;exact ⟨by simpa using a,.inl (by simp [w9])⟩
def oh(P:Program)(ρ:ze)(l n:Nat)(D:x3)(Q:bh)(E:Env)(_v:Value)(w:World):Prop:=
 ∃j w',(Instr.endLoop l).run P w= .ok j w'/\match j with
  |none=>At Q .normal n D E w'
  |some c=>WC P ρ c Q n D E w'
theorem oh.go{l:Nat}{assign body:Code}(c:Rec n E' ps assign body b r)(a:Sat (dZ l r .ready none::Γ) w)
  (h:∀w',Sat Γ w'->At Q .normal n D E w'):oh P none l n D Q E v w:=by
 obtain ⟨fn,tmps,_,rfl⟩:=c.ex;have d:w.heap[l]? =some _:=a.at_ (i:=0) rfl;refine ⟨_,_,run_endLoop d (by simp),?_⟩;refine h _ ((a.putObj (i:=0) rfl).re 1 [] rfl)
theorem oh.jump{l:Nat}{assign body:Code}{c:Code}(d:Rec n E' ps assign body b r)(a:Sat (dZ l r .done (some c)::Γ) w)
  (h:∀w',Sat Γ w'->WC P none c Q n D E w'):oh P none l n D Q E v w:=by
 obtain ⟨fn,tmps,_,rfl⟩:=d.ex;have e:w.heap[l]? =some _:=a.at_ (i:=0) rfl;refine ⟨_,_,run_endLoop e (by simp),?_⟩;exact h _ ((a.putObj (i:=0) rfl).re 1 [] rfl)
def Yld(P:Program)(l:Nat)(vs:zc)(w:World)(S:Value->World->Prop):Prop:=
 ∃fn tmps assign body,(Instr.yield l vs.toArray).run P w= .ok (.round l fn tmps assign body) w/\RoundIn (FW none) 0 P l fn tmps assign body w (RE S (λ_ _=>False))
def Z6:List Tmp->zc->Env->Env
 |p::ps,v::vs,E=>Z6 ps vs ((p,true,v)::E)
 |_,_,E=>E
theorem abv:∀(ps:List Tmp) (vs:zc) {E:Env} {tmps:zb},ps.all (λp=>Nat.blt p n)=true->Fits n E { tmps:=tmps,defers:=[] }->
  Fits n (Z6 ps vs E) { tmps:=(ps.zip vs).foldl (λt (p,v)=>t.setIfInBounds p v) tmps,defers:=[] }
 |[],_,_,_,_,h=>h
 |_::_,[],_,_,_,h=>h
 |p::ps,v::vs,E,tmps,hp,h=>by simp only [qp,au] at hp;have:=h.put (g:=true) (v:=v) hp.1;exact abv ps vs hp.2 this
def ajP(P:Program)(l:Nat)(body:Code)(Q:bh):Act->World->Prop:=λa w=>∃w',(Instr.beginRound l).run P w= .ok () w'/\body.wpIn (FW (some l)) 0 P Q a w'
theorem asv{l:Nat}{ps:List Tmp}{assign body:Code}{S:Value->World->Prop}
  (g:Rec n E ps.toArray assign body b r) (f:Sat (dZ l r .ready none::Γ) w) (hl:Nat.beq vs.length ps.length=true) (hp:ps.all (λp=>Nat.blt p n)=true)
  (h:WC P (some l) assign (Exit.then (ajP P l body (roundPost P l (RE S (λ_ _=>False)))) (λ_ _ _=>False)) n [] (Z6 ps vs E) w):Yld P l vs w S:=by
 obtain ⟨fn,tmps,j,rfl⟩:=g.ex;have k:w.heap[l]? =some _:=f.at_ (i:=0) rfl;have c:vs.length=ps.length:=b0 hl;refine ⟨fn,_,assign,body,run_yield k (by simp [c]),roundIn_of_wpIn trivial ?_⟩;have d:=abv ps vs hp j;have e:((ps.toArray.zip vs.toArray).foldl (λtmps (t,a)=>tmps.setIfInBounds t a) tmps)=((ps.zip vs).foldl (λt (p,v)=>t.setIfInBounds p v) tmps):=by simp
 have:=h _ d rfl;rw [<-e] at this;exact this
theorem amv{l:Nat}{assign body:Code}(d:Rec n E' ps assign body b r)(c:Sat Γ w)(hi:Γ[i]? =some (dZ l r .ready none))
  (h:∀w',Sat (Γ.set i (dZ l r .busy none)) w'->WC P (some l) body Q n D E w'):At (Exit.then (ajP P l body Q) (λ_ _ _=>False)) .normal n D E w:=λa e hd=>by
 obtain ⟨fn,tmps,_,rfl⟩:=d.ex;have f:w.heap[l]? =some _:=c.at_ hi;exact ⟨_,run_beginRound f rfl,h _ (c.putObj hi) a e hd⟩
theorem anx{l:Nat}{assign body:Code}{S:Value->World->Prop}{Sp:xa->World->Prop}(d:Rec n E' ps assign body b r)(c:Sat Γ w)(hi:Γ[i]? =some (dZ l r .busy none))
  (h:∀w',Sat (Γ.set i (dZ l r .ready none)) w'->S (.bool true) w'):At (roundPost P l (RE S Sp)) .normal n D E w:=λa f hd=>by
 obtain ⟨fn,tmps,_,rfl⟩:=d.ex;have e:w.heap[l]? =some _:=c.at_ hi;exact ⟨_,_,run_endRound none e,h _ (c.putObj hi)⟩
theorem abJ{l:Nat}{assign body:Code}{S:Value->World->Prop}{Sp:xa->World->Prop}(d:Rec n E' ps assign body b r)(c:Sat Γ w)(hi:Γ[i]? =some (dZ l r .busy none))
  (h:∀w',Sat (Γ.set i (dZ l r .done (some .ret))) w'->S (.bool false) w'):At (roundPost P l (RE S Sp)) .ret n D E w:=λa f hd=>by
 obtain ⟨fn,tmps,_,rfl⟩:=d.ex;have e:w.heap[l]? =some _:=c.at_ hi;exact ⟨_,_,run_endRound (some .ret) e,h _ (c.putObj hi)⟩
theorem YX{l k:Nat}{assign body:Code}{S:Value->World->Prop}{Sp:xa->World->Prop}(d:Rec n E' ps assign body b r)(c:Sat Γ w)(hi:Γ[i]? =some (dZ l r .busy none))
  (h:∀w',Sat (Γ.set i (dZ l r .done (some (.exit k)))) w'->S (.bool false) w'):At (roundPost P l (RE S Sp)) (.exit k) n D E w:=λa f hd=>by
 obtain ⟨fn,tmps,_,rfl⟩:=d.ex;have e:w.heap[l]? =some _:=c.at_ hi;exact ⟨_,_,run_endRound (some (.exit k)) e,h _ (c.putObj hi)⟩
theorem YG{l k:Nat}{assign body:Code}{S:Value->World->Prop}{Sp:xa->World->Prop}(d:Rec n E' ps assign body b r)(c:Sat Γ w)(hi:Γ[i]? =some (dZ l r .busy none))
  (h:∀w',Sat (Γ.set i (dZ l r .done (some (.goto k)))) w'->S (.bool false) w'):At (roundPost P l (RE S Sp)) (.goto k) n D E w:=λa f hd=>by
 obtain ⟨fn,tmps,_,rfl⟩:=d.ex;have e:w.heap[l]? =some _:=c.at_ hi;exact ⟨_,_,run_endRound (some (.goto k)) e,h _ (c.putObj hi)⟩
end
section
variable {P : Program} {ρ : ze} {Q : bh} {n : Nat} {D : x3} {E : Env} {w : World} {ops : zg} {rest : zj} {Γ : Ctx}
theorem akP{l:Nat}{xs:y2}{d:Tmp}{ty:TypeId}{pos:String}{af:zh}{S:Value->World->Prop}
  (f:ar E true fo (.func (.yield l) #[] #[])) (b:kr E true xs vs) (hn:Nat.blt d n=true) (j:Yld P l vs w S)
  (h:∀v w',S v w'->WL P ρ ops Q n D rest ((d,true,v)::E) w'):WL P ρ ops Q n D (⟨some d,.call ⟨.value fo,xs.toArray,tys⟩,ty,pos,af,none⟩::rest) E w:=λa g m=>
 wpListIn_plain rfl λK k=>oy rfl (by
  obtain ⟨fn,tmps,assign,body,p,o⟩:=j;have r:(Array.map a.eval xs.toArray)=vs.toArray:=by simp [b.map g rfl]
  have q:(execOp a.eval ⟨some d,.call ⟨.value fo,xs.toArray,tys⟩,ty,pos,af,none⟩).run P w= .ok (.round l fn tmps assign body) w:=by simp only [execOp,resolve,f n a g rfl,Deferred.ofValue,r,Sem.run_bind,Sem.run_pure,Result.andThen_ok,invoke];simpa using p
  rw [q,Oper.uponIn_round];refine ⟨J3,RoundIn.mono (F:=FW ρ) o λe w' i=>?_⟩;cases e with
  |returned v=>exact k _ _ (h v w' i _ (g.put hn) m)
  |panicked c=>exact i.elim
  |outgrown=>exact i.elim)
theorem RZ{fn:Func}{S:Value->World->Prop}{Sp:xa->World->Prop}:∀(ds:zm) {w:World},Sat (eR ds::Γ) w->
  (∀w',Sat Γ w'->At (BP P fn S Sp) .ret n [] E w')->At (BP P fn S Sp) .ret n (mk ds) E w
 |[],w,hs,h=>h w (hs.re 1 [] rfl)
 |b::ds,w,hs,h=>λa l hd=>by
  have f:(b::ds).Nodup/\∀c∈b::ds,w.heap[c]? =some (.deferred (some [])):=hs.at_ (i:=0) rfl;have hb:=f.2 b (c8 ..);have j:b∉ds:=(List.nodup_cons.1 f.1).1;have m:=(Array.getElem?_eq_some_iff.1 hb).1;have g:Sat ((eR (b::ds)::Γ).set 0 (eR ds)) (w.putObj b (.deferred none)):=by
   refine hs.mM (i:=0) rfl ⟨rfl,rfl,rfl,by simp,λc _ k=>World.putObj_heap_other (λe=>k (by subst e;exact c8 ..))⟩ (λc d=>⟨?_,.inl (cp _ d)⟩) (λ_ _ _=>?_)
   .have:=(Array.getElem?_eq_some_iff.1 (f.2 c (cp _ d))).1;simpa using this
   .exact ⟨(List.nodup_cons.1 f.1).2,λc d=>(World.putObj_heap_other (λe=>j (by subst e;exact d))).trans (f.2 c (cp _ d))⟩
  have o:=RZ ds g h { a with defers:=mk ds } ⟨l.size,l.at_⟩ rfl;show LeavesInM (FW none) 0 P fn a.tmps (RE S Sp) a.defers .returning w;rw [hd];exact ⟨by simp,.inl ⟨b,_,rfl,run_takeDeferred hb,o⟩⟩
theorem abT{fn:Func}{S:Value->World->Prop}{Sp:xa->World->Prop}(ds:zm)(a:Sat (eR ds::Γ) w)
  (h:∀w',Sat Γ w'->At (BP P fn S Sp) .normal n [] E w'):At (BP P fn S Sp) .normal n (mk ds) E w:=RZ (fn:=fn) (S:=S) (Sp:=Sp) ds a h
end
end Go.Proofs.YtcgihjbfppkcfaaGreatDoor
