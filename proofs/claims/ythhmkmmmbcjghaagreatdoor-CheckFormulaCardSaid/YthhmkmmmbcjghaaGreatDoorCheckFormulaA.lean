/- Own texts for CheckFormula, cut and joined by a program. -/
import Derived.WalkKit
import Derived.ScopeJumps
import Derived.Deep.Quiet
import Derived.KernelRfl
import Derived.TacticsIn
import Derived.OrdersIn
import Derived.RangeFuncRecord
import Derived.Laws.BytesArg
import Derived.Laws.IdiomStrings
import Derived.Laws.Cover3
import Derived.Laws.Shifts
import Derived.Laws.BitsAllLaws
set_option linter.all false
namespace Go.Proofs.YthhmkmmmbcjghaaGreatDoor
open IntKind (i32 i64 u8)
abbrev zh:=List Nat
abbrev zg:=List Int
abbrev zf:=List Oper
abbrev ze:=Array Bool
abbrev zd:=Array Edge
abbrev zc:=Array Oper
abbrev zb:=Option Tmp
abbrev za:=Option Nat
abbrev y2:=Option Int
abbrev yp:=List Value
abbrev x8:=Array Value
abbrev x6:=Option Bool
abbrev x4:=List Operand
abbrev x3:=List Deferred
abbrev xc:=List PanicEntry
abbrev xb:=List (Option Nat)
abbrev xa:=Option (Nat × Bool)
abbrev w5:=List (Option TypeId)
abbrev ar:=@Bool.and_eq_true
abbrev aS:=@Nat.eq_of_beq_eq_true
abbrev bb:=@List.append_assoc
abbrev bd:=@cond_false
abbrev cb:=@List.mem_cons_of_mem
abbrev ch:=@Nat.le_refl
abbrev cw:=@cond_true
abbrev cx:=@List.length_take
abbrev cy:=@List.getElem?_append_right
abbrev cz:=@List.mem_cons_self
abbrev cB:=@List.getElem?_eq_getElem
abbrev cC:=@Option.some.injEq
abbrev cG:=@List.getElem?_append_left
abbrev cH:=@List.getElem?_cons_succ
abbrev cK:=@Nat.le_trans
abbrev cL:=@Bool.false_eq_true
abbrev cO:=@List.length_drop
abbrev c5:=@Nat.le_of_ble_eq_true
abbrev c8:=@List.eq_nil_of_length_eq_zero
abbrev c9:=@List.length_cons
abbrev de:=@Array.length_toList
abbrev dk:=@Bool.or_eq_true
abbrev du:=@List.length_append
abbrev ed:=@Nat.min_eq_left
abbrev et:=@List.map_cons
abbrev eF:=@Bool.not_eq_true'
abbrev eT:=@beq_iff_eq
abbrev eW:=@Nat.lt_of_lt_of_le
abbrev e9:=@decide_eq_false
abbrev gj:=@List.mem_append_right
abbrev gx:=@List.getElem?_cons_zero
abbrev gy:=@Nat.mul_le_mul_right
abbrev hV:=@List.take_of_length_le
abbrev hW:=@Nat.blt_eq
abbrev jm:=@Nat.le_succ
abbrev j0:=@Nat.zero_add
abbrev j2:=@Bool.true_and
abbrev j3:=@if_false
abbrev j5:=@List.getElem?_drop
abbrev j6:=@List.getElem?_eq_none
abbrev ko:=@List.getElem?_take
abbrev kR:=@Array.getD_eq_getD_getElem?
abbrev lk:=@Option.map_some
abbrev l5:=@List.append_nil
abbrev l7:=@List.drop_drop
abbrev mi:=@Bool.eq_false_iff
abbrev mj:=@List.cons_append
abbrev mV:=@Nat.lt_succ_self
abbrev mZ:=@decide_eq_true_eq
abbrev nt:=@List.mem_singleton
abbrev n3:=@List.drop_zero
abbrev n7:=@if_neg
abbrev n9:=@List.size_toArray
abbrev oi:=@if_true
abbrev pa:=@if_pos
abbrev pc:=@List.take_take
abbrev p0:=@Bool.false_and
abbrev p5:=@List.getElem?_map
abbrev p8:=@Bool.not_true
abbrev qa:=@List.length_nil
abbrev qb:=@List.take_append_of_le_length
abbrev qc:=@Prod.mk.injEq
abbrev qd:=@Nat.add_mul
abbrev qe:=@Option.some.inj
abbrev qf:=@List.mem_of_getElem?
abbrev qg:=@Option.getD_some
abbrev qh:=@Bool.or_eq_false_iff
abbrev qi:=@List.mem_cons
abbrev qj:=@List.drop_take
abbrev qk:=@Nat.zero_le
abbrev ql:=@decide_eq_true
abbrev qm:=@List.cons.injEq
abbrev qn:=@Nat.add_zero
abbrev qo:=@List.filter_cons
abbrev qp:=@List.all_eq_true
abbrev qq:=@List.all_cons
abbrev qs:=@Bool.false_or
abbrev qt:=@Bool.not_false
abbrev qu:=@List.suffix_cons
abbrev qv:=@Array.getElem?_toList
abbrev qw:=@Nat.ble_eq_true_of_le
abbrev qx:=@List.singleton_append
abbrev qy:=@Bool.and_false
abbrev qz:=@List.drop_eq_getElem_cons
abbrev qA:=@Array.getElem?_setIfInBounds_ne
abbrev qB:=@Nat.lt_or_ge
abbrev qC:=@Bool.eq_iff_iff
abbrev qD:=@List.getElem?_set_ne
abbrev qE:=@Array.size_append
abbrev qF:=@List.ext_getElem?
abbrev qG:=@of_decide_eq_true
abbrev qH:=@Nat.add_assoc
abbrev qI:=@Nat.le_add_right
abbrev qJ:=@List.drop_of_length_le
abbrev qK:=@Int.le_refl
abbrev qL:=@List.getElem?_set_self
abbrev qM:=@List.drop_eq_nil_of_le
abbrev qN:=@List.take_append_drop
abbrev qO:=@List.nil_append
abbrev qP:=@UInt8.le_iff_toNat_le
abbrev qQ:=@List.isPrefixOf_iff_prefix
abbrev qR:=@List.mem_append_left
abbrev qS:=@List.not_mem_nil
abbrev qT:=@beq_self_eq_true
abbrev qU:=@List.replicate_succ
abbrev qV:=@List.take_succ_cons
abbrev qW:=@Option.bind_eq_some_iff
abbrev qX:=@List.filter_filter
abbrev qY:=@List.getElem_take
abbrev qZ:=@List.getElem_drop
abbrev q0:=@Int.toNat_natCast
abbrev q3:=@Bool.true_or
abbrev q4:=@List.set_append_right
abbrev q5:=@Bool.or_self
abbrev q6:=@List.takeWhile_prefix
abbrev q7:=@Option.bind_some
abbrev q8:=@List.take_append
abbrev q9:=@Array.getElem?_append_left
abbrev si:=@Array.getElem?_setIfInBounds_self_of_lt
abbrev sj:=@Bool.or_false
abbrev sv:=@Array.toList_append
abbrev sw:=@List.map_congr_left
abbrev s3:=@List.takeWhile_cons
abbrev s4:=@List.mem_of_find?_eq_some
abbrev s5:=@Nat.succ_mul
abbrev s6:=@Array.empty_append
abbrev s7:=@Nat.pos_of_ne_zero
abbrev ti:=@List.take_left
abbrev tj:=@decide_eq_false_iff_not
abbrev tt:=@List.getElem?_set
abbrev tx:=@bne_self_eq_false
abbrev uK:=@Nat.mul_one
abbrev u9:=@List.drop_append
abbrev vb:=@Nat.min_eq_right
abbrev vc:=@List.getElem_mem
abbrev vy:=@Array.getElem?_modify
abbrev v7:=@List.length_set
abbrev wb:=@List.map_append
abbrev wi:=@Array.size_replicate
abbrev w4:=@List.mem_of_mem_drop
variable {K : Act -> World -> Prop} {R : Ending -> World -> Prop} {i : Nat} {o : Oper}
abbrev aD:=List UInt8
def S(l:aD):Value:= .string ⟨l.toArray⟩
noncomputable def aw{σ ρ:Type}(F:(σ->Option ρ)->σ->Option ρ)(n:Nat):σ->Option ρ:=Nat.rec (λ_=>none) (λ_ ih s=>F ih s) n
theorem bz{σ ρ:Type}{F:(σ->Option ρ)->σ->Option ρ}{n:Nat}{s:σ}:aw F (n+1) s=F (aw F n) s:=rfl
def ax:Nat:=2^64
def aM{ρ:Type}(c:Bool)(k:Option ρ):Option ρ:=bif c then k else none
def ah{α ρ:Type}(x:α)(k:α->Option ρ):Option ρ:=k x
def bl{α ρ:Type}(g:Bool)(d:α)(m:Option α)(k:α->Option ρ):Option ρ:=(bif g then m else some d).bind k
theorem gz{ρ:Type}{c:Bool}{k:Option ρ}{r:ρ}(h:aM c k=some r):c=true/\k=some r:=by
 cases c
 .cases h
 .exact ⟨rfl,h⟩
theorem C1{α ρ:Type}{m:Option α}{k:α->Option ρ}{r:ρ}(h:m.bind k=some r):∃y,m=some y/\k y=some r:=by
 cases m with
 |none=>cases h
 |some y=>exact ⟨y,rfl,h⟩
theorem XT{α ρ:Type}{g:Bool}{d:α}{m:Option α}{k:α->Option ρ}{r:ρ}(h:bl g d m k=some r):
  ∃y,(g=true->m=some y)/\(g=false->y=d)/\k y=some r:=by
 cases g
 .exact ⟨d,(λh=>by cases h),λ_=>rfl,h⟩
 .obtain ⟨y,a,hk⟩:=C1 h;exact ⟨y,λ_=>a,(λh=>by cases h),hk⟩
theorem uR{ρ:Type}{c:Bool}{x y:Option ρ}{r:ρ}(h:(bif c then x else y)=some r):
  (c=true/\x=some r)\/(c=false/\y=some r):=by
 cases c
 .exact .inr ⟨rfl,h⟩
 .exact .inl ⟨rfl,h⟩
def xh{ρ:Type}(g c:Bool)(k:Option ρ):Option ρ:=bif g then (bif c then k else none) else k
theorem amK{ρ:Type}{g c:Bool}{k:Option ρ}{r:ρ}(h:xh g c k=some r):(g=true->c=true)/\k=some r:=by
 cases g
 .exact ⟨(λh=>by cases h),h⟩
 .obtain ⟨b,a⟩:=gz (c:=c) h;exact ⟨λ_=>b,a⟩
theorem OI{σ ρ:Type}{F:(σ->Option ρ)->σ->Option ρ}{n:Nat}{s:σ}{r:ρ}(h:aw F n s=some r):
  ∃m,n=m+1/\F (aw F m) s=some r:=by
 cases n with
 |zero=>cases h
 |succ m=>exact ⟨m,rfl,h⟩
abbrev Env:=List (Nat×Bool×Value)
def look:Env->Nat->Option (Bool×Value)
 |[],_=>none
 |(r,g,v)::E,t=>bif Nat.beq r t then some (g,v) else look E t
def yN(g:Bool)(v:Value):Value:=bif g then v else undef
structure Fits(n:Nat)(E:Env)(a:Act):Prop where
 size:a.tmps.size=n
 at_:∀t g v,look E t=some (g,v)->a.tmps.getD t undef=yN g v
def au(E:Env)(g:Bool)(x:Operand)(v:Value):Prop:=
 ∀n a,Fits n E a->g=true->a.eval x=v
theorem au.t{E:Env}{g:Bool}{t:Tmp}{v:Value}(h:look E t=some (true,v)):au E g (.tmp t) v:=
 λn a b _=>by simpa [yN,Act.eval] using b.at_ t true v h
theorem au.g{E:Env}{g g':Bool}{t:Tmp}{v:Value}(h:look E t=some (g',v))(c:g=true->g'=true):au E g (.tmp t) v:=
 λn a d b=>by have:=d.at_ t g' v h;rw [c b] at this;simpa [yN,Act.eval] using this
theorem au.c{E:Env}{g:Bool}{v:Value}:au E g (.const v) v:=λ_ _ _ _=>rfl
theorem au.f{E:Env}{g:Bool}{f:FuncId}:au E g (.func f) (.func (.func f) #[] #[]):=λ_ _ _ _=>rfl
theorem au.gl{E:Env}{g:Bool}{f:Nat}:au E g (.global f) (.pointer (some ⟨f,0,none⟩)):=λ_ _ _ _=>rfl
inductive iM(E:Env)(g:Bool):x4->yp->Prop
 |nil:iM E g [] []
 |cons {x v xs vs}:au E g x v->iM E g xs vs->iM E g (x::xs) (v::vs)
theorem iM.map{E:Env}{g:Bool}{xs:x4}{vs:yp}(h:iM E g xs vs){n:Nat}{a:Act}(c:Fits n E a)(b:g=true):
  xs.map a.eval=vs:=by
 induction h with
 |nil=>rfl
 |cons hx _ ih=>simp [hx n a c b,ih]
def put(dst:zb)(g:Bool)(v:Value)(E:Env):Env:=
 match dst with
 |some d=>(d,g,v)::E
 |none=>E
theorem Nl(xs:x8)(i j:Nat)(v:Value):
  (xs.setIfInBounds i v).getD j undef=if i=j/\i<xs.size then v else xs.getD j undef:=by
 simp only [kR,Array.getElem?_setIfInBounds];by_cases h:i=j
 .subst h;by_cases a:i<xs.size
  .simp [a]
  .simp [a]
 .simp [h]
theorem Fits.put{n:Nat}{E:Env}{a:Act}(h:Fits n E a){d:Tmp}{g:Bool}{v:Value}(hd:Nat.blt d n=true):
  Fits n ((d,g,v)::E) (a.put (some d) (yN g v)):=by
 have e:d<n:=by simpa using hd
 refine ⟨by simp [Act.put,h.size],λt g' f c=>?_⟩;simp only [Act.put,Nl,h.size,e,and_true];simp only [look] at c;by_cases b:d=t
 .subst b;simp only [Nat.beq_refl,cw,cC,qc] at c;obtain ⟨rfl,rfl⟩:=c;simp
 .have:Nat.beq d t=false:=by cases hb:Nat.beq d t with
   |true=>exact absurd (aS hb) b
   |false=>rfl
  rw [this,bd] at c;rw [n7 b];exact h.at_ t g' f c
abbrev bD:=Exit->Act->World->Prop
def FW(ρ:za):Fence:={ fn:=λ_=>True,depth:=none,alive:=false,round:=ρ }
theorem Kq{ρ:za}{p:Prop}:(FW ρ).depth.isSome=true->p:=λh=>by cases h
theorem wY{ρ:za}{P:Program}{m:Machine}:m.fenced P (FW ρ):=fenced_wide P m
theorem Ye{ρ:za}{n:Nat}{P:Program}{f:FuncId}{args:x8}{w:World}(h:Calls P f args w R):CallsIn (FW ρ) n P f args w R:=
 callsIn_wide.2 h
theorem aht{ρ:za}{n:Nat}{P:Program}{f:FuncId}{args:x8}{w:World}(h:CallsIn (FW ρ) n P f args w R):Calls P f args w R:=
 callsIn_wide.1 h
def At(Q:bD)(e:Exit)(n:Nat)(D:x3)(E:Env)(w:World):Prop:=
 ∀a,Fits n E a->a.defers=D->Q e a w
def WC(P:Program)(ρ:za)(c:Code)(Q:bD)(n:Nat)(D:x3)(E:Env)(w:World):Prop:=
 ∀a,Fits n E a->a.defers=D->c.wpIn (FW ρ) 0 P Q a w
def WL(P:Program)(ρ:za)(ops:zc)(Q:bD)(n:Nat)(D:x3)(l:zf)(E:Env)(w:World):Prop:=
 ∀a,Fits n E a->a.defers=D->wpListIn (FW ρ) 0 P ops Q l a w
section
variable {P : Program} {ρ : za} {Q : bD} {n : Nat} {D : x3} {E : Env} {w : World}
theorem bF{x y:Code}(h:WC P ρ x (Exit.then (y.wpIn (FW ρ) 0 P Q) Q) n D E w):WC P ρ (.seq x y) Q n D E w:=
 λa b hd=>wpIn_seq (h a b hd)
theorem bn{y:Code}(h:WC P ρ y Q n D E w):At (Exit.then (y.wpIn (FW ρ) 0 P Q) Q) .normal n D E w:=h
theorem uc(h:At Q .ret n D E w):At (Exit.then K Q) .ret n D E w:=h
theorem Mh{i:xc}(h:At Q (.panic i) n D E w):At (Exit.then K Q) (.panic i) n D E w:=h
theorem acU(h:At Q .normal n D E w):At (Exit.inBlock i Q) .normal n D E w:=h
theorem ajF(h:At Q .ret n D E w):At (Exit.inBlock i Q) .ret n D E w:=h
theorem ahY{j:Nat}(h:At Q (.goto j) n D E w):At (Exit.inBlock i Q) (.goto j) n D E w:=h
theorem Ob{j:xc}(h:At Q (.panic j) n D E w):At (Exit.inBlock i Q) (.panic j) n D E w:=h
theorem ah0(h:At Q .normal n D E w):At (Exit.inBlock i Q) (.exit i) n D E w:=
 λa b hd=>by simp only [Exit.inBlock,oi];exact h a b hd
theorem afh{j:Nat}(b:Nat.beq j i=false)(h:At Q (.exit j) n D E w):At (Exit.inBlock i Q) (.exit j) n D E w:=
 λa c hd=>by
  have:¬j=i:=λe=>by subst e;simp at b
  simp only [Exit.inBlock,n7 this];exact h a c hd
theorem sQ(h:At Q .normal n D E w):WC P ρ .skip Q n D E w:=λa b hd=>wpIn_skip (h a b hd)
theorem aeh{l:Nat}(h:At Q .normal n D E w):WC P ρ (.label l) Q n D E w:=λa b hd=>wpIn_label (h a b hd)
theorem aaL(h:At Q (.exit i) n D E w):WC P ρ (.exit i) Q n D E w:=λa b hd=>wpIn_exit (h a b hd)
theorem aid(h:At Q (.goto i) n D E w):WC P ρ (.goto i) Q n D E w:=λa b hd=>wpIn_goto (h a b hd)
theorem A3(h:At Q .ret n D E w):WC P ρ .ret Q n D E w:=λa b hd=>wpIn_ret (h a b hd)
theorem UT{c:Code}(h:WC P ρ c (Exit.inBlock i Q) n D E w):WC P ρ (.block i c) Q n D E w:=λa b hd=>wpIn_block (h a b hd)
theorem bA{id:Nat}{l:zf}(h:WL P ρ l.toArray Q n D l E w):WC P ρ (.region id l.toArray false) Q n D E w:=
 λa b hd=>wpIn_region_lit (h a b hd)
theorem jS{c:Operand}{x y:Code}{b:Bool}(g:au E true c (.bool b))
  (e:b=true->WC P ρ x Q n D E w) (f:b=false->WC P ρ y Q n D E w):WC P ρ (.cond c x y) Q n D E w:=
 λa d hd=>wpIn_cond_split (g n a d rfl) (λh=>e h a d hd) (λh=>f h a d hd)
def V5{γ:Type}(J:γ->World->Prop)(Es:γ->Env)(n:Nat)(D:x3)(a:Act)(w:World):Prop:=
 ∃g,J g w/\Fits n (Es g) a/\a.defers=D
theorem akP{γ:Type}(J:γ->World->Prop)(b:γ->Env){x y:Code}
  (c:∀g w',J g w'->WC P ρ y Q n D (b g) w') (hx:WC P ρ x (Exit.then (V5 J b n D) Q) n D E w):WC P ρ (.seq x y) Q n D E w:=
 λa d hd=>wpIn_seq (wpIn_mono (hx a d hd) (λe k w' h=>by cases e <;> first|exact h|(obtain ⟨g,f,i,j⟩:=h;exact c g w' f k i j)))
theorem JV{c:Code}(I:Nat->Act->World->Prop){a:Act}{w:World}(N:Nat)(q:I N a w)
  (round:∀m a w,I m a w->c.wpIn (FW ρ) 0 P (Exit.then (λo w'=>∃t<m,I t o w') Q) a w):(Code.loop c).wpIn (FW ρ) 0 P Q a w:=by
 intro b k cs u hb y;have key:∀m a w,I m a w->
   ∃e o w',Q e o w'/\ArrivesIn (Machine.fenced P (FW ρ)) P (lone (b.atR a (.code c:: .inLoop c::k)) cs w) b k cs e o w':=by
  intro m
  induction m using Nat.strongRecOn with
  |_ m ih=>
   intro a w z;obtain ⟨e,g,f,i,d⟩:=round m a w z b (.inLoop c::k) cs u hb y;cases e with
   |normal=>
    obtain ⟨t,v,n⟩:=i;obtain ⟨r,s,p,j,h⟩:=ih t v g f n;exact ⟨r,s,p,j,.of_steps (StepsIn.trans d (.one wY stepR_inLoop)) h⟩
   |exit id=>exact ⟨_,g,f,i,.pass (x:= .inLoop c) rfl (λ_ _=> .inl (by simp)) d⟩
   |goto l=>exact ⟨_,g,f,i,.pass (x:= .inLoop c) rfl (λ_ _=> .inl (by simp)) d⟩
   |ret=>exact ⟨_,g,f,i,.pass (x:= .inLoop c) rfl (λ_ _=> .inl (by simp)) d⟩
   |panic A=>exact ⟨_,g,f,i,.pass (x:= .inLoop c) rfl (λ_ _=> .inl (by simp)) d⟩
   |outgrown=>exact ⟨_,g,f,i,.pass (x:= .inLoop c) rfl (λ_ _=> .inl (by simp)) d⟩
 obtain ⟨e,o,w',i,d⟩:=key N a w q;exact ⟨e,o,w',i,.of_steps (.one wY stepR_loop) d⟩
def P3{σ γ τ:Type}(again:σ->Option τ)(r:τ)(J:σ->γ->World->Prop)(Es:σ->γ->Env)(n:Nat)(D:x3)(a:Act)(w:World):Prop:=
 ∃s g,again s=some r/\J s g w/\Fits n (Es s g) a/\a.defers=D
theorem nJ{b:Frame}{a:Act}{k:List Item}{cs:List Frame}{c:Code}:step P (lone (b.atR a (.code (.scope c)::k)) cs w)= .next (lone (b.atR a (.code c:: .inScope c::k)) cs w):=
 step_lone_go (by simp [stepG,stepG.exec,Frame.atR])
theorem Z4{b:Frame}{a:Act}{k:List Item}{cs:List Frame}{c:Code}:step P (lone (b.atR a (.inScope c::k)) cs w)= .next (lone (b.atR a k) cs w):=
 step_lone_go (by simp [stepG,stepG.exec,Frame.atR])
theorem WN{c rest:Code}(l:Nat)(J:Nat->Act->World->Prop){a:Act}{w:World}(F:findLabel c l=some rest)
  (first:c.wpIn (FW ρ) 0 P (Exit.jump l (λa w=>∃m,J m a w) Q) a w)
  (t:∀m a w,J m a w->rest.wpIn (FW ρ) 0 P (Exit.jump l (λv w'=>∃x<m,J x v w') Q) a w):(Code.scope c).wpIn (FW ρ) 0 P Q a w:=by
 intro b k cs u hb B;have C:gotoIn l (.inScope c::k)=some (.code rest:: .inScope c::k):=by simp [gotoIn,F]
 have hx:∀id,exitTo id (.inScope c::k)=exitTo id k:=λid=>by simp [exitTo]
 have out:∀{p:Machine} {e:Exit} {f:Act} {d:World},(∀l',e≠ .goto l')->ArrivesIn (Machine.fenced P (FW ρ)) P p b (.inScope c::k) cs e f d->ArrivesIn (Machine.fenced P (FW ρ)) P p b k cs e f d:=by
  intro p e f d z h;cases e with
  |normal=>exact StepsIn.trans h (.one wY Z4)
  |exit id=>exact ⟨λE hk=>h.1 E (by rw [hx];exact hk),λy hk=>h.2 y (by rw [hx];exact hk)⟩
  |goto l'=>exact absurd rfl (z l')
  |ret=>exact h
  |panic D=>exact h
  |outgrown=>exact h
 have key:∀m a w,J m a w->∃e v w',Q e v w'/\ArrivesIn (Machine.fenced P (FW ρ)) P (lone (b.atR a (.code rest:: .inScope c::k)) cs w) b k cs e v w':=by
  intro m
  induction m using Nat.strongRecOn with
  |_ m ih=>
   intro a w G;obtain ⟨e,f,d,n,g⟩:=t m a w G b (.inScope c::k) cs u hb B;cases e with
   |normal=>exact ⟨.normal,f,d,n,out (by simp) g⟩
   |exit id=>exact ⟨.exit id,f,d,n,out (by simp) g⟩
   |goto l'=>
    obtain ⟨rfl,x,A,s⟩:=n;obtain ⟨q,r,o,j,i⟩:=ih x A f d s;exact ⟨q,r,o,j,.of_steps (g.1 _ C) i⟩
   |ret=>exact ⟨_,f,d,n,out (by simp) g⟩
   |panic D=>exact ⟨_,f,d,n,out (by simp) g⟩
   |outgrown=>exact ⟨_,f,d,n,out (by simp) g⟩
 obtain ⟨e,f,d,n,g⟩:=first b (.inScope c::k) cs u hb B;cases e with
 |normal=>exact ⟨.normal,f,d,n,.of_steps (.one wY nJ) (out (e:= .normal) (by simp) g)⟩
 |exit id=>exact ⟨.exit id,f,d,n,.of_steps (.one wY nJ) (out (by simp) g)⟩
 |goto l'=>
  obtain ⟨rfl,m,s⟩:=n;obtain ⟨q,r,o,j,i⟩:=key m f d s;exact ⟨q,r,o,j,.of_steps (.head wY nJ (g.1 _ C)) i⟩
 |ret=>exact ⟨_,f,d,n,.of_steps (.one wY nJ) (out (by simp) g)⟩
 |panic D=>exact ⟨_,f,d,n,.of_steps (.one wY nJ) (out (by simp) g)⟩
 |outgrown=>exact ⟨_,f,d,n,.of_steps (.one wY nJ) (out (by simp) g)⟩
end
def RE(S:Value->World->Prop)(Sp:xc->World->Prop):Ending->World->Prop
 | .returned v,w=>S v w
 | .panicked c,w=>Sp c w
 | .outgrown,_=>False
def mw(P:Program)(f:FuncId)(args:yp)(w:World)(S:Value->World->Prop)(Sp:xc->World->Prop):Prop:=
 Calls P f args.toArray w (RE S Sp)
abbrev gE(P:Program)(f:FuncId)(args:yp)(w:World)(S:Value->World->Prop):Prop:=mw P f args w S (λ_ _=>False)
theorem mw.mono{P:Program}{f:FuncId}{args:yp}{w:World}{S d:Value->World->Prop}{Sp a:xc->World->Prop}(h:mw P f args w S Sp)
  (g:∀v w',S v w'->d v w') (hp:∀v w',Sp v w'->a v w'):mw P f args w d a:=
 Calls.mono h λe w' b=>by
  cases e with
  |returned v=>exact g _ _ b
  |panicked c=>exact hp _ _ b
  |outgrown=>exact b
theorem gE.mono{P:Program}{f:FuncId}{args:yp}{w:World}{S a:Value->World->Prop}(h:gE P f args w S)
  (b:∀v w',S v w'->a v w'):gE P f args w a:=mw.mono h b (λ_ _ h=>h)
def iota:Nat->yp->Env
 |_,[]=>[]
 |k,v::vs=>(k,true,v)::iota (k+1) vs
theorem GH:∀(vs:yp) (k t:Nat) (g:Bool) (v:Value),look (iota k vs) t=some (g,v)->∃j,t=k+j/\vs[j]? =some v/\g=true
 |[],_,_,_,_,h=>by cases h
 |u::vs,k,t,g,v,h=>by
  simp only [iota,look] at h;cases hb:Nat.beq k t with
  |true=>
   rw [hb,cw] at h;have:=aS hb;subst this;cases h;exact ⟨0,rfl,rfl,rfl⟩
  |false=>
   rw [hb,bd] at h;obtain ⟨j,c,a,b⟩:=GH vs (k+1) t g v h;exact ⟨j+1,by omega,by simpa using a,b⟩
abbrev BP(P:Program)(fn:Func)(S:Value->World->Prop)(Sp:xc->World->Prop):bD:=bodyPostM (FW none) 0 P fn (RE S Sp)
theorem ln{P:Program}{f:FuncId}{fn:Func}{c:Code}{vs:yp}{w:World}{n:Nat}{S:Value->World->Prop}{Sp:xc->World->Prop}
  (e:P.funcs[f]? =some fn) (hb:fn.body=some c) (hn:fn.ntmps=n) (hl:Nat.ble vs.length n=true)
  (h:WC P none c (BP P fn S Sp) n [] (iota 0 vs) w):mw P f vs w S Sp:=by
 refine aht (ρ:=none) (callsIn_of_wp_marks e hb trivial (h _ ⟨?_,λt g v b=>?_⟩ rfl))
 .have:vs.length<=n:=by simpa using hl
  simp [hn];omega
 .obtain ⟨j,rfl,a,rfl⟩:=GH vs 0 t g v b;have d:j<vs.length:=by
   rcases qB j vs.length with h|h
   .exact h
   .rw [j6 h] at a;cases a
  simp only [yN,cw,j0,kR];rw [q9 (by simpa using d)];simp [a]
def bq(P:Program)(E:Env)(g:Bool)(o:Oper)(w:World)(v:Value):Prop:=
 ∀n a,Fits n E a->g=true->(execOp a.eval o).run P w= .ok (.value v) w
theorem bq.eqB{P:Program}{E:Env}{g:Bool}{w:World}{x y:Bool}(h:bq P E g o w (.bool x))(e:x=y):bq P E g o w (.bool y):=e▸h
theorem bq.eqI{P:Program}{E:Env}{g:Bool}{w:World}{k:IntKind}{x y:Int}(h:bq P E g o w (.int k x))(e:x=y):bq P E g o w (.int k y):=e▸h
section
variable {P : Program} {ρ : za} {Q : bD} {n : Nat} {D : x3} {E : Env} {w : World} {ops : zc} {rest : zf}
theorem ct(h:At Q .normal n D E w):WL P ρ ops Q n D [] E w:=λa b hd=>wpListIn_nil (h a b hd)
def jC(o:Oper):Bool:=match o.op with
 | .defer _=>false
 |_=>true
theorem K7(h:jC o=true)(ev:Operand->Value):o.semAt ρ ev=execOp ev o:=by
 cases ρ with
 |none=>rfl
 |some l=>exact Oper.semAt_some l ev o (λc e=>by simp [jC,e] at h)
theorem lW(hp:jC o=true){a:Act}{b:Act->World->Prop}(h:o.uponIn (FW ρ) 0 P a b Q ((execOp a.eval o).run P w)):o.wpIn (FW ρ) 0 P a w b Q:=
 ⟨λ_ _=>trivial,by rw [show (FW ρ).round=ρ from rfl,K7 hp];exact h⟩
theorem aP{o:Oper}{d:Tmp}{v:Value}(c:bq P E true o w v)(hp:jC o=true)(e:o.guard=none)(hd:o.dst=some d)(hn:Nat.blt d n=true)
  (h:WL P ρ ops Q n D rest ((d,true,v)::E) w):WL P ρ ops Q n D (o::rest) E w:=λa b g=>
 wpListIn_plain e λK f=>lW hp (by rw [c n a b rfl,Oper.uponIn_value,hd];exact f _ _ (h _ (b.put hn) g))
theorem Ge{j:Nat}{b:Bool}{rj:Tmp}{d e:Bool}{a:Act}(h:o.guard=some (j,b))(g:(ops[j]?).bind (·.dst)=some rj)
  (hl:look E rj=some (d,.bool e)) (f:Fits n E a) (hn:Nat.blt rj n=true):Region.wanted o (yielded ops a.tmps)=(d&&(e==b)):=by
 have c:rj<a.tmps.size:=by rw [f.size];simpa using hn
 have k:=f.at_ rj d _ hl;have i:a.tmps[rj]? =some (yN d (.bool e)):=by rw [Array.getElem?_eq_getElem c,<-k];simp [Array.getD,c]
 simp only [Region.wanted,h,yielded,g,q7,i];cases d
 .simp [yN,undef]
 .cases e <;> cases b <;> rfl
end
variable {fo : Operand} {k : IntKind} {m : Int} {t' : TypeId} {tys : Array TypeId} {v : Value} {vs : yp} {x y : Operand}
section
variable {P : Program} {E : Env} {g : Bool} {w : World} {dst : zb} {ty : TypeId} {pos : String} {af : zd} {gd : xa}
theorem aQ(hx:au E g x v):bq P E g ⟨dst,.move x,ty,pos,af,gd⟩ w v:=
 λn a c b=>by simp only [execOp,hx n a c b];rfl
theorem dG(hx:au E g x v):bq P E g ⟨dst,.assign x,ty,pos,af,gd⟩ w v:=
 λn a c b=>by simp only [execOp,hx n a c b];rfl
theorem arR{c:Operand}{b y:Bool}(f:au E g c (.bool b))(hx:au E (g&&b) x (.bool y)):
  bq P E g ⟨dst,.pick c x (.const (.bool false)),ty,pos,af,gd⟩ w (.bool (b&&y)):=
 λn a d e=>by
  subst e;simp only [execOp,f n a d rfl];cases b
  .rfl
  .simp only [hx n a d rfl];rfl
theorem atW{c:Operand}{b y:Bool}(f:au E g c (.bool b))(hx:au E (g&& !b) x (.bool y)):
  bq P E g ⟨dst,.pick c (.const (.bool true)) x,ty,pos,af,gd⟩ w (.bool (b||y)):=
 λn a d e=>by
  subst e;simp only [execOp,f n a d rfl];cases b
  .simp only [hx n a d rfl];rfl
  .rfl
theorem adT{b:Bool}{t:TypeId}(hx:au E g x (.bool b)):bq P E g ⟨dst,.unOp .not t x,ty,pos,af,gd⟩ w (.bool (!b)):=
 λn a d c=>by simp only [execOp,hx n a d c];rfl
theorem asI{t:TypeId}(hx:au E g x (.int k m)):bq P E g ⟨dst,.unOp .neg t x,ty,pos,af,gd⟩ w (.int k (k.wrap (0-m))):=
 λn a c b=>by simp only [execOp,hx n a c b];rfl
theorem cP{op:BinOp}{u z:Value}{t:TypeId}(hx:au E g x u)(d:au E g y v)
  (h:(do eqGuard op t x y u v;binOp op t u v:Sem Value).run P w= .ok z w):bq P E g ⟨dst,.binOp op t x y t',ty,pos,af,gd⟩ w z:=
 λn a c b=>by simp only [execOp,hx n a c b,d n a c b,Sem.run_bind] at h ⊢;simp only [h,Result.andThen_ok];rfl
def al7:Value->Bool
 | .nilIface=>false
 | .agg _=>false
 |_=>true
theorem er{op:BinOp}{t:TypeId}{u:Value}(a:al7 u=true):(eqGuard op t x y u v).run P w= .ok () w:=by unfold eqGuard;cases op <;> simp <;> (split <;> simp_all [al7])
theorem vC{l:Int}{t:TypeId}(hx:au E g x (.int k m))(a:au E g y (.int k l)):
  bq P E g ⟨dst,.binOp .add t x y t',ty,pos,af,gd⟩ w (.int k (k.wrap (m+l))):=cP hx a (by simp [eqGuard,binOp,Op.intArith])
theorem aiF{l:Int}{t:TypeId}(hx:au E g x (.int k m))(a:au E g y (.int k l)):
  bq P E g ⟨dst,.binOp .sub t x y t',ty,pos,af,gd⟩ w (.int k (k.wrap (m-l))):=cP hx a (by simp [eqGuard,binOp,Op.intArith])
theorem ar6{l:Int}{t:TypeId}(hx:au E g x (.int k m))(a:au E g y (.int k l)):
  bq P E g ⟨dst,.binOp .mul t x y t',ty,pos,af,gd⟩ w (.int k (k.wrap (m*l))):=cP hx a (by simp [eqGuard,binOp,Op.intArith])
theorem asQ{l:Int}{t:TypeId}(hx:au E g x (.int k m))(a:au E g y (.int k l))(b:(l==0)=false):
  bq P E g ⟨dst,.binOp .quo t x y t',ty,pos,af,gd⟩ w (.int k (k.wrap (m.tdiv l))):=cP hx a (by
   have:¬l=0:=by simpa using b
   simp [eqGuard,binOp,Op.intDiv,this])
theorem asD{l:Int}{t:TypeId}(hx:au E g x (.int k m))(a:au E g y (.int k l))(b:(l==0)=false):
  bq P E g ⟨dst,.binOp .rem t x y t',ty,pos,af,gd⟩ w (.int k (m.tmod l)):=cP hx a (by
   have:¬l=0:=by simpa using b
   simp [eqGuard,binOp,Op.intDiv,this])
theorem vT{l:Int}{t:TypeId}(hx:au E g x (.int k m))(a:au E g y (.int k l)):
  bq P E g ⟨dst,.binOp .eql t x y t',ty,pos,af,gd⟩ w (.bool (m==l)):=cP hx a (by simp [eqGuard,binOp,Op.intCmp])
theorem asP{l:Int}{t:TypeId}(hx:au E g x (.int k m))(a:au E g y (.int k l)):
  bq P E g ⟨dst,.binOp .neq t x y t',ty,pos,af,gd⟩ w (.bool (m != l)):=cP hx a (by simp [eqGuard,binOp,Op.intCmp])
theorem aiU{l:Int}{t:TypeId}(hx:au E g x (.int k m))(a:au E g y (.int k l)):
  bq P E g ⟨dst,.binOp .lss t x y t',ty,pos,af,gd⟩ w (.bool (decide (m<l))):=cP hx a (by simp [eqGuard,binOp,Op.intCmp])
theorem aru{l:Int}{t:TypeId}(hx:au E g x (.int k m))(a:au E g y (.int k l)):
  bq P E g ⟨dst,.binOp .leq t x y t',ty,pos,af,gd⟩ w (.bool (decide (m<=l))):=cP hx a (by simp [eqGuard,binOp,Op.intCmp])
theorem Zr{l:Int}{t:TypeId}(hx:au E g x (.int k m))(a:au E g y (.int k l)):
  bq P E g ⟨dst,.binOp .gtr t x y t',ty,pos,af,gd⟩ w (.bool (decide (l<m))):=cP hx a (by simp [eqGuard,binOp,Op.intCmp])
theorem ar0{l:Int}{t:TypeId}(hx:au E g x (.int k m))(a:au E g y (.int k l)):
  bq P E g ⟨dst,.binOp .geq t x y t',ty,pos,af,gd⟩ w (.bool (decide (l<=m))):=cP hx a (by simp [eqGuard,binOp,Op.intCmp])
theorem GX{op:BinOp}(a:op= .and\/op= .or\/op= .xor\/op= .andNot){x y:Operand}{k:IntKind}{m l:Int}{t t':TypeId}(hx:au E g x (.int k m))(c:au E g y (.int k l))
  {z:Int} (b:∀w:World,(Op.intBits op k m l).run P w= .ok (.int k z) w):
  bq P E g ⟨dst,.binOp op t x y t',ty,pos,af,gd⟩ w (.int k z):=cP hx c (by rcases a with h|h|h|h <;> subst h <;> simp [eqGuard,binOp,b])
theorem L4(l:aD):(⟨l.toArray⟩:ByteArray).toList=l:=by rw [ByteArray.toList_eq]
theorem my(l:aD):(⟨l.toArray⟩:ByteArray).size=l.length:=by simp [ByteArray.size]
theorem asa{m l:aD}{t:TypeId}(hx:au E g x (S m))(a:au E g y (S l)):
  bq P E g ⟨dst,.binOp .eql t x y t',ty,pos,af,gd⟩ w (.bool (m==l)):=cP hx a (by simp [eqGuard,S,binOp,Op.stringOp])
theorem arD{m l:aD}{t:TypeId}(hx:au E g x (S m))(a:au E g y (S l)):
  bq P E g ⟨dst,.binOp .neq t x y t',ty,pos,af,gd⟩ w (.bool (m != l)):=cP hx a (by simp [eqGuard,S,binOp,Op.stringOp,bne])
def atZ(m l:aD):Bool:=Nat.ble (m.length+l.length) 9223372036854775807
theorem aoo(m l:aD):((⟨m.toArray⟩:ByteArray)++(⟨l.toArray⟩:ByteArray))=⟨(m++l).toArray⟩:=by apply ByteArray.ext;simp [ByteArray.data_append]
theorem asK{m l:aD}{t:TypeId}(hx:au E g x (S m))(c:au E g y (S l))(e:g=true->atZ m l=true):
  bq P E g ⟨dst,.binOp .add t x y t',ty,pos,af,gd⟩ w (S (m++l)):=λn a d b=>
 cP (P:=P) (z:=S (m++l)) hx c (by
  have h:m.length+l.length<=9223372036854775807:=c5 (e b);have f:¬((((⟨m.toArray⟩:ByteArray).size+(⟨l.toArray⟩:ByteArray).size:Nat):Int)>i64.max):=by rw [my,my];show ¬(9223372036854775807:Int)<_;omega
  simp only [eqGuard,S,binOp,Op.stringOp,Sem.run_bind,n7 f,aoo];simp) n a d b
theorem asm{m l:Bool}{t:TypeId}(b:P.underlying t=some .bool)(hx:au E g x (.bool m))(a:au E g y (.bool l)):
  bq P E g ⟨dst,.binOp .eql t x y t',ty,pos,af,gd⟩ w (.bool (m==l)):=cP hx a (by rw [Sem.run_bind,er rfl,Result.andThen_ok,run_eql_bool w t m l b])
theorem asb{m l:Bool}{t:TypeId}(b:P.underlying t=some .bool)(hx:au E g x (.bool m))(a:au E g y (.bool l)):
  bq P E g ⟨dst,.binOp .neq t x y t',ty,pos,af,gd⟩ w (.bool (m != l)):=cP hx a (by rw [Sem.run_bind,er rfl,Result.andThen_ok,run_neq_bool w t m l b];rfl)
theorem adR{b:IntKind}{s d:TypeId}{ds:TypeDesc}(e:P.underlying s=some ds)(c:P.underlying d=some (.int k))(hx:au E g x (.int b m)):
  bq P E g ⟨dst,.convert s d x,ty,pos,af,gd⟩ w (.int k (k.wrap m)):=
 λn a h f=>by simp [execOp,hx n a h f,convert,run_underlying e,run_underlying c,Conv.intToInt]
theorem ahS(hx:au E g x (.tuple vs.toArray))(hi:vs[i]? =some v):
  bq P E g ⟨dst,.extract x i,ty,pos,af,gd⟩ w v:=
 λn a c b=>by simp [execOp,hx n a c b,Instr.extract,hi]
theorem aoQ{l:aD}{t:TypeId}(b:P.underlying t=some .string)(hx:au E g x (S l)):
  bq P E g ⟨dst,.call ⟨.builtin .len,#[x],#[t]⟩,ty,pos,af,gd⟩ w (.int .i64 l.length):=
 λn a d c=>by simp [execOp,resolve,invoke,builtin,hx n a d c,Builtin.len_,run_underlying b,S,goInt,my]
def uy(i:Int)(n:Nat):Bool:=decide (0<=i)&&decide (i<n)
theorem Ac{i:Int}{n:Nat}:uy i n=true↔0<=i/\i<n:=by simp [uy]
def fB(l:aD)(i:Int):Int:=(l.getD i.toNat 0).toNat
theorem ake(l:aD)(i:Nat):(⟨l.toArray⟩:ByteArray)[i]? =l[i]? :=by
 by_cases h:i<l.length
 .have a:i<(⟨l.toArray⟩:ByteArray).size:=by rw [my];exact h
  rw [getElem?_pos (⟨l.toArray⟩:ByteArray) i a,cB h];rfl
 .have a:¬i<(⟨l.toArray⟩:ByteArray).size:=by rw [my];exact h
  rw [getElem?_neg (⟨l.toArray⟩:ByteArray) i a,j6 (by omega)]
theorem apz{l:aD}{i:Int}{t:TypeId}(f:P.underlying t=some .string)(hx:au E g x (S l))(e:au E g y (.int k i))(hi:g=true->uy i l.length=true):
  bq P E g ⟨dst,.index t x y,ty,pos,af,gd⟩ w (.int .u8 (fB l i)):=
 λn a c b=>by
  obtain ⟨j,m⟩:=Ac.1 (hi b);have d:i.toNat<l.length:=by omega
  have h:(⟨l.toArray⟩:ByteArray)[i.toNat]? =some l[i.toNat]:=by rw [ake,cB d]
  simp only [execOp,hx n a c b,e n a c b,Instr.index,asIntOf,S,Sem.run_bind,Sem.run_pure,Result.andThen_ok,run_underlying f];rw [pa j,h];simp [fB,d]
def dV(i j:Int)(n:Nat):Bool:=decide (0<=i)&&decide (i<=j)&&decide (j<=n)
theorem DU{i j:Int}{n:Nat}:dV i j n=true↔(0<=i/\i<=j)/\j<=n:=by simp [dV]
def cut(l:aD)(i j:Int):aD:=(l.drop i.toNat).take (j.toNat-i.toNat)
theorem Oh(l:aD)(i j:Nat):(⟨l.toArray⟩:ByteArray).extract i j=⟨((l.drop i).take (j-i)).toArray⟩:=by apply ByteArray.ext;simp [ByteArray.data_extract]
theorem apH{l:aD}{i j:Int}{lo hi:Option Operand}{t:TypeId}(f:P.underlying t=some .string)(hx:au E g x (S l))
  (e:match lo with|none=>i=0|some y=>∃k,au E g y (.int k i)) (b:match hi with|none=>j=l.length|some y=>∃k,au E g y (.int k j))
  (s:g=true->dV i j l.length=true):
  bq P E g ⟨dst,.slice t x lo hi none,ty,pos,af,gd⟩ w (S (cut l i j)):=
 λn a d c=>by
  obtain ⟨⟨r,q⟩,p⟩:=DU.1 (s c);have o:0<=j:=by omega
  have u:(((j.toNat:Nat):Int))=j:=by omega
  cases lo with
  |none=>
   subst e;cases hi with
   |none=>
    subst b;simp [execOp,hx n a d c,Instr.sliceAt,Instr.slice,Instr.sliceBounds,run_underlying f,S,cut]
   |some y=>
    obtain ⟨k,h⟩:=b;simp [execOp,hx n a d c,h n a d c,Instr.sliceAt,Instr.slice,Instr.sliceBounds,Instr.sliceBound,asIntOf,run_underlying f,S,Oh,cut,my,p,o]
  |some z=>
   obtain ⟨k,m⟩:=e;cases hi with
   |none=>
    subst b;simp [execOp,hx n a d c,m n a d c,Instr.sliceAt,Instr.slice,Instr.sliceBounds,Instr.sliceBound,asIntOf,run_underlying f,S,Oh,cut,my,r,q]
   |some y=>
    obtain ⟨v,h⟩:=b;have A:i<=((j.toNat:Nat):Int):=by omega
    simp [execOp,hx n a d c,m n a d c,h n a d c,Instr.sliceAt,Instr.slice,Instr.sliceBounds,Instr.sliceBound,asIntOf,run_underlying f,S,Oh,cut,my,r,q,p,o,u]
theorem O0{fn:Fn}{first cap:x4}{us:yp}(e:iM E g first vs)(d:iM E g cap us):
  bq P E g ⟨dst,.makeFunc fn first.toArray cap.toArray,ty,pos,af,gd⟩ w (.func fn vs.toArray us.toArray):=
 λn a c b=>by simp [execOp,Instr.makeFunc,e.map c b,d.map c b]
theorem aoV{l:Int}{t:TypeId}(hx:au E g x (.int k m))(e:au E g y (.int k l))
  (d:∀w:World,(Builtin.max_ #[t,t'] ty #[.int k m,.int k l]).run P w= .ok (.int k (max m l)) w):
  bq P E g ⟨dst,.call ⟨.builtin .max,#[x,y],#[t,t']⟩,ty,pos,af,gd⟩ w (.int k (max m l)):=
 λn a c b=>by simp [execOp,resolve,invoke,builtin,hx n a c b,e n a c b,d]
theorem aoL{l:Int}{t:TypeId}(hx:au E g x (.int k m))(e:au E g y (.int k l))
  (d:∀w:World,(Builtin.min_ #[t,t'] ty #[.int k m,.int k l]).run P w= .ok (.int k (min m l)) w):
  bq P E g ⟨dst,.call ⟨.builtin .min,#[x,y],#[t,t']⟩,ty,pos,af,gd⟩ w (.int k (min m l)):=
 λn a c b=>by simp [execOp,resolve,invoke,builtin,hx n a c b,e n a c b,d]
end
structure Ext(w w':World):Prop where
 os:w'.os=w.os
 tape:w'.tape=w.tape
 output:w'.output=w.output
 size:w.heap.size<=w'.heap.size
 block:∀k,k<w.heap.size->w'.heap[k]? =w.heap[k]?
theorem Ext.refl(w:World):Ext w w:=⟨rfl,rfl,rfl,ch _,λ_ _=>rfl⟩
theorem Ext.trans{a b c:World}(h:Ext a b)(k:Ext b c):Ext a c:=
 ⟨k.os.trans h.os,k.tape.trans h.tape,k.output.trans h.output,cK h.size k.size,λi hi=>(k.block i (eW hi h.size)).trans (h.block i hi)⟩
def Enters(P:Program)(f:FuncId):Prop:= ∀(args:x8) (w:World),(callFunc f args).run P w= .ok (.enter f args) w
section
variable {P : Program} {ρ : za} {Q : bD} {n : Nat} {D : x3} {E : Env} {w : World} {ops : zc} {rest : zf}
theorem Gg{g:Bool}{f:FuncId}{first cap:yp}{xs:x4}{dst:zb}{ty:TypeId}{pos:String}{af:zd}{gd:Option (Nat×Bool)}
  (h:Enters P f) (c:au E g fo (.func (.func f) first.toArray cap.toArray)) (b:iM E g xs vs) {a:Act} (e:Fits n E a) (d:g=true):
  (execOp a.eval ⟨dst,.call ⟨.value fo,xs.toArray,tys⟩,ty,pos,af,gd⟩).run P w= .ok (.enter f (first++vs++cap).toArray) w:=by
 have i:(Array.map a.eval xs.toArray)=vs.toArray:=by simp [b.map e d]
 have:=h (first++vs++cap).toArray w;simp only [execOp,resolve,c n a e d,Deferred.ofValue,i,Sem.run_bind,Sem.run_pure,Result.andThen_ok,invoke];simp at this;simpa using this
theorem L0{a:Act}{b:Act->World->Prop}{f:FuncId}{args:yp}{S:Value->World->Prop}{Sp:xc->World->Prop}
  (g:mw P f args w S Sp) (h:∀v w',S v w'->b (a.put o.dst v) w') (hp:∀c w',Sp c w'->Q (.panic c) a w'):o.uponIn (FW ρ) 0 P a b Q (.ok (.enter f args.toArray) w):=by
 rw [Oper.uponIn_enter];refine ⟨Kq,Ye (Calls.mono g λe w' d=>?_)⟩;cases e with
 |returned v=>exact h v w' d
 |panicked c=>exact hp c w' d
 |outgrown=>exact d.elim
theorem agD{f:FuncId}{first cap args:yp}{xs:x4}{d:Tmp}{ty:TypeId}{pos:String}{af:zd}{S:Value->World->Prop}{Sp:xc->World->Prop}
  (k:Enters P f) (g:au E true fo (.func (.func f) first.toArray cap.toArray)) (b:iM E true xs vs) (m:args=first++vs++cap)
  (hn:Nat.blt d n=true) (l:mw P f args w S Sp)
  (h:∀v w',S v w'->WL P ρ ops Q n D rest ((d,true,v)::E) w') (hp:∀c w',Sp c w'->At Q (.panic c) n D E w'):WL P ρ ops Q n D (⟨some d,.call ⟨.value fo,xs.toArray,tys⟩,ty,pos,af,none⟩::rest) E w:=λa i j=>
 wpListIn_plain rfl λK o=>lW rfl (by subst m;rw [Gg k g b i rfl];exact L0 l (λv w' e=>o _ _ (h v w' e _ (i.put hn) j)) (λc w' e=>hp c w' e a i j))
theorem aay{f:FuncId}{first cap args:yp}{xs:x4}{d:Tmp}{ty:TypeId}{pos:String}{af:zd}{S:Value->World->Prop}
  (c:Enters P f) (b:au E true fo (.func (.func f) first.toArray cap.toArray)) (a:iM E true xs vs) (g:args=first++vs++cap)
  (hn:Nat.blt d n=true) (e:gE P f args w S)
  (h:∀v w',S v w'->WL P ρ ops Q n D rest ((d,true,v)::E) w'):WL P ρ ops Q n D (⟨some d,.call ⟨.value fo,xs.toArray,tys⟩,ty,pos,af,none⟩::rest) E w:=
 agD c b a g hn e h (λ_ _ h=>h.elim)
theorem amc{f:FuncId}{first cap args:yp}{xs:x4}{ty:TypeId}{pos:String}{af:zd}{S:Value->World->Prop}{Sp:xc->World->Prop}
  (j:Enters P f) (e:au E true fo (.func (.func f) first.toArray cap.toArray)) (b:iM E true xs vs) (l:args=first++vs++cap)
  (k:mw P f args w S Sp)
  (h:∀v w',S v w'->WL P ρ ops Q n D rest E w') (hp:∀c w',Sp c w'->At Q (.panic c) n D E w'):WL P ρ ops Q n D (⟨none,.call ⟨.value fo,xs.toArray,tys⟩,ty,pos,af,none⟩::rest) E w:=λa g i=>
 wpListIn_plain rfl λK m=>lW rfl (by subst l;rw [Gg j e b g rfl];exact L0 k (λv w' d=>m _ _ (h v w' d _ g i)) (λc w' d=>hp c w' d a g i))
def na(P:Program)(E:Env)(o:Oper)(w:World)(v:Value)(w':World):Prop:=
 ∀n a,Fits n E a->(execOp a.eval o).run P w= .ok (.value v) w'
theorem xm{o:Oper}{v:Value}{w':World}{d:Tmp}(c:na P E o w v w')(hp:jC o=true)(e:o.guard=none)(hd:o.dst=some d)(hn:Nat.blt d n=true)
  (h:WL P ρ ops Q n D rest ((d,true,v)::E) w'):WL P ρ ops Q n D (o::rest) E w:=λa b g=>
 wpListIn_plain e λK f=>lW hp (by rw [c n a b,Oper.uponIn_value,hd];exact f _ _ (h _ (b.put hn) g))
def Wc(P:Program)(E:Env)(o:Oper)(w:World)(w':World):Prop:=
 ∀n a,Fits n E a->(execOp a.eval o).run P w= .ok .skip w'
end
variable {b : Nat} {i : Int}
def Mv(M:Nat->Prop)(w:World)(M':Nat->Prop)(w':World):Prop:=
 w.heap.size<=w'.heap.size/\∀b,b<w.heap.size-> ¬M b-> ¬M' b/\w'.heap[b]? =w.heap[b]?
theorem Mv.trans{M M' c:Nat->Prop}{w w' a:World}(h:Mv M w M' w')(k:Mv M' w' c a):Mv M w c a:=
 ⟨cK h.1 k.1,λb hb f=>by obtain ⟨i,g⟩:=h.2 b hb f;obtain ⟨e,d⟩:=k.2 b (eW hb h.1) i;exact ⟨e,d.trans g⟩⟩
theorem Ext.mv{w w':World}(h:Ext w w')(M:Nat->Prop):Mv M w M w':=⟨h.size,λb hb a=>⟨a,h.block b hb⟩⟩
theorem Mv.weaken{M M':Nat->Prop}(w:World)(h:∀b,M' b->M b):Mv M w M' w:=⟨ch _,λb _ a=>⟨λc=>a (h b c),rfl⟩⟩
structure eD(α:Type) where
 n:Nat
 rd:(Nat->Prop)->World->yp->α->Prop
 len:∀{M w vs x},rd M w vs x->vs.length=n
 one:∀{M w vs x},rd M w vs x->∀v∈vs,v.oneCell'=true
 mv:∀{M M' w w' vs x},rd M w vs x->Mv M w M' w'->rd M' w' vs x
def RI(k:IntKind):eD Int where
 n:=1
 rd _ _ vs x:=vs=[.int k x]
 len h:=by rw [h];rfl
 one h:=by rw [h];simp [Value.oneCell']
 mv h _:=h
def RB:eD Bool where
 n:=1
 rd _ _ vs x:=vs=[.bool x]
 len h:=by rw [h];rfl
 one h:=by rw [h];simp [Value.oneCell']
 mv h _:=h
def RS:eD aD where
 n:=1
 rd _ _ vs x:=vs=[S x]
 len h:=by rw [h];rfl
 one h:=by rw [h];simp [S,Value.oneCell']
 mv h _:=h
def RU:eD Unit where
 n:=0
 rd _ _ vs _:=vs=[]
 len h:=by rw [h];rfl
 one h:=by rw [h];simp
 mv h _:=h
def RP{α β:Type}(A:eD α)(B:eD β):eD (α×β) where
 n:=A.n+B.n
 rd M w vs x:= ∃a b,vs=a++b/\A.rd M w a x.1/\B.rd M w b x.2
 len h:=by obtain ⟨a,b,rfl,h1,h2⟩:=h;rw [du,A.len h1,B.len h2]
 one h:=by
  obtain ⟨a,b,rfl,h1,h2⟩:=h;intro v hv;rcases List.mem_append.1 hv with hv|hv
  .exact A.one h1 v hv
  .exact B.one h2 v hv
 mv h m:=by obtain ⟨a,b,rfl,h1,h2⟩:=h;exact ⟨a,b,rfl,A.mv h1 m,B.mv h2 m⟩
section
variable {α β : Type} (A : eD α)
def dh(M:Nat->Prop)(w:World)(cs:yp)(xs:List α):Prop:=
 cs.length=xs.length*A.n/\∀i (h:i<xs.length),A.rd M w ((cs.drop (i*A.n)).take A.n) xs[i]
variable {A}
theorem dh.nil{M:Nat->Prop}{w:World}:dh A M w [] []:=⟨by simp,λi h=>by simp at h⟩
theorem dh.cons{M:Nat->Prop}{w:World}{c cs:yp}{x:α}{xs:List α}(h:A.rd M w c x)(b:dh A M w cs xs):dh A M w (c++cs) (x::xs):=by
 have a:=A.len h;refine ⟨by simp [a,b.1,qd,Nat.add_comm],λi hi=>?_⟩;cases i with
 |zero=>simpa [a,q8] using (by simpa [<-a] using h)
 |succ i=>
  have:=b.2 i (by simpa using hi);have e:(c++cs).drop ((i+1)*A.n)=cs.drop (i*A.n):=by
   rw [u9];have:(i+1)*A.n=c.length+i*A.n:=by rw [a,qd];omega
   rw [this,qJ (by omega)];simp
  rw [e];simpa using this
theorem dh.one{M:Nat->Prop}{w:World}{c:yp}{x:α}(h:A.rd M w c x):dh A M w c [x]:=by have:=dh.cons h (dh.nil (A:=A) (M:=M) (w:=w));simpa using this
theorem dh.mv{M M':Nat->Prop}{w w':World}{cs:yp}{xs:List α}(h:dh A M w cs xs)(m:Mv M w M' w'):dh A M' w' cs xs:=
 ⟨h.1,λi hi=>A.mv (h.2 i hi) m⟩
theorem dh.Dd{M:Nat->Prop}{w:World}{cs:yp}{xs:List α}(h:dh A M w cs xs):∀v∈cs,v.oneCell'=true:=by
 intro v d;obtain ⟨j,g,rfl⟩:=List.mem_iff_getElem.1 d;have hl:=h.1;rcases Nat.eq_zero_or_pos A.n with b|b
 .rw [b] at hl;omega
 .have hi:j/A.n<xs.length:=by rw [Nat.div_lt_iff_lt_mul b];omega
  have c:=h.2 (j/A.n) hi;refine A.one c _ ?_;have e:j%A.n<A.n:=Nat.mod_lt _ b;have f:j/A.n*A.n+j%A.n=j:=by rw [Nat.mul_comm];exact Nat.div_add_mod j A.n
  rw [List.mem_iff_getElem];have a:=A.len c;refine ⟨j%A.n,by rw [a];exact e,?_⟩;rw [qY,qZ];congr 1
theorem dh.append{M:Nat->Prop}{w:World}{cs ds:yp}{xs ys:List α}(h:dh A M w cs xs)(k:dh A M w ds ys):dh A M w (cs++ds) (xs++ys):=by
 refine ⟨by simp [h.1,k.1,qd],λi hi=>?_⟩;by_cases a:i<xs.length
 .have b:=h.2 i a;have e:((cs++ds).drop (i*A.n)).take A.n=(cs.drop (i*A.n)).take A.n:=by
   have d:i*A.n+A.n<=cs.length:=by rw [h.1,<-s5];exact gy _ a
   rw [List.drop_append_of_le_length (by omega),qb (by simp;omega)]
  rw [e,List.getElem_append_left a];exact b
 .have c:i-xs.length<ys.length:=by simp at hi;omega
  have b:=k.2 _ c;have e:(cs++ds).drop (i*A.n)=ds.drop ((i-xs.length)*A.n):=by
   have:i*A.n=cs.length+(i-xs.length)*A.n:=by rw [h.1,<-qd];congr 1;omega
   rw [this,u9];simp
  rw [e,List.getElem_append_right (by omega)];exact b
theorem dh.take{M:Nat->Prop}{w:World}{cs:yp}{xs:List α}(h:dh A M w cs xs)(k:Nat):dh A M w (cs.take (k*A.n)) (xs.take k):=by
 have e:(cs.take (k*A.n)).length=(xs.take k).length*A.n:=by
  rw [cx,cx,h.1];by_cases hk:k<=xs.length
  .rw [ed hk,ed (gy _ hk)]
  .have a:xs.length<=k:=by omega
   rw [vb (gy A.n a),vb a]
 refine ⟨e,λi hi=>?_⟩;have b:i<k/\i<xs.length:=by rw [cx] at hi;omega
 have c:=h.2 i b.2;have d:i*A.n+A.n<=k*A.n:=by rw [<-s5];exact gy _ b.1
 rw [qY,qj,pc,ed (by omega)];exact c
theorem dh.drop{M:Nat->Prop}{w:World}{cs:yp}{xs:List α}(h:dh A M w cs xs)(k:Nat):dh A M w (cs.drop (k*A.n)) (xs.drop k):=by
 refine ⟨by rw [cO,cO,h.1,<-Nat.sub_mul],λi hi=>?_⟩;have a:k+i<xs.length:=by simp at hi;omega
 have b:=h.2 (k+i) a;rw [qZ,l7];have:(k+i)*A.n=k*A.n+i*A.n:=qd ..;rw [this] at b;exact b
theorem dh.set{M:Nat->Prop}{w:World}{cs c:yp}{xs:List α}{x:α}{i:Nat}(h:dh A M w cs xs)(hi:i<xs.length)(hx:A.rd M w c x):
  dh A M w (cs.take (i*A.n)++c++cs.drop ((i+1)*A.n)) (xs.set i x):=by
 have d:=h.take i;have b:=h.drop (i+1);have a:=(d.append (dh.one hx)).append b;have e:xs.set i x=xs.take i++[x]++xs.drop (i+1):=by rw [List.set_eq_take_append_cons_drop,pa hi];simp
 rw [e];exact a
variable (A)
def ca(M:Nat->Prop)(w:World)(v:Value)(xs:List α):Prop:=
 ((∃a,v= .slice a 0 0)/\xs=[])\/∃b off cap cs e fr,v= .slice (some ⟨b,off,none⟩) xs.length cap/\ ¬M b/\w.heap[b]? =some (.cells cs e fr)/\xs.length<=cap/\
  off+cap*A.n<=cs.size/\dh A M w ((cs.toList.drop off).take (xs.length*A.n)) xs
variable {A}
theorem ca.nil{M:Nat->Prop}{w:World}:ca A M w (.slice none 0 0) []:= .inl ⟨⟨none,rfl⟩,rfl⟩
theorem ca.emp{M:Nat->Prop}{w:World}{a:Option Addr}:ca A M w (.slice a 0 0) []:= .inl ⟨⟨a,rfl⟩,rfl⟩
theorem ca.mv{M M':Nat->Prop}{w w':World}{v:Value}{xs:List α}(h:ca A M w v xs)(m:Mv M w M' w'):ca A M' w' v xs:=by
 rcases h with h|⟨b,off,cap,cs,e,fr,a,g,hb,f,d,c⟩
 .exact .inl h
 .obtain ⟨j,i⟩:=m.2 b (Array.getElem?_eq_some_iff.1 hb).1 g;exact .inr ⟨b,off,cap,cs,e,fr,a,j,by rw [i];exact hb,f,d,c.mv m⟩
abbrev gV:=Option Addr×Nat×Nat
def sl(p:gV):Value:= .slice p.1 p.2.1 p.2.2
variable (A)
def Mr:eD (List α) where
 n:=1
 rd M w vs xs:= ∃p,vs=[sl p]/\ca A M w (sl p) xs
 len h:=by obtain ⟨v,rfl,_⟩:=h;rfl
 one h:=by obtain ⟨v,rfl,h⟩:=h;simp [Value.oneCell',sl]
 mv h m:=by obtain ⟨v,rfl,h⟩:=h;exact ⟨v,rfl,h.mv m⟩
variable {A}
theorem ca.nI{M:Nat->Prop}{w:World}{v:Value}{xs:List α}(h:ca A M w v xs):∃p,v=sl p:=by
 rcases h with ⟨⟨a,rfl⟩,_⟩|⟨b,off,cap,cs,e,fr,rfl,_⟩
 .exact ⟨(a,0,0),rfl⟩
 .exact ⟨(_,_,_),rfl⟩
theorem ca.rsl{M:Nat->Prop}{w:World}{v:Value}{xs:List α}(h:ca A M w v xs):(Mr A).rd M w [v] xs:=by obtain ⟨p,rfl⟩:=h.nI;exact ⟨p,rfl,h⟩
def SV(v:Value)(n:Nat):Prop:= ∃a cap,v= .slice a n cap
theorem ca.len{M:Nat->Prop}{w:World}{v:Value}{xs:List α}(h:ca A M w v xs):SV v xs.length:=by
 rcases h with ⟨⟨a,rfl⟩,rfl⟩|⟨b,off,cap,cs,e,fr,rfl,_⟩
 .exact ⟨_,_,rfl⟩
 .exact ⟨_,_,rfl⟩
def bW(w:World)(p:Addr)(vs:yp):Prop:=p.spot=none/\∃cs e fr,w.heap[p.block]? =some (.cells cs e fr)/\∀j u,vs[j]? =some u->cs[p.off+j]? =some u
theorem bW.ext{w w':World}{p:Addr}(h:bW w p vs)(e:Ext w w'):bW w' p vs:=by obtain ⟨a,cs,t,fr,hb,b⟩:=h;exact ⟨a,cs,t,fr,by rw [e.block _ (Array.getElem?_eq_some_iff.1 hb).1];exact hb,b⟩
theorem bW.cell{w:World}{p:Addr}{vs:yp}(h:bW w p vs){j:Nat}{u:Value}(a:vs[j]? =some u):w.cell? (p.add j)=some u:=by
 obtain ⟨b,cs,t,fr,hb,c⟩:=h;have:=c j u a;unfold Addr.add;split
 next d=>subst d;simp only [World.cell?,hb,b];simpa using this
 .simp only [World.cell?,hb];simpa using this
theorem bW.sub{w:World}{p:Addr}{us:yp}(h:bW w p vs)(k:Nat)(b:(vs.drop k).take us.length=us):bW w (p.add k) us:=by
 obtain ⟨c,cs,t,fr,hb,d⟩:=h;have key:∀j u,us[j]? =some u->cs[p.off+k+j]? =some u:=λj u a=>by
  rw [<-b,ko] at a;split at a
  .rw [j5] at a;have:=d _ _ a;rwa [<-qH] at this
  .cases a
 unfold Addr.add;split
 next e=>subst e;exact ⟨c,cs,t,fr,hb,key⟩
 .exact ⟨rfl,cs,t,fr,hb,key⟩
def B1(v:Value)(i:Int)(n:Nat)(p:Addr):Prop:= ∃a len cap,v= .slice (some a) len cap/\0<=i/\i<(len:Nat)/\p=a.add (i.toNat*n)
def idx(xs:List α)(i:Int):Option α:=if 0<=i then xs[i.toNat]? else none
theorem EU{xs:List α}{x:α}(h:idx xs i=some x):0<=i/\∃hi:i.toNat<xs.length,xs[i.toNat]=x:=by
 unfold idx at h;split at h
 next a=>obtain ⟨hi,hx⟩:=List.getElem?_eq_some_iff.1 h;exact ⟨a,hi,hx⟩
 .cases h
theorem ca.at_{M:Nat->Prop}{w:World}{v:Value}{xs:List α}{x:α}(h:ca A M w v xs)(hx:idx xs i=some x):
  ∃p vs,B1 v i A.n p/\bW w p vs/\A.rd M w vs x:=by
 obtain ⟨g,hi,rfl⟩:=EU hx;rcases h with ⟨_,rfl⟩|⟨b,off,cap,cs,e,fr,rfl,m,hb,l,k,f⟩
 .simp at hi
 .have d:=f.2 _ hi;have a:=A.len d;refine ⟨(⟨b,off,none⟩:Addr).add (i.toNat*A.n),_,⟨_,_,_,rfl,g,by omega,rfl⟩,?_,d⟩;have key:bW w ⟨b,off,none⟩ ((cs.toList.drop off).take (xs.length*A.n)):=⟨rfl,cs,e,fr,hb,λj u c=>by
   rw [ko] at c;split at c
   .simpa [j5] using c
   .cases c⟩
  exact key.sub _ (by rw [a])
end
structure kQ(C:zh)(w w':World):Prop where
 os:w'.os=w.os
 tape:w'.tape=w.tape
 output:w'.output=w.output
 size:w.heap.size<=w'.heap.size
 block:∀b,b<w.heap.size->b∉C->w'.heap[b]? =w.heap[b]?
theorem Ext.vS{w w':World}(h:Ext w w')(C:zh):kQ C w w':=⟨h.os,h.tape,h.output,h.size,λb hb _=>h.block b hb⟩
def fM(w:World)(b:Nat)(e:TypeId)(vs:yp):Prop:=w.heap[b]? =some (.cells vs.toArray e (0,0))
theorem fM.dm{w w':World}{e:TypeId}(h:fM w b e vs)(k:w'.heap[b]? =w.heap[b]?):fM w' b e vs:=k.trans h
theorem fM.lt{w:World}{e:TypeId}(h:fM w b e vs):b<w.heap.size:=(Array.getElem?_eq_some_iff.1 h).1
theorem fM.cells{w:World}{e:TypeId}(h:fM w b e vs):bW w ⟨b,0,none⟩ vs:=
 ⟨rfl,_,_,_,h,λj u a=>by simpa using a⟩
theorem fM.part{w:World}{e:TypeId}{us:yp}(h:fM w b e vs)(k:Nat)(a:(vs.drop k).take us.length=us):bW w ⟨b,k,none⟩ us:=by
 have:=h.cells.sub k a;unfold Addr.add at this;split at this
 next c=>subst c;exact this
 .simpa using this
def eA(v:Value):zh:=v.ownBlock.toList
section
variable {α : Type} {A : eD α}
def agB(w:World)(e:TypeId)(size:Nat)(v:Value)(n:Nat)(xs:yp):Prop:=
 xs.length=n*size/\((v= .slice none 0 0/\n=0)\/∃g off cap cur,v= .slice (some ⟨g,off,none⟩) n cap/\w.heap[g]? =some (.cells cur e (0,0))/\n<=cap/\cap<=maxLen/\(off+cap*size=cur.size/\(off=0\/size=1))/\
  (cur.toList.drop off).take (n*size)=xs)
theorem agB.of{w:World}{size n:Nat}{e:TypeId}{v:Value}{xs:yp}(h:w.ownsRow b e size v n xs):agB w e size v n xs:=by obtain ⟨j,i⟩:=h;refine ⟨j,i.imp id ?_⟩;rintro ⟨g,cap,cur,rfl,_,d,f,c,k,a⟩;exact ⟨g,0,cap,cur,rfl,d,f,c,⟨by omega,.inl rfl⟩,by simpa using a⟩
variable (A) in
def iI(e:TypeId)(M:Nat->Prop)(w:World)(v:Value)(xs:List α):Prop:=
 ∃cells,agB w e A.n v xs.length cells/\dh A M w cells xs
theorem iI.nil{e:TypeId}{M:Nat->Prop}{w:World}:iI A e M w (.slice none 0 0) []:=⟨[],.of (World.ownsRow_nil w 0 e A.n),dh.nil⟩
theorem iI.len{e:TypeId}{M:Nat->Prop}{w:World}{v:Value}{xs:List α}(h:iI A e M w v xs):SV v xs.length:=by
 obtain ⟨cells,⟨_,h⟩,_⟩:=h;rcases h with ⟨rfl,a⟩|⟨g,off,cap,cur,rfl,_⟩
 .exact ⟨none,0,by rw [a]⟩
 .exact ⟨_,_,rfl⟩
theorem iI.lt{e:TypeId}{M:Nat->Prop}{w:World}{v:Value}{xs:List α}(h:iI A e M w v xs):∀b∈eA v,b<w.heap.size:=λb hb=>by
 obtain ⟨cells,⟨_,h⟩,_⟩:=h;rcases h with ⟨rfl,c⟩|⟨g,off,cap,cur,rfl,a,_⟩
 .cases hb
 .have:b=g:=by simpa [eA,Value.ownBlock] using hb
  subst this;exact (Array.getElem?_eq_some_iff.1 a).1
theorem iI.dm{e:TypeId}{M M':Nat->Prop}{w w':World}{v:Value}{xs:List α}(h:iI A e M w v xs)(k:∀b∈eA v,w'.heap[b]? =w.heap[b]?)(m:Mv M w M' w'):iI A e M' w' v xs:=by
 obtain ⟨cells,⟨f,a⟩,c⟩:=h;refine ⟨cells,⟨f,?_⟩,c.mv m⟩;rcases a with a|⟨g,off,cap,cur,rfl,d,r⟩
 .exact .inl a
 .exact .inr ⟨g,off,cap,cur,rfl,by rw [k g (by simp [eA,Value.ownBlock])];exact d,r⟩
theorem iI.freeze{e:TypeId}{M M':Nat->Prop}{w:World}{v:Value}{xs:List α}(h:iI A e M w v xs)(j:∀b∈eA v,¬M' b)(m:Mv M w M' w):ca A M' w v xs:=by
 obtain ⟨cells,⟨o,k⟩,d⟩:=h;rcases k with ⟨rfl,l⟩|⟨g,off,cap,cur,rfl,f,i,n,c,a⟩
 .exact .inl ⟨⟨_,rfl⟩,c8 l⟩
 .refine .inr ⟨g,off,cap,cur,e,(0,0),rfl,j g (by simp [eA,Value.ownBlock]),f,i,Nat.le_of_eq c.1,?_⟩;rw [a];exact d.mv m
theorem G0{w:World}{g off n:Nat}{cur:x8}{e:TypeId}{fr:Nat×Nat}{cells:yp}(c:w.heap[g]? =some (.cells cur e fr))(b:(cur.toList.drop off).take n=cells):bW w ⟨g,off,none⟩ cells:=⟨rfl,cur,e,fr,c,λj u a=>by
 rw [<-b,ko] at a;split at a
 .simpa [j5] using a
 .cases a⟩
theorem iI.at_{e:TypeId}{M:Nat->Prop}{w:World}{v:Value}{xs:List α}{x:α}(h:iI A e M w v xs)(hx:idx xs i=some x):
  ∃p vs,B1 v i A.n p/\bW w p vs/\A.rd M w vs x:=by
 obtain ⟨c,hi,rfl⟩:=EU hx;obtain ⟨cells,⟨q,k⟩,f⟩:=h;rcases k with ⟨rfl,c⟩|⟨g,off,cap,cur,rfl,j,o,m,l,d⟩
 .omega
 .have b:=f.2 _ hi;have a:=A.len b;exact ⟨(⟨g,off,none⟩:Addr).add (i.toNat*A.n),_,⟨_,_,_,rfl,c,by omega,rfl⟩,(G0 j d).sub _ (by rw [a]),b⟩
end
section
variable {α : Type} {A : eD α}
variable (A) in
def bU(e:TypeId)(M:Nat->Prop)(w:World)(v:Value)(xs:List α)(R:zh):Prop:=
 (R=eA v/\iI A e M w v xs)\/(R=[]/\xs=[]/\(∃a,v= .slice a 0 0)/\ca A M w v [])
variable {e : TypeId} {M M' : Nat -> Prop} {w w' : World} {v : Value} {xs : List α} {R : zh}
theorem bU.nil:bU A e M w (.slice none 0 0) [] []:= .inl ⟨rfl,iI.nil⟩
theorem bU.empty{a:Option Addr}(h:ca A M w (.slice a 0 0) []):bU A e M w (.slice a 0 0) [] []:= .inr ⟨rfl,rfl,⟨a,rfl⟩,h⟩
theorem bU.of(h:iI A e M w v xs):bU A e M w v xs (eA v):= .inl ⟨rfl,h⟩
theorem bU.len(h:bU A e M w v xs R):SV v xs.length:=by
 rcases h with ⟨_,h⟩|⟨_,rfl,⟨a,rfl⟩,_⟩
 .exact h.len
 .exact ⟨_,_,rfl⟩
theorem bU.lt(h:bU A e M w v xs R):∀b∈R,b<w.heap.size:=by
 rcases h with ⟨rfl,h⟩|⟨rfl,_⟩
 .exact h.lt
 .intro b hb;cases hb
theorem bU.dm(h:bU A e M w v xs R)(k:∀b∈R,w'.heap[b]? =w.heap[b]?)(m:Mv M w M' w'):bU A e M' w' v xs R:=by
 rcases h with ⟨rfl,h⟩|h
 .exact .inl ⟨rfl,h.dm k m⟩
 .exact .inr ⟨h.1,h.2.1,h.2.2.1,h.2.2.2.mv m⟩
theorem bU.atG{g:Bool}{x:α}(h:g=true->bU A e M w v xs R)(hx:g=true->idx xs i=some x):
  ∃p vs,(g=true->B1 v i A.n p)/\(g=true->bW w p vs)/\(g=true->A.rd M w vs x):=by
 cases g
 .exact ⟨⟨0,0,none⟩,[],λh=>(by cases h),λh=>(by cases h),λh=>(by cases h)⟩
 .rcases h rfl with ⟨_,h⟩|⟨_,rfl,_⟩
  .obtain ⟨p,vs,c,b,a⟩:=h.at_ (hx rfl);exact ⟨p,vs,λ_=>c,λ_=>b,λ_=>a⟩
  .obtain ⟨_,hi,_⟩:=EU (hx rfl);simp at hi
theorem bU.iJ{x:α}(h:bU A e M w v xs R)(hx:idx xs i=some x):iI A e M w v xs/\R=eA v:=by
 rcases h with ⟨a,h⟩|⟨_,rfl,_⟩
 .exact ⟨h,a⟩
 .obtain ⟨_,hi,_⟩:=EU hx;simp at hi
theorem bU.freeze(h:bU A e M w v xs R)(a:∀b∈R,¬M' b)(m:Mv M w M' w):ca A M' w v xs:=by
 rcases h with ⟨rfl,h⟩|⟨_,rfl,_,h⟩
 .exact h.freeze a m
 .exact h.mv m
end
variable {α : Type} {A : eD α} {d : TypeDesc} {e : TypeId} {p : Addr} {z : Value} {zs : yp}
def TI(P:Program)(e:TypeId)(size bytes:Nat)(z:Value):Prop:=(P.info? e).map (λi=>(i.size,i.bytes,i.zero))=some (size,bytes,some z)
theorem TI.out{P:Program}{size bytes:Nat}(h:TI P e size bytes z):∃i,P.info? e=some i/\i.size=size/\i.bytes=bytes/\i.zero=some z:=by
 unfold TI at h;cases hi:P.info? e with
 |none=>simp [hi] at h
 |some i=>
  simp only [hi,lk,cC,qc] at h;exact ⟨i,rfl,h.1,h.2.1,h.2.2⟩
def kJ:TypeDesc->Bool
 | .struct _=>true
 | .array _ _=>true
 |_=>false
theorem Bh{P:Program}{t:TypeId}(h:P.underlying t=some d)(w:World):(isAgg t).run P w= .ok (kJ d) w:=by unfold isAgg;rw [Sem.run_bind,run_underlying h w];cases d <;> rfl
section
variable {P : Program} {E : Env} {g : Bool} {w : World} {dst : zb} {ty : TypeId} {pos : String} {af : zd} {gd : xa}
theorem GP{n:Nat}{t:TypeId}(b:P.underlying t=some (.slice e))(hx:au E g x v)(hl:SV v n):
  bq P E g ⟨dst,.call ⟨.builtin .len,#[x],#[t]⟩,ty,pos,af,gd⟩ w (.int .i64 n):=
 λn' a d c=>by obtain ⟨f,cap,rfl⟩:=hl;simp [execOp,resolve,invoke,builtin,hx n' a d c,Builtin.len_,run_underlying b,goInt]
theorem Hf{n bytes:Nat}{t:TypeId}(h:P.underlying t=some (.slice e))(b:TI P e n bytes z)
  (hx:au E g x v) (f:au E g y (.int k i)) (l:g=true->B1 v i n p):
  bq P E g ⟨dst,.indexAddr t x y,ty,pos,af,gd⟩ w (.pointer (some p)):=
 λn' a d c=>by obtain ⟨q,hi,j,_,_⟩:=b.out;obtain ⟨r,len,cap,rfl,o,m,rfl⟩:=l c;simp [execOp,hx n' a d c,f n' a d c,Instr.indexAt,asIntOf,run_underlying h,o,m,sizeOf,typeInfo,hi,j]
theorem PJ{t:TypeId}(a:P.underlying t=some d)(hd:kJ d=false)(b:w.cell? p=some v):
  (loadVar t p).run P w= .ok v w:=by
 simp [loadVar,Bh a,hd,b]
theorem bW.cell0(a:bW w p vs)(b:vs[0]? =some v):w.cell? p=some v:=by have:=a.cell b;simpa [Addr.add] using this
theorem NW{t:TypeId}(c:P.underlying t=some d)(hd:kJ d=false)(hx:au E g x (.pointer (some p)))
  (f:g=true->bW w p [v]):bq P E g ⟨dst,.load t x,ty,pos,af,gd⟩ w v:=
 λn' a e b=>by simp [execOp,hx n' a e b,Instr.loadAt,Instr.sureAddr,PJ c hd ((f b).cell0 rfl)]
theorem PU{t:TypeId}{n bytes:Nat}(c:P.underlying t=some d)(hd:kJ d=true)(a:TI P t n bytes z)(f:bW w p vs)(hl:vs.length=n):
  (loadVar t p).run P w= .ok (.agg vs.toArray) w:=by
 obtain ⟨g,hi,e,_,_⟩:=a.out;have:=run_loadCells_list (P:=P) w p vs (λj v b=>f.cell b);rw [hl] at this;simp [loadVar,Bh c,hd,sizeOf,typeInfo,hi,e,this]
theorem PS{t:TypeId}{n bytes:Nat}(e:P.underlying t=some d)(hd:kJ d=true)(b:TI P t n bytes z)(hx:au E g x (.pointer (some p)))
  (h:g=true->bW w p vs) (hl:vs.length=n):bq P E g ⟨dst,.load t x,ty,pos,af,gd⟩ w (.agg vs.toArray):=
 λn' a f c=>by simp [execOp,hx n' a f c,Instr.loadAt,Instr.sureAddr,PU e hd b (h c) hl]
def aiL(P:Program)(t:TypeId)(k:Nat)(off:Nat):Prop:=
 ∃fs f i,P.underlying t=some (.struct fs)/\fs[k]? =some f/\f.offset=off/\P.info? f.type=some i/\i.size≠0
theorem Mt{t:TypeId}{k off:Nat}(c:aiL P t k off)(hx:au E g x (.pointer (some p))):
  bq P E g ⟨dst,.fieldAddr t x k,ty,pos,af,gd⟩ w (.pointer (some (p.add off))):=
 λn' a n m=>by obtain ⟨d,f,i,e,hk,l,hi,j⟩:=c;have b:∃h:k<d.size,d[k]=f:=Array.getElem?_eq_some_iff.1 hk;obtain ⟨q,o⟩:=b;simp [execOp,hx n' a n m,Instr.fieldAt,run_underlying e,Instr.sureAddr,fieldPlace,sizeOf,typeInfo,hi,j,l,q,o]
theorem agd(hx:au E g x (.pointer (some p))):bq P E g ⟨dst,.nilCheck x,ty,pos,af,gd⟩ w (.pointer (some p)):=
 λn' a c b=>by simp only [execOp,hx n' a c b];rfl
theorem apa{f:FuncId}{us vs:x8}(hx:au E g x (.func (.func f) us vs)):bq P E g ⟨dst,.nilCheck x,ty,pos,af,gd⟩ w (.func (.func f) us vs):=
 λn' a c b=>by simp only [execOp,hx n' a c b];rfl
theorem adJ{t:TypeId}{n bytes off:Nat}{cs:yp}(c:P.underlying t=some d)(b:TI P t n bytes z)
  (a:(if kJ d then some (.agg ((cs.drop off).take n).toArray) else cs[off]?)=some v):(part t cs.toArray off).run P w= .ok v w:=by
 obtain ⟨f,hi,e,_,_⟩:=b.out;unfold part;rw [Sem.run_bind,Bh c];cases hd:kJ d
 .simp only [hd,cL,j3] at a ⊢;simp [a]
 .have g:(cs.toArray.extract off (off+n))=((cs.drop off).take n).toArray:=by rw [List.extract_toArray];congr 1;simp [List.extract_eq_take_drop]
  simp only [hd,oi,cC] at a;subst a;simp [sizeOf,typeInfo,hi,e]
theorem amz{t:TypeId}{k n bytes off:Nat}{i:Array Field}{f:Field}{cs:yp}
  (l:P.underlying t=some (.struct i)) (hk:i[k]? =some f) (e:f.type=t') (h:f.offset=off) (c:P.underlying t'=some d) (b:TI P t' n bytes z) (hx:au E g x (.agg cs.toArray))
  (j:(if kJ d then some (.agg ((cs.drop off).take n).toArray) else cs[off]?)=some v):
  bq P E g ⟨dst,.field t x k,ty,pos,af,gd⟩ w v:=
 λn' a o m=>by subst e;subst h;have hp:=adJ (w:=w) c b j;simp only [execOp,hx n' a o m,Instr.field,Sem.run_bind,run_underlying l,Result.andThen_ok,hk,asAgg,Sem.run_pure,hp]
theorem amG{t:TypeId}{b:List (Nat×Operand)}(hx:iM E g (b.map (·.2)) vs)
  (hb:∀w:World,(Instr.build t ((b.map (·.1)).zip vs).toArray).run P w= .ok v w):
  bq P E g ⟨dst,.build t b.toArray,ty,pos,af,gd⟩ w v:=
 λn' a d c=>by
  have e:(b.map λp=>(p.1,a.eval p.2))=(b.map (·.1)).zip vs:=by
   have h:=hx.map d c;rw [List.map_map] at h;subst h;clear hx hb
   induction b with
   |nil=>rfl
   |cons p ps ih=>simp [ih]
  simp only [execOp,List.map_toArray];have f:(b.map λx:Nat×Operand=>match x with|(i,x)=>(i,a.eval x))=(b.map (·.1)).zip vs:=e;rw [f];simp [hb]
def UX(v:Value)(i j:Int)(n:Nat)(v':Value):Prop:=
 ∃ad len cap,v= .slice ad len cap/\0<=i/\i<=j/\j<=(len:Nat)/\len<=cap/\
  v'= .slice (if cap=i.toNat then ad else ad.map (·.add (i.toNat*n))) (j.toNat-i.toNat) (cap-i.toNat)
def Qj(v:Value)(i j k:Int)(n:Nat)(v':Value):Prop:=
 ∃ad len cap,v= .slice ad len cap/\0<=i/\i<=j/\j<=k/\k<=(len:Nat)/\len<=cap/\
  v'= .slice (if k.toNat=i.toNat then ad else ad.map (·.add (i.toNat*n))) (j.toNat-i.toNat) (k.toNat-i.toNat)
def bN{α:Type}(xs:List α)(i j:Int):List α:=(xs.drop i.toNat).take (j.toNat-i.toNat)
def lG(i j k:Int)(n:Nat):Bool:=decide (0<=i)&&decide (i<=j)&&decide (j<=k)&&decide (k<=n)
theorem amO{j k:Int}{n:Nat}:lG i j k n=true↔((0<=i/\i<=j)/\j<=k)/\k<=n:=by simp [lG]
theorem ca.sub{M:Nat->Prop}{off cap:Nat}{cs:x8}{e':TypeId}{fr:Nat×Nat}{xs:List α}{i m:Nat}{j:Nat}(g:¬M b)(hb:w.heap[b]? =some (.cells cs e' fr))(h:xs.length<=cap)
  (p:off+cap*A.n<=cs.size) (k:dh A M w ((cs.toList.drop off).take (xs.length*A.n)) xs) (t:i<=j) (s:j<=xs.length) (r:j<=m) (o:m<=cap):
  ca A M w (.slice (if m=i then some ⟨b,off,none⟩ else (some (⟨b,off,none⟩:Addr)).map (·.add (i*A.n))) (j-i) (m-i)) ((xs.drop i).take (j-i)):=by
 have a:((xs.drop i).take (j-i)).length=j-i:=by rw [cx,cO];omega
 by_cases c:m=i
 .rw [pa c];have e:j-i=0:=by omega
  refine .inr ⟨b,off,m-i,cs,e',fr,by rw [a],g,hb,by rw [a];omega,?_,?_⟩
  .have:(m-i)*A.n<=cap*A.n:=gy _ (by omega);omega
  .have:((xs.drop i).take (j-i))=[]:=by rw [e];rfl
   rw [this];simpa using (dh.nil (A:=A) (M:=M) (w:=w))
 .rw [n7 c];have d:(⟨b,off,none⟩:Addr).add (i*A.n)=⟨b,off+i*A.n,none⟩:=by unfold Addr.add;split <;> simp_all
  refine .inr ⟨b,off+i*A.n,m-i,cs,e',fr,by rw [a];simp [d],g,hb,by rw [a];omega,?_,?_⟩
  .have q:i*A.n+(m-i)*A.n=m*A.n:=by rw [<-qd];congr 1;omega
   have f:m*A.n<=cap*A.n:=gy _ o;omega
  .have f:=(k.drop i).take (j-i);rw [qj,l7,pc] at f;rw [a];have l:(j-i)*A.n<=xs.length*A.n-i*A.n:=by rw [<-Nat.sub_mul];exact gy _ (by omega)
   rwa [ed l] at f
theorem ca.cut{M:Nat->Prop}{xs:List α}{j:Int}(h:ca A M w v xs)(g:dV i j xs.length=true):
  ∃v',UX v i j A.n v'/\ca A M w v' (bN xs i j):=by
 obtain ⟨⟨o,m⟩,d⟩:=DU.1 g;rcases h with ⟨⟨p,rfl⟩,rfl⟩|⟨b,off,cap,cs,e',fr,rfl,k,hb,a,e,l⟩
 .have f:j=0:=by simp at d;omega
  have c:i=0:=by omega
  subst f;subst c;exact ⟨_,⟨p,0,0,rfl,by omega,by omega,by simp,ch _,rfl⟩,.inl ⟨⟨_,rfl⟩,by simp [bN]⟩⟩
 .exact ⟨_,⟨some ⟨b,off,none⟩,xs.length,cap,rfl,o,m,d,a,rfl⟩,ca.sub k hb a e l (by omega) (by omega) (by omega) (ch _)⟩
theorem ca.avg{M:Nat->Prop}{xs:List α}{j k:Int}(h:ca A M w v xs)(g:lG i j k xs.length=true):
  ∃v',Qj v i j k A.n v'/\ca A M w v' (bN xs i j):=by
 obtain ⟨⟨⟨q,p⟩,o⟩,d⟩:=amO.1 g;rcases h with ⟨⟨r,rfl⟩,rfl⟩|⟨b,off,cap,cs,e',fr,rfl,l,hb,a,e,m⟩
 .have hk:k=0:=by simp at d;omega
  have f:j=0:=by omega
  have c:i=0:=by omega
  subst hk;subst f;subst c;exact ⟨_,⟨r,0,0,rfl,by omega,by omega,by omega,by simp,ch _,rfl⟩,.inl ⟨⟨_,rfl⟩,by simp [bN]⟩⟩
 .exact ⟨_,⟨some ⟨b,off,none⟩,xs.length,cap,rfl,q,p,o,d,a,rfl⟩,ca.sub l hb a e m (by omega) (by omega) (by omega) (by omega)⟩
theorem GO{q:Value}{j:Int}{lo hi:Option Operand}{t:TypeId}{n bytes len:Nat}
  (m:P.underlying t=some (.slice e)) (p:TI P e n bytes z) (hx:au E g x v) (hl:g=true->SV v len)
  (l:match lo with|none=>i=0|some y=>∃k,au E g y (.int k i)) (c:match hi with|none=>j=len|some y=>∃k,au E g y (.int k j))
  (F:g=true->UX v i j n q):bq P E g ⟨dst,.slice t x lo hi none,ty,pos,af,gd⟩ w q:=by
 cases u:g
 .intro n' a d h;cases h
 .subst u;obtain ⟨J,b,s,_,_⟩:=p.out;obtain ⟨N,r,cap,rfl,D,C,M,L,rfl⟩:=F rfl;obtain ⟨_,_,hl⟩:=hl rfl;cases hl;intro n' a d u;have K:i<=((j.toNat:Nat):Int):=by omega
  have B:j<=(cap:Nat):=by omega
  have A:0<=j:=by omega
  have G:((j.toNat:Nat):Int)=j:=by omega
  cases lo with
  |none=>
   subst l;cases hi with
   |none=>
    subst c;simp [execOp,hx n' a d rfl,Instr.sliceAt,Instr.slice,Instr.sliceBounds,run_underlying m,sizeOf,typeInfo,b]
   |some y=>
    obtain ⟨k,o⟩:=c;simp [execOp,hx n' a d rfl,o n' a d rfl,Instr.sliceAt,Instr.slice,Instr.sliceBounds,Instr.sliceBound,asIntOf,run_underlying m,sizeOf,typeInfo,b,A,B]
  |some H=>
   obtain ⟨I,f⟩:=l;cases hi with
   |none=>
    subst c;simp [execOp,hx n' a d rfl,f n' a d rfl,Instr.sliceAt,Instr.slice,Instr.sliceBounds,Instr.sliceBound,asIntOf,run_underlying m,sizeOf,typeInfo,b,s,D,C]
   |some y=>
    obtain ⟨k,o⟩:=c;simp [execOp,hx n' a d rfl,f n' a d rfl,o n' a d rfl,Instr.sliceAt,Instr.slice,Instr.sliceBounds,Instr.sliceBound,asIntOf,run_underlying m,sizeOf,typeInfo,b,s,D,A,B,C,G]
theorem Xx{o:Operand}{p:Value}{j k:Int}{I:IntKind}{lo hi:Option Operand}{t:TypeId}{n bytes len:Nat}
  (s:P.underlying t=some (.slice e)) (m:TI P e n bytes z) (hx:au E g x v) (hl:g=true->SV v len)
  (c:match lo with|none=>i=0|some y=>∃k,au E g y (.int k i)) (f:match hi with|none=>False|some y=>∃k,au E g y (.int k j)) (D:au E g o (.int I k))
  (K:g=true->Qj v i j k n p):bq P E g ⟨dst,.slice t x lo hi (some o),ty,pos,af,gd⟩ w p:=by
 cases u:g
 .intro n' a b h;cases h
 .subst u;obtain ⟨T,d,J,_,_⟩:=m.out;obtain ⟨W,q,cap,rfl,N,M,G,L,F,rfl⟩:=K rfl;obtain ⟨_,_,hl⟩:=hl rfl;cases hl;intro n' a b u;have V:i<=((j.toNat:Nat):Int):=by omega
  have C:k<=(cap:Nat):=by omega
  have B:0<=j:=by omega
  have A:0<=k:=by omega
  have U:j<=((k.toNat:Nat):Int):=by omega
  have O:((j.toNat:Nat):Int)=j:=by omega
  have H:((k.toNat:Nat):Int)=k:=by omega
  cases hi with
  |none=>exact f.elim
  |some y=>
   obtain ⟨S,r⟩:=f;cases lo with
   |none=>
    subst c;simp [execOp,hx n' a b rfl,r n' a b rfl,D n' a b rfl,Instr.sliceAt,Instr.slice,Instr.sliceBounds,Instr.sliceBound,asIntOf,run_underlying s,sizeOf,typeInfo,d,B,A,C,G,H]
   |some Q=>
    obtain ⟨R,l⟩:=c;simp [execOp,hx n' a b rfl,l n' a b rfl,r n' a b rfl,D n' a b rfl,Instr.sliceAt,Instr.slice,Instr.sliceBounds,Instr.sliceBound,asIntOf,run_underlying s,sizeOf,typeInfo,d,J,N,M,B,A,C,G,O,H]
end
section
variable {P : Program} {E : Env} {w : World}
theorem apc(a:Array TypeId)(t:TypeId)(k:IntKind)(x y:Int)(w:World):(Builtin.max_ a t #[.int k x,.int k y]).run P w= .ok (.int k (max x y)) w:=by rw [run_max_int2];congr 2;split <;> omega
theorem aoA(a:Array TypeId)(t:TypeId)(k:IntKind)(x y:Int)(w:World):(Builtin.min_ a t #[.int k x,.int k y]).run P w= .ok (.int k (min x y)) w:=by rw [run_min_int2];congr 2;split <;> omega
theorem oJ{g:Bool}{dst:zb}{ty:TypeId}{pos:String}{af:zd}{gd:Option (Nat×Bool)}{m:Nat}{t:TypeId}(c:P.underlying t=some (.slice e))(hx:au E g x v)(hl:g=true->SV v m):
  bq P E g ⟨dst,.call ⟨.builtin .len,#[x],#[t]⟩,ty,pos,af,gd⟩ w (.int .i64 m):=λn' a d b=>GP c hx (hl b) n' a d b
theorem abP(P:Program)(w:World)(d:Nat)(t:TypeId)(a b:aD)(h:P.underlying t=some .string):(Op.equalIn (d+1) t (S a) (S b)).run P w= .ok (a==b) w:=by unfold S;rw [run_equalIn_string w d t _ _ h,L4,L4]
theorem ajM{t:TypeId}{cs:yp}{off:Nat}(b:P.underlying t=some d)(hd:kJ d=false)(a:cs[off]? =some v):(part t cs.toArray off).run P w= .ok v w:=by unfold part;rw [Sem.run_bind,Bh b];simp [hd,a]
theorem aph{d:Nat}{xs ys:x8}{f:Field}{e:List Field}{a b:Value}{r s:Bool}(hn:(f.name != "_")=true) (j:(part f.type xs f.offset).run P w= .ok a w) (i:(part f.type ys f.offset).run P w= .ok b w)
  (h:(Op.equalIn d f.type a b).run P w= .ok r w) (g:(Op.eqFields d xs ys e).run P w= .ok s w):(Op.eqFields d xs ys (f::e)).run P w= .ok (r&&s) w:=by
 have c:f.name≠ "_" :=by simpa using hn
 simp only [Op.eqFields,pa c,Sem.run_bind,j,i,h,Result.andThen_ok];cases r
 .rfl
 .simpa using g
theorem asA{d:Nat}{xs ys:x8}:(Op.eqFields d xs ys []).run P w= .ok true w:=rfl
end
def tu(v:Value)(i:Int)(n:Nat):Addr:=match v with
 | .slice (some a) _ _=>a.add (i.toNat*n)
 |_=>⟨0,0,none⟩
theorem B1.tu{n:Nat}(h:B1 v i n p):p=tu v i n:=by obtain ⟨a,len,cap,rfl,_,_,rfl⟩:=h;rfl
theorem ca.atA{M:Nat->Prop}{w:World}{xs:List α}{x:α}(h:ca A M w v xs)(hx:idx xs i=some x):
  B1 v i A.n (tu v i A.n)/\∃vs,bW w (tu v i A.n) vs/\A.rd M w vs x/\ ¬M (tu v i A.n).block:=by
 have g:∀p,B1 v i A.n p-> ¬M p.block:=by
  intro p hp;rcases h with ⟨⟨a0,rfl⟩,rfl⟩|⟨b,off,cap,cs,e,fr,rfl,j,_⟩
  .obtain ⟨a,l,c,f,o,d,_⟩:=hp;simp only [Value.slice.injEq] at f;omega
  .obtain ⟨a,l,c,f,_,_,rfl⟩:=hp;cases f;unfold Addr.add;split <;> exact j
 obtain ⟨p,vs,d,m,k⟩:=h.at_ hx;have:=d.tu;subst this;exact ⟨d,vs,m,k,g _ d⟩
theorem bU.atA{M:Nat->Prop}{w:World}{xs:List α}{R:zh}{x:α}(h:bU A e M w v xs R)(hx:idx xs i=some x):
  B1 v i A.n (tu v i A.n)/\∃vs,bW w (tu v i A.n) vs/\A.rd M w vs x:=by
 obtain ⟨p,vs,a,c,b⟩:=bU.atG (g:=true) (λ_=>h) (λ_=>hx);have:=(a rfl).tu;subst this;exact ⟨a rfl,vs,c rfl,b rfl⟩
section
variable {P : Program} {E : Env} {w : World} {dst : zb} {ty : TypeId} {pos : String} {af : zd}
theorem fp(w:World)(o:Obj):Ext w (w.alloc o):=⟨rfl,rfl,rfl,by simp,λb hb=>heap_alloc_old w o hb⟩
theorem Kp{t:TypeId}{size bytes:Nat}(c:TI P t size bytes z)(d:z.cells=zs.toArray):
  na P E ⟨dst,.alloc t,ty,pos,af,none⟩ w (.pointer (some ⟨w.heap.size,0,none⟩)) (w.alloc (.cells zs.toArray t)):=λn' a f=>by
 obtain ⟨e,hi,_,_,b⟩:=c.out;simp [execOp,Instr.alloc,zeroValue,typeInfo,hi,b,newVar,newRow,d]
theorem aoI{t:TypeId}(hx:au E true x v)(b:v.cells=zs.toArray):
  na P E ⟨dst,.box t x,ty,pos,af,none⟩ w (.pointer (some ⟨w.heap.size,0,none⟩)) (w.alloc (.cells zs.toArray t)):=λn' a c=>by
 simp [execOp,Instr.box,newVar,newRow,hx n' a c rfl,b]
def sn(size len:Nat)(z:yp)(parts:List (Nat×Value)):Option x8:=
 Instr.fill (λi=>some (i*size,size)) ((Array.range (len*size)).map (z.toArray[· %z.length]!)) parts
theorem amv{b:List (Nat×Operand)}(hx:iM E true (b.map (·.2)) vs){n:Nat}{a:Act}(c:Fits n E a):
  (b.map λx:Nat×Operand=>match x with|(i,x)=>(i,a.eval x))=(b.map (·.1)).zip vs:=by
 have h:=hx.map c rfl;rw [List.map_map] at h;subst h;clear hx
 induction b with
 |nil=>rfl
 |cons p ps ih=>simp [ih]
theorem p7{t:TypeId}{len size bytes:Nat}{cells:yp}{b:List (Nat×Operand)}
  (l:P.underlying t=some (.slice e)) (g:TI P e size bytes z) (k:z.cells=zs.toArray) (c:Nat.blt 0 (len*size)=true) (d:Nat.ble (len*size) 16777216=true)
  (hx:iM E true (b.map (·.2)) vs) (o:sn size len zs ((b.map (·.1)).zip vs)=some cells.toArray):
  na P E ⟨dst,.buildSlice t len b.toArray,ty,pos,af,none⟩ w (.slice (some ⟨w.heap.size,0,none⟩) len len) (w.alloc (.cells cells.toArray e)):=λn' a n=>by
 obtain ⟨r,hi,m,_,f⟩:=g.out;have q:=amv hx n;have p:¬len*size=0:=by
  have:0<len*size:=by simpa using c
  omega
 have j:¬(len*size>2^24):=by have:=c5 d;omega
 have h:Instr.fill (λi=>some (i*size,size)) ((Array.range (len*size)).map (z.cells[· %z.cells.size]!)) ((b.map (·.1)).zip vs)=some cells.toArray:=by rw [k];simpa [sn] using o
 simp only [execOp,List.map_toArray,q,Instr.buildSlice,Sem.run_bind,run_underlying l,Result.andThen_ok,sizeOf,typeInfo,run_program,hi,Sem.run_pure,m,n7 j,n7 p,zeroValue,f,h,newRow,run_newObj];rfl
theorem uW{t:TypeId}{size bytes:Nat}(d:P.underlying t=some (.slice e))(b:TI P e size bytes z):
  na P E ⟨dst,.buildSlice t 0 #[],ty,pos,af,none⟩ w (.slice (some ⟨w.heap.size,0,none⟩) 0 0) (w.alloc (.cells ([]:yp).toArray e)):=λn' a i=>by
 obtain ⟨g,hi,h,_,c⟩:=b.out;have f:(Array.range 0).map (λ_=>(default:Value))= #[]:=Array.eq_empty_of_size_eq_zero (by simp);simp [execOp,Instr.buildSlice,run_underlying d,sizeOf,typeInfo,hi,Instr.fill,newRow,f]
theorem ca.fresh{M:Nat->Prop}{len:Nat}{cells:yp}{xs:List α}(hb:fM w b e cells)(c:¬M b)
  (hl:xs.length=len) (a:dh A M w cells xs):ca A M w (.slice (some ⟨b,0,none⟩) len len) xs:=
 .inr ⟨b,0,len,cells.toArray,e,(0,0),by rw [hl],c,hb,by omega,by simp [a.1,hl],by rw [n3,<-a.1];simpa using a⟩
theorem iI.fresh{M:Nat->Prop}{len:Nat}{cells:yp}{xs:List α}(hb:fM w b e cells)
  (hl:xs.length=len) (c:Nat.ble len 9223372036854775807=true) (a:dh A M w cells xs):iI A e M w (.slice (some ⟨b,0,none⟩) len len) xs:=
 ⟨cells,⟨a.1,.inr ⟨b,0,len,cells.toArray,by rw [hl],hb,by omega,by simpa [maxLen] using c5 c,⟨by simp [a.1,hl],.inl rfl⟩,by simp [<-a.1]⟩⟩,a⟩
def pj(vs:yp)(k:Nat)(us:yp):yp:=vs.take k++us++vs.drop (k+us.length)
theorem ajK{t:TypeId}{k:Nat}{us d:yp}{size bytes:Nat}(h:TI P t size bytes z)
  (hx:au E true x (.pointer (some ⟨b,k,none⟩))) (m:au E true y v) (o:v.cells=us.toArray) (hl:us.length=size)
  (q:us.all Value.oneCell'=true) (hb:fM w b e vs) (hk:Nat.ble (k+us.length) vs.length=true) (g:pj vs k us=d):
  Wc P E ⟨dst,.store t x y,ty,pos,af,none⟩ w (w.setRow b d.toArray)/\kQ [b] w (w.setRow b d.toArray)/\fM (w.setRow b d.toArray) b e d:=by
 obtain ⟨s,hi,p,_,_⟩:=h.out;have i:=c5 hk;have f:=run_storeCells_at P b k e us 0 vs.toArray w hb (by simpa using i) (by simpa using q);refine ⟨λn a l=>?_,⟨rfl,rfl,rfl,by simp,λc _ j=>setRow_other w b c _ (by simpa using j)⟩,setRow_heap w b _ _ e (0,0) hb⟩;have r:(vs.take k++us++vs.drop (k+us.length))=d:=g;simp only [qn] at f;simp [execOp,Instr.storeAt,Instr.sureAddr,hx n a l rfl,m n a l rfl,storeVar,sizeOf,typeInfo,hi,p,o,hl,f];rw [<-r];simp [hl]
theorem Mq{M:Nat->Prop}{t:TypeId}{k:Nat}{r:Value}{xs:List α}{u:α}{us d:yp}{size bytes:Nat}(Q:TI P t size bytes z)
  (hx:au E true x (.pointer (some (p.add k)))) (hy:au E true y v) (hv:v.cells=us.toArray) (R:us.length=size) (Z:us.all Value.oneCell'=true) (X:B1 r i A.n p) (ho:iI A e M w r xs) (hC:bW w p vs) (hvl:vs.length=A.n)
  (D:Nat.ble (k+us.length) vs.length=true) (N:pj vs k us=d) (O:A.rd M w d u) (hM:∀b∈eA r,M b):
  ∃w',Wc P E ⟨dst,.store t x y,ty,pos,af,none⟩ w w'/\kQ (eA r) w w'/\w'.heap.size=w.heap.size/\∀M',Mv M w M' w'->iI A e M' w' r (xs.set i.toNat u):=by
 obtain ⟨i',hi,hs,_,_⟩:=Q.out;obtain ⟨ad,len,cap,rfl,h0,h1,rfl⟩:=X;obtain ⟨cells,⟨hcl,C⟩,hA⟩:=ho;rcases C with ⟨H,_⟩|⟨g,off,cap',cur,s,V,hc,hm,F,ht⟩
 .cases H
 .cases s;have hcs1:=F.1;have D:=c5 D;have U:=A.len O;have m:i.toNat<xs.length:=by omega
  have I:((⟨g,off,none⟩:Addr).add (i.toNat*A.n))=⟨g,off+i.toNat*A.n,none⟩:=by unfold Addr.add;split <;> simp_all
  rw [I] at hx hC;have q:((⟨g,off+i.toNat*A.n,none⟩:Addr).add k)=⟨g,off+i.toNat*A.n+k,none⟩:=by unfold Addr.add;split <;> simp_all
  rw [q] at hx;have e3:(i.toNat+1)*A.n=i.toNat*A.n+A.n:=s5 ..;have W:off+i.toNat*A.n+A.n<=cur.size:=by have:(i.toNat+1)*A.n<=cap*A.n:=gy _ (by omega);omega
  have B:=run_storeCells_at P g (off+i.toNat*A.n+k) e us 0 cur w V (by simp only [qn];omega) (by simpa using Z);simp only [qn] at B;generalize K:cur.toList.drop off=L at ht;have f:L.length=cur.size-off:=by rw [<-K];simp
  -- the element's cells
  have h:vs=(L.drop (i.toNat*A.n)).take A.n:=by
   obtain ⟨_,cs,t',fr,hb,o⟩:=hC;rw [V] at hb;cases hb;apply List.ext_getElem
   .simp only [cx,cO,f];omega
   .intro j h2 h3;have:=o j _ (cB h2);have hj:j<A.n:=by omega
    subst K;rw [qY,qZ,qZ,Array.getElem_toList];simp only [<-qH];rw [Array.getElem?_eq_getElem (by show off+i.toNat*A.n+j<cur.size;omega)] at this;exact (qe this).symm
  have J:cur.toList.take (off+i.toNat*A.n+k)++us++cur.toList.drop (off+i.toNat*A.n+k+us.length)=cur.toList.take off++(L.take (i.toNat*A.n)++d++L.drop ((i.toNat+1)*A.n)):=by
   have e1:cur.toList.take (off+i.toNat*A.n+k)=cur.toList.take off++(L.take (i.toNat*A.n)++vs.take k):=by rw [h,<-K,pc,qH,List.take_add,List.take_add,l7,ed (by omega)]
   have e2:cur.toList.drop (off+i.toNat*A.n+k+us.length)=vs.drop (k+us.length)++L.drop ((i.toNat+1)*A.n):=by
    have e5:cur.toList.drop (off+i.toNat*A.n+k+us.length)=L.drop (i.toNat*A.n+(k+us.length)):=by rw [<-K,l7];congr 1;omega
    rw [e5,h,qj,l7,e3];have e4:L.drop (i.toNat*A.n+A.n)=(L.drop (i.toNat*A.n+(k+us.length))).drop (A.n-(k+us.length)):=by rw [l7];congr 1;omega
    rw [e4,qN]
   rw [e1,e2,<-N];simp [pj]
  have l:Wc P E ⟨dst,.store t x y,ty,pos,af,none⟩ w (w.setRow g (cur.toList.take (off+i.toNat*A.n+k)++us++cur.toList.drop (off+i.toNat*A.n+k+us.length)).toArray):=λn a hf=>by
   have S:¬(us.toArray.size≠i'.size):=by simp [R,hs]
   simp only [execOp,Instr.storeAt,Instr.sureAddr,hx n a hf rfl,hy n a hf rfl,storeVar,sizeOf,typeInfo,hi,hv,Sem.run_bind,Sem.run_pure,Result.andThen_ok,run_program,n7 S,B]
  rw [J] at l;have G:kQ [g] w (w.setRow g (cur.toList.take off++(L.take (i.toNat*A.n)++d++L.drop ((i.toNat+1)*A.n))).toArray):=
   ⟨rfl,rfl,rfl,by simp,λc _ Y=>setRow_other w g c _ (by simpa using Y)⟩
  refine ⟨_,l,G,by simp,λM' T=>?_⟩;refine ⟨cells.take (i.toNat*A.n)++d++cells.drop ((i.toNat+1)*A.n),⟨?_,.inr ⟨g,off,cap,_,by simp,setRow_heap w g cur _ e _ V,by simpa using hc,hm,⟨?_,F.2⟩,?_⟩⟩,((hA.set m O).mv T)⟩
  .exact (hA.set m O).1
  .simp only [n9,du,cx,cO,de,f];omega
  .have e6:(cur.toList.take off++(L.take (i.toNat*A.n)++d++L.drop ((i.toNat+1)*A.n))).drop off=L.take (i.toNat*A.n)++d++L.drop ((i.toNat+1)*A.n):=by
    have e7:(cur.toList.take off).length=off:=by rw [cx,de];omega
    rw [u9,qJ (by omega),e7,Nat.sub_self];rfl
   rw [v7,<-ht,e6];have hk:i.toNat*A.n+A.n<=xs.length*A.n:=by rw [<-s5];exact gy _ m
   have e3:(i.toNat+1)*A.n=i.toNat*A.n+d.length:=by rw [U,qd];omega
   rw [e3,q8,q8,pc,pc,qj];have e4:min (xs.length*A.n) (i.toNat*A.n)=i.toNat*A.n:=by omega
   have e5:min (i.toNat*A.n) (xs.length*A.n)=i.toNat*A.n:=by omega
   rw [e4,e5];congr 1
   .congr 1;rw [hV];simp only [cx,f];omega
   .congr 1;simp only [du,cx,f];omega
def aI(k bytes:Nat):Bool:=Nat.ble (k*bytes) 140737488355328&&Nat.ble k 9223372036854775807
theorem ah8{l ns:yp}{off m:Nat}(d:m=((l.drop off).take m).length)(e:off+m+ns.length<=l.length):
  ((l.take (off+m)++ns++l.drop (off+m+ns.length)).drop off).take ((l.drop off).take m++ns).length=(l.drop off).take m++ns:=by
 have c:l.take (off+m)=l.take off++(l.drop off).take m:=List.take_add;have b:(l.take off).length=off:=by rw [cx];omega
 have a:(l.take off++(l.drop off).take m++ns++l.drop (off+m+ns.length)).drop off=(l.drop off).take m++ns++l.drop (off+m+ns.length):=by have:=List.drop_left (l₁:=l.take off) (l₂:=(l.drop off).take m++ns++l.drop (off+m+ns.length));rw [b] at this;simpa only [bb] using this
 rw [c,a];exact ti
theorem Uq(t ty e:TypeId)(i:TypeInfo)(o:P.underlying t=some (.slice e))(hi:P.info? e=some i)
  (g off d f:Nat) (cur:x8) (p:w.heap[g]? =some (.cells cur e (0,0)))
  (a:Addr) (m c:Nat) (b:yp) (hl:b.length=m*i.size) (k:∀j u,b[j]? =some u->w.cell? (a.add j)=some u) (r:∀u∈b,u.oneCell'=true)
  (h:d+m<=f) (n:off+d*i.size+b.length<=cur.size):
  (Builtin.append_ #[t,t] ty #[.slice (some ⟨g,off,none⟩) d f,.slice (some a) m c]).run P w=
   .ok (.slice (some ⟨g,off,none⟩) (d+m) f) (w.setRow g (cur.toList.take (off+d*i.size)++b++cur.toList.drop (off+d*i.size+b.length)).toArray):=by
 have q:=run_firstCells_some (P:=P) w i.size m a m c b hl k;have l:=run_storeCells_at P g (off+d*i.size) e b 0 cur w p (by simpa using n) r;simp only [qn] at l;simp [Builtin.append_,run_underlying o,sizeOf,typeInfo,hi,Builtin.lenOf,h,q,Addr.add_lit,l]
theorem J1{M:Nat->Prop}(t D e:TypeId)(i:TypeInfo)(z:Value)(J:P.underlying t=some (.slice e))(hi:P.info? e=some i)(hz:i.zero=some z)(F:i.size=A.n)
  (X:z.cells.size=A.n) {v u:Value} {xs ys:List α} (ho:iI A e M w v xs) (hy:ca A M w u ys) (hM:∀b∈eA v,M b) (l:aI (xs.length+ys.length) i.bytes=true) (_hpos:0<A.n):
  ∃v' w',(Builtin.append_ #[t,t] D #[v,u]).run P w= .ok v' w'/\kQ (eA v) w w'/\(∀b∈eA v',b<w'.heap.size/\(b∈eA v\/w.heap.size<=b))/\
   (∀M',Mv M w M' w'->iI A e M' w' v' (xs++ys)):=by
 simp only [aI,ar] at l;have W:=c5 l.1;have V:=c5 l.2;have U:=ho.lt;obtain ⟨cells,f,R⟩:=ho
 -- the new cells
 have T:(u= .slice none 0 0/\ys=[])\/∃I c d,u= .slice (some I) ys.length c/\d.length=ys.length*A.n/\(∀j x,d[j]? =some x->w.cell? (I.add j)=some x)/\dh A M w d ys:=by
  rcases hy with ⟨⟨uo,rfl⟩,rfl⟩|⟨b,off,cap,cs,e',fr,rfl,hMb,hb,hc,hof,B⟩
  .cases uo with
   |none=>exact .inl ⟨rfl,rfl⟩
   |some I=>exact .inr ⟨I,0,[],rfl,by simp,by simp,dh.nil⟩
  .refine .inr ⟨⟨b,off,none⟩,cap,_,rfl,B.1,λj x G=>?_,B⟩;have key:bW w ⟨b,off,none⟩ ((cs.toList.drop off).take (ys.length*A.n)):=⟨rfl,cs,e',fr,hb,λj u G=>by
    rw [ko] at G;split at G
    .simpa [j5] using G
    .cases G⟩
   exact key.cell G
 rcases T with ⟨rfl,rfl⟩|⟨I,c,d,rfl,q,K,L⟩
 . -- nothing is appended
  refine ⟨v,w,?_,(Ext.refl w).vS _,λb hb=>⟨?_,.inl hb⟩,λM' m=>⟨cells,?_,?_⟩⟩
  .rcases f.2 with ⟨rfl,h0⟩|⟨g,off,cap,cur,rfl,Q,p,_⟩
   .simp [Builtin.append_,run_underlying J,sizeOf,typeInfo,hi,Builtin.lenOf,Builtin.firstCells]
   .simp [Builtin.append_,run_underlying J,sizeOf,typeInfo,hi,Builtin.lenOf,Builtin.firstCells,storeCells,p]
  .exact U b hb
  .simpa using f
  .simpa using R.mv m
 .have r:=R.append L;have S:=L.Dd;by_cases hm0:ys.length=0
  . -- a slice without elements
   have Y:ys=[]:=c8 hm0;subst Y;have hn0:d=[]:=c8 (by simpa using q);subst hn0;refine ⟨v,w,?_,(Ext.refl w).vS _,λb hb=>⟨?_,.inl hb⟩,λM' m=>⟨cells,?_,?_⟩⟩
   .rcases f.2 with ⟨rfl,h0⟩|⟨g,off,cap,cur,rfl,Q,p,_⟩
    .simp [Builtin.append_,run_underlying J,sizeOf,typeInfo,hi,Builtin.lenOf,Builtin.firstCells,loadCells,loadCellsFrom]
    .simp [Builtin.append_,run_underlying J,sizeOf,typeInfo,hi,Builtin.lenOf,Builtin.firstCells,storeCells,loadCells,loadCellsFrom,p]
   .exact U b hb
   .simpa using f
   .simpa using R.mv m
  .have y:∀(jw:Nat),jw<xs.length+ys.length->
     (w.drew.alloc (.cells (cells.toArray++d.toArray++Builtin.zeroCells z.cells (grownCap w (xs.length+ys.length) jw e-(xs.length+ys.length))) e)).ownsRow 0 e A.n
      (.slice (some ⟨w.heap.size,0,none⟩) (xs++ys).length (grownCap w (xs.length+ys.length) jw e)) (xs++ys).length (cells++d):=by
    intro jw hold;have hge:=grownCap_ge w (xs.length+ys.length) jw e;have O:grownCap w (xs.length+ys.length) jw e<=maxLen:=grownCap_le_maxLen w _ jw e (by simpa [maxLen] using V);refine ⟨r.1,.inr ⟨w.heap.size,_,_,rfl,qk _,heap_alloc_new w.drew _,by simpa using hge,O,?_,?_⟩⟩
    .simp only [qE,n9,size_zeroCells,X,R.1,q,<-qd];congr 1;omega
    .simp only [sv,bb];rw [<-bb,<-r.1];exact ti
   have H:∀o C,kQ C w (w.drew.alloc o):=λo C=>⟨rfl,rfl,rfl,by simp,λb hb _=>heap_alloc_old w.drew o hb⟩;rcases f.2 with ⟨rfl,h0⟩|⟨g,off,cap,cur,rfl,Q,p,O,N,k⟩
   .have Z:xs=[]:=c8 h0;subst Z;have hc0:cells=[]:=c8 (by simpa using f.1);subst hc0;have B:=run_append_nil (P:=P) w t D e i z J hi hz I ys.length c d (by rw [F];exact q) K (by omega) (by simp at V;omega) (by simp at W;omega);have E:=y 0 (by simp;omega);simp only [qa,j0,qO,s6] at E B;refine ⟨_,_,B,H _ _,λb hb=>?_,λM' m=>⟨_,.of (by simpa using E),by simpa using L.mv m⟩⟩;have:b=w.heap.size:=by simpa [eA,Value.ownBlock] using hb
    subst this;exact ⟨by simp,.inr (ch _)⟩
   .by_cases h:xs.length+ys.length<=cap
    .have s:off+xs.length*i.size+d.length<=cur.size:=by have:(xs.length+ys.length)*A.n<=cap*A.n:=gy _ h;rw [qd] at this;have:=N.1;rw [F,q];omega
     have B:=Uq (P:=P) (w:=w) t D e i J hi g off xs.length cap cur Q I ys.length c d (by rw [F];exact q) K S h s;rw [F] at B;refine ⟨_,_,B,⟨rfl,rfl,rfl,by simp,λb hb hbg=>setRow_other w g b _ (by simpa [eA,Value.ownBlock] using hbg)⟩,λb hb=>?_,λM' m=>⟨cells++d,⟨r.1,.inr ⟨g,off,cap,_,by simp,setRow_heap w g cur _ e _ Q,by simpa using h,O,⟨?_,N.2⟩,?_⟩⟩,r.mv m⟩⟩
     .have:b=g:=by simpa [eA,Value.ownBlock] using hb
      subst this;exact ⟨by simpa using (Array.getElem?_eq_some_iff.1 Q).1,.inl (by simp [eA,Value.ownBlock])⟩
     .simp only [n9,du,cx,cO,de];rw [F] at s;have:=N.1;omega
     .rw [<-r.1,<-k];exact ah8 (by rw [k];exact R.1.symm) (by rw [F] at s;simp only [de];omega)
    .have holds:∀j x,cells[j]? =some x->w.cell? ((⟨g,off,none⟩:Addr).add j)=some x:=λj x G=>(G0 Q k).cell G;have B:=run_append_grow (P:=P) w t D e i z J hi hz ⟨g,off,none⟩ xs.length cap cells (by rw [F];exact R.1) holds I ys.length c d (by rw [F];exact q) K (by omega) (by omega) (growslice_fits (by omega) W);have E:=y cap (by omega);refine ⟨_,_,B,H _ _,λb hb=>?_,λM' m=>⟨_,.of (by simpa using E),r.mv m⟩⟩;have:b=w.heap.size:=by simpa [eA,Value.ownBlock] using hb
     subst this;exact ⟨by simp,.inr (ch _)⟩
theorem vo{M:Nat->Prop}(t g e:TypeId)(i:TypeInfo)(z:Value)(s:P.underlying t=some (.slice e))(hi:P.info? e=some i)(I:i.zero=some z)(J:i.size=A.n)
  (y:z.cells.size=A.n) {a0:Option Addr} {u:Value} {ys:List α} (hx:ca A M w (.slice a0 0 0) []) (O:ca A M w u ys) (d:aI ys.length i.bytes=true):
  ((Builtin.append_ #[t,t] g #[.slice a0 0 0,u]).run P w= .ok (.slice a0 0 0) w/\ys=[])\/
  ∃v' w',(Builtin.append_ #[t,t] g #[.slice a0 0 0,u]).run P w= .ok v' w'/\Ext w w'/\(∀b∈eA v',b<w'.heap.size/\w.heap.size<=b)/\(∀M',Mv M w M' w'->iI A e M' w' v' ys):=by
 simp only [aI,ar] at d;have G:=c5 d.1;have F:=c5 d.2;have o:(u= .slice none 0 0/\ys=[])\/∃l c a,u= .slice (some l) ys.length c/\a.length=ys.length*A.n/\(∀j x,a[j]? =some x->w.cell? (l.add j)=some x)/\dh A M w a ys:=by
  rcases O with ⟨⟨N,rfl⟩,rfl⟩|⟨b,off,cap,cs,e',fr,rfl,R,hb,S,Q,k⟩
  .cases N with
   |none=>exact .inl ⟨rfl,rfl⟩
   |some l=>exact .inr ⟨l,0,[],rfl,by simp,by simp,dh.nil⟩
  .refine .inr ⟨⟨b,off,none⟩,cap,_,rfl,k.1,λj x h=>?_,k⟩;have key:bW w ⟨b,off,none⟩ ((cs.toList.drop off).take (ys.length*A.n)):=⟨rfl,cs,e',fr,hb,λj u h=>by
    rw [ko] at h;split at h
    .simpa [j5] using h
    .cases h⟩
   exact key.cell h
 rcases o with ⟨rfl,rfl⟩|⟨l,c,a,rfl,f,p,q⟩
 .refine .inl ⟨?_,rfl⟩;cases a0 <;> simp [Builtin.append_,run_underlying s,sizeOf,typeInfo,hi,Builtin.lenOf,Builtin.firstCells,storeCells]
 .by_cases C:ys.length=0
  .have B:ys=[]:=c8 C;subst B;refine .inl ⟨?_,rfl⟩;cases a0 <;> simp [Builtin.append_,run_underlying s,sizeOf,typeInfo,hi,Builtin.lenOf,Builtin.firstCells,storeCells,loadCells,loadCellsFrom]
  .refine .inr ?_;have D:=grownCap_ge w ys.length 0 e;have E:grownCap w ys.length 0 e<=maxLen:=grownCap_le_maxLen w _ 0 e (by simpa [maxLen] using F);have r:(w.drew.alloc (.cells (a.toArray++Builtin.zeroCells z.cells (grownCap w ys.length 0 e-ys.length)) e)).ownsRow 0 e A.n
      (.slice (some ⟨w.heap.size,0,none⟩) ys.length (grownCap w ys.length 0 e)) ys.length a:=by
    refine ⟨f,.inr ⟨w.heap.size,_,_,rfl,qk _,heap_alloc_new w.drew _,D,E,?_,?_⟩⟩
    .simp only [qE,n9,size_zeroCells,y,f,<-qd];congr 1;omega
    .simp only [sv];rw [<-f];exact ti
   have K:Ext w (w.drew.alloc (.cells (a.toArray++Builtin.zeroCells z.cells (grownCap w ys.length 0 e-ys.length)) e)):=⟨rfl,rfl,rfl,by simp,λb hb=>heap_alloc_old w.drew _ hb⟩;have L:∀b∈eA (.slice (some ⟨w.heap.size,0,none⟩) ys.length (grownCap w ys.length 0 e)),b<(w.drew.alloc (.cells (a.toArray++Builtin.zeroCells z.cells (grownCap w ys.length 0 e-ys.length)) e)).heap.size/\w.heap.size<=b:=λb hb=>by
    have:b=w.heap.size:=by simpa [eA,Value.ownBlock] using hb
    subst this;exact ⟨by simp,ch _⟩
   cases a0 with
   |none=>
    have k:=run_append_nil (P:=P) w t g e i z s hi I l ys.length c a (by rw [J];exact f) p (by omega) (by omega) (by omega);exact ⟨_,_,k,K,L,λM' m=>⟨a,.of r,q.mv m⟩⟩
   |some H=>
    have k:=run_append_grow (P:=P) w t g e i z s hi I H 0 0 [] (by simp) (by intro j v h;simp at h) l ys.length c a (by rw [J];exact f) p (by omega) (by omega) (growslice_fits (by omega) (by simpa using G));simp only [j0,s6] at k;exact ⟨_,_,by simpa using k,K,L,λM' m=>⟨a,.of r,q.mv m⟩⟩
theorem HK{M:Nat->Prop}{u:Value}{t:TypeId}{bytes:Nat}{R:zh}(D:P.underlying t=some (.slice e))(p:TI P e A.n bytes z)
  (g:z.cells.size=A.n) (k:0<A.n) (hx:au E true x v) (o:au E true y u)
  {xs ys:List α} (q:bU A e M w v xs R) (h:ca A M w u ys) (I:∀b∈R,M b) (c:aI (xs.length+ys.length) bytes=true):
  ∃d R' w',na P E ⟨dst,.call ⟨.builtin .append,#[x,y],#[t,t]⟩,ty,pos,af,none⟩ w d w'/\kQ R w w'/\(∀b∈R',b<w'.heap.size/\(b∈R\/w.heap.size<=b))/\∀M',Mv M w M' w'->bU A e M' w' d (xs++ys) R':=by
 obtain ⟨B,l,F,r,C⟩:=p.out;subst r;rcases q with ⟨rfl,q⟩|⟨rfl,rfl,⟨a0,rfl⟩,i⟩
 .obtain ⟨d,w',j,K,H,s⟩:=J1 t ty e B z D l C F g q h I c k;exact ⟨d,eA d,w',(λn' a f=>by simp [execOp,resolve,invoke,builtin,hx n' a f rfl,o n' a f rfl,j]),K,H,λM' m=>bU.of (s M' m)⟩
 .rcases vo t ty e B z D l C F g i h (by simpa using c) with ⟨j,rfl⟩|⟨d,w',j,J,G,s⟩
  .exact ⟨_,[],w,(λn' a f=>by simp [execOp,resolve,invoke,builtin,hx n' a f rfl,o n' a f rfl,j]),(Ext.refl w).vS _,(λb hb=>by cases hb),λM' m=>bU.empty (i.mv m)⟩
  .exact ⟨d,eA d,w',(λn' a f=>by simp [execOp,resolve,invoke,builtin,hx n' a f rfl,o n' a f rfl,j]),J.vS _,(λb hb=>⟨(G b hb).1,.inr (G b hb).2⟩),λM' m=>bU.of (by simpa using s M' m)⟩
theorem aep(zs:yp):∀m j,j<m*zs.length->((List.replicate m zs).flatten)[j]? =zs[j%zs.length]?
 |0,j,h=>by simp at h
 |m+1,j,h=>by
  rw [qU,List.flatten_cons];by_cases a:j<zs.length
  .rw [cG a,Nat.mod_eq_of_lt a]
  .have b:j-zs.length<m*zs.length:=by rw [s5] at h;omega
   rw [cy (by omega),aep zs m _ b,Nat.mod_eq_sub_mod (by omega:zs.length<=j)]
theorem GI(zs:yp)(a:0<zs.length)(m:Nat):((Array.range (m*zs.length)).map (zs.toArray[· %zs.toArray.size]!))=((List.replicate m zs).flatten).toArray:=by
 apply Array.toList_inj.1;apply qF;intro j;by_cases d:j<m*zs.length
 .have b:j%zs.length<zs.length:=Nat.mod_lt _ a;rw [aep zs m j d];simp only [Array.toList_map,Array.toList_range,p5,List.getElem?_range d,n9,lk];rw [cB b];simp [b]
 .have c:((List.replicate m zs).flatten).length=m*zs.length:=by simp
  rw [j6 (by simp;omega),j6 (by simp at c ⊢; omega)]
theorem amx{t:TypeId}{bytes:Nat}{v:IntKind}{l:Int}{g:α}(H:P.underlying t=some (.slice e))(o:TI P e A.n bytes z)
  (F:z.cells=zs.toArray) (j:zs.length=A.n) (C:0<A.n) (hx:au E true x (.int k l)) (G:au E true y (.int v l)) (L:decide (0<=l)=true) (b:aI l.toNat bytes=true)
  (i:∀M w,A.rd M w zs g):
  ∃w',na P E ⟨dst,.makeSlice t x y,ty,pos,af,none⟩ w (.slice (some ⟨w.heap.size,0,none⟩) l.toNat l.toNat) w'/\Ext w w'/\w.heap.size<w'.heap.size/\∀M,iI A e M w' (.slice (some ⟨w.heap.size,0,none⟩) l.toNat l.toNat) (List.replicate l.toNat g):=by
 obtain ⟨f,p,I,q,h⟩:=o.out;subst q;simp only [aI,ar] at b;have J:=c5 b.1;have r:=c5 b.2;have u:0<=l:=by simpa using L
 have N:((l.toNat:Nat):Int)=l:=by omega
 have s:(f.bytes:Int)*l<=281474976710656:=by
  have K:((f.bytes*l.toNat:Nat):Int)<=281474976710656:=by rw [Nat.mul_comm];omega
  rwa [Int.natCast_mul,N] at K
 have B:=run_make (P:=P) w t e f z H p h k v l l u (qK _) s (by omega);have d:∀m M w',dh A M w' ((List.replicate m zs).flatten) (List.replicate m g):=by
  intro m M w'
  induction m with
  |zero=>simpa using dh.nil
  |succ m ih=>rw [qU,List.flatten_cons,qU];exact dh.cons (i M w') ih
 have c:madeCells z.cells (l.toNat*f.size)=((List.replicate l.toNat zs).flatten).toArray:=by rw [F,I,<-j,<-GI zs (by omega) l.toNat];simp [madeCells]
 rw [c] at B;refine ⟨w.alloc (.cells ((List.replicate l.toNat zs).flatten).toArray e),(λn' a D=>by simp [execOp,hx n' a D rfl,G n' a D rfl,B]),fp _ _,by simp,λM=>?_⟩;exact iI.fresh (heap_alloc_new w _) (by simp) (by simpa using r) (d _ _ _)
end
section
variable {P : Program} {fn : Func} {S : Value -> World -> Prop} {Sp : xc -> World -> Prop} {n : Nat} {E : Env} {w : World}
def lE(P:Program)(E:Env)(w:World)(r:ResultVar)(v:Value):Prop:=
 match r with
 | .tmp t=>look E t=some (true,v)
 | .cell p t=>∃ad,look E p=some (true,.pointer (some ad))/\(loadVar t ad).run P w= .ok v w
theorem lE.t{t:Tmp}(h:look E t=some (true,v)):lE P E w (.tmp t) v:=h
theorem lE.cA{p:Tmp}{t:TypeId}{b:Addr}{size bytes:Nat}(h:look E p=some (true,.pointer (some b)))(c:P.underlying t=some d)(hd:kJ d=true)
  (a:TI P t size bytes z) (e:bW w b vs) (hl:vs.length=size):lE P E w (.cell p t) (.agg vs.toArray):=⟨b,h,PU c hd a e hl⟩
theorem lE.c1{p:Tmp}{t:TypeId}{a:Addr}(h:look E p=some (true,.pointer (some a)))(b:P.underlying t=some d)(hd:kJ d=false)
  (c:bW w a vs) (e:vs[0]? =some v):lE P E w (.cell p t) v:=⟨a,h,PJ b hd (c.cell0 e)⟩
def Xe(a:Act)(r:ResultVar):Sem Value:=
 match r with
 | .tmp t=>pure (a.tmps.getD t undef)
 | .cell p t=>do loadVar t (<-asAddr (a.tmps.getD p undef))
theorem lE.run{r:ResultVar}(c:lE P E w r v){a:Act}(d:Fits n E a):(Xe a r).run P w= .ok v w:=by
 cases r with
 |tmp t=>have:=d.at_ t true v c;simp [Xe,this,yN]
 |cell p t=>
  obtain ⟨e,hl,b⟩:=c;have:=d.at_ p true _ hl;simp [Xe,this,yN,asAddr,b]
theorem Xw(fn:Func)(a:Act):results fn a.tmps=(do let vs <-fn.results.mapM (Xe a);pure (if h:vs.size=1 then vs[0] else .tuple vs)):=rfl
theorem aku(e:fn.results.toList.length=vs.length)(h:∀a,Fits n E a->(fn.results.mapM (Xe a)).run P w= .ok vs.toArray w){v:Value}(b:(if h:vs.length=1 then vs[0] else .tuple vs.toArray)=v)(d:S v w):
  At (BP P fn S Sp) .ret n [] E w:=λa c hd=>by
 show LeavesInM _ _ _ _ _ _ a.defers _ _;rw [hd];refine ⟨v,?_,d⟩;rw [Xw];simp only [Sem.run_bind,h a c,Result.andThen_ok,Sem.run_pure];subst b;simp
theorem WR{r:ResultVar}(b:fn.results= #[r])(e:lE P E w r v)(d:S v w):At (BP P fn S Sp) .ret n [] E w:=
 aku (vs:=[v]) (by rw [b];rfl) (λa c=>by rw [b];simp [e.run c]) (by simp) d
end
structure gY(w w':World):Prop where
 os:w'.os=w.os
 tape:w'.tape=w.tape
 output:w'.output=w.output
theorem gY.refl(w:World):gY w w:=⟨rfl,rfl,rfl⟩
theorem gY.trans{a b c:World}(h:gY a b)(k:gY b c):gY a c:=⟨k.os.trans h.os,k.tape.trans h.tape,k.output.trans h.output⟩
theorem kQ.env{C:zh}{w w':World}(h:kQ C w w'):gY w w':=⟨h.os,h.tape,h.output⟩
structure Item where
 own:zh
 P:(Nat->Prop)->World->Prop
 lt:∀{M w},P M w->∀b∈own,b<w.heap.size
 dm:∀{M M' w w'},P M w->Mv M w M' w'->(∀b∈own,w'.heap[b]? =w.heap[b]?)->gY w w'->P M' w'
 cW:Bool
 hp:cW=true->own=[]
abbrev Ctx:=List Item
def Ctx.M(Γ:Ctx)(b:Nat):Prop:= ∃it,it∈Γ/\b∈it.own
structure Sat(Γ:Ctx)(w:World):Prop where
 all:∀it,it∈Γ->it.P Γ.M w
 sep:∀(i j:Nat) (it jt:Item),Γ[i]? =some it->Γ[j]? =some jt->i≠j->∀b,b∈it.own->b∉jt.own
section
variable {Γ : Ctx} {w w' : World} {it new : Item} {i : Nat}
theorem Sat.nil:Sat [] w:=⟨λ_ h=>(by cases h),λi j it jt h=>(by simp at h)⟩
theorem Sat.at_(h:Sat Γ w)(hi:Γ[i]? =some it):it.P Γ.M w:=h.all it (qf hi)
theorem Ctx.jV(hi:Γ[i]? =some it){b:Nat}(hb:b∈it.own):Γ.M b:=⟨it,qf hi,hb⟩
theorem Sat.lt(h:Sat Γ w){b:Nat}(hb:Γ.M b):b<w.heap.size:=by obtain ⟨it,hi,hb⟩:=hb;exact it.lt (h.all it hi) b hb
theorem Ctx.DZ:Ctx.M (new::Γ) b↔b∈new.own\/Γ.M b:=by
 constructor
 .rintro ⟨it,hi,hb⟩;rcases List.mem_cons.1 hi with rfl|hi
  .exact .inl hb
  .exact .inr ⟨it,hi,hb⟩
 .rintro (hb|⟨it,hi,hb⟩)
  .exact ⟨new,cz .., hb⟩
  .exact ⟨it,cb _ hi,hb⟩
theorem Sat.ext(h:Sat Γ w)(x:Ext w w'):Sat Γ w':=
 ⟨λit hi=>it.dm (h.all it hi) (x.mv _) (λb hb=>x.block b (h.lt ⟨it,hi,hb⟩)) ⟨x.os,x.tape,x.output⟩,h.sep⟩
theorem Sat.ra(h:Sat Γ w)(hi:Γ[i]? =some it)(o:kQ it.own w w')(u:∀b∈new.own,b<w'.heap.size/\(b∈it.own\/w.heap.size<=b))
  (x:∀M',Mv Γ.M w M' w'->(∀b∈it.own,b∉new.own-> ¬M' b)->new.P M' w'):Sat (Γ.set i new) w':=by
 have v:i<Γ.length:=(List.getElem?_eq_some_iff.1 hi).1;have g:∀{j jt},Γ[j]? =some jt->j≠i->∀b∈new.own,b∉jt.own:=λ{j jt} a d b hb c=>by
  rcases (u b hb).2 with n|n
  .exact h.sep j i jt it a hi d b c n
  .have:=h.lt (Ctx.jV a c);omega
 have f:∀{jt},jt∈Γ.set i new->jt=new\/∃j,j≠i/\Γ[j]? =some jt:=λ{jt} a=>by
  obtain ⟨j,a⟩:=List.mem_iff_getElem?.1 a;rw [tt] at a;split at a
  next e=>subst e;simp only [cC] at a;exact .inl a.symm
  next e=>exact .inr ⟨j,λe'=>e e'.symm,a⟩
 have mv:Mv Γ.M w (Ctx.M (Γ.set i new)) w':=by
  refine ⟨o.size,λb hb hn=>⟨?_,o.block b hb (λq=>hn (Ctx.jV hi q))⟩⟩;rintro ⟨jt,a,m⟩;rcases f a with rfl|⟨j,_,a⟩
  .rcases (u b m).2 with n|n
   .exact hn (Ctx.jV hi n)
   .omega
  .exact hn (Ctx.jV a m)
 refine ⟨λjt a=>?_,λj k jt kt a hk p b hb c=>?_⟩
 .rcases f a with rfl|⟨j,d,a⟩
  .refine x _ mv (λb hb r=>?_);rintro ⟨kt,hk,l⟩;rcases f hk with rfl|⟨k,d,hk⟩
   .exact r l
   .exact h.sep k i kt it hk hi d b l hb
  .exact jt.dm (h.at_ a) mv (λb hb=>o.block b (h.lt (Ctx.jV a hb)) (λq=>h.sep j i jt it a hi d b hb q)) o.env
 .rw [tt] at a hk;split at a <;> split at hk
  .omega
  next t s=>subst t;simp only [cC] at a;subst a;exact g hk (λe=>s e.symm) b hb c
  next t s=>subst s;simp only [cC] at hk;subst hk;exact g a (λe=>t e.symm) b c hb
  .exact h.sep j k jt kt a hk p b hb c
theorem Sat.push(h:Sat Γ w)(x:Ext w w')(e:∀b∈new.own,b<w'.heap.size/\w.heap.size<=b)(g:∀M',Mv Γ.M w M' w'->new.P M' w'):Sat (new::Γ) w':=by
 have mv:Mv Γ.M w (Ctx.M (new::Γ)) w':=by
  refine ⟨x.size,λb hb hn=>⟨?_,x.block b hb⟩⟩;rw [Ctx.DZ];rintro (f|f)
  .have:=(e b f).2;omega
  .exact hn f
 refine ⟨λjt a=>?_,λj k jt kt a hk d b hb c=>?_⟩
 .rcases List.mem_cons.1 a with rfl|a
  .exact g _ mv
  .exact jt.dm (h.all jt a) mv (λb hb=>x.block b (h.lt ⟨jt,a,hb⟩)) ⟨x.os,x.tape,x.output⟩
 .cases j with
  |zero=>
   simp only [gx,cC] at a;subst a;cases k with
   |zero=>exact d rfl
   |succ k=>
    simp only [cH] at hk;have:=(e b hb).2;have:=h.lt (Ctx.jV hk c);omega
  |succ j=>
   simp only [cH] at a;cases k with
   |zero=>
    simp only [gx,cC] at hk;subst hk;have:=(e b c).2;have:=h.lt (Ctx.jV a hb);omega
   |succ k=>
    simp only [cH] at hk;exact h.sep j k jt kt a hk (by omega) b hb c
theorem Sat.add(h:Sat Γ w)(hp:new.own=[])(a:new.P Γ.M w):Sat (new::Γ) w:=by refine h.push (Ext.refl w) (λb hb=>absurd (hp▸hb:b∈([]:zh)) qS) (λM' m=>new.dm a m (λb _=>rfl) (gY.refl w))
theorem Sat.map{Γ':Ctx}(h:Sat Γ w)(f:Nat->Nat)(c:∀(j:Nat) (jt:Item),Γ'[j]? =some jt->Γ[f j]? =some jt)(i:∀(j k:Nat) (jt:Item),j≠k->f j=f k->Γ'[j]? =some jt->(Γ'[k]?).isSome=true->jt.cW=true):Sat Γ' w:=by
 have mv:Mv Γ.M w (Ctx.M Γ') w:=Mv.weaken w λb hb=>by obtain ⟨it,hi,hb⟩:=hb;obtain ⟨k,hk⟩:=List.mem_iff_getElem?.1 hi;exact Ctx.jV (c k it hk) hb
 refine ⟨λjt a=>?_,λj k jt kt a hk d b hb g=>?_⟩
 .obtain ⟨k,hk⟩:=List.mem_iff_getElem?.1 a;exact jt.dm (h.at_ (c k jt hk)) mv (λ_ _=>rfl) (gY.refl w)
 .by_cases e:f j=f k
  .have hp:=i j k jt d e a (by rw [hk];rfl);rw [jt.hp hp] at hb;cases hb
  .exact h.sep (f j) (f k) jt kt (c j jt a) (c k kt hk) e b hb g
def reB(Γ:Ctx)(k:Nat):zh->Bool
 |[]=>true
 |i::is=>Nat.blt i k&&(match Γ[i]? with
   |none=>false
   |some it=> !(is.contains i)||it.cW)&&reB Γ k is
def Ctx.re(Γ:Ctx)(k:Nat):zh->Ctx
 |[]=>Γ.drop k
 |i::is=>match Γ[i]? with
   |none=>[]
   |some it=>it::Γ.re k is
def vF(k:Nat):zh->Nat->Nat
 |[],j=>k+j
 |i::_,0=>i
 |_::is,j+1=>vF k is j
theorem IH{k:Nat}:∀(a:zh),reB Γ k a=true->∀(j:Nat) (jt:Item),(Γ.re k a)[j]? =some jt->Γ[vF k a j]? =some jt
 |[],_,j,jt,h=>by simpa [Ctx.re,vF] using h
 |i::a,hB,j,jt,h=>by
  simp only [reB,ar] at hB;simp only [Ctx.re] at h;cases hi:Γ[i]? with
  |none=>simp [hi] at hB
  |some it=>
   simp only [hi] at h;cases j with
   |zero=>simp only [gx,cC] at h;subst h;exact hi
   |succ j=>simp only [cH] at h;exact IH a hB.2 j jt h
theorem ajn(k:Nat):∀(a:zh) (j:Nat),(vF k a j∈a/\j<a.length)\/(k<=vF k a j/\vF k a j=k+(j-a.length)/\a.length<=j)
 |[],j=> .inr ⟨by simp [vF],by simp [vF],by simp⟩
 |i::a,0=> .inl ⟨by simp [vF],by simp⟩
 |i::a,j+1=>by
  rcases ajn k a j with ⟨h,d⟩|⟨c,e,b⟩
  .exact .inl ⟨by simp [vF,h],by simpa using d⟩
  .exact .inr ⟨by simpa [vF] using c,by simp only [vF,c9];omega,by simpa using b⟩
theorem YW{k:Nat}:∀(b:zh),reB Γ k b=true->∀(j a:Nat) (it:Item),j<a->vF k b j=vF k b a->Γ[vF k b j]? =some it->it.cW=true
 |[],_,j,a,it,hlt,e,_=>by simp [vF] at e;omega
 |i::b,hB,j,a,it,hlt,e,hi=>by
  have f:=hB;simp only [reB,ar] at hB;cases a with
  |zero=>omega
  |succ a=>
   cases j with
   |zero=>
    simp only [vF] at e hi;simp only [hi,dk] at hB;rcases hB.1.2 with h|h
    .have d:i<k:=by simpa using hB.1.1
     rcases ajn k b a with ⟨c,_⟩|⟨c,_⟩
     .rw [<-e] at c;have:b.contains i=true:=by simpa using c
      rw [this] at h;cases h
     .omega
    .exact h
   |succ j=>exact YW b hB.2 j a it (by omega) (by simpa [vF] using e) (by simpa [vF] using hi)
theorem Sat.re(h:Sat Γ w)(k:Nat)(a:zh)(c:reB Γ k a=true):Sat (Γ.re k a) w:=
 h.map (vF k a) (IH a c) λj d jt f e i g=>by
  rcases Nat.lt_or_gt_of_ne f with b|b
  .exact YW a c j d jt b e (IH a c j jt i)
  .obtain ⟨kt,hk⟩:=Option.isSome_iff_exists.1 g;have m:=IH a c j jt i;have l:=IH a c d kt hk;rw [e,l] at m;cases m;exact YW a c d j jt b e.symm l
end
def Mj{α:Type}(A:eD α)(vs:yp)(x:α):Item where
 own:=[]
 P M w:=A.rd M w vs x
 lt _ b hb:=by cases hb
 dm h m _ _:=A.mv h m
 cW:=true
 hp _:=rfl
def box(b:Nat)(e:TypeId)(vs:yp):Item where
 own:=[b]
 P _ w:=fM w b e vs
 lt h c hc:=by
  have:c=b:=by simpa using hc
  subst this;exact h.lt
 dm h _ k _:=fM.dm h (k b (by simp))
 cW:=false
 hp h:=by cases h
def iJ{α:Type}(A:eD α)(e:TypeId)(v:Value)(xs:List α)(R:zh):Item where
 own:=R
 P M w:=bU A e M w v xs R
 lt h:=h.lt
 dm h m k _:=h.dm k m
 cW:=false
 hp h:=by cases h
def YF(w:World)(b:Nat)(l:aD)(pos:Nat):Prop:=w.heap[b]? =some (.stringIter ⟨l.toArray⟩ pos)
def iter(b:Nat)(l:aD)(pos:Nat):Item where
 own:=[b]
 P _ w:=YF w b l pos
 lt h c hc:=by
  have:c=b:=by simpa using hc
  subst this;exact (Array.getElem?_eq_some_iff.1 h).1
 dm h _ k _:=(k b (by simp)).trans h
 cW:=false
 hp h:=by cases h
def elem(g:Bool)(p:Addr)(vs:yp):Item where
 own:=[]
 P M w:=g=true-> ¬M p.block/\bW w p vs
 lt _ b hb:=by cases hb
 dm {M M' w w'} h m _ _:=λhg=>by obtain ⟨h1,hs,cs,t,fr,hb,hc⟩:=h hg;obtain ⟨h2,h3⟩:=m.2 _ (Array.getElem?_eq_some_iff.1 hb).1 h1;exact ⟨h2,hs,cs,t,fr,h3.trans hb,hc⟩
 cW:=true
 hp _:=rfl
def kept(w0:World)(M0:Nat->Prop):Item where
 own:=[]
 P M w:=gY w0 w/\w0.heap.size<=w.heap.size/\∀b,b<w0.heap.size-> ¬M0 b-> ¬M b/\w.heap[b]? =w0.heap[b]?
 lt _ b hb:=by cases hb
 dm h m _ e:=⟨h.1.trans e,cK h.2.1 m.1,λb hb hn=>by obtain ⟨h1,h2⟩:=h.2.2 b hb hn;obtain ⟨h3,h4⟩:=m.2 b (eW hb h.2.1) h1;exact ⟨h3,h4.trans h2⟩⟩
 cW:=true
 hp _:=rfl
section
variable {Γ : Ctx} {w w' : World} {α : Type} {A : eD α} {i : Nat}
theorem Sat.Mj(h:Sat Γ w){vs:yp}{x:α}(hi:Γ[i]? =some (Mj A vs x)):A.rd Γ.M w vs x:=h.at_ hi
theorem atd{M:Nat->Prop}{xs:List α}(h:(Mr A).rd M w [v] xs):ca A M w v xs:=by
 obtain ⟨u,a,h⟩:=h;have:v=sl u:=by simpa using a
 rw [this];exact h
theorem Sat.sl(h:Sat Γ w){v:Value}{xs:List α}(hi:Γ[i]? =some (Go.Proofs.YthhmkmmmbcjghaaGreatDoor.Mj (Mr A) [v] xs)):ca A Γ.M w v xs:=atd (h.Mj hi)
theorem Sat.box(h:Sat Γ w){b:Nat}{e:TypeId}{vs:yp}(hi:Γ[i]? =some (box b e vs)):fM w b e vs:=h.at_ hi
theorem Sat.own(h:Sat Γ w){e:TypeId}{v:Value}{xs:List α}{R:zh}(hi:Γ[i]? =some (iJ A e v xs R)):bU A e Γ.M w v xs R:=h.at_ hi
theorem Sat.iter(h:Sat Γ w){b:Nat}{l:aD}{pos:Nat}(hi:Γ[i]? =some (iter b l pos)):YF w b l pos:=h.at_ hi
theorem Sat.kept(h:Sat Γ w){a:World}{c:Nat->Prop}(hi:Γ[i]? =some (kept a c)):gY a w/\a.heap.size<=w.heap.size/\∀b,b<a.heap.size-> ¬c b-> ¬ Γ.M b/\w.heap[b]? =a.heap[b]? :=h.at_ hi
theorem Sat.freeze(h:Sat Γ w){e:TypeId}{v:Value}{xs:List α}{R:zh}(hi:Γ[i]? =some (iJ A e v xs R)):Sat (Γ.set i (Go.Proofs.YthhmkmmmbcjghaaGreatDoor.Mj (Mr A) [v] xs)) w:=
 h.ra hi ((Ext.refl w).vS _) (λb hb=>by cases hb) (λM' m hn=>((h.own hi).freeze (λb hb=>hn b hb (λhb=>by cases hb)) m).rsl)
end
def ak3(M:Nat->Prop)(w:World):List Item->Prop
 |[]=>True
 |it::l=>it.P M w/\ak3 M w l
theorem alQ{Γ:Ctx}{b:Nat}:∀(new:List Item),new.all (·.cW)=true->Ctx.M (new++Γ) b->Γ.M b
 |[],_,h=>h
 |it::l,hp,h=>by
  simp only [qq,ar] at hp;rcases Ctx.DZ.1 h with h|h
  .rw [it.hp hp.1] at h;cases h
  .exact alQ l hp.2 h
theorem Sat.aoM{Γ:Ctx}{w:World}(h:Sat Γ w):∀(new:List Item),new.all (·.cW)=true->ak3 Γ.M w new->Sat (new++Γ) w
 |[],_,_=>h
 |it::l,hp,hP=>by have a:=hp;simp only [qq,ar] at hp;have c:=h.aoM l hp.2 hP.2;exact c.add (it.hp hp.1) (it.dm hP.1 (Mv.weaken w λb hb=>alQ l hp.2 hb) (λ_ _=>rfl) (gY.refl w))
theorem dO{x:Int}(h: -9223372036854775808<=x/\x<=9223372036854775807):i64.wrap x=x:=by rw [IntKind.wrap_i64];omega
theorem w32{x:Int}(h: -2147483648<=x/\x<=2147483647):i32.wrap x=x:=by rw [IntKind.wrap_i32];omega
def strOf(xs:zg):aD:=xs.map λn=>UInt8.ofNat n.toNat
section
variable {P : Program} {E : Env} {g : Bool} {w : World}
theorem dh.ints{M:Nat->Prop}{cs:yp}{xs:zg}(h:dh (RI k) M w cs xs):cs=xs.map (Value.int k):=by
 have hl:=h.1;simp only [RI,uK] at hl;apply List.ext_getElem (by simpa using hl);intro i c b;have hi:i<xs.length:=by omega
 have a:=h.2 i hi;simp only [RI,uK] at a;have:cs[i]=((cs.drop i).take 1)[0]'(by simp;omega):=by simp
 rw [this];simp only [a,List.getElem_cons_zero,List.getElem_map]
theorem arW{M:Nat->Prop}{xs:zg}{c d:TypeId}(j:P.underlying c=some (.slice e))(k:P.underlying e=some (.int .u8))(hd:P.underlying d=some .string)
  (h:ca (RI .u8) M w v xs):(convert c d v).run P w= .ok (S (strOf xs)) w:=by
 rcases h with ⟨⟨a,rfl⟩,rfl⟩|⟨b,off,cap,cs,e',fr,rfl,q,hb,p,o,l⟩
 .cases a with
  |none=>exact run_convert_bytes_nil w c e j k 0 0 d hd
  |some a=>
   rw [run_convert_bytes_string w c d e _ 0 0 j k hd];simp [Conv.bytesToString,loadCells,loadCellsFrom,strOf,S]
   try rfl
 .have hi:=l.ints;have m:=l.1;refine run_convert_bytes_arg w c e j k b off xs.length cap xs rfl (λi f=>?_) d hd;have g:(List.take (xs.length*(RI u8).n) (List.drop off cs.toList))[i]? =some (.int .u8 xs[i]):=by rw [hi];simp [f]
  rw [ko] at g;split at g
  .rw [j5] at g;simp only [World.cell?,hb];simpa [List.getD,f] using g
  .cases g
theorem arV{M:Nat->Prop}{dst:zb}{ty:TypeId}{pos:String}{af:zd}{gd:Option (Nat×Bool)}{xs:zg}{b d:TypeId}(f:P.underlying b=some (.slice e))(j:P.underlying e=some (.int .u8))(hd:P.underlying d=some .string)
  (hx:au E g x v) (h:g=true->ca (RI .u8) M w v xs):bq P E g ⟨dst,.convert b d x,ty,pos,af,gd⟩ w (S (strOf xs)):=
 λn a i c=>by simp [execOp,hx n a i c,arW f j hd (h c)]
end
section
variable {P : Program} {E : Env} {w : World} {g : Bool}
variable {dst : zb} {ty : TypeId} {pos : String} {af : zd} {gd : xa}
def pD(k:IntKind)(x y:Int):Int:=x/2^min y.toNat k.bits
def cu(k:IntKind)(x y:Int):Int:=k.wrap (x*2^min y.toNat k.bits)
theorem asM{b:IntKind}{l:Int}{t:TypeId}(hx:au E g x (.int k m))(d:au E g y (.int b l))(f:g=true->decide (0<=l)=true):
  bq P E g ⟨dst,.binOp .shr t x y t',ty,pos,af,gd⟩ w (.int k (pD k m l)):=λn a e c=>
 cP (P:=P) hx d (by rw [Sem.run_bind,er rfl,Result.andThen_ok];show (Op.shift .shr k m b l).run P w=_;rw [shift_shr_any k b m l (qG (f c))];rfl) n a e c
theorem ar3{b:IntKind}{l:Int}{t:TypeId}(hx:au E g x (.int k m))(d:au E g y (.int b l))(f:g=true->decide (0<=l)=true):
  bq P E g ⟨dst,.binOp .shl t x y t',ty,pos,af,gd⟩ w (.int k (cu k m l)):=λn a e c=>
 cP (P:=P) hx d (by rw [Sem.run_bind,er rfl,Result.andThen_ok];show (Op.shift .shl k m b l).run P w=_;rw [shift_shl_any k b m l (qG (f c))];rfl) n a e c
def tN(k:IntKind)(x y:Int):Int:=k.wrap ((BitVec.ofInt k.bits x &&& BitVec.ofInt k.bits y).toNat:Nat)
def fe(k:IntKind)(x y:Int):Int:=k.wrap ((BitVec.ofInt k.bits x ||| BitVec.ofInt k.bits y).toNat:Nat)
def aaD(k:IntKind)(x y:Int):Int:=k.wrap ((BitVec.ofInt k.bits x ^^^ BitVec.ofInt k.bits y).toNat:Nat)
def bS(k:IntKind)(x y:Int):Int:=k.wrap ((BitVec.ofInt k.bits x &&& ~~~ BitVec.ofInt k.bits y).toNat:Nat)
theorem apf{l:Int}{t:TypeId}(hx:au E g x (.int k m))(a:au E g y (.int k l)):
  bq P E g ⟨dst,.binOp .and t x y t',ty,pos,af,gd⟩ w (.int k (tN k m l)):=GX (.inl rfl) hx a (λ_=>rfl)
theorem arA{l:Int}{t:TypeId}(hx:au E g x (.int k m))(a:au E g y (.int k l)):
  bq P E g ⟨dst,.binOp .or t x y t',ty,pos,af,gd⟩ w (.int k (fe k m l)):=GX (.inr (.inl rfl)) hx a (λ_=>rfl)
theorem aof{l:Int}{t:TypeId}(hx:au E g x (.int k m))(a:au E g y (.int k l)):
  bq P E g ⟨dst,.binOp .xor t x y t',ty,pos,af,gd⟩ w (.int k (aaD k m l)):=GX (.inr (.inr (.inl rfl))) hx a (λ_=>rfl)
theorem ahd{l:Int}{t:TypeId}(hx:au E g x (.int k m))(a:au E g y (.int k l)):
  bq P E g ⟨dst,.binOp .andNot t x y t',ty,pos,af,gd⟩ w (.int k (bS k m l)):=GX (.inr (.inr (.inr rfl))) hx a (λ_=>rfl)
def Mp(x y:aD):Bool:=Op.bytesLess x y
theorem asz{m l:aD}{t:TypeId}(hx:au E g x (S m))(a:au E g y (S l)):
  bq P E g ⟨dst,.binOp .lss t x y t',ty,pos,af,gd⟩ w (.bool (Mp m l)):=cP hx a (by simp [eqGuard,S,binOp,Op.stringOp,Mp])
theorem arH{m l:aD}{t:TypeId}(hx:au E g x (S m))(a:au E g y (S l)):
  bq P E g ⟨dst,.binOp .leq t x y t',ty,pos,af,gd⟩ w (.bool (Mp m l||m==l)):=cP hx a (by simp [eqGuard,S,binOp,Op.stringOp,Mp])
theorem asx{m l:aD}{t:TypeId}(hx:au E g x (S m))(a:au E g y (S l)):
  bq P E g ⟨dst,.binOp .gtr t x y t',ty,pos,af,gd⟩ w (.bool (!(Mp m l||m==l))):=cP hx a (by simp [eqGuard,S,binOp,Op.stringOp,Mp])
theorem asc{m l:aD}{t:TypeId}(hx:au E g x (S m))(a:au E g y (S l)):
  bq P E g ⟨dst,.binOp .geq t x y t',ty,pos,af,gd⟩ w (.bool (!(Mp m l))):=cP hx a (by simp [eqGuard,S,binOp,Op.stringOp,Mp])
def As:Value->Bool
 | .slice none _ _=>true
 |_=>false
theorem ahm{t:TypeId}{len:Nat}(c:P.underlying t=some (.slice e))(hx:au E g x v)(hl:SV v len)(b:au E g y (.slice none 0 0)):
  bq P E g ⟨dst,.binOp .eql t x y t',ty,pos,af,gd⟩ w (.bool (As v)):=by
 obtain ⟨a,cap,rfl⟩:=hl;exact cP hx b (by cases a <;> simp [eqGuard,binOp,run_equal_slice_nil w t e _ _ _ c,As])
theorem ahF{t:TypeId}{len:Nat}(c:P.underlying t=some (.slice e))(hx:au E g x v)(hl:SV v len)(b:au E g y (.slice none 0 0)):
  bq P E g ⟨dst,.binOp .neq t x y t',ty,pos,af,gd⟩ w (.bool (!As v)):=by
 obtain ⟨a,cap,rfl⟩:=hl;exact cP hx b (by cases a <;> simp [eqGuard,binOp,run_equal_slice_nil w t e _ _ _ c,As])
end
def bV(l:aD):zg:=l.map λb=>(b.toNat:Int)
theorem O8{w:World}{M:Nat->Prop}:∀l:aD,dh (RI .u8) M w (l.map λb=>Value.int .u8 (b.toNat:Int)) (bV l)
 |[]=>dh.nil
 |b::l=>dh.cons (A:=RI .u8) (c:=[Value.int .u8 (b.toNat:Int)]) rfl (O8 l)
section
variable {P : Program} {E : Env} {w : World} {dst : zb} {ty : TypeId} {pos : String} {af : zd}
theorem aqg{l:aD}{g k:TypeId}(m:P.underlying g=some .string)(hd:P.underlying k=some (.slice e))(p:P.underlying e=some (.int .u8))(hx:au E true x (S l)):
  ∃v' w',na P E ⟨dst,.convert g k x,ty,pos,af,none⟩ w v' w'/\Ext w w'/\w.heap.size<w'.heap.size/\(∀M:Nat->Prop,¬M w.heap.size->ca (RI .u8) M w' v' (bV l)):=by
 have d:=run_bytes_of_string (P:=P) w g k e ⟨l.toArray⟩ m hd p;have c:(w.drew.alloc (.cells (bytesRow ⟨l.toArray⟩ (grownCap w l.length 0 e)) e ((bytesRow ⟨l.toArray⟩ (grownCap w l.length 0 e)).size,(bytesRow ⟨l.toArray⟩ (grownCap w l.length 0 e)).size+1))).heap[w.heap.size]? =some (.cells (bytesRow ⟨l.toArray⟩ (grownCap w l.length 0 e)) e ((bytesRow ⟨l.toArray⟩ (grownCap w l.length 0 e)).size,(bytesRow ⟨l.toArray⟩ (grownCap w l.length 0 e)).size+1)):=by show (w.heap.push _)[w.heap.size]? =_;simp
 have i:=fp w.drew (.cells (bytesRow ⟨l.toArray⟩ (grownCap w l.length 0 e)) e ((bytesRow ⟨l.toArray⟩ (grownCap w l.length 0 e)).size,(bytesRow ⟨l.toArray⟩ (grownCap w l.length 0 e)).size+1));have j:=(Array.getElem?_eq_some_iff.1 c).1;refine ⟨.slice (some ⟨w.heap.size,0,none⟩) l.length (grownCap w l.length 0 e),_,?_,⟨i.os,i.tape,i.output,i.size,i.block⟩,j,λM q=>?_⟩
 .intro n a o;rw [my] at d;simp only [execOp,hx n a o rfl];simp [S,d]
 .have h:l.length<=grownCap w l.length 0 e:=grownCap_ge w l.length 0 e;have f:(bV l).length=l.length:=by simp [bV]
  refine .inr ⟨w.heap.size,0,grownCap w l.length 0 e,bytesRow ⟨l.toArray⟩ (grownCap w l.length 0 e),e,_,by rw [f],q,c,by rw [f];exact h,?_,?_⟩
  .simp [bytesRow,RI,my];omega
  .have:((bytesRow ⟨l.toArray⟩ (grownCap w l.length 0 e)).toList.drop 0).take ((bV l).length*(RI .u8).n)=l.map λb=>Value.int .u8 (b.toNat:Int):=by simp [bytesRow,bV,RI]
   rw [this];exact O8 l
end
section
variable {P : Program} {ρ : za} {Q : bD} {n : Nat} {D : x3} {E : Env} {w : World} {ops : zc} {rest : zf} {Γ : Ctx} {i : Nat}
variable {d : Tmp} {ty : TypeId} {pos : String} {af : zd}
theorem aoR{t:TypeId}{size bytes:Nat}{z:Value}{zs:yp}(e:Sat Γ w)(a:TI P t size bytes z)(c:z.cells=zs.toArray)(hn:Nat.blt d n=true)
  (h:∀b w',Sat (box b t zs::Γ) w'->WL P ρ ops Q n D rest ((d,true,.pointer (some ⟨b,0,none⟩))::E) w'):
  WL P ρ ops Q n D (⟨some d,.alloc t,ty,pos,af,none⟩::rest) E w:=
 xm (Kp a c) rfl rfl rfl hn (h _ _ (e.push (fp _ _) (λb hb=>by
  have:b=w.heap.size:=by simpa [box] using hb
  subst this;simp) (λ_ _=>heap_alloc_new w _)))
theorem amu{u:Value}{t:TypeId}{bytes:Nat}{R:zh}{xs ys:List α}(s:Sat Γ w)(i:Nat)(hi:Γ[i]? =some (iJ A e v xs R))
  (F:P.underlying t=some (.slice e)) (q:TI P e A.n bytes z) (k:z.cells.size=A.n) (f:Nat.blt 0 A.n=true) (hx:au E true x v) (C:au E true y u) (l:ca A Γ.M w u ys)
  (c:aI (xs.length+ys.length) bytes=true) (hn:Nat.blt d n=true)
  (h:∀(p:gV) g w',Sat (Γ.set i (iJ A e (sl p) (xs++ys) g)) w'->WL P ρ ops Q n D rest ((d,true,sl p)::E) w'):
  WL P ρ ops Q n D (⟨some d,.call ⟨.builtin .append,#[x,y],#[t,t]⟩,ty,pos,af,none⟩::rest) E w:=by
 obtain ⟨j,g,w',G,K,I,J⟩:=HK (P:=P) (E:=E) (w:=w) (dst:=some d) (ty:=ty) (pos:=pos) (af:=af) F q k (by simpa using f) hx C (s.own hi) l (λb hb=>Ctx.jV hi hb) c;have B:=s.ra hi (new:=iJ A e j (xs++ys) g) K I (λM' m _=>J M' m);have o:∃p,j=sl p:=by have r:i<Γ.length:=(List.getElem?_eq_some_iff.1 hi).1;have H:=B.own (i:=i) (A:=A) (e:=e) (v:=j) (xs:=xs++ys) (R:=g) (by rw [qL r]);obtain ⟨a,cap,o⟩:=H.len;exact ⟨(a,_,cap),o⟩
 obtain ⟨p,rfl⟩:=o;exact xm G rfl rfl rfl hn (h _ _ _ B)
def ue(l:aD)(pos:Nat):Int:=((Utf8.decode ⟨l.toArray⟩ pos).1:Nat)
def lY(l:aD)(pos:Nat):Nat:=pos+(Utf8.decode ⟨l.toArray⟩ pos).2
end
variable {J : World -> Prop} {i j : Nat} {oj : Oper}
def DG(Q:bD)(c:xc)(D:x3)(w:World):Prop:= ∀a,a.defers=D->Q (.panic c) a w
def QN(Q:bD):bD:=λe a w=>match e with|.panic c=>DG Q c a.defers w|e=>Q e a w
theorem arw{Q:bD}{c:xc}{D:x3}{w:World}(h:DG Q c D w):DG (Exit.inBlock i Q) c D w:=h
theorem DG.at{Q:bD}{c:xc}{D:x3}{w:World}{n:Nat}{E:Env}(h:DG Q c D w):At Q (.panic c) n D E w:=λa _ hd=>h a hd
theorem jq(a:Act)(d:zb)(v:Value):(a.put d v).defers=a.defers:=by cases d <;> rfl
section
variable {P : Program} {ρ : za} {ops : zc} {md : Region.Mode}
def YJ(P:Program)(ops:zc)(J:World->Prop)(o:Oper)(v:Value)(a:Act):Prop:=
 (Region.wanted o (yielded ops a.tmps)=true/\∀w,J w->(execOp a.eval o).run P w= .ok (.value v) w)\/
 (Region.wanted o (yielded ops a.tmps)=false/\v=undef)
theorem YJ.wpOp{a:Act}{Q:bD}(hi:ops[i]? =some o)(hp:jC o=true)(c:YJ P ops J o v a)
  {K:Act->World->Prop} {w:World} (e:J w) (h:K (a.put o.dst v) w):wpOpIn (FW ρ) 0 P ops Q i K a w:=by
 unfold Go.wpOpIn;simp only [hi];rcases c with ⟨b,d⟩|⟨b,rfl⟩
 .simp only [b,oi];exact lW hp (by rw [d w e];exact h)
 .simp only [b,cL,j3];exact ⟨λ_ _=>trivial,h⟩
theorem YJ.of_same{a b:Act}(c:YJ P ops J o v a)(e:execOp b.eval o=execOp a.eval o)
  (d:Region.wanted o (yielded ops b.tmps)=Region.wanted o (yielded ops a.tmps)):YJ P ops J o v b:=by
 unfold YJ at*;rw [e,d];exact c
theorem anI{g:Oper}{Q:bD}(E:ops[j]? =some oj)(q:jC oj=true)(z:g.apart ops oj=true)
  (y:∀cs b,g.op≠ .select cs b) (t:∀cs b,oj.op≠ .select cs b) (A:∀c a w,Q (.panic c) (a.put g.dst v) w->Q (.panic c) a w) {K:Act->World->Prop} {a:Act} {w:World}
  (i:YJ P ops J g v a) (h:wpOpIn (FW ρ) 0 P ops Q j K (a.put g.dst v) w):
  wpOpIn (FW ρ) 0 P ops Q j (λD w'=>YJ P ops J g v D/\K (D.put g.dst v) w') a w:=by
 obtain ⟨C,o,B⟩:=Oper.apart_spec z;have dm:∀(a:Act),YJ P ops J g v a->∀u,YJ P ops J g v (a.put oj.dst u):=λa i u=>
  i.of_same (execOp_put g y a oj.dst u B) (wanted_put g a oj.dst u B)
 have m:∀d,YJ P ops J g v { a with defers:=d::a.defers }:=λd=>i.of_same rfl rfl;unfold wpOpIn at*;simp only [E] at*;rw [wanted_put oj a g.dst v C] at h;split
 .rename_i s;simp only [s,oi] at h;refine lW q ?_;have h:=h.2;rw [show (FW ρ).round=ρ from rfl,K7 q,execOp_put oj t a g.dst v C] at h;generalize (execOp a.eval oj).run P w=r at*;cases r with
  |ok n w'=>
   cases n <;> simp only [Oper.uponIn] at h ⊢
   case value u=>exact ⟨dm a i u,by rw [<-Act.put_comm a v u o];exact h⟩
   case skip=>exact ⟨dm a i _,by rw [<-Act.put_comm a v undef o];exact h⟩
   case defer d=>
    refine ⟨dm _ (m d) _,?_⟩;rw [<-Act.put_comm _ v undef o,<-Act.put_defers];exact h
   case enter f args=>
    refine ⟨h.1,CallsIn.mono h.2 λe p k=>?_⟩;cases e with
    |returned u=>exact ⟨dm a i u,by rw [<-Act.put_comm a v u o];exact k⟩
    |panicked c=>exact A _ _ _ k
    |outgrown=>exact k
   case row row args=>exact ⟨h.1,RowsIn.mono h.2 λu p k=>⟨dm a i u,by rw [<-Act.put_comm a v u o];exact k⟩⟩
   case round l f tmps assign body=>
    refine ⟨h.1,RoundIn.mono h.2 λe p k=>?_⟩;cases e with
    |returned u=>exact ⟨dm a i u,by rw [<-Act.put_comm a v u o];exact k⟩
    |panicked c=>exact A _ _ _ k
    |outgrown=>exact k
  |halt x w'=>
   cases x <;> simp only [Oper.uponIn] at h ⊢
   case panic u=>exact A _ _ _ h
 next s=>simp only [s] at h;exact ⟨λ_ _=>trivial,dm a i _,by rw [<-Act.put_comm a v undef o];exact h.2⟩
def gJ:List Edge->Nat
 |[]=>0
 |e::l=>bif Region.binds .any e then Nat.lor (Nat.shiftLeft 1 e.on) (gJ l) else gJ l
theorem nZ:∀(l:List Edge) (i:Nat),(gJ l).testBit i=l.any (λe=>Region.binds .any e&&e.on==i)
 |[],i=>by simp [gJ]
 |e::l,i=>by
  simp only [gJ,List.any_cons];cases h:Region.binds .any e
  .simp [nZ l i]
  .have c:(Nat.lor (Nat.shiftLeft 1 e.on) (gJ l)).testBit i=((1 <<< e.on) ||| gJ l).testBit i:=rfl;rw [cw,c,Nat.testBit_or,nZ l i,Nat.testBit_shiftLeft];simp only [j2];congr 1;by_cases hi:e.on=i
   .subst hi;simp
   .have b:(e.on==i)=false:=by simpa using hi
    rw [b];by_cases a:e.on<=i
    .obtain ⟨n,hn⟩:∃n,i-e.on=n+1:=⟨i-e.on-1,by omega⟩;rw [hn];simp [Nat.testBit_succ]
    .simp [a]
def H6:zf->Nat->Nat->Nat
 |[],_,m=>m
 |o::os,k,m=>bif (H6 os (k+1) m).testBit k then Nat.lor (gJ o.after.toList) (H6 os (k+1) m) else H6 os (k+1) m
def waits(md:Region.Mode)(ops:zc)(k i:Nat):Bool:=match ops[k]? with
 |some o=>(o.after.any λe=>Region.binds md e&&e.on==i)||(match md with
  | .any=>(H6 ops.toList 0 (gJ o.after.toList)).testBit i
  |_=>false)
 |none=>false
def wI(ops:zc)(listed:ze):Prop:= ∀(l:Nat) (ol:Oper),ops[l]? =some ol->listed[l]? =some true->∀e∈ol.after.toList,Region.binds .any e=true->listed[e.on]? =some true
theorem Wq{a:ze}(d:wI ops a){m:Nat}(c:∀i,m.testBit i=true->a[i]? =some true):∀(os:zf) (k:Nat),(∀j,os[j]? =ops[k+j]?)->∀i,(H6 os k m).testBit i=true->a[i]? =some true
 |[],k,_,i,h=>c i h
 |o::os,k,ho,i,h=>by
  have ih:=Wq d c os (k+1) (λj=>by have:=ho (j+1);rw [cH] at this;rw [this];congr 1;omega);unfold H6 at h;cases hk:(H6 os (k+1) m).testBit k with
  |false=>rw [hk] at h;exact ih i h
  |true=>
   rw [hk] at h;have b:(Nat.lor (gJ o.after.toList) (H6 os (k+1) m)).testBit i=true:=h;have e:(Nat.lor (gJ o.after.toList) (H6 os (k+1) m)).testBit i=((gJ o.after.toList).testBit i||(H6 os (k+1) m).testBit i):=Nat.testBit_or ..;rw [e,dk] at b;rcases b with b|b
   .rw [nZ] at b;obtain ⟨e,f,hb⟩:=List.any_eq_true.1 b;simp only [ar,eT] at hb;have:=d k o (by have:=ho 0;simpa using this.symm) (ih k hk) e f hb.1;rwa [hb.2] at this
   .exact ih i b
abbrev fv:=List (Nat×(World->Prop))
def iq:fv->World->Prop
 |[],_=>True
 |p::l,w=>p.2 w/\iq l w
def still(md:Region.Mode)(ops:zc)(k:Nat)(l:fv):fv:=l.filter λp=> !waits md ops k p.1
theorem adx{w:World}:iq [] w:=trivial
theorem mX{f:Nat×(World->Prop)->Bool}{w:World}:∀{l:fv},iq l w->iq (l.filter f) w
 |[],_=>trivial
 |p::l,h=>by
  rw [qo];split
  .exact ⟨h.1,mX h.2⟩
  .exact mX h.2
def Hc(P:Program)(ρ:za)(md:Region.Mode)(ops:zc)(Q:bD):Nat->fv->ze->Act->World->Prop
 |0,pend,listed,a,w=>iq pend w/\Region.ready md ops listed=[]/\Q .normal a w
 |fuel+1,pend,listed,a,w=>iq pend w/\(Region.ready md ops listed=[]->Q .normal a w)/\
  ∀i∈Region.ready md ops listed,wpOpIn (FW ρ) 0 P ops Q i (Hc P ρ md ops Q fuel (still md ops i pend) (listed.setIfInBounds i true)) a w
theorem aew{Q:bD}(p:Nat×(World->Prop)):∀(c:Nat) (pend:fv) (b:ze) (a:Act) (w:World),Hc P ρ md ops Q c (p::pend) b a w->Hc P ρ md ops Q c pend b a w
 |0,_,_,_,_,h=>⟨h.1.2,h.2⟩
 |c+1,pend,b,a,w,h=>⟨h.1.2,h.2.1,λi hi=>wpOpIn_mono (λe w' d=>by
   unfold still at d;rw [qo] at d;split at d
   .exact aew p c _ _ _ _ d
   .exact d) (h.2.2 i hi)⟩
theorem ai2{Q:bD}:∀(c:Nat) (pend:fv) (b:ze) (a:Act) (w:World),Hc P ρ md ops Q c pend b a w->wpAnyIn (FW ρ) 0 P md ops Q c b a w
 |0,_,_,_,_,h=>h.2
 |c+1,_,_,_,_,h=>⟨h.2.1,λi hi=>wpOpIn_mono (λf e d=>ai2 c _ _ _ _ d) (h.2.2 i hi)⟩
theorem ahO{k:Nat}{a:ze}(hk:ops[k]? =some o)(g:wI ops a)(d:∀e∈o.after,Region.binds .any e=true->a[e.on]? =some true)(hi:a[i]? ≠some true):waits .any ops k i=false:=by
 unfold waits;simp only [hk];rw [mi];intro b;rw [dk] at b;rcases b with b|b
 .obtain ⟨e,c,hb⟩:=Array.any_eq_true'.1 b;simp only [ar,eT] at hb;have:=d e c hb.1;rw [hb.2] at this;exact hi this
 .refine hi (Wq g (λj f=>?_) ops.toList 0 (λj=>by rw [j0,qv]) i b);rw [nZ] at f;obtain ⟨e,c,hb⟩:=List.any_eq_true.1 f;simp only [ar,eT] at hb;have:=d e (by simpa using c) hb.1;rwa [hb.2] at this
theorem PL{a:ze}(h:j∈Region.ready .any ops a)(g:ops[j]? =some oj):∀e∈oj.after,Region.binds .any e=true->a[e.on]? =some true:=λe i hb=>by
 obtain ⟨_,k,d,f⟩:=mem_ready.1 h;rw [g] at d;cases d;have c:=f e i hb;rw [kR] at c;cases hl:a[e.on]? with
 |none=>rw [hl] at c;cases c
 |some b=>rw [hl] at c;simp only [qg] at c;rw [c]
theorem Zg{a:ze}(h:i∈Region.ready .any ops a):a[i]? ≠some true:=λc=>by have b:=(mem_ready.1 h).1;rw [kR,c] at b;cases b
theorem oO{a:ze}(k:wI ops a)(h:j∈Region.ready .any ops a):wI ops (a.setIfInBounds j true):=λl g hl f e d hb=>by
 have dm:∀i,a[i]? =some true->(a.setIfInBounds j true)[i]? =some true:=λi hi=>by
  by_cases c:j=i
  .subst c;rw [si (Array.getElem?_eq_some_iff.1 hi).1]
  .rw [qA c];exact hi
 by_cases b:j=l
 .subst b;exact dm _ (PL h hl e (by simpa using d) hb)
 .rw [qA b] at f;exact dm _ (k l g hl f e d hb)
theorem amD{Q:bD}{z:Oper}(hi:ops[i]? =some z)(s:∀(j:Nat) (o:Oper) cs b,ops[j]? =some o->o.op≠ .select cs b)
  (U:∀c (a:Act) d v w,Q (.panic c) (a.put d v) w->Q (.panic c) a w) (x:∀(j:Nat) (o:Oper),ops[j]? =some o->jC o=true):
  ∀(l:Nat) (pend:fv) (g:ze) (a:Act) (w:World),
   (∀j oj,ops[j]? =some oj->j≠i->g.getD j true=false->(∀e∈oj.after,Region.binds .any e=true->e.on≠i)->z.apart ops oj=true)->
   wI ops g->i∈Region.ready .any ops g->YJ P ops J z v a->
   Hc P ρ .any ops Q l ((i,J)::pend) (g.setIfInBounds i true) (a.put z.dst v) w->Hc P ρ .any ops Q (l+1) pend g a w:=by
 intro l
 induction l with
 |zero=>
  intro pend g a w _ _ t I H;refine ⟨H.1.2,λh=>(by rw [h] at t;cases t),λj A=>?_⟩;by_cases m:j=i
  .subst m;exact I.wpOp hi (x _ _ hi) H.1.1 ⟨mX H.1.2,H.2⟩
  .have:=ready_mono A m;rw [H.2.1] at this;cases this
 |succ l ih=>
  intro pend g a w q E t I H;refine ⟨H.1.2,λh=>(by rw [h] at t;cases t),λj A=>?_⟩;by_cases m:j=i
  .subst m;refine I.wpOp hi (x _ _ hi) H.1.1 ?_;have W:=aew _ _ _ _ _ _ H
   -- fewer promises
   have key:∀(l:Nat) (pend:fv) (f:Nat×(World->Prop)->Bool) (g:ze) (a:Act) (w:World),Hc P ρ .any ops Q l pend g a w->Hc P ρ .any ops Q l (pend.filter f) g a w:=by
    intro l
    induction l with
    |zero=>intro pend f g a w h;exact ⟨mX h.1,h.2⟩
    |succ l K=>
     intro pend f g a w h;refine ⟨mX h.1,h.2.1,λi hi=>wpOpIn_mono (λS w' G=>?_) (h.2.2 i hi)⟩;have:still .any ops i (pend.filter f)=(still .any ops i pend).filter f:=by unfold still;rw [qX,qX];congr 1;funext p;exact Bool.and_comm ..
     rw [this];exact K _ f _ _ _ G
   exact key _ _ _ _ _ _ W
  .have y:=H.2.2 j (ready_mono A m);obtain ⟨u,oj,n,F⟩:=mem_ready.1 A;have C:∀e∈oj.after,Region.binds .any e=true->e.on≠i:=λe T hb N=>by
    have y:=F e T hb;have R:=(mem_ready.1 t).1;rw [N] at y;rcases qB i g.size with G|G
    .simp [G] at R y;rw [R] at y;cases y
    .simp [Array.getElem?_eq_none G] at y
   have V:=anI n (x _ _ n) (q j oj n m u C) (λcs b=>s i z cs b hi) (λcs b=>s j oj cs b n) (λc a w=>U c a _ _ w) I y;have r:∀k ok,ops[k]? =some ok->k≠i->(g.setIfInBounds j true).getD k true=false->
     (∀e∈ok.after,Region.binds .any e=true->e.on≠i)->z.apart ops ok=true:=λk ok hk M B L=>by
    refine q k ok hk M ?_ L;by_cases D:j=k
    .subst D;exact u
    .rw [getD_set_ne true D] at B;exact B
   refine wpOpIn_mono (λS w' O=>ih _ (g.setIfInBounds j true) S w' r (oO E A) (ready_mono t (Ne.symm m)) O.1 ?_) V;rw [Array.setIfInBounds_comm _ _ m];have e:still .any ops j ((i,J)::pend)=(i,J)::still .any ops j pend:=by unfold still;rw [qo,ahO n E (PL A n) (Zg t)];rfl
   rw [e] at O;exact O.2
inductive OT where
 |nil
 |q (k m:Nat) (r:OT)
 |l (k m:Nat) (r:OT)
 |l2 (m:Nat) (k₁:Nat) (r₁:OT) (k₂:Nat) (r₂:OT)
 /-- k changes the world and takes the floats fs; the floats fl (new blocks) may run here, ahead of it, in whatever order -/
 |f (k m:Nat) (fl fs:zh) (r:OT)
def Ki(a m:Nat):Bool:=Nat.beq (Nat.land a m) a
theorem yP{a m:Nat}:Ki a m=true↔ ∀i,a.testBit i=true->m.testBit i=true:=by
 unfold Ki;constructor
 .intro h i hi;have c:a &&& m=a:=aS h;have b:(a &&& m).testBit i=true:=by rw [c];exact hi
  rw [Nat.testBit_and] at b;simp only [ar] at b;exact b.2
 .intro h;have c:a &&& m=a:=by
   apply Nat.eq_of_testBit_eq;intro i;rw [Nat.testBit_and];cases hi:a.testBit i
   .rfl
   .rw [h i hi];rfl
  show Nat.beq (a &&& m) a=true;rw [c];simp
def Gz:zh->Nat->Nat->zh->Bool
 |[],_,_,_=>true
 |a::as,j,m,ks=>(Nat.testBit m j|| !(Ki a m)||ks.any (Nat.beq j))&&Gz as (j+1) m ks
theorem XZ:∀(l:zh) (b m:Nat) (ks:zh),Gz l b m ks=true->∀j a,l[j]? =some a->m.testBit (b+j)=false->Ki a m=true->(b+j)∈ks
 |[],_,_,_,_,j,a,h,_,_=>by simp at h
 |a0::as,b,m,ks,hB,j,a,h,h1,h2=>by
  simp only [Gz,ar,dk,eF,List.any_eq_true] at hB;cases j with
  |zero=>
   simp only [gx,cC] at h;subst h;rcases hB.1 with (c|c)|⟨x,hx,c⟩
   .rw [qn] at h1;rw [h1] at c;cases c
   .rw [h2] at c;cases c
   .have:=aS c;rw [qn,this];exact hx
  |succ j=>
   simp only [cH] at h;have:=XZ as (b+1) m ks hB.2 j a h (by rw [<-h1];congr 1;omega) h2;have e:b+1+j=b+(j+1):=by omega
   rwa [e] at this
def Ay(masks:zh)(k m:Nat):Bool:=match masks[k]? with
 |some a=> !(Nat.testBit m k)&&Ki a m
 |none=>false
def bit(m k:Nat):Nat:=Nat.lor m (Nat.shiftLeft 1 k)
theorem Dc(m k i:Nat):(bit m k).testBit i=(m.testBit i||k==i):=by
 have c:(bit m k).testBit i=(m ||| (1 <<< k)).testBit i:=rfl;rw [c,Nat.testBit_or,Nat.testBit_shiftLeft];congr 1;by_cases hi:k=i
 .subst hi;simp
 .have b:(k==i)=false:=by simpa using hi
  rw [b];by_cases a:k<=i
  .obtain ⟨n,hn⟩:∃n,i-k=n+1:=⟨i-k-1,by omega⟩;rw [hn];simp [Nat.testBit_succ]
  .simp [a]
def dN(f:Nat):zh->Bool
 |[]=>false
 |x::l=>Nat.beq x f||dN f l
theorem dM{f:Nat}:∀{l:zh},dN f l=true↔f∈l
 |[]=>by simp [dN]
 |x::l=>by
  simp only [dN,dk,qi,dM (l:=l)];constructor
  .rintro (h|h)
   .exact .inl (aS h).symm
   .exact .inr h
  .rintro (h|h)
   .exact .inl (by rw [h];simp)
   .exact .inr h
def jr(m:Nat):zh->Nat
 |[]=>m
 |f::l=>bit (jr m l) f
theorem eQ{m i:Nat}:∀{l:zh},(jr m l).testBit i=(m.testBit i||dN i l)
 |[]=>by simp [jr,dN]
 |f::l=>by
  have e:(f==i)=Nat.beq f i:=by rw [qC,eT];exact ⟨λh=>by rw [h];simp,aS⟩
  rw [jr,Dc,eQ (l:=l),dN,e];cases m.testBit i <;> cases Nat.beq f i <;> cases dN i l <;> rfl
def hasB(masks:zh)(k f:Nat):Bool:=match masks[k]? with
 |some a=>a.testBit f
 |none=>false
def uB(masks:zh):OT->zh->Nat->Bool
 | .nil,pf,m=>pf.isEmpty&&Gz masks 0 m []
 | .q k m' r,pf,m=>Nat.beq m' m&&Ay masks k m'&& !(dN k pf)&&uB masks r pf (bit m' k)
 | .l k m' r,pf,m=>pf.isEmpty&&Nat.beq m' m&&Ay masks k m'&&Gz masks 0 m' [k]&&uB masks r [] (bit m' k)
 | .l2 m' k₁ r₁ k₂ r₂,pf,m=>pf.isEmpty&&Nat.beq m' m&&Ay masks k₁ m'&&Ay masks k₂ m'&&Gz masks 0 m' [k₁,k₂]&&uB masks r₁ [] (bit m' k₁)&&uB masks r₂ [] (bit m' k₂)
 | .f k m' fl fs r,pf,m=>Nat.beq m' m&&pf.all (λf=>dN f fl)&&fl.all (λf=>Ay masks f m')&&fs.all (λf=>dN f fl&&hasB masks k f)&& !(dN k fl)&&Ay masks k (jr m' fs)&&Gz masks 0 (jr m' fl) [k]&&
  uB masks r (fl.filter λf=> !(dN f fs)) (bit (jr m' fs) k)
def LM(n:Nat)(listed:ze)(m:Nat):Prop:=listed.size=n/\∀i,i<n->listed.getD i true=m.testBit i
theorem LM.set{n k m:Nat}{a:ze}(h:LM n a m):LM n (a.setIfInBounds k true) (bit m k):=by
 refine ⟨by simp [h.1],λi hi=>?_⟩;rw [Dc];by_cases e:k=i
 .subst e;simp [kR,h.1,hi]
 .have c:(k==i)=false:=by simpa using e
  have b:=h.2 i hi;rw [c,sj,<-b];simp [kR,e]
theorem LM.getD{n m i:Nat}{a:ze}(h:LM n a m)(b:Bool)(hi:i<n):a.getD i b=m.testBit i:=by
 rw [<-h.2 i hi];have:i<a.size:=by rw [h.1];exact hi
 simp [Array.getD,this]
def WZ(ops:zf)(masks:zh):Bool:=match ops,masks with
 |[],[]=>true
 |o::ops,a::as=>Nat.beq (gJ o.after.toList) a&&WZ ops as
 |_,_=>false
theorem So:∀(ops:zf) (masks:zh),WZ ops masks=true->masks=ops.map λo=>gJ o.after.toList
 |[],[],_=>rfl
 |o::ops,a::as,h=>by
  simp only [WZ,ar] at h;rw [et,<-aS h.1,<-So ops as h.2]
 |[],_::_,h=>by cases h
 |_::_,[],h=>by cases h
def aej(n:Nat)(ops:zf):Bool:=ops.all λo=>o.after.toList.all λe=> !Region.binds .any e||Nat.blt e.on n
section
variable {ops : zc} {masks : zh}
theorem G8(s:masks=ops.toList.map λo=>gJ o.after.toList)(t:aej ops.size ops.toList=true){b:ze}{m j:Nat}(r:LM ops.size b m):
  j∈Region.ready .any ops b↔ ∃a,masks[j]? =some a/\m.testBit j=false/\Ki a m=true:=by
 rw [mem_ready];have g:∀{o:Oper} {e:Edge},o∈ops.toList->e∈o.after->Region.binds .any e=true->e.on<ops.size:=λ{o e} n d hb=>by have q:=List.all_eq_true.1 t o n;have l:=List.all_eq_true.1 q e (by simpa using d);rw [hb] at l;simpa using l
 constructor
 .rintro ⟨q,oj,c,l⟩;have k:j<ops.size:=(Array.getElem?_eq_some_iff.1 c).1;refine ⟨gJ oj.after.toList,by rw [s,p5];simp [c],by rw [<-r.2 j k];exact q,?_⟩;rw [yP];intro i hi;rw [nZ,List.any_eq_true] at hi;obtain ⟨e,d,hb⟩:=hi;simp only [ar,eT] at hb;have h:e∈oj.after:=by simpa using d
  have f:oj∈ops.toList:=by simpa using Array.mem_of_getElem? c
  have:=l e h hb.1;rw [r.getD false (g f h hb.1),hb.2] at this;exact this
 .rintro ⟨a,p,q,l⟩;rw [s,p5] at p;cases n:ops.toList[j]? with
  |none=>rw [n] at p;cases p
  |some oj=>
   rw [n] at p;simp only [lk,cC] at p;have c:ops[j]? =some oj:=by simpa using n
   have k:j<ops.size:=(Array.getElem?_eq_some_iff.1 c).1;refine ⟨by rw [r.2 j k];exact q,oj,c,λe d hb=>?_⟩;have f:oj∈ops.toList:=qf n;rw [r.getD false (g f d hb)];rw [yP] at l;refine l _ ?_;rw [<-p,nZ,List.any_eq_true];exact ⟨e,by simpa using d,by simp [hb]⟩
end
def Qi(t:Tmp)(o:Oper):Bool:=match o.dst with
 |some d=>Nat.beq d t
 |none=>false
def aef(t:Tmp)(j a:Nat):zf->zh->Nat->Bool
 |[],_,_=>true
 |o::l,ms,i=>(!(Qi t o)||Nat.beq i j||Nat.testBit a i||(match ms with|m::_=>Nat.testBit m j|[]=>false))&&aef t j a l ms.tail (i+1)
def Nw(t:Tmp)(j:Nat):zf->Nat->Bool
 |[],_=>true
 |o::l,i=>(!(Qi t o)||Nat.beq i j)&&Nw t j l (i+1)
def Qq(ops:zc)(all:zf)(mall:zh):zf->zh->Nat->Bool
 |[],_,_=>true
 |o::l,a::as,j=>(o.looksAt ops).all (λt=>aef t j a all mall 0)&&(match o.dst with|some d=>Nw d j all 0|none=>true)&&Qq ops all mall l as (j+1)
 |_::_,[],_=>false
theorem NH{t:Tmp}{j a:Nat}:∀(l:zf) (c:zh) (d:Nat),aef t j a l c d=true->∀i o,l[i]? =some o->o.dst=some t->d+i≠j->a.testBit (d+i)=true\/∃m,c[i]? =some m/\m.testBit j=true
 |[],_,_,_,i,o,h,_,_=>by simp at h
 |o0::l,c,d,hB,i,o,h,hd,hne=>by
  simp only [aef,ar,dk,eF] at hB;cases i with
  |zero=>
   simp only [gx,cC] at h;subst h;rcases hB.1 with ((b|b)|b)|b
   .simp [Qi,hd] at b
   .exact absurd (aS b) hne
   .exact .inl b
   .cases c with
    |nil=>cases b
    |cons m c=>exact .inr ⟨m,rfl,b⟩
  |succ i=>
   simp only [cH] at h;have e:d+1+i=d+(i+1):=by omega
   have:=NH l c.tail (d+1) hB.2 i o h hd (by rw [e];exact hne);rw [e] at this;rcases this with b|⟨m,b,f⟩
   .exact .inl b
   .refine .inr ⟨m,?_,f⟩;cases c with
    |nil=>simp at b
    |cons g c=>simpa using b
theorem SM{t:Tmp}{j:Nat}:∀(l:zf) (a:Nat),Nw t j l a=true->∀i o,l[i]? =some o->o.dst=some t->a+i=j
 |[],_,_,i,o,h,_=>by simp at h
 |o0::l,a,hB,i,o,h,hd=>by
  simp only [Nw,ar,dk,eF] at hB;cases i with
  |zero=>
   simp only [gx,cC] at h;subst h;rcases hB.1 with b|b
   .simp [Qi,hd] at b
   .exact aS b
  |succ i=>
   simp only [cH] at h;have:=SM l (a+1) hB.2 i o h hd;omega
theorem LU{ops:zc}{all:zf}{b:zh}:∀(l:zf) (as:zh) (c:Nat),Qq ops all b l as c=true->∀j o a,l[j]? =some o->as[j]? =some a->
  (∀t∈o.looksAt ops,aef t (c+j) a all b 0=true)/\(∀d,o.dst=some d->Nw d (c+j) all 0=true)
 |[],_,_,_,j,o,a,h,_=>by simp at h
 |o0::l,[],_,h,_,_,_,_,_=>by cases h
 |o0::l,a0::as,c,hB,j,o,a,h,ha=>by
  simp only [Qq,ar,qp] at hB;cases j with
  |zero=>
   simp only [gx,cC] at h ha;subst h;subst ha;refine ⟨λt f=>hB.1.1 t f,λd hd=>?_⟩;have:=hB.1.2;rw [hd] at this;exact this
  |succ j=>
   simp only [cH] at h ha;have e:c+1+j=c+(j+1):=by omega
   have:=LU l as (c+1) hB.2 j o a h ha;rwa [e] at this
theorem apK{ops:zc}{masks:zh}(q:masks=ops.toList.map λo=>gJ o.after.toList)(r:Qq ops ops.toList masks ops.toList masks 0=true){i j:Nat}{a oj:Oper}(hi:ops[i]? =some a)(w:ops[j]? =some oj)(v:j≠i)
  (t:(gJ oj.after.toList).testBit i=false) (s:(gJ a.after.toList).testBit j=false):a.apart ops oj=true:=by
 have b:ops.toList[i]? =some a:=by simpa using hi
 have c:ops.toList[j]? =some oj:=by simpa using w
 have p:masks[i]? =some (gJ a.after.toList):=by rw [q,p5,b];rfl
 have n:masks[j]? =some (gJ oj.after.toList):=by rw [q,p5,c];rfl
 obtain ⟨l,u⟩:=LU _ _ 0 r i a _ b p;obtain ⟨k,g⟩:=LU _ _ 0 r j oj _ c n;simp only [j0] at l u k g;unfold Oper.apart;simp only [ar];constructor
 .cases hd:a.dst with
  |none=>rfl
  |some d=>
   simp only [ar,eF,bne_iff_ne];refine ⟨?_,?_⟩
   .rw [mi];intro e;rcases NH _ _ 0 (k d (by simpa using e)) i a b hd (by omega) with h|⟨m,h,f⟩
    .rw [j0,t] at h;cases h
    .rw [p] at h;cases h;rw [s] at f;cases f
   .intro e;have:=SM _ 0 (g d e) i a b hd;omega
 .cases hd:oj.dst with
  |none=>rfl
  |some d=>
   simp only [eF];rw [mi];intro e;rcases NH _ _ 0 (l d (by simpa using e)) j oj c hd (by omega) with h|⟨m,h,f⟩
   .rw [j0,s] at h;cases h
   .rw [n] at h;cases h;rw [t] at f;cases f
def aer(ops:zc)(masks:zh)(order:OT):Bool:=
 ops.toList.all jC&&Region.noSelect ops&&WZ ops.toList masks&&aej ops.size ops.toList&&Qq ops ops.toList masks ops.toList masks 0&&uB masks order [] 0
def wpE(P:Program)(ρ:za)(ops:zc)(Q:bD)(fl:zh)(pend:fv)(nx:zh->Act->World->Prop):Nat->zh->Act->World->Prop
 |0,ea,a,w=>nx ea a w
 |n+1,ea,a,w=>nx ea a w/\∀f∈fl,dN f ea=false->wpOpIn (FW ρ) 0 P ops Q f (λa' w'=>iq pend w'/\wpE P ρ ops Q fl pend nx n (f::ea) a' w') a w
def ji(P:Program)(ρ:za)(ops:zc)(Q:bD):OT->zh->fv->Act->World->Prop
 | .nil,_,_,a,w=>Q .normal a w
 | .q k _ r,ea,pend,a,w=>match ops[k]? with
  |none=>False
  |some o=>∃v J,J w/\YJ P ops J o v a/\ji P ρ ops Q r ea ((k,J)::pend) (a.put o.dst v) w
 | .l k _ r,ea,pend,a,w=>match ops[k]? with
  |none=>False
  |some _=>wpOpIn (FW ρ) 0 P ops Q k (λa' w'=>iq (still .any ops k pend) w'/\ji P ρ ops Q r ea (still .any ops k pend) a' w') a w
 | .l2 _ k₁ r₁ k₂ r₂,ea,pend,a,w=>(match ops[k₁]? with
  |none=>False
  |some _=>wpOpIn (FW ρ) 0 P ops Q k₁ (λa' w'=>iq (still .any ops k₁ pend) w'/\ji P ρ ops Q r₁ ea (still .any ops k₁ pend) a' w') a w)/\
  (match ops[k₂]? with
  |none=>False
  |some _=>wpOpIn (FW ρ) 0 P ops Q k₂ (λa' w'=>iq (still .any ops k₂ pend) w'/\ji P ρ ops Q r₂ ea (still .any ops k₂ pend) a' w') a w)
 | .f k _ fl fs r,ea,pend,a,w=>wpE P ρ ops Q fl pend (λea a w=>(∀f∈fs,f∈ea)->wpOpIn (FW ρ) 0 P ops Q k (λa' w'=>iq (still .any ops k pend) w'/\ji P ρ ops Q r (ea.filter λf=> !(dN f fs)) (still .any ops k pend) a' w') a w) fl.length ea a w
def xf:List Bool->Nat
 |[]=>0
 |true::l=>xf l
 |false::l=>xf l+1
theorem aeU:∀{l:List Bool} {i:Nat},l[i]? =some false->xf (l.set i true)+1=xf l
 |[],i,h=>by simp at h
 |b::l,0,h=>by
  simp only [gx,cC] at h;subst h;rfl
 |b::l,i+1,h=>by simp only [cH] at h;have:=aeU h;cases b <;> simp only [List.set_cons_succ,xf] <;> omega
theorem afi:∀{n:Nat},xf (List.replicate n false)=n
 |0=>rfl
 |n+1=>by rw [qU,xf,afi]
theorem Xy{Q:bD}:∀(c:Nat) (pend:fv) (f:Nat×(World->Prop)->Bool) (b:ze) (a:Act) (w:World),Hc P ρ md ops Q c pend b a w->Hc P ρ md ops Q c (pend.filter f) b a w
 |0,_,_,_,_,_,h=>⟨mX h.1,h.2⟩
 |c+1,pend,f,b,a,w,h=>⟨mX h.1,h.2.1,λi hi=>wpOpIn_mono (λe w' d=>by
   have:still md ops i (pend.filter f)=(still md ops i pend).filter f:=by unfold still;rw [qX,qX];congr 1;funext p;exact Bool.and_comm ..
   rw [this];exact Xy c _ f _ _ _ d) (h.2.2 i hi)⟩
theorem filter_lt{α:Type}{p q:α->Bool}(a:∀x,q x=true->p x=true):∀{l:List α} {x:α},x∈l->p x=true->q x=false->(l.filter q).length<(l.filter p).length
 |y::l,x,hx,hp,hq=>by
  have c:∀l:List α,(l.filter q).length<=(l.filter p).length:=λl=>by
   induction l with
   |nil=>exact ch _
   |cons z l ih=>
    rw [qo,qo];cases b:q z
    .cases p z <;> simp <;> omega
    .rw [a z b];simp;omega
  rw [qo,qo];rcases List.mem_cons.1 hx with rfl|hx
  .rw [hp,hq];have:=c l;simp;omega
  .have ih:=filter_lt a hx hp hq;cases b:q y
   .cases p y <;> simp <;> omega
   .rw [a y b];simp;omega
theorem auA{Q:bD}{masks:zh}(hm:masks=ops.toList.map λo=>gJ o.after.toList)(he:aej ops.size ops.toList=true)(hD:Qq ops ops.toList masks ops.toList masks 0=true)
  (hs:Region.noSelect ops=true) (hQ:∀c (a:Act) d v w,Q (.panic c) (a.put d v) w->Q (.panic c) a w) (hpl:∀(j:Nat) (o:Oper),ops[j]? =some o->jC o=true):∀(C:OT) (n:Nat) (pf s:zh) (pend:fv) (g:ze) (m:Nat) (a:Act) (w:World),
  (∀f∈s,f∈pf)->LM ops.size g (jr m s)->xf g.toList=n->uB masks C pf m=true->iq pend w->wI ops g->ji P ρ ops Q C s pend a w->Hc P ρ .any ops Q n pend g a w:=by
 have R:∀{k m:Nat} {s:zh} {g:ze},LM ops.size g (jr m s)->Ay masks k m=true->k∉s->k∈Region.ready .any ops g:=λ{k m s g} u h hk=>by
  rw [G8 hm he u];unfold Ay at h;cases ha:masks[k]? with
  |none=>rw [ha] at h;cases h
  |some a=>
   rw [ha] at h;simp only [ar,eF] at h;refine ⟨a,rfl,?_,?_⟩
   .rw [eQ,h.1,qs,mi];exact λy=>hk (dM.1 y)
   .rw [yP] at h ⊢;intro i hi;rw [eQ,h.2 i hi,q3]
 have only:∀{m:Nat} {ks fl s:zh} {g:ze},(∀f∈s,f∈fl)->LM ops.size g (jr m s)->Gz masks 0 (jr m fl) ks=true->∀i∈Region.ready .any ops g,i∉s/\m.testBit i=false/\(i∈fl\/i∈ks):=λ{m ks fl s g} r u h i hi=>by
  obtain ⟨a,ha,B,M⟩:=(G8 hm he u).1 hi;rw [eQ,qh] at B;refine ⟨(λy=>by rw [dM.2 y] at B;cases B.2),B.1,?_⟩;by_cases D:i∈fl
  .exact .inl D
  .refine .inr ?_;have:=XZ masks 0 (jr m fl) ks h i a ha (by rw [j0,eQ,B.1,qs,mi];exact λy=>D (dM.1 y)) (by rw [yP] at M ⊢;intro j Y;have:=M j Y;rw [eQ,dk] at this;rw [eQ,dk];exact this.imp id λh=>dM.2 (r j (dM.1 h)))
   rwa [j0] at this
 have step:∀{i n:Nat} {g:ze},i∈Region.ready .any ops g->xf g.toList=n->∃n',n=n'+1/\xf (g.setIfInBounds i true).toList=n':=λ{i n g} hi hn=>by
  have B:=(mem_ready.1 hi).1;have M:g.toList[i]? =some false:=by
   rw [kR] at B;rw [qv];cases hl:g[i]? with
   |none=>rw [hl] at B;cases B
   |some b=>rw [hl] at B;simp only [qg] at B;rw [B]
  have L:=aeU M;refine ⟨xf (g.toList.set i true),by omega,?_⟩;rw [Array.toList_setIfInBounds]
 have V:∀{g:ze} {m S:Nat},LM ops.size g m->(∀i,m.testBit i=S.testBit i)->LM ops.size g S:=λh e=>⟨h.1,λi hi=>by rw [h.2 i hi,e]⟩;have K:∀{g:ze} {m k:Nat} {s:zh},LM ops.size g (jr m s)->LM ops.size (g.setIfInBounds k true) (jr (bit m k) s):=λ{g m k s} h=>V h.set λi=>by rw [Dc,eQ,eQ,Dc];cases m.testBit i <;> cases (k==i) <;> cases dN i s <;> rfl
 intro C
 induction C with
 |nil=>
  intro n pf s pend g m a w r u hn A G t h;simp only [uB,ar,List.isEmpty_iff] at A;obtain ⟨rfl,A⟩:=A;have h0:Region.ready .any ops g=[]:=by
   cases hr:Region.ready .any ops g with
   |nil=>rfl
   |cons x xs=>
    obtain ⟨_,_,B⟩:=only (fl:=[]) r u A x (by rw [hr];exact cz ..);simp at B
  cases n with
  |zero=>exact ⟨G,h0,h⟩
  |succ n=>exact ⟨G,λ_=>h,λi hi=>by rw [h0] at hi;cases hi⟩
 |q k S rest ih=>
  intro n pf s pend g m a w r u hn A G t h;simp only [uB,ar,eF] at A;obtain ⟨⟨⟨I,hk⟩,hkp⟩,A⟩:=A;have:=aS I;subst this;simp only [ji] at h;split at h
  .exact h.elim
  .rename_i o W;obtain ⟨v,J,hJw,hy,h⟩:=h;have F:=R u hk (λy=>by rw [dM.2 (r k y)] at hkp;cases hkp);obtain ⟨n',rfl,T⟩:=step F hn;refine amD W (Region.noSelect_spec hs) hQ hpl n' pend g a w (λj oj Y hne hun hno=>?_) t F hy (ih _ _ _ _ _ _ _ _ r (K u) T A ⟨hJw,G⟩ (oO t F) h);refine apK hm hD W Y hne ?_ ?_
   .rw [nZ,mi];intro y;obtain ⟨e,hin,hb⟩:=List.any_eq_true.1 y;simp only [ar,eT] at hb;exact hno e (by simpa using hin) hb.1 hb.2
   .rw [nZ,mi];intro y;obtain ⟨e,hin,hb⟩:=List.any_eq_true.1 y;simp only [ar,eT] at hb;obtain ⟨_,o',ho',z⟩:=mem_ready.1 F;rw [W] at ho';cases ho';have L:=z e (by simpa using hin) hb.1;have hlt:j<ops.size:=(Array.getElem?_eq_some_iff.1 Y).1;rw [hb.2,u.getD false hlt,<-u.2 j hlt,hun] at L;cases L
 |l k S rest ih=>
  intro n pf s pend g m a w r u hn A G t h;simp only [uB,ar,List.isEmpty_iff] at A;obtain ⟨⟨⟨⟨rfl,I⟩,hk⟩,W⟩,A⟩:=A;have:=aS I;subst this;simp only [ji] at h;have F:=R u hk (λy=>by cases r k y);obtain ⟨n',rfl,T⟩:=step F hn;split at h
  .exact h.elim
  .refine ⟨G,(λh0=>by rw [h0] at F;cases F),λi hi=>?_⟩;obtain ⟨_,_,B⟩:=only (fl:=[]) r u W i hi;have:i=k:=by simpa using B
   subst this;exact wpOpIn_mono (λO w' H=>ih _ _ _ _ _ _ _ _ r (K u) T A H.1 (oO t hi) H.2) h
 |l2 S k₁ r₁ Z r₂ ih1 ih2=>
  intro n pf s pend g m a w r u hn A G t h;simp only [uB,ar,List.isEmpty_iff] at A;obtain ⟨⟨⟨⟨⟨⟨rfl,I⟩,hk1⟩,hk2⟩,W⟩,hB1⟩,hB2⟩:=A;have:=aS I;subst this;simp only [ji] at h;obtain ⟨B,M⟩:=h;have U:=R u hk1 (λy=>by cases r k₁ y);have hk2':=R u hk2 (λy=>by cases r Z y);obtain ⟨n',rfl,hn1⟩:=step U hn;obtain ⟨n2,e2,X⟩:=step hk2' hn;have e3:n2=n':=by omega
  subst e3;refine ⟨G,(λh0=>by rw [h0] at U;cases U),λi hi=>?_⟩;obtain ⟨_,_,L⟩:=only (fl:=[]) r u W i hi;have L:i=k₁\/i=Z:=by simpa using L
  rcases L with rfl|rfl
  .split at B
   .exact B.elim
   .exact wpOpIn_mono (λO w' H=>ih1 _ _ _ _ _ _ _ _ r (K u) hn1 hB1 H.1 (oO t hi) H.2) B
  .split at M
   .exact M.elim
   .exact wpOpIn_mono (λO w' H=>ih2 _ _ _ _ _ _ _ _ r (K u) X hB2 H.1 (oO t hi) H.2) M
 |f k S fl N rest ih=>
  intro n pf s pend g m a w r u hn A G t h;simp only [uB,ar,qp,eF] at A;obtain ⟨⟨⟨⟨⟨⟨⟨I,hpf⟩,hfl⟩,hfs⟩,hkf⟩,hk⟩,W⟩,A⟩:=A;have:=aS I;subst this;simp only [ji] at h;have hsub':∀f∈s,f∈fl:=λf D=>dM.1 (hpf f (r f D));have hkfl:k∉fl:=λy=>by rw [dM.2 y] at hkf;cases hkf
  have flm:∀f∈fl,S.testBit f=false:=λf D=>by
   have:=hfl f D;unfold Ay at this;split at this
   .simp only [ar,eF] at this;exact this.1
   .cases this
  have main:∀(nf n:Nat) (s:zh) (g:ze) (a:Act) (w:World),(∀f∈s,f∈fl)->(fl.filter λf=> !(dN f s)).length<=nf->LM ops.size g (jr S s)->xf g.toList=n->iq pend w->wI ops g->
    wpE P ρ ops Q fl pend (λs a w=>(∀f∈N,f∈s)->wpOpIn (FW ρ) 0 P ops Q k (λO w'=>iq (still .any ops k pend) w'/\ji P ρ ops Q rest (s.filter λf=> !(dN f N)) (still .any ops k pend) O w') a w) nf s a w->Hc P ρ .any ops Q n pend g a w:=by
   have body:∀(n:Nat) (s:zh) (g:ze) (a:Act) (w:World),(∀f∈s,f∈fl)->LM ops.size g (jr S s)->xf g.toList=n->iq pend w->wI ops g->
     ((∀f∈N,f∈s)->wpOpIn (FW ρ) 0 P ops Q k (λO w'=>iq (still .any ops k pend) w'/\ji P ρ ops Q rest (s.filter λf=> !(dN f N)) (still .any ops k pend) O w') a w)->
     (∀i∈fl,i∉s->wpOpIn (FW ρ) 0 P ops Q i (λO w'=>∀n',LM ops.size (g.setIfInBounds i true) (jr S (i::s))->xf (g.setIfInBounds i true).toList=n'->wI ops (g.setIfInBounds i true)->Hc P ρ .any ops Q n' pend (g.setIfInBounds i true) O w') a w)->Hc P ρ .any ops Q n pend g a w:=by
    intro n s g a w r u hn G t hx D;have E:∃i,i∈Region.ready .any ops g:=by
     by_cases z:∀f∈N,f∈s
     .refine ⟨k,?_⟩;rw [G8 hm he u];unfold Ay at hk;cases ha:masks[k]? with
      |none=>rw [ha] at hk;cases hk
      |some x=>
       rw [ha] at hk;simp only [ar,eF] at hk;refine ⟨x,rfl,?_,?_⟩
       .have:=hk.1;rw [eQ,qh] at this;rw [eQ,this.1,qs,mi];exact λy=>hkfl (r k (dM.1 y))
       .have M:=hk.2;rw [yP] at M ⊢;intro j Y;have:=M j Y;rw [eQ,dk] at this;rw [eQ,dk];exact this.imp id λh=>dM.2 (z j (dM.1 h))
     .obtain ⟨f,hff,hfe⟩:∃f,f∈N/\f∉s:=by apply Classical.byContradiction;intro y;exact z λf D=>Classical.byContradiction λhn=>y ⟨f,D,hn⟩
      exact ⟨f,R u (hfl f (dM.1 (hfs f hff).1)) hfe⟩
    obtain ⟨i0,hi0⟩:=E;obtain ⟨n',rfl,_⟩:=step hi0 hn;refine ⟨G,(λh0=>by rw [h0] at hi0;cases hi0),λi hi=>?_⟩;obtain ⟨n2,e2,X⟩:=step hi hn;have e3:n2=n':=by omega
    subst e3;obtain ⟨B,M,L⟩:=only r u W i hi;rcases L with L|L
    .exact wpOpIn_mono (λO w' H=>Xy _ _ _ _ _ _ (H _ u.set X (oO t hi))) (D i L B)
    .have:i=k:=by simpa using L
     subst this;have z:∀f∈N,f∈s:=λf hf'=>by obtain ⟨x,hx1,_,hx3⟩:=(G8 hm he u).1 hi;obtain ⟨q1,q2⟩:=hfs f hf';unfold hasB at q2;rw [hx1] at q2;have:=yP.1 hx3 f q2;rw [eQ,flm f (dM.1 q1),qs] at this;exact dM.1 this
     refine wpOpIn_mono (λO w' H=>ih _ _ _ _ _ _ _ _ (λf D=>?_) (V u.set λj=>?_) X A H.1 (oO t hi) H.2) (hx z)
     .rw [List.mem_filter] at D ⊢;exact ⟨r f D.1,D.2⟩
     .rw [Dc,eQ,eQ,Dc,eQ];have e:dN j s=(dN j N||dN j (s.filter λf=> !(dN f N))):=by
       rw [qC,dk,dM,dM,dM,List.mem_filter];constructor
       .intro h;by_cases Y:j∈N
        .exact .inl Y
        .refine .inr ⟨h,?_⟩;rw [eF,mi];exact λy=>Y (dM.1 y)
       .rintro (h|h)
        .exact z j h
        .exact h.1
      rw [e];cases S.testBit j <;> cases (i==j) <;> cases dN j N <;> cases dN j (s.filter λf=> !(dN f N)) <;> rfl
   intro nf
   induction nf with
   |zero=>
    intro n s g a w r hlen u hn G t h;refine body n s g a w r u hn G t h λi hi hie=>?_;have:i∈fl.filter λf=> !(dN f s):=List.mem_filter.2 ⟨hi,by rw [eF,mi];exact λy=>hie (dM.1 y)⟩
    rw [c8 (Nat.le_zero.1 hlen)] at this;cases this
   |succ nf ihf=>
    intro n s g a w r hlen u hn G t h;refine body n s g a w r u hn G t h.1 λi hi hie=>?_;have hie':dN i s=false:=by rw [mi];exact λy=>hie (dM.1 y)
    refine wpOpIn_mono (λO w' H n' hL' T hcl'=>ihf n' (i::s) _ O w' (λf D=>?_) ?_ hL' T H.1 hcl' H.2) (h.2 i hi hie')
    .rcases List.mem_cons.1 D with rfl|D
     .exact hi
     .exact r f D
    .have:=filter_lt (p:=λf=> !(dN f s)) (q:=λf=> !(dN f (i::s))) (λx hx=>by simp only [dN,Bool.not_or,ar] at hx;exact hx.2) hi (by rw [hie'];rfl) (by simp [dN])
     omega
  exact main fl.length n s g a w hsub' (List.length_filter_le ..) u hn G t h
theorem PM{j:Nat}:∀(b a:fv) (w:World),iq (b++a) w->iq (b++(j,λ_=>True)::a) w
 |[],_,_,h=>⟨trivial,h⟩
 |_::b,a,w,h=>⟨h.1,PM b a w h.2⟩
theorem aiT{Q:bD}{fl:zh}{pend pend':fv}{nx c:zh->Act->World->Prop}(hp:∀w,iq pend w->iq pend' w)(hx:∀b a w,nx b a w->c b a w):∀(n:Nat) (b:zh) (a:Act) (w:World),wpE P ρ ops Q fl pend nx n b a w->wpE P ρ ops Q fl pend' c n b a w
 |0,b,a,w,h=>hx b a w h
 |n+1,b,a,w,h=>⟨hx b a w h.1,λf g e=>wpOpIn_mono (λ_ w' d=>⟨hp w' d.1,aiT hp hx n _ _ _ d.2⟩) (h.2 f g e)⟩
theorem apv{Q:bD}:∀(d:OT) (g:zh) (b l2:fv) (a:Act) (w:World),ji P ρ ops Q d g (b++l2) a w->ji P ρ ops Q d g (b++(j,λ_=>True)::l2) a w:=by
 have c:∀(k:Nat) (b l2:fv),still .any ops k (b++l2)=still .any ops k b++still .any ops k l2:=λk b l2=>List.filter_append ..;intro d;have i:∀(k:Nat) (r:OT) (g:zh) (b l2:fv) (a:Act) (w:World),(∀(g:zh) (b l2:fv) (a:Act) (w:World),ji P ρ ops Q r g (b++l2) a w->ji P ρ ops Q r g (b++(j,λ_=>True)::l2) a w)->
   wpOpIn (FW ρ) 0 P ops Q k (λx w'=>iq (still .any ops k (b++l2)) w'/\ji P ρ ops Q r g (still .any ops k (b++l2)) x w') a w->
   wpOpIn (FW ρ) 0 P ops Q k (λx w'=>iq (still .any ops k (b++(j,λ_=>True)::l2)) w'/\ji P ρ ops Q r g (still .any ops k (b++(j,λ_=>True)::l2)) x w') a w:=λk r g b l2 a w ih h=>by
  refine wpOpIn_mono (λx w' u=>?_) h;rw [c] at u;rw [c];have e:still .any ops k ((j,λ_=>True)::l2)=(j,λ_=>True)::still .any ops k l2\/still .any ops k ((j,λ_=>True)::l2)=still .any ops k l2:=by
   unfold still;rw [qo];split
   .exact .inl rfl
   .exact .inr rfl
  rcases e with e|e
  .rw [e];exact ⟨PM _ _ _ u.1,ih _ _ _ _ _ u.2⟩
  .rw [e];exact u
 induction d with
 |nil=>intro g b l2 a w h;exact h
 |q k m r ih=>
  intro g b l2 a w h;simp only [ji] at h ⊢;split at h
  .exact h.elim
  .obtain ⟨v,J,E,C,h⟩:=h;exact ⟨v,J,E,C,ih g ((k,J)::b) l2 _ _ h⟩
 |l k m r ih=>
  intro g b l2 a w h;simp only [ji] at h ⊢;split at h
  .exact h.elim
  .exact i k r g b l2 a w ih h
 |l2 m s o p n z y=>
  intro g b l2 a w h;simp only [ji] at h ⊢;obtain ⟨B,A⟩:=h;refine ⟨?_,?_⟩
  .split at B
   .exact B.elim
   .exact i s o g b l2 a w z B
  .split at A
   .exact A.elim
   .exact i p n g b l2 a w y A
 |f k m fl F r ih=>
  intro g b l2 a w h;simp only [ji] at h ⊢;exact aiT (λw D=>PM _ _ _ D) (λg a w hx t=>i k r _ b l2 a w ih (hx t)) _ _ _ _ h
theorem aoz{Q:bD}(c:xc)(a:Act)(d:zb)(v:Value)(w:World)(h:QN Q (.panic c) (a.put d v) w):QN Q (.panic c) a w:=by unfold QN at*;rwa [jq] at h
end
def WD(P:Program)(ρ:za)(ops:zc)(Q:bD)(n:Nat)(D:x3)(order:OT)(pend:fv)(E:Env)(w:World):Prop:=
 ∀a,Fits n E a->a.defers=D->ji P ρ ops (QN Q) order [] pend a w
section
variable {P : Program} {ρ : za} {Q : bD} {n : Nat} {D : x3} {E : Env} {w : World}
theorem XQ{id:Nat}{ops:zc}{a:Act}(h:(Code.region id ops true).wpIn (FW ρ) 0 P (QN Q) a w):(Code.region id ops true).wpIn (FW ρ) 0 P Q a w:=
 wpIn_mono h λe a w b=>by cases e <;> first|exact b|exact b a rfl
theorem wH{id:Nat}{l:zf}(masks:zh)(b:OT)(r:P.follows .mixedOrders=true)(q:aer l.toArray masks b=true)
  (h:∀w1,Ext w w1->WD P ρ l.toArray Q n D b [] E w1):WC P ρ (.region id l.toArray true) Q n D E w:=by
 simp only [aer,ar] at q;obtain ⟨⟨⟨⟨⟨f,c⟩,g⟩,k⟩,m⟩,e⟩:=q;intro a t hd;refine XQ (wpIn_region_any r ?_);have d:∀(j:Nat) (o:Oper),l.toArray[j]? =some o->jC o=true:=λj o s=>List.all_eq_true.1 f o (by simpa using Array.mem_of_getElem? s);have u:LM l.toArray.size (Array.replicate l.toArray.size false) (jr 0 []):=⟨by simp,λi hi=>by show _=Nat.testBit 0 i;simp at hi;simp [Array.getD,hi]⟩
 exact ai2 _ _ _ _ _ (auA (So _ _ g) k m c aoz d b _ [] [] [] _ 0 a _ (λ_ h=>by cases h) u (by rw [Array.toList_replicate];exact afi) e trivial (λl v hl p=>by rw [Array.getElem?_replicate] at p;split at p <;> cases p) (h { w with drawn:=w.drawn+1 } ⟨rfl,rfl,rfl,ch _,λ_ _=>rfl⟩ a t hd))
variable {ops : zc} {rest : OT} {pend : fv} {k mk : Nat}
theorem amo(h:At Q .normal n D E w):WD P ρ ops Q n D .nil pend E w:=λa b hd=>h a b hd
theorem auq{d:Tmp}(J:World->Prop)(g:J w)(e:∀w,J w->bq P E true o w v)(hk:ops[k]? =some o)(f:o.guard=none)(hd:o.dst=some d)(hn:Nat.blt d n=true)
  (h:WD P ρ ops Q n D rest ((k,J)::pend) ((d,true,v)::E) w):WD P ρ ops Q n D (.q k mk rest) pend E w:=λa c i=>by
 simp only [ji,hk];refine ⟨v,J,g,.inl ⟨by simp [Region.wanted,f],λw' b=>e w' b n a c rfl⟩,?_⟩;rw [hd];exact h _ (c.put hn) i
theorem iF{d:Tmp}(b:∀w,bq P E true o w v)(hk:ops[k]? =some o)(c:o.guard=none)(hd:o.dst=some d)(hn:Nat.blt d n=true)
  (h:WD P ρ ops Q n D rest pend ((d,true,v)::E) w):WD P ρ ops Q n D (.q k mk rest) pend E w:=
 auq (λ_=>True) trivial (λw _=>b w) hk c hd hn (λa e f=>apv rest [] [] pend a w (h a e f))
def QK(P:Program)(ρ:za)(ops:zc)(Q:bD)(_n:Nat)(_D:x3)(rest:OT)(pend:fv):bD:=λe a w=>match e with
 | .normal=>iq pend w/\ji P ρ ops (QN Q) rest [] pend a w
 | .panic c=>DG Q c a.defers w
 |e=>Q e a w
theorem aq5(c:iq pend w)(h:WD P ρ ops Q n D rest pend E w):At (QK P ρ ops Q n D rest pend) .normal n D E w:=λa b hd=>⟨c,h a b hd⟩
theorem ah9{pend':fv}(hk:ops[k]? =some o)(hp:still .any ops k pend=pend')(h:WL P ρ ops (QK P ρ ops Q n D rest pend') n D [o] E w):
  WD P ρ ops Q n D (.l k mk rest) pend E w:=λa d e=>by
 subst hp;simp only [ji,hk];have b:=h a d e;unfold wpOpIn;simp only [hk];simp only [wpListIn] at b;split
 .rename_i c;simp only [c,oi] at b;refine ⟨b.1,?_⟩;have b:=b.2;generalize (o.semAt (FW ρ).round a.eval).run P w=r at*;cases r with
  |ok n w'=>
   cases n <;> simp only [Oper.uponIn] at b ⊢ <;> exact b
  |halt x w'=>cases x <;> simp only [Oper.uponIn] at b ⊢ <;> exact b
 next c=>simp only [c] at b;exact b
end
def OT.ops:OT->zh
 | .nil=>[]
 | .q k _ r=>k::r.ops
 | .l k _ r=>k::r.ops
 | .l2 _ k₁ r₁ k₂ r₂=>k₁::k₂::(r₁.ops++r₂.ops)
 | .f k _ _ _ r=>k::r.ops
def OT.Xo:OT->zh
 | .nil=>[]
 | .q _ _ r=>r.Xo
 | .l _ _ r=>r.Xo
 | .l2 _ _ r₁ _ r₂=>r₁.Xo++r₂.Xo
 | .f _ _ fl _ r=>fl++r.Xo
def rq(ops:zc)(j f:Nat):Bool:=match ops[j]?, ops[f]? with
 |some oj,some f=>(match oj.dst with
  |none=>true
  |some d=>(f.looksAt ops).all (λt=> !(Nat.beq t d))&& !(Qi d f))
 |_,_=>false
theorem ajX{ops:zc}{f:Nat}(h:rq ops j f=true)(b:ops[j]? =some oj)(c:ops[f]? =some o):(∀d,oj.dst=some d->d∉o.looksAt ops)/\(∀d,oj.dst=some d->o.dst≠some d):=by
 unfold rq at h;rw [b,c] at h;simp only at h;constructor
 .intro d hd a;rw [hd] at h;simp only [ar,qp] at h;have:=h.1 d a;simp at this
 .intro d hd a;rw [hd] at h;simp only [ar,eF,Qi,a] at h;simp at h
def Hn(o:Oper)(b:Nat):Value:=match o.op with
 | .buildSlice _ len _=> .slice (some ⟨b,0,none⟩) len len
 |_=> .pointer (some ⟨b,0,none⟩)
abbrev tA:=Nat×Nat×TypeId×yp
def vn(P:Program)(ops:zc)(a:Act)(x:tA):Prop:= ∃(o:Oper) (d:Tmp) (w0:World),ops[x.1]? =some o/\o.dst=some d/\(∀cs b,o.op≠ .select cs b)/\x.2.1=w0.heap.size/\
 a.tmps.getD d undef=Hn o x.2.1/\(execOp a.eval o).run P w0= .ok (.value (Hn o x.2.1)) (w0.alloc (.cells x.2.2.2.toArray x.2.2.1))
section
variable {P : Program} {ρ : za} {Q : bD} {n : Nat} {D : x3} {E : Env} {w : World} {ops : zc}
theorem vn.put{a:Act}{x:tA}(h:vn P ops a x)(i:ops[j]? =some oj)(k:rq ops j x.1=true):vn P ops (a.put oj.dst v) x:=by
 obtain ⟨o,d,g,f,c,b,q,p,n⟩:=h;obtain ⟨s,r⟩:=ajX k i f;refine ⟨o,d,g,f,c,b,q,?_,?_⟩
 .rw [<-p];have:=Act.eval_put (a:=a) (dst:=oj.dst) (v:=v) (x:= .tmp d) (λe l m=>r e l (by cases m;exact c));exact this
 .rw [execOp_put (ops:=ops) o b a oj.dst v s];exact n
theorem anh{C:Act->Prop}(p:ops[j]? =some oj)(g:∀a v,C a->C (a.put oj.dst v))(m:∀(a:Act) d,C a->C { a with defers:=d::a.defers }){K:Act->World->Prop}{a:Act}
  (hc:C a) (h:wpOpIn (FW ρ) 0 P ops Q j K a w):wpOpIn (FW ρ) 0 P ops Q j (λo w'=>C o/\K o w') a w:=by
 unfold wpOpIn at*;simp only [p] at*;split
 .rename_i k;simp only [k,oi] at h;refine ⟨h.1,?_⟩;have h:=h.2;generalize (oj.semAt (FW ρ).round a.eval).run P w=r at*;cases r with
  |ok n w'=>
   cases n <;> simp only [Oper.uponIn] at h ⊢
   case value u=>exact ⟨g a u hc,h⟩
   case skip=>exact ⟨g a _ hc,h⟩
   case defer d=>exact ⟨g _ _ (m a d hc),h⟩
   case enter f args=>
    refine ⟨h.1,CallsIn.mono h.2 λe i b=>?_⟩;cases e with
    |returned u=>exact ⟨g a u hc,b⟩
    |panicked c=>exact b
    |outgrown=>exact b
   case row row args=>exact ⟨h.1,RowsIn.mono h.2 λu i b=>⟨g a u hc,b⟩⟩
   case round l f tmps assign body=>
    refine ⟨h.1,RoundIn.mono h.2 λe i b=>?_⟩;cases e with
    |returned u=>exact ⟨g a u hc,b⟩
    |panicked c=>exact b
    |outgrown=>exact b
  |halt x w'=>
   cases x <;> simp only [Oper.uponIn] at h ⊢
   case panic u=>exact h
 next k=>simp only [k] at h;exact ⟨h.1,g a _ hc,h.2⟩
def GC(P:Program)(ρ:za)(ops:zc)(Q:bD)(n:Nat)(D:x3)(order:OT)(EV:List tA)(pend:fv)(E:Env)(w:World):Prop:=
 ∀a,Fits n E a->a.defers=D->(∀x∈EV,vn P ops a x)->ji P ρ ops (QN Q) order (EV.map (·.1)) pend a w
theorem GC.wd{b:OT}{pend:fv}(h:GC P ρ ops Q n D b [] pend E w):WD P ρ ops Q n D b pend E w:=λa c hd=>h a c hd λ_ hx=>by cases hx
theorem ast{EV:List tA}{pend:fv}(h:At Q .normal n D E w):GC P ρ ops Q n D .nil EV pend E w:=λa b hd _=>h a b hd
theorem ati{EV:List tA}{pend:fv}{mk e d:Nat}{c b:OT}(g:GC P ρ ops Q n D (.l e mk c) EV pend E w)(f:GC P ρ ops Q n D (.l d mk b) EV pend E w):GC P ρ ops Q n D (.l2 mk e c d b) EV pend E w:=λa h j i=>by have g:=g a h j i;have f:=f a h j i;simp only [ji] at g f ⊢;exact ⟨g,f⟩
def QKE(P:Program)(ρ:za)(ops:zc)(Q:bD)(rest:OT)(EV:List tA)(pend:fv):bD:=λe a w=>match e with
 | .normal=>(∀x∈EV,vn P ops a x)->iq pend w/\ji P ρ ops (QN Q) rest (EV.map (·.1)) pend a w
 | .panic c=>DG Q c a.defers w
 |e=>Q e a w
theorem ats{rest:OT}{EV:List tA}{pend:fv}(d:iq pend w)(h:GC P ρ ops Q n D rest EV pend E w):At (QKE P ρ ops Q rest EV pend) .normal n D E w:=λa b hd c=>⟨d,h a b hd c⟩
theorem afd{rest:OT}{EV:List tA}{pend:fv}{c:xc}(h:DG Q c D w):At (QKE P ρ ops Q rest EV pend) (.panic c) n D E w:=λa _ hd=>by subst hd;exact h
theorem apd{rest:OT}{EV:List tA}{pend pend':fv}{k mk:Nat}(hk:ops[k]? =some o)(j:∀x∈EV,rq ops k x.1=true)(hp:still .any ops k pend=pend')(h:WL P ρ ops (QKE P ρ ops Q rest EV pend') n D [o] E w):
  GC P ρ ops Q n D (.l k mk rest) EV pend E w:=λa g i c=>by
 subst hp;simp only [ji,hk];have b:=h a g i;have m:wpOpIn (FW ρ) 0 P ops (QN Q) k (λf w'=>(∀x∈EV,vn P ops f x)->iq (still .any ops k pend) w'/\ji P ρ ops (QN Q) rest (EV.map (·.1)) (still .any ops k pend) f w') a w:=by
  unfold wpOpIn;simp only [hk];simp only [wpListIn] at b;split
  .rename_i e;simp only [e,oi] at b;refine ⟨b.1,?_⟩;have b:=b.2;generalize (o.semAt (FW ρ).round a.eval).run P w=r at*;cases r with
   |ok n w'=>cases n <;> simp only [Oper.uponIn] at b ⊢ <;> exact b
   |halt x w'=>cases x <;> simp only [Oper.uponIn] at b ⊢ <;> exact b
  next e=>simp only [e] at b;exact b
 exact wpOpIn_mono (λf w' h=>h.2 h.1) (anh (C:=λa=>∀x∈EV,vn P ops a x) hk (λa v c x hx=>(c x hx).put hk (j x hx)) (λa d c x hx=>c x hx) c m)
end
section
variable {α : Type} {A : eD α} {M : Nat -> Prop} {w : World} {v : Value} {xs : List α} {i : Int} {x : α} {e : TypeId} {R : zh} {cs : yp}
end
theorem ca.avD{α:Type}{A:eD α}{M:Nat->Prop}{w:World}{g:Bool}{v:Value}{xs:List α}{i j:Int}(h:g=true->ca A M w v xs)(b:g=true->dV i j xs.length=true):
  ∃p:gV,(g=true->UX v i j A.n (sl p))/\(g=true->ca A M w (sl p) (bN xs i j)):=by
 cases g
 .exact ⟨(none,0,0),(λh=>by cases h),(λh=>by cases h)⟩
 .obtain ⟨d,c,a⟩:=ca.cut (h rfl) (b rfl);obtain ⟨p,rfl⟩:=a.nI;exact ⟨p,λ_=>c,λ_=>a⟩
theorem ca.auK{α:Type}{A:eD α}{M:Nat->Prop}{w:World}{g:Bool}{v:Value}{xs:List α}{i j k:Int}(h:g=true->ca A M w v xs)(b:g=true->lG i j k xs.length=true):
  ∃p:gV,(g=true->Qj v i j k A.n (sl p))/\(g=true->ca A M w (sl p) (bN xs i j)):=by
 cases g
 .exact ⟨(none,0,0),(λh=>by cases h),(λh=>by cases h)⟩
 .obtain ⟨d,c,a⟩:=ca.avg (h rfl) (b rfl);obtain ⟨p,rfl⟩:=a.nI;exact ⟨p,λ_=>c,λ_=>a⟩
section
variable {P : Program} {ρ : za} {Q : bD} {n : Nat} {D : x3} {E : Env} {w : World} {ops : zc} {rest : zf} {Γ : Ctx} {g : Bool}
variable {dst : zb} {d : Tmp} {ty : TypeId} {pos : String} {af : zd} {gd : xa}
def ig:TypeDesc->Bool
 | .interface _=>true
 |_=>false
theorem agY{x:Operand}{v:Value}{t:TypeId}{dd:TypeDesc}(b:P.underlying t=some dd)(hd:ig dd=false)(hx:au E g x v):bq P E g ⟨dst,.makeInterface t x,ty,pos,af,gd⟩ w (.iface t v):=
 λn a d c=>by simp only [execOp,hx n a d c,Instr.makeInterface,Sem.run_bind,run_underlying b,Result.andThen_ok];cases dd <;> first|rfl|(simp [ig] at hd)
theorem ahN{x:Operand}{v:Value}{s t:TypeId}{dd:TypeDesc}(b:P.underlying t=some dd)(hd:ig dd=false)(hx:au E g x (.iface t v)):bq P E g ⟨dst,.typeAssert x s t false,ty,pos,af,gd⟩ w v:=
 λn a d c=>by simp only [execOp,hx n a d c,Instr.typeAssert,Sem.run_bind,run_underlying b,Result.andThen_ok];cases dd <;> first|(dsimp only;rw [pa rfl];rfl)|(simp [ig] at hd)
end
def gl(b:Nat)(vs:yp):Item where
 own:=[]
 P M w:= ¬M b/\∃t fr,w.heap[b]? =some (.cells vs.toArray t fr)
 lt _ b hb:=by cases hb
 dm {M M' w w'} h m _ _:=by obtain ⟨h1,t,fr,hb⟩:=h;obtain ⟨h2,h3⟩:=m.2 _ (Array.getElem?_eq_some_iff.1 hb).1 h1;exact ⟨h2,t,fr,h3.trans hb⟩
 cW:=true
 hp _:=rfl
section
variable {Γ : Ctx} {w : World} {α : Type} {A : eD α} {i : Nat}
theorem Sat.gl0(h:Sat Γ w){b:Nat}{vs:yp}(hi:Γ[i]? =some (gl b vs)):¬ Γ.M b/\∃t fr,w.heap[b]? =some (.cells vs.toArray t fr):=h.at_ hi
theorem Sat.gl(h:Sat Γ w){b:Nat}{vs:yp}(hi:Γ[i]? =some (gl b vs)):¬ Γ.M b/\bW w ⟨b,0,none⟩ vs:=by obtain ⟨c,t,fr,hb⟩:=h.gl0 hi;exact ⟨c,rfl,_,t,fr,hb,λj u a=>by simpa using a⟩
theorem auD{M:Nat->Prop}{xs:List α}(f:¬M b)(h:bW w ⟨b,0,none⟩ vs)(c:dh A M w vs xs):ca A M w (sl (some ⟨b,0,none⟩,xs.length,xs.length)) xs:=by
 obtain ⟨_,cs,t,fr,hb,a⟩:=h;have hl:=c.1;have d:vs.length<=cs.size:=by
  rcases Nat.eq_zero_or_pos vs.length with i|i
  .omega
  .have:=a (vs.length-1) _ (cB (by omega));have:=(Array.getElem?_eq_some_iff.1 this).1;omega
 refine .inr ⟨b,0,xs.length,cs,t,fr,rfl,f,hb,ch _,by omega,?_⟩;have e:(cs.toList.drop 0).take (xs.length*A.n)=vs:=by
  apply List.ext_getElem
  .simp;omega
  .intro j k g;have:=a j _ (cB g);simp only [n3,qY,Array.getElem_toList];rw [j0] at this;exact (Array.getElem?_eq_some_iff.1 this).2
 rw [e];exact c
theorem arX{β:Type}{xs:List β}{j:Int}{x:β}{n:Nat}(hx:idx xs j=some x)(hl:xs.length=n):uy j n=true:=by obtain ⟨a,hi,_⟩:=EU hx;exact Ac.2 ⟨a,by omega⟩
theorem afY{M:Nat->Prop}:∀l:List aD,dh RS M w (l.map S) l
 |[]=>dh.nil
 |x::l=>dh.cons (A:=RS) (c:=[S x]) rfl (afY l)
theorem aaX{M:Nat->Prop}{k:IntKind}:∀l:zg,dh (RI k) M w (l.map (Value.int k)) l
 |[]=>dh.nil
 |x::l=>dh.cons (A:=RI k) (c:=[Value.int k x]) rfl (aaX l)
end
section
variable {P : Program} {ρ : za} {Q : bD} {n : Nat} {D : x3} {E : Env} {w : World} {ops : zc} {rest : zf} {Γ : Ctx} {g : Bool}
variable {dst : zb} {d : Tmp} {ty : TypeId} {pos : String} {af : zd} {gd : xa}
theorem Co{i:Int}{m len bytes:Nat}{t:TypeId}(j:P.underlying t=some (.array len e))(b:TI P e m bytes z)(hx:au E g x (.pointer (some p)))(h:au E g y (.int k i))
  (hi:g=true->uy i len=true):bq P E g ⟨dst,.indexAddr t x y,ty,pos,af,gd⟩ w (.pointer (some (p.add (i.toNat*m)))):=
 λn' a f d=>by obtain ⟨q,c,l,_,_⟩:=b.out;obtain ⟨o,n⟩:=Ac.1 (hi d);simp [execOp,hx n' a f d,h n' a f d,Instr.indexAt,asIntOf,run_underlying j,Instr.sureAddr,o,n,sizeOf,typeInfo,c,l]
theorem akD{len:Nat}{m bytes:Nat}{t:TypeId}(f:P.underlying t=some (.array len e))(c:TI P e m bytes z)(b:Nat.blt 0 len=true)(hx:au E g x (.pointer (some p))):
  bq P E g ⟨dst,.slice t x none none none,ty,pos,af,gd⟩ w (.slice (some p) len len):=
 λn' a i h=>by
  obtain ⟨j,d,k,_,_⟩:=c.out;have l:0<len:=by simpa using b
  simp [execOp,hx n' a i h,Instr.sliceAt,run_underlying f,Instr.sureAddr,Instr.sliceBounds,sizeOf,typeInfo,d,Addr.add]
theorem agV{α:Type}{A:eD α}{M:Nat->Prop}{p:gV}{xs:List α}(h:ca A M w (sl p) xs):(p=(none,0,0)/\xs=[])\/As (sl p)=false:=by
 rcases h with ⟨⟨a0,h⟩,rfl⟩|⟨b,off,cap,cs,e,fr,h,_⟩
 .cases a0 with
  |none=>
   obtain ⟨a,l,c⟩:=p;simp only [sl,Value.slice.injEq] at h;exact .inl ⟨by rw [h.1,h.2.1,h.2.2],rfl⟩
  |some a0=>rw [h];exact .inr rfl
 .rw [h];exact .inr rfl
theorem aho{α:Type}{A:eD α}{M:Nat->Prop}{p:gV}{xs:List α}{R:zh}(h:bU A e M w (sl p) xs R):(As (sl p)=true/\xs=[])\/As (sl p)=false:=by
 cases hn:As (sl p)
 .exact .inr rfl
 .refine .inl ⟨rfl,?_⟩;obtain ⟨a,l,c⟩:=p;rcases h with ⟨_,cells,⟨_,h⟩,_⟩|⟨_,h,_⟩
  .rcases h with ⟨_,d⟩|⟨g,off,cap,cur,b,_⟩
   .exact c8 d
   .rw [b] at hn;cases hn
  .exact h
end
section
variable {P : Program} {ρ : za} {Q : bD} {n : Nat} {D : x3} {E : Env} {w : World} {ops : zc} {rest : zf} {Γ : Ctx} {g : Bool}
variable {d : Tmp} {ty : TypeId} {pos : String} {af : zd}
end
variable {kt : TypeId}
structure uM(P:Program)(kt:TypeId){κ:Type}[BEq κ](ke:κ->Value):Prop where
 ut:∃d,P.underlying kt=some d/\((∀a b,Instr.sameNow d (ke a) (ke b)=some (a==b))\/((∀a b,Instr.sameNow d (ke a) (ke b)=none)/\∀a b (w:World),(Op.equal kt (ke a) (ke b)).run P w= .ok (a==b) w))
 bits:∀a b,(a==b)=true->a=b/\Instr.sameBits 10000 (ke b) (ke a)=true
 check:∀(em:Bool) (a:κ) (w:World),(Instr.checkKey em 10000 kt (ke a)).run P w= .ok () w
theorem uM.int{P:Program}(h:P.underlying kt=some (.int k)):uM P kt (Value.int k) where
 ut:=⟨_,h,.inl λa b=>by simp [Instr.sameNow]⟩
 bits a b h:=by
  have:a=b:=by simpa using h
  subst this;exact ⟨rfl,by simp [Instr.sameBits]⟩
 check em a w:=by show (Instr.checkKey em (9999+1) kt _).run P w=_;unfold Instr.checkKey;simp [run_underlying h]
theorem arq(a b:aD):((⟨a.toArray⟩:ByteArray)==(⟨b.toArray⟩:ByteArray))=(a==b):=by
 rw [qC,MapKept.bytes_beq,eT];constructor
 .intro h;have:=congrArg ByteArray.toList h;rwa [L4,L4] at this
 .intro h;rw [h]
theorem uM.str{P:Program}(h:P.underlying kt=some .string):uM P kt S where
 ut:=⟨_,h,.inl λa b=>by simp only [Instr.sameNow,S,arq]⟩
 bits a b h:=by
  have:a=b:=by simpa using h
  subst this;exact ⟨rfl,by simp only [Instr.sameBits,S,arq,h]⟩
 check em a w:=by show (Instr.checkKey em (9999+1) kt _).run P w=_;unfold Instr.checkKey;simp [run_underlying h,S]
def Wz(k1 k2:IntKind)(p:Int×Int):Value:= .agg #[.int k1 p.1,.int k2 p.2]
theorem Gp{P:Program}{w:World}{t:TypeId}{cs:x8}{off:Nat}(h:P.underlying t=some (.int k))(a:cs[off]? =some v):(part t cs off).run P w= .ok v w:=by unfold part;rw [Sem.run_bind,Bh h];simp [kJ,a]
theorem uM.pair{P:Program}{f e:Field}{d c:IntKind}(h:P.underlying kt=some (.struct #[f,e]))(m:f.name≠ "_") (l:e.name≠ "_") (k:f.offset=0) (j:e.offset=1)
  (t1:P.underlying f.type=some (.int d)) (t2:P.underlying e.type=some (.int c)) (n:P.stoodInHeld kt=false):uM P kt (Wz d c) where
 ut:=⟨_,h,.inr ⟨λa b=>rfl,λa b w=>by
  have i:∀x:Int×Int,(part f.type #[.int d x.1,.int c x.2] 0).run P w= .ok (.int d x.1) w:=λx=>Gp t1 rfl;have g:∀x:Int×Int,(part e.type #[.int d x.1,.int c x.2] 1).run P w= .ok (.int c x.2) w:=λx=>Gp t2 rfl;have r:(Op.equalIn 9999 f.type (.int d a.1) (.int d b.1)).run P w= .ok (a.1==b.1) w:=by show (Op.equalIn (9998+1) _ _ _).run P w=_;unfold Op.equalIn;simp [run_underlying t1]
  have q:(Op.equalIn 9999 e.type (.int c a.2) (.int c b.2)).run P w= .ok (a.2==b.2) w:=by show (Op.equalIn (9998+1) _ _ _).run P w=_;unfold Op.equalIn;simp [run_underlying t2]
  show (Op.equalIn (9999+1) kt _ _).run P w=_;unfold Op.equalIn;have ee:(a==b)=(a.1==b.1&&a.2==b.2):=rfl;simp only [run_underlying h,Sem.run_bind,Result.andThen_ok,Wz,run_program,n];rw [ee];cases p:(a.1==b.1) <;> cases o:(a.2==b.2) <;> simp [m,l,k,j,i,g,r,q,p,o]⟩⟩
 bits a b h:=by
  have:a=b:=by obtain ⟨y,v⟩:=a;obtain ⟨u,t⟩:=b;have:(y==u&&v==t)=true:=h;simp only [ar,eT] at this;rw [this.1,this.2]
  subst this;refine ⟨rfl,?_⟩;show Instr.sameBits (9999+1) _ _=true;simp [Instr.sameBits,Wz]
 check em a w:=by
  have c1:(Instr.checkKey em 9999 f.type (.int d a.1)).run P w= .ok () w:=by show (Instr.checkKey em (9998+1) _ _).run P w=_;unfold Instr.checkKey;simp [run_underlying t1]
  have s:(Instr.checkKey em 9999 e.type (.int c a.2)).run P w= .ok () w:=by show (Instr.checkKey em (9998+1) _ _).run P w=_;unfold Instr.checkKey;simp [run_underlying t2]
  have i:(part f.type #[.int d a.1,.int c a.2] 0).run P w= .ok (.int d a.1) w:=Gp t1 rfl;have g:(part e.type #[.int d a.1,.int c a.2] 1).run P w= .ok (.int c a.2) w:=Gp t2 rfl;show (Instr.checkKey em (9999+1) kt _).run P w=_;unfold Instr.checkKey;simp [run_underlying h,Wz,m,l,k,j,i,g,c1,s]
def tO{κ ν:Type}[BEq κ](l:List (κ×ν))(k:κ):Option ν:=match l with
 |[]=>none
 |p::l=>bif k==p.1 then some p.2 else tO l k
def nQ{κ ν:Type}[BEq κ](l:List (κ×ν))(k:κ)(v:ν):List (κ×ν):=match l with
 |[]=>[(k,v)]
 |p::l=>bif k==p.1 then (k,v)::l else p::nQ l k v
section
variable {κ ν : Type} [BEq κ] {ke : κ -> Value} {vi : ν -> Value}
def ye(ke:κ->Value)(vi:ν->Value)(es:List MapEntry)(l:List (κ×ν)):Prop:=es.map (λe=>(e.key,e.val))=l.map λp=>(ke p.1,vi p.2)
def pB(ke:κ->Value)(vi:ν->Value)(w:World)(v:Value)(d:Option (List (κ×ν))):Prop:=
 (v= .map none/\d=none)\/∃b es clock l,v= .map (some b)/\d=some l/\w.heap[b]? =some (.map es clock)/\ye ke vi es.toList l
def KU:Value->zh
 | .map (some b)=>[b]
 |_=>[]
omit [BEq κ] in
theorem pB.nil{w:World}:pB ke vi w (.map none) none:= .inl ⟨rfl,rfl⟩
omit [BEq κ] in
theorem pB.lt{w:World}{d:Option (List (κ×ν))}(h:pB ke vi w v d):∀b∈KU v,b<w.heap.size:=λb hb=>by
 rcases h with ⟨rfl,_⟩|⟨f,e,a,l,rfl,_,c,_⟩
 .cases hb
 .simp [KU] at hb;subst hb;exact (Array.getElem?_eq_some_iff.1 c).1
omit [BEq κ] in
theorem pB.dm{w w':World}{d:Option (List (κ×ν))}(h:pB ke vi w v d)(k:∀b∈KU v,w'.heap[b]? =w.heap[b]?):pB ke vi w' v d:=by
 rcases h with h|⟨b,e,a,l,rfl,hd,c,hk⟩
 .exact .inl h
 .exact .inr ⟨b,e,a,l,rfl,hd,by rw [k b (by simp [KU])];exact c,hk⟩
theorem SS{d:TypeDesc}(hn:∀a b:κ,Instr.sameNow d (ke a) (ke b)=some (a==b))(k:κ):∀(f:List MapEntry) (l:List (κ×ν)) (i:Nat),ye ke vi f l->
  (tO l k=none/\(l.any λp=>k==p.1)=false/\Instr.findNow d (ke k) f i=some none)\/
  ∃j v,tO l k=some v/\Instr.findNow d (ke k) f i=some (some (i+j,vi v))/\j<f.length/\(∃p,l[j]? =some p/\(k==p.1)=true/\∀q,nQ l k q=l.set j (k,q))
 |[],[],i,_=> .inl ⟨rfl,rfl,rfl⟩
 |[],_::_,_,h=>by simp [ye] at h
 |_::_,[],_,h=>by simp [ye] at h
 |e::f,p::l,i,h=>by
  simp only [ye,et,qm,qc] at h;obtain ⟨⟨n,s⟩,r⟩:=h;cases hk:(k==p.1)
  .rcases SS hn k f l (i+1) r with ⟨a,b,c⟩|⟨j,v,a,b,c,q,o,m,g⟩
   .exact .inl ⟨by simp [tO,hk,a],by simp [hk,b],by simp [Instr.findNow,n,hn,hk,c]⟩
   .refine .inr ⟨j+1,v,by simp [tO,hk,a],?_,by simpa using c,q,by simpa using o,m,λu=>by simp [nQ,hk,g]⟩;simp only [Instr.findNow,n,hn,hk,b];congr 3;omega
  .exact .inr ⟨0,p.2,by simp [tO,hk],by simp [Instr.findNow,n,hn,hk,s],by simp,p,by simp,hk,λu=>by simp [nQ,hk]⟩
theorem SW{P:Program}{w:World}{kt:TypeId}(hn:∀a b:κ,(Op.equal kt (ke a) (ke b)).run P w= .ok (a==b) w)(k:κ):∀(d:List MapEntry) (l:List (κ×ν)) (i:Nat),ye ke vi d l->
  (tO l k=none/\(l.any λp=>k==p.1)=false/\(Instr.findAsking kt (ke k) d i).run P w= .ok none w)\/
  ∃j v,tO l k=some v/\(Instr.findAsking kt (ke k) d i).run P w= .ok (some (i+j,vi v)) w/\j<d.length/\(∃p,l[j]? =some p/\(k==p.1)=true/\∀q,nQ l k q=l.set j (k,q))
 |[],[],i,_=> .inl ⟨rfl,rfl,rfl⟩
 |[],_::_,_,h=>by simp [ye] at h
 |_::_,[],_,h=>by simp [ye] at h
 |e::d,p::l,i,h=>by
  simp only [ye,et,qm,qc] at h;obtain ⟨⟨m,r⟩,o⟩:=h;cases hk:(k==p.1)
  .rcases SW hn k d l (i+1) o with ⟨a,b,c⟩|⟨j,v,a,b,c,q,n,g,f⟩
   .exact .inl ⟨by simp [tO,hk,a],by simp [hk,b],by simp [Instr.findAsking,m,hn,hk,c]⟩
   .refine .inr ⟨j+1,v,by simp [tO,hk,a],?_,by simpa using c,q,by simpa using n,g,λu=>by simp [nQ,hk,f]⟩;have:i+1+j=i+(j+1):=by omega
    rw [this] at b;simp [Instr.findAsking,m,hn,hk,b]
  .exact .inr ⟨0,p.2,by simp [tO,hk],by simp [Instr.findAsking,m,hn,hk,r],by simp,p,by simp,hk,λu=>by simp [nQ,hk]⟩
theorem Iy{P:Program}(hk:uM P kt ke)(k:κ)(f:List MapEntry)(l:List (κ×ν))(h:ye ke vi f l)(w:World):
  (tO l k=none/\(l.any λp=>k==p.1)=false/\(Instr.findKey kt (ke k) f).run P w= .ok none w)\/
  ∃j v,tO l k=some v/\(Instr.findKey kt (ke k) f).run P w= .ok (some (j,vi v)) w/\j<f.length/\(∃p,l[j]? =some p/\(k==p.1)=true/\∀q,nQ l k q=l.set j (k,q)):=by
 obtain ⟨m,d,hn⟩:=hk.ut;rcases hn with hn|⟨hn,i⟩
 .rcases SS hn k f l 0 h with ⟨a,b,c⟩|⟨j,v,a,b,c⟩
  .exact .inl ⟨a,b,by simp [Instr.findKey,run_underlying d,c]⟩
  .exact .inr ⟨j,v,a,by simp [Instr.findKey,run_underlying d,b],c⟩
 .have g:Instr.findNow m (ke k) f 0=none\/f=[]:=by
   cases f with
   |nil=>exact .inr rfl
   |cons e f=>
    cases l with
    |nil=>simp [ye] at h
    |cons p l=>
     simp only [ye,et,qm,qc] at h;exact .inl (by simp [Instr.findNow,h.1.1,hn])
  rcases g with g|rfl
  .rcases SW (λa b=>i a b w) k f l 0 h with ⟨a,b,c⟩|⟨j,v,a,b,c⟩
   .exact .inl ⟨a,b,by simp [Instr.findKey,run_underlying d,g,c]⟩
   .exact .inr ⟨j,v,a,by simpa [Instr.findKey,run_underlying d,g] using b,c⟩
  .cases l with
   |nil=>exact .inl ⟨rfl,rfl,by simp [Instr.findKey,run_underlying d,Instr.findNow]⟩
   |cons p l=>simp [ye] at h
theorem amR{l:List (κ×ν)}{k:κ}{v:ν}(h:(l.any λp=>k==p.1)=false):nQ l k v=l++[(k,v)]:=by
 induction l with
 |nil=>rfl
 |cons p l ih=>
  simp only [List.any_cons,qh] at h;simp [nQ,h.1,ih h.2]
end
def omap{κ ν:Type}(ke:κ->Value)(vi:ν->Value)(v:Value)(d:Option (List (κ×ν))):Item where
 own:=KU v
 P _ w:=pB ke vi w v d
 lt h:=h.lt
 dm h _ k _:=h.dm k
 cW:=false
 hp h:=by cases h
section
variable {κ ν : Type} {ke : κ -> Value} {vi : ν -> Value} {Γ : Ctx} {w : World} {i : Nat}
theorem Sat.omap(h:Sat Γ w){v:Value}{d:Option (List (κ×ν))}(hi:Γ[i]? =some (Go.Proofs.YthhmkmmmbcjghaaGreatDoor.omap ke vi v d)):pB ke vi w v d:=h.at_ hi
end
section
variable {κ ν : Type} [BEq κ] {ke : κ -> Value} {vi : ν -> Value}
variable {P : Program} {E : Env} {w : World} {g : Bool}
variable {dst : zb} {ty : TypeId} {pos : String} {af : zd} {gd : xa}
def nn(d:Option (List (κ×ν)))(k:κ)(z:ν):ν:=((d.getD []) |> λl=>tO l k).getD z
def Vl(d:Option (List (κ×ν)))(k:κ):Bool:=(tO (d.getD []) k).isSome
theorem Wv{n t:TypeId}(hk:uM P kt ke)(e:P.underlying t=some (.map kt n)){z:ν}(i:(zeroValue n).run P w= .ok (vi z) w){v:Value}{d:Option (List (κ×ν))}(h:pB ke vi w v d)(k:κ)(ok:Bool):
  (Instr.lookup t v (ke k) ok).run P w= .ok (bif ok then .tuple #[vi (nn d k z),.bool (Vl d k)] else vi (nn d k z)) w:=by
 rcases h with ⟨rfl,rfl⟩|⟨b,o,g,l,rfl,rfl,m,f⟩
 .rcases Iy (vi:=vi) hk k [] [] rfl w with ⟨a,_,c⟩|⟨j,u,a,_⟩
  .cases ok <;> simp [Instr.lookup,run_underlying e,hk.check,c,i,nn,Vl,tO,Result.andThen]
  .cases a
 .rcases Iy hk k o.toList l f w with ⟨a,_,c⟩|⟨j,u,a,c,_⟩
  .cases ok <;> simp [Instr.lookup,run_underlying e,MapKept.run_getObj_map m,hk.check,c,i,nn,Vl,a,Result.andThen]
  .cases ok <;> simp [Instr.lookup,run_underlying e,MapKept.run_getObj_map m,hk.check,c,nn,Vl,a,Result.andThen]
theorem akt{e t:TypeId}(hk:uM P kt ke)(j:P.underlying t=some (.map kt e)){z:ν}(f:(zeroValue e).run P w= .ok (vi z) w){v:Value}{d:Option (List (κ×ν))}{k:κ}(hx:au E g x v)(i:au E g y (ke k))(h:g=true->pB ke vi w v d):
  bq P E g ⟨dst,.lookup t x y false,ty,pos,af,gd⟩ w (vi (nn d k z)):=λn a c b=>by
 simp [execOp,hx n a c b,i n a c b,Wv hk j f (h b) k false]
theorem aeb{e t:TypeId}(hk:uM P kt ke)(j:P.underlying t=some (.map kt e)){z:ν}(f:(zeroValue e).run P w= .ok (vi z) w){v:Value}{d:Option (List (κ×ν))}{k:κ}(hx:au E g x v)(i:au E g y (ke k))(h:g=true->pB ke vi w v d):
  bq P E g ⟨dst,.lookup t x y true,ty,pos,af,gd⟩ w (.tuple #[vi (nn d k z),.bool (Vl d k)]):=λn a c b=>by
 simp [execOp,hx n a c b,i n a c b,Wv hk j f (h b) k true]
end
section
variable {κ ν : Type} {ke : κ -> Value} {vi : ν -> Value}
variable {P : Program} {ρ : za} {Q : bD} {n : Nat} {D : x3} {E : Env} {w : World} {ops : zc} {rest : zf} {Γ : Ctx} {i : Nat}
variable {d : Tmp} {ty : TypeId} {pos : String} {af : zd}
variable [BEq κ]
omit [BEq κ] in
theorem ash{a:List MapEntry}{l:List (κ×ν)}(h:ye ke vi a l){j:Nat}(f:MapEntry->MapEntry){k:κ}{u:ν}(g:∀e,a[j]? =some e->((f e).key,(f e).val)=(ke k,vi u)):ye ke vi (a.modify j f) (l.set j (k,u)):=by
 unfold ye at*;have hl:a.length=l.length:=by simpa using congrArg List.length h
 apply qF;intro i;have hi:(a.map λe=>(e.key,e.val))[i]? =(l.map λp=>(ke p.1,vi p.2))[i]? :=by rw [h]
 rw [p5,p5] at hi ⊢;rw [List.getElem?_modify,tt];by_cases c:j=i
 .subst c;by_cases b:j<a.length
  .have m:j<l.length:=by omega
   have d:=g _ (cB b);simp [cB b,m,qc] at d ⊢;exact d
  .rw [j6 (by omega)];simp;omega
 .simp only [c,j3];simpa using hi
theorem Zs{z:Operand}{U t:TypeId}{v:za}{l:List (κ×ν)}{k:κ}{u:ν}(hk:uM P kt ke)(O:P.underlying t=some (.map kt U))(hx:au E true x (.map v))(N:au E true y (ke k))(M:au E true z (vi u))(S:pB ke vi w (.map v) (some l)):
  ∃w',Wc P E ⟨none,.mapUpdate t x y z,ty,pos,af,none⟩ w w'/\kQ (KU (.map v)) w w'/\w'.heap.size=w.heap.size/\pB ke vi w' (.map v) (some (nQ l k u)):=by
 rcases S with ⟨R,L⟩|⟨b,o,f,l',R,L,s,g⟩
 .cases L
 cases R;cases L;have B:=(Array.getElem?_eq_some_iff.1 s).1;have A:∀(h:Array MapEntry) (d:Nat),ye ke vi h.toList (nQ l k u)->Wc P E ⟨none,.mapUpdate t x y z,ty,pos,af,none⟩ w { w with heap:=w.heap.setIfInBounds b (.map h d) }->
   ∃w',Wc P E ⟨none,.mapUpdate t x y z,ty,pos,af,none⟩ w w'/\kQ (KU (.map (some b))) w w'/\w'.heap.size=w.heap.size/\pB ke vi w' (.map (some b)) (some (nQ l k u)):=λh d r q=>by
  refine ⟨_,q,⟨rfl,rfl,rfl,by simp,λc _ I=>?_⟩,by simp,.inr ⟨b,h,d,_,rfl,rfl,?_,r⟩⟩
  .exact qA (λe=>I (by simp [KU,e]))
  .simp [B]
 rcases Iy hk k o.toList l g w with ⟨_,V,c⟩|⟨j,W,_,c,Q,p,hp,D,C⟩
 .refine A (o.push { key:=ke k,val:=vi u,born:=f }) (f+1) ?_ ?_
  .rw [amR V];unfold ye at*;simp [g]
  .intro n a i;simp [execOp,hx n a i rfl,N n a i rfl,M n a i rfl,Instr.mapUpdate,run_underlying O,MapKept.run_getObj_map s,hk.check,c,MapKept.run_setObj_map _ s,Result.andThen]
 .obtain ⟨rfl,J⟩:=hk.bits k p.1 D;have G:∃e,o.toList[j]? =some e/\e.key=ke p.1:=by
   have K:(o.toList.map λe=>(e.key,e.val))[j]? =(l.map λp=>(ke p.1,vi p.2))[j]? :=by rw [g]
   rw [p5,p5,hp,cB Q] at K;simp only [lk,cC,qc] at K;exact ⟨_,cB Q,K.1⟩
  obtain ⟨e,T,F⟩:=G;have H:o[j]? =some e:=by simpa using T
  refine A (o.modify j λe=>{ e with key:=ke p.1,val:=vi u }) f ?_ ?_
  .rw [C,Array.toList_modify];exact ash g _ (λe _=>rfl)
  .have m:Instr.sameBits 10000 e.key (ke p.1)=true:=by rw [F];exact J
   intro n a i;simp [execOp,hx n a i rfl,N n a i rfl,M n a i rfl,Instr.mapUpdate,run_underlying O,MapKept.run_getObj_map s,hk.check,c,MapKept.run_setObj_map _ s,Result.andThen,H,Instr.keyThatStays,m]
end
end Go.Proofs.YthhmkmmmbcjghaaGreatDoor
