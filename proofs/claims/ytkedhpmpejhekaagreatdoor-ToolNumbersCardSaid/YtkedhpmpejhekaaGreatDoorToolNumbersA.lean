/- Own texts for ToolNumbers, cut and joined by a program. -/
import Derived.WalkKit
import Derived.ScopeJumps
import Derived.Deep.Quiet
import Derived.KernelRfl
import Derived.TacticsIn
import Derived.OrdersIn
import Derived.RangeFuncRecord
import Derived.Laws.BytesArg
import Derived.Laws.IdiomStrings
import Derived.Laws.Cover3
import Derived.Laws.Shifts
import Derived.Laws.BitsAllLaws
set_option linter.all false
namespace Go.Proofs.YtkedhpmpejhekaaGreatDoor
open IntKind (i64 u8)
abbrev xc:=List Nat
abbrev xb:=List Int
abbrev xa:=List Oper
abbrev w5:=Array Bool
abbrev w4:=Array Edge
abbrev wT:=Array Oper
abbrev v7:=Option Tmp
abbrev vA:=Option Nat
abbrev vy:=Option Int
abbrev vf:=List Value
abbrev vc:=Array Value
abbrev vb:=Option Bool
abbrev u9:=List Operand
abbrev tt:=List Deferred
abbrev tj:=List PanicEntry
abbrev ti:=List (Option Nat)
abbrev s3:=Option (Nat × Bool)
abbrev sv:=List (Option TypeId)
abbrev ae:=@Bool.and_eq_true
abbrev ah:=@Nat.eq_of_beq_eq_true
abbrev aO:=@List.append_assoc
abbrev aW:=@List.mem_cons_of_mem
abbrev bb:=@Nat.le_refl
abbrev bj:=@List.length_take
abbrev bZ:=@List.getElem?_append_right
abbrev b0:=@List.mem_cons_self
abbrev b5:=@Option.some.injEq
abbrev b7:=@List.getElem?_eq_getElem
abbrev b8:=@List.getElem?_append_left
abbrev b9:=@List.getElem?_cons_succ
abbrev ca:=@Nat.le_trans
abbrev cb:=@Array.length_toList
abbrev cd:=@Nat.le_of_ble_eq_true
abbrev cf:=@List.eq_nil_of_length_eq_zero
abbrev ch:=@List.length_drop
abbrev cj:=@List.length_append
abbrev ck:=@Bool.or_eq_true
abbrev cp:=@List.map_cons
abbrev cq:=@Nat.min_eq_left
abbrev cx:=@Nat.lt_of_lt_of_le
abbrev cy:=@List.mem_append_right
abbrev c5:=@List.getElem?_cons_zero
abbrev c8:=@Nat.mul_le_mul_right
abbrev c9:=@Bool.not_eq_true'
abbrev de:=@Option.bind_some
abbrev dk:=@Nat.blt_eq
abbrev du:=@List.cons_append
abbrev eb:=@Nat.le_succ
abbrev ec:=@Nat.zero_add
abbrev ed:=@List.take_of_length_le
abbrev et:=@List.getElem?_drop
abbrev eF:=@List.append_nil
abbrev e9:=@List.getElem?_eq_none
abbrev gj:=@List.getElem?_take
abbrev gx:=@Array.getD_eq_getD_getElem?
abbrev gy:=@List.mem_singleton
abbrev gZ:=@if_neg
abbrev hV:=@Option.map_some
abbrev hW:=@List.size_toArray
abbrev j0:=@beq_iff_eq
abbrev j5:=@if_pos
abbrev j6:=@List.drop_drop
abbrev ko:=@Bool.eq_false_iff
abbrev kz:=@decide_eq_true_eq
abbrev kR:=@cond_false
abbrev lk:=@List.take_take
abbrev l5:=@cond_true
abbrev l7:=@List.getElem?_map
abbrev l9:=@List.drop_zero
abbrev mi:=@Bool.false_eq_true
abbrev mj:=@List.mem_of_getElem?
abbrev mo:=@List.drop_eq_nil_of_le
abbrev n3:=@List.take_append_of_le_length
abbrev n5:=@Prod.mk.injEq
abbrev n7:=@Nat.add_mul
abbrev n9:=@Option.some.inj
abbrev oi:=@List.nil_append
abbrev pa:=@List.cons.injEq
abbrev pc:=@List.drop_take
abbrev p0:=@Nat.zero_le
abbrev p5:=@of_decide_eq_true
abbrev p8:=@decide_eq_false
abbrev qa:=@List.singleton_append
abbrev qb:=@List.length_cons
abbrev qc:=@List.filter_cons
abbrev qd:=@Nat.lt_succ_self
abbrev qe:=@List.length_nil
abbrev qf:=@List.replicate_succ
abbrev qg:=@Nat.add_zero
abbrev qh:=@Array.getElem?_toList
abbrev qi:=@decide_eq_true
abbrev qj:=@Array.getElem?_setIfInBounds_ne
abbrev qk:=@List.getElem?_set_ne
abbrev ql:=@Array.size_append
abbrev qm:=@List.ext_getElem?
abbrev qn:=@Int.toNat_natCast
abbrev qo:=@Nat.add_assoc
abbrev qp:=@if_true
abbrev qq:=@Option.getD_some
abbrev qs:=@Nat.le_add_right
abbrev qt:=@List.getElem?_set_self
abbrev qu:=@Nat.ble_eq_true_of_le
abbrev qv:=@List.mem_cons
abbrev qw:=@Bool.false_or
abbrev qx:=@Bool.or_eq_false_iff
abbrev qy:=@List.mem_append_left
abbrev qz:=@List.drop_eq_getElem_cons
abbrev qA:=@if_false
abbrev qB:=@List.all_eq_true
abbrev qC:=@beq_eq_false_iff_ne
abbrev qD:=@List.map_congr_left
abbrev qE:=@Option.bind_eq_some_iff
abbrev qF:=@List.all_cons
abbrev qG:=@List.filter_filter
abbrev qH:=@List.take_append_drop
abbrev qI:=@List.set_append_right
abbrev qJ:=@List.take_append
abbrev qK:=@Array.getElem?_append_left
abbrev qL:=@Bool.true_and
abbrev qM:=@Array.getElem?_setIfInBounds_self_of_lt
abbrev qN:=@Array.toList_append
abbrev qO:=@List.take_succ_cons
abbrev qP:=@Bool.eq_iff_iff
abbrev qQ:=@Classical.byContradiction
abbrev qR:=@List.map_append
abbrev qS:=@List.isEmpty_eq_false_iff
abbrev qT:=@Nat.succ_mul
abbrev qU:=@Array.empty_append
abbrev qV:=@Nat.pos_of_ne_zero
abbrev qW:=@Nat.mod_lt
abbrev qX:=@List.take_left
abbrev qY:=@List.getElem_take
abbrev qZ:=@List.getElem_drop
abbrev q0:=@List.getElem?_set
abbrev q4:=@List.drop_of_length_le
abbrev q5:=@Nat.mul_one
abbrev q6:=@List.drop_append
abbrev q7:=@Nat.min_eq_right
abbrev q8:=@Array.getElem?_modify
abbrev q9:=@Nat.lt_or_ge
abbrev rh:=@List.map_map
abbrev rP:=@List.length_set
abbrev si:=@List.getElem?_of_mem
abbrev sj:=@Array.size_replicate
variable {K : Act -> World -> Prop} {R : Ending -> World -> Prop} {i : Nat} {o : Oper}
abbrev aF:=List UInt8
def S(l:aF):Value:= .string ⟨l.toArray⟩
noncomputable def az{σ ρ:Type}(F:(σ->Option ρ)->σ->Option ρ)(n:Nat):σ->Option ρ:=Nat.rec (λ_=>none) (λ_ ih s=>F ih s) n
theorem W7{σ ρ:Type}{F:(σ->Option ρ)->σ->Option ρ}{n:Nat}{s:σ}:az F (n+1) s=F (az F n) s:=rfl
def aB:Nat:=2^64
def aI{ρ:Type}(c:Bool)(k:Option ρ):Option ρ:=bif c then k else none
def ai{α ρ:Type}(x:α)(k:α->Option ρ):Option ρ:=k x
def bD{α ρ:Type}(g:Bool)(d:α)(m:Option α)(k:α->Option ρ):Option ρ:=(bif g then m else some d).bind k
theorem ej{ρ:Type}{c:Bool}{k:Option ρ}{r:ρ}(h:aI c k=some r):c=true/\k=some r:=by
 cases c
 .cases h
 .exact ⟨rfl,h⟩
theorem yN{α ρ:Type}{m:Option α}{k:α->Option ρ}{r:ρ}(h:m.bind k=some r):∃y,m=some y/\k y=some r:=by
 cases m with
 |none=>cases h
 |some y=>exact ⟨y,rfl,h⟩
theorem Uv{α ρ:Type}{g:Bool}{d:α}{m:Option α}{k:α->Option ρ}{r:ρ}(h:bD g d m k=some r):
  ∃y,(g=true->m=some y)/\(g=false->y=d)/\k y=some r:=by
 cases g
 .exact ⟨d,(λh=>by cases h),λ_=>rfl,h⟩
 .obtain ⟨y,a,b⟩:=yN h;exact ⟨y,λ_=>a,(λh=>by cases h),b⟩
theorem rR{ρ:Type}{c:Bool}{x y:Option ρ}{r:ρ}(h:(bif c then x else y)=some r):
  (c=true/\x=some r)\/(c=false/\y=some r):=by
 cases c
 .exact .inr ⟨rfl,h⟩
 .exact .inl ⟨rfl,h⟩
def Ka{ρ:Type}(g c:Bool)(k:Option ρ):Option ρ:=bif g then (bif c then k else none) else k
theorem aiV{ρ:Type}{g c:Bool}{k:Option ρ}{r:ρ}(h:Ka g c k=some r):(g=true->c=true)/\k=some r:=by
 cases g
 .exact ⟨(λh=>by cases h),h⟩
 .obtain ⟨b,a⟩:=ej (c:=c) h;exact ⟨λ_=>b,a⟩
theorem Kg{σ ρ:Type}{F:(σ->Option ρ)->σ->Option ρ}{n:Nat}{s:σ}{r:ρ}(h:az F n s=some r):
  ∃m,n=m+1/\F (az F m) s=some r:=by
 cases n with
 |zero=>cases h
 |succ m=>exact ⟨m,rfl,h⟩
abbrev Env:=List (Nat×Bool×Value)
def look:Env->Nat->Option (Bool×Value)
 |[],_=>none
 |(r,g,v)::E,t=>bif Nat.beq r t then some (g,v) else look E t
def vJ(g:Bool)(v:Value):Value:=bif g then v else undef
structure Fits(n:Nat)(E:Env)(a:Act):Prop where
 size:a.tmps.size=n
 at_:∀t g v,look E t=some (g,v)->a.tmps.getD t undef=vJ g v
def ar(E:Env)(g:Bool)(x:Operand)(v:Value):Prop:=
 ∀n a,Fits n E a->g=true->a.eval x=v
theorem ar.t{E:Env}{g:Bool}{t:Tmp}{v:Value}(h:look E t=some (true,v)):ar E g (.tmp t) v:=
 λn a b _=>by simpa [vJ,Act.eval] using b.at_ t true v h
theorem ar.g{E:Env}{g g':Bool}{t:Tmp}{v:Value}(h:look E t=some (g',v))(c:g=true->g'=true):ar E g (.tmp t) v:=
 λn a d b=>by have:=d.at_ t g' v h;rw [c b] at this;simpa [vJ,Act.eval] using this
theorem ar.c{E:Env}{g:Bool}{v:Value}:ar E g (.const v) v:=λ_ _ _ _=>rfl
theorem ar.f{E:Env}{g:Bool}{f:FuncId}:ar E g (.func f) (.func (.func f) #[] #[]):=λ_ _ _ _=>rfl
theorem ar.gl{E:Env}{g:Bool}{f:Nat}:ar E g (.global f) (.pointer (some ⟨f,0,none⟩)):=λ_ _ _ _=>rfl
inductive gw(E:Env)(g:Bool):u9->vf->Prop
 |nil:gw E g [] []
 |cons {x v xs vs}:ar E g x v->gw E g xs vs->gw E g (x::xs) (v::vs)
theorem gw.map{E:Env}{g:Bool}{xs:u9}{vs:vf}(h:gw E g xs vs){n:Nat}{a:Act}(c:Fits n E a)(b:g=true):
  xs.map a.eval=vs:=by
 induction h with
 |nil=>rfl
 |cons hx _ ih=>simp [hx n a c b,ih]
def put(dst:v7)(g:Bool)(v:Value)(E:Env):Env:=
 match dst with
 |some d=>(d,g,v)::E
 |none=>E
theorem LL(xs:vc)(i j:Nat)(v:Value):
  (xs.setIfInBounds i v).getD j undef=if i=j/\i<xs.size then v else xs.getD j undef:=by
 simp only [gx,Array.getElem?_setIfInBounds];by_cases h:i=j
 .subst h;by_cases a:i<xs.size
  .simp [a]
  .simp [a]
 .simp [h]
theorem Fits.put{n:Nat}{E:Env}{a:Act}(h:Fits n E a){d:Tmp}{g:Bool}{v:Value}(hd:Nat.blt d n=true):
  Fits n ((d,g,v)::E) (a.put (some d) (vJ g v)):=by
 have e:d<n:=by simpa using hd
 refine ⟨by simp [Act.put,h.size],λt g' f c=>?_⟩;simp only [Act.put,LL,h.size,e,and_true];simp only [look] at c;by_cases b:d=t
 .subst b;simp only [Nat.beq_refl,l5,b5,n5] at c;obtain ⟨rfl,rfl⟩:=c;simp
 .have:Nat.beq d t=false:=by cases hb:Nat.beq d t with
   |true=>exact absurd (ah hb) b
   |false=>rfl
  rw [this,kR] at c;rw [gZ b];exact h.at_ t g' f c
abbrev br:=Exit->Act->World->Prop
def FW(ρ:vA):Fence:={ fn:=λ_=>True,depth:=none,alive:=false,round:=ρ }
theorem G4{ρ:vA}{p:Prop}:(FW ρ).depth.isSome=true->p:=λh=>by cases h
theorem tA{ρ:vA}{P:Program}{m:Machine}:m.fenced P (FW ρ):=fenced_wide P m
theorem SK{ρ:vA}{n:Nat}{P:Program}{f:FuncId}{args:vc}{w:World}(h:Calls P f args w R):CallsIn (FW ρ) n P f args w R:=
 callsIn_wide.2 h
theorem ade{ρ:vA}{n:Nat}{P:Program}{f:FuncId}{args:vc}{w:World}(h:CallsIn (FW ρ) n P f args w R):Calls P f args w R:=
 callsIn_wide.1 h
def At(Q:br)(e:Exit)(n:Nat)(D:tt)(E:Env)(w:World):Prop:=
 ∀a,Fits n E a->a.defers=D->Q e a w
def WC(P:Program)(ρ:vA)(c:Code)(Q:br)(n:Nat)(D:tt)(E:Env)(w:World):Prop:=
 ∀a,Fits n E a->a.defers=D->c.wpIn (FW ρ) 0 P Q a w
def WL(P:Program)(ρ:vA)(ops:wT)(Q:br)(n:Nat)(D:tt)(l:xa)(E:Env)(w:World):Prop:=
 ∀a,Fits n E a->a.defers=D->wpListIn (FW ρ) 0 P ops Q l a w
section
variable {P : Program} {ρ : vA} {Q : br} {n : Nat} {D : tt} {E : Env} {w : World}
theorem bp{x y:Code}(h:WC P ρ x (Exit.then (y.wpIn (FW ρ) 0 P Q) Q) n D E w):WC P ρ (.seq x y) Q n D E w:=
 λa b hd=>wpIn_seq (h a b hd)
theorem ba{y:Code}(h:WC P ρ y Q n D E w):At (Exit.then (y.wpIn (FW ρ) 0 P Q) Q) .normal n D E w:=h
theorem mT(h:At Q .ret n D E w):At (Exit.then K Q) .ret n D E w:=h
theorem IW{i:tj}(h:At Q (.panic i) n D E w):At (Exit.then K Q) (.panic i) n D E w:=h
theorem Yj(h:At Q .normal n D E w):At (Exit.inBlock i Q) .normal n D E w:=h
theorem agO(h:At Q .ret n D E w):At (Exit.inBlock i Q) .ret n D E w:=h
theorem adT{j:Nat}(h:At Q (.goto j) n D E w):At (Exit.inBlock i Q) (.goto j) n D E w:=h
theorem K8{j:tj}(h:At Q (.panic j) n D E w):At (Exit.inBlock i Q) (.panic j) n D E w:=h
theorem ac8(h:At Q .normal n D E w):At (Exit.inBlock i Q) (.exit i) n D E w:=
 λa b hd=>by simp only [Exit.inBlock,qp];exact h a b hd
theorem aaI{j:Nat}(b:Nat.beq j i=false)(h:At Q (.exit j) n D E w):At (Exit.inBlock i Q) (.exit j) n D E w:=
 λa c hd=>by
  have:¬j=i:=λe=>by subst e;simp at b
  simp only [Exit.inBlock,gZ this];exact h a c hd
theorem o6(h:At Q .normal n D E w):WC P ρ .skip Q n D E w:=λa b hd=>wpIn_skip (h a b hd)
theorem ZW{l:Nat}(h:At Q .normal n D E w):WC P ρ (.label l) Q n D E w:=λa b hd=>wpIn_label (h a b hd)
theorem WQ(h:At Q (.exit i) n D E w):WC P ρ (.exit i) Q n D E w:=λa b hd=>wpIn_exit (h a b hd)
theorem aeR(h:At Q (.goto i) n D E w):WC P ρ (.goto i) Q n D E w:=λa b hd=>wpIn_goto (h a b hd)
theorem tu(h:At Q .ret n D E w):WC P ρ .ret Q n D E w:=λa b hd=>wpIn_ret (h a b hd)
theorem Pv{c:Code}(h:WC P ρ c (Exit.inBlock i Q) n D E w):WC P ρ (.block i c) Q n D E w:=λa b hd=>wpIn_block (h a b hd)
theorem bg{id:Nat}{l:xa}(h:WL P ρ l.toArray Q n D l E w):WC P ρ (.region id l.toArray false) Q n D E w:=
 λa b hd=>wpIn_region_lit (h a b hd)
theorem iw{c:Operand}{x y:Code}{b:Bool}(hc:ar E true c (.bool b))
  (e:b=true->WC P ρ x Q n D E w) (f:b=false->WC P ρ y Q n D E w):WC P ρ (.cond c x y) Q n D E w:=
 λa d hd=>wpIn_cond_split (hc n a d rfl) (λh=>e h a d hd) (λh=>f h a d hd)
def O9{γ:Type}(J:γ->World->Prop)(Es:γ->Env)(n:Nat)(D:tt)(a:Act)(w:World):Prop:=
 ∃g,J g w/\Fits n (Es g) a/\a.defers=D
theorem af6{γ:Type}(J:γ->World->Prop)(b:γ->Env){x y:Code}
  (c:∀g w',J g w'->WC P ρ y Q n D (b g) w') (hx:WC P ρ x (Exit.then (O9 J b n D) Q) n D E w):WC P ρ (.seq x y) Q n D E w:=
 λa d hd=>wpIn_seq (wpIn_mono (hx a d hd) (λe k w' h=>by cases e <;> first|exact h|(obtain ⟨g,f,i,j⟩:=h;exact c g w' f k i j)))
theorem Fa{c:Code}(I:Nat->Act->World->Prop){a:Act}{w:World}(N:Nat)(q:I N a w)
  (round:∀m a w,I m a w->c.wpIn (FW ρ) 0 P (Exit.then (λo w'=>∃t<m,I t o w') Q) a w):(Code.loop c).wpIn (FW ρ) 0 P Q a w:=by
 intro b k cs u hb y;have key:∀m a w,I m a w->
   ∃e o w',Q e o w'/\ArrivesIn (Machine.fenced P (FW ρ)) P (lone (b.atR a (.code c:: .inLoop c::k)) cs w) b k cs e o w':=by
  intro m
  induction m using Nat.strongRecOn with
  |_ m ih=>
   intro a w z;obtain ⟨e,g,f,i,d⟩:=round m a w z b (.inLoop c::k) cs u hb y;cases e with
   |normal=>
    obtain ⟨t,v,n⟩:=i;obtain ⟨r,s,p,j,h⟩:=ih t v g f n;exact ⟨r,s,p,j,.of_steps (StepsIn.trans d (.one tA stepR_inLoop)) h⟩
   |exit id=>exact ⟨_,g,f,i,.pass (x:= .inLoop c) rfl (λ_ _=> .inl (by simp)) d⟩
   |goto l=>exact ⟨_,g,f,i,.pass (x:= .inLoop c) rfl (λ_ _=> .inl (by simp)) d⟩
   |ret=>exact ⟨_,g,f,i,.pass (x:= .inLoop c) rfl (λ_ _=> .inl (by simp)) d⟩
   |panic A=>exact ⟨_,g,f,i,.pass (x:= .inLoop c) rfl (λ_ _=> .inl (by simp)) d⟩
   |outgrown=>exact ⟨_,g,f,i,.pass (x:= .inLoop c) rfl (λ_ _=> .inl (by simp)) d⟩
 obtain ⟨e,o,w',i,d⟩:=key N a w q;exact ⟨e,o,w',i,.of_steps (.one tA stepR_loop) d⟩
def MU{σ γ τ:Type}(again:σ->Option τ)(r:τ)(J:σ->γ->World->Prop)(Es:σ->γ->Env)(n:Nat)(D:tt)(a:Act)(w:World):Prop:=
 ∃s g,again s=some r/\J s g w/\Fits n (Es s g) a/\a.defers=D
theorem lB{b:Frame}{a:Act}{k:List Item}{cs:List Frame}{c:Code}:step P (lone (b.atR a (.code (.scope c)::k)) cs w)= .next (lone (b.atR a (.code c:: .inScope c::k)) cs w):=
 step_lone_go (by simp [stepG,stepG.exec,Frame.atR])
theorem Vg{b:Frame}{a:Act}{k:List Item}{cs:List Frame}{c:Code}:step P (lone (b.atR a (.inScope c::k)) cs w)= .next (lone (b.atR a k) cs w):=
 step_lone_go (by simp [stepG,stepG.exec,Frame.atR])
theorem Ue{c rest:Code}(l:Nat)(J:Nat->Act->World->Prop){a:Act}{w:World}(G:findLabel c l=some rest)
  (first:c.wpIn (FW ρ) 0 P (Exit.jump l (λa w=>∃m,J m a w) Q) a w)
  (t:∀m a w,J m a w->rest.wpIn (FW ρ) 0 P (Exit.jump l (λv w'=>∃x<m,J x v w') Q) a w):(Code.scope c).wpIn (FW ρ) 0 P Q a w:=by
 intro b k cs u hb C;have D:gotoIn l (.inScope c::k)=some (.code rest:: .inScope c::k):=by simp [gotoIn,G]
 have hx:∀id,exitTo id (.inScope c::k)=exitTo id k:=λid=>by simp [exitTo]
 have out:∀{p:Machine} {e:Exit} {f:Act} {d:World},(∀l',e≠ .goto l')->ArrivesIn (Machine.fenced P (FW ρ)) P p b (.inScope c::k) cs e f d->ArrivesIn (Machine.fenced P (FW ρ)) P p b k cs e f d:=by
  intro p e f d z h;cases e with
  |normal=>exact StepsIn.trans h (.one tA Vg)
  |exit id=>exact ⟨λF B=>h.1 F (by rw [hx];exact B),λy B=>h.2 y (by rw [hx];exact B)⟩
  |goto l'=>exact absurd rfl (z l')
  |ret=>exact h
  |panic E=>exact h
  |outgrown=>exact h
 have key:∀m a w,J m a w->∃e v w',Q e v w'/\ArrivesIn (Machine.fenced P (FW ρ)) P (lone (b.atR a (.code rest:: .inScope c::k)) cs w) b k cs e v w':=by
  intro m
  induction m using Nat.strongRecOn with
  |_ m ih=>
   intro a w H;obtain ⟨e,f,d,n,g⟩:=t m a w H b (.inScope c::k) cs u hb C;cases e with
   |normal=>exact ⟨.normal,f,d,n,out (by simp) g⟩
   |exit id=>exact ⟨.exit id,f,d,n,out (by simp) g⟩
   |goto l'=>
    obtain ⟨rfl,x,A,s⟩:=n;obtain ⟨q,r,o,j,i⟩:=ih x A f d s;exact ⟨q,r,o,j,.of_steps (g.1 _ D) i⟩
   |ret=>exact ⟨_,f,d,n,out (by simp) g⟩
   |panic E=>exact ⟨_,f,d,n,out (by simp) g⟩
   |outgrown=>exact ⟨_,f,d,n,out (by simp) g⟩
 obtain ⟨e,f,d,n,g⟩:=first b (.inScope c::k) cs u hb C;cases e with
 |normal=>exact ⟨.normal,f,d,n,.of_steps (.one tA lB) (out (e:= .normal) (by simp) g)⟩
 |exit id=>exact ⟨.exit id,f,d,n,.of_steps (.one tA lB) (out (by simp) g)⟩
 |goto l'=>
  obtain ⟨rfl,m,s⟩:=n;obtain ⟨q,r,o,j,i⟩:=key m f d s;exact ⟨q,r,o,j,.of_steps (.head tA lB (g.1 _ D)) i⟩
 |ret=>exact ⟨_,f,d,n,.of_steps (.one tA lB) (out (by simp) g)⟩
 |panic E=>exact ⟨_,f,d,n,.of_steps (.one tA lB) (out (by simp) g)⟩
 |outgrown=>exact ⟨_,f,d,n,.of_steps (.one tA lB) (out (by simp) g)⟩
end
def RE(S:Value->World->Prop)(Sp:tj->World->Prop):Ending->World->Prop
 | .returned v,w=>S v w
 | .panicked c,w=>Sp c w
 | .outgrown,_=>False
def kg(P:Program)(f:FuncId)(args:vf)(w:World)(S:Value->World->Prop)(Sp:tj->World->Prop):Prop:=
 Calls P f args.toArray w (RE S Sp)
abbrev fp(P:Program)(f:FuncId)(args:vf)(w:World)(S:Value->World->Prop):Prop:=kg P f args w S (λ_ _=>False)
theorem kg.mono{P:Program}{f:FuncId}{args:vf}{w:World}{S d:Value->World->Prop}{Sp a:tj->World->Prop}(h:kg P f args w S Sp)
  (g:∀v w',S v w'->d v w') (hp:∀v w',Sp v w'->a v w'):kg P f args w d a:=
 Calls.mono h λe w' b=>by
  cases e with
  |returned v=>exact g _ _ b
  |panicked c=>exact hp _ _ b
  |outgrown=>exact b
theorem fp.mono{P:Program}{f:FuncId}{args:vf}{w:World}{S a:Value->World->Prop}(h:fp P f args w S)
  (b:∀v w',S v w'->a v w'):fp P f args w a:=kg.mono h b (λ_ _ h=>h)
def iota:Nat->vf->Env
 |_,[]=>[]
 |k,v::vs=>(k,true,v)::iota (k+1) vs
theorem C5:∀(vs:vf) (k t:Nat) (g:Bool) (v:Value),look (iota k vs) t=some (g,v)->∃j,t=k+j/\vs[j]? =some v/\g=true
 |[],_,_,_,_,h=>by cases h
 |u::vs,k,t,g,v,h=>by
  simp only [iota,look] at h;cases hb:Nat.beq k t with
  |true=>
   rw [hb,l5] at h;have:=ah hb;subst this;cases h;exact ⟨0,rfl,rfl,rfl⟩
  |false=>
   rw [hb,kR] at h;obtain ⟨j,b,hv,a⟩:=C5 vs (k+1) t g v h;exact ⟨j+1,by omega,by simpa using hv,a⟩
abbrev BP(P:Program)(fn:Func)(S:Value->World->Prop)(Sp:tj->World->Prop):br:=bodyPostM (FW none) 0 P fn (RE S Sp)
theorem iq{P:Program}{f:FuncId}{fn:Func}{c:Code}{vs:vf}{w:World}{n:Nat}{S:Value->World->Prop}{Sp:tj->World->Prop}
  (i:P.funcs[f]? =some fn) (hb:fn.body=some c) (b:fn.ntmps=n) (d:Nat.ble vs.length n=true)
  (h:WC P none c (BP P fn S Sp) n [] (iota 0 vs) w):kg P f vs w S Sp:=by
 refine ade (ρ:=none) (callsIn_of_wp_marks i hb trivial (h _ ⟨?_,λt g v a=>?_⟩ rfl))
 .have:vs.length<=n:=by simpa using d
  simp [b];omega
 .obtain ⟨j,rfl,hv,rfl⟩:=C5 vs 0 t g v a;have e:j<vs.length:=by
   rcases q9 j vs.length with h|h
   .exact h
   .rw [e9 h] at hv;cases hv
  simp only [vJ,l5,ec,gx];rw [qK (by simpa using e)];simp [hv]
def bf(P:Program)(E:Env)(g:Bool)(o:Oper)(w:World)(v:Value):Prop:=
 ∀n a,Fits n E a->g=true->(execOp a.eval o).run P w= .ok (.value v) w
theorem bf.Xi{P:Program}{E:Env}{g:Bool}{w:World}{x y:Bool}(h:bf P E g o w (.bool x))(e:x=y):bf P E g o w (.bool y):=e▸h
theorem bf.Xj{P:Program}{E:Env}{g:Bool}{w:World}{k:IntKind}{x y:Int}(h:bf P E g o w (.int k x))(e:x=y):bf P E g o w (.int k y):=e▸h
section
variable {P : Program} {ρ : vA} {Q : br} {n : Nat} {D : tt} {E : Env} {w : World} {ops : wT} {rest : xa}
theorem bR(h:At Q .normal n D E w):WL P ρ ops Q n D [] E w:=λa b hd=>wpListIn_nil (h a b hd)
def ij(o:Oper):Bool:=match o.op with
 | .defer _=>false
 |_=>true
theorem Hw(h:ij o=true)(a:Operand->Value):o.semAt ρ a=execOp a o:=by
 cases ρ with
 |none=>rfl
 |some l=>exact Oper.semAt_some l a o (λc e=>by simp [ij,e] at h)
theorem jT(hp:ij o=true){a:Act}{b:Act->World->Prop}(h:o.uponIn (FW ρ) 0 P a b Q ((execOp a.eval o).run P w)):o.wpIn (FW ρ) 0 P a w b Q:=
 ⟨λ_ _=>trivial,by rw [show (FW ρ).round=ρ from rfl,Hw hp];exact h⟩
theorem aK{o:Oper}{d:Tmp}{v:Value}(c:bf P E true o w v)(hp:ij o=true)(f:o.guard=none)(hd:o.dst=some d)(e:Nat.blt d n=true)
  (h:WL P ρ ops Q n D rest ((d,true,v)::E) w):WL P ρ ops Q n D (o::rest) E w:=λa b i=>
 wpListIn_plain f λK g=>jT hp (by rw [c n a b rfl,Oper.uponIn_value,hd];exact g _ _ (h _ (b.put e) i))
theorem CE{j:Nat}{b:Bool}{rj:Tmp}{d e:Bool}{a:Act}(k:o.guard=some (j,b))(i:(ops[j]?).bind (·.dst)=some rj)
  (h:look E rj=some (d,.bool e)) (f:Fits n E a) (g:Nat.blt rj n=true):Region.wanted o (yielded ops a.tmps)=(d&&(e==b)):=by
 have c:rj<a.tmps.size:=by rw [f.size];simpa using g
 have m:=f.at_ rj d _ h;have l:a.tmps[rj]? =some (vJ d (.bool e)):=by rw [Array.getElem?_eq_getElem c,<-m];simp [Array.getD,c]
 simp only [Region.wanted,k,yielded,i,de,l];cases d
 .simp [vJ,undef]
 .cases e <;> cases b <;> rfl
end
variable {fo : Operand} {k : IntKind} {m : Int} {t' : TypeId} {tys : Array TypeId} {v : Value} {vs : vf} {x y : Operand}
section
variable {P : Program} {E : Env} {g : Bool} {w : World} {dst : v7} {ty : TypeId} {pos : String} {af : w4} {gd : s3}
theorem aL(hx:ar E g x v):bf P E g ⟨dst,.move x,ty,pos,af,gd⟩ w v:=
 λn a c b=>by simp only [execOp,hx n a c b];rfl
theorem cI(hx:ar E g x v):bf P E g ⟨dst,.assign x,ty,pos,af,gd⟩ w v:=
 λn a c b=>by simp only [execOp,hx n a c b];rfl
theorem anC{c:Operand}{b y:Bool}(hc:ar E g c (.bool b))(hx:ar E (g&&b) x (.bool y)):
  bf P E g ⟨dst,.pick c x (.const (.bool false)),ty,pos,af,gd⟩ w (.bool (b&&y)):=
 λn a d e=>by
  subst e;simp only [execOp,hc n a d rfl];cases b
  .rfl
  .simp only [hx n a d rfl];rfl
theorem aph{c:Operand}{b y:Bool}(hc:ar E g c (.bool b))(hx:ar E (g&& !b) x (.bool y)):
  bf P E g ⟨dst,.pick c (.const (.bool true)) x,ty,pos,af,gd⟩ w (.bool (b||y)):=
 λn a d e=>by
  subst e;simp only [execOp,hc n a d rfl];cases b
  .simp only [hx n a d rfl];rfl
  .rfl
theorem aad{b:Bool}{t:TypeId}(hx:ar E g x (.bool b)):bf P E g ⟨dst,.unOp .not t x,ty,pos,af,gd⟩ w (.bool (!b)):=
 λn a d c=>by simp only [execOp,hx n a d c];rfl
theorem an2{t:TypeId}(hx:ar E g x (.int k m)):bf P E g ⟨dst,.unOp .neg t x,ty,pos,af,gd⟩ w (.int k (k.wrap (0-m))):=
 λn a c b=>by simp only [execOp,hx n a c b];rfl
theorem ct{op:BinOp}{u z:Value}{t:TypeId}(hx:ar E g x u)(d:ar E g y v)
  (h:(do eqGuard op t x y u v;binOp op t u v:Sem Value).run P w= .ok z w):bf P E g ⟨dst,.binOp op t x y t',ty,pos,af,gd⟩ w z:=
 λn a c b=>by simp only [execOp,hx n a c b,d n a c b,Sem.run_bind] at h ⊢;simp only [h,Result.andThen_ok];rfl
def ajv:Value->Bool
 | .nilIface=>false
 | .agg _=>false
 |_=>true
theorem dA{op:BinOp}{t:TypeId}{u:Value}(a:ajv u=true):(eqGuard op t x y u v).run P w= .ok () w:=by unfold eqGuard;cases op <;> simp <;> (split <;> simp_all [ajv])
theorem sw{l:Int}{t:TypeId}(hx:ar E g x (.int k m))(a:ar E g y (.int k l)):
  bf P E g ⟨dst,.binOp .add t x y t',ty,pos,af,gd⟩ w (.int k (k.wrap (m+l))):=ct hx a (by simp [eqGuard,binOp,Op.intArith])
theorem aff{l:Int}{t:TypeId}(hx:ar E g x (.int k m))(a:ar E g y (.int k l)):
  bf P E g ⟨dst,.binOp .sub t x y t',ty,pos,af,gd⟩ w (.int k (k.wrap (m-l))):=ct hx a (by simp [eqGuard,binOp,Op.intArith])
theorem anY{l:Int}{t:TypeId}(hx:ar E g x (.int k m))(a:ar E g y (.int k l)):
  bf P E g ⟨dst,.binOp .mul t x y t',ty,pos,af,gd⟩ w (.int k (k.wrap (m*l))):=ct hx a (by simp [eqGuard,binOp,Op.intArith])
theorem an1{l:Int}{t:TypeId}(hx:ar E g x (.int k m))(a:ar E g y (.int k l))(b:(l==0)=false):
  bf P E g ⟨dst,.binOp .quo t x y t',ty,pos,af,gd⟩ w (.int k (k.wrap (m.tdiv l))):=ct hx a (by
   have:¬l=0:=by simpa using b
   simp [eqGuard,binOp,Op.intDiv,this])
theorem anW{l:Int}{t:TypeId}(hx:ar E g x (.int k m))(a:ar E g y (.int k l))(b:(l==0)=false):
  bf P E g ⟨dst,.binOp .rem t x y t',ty,pos,af,gd⟩ w (.int k (m.tmod l)):=ct hx a (by
   have:¬l=0:=by simpa using b
   simp [eqGuard,binOp,Op.intDiv,this])
theorem oT{l:Int}{t:TypeId}(hx:ar E g x (.int k m))(a:ar E g y (.int k l)):
  bf P E g ⟨dst,.binOp .eql t x y t',ty,pos,af,gd⟩ w (.bool (m==l)):=ct hx a (by simp [eqGuard,binOp,Op.intCmp])
theorem anc{l:Int}{t:TypeId}(hx:ar E g x (.int k m))(a:ar E g y (.int k l)):
  bf P E g ⟨dst,.binOp .neq t x y t',ty,pos,af,gd⟩ w (.bool (m != l)):=ct hx a (by simp [eqGuard,binOp,Op.intCmp])
theorem aeZ{l:Int}{t:TypeId}(hx:ar E g x (.int k m))(a:ar E g y (.int k l)):
  bf P E g ⟨dst,.binOp .lss t x y t',ty,pos,af,gd⟩ w (.bool (decide (m<l))):=ct hx a (by simp [eqGuard,binOp,Op.intCmp])
theorem ant{l:Int}{t:TypeId}(hx:ar E g x (.int k m))(a:ar E g y (.int k l)):
  bf P E g ⟨dst,.binOp .leq t x y t',ty,pos,af,gd⟩ w (.bool (decide (m<=l))):=ct hx a (by simp [eqGuard,binOp,Op.intCmp])
theorem UW{l:Int}{t:TypeId}(hx:ar E g x (.int k m))(a:ar E g y (.int k l)):
  bf P E g ⟨dst,.binOp .gtr t x y t',ty,pos,af,gd⟩ w (.bool (decide (l<m))):=ct hx a (by simp [eqGuard,binOp,Op.intCmp])
theorem anf{l:Int}{t:TypeId}(hx:ar E g x (.int k m))(a:ar E g y (.int k l)):
  bf P E g ⟨dst,.binOp .geq t x y t',ty,pos,af,gd⟩ w (.bool (decide (l<=m))):=ct hx a (by simp [eqGuard,binOp,Op.intCmp])
theorem C2{op:BinOp}(a:op= .and\/op= .or\/op= .xor\/op= .andNot){x y:Operand}{k:IntKind}{m l:Int}{t t':TypeId}(hx:ar E g x (.int k m))(c:ar E g y (.int k l))
  {z:Int} (b:∀w:World,(Op.intBits op k m l).run P w= .ok (.int k z) w):
  bf P E g ⟨dst,.binOp op t x y t',ty,pos,af,gd⟩ w (.int k z):=ct hx c (by rcases a with h|h|h|h <;> subst h <;> simp [eqGuard,binOp,b])
theorem Ix(l:aF):(⟨l.toArray⟩:ByteArray).toList=l:=by rw [ByteArray.toList_eq]
theorem j9(l:aF):(⟨l.toArray⟩:ByteArray).size=l.length:=by simp [ByteArray.size]
theorem anh{m l:aF}{t:TypeId}(hx:ar E g x (S m))(a:ar E g y (S l)):
  bf P E g ⟨dst,.binOp .eql t x y t',ty,pos,af,gd⟩ w (.bool (m==l)):=ct hx a (by simp [eqGuard,S,binOp,Op.stringOp])
theorem ann{m l:aF}{t:TypeId}(hx:ar E g x (S m))(a:ar E g y (S l)):
  bf P E g ⟨dst,.binOp .neq t x y t',ty,pos,af,gd⟩ w (.bool (m != l)):=ct hx a (by simp [eqGuard,S,binOp,Op.stringOp,bne])
def lg(m l:aF):Bool:=Nat.ble (m.length+l.length) 9223372036854775807
theorem ajW(m l:aF):((⟨m.toArray⟩:ByteArray)++(⟨l.toArray⟩:ByteArray))=⟨(m++l).toArray⟩:=by apply ByteArray.ext;simp [ByteArray.data_append]
theorem anO{m l:aF}{t:TypeId}(hx:ar E g x (S m))(c:ar E g y (S l))(hc:g=true->lg m l=true):
  bf P E g ⟨dst,.binOp .add t x y t',ty,pos,af,gd⟩ w (S (m++l)):=λn a d b=>
 ct (P:=P) (z:=S (m++l)) hx c (by
  have f:m.length+l.length<=9223372036854775807:=cd (hc b);have e:¬((((⟨m.toArray⟩:ByteArray).size+(⟨l.toArray⟩:ByteArray).size:Nat):Int)>i64.max):=by rw [j9,j9];show ¬(9223372036854775807:Int)<_;omega
  simp only [eqGuard,S,binOp,Op.stringOp,Sem.run_bind,gZ e,ajW];simp) n a d b
theorem am7{m l:Bool}{t:TypeId}(b:P.underlying t=some .bool)(hx:ar E g x (.bool m))(a:ar E g y (.bool l)):
  bf P E g ⟨dst,.binOp .eql t x y t',ty,pos,af,gd⟩ w (.bool (m==l)):=ct hx a (by rw [Sem.run_bind,dA rfl,Result.andThen_ok,run_eql_bool w t m l b])
theorem amS{m l:Bool}{t:TypeId}(b:P.underlying t=some .bool)(hx:ar E g x (.bool m))(a:ar E g y (.bool l)):
  bf P E g ⟨dst,.binOp .neq t x y t',ty,pos,af,gd⟩ w (.bool (m != l)):=ct hx a (by rw [Sem.run_bind,dA rfl,Result.andThen_ok,run_neq_bool w t m l b];rfl)
theorem aaL{b:IntKind}{s d:TypeId}{ds:TypeDesc}(e:P.underlying s=some ds)(c:P.underlying d=some (.int k))(hx:ar E g x (.int b m)):
  bf P E g ⟨dst,.convert s d x,ty,pos,af,gd⟩ w (.int k (k.wrap m)):=
 λn a h f=>by simp [execOp,hx n a h f,convert,run_underlying e,run_underlying c,Conv.intToInt]
theorem aeg(hx:ar E g x (.tuple vs.toArray))(hi:vs[i]? =some v):
  bf P E g ⟨dst,.extract x i,ty,pos,af,gd⟩ w v:=
 λn a c b=>by simp [execOp,hx n a c b,Instr.extract,hi]
theorem alj{l:aF}{t:TypeId}(b:P.underlying t=some .string)(hx:ar E g x (S l)):
  bf P E g ⟨dst,.call ⟨.builtin .len,#[x],#[t]⟩,ty,pos,af,gd⟩ w (.int .i64 l.length):=
 λn a d c=>by simp [execOp,resolve,invoke,builtin,hx n a d c,Builtin.len_,run_underlying b,S,goInt,j9]
def yt(i:Int)(n:Nat):Bool:=decide (0<=i)&&decide (i<n)
theorem v8{i:Int}{n:Nat}:yt i n=true↔0<=i/\i<n:=by simp [yt]
def jo(l:aF)(i:Int):Int:=(l.getD i.toNat 0).toNat
theorem afG(l:aF)(i:Nat):(⟨l.toArray⟩:ByteArray)[i]? =l[i]? :=by
 by_cases h:i<l.length
 .have a:i<(⟨l.toArray⟩:ByteArray).size:=by rw [j9];exact h
  rw [getElem?_pos (⟨l.toArray⟩:ByteArray) i a,b7 h];rfl
 .have a:¬i<(⟨l.toArray⟩:ByteArray).size:=by rw [j9];exact h
  rw [getElem?_neg (⟨l.toArray⟩:ByteArray) i a,e9 (by omega)]
theorem alc{l:aF}{i:Int}{t:TypeId}(f:P.underlying t=some .string)(hx:ar E g x (S l))(e:ar E g y (.int k i))(hi:g=true->yt i l.length=true):
  bf P E g ⟨dst,.index t x y,ty,pos,af,gd⟩ w (.int .u8 (jo l i)):=
 λn a c b=>by
  obtain ⟨j,m⟩:=v8.1 (hi b);have d:i.toNat<l.length:=by omega
  have h:(⟨l.toArray⟩:ByteArray)[i.toNat]? =some l[i.toNat]:=by rw [afG,b7 d]
  simp only [execOp,hx n a c b,e n a c b,Instr.index,asIntOf,S,Sem.run_bind,Sem.run_pure,Result.andThen_ok,run_underlying f];rw [j5 j,h];simp [jo,d]
def dn(i j:Int)(n:Nat):Bool:=decide (0<=i)&&decide (i<=j)&&decide (j<=n)
theorem AH{i j:Int}{n:Nat}:dn i j n=true↔(0<=i/\i<=j)/\j<=n:=by simp [dn]
def cut(l:aF)(i j:Int):aF:=(l.drop i.toNat).take (j.toNat-i.toNat)
theorem Lp(l:aF)(i j:Nat):(⟨l.toArray⟩:ByteArray).extract i j=⟨((l.drop i).take (j-i)).toArray⟩:=by apply ByteArray.ext;simp [ByteArray.data_extract]
theorem akz{l:aF}{i j:Int}{lo hi:Option Operand}{t:TypeId}(f:P.underlying t=some .string)(hx:ar E g x (S l))
  (e:match lo with|none=>i=0|some y=>∃k,ar E g y (.int k i)) (b:match hi with|none=>j=l.length|some y=>∃k,ar E g y (.int k j))
  (hc:g=true->dn i j l.length=true):
  bf P E g ⟨dst,.slice t x lo hi none,ty,pos,af,gd⟩ w (S (cut l i j)):=
 λn a d c=>by
  obtain ⟨⟨r,q⟩,p⟩:=AH.1 (hc c);have o:0<=j:=by omega
  have s:(((j.toNat:Nat):Int))=j:=by omega
  cases lo with
  |none=>
   subst e;cases hi with
   |none=>
    subst b;simp [execOp,hx n a d c,Instr.sliceAt,Instr.slice,Instr.sliceBounds,run_underlying f,S,cut]
   |some y=>
    obtain ⟨k,h⟩:=b;simp [execOp,hx n a d c,h n a d c,Instr.sliceAt,Instr.slice,Instr.sliceBounds,Instr.sliceBound,asIntOf,run_underlying f,S,Lp,cut,j9,p,o]
  |some z=>
   obtain ⟨k,m⟩:=e;cases hi with
   |none=>
    subst b;simp [execOp,hx n a d c,m n a d c,Instr.sliceAt,Instr.slice,Instr.sliceBounds,Instr.sliceBound,asIntOf,run_underlying f,S,Lp,cut,j9,r,q]
   |some y=>
    obtain ⟨u,h⟩:=b;have v:i<=((j.toNat:Nat):Int):=by omega
    simp [execOp,hx n a d c,m n a d c,h n a d c,Instr.sliceAt,Instr.slice,Instr.sliceBounds,Instr.sliceBound,asIntOf,run_underlying f,S,Lp,cut,j9,r,q,p,o,s]
theorem KH{fn:Fn}{first cap:u9}{us:vf}(e:gw E g first vs)(d:gw E g cap us):
  bf P E g ⟨dst,.makeFunc fn first.toArray cap.toArray,ty,pos,af,gd⟩ w (.func fn vs.toArray us.toArray):=
 λn a c b=>by simp [execOp,Instr.makeFunc,e.map c b,d.map c b]
theorem akP{l:Int}{t:TypeId}(hx:ar E g x (.int k m))(e:ar E g y (.int k l))
  (d:∀w:World,(Builtin.max_ #[t,t'] ty #[.int k m,.int k l]).run P w= .ok (.int k (max m l)) w):
  bf P E g ⟨dst,.call ⟨.builtin .max,#[x,y],#[t,t']⟩,ty,pos,af,gd⟩ w (.int k (max m l)):=
 λn a c b=>by simp [execOp,resolve,invoke,builtin,hx n a c b,e n a c b,d]
theorem ajR{l:Int}{t:TypeId}(hx:ar E g x (.int k m))(e:ar E g y (.int k l))
  (d:∀w:World,(Builtin.min_ #[t,t'] ty #[.int k m,.int k l]).run P w= .ok (.int k (min m l)) w):
  bf P E g ⟨dst,.call ⟨.builtin .min,#[x,y],#[t,t']⟩,ty,pos,af,gd⟩ w (.int k (min m l)):=
 λn a c b=>by simp [execOp,resolve,invoke,builtin,hx n a c b,e n a c b,d]
end
structure Ext(w w':World):Prop where
 os:w'.os=w.os
 tape:w'.tape=w.tape
 output:w'.output=w.output
 size:w.heap.size<=w'.heap.size
 block:∀k,k<w.heap.size->w'.heap[k]? =w.heap[k]?
theorem Ext.refl(w:World):Ext w w:=⟨rfl,rfl,rfl,bb _,λ_ _=>rfl⟩
theorem Ext.trans{a b c:World}(h:Ext a b)(k:Ext b c):Ext a c:=
 ⟨k.os.trans h.os,k.tape.trans h.tape,k.output.trans h.output,ca h.size k.size,λi hi=>(k.block i (cx hi h.size)).trans (h.block i hi)⟩
def Enters(P:Program)(f:FuncId):Prop:= ∀(args:vc) (w:World),(callFunc f args).run P w= .ok (.enter f args) w
section
variable {P : Program} {ρ : vA} {Q : br} {n : Nat} {D : tt} {E : Env} {w : World} {ops : wT} {rest : xa}
theorem Dp{g:Bool}{f:FuncId}{first cap:vf}{xs:u9}{dst:v7}{ty:TypeId}{pos:String}{af:w4}{gd:Option (Nat×Bool)}
  (h:Enters P f) (c:ar E g fo (.func (.func f) first.toArray cap.toArray)) (b:gw E g xs vs) {a:Act} (e:Fits n E a) (d:g=true):
  (execOp a.eval ⟨dst,.call ⟨.value fo,xs.toArray,tys⟩,ty,pos,af,gd⟩).run P w= .ok (.enter f (first++vs++cap).toArray) w:=by
 have i:(Array.map a.eval xs.toArray)=vs.toArray:=by simp [b.map e d]
 have:=h (first++vs++cap).toArray w;simp only [execOp,resolve,c n a e d,Deferred.ofValue,i,Sem.run_bind,Sem.run_pure,Result.andThen_ok,invoke];simp at this;simpa using this
theorem GH{a:Act}{b:Act->World->Prop}{f:FuncId}{args:vf}{S:Value->World->Prop}{Sp:tj->World->Prop}
  (hc:kg P f args w S Sp) (h:∀v w',S v w'->b (a.put o.dst v) w') (hp:∀c w',Sp c w'->Q (.panic c) a w'):o.uponIn (FW ρ) 0 P a b Q (.ok (.enter f args.toArray) w):=by
 rw [Oper.uponIn_enter];refine ⟨G4,SK (Calls.mono hc λe w' d=>?_)⟩;cases e with
 |returned v=>exact h v w' d
 |panicked c=>exact hp c w' d
 |outgrown=>exact d.elim
theorem abE{f:FuncId}{first cap args:vf}{xs:u9}{d:Tmp}{ty:TypeId}{pos:String}{af:w4}{S:Value->World->Prop}{Sp:tj->World->Prop}
  (k:Enters P f) (e:ar E true fo (.func (.func f) first.toArray cap.toArray)) (b:gw E true xs vs) (ha:args=first++vs++cap)
  (j:Nat.blt d n=true) (hc:kg P f args w S Sp)
  (h:∀v w',S v w'->WL P ρ ops Q n D rest ((d,true,v)::E) w') (hp:∀c w',Sp c w'->At Q (.panic c) n D E w'):WL P ρ ops Q n D (⟨some d,.call ⟨.value fo,xs.toArray,tys⟩,ty,pos,af,none⟩::rest) E w:=λa g i=>
 wpListIn_plain rfl λK l=>jT rfl (by subst ha;rw [Dp k e b g rfl];exact GH hc (λv w' hv=>l _ _ (h v w' hv _ (g.put j) i)) (λc w' hv=>hp c w' hv a g i))
theorem Wo{f:FuncId}{first cap args:vf}{xs:u9}{d:Tmp}{ty:TypeId}{pos:String}{af:w4}{S:Value->World->Prop}
  (e:Enters P f) (b:ar E true fo (.func (.func f) first.toArray cap.toArray)) (a:gw E true xs vs) (ha:args=first++vs++cap)
  (c:Nat.blt d n=true) (hc:fp P f args w S)
  (h:∀v w',S v w'->WL P ρ ops Q n D rest ((d,true,v)::E) w'):WL P ρ ops Q n D (⟨some d,.call ⟨.value fo,xs.toArray,tys⟩,ty,pos,af,none⟩::rest) E w:=
 abE e b a ha c hc h (λ_ _ h=>h.elim)
theorem ah0{f:FuncId}{first cap args:vf}{xs:u9}{ty:TypeId}{pos:String}{af:w4}{S:Value->World->Prop}{Sp:tj->World->Prop}
  (i:Enters P f) (d:ar E true fo (.func (.func f) first.toArray cap.toArray)) (b:gw E true xs vs) (ha:args=first++vs++cap)
  (hc:kg P f args w S Sp)
  (h:∀v w',S v w'->WL P ρ ops Q n D rest E w') (hp:∀c w',Sp c w'->At Q (.panic c) n D E w'):WL P ρ ops Q n D (⟨none,.call ⟨.value fo,xs.toArray,tys⟩,ty,pos,af,none⟩::rest) E w:=λa e g=>
 wpListIn_plain rfl λK j=>jT rfl (by subst ha;rw [Dp i d b e rfl];exact GH hc (λv w' hv=>j _ _ (h v w' hv _ e g)) (λc w' hv=>hp c w' hv a e g))
def ky(P:Program)(E:Env)(o:Oper)(w:World)(v:Value)(w':World):Prop:=
 ∀n a,Fits n E a->(execOp a.eval o).run P w= .ok (.value v) w'
theorem uk{o:Oper}{v:Value}{w':World}{d:Tmp}(c:ky P E o w v w')(hp:ij o=true)(f:o.guard=none)(hd:o.dst=some d)(e:Nat.blt d n=true)
  (h:WL P ρ ops Q n D rest ((d,true,v)::E) w'):WL P ρ ops Q n D (o::rest) E w:=λa b i=>
 wpListIn_plain f λK g=>jT hp (by rw [c n a b,Oper.uponIn_value,hd];exact g _ _ (h _ (b.put e) i))
def QO(P:Program)(E:Env)(o:Oper)(w:World)(w':World):Prop:=
 ∀n a,Fits n E a->(execOp a.eval o).run P w= .ok .skip w'
end
variable {b : Nat} {i : Int}
def Mv(M:Nat->Prop)(w:World)(M':Nat->Prop)(w':World):Prop:=
 w.heap.size<=w'.heap.size/\∀b,b<w.heap.size-> ¬M b-> ¬M' b/\w'.heap[b]? =w.heap[b]?
theorem Mv.trans{M M' c:Nat->Prop}{w w' a:World}(h:Mv M w M' w')(k:Mv M' w' c a):Mv M w c a:=
 ⟨ca h.1 k.1,λb hb f=>by obtain ⟨i,g⟩:=h.2 b hb f;obtain ⟨e,d⟩:=k.2 b (cx hb h.1) i;exact ⟨e,d.trans g⟩⟩
theorem Ext.mv{w w':World}(h:Ext w w')(M:Nat->Prop):Mv M w M w':=⟨h.size,λb hb a=>⟨a,h.block b hb⟩⟩
theorem Mv.weaken{M M':Nat->Prop}(w:World)(h:∀b,M' b->M b):Mv M w M' w:=⟨bb _,λb _ a=>⟨λc=>a (h b c),rfl⟩⟩
structure dB(α:Type) where
 n:Nat
 rd:(Nat->Prop)->World->vf->α->Prop
 len:∀{M w vs x},rd M w vs x->vs.length=n
 one:∀{M w vs x},rd M w vs x->∀v∈vs,v.oneCell'=true
 mv:∀{M M' w w' vs x},rd M w vs x->Mv M w M' w'->rd M' w' vs x
def RI(k:IntKind):dB Int where
 n:=1
 rd _ _ vs x:=vs=[.int k x]
 len h:=by rw [h];rfl
 one h:=by rw [h];simp [Value.oneCell']
 mv h _:=h
def RB:dB Bool where
 n:=1
 rd _ _ vs x:=vs=[.bool x]
 len h:=by rw [h];rfl
 one h:=by rw [h];simp [Value.oneCell']
 mv h _:=h
def RS:dB aF where
 n:=1
 rd _ _ vs x:=vs=[S x]
 len h:=by rw [h];rfl
 one h:=by rw [h];simp [S,Value.oneCell']
 mv h _:=h
def RU:dB Unit where
 n:=0
 rd _ _ vs _:=vs=[]
 len h:=by rw [h];rfl
 one h:=by rw [h];simp
 mv h _:=h
def RP{α β:Type}(A:dB α)(B:dB β):dB (α×β) where
 n:=A.n+B.n
 rd M w vs x:= ∃a b,vs=a++b/\A.rd M w a x.1/\B.rd M w b x.2
 len h:=by obtain ⟨a,b,rfl,h1,h2⟩:=h;rw [cj,A.len h1,B.len h2]
 one h:=by
  obtain ⟨a,b,rfl,h1,h2⟩:=h;intro v hv;rcases List.mem_append.1 hv with hv|hv
  .exact A.one h1 v hv
  .exact B.one h2 v hv
 mv h m:=by obtain ⟨a,b,rfl,h1,h2⟩:=h;exact ⟨a,b,rfl,A.mv h1 m,B.mv h2 m⟩
section
variable {α β : Type} (A : dB α)
def cK(M:Nat->Prop)(w:World)(cs:vf)(xs:List α):Prop:=
 cs.length=xs.length*A.n/\∀i (h:i<xs.length),A.rd M w ((cs.drop (i*A.n)).take A.n) xs[i]
variable {A}
theorem cK.nil{M:Nat->Prop}{w:World}:cK A M w [] []:=⟨by simp,λi h=>by simp at h⟩
theorem cK.cons{M:Nat->Prop}{w:World}{c cs:vf}{x:α}{xs:List α}(h:A.rd M w c x)(a:cK A M w cs xs):cK A M w (c++cs) (x::xs):=by
 have hc:=A.len h;refine ⟨by simp [hc,a.1,n7,Nat.add_comm],λi hi=>?_⟩;cases i with
 |zero=>simpa [hc,qJ] using (by simpa [<-hc] using h)
 |succ i=>
  have:=a.2 i (by simpa using hi);have e:(c++cs).drop ((i+1)*A.n)=cs.drop (i*A.n):=by
   rw [q6];have:(i+1)*A.n=c.length+i*A.n:=by rw [hc,n7];omega
   rw [this,q4 (by omega)];simp
  rw [e];simpa using this
theorem cK.one{M:Nat->Prop}{w:World}{c:vf}{x:α}(h:A.rd M w c x):cK A M w c [x]:=by have:=cK.cons h (cK.nil (A:=A) (M:=M) (w:=w));simpa using this
theorem cK.mv{M M':Nat->Prop}{w w':World}{cs:vf}{xs:List α}(h:cK A M w cs xs)(m:Mv M w M' w'):cK A M' w' cs xs:=
 ⟨h.1,λi hi=>A.mv (h.2 i hi) m⟩
theorem cK.Ak{M:Nat->Prop}{w:World}{cs:vf}{xs:List α}(h:cK A M w cs xs):∀v∈cs,v.oneCell'=true:=by
 intro v hv;obtain ⟨j,g,rfl⟩:=List.mem_iff_getElem.1 hv;have e:=h.1;rcases Nat.eq_zero_or_pos A.n with b|b
 .rw [b] at e;omega
 .have hi:j/A.n<xs.length:=by rw [Nat.div_lt_iff_lt_mul b];omega
  have c:=h.2 (j/A.n) hi;refine A.one c _ ?_;have d:j%A.n<A.n:=qW _ b;have f:j/A.n*A.n+j%A.n=j:=by rw [Nat.mul_comm];exact Nat.div_add_mod j A.n
  rw [List.mem_iff_getElem];have a:=A.len c;refine ⟨j%A.n,by rw [a];exact d,?_⟩;rw [qY,qZ];congr 1
theorem cK.append{M:Nat->Prop}{w:World}{cs ds:vf}{xs ys:List α}(h:cK A M w cs xs)(k:cK A M w ds ys):cK A M w (cs++ds) (xs++ys):=by
 refine ⟨by simp [h.1,k.1,n7],λi hi=>?_⟩;by_cases a:i<xs.length
 .have b:=h.2 i a;have e:((cs++ds).drop (i*A.n)).take A.n=(cs.drop (i*A.n)).take A.n:=by
   have d:i*A.n+A.n<=cs.length:=by rw [h.1,<-qT];exact c8 _ a
   rw [List.drop_append_of_le_length (by omega),n3 (by simp;omega)]
  rw [e,List.getElem_append_left a];exact b
 .have c:i-xs.length<ys.length:=by simp at hi;omega
  have b:=k.2 _ c;have e:(cs++ds).drop (i*A.n)=ds.drop ((i-xs.length)*A.n):=by
   have:i*A.n=cs.length+(i-xs.length)*A.n:=by rw [h.1,<-n7];congr 1;omega
   rw [this,q6];simp
  rw [e,List.getElem_append_right (by omega)];exact b
theorem cK.take{M:Nat->Prop}{w:World}{cs:vf}{xs:List α}(h:cK A M w cs xs)(k:Nat):cK A M w (cs.take (k*A.n)) (xs.take k):=by
 have e:(cs.take (k*A.n)).length=(xs.take k).length*A.n:=by
  rw [bj,bj,h.1];by_cases c:k<=xs.length
  .rw [cq c,cq (c8 _ c)]
  .have a:xs.length<=k:=by omega
   rw [q7 (c8 A.n a),q7 a]
 refine ⟨e,λi hi=>?_⟩;have b:i<k/\i<xs.length:=by rw [bj] at hi;omega
 have d:=h.2 i b.2;have f:i*A.n+A.n<=k*A.n:=by rw [<-qT];exact c8 _ b.1
 rw [qY,pc,lk,cq (by omega)];exact d
theorem cK.drop{M:Nat->Prop}{w:World}{cs:vf}{xs:List α}(h:cK A M w cs xs)(k:Nat):cK A M w (cs.drop (k*A.n)) (xs.drop k):=by
 refine ⟨by rw [ch,ch,h.1,<-Nat.sub_mul],λi hi=>?_⟩;have a:k+i<xs.length:=by simp at hi;omega
 have b:=h.2 (k+i) a;rw [qZ,j6];have:(k+i)*A.n=k*A.n+i*A.n:=n7 ..;rw [this] at b;exact b
theorem cK.set{M:Nat->Prop}{w:World}{cs c:vf}{xs:List α}{x:α}{i:Nat}(h:cK A M w cs xs)(hi:i<xs.length)(hx:A.rd M w c x):
  cK A M w (cs.take (i*A.n)++c++cs.drop ((i+1)*A.n)) (xs.set i x):=by
 have d:=h.take i;have b:=h.drop (i+1);have a:=(d.append (cK.one hx)).append b;have e:xs.set i x=xs.take i++[x]++xs.drop (i+1):=by rw [List.set_eq_take_append_cons_drop,j5 hi];simp
 rw [e];exact a
variable (A)
def bO(M:Nat->Prop)(w:World)(v:Value)(xs:List α):Prop:=
 ((∃a,v= .slice a 0 0)/\xs=[])\/∃b off cap cs e fr,v= .slice (some ⟨b,off,none⟩) xs.length cap/\ ¬M b/\w.heap[b]? =some (.cells cs e fr)/\xs.length<=cap/\
  off+cap*A.n<=cs.size/\cK A M w ((cs.toList.drop off).take (xs.length*A.n)) xs
variable {A}
theorem bO.nil{M:Nat->Prop}{w:World}:bO A M w (.slice none 0 0) []:= .inl ⟨⟨none,rfl⟩,rfl⟩
theorem bO.emp{M:Nat->Prop}{w:World}{a:Option Addr}:bO A M w (.slice a 0 0) []:= .inl ⟨⟨a,rfl⟩,rfl⟩
theorem bO.mv{M M':Nat->Prop}{w w':World}{v:Value}{xs:List α}(h:bO A M w v xs)(m:Mv M w M' w'):bO A M' w' v xs:=by
 rcases h with h|⟨b,off,cap,cs,e,fr,hv,d,hb,hc,c,a⟩
 .exact .inl h
 .obtain ⟨g,f⟩:=m.2 b (Array.getElem?_eq_some_iff.1 hb).1 d;exact .inr ⟨b,off,cap,cs,e,fr,hv,g,by rw [f];exact hb,hc,c,a.mv m⟩
abbrev fy:=Option Addr×Nat×Nat
def sl(p:fy):Value:= .slice p.1 p.2.1 p.2.2
variable (A)
def IH:dB (List α) where
 n:=1
 rd M w vs xs:= ∃p,vs=[sl p]/\bO A M w (sl p) xs
 len h:=by obtain ⟨v,rfl,_⟩:=h;rfl
 one h:=by obtain ⟨v,rfl,h⟩:=h;simp [Value.oneCell',sl]
 mv h m:=by obtain ⟨v,rfl,h⟩:=h;exact ⟨v,rfl,h.mv m⟩
variable {A}
theorem bO.lj{M:Nat->Prop}{w:World}{v:Value}{xs:List α}(h:bO A M w v xs):∃p,v=sl p:=by
 rcases h with ⟨⟨a,rfl⟩,_⟩|⟨b,off,cap,cs,e,fr,rfl,_⟩
 .exact ⟨(a,0,0),rfl⟩
 .exact ⟨(_,_,_),rfl⟩
theorem bO.rsl{M:Nat->Prop}{w:World}{v:Value}{xs:List α}(h:bO A M w v xs):(IH A).rd M w [v] xs:=by obtain ⟨p,rfl⟩:=h.lj;exact ⟨p,rfl,h⟩
def Oh(v:Value)(n:Nat):Prop:= ∃a cap,v= .slice a n cap
theorem bO.len{M:Nat->Prop}{w:World}{v:Value}{xs:List α}(h:bO A M w v xs):Oh v xs.length:=by
 rcases h with ⟨⟨a,rfl⟩,rfl⟩|⟨b,off,cap,cs,e,fr,rfl,_⟩
 .exact ⟨_,_,rfl⟩
 .exact ⟨_,_,rfl⟩
def bK(w:World)(p:Addr)(vs:vf):Prop:=p.spot=none/\∃cs e fr,w.heap[p.block]? =some (.cells cs e fr)/\∀j u,vs[j]? =some u->cs[p.off+j]? =some u
theorem bK.ext{w w':World}{p:Addr}(h:bK w p vs)(e:Ext w w'):bK w' p vs:=by obtain ⟨a,cs,t,fr,hb,hc⟩:=h;exact ⟨a,cs,t,fr,by rw [e.block _ (Array.getElem?_eq_some_iff.1 hb).1];exact hb,hc⟩
theorem bK.cell{w:World}{p:Addr}{vs:vf}(h:bK w p vs){j:Nat}{u:Value}(a:vs[j]? =some u):w.cell? (p.add j)=some u:=by
 obtain ⟨b,cs,t,fr,hb,hc⟩:=h;have:=hc j u a;unfold Addr.add;split
 next c=>subst c;simp only [World.cell?,hb,b];simpa using this
 .simp only [World.cell?,hb];simpa using this
theorem bK.sub{w:World}{p:Addr}{us:vf}(h:bK w p vs)(k:Nat)(b:(vs.drop k).take us.length=us):bK w (p.add k) us:=by
 obtain ⟨c,cs,t,fr,hb,hc⟩:=h;have key:∀j u,us[j]? =some u->cs[p.off+k+j]? =some u:=λj u a=>by
  rw [<-b,gj] at a;split at a
  .rw [et] at a;have:=hc _ _ a;rwa [<-qo] at this
  .cases a
 unfold Addr.add;split
 next d=>subst d;exact ⟨c,cs,t,fr,hb,key⟩
 .exact ⟨rfl,cs,t,fr,hb,key⟩
def xX(v:Value)(i:Int)(n:Nat)(p:Addr):Prop:= ∃a len cap,v= .slice (some a) len cap/\0<=i/\i<(len:Nat)/\p=a.add (i.toNat*n)
def idx(xs:List α)(i:Int):Option α:=if 0<=i then xs[i.toNat]? else none
theorem Bp{xs:List α}{x:α}(h:idx xs i=some x):0<=i/\∃hi:i.toNat<xs.length,xs[i.toNat]=x:=by
 unfold idx at h;split at h
 next a=>obtain ⟨hi,hx⟩:=List.getElem?_eq_some_iff.1 h;exact ⟨a,hi,hx⟩
 .cases h
theorem bO.at_{M:Nat->Prop}{w:World}{v:Value}{xs:List α}{x:α}(h:bO A M w v xs)(hx:idx xs i=some x):
  ∃p vs,xX v i A.n p/\bK w p vs/\A.rd M w vs x:=by
 obtain ⟨g,hi,rfl⟩:=Bp hx;rcases h with ⟨_,rfl⟩|⟨b,off,cap,cs,e,fr,rfl,l,hb,hc,k,f⟩
 .simp at hi
 .have d:=f.2 _ hi;have a:=A.len d;refine ⟨(⟨b,off,none⟩:Addr).add (i.toNat*A.n),_,⟨_,_,_,rfl,g,by omega,rfl⟩,?_,d⟩;have key:bK w ⟨b,off,none⟩ ((cs.toList.drop off).take (xs.length*A.n)):=⟨rfl,cs,e,fr,hb,λj u c=>by
   rw [gj] at c;split at c
   .simpa [et] using c
   .cases c⟩
  exact key.sub _ (by rw [a])
end
structure jh(C:xc)(w w':World):Prop where
 os:w'.os=w.os
 tape:w'.tape=w.tape
 output:w'.output=w.output
 size:w.heap.size<=w'.heap.size
 block:∀b,b<w.heap.size->b∉C->w'.heap[b]? =w.heap[b]?
theorem Ext.pZ{w w':World}(h:Ext w w')(C:xc):jh C w w':=⟨h.os,h.tape,h.output,h.size,λb hb _=>h.block b hb⟩
def eD(w:World)(b:Nat)(e:TypeId)(vs:vf):Prop:=w.heap[b]? =some (.cells vs.toArray e (0,0))
theorem eD.cJ{w w':World}{e:TypeId}(h:eD w b e vs)(k:w'.heap[b]? =w.heap[b]?):eD w' b e vs:=k.trans h
theorem eD.lt{w:World}{e:TypeId}(h:eD w b e vs):b<w.heap.size:=(Array.getElem?_eq_some_iff.1 h).1
theorem eD.cells{w:World}{e:TypeId}(h:eD w b e vs):bK w ⟨b,0,none⟩ vs:=
 ⟨rfl,_,_,_,h,λj u a=>by simpa using a⟩
theorem eD.part{w:World}{e:TypeId}{us:vf}(h:eD w b e vs)(k:Nat)(a:(vs.drop k).take us.length=us):bK w ⟨b,k,none⟩ us:=by
 have:=h.cells.sub k a;unfold Addr.add at this;split at this
 next c=>subst c;exact this
 .simpa using this
def dq(v:Value):xc:=v.ownBlock.toList
section
variable {α : Type} {A : dB α}
def RA(w:World)(e:TypeId)(size:Nat)(v:Value)(n:Nat)(xs:vf):Prop:=
 xs.length=n*size/\((v= .slice none 0 0/\n=0)\/∃g off cap cur,v= .slice (some ⟨g,off,none⟩) n cap/\w.heap[g]? =some (.cells cur e (0,0))/\n<=cap/\cap<=maxLen/\(off+cap*size=cur.size/\(off=0\/size=1))/\
  (cur.toList.drop off).take (n*size)=xs)
theorem RA.of{w:World}{size n:Nat}{e:TypeId}{v:Value}{xs:vf}(h:w.ownsRow b e size v n xs):RA w e size v n xs:=by obtain ⟨i,f⟩:=h;refine ⟨i,f.imp id ?_⟩;rintro ⟨g,cap,cur,rfl,_,d,hc,c,j,a⟩;exact ⟨g,0,cap,cur,rfl,d,hc,c,⟨by omega,.inl rfl⟩,by simpa using a⟩
variable (A) in
def fU(e:TypeId)(M:Nat->Prop)(w:World)(v:Value)(xs:List α):Prop:=
 ∃cells,RA w e A.n v xs.length cells/\cK A M w cells xs
theorem fU.nil{e:TypeId}{M:Nat->Prop}{w:World}:fU A e M w (.slice none 0 0) []:=⟨[],.of (World.ownsRow_nil w 0 e A.n),cK.nil⟩
theorem fU.len{e:TypeId}{M:Nat->Prop}{w:World}{v:Value}{xs:List α}(h:fU A e M w v xs):Oh v xs.length:=by
 obtain ⟨cells,⟨_,h⟩,_⟩:=h;rcases h with ⟨rfl,a⟩|⟨g,off,cap,cur,rfl,_⟩
 .exact ⟨none,0,by rw [a]⟩
 .exact ⟨_,_,rfl⟩
theorem fU.lt{e:TypeId}{M:Nat->Prop}{w:World}{v:Value}{xs:List α}(h:fU A e M w v xs):∀b∈dq v,b<w.heap.size:=λb hb=>by
 obtain ⟨cells,⟨_,h⟩,_⟩:=h;rcases h with ⟨rfl,c⟩|⟨g,off,cap,cur,rfl,a,_⟩
 .cases hb
 .have:b=g:=by simpa [dq,Value.ownBlock] using hb
  subst this;exact (Array.getElem?_eq_some_iff.1 a).1
theorem fU.cJ{e:TypeId}{M M':Nat->Prop}{w w':World}{v:Value}{xs:List α}(h:fU A e M w v xs)(k:∀b∈dq v,w'.heap[b]? =w.heap[b]?)(m:Mv M w M' w'):fU A e M' w' v xs:=by
 obtain ⟨cells,⟨f,a⟩,c⟩:=h;refine ⟨cells,⟨f,?_⟩,c.mv m⟩;rcases a with a|⟨g,off,cap,cur,rfl,d,r⟩
 .exact .inl a
 .exact .inr ⟨g,off,cap,cur,rfl,by rw [k g (by simp [dq,Value.ownBlock])];exact d,r⟩
theorem fU.freeze{e:TypeId}{M M':Nat->Prop}{w:World}{v:Value}{xs:List α}(h:fU A e M w v xs)(i:∀b∈dq v,¬M' b)(m:Mv M w M' w):bO A M' w v xs:=by
 obtain ⟨cells,⟨n,j⟩,d⟩:=h;rcases j with ⟨rfl,k⟩|⟨g,off,cap,cur,rfl,f,hc,l,c,a⟩
 .exact .inl ⟨⟨_,rfl⟩,cf k⟩
 .refine .inr ⟨g,off,cap,cur,e,(0,0),rfl,i g (by simp [dq,Value.ownBlock]),f,hc,Nat.le_of_eq c.1,?_⟩;rw [a];exact d.mv m
theorem CM{w:World}{g off n:Nat}{cur:vc}{e:TypeId}{fr:Nat×Nat}{cells:vf}(c:w.heap[g]? =some (.cells cur e fr))(b:(cur.toList.drop off).take n=cells):bK w ⟨g,off,none⟩ cells:=⟨rfl,cur,e,fr,c,λj u a=>by
 rw [<-b,gj] at a;split at a
 .simpa [et] using a
 .cases a⟩
theorem fU.at_{e:TypeId}{M:Nat->Prop}{w:World}{v:Value}{xs:List α}{x:α}(h:fU A e M w v xs)(hx:idx xs i=some x):
  ∃p vs,xX v i A.n p/\bK w p vs/\A.rd M w vs x:=by
 obtain ⟨c,hi,rfl⟩:=Bp hx;obtain ⟨cells,⟨o,k⟩,f⟩:=h;rcases k with ⟨rfl,c⟩|⟨g,off,cap,cur,rfl,j,hc,m,l,d⟩
 .omega
 .have b:=f.2 _ hi;have a:=A.len b;exact ⟨(⟨g,off,none⟩:Addr).add (i.toNat*A.n),_,⟨_,_,_,rfl,c,by omega,rfl⟩,(CM j d).sub _ (by rw [a]),b⟩
end
section
variable {α : Type} {A : dB α}
variable (A) in
def bJ(e:TypeId)(M:Nat->Prop)(w:World)(v:Value)(xs:List α)(R:xc):Prop:=
 (R=dq v/\fU A e M w v xs)\/(R=[]/\xs=[]/\(∃a,v= .slice a 0 0)/\bO A M w v [])
variable {e : TypeId} {M M' : Nat -> Prop} {w w' : World} {v : Value} {xs : List α} {R : xc}
theorem bJ.nil:bJ A e M w (.slice none 0 0) [] []:= .inl ⟨rfl,fU.nil⟩
theorem bJ.empty{a:Option Addr}(h:bO A M w (.slice a 0 0) []):bJ A e M w (.slice a 0 0) [] []:= .inr ⟨rfl,rfl,⟨a,rfl⟩,h⟩
theorem bJ.of(h:fU A e M w v xs):bJ A e M w v xs (dq v):= .inl ⟨rfl,h⟩
theorem bJ.len(h:bJ A e M w v xs R):Oh v xs.length:=by
 rcases h with ⟨_,h⟩|⟨_,rfl,⟨a,rfl⟩,_⟩
 .exact h.len
 .exact ⟨_,_,rfl⟩
theorem bJ.lt(h:bJ A e M w v xs R):∀b∈R,b<w.heap.size:=by
 rcases h with ⟨rfl,h⟩|⟨rfl,_⟩
 .exact h.lt
 .intro b hb;cases hb
theorem bJ.cJ(h:bJ A e M w v xs R)(k:∀b∈R,w'.heap[b]? =w.heap[b]?)(m:Mv M w M' w'):bJ A e M' w' v xs R:=by
 rcases h with ⟨rfl,h⟩|h
 .exact .inl ⟨rfl,h.cJ k m⟩
 .exact .inr ⟨h.1,h.2.1,h.2.2.1,h.2.2.2.mv m⟩
theorem bJ.atG{g:Bool}{x:α}(h:g=true->bJ A e M w v xs R)(hx:g=true->idx xs i=some x):
  ∃p vs,(g=true->xX v i A.n p)/\(g=true->bK w p vs)/\(g=true->A.rd M w vs x):=by
 cases g
 .exact ⟨⟨0,0,none⟩,[],λh=>(by cases h),λh=>(by cases h),λh=>(by cases h)⟩
 .rcases h rfl with ⟨_,h⟩|⟨_,rfl,_⟩
  .obtain ⟨p,vs,c,b,a⟩:=h.at_ (hx rfl);exact ⟨p,vs,λ_=>c,λ_=>b,λ_=>a⟩
  .obtain ⟨_,hi,_⟩:=Bp (hx rfl);simp at hi
theorem bJ.gf{x:α}(h:bJ A e M w v xs R)(hx:idx xs i=some x):fU A e M w v xs/\R=dq v:=by
 rcases h with ⟨a,h⟩|⟨_,rfl,_⟩
 .exact ⟨h,a⟩
 .obtain ⟨_,hi,_⟩:=Bp hx;simp at hi
theorem bJ.freeze(h:bJ A e M w v xs R)(a:∀b∈R,¬M' b)(m:Mv M w M' w):bO A M' w v xs:=by
 rcases h with ⟨rfl,h⟩|⟨_,rfl,_,h⟩
 .exact h.freeze a m
 .exact h.mv m
end
variable {α : Type} {A : dB α} {d : TypeDesc} {e : TypeId} {p : Addr} {z : Value} {zs : vf}
def TI(P:Program)(e:TypeId)(size bytes:Nat)(z:Value):Prop:=(P.info? e).map (λi=>(i.size,i.bytes,i.zero))=some (size,bytes,some z)
theorem TI.out{P:Program}{size bytes:Nat}(h:TI P e size bytes z):∃i,P.info? e=some i/\i.size=size/\i.bytes=bytes/\i.zero=some z:=by
 unfold TI at h;cases hi:P.info? e with
 |none=>simp [hi] at h
 |some i=>
  simp only [hi,hV,b5,n5] at h;exact ⟨i,rfl,h.1,h.2.1,h.2.2⟩
def jb:TypeDesc->Bool
 | .struct _=>true
 | .array _ _=>true
 |_=>false
theorem xt{P:Program}{t:TypeId}(h:P.underlying t=some d)(w:World):(isAgg t).run P w= .ok (jb d) w:=by unfold isAgg;rw [Sem.run_bind,run_underlying h w];cases d <;> rfl
section
variable {P : Program} {E : Env} {g : Bool} {w : World} {dst : v7} {ty : TypeId} {pos : String} {af : w4} {gd : s3}
theorem Dn{n:Nat}{t:TypeId}(b:P.underlying t=some (.slice e))(hx:ar E g x v)(c:Oh v n):
  bf P E g ⟨dst,.call ⟨.builtin .len,#[x],#[t]⟩,ty,pos,af,gd⟩ w (.int .i64 n):=
 λn' a f d=>by obtain ⟨h,cap,rfl⟩:=c;simp [execOp,resolve,invoke,builtin,hx n' a f d,Builtin.len_,run_underlying b,goInt]
theorem EJ{n bytes:Nat}{t:TypeId}(h:P.underlying t=some (.slice e))(b:TI P e n bytes z)
  (hx:ar E g x v) (f:ar E g y (.int k i)) (l:g=true->xX v i n p):
  bf P E g ⟨dst,.indexAddr t x y,ty,pos,af,gd⟩ w (.pointer (some p)):=
 λn' a d c=>by obtain ⟨q,hi,j,_,_⟩:=b.out;obtain ⟨r,len,cap,rfl,o,m,rfl⟩:=l c;simp [execOp,hx n' a d c,f n' a d c,Instr.indexAt,asIntOf,run_underlying h,o,m,sizeOf,typeInfo,hi,j]
theorem JS{t:TypeId}(a:P.underlying t=some d)(hd:jb d=false)(hc:w.cell? p=some v):
  (loadVar t p).run P w= .ok v w:=by
 simp [loadVar,xt a,hd,hc]
theorem bK.cell0(hc:bK w p vs)(a:vs[0]? =some v):w.cell? p=some v:=by have:=hc.cell a;simpa [Addr.add] using this
theorem KW{t:TypeId}(c:P.underlying t=some d)(hd:jb d=false)(hx:ar E g x (.pointer (some p)))
  (hc:g=true->bK w p [v]):bf P E g ⟨dst,.load t x,ty,pos,af,gd⟩ w v:=
 λn' a e b=>by simp [execOp,hx n' a e b,Instr.loadAt,Instr.sureAddr,JS c hd ((hc b).cell0 rfl)]
theorem Mb{t:TypeId}{n bytes:Nat}(b:P.underlying t=some d)(hd:jb d=true)(a:TI P t n bytes z)(hc:bK w p vs)(e:vs.length=n):
  (loadVar t p).run P w= .ok (.agg vs.toArray) w:=by
 obtain ⟨f,hi,c,_,_⟩:=a.out;have:=run_loadCells_list (P:=P) w p vs (λj v hv=>hc.cell hv);rw [e] at this;simp [loadVar,xt b,hd,sizeOf,typeInfo,hi,c,this]
theorem Ke{t:TypeId}{n bytes:Nat}(e:P.underlying t=some d)(hd:jb d=true)(b:TI P t n bytes z)(hx:ar E g x (.pointer (some p)))
  (hc:g=true->bK w p vs) (f:vs.length=n):bf P E g ⟨dst,.load t x,ty,pos,af,gd⟩ w (.agg vs.toArray):=
 λn' a h c=>by simp [execOp,hx n' a h c,Instr.loadAt,Instr.sureAddr,Mb e hd b (hc c) f]
def afm(P:Program)(t:TypeId)(k:Nat)(off:Nat):Prop:=
 ∃fs f i,P.underlying t=some (.struct fs)/\fs[k]? =some f/\f.offset=off/\P.info? f.type=some i/\i.size≠0
theorem ID{t:TypeId}{k off:Nat}(c:afm P t k off)(hx:ar E g x (.pointer (some p))):
  bf P E g ⟨dst,.fieldAddr t x k,ty,pos,af,gd⟩ w (.pointer (some (p.add off))):=
 λn' a o n=>by obtain ⟨d,f,i,e,m,l,hi,j⟩:=c;have b:∃h:k<d.size,d[k]=f:=Array.getElem?_eq_some_iff.1 m;obtain ⟨r,q⟩:=b;simp [execOp,hx n' a o n,Instr.fieldAt,run_underlying e,Instr.sureAddr,fieldPlace,sizeOf,typeInfo,hi,j,l,r,q]
theorem abe(hx:ar E g x (.pointer (some p))):bf P E g ⟨dst,.nilCheck x,ty,pos,af,gd⟩ w (.pointer (some p)):=
 λn' a c b=>by simp only [execOp,hx n' a c b];rfl
theorem alR{f:FuncId}{us vs:vc}(hx:ar E g x (.func (.func f) us vs)):bf P E g ⟨dst,.nilCheck x,ty,pos,af,gd⟩ w (.func (.func f) us vs):=
 λn' a c b=>by simp only [execOp,hx n' a c b];rfl
theorem Z6{t:TypeId}{n bytes off:Nat}{cs:vf}(b:P.underlying t=some d)(a:TI P t n bytes z)
  (hv:(if jb d then some (.agg ((cs.drop off).take n).toArray) else cs[off]?)=some v):(part t cs.toArray off).run P w= .ok v w:=by
 obtain ⟨e,hi,c,_,_⟩:=a.out;unfold part;rw [Sem.run_bind,xt b];cases hd:jb d
 .simp only [hd,mi,qA] at hv ⊢;simp [hv]
 .have f:(cs.toArray.extract off (off+n))=((cs.drop off).take n).toArray:=by rw [List.extract_toArray];congr 1;simp [List.extract_eq_take_drop]
  simp only [hd,qp,b5] at hv;subst hv;simp [sizeOf,typeInfo,hi,c]
theorem aiJ{t:TypeId}{k n bytes off:Nat}{i:Array Field}{f:Field}{cs:vf}
  (j:P.underlying t=some (.struct i)) (l:i[k]? =some f) (e:f.type=t') (h:f.offset=off) (c:P.underlying t'=some d) (b:TI P t' n bytes z) (hx:ar E g x (.agg cs.toArray))
  (hv:(if jb d then some (.agg ((cs.drop off).take n).toArray) else cs[off]?)=some v):
  bf P E g ⟨dst,.field t x k,ty,pos,af,gd⟩ w v:=
 λn' a o m=>by subst e;subst h;have hp:=Z6 (w:=w) c b hv;simp only [execOp,hx n' a o m,Instr.field,Sem.run_bind,run_underlying j,Result.andThen_ok,l,asAgg,Sem.run_pure,hp]
theorem ajb{t:TypeId}{b:List (Nat×Operand)}(hx:gw E g (b.map (·.2)) vs)
  (hb:∀w:World,(Instr.build t ((b.map (·.1)).zip vs).toArray).run P w= .ok v w):
  bf P E g ⟨dst,.build t b.toArray,ty,pos,af,gd⟩ w v:=
 λn' a d c=>by
  have e:(b.map λp=>(p.1,a.eval p.2))=(b.map (·.1)).zip vs:=by
   have h:=hx.map d c;rw [rh] at h;subst h;clear hx hb
   induction b with
   |nil=>rfl
   |cons p ps ih=>simp [ih]
  simp only [execOp,List.map_toArray];have f:(b.map λx:Nat×Operand=>match x with|(i,x)=>(i,a.eval x))=(b.map (·.1)).zip vs:=e;rw [f];simp [hb]
def Pn(v:Value)(i j:Int)(n:Nat)(v':Value):Prop:=
 ∃ad len cap,v= .slice ad len cap/\0<=i/\i<=j/\j<=(len:Nat)/\len<=cap/\
  v'= .slice (if cap=i.toNat then ad else ad.map (·.add (i.toNat*n))) (j.toNat-i.toNat) (cap-i.toNat)
def Mq(v:Value)(i j k:Int)(n:Nat)(v':Value):Prop:=
 ∃ad len cap,v= .slice ad len cap/\0<=i/\i<=j/\j<=k/\k<=(len:Nat)/\len<=cap/\
  v'= .slice (if k.toNat=i.toNat then ad else ad.map (·.add (i.toNat*n))) (j.toNat-i.toNat) (k.toNat-i.toNat)
def bB{α:Type}(xs:List α)(i j:Int):List α:=(xs.drop i.toNat).take (j.toNat-i.toNat)
def jC(i j k:Int)(n:Nat):Bool:=decide (0<=i)&&decide (i<=j)&&decide (j<=k)&&decide (k<=n)
theorem ahW{j k:Int}{n:Nat}:jC i j k n=true↔((0<=i/\i<=j)/\j<=k)/\k<=n:=by simp [jC]
theorem bO.sub{M:Nat->Prop}{off cap:Nat}{cs:vc}{e':TypeId}{fr:Nat×Nat}{xs:List α}{i m:Nat}{j:Nat}(g:¬M b)(hb:w.heap[b]? =some (.cells cs e' fr))(h:xs.length<=cap)
  (p:off+cap*A.n<=cs.size) (k:cK A M w ((cs.toList.drop off).take (xs.length*A.n)) xs) (t:i<=j) (s:j<=xs.length) (r:j<=m) (o:m<=cap):
  bO A M w (.slice (if m=i then some ⟨b,off,none⟩ else (some (⟨b,off,none⟩:Addr)).map (·.add (i*A.n))) (j-i) (m-i)) ((xs.drop i).take (j-i)):=by
 have a:((xs.drop i).take (j-i)).length=j-i:=by rw [bj,ch];omega
 by_cases c:m=i
 .rw [j5 c];have e:j-i=0:=by omega
  refine .inr ⟨b,off,m-i,cs,e',fr,by rw [a],g,hb,by rw [a];omega,?_,?_⟩
  .have:(m-i)*A.n<=cap*A.n:=c8 _ (by omega);omega
  .have:((xs.drop i).take (j-i))=[]:=by rw [e];rfl
   rw [this];simpa using (cK.nil (A:=A) (M:=M) (w:=w))
 .rw [gZ c];have d:(⟨b,off,none⟩:Addr).add (i*A.n)=⟨b,off+i*A.n,none⟩:=by unfold Addr.add;split <;> simp_all
  refine .inr ⟨b,off+i*A.n,m-i,cs,e',fr,by rw [a];simp [d],g,hb,by rw [a];omega,?_,?_⟩
  .have q:i*A.n+(m-i)*A.n=m*A.n:=by rw [<-n7];congr 1;omega
   have f:m*A.n<=cap*A.n:=c8 _ o;omega
  .have f:=(k.drop i).take (j-i);rw [pc,j6,lk] at f;rw [a];have l:(j-i)*A.n<=xs.length*A.n-i*A.n:=by rw [<-Nat.sub_mul];exact c8 _ (by omega)
   rwa [cq l] at f
theorem bO.cut{M:Nat->Prop}{xs:List α}{j:Int}(h:bO A M w v xs)(hc:dn i j xs.length=true):
  ∃v',Pn v i j A.n v'/\bO A M w v' (bB xs i j):=by
 obtain ⟨⟨m,l⟩,d⟩:=AH.1 hc;rcases h with ⟨⟨o,rfl⟩,rfl⟩|⟨b,off,cap,cs,e',fr,rfl,g,hb,a,e,k⟩
 .have f:j=0:=by simp at d;omega
  have c:i=0:=by omega
  subst f;subst c;exact ⟨_,⟨o,0,0,rfl,by omega,by omega,by simp,bb _,rfl⟩,.inl ⟨⟨_,rfl⟩,by simp [bB]⟩⟩
 .exact ⟨_,⟨some ⟨b,off,none⟩,xs.length,cap,rfl,m,l,d,a,rfl⟩,bO.sub g hb a e k (by omega) (by omega) (by omega) (bb _)⟩
theorem bO.apZ{M:Nat->Prop}{xs:List α}{j k:Int}(h:bO A M w v xs)(hc:jC i j k xs.length=true):
  ∃v',Mq v i j k A.n v'/\bO A M w v' (bB xs i j):=by
 obtain ⟨⟨⟨q,p⟩,o⟩,d⟩:=ahW.1 hc;rcases h with ⟨⟨r,rfl⟩,rfl⟩|⟨b,off,cap,cs,e',fr,rfl,l,hb,a,e,m⟩
 .have f:k=0:=by simp at d;omega
  have g:j=0:=by omega
  have c:i=0:=by omega
  subst f;subst g;subst c;exact ⟨_,⟨r,0,0,rfl,by omega,by omega,by omega,by simp,bb _,rfl⟩,.inl ⟨⟨_,rfl⟩,by simp [bB]⟩⟩
 .exact ⟨_,⟨some ⟨b,off,none⟩,xs.length,cap,rfl,q,p,o,d,a,rfl⟩,bO.sub l hb a e m (by omega) (by omega) (by omega) (by omega)⟩
theorem De{r:Value}{j:Int}{lo hi:Option Operand}{t:TypeId}{n bytes len:Nat}
  (m:P.underlying t=some (.slice e)) (p:TI P e n bytes z) (hx:ar E g x v) (q:g=true->Oh v len)
  (l:match lo with|none=>i=0|some y=>∃k,ar E g y (.int k i)) (c:match hi with|none=>j=len|some y=>∃k,ar E g y (.int k j))
  (hc:g=true->Pn v i j n r):bf P E g ⟨dst,.slice t x lo hi none,ty,pos,af,gd⟩ w r:=by
 cases A:g
 .intro n' a d h;cases h
 .subst A;obtain ⟨J,b,u,_,_⟩:=p.out;obtain ⟨N,s,cap,rfl,F,D,M,L,rfl⟩:=hc rfl;obtain ⟨_,_,q⟩:=q rfl;cases q;intro n' a d A;have K:i<=((j.toNat:Nat):Int):=by omega
  have C:j<=(cap:Nat):=by omega
  have B:0<=j:=by omega
  have G:((j.toNat:Nat):Int)=j:=by omega
  cases lo with
  |none=>
   subst l;cases hi with
   |none=>
    subst c;simp [execOp,hx n' a d rfl,Instr.sliceAt,Instr.slice,Instr.sliceBounds,run_underlying m,sizeOf,typeInfo,b]
   |some y=>
    obtain ⟨k,o⟩:=c;simp [execOp,hx n' a d rfl,o n' a d rfl,Instr.sliceAt,Instr.slice,Instr.sliceBounds,Instr.sliceBound,asIntOf,run_underlying m,sizeOf,typeInfo,b,B,C]
  |some H=>
   obtain ⟨I,f⟩:=l;cases hi with
   |none=>
    subst c;simp [execOp,hx n' a d rfl,f n' a d rfl,Instr.sliceAt,Instr.slice,Instr.sliceBounds,Instr.sliceBound,asIntOf,run_underlying m,sizeOf,typeInfo,b,u,F,D]
   |some y=>
    obtain ⟨k,o⟩:=c;simp [execOp,hx n' a d rfl,f n' a d rfl,o n' a d rfl,Instr.sliceAt,Instr.slice,Instr.sliceBounds,Instr.sliceBound,asIntOf,run_underlying m,sizeOf,typeInfo,b,u,F,B,C,D,G]
theorem Um{p:Operand}{q:Value}{j k:Int}{J:IntKind}{lo hi:Option Operand}{t:TypeId}{n bytes len:Nat}
  (u:P.underlying t=some (.slice e)) (m:TI P e n bytes z) (hx:ar E g x v) (o:g=true->Oh v len)
  (c:match lo with|none=>i=0|some y=>∃k,ar E g y (.int k i)) (f:match hi with|none=>False|some y=>∃k,ar E g y (.int k j)) (F:ar E g p (.int J k))
  (hc:g=true->Mq v i j k n q):bf P E g ⟨dst,.slice t x lo hi (some p),ty,pos,af,gd⟩ w q:=by
 cases A:g
 .intro n' a b h;cases h
 .subst A;obtain ⟨T,d,K,_,_⟩:=m.out;obtain ⟨W,r,cap,rfl,N,M,H,L,G,rfl⟩:=hc rfl;obtain ⟨_,_,o⟩:=o rfl;cases o;intro n' a b A;have V:i<=((j.toNat:Nat):Int):=by omega
  have D:k<=(cap:Nat):=by omega
  have C:0<=j:=by omega
  have B:0<=k:=by omega
  have U:j<=((k.toNat:Nat):Int):=by omega
  have O:((j.toNat:Nat):Int)=j:=by omega
  have I:((k.toNat:Nat):Int)=k:=by omega
  cases hi with
  |none=>exact f.elim
  |some y=>
   obtain ⟨S,s⟩:=f;cases lo with
   |none=>
    subst c;simp [execOp,hx n' a b rfl,s n' a b rfl,F n' a b rfl,Instr.sliceAt,Instr.slice,Instr.sliceBounds,Instr.sliceBound,asIntOf,run_underlying u,sizeOf,typeInfo,d,C,B,D,H,I]
   |some Q=>
    obtain ⟨R,l⟩:=c;simp [execOp,hx n' a b rfl,l n' a b rfl,s n' a b rfl,F n' a b rfl,Instr.sliceAt,Instr.slice,Instr.sliceBounds,Instr.sliceBound,asIntOf,run_underlying u,sizeOf,typeInfo,d,K,N,M,C,B,D,H,O,I]
end
section
variable {P : Program} {E : Env} {w : World}
theorem ak2(a:Array TypeId)(t:TypeId)(k:IntKind)(x y:Int)(w:World):(Builtin.max_ a t #[.int k x,.int k y]).run P w= .ok (.int k (max x y)) w:=by rw [run_max_int2];congr 2;split <;> omega
theorem alo(a:Array TypeId)(t:TypeId)(k:IntKind)(x y:Int)(w:World):(Builtin.min_ a t #[.int k x,.int k y]).run P w= .ok (.int k (min x y)) w:=by rw [run_min_int2];congr 2;split <;> omega
theorem lT{g:Bool}{dst:v7}{ty:TypeId}{pos:String}{af:w4}{gd:Option (Nat×Bool)}{m:Nat}{t:TypeId}(c:P.underlying t=some (.slice e))(hx:ar E g x v)(d:g=true->Oh v m):
  bf P E g ⟨dst,.call ⟨.builtin .len,#[x],#[t]⟩,ty,pos,af,gd⟩ w (.int .i64 m):=λn' a f b=>Dn c hx (d b) n' a f b
theorem X9(P:Program)(w:World)(d:Nat)(t:TypeId)(a b:aF)(h:P.underlying t=some .string):(Op.equalIn (d+1) t (S a) (S b)).run P w= .ok (a==b) w:=by unfold S;rw [run_equalIn_string w d t _ _ h,Ix,Ix]
theorem afH{t:TypeId}{cs:vf}{off:Nat}(a:P.underlying t=some d)(hd:jb d=false)(hv:cs[off]? =some v):(part t cs.toArray off).run P w= .ok v w:=by unfold part;rw [Sem.run_bind,xt a];simp [hd,hv]
theorem alX{d:Nat}{xs ys:vc}{f:Field}{e:List Field}{a b:Value}{r s:Bool}(g:(f.name != "_")=true) (k:(part f.type xs f.offset).run P w= .ok a w) (j:(part f.type ys f.offset).run P w= .ok b w)
  (i:(Op.equalIn d f.type a b).run P w= .ok r w) (h:(Op.eqFields d xs ys e).run P w= .ok s w):(Op.eqFields d xs ys (f::e)).run P w= .ok (r&&s) w:=by
 have c:f.name≠ "_" :=by simpa using g
 simp only [Op.eqFields,j5 c,Sem.run_bind,k,j,i,Result.andThen_ok];cases r
 .rfl
 .simpa using h
theorem anl{d:Nat}{xs ys:vc}:(Op.eqFields d xs ys []).run P w= .ok true w:=rfl
end
def pk(v:Value)(i:Int)(n:Nat):Addr:=match v with
 | .slice (some a) _ _=>a.add (i.toNat*n)
 |_=>⟨0,0,none⟩
theorem xX.pk{n:Nat}(h:xX v i n p):p=pk v i n:=by obtain ⟨a,len,cap,rfl,_,_,rfl⟩:=h;rfl
theorem bO.atA{M:Nat->Prop}{w:World}{xs:List α}{x:α}(h:bO A M w v xs)(hx:idx xs i=some x):
  xX v i A.n (pk v i A.n)/\∃vs,bK w (pk v i A.n) vs/\A.rd M w vs x/\ ¬M (pk v i A.n).block:=by
 have f:∀p,xX v i A.n p-> ¬M p.block:=by
  intro p hp;rcases h with ⟨⟨a0,rfl⟩,rfl⟩|⟨b,off,cap,cs,e,fr,rfl,g,_⟩
  .obtain ⟨a,l,c,hv,m,d,_⟩:=hp;simp only [Value.slice.injEq] at hv;omega
  .obtain ⟨a,l,c,hv,_,_,rfl⟩:=hp;cases hv;unfold Addr.add;split <;> exact g
 obtain ⟨p,vs,d,k,j⟩:=h.at_ hx;have:=d.pk;subst this;exact ⟨d,vs,k,j,f _ d⟩
theorem bJ.atA{M:Nat->Prop}{w:World}{xs:List α}{R:xc}{x:α}(h:bJ A e M w v xs R)(hx:idx xs i=some x):
  xX v i A.n (pk v i A.n)/\∃vs,bK w (pk v i A.n) vs/\A.rd M w vs x:=by
 obtain ⟨p,vs,a,c,b⟩:=bJ.atG (g:=true) (λ_=>h) (λ_=>hx);have:=(a rfl).pk;subst this;exact ⟨a rfl,vs,c rfl,b rfl⟩
section
variable {P : Program} {E : Env} {w : World} {dst : v7} {ty : TypeId} {pos : String} {af : w4}
theorem dY(w:World)(o:Obj):Ext w (w.alloc o):=⟨rfl,rfl,rfl,by simp,λb hb=>heap_alloc_old w o hb⟩
theorem GL{t:TypeId}{size bytes:Nat}(c:TI P t size bytes z)(d:z.cells=zs.toArray):
  ky P E ⟨dst,.alloc t,ty,pos,af,none⟩ w (.pointer (some ⟨w.heap.size,0,none⟩)) (w.alloc (.cells zs.toArray t)):=λn' a f=>by
 obtain ⟨e,hi,_,_,b⟩:=c.out;simp [execOp,Instr.alloc,zeroValue,typeInfo,hi,b,newVar,newRow,d]
theorem akh{t:TypeId}(hx:ar E true x v)(b:v.cells=zs.toArray):
  ky P E ⟨dst,.box t x,ty,pos,af,none⟩ w (.pointer (some ⟨w.heap.size,0,none⟩)) (w.alloc (.cells zs.toArray t)):=λn' a c=>by
 simp [execOp,Instr.box,newVar,newRow,hx n' a c rfl,b]
def nP(size len:Nat)(z:vf)(parts:List (Nat×Value)):Option vc:=
 Instr.fill (λi=>some (i*size,size)) ((Array.range (len*size)).map (z.toArray[· %z.length]!)) parts
theorem ajf{b:List (Nat×Operand)}(hx:gw E true (b.map (·.2)) vs){n:Nat}{a:Act}(c:Fits n E a):
  (b.map λx:Nat×Operand=>match x with|(i,x)=>(i,a.eval x))=(b.map (·.1)).zip vs:=by
 have h:=hx.map c rfl;rw [rh] at h;subst h;clear hx
 induction b with
 |nil=>rfl
 |cons p ps ih=>simp [ih]
theorem nG{t:TypeId}{len size bytes:Nat}{cells:vf}{b:List (Nat×Operand)}
  (l:P.underlying t=some (.slice e)) (g:TI P e size bytes z) (k:z.cells=zs.toArray) (c:Nat.blt 0 (len*size)=true) (d:Nat.ble (len*size) 16777216=true)
  (hx:gw E true (b.map (·.2)) vs) (hc:nP size len zs ((b.map (·.1)).zip vs)=some cells.toArray):
  ky P E ⟨dst,.buildSlice t len b.toArray,ty,pos,af,none⟩ w (.slice (some ⟨w.heap.size,0,none⟩) len len) (w.alloc (.cells cells.toArray e)):=λn' a n=>by
 obtain ⟨q,hi,m,_,f⟩:=g.out;have p:=ajf hx n;have o:¬len*size=0:=by
  have:0<len*size:=by simpa using c
  omega
 have j:¬(len*size>2^24):=by have:=cd d;omega
 have h:Instr.fill (λi=>some (i*size,size)) ((Array.range (len*size)).map (z.cells[· %z.cells.size]!)) ((b.map (·.1)).zip vs)=some cells.toArray:=by rw [k];simpa [nP] using hc
 simp only [execOp,List.map_toArray,p,Instr.buildSlice,Sem.run_bind,run_underlying l,Result.andThen_ok,sizeOf,typeInfo,run_program,hi,Sem.run_pure,m,gZ j,gZ o,zeroValue,f,h,newRow,run_newObj];rfl
theorem rJ{t:TypeId}{size bytes:Nat}(d:P.underlying t=some (.slice e))(b:TI P e size bytes z):
  ky P E ⟨dst,.buildSlice t 0 #[],ty,pos,af,none⟩ w (.slice (some ⟨w.heap.size,0,none⟩) 0 0) (w.alloc (.cells ([]:vf).toArray e)):=λn' a i=>by
 obtain ⟨g,hi,h,_,c⟩:=b.out;have f:(Array.range 0).map (λ_=>(default:Value))= #[]:=Array.eq_empty_of_size_eq_zero (by simp);simp [execOp,Instr.buildSlice,run_underlying d,sizeOf,typeInfo,hi,Instr.fill,newRow,f]
theorem bO.fresh{M:Nat->Prop}{len:Nat}{cells:vf}{xs:List α}(hb:eD w b e cells)(d:¬M b)
  (c:xs.length=len) (a:cK A M w cells xs):bO A M w (.slice (some ⟨b,0,none⟩) len len) xs:=
 .inr ⟨b,0,len,cells.toArray,e,(0,0),by rw [c],d,hb,by omega,by simp [a.1,c],by rw [l9,<-a.1];simpa using a⟩
theorem fU.fresh{M:Nat->Prop}{len:Nat}{cells:vf}{xs:List α}(hb:eD w b e cells)
  (c:xs.length=len) (d:Nat.ble len 9223372036854775807=true) (a:cK A M w cells xs):fU A e M w (.slice (some ⟨b,0,none⟩) len len) xs:=
 ⟨cells,⟨a.1,.inr ⟨b,0,len,cells.toArray,by rw [c],hb,by omega,by simpa [maxLen] using cd d,⟨by simp [a.1,c],.inl rfl⟩,by simp [<-a.1]⟩⟩,a⟩
def mN(vs:vf)(k:Nat)(us:vf):vf:=vs.take k++us++vs.drop (k+us.length)
theorem ag4{t:TypeId}{k:Nat}{us d:vf}{size bytes:Nat}(h:TI P t size bytes z)
  (hx:ar E true x (.pointer (some ⟨b,k,none⟩))) (o:ar E true y v) (hv:v.cells=us.toArray) (l:us.length=size)
  (r:us.all Value.oneCell'=true) (hb:eD w b e vs) (q:Nat.ble (k+us.length) vs.length=true) (g:mN vs k us=d):
  QO P E ⟨dst,.store t x y,ty,pos,af,none⟩ w (w.setRow b d.toArray)/\jh [b] w (w.setRow b d.toArray)/\eD (w.setRow b d.toArray) b e d:=by
 obtain ⟨u,hi,p,_,_⟩:=h.out;have i:=cd q;have f:=run_storeCells_at P b k e us 0 vs.toArray w hb (by simpa using i) (by simpa using r);refine ⟨λn a m=>?_,⟨rfl,rfl,rfl,by simp,λc _ j=>setRow_other w b c _ (by simpa using j)⟩,setRow_heap w b _ _ e (0,0) hb⟩;have s:(vs.take k++us++vs.drop (k+us.length))=d:=g;simp only [qg] at f;simp [execOp,Instr.storeAt,Instr.sureAddr,hx n a m rfl,o n a m rfl,storeVar,sizeOf,typeInfo,hi,p,hv,l,f];rw [<-s];simp [l]
theorem IQ{M:Nat->Prop}{t:TypeId}{k:Nat}{r:Value}{xs:List α}{u:α}{us d:vf}{size bytes:Nat}(Q:TI P t size bytes z)
  (hx:ar E true x (.pointer (some (p.add k)))) (hy:ar E true y v) (hv:v.cells=us.toArray) (R:us.length=size) (Z:us.all Value.oneCell'=true) (X:xX r i A.n p) (ho:fU A e M w r xs) (hC:bK w p vs) (hvl:vs.length=A.n)
  (D:Nat.ble (k+us.length) vs.length=true) (N:mN vs k us=d) (O:A.rd M w d u) (hM:∀b∈dq r,M b):
  ∃w',QO P E ⟨dst,.store t x y,ty,pos,af,none⟩ w w'/\jh (dq r) w w'/\w'.heap.size=w.heap.size/\∀M',Mv M w M' w'->fU A e M' w' r (xs.set i.toNat u):=by
 obtain ⟨i',hi,hs,_,_⟩:=Q.out;obtain ⟨ad,len,cap,rfl,h0,h1,rfl⟩:=X;obtain ⟨cells,⟨hcl,C⟩,hA⟩:=ho;rcases C with ⟨H,_⟩|⟨g,off,cap',cur,s,V,hc,hm,F,ht⟩
 .cases H
 .cases s;have hcs1:=F.1;have D:=cd D;have U:=A.len O;have m:i.toNat<xs.length:=by omega
  have I:((⟨g,off,none⟩:Addr).add (i.toNat*A.n))=⟨g,off+i.toNat*A.n,none⟩:=by unfold Addr.add;split <;> simp_all
  rw [I] at hx hC;have q:((⟨g,off+i.toNat*A.n,none⟩:Addr).add k)=⟨g,off+i.toNat*A.n+k,none⟩:=by unfold Addr.add;split <;> simp_all
  rw [q] at hx;have e3:(i.toNat+1)*A.n=i.toNat*A.n+A.n:=qT ..;have W:off+i.toNat*A.n+A.n<=cur.size:=by have:(i.toNat+1)*A.n<=cap*A.n:=c8 _ (by omega);omega
  have B:=run_storeCells_at P g (off+i.toNat*A.n+k) e us 0 cur w V (by simp only [qg];omega) (by simpa using Z);simp only [qg] at B;generalize K:cur.toList.drop off=L at ht;have f:L.length=cur.size-off:=by rw [<-K];simp
  -- the element's cells
  have h:vs=(L.drop (i.toNat*A.n)).take A.n:=by
   obtain ⟨_,cs,t',fr,hb,o⟩:=hC;rw [V] at hb;cases hb;apply List.ext_getElem
   .simp only [bj,ch,f];omega
   .intro j h2 h3;have:=o j _ (b7 h2);have hj:j<A.n:=by omega
    subst K;rw [qY,qZ,qZ,Array.getElem_toList];simp only [<-qo];rw [Array.getElem?_eq_getElem (by show off+i.toNat*A.n+j<cur.size;omega)] at this;exact (n9 this).symm
  have J:cur.toList.take (off+i.toNat*A.n+k)++us++cur.toList.drop (off+i.toNat*A.n+k+us.length)=cur.toList.take off++(L.take (i.toNat*A.n)++d++L.drop ((i.toNat+1)*A.n)):=by
   have e1:cur.toList.take (off+i.toNat*A.n+k)=cur.toList.take off++(L.take (i.toNat*A.n)++vs.take k):=by rw [h,<-K,lk,qo,List.take_add,List.take_add,j6,cq (by omega)]
   have e2:cur.toList.drop (off+i.toNat*A.n+k+us.length)=vs.drop (k+us.length)++L.drop ((i.toNat+1)*A.n):=by
    have e5:cur.toList.drop (off+i.toNat*A.n+k+us.length)=L.drop (i.toNat*A.n+(k+us.length)):=by rw [<-K,j6];congr 1;omega
    rw [e5,h,pc,j6,e3];have e4:L.drop (i.toNat*A.n+A.n)=(L.drop (i.toNat*A.n+(k+us.length))).drop (A.n-(k+us.length)):=by rw [j6];congr 1;omega
    rw [e4,qH]
   rw [e1,e2,<-N];simp [mN]
  have l:QO P E ⟨dst,.store t x y,ty,pos,af,none⟩ w (w.setRow g (cur.toList.take (off+i.toNat*A.n+k)++us++cur.toList.drop (off+i.toNat*A.n+k+us.length)).toArray):=λn a hf=>by
   have S:¬(us.toArray.size≠i'.size):=by simp [R,hs]
   simp only [execOp,Instr.storeAt,Instr.sureAddr,hx n a hf rfl,hy n a hf rfl,storeVar,sizeOf,typeInfo,hi,hv,Sem.run_bind,Sem.run_pure,Result.andThen_ok,run_program,gZ S,B]
  rw [J] at l;have G:jh [g] w (w.setRow g (cur.toList.take off++(L.take (i.toNat*A.n)++d++L.drop ((i.toNat+1)*A.n))).toArray):=
   ⟨rfl,rfl,rfl,by simp,λc _ Y=>setRow_other w g c _ (by simpa using Y)⟩
  refine ⟨_,l,G,by simp,λM' T=>?_⟩;refine ⟨cells.take (i.toNat*A.n)++d++cells.drop ((i.toNat+1)*A.n),⟨?_,.inr ⟨g,off,cap,_,by simp,setRow_heap w g cur _ e _ V,by simpa using hc,hm,⟨?_,F.2⟩,?_⟩⟩,((hA.set m O).mv T)⟩
  .exact (hA.set m O).1
  .simp only [hW,cj,bj,ch,cb,f];omega
  .have e6:(cur.toList.take off++(L.take (i.toNat*A.n)++d++L.drop ((i.toNat+1)*A.n))).drop off=L.take (i.toNat*A.n)++d++L.drop ((i.toNat+1)*A.n):=by
    have e7:(cur.toList.take off).length=off:=by rw [bj,cb];omega
    rw [q6,q4 (by omega),e7,Nat.sub_self];rfl
   rw [rP,<-ht,e6];have hk:i.toNat*A.n+A.n<=xs.length*A.n:=by rw [<-qT];exact c8 _ m
   have e3:(i.toNat+1)*A.n=i.toNat*A.n+d.length:=by rw [U,n7];omega
   rw [e3,qJ,qJ,lk,lk,pc];have e4:min (xs.length*A.n) (i.toNat*A.n)=i.toNat*A.n:=by omega
   have e5:min (i.toNat*A.n) (xs.length*A.n)=i.toNat*A.n:=by omega
   rw [e4,e5];congr 1
   .congr 1;rw [ed];simp only [bj,f];omega
   .congr 1;simp only [cj,bj,f];omega
def aH(k bytes:Nat):Bool:=Nat.ble (k*bytes) 140737488355328&&Nat.ble k 9223372036854775807
theorem aeL{l ns:vf}{off m:Nat}(d:m=((l.drop off).take m).length)(e:off+m+ns.length<=l.length):
  ((l.take (off+m)++ns++l.drop (off+m+ns.length)).drop off).take ((l.drop off).take m++ns).length=(l.drop off).take m++ns:=by
 have c:l.take (off+m)=l.take off++(l.drop off).take m:=List.take_add;have b:(l.take off).length=off:=by rw [bj];omega
 have a:(l.take off++(l.drop off).take m++ns++l.drop (off+m+ns.length)).drop off=(l.drop off).take m++ns++l.drop (off+m+ns.length):=by have:=List.drop_left (l₁:=l.take off) (l₂:=(l.drop off).take m++ns++l.drop (off+m+ns.length));rw [b] at this;simpa only [aO] using this
 rw [c,a];exact qX
theorem QV(t ty e:TypeId)(i:TypeInfo)(o:P.underlying t=some (.slice e))(hi:P.info? e=some i)
  (g off d f:Nat) (cur:vc) (q:w.heap[g]? =some (.cells cur e (0,0)))
  (a:Addr) (m c:Nat) (b:vf) (p:b.length=m*i.size) (k:∀j u,b[j]? =some u->w.cell? (a.add j)=some u) (s:∀u∈b,u.oneCell'=true)
  (h:d+m<=f) (n:off+d*i.size+b.length<=cur.size):
  (Builtin.append_ #[t,t] ty #[.slice (some ⟨g,off,none⟩) d f,.slice (some a) m c]).run P w=
   .ok (.slice (some ⟨g,off,none⟩) (d+m) f) (w.setRow g (cur.toList.take (off+d*i.size)++b++cur.toList.drop (off+d*i.size+b.length)).toArray):=by
 have r:=run_firstCells_some (P:=P) w i.size m a m c b p k;have l:=run_storeCells_at P g (off+d*i.size) e b 0 cur w q (by simpa using n) s;simp only [qg] at l;simp [Builtin.append_,run_underlying o,sizeOf,typeInfo,hi,Builtin.lenOf,h,r,Addr.add_lit,l]
theorem Fc{M:Nat->Prop}(t D e:TypeId)(i:TypeInfo)(z:Value)(J:P.underlying t=some (.slice e))(hi:P.info? e=some i)(hz:i.zero=some z)(F:i.size=A.n)
  (X:z.cells.size=A.n) {v u:Value} {xs ys:List α} (ho:fU A e M w v xs) (hy:bO A M w u ys) (hM:∀b∈dq v,M b) (l:aH (xs.length+ys.length) i.bytes=true) (_hpos:0<A.n):
  ∃v' w',(Builtin.append_ #[t,t] D #[v,u]).run P w= .ok v' w'/\jh (dq v) w w'/\(∀b∈dq v',b<w'.heap.size/\(b∈dq v\/w.heap.size<=b))/\
   (∀M',Mv M w M' w'->fU A e M' w' v' (xs++ys)):=by
 simp only [aH,ae] at l;have W:=cd l.1;have V:=cd l.2;have U:=ho.lt;obtain ⟨cells,f,R⟩:=ho
 -- the new cells
 have T:(u= .slice none 0 0/\ys=[])\/∃I c d,u= .slice (some I) ys.length c/\d.length=ys.length*A.n/\(∀j x,d[j]? =some x->w.cell? (I.add j)=some x)/\cK A M w d ys:=by
  rcases hy with ⟨⟨uo,rfl⟩,rfl⟩|⟨b,off,cap,cs,e',fr,rfl,hMb,hb,hc,hof,B⟩
  .cases uo with
   |none=>exact .inl ⟨rfl,rfl⟩
   |some I=>exact .inr ⟨I,0,[],rfl,by simp,by simp,cK.nil⟩
  .refine .inr ⟨⟨b,off,none⟩,cap,_,rfl,B.1,λj x G=>?_,B⟩;have key:bK w ⟨b,off,none⟩ ((cs.toList.drop off).take (ys.length*A.n)):=⟨rfl,cs,e',fr,hb,λj u G=>by
    rw [gj] at G;split at G
    .simpa [et] using G
    .cases G⟩
   exact key.cell G
 rcases T with ⟨rfl,rfl⟩|⟨I,c,d,rfl,q,K,L⟩
 . -- nothing is appended
  refine ⟨v,w,?_,(Ext.refl w).pZ _,λb hb=>⟨?_,.inl hb⟩,λM' m=>⟨cells,?_,?_⟩⟩
  .rcases f.2 with ⟨rfl,h0⟩|⟨g,off,cap,cur,rfl,Q,p,_⟩
   .simp [Builtin.append_,run_underlying J,sizeOf,typeInfo,hi,Builtin.lenOf,Builtin.firstCells]
   .simp [Builtin.append_,run_underlying J,sizeOf,typeInfo,hi,Builtin.lenOf,Builtin.firstCells,storeCells,p]
  .exact U b hb
  .simpa using f
  .simpa using R.mv m
 .have r:=R.append L;have S:=L.Ak;by_cases hm0:ys.length=0
  . -- a slice without elements
   have Y:ys=[]:=cf hm0;subst Y;have hn0:d=[]:=cf (by simpa using q);subst hn0;refine ⟨v,w,?_,(Ext.refl w).pZ _,λb hb=>⟨?_,.inl hb⟩,λM' m=>⟨cells,?_,?_⟩⟩
   .rcases f.2 with ⟨rfl,h0⟩|⟨g,off,cap,cur,rfl,Q,p,_⟩
    .simp [Builtin.append_,run_underlying J,sizeOf,typeInfo,hi,Builtin.lenOf,Builtin.firstCells,loadCells,loadCellsFrom]
    .simp [Builtin.append_,run_underlying J,sizeOf,typeInfo,hi,Builtin.lenOf,Builtin.firstCells,storeCells,loadCells,loadCellsFrom,p]
   .exact U b hb
   .simpa using f
   .simpa using R.mv m
  .have y:∀(ie:Nat),ie<xs.length+ys.length->
     (w.drew.alloc (.cells (cells.toArray++d.toArray++Builtin.zeroCells z.cells (grownCap w (xs.length+ys.length) ie e-(xs.length+ys.length))) e)).ownsRow 0 e A.n
      (.slice (some ⟨w.heap.size,0,none⟩) (xs++ys).length (grownCap w (xs.length+ys.length) ie e)) (xs++ys).length (cells++d):=by
    intro ie hold;have hge:=grownCap_ge w (xs.length+ys.length) ie e;have O:grownCap w (xs.length+ys.length) ie e<=maxLen:=grownCap_le_maxLen w _ ie e (by simpa [maxLen] using V);refine ⟨r.1,.inr ⟨w.heap.size,_,_,rfl,p0 _,heap_alloc_new w.drew _,by simpa using hge,O,?_,?_⟩⟩
    .simp only [ql,hW,size_zeroCells,X,R.1,q,<-n7];congr 1;omega
    .simp only [qN,aO];rw [<-aO,<-r.1];exact qX
   have H:∀o C,jh C w (w.drew.alloc o):=λo C=>⟨rfl,rfl,rfl,by simp,λb hb _=>heap_alloc_old w.drew o hb⟩;rcases f.2 with ⟨rfl,h0⟩|⟨g,off,cap,cur,rfl,Q,p,O,N,k⟩
   .have Z:xs=[]:=cf h0;subst Z;have hc0:cells=[]:=cf (by simpa using f.1);subst hc0;have B:=run_append_nil (P:=P) w t D e i z J hi hz I ys.length c d (by rw [F];exact q) K (by omega) (by simp at V;omega) (by simp at W;omega);have E:=y 0 (by simp;omega);simp only [qe,ec,oi,qU] at E B;refine ⟨_,_,B,H _ _,λb hb=>?_,λM' m=>⟨_,.of (by simpa using E),by simpa using L.mv m⟩⟩;have:b=w.heap.size:=by simpa [dq,Value.ownBlock] using hb
    subst this;exact ⟨by simp,.inr (bb _)⟩
   .by_cases h:xs.length+ys.length<=cap
    .have s:off+xs.length*i.size+d.length<=cur.size:=by have:(xs.length+ys.length)*A.n<=cap*A.n:=c8 _ h;rw [n7] at this;have:=N.1;rw [F,q];omega
     have B:=QV (P:=P) (w:=w) t D e i J hi g off xs.length cap cur Q I ys.length c d (by rw [F];exact q) K S h s;rw [F] at B;refine ⟨_,_,B,⟨rfl,rfl,rfl,by simp,λb hb hbg=>setRow_other w g b _ (by simpa [dq,Value.ownBlock] using hbg)⟩,λb hb=>?_,λM' m=>⟨cells++d,⟨r.1,.inr ⟨g,off,cap,_,by simp,setRow_heap w g cur _ e _ Q,by simpa using h,O,⟨?_,N.2⟩,?_⟩⟩,r.mv m⟩⟩
     .have:b=g:=by simpa [dq,Value.ownBlock] using hb
      subst this;exact ⟨by simpa using (Array.getElem?_eq_some_iff.1 Q).1,.inl (by simp [dq,Value.ownBlock])⟩
     .simp only [hW,cj,bj,ch,cb];rw [F] at s;have:=N.1;omega
     .rw [<-r.1,<-k];exact aeL (by rw [k];exact R.1.symm) (by rw [F] at s;simp only [cb];omega)
    .have holds:∀j x,cells[j]? =some x->w.cell? ((⟨g,off,none⟩:Addr).add j)=some x:=λj x G=>(CM Q k).cell G;have B:=run_append_grow (P:=P) w t D e i z J hi hz ⟨g,off,none⟩ xs.length cap cells (by rw [F];exact R.1) holds I ys.length c d (by rw [F];exact q) K (by omega) (by omega) (growslice_fits (by omega) W);have E:=y cap (by omega);refine ⟨_,_,B,H _ _,λb hb=>?_,λM' m=>⟨_,.of (by simpa using E),r.mv m⟩⟩;have:b=w.heap.size:=by simpa [dq,Value.ownBlock] using hb
     subst this;exact ⟨by simp,.inr (bb _)⟩
theorem sh{M:Nat->Prop}(t g e:TypeId)(i:TypeInfo)(z:Value)(s:P.underlying t=some (.slice e))(hi:P.info? e=some i)(I:i.zero=some z)(J:i.size=A.n)
  (y:z.cells.size=A.n) {a0:Option Addr} {u:Value} {ys:List α} (hx:bO A M w (.slice a0 0 0) []) (O:bO A M w u ys) (d:aH ys.length i.bytes=true):
  ((Builtin.append_ #[t,t] g #[.slice a0 0 0,u]).run P w= .ok (.slice a0 0 0) w/\ys=[])\/
  ∃v' w',(Builtin.append_ #[t,t] g #[.slice a0 0 0,u]).run P w= .ok v' w'/\Ext w w'/\(∀b∈dq v',b<w'.heap.size/\w.heap.size<=b)/\(∀M',Mv M w M' w'->fU A e M' w' v' ys):=by
 simp only [aH,ae] at d;have G:=cd d.1;have F:=cd d.2;have o:(u= .slice none 0 0/\ys=[])\/∃l c a,u= .slice (some l) ys.length c/\a.length=ys.length*A.n/\(∀j x,a[j]? =some x->w.cell? (l.add j)=some x)/\cK A M w a ys:=by
  rcases O with ⟨⟨N,rfl⟩,rfl⟩|⟨b,off,cap,cs,e',fr,rfl,R,hb,hc,Q,k⟩
  .cases N with
   |none=>exact .inl ⟨rfl,rfl⟩
   |some l=>exact .inr ⟨l,0,[],rfl,by simp,by simp,cK.nil⟩
  .refine .inr ⟨⟨b,off,none⟩,cap,_,rfl,k.1,λj x h=>?_,k⟩;have key:bK w ⟨b,off,none⟩ ((cs.toList.drop off).take (ys.length*A.n)):=⟨rfl,cs,e',fr,hb,λj u h=>by
    rw [gj] at h;split at h
    .simpa [et] using h
    .cases h⟩
   exact key.cell h
 rcases o with ⟨rfl,rfl⟩|⟨l,c,a,rfl,f,p,q⟩
 .refine .inl ⟨?_,rfl⟩;cases a0 <;> simp [Builtin.append_,run_underlying s,sizeOf,typeInfo,hi,Builtin.lenOf,Builtin.firstCells,storeCells]
 .by_cases C:ys.length=0
  .have B:ys=[]:=cf C;subst B;refine .inl ⟨?_,rfl⟩;cases a0 <;> simp [Builtin.append_,run_underlying s,sizeOf,typeInfo,hi,Builtin.lenOf,Builtin.firstCells,storeCells,loadCells,loadCellsFrom]
  .refine .inr ?_;have D:=grownCap_ge w ys.length 0 e;have E:grownCap w ys.length 0 e<=maxLen:=grownCap_le_maxLen w _ 0 e (by simpa [maxLen] using F);have r:(w.drew.alloc (.cells (a.toArray++Builtin.zeroCells z.cells (grownCap w ys.length 0 e-ys.length)) e)).ownsRow 0 e A.n
      (.slice (some ⟨w.heap.size,0,none⟩) ys.length (grownCap w ys.length 0 e)) ys.length a:=by
    refine ⟨f,.inr ⟨w.heap.size,_,_,rfl,p0 _,heap_alloc_new w.drew _,D,E,?_,?_⟩⟩
    .simp only [ql,hW,size_zeroCells,y,f,<-n7];congr 1;omega
    .simp only [qN];rw [<-f];exact qX
   have K:Ext w (w.drew.alloc (.cells (a.toArray++Builtin.zeroCells z.cells (grownCap w ys.length 0 e-ys.length)) e)):=⟨rfl,rfl,rfl,by simp,λb hb=>heap_alloc_old w.drew _ hb⟩;have L:∀b∈dq (.slice (some ⟨w.heap.size,0,none⟩) ys.length (grownCap w ys.length 0 e)),b<(w.drew.alloc (.cells (a.toArray++Builtin.zeroCells z.cells (grownCap w ys.length 0 e-ys.length)) e)).heap.size/\w.heap.size<=b:=λb hb=>by
    have:b=w.heap.size:=by simpa [dq,Value.ownBlock] using hb
    subst this;exact ⟨by simp,bb _⟩
   cases a0 with
   |none=>
    have k:=run_append_nil (P:=P) w t g e i z s hi I l ys.length c a (by rw [J];exact f) p (by omega) (by omega) (by omega);exact ⟨_,_,k,K,L,λM' m=>⟨a,.of r,q.mv m⟩⟩
   |some H=>
    have k:=run_append_grow (P:=P) w t g e i z s hi I H 0 0 [] (by simp) (by intro j v h;simp at h) l ys.length c a (by rw [J];exact f) p (by omega) (by omega) (growslice_fits (by omega) (by simpa using G));simp only [ec,qU] at k;exact ⟨_,_,by simpa using k,K,L,λM' m=>⟨a,.of r,q.mv m⟩⟩
theorem DI{M:Nat->Prop}{u:Value}{t:TypeId}{bytes:Nat}{R:xc}(D:P.underlying t=some (.slice e))(p:TI P e A.n bytes z)
  (g:z.cells.size=A.n) (k:0<A.n) (hx:ar E true x v) (o:ar E true y u)
  {xs ys:List α} (q:bJ A e M w v xs R) (h:bO A M w u ys) (I:∀b∈R,M b) (c:aH (xs.length+ys.length) bytes=true):
  ∃d R' w',ky P E ⟨dst,.call ⟨.builtin .append,#[x,y],#[t,t]⟩,ty,pos,af,none⟩ w d w'/\jh R w w'/\(∀b∈R',b<w'.heap.size/\(b∈R\/w.heap.size<=b))/\∀M',Mv M w M' w'->bJ A e M' w' d (xs++ys) R':=by
 obtain ⟨B,l,F,r,C⟩:=p.out;subst r;rcases q with ⟨rfl,q⟩|⟨rfl,rfl,⟨a0,rfl⟩,i⟩
 .obtain ⟨d,w',j,K,H,s⟩:=Fc t ty e B z D l C F g q h I c k;exact ⟨d,dq d,w',(λn' a f=>by simp [execOp,resolve,invoke,builtin,hx n' a f rfl,o n' a f rfl,j]),K,H,λM' m=>bJ.of (s M' m)⟩
 .rcases sh t ty e B z D l C F g i h (by simpa using c) with ⟨j,rfl⟩|⟨d,w',j,J,G,s⟩
  .exact ⟨_,[],w,(λn' a f=>by simp [execOp,resolve,invoke,builtin,hx n' a f rfl,o n' a f rfl,j]),(Ext.refl w).pZ _,(λb hb=>by cases hb),λM' m=>bJ.empty (i.mv m)⟩
  .exact ⟨d,dq d,w',(λn' a f=>by simp [execOp,resolve,invoke,builtin,hx n' a f rfl,o n' a f rfl,j]),J.pZ _,(λb hb=>⟨(G b hb).1,.inr (G b hb).2⟩),λM' m=>bJ.of (by simpa using s M' m)⟩
theorem acF(zs:vf):∀m j,j<m*zs.length->((List.replicate m zs).flatten)[j]? =zs[j%zs.length]?
 |0,j,h=>by simp at h
 |m+1,j,h=>by
  rw [qf,List.flatten_cons];by_cases a:j<zs.length
  .rw [b8 a,Nat.mod_eq_of_lt a]
  .have b:j-zs.length<m*zs.length:=by rw [qT] at h;omega
   rw [bZ (by omega),acF zs m _ b,Nat.mod_eq_sub_mod (by omega:zs.length<=j)]
theorem Da(zs:vf)(a:0<zs.length)(m:Nat):((Array.range (m*zs.length)).map (zs.toArray[· %zs.toArray.size]!))=((List.replicate m zs).flatten).toArray:=by
 apply Array.toList_inj.1;apply qm;intro j;by_cases d:j<m*zs.length
 .have b:j%zs.length<zs.length:=qW _ a;rw [acF zs m j d];simp only [Array.toList_map,Array.toList_range,l7,List.getElem?_range d,hW,hV];rw [b7 b];simp [b]
 .have c:((List.replicate m zs).flatten).length=m*zs.length:=by simp
  rw [e9 (by simp;omega),e9 (by simp at c ⊢; omega)]
theorem aji{t:TypeId}{bytes:Nat}{v:IntKind}{l:Int}{g:α}(H:P.underlying t=some (.slice e))(o:TI P e A.n bytes z)
  (F:z.cells=zs.toArray) (j:zs.length=A.n) (C:0<A.n) (hx:ar E true x (.int k l)) (G:ar E true y (.int v l)) (L:decide (0<=l)=true) (b:aH l.toNat bytes=true)
  (i:∀M w,A.rd M w zs g):
  ∃w',ky P E ⟨dst,.makeSlice t x y,ty,pos,af,none⟩ w (.slice (some ⟨w.heap.size,0,none⟩) l.toNat l.toNat) w'/\Ext w w'/\w.heap.size<w'.heap.size/\∀M,fU A e M w' (.slice (some ⟨w.heap.size,0,none⟩) l.toNat l.toNat) (List.replicate l.toNat g):=by
 obtain ⟨f,p,I,q,h⟩:=o.out;subst q;simp only [aH,ae] at b;have J:=cd b.1;have r:=cd b.2;have u:0<=l:=by simpa using L
 have N:((l.toNat:Nat):Int)=l:=by omega
 have s:(f.bytes:Int)*l<=281474976710656:=by
  have K:((f.bytes*l.toNat:Nat):Int)<=281474976710656:=by rw [Nat.mul_comm];omega
  rwa [Int.natCast_mul,N] at K
 have B:=run_make (P:=P) w t e f z H p h k v l l u (Int.le_refl _) s (by omega);have d:∀m M w',cK A M w' ((List.replicate m zs).flatten) (List.replicate m g):=by
  intro m M w'
  induction m with
  |zero=>simpa using cK.nil
  |succ m ih=>rw [qf,List.flatten_cons,qf];exact cK.cons (i M w') ih
 have c:madeCells z.cells (l.toNat*f.size)=((List.replicate l.toNat zs).flatten).toArray:=by rw [F,I,<-j,<-Da zs (by omega) l.toNat];simp [madeCells]
 rw [c] at B;refine ⟨w.alloc (.cells ((List.replicate l.toNat zs).flatten).toArray e),(λn' a D=>by simp [execOp,hx n' a D rfl,G n' a D rfl,B]),dY _ _,by simp,λM=>?_⟩;exact fU.fresh (heap_alloc_new w _) (by simp) (by simpa using r) (d _ _ _)
end
section
variable {P : Program} {fn : Func} {S : Value -> World -> Prop} {Sp : tj -> World -> Prop} {n : Nat} {E : Env} {w : World}
def iY(P:Program)(E:Env)(w:World)(r:ResultVar)(v:Value):Prop:=
 match r with
 | .tmp t=>look E t=some (true,v)
 | .cell p t=>∃ad,look E p=some (true,.pointer (some ad))/\(loadVar t ad).run P w= .ok v w
theorem iY.t{t:Tmp}(h:look E t=some (true,v)):iY P E w (.tmp t) v:=h
theorem iY.cA{p:Tmp}{t:TypeId}{b:Addr}{size bytes:Nat}(h:look E p=some (true,.pointer (some b)))(c:P.underlying t=some d)(hd:jb d=true)
  (a:TI P t size bytes z) (hc:bK w b vs) (e:vs.length=size):iY P E w (.cell p t) (.agg vs.toArray):=⟨b,h,Mb c hd a hc e⟩
theorem iY.c1{p:Tmp}{t:TypeId}{a:Addr}(h:look E p=some (true,.pointer (some a)))(b:P.underlying t=some d)(hd:jb d=false)
  (hc:bK w a vs) (c:vs[0]? =some v):iY P E w (.cell p t) v:=⟨a,h,JS b hd (hc.cell0 c)⟩
def Ri(a:Act)(r:ResultVar):Sem Value:=
 match r with
 | .tmp t=>pure (a.tmps.getD t undef)
 | .cell p t=>do loadVar t (<-asAddr (a.tmps.getD p undef))
theorem iY.run{r:ResultVar}(c:iY P E w r v){a:Act}(d:Fits n E a):(Ri a r).run P w= .ok v w:=by
 cases r with
 |tmp t=>have:=d.at_ t true v c;simp [Ri,this,vJ]
 |cell p t=>
  obtain ⟨f,e,b⟩:=c;have:=d.at_ p true _ e;simp [Ri,this,vJ,asAddr,b]
theorem Rh(fn:Func)(a:Act):results fn a.tmps=(do let vs <-fn.results.mapM (Ri a);pure (if h:vs.size=1 then vs[0] else .tuple vs)):=rfl
theorem af9(d:fn.results.toList.length=vs.length)(h:∀a,Fits n E a->(fn.results.mapM (Ri a)).run P w= .ok vs.toArray w){v:Value}(hv:(if h:vs.length=1 then vs[0] else .tuple vs.toArray)=v)(c:S v w):
  At (BP P fn S Sp) .ret n [] E w:=λa b hd=>by
 show LeavesInM _ _ _ _ _ _ a.defers _ _;rw [hd];refine ⟨v,?_,c⟩;rw [Rh];simp only [Sem.run_bind,h a b,Result.andThen_ok,Sem.run_pure];subst hv;simp
theorem MH{r:ResultVar}(b:fn.results= #[r])(e:iY P E w r v)(d:S v w):At (BP P fn S Sp) .ret n [] E w:=
 af9 (vs:=[v]) (by rw [b];rfl) (λa c=>by rw [b];simp [e.run c]) (by simp) d
end
structure fL(w w':World):Prop where
 os:w'.os=w.os
 tape:w'.tape=w.tape
 output:w'.output=w.output
theorem fL.refl(w:World):fL w w:=⟨rfl,rfl,rfl⟩
theorem fL.trans{a b c:World}(h:fL a b)(k:fL b c):fL a c:=⟨k.os.trans h.os,k.tape.trans h.tape,k.output.trans h.output⟩
theorem jh.env{C:xc}{w w':World}(h:jh C w w'):fL w w':=⟨h.os,h.tape,h.output⟩
structure Item where
 own:xc
 P:(Nat->Prop)->World->Prop
 lt:∀{M w},P M w->∀b∈own,b<w.heap.size
 cJ:∀{M M' w w'},P M w->Mv M w M' w'->(∀b∈own,w'.heap[b]? =w.heap[b]?)->fL w w'->P M' w'
 cE:Bool
 hp:cE=true->own=[]
abbrev Ctx:=List Item
def Ctx.M(Γ:Ctx)(b:Nat):Prop:= ∃it,it∈Γ/\b∈it.own
structure Sat(Γ:Ctx)(w:World):Prop where
 all:∀it,it∈Γ->it.P Γ.M w
 sep:∀(i j:Nat) (it jt:Item),Γ[i]? =some it->Γ[j]? =some jt->i≠j->∀b,b∈it.own->b∉jt.own
section
variable {Γ : Ctx} {w w' : World} {it new : Item} {i : Nat}
theorem Sat.nil:Sat [] w:=⟨λ_ h=>(by cases h),λi j it jt h=>(by simp at h)⟩
theorem Sat.at_(h:Sat Γ w)(hi:Γ[i]? =some it):it.P Γ.M w:=h.all it (mj hi)
theorem Ctx.iy(hi:Γ[i]? =some it){b:Nat}(hb:b∈it.own):Γ.M b:=⟨it,mj hi,hb⟩
theorem Sat.lt(h:Sat Γ w){b:Nat}(hb:Γ.M b):b<w.heap.size:=by obtain ⟨it,hi,hb⟩:=hb;exact it.lt (h.all it hi) b hb
theorem Ctx.AY:Ctx.M (new::Γ) b↔b∈new.own\/Γ.M b:=by
 constructor
 .rintro ⟨it,hi,hb⟩;rcases List.mem_cons.1 hi with rfl|hi
  .exact .inl hb
  .exact .inr ⟨it,hi,hb⟩
 .rintro (hb|⟨it,hi,hb⟩)
  .exact ⟨new,b0 .., hb⟩
  .exact ⟨it,aW _ hi,hb⟩
theorem Sat.ext(h:Sat Γ w)(x:Ext w w'):Sat Γ w':=
 ⟨λit hi=>it.cJ (h.all it hi) (x.mv _) (λb hb=>x.block b (h.lt ⟨it,hi,hb⟩)) ⟨x.os,x.tape,x.output⟩,h.sep⟩
theorem Sat.mF(h:Sat Γ w)(hi:Γ[i]? =some it)(p:jh it.own w w')(v:∀b∈new.own,b<w'.heap.size/\(b∈it.own\/w.heap.size<=b))
  (y:∀M',Mv Γ.M w M' w'->(∀b∈it.own,b∉new.own-> ¬M' b)->new.P M' w'):Sat (Γ.set i new) w':=by
 have x:i<Γ.length:=(List.getElem?_eq_some_iff.1 hi).1;have l:∀{j jt},Γ[j]? =some jt->j≠i->∀b∈new.own,b∉jt.own:=λ{j jt} a d b hb c=>by
  rcases (v b hb).2 with o|o
  .exact h.sep j i jt it a hi d b c o
  .have:=h.lt (Ctx.iy a c);omega
 have f:∀{jt},jt∈Γ.set i new->jt=new\/∃j,j≠i/\Γ[j]? =some jt:=λ{jt} a=>by
  obtain ⟨j,a⟩:=List.mem_iff_getElem?.1 a;rw [q0] at a;split at a
  next e=>subst e;simp only [b5] at a;exact .inl a.symm
  next e=>exact .inr ⟨j,λe'=>e e'.symm,a⟩
 have mv:Mv Γ.M w (Ctx.M (Γ.set i new)) w':=by
  refine ⟨p.size,λb hb q=>⟨?_,p.block b hb (λhc=>q (Ctx.iy hi hc))⟩⟩;rintro ⟨jt,a,n⟩;rcases f a with rfl|⟨j,_,a⟩
  .rcases (v b n).2 with o|o
   .exact q (Ctx.iy hi o)
   .omega
  .exact q (Ctx.iy a n)
 refine ⟨λjt a=>?_,λj k jt kt a g r b hb c=>?_⟩
 .rcases f a with rfl|⟨j,d,a⟩
  .refine y _ mv (λb hb s=>?_);rintro ⟨kt,g,m⟩;rcases f g with rfl|⟨k,d,g⟩
   .exact s m
   .exact h.sep k i kt it g hi d b m hb
  .exact jt.cJ (h.at_ a) mv (λb hb=>p.block b (h.lt (Ctx.iy a hb)) (λhc=>h.sep j i jt it a hi d b hb hc)) p.env
 .rw [q0] at a g;split at a <;> split at g
  .omega
  next u t=>subst u;simp only [b5] at a;subst a;exact l g (λe=>t e.symm) b hb c
  next u t=>subst t;simp only [b5] at g;subst g;exact l a (λe=>u e.symm) b c hb
  .exact h.sep j k jt kt a g r b hb c
theorem Sat.push(h:Sat Γ w)(x:Ext w w')(f:∀b∈new.own,b<w'.heap.size/\w.heap.size<=b)(l:∀M',Mv Γ.M w M' w'->new.P M' w'):Sat (new::Γ) w':=by
 have mv:Mv Γ.M w (Ctx.M (new::Γ)) w':=by
  refine ⟨x.size,λb hb i=>⟨?_,x.block b hb⟩⟩;rw [Ctx.AY];rintro (g|g)
  .have:=(f b g).2;omega
  .exact i g
 refine ⟨λjt a=>?_,λj k jt kt a d e b hb c=>?_⟩
 .rcases List.mem_cons.1 a with rfl|a
  .exact l _ mv
  .exact jt.cJ (h.all jt a) mv (λb hb=>x.block b (h.lt ⟨jt,a,hb⟩)) ⟨x.os,x.tape,x.output⟩
 .cases j with
  |zero=>
   simp only [c5,b5] at a;subst a;cases k with
   |zero=>exact e rfl
   |succ k=>
    simp only [b9] at d;have:=(f b hb).2;have:=h.lt (Ctx.iy d c);omega
  |succ j=>
   simp only [b9] at a;cases k with
   |zero=>
    simp only [c5,b5] at d;subst d;have:=(f b c).2;have:=h.lt (Ctx.iy a hb);omega
   |succ k=>
    simp only [b9] at d;exact h.sep j k jt kt a d (by omega) b hb c
theorem Sat.add(h:Sat Γ w)(hp:new.own=[])(a:new.P Γ.M w):Sat (new::Γ) w:=by refine h.push (Ext.refl w) (λb hb=>absurd (hp▸hb:b∈([]:xc)) List.not_mem_nil) (λM' m=>new.cJ a m (λb _=>rfl) (fL.refl w))
theorem Sat.map{Γ':Ctx}(h:Sat Γ w)(f:Nat->Nat)(d:∀(j:Nat) (jt:Item),Γ'[j]? =some jt->Γ[f j]? =some jt)(l:∀(j k:Nat) (jt:Item),j≠k->f j=f k->Γ'[j]? =some jt->(Γ'[k]?).isSome=true->jt.cE=true):Sat Γ' w:=by
 have mv:Mv Γ.M w (Ctx.M Γ') w:=Mv.weaken w λb hb=>by obtain ⟨it,hi,hb⟩:=hb;obtain ⟨k,a⟩:=List.mem_iff_getElem?.1 hi;exact Ctx.iy (d k it a) hb
 refine ⟨λjt c=>?_,λj k jt kt c a g b hb i=>?_⟩
 .obtain ⟨k,a⟩:=List.mem_iff_getElem?.1 c;exact jt.cJ (h.at_ (d k jt a)) mv (λ_ _=>rfl) (fL.refl w)
 .by_cases e:f j=f k
  .have hp:=l j k jt g e c (by rw [a];rfl);rw [jt.hp hp] at hb;cases hb
  .exact h.sep (f j) (f k) jt kt (d j jt c) (d k kt a) e b hb i
def reB(Γ:Ctx)(k:Nat):xc->Bool
 |[]=>true
 |i::is=>Nat.blt i k&&(match Γ[i]? with
   |none=>false
   |some it=> !(is.contains i)||it.cE)&&reB Γ k is
def Ctx.re(Γ:Ctx)(k:Nat):xc->Ctx
 |[]=>Γ.drop k
 |i::is=>match Γ[i]? with
   |none=>[]
   |some it=>it::Γ.re k is
def sO(k:Nat):xc->Nat->Nat
 |[],j=>k+j
 |i::_,0=>i
 |_::is,j+1=>sO k is j
theorem Gd{k:Nat}:∀(a:xc),reB Γ k a=true->∀(j:Nat) (jt:Item),(Γ.re k a)[j]? =some jt->Γ[sO k a j]? =some jt
 |[],_,j,jt,h=>by simpa [Ctx.re,sO] using h
 |i::a,hB,j,jt,h=>by
  simp only [reB,ae] at hB;simp only [Ctx.re] at h;cases hi:Γ[i]? with
  |none=>simp [hi] at hB
  |some it=>
   simp only [hi] at h;cases j with
   |zero=>simp only [c5,b5] at h;subst h;exact hi
   |succ j=>simp only [b9] at h;exact Gd a hB.2 j jt h
theorem ae9(k:Nat):∀(a:xc) (j:Nat),(sO k a j∈a/\j<a.length)\/(k<=sO k a j/\sO k a j=k+(j-a.length)/\a.length<=j)
 |[],j=> .inr ⟨by simp [sO],by simp [sO],by simp⟩
 |i::a,0=> .inl ⟨by simp [sO],by simp⟩
 |i::a,j+1=>by
  rcases ae9 k a j with ⟨h,d⟩|⟨c,e,b⟩
  .exact .inl ⟨by simp [sO,h],by simpa using d⟩
  .exact .inr ⟨by simpa [sO] using c,by simp only [sO,qb];omega,by simpa using b⟩
theorem We{k:Nat}:∀(b:xc),reB Γ k b=true->∀(j a:Nat) (it:Item),j<a->sO k b j=sO k b a->Γ[sO k b j]? =some it->it.cE=true
 |[],_,j,a,it,hlt,e,_=>by simp [sO] at e;omega
 |i::b,hB,j,a,it,hlt,e,hi=>by
  have f:=hB;simp only [reB,ae] at hB;cases a with
  |zero=>omega
  |succ a=>
   cases j with
   |zero=>
    simp only [sO] at e hi;simp only [hi,ck] at hB;rcases hB.1.2 with h|h
    .have d:i<k:=by simpa using hB.1.1
     rcases ae9 k b a with ⟨c,_⟩|⟨c,_⟩
     .rw [<-e] at c;have:b.contains i=true:=by simpa using c
      rw [this] at h;cases h
     .omega
    .exact h
   |succ j=>exact We b hB.2 j a it (by omega) (by simpa [sO] using e) (by simpa [sO] using hi)
theorem Sat.re(h:Sat Γ w)(k:Nat)(a:xc)(c:reB Γ k a=true):Sat (Γ.re k a) w:=
 h.map (sO k a) (Gd a c) λj d jt f e i g=>by
  rcases Nat.lt_or_gt_of_ne f with b|b
  .exact We a c j d jt b e (Gd a c j jt i)
  .obtain ⟨kt,n⟩:=Option.isSome_iff_exists.1 g;have m:=Gd a c j jt i;have l:=Gd a c d kt n;rw [e,l] at m;cases m;exact We a c d j jt b e.symm l
end
def IV{α:Type}(A:dB α)(vs:vf)(x:α):Item where
 own:=[]
 P M w:=A.rd M w vs x
 lt _ b hb:=by cases hb
 cJ h m _ _:=A.mv h m
 cE:=true
 hp _:=rfl
def box(b:Nat)(e:TypeId)(vs:vf):Item where
 own:=[b]
 P _ w:=eD w b e vs
 lt h c hc:=by
  have:c=b:=by simpa using hc
  subst this;exact h.lt
 cJ h _ k _:=eD.cJ h (k b (by simp))
 cE:=false
 hp h:=by cases h
def gf{α:Type}(A:dB α)(e:TypeId)(v:Value)(xs:List α)(R:xc):Item where
 own:=R
 P M w:=bJ A e M w v xs R
 lt h:=h.lt
 cJ h m k _:=h.cJ k m
 cE:=false
 hp h:=by cases h
def Uy(w:World)(b:Nat)(l:aF)(pos:Nat):Prop:=w.heap[b]? =some (.stringIter ⟨l.toArray⟩ pos)
def iter(b:Nat)(l:aF)(pos:Nat):Item where
 own:=[b]
 P _ w:=Uy w b l pos
 lt h c hc:=by
  have:c=b:=by simpa using hc
  subst this;exact (Array.getElem?_eq_some_iff.1 h).1
 cJ h _ k _:=(k b (by simp)).trans h
 cE:=false
 hp h:=by cases h
def elem(g:Bool)(p:Addr)(vs:vf):Item where
 own:=[]
 P M w:=g=true-> ¬M p.block/\bK w p vs
 lt _ b hb:=by cases hb
 cJ {M M' w w'} h m _ _:=λhg=>by obtain ⟨h1,hs,cs,t,fr,hb,hc⟩:=h hg;obtain ⟨h2,h3⟩:=m.2 _ (Array.getElem?_eq_some_iff.1 hb).1 h1;exact ⟨h2,hs,cs,t,fr,h3.trans hb,hc⟩
 cE:=true
 hp _:=rfl
def kept(w0:World)(M0:Nat->Prop):Item where
 own:=[]
 P M w:=fL w0 w/\w0.heap.size<=w.heap.size/\∀b,b<w0.heap.size-> ¬M0 b-> ¬M b/\w.heap[b]? =w0.heap[b]?
 lt _ b hb:=by cases hb
 cJ h m _ e:=⟨h.1.trans e,ca h.2.1 m.1,λb hb hn=>by obtain ⟨h1,h2⟩:=h.2.2 b hb hn;obtain ⟨h3,h4⟩:=m.2 b (cx hb h.2.1) h1;exact ⟨h3,h4.trans h2⟩⟩
 cE:=true
 hp _:=rfl
section
variable {Γ : Ctx} {w w' : World} {α : Type} {A : dB α} {i : Nat}
theorem Sat.IV(h:Sat Γ w){vs:vf}{x:α}(hi:Γ[i]? =some (IV A vs x)):A.rd Γ.M w vs x:=h.at_ hi
theorem apm{M:Nat->Prop}{xs:List α}(h:(IH A).rd M w [v] xs):bO A M w v xs:=by
 obtain ⟨u,a,h⟩:=h;have:v=sl u:=by simpa using a
 rw [this];exact h
theorem Sat.sl(h:Sat Γ w){v:Value}{xs:List α}(hi:Γ[i]? =some (Go.Proofs.YtkedhpmpejhekaaGreatDoor.IV (IH A) [v] xs)):bO A Γ.M w v xs:=apm (h.IV hi)
theorem Sat.box(h:Sat Γ w){b:Nat}{e:TypeId}{vs:vf}(hi:Γ[i]? =some (box b e vs)):eD w b e vs:=h.at_ hi
theorem Sat.own(h:Sat Γ w){e:TypeId}{v:Value}{xs:List α}{R:xc}(hi:Γ[i]? =some (gf A e v xs R)):bJ A e Γ.M w v xs R:=h.at_ hi
theorem Sat.iter(h:Sat Γ w){b:Nat}{l:aF}{pos:Nat}(hi:Γ[i]? =some (iter b l pos)):Uy w b l pos:=h.at_ hi
theorem Sat.kept(h:Sat Γ w){a:World}{c:Nat->Prop}(hi:Γ[i]? =some (kept a c)):fL a w/\a.heap.size<=w.heap.size/\∀b,b<a.heap.size-> ¬c b-> ¬ Γ.M b/\w.heap[b]? =a.heap[b]? :=h.at_ hi
theorem Sat.freeze(h:Sat Γ w){e:TypeId}{v:Value}{xs:List α}{R:xc}(hi:Γ[i]? =some (gf A e v xs R)):Sat (Γ.set i (Go.Proofs.YtkedhpmpejhekaaGreatDoor.IV (IH A) [v] xs)) w:=
 h.mF hi ((Ext.refl w).pZ _) (λb hb=>by cases hb) (λM' m a=>((h.own hi).freeze (λb hb=>a b hb (λhb=>by cases hb)) m).rsl)
end
def ahq(M:Nat->Prop)(w:World):List Item->Prop
 |[]=>True
 |it::l=>it.P M w/\ahq M w l
theorem ah5{Γ:Ctx}{b:Nat}:∀(new:List Item),new.all (·.cE)=true->Ctx.M (new++Γ) b->Γ.M b
 |[],_,h=>h
 |it::l,hp,h=>by
  simp only [qF,ae] at hp;rcases Ctx.AY.1 h with h|h
  .rw [it.hp hp.1] at h;cases h
  .exact ah5 l hp.2 h
theorem Sat.al1{Γ:Ctx}{w:World}(h:Sat Γ w):∀(new:List Item),new.all (·.cE)=true->ahq Γ.M w new->Sat (new++Γ) w
 |[],_,_=>h
 |it::l,hp,hP=>by have a:=hp;simp only [qF,ae] at hp;have c:=h.al1 l hp.2 hP.2;exact c.add (it.hp hp.1) (it.cJ hP.1 (Mv.weaken w λb hb=>ah5 l hp.2 hb) (λ_ _=>rfl) (fL.refl w))
theorem yv{x:Int}(h: -9223372036854775808<=x/\x<=9223372036854775807):i64.wrap x=x:=by rw [IntKind.wrap_i64];omega
def strOf(xs:xb):aF:=xs.map λn=>UInt8.ofNat n.toNat
section
variable {P : Program} {E : Env} {g : Bool} {w : World}
theorem cK.ints{M:Nat->Prop}{cs:vf}{xs:xb}(h:cK (RI k) M w cs xs):cs=xs.map (Value.int k):=by
 have b:=h.1;simp only [RI,q5] at b;apply List.ext_getElem (by simpa using b);intro i d c;have hi:i<xs.length:=by omega
 have a:=h.2 i hi;simp only [RI,q5] at a;have:cs[i]=((cs.drop i).take 1)[0]'(by simp;omega):=by simp
 rw [this];simp only [a,List.getElem_cons_zero,List.getElem_map]
theorem amV{M:Nat->Prop}{xs:xb}{c d:TypeId}(j:P.underlying c=some (.slice e))(k:P.underlying e=some (.int .u8))(hd:P.underlying d=some .string)
  (h:bO (RI .u8) M w v xs):(convert c d v).run P w= .ok (S (strOf xs)) w:=by
 rcases h with ⟨⟨a,rfl⟩,rfl⟩|⟨b,off,cap,cs,e',fr,rfl,p,hb,hc,o,l⟩
 .cases a with
  |none=>exact run_convert_bytes_nil w c e j k 0 0 d hd
  |some a=>
   rw [run_convert_bytes_string w c d e _ 0 0 j k hd];simp [Conv.bytesToString,loadCells,loadCellsFrom,strOf,S]
   try rfl
 .have hi:=l.ints;have m:=l.1;refine run_convert_bytes_arg w c e j k b off xs.length cap xs rfl (λi f=>?_) d hd;have g:(List.take (xs.length*(RI u8).n) (List.drop off cs.toList))[i]? =some (.int .u8 xs[i]):=by rw [hi];simp [f]
  rw [gj] at g;split at g
  .rw [et] at g;simp only [World.cell?,hb];simpa [List.getD,f] using g
  .cases g
theorem anu{M:Nat->Prop}{dst:v7}{ty:TypeId}{pos:String}{af:w4}{gd:Option (Nat×Bool)}{xs:xb}{b d:TypeId}(f:P.underlying b=some (.slice e))(j:P.underlying e=some (.int .u8))(hd:P.underlying d=some .string)
  (hx:ar E g x v) (h:g=true->bO (RI .u8) M w v xs):bf P E g ⟨dst,.convert b d x,ty,pos,af,gd⟩ w (S (strOf xs)):=
 λn a i c=>by simp [execOp,hx n a i c,amV f j hd (h c)]
end
section
variable {P : Program} {E : Env} {w : World} {g : Bool}
variable {dst : v7} {ty : TypeId} {pos : String} {af : w4} {gd : s3}
def ng(k:IntKind)(x y:Int):Int:=x/2^min y.toNat k.bits
def bW(k:IntKind)(x y:Int):Int:=k.wrap (x*2^min y.toNat k.bits)
theorem am0{b:IntKind}{l:Int}{t:TypeId}(hx:ar E g x (.int k m))(d:ar E g y (.int b l))(f:g=true->decide (0<=l)=true):
  bf P E g ⟨dst,.binOp .shr t x y t',ty,pos,af,gd⟩ w (.int k (ng k m l)):=λn a e c=>
 ct (P:=P) hx d (by rw [Sem.run_bind,dA rfl,Result.andThen_ok];show (Op.shift .shr k m b l).run P w=_;rw [shift_shr_any k b m l (p5 (f c))];rfl) n a e c
theorem am2{b:IntKind}{l:Int}{t:TypeId}(hx:ar E g x (.int k m))(d:ar E g y (.int b l))(f:g=true->decide (0<=l)=true):
  bf P E g ⟨dst,.binOp .shl t x y t',ty,pos,af,gd⟩ w (.int k (bW k m l)):=λn a e c=>
 ct (P:=P) hx d (by rw [Sem.run_bind,dA rfl,Result.andThen_ok];show (Op.shift .shl k m b l).run P w=_;rw [shift_shl_any k b m l (p5 (f c))];rfl) n a e c
def pW(k:IntKind)(x y:Int):Int:=k.wrap ((BitVec.ofInt k.bits x &&& BitVec.ofInt k.bits y).toNat:Nat)
def dP(k:IntKind)(x y:Int):Int:=k.wrap ((BitVec.ofInt k.bits x ||| BitVec.ofInt k.bits y).toNat:Nat)
def Wr(k:IntKind)(x y:Int):Int:=k.wrap ((BitVec.ofInt k.bits x ^^^ BitVec.ofInt k.bits y).toNat:Nat)
def bI(k:IntKind)(x y:Int):Int:=k.wrap ((BitVec.ofInt k.bits x &&& ~~~ BitVec.ofInt k.bits y).toNat:Nat)
theorem akn{l:Int}{t:TypeId}(hx:ar E g x (.int k m))(a:ar E g y (.int k l)):
  bf P E g ⟨dst,.binOp .and t x y t',ty,pos,af,gd⟩ w (.int k (pW k m l)):=C2 (.inl rfl) hx a (λ_=>rfl)
theorem anz{l:Int}{t:TypeId}(hx:ar E g x (.int k m))(a:ar E g y (.int k l)):
  bf P E g ⟨dst,.binOp .or t x y t',ty,pos,af,gd⟩ w (.int k (dP k m l)):=C2 (.inr (.inl rfl)) hx a (λ_=>rfl)
theorem aj9{l:Int}{t:TypeId}(hx:ar E g x (.int k m))(a:ar E g y (.int k l)):
  bf P E g ⟨dst,.binOp .xor t x y t',ty,pos,af,gd⟩ w (.int k (Wr k m l)):=C2 (.inr (.inr (.inl rfl))) hx a (λ_=>rfl)
theorem ady{l:Int}{t:TypeId}(hx:ar E g x (.int k m))(a:ar E g y (.int k l)):
  bf P E g ⟨dst,.binOp .andNot t x y t',ty,pos,af,gd⟩ w (.int k (bI k m l)):=C2 (.inr (.inr (.inr rfl))) hx a (λ_=>rfl)
def IJ(x y:aF):Bool:=Op.bytesLess x y
theorem am1{m l:aF}{t:TypeId}(hx:ar E g x (S m))(a:ar E g y (S l)):
  bf P E g ⟨dst,.binOp .lss t x y t',ty,pos,af,gd⟩ w (.bool (IJ m l)):=ct hx a (by simp [eqGuard,S,binOp,Op.stringOp,IJ])
theorem an3{m l:aF}{t:TypeId}(hx:ar E g x (S m))(a:ar E g y (S l)):
  bf P E g ⟨dst,.binOp .leq t x y t',ty,pos,af,gd⟩ w (.bool (IJ m l||m==l)):=ct hx a (by simp [eqGuard,S,binOp,Op.stringOp,IJ])
theorem amW{m l:aF}{t:TypeId}(hx:ar E g x (S m))(a:ar E g y (S l)):
  bf P E g ⟨dst,.binOp .gtr t x y t',ty,pos,af,gd⟩ w (.bool (!(IJ m l||m==l))):=ct hx a (by simp [eqGuard,S,binOp,Op.stringOp,IJ])
theorem am6{m l:aF}{t:TypeId}(hx:ar E g x (S m))(a:ar E g y (S l)):
  bf P E g ⟨dst,.binOp .geq t x y t',ty,pos,af,gd⟩ w (.bool (!(IJ m l))):=ct hx a (by simp [eqGuard,S,binOp,Op.stringOp,IJ])
def wq:Value->Bool
 | .slice none _ _=>true
 |_=>false
theorem adU{t:TypeId}{len:Nat}(c:P.underlying t=some (.slice e))(hx:ar E g x v)(d:Oh v len)(b:ar E g y (.slice none 0 0)):
  bf P E g ⟨dst,.binOp .eql t x y t',ty,pos,af,gd⟩ w (.bool (wq v)):=by
 obtain ⟨a,cap,rfl⟩:=d;exact ct hx b (by cases a <;> simp [eqGuard,binOp,run_equal_slice_nil w t e _ _ _ c,wq])
theorem adE{t:TypeId}{len:Nat}(c:P.underlying t=some (.slice e))(hx:ar E g x v)(d:Oh v len)(b:ar E g y (.slice none 0 0)):
  bf P E g ⟨dst,.binOp .neq t x y t',ty,pos,af,gd⟩ w (.bool (!wq v)):=by
 obtain ⟨a,cap,rfl⟩:=d;exact ct hx b (by cases a <;> simp [eqGuard,binOp,run_equal_slice_nil w t e _ _ _ c,wq])
end
def bL(l:aF):xb:=l.map λb=>(b.toNat:Int)
theorem JX{w:World}{M:Nat->Prop}:∀l:aF,cK (RI .u8) M w (l.map λb=>Value.int .u8 (b.toNat:Int)) (bL l)
 |[]=>cK.nil
 |b::l=>cK.cons (A:=RI .u8) (c:=[Value.int .u8 (b.toNat:Int)]) rfl (JX l)
section
variable {P : Program} {E : Env} {w : World} {dst : v7} {ty : TypeId} {pos : String} {af : w4}
theorem aka{l:aF}{g k:TypeId}(m:P.underlying g=some .string)(hd:P.underlying k=some (.slice e))(p:P.underlying e=some (.int .u8))(hx:ar E true x (S l)):
  ∃v' w',ky P E ⟨dst,.convert g k x,ty,pos,af,none⟩ w v' w'/\Ext w w'/\w.heap.size<w'.heap.size/\(∀M:Nat->Prop,¬M w.heap.size->bO (RI .u8) M w' v' (bL l)):=by
 have d:=run_bytes_of_string (P:=P) w g k e ⟨l.toArray⟩ m hd p;have c:(w.drew.alloc (.cells (bytesRow ⟨l.toArray⟩ (grownCap w l.length 0 e)) e ((bytesRow ⟨l.toArray⟩ (grownCap w l.length 0 e)).size,(bytesRow ⟨l.toArray⟩ (grownCap w l.length 0 e)).size+1))).heap[w.heap.size]? =some (.cells (bytesRow ⟨l.toArray⟩ (grownCap w l.length 0 e)) e ((bytesRow ⟨l.toArray⟩ (grownCap w l.length 0 e)).size,(bytesRow ⟨l.toArray⟩ (grownCap w l.length 0 e)).size+1)):=by show (w.heap.push _)[w.heap.size]? =_;simp
 have i:=dY w.drew (.cells (bytesRow ⟨l.toArray⟩ (grownCap w l.length 0 e)) e ((bytesRow ⟨l.toArray⟩ (grownCap w l.length 0 e)).size,(bytesRow ⟨l.toArray⟩ (grownCap w l.length 0 e)).size+1));have j:=(Array.getElem?_eq_some_iff.1 c).1;refine ⟨.slice (some ⟨w.heap.size,0,none⟩) l.length (grownCap w l.length 0 e),_,?_,⟨i.os,i.tape,i.output,i.size,i.block⟩,j,λM q=>?_⟩
 .intro n a o;rw [j9] at d;simp only [execOp,hx n a o rfl];simp [S,d]
 .have h:l.length<=grownCap w l.length 0 e:=grownCap_ge w l.length 0 e;have f:(bL l).length=l.length:=by simp [bL]
  refine .inr ⟨w.heap.size,0,grownCap w l.length 0 e,bytesRow ⟨l.toArray⟩ (grownCap w l.length 0 e),e,_,by rw [f],q,c,by rw [f];exact h,?_,?_⟩
  .simp [bytesRow,RI,j9];omega
  .have:((bytesRow ⟨l.toArray⟩ (grownCap w l.length 0 e)).toList.drop 0).take ((bL l).length*(RI .u8).n)=l.map λb=>Value.int .u8 (b.toNat:Int):=by simp [bytesRow,bL,RI]
   rw [this];exact JX l
end
section
variable {P : Program} {ρ : vA} {Q : br} {n : Nat} {D : tt} {E : Env} {w : World} {ops : wT} {rest : xa} {Γ : Ctx} {i : Nat}
variable {d : Tmp} {ty : TypeId} {pos : String} {af : w4}
theorem akp{t:TypeId}{size bytes:Nat}{z:Value}{zs:vf}(e:Sat Γ w)(a:TI P t size bytes z)(c:z.cells=zs.toArray)(f:Nat.blt d n=true)
  (h:∀b w',Sat (box b t zs::Γ) w'->WL P ρ ops Q n D rest ((d,true,.pointer (some ⟨b,0,none⟩))::E) w'):
  WL P ρ ops Q n D (⟨some d,.alloc t,ty,pos,af,none⟩::rest) E w:=
 uk (GL a c) rfl rfl rfl f (h _ _ (e.push (dY _ _) (λb hb=>by
  have:b=w.heap.size:=by simpa [box] using hb
  subst this;simp) (λ_ _=>heap_alloc_new w _)))
theorem aiC{u:Value}{t:TypeId}{bytes:Nat}{R:xc}{xs ys:List α}(r:Sat Γ w)(i:Nat)(hi:Γ[i]? =some (gf A e v xs R))
  (C:P.underlying t=some (.slice e)) (o:TI P e A.n bytes z) (k:z.cells.size=A.n) (f:Nat.blt 0 A.n=true) (hx:ar E true x v) (B:ar E true y u) (l:bO A Γ.M w u ys)
  (c:aH (xs.length+ys.length) bytes=true) (H:Nat.blt d n=true)
  (h:∀(p:fy) g w',Sat (Γ.set i (gf A e (sl p) (xs++ys) g)) w'->WL P ρ ops Q n D rest ((d,true,sl p)::E) w'):
  WL P ρ ops Q n D (⟨some d,.call ⟨.builtin .append,#[x,y],#[t,t]⟩,ty,pos,af,none⟩::rest) E w:=by
 obtain ⟨j,g,w',F,K,I,J⟩:=DI (P:=P) (E:=E) (w:=w) (dst:=some d) (ty:=ty) (pos:=pos) (af:=af) C o k (by simpa using f) hx B (r.own hi) l (λb hb=>Ctx.iy hi hb) c;have s:=r.mF hi (new:=gf A e j (xs++ys) g) K I (λM' m _=>J M' m);have hv:∃p,j=sl p:=by have q:i<Γ.length:=(List.getElem?_eq_some_iff.1 hi).1;have G:=s.own (i:=i) (A:=A) (e:=e) (v:=j) (xs:=xs++ys) (R:=g) (by rw [qt q]);obtain ⟨a,cap,hv⟩:=G.len;exact ⟨(a,_,cap),hv⟩
 obtain ⟨p,rfl⟩:=hv;exact uk F rfl rfl rfl H (h _ _ _ s)
def BU(l:aF)(pos:Nat):Int:=((Utf8.decode ⟨l.toArray⟩ pos).1:Nat)
def mS(l:aF)(pos:Nat):Nat:=pos+(Utf8.decode ⟨l.toArray⟩ pos).2
end
variable {i j : Nat} {oj : Oper}
def AL(Q:br)(c:tj)(D:tt)(w:World):Prop:= ∀a,a.defers=D->Q (.panic c) a w
def QN(Q:br):br:=λe a w=>match e with|.panic c=>AL Q c a.defers w|e=>Q e a w
theorem am4{Q:br}{c:tj}{D:tt}{w:World}(h:AL Q c D w):AL (Exit.inBlock i Q) c D w:=h
theorem AL.at{Q:br}{c:tj}{D:tt}{w:World}{n:Nat}{E:Env}(h:AL Q c D w):At Q (.panic c) n D E w:=λa _ hd=>h a hd
theorem gV(a:Act)(d:v7)(v:Value):(a.put d v).defers=a.defers:=by cases d <;> rfl
section
variable {P : Program} {ρ : vA} {ops : wT} {md : Region.Mode}
def YJ(P:Program)(ops:wT)(J:World->Prop)(o:Oper)(v:Value)(a:Act):Prop:=
 (Region.wanted o (yielded ops a.tmps)=true/\∀w,J w->(execOp a.eval o).run P w= .ok (.value v) w)\/
 (Region.wanted o (yielded ops a.tmps)=false/\v=undef)
theorem YJ.wpOp{J:World->Prop}{a:Act}{Q:br}(hi:ops[i]? =some o)(hp:ij o=true)(c:YJ P ops J o v a)
  {K:Act->World->Prop} {w:World} (d:J w) (h:K (a.put o.dst v) w):wpOpIn (FW ρ) 0 P ops Q i K a w:=by
 unfold Go.wpOpIn;simp only [hi];rcases c with ⟨b,hv⟩|⟨b,rfl⟩
 .simp only [b,qp];exact jT hp (by rw [hv w d];exact h)
 .simp only [b,mi,qA];exact ⟨λ_ _=>trivial,h⟩
theorem YJ.of_same{J:World->Prop}{a b:Act}(c:YJ P ops J o v a)(e:execOp b.eval o=execOp a.eval o)
  (d:Region.wanted o (yielded ops b.tmps)=Region.wanted o (yielded ops a.tmps)):YJ P ops J o v b:=by
 unfold YJ at*;rw [e,d];exact c
theorem ai6{J:World->Prop}{g:Oper}{Q:br}(E:ops[j]? =some oj)(q:ij oj=true)(z:g.apart ops oj=true)
  (y:∀cs b,g.op≠ .select cs b) (t:∀cs b,oj.op≠ .select cs b) (A:∀c a w,Q (.panic c) (a.put g.dst v) w->Q (.panic c) a w) {K:Act->World->Prop} {a:Act} {w:World}
  (i:YJ P ops J g v a) (h:wpOpIn (FW ρ) 0 P ops Q j K (a.put g.dst v) w):
  wpOpIn (FW ρ) 0 P ops Q j (λD w'=>YJ P ops J g v D/\K (D.put g.dst v) w') a w:=by
 obtain ⟨C,o,B⟩:=Oper.apart_spec z;have cJ:∀(a:Act),YJ P ops J g v a->∀u,YJ P ops J g v (a.put oj.dst u):=λa i u=>
  i.of_same (execOp_put g y a oj.dst u B) (wanted_put g a oj.dst u B)
 have m:∀d,YJ P ops J g v { a with defers:=d::a.defers }:=λd=>i.of_same rfl rfl;unfold wpOpIn at*;simp only [E] at*;rw [wanted_put oj a g.dst v C] at h;split
 .rename_i s;simp only [s,qp] at h;refine jT q ?_;have h:=h.2;rw [show (FW ρ).round=ρ from rfl,Hw q,execOp_put oj t a g.dst v C] at h;generalize (execOp a.eval oj).run P w=r at*;cases r with
  |ok n w'=>
   cases n <;> simp only [Oper.uponIn] at h ⊢
   case value u=>exact ⟨cJ a i u,by rw [<-Act.put_comm a v u o];exact h⟩
   case skip=>exact ⟨cJ a i _,by rw [<-Act.put_comm a v undef o];exact h⟩
   case defer d=>
    refine ⟨cJ _ (m d) _,?_⟩;rw [<-Act.put_comm _ v undef o,<-Act.put_defers];exact h
   case enter f args=>
    refine ⟨h.1,CallsIn.mono h.2 λe p k=>?_⟩;cases e with
    |returned u=>exact ⟨cJ a i u,by rw [<-Act.put_comm a v u o];exact k⟩
    |panicked c=>exact A _ _ _ k
    |outgrown=>exact k
   case row row args=>exact ⟨h.1,RowsIn.mono h.2 λu p k=>⟨cJ a i u,by rw [<-Act.put_comm a v u o];exact k⟩⟩
   case round l f tmps assign body=>
    refine ⟨h.1,RoundIn.mono h.2 λe p k=>?_⟩;cases e with
    |returned u=>exact ⟨cJ a i u,by rw [<-Act.put_comm a v u o];exact k⟩
    |panicked c=>exact A _ _ _ k
    |outgrown=>exact k
  |halt x w'=>
   cases x <;> simp only [Oper.uponIn] at h ⊢
   case panic u=>exact A _ _ _ h
 next s=>simp only [s] at h;exact ⟨λ_ _=>trivial,cJ a i _,by rw [<-Act.put_comm a v undef o];exact h.2⟩
def fw:List Edge->Nat
 |[]=>0
 |e::l=>bif Region.binds .any e then Nat.lor (Nat.shiftLeft 1 e.on) (fw l) else fw l
theorem lL:∀(l:List Edge) (i:Nat),(fw l).testBit i=l.any (λe=>Region.binds .any e&&e.on==i)
 |[],i=>by simp [fw]
 |e::l,i=>by
  simp only [fw,List.any_cons];cases h:Region.binds .any e
  .simp [lL l i]
  .have d:(Nat.lor (Nat.shiftLeft 1 e.on) (fw l)).testBit i=((1 <<< e.on) ||| fw l).testBit i:=rfl;rw [l5,d,Nat.testBit_or,lL l i,Nat.testBit_shiftLeft];simp only [qL];congr 1;by_cases hi:e.on=i
   .subst hi;simp
   .have c:(e.on==i)=false:=by simpa using hi
    rw [c];by_cases b:e.on<=i
    .obtain ⟨n,a⟩:∃n,i-e.on=n+1:=⟨i-e.on-1,by omega⟩;rw [a];simp [Nat.testBit_succ]
    .simp [b]
def E4:xa->Nat->Nat->Nat
 |[],_,m=>m
 |o::os,k,m=>bif (E4 os (k+1) m).testBit k then Nat.lor (fw o.after.toList) (E4 os (k+1) m) else E4 os (k+1) m
def waits(md:Region.Mode)(ops:wT)(k i:Nat):Bool:=match ops[k]? with
 |some o=>(o.after.any λe=>Region.binds md e&&e.on==i)||(match md with
  | .any=>(E4 ops.toList 0 (fw o.after.toList)).testBit i
  |_=>false)
 |none=>false
def um(ops:wT)(listed:w5):Prop:= ∀(l:Nat) (ol:Oper),ops[l]? =some ol->listed[l]? =some true->∀e∈ol.after.toList,Region.binds .any e=true->listed[e.on]? =some true
theorem RJ{a:w5}(hc:um ops a){m:Nat}(d:∀i,m.testBit i=true->a[i]? =some true):∀(os:xa) (k:Nat),(∀j,os[j]? =ops[k+j]?)->∀i,(E4 os k m).testBit i=true->a[i]? =some true
 |[],k,_,i,h=>d i h
 |o::os,k,ho,i,h=>by
  have ih:=RJ hc d os (k+1) (λj=>by have:=ho (j+1);rw [b9] at this;rw [this];congr 1;omega);unfold E4 at h;cases c:(E4 os (k+1) m).testBit k with
  |false=>rw [c] at h;exact ih i h
  |true=>
   rw [c] at h;have b:(Nat.lor (fw o.after.toList) (E4 os (k+1) m)).testBit i=true:=h;have e:(Nat.lor (fw o.after.toList) (E4 os (k+1) m)).testBit i=((fw o.after.toList).testBit i||(E4 os (k+1) m).testBit i):=Nat.testBit_or ..;rw [e,ck] at b;rcases b with b|b
   .rw [lL] at b;obtain ⟨e,f,hb⟩:=List.any_eq_true.1 b;simp only [ae,j0] at hb;have:=hc k o (by have:=ho 0;simpa using this.symm) (ih k c) e f hb.1;rwa [hb.2] at this
   .exact ih i b
abbrev ei:=List (Nat×(World->Prop))
def fS:ei->World->Prop
 |[],_=>True
 |p::l,w=>p.2 w/\fS l w
def still(md:Region.Mode)(ops:wT)(k:Nat)(l:ei):ei:=l.filter λp=> !waits md ops k p.1
theorem abK{w:World}:fS [] w:=trivial
theorem kH{f:Nat×(World->Prop)->Bool}{w:World}:∀{l:ei},fS l w->fS (l.filter f) w
 |[],_=>trivial
 |p::l,h=>by
  rw [qc];split
  .exact ⟨h.1,kH h.2⟩
  .exact kH h.2
def Dm(P:Program)(ρ:vA)(md:Region.Mode)(ops:wT)(Q:br):Nat->ei->w5->Act->World->Prop
 |0,pend,listed,a,w=>fS pend w/\Region.ready md ops listed=[]/\Q .normal a w
 |fuel+1,pend,listed,a,w=>fS pend w/\(Region.ready md ops listed=[]->Q .normal a w)/\
  ∀i∈Region.ready md ops listed,wpOpIn (FW ρ) 0 P ops Q i (Dm P ρ md ops Q fuel (still md ops i pend) (listed.setIfInBounds i true)) a w
theorem ab2{Q:br}(p:Nat×(World->Prop)):∀(c:Nat) (pend:ei) (b:w5) (a:Act) (w:World),Dm P ρ md ops Q c (p::pend) b a w->Dm P ρ md ops Q c pend b a w
 |0,_,_,_,_,h=>⟨h.1.2,h.2⟩
 |c+1,pend,b,a,w,h=>⟨h.1.2,h.2.1,λi hi=>wpOpIn_mono (λe w' d=>by
   unfold still at d;rw [qc] at d;split at d
   .exact ab2 p c _ _ _ _ d
   .exact d) (h.2.2 i hi)⟩
theorem aeE{Q:br}:∀(c:Nat) (pend:ei) (b:w5) (a:Act) (w:World),Dm P ρ md ops Q c pend b a w->wpAnyIn (FW ρ) 0 P md ops Q c b a w
 |0,_,_,_,_,h=>h.2
 |c+1,_,_,_,_,h=>⟨h.2.1,λi hi=>wpOpIn_mono (λf e d=>aeE c _ _ _ _ d) (h.2.2 i hi)⟩
theorem aeb{k:Nat}{a:w5}(g:ops[k]? =some o)(hc:um ops a)(d:∀e∈o.after,Region.binds .any e=true->a[e.on]? =some true)(hi:a[i]? ≠some true):waits .any ops k i=false:=by
 unfold waits;simp only [g];rw [ko];intro b;rw [ck] at b;rcases b with b|b
 .obtain ⟨e,c,hb⟩:=Array.any_eq_true'.1 b;simp only [ae,j0] at hb;have:=d e c hb.1;rw [hb.2] at this;exact hi this
 .refine hi (RJ hc (λj f=>?_) ops.toList 0 (λj=>by rw [ec,qh]) i b);rw [lL] at f;obtain ⟨e,c,hb⟩:=List.any_eq_true.1 f;simp only [ae,j0] at hb;have:=d e (by simpa using c) hb.1;rwa [hb.2] at this
theorem LH{a:w5}(h:j∈Region.ready .any ops a)(i:ops[j]? =some oj):∀e∈oj.after,Region.binds .any e=true->a[e.on]? =some true:=λe k hb=>by
 obtain ⟨_,l,d,f⟩:=mem_ready.1 h;rw [i] at d;cases d;have c:=f e k hb;rw [gx] at c;cases g:a[e.on]? with
 |none=>rw [g] at c;cases c
 |some b=>rw [g] at c;simp only [qq] at c;rw [c]
theorem Wx{a:w5}(h:i∈Region.ready .any ops a):a[i]? ≠some true:=λhc=>by have b:=(mem_ready.1 h).1;rw [gx,hc] at b;cases b
theorem lU{a:w5}(hc:um ops a)(h:j∈Region.ready .any ops a):um ops (a.setIfInBounds j true):=λl k d g e f hb=>by
 have cJ:∀i,a[i]? =some true->(a.setIfInBounds j true)[i]? =some true:=λi hi=>by
  by_cases c:j=i
  .subst c;rw [qM (Array.getElem?_eq_some_iff.1 hi).1]
  .rw [qj c];exact hi
 by_cases b:j=l
 .subst b;exact cJ _ (LH h d e (by simpa using f) hb)
 .rw [qj b] at g;exact cJ _ (hc l k d g e f hb)
theorem ajj{Q:br}{J:World->Prop}{z:Oper}(hi:ops[i]? =some z)(s:∀(j:Nat) (o:Oper) cs b,ops[j]? =some o->o.op≠ .select cs b)
  (V:∀c (a:Act) d v w,Q (.panic c) (a.put d v) w->Q (.panic c) a w) (x:∀(j:Nat) (o:Oper),ops[j]? =some o->ij o=true):
  ∀(l:Nat) (pend:ei) (g:w5) (a:Act) (w:World),
   (∀j oj,ops[j]? =some oj->j≠i->g.getD j true=false->(∀e∈oj.after,Region.binds .any e=true->e.on≠i)->z.apart ops oj=true)->
   um ops g->i∈Region.ready .any ops g->YJ P ops J z v a->
   Dm P ρ .any ops Q l ((i,J)::pend) (g.setIfInBounds i true) (a.put z.dst v) w->Dm P ρ .any ops Q (l+1) pend g a w:=by
 intro l
 induction l with
 |zero=>
  intro pend g a w _ _ t I H;refine ⟨H.1.2,λh=>(by rw [h] at t;cases t),λj A=>?_⟩;by_cases m:j=i
  .subst m;exact I.wpOp hi (x _ _ hi) H.1.1 ⟨kH H.1.2,H.2⟩
  .have:=ready_mono A m;rw [H.2.1] at this;cases this
 |succ l ih=>
  intro pend g a w q E t I H;refine ⟨H.1.2,λh=>(by rw [h] at t;cases t),λj A=>?_⟩;by_cases m:j=i
  .subst m;refine I.wpOp hi (x _ _ hi) H.1.1 ?_;have X:=ab2 _ _ _ _ _ _ H
   -- fewer promises
   have key:∀(l:Nat) (pend:ei) (f:Nat×(World->Prop)->Bool) (g:w5) (a:Act) (w:World),Dm P ρ .any ops Q l pend g a w->Dm P ρ .any ops Q l (pend.filter f) g a w:=by
    intro l
    induction l with
    |zero=>intro pend f g a w h;exact ⟨kH h.1,h.2⟩
    |succ l K=>
     intro pend f g a w h;refine ⟨kH h.1,h.2.1,λi hi=>wpOpIn_mono (λS w' G=>?_) (h.2.2 i hi)⟩;have:still .any ops i (pend.filter f)=(still .any ops i pend).filter f:=by unfold still;rw [qG,qG];congr 1;funext p;exact Bool.and_comm ..
     rw [this];exact K _ f _ _ _ G
   exact key _ _ _ _ _ _ X
  .have y:=H.2.2 j (ready_mono A m);obtain ⟨u,oj,n,F⟩:=mem_ready.1 A;have C:∀e∈oj.after,Region.binds .any e=true->e.on≠i:=λe U hb N=>by
    have y:=F e U hb;have R:=(mem_ready.1 t).1;rw [N] at y;rcases q9 i g.size with G|G
    .simp [G] at R y;rw [R] at y;cases y
    .simp [Array.getElem?_eq_none G] at y
   have W:=ai6 n (x _ _ n) (q j oj n m u C) (λcs b=>s i z cs b hi) (λcs b=>s j oj cs b n) (λc a w=>V c a _ _ w) I y;have r:∀k ok,ops[k]? =some ok->k≠i->(g.setIfInBounds j true).getD k true=false->
     (∀e∈ok.after,Region.binds .any e=true->e.on≠i)->z.apart ops ok=true:=λk ok T M B L=>by
    refine q k ok T M ?_ L;by_cases D:j=k
    .subst D;exact u
    .rw [getD_set_ne true D] at B;exact B
   refine wpOpIn_mono (λS w' O=>ih _ (g.setIfInBounds j true) S w' r (lU E A) (ready_mono t (Ne.symm m)) O.1 ?_) W;rw [Array.setIfInBounds_comm _ _ m];have e:still .any ops j ((i,J)::pend)=(i,J)::still .any ops j pend:=by unfold still;rw [qc,aeb n E (LH A n) (Wx t)];rfl
   rw [e] at O;exact O.2
inductive OT where
 |nil
 |q (k m:Nat) (r:OT)
 |l (k m:Nat) (r:OT)
 |l2 (m:Nat) (k₁:Nat) (r₁:OT) (k₂:Nat) (r₂:OT)
 /-- k changes the world and takes the floats fs; the floats fl (new blocks) may run here, ahead of it, in whatever order -/
 |f (k m:Nat) (fl fs:xc) (r:OT)
def It(a m:Nat):Bool:=Nat.beq (Nat.land a m) a
theorem vC{a m:Nat}:It a m=true↔ ∀i,a.testBit i=true->m.testBit i=true:=by
 unfold It;constructor
 .intro h i hi;have c:a &&& m=a:=ah h;have b:(a &&& m).testBit i=true:=by rw [c];exact hi
  rw [Nat.testBit_and] at b;simp only [ae] at b;exact b.2
 .intro h;have c:a &&& m=a:=by
   apply Nat.eq_of_testBit_eq;intro i;rw [Nat.testBit_and];cases hi:a.testBit i
   .rfl
   .rw [h i hi];rfl
  show Nat.beq (a &&& m) a=true;rw [c];simp
def CK:xc->Nat->Nat->xc->Bool
 |[],_,_,_=>true
 |a::as,j,m,ks=>(Nat.testBit m j|| !(It a m)||ks.any (Nat.beq j))&&CK as (j+1) m ks
theorem Sg:∀(l:xc) (b m:Nat) (ks:xc),CK l b m ks=true->∀j a,l[j]? =some a->m.testBit (b+j)=false->It a m=true->(b+j)∈ks
 |[],_,_,_,_,j,a,h,_,_=>by simp at h
 |a0::as,b,m,ks,hB,j,a,h,h1,h2=>by
  simp only [CK,ae,ck,c9,List.any_eq_true] at hB;cases j with
  |zero=>
   simp only [c5,b5] at h;subst h;rcases hB.1 with (c|c)|⟨x,hx,c⟩
   .rw [qg] at h1;rw [h1] at c;cases c
   .rw [h2] at c;cases c
   .have:=ah c;rw [qg,this];exact hx
  |succ j=>
   simp only [b9] at h;have:=Sg as (b+1) m ks hB.2 j a h (by rw [<-h1];congr 1;omega) h2;have e:b+1+j=b+(j+1):=by omega
   rwa [e] at this
def wA(masks:xc)(k m:Nat):Bool:=match masks[k]? with
 |some a=> !(Nat.testBit m k)&&It a m
 |none=>false
def bit(m k:Nat):Nat:=Nat.lor m (Nat.shiftLeft 1 k)
theorem Ai(m k i:Nat):(bit m k).testBit i=(m.testBit i||k==i):=by
 have d:(bit m k).testBit i=(m ||| (1 <<< k)).testBit i:=rfl;rw [d,Nat.testBit_or,Nat.testBit_shiftLeft];congr 1;by_cases hi:k=i
 .subst hi;simp
 .have c:(k==i)=false:=by simpa using hi
  rw [c];by_cases b:k<=i
  .obtain ⟨n,a⟩:∃n,i-k=n+1:=⟨i-k-1,by omega⟩;rw [a];simp [Nat.testBit_succ]
  .simp [b]
def da(f:Nat):xc->Bool
 |[]=>false
 |x::l=>Nat.beq x f||da f l
theorem db{f:Nat}:∀{l:xc},da f l=true↔f∈l
 |[]=>by simp [da]
 |x::l=>by
  simp only [da,ck,qv,db (l:=l)];constructor
  .rintro (h|h)
   .exact .inl (ah h).symm
   .exact .inr h
  .rintro (h|h)
   .exact .inl (by rw [h];simp)
   .exact .inr h
def gR(m:Nat):xc->Nat
 |[]=>m
 |f::l=>bit (gR m l) f
theorem dJ{m i:Nat}:∀{l:xc},(gR m l).testBit i=(m.testBit i||da i l)
 |[]=>by simp [gR,da]
 |f::l=>by
  have e:(f==i)=Nat.beq f i:=by rw [qP,j0];exact ⟨λh=>by rw [h];simp,ah⟩
  rw [gR,Ai,dJ (l:=l),da,e];cases m.testBit i <;> cases Nat.beq f i <;> cases da i l <;> rfl
def hasB(masks:xc)(k f:Nat):Bool:=match masks[k]? with
 |some a=>a.testBit f
 |none=>false
def ry(masks:xc):OT->xc->Nat->Bool
 | .nil,pf,m=>pf.isEmpty&&CK masks 0 m []
 | .q k m' r,pf,m=>Nat.beq m' m&&wA masks k m'&& !(da k pf)&&ry masks r pf (bit m' k)
 | .l k m' r,pf,m=>pf.isEmpty&&Nat.beq m' m&&wA masks k m'&&CK masks 0 m' [k]&&ry masks r [] (bit m' k)
 | .l2 m' k₁ r₁ k₂ r₂,pf,m=>pf.isEmpty&&Nat.beq m' m&&wA masks k₁ m'&&wA masks k₂ m'&&CK masks 0 m' [k₁,k₂]&&ry masks r₁ [] (bit m' k₁)&&ry masks r₂ [] (bit m' k₂)
 | .f k m' fl fs r,pf,m=>Nat.beq m' m&&pf.all (λf=>da f fl)&&fl.all (λf=>wA masks f m')&&fs.all (λf=>da f fl&&hasB masks k f)&& !(da k fl)&&wA masks k (gR m' fs)&&CK masks 0 (gR m' fl) [k]&&
  ry masks r (fl.filter λf=> !(da f fs)) (bit (gR m' fs) k)
def LM(n:Nat)(listed:w5)(m:Nat):Prop:=listed.size=n/\∀i,i<n->listed.getD i true=m.testBit i
theorem LM.set{n k m:Nat}{a:w5}(h:LM n a m):LM n (a.setIfInBounds k true) (bit m k):=by
 refine ⟨by simp [h.1],λi hi=>?_⟩;rw [Ai];by_cases e:k=i
 .subst e;simp [gx,h.1,hi]
 .have c:(k==i)=false:=by simpa using e
  have b:=h.2 i hi;rw [c,Bool.or_false,<-b];simp [gx,e]
theorem LM.getD{n m i:Nat}{a:w5}(h:LM n a m)(b:Bool)(hi:i<n):a.getD i b=m.testBit i:=by
 rw [<-h.2 i hi];have:i<a.size:=by rw [h.1];exact hi
 simp [Array.getD,this]
def Sv(ops:xa)(masks:xc):Bool:=match ops,masks with
 |[],[]=>true
 |o::ops,a::as=>Nat.beq (fw o.after.toList) a&&Sv ops as
 |_,_=>false
theorem Oe:∀(ops:xa) (masks:xc),Sv ops masks=true->masks=ops.map λo=>fw o.after.toList
 |[],[],_=>rfl
 |o::ops,a::as,h=>by
  simp only [Sv,ae] at h;rw [cp,<-ah h.1,<-Oe ops as h.2]
 |[],_::_,h=>by cases h
 |_::_,[],h=>by cases h
def acD(n:Nat)(ops:xa):Bool:=ops.all λo=>o.after.toList.all λe=> !Region.binds .any e||Nat.blt e.on n
section
variable {ops : wT} {masks : xc}
theorem Dj(r:masks=ops.toList.map λo=>fw o.after.toList)(s:acD ops.size ops.toList=true){b:w5}{m j:Nat}(q:LM ops.size b m):
  j∈Region.ready .any ops b↔ ∃a,masks[j]? =some a/\m.testBit j=false/\It a m=true:=by
 rw [mem_ready];have g:∀{o:Oper} {e:Edge},o∈ops.toList->e∈o.after->Region.binds .any e=true->e.on<ops.size:=λ{o e} n d hb=>by have p:=List.all_eq_true.1 s o n;have l:=List.all_eq_true.1 p e (by simpa using d);rw [hb] at l;simpa using l
 constructor
 .rintro ⟨p,oj,c,l⟩;have k:j<ops.size:=(Array.getElem?_eq_some_iff.1 c).1;refine ⟨fw oj.after.toList,by rw [r,l7];simp [c],by rw [<-q.2 j k];exact p,?_⟩;rw [vC];intro i hi;rw [lL,List.any_eq_true] at hi;obtain ⟨e,d,hb⟩:=hi;simp only [ae,j0] at hb;have h:e∈oj.after:=by simpa using d
  have f:oj∈ops.toList:=by simpa using Array.mem_of_getElem? c
  have:=l e h hb.1;rw [q.getD false (g f h hb.1),hb.2] at this;exact this
 .rintro ⟨a,ha,p,l⟩;rw [r,l7] at ha;cases n:ops.toList[j]? with
  |none=>rw [n] at ha;cases ha
  |some oj=>
   rw [n] at ha;simp only [hV,b5] at ha;have c:ops[j]? =some oj:=by simpa using n
   have k:j<ops.size:=(Array.getElem?_eq_some_iff.1 c).1;refine ⟨by rw [q.2 j k];exact p,oj,c,λe d hb=>?_⟩;have f:oj∈ops.toList:=mj n;rw [q.getD false (g f d hb)];rw [vC] at l;refine l _ ?_;rw [<-ha,lL,List.any_eq_true];exact ⟨e,by simpa using d,by simp [hb]⟩
end
def ME(t:Tmp)(o:Oper):Bool:=match o.dst with
 |some d=>Nat.beq d t
 |none=>false
def acA(t:Tmp)(j a:Nat):xa->xc->Nat->Bool
 |[],_,_=>true
 |o::l,ms,i=>(!(ME t o)||Nat.beq i j||Nat.testBit a i||(match ms with|m::_=>Nat.testBit m j|[]=>false))&&acA t j a l ms.tail (i+1)
def Kr(t:Tmp)(j:Nat):xa->Nat->Bool
 |[],_=>true
 |o::l,i=>(!(ME t o)||Nat.beq i j)&&Kr t j l (i+1)
def Mp(ops:wT)(all:xa)(mall:xc):xa->xc->Nat->Bool
 |[],_,_=>true
 |o::l,a::as,j=>(o.looksAt ops).all (λt=>acA t j a all mall 0)&&(match o.dst with|some d=>Kr d j all 0|none=>true)&&Mp ops all mall l as (j+1)
 |_::_,[],_=>false
theorem Kf{t:Tmp}{j a:Nat}:∀(l:xa) (c:xc) (d:Nat),acA t j a l c d=true->∀i o,l[i]? =some o->o.dst=some t->d+i≠j->a.testBit (d+i)=true\/∃m,c[i]? =some m/\m.testBit j=true
 |[],_,_,_,i,o,h,_,_=>by simp at h
 |o0::l,c,d,hB,i,o,h,hd,hne=>by
  simp only [acA,ae,ck,c9] at hB;cases i with
  |zero=>
   simp only [c5,b5] at h;subst h;rcases hB.1 with ((b|b)|b)|b
   .simp [ME,hd] at b
   .exact absurd (ah b) hne
   .exact .inl b
   .cases c with
    |nil=>cases b
    |cons m c=>exact .inr ⟨m,rfl,b⟩
  |succ i=>
   simp only [b9] at h;have e:d+1+i=d+(i+1):=by omega
   have:=Kf l c.tail (d+1) hB.2 i o h hd (by rw [e];exact hne);rw [e] at this;rcases this with b|⟨m,b,f⟩
   .exact .inl b
   .refine .inr ⟨m,?_,f⟩;cases c with
    |nil=>simp at b
    |cons g c=>simpa using b
theorem Om{t:Tmp}{j:Nat}:∀(l:xa) (a:Nat),Kr t j l a=true->∀i o,l[i]? =some o->o.dst=some t->a+i=j
 |[],_,_,i,o,h,_=>by simp at h
 |o0::l,a,hB,i,o,h,hd=>by
  simp only [Kr,ae,ck,c9] at hB;cases i with
  |zero=>
   simp only [c5,b5] at h;subst h;rcases hB.1 with b|b
   .simp [ME,hd] at b
   .exact ah b
  |succ i=>
   simp only [b9] at h;have:=Om l (a+1) hB.2 i o h hd;omega
theorem Ij{ops:wT}{all:xa}{b:xc}:∀(l:xa) (as:xc) (c:Nat),Mp ops all b l as c=true->∀j o a,l[j]? =some o->as[j]? =some a->
  (∀t∈o.looksAt ops,acA t (c+j) a all b 0=true)/\(∀d,o.dst=some d->Kr d (c+j) all 0=true)
 |[],_,_,_,j,o,a,h,_=>by simp at h
 |o0::l,[],_,h,_,_,_,_,_=>by cases h
 |o0::l,a0::as,c,hB,j,o,a,h,ha=>by
  simp only [Mp,ae,qB] at hB;cases j with
  |zero=>
   simp only [c5,b5] at h ha;subst h;subst ha;refine ⟨λt f=>hB.1.1 t f,λd hd=>?_⟩;have:=hB.1.2;rw [hd] at this;exact this
  |succ j=>
   simp only [b9] at h ha;have e:c+1+j=c+(j+1):=by omega
   have:=Ij l as (c+1) hB.2 j o a h ha;rwa [e] at this
theorem alz{ops:wT}{masks:xc}(p:masks=ops.toList.map λo=>fw o.after.toList)(q:Mp ops ops.toList masks ops.toList masks 0=true){i j:Nat}{a oj:Oper}(hi:ops[i]? =some a)(v:ops[j]? =some oj)(u:j≠i)
  (s:(fw oj.after.toList).testBit i=false) (r:(fw a.after.toList).testBit j=false):a.apart ops oj=true:=by
 have b:ops.toList[i]? =some a:=by simpa using hi
 have c:ops.toList[j]? =some oj:=by simpa using v
 have n:masks[i]? =some (fw a.after.toList):=by rw [p,l7,b];rfl
 have l:masks[j]? =some (fw oj.after.toList):=by rw [p,l7,c];rfl
 obtain ⟨k,t⟩:=Ij _ _ 0 q i a _ b n;obtain ⟨g,f⟩:=Ij _ _ 0 q j oj _ c l;simp only [ec] at k t g f;unfold Oper.apart;simp only [ae];constructor
 .cases hd:a.dst with
  |none=>rfl
  |some d=>
   simp only [ae,c9,bne_iff_ne];refine ⟨?_,?_⟩
   .rw [ko];intro hc;rcases Kf _ _ 0 (g d (by simpa using hc)) i a b hd (by omega) with h|⟨m,h,e⟩
    .rw [ec,s] at h;cases h
    .rw [n] at h;cases h;rw [r] at e;cases e
   .intro hc;have:=Om _ 0 (f d hc) i a b hd;omega
 .cases hd:oj.dst with
  |none=>rfl
  |some d=>
   simp only [c9];rw [ko];intro hc;rcases Kf _ _ 0 (k d (by simpa using hc)) j oj c hd (by omega) with h|⟨m,h,e⟩
   .rw [ec,r] at h;cases h
   .rw [l] at h;cases h;rw [s] at e;cases e
def abd(ops:wT)(masks:xc)(order:OT):Bool:=
 ops.toList.all ij&&Region.noSelect ops&&Sv ops.toList masks&&acD ops.size ops.toList&&Mp ops ops.toList masks ops.toList masks 0&&ry masks order [] 0
def wpE(P:Program)(ρ:vA)(ops:wT)(Q:br)(fl:xc)(pend:ei)(nx:xc->Act->World->Prop):Nat->xc->Act->World->Prop
 |0,ea,a,w=>nx ea a w
 |n+1,ea,a,w=>nx ea a w/\∀f∈fl,da f ea=false->wpOpIn (FW ρ) 0 P ops Q f (λa' w'=>fS pend w'/\wpE P ρ ops Q fl pend nx n (f::ea) a' w') a w
def gN(P:Program)(ρ:vA)(ops:wT)(Q:br):OT->xc->ei->Act->World->Prop
 | .nil,_,_,a,w=>Q .normal a w
 | .q k _ r,ea,pend,a,w=>match ops[k]? with
  |none=>False
  |some o=>∃v J,J w/\YJ P ops J o v a/\gN P ρ ops Q r ea ((k,J)::pend) (a.put o.dst v) w
 | .l k _ r,ea,pend,a,w=>match ops[k]? with
  |none=>False
  |some _=>wpOpIn (FW ρ) 0 P ops Q k (λa' w'=>fS (still .any ops k pend) w'/\gN P ρ ops Q r ea (still .any ops k pend) a' w') a w
 | .l2 _ k₁ r₁ k₂ r₂,ea,pend,a,w=>(match ops[k₁]? with
  |none=>False
  |some _=>wpOpIn (FW ρ) 0 P ops Q k₁ (λa' w'=>fS (still .any ops k₁ pend) w'/\gN P ρ ops Q r₁ ea (still .any ops k₁ pend) a' w') a w)/\
  (match ops[k₂]? with
  |none=>False
  |some _=>wpOpIn (FW ρ) 0 P ops Q k₂ (λa' w'=>fS (still .any ops k₂ pend) w'/\gN P ρ ops Q r₂ ea (still .any ops k₂ pend) a' w') a w)
 | .f k _ fl fs r,ea,pend,a,w=>wpE P ρ ops Q fl pend (λea a w=>(∀f∈fs,f∈ea)->wpOpIn (FW ρ) 0 P ops Q k (λa' w'=>fS (still .any ops k pend) w'/\gN P ρ ops Q r (ea.filter λf=> !(da f fs)) (still .any ops k pend) a' w') a w) fl.length ea a w
def uc:List Bool->Nat
 |[]=>0
 |true::l=>uc l
 |false::l=>uc l+1
theorem aab:∀{l:List Bool} {i:Nat},l[i]? =some false->uc (l.set i true)+1=uc l
 |[],i,h=>by simp at h
 |b::l,0,h=>by
  simp only [c5,b5] at h;subst h;rfl
 |b::l,i+1,h=>by simp only [b9] at h;have:=aab h;cases b <;> simp only [List.set_cons_succ,uc] <;> omega
theorem aao:∀{n:Nat},uc (List.replicate n false)=n
 |0=>rfl
 |n+1=>by rw [qf,uc,aao]
theorem SQ{Q:br}:∀(c:Nat) (pend:ei) (f:Nat×(World->Prop)->Bool) (b:w5) (a:Act) (w:World),Dm P ρ md ops Q c pend b a w->Dm P ρ md ops Q c (pend.filter f) b a w
 |0,_,_,_,_,_,h=>⟨kH h.1,h.2⟩
 |c+1,pend,f,b,a,w,h=>⟨kH h.1,h.2.1,λi hi=>wpOpIn_mono (λe w' d=>by
   have:still md ops i (pend.filter f)=(still md ops i pend).filter f:=by unfold still;rw [qG,qG];congr 1;funext p;exact Bool.and_comm ..
   rw [this];exact SQ c _ f _ _ _ d) (h.2.2 i hi)⟩
theorem filter_lt{α:Type}{p q:α->Bool}(a:∀x,q x=true->p x=true):∀{l:List α} {x:α},x∈l->p x=true->q x=false->(l.filter q).length<(l.filter p).length
 |y::l,x,hx,hp,hq=>by
  have c:∀l:List α,(l.filter q).length<=(l.filter p).length:=λl=>by
   induction l with
   |nil=>exact bb _
   |cons z l ih=>
    rw [qc,qc];cases b:q z
    .cases p z <;> simp <;> omega
    .rw [a z b];simp;omega
  rw [qc,qc];rcases List.mem_cons.1 hx with rfl|hx
  .rw [hp,hq];have:=c l;simp;omega
  .have ih:=filter_lt a hx hp hq;cases b:q y
   .cases p y <;> simp <;> omega
   .rw [a y b];simp;omega
theorem apG{Q:br}{masks:xc}(hm:masks=ops.toList.map λo=>fw o.after.toList)(he:acD ops.size ops.toList=true)(hD:Mp ops ops.toList masks ops.toList masks 0=true)
  (hs:Region.noSelect ops=true) (hQ:∀c (a:Act) d v w,Q (.panic c) (a.put d v) w->Q (.panic c) a w) (hpl:∀(j:Nat) (o:Oper),ops[j]? =some o->ij o=true):∀(C:OT) (n:Nat) (pf s:xc) (pend:ei) (g:w5) (m:Nat) (a:Act) (w:World),
  (∀f∈s,f∈pf)->LM ops.size g (gR m s)->uc g.toList=n->ry masks C pf m=true->fS pend w->um ops g->gN P ρ ops Q C s pend a w->Dm P ρ .any ops Q n pend g a w:=by
 have T:∀{k m:Nat} {s:xc} {g:w5},LM ops.size g (gR m s)->wA masks k m=true->k∉s->k∈Region.ready .any ops g:=λ{k m s g} u h M=>by
  rw [Dj hm he u];unfold wA at h;cases ha:masks[k]? with
  |none=>rw [ha] at h;cases h
  |some a=>
   rw [ha] at h;simp only [ae,c9] at h;refine ⟨a,rfl,?_,?_⟩
   .rw [dJ,h.1,qw,ko];exact λhc=>M (db.1 hc)
   .rw [vC] at h ⊢;intro i hi;rw [dJ,h.2 i hi,Bool.true_or]
 have only:∀{m:Nat} {ks fl s:xc} {g:w5},(∀f∈s,f∈fl)->LM ops.size g (gR m s)->CK masks 0 (gR m fl) ks=true->∀i∈Region.ready .any ops g,i∉s/\m.testBit i=false/\(i∈fl\/i∈ks):=λ{m ks fl s g} r u h i hi=>by
  obtain ⟨a,ha,A,O⟩:=(Dj hm he u).1 hi;rw [dJ,qx] at A;refine ⟨(λhc=>by rw [db.2 hc] at A;cases A.2),A.1,?_⟩;by_cases E:i∈fl
  .exact .inl E
  .refine .inr ?_;have:=Sg masks 0 (gR m fl) ks h i a ha (by rw [ec,dJ,A.1,qw,ko];exact λhc=>E (db.1 hc)) (by rw [vC] at O ⊢;intro j hj;have:=O j hj;rw [dJ,ck] at this;rw [dJ,ck];exact this.imp id λh=>db.2 (r j (db.1 h)))
   rwa [ec] at this
 have B:∀{i n:Nat} {g:w5},i∈Region.ready .any ops g->uc g.toList=n->∃n',n=n'+1/\uc (g.setIfInBounds i true).toList=n':=λ{i n g} hi D=>by
  have A:=(mem_ready.1 hi).1;have O:g.toList[i]? =some false:=by
   rw [gx] at A;rw [qh];cases hl:g[i]? with
   |none=>rw [hl] at A;cases A
   |some b=>rw [hl] at A;simp only [qq] at A;rw [A]
  have N:=aab O;refine ⟨uc (g.toList.set i true),by omega,?_⟩;rw [Array.toList_setIfInBounds]
 have X:∀{g:w5} {m U:Nat},LM ops.size g m->(∀i,m.testBit i=U.testBit i)->LM ops.size g U:=λh e=>⟨h.1,λi hi=>by rw [h.2 i hi,e]⟩;have L:∀{g:w5} {m k:Nat} {s:xc},LM ops.size g (gR m s)->LM ops.size (g.setIfInBounds k true) (gR (bit m k) s):=λ{g m k s} h=>X h.set λi=>by rw [Ai,dJ,dJ,Ai];cases m.testBit i <;> cases (k==i) <;> cases da i s <;> rfl
 intro C
 induction C with
 |nil=>
  intro n pf s pend g m a w r u D z H t h;simp only [ry,ae,List.isEmpty_iff] at z;obtain ⟨rfl,z⟩:=z;have h0:Region.ready .any ops g=[]:=by
   cases hr:Region.ready .any ops g with
   |nil=>rfl
   |cons x xs=>
    obtain ⟨_,_,A⟩:=only (fl:=[]) r u z x (by rw [hr];exact b0 ..);simp at A
  cases n with
  |zero=>exact ⟨H,h0,h⟩
  |succ n=>exact ⟨H,λ_=>h,λi hi=>by rw [h0] at hi;cases hi⟩
 |q k U rest ih=>
  intro n pf s pend g m a w r u D z H t h;simp only [ry,ae,c9] at z;obtain ⟨⟨⟨K,M⟩,hkp⟩,z⟩:=z;have:=ah K;subst this;simp only [gN] at h;split at h
  .exact h.elim
  .rename_i o Y;obtain ⟨v,J,hJw,hy,h⟩:=h;have G:=T u M (λhc=>by rw [db.2 (r k hc)] at hkp;cases hkp);obtain ⟨n',rfl,V⟩:=B G D;refine ajj Y (Region.noSelect_spec hs) hQ hpl n' pend g a w (λj oj hj hne hun hno=>?_) t G hy (ih _ _ _ _ _ _ _ _ r (L u) V z ⟨hJw,H⟩ (lU t G) h);refine alz hm hD Y hj hne ?_ ?_
   .rw [lL,ko];intro hc;obtain ⟨e,hin,hb⟩:=List.any_eq_true.1 hc;simp only [ae,j0] at hb;exact hno e (by simpa using hin) hb.1 hb.2
   .rw [lL,ko];intro hc;obtain ⟨e,hin,hb⟩:=List.any_eq_true.1 hc;simp only [ae,j0] at hb;obtain ⟨_,o',ho',y⟩:=mem_ready.1 G;rw [Y] at ho';cases ho';have N:=y e (by simpa using hin) hb.1;have hlt:j<ops.size:=(Array.getElem?_eq_some_iff.1 hj).1;rw [hb.2,u.getD false hlt,<-u.2 j hlt,hun] at N;cases N
 |l k U rest ih=>
  intro n pf s pend g m a w r u D z H t h;simp only [ry,ae,List.isEmpty_iff] at z;obtain ⟨⟨⟨⟨rfl,K⟩,M⟩,Y⟩,z⟩:=z;have:=ah K;subst this;simp only [gN] at h;have G:=T u M (λhc=>by cases r k hc);obtain ⟨n',rfl,V⟩:=B G D;split at h
  .exact h.elim
  .refine ⟨H,(λh0=>by rw [h0] at G;cases G),λi hi=>?_⟩;obtain ⟨_,_,A⟩:=only (fl:=[]) r u Y i hi;have:i=k:=by simpa using A
   subst this;exact wpOpIn_mono (λS w' I=>ih _ _ _ _ _ _ _ _ r (L u) V z I.1 (lU t hi) I.2) h
 |l2 U k₁ r₁ k₂ r₂ ih1 ih2=>
  intro n pf s pend g m a w r u D z H t h;simp only [ry,ae,List.isEmpty_iff] at z;obtain ⟨⟨⟨⟨⟨⟨rfl,K⟩,hk1⟩,hk2⟩,Y⟩,hB1⟩,hB2⟩:=z;have:=ah K;subst this;simp only [gN] at h;obtain ⟨A,O⟩:=h;have W:=T u hk1 (λhc=>by cases r k₁ hc);have hk2':=T u hk2 (λhc=>by cases r k₂ hc);obtain ⟨n',rfl,hn1⟩:=B W D;obtain ⟨n2,e2,Z⟩:=B hk2' D;have e3:n2=n':=by omega
  subst e3;refine ⟨H,(λh0=>by rw [h0] at W;cases W),λi hi=>?_⟩;obtain ⟨_,_,N⟩:=only (fl:=[]) r u Y i hi;have N:i=k₁\/i=k₂:=by simpa using N
  rcases N with rfl|rfl
  .split at A
   .exact A.elim
   .exact wpOpIn_mono (λS w' I=>ih1 _ _ _ _ _ _ _ _ r (L u) hn1 hB1 I.1 (lU t hi) I.2) A
  .split at O
   .exact O.elim
   .exact wpOpIn_mono (λS w' I=>ih2 _ _ _ _ _ _ _ _ r (L u) Z hB2 I.1 (lU t hi) I.2) O
 |f k U fl R rest ih=>
  intro n pf s pend g m a w r u D z H t h;simp only [ry,ae,qB,c9] at z;obtain ⟨⟨⟨⟨⟨⟨⟨K,hpf⟩,hfl⟩,hfs⟩,hkf⟩,M⟩,Y⟩,z⟩:=z;have:=ah K;subst this;simp only [gN] at h;have hsub':∀f∈s,f∈fl:=λf E=>db.1 (hpf f (r f E));have hkfl:k∉fl:=λhc=>by rw [db.2 hc] at hkf;cases hkf
  have flm:∀f∈fl,U.testBit f=false:=λf E=>by
   have:=hfl f E;unfold wA at this;split at this
   .simp only [ae,c9] at this;exact this.1
   .cases this
  have main:∀(nf n:Nat) (s:xc) (g:w5) (a:Act) (w:World),(∀f∈s,f∈fl)->(fl.filter λf=> !(da f s)).length<=nf->LM ops.size g (gR U s)->uc g.toList=n->fS pend w->um ops g->
    wpE P ρ ops Q fl pend (λs a w=>(∀f∈R,f∈s)->wpOpIn (FW ρ) 0 P ops Q k (λS w'=>fS (still .any ops k pend) w'/\gN P ρ ops Q rest (s.filter λf=> !(da f R)) (still .any ops k pend) S w') a w) nf s a w->Dm P ρ .any ops Q n pend g a w:=by
   have body:∀(n:Nat) (s:xc) (g:w5) (a:Act) (w:World),(∀f∈s,f∈fl)->LM ops.size g (gR U s)->uc g.toList=n->fS pend w->um ops g->
     ((∀f∈R,f∈s)->wpOpIn (FW ρ) 0 P ops Q k (λS w'=>fS (still .any ops k pend) w'/\gN P ρ ops Q rest (s.filter λf=> !(da f R)) (still .any ops k pend) S w') a w)->
     (∀i∈fl,i∉s->wpOpIn (FW ρ) 0 P ops Q i (λS w'=>∀n',LM ops.size (g.setIfInBounds i true) (gR U (i::s))->uc (g.setIfInBounds i true).toList=n'->um ops (g.setIfInBounds i true)->Dm P ρ .any ops Q n' pend (g.setIfInBounds i true) S w') a w)->Dm P ρ .any ops Q n pend g a w:=by
    intro n s g a w r u D H t hx E;have F:∃i,i∈Region.ready .any ops g:=by
     by_cases y:∀f∈R,f∈s
     .refine ⟨k,?_⟩;rw [Dj hm he u];unfold wA at M;cases ha:masks[k]? with
      |none=>rw [ha] at M;cases M
      |some x=>
       rw [ha] at M;simp only [ae,c9] at M;refine ⟨x,rfl,?_,?_⟩
       .have:=M.1;rw [dJ,qx] at this;rw [dJ,this.1,qw,ko];exact λhc=>hkfl (r k (db.1 hc))
       .have O:=M.2;rw [vC] at O ⊢;intro j hj;have:=O j hj;rw [dJ,ck] at this;rw [dJ,ck];exact this.imp id λh=>db.2 (y j (db.1 h))
     .obtain ⟨f,hff,hfe⟩:∃f,f∈R/\f∉s:=by apply qQ;intro hc;exact y λf E=>qQ λD=>hc ⟨f,E,D⟩
      exact ⟨f,T u (hfl f (db.1 (hfs f hff).1)) hfe⟩
    obtain ⟨i0,hi0⟩:=F;obtain ⟨n',rfl,_⟩:=B hi0 D;refine ⟨H,(λh0=>by rw [h0] at hi0;cases hi0),λi hi=>?_⟩;obtain ⟨n2,e2,Z⟩:=B hi D;have e3:n2=n':=by omega
    subst e3;obtain ⟨A,O,N⟩:=only r u Y i hi;rcases N with N|N
    .exact wpOpIn_mono (λS w' I=>SQ _ _ _ _ _ _ (I _ u.set Z (lU t hi))) (E i N A)
    .have:i=k:=by simpa using N
     subst this;have y:∀f∈R,f∈s:=λf hf'=>by obtain ⟨x,hx1,_,hx3⟩:=(Dj hm he u).1 hi;obtain ⟨q1,q2⟩:=hfs f hf';unfold hasB at q2;rw [hx1] at q2;have:=vC.1 hx3 f q2;rw [dJ,flm f (db.1 q1),qw] at this;exact db.1 this
     refine wpOpIn_mono (λS w' I=>ih _ _ _ _ _ _ _ _ (λf E=>?_) (X u.set λj=>?_) Z z I.1 (lU t hi) I.2) (hx y)
     .rw [List.mem_filter] at E ⊢;exact ⟨r f E.1,E.2⟩
     .rw [Ai,dJ,dJ,Ai,dJ];have e:da j s=(da j R||da j (s.filter λf=> !(da f R))):=by
       rw [qP,ck,db,db,db,List.mem_filter];constructor
       .intro h;by_cases hj:j∈R
        .exact .inl hj
        .refine .inr ⟨h,?_⟩;rw [c9,ko];exact λhc=>hj (db.1 hc)
       .rintro (h|h)
        .exact y j h
        .exact h.1
      rw [e];cases U.testBit j <;> cases (i==j) <;> cases da j R <;> cases da j (s.filter λf=> !(da f R)) <;> rfl
   intro nf
   induction nf with
   |zero=>
    intro n s g a w r hlen u D H t h;refine body n s g a w r u D H t h λi hi hie=>?_;have:i∈fl.filter λf=> !(da f s):=List.mem_filter.2 ⟨hi,by rw [c9,ko];exact λhc=>hie (db.1 hc)⟩
    rw [cf (Nat.le_zero.1 hlen)] at this;cases this
   |succ nf ihf=>
    intro n s g a w r hlen u D H t h;refine body n s g a w r u D H t h.1 λi hi hie=>?_;have hie':da i s=false:=by rw [ko];exact λhc=>hie (db.1 hc)
    refine wpOpIn_mono (λS w' I n' hL' V hcl'=>ihf n' (i::s) _ S w' (λf E=>?_) ?_ hL' V I.1 hcl' I.2) (h.2 i hi hie')
    .rcases List.mem_cons.1 E with rfl|E
     .exact hi
     .exact r f E
    .have:=filter_lt (p:=λf=> !(da f s)) (q:=λf=> !(da f (i::s))) (λx hx=>by simp only [da,Bool.not_or,ae] at hx;exact hx.2) hi (by rw [hie'];rfl) (by simp [da])
     omega
  exact main fl.length n s g a w hsub' (List.length_filter_le ..) u D H t h
theorem LS{j:Nat}:∀(b a:ei) (w:World),fS (b++a) w->fS (b++(j,λ_=>True)::a) w
 |[],_,_,h=>⟨trivial,h⟩
 |_::b,a,w,h=>⟨h.1,LS b a w h.2⟩
theorem aeB{Q:br}{fl:xc}{pend pend':ei}{d c:xc->Act->World->Prop}(hp:∀w,fS pend w->fS pend' w)(hx:∀b a w,d b a w->c b a w):∀(n:Nat) (b:xc) (a:Act) (w:World),wpE P ρ ops Q fl pend d n b a w->wpE P ρ ops Q fl pend' c n b a w
 |0,b,a,w,h=>hx b a w h
 |n+1,b,a,w,h=>⟨hx b a w h.1,λf i g=>wpOpIn_mono (λ_ w' e=>⟨hp w' e.1,aeB hp hx n _ _ _ e.2⟩) (h.2 f i g)⟩
theorem alp{Q:br}:∀(d:OT) (g:xc) (b l2:ei) (a:Act) (w:World),gN P ρ ops Q d g (b++l2) a w->gN P ρ ops Q d g (b++(j,λ_=>True)::l2) a w:=by
 have c:∀(k:Nat) (b l2:ei),still .any ops k (b++l2)=still .any ops k b++still .any ops k l2:=λk b l2=>List.filter_append ..;intro d;have i:∀(k:Nat) (r:OT) (g:xc) (b l2:ei) (a:Act) (w:World),(∀(g:xc) (b l2:ei) (a:Act) (w:World),gN P ρ ops Q r g (b++l2) a w->gN P ρ ops Q r g (b++(j,λ_=>True)::l2) a w)->
   wpOpIn (FW ρ) 0 P ops Q k (λx w'=>fS (still .any ops k (b++l2)) w'/\gN P ρ ops Q r g (still .any ops k (b++l2)) x w') a w->
   wpOpIn (FW ρ) 0 P ops Q k (λx w'=>fS (still .any ops k (b++(j,λ_=>True)::l2)) w'/\gN P ρ ops Q r g (still .any ops k (b++(j,λ_=>True)::l2)) x w') a w:=λk r g b l2 a w ih h=>by
  refine wpOpIn_mono (λx w' u=>?_) h;rw [c] at u;rw [c];have e:still .any ops k ((j,λ_=>True)::l2)=(j,λ_=>True)::still .any ops k l2\/still .any ops k ((j,λ_=>True)::l2)=still .any ops k l2:=by
   unfold still;rw [qc];split
   .exact .inl rfl
   .exact .inr rfl
  rcases e with e|e
  .rw [e];exact ⟨LS _ _ _ u.1,ih _ _ _ _ _ u.2⟩
  .rw [e];exact u
 induction d with
 |nil=>intro g b l2 a w h;exact h
 |q k m r ih=>
  intro g b l2 a w h;simp only [gN] at h ⊢;split at h
  .exact h.elim
  .obtain ⟨v,J,E,C,h⟩:=h;exact ⟨v,J,E,C,ih g ((k,J)::b) l2 _ _ h⟩
 |l k m r ih=>
  intro g b l2 a w h;simp only [gN] at h ⊢;split at h
  .exact h.elim
  .exact i k r g b l2 a w ih h
 |l2 m s o p n z y=>
  intro g b l2 a w h;simp only [gN] at h ⊢;obtain ⟨B,A⟩:=h;refine ⟨?_,?_⟩
  .split at B
   .exact B.elim
   .exact i s o g b l2 a w z B
  .split at A
   .exact A.elim
   .exact i p n g b l2 a w y A
 |f k m fl F r ih=>
  intro g b l2 a w h;simp only [gN] at h ⊢;exact aeB (λw D=>LS _ _ _ D) (λg a w hx t=>i k r _ b l2 a w ih (hx t)) _ _ _ _ h
theorem ajX{Q:br}(c:tj)(a:Act)(d:v7)(v:Value)(w:World)(h:QN Q (.panic c) (a.put d v) w):QN Q (.panic c) a w:=by unfold QN at*;rwa [gV] at h
end
def WD(P:Program)(ρ:vA)(ops:wT)(Q:br)(n:Nat)(D:tt)(order:OT)(pend:ei)(E:Env)(w:World):Prop:=
 ∀a,Fits n E a->a.defers=D->gN P ρ ops (QN Q) order [] pend a w
section
variable {P : Program} {ρ : vA} {Q : br} {n : Nat} {D : tt} {E : Env} {w : World}
theorem Rm{id:Nat}{ops:wT}{a:Act}(h:(Code.region id ops true).wpIn (FW ρ) 0 P (QN Q) a w):(Code.region id ops true).wpIn (FW ρ) 0 P Q a w:=
 wpIn_mono h λe a w b=>by cases e <;> first|exact b|exact b a rfl
theorem uQ{id:Nat}{l:xa}(masks:xc)(b:OT)(r:P.follows .mixedOrders=true)(q:abd l.toArray masks b=true)
  (h:∀w1,Ext w w1->WD P ρ l.toArray Q n D b [] E w1):WC P ρ (.region id l.toArray true) Q n D E w:=by
 simp only [abd,ae] at q;obtain ⟨⟨⟨⟨⟨f,c⟩,g⟩,k⟩,m⟩,e⟩:=q;intro a t hd;refine Rm (wpIn_region_any r ?_);have d:∀(j:Nat) (o:Oper),l.toArray[j]? =some o->ij o=true:=λj o s=>List.all_eq_true.1 f o (by simpa using Array.mem_of_getElem? s);have u:LM l.toArray.size (Array.replicate l.toArray.size false) (gR 0 []):=⟨by simp,λi hi=>by show _=Nat.testBit 0 i;simp at hi;simp [Array.getD,hi]⟩
 exact aeE _ _ _ _ _ (apG (Oe _ _ g) k m c ajX d b _ [] [] [] _ 0 a _ (λ_ h=>by cases h) u (by rw [Array.toList_replicate];exact aao) e trivial (λl v x p=>by rw [Array.getElem?_replicate] at p;split at p <;> cases p) (h { w with drawn:=w.drawn+1 } ⟨rfl,rfl,rfl,bb _,λ_ _=>rfl⟩ a t hd))
variable {ops : wT} {rest : OT} {pend : ei} {k mk : Nat}
theorem aiQ(h:At Q .normal n D E w):WD P ρ ops Q n D .nil pend E w:=λa b hd=>h a b hd
theorem apH{d:Tmp}(J:World->Prop)(j:J w)(e:∀w,J w->bf P E true o w v)(g:ops[k]? =some o)(i:o.guard=none)(hd:o.dst=some d)(f:Nat.blt d n=true)
  (h:WD P ρ ops Q n D rest ((k,J)::pend) ((d,true,v)::E) w):WD P ρ ops Q n D (.q k mk rest) pend E w:=λa c l=>by
 simp only [gN,g];refine ⟨v,J,j,.inl ⟨by simp [Region.wanted,i],λw' b=>e w' b n a c rfl⟩,?_⟩;rw [hd];exact h _ (c.put f) l
theorem gi{d:Tmp}(b:∀w,bf P E true o w v)(e:ops[k]? =some o)(f:o.guard=none)(hd:o.dst=some d)(c:Nat.blt d n=true)
  (h:WD P ρ ops Q n D rest pend ((d,true,v)::E) w):WD P ρ ops Q n D (.q k mk rest) pend E w:=
 apH (λ_=>True) trivial (λw _=>b w) e f hd c (λa g i=>alp rest [] [] pend a w (h a g i))
def QK(P:Program)(ρ:vA)(ops:wT)(Q:br)(_n:Nat)(_D:tt)(rest:OT)(pend:ei):br:=λe a w=>match e with
 | .normal=>fS pend w/\gN P ρ ops (QN Q) rest [] pend a w
 | .panic c=>AL Q c a.defers w
 |e=>Q e a w
theorem amt(c:fS pend w)(h:WD P ρ ops Q n D rest pend E w):At (QK P ρ ops Q n D rest pend) .normal n D E w:=λa b hd=>⟨c,h a b hd⟩
theorem afp{pend':ei}(d:ops[k]? =some o)(hp:still .any ops k pend=pend')(h:WL P ρ ops (QK P ρ ops Q n D rest pend') n D [o] E w):
  WD P ρ ops Q n D (.l k mk rest) pend E w:=λa e f=>by
 subst hp;simp only [gN,d];have b:=h a e f;unfold wpOpIn;simp only [d];simp only [wpListIn] at b;split
 .rename_i c;simp only [c,qp] at b;refine ⟨b.1,?_⟩;have b:=b.2;generalize (o.semAt (FW ρ).round a.eval).run P w=r at*;cases r with
  |ok n w'=>
   cases n <;> simp only [Oper.uponIn] at b ⊢ <;> exact b
  |halt x w'=>cases x <;> simp only [Oper.uponIn] at b ⊢ <;> exact b
 next c=>simp only [c] at b;exact b
end
def OT.ops:OT->xc
 | .nil=>[]
 | .q k _ r=>k::r.ops
 | .l k _ r=>k::r.ops
 | .l2 _ k₁ r₁ k₂ r₂=>k₁::k₂::(r₁.ops++r₂.ops)
 | .f k _ _ _ r=>k::r.ops
def OT.Ui:OT->xc
 | .nil=>[]
 | .q _ _ r=>r.Ui
 | .l _ _ r=>r.Ui
 | .l2 _ _ r₁ _ r₂=>r₁.Ui++r₂.Ui
 | .f _ _ fl _ r=>fl++r.Ui
def nD(ops:wT)(j f:Nat):Bool:=match ops[j]?, ops[f]? with
 |some oj,some f=>(match oj.dst with
  |none=>true
  |some d=>(f.looksAt ops).all (λt=> !(Nat.beq t d))&& !(ME d f))
 |_,_=>false
theorem afW{ops:wT}{f:Nat}(h:nD ops j f=true)(a:ops[j]? =some oj)(b:ops[f]? =some o):(∀d,oj.dst=some d->d∉o.looksAt ops)/\(∀d,oj.dst=some d->o.dst≠some d):=by
 unfold nD at h;rw [a,b] at h;simp only at h;constructor
 .intro d hd hc;rw [hd] at h;simp only [ae,qB] at h;have:=h.1 d hc;simp at this
 .intro d hd hc;rw [hd] at h;simp only [ae,c9,ME,hc] at h;simp at h
def DF(o:Oper)(b:Nat):Value:=match o.op with
 | .buildSlice _ len _=> .slice (some ⟨b,0,none⟩) len len
 |_=> .pointer (some ⟨b,0,none⟩)
abbrev pw:=Nat×Nat×TypeId×vf
def rC(P:Program)(ops:wT)(a:Act)(x:pw):Prop:= ∃(o:Oper) (d:Tmp) (w0:World),ops[x.1]? =some o/\o.dst=some d/\(∀cs b,o.op≠ .select cs b)/\x.2.1=w0.heap.size/\
 a.tmps.getD d undef=DF o x.2.1/\(execOp a.eval o).run P w0= .ok (.value (DF o x.2.1)) (w0.alloc (.cells x.2.2.2.toArray x.2.2.1))
section
variable {P : Program} {ρ : vA} {Q : br} {n : Nat} {D : tt} {E : Env} {w : World} {ops : wT}
theorem rC.put{a:Act}{x:pw}(h:rC P ops a x)(i:ops[j]? =some oj)(k:nD ops j x.1=true):rC P ops (a.put oj.dst v) x:=by
 obtain ⟨o,d,g,f,c,b,p,n,m⟩:=h;obtain ⟨r,q⟩:=afW k i f;refine ⟨o,d,g,f,c,b,p,?_,?_⟩
 .rw [<-n];have:=Act.eval_put (a:=a) (dst:=oj.dst) (v:=v) (x:= .tmp d) (λe l hc=>q e l (by cases hc;exact c));exact this
 .rw [execOp_put (ops:=ops) o b a oj.dst v r];exact m
theorem aiP{C:Act->Prop}(p:ops[j]? =some oj)(g:∀a v,C a->C (a.put oj.dst v))(m:∀(a:Act) d,C a->C { a with defers:=d::a.defers }){K:Act->World->Prop}{a:Act}
  (hc:C a) (h:wpOpIn (FW ρ) 0 P ops Q j K a w):wpOpIn (FW ρ) 0 P ops Q j (λo w'=>C o/\K o w') a w:=by
 unfold wpOpIn at*;simp only [p] at*;split
 .rename_i k;simp only [k,qp] at h;refine ⟨h.1,?_⟩;have h:=h.2;generalize (oj.semAt (FW ρ).round a.eval).run P w=r at*;cases r with
  |ok n w'=>
   cases n <;> simp only [Oper.uponIn] at h ⊢
   case value u=>exact ⟨g a u hc,h⟩
   case skip=>exact ⟨g a _ hc,h⟩
   case defer d=>exact ⟨g _ _ (m a d hc),h⟩
   case enter f args=>
    refine ⟨h.1,CallsIn.mono h.2 λe i b=>?_⟩;cases e with
    |returned u=>exact ⟨g a u hc,b⟩
    |panicked c=>exact b
    |outgrown=>exact b
   case row row args=>exact ⟨h.1,RowsIn.mono h.2 λu i b=>⟨g a u hc,b⟩⟩
   case round l f tmps assign body=>
    refine ⟨h.1,RoundIn.mono h.2 λe i b=>?_⟩;cases e with
    |returned u=>exact ⟨g a u hc,b⟩
    |panicked c=>exact b
    |outgrown=>exact b
  |halt x w'=>
   cases x <;> simp only [Oper.uponIn] at h ⊢
   case panic u=>exact h
 next k=>simp only [k] at h;exact ⟨h.1,g a _ hc,h.2⟩
def CQ(P:Program)(ρ:vA)(ops:wT)(Q:br)(n:Nat)(D:tt)(order:OT)(EV:List pw)(pend:ei)(E:Env)(w:World):Prop:=
 ∀a,Fits n E a->a.defers=D->(∀x∈EV,rC P ops a x)->gN P ρ ops (QN Q) order (EV.map (·.1)) pend a w
theorem CQ.wd{b:OT}{pend:ei}(h:CQ P ρ ops Q n D b [] pend E w):WD P ρ ops Q n D b pend E w:=λa c hd=>h a c hd λ_ hx=>by cases hx
theorem anB{EV:List pw}{pend:ei}(h:At Q .normal n D E w):CQ P ρ ops Q n D .nil EV pend E w:=λa b hd _=>h a b hd
theorem ao8{EV:List pw}{pend:ei}{mk e d:Nat}{c b:OT}(g:CQ P ρ ops Q n D (.l e mk c) EV pend E w)(f:CQ P ρ ops Q n D (.l d mk b) EV pend E w):CQ P ρ ops Q n D (.l2 mk e c d b) EV pend E w:=λa h i hc=>by have g:=g a h i hc;have f:=f a h i hc;simp only [gN] at g f ⊢;exact ⟨g,f⟩
def QKE(P:Program)(ρ:vA)(ops:wT)(Q:br)(rest:OT)(EV:List pw)(pend:ei):br:=λe a w=>match e with
 | .normal=>(∀x∈EV,rC P ops a x)->fS pend w/\gN P ρ ops (QN Q) rest (EV.map (·.1)) pend a w
 | .panic c=>AL Q c a.defers w
 |e=>Q e a w
theorem aoS{rest:OT}{EV:List pw}{pend:ei}(c:fS pend w)(h:CQ P ρ ops Q n D rest EV pend E w):At (QKE P ρ ops Q rest EV pend) .normal n D E w:=λa b hd hc=>⟨c,h a b hd hc⟩
theorem ZX{rest:OT}{EV:List pw}{pend:ei}{c:tj}(h:AL Q c D w):At (QKE P ρ ops Q rest EV pend) (.panic c) n D E w:=λa _ hd=>by subst hd;exact h
theorem aj2{rest:OT}{EV:List pw}{pend pend':ei}{k mk:Nat}(c:ops[k]? =some o)(j:∀x∈EV,nD ops k x.1=true)(hp:still .any ops k pend=pend')(h:WL P ρ ops (QKE P ρ ops Q rest EV pend') n D [o] E w):
  CQ P ρ ops Q n D (.l k mk rest) EV pend E w:=λa g i hc=>by
 subst hp;simp only [gN,c];have b:=h a g i;have m:wpOpIn (FW ρ) 0 P ops (QN Q) k (λf w'=>(∀x∈EV,rC P ops f x)->fS (still .any ops k pend) w'/\gN P ρ ops (QN Q) rest (EV.map (·.1)) (still .any ops k pend) f w') a w:=by
  unfold wpOpIn;simp only [c];simp only [wpListIn] at b;split
  .rename_i e;simp only [e,qp] at b;refine ⟨b.1,?_⟩;have b:=b.2;generalize (o.semAt (FW ρ).round a.eval).run P w=r at*;cases r with
   |ok n w'=>cases n <;> simp only [Oper.uponIn] at b ⊢ <;> exact b
   |halt x w'=>cases x <;> simp only [Oper.uponIn] at b ⊢ <;> exact b
  next e=>simp only [e] at b;exact b
 exact wpOpIn_mono (λf w' h=>h.2 h.1) (aiP (C:=λa=>∀x∈EV,rC P ops a x) c (λa v hc x hx=>(hc x hx).put c (j x hx)) (λa d hc x hx=>hc x hx) hc m)
end
section
variable {α : Type} {A : dB α} {M : Nat -> Prop} {w : World} {v : Value} {xs : List α} {i : Int} {x : α} {e : TypeId} {R : xc} {cs : vf}
end
theorem bO.aqi{α:Type}{A:dB α}{M:Nat->Prop}{w:World}{g:Bool}{v:Value}{xs:List α}{i j:Int}(h:g=true->bO A M w v xs)(hc:g=true->dn i j xs.length=true):
  ∃p:fy,(g=true->Pn v i j A.n (sl p))/\(g=true->bO A M w (sl p) (bB xs i j)):=by
 cases g
 .exact ⟨(none,0,0),(λh=>by cases h),(λh=>by cases h)⟩
 .obtain ⟨c,b,a⟩:=bO.cut (h rfl) (hc rfl);obtain ⟨p,rfl⟩:=a.lj;exact ⟨p,λ_=>b,λ_=>a⟩
theorem bO.apy{α:Type}{A:dB α}{M:Nat->Prop}{w:World}{g:Bool}{v:Value}{xs:List α}{i j k:Int}(h:g=true->bO A M w v xs)(hc:g=true->jC i j k xs.length=true):
  ∃p:fy,(g=true->Mq v i j k A.n (sl p))/\(g=true->bO A M w (sl p) (bB xs i j)):=by
 cases g
 .exact ⟨(none,0,0),(λh=>by cases h),(λh=>by cases h)⟩
 .obtain ⟨c,b,a⟩:=bO.apZ (h rfl) (hc rfl);obtain ⟨p,rfl⟩:=a.lj;exact ⟨p,λ_=>b,λ_=>a⟩
section
variable {P : Program} {ρ : vA} {Q : br} {n : Nat} {D : tt} {E : Env} {w : World} {ops : wT} {rest : xa} {Γ : Ctx} {g : Bool}
variable {dst : v7} {d : Tmp} {ty : TypeId} {pos : String} {af : w4} {gd : s3}
def fH:TypeDesc->Bool
 | .interface _=>true
 |_=>false
theorem adL{x:Operand}{v:Value}{t:TypeId}{dd:TypeDesc}(b:P.underlying t=some dd)(hd:fH dd=false)(hx:ar E g x v):bf P E g ⟨dst,.makeInterface t x,ty,pos,af,gd⟩ w (.iface t v):=
 λn a d c=>by simp only [execOp,hx n a d c,Instr.makeInterface,Sem.run_bind,run_underlying b,Result.andThen_ok];cases dd <;> first|rfl|(simp [fH] at hd)
theorem adH{x:Operand}{v:Value}{s t:TypeId}{dd:TypeDesc}(b:P.underlying t=some dd)(hd:fH dd=false)(hx:ar E g x (.iface t v)):bf P E g ⟨dst,.typeAssert x s t false,ty,pos,af,gd⟩ w v:=
 λn a d c=>by simp only [execOp,hx n a d c,Instr.typeAssert,Sem.run_bind,run_underlying b,Result.andThen_ok];cases dd <;> first|(dsimp only;rw [j5 rfl];rfl)|(simp [fH] at hd)
end
def gl(b:Nat)(vs:vf):Item where
 own:=[]
 P M w:= ¬M b/\∃t fr,w.heap[b]? =some (.cells vs.toArray t fr)
 lt _ b hb:=by cases hb
 cJ {M M' w w'} h m _ _:=by obtain ⟨h1,t,fr,hb⟩:=h;obtain ⟨h2,h3⟩:=m.2 _ (Array.getElem?_eq_some_iff.1 hb).1 h1;exact ⟨h2,t,fr,h3.trans hb⟩
 cE:=true
 hp _:=rfl
section
variable {Γ : Ctx} {w : World} {α : Type} {A : dB α} {i : Nat}
theorem Sat.gl0(h:Sat Γ w){b:Nat}{vs:vf}(hi:Γ[i]? =some (gl b vs)):¬ Γ.M b/\∃t fr,w.heap[b]? =some (.cells vs.toArray t fr):=h.at_ hi
theorem Sat.gl(h:Sat Γ w){b:Nat}{vs:vf}(hi:Γ[i]? =some (gl b vs)):¬ Γ.M b/\bK w ⟨b,0,none⟩ vs:=by obtain ⟨c,t,fr,hb⟩:=h.gl0 hi;exact ⟨c,rfl,_,t,fr,hb,λj u a=>by simpa using a⟩
theorem apJ{M:Nat->Prop}{xs:List α}(d:¬M b)(h:bK w ⟨b,0,none⟩ vs)(a:cK A M w vs xs):bO A M w (sl (some ⟨b,0,none⟩,xs.length,xs.length)) xs:=by
 obtain ⟨_,cs,t,fr,hb,hc⟩:=h;have i:=a.1;have c:vs.length<=cs.size:=by
  rcases Nat.eq_zero_or_pos vs.length with g|g
  .omega
  .have:=hc (vs.length-1) _ (b7 (by omega));have:=(Array.getElem?_eq_some_iff.1 this).1;omega
 refine .inr ⟨b,0,xs.length,cs,t,fr,rfl,d,hb,bb _,by omega,?_⟩;have e:(cs.toList.drop 0).take (xs.length*A.n)=vs:=by
  apply List.ext_getElem
  .simp;omega
  .intro j k f;have:=hc j _ (b7 f);simp only [l9,qY,Array.getElem_toList];rw [ec] at this;exact (Array.getElem?_eq_some_iff.1 this).2
 rw [e];exact a
theorem amP{β:Type}{xs:List β}{j:Int}{x:β}{n:Nat}(hx:idx xs j=some x)(b:xs.length=n):yt j n=true:=by obtain ⟨a,hi,_⟩:=Bp hx;exact v8.2 ⟨a,by omega⟩
theorem Qh{M:Nat->Prop}:∀l:List aF,cK RS M w (l.map S) l
 |[]=>cK.nil
 |x::l=>cK.cons (A:=RS) (c:=[S x]) rfl (Qh l)
theorem XY{M:Nat->Prop}{k:IntKind}:∀l:xb,cK (RI k) M w (l.map (Value.int k)) l
 |[]=>cK.nil
 |x::l=>cK.cons (A:=RI k) (c:=[Value.int k x]) rfl (XY l)
end
section
variable {P : Program} {ρ : vA} {Q : br} {n : Nat} {D : tt} {E : Env} {w : World} {ops : wT} {rest : xa} {Γ : Ctx} {g : Bool}
variable {dst : v7} {d : Tmp} {ty : TypeId} {pos : String} {af : w4} {gd : s3}
theorem yD{i:Int}{m len bytes:Nat}{t:TypeId}(j:P.underlying t=some (.array len e))(b:TI P e m bytes z)(hx:ar E g x (.pointer (some p)))(h:ar E g y (.int k i))
  (hi:g=true->yt i len=true):bf P E g ⟨dst,.indexAddr t x y,ty,pos,af,gd⟩ w (.pointer (some (p.add (i.toNat*m)))):=
 λn' a f d=>by obtain ⟨q,c,l,_,_⟩:=b.out;obtain ⟨o,n⟩:=v8.1 (hi d);simp [execOp,hx n' a f d,h n' a f d,Instr.indexAt,asIntOf,run_underlying j,Instr.sureAddr,o,n,sizeOf,typeInfo,c,l]
theorem SY{len:Nat}{m bytes:Nat}{t:TypeId}(f:P.underlying t=some (.array len e))(c:TI P e m bytes z)(b:Nat.blt 0 len=true)(hx:ar E g x (.pointer (some p))):
  bf P E g ⟨dst,.slice t x none none none,ty,pos,af,gd⟩ w (.slice (some p) len len):=
 λn' a i h=>by
  obtain ⟨j,d,k,_,_⟩:=c.out;have l:0<len:=by simpa using b
  simp [execOp,hx n' a i h,Instr.sliceAt,run_underlying f,Instr.sureAddr,Instr.sliceBounds,sizeOf,typeInfo,d,Addr.add]
theorem ad6{α:Type}{A:dB α}{M:Nat->Prop}{p:fy}{xs:List α}(h:bO A M w (sl p) xs):(p=(none,0,0)/\xs=[])\/wq (sl p)=false:=by
 rcases h with ⟨⟨a0,h⟩,rfl⟩|⟨b,off,cap,cs,e,fr,h,_⟩
 .cases a0 with
  |none=>
   obtain ⟨a,l,c⟩:=p;simp only [sl,Value.slice.injEq] at h;exact .inl ⟨by rw [h.1,h.2.1,h.2.2],rfl⟩
  |some a0=>rw [h];exact .inr rfl
 .rw [h];exact .inr rfl
theorem ael{α:Type}{A:dB α}{M:Nat->Prop}{p:fy}{xs:List α}{R:xc}(h:bJ A e M w (sl p) xs R):(wq (sl p)=true/\xs=[])\/wq (sl p)=false:=by
 cases b:wq (sl p)
 .exact .inr rfl
 .refine .inl ⟨rfl,?_⟩;obtain ⟨a,l,c⟩:=p;rcases h with ⟨_,cells,⟨_,h⟩,_⟩|⟨_,h,_⟩
  .rcases h with ⟨_,d⟩|⟨g,off,cap,cur,hv,_⟩
   .exact cf d
   .rw [hv] at b;cases b
  .exact h
end
section
variable {P : Program} {ρ : vA} {Q : br} {n : Nat} {D : tt} {E : Env} {w : World} {ops : wT} {rest : xa} {Γ : Ctx} {g : Bool}
variable {d : Tmp} {ty : TypeId} {pos : String} {af : w4}
end
variable {kt : TypeId}
structure se(P:Program)(kt:TypeId){κ:Type}[BEq κ](ke:κ->Value):Prop where
 ut:∃d,P.underlying kt=some d/\((∀a b,Instr.sameNow d (ke a) (ke b)=some (a==b))\/((∀a b,Instr.sameNow d (ke a) (ke b)=none)/\∀a b (w:World),(Op.equal kt (ke a) (ke b)).run P w= .ok (a==b) w))
 bits:∀a b,(a==b)=true->a=b/\Instr.sameBits 10000 (ke b) (ke a)=true
 check:∀(em:Bool) (a:κ) (w:World),(Instr.checkKey em 10000 kt (ke a)).run P w= .ok () w
theorem se.int{P:Program}(h:P.underlying kt=some (.int k)):se P kt (Value.int k) where
 ut:=⟨_,h,.inl λa b=>by simp [Instr.sameNow]⟩
 bits a b h:=by
  have:a=b:=by simpa using h
  subst this;exact ⟨rfl,by simp [Instr.sameBits]⟩
 check em a w:=by show (Instr.checkKey em (9999+1) kt _).run P w=_;unfold Instr.checkKey;simp [run_underlying h]
theorem amB(a b:aF):((⟨a.toArray⟩:ByteArray)==(⟨b.toArray⟩:ByteArray))=(a==b):=by
 rw [qP,MapKept.bytes_beq,j0];constructor
 .intro h;have:=congrArg ByteArray.toList h;rwa [Ix,Ix] at this
 .intro h;rw [h]
theorem se.str{P:Program}(h:P.underlying kt=some .string):se P kt S where
 ut:=⟨_,h,.inl λa b=>by simp only [Instr.sameNow,S,amB]⟩
 bits a b h:=by
  have:a=b:=by simpa using h
  subst this;exact ⟨rfl,by simp only [Instr.sameBits,S,amB,h]⟩
 check em a w:=by show (Instr.checkKey em (9999+1) kt _).run P w=_;unfold Instr.checkKey;simp [run_underlying h,S]
def Ss(k1 k2:IntKind)(p:Int×Int):Value:= .agg #[.int k1 p.1,.int k2 p.2]
theorem Dx{P:Program}{w:World}{t:TypeId}{cs:vc}{off:Nat}(h:P.underlying t=some (.int k))(hv:cs[off]? =some v):(part t cs off).run P w= .ok v w:=by unfold part;rw [Sem.run_bind,xt h];simp [jb,hv]
theorem se.pair{P:Program}{f e:Field}{d c:IntKind}(h:P.underlying kt=some (.struct #[f,e]))(m:f.name≠ "_") (l:e.name≠ "_") (k:f.offset=0) (j:e.offset=1)
  (t1:P.underlying f.type=some (.int d)) (t2:P.underlying e.type=some (.int c)) (n:P.stoodInHeld kt=false):se P kt (Ss d c) where
 ut:=⟨_,h,.inr ⟨λa b=>rfl,λa b w=>by
  have i:∀x:Int×Int,(part f.type #[.int d x.1,.int c x.2] 0).run P w= .ok (.int d x.1) w:=λx=>Dx t1 rfl;have g:∀x:Int×Int,(part e.type #[.int d x.1,.int c x.2] 1).run P w= .ok (.int c x.2) w:=λx=>Dx t2 rfl;have r:(Op.equalIn 9999 f.type (.int d a.1) (.int d b.1)).run P w= .ok (a.1==b.1) w:=by show (Op.equalIn (9998+1) _ _ _).run P w=_;unfold Op.equalIn;simp [run_underlying t1]
  have q:(Op.equalIn 9999 e.type (.int c a.2) (.int c b.2)).run P w= .ok (a.2==b.2) w:=by show (Op.equalIn (9998+1) _ _ _).run P w=_;unfold Op.equalIn;simp [run_underlying t2]
  show (Op.equalIn (9999+1) kt _ _).run P w=_;unfold Op.equalIn;have ee:(a==b)=(a.1==b.1&&a.2==b.2):=rfl;simp only [run_underlying h,Sem.run_bind,Result.andThen_ok,Ss,run_program,n];rw [ee];cases p:(a.1==b.1) <;> cases o:(a.2==b.2) <;> simp [m,l,k,j,i,g,r,q,p,o]⟩⟩
 bits a b h:=by
  have:a=b:=by obtain ⟨y,v⟩:=a;obtain ⟨u,t⟩:=b;have:(y==u&&v==t)=true:=h;simp only [ae,j0] at this;rw [this.1,this.2]
  subst this;refine ⟨rfl,?_⟩;show Instr.sameBits (9999+1) _ _=true;simp [Instr.sameBits,Ss]
 check em a w:=by
  have c1:(Instr.checkKey em 9999 f.type (.int d a.1)).run P w= .ok () w:=by show (Instr.checkKey em (9998+1) _ _).run P w=_;unfold Instr.checkKey;simp [run_underlying t1]
  have s:(Instr.checkKey em 9999 e.type (.int c a.2)).run P w= .ok () w:=by show (Instr.checkKey em (9998+1) _ _).run P w=_;unfold Instr.checkKey;simp [run_underlying t2]
  have i:(part f.type #[.int d a.1,.int c a.2] 0).run P w= .ok (.int d a.1) w:=Dx t1 rfl;have g:(part e.type #[.int d a.1,.int c a.2] 1).run P w= .ok (.int c a.2) w:=Dx t2 rfl;show (Instr.checkKey em (9999+1) kt _).run P w=_;unfold Instr.checkKey;simp [run_underlying h,Ss,m,l,k,j,i,g,c1,s]
def pz{κ ν:Type}[BEq κ](l:List (κ×ν))(k:κ):Option ν:=match l with
 |[]=>none
 |p::l=>bif k==p.1 then some p.2 else pz l k
def lu{κ ν:Type}[BEq κ](l:List (κ×ν))(k:κ)(v:ν):List (κ×ν):=match l with
 |[]=>[(k,v)]
 |p::l=>bif k==p.1 then (k,v)::l else p::lu l k v
section
variable {κ ν : Type} [BEq κ] {ke : κ -> Value} {vi : ν -> Value}
def vh(ke:κ->Value)(vi:ν->Value)(es:List MapEntry)(l:List (κ×ν)):Prop:=es.map (λe=>(e.key,e.val))=l.map λp=>(ke p.1,vi p.2)
def nc(ke:κ->Value)(vi:ν->Value)(w:World)(v:Value)(d:Option (List (κ×ν))):Prop:=
 (v= .map none/\d=none)\/∃b es clock l,v= .map (some b)/\d=some l/\w.heap[b]? =some (.map es clock)/\vh ke vi es.toList l
def HD:Value->xc
 | .map (some b)=>[b]
 |_=>[]
omit [BEq κ] in
theorem nc.nil{w:World}:nc ke vi w (.map none) none:= .inl ⟨rfl,rfl⟩
omit [BEq κ] in
theorem nc.lt{w:World}{d:Option (List (κ×ν))}(h:nc ke vi w v d):∀b∈HD v,b<w.heap.size:=λb hb=>by
 rcases h with ⟨rfl,_⟩|⟨f,e,a,l,rfl,_,c,_⟩
 .cases hb
 .simp [HD] at hb;subst hb;exact (Array.getElem?_eq_some_iff.1 c).1
omit [BEq κ] in
theorem nc.cJ{w w':World}{d:Option (List (κ×ν))}(h:nc ke vi w v d)(k:∀b∈HD v,w'.heap[b]? =w.heap[b]?):nc ke vi w' v d:=by
 rcases h with h|⟨b,f,a,l,rfl,hd,e,c⟩
 .exact .inl h
 .exact .inr ⟨b,f,a,l,rfl,hd,by rw [k b (by simp [HD])];exact e,c⟩
theorem O3{d:TypeDesc}(m:∀a b:κ,Instr.sameNow d (ke a) (ke b)=some (a==b))(k:κ):∀(g:List MapEntry) (l:List (κ×ν)) (i:Nat),vh ke vi g l->
  (pz l k=none/\(l.any λp=>k==p.1)=false/\Instr.findNow d (ke k) g i=some none)\/
  ∃j v,pz l k=some v/\Instr.findNow d (ke k) g i=some (some (i+j,vi v))/\j<g.length/\(∃p,l[j]? =some p/\(k==p.1)=true/\∀q,lu l k q=l.set j (k,q))
 |[],[],i,_=> .inl ⟨rfl,rfl,rfl⟩
 |[],_::_,_,h=>by simp [vh] at h
 |_::_,[],_,h=>by simp [vh] at h
 |e::g,p::l,i,h=>by
  simp only [vh,cp,pa,n5] at h;obtain ⟨⟨r,w⟩,t⟩:=h;cases f:(k==p.1)
  .rcases O3 m k g l (i+1) t with ⟨a,b,c⟩|⟨j,v,a,b,c,q,s,o,n⟩
   .exact .inl ⟨by simp [pz,f,a],by simp [f,b],by simp [Instr.findNow,r,m,f,c]⟩
   .refine .inr ⟨j+1,v,by simp [pz,f,a],?_,by simpa using c,q,by simpa using s,o,λu=>by simp [lu,f,n]⟩;simp only [Instr.findNow,r,m,f,b];congr 3;omega
  .exact .inr ⟨0,p.2,by simp [pz,f],by simp [Instr.findNow,r,m,f,w],by simp,p,by simp,f,λu=>by simp [lu,f]⟩
theorem Oy{P:Program}{w:World}{kt:TypeId}(g:∀a b:κ,(Op.equal kt (ke a) (ke b)).run P w= .ok (a==b) w)(k:κ):∀(f:List MapEntry) (l:List (κ×ν)) (i:Nat),vh ke vi f l->
  (pz l k=none/\(l.any λp=>k==p.1)=false/\(Instr.findAsking kt (ke k) f i).run P w= .ok none w)\/
  ∃j v,pz l k=some v/\(Instr.findAsking kt (ke k) f i).run P w= .ok (some (i+j,vi v)) w/\j<f.length/\(∃p,l[j]? =some p/\(k==p.1)=true/\∀q,lu l k q=l.set j (k,q))
 |[],[],i,_=> .inl ⟨rfl,rfl,rfl⟩
 |[],_::_,_,h=>by simp [vh] at h
 |_::_,[],_,h=>by simp [vh] at h
 |e::f,p::l,i,h=>by
  simp only [vh,cp,pa,n5] at h;obtain ⟨⟨o,t⟩,s⟩:=h;cases d:(k==p.1)
  .rcases Oy g k f l (i+1) s with ⟨a,b,c⟩|⟨j,v,a,b,c,q,r,n,m⟩
   .exact .inl ⟨by simp [pz,d,a],by simp [d,b],by simp [Instr.findAsking,o,g,d,c]⟩
   .refine .inr ⟨j+1,v,by simp [pz,d,a],?_,by simpa using c,q,by simpa using r,n,λu=>by simp [lu,d,m]⟩;have:i+1+j=i+(j+1):=by omega
    rw [this] at b;simp [Instr.findAsking,o,g,d,b]
  .exact .inr ⟨0,p.2,by simp [pz,d],by simp [Instr.findAsking,o,g,d,t],by simp,p,by simp,d,λu=>by simp [lu,d]⟩
theorem EO{P:Program}(m:se P kt ke)(k:κ)(f:List MapEntry)(l:List (κ×ν))(h:vh ke vi f l)(w:World):
  (pz l k=none/\(l.any λp=>k==p.1)=false/\(Instr.findKey kt (ke k) f).run P w= .ok none w)\/
  ∃j v,pz l k=some v/\(Instr.findKey kt (ke k) f).run P w= .ok (some (j,vi v)) w/\j<f.length/\(∃p,l[j]? =some p/\(k==p.1)=true/\∀q,lu l k q=l.set j (k,q)):=by
 obtain ⟨n,d,g⟩:=m.ut;rcases g with g|⟨g,ha⟩
 .rcases O3 g k f l 0 h with ⟨a,b,c⟩|⟨j,v,a,b,c⟩
  .exact .inl ⟨a,b,by simp [Instr.findKey,run_underlying d,c]⟩
  .exact .inr ⟨j,v,a,by simp [Instr.findKey,run_underlying d,b],c⟩
 .have i:Instr.findNow n (ke k) f 0=none\/f=[]:=by
   cases f with
   |nil=>exact .inr rfl
   |cons e f=>
    cases l with
    |nil=>simp [vh] at h
    |cons p l=>
     simp only [vh,cp,pa,n5] at h;exact .inl (by simp [Instr.findNow,h.1.1,g])
  rcases i with i|rfl
  .rcases Oy (λa b=>ha a b w) k f l 0 h with ⟨a,b,c⟩|⟨j,v,a,b,c⟩
   .exact .inl ⟨a,b,by simp [Instr.findKey,run_underlying d,i,c]⟩
   .exact .inr ⟨j,v,a,by simpa [Instr.findKey,run_underlying d,i] using b,c⟩
  .cases l with
   |nil=>exact .inl ⟨rfl,rfl,by simp [Instr.findKey,run_underlying d,Instr.findNow]⟩
   |cons p l=>simp [vh] at h
theorem ahP{l:List (κ×ν)}{k:κ}{v:ν}(h:(l.any λp=>k==p.1)=false):lu l k v=l++[(k,v)]:=by
 induction l with
 |nil=>rfl
 |cons p l ih=>
  simp only [List.any_cons,qx] at h;simp [lu,h.1,ih h.2]
end
def omap{κ ν:Type}(ke:κ->Value)(vi:ν->Value)(v:Value)(d:Option (List (κ×ν))):Item where
 own:=HD v
 P _ w:=nc ke vi w v d
 lt h:=h.lt
 cJ h _ k _:=h.cJ k
 cE:=false
 hp h:=by cases h
section
variable {κ ν : Type} {ke : κ -> Value} {vi : ν -> Value} {Γ : Ctx} {w : World} {i : Nat}
theorem Sat.omap(h:Sat Γ w){v:Value}{d:Option (List (κ×ν))}(hi:Γ[i]? =some (Go.Proofs.YtkedhpmpejhekaaGreatDoor.omap ke vi v d)):nc ke vi w v d:=h.at_ hi
end
section
variable {κ ν : Type} [BEq κ] {ke : κ -> Value} {vi : ν -> Value}
variable {P : Program} {E : Env} {w : World} {g : Bool}
variable {dst : v7} {ty : TypeId} {pos : String} {af : w4} {gd : s3}
def kX(d:Option (List (κ×ν)))(k:κ)(z:ν):ν:=((d.getD []) |> λl=>pz l k).getD z
def Po(d:Option (List (κ×ν)))(k:κ):Bool:=(pz (d.getD []) k).isSome
theorem SN{o t:TypeId}(e:se P kt ke)(f:P.underlying t=some (.map kt o)){z:ν}(m:(zeroValue o).run P w= .ok (vi z) w){v:Value}{d:Option (List (κ×ν))}(h:nc ke vi w v d)(k:κ)(ok:Bool):
  (Instr.lookup t v (ke k) ok).run P w= .ok (bif ok then .tuple #[vi (kX d k z),.bool (Po d k)] else vi (kX d k z)) w:=by
 rcases h with ⟨rfl,rfl⟩|⟨b,p,i,l,rfl,rfl,n,g⟩
 .rcases EO (vi:=vi) e k [] [] rfl w with ⟨a,_,c⟩|⟨j,u,a,_⟩
  .cases ok <;> simp [Instr.lookup,run_underlying f,e.check,c,m,kX,Po,pz,Result.andThen]
  .cases a
 .rcases EO e k p.toList l g w with ⟨a,_,c⟩|⟨j,u,a,c,_⟩
  .cases ok <;> simp [Instr.lookup,run_underlying f,MapKept.run_getObj_map n,e.check,c,m,kX,Po,a,Result.andThen]
  .cases ok <;> simp [Instr.lookup,run_underlying f,MapKept.run_getObj_map n,e.check,c,kX,Po,a,Result.andThen]
theorem agN{e t:TypeId}(l:se P kt ke)(j:P.underlying t=some (.map kt e)){z:ν}(f:(zeroValue e).run P w= .ok (vi z) w){v:Value}{d:Option (List (κ×ν))}{k:κ}(hx:ar E g x v)(i:ar E g y (ke k))(h:g=true->nc ke vi w v d):
  bf P E g ⟨dst,.lookup t x y false,ty,pos,af,gd⟩ w (vi (kX d k z)):=λn a c b=>by
 simp [execOp,hx n a c b,i n a c b,SN l j f (h b) k false]
theorem abz{e t:TypeId}(l:se P kt ke)(j:P.underlying t=some (.map kt e)){z:ν}(f:(zeroValue e).run P w= .ok (vi z) w){v:Value}{d:Option (List (κ×ν))}{k:κ}(hx:ar E g x v)(i:ar E g y (ke k))(h:g=true->nc ke vi w v d):
  bf P E g ⟨dst,.lookup t x y true,ty,pos,af,gd⟩ w (.tuple #[vi (kX d k z),.bool (Po d k)]):=λn a c b=>by
 simp [execOp,hx n a c b,i n a c b,SN l j f (h b) k true]
end
section
variable {κ ν : Type} {ke : κ -> Value} {vi : ν -> Value}
variable {P : Program} {ρ : vA} {Q : br} {n : Nat} {D : tt} {E : Env} {w : World} {ops : wT} {rest : xa} {Γ : Ctx} {i : Nat}
variable {d : Tmp} {ty : TypeId} {pos : String} {af : w4}
variable [BEq κ]
omit [BEq κ] in
theorem anP{a:List MapEntry}{l:List (κ×ν)}(h:vh ke vi a l){j:Nat}(f:MapEntry->MapEntry){k:κ}{u:ν}(g:∀e,a[j]? =some e->((f e).key,(f e).val)=(ke k,vi u)):vh ke vi (a.modify j f) (l.set j (k,u)):=by
 unfold vh at*;have n:a.length=l.length:=by simpa using congrArg List.length h
 apply qm;intro i;have hi:(a.map λe=>(e.key,e.val))[i]? =(l.map λp=>(ke p.1,vi p.2))[i]? :=by rw [h]
 rw [l7,l7] at hi ⊢;rw [List.getElem?_modify,q0];by_cases c:j=i
 .subst c;by_cases b:j<a.length
  .have m:j<l.length:=by omega
   have d:=g _ (b7 b);simp [b7 b,m,n5] at d ⊢;exact d
  .rw [e9 (by omega)];simp;omega
 .simp only [c,qA];simpa using hi
theorem WA{z:Operand}{V t:TypeId}{v:vA}{l:List (κ×ν)}{k:κ}{u:ν}(B:se P kt ke)(Q:P.underlying t=some (.map kt V))(hx:ar E true x (.map v))(O:ar E true y (ke k))(N:ar E true z (vi u))(T:nc ke vi w (.map v) (some l)):
  ∃w',QO P E ⟨none,.mapUpdate t x y z,ty,pos,af,none⟩ w w'/\jh (HD (.map v)) w w'/\w'.heap.size=w.heap.size/\nc ke vi w' (.map v) (some (lu l k u)):=by
 rcases T with ⟨S,M⟩|⟨b,o,f,l',S,M,s,g⟩
 .cases M
 cases S;cases M;have C:=(Array.getElem?_eq_some_iff.1 s).1;have A:∀(h:Array MapEntry) (d:Nat),vh ke vi h.toList (lu l k u)->QO P E ⟨none,.mapUpdate t x y z,ty,pos,af,none⟩ w { w with heap:=w.heap.setIfInBounds b (.map h d) }->
   ∃w',QO P E ⟨none,.mapUpdate t x y z,ty,pos,af,none⟩ w w'/\jh (HD (.map (some b))) w w'/\w'.heap.size=w.heap.size/\nc ke vi w' (.map (some b)) (some (lu l k u)):=λh d r q=>by
  refine ⟨_,q,⟨rfl,rfl,rfl,by simp,λc _ J=>?_⟩,by simp,.inr ⟨b,h,d,_,rfl,rfl,?_,r⟩⟩
  .exact qj (λe=>J (by simp [HD,e]))
  .simp [C]
 rcases EO B k o.toList l g w with ⟨_,W,c⟩|⟨j,X,_,c,R,p,hp,F,D⟩
 .refine A (o.push { key:=ke k,val:=vi u,born:=f }) (f+1) ?_ ?_
  .rw [ahP W];unfold vh at*;simp [g]
  .intro n a i;simp [execOp,hx n a i rfl,O n a i rfl,N n a i rfl,Instr.mapUpdate,run_underlying Q,MapKept.run_getObj_map s,B.check,c,MapKept.run_setObj_map _ s,Result.andThen]
 .obtain ⟨rfl,K⟩:=B.bits k p.1 F;have H:∃e,o.toList[j]? =some e/\e.key=ke p.1:=by
   have L:(o.toList.map λe=>(e.key,e.val))[j]? =(l.map λp=>(ke p.1,vi p.2))[j]? :=by rw [g]
   rw [l7,l7,hp,b7 R] at L;simp only [hV,b5,n5] at L;exact ⟨_,b7 R,L.1⟩
  obtain ⟨e,U,G⟩:=H;have I:o[j]? =some e:=by simpa using U
  refine A (o.modify j λe=>{ e with key:=ke p.1,val:=vi u }) f ?_ ?_
  .rw [D,Array.toList_modify];exact anP g _ (λe _=>rfl)
  .have m:Instr.sameBits 10000 e.key (ke p.1)=true:=by rw [G];exact K
   intro n a i;simp [execOp,hx n a i rfl,O n a i rfl,N n a i rfl,Instr.mapUpdate,run_underlying Q,MapKept.run_getObj_map s,B.check,c,MapKept.run_setObj_map _ s,Result.andThen,I,Instr.keyThatStays,m]
end
end Go.Proofs.YtkedhpmpejhekaaGreatDoor
