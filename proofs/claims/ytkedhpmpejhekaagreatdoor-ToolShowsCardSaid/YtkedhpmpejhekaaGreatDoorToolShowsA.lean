/- Own texts for ToolShows, cut and joined by a program. -/
import Derived.WalkKit
import Derived.ScopeJumps
import Derived.Deep.Quiet
import Derived.KernelRfl
import Derived.TacticsIn
import Derived.OrdersIn
import Derived.RangeFuncRecord
import Derived.Laws.BytesArg
import Derived.Laws.IdiomStrings
import Derived.Laws.Cover3
import Derived.Laws.Shifts
import Derived.Laws.BitsAllLaws
set_option linter.all false
namespace Go.Proofs.YtkedhpmpejhekaaGreatDoor
open IntKind (i64 u8)
abbrev x8:=List Nat
abbrev x6:=List Int
abbrev x5:=List Oper
abbrev x4:=Array Bool
abbrev x3:=Array Edge
abbrev xJ:=Array Oper
abbrev xc:=Option Tmp
abbrev xb:=Option Nat
abbrev xa:=Option Int
abbrev w9:=List Value
abbrev w5:=Array Value
abbrev w4:=Option Bool
abbrev wo:=List Operand
abbrev v7:=List Deferred
abbrev vA:=List PanicEntry
abbrev vy:=List (List Int)
abbrev vc:=List (Option Nat)
abbrev vb:=Option (Nat × Bool)
abbrev u9:=List (Option TypeId)
abbrev ae:=@Bool.and_eq_true
abbrev ah:=@Nat.eq_of_beq_eq_true
abbrev aO:=@List.append_assoc
abbrev aW:=@List.mem_cons_of_mem
abbrev bb:=@Nat.le_refl
abbrev bj:=@List.mem_cons_self
abbrev b0:=@List.length_take
abbrev b5:=@List.getElem?_append_right
abbrev b7:=@Option.bind_some
abbrev b8:=@Option.some.injEq
abbrev b9:=@List.length_append
abbrev cb:=@List.getElem?_eq_getElem
abbrev cd:=@List.getElem?_append_left
abbrev cf:=@List.getElem?_cons_succ
abbrev cg:=@Nat.le_trans
abbrev ch:=@Array.length_toList
abbrev cj:=@Nat.le_of_ble_eq_true
abbrev cp:=@List.eq_nil_of_length_eq_zero
abbrev cq:=@List.length_drop
abbrev cr:=@decide_eq_true
abbrev ct:=@decide_eq_false
abbrev cx:=@List.map_cons
abbrev cy:=@cond_false
abbrev c5:=@Bool.or_eq_true
abbrev c8:=@Nat.min_eq_left
abbrev c9:=@cond_true
abbrev de:=@List.cons_append
abbrev dk:=@Nat.lt_of_lt_of_le
abbrev du:=@List.mem_append_right
abbrev eb:=@List.length_cons
abbrev ec:=@List.getElem?_cons_zero
abbrev ed:=@Nat.mul_le_mul_right
abbrev et:=@Bool.not_eq_true'
abbrev eF:=@List.drop_eq_nil_of_le
abbrev e9:=@Nat.blt_eq
abbrev gj:=@List.length_nil
abbrev gx:=@List.drop_eq_getElem_cons
abbrev gy:=@Nat.le_succ
abbrev hV:=@Nat.zero_add
abbrev hW:=@List.take_of_length_le
abbrev iq:=@List.append_nil
abbrev j0:=@if_neg
abbrev j5:=@List.getElem?_drop
abbrev j6:=@List.getElem?_eq_none
abbrev kR:=@List.getElem?_take
abbrev kW:=@Array.getD_eq_getD_getElem?
abbrev kX:=@beq_iff_eq
abbrev lk:=@if_pos
abbrev l5:=@List.mem_singleton
abbrev l7:=@Option.map_some
abbrev l9:=@List.drop_zero
abbrev mi:=@List.size_toArray
abbrev mj:=@List.drop_drop
abbrev mo:=@List.nil_append
abbrev n3:=@Bool.eq_false_iff
abbrev n5:=@decide_eq_true_eq
abbrev n7:=@List.take_take
abbrev n9:=@List.getElem?_map
abbrev oi:=@Bool.false_eq_true
abbrev pa:=@List.mem_of_getElem?
abbrev pc:=@List.take_append_of_le_length
abbrev p0:=@Prod.mk.injEq
abbrev p5:=@List.singleton_append
abbrev p8:=@Nat.add_mul
abbrev qa:=@Option.some.inj
abbrev qb:=@List.cons.injEq
abbrev qc:=@List.drop_take
abbrev qd:=@Nat.zero_le
abbrev qe:=@of_decide_eq_true
abbrev qf:=@Nat.ble_eq_true_of_le
abbrev qg:=@List.filter_cons
abbrev qh:=@Nat.lt_succ_self
abbrev qi:=@List.replicate_succ
abbrev qj:=@Nat.add_zero
abbrev qk:=@Array.getElem?_toList
abbrev ql:=@Array.getElem?_setIfInBounds_ne
abbrev qm:=@List.getElem?_set_ne
abbrev qn:=@if_true
abbrev qo:=@Array.size_append
abbrev qp:=@List.ext_getElem?
abbrev qq:=@Int.toNat_natCast
abbrev qs:=@Nat.add_assoc
abbrev qt:=@List.all_cons
abbrev qu:=@Bool.true_and
abbrev qv:=@Bool.false_or
abbrev qw:=@List.map_congr_left
abbrev qx:=@Option.getD_some
abbrev qy:=@List.all_eq_true
abbrev qz:=@Nat.le_add_right
abbrev qA:=@List.getElem?_set_self
abbrev qB:=@List.map_append
abbrev qC:=@List.mem_cons
abbrev qD:=@Bool.or_eq_false_iff
abbrev qE:=@List.mem_append_left
abbrev qF:=@if_false
abbrev qG:=@List.map_map
abbrev qH:=@List.getElem_map
abbrev qI:=@List.getElem_mem
abbrev qJ:=@beq_eq_false_iff_ne
abbrev qK:=@decide_eq_false_iff_not
abbrev qL:=@Option.bind_eq_some_iff
abbrev qM:=@List.filter_filter
abbrev qN:=@Bool.eq_iff_iff
abbrev qO:=@List.take_append_drop
abbrev qP:=@List.set_append_right
abbrev qQ:=@List.take_append
abbrev qR:=@Array.getElem?_append_left
abbrev qS:=@Array.getElem?_setIfInBounds_self_of_lt
abbrev qT:=@Array.toList_append
abbrev qU:=@List.take_succ_cons
abbrev qV:=@Classical.byContradiction
abbrev qW:=@List.isEmpty_eq_false_iff
abbrev qX:=@Nat.succ_mul
abbrev qY:=@Array.empty_append
abbrev qZ:=@Nat.pos_of_ne_zero
abbrev q0:=@List.take_left
abbrev q4:=@List.getElem_take
abbrev q5:=@List.getElem_drop
abbrev q6:=@List.getElem?_set
abbrev q7:=@Function.comp_def
abbrev q8:=@List.drop_of_length_le
abbrev q9:=@Nat.mul_one
abbrev rM:=@List.drop_append
abbrev si:=@Nat.min_eq_right
abbrev sj:=@Array.getElem?_modify
abbrev sq:=@Nat.lt_or_ge
abbrev sv:=@Nat.mod_lt
abbrev s3:=@List.length_set
abbrev ti:=@List.getElem?_of_mem
abbrev tj:=@Array.size_replicate
abbrev tt:=@Bool.false_and
variable {K : Act -> World -> Prop} {R : Ending -> World -> Prop} {i : Nat} {o : Oper}
abbrev aE:=List UInt8
def S(l:aE):Value:= .string ⟨l.toArray⟩
noncomputable def aw{σ ρ:Type}(F:(σ->Option ρ)->σ->Option ρ)(n:Nat):σ->Option ρ:=Nat.rec (λ_=>none) (λ_ ih s=>F ih s) n
theorem Yv{σ ρ:Type}{F:(σ->Option ρ)->σ->Option ρ}{n:Nat}{s:σ}:aw F (n+1) s=F (aw F n) s:=rfl
def az:Nat:=2^64
def aH{ρ:Type}(c:Bool)(k:Option ρ):Option ρ:=bif c then k else none
def ai{α ρ:Type}(x:α)(k:α->Option ρ):Option ρ:=k x
def bz{α ρ:Type}(g:Bool)(d:α)(m:Option α)(k:α->Option ρ):Option ρ:=(bif g then m else some d).bind k
theorem ek{ρ:Type}{c:Bool}{k:Option ρ}{r:ρ}(h:aH c k=some r):c=true/\k=some r:=by
 cases c
 .cases h
 .exact ⟨rfl,h⟩
theorem Ae{α ρ:Type}{m:Option α}{k:α->Option ρ}{r:ρ}(h:m.bind k=some r):∃y,m=some y/\k y=some r:=by
 cases m with
 |none=>cases h
 |some y=>exact ⟨y,rfl,h⟩
theorem SJ{α ρ:Type}{g:Bool}{d:α}{m:Option α}{k:α->Option ρ}{r:ρ}(h:bz g d m k=some r):
  ∃y,(g=true->m=some y)/\(g=false->y=d)/\k y=some r:=by
 cases g
 .exact ⟨d,(λh=>by cases h),λ_=>rfl,h⟩
 .obtain ⟨y,a,b⟩:=Ae h;exact ⟨y,λ_=>a,(λh=>by cases h),b⟩
theorem sn{ρ:Type}{c:Bool}{x y:Option ρ}{r:ρ}(h:(bif c then x else y)=some r):
  (c=true/\x=some r)\/(c=false/\y=some r):=by
 cases c
 .exact .inr ⟨rfl,h⟩
 .exact .inl ⟨rfl,h⟩
def B2{ρ:Type}(g c:Bool)(k:Option ρ):Option ρ:=bif g then (bif c then k else none) else k
theorem ajm{ρ:Type}{g c:Bool}{k:Option ρ}{r:ρ}(h:B2 g c k=some r):(g=true->c=true)/\k=some r:=by
 cases g
 .exact ⟨(λh=>by cases h),h⟩
 .obtain ⟨b,a⟩:=ek (c:=c) h;exact ⟨λ_=>b,a⟩
theorem MI{σ ρ:Type}{F:(σ->Option ρ)->σ->Option ρ}{n:Nat}{s:σ}{r:ρ}(h:aw F n s=some r):
  ∃m,n=m+1/\F (aw F m) s=some r:=by
 cases n with
 |zero=>cases h
 |succ m=>exact ⟨m,rfl,h⟩
abbrev Env:=List (Nat×Bool×Value)
def look:Env->Nat->Option (Bool×Value)
 |[],_=>none
 |(r,g,v)::E,t=>bif Nat.beq r t then some (g,v) else look E t
def vO(g:Bool)(v:Value):Value:=bif g then v else undef
structure Fits(n:Nat)(E:Env)(a:Act):Prop where
 size:a.tmps.size=n
 at_:∀t g v,look E t=some (g,v)->a.tmps.getD t undef=vO g v
def ar(E:Env)(g:Bool)(x:Operand)(v:Value):Prop:=
 ∀n a,Fits n E a->g=true->a.eval x=v
theorem ar.t{E:Env}{g:Bool}{t:Tmp}{v:Value}(h:look E t=some (true,v)):ar E g (.tmp t) v:=
 λn a b _=>by simpa [vO,Act.eval] using b.at_ t true v h
theorem ar.g{E:Env}{g g':Bool}{t:Tmp}{v:Value}(h:look E t=some (g',v))(c:g=true->g'=true):ar E g (.tmp t) v:=
 λn a d b=>by have:=d.at_ t g' v h;rw [c b] at this;simpa [vO,Act.eval] using this
theorem ar.c{E:Env}{g:Bool}{v:Value}:ar E g (.const v) v:=λ_ _ _ _=>rfl
theorem ar.f{E:Env}{g:Bool}{f:FuncId}:ar E g (.func f) (.func (.func f) #[] #[]):=λ_ _ _ _=>rfl
theorem ar.gl{E:Env}{g:Bool}{f:Nat}:ar E g (.global f) (.pointer (some ⟨f,0,none⟩)):=λ_ _ _ _=>rfl
inductive gG(E:Env)(g:Bool):wo->w9->Prop
 |nil:gG E g [] []
 |cons {x v xs vs}:ar E g x v->gG E g xs vs->gG E g (x::xs) (v::vs)
theorem gG.map{E:Env}{g:Bool}{xs:wo}{vs:w9}(h:gG E g xs vs){n:Nat}{a:Act}(c:Fits n E a)(b:g=true):
  xs.map a.eval=vs:=by
 induction h with
 |nil=>rfl
 |cons hx _ ih=>simp [hx n a c b,ih]
def put(dst:xc)(g:Bool)(v:Value)(E:Env):Env:=
 match dst with
 |some d=>(d,g,v)::E
 |none=>E
theorem KW(xs:w5)(i j:Nat)(v:Value):
  (xs.setIfInBounds i v).getD j undef=if i=j/\i<xs.size then v else xs.getD j undef:=by
 simp only [kW,Array.getElem?_setIfInBounds];by_cases h:i=j
 .subst h;by_cases a:i<xs.size
  .simp [a]
  .simp [a]
 .simp [h]
theorem Fits.put{n:Nat}{E:Env}{a:Act}(h:Fits n E a){d:Tmp}{g:Bool}{v:Value}(hd:Nat.blt d n=true):
  Fits n ((d,g,v)::E) (a.put (some d) (vO g v)):=by
 have e:d<n:=by simpa using hd
 refine ⟨by simp [Act.put,h.size],λt g' f c=>?_⟩;simp only [Act.put,KW,h.size,e,and_true];simp only [look] at c;by_cases b:d=t
 .subst b;simp only [Nat.beq_refl,c9,b8,p0] at c;obtain ⟨rfl,rfl⟩:=c;simp
 .have:Nat.beq d t=false:=by cases hb:Nat.beq d t with
   |true=>exact absurd (ah hb) b
   |false=>rfl
  rw [this,cy] at c;rw [j0 b];exact h.at_ t g' f c
abbrev bu:=Exit->Act->World->Prop
def FW(ρ:xb):Fence:={ fn:=λ_=>True,depth:=none,alive:=false,round:=ρ }
theorem Ig{ρ:xb}{p:Prop}:(FW ρ).depth.isSome=true->p:=λh=>by cases h
theorem uQ{ρ:xb}{P:Program}{m:Machine}:m.fenced P (FW ρ):=fenced_wide P m
theorem Sa{ρ:xb}{n:Nat}{P:Program}{f:FuncId}{args:w5}{w:World}(h:Calls P f args w R):CallsIn (FW ρ) n P f args w R:=
 callsIn_wide.2 h
theorem aeq{ρ:xb}{n:Nat}{P:Program}{f:FuncId}{args:w5}{w:World}(h:CallsIn (FW ρ) n P f args w R):Calls P f args w R:=
 callsIn_wide.1 h
def At(Q:bu)(e:Exit)(n:Nat)(D:v7)(E:Env)(w:World):Prop:=
 ∀a,Fits n E a->a.defers=D->Q e a w
def WC(P:Program)(ρ:xb)(c:Code)(Q:bu)(n:Nat)(D:v7)(E:Env)(w:World):Prop:=
 ∀a,Fits n E a->a.defers=D->c.wpIn (FW ρ) 0 P Q a w
def WL(P:Program)(ρ:xb)(ops:xJ)(Q:bu)(n:Nat)(D:v7)(l:x5)(E:Env)(w:World):Prop:=
 ∀a,Fits n E a->a.defers=D->wpListIn (FW ρ) 0 P ops Q l a w
section
variable {P : Program} {ρ : xb} {Q : bu} {n : Nat} {D : v7} {E : Env} {w : World}
theorem bn{x y:Code}(h:WC P ρ x (Exit.then (y.wpIn (FW ρ) 0 P Q) Q) n D E w):WC P ρ (.seq x y) Q n D E w:=
 λa b hd=>wpIn_seq (h a b hd)
theorem bd{y:Code}(h:WC P ρ y Q n D E w):At (Exit.then (y.wpIn (FW ρ) 0 P Q) Q) .normal n D E w:=h
theorem nn(h:At Q .ret n D E w):At (Exit.then K Q) .ret n D E w:=h
theorem Jg{i:vA}(h:At Q (.panic i) n D E w):At (Exit.then K Q) (.panic i) n D E w:=h
theorem Za(h:At Q .normal n D E w):At (Exit.inBlock i Q) .normal n D E w:=h
theorem agM(h:At Q .ret n D E w):At (Exit.inBlock i Q) .ret n D E w:=h
theorem ae4{j:Nat}(h:At Q (.goto j) n D E w):At (Exit.inBlock i Q) (.goto j) n D E w:=h
theorem Ma{j:vA}(h:At Q (.panic j) n D E w):At (Exit.inBlock i Q) (.panic j) n D E w:=h
theorem aes(h:At Q .normal n D E w):At (Exit.inBlock i Q) (.exit i) n D E w:=
 λa b hd=>by simp only [Exit.inBlock,qn];exact h a b hd
theorem abi{j:Nat}(b:Nat.beq j i=false)(h:At Q (.exit j) n D E w):At (Exit.inBlock i Q) (.exit j) n D E w:=
 λa c hd=>by
  have:¬j=i:=λe=>by subst e;simp at b
  simp only [Exit.inBlock,j0 this];exact h a c hd
theorem po(h:At Q .normal n D E w):WC P ρ .skip Q n D E w:=λa b hd=>wpIn_skip (h a b hd)
theorem adp{l:Nat}(h:At Q .normal n D E w):WC P ρ (.label l) Q n D E w:=λa b hd=>wpIn_label (h a b hd)
theorem WT(h:At Q (.exit i) n D E w):WC P ρ (.exit i) Q n D E w:=λa b hd=>wpIn_exit (h a b hd)
theorem af6(h:At Q (.goto i) n D E w):WC P ρ (.goto i) Q n D E w:=λa b hd=>wpIn_goto (h a b hd)
theorem uN(h:At Q .ret n D E w):WC P ρ .ret Q n D E w:=λa b hd=>wpIn_ret (h a b hd)
theorem Rh{c:Code}(h:WC P ρ c (Exit.inBlock i Q) n D E w):WC P ρ (.block i c) Q n D E w:=λa b hd=>wpIn_block (h a b hd)
theorem bh{id:Nat}{l:x5}(h:WL P ρ l.toArray Q n D l E w):WC P ρ (.region id l.toArray false) Q n D E w:=
 λa b hd=>wpIn_region_lit (h a b hd)
theorem iJ{c:Operand}{x y:Code}{b:Bool}(hc:ar E true c (.bool b))
  (e:b=true->WC P ρ x Q n D E w) (f:b=false->WC P ρ y Q n D E w):WC P ρ (.cond c x y) Q n D E w:=
 λa d hd=>wpIn_cond_split (hc n a d rfl) (λh=>e h a d hd) (λh=>f h a d hd)
def P1{γ:Type}(J:γ->World->Prop)(Es:γ->Env)(n:Nat)(D:v7)(a:Act)(w:World):Prop:=
 ∃g,J g w/\Fits n (Es g) a/\a.defers=D
theorem agH{γ:Type}(J:γ->World->Prop)(b:γ->Env){x y:Code}
  (c:∀g w',J g w'->WC P ρ y Q n D (b g) w') (hx:WC P ρ x (Exit.then (P1 J b n D) Q) n D E w):WC P ρ (.seq x y) Q n D E w:=
 λa d hd=>wpIn_seq (wpIn_mono (hx a d hd) (λe k w' h=>by cases e <;> first|exact h|(obtain ⟨g,f,i,j⟩:=h;exact c g w' f k i j)))
theorem Gd{c:Code}(I:Nat->Act->World->Prop){a:Act}{w:World}(N:Nat)(q:I N a w)
  (round:∀m a w,I m a w->c.wpIn (FW ρ) 0 P (Exit.then (λo w'=>∃t<m,I t o w') Q) a w):(Code.loop c).wpIn (FW ρ) 0 P Q a w:=by
 intro b k cs u hb y;have key:∀m a w,I m a w->
   ∃e o w',Q e o w'/\ArrivesIn (Machine.fenced P (FW ρ)) P (lone (b.atR a (.code c:: .inLoop c::k)) cs w) b k cs e o w':=by
  intro m
  induction m using Nat.strongRecOn with
  |_ m ih=>
   intro a w z;obtain ⟨e,g,f,i,d⟩:=round m a w z b (.inLoop c::k) cs u hb y;cases e with
   |normal=>
    obtain ⟨t,v,n⟩:=i;obtain ⟨r,s,p,j,h⟩:=ih t v g f n;exact ⟨r,s,p,j,.of_steps (StepsIn.trans d (.one uQ stepR_inLoop)) h⟩
   |exit id=>exact ⟨_,g,f,i,.pass (x:= .inLoop c) rfl (λ_ _=> .inl (by simp)) d⟩
   |goto l=>exact ⟨_,g,f,i,.pass (x:= .inLoop c) rfl (λ_ _=> .inl (by simp)) d⟩
   |ret=>exact ⟨_,g,f,i,.pass (x:= .inLoop c) rfl (λ_ _=> .inl (by simp)) d⟩
   |panic A=>exact ⟨_,g,f,i,.pass (x:= .inLoop c) rfl (λ_ _=> .inl (by simp)) d⟩
   |outgrown=>exact ⟨_,g,f,i,.pass (x:= .inLoop c) rfl (λ_ _=> .inl (by simp)) d⟩
 obtain ⟨e,o,w',i,d⟩:=key N a w q;exact ⟨e,o,w',i,.of_steps (.one uQ stepR_loop) d⟩
def MX{σ γ τ:Type}(again:σ->Option τ)(r:τ)(J:σ->γ->World->Prop)(Es:σ->γ->Env)(n:Nat)(D:v7)(a:Act)(w:World):Prop:=
 ∃s g,again s=some r/\J s g w/\Fits n (Es s g) a/\a.defers=D
theorem lL{b:Frame}{a:Act}{k:List Item}{cs:List Frame}{c:Code}:step P (lone (b.atR a (.code (.scope c)::k)) cs w)= .next (lone (b.atR a (.code c:: .inScope c::k)) cs w):=
 step_lone_go (by simp [stepG,stepG.exec,Frame.atR])
theorem Wl{b:Frame}{a:Act}{k:List Item}{cs:List Frame}{c:Code}:step P (lone (b.atR a (.inScope c::k)) cs w)= .next (lone (b.atR a k) cs w):=
 step_lone_go (by simp [stepG,stepG.exec,Frame.atR])
theorem R5{c rest:Code}(l:Nat)(J:Nat->Act->World->Prop){a:Act}{w:World}(G:findLabel c l=some rest)
  (first:c.wpIn (FW ρ) 0 P (Exit.jump l (λa w=>∃m,J m a w) Q) a w)
  (t:∀m a w,J m a w->rest.wpIn (FW ρ) 0 P (Exit.jump l (λv w'=>∃x<m,J x v w') Q) a w):(Code.scope c).wpIn (FW ρ) 0 P Q a w:=by
 intro b k cs u hb C;have D:gotoIn l (.inScope c::k)=some (.code rest:: .inScope c::k):=by simp [gotoIn,G]
 have hx:∀id,exitTo id (.inScope c::k)=exitTo id k:=λid=>by simp [exitTo]
 have out:∀{p:Machine} {e:Exit} {f:Act} {d:World},(∀l',e≠ .goto l')->ArrivesIn (Machine.fenced P (FW ρ)) P p b (.inScope c::k) cs e f d->ArrivesIn (Machine.fenced P (FW ρ)) P p b k cs e f d:=by
  intro p e f d z h;cases e with
  |normal=>exact StepsIn.trans h (.one uQ Wl)
  |exit id=>exact ⟨λF B=>h.1 F (by rw [hx];exact B),λy B=>h.2 y (by rw [hx];exact B)⟩
  |goto l'=>exact absurd rfl (z l')
  |ret=>exact h
  |panic E=>exact h
  |outgrown=>exact h
 have key:∀m a w,J m a w->∃e v w',Q e v w'/\ArrivesIn (Machine.fenced P (FW ρ)) P (lone (b.atR a (.code rest:: .inScope c::k)) cs w) b k cs e v w':=by
  intro m
  induction m using Nat.strongRecOn with
  |_ m ih=>
   intro a w H;obtain ⟨e,f,d,n,g⟩:=t m a w H b (.inScope c::k) cs u hb C;cases e with
   |normal=>exact ⟨.normal,f,d,n,out (by simp) g⟩
   |exit id=>exact ⟨.exit id,f,d,n,out (by simp) g⟩
   |goto l'=>
    obtain ⟨rfl,x,A,s⟩:=n;obtain ⟨q,r,o,j,i⟩:=ih x A f d s;exact ⟨q,r,o,j,.of_steps (g.1 _ D) i⟩
   |ret=>exact ⟨_,f,d,n,out (by simp) g⟩
   |panic E=>exact ⟨_,f,d,n,out (by simp) g⟩
   |outgrown=>exact ⟨_,f,d,n,out (by simp) g⟩
 obtain ⟨e,f,d,n,g⟩:=first b (.inScope c::k) cs u hb C;cases e with
 |normal=>exact ⟨.normal,f,d,n,.of_steps (.one uQ lL) (out (e:= .normal) (by simp) g)⟩
 |exit id=>exact ⟨.exit id,f,d,n,.of_steps (.one uQ lL) (out (by simp) g)⟩
 |goto l'=>
  obtain ⟨rfl,m,s⟩:=n;obtain ⟨q,r,o,j,i⟩:=key m f d s;exact ⟨q,r,o,j,.of_steps (.head uQ lL (g.1 _ D)) i⟩
 |ret=>exact ⟨_,f,d,n,.of_steps (.one uQ lL) (out (by simp) g)⟩
 |panic E=>exact ⟨_,f,d,n,.of_steps (.one uQ lL) (out (by simp) g)⟩
 |outgrown=>exact ⟨_,f,d,n,.of_steps (.one uQ lL) (out (by simp) g)⟩
end
def RE(S:Value->World->Prop)(Sp:vA->World->Prop):Ending->World->Prop
 | .returned v,w=>S v w
 | .panicked c,w=>Sp c w
 | .outgrown,_=>False
def ky(P:Program)(f:FuncId)(args:w9)(w:World)(S:Value->World->Prop)(Sp:vA->World->Prop):Prop:=
 Calls P f args.toArray w (RE S Sp)
abbrev fq(P:Program)(f:FuncId)(args:w9)(w:World)(S:Value->World->Prop):Prop:=ky P f args w S (λ_ _=>False)
theorem ky.mono{P:Program}{f:FuncId}{args:w9}{w:World}{S d:Value->World->Prop}{Sp a:vA->World->Prop}(h:ky P f args w S Sp)
  (g:∀v w',S v w'->d v w') (hp:∀v w',Sp v w'->a v w'):ky P f args w d a:=
 Calls.mono h λe w' b=>by
  cases e with
  |returned v=>exact g _ _ b
  |panicked c=>exact hp _ _ b
  |outgrown=>exact b
theorem fq.mono{P:Program}{f:FuncId}{args:w9}{w:World}{S a:Value->World->Prop}(h:fq P f args w S)
  (b:∀v w',S v w'->a v w'):fq P f args w a:=ky.mono h b (λ_ _ h=>h)
def iota:Nat->w9->Env
 |_,[]=>[]
 |k,v::vs=>(k,true,v)::iota (k+1) vs
theorem DC:∀(vs:w9) (k t:Nat) (g:Bool) (v:Value),look (iota k vs) t=some (g,v)->∃j,t=k+j/\vs[j]? =some v/\g=true
 |[],_,_,_,_,h=>by cases h
 |u::vs,k,t,g,v,h=>by
  simp only [iota,look] at h;cases hb:Nat.beq k t with
  |true=>
   rw [hb,c9] at h;have:=ah hb;subst this;cases h;exact ⟨0,rfl,rfl,rfl⟩
  |false=>
   rw [hb,cy] at h;obtain ⟨j,b,hv,a⟩:=DC vs (k+1) t g v h;exact ⟨j+1,by omega,by simpa using hv,a⟩
abbrev BP(P:Program)(fn:Func)(S:Value->World->Prop)(Sp:vA->World->Prop):bu:=bodyPostM (FW none) 0 P fn (RE S Sp)
theorem iv{P:Program}{f:FuncId}{fn:Func}{c:Code}{vs:w9}{w:World}{n:Nat}{S:Value->World->Prop}{Sp:vA->World->Prop}
  (i:P.funcs[f]? =some fn) (hb:fn.body=some c) (b:fn.ntmps=n) (d:Nat.ble vs.length n=true)
  (h:WC P none c (BP P fn S Sp) n [] (iota 0 vs) w):ky P f vs w S Sp:=by
 refine aeq (ρ:=none) (callsIn_of_wp_marks i hb trivial (h _ ⟨?_,λt g v a=>?_⟩ rfl))
 .have:vs.length<=n:=by simpa using d
  simp [b];omega
 .obtain ⟨j,rfl,hv,rfl⟩:=DC vs 0 t g v a;have e:j<vs.length:=by
   rcases sq j vs.length with h|h
   .exact h
   .rw [j6 h] at hv;cases hv
  simp only [vO,c9,hV,kW];rw [qR (by simpa using e)];simp [hv]
def bg(P:Program)(E:Env)(g:Bool)(o:Oper)(w:World)(v:Value):Prop:=
 ∀n a,Fits n E a->g=true->(execOp a.eval o).run P w= .ok (.value v) w
theorem bg.Yg{P:Program}{E:Env}{g:Bool}{w:World}{x y:Bool}(h:bg P E g o w (.bool x))(e:x=y):bg P E g o w (.bool y):=e▸h
theorem bg.Yh{P:Program}{E:Env}{g:Bool}{w:World}{k:IntKind}{x y:Int}(h:bg P E g o w (.int k x))(e:x=y):bg P E g o w (.int k y):=e▸h
section
variable {P : Program} {ρ : xb} {Q : bu} {n : Nat} {D : v7} {E : Env} {w : World} {ops : xJ} {rest : x5}
theorem bT(h:At Q .normal n D E w):WL P ρ ops Q n D [] E w:=λa b hd=>wpListIn_nil (h a b hd)
def ix(o:Oper):Bool:=match o.op with
 | .defer _=>false
 |_=>true
theorem Iq(h:ix o=true)(a:Operand->Value):o.semAt ρ a=execOp a o:=by
 cases ρ with
 |none=>rfl
 |some l=>exact Oper.semAt_some l a o (λc e=>by simp [ix,e] at h)
theorem j7(hp:ix o=true){a:Act}{b:Act->World->Prop}(h:o.uponIn (FW ρ) 0 P a b Q ((execOp a.eval o).run P w)):o.wpIn (FW ρ) 0 P a w b Q:=
 ⟨λ_ _=>trivial,by rw [show (FW ρ).round=ρ from rfl,Iq hp];exact h⟩
theorem aK{o:Oper}{d:Tmp}{v:Value}(c:bg P E true o w v)(hp:ix o=true)(f:o.guard=none)(hd:o.dst=some d)(e:Nat.blt d n=true)
  (h:WL P ρ ops Q n D rest ((d,true,v)::E) w):WL P ρ ops Q n D (o::rest) E w:=λa b i=>
 wpListIn_plain f λK g=>j7 hp (by rw [c n a b rfl,Oper.uponIn_value,hd];exact g _ _ (h _ (b.put e) i))
theorem DU{j:Nat}{b:Bool}{rj:Tmp}{d e:Bool}{a:Act}(k:o.guard=some (j,b))(i:(ops[j]?).bind (·.dst)=some rj)
  (h:look E rj=some (d,.bool e)) (f:Fits n E a) (g:Nat.blt rj n=true):Region.wanted o (yielded ops a.tmps)=(d&&(e==b)):=by
 have c:rj<a.tmps.size:=by rw [f.size];simpa using g
 have m:=f.at_ rj d _ h;have l:a.tmps[rj]? =some (vO d (.bool e)):=by rw [Array.getElem?_eq_getElem c,<-m];simp [Array.getD,c]
 simp only [Region.wanted,k,yielded,i,b7,l];cases d
 .simp [vO,undef]
 .cases e <;> cases b <;> rfl
end
variable {fo : Operand} {k : IntKind} {m : Int} {t' : TypeId} {tys : Array TypeId} {v : Value} {vs : w9} {x y : Operand}
section
variable {P : Program} {E : Env} {g : Bool} {w : World} {dst : xc} {ty : TypeId} {pos : String} {af : x3} {gd : vb}
theorem aL(hx:ar E g x v):bg P E g ⟨dst,.move x,ty,pos,af,gd⟩ w v:=
 λn a c b=>by simp only [execOp,hx n a c b];rfl
theorem cJ(hx:ar E g x v):bg P E g ⟨dst,.assign x,ty,pos,af,gd⟩ w v:=
 λn a c b=>by simp only [execOp,hx n a c b];rfl
theorem aoi{c:Operand}{b y:Bool}(hc:ar E g c (.bool b))(hx:ar E (g&&b) x (.bool y)):
  bg P E g ⟨dst,.pick c x (.const (.bool false)),ty,pos,af,gd⟩ w (.bool (b&&y)):=
 λn a d e=>by
  subst e;simp only [execOp,hc n a d rfl];cases b
  .rfl
  .simp only [hx n a d rfl];rfl
theorem apo{c:Operand}{b y:Bool}(hc:ar E g c (.bool b))(hx:ar E (g&& !b) x (.bool y)):
  bg P E g ⟨dst,.pick c (.const (.bool true)) x,ty,pos,af,gd⟩ w (.bool (b||y)):=
 λn a d e=>by
  subst e;simp only [execOp,hc n a d rfl];cases b
  .simp only [hx n a d rfl];rfl
  .rfl
theorem aaX{b:Bool}{t:TypeId}(hx:ar E g x (.bool b)):bg P E g ⟨dst,.unOp .not t x,ty,pos,af,gd⟩ w (.bool (!b)):=
 λn a d c=>by simp only [execOp,hx n a d c];rfl
theorem aoY{t:TypeId}(hx:ar E g x (.int k m)):bg P E g ⟨dst,.unOp .neg t x,ty,pos,af,gd⟩ w (.int k (k.wrap (0-m))):=
 λn a c b=>by simp only [execOp,hx n a c b];rfl
theorem cw{op:BinOp}{u z:Value}{t:TypeId}(hx:ar E g x u)(d:ar E g y v)
  (h:(do eqGuard op t x y u v;binOp op t u v:Sem Value).run P w= .ok z w):bg P E g ⟨dst,.binOp op t x y t',ty,pos,af,gd⟩ w z:=
 λn a c b=>by simp only [execOp,hx n a c b,d n a c b,Sem.run_bind] at h ⊢;simp only [h,Result.andThen_ok];rfl
def ajG:Value->Bool
 | .nilIface=>false
 | .agg _=>false
 |_=>true
theorem dB{op:BinOp}{t:TypeId}{u:Value}(a:ajG u=true):(eqGuard op t x y u v).run P w= .ok () w:=by unfold eqGuard;cases op <;> simp <;> (split <;> simp_all [ajG])
theorem s5{l:Int}{t:TypeId}(hx:ar E g x (.int k m))(a:ar E g y (.int k l)):
  bg P E g ⟨dst,.binOp .add t x y t',ty,pos,af,gd⟩ w (.int k (k.wrap (m+l))):=cw hx a (by simp [eqGuard,binOp,Op.intArith])
theorem afB{l:Int}{t:TypeId}(hx:ar E g x (.int k m))(a:ar E g y (.int k l)):
  bg P E g ⟨dst,.binOp .sub t x y t',ty,pos,af,gd⟩ w (.int k (k.wrap (m-l))):=cw hx a (by simp [eqGuard,binOp,Op.intArith])
theorem aoq{l:Int}{t:TypeId}(hx:ar E g x (.int k m))(a:ar E g y (.int k l)):
  bg P E g ⟨dst,.binOp .mul t x y t',ty,pos,af,gd⟩ w (.int k (k.wrap (m*l))):=cw hx a (by simp [eqGuard,binOp,Op.intArith])
theorem ao4{l:Int}{t:TypeId}(hx:ar E g x (.int k m))(a:ar E g y (.int k l))(b:(l==0)=false):
  bg P E g ⟨dst,.binOp .quo t x y t',ty,pos,af,gd⟩ w (.int k (k.wrap (m.tdiv l))):=cw hx a (by
   have:¬l=0:=by simpa using b
   simp [eqGuard,binOp,Op.intDiv,this])
theorem aoH{l:Int}{t:TypeId}(hx:ar E g x (.int k m))(a:ar E g y (.int k l))(b:(l==0)=false):
  bg P E g ⟨dst,.binOp .rem t x y t',ty,pos,af,gd⟩ w (.int k (m.tmod l)):=cw hx a (by
   have:¬l=0:=by simpa using b
   simp [eqGuard,binOp,Op.intDiv,this])
theorem py{l:Int}{t:TypeId}(hx:ar E g x (.int k m))(a:ar E g y (.int k l)):
  bg P E g ⟨dst,.binOp .eql t x y t',ty,pos,af,gd⟩ w (.bool (m==l)):=cw hx a (by simp [eqGuard,binOp,Op.intCmp])
theorem aoX{l:Int}{t:TypeId}(hx:ar E g x (.int k m))(a:ar E g y (.int k l)):
  bg P E g ⟨dst,.binOp .neq t x y t',ty,pos,af,gd⟩ w (.bool (m != l)):=cw hx a (by simp [eqGuard,binOp,Op.intCmp])
theorem af9{l:Int}{t:TypeId}(hx:ar E g x (.int k m))(a:ar E g y (.int k l)):
  bg P E g ⟨dst,.binOp .lss t x y t',ty,pos,af,gd⟩ w (.bool (decide (m<l))):=cw hx a (by simp [eqGuard,binOp,Op.intCmp])
theorem aov{l:Int}{t:TypeId}(hx:ar E g x (.int k m))(a:ar E g y (.int k l)):
  bg P E g ⟨dst,.binOp .leq t x y t',ty,pos,af,gd⟩ w (.bool (decide (m<=l))):=cw hx a (by simp [eqGuard,binOp,Op.intCmp])
theorem Wk{l:Int}{t:TypeId}(hx:ar E g x (.int k m))(a:ar E g y (.int k l)):
  bg P E g ⟨dst,.binOp .gtr t x y t',ty,pos,af,gd⟩ w (.bool (decide (l<m))):=cw hx a (by simp [eqGuard,binOp,Op.intCmp])
theorem an9{l:Int}{t:TypeId}(hx:ar E g x (.int k m))(a:ar E g y (.int k l)):
  bg P E g ⟨dst,.binOp .geq t x y t',ty,pos,af,gd⟩ w (.bool (decide (l<=m))):=cw hx a (by simp [eqGuard,binOp,Op.intCmp])
theorem DH{op:BinOp}(a:op= .and\/op= .or\/op= .xor\/op= .andNot){x y:Operand}{k:IntKind}{m l:Int}{t t':TypeId}(hx:ar E g x (.int k m))(c:ar E g y (.int k l))
  {z:Int} (b:∀w:World,(Op.intBits op k m l).run P w= .ok (.int k z) w):
  bg P E g ⟨dst,.binOp op t x y t',ty,pos,af,gd⟩ w (.int k z):=cw hx c (by rcases a with h|h|h|h <;> subst h <;> simp [eqGuard,binOp,b])
theorem HI(l:aE):(⟨l.toArray⟩:ByteArray).toList=l:=by rw [ByteArray.toList_eq]
theorem ki(l:aE):(⟨l.toArray⟩:ByteArray).size=l.length:=by simp [ByteArray.size]
theorem aoN{m l:aE}{t:TypeId}(hx:ar E g x (S m))(a:ar E g y (S l)):
  bg P E g ⟨dst,.binOp .eql t x y t',ty,pos,af,gd⟩ w (.bool (m==l)):=cw hx a (by simp [eqGuard,S,binOp,Op.stringOp])
theorem ao2{m l:aE}{t:TypeId}(hx:ar E g x (S m))(a:ar E g y (S l)):
  bg P E g ⟨dst,.binOp .neq t x y t',ty,pos,af,gd⟩ w (.bool (m != l)):=cw hx a (by simp [eqGuard,S,binOp,Op.stringOp,bne])
def lZ(m l:aE):Bool:=Nat.ble (m.length+l.length) 9223372036854775807
theorem amN(m l:aE):((⟨m.toArray⟩:ByteArray)++(⟨l.toArray⟩:ByteArray))=⟨(m++l).toArray⟩:=by apply ByteArray.ext;simp [ByteArray.data_append]
theorem anM{m l:aE}{t:TypeId}(hx:ar E g x (S m))(c:ar E g y (S l))(hc:g=true->lZ m l=true):
  bg P E g ⟨dst,.binOp .add t x y t',ty,pos,af,gd⟩ w (S (m++l)):=λn a d b=>
 cw (P:=P) (z:=S (m++l)) hx c (by
  have f:m.length+l.length<=9223372036854775807:=cj (hc b);have e:¬((((⟨m.toArray⟩:ByteArray).size+(⟨l.toArray⟩:ByteArray).size:Nat):Int)>i64.max):=by rw [ki,ki];show ¬(9223372036854775807:Int)<_;omega
  simp only [eqGuard,S,binOp,Op.stringOp,Sem.run_bind,j0 e,amN];simp) n a d b
theorem aot{m l:Bool}{t:TypeId}(b:P.underlying t=some .bool)(hx:ar E g x (.bool m))(a:ar E g y (.bool l)):
  bg P E g ⟨dst,.binOp .eql t x y t',ty,pos,af,gd⟩ w (.bool (m==l)):=cw hx a (by rw [Sem.run_bind,dB rfl,Result.andThen_ok,run_eql_bool w t m l b])
theorem an8{m l:Bool}{t:TypeId}(b:P.underlying t=some .bool)(hx:ar E g x (.bool m))(a:ar E g y (.bool l)):
  bg P E g ⟨dst,.binOp .neq t x y t',ty,pos,af,gd⟩ w (.bool (m != l)):=cw hx a (by rw [Sem.run_bind,dB rfl,Result.andThen_ok,run_neq_bool w t m l b];rfl)
theorem abE{b:IntKind}{s d:TypeId}{ds:TypeDesc}(e:P.underlying s=some ds)(c:P.underlying d=some (.int k))(hx:ar E g x (.int b m)):
  bg P E g ⟨dst,.convert s d x,ty,pos,af,gd⟩ w (.int k (k.wrap m)):=
 λn a h f=>by simp [execOp,hx n a h f,convert,run_underlying e,run_underlying c,Conv.intToInt]
theorem adW(hx:ar E g x (.tuple vs.toArray))(hi:vs[i]? =some v):
  bg P E g ⟨dst,.extract x i,ty,pos,af,gd⟩ w v:=
 λn a c b=>by simp [execOp,hx n a c b,Instr.extract,hi]
theorem alK{l:aE}{t:TypeId}(b:P.underlying t=some .string)(hx:ar E g x (S l)):
  bg P E g ⟨dst,.call ⟨.builtin .len,#[x],#[t]⟩,ty,pos,af,gd⟩ w (.int .i64 l.length):=
 λn a d c=>by simp [execOp,resolve,invoke,builtin,hx n a d c,Builtin.len_,run_underlying b,S,goInt,ki]
def vt(i:Int)(n:Nat):Bool:=decide (0<=i)&&decide (i<n)
theorem vP{i:Int}{n:Nat}:vt i n=true↔0<=i/\i<n:=by simp [vt]
def ir(l:aE)(i:Int):Int:=(l.getD i.toNat 0).toNat
theorem ais(l:aE)(i:Nat):(⟨l.toArray⟩:ByteArray)[i]? =l[i]? :=by
 by_cases h:i<l.length
 .have a:i<(⟨l.toArray⟩:ByteArray).size:=by rw [ki];exact h
  rw [getElem?_pos (⟨l.toArray⟩:ByteArray) i a,cb h];rfl
 .have a:¬i<(⟨l.toArray⟩:ByteArray).size:=by rw [ki];exact h
  rw [getElem?_neg (⟨l.toArray⟩:ByteArray) i a,j6 (by omega)]
theorem akC{l:aE}{i:Int}{t:TypeId}(f:P.underlying t=some .string)(hx:ar E g x (S l))(e:ar E g y (.int k i))(hi:g=true->vt i l.length=true):
  bg P E g ⟨dst,.index t x y,ty,pos,af,gd⟩ w (.int .u8 (ir l i)):=
 λn a c b=>by
  obtain ⟨j,m⟩:=vP.1 (hi b);have d:i.toNat<l.length:=by omega
  have h:(⟨l.toArray⟩:ByteArray)[i.toNat]? =some l[i.toNat]:=by rw [ais,cb d]
  simp only [execOp,hx n a c b,e n a c b,Instr.index,asIntOf,S,Sem.run_bind,Sem.run_pure,Result.andThen_ok,run_underlying f];rw [lk j,h];simp [ir,d]
def db(i j:Int)(n:Nat):Bool:=decide (0<=i)&&decide (i<=j)&&decide (j<=n)
theorem Bn{i j:Int}{n:Nat}:db i j n=true↔(0<=i/\i<=j)/\j<=n:=by simp [db]
def cut(l:aE)(i j:Int):aE:=(l.drop i.toNat).take (j.toNat-i.toNat)
theorem KR(l:aE)(i j:Nat):(⟨l.toArray⟩:ByteArray).extract i j=⟨((l.drop i).take (j-i)).toArray⟩:=by apply ByteArray.ext;simp [ByteArray.data_extract]
theorem alI{l:aE}{i j:Int}{lo hi:Option Operand}{t:TypeId}(f:P.underlying t=some .string)(hx:ar E g x (S l))
  (e:match lo with|none=>i=0|some y=>∃k,ar E g y (.int k i)) (b:match hi with|none=>j=l.length|some y=>∃k,ar E g y (.int k j))
  (hc:g=true->db i j l.length=true):
  bg P E g ⟨dst,.slice t x lo hi none,ty,pos,af,gd⟩ w (S (cut l i j)):=
 λn a d c=>by
  obtain ⟨⟨r,q⟩,p⟩:=Bn.1 (hc c);have o:0<=j:=by omega
  have s:(((j.toNat:Nat):Int))=j:=by omega
  cases lo with
  |none=>
   subst e;cases hi with
   |none=>
    subst b;simp [execOp,hx n a d c,Instr.sliceAt,Instr.slice,Instr.sliceBounds,run_underlying f,S,cut]
   |some y=>
    obtain ⟨k,h⟩:=b;simp [execOp,hx n a d c,h n a d c,Instr.sliceAt,Instr.slice,Instr.sliceBounds,Instr.sliceBound,asIntOf,run_underlying f,S,KR,cut,ki,p,o]
  |some z=>
   obtain ⟨k,m⟩:=e;cases hi with
   |none=>
    subst b;simp [execOp,hx n a d c,m n a d c,Instr.sliceAt,Instr.slice,Instr.sliceBounds,Instr.sliceBound,asIntOf,run_underlying f,S,KR,cut,ki,r,q]
   |some y=>
    obtain ⟨u,h⟩:=b;have v:i<=((j.toNat:Nat):Int):=by omega
    simp [execOp,hx n a d c,m n a d c,h n a d c,Instr.sliceAt,Instr.slice,Instr.sliceBounds,Instr.sliceBound,asIntOf,run_underlying f,S,KR,cut,ki,r,q,p,o,s]
theorem Ld{fn:Fn}{first cap:wo}{us:w9}(e:gG E g first vs)(d:gG E g cap us):
  bg P E g ⟨dst,.makeFunc fn first.toArray cap.toArray,ty,pos,af,gd⟩ w (.func fn vs.toArray us.toArray):=
 λn a c b=>by simp [execOp,Instr.makeFunc,e.map c b,d.map c b]
theorem akD{l:Int}{t:TypeId}(hx:ar E g x (.int k m))(e:ar E g y (.int k l))
  (d:∀w:World,(Builtin.max_ #[t,t'] ty #[.int k m,.int k l]).run P w= .ok (.int k (max m l)) w):
  bg P E g ⟨dst,.call ⟨.builtin .max,#[x,y],#[t,t']⟩,ty,pos,af,gd⟩ w (.int k (max m l)):=
 λn a c b=>by simp [execOp,resolve,invoke,builtin,hx n a c b,e n a c b,d]
theorem akT{l:Int}{t:TypeId}(hx:ar E g x (.int k m))(e:ar E g y (.int k l))
  (d:∀w:World,(Builtin.min_ #[t,t'] ty #[.int k m,.int k l]).run P w= .ok (.int k (min m l)) w):
  bg P E g ⟨dst,.call ⟨.builtin .min,#[x,y],#[t,t']⟩,ty,pos,af,gd⟩ w (.int k (min m l)):=
 λn a c b=>by simp [execOp,resolve,invoke,builtin,hx n a c b,e n a c b,d]
end
structure Ext(w w':World):Prop where
 os:w'.os=w.os
 tape:w'.tape=w.tape
 output:w'.output=w.output
 size:w.heap.size<=w'.heap.size
 block:∀k,k<w.heap.size->w'.heap[k]? =w.heap[k]?
theorem Ext.refl(w:World):Ext w w:=⟨rfl,rfl,rfl,bb _,λ_ _=>rfl⟩
theorem Ext.trans{a b c:World}(h:Ext a b)(k:Ext b c):Ext a c:=
 ⟨k.os.trans h.os,k.tape.trans h.tape,k.output.trans h.output,cg h.size k.size,λi hi=>(k.block i (dk hi h.size)).trans (h.block i hi)⟩
def Enters(P:Program)(f:FuncId):Prop:= ∀(args:w5) (w:World),(callFunc f args).run P w= .ok (.enter f args) w
section
variable {P : Program} {ρ : xb} {Q : bu} {n : Nat} {D : v7} {E : Env} {w : World} {ops : xJ} {rest : x5}
theorem DX{g:Bool}{f:FuncId}{first cap:w9}{xs:wo}{dst:xc}{ty:TypeId}{pos:String}{af:x3}{gd:Option (Nat×Bool)}
  (h:Enters P f) (c:ar E g fo (.func (.func f) first.toArray cap.toArray)) (b:gG E g xs vs) {a:Act} (e:Fits n E a) (d:g=true):
  (execOp a.eval ⟨dst,.call ⟨.value fo,xs.toArray,tys⟩,ty,pos,af,gd⟩).run P w= .ok (.enter f (first++vs++cap).toArray) w:=by
 have i:(Array.map a.eval xs.toArray)=vs.toArray:=by simp [b.map e d]
 have:=h (first++vs++cap).toArray w;simp only [execOp,resolve,c n a e d,Deferred.ofValue,i,Sem.run_bind,Sem.run_pure,Result.andThen_ok,invoke];simp at this;simpa using this
theorem H9{a:Act}{b:Act->World->Prop}{f:FuncId}{args:w9}{S:Value->World->Prop}{Sp:vA->World->Prop}
  (hc:ky P f args w S Sp) (h:∀v w',S v w'->b (a.put o.dst v) w') (hp:∀c w',Sp c w'->Q (.panic c) a w'):o.uponIn (FW ρ) 0 P a b Q (.ok (.enter f args.toArray) w):=by
 rw [Oper.uponIn_enter];refine ⟨Ig,Sa (Calls.mono hc λe w' d=>?_)⟩;cases e with
 |returned v=>exact h v w' d
 |panicked c=>exact hp c w' d
 |outgrown=>exact d.elim
theorem abU{f:FuncId}{first cap args:w9}{xs:wo}{d:Tmp}{ty:TypeId}{pos:String}{af:x3}{S:Value->World->Prop}{Sp:vA->World->Prop}
  (k:Enters P f) (e:ar E true fo (.func (.func f) first.toArray cap.toArray)) (b:gG E true xs vs) (ha:args=first++vs++cap)
  (j:Nat.blt d n=true) (hc:ky P f args w S Sp)
  (h:∀v w',S v w'->WL P ρ ops Q n D rest ((d,true,v)::E) w') (hp:∀c w',Sp c w'->At Q (.panic c) n D E w'):WL P ρ ops Q n D (⟨some d,.call ⟨.value fo,xs.toArray,tys⟩,ty,pos,af,none⟩::rest) E w:=λa g i=>
 wpListIn_plain rfl λK l=>j7 rfl (by subst ha;rw [DX k e b g rfl];exact H9 hc (λv w' hv=>l _ _ (h v w' hv _ (g.put j) i)) (λc w' hv=>hp c w' hv a g i))
theorem Xf{f:FuncId}{first cap args:w9}{xs:wo}{d:Tmp}{ty:TypeId}{pos:String}{af:x3}{S:Value->World->Prop}
  (e:Enters P f) (b:ar E true fo (.func (.func f) first.toArray cap.toArray)) (a:gG E true xs vs) (ha:args=first++vs++cap)
  (c:Nat.blt d n=true) (hc:fq P f args w S)
  (h:∀v w',S v w'->WL P ρ ops Q n D rest ((d,true,v)::E) w'):WL P ρ ops Q n D (⟨some d,.call ⟨.value fo,xs.toArray,tys⟩,ty,pos,af,none⟩::rest) E w:=
 abU e b a ha c hc h (λ_ _ h=>h.elim)
theorem aj1{f:FuncId}{first cap args:w9}{xs:wo}{ty:TypeId}{pos:String}{af:x3}{S:Value->World->Prop}{Sp:vA->World->Prop}
  (i:Enters P f) (d:ar E true fo (.func (.func f) first.toArray cap.toArray)) (b:gG E true xs vs) (ha:args=first++vs++cap)
  (hc:ky P f args w S Sp)
  (h:∀v w',S v w'->WL P ρ ops Q n D rest E w') (hp:∀c w',Sp c w'->At Q (.panic c) n D E w'):WL P ρ ops Q n D (⟨none,.call ⟨.value fo,xs.toArray,tys⟩,ty,pos,af,none⟩::rest) E w:=λa e g=>
 wpListIn_plain rfl λK j=>j7 rfl (by subst ha;rw [DX i d b e rfl];exact H9 hc (λv w' hv=>j _ _ (h v w' hv _ e g)) (λc w' hv=>hp c w' hv a e g))
def kM(P:Program)(E:Env)(o:Oper)(w:World)(v:Value)(w':World):Prop:=
 ∀n a,Fits n E a->(execOp a.eval o).run P w= .ok (.value v) w'
theorem uV{o:Oper}{v:Value}{w':World}{d:Tmp}(c:kM P E o w v w')(hp:ix o=true)(f:o.guard=none)(hd:o.dst=some d)(e:Nat.blt d n=true)
  (h:WL P ρ ops Q n D rest ((d,true,v)::E) w'):WL P ρ ops Q n D (o::rest) E w:=λa b i=>
 wpListIn_plain f λK g=>j7 hp (by rw [c n a b,Oper.uponIn_value,hd];exact g _ _ (h _ (b.put e) i))
def P3(P:Program)(E:Env)(o:Oper)(w:World)(w':World):Prop:=
 ∀n a,Fits n E a->(execOp a.eval o).run P w= .ok .skip w'
end
variable {b : Nat} {i : Int}
def Mv(M:Nat->Prop)(w:World)(M':Nat->Prop)(w':World):Prop:=
 w.heap.size<=w'.heap.size/\∀b,b<w.heap.size-> ¬M b-> ¬M' b/\w'.heap[b]? =w.heap[b]?
theorem Mv.trans{M M' c:Nat->Prop}{w w' a:World}(h:Mv M w M' w')(k:Mv M' w' c a):Mv M w c a:=
 ⟨cg h.1 k.1,λb hb f=>by obtain ⟨i,g⟩:=h.2 b hb f;obtain ⟨e,d⟩:=k.2 b (dk hb h.1) i;exact ⟨e,d.trans g⟩⟩
theorem Ext.mv{w w':World}(h:Ext w w')(M:Nat->Prop):Mv M w M w':=⟨h.size,λb hb a=>⟨a,h.block b hb⟩⟩
theorem Mv.weaken{M M':Nat->Prop}(w:World)(h:∀b,M' b->M b):Mv M w M' w:=⟨bb _,λb _ a=>⟨λc=>a (h b c),rfl⟩⟩
structure dD(α:Type) where
 n:Nat
 rd:(Nat->Prop)->World->w9->α->Prop
 len:∀{M w vs x},rd M w vs x->vs.length=n
 one:∀{M w vs x},rd M w vs x->∀v∈vs,v.oneCell'=true
 mv:∀{M M' w w' vs x},rd M w vs x->Mv M w M' w'->rd M' w' vs x
def RI(k:IntKind):dD Int where
 n:=1
 rd _ _ vs x:=vs=[.int k x]
 len h:=by rw [h];rfl
 one h:=by rw [h];simp [Value.oneCell']
 mv h _:=h
def RB:dD Bool where
 n:=1
 rd _ _ vs x:=vs=[.bool x]
 len h:=by rw [h];rfl
 one h:=by rw [h];simp [Value.oneCell']
 mv h _:=h
def RS:dD aE where
 n:=1
 rd _ _ vs x:=vs=[S x]
 len h:=by rw [h];rfl
 one h:=by rw [h];simp [S,Value.oneCell']
 mv h _:=h
def RU:dD Unit where
 n:=0
 rd _ _ vs _:=vs=[]
 len h:=by rw [h];rfl
 one h:=by rw [h];simp
 mv h _:=h
def RP{α β:Type}(A:dD α)(B:dD β):dD (α×β) where
 n:=A.n+B.n
 rd M w vs x:= ∃a b,vs=a++b/\A.rd M w a x.1/\B.rd M w b x.2
 len h:=by obtain ⟨a,b,rfl,h1,h2⟩:=h;rw [b9,A.len h1,B.len h2]
 one h:=by
  obtain ⟨a,b,rfl,h1,h2⟩:=h;intro v hv;rcases List.mem_append.1 hv with hv|hv
  .exact A.one h1 v hv
  .exact B.one h2 v hv
 mv h m:=by obtain ⟨a,b,rfl,h1,h2⟩:=h;exact ⟨a,b,rfl,A.mv h1 m,B.mv h2 m⟩
section
variable {α β : Type} (A : dD α)
def cL(M:Nat->Prop)(w:World)(cs:w9)(xs:List α):Prop:=
 cs.length=xs.length*A.n/\∀i (h:i<xs.length),A.rd M w ((cs.drop (i*A.n)).take A.n) xs[i]
variable {A}
theorem cL.nil{M:Nat->Prop}{w:World}:cL A M w [] []:=⟨by simp,λi h=>by simp at h⟩
theorem cL.cons{M:Nat->Prop}{w:World}{c cs:w9}{x:α}{xs:List α}(h:A.rd M w c x)(a:cL A M w cs xs):cL A M w (c++cs) (x::xs):=by
 have hc:=A.len h;refine ⟨by simp [hc,a.1,p8,Nat.add_comm],λi hi=>?_⟩;cases i with
 |zero=>simpa [hc,qQ] using (by simpa [<-hc] using h)
 |succ i=>
  have:=a.2 i (by simpa using hi);have e:(c++cs).drop ((i+1)*A.n)=cs.drop (i*A.n):=by
   rw [rM];have:(i+1)*A.n=c.length+i*A.n:=by rw [hc,p8];omega
   rw [this,q8 (by omega)];simp
  rw [e];simpa using this
theorem cL.one{M:Nat->Prop}{w:World}{c:w9}{x:α}(h:A.rd M w c x):cL A M w c [x]:=by have:=cL.cons h (cL.nil (A:=A) (M:=M) (w:=w));simpa using this
theorem cL.mv{M M':Nat->Prop}{w w':World}{cs:w9}{xs:List α}(h:cL A M w cs xs)(m:Mv M w M' w'):cL A M' w' cs xs:=
 ⟨h.1,λi hi=>A.mv (h.2 i hi) m⟩
theorem cL.AE{M:Nat->Prop}{w:World}{cs:w9}{xs:List α}(h:cL A M w cs xs):∀v∈cs,v.oneCell'=true:=by
 intro v hv;obtain ⟨j,g,rfl⟩:=List.mem_iff_getElem.1 hv;have e:=h.1;rcases Nat.eq_zero_or_pos A.n with b|b
 .rw [b] at e;omega
 .have hi:j/A.n<xs.length:=by rw [Nat.div_lt_iff_lt_mul b];omega
  have c:=h.2 (j/A.n) hi;refine A.one c _ ?_;have d:j%A.n<A.n:=sv _ b;have f:j/A.n*A.n+j%A.n=j:=by rw [Nat.mul_comm];exact Nat.div_add_mod j A.n
  rw [List.mem_iff_getElem];have a:=A.len c;refine ⟨j%A.n,by rw [a];exact d,?_⟩;rw [q4,q5];congr 1
theorem cL.append{M:Nat->Prop}{w:World}{cs ds:w9}{xs ys:List α}(h:cL A M w cs xs)(k:cL A M w ds ys):cL A M w (cs++ds) (xs++ys):=by
 refine ⟨by simp [h.1,k.1,p8],λi hi=>?_⟩;by_cases a:i<xs.length
 .have b:=h.2 i a;have e:((cs++ds).drop (i*A.n)).take A.n=(cs.drop (i*A.n)).take A.n:=by
   have d:i*A.n+A.n<=cs.length:=by rw [h.1,<-qX];exact ed _ a
   rw [List.drop_append_of_le_length (by omega),pc (by simp;omega)]
  rw [e,List.getElem_append_left a];exact b
 .have c:i-xs.length<ys.length:=by simp at hi;omega
  have b:=k.2 _ c;have e:(cs++ds).drop (i*A.n)=ds.drop ((i-xs.length)*A.n):=by
   have:i*A.n=cs.length+(i-xs.length)*A.n:=by rw [h.1,<-p8];congr 1;omega
   rw [this,rM];simp
  rw [e,List.getElem_append_right (by omega)];exact b
theorem cL.take{M:Nat->Prop}{w:World}{cs:w9}{xs:List α}(h:cL A M w cs xs)(k:Nat):cL A M w (cs.take (k*A.n)) (xs.take k):=by
 have e:(cs.take (k*A.n)).length=(xs.take k).length*A.n:=by
  rw [b0,b0,h.1];by_cases c:k<=xs.length
  .rw [c8 c,c8 (ed _ c)]
  .have a:xs.length<=k:=by omega
   rw [si (ed A.n a),si a]
 refine ⟨e,λi hi=>?_⟩;have b:i<k/\i<xs.length:=by rw [b0] at hi;omega
 have d:=h.2 i b.2;have f:i*A.n+A.n<=k*A.n:=by rw [<-qX];exact ed _ b.1
 rw [q4,qc,n7,c8 (by omega)];exact d
theorem cL.drop{M:Nat->Prop}{w:World}{cs:w9}{xs:List α}(h:cL A M w cs xs)(k:Nat):cL A M w (cs.drop (k*A.n)) (xs.drop k):=by
 refine ⟨by rw [cq,cq,h.1,<-Nat.sub_mul],λi hi=>?_⟩;have a:k+i<xs.length:=by simp at hi;omega
 have b:=h.2 (k+i) a;rw [q5,mj];have:(k+i)*A.n=k*A.n+i*A.n:=p8 ..;rw [this] at b;exact b
theorem cL.set{M:Nat->Prop}{w:World}{cs c:w9}{xs:List α}{x:α}{i:Nat}(h:cL A M w cs xs)(hi:i<xs.length)(hx:A.rd M w c x):
  cL A M w (cs.take (i*A.n)++c++cs.drop ((i+1)*A.n)) (xs.set i x):=by
 have d:=h.take i;have b:=h.drop (i+1);have a:=(d.append (cL.one hx)).append b;have e:xs.set i x=xs.take i++[x]++xs.drop (i+1):=by rw [List.set_eq_take_append_cons_drop,lk hi];simp
 rw [e];exact a
variable (A)
def bQ(M:Nat->Prop)(w:World)(v:Value)(xs:List α):Prop:=
 ((∃a,v= .slice a 0 0)/\xs=[])\/∃b off cap cs e fr,v= .slice (some ⟨b,off,none⟩) xs.length cap/\ ¬M b/\w.heap[b]? =some (.cells cs e fr)/\xs.length<=cap/\
  off+cap*A.n<=cs.size/\cL A M w ((cs.toList.drop off).take (xs.length*A.n)) xs
variable {A}
theorem bQ.nil{M:Nat->Prop}{w:World}:bQ A M w (.slice none 0 0) []:= .inl ⟨⟨none,rfl⟩,rfl⟩
theorem bQ.emp{M:Nat->Prop}{w:World}{a:Option Addr}:bQ A M w (.slice a 0 0) []:= .inl ⟨⟨a,rfl⟩,rfl⟩
theorem bQ.mv{M M':Nat->Prop}{w w':World}{v:Value}{xs:List α}(h:bQ A M w v xs)(m:Mv M w M' w'):bQ A M' w' v xs:=by
 rcases h with h|⟨b,off,cap,cs,e,fr,hv,d,hb,hc,c,a⟩
 .exact .inl h
 .obtain ⟨g,f⟩:=m.2 b (Array.getElem?_eq_some_iff.1 hb).1 d;exact .inr ⟨b,off,cap,cs,e,fr,hv,g,by rw [f];exact hb,hc,c,a.mv m⟩
abbrev fA:=Option Addr×Nat×Nat
def sl(p:fA):Value:= .slice p.1 p.2.1 p.2.2
variable (A)
def Jf:dD (List α) where
 n:=1
 rd M w vs xs:= ∃p,vs=[sl p]/\bQ A M w (sl p) xs
 len h:=by obtain ⟨v,rfl,_⟩:=h;rfl
 one h:=by obtain ⟨v,rfl,h⟩:=h;simp [Value.oneCell',sl]
 mv h m:=by obtain ⟨v,rfl,h⟩:=h;exact ⟨v,rfl,h.mv m⟩
variable {A}
theorem bQ.lz{M:Nat->Prop}{w:World}{v:Value}{xs:List α}(h:bQ A M w v xs):∃p,v=sl p:=by
 rcases h with ⟨⟨a,rfl⟩,_⟩|⟨b,off,cap,cs,e,fr,rfl,_⟩
 .exact ⟨(a,0,0),rfl⟩
 .exact ⟨(_,_,_),rfl⟩
theorem bQ.rsl{M:Nat->Prop}{w:World}{v:Value}{xs:List α}(h:bQ A M w v xs):(Jf A).rd M w [v] xs:=by obtain ⟨p,rfl⟩:=h.lz;exact ⟨p,rfl,h⟩
def O5(v:Value)(n:Nat):Prop:= ∃a cap,v= .slice a n cap
theorem bQ.len{M:Nat->Prop}{w:World}{v:Value}{xs:List α}(h:bQ A M w v xs):O5 v xs.length:=by
 rcases h with ⟨⟨a,rfl⟩,rfl⟩|⟨b,off,cap,cs,e,fr,rfl,_⟩
 .exact ⟨_,_,rfl⟩
 .exact ⟨_,_,rfl⟩
def bM(w:World)(p:Addr)(vs:w9):Prop:=p.spot=none/\∃cs e fr,w.heap[p.block]? =some (.cells cs e fr)/\∀j u,vs[j]? =some u->cs[p.off+j]? =some u
theorem bM.ext{w w':World}{p:Addr}(h:bM w p vs)(e:Ext w w'):bM w' p vs:=by obtain ⟨a,cs,t,fr,hb,hc⟩:=h;exact ⟨a,cs,t,fr,by rw [e.block _ (Array.getElem?_eq_some_iff.1 hb).1];exact hb,hc⟩
theorem bM.cell{w:World}{p:Addr}{vs:w9}(h:bM w p vs){j:Nat}{u:Value}(a:vs[j]? =some u):w.cell? (p.add j)=some u:=by
 obtain ⟨b,cs,t,fr,hb,hc⟩:=h;have:=hc j u a;unfold Addr.add;split
 next c=>subst c;simp only [World.cell?,hb,b];simpa using this
 .simp only [World.cell?,hb];simpa using this
theorem bM.sub{w:World}{p:Addr}{us:w9}(h:bM w p vs)(k:Nat)(b:(vs.drop k).take us.length=us):bM w (p.add k) us:=by
 obtain ⟨c,cs,t,fr,hb,hc⟩:=h;have key:∀j u,us[j]? =some u->cs[p.off+k+j]? =some u:=λj u a=>by
  rw [<-b,kR] at a;split at a
  .rw [j5] at a;have:=hc _ _ a;rwa [<-qs] at this
  .cases a
 unfold Addr.add;split
 next d=>subst d;exact ⟨c,cs,t,fr,hb,key⟩
 .exact ⟨rfl,cs,t,fr,hb,key⟩
def x9(v:Value)(i:Int)(n:Nat)(p:Addr):Prop:= ∃a len cap,v= .slice (some a) len cap/\0<=i/\i<(len:Nat)/\p=a.add (i.toNat*n)
def idx(xs:List α)(i:Int):Option α:=if 0<=i then xs[i.toNat]? else none
theorem AT{xs:List α}{x:α}(h:idx xs i=some x):0<=i/\∃hi:i.toNat<xs.length,xs[i.toNat]=x:=by
 unfold idx at h;split at h
 next a=>obtain ⟨hi,hx⟩:=List.getElem?_eq_some_iff.1 h;exact ⟨a,hi,hx⟩
 .cases h
theorem bQ.at_{M:Nat->Prop}{w:World}{v:Value}{xs:List α}{x:α}(h:bQ A M w v xs)(hx:idx xs i=some x):
  ∃p vs,x9 v i A.n p/\bM w p vs/\A.rd M w vs x:=by
 obtain ⟨g,hi,rfl⟩:=AT hx;rcases h with ⟨_,rfl⟩|⟨b,off,cap,cs,e,fr,rfl,l,hb,hc,k,f⟩
 .simp at hi
 .have d:=f.2 _ hi;have a:=A.len d;refine ⟨(⟨b,off,none⟩:Addr).add (i.toNat*A.n),_,⟨_,_,_,rfl,g,by omega,rfl⟩,?_,d⟩;have key:bM w ⟨b,off,none⟩ ((cs.toList.drop off).take (xs.length*A.n)):=⟨rfl,cs,e,fr,hb,λj u c=>by
   rw [kR] at c;split at c
   .simpa [j5] using c
   .cases c⟩
  exact key.sub _ (by rw [a])
end
structure js(C:x8)(w w':World):Prop where
 os:w'.os=w.os
 tape:w'.tape=w.tape
 output:w'.output=w.output
 size:w.heap.size<=w'.heap.size
 block:∀b,b<w.heap.size->b∉C->w'.heap[b]? =w.heap[b]?
theorem Ext.rz{w w':World}(h:Ext w w')(C:x8):js C w w':=⟨h.os,h.tape,h.output,h.size,λb hb _=>h.block b hb⟩
def eM(w:World)(b:Nat)(e:TypeId)(vs:w9):Prop:=w.heap[b]? =some (.cells vs.toArray e (0,0))
theorem eM.cK{w w':World}{e:TypeId}(h:eM w b e vs)(k:w'.heap[b]? =w.heap[b]?):eM w' b e vs:=k.trans h
theorem eM.lt{w:World}{e:TypeId}(h:eM w b e vs):b<w.heap.size:=(Array.getElem?_eq_some_iff.1 h).1
theorem eM.cells{w:World}{e:TypeId}(h:eM w b e vs):bM w ⟨b,0,none⟩ vs:=
 ⟨rfl,_,_,_,h,λj u a=>by simpa using a⟩
theorem eM.part{w:World}{e:TypeId}{us:w9}(h:eM w b e vs)(k:Nat)(a:(vs.drop k).take us.length=us):bM w ⟨b,k,none⟩ us:=by
 have:=h.cells.sub k a;unfold Addr.add at this;split at this
 next c=>subst c;exact this
 .simpa using this
def dv(v:Value):x8:=v.ownBlock.toList
section
variable {α : Type} {A : dD α}
def R8(w:World)(e:TypeId)(size:Nat)(v:Value)(n:Nat)(xs:w9):Prop:=
 xs.length=n*size/\((v= .slice none 0 0/\n=0)\/∃g off cap cur,v= .slice (some ⟨g,off,none⟩) n cap/\w.heap[g]? =some (.cells cur e (0,0))/\n<=cap/\cap<=maxLen/\(off+cap*size=cur.size/\(off=0\/size=1))/\
  (cur.toList.drop off).take (n*size)=xs)
theorem R8.of{w:World}{size n:Nat}{e:TypeId}{v:Value}{xs:w9}(h:w.ownsRow b e size v n xs):R8 w e size v n xs:=by obtain ⟨i,f⟩:=h;refine ⟨i,f.imp id ?_⟩;rintro ⟨g,cap,cur,rfl,_,d,hc,c,j,a⟩;exact ⟨g,0,cap,cur,rfl,d,hc,c,⟨by omega,.inl rfl⟩,by simpa using a⟩
variable (A) in
def gb(e:TypeId)(M:Nat->Prop)(w:World)(v:Value)(xs:List α):Prop:=
 ∃cells,R8 w e A.n v xs.length cells/\cL A M w cells xs
theorem gb.nil{e:TypeId}{M:Nat->Prop}{w:World}:gb A e M w (.slice none 0 0) []:=⟨[],.of (World.ownsRow_nil w 0 e A.n),cL.nil⟩
theorem gb.len{e:TypeId}{M:Nat->Prop}{w:World}{v:Value}{xs:List α}(h:gb A e M w v xs):O5 v xs.length:=by
 obtain ⟨cells,⟨_,h⟩,_⟩:=h;rcases h with ⟨rfl,a⟩|⟨g,off,cap,cur,rfl,_⟩
 .exact ⟨none,0,by rw [a]⟩
 .exact ⟨_,_,rfl⟩
theorem gb.lt{e:TypeId}{M:Nat->Prop}{w:World}{v:Value}{xs:List α}(h:gb A e M w v xs):∀b∈dv v,b<w.heap.size:=λb hb=>by
 obtain ⟨cells,⟨_,h⟩,_⟩:=h;rcases h with ⟨rfl,c⟩|⟨g,off,cap,cur,rfl,a,_⟩
 .cases hb
 .have:b=g:=by simpa [dv,Value.ownBlock] using hb
  subst this;exact (Array.getElem?_eq_some_iff.1 a).1
theorem gb.cK{e:TypeId}{M M':Nat->Prop}{w w':World}{v:Value}{xs:List α}(h:gb A e M w v xs)(k:∀b∈dv v,w'.heap[b]? =w.heap[b]?)(m:Mv M w M' w'):gb A e M' w' v xs:=by
 obtain ⟨cells,⟨f,a⟩,c⟩:=h;refine ⟨cells,⟨f,?_⟩,c.mv m⟩;rcases a with a|⟨g,off,cap,cur,rfl,d,r⟩
 .exact .inl a
 .exact .inr ⟨g,off,cap,cur,rfl,by rw [k g (by simp [dv,Value.ownBlock])];exact d,r⟩
theorem gb.freeze{e:TypeId}{M M':Nat->Prop}{w:World}{v:Value}{xs:List α}(h:gb A e M w v xs)(i:∀b∈dv v,¬M' b)(m:Mv M w M' w):bQ A M' w v xs:=by
 obtain ⟨cells,⟨n,j⟩,d⟩:=h;rcases j with ⟨rfl,k⟩|⟨g,off,cap,cur,rfl,f,hc,l,c,a⟩
 .exact .inl ⟨⟨_,rfl⟩,cp k⟩
 .refine .inr ⟨g,off,cap,cur,e,(0,0),rfl,i g (by simp [dv,Value.ownBlock]),f,hc,Nat.le_of_eq c.1,?_⟩;rw [a];exact d.mv m
theorem DY{w:World}{g off n:Nat}{cur:w5}{e:TypeId}{fr:Nat×Nat}{cells:w9}(c:w.heap[g]? =some (.cells cur e fr))(b:(cur.toList.drop off).take n=cells):bM w ⟨g,off,none⟩ cells:=⟨rfl,cur,e,fr,c,λj u a=>by
 rw [<-b,kR] at a;split at a
 .simpa [j5] using a
 .cases a⟩
theorem gb.at_{e:TypeId}{M:Nat->Prop}{w:World}{v:Value}{xs:List α}{x:α}(h:gb A e M w v xs)(hx:idx xs i=some x):
  ∃p vs,x9 v i A.n p/\bM w p vs/\A.rd M w vs x:=by
 obtain ⟨c,hi,rfl⟩:=AT hx;obtain ⟨cells,⟨o,k⟩,f⟩:=h;rcases k with ⟨rfl,c⟩|⟨g,off,cap,cur,rfl,j,hc,m,l,d⟩
 .omega
 .have b:=f.2 _ hi;have a:=A.len b;exact ⟨(⟨g,off,none⟩:Addr).add (i.toNat*A.n),_,⟨_,_,_,rfl,c,by omega,rfl⟩,(DY j d).sub _ (by rw [a]),b⟩
end
section
variable {α : Type} {A : dD α}
variable (A) in
def bK(e:TypeId)(M:Nat->Prop)(w:World)(v:Value)(xs:List α)(R:x8):Prop:=
 (R=dv v/\gb A e M w v xs)\/(R=[]/\xs=[]/\(∃a,v= .slice a 0 0)/\bQ A M w v [])
variable {e : TypeId} {M M' : Nat -> Prop} {w w' : World} {v : Value} {xs : List α} {R : x8}
theorem bK.nil:bK A e M w (.slice none 0 0) [] []:= .inl ⟨rfl,gb.nil⟩
theorem bK.empty{a:Option Addr}(h:bQ A M w (.slice a 0 0) []):bK A e M w (.slice a 0 0) [] []:= .inr ⟨rfl,rfl,⟨a,rfl⟩,h⟩
theorem bK.of(h:gb A e M w v xs):bK A e M w v xs (dv v):= .inl ⟨rfl,h⟩
theorem bK.len(h:bK A e M w v xs R):O5 v xs.length:=by
 rcases h with ⟨_,h⟩|⟨_,rfl,⟨a,rfl⟩,_⟩
 .exact h.len
 .exact ⟨_,_,rfl⟩
theorem bK.lt(h:bK A e M w v xs R):∀b∈R,b<w.heap.size:=by
 rcases h with ⟨rfl,h⟩|⟨rfl,_⟩
 .exact h.lt
 .intro b hb;cases hb
theorem bK.cK(h:bK A e M w v xs R)(k:∀b∈R,w'.heap[b]? =w.heap[b]?)(m:Mv M w M' w'):bK A e M' w' v xs R:=by
 rcases h with ⟨rfl,h⟩|h
 .exact .inl ⟨rfl,h.cK k m⟩
 .exact .inr ⟨h.1,h.2.1,h.2.2.1,h.2.2.2.mv m⟩
theorem bK.atG{g:Bool}{x:α}(h:g=true->bK A e M w v xs R)(hx:g=true->idx xs i=some x):
  ∃p vs,(g=true->x9 v i A.n p)/\(g=true->bM w p vs)/\(g=true->A.rd M w vs x):=by
 cases g
 .exact ⟨⟨0,0,none⟩,[],λh=>(by cases h),λh=>(by cases h),λh=>(by cases h)⟩
 .rcases h rfl with ⟨_,h⟩|⟨_,rfl,_⟩
  .obtain ⟨p,vs,c,b,a⟩:=h.at_ (hx rfl);exact ⟨p,vs,λ_=>c,λ_=>b,λ_=>a⟩
  .obtain ⟨_,hi,_⟩:=AT (hx rfl);simp at hi
theorem bK.fX{x:α}(h:bK A e M w v xs R)(hx:idx xs i=some x):gb A e M w v xs/\R=dv v:=by
 rcases h with ⟨a,h⟩|⟨_,rfl,_⟩
 .exact ⟨h,a⟩
 .obtain ⟨_,hi,_⟩:=AT hx;simp at hi
theorem bK.freeze(h:bK A e M w v xs R)(a:∀b∈R,¬M' b)(m:Mv M w M' w):bQ A M' w v xs:=by
 rcases h with ⟨rfl,h⟩|⟨_,rfl,_,h⟩
 .exact h.freeze a m
 .exact h.mv m
end
variable {α : Type} {A : dD α} {d : TypeDesc} {e : TypeId} {p : Addr} {z : Value} {zs : w9}
def TI(P:Program)(e:TypeId)(size bytes:Nat)(z:Value):Prop:=(P.info? e).map (λi=>(i.size,i.bytes,i.zero))=some (size,bytes,some z)
theorem TI.out{P:Program}{size bytes:Nat}(h:TI P e size bytes z):∃i,P.info? e=some i/\i.size=size/\i.bytes=bytes/\i.zero=some z:=by
 unfold TI at h;cases hi:P.info? e with
 |none=>simp [hi] at h
 |some i=>
  simp only [hi,l7,b8,p0] at h;exact ⟨i,rfl,h.1,h.2.1,h.2.2⟩
def jm:TypeDesc->Bool
 | .struct _=>true
 | .array _ _=>true
 |_=>false
theorem xd{P:Program}{t:TypeId}(h:P.underlying t=some d)(w:World):(isAgg t).run P w= .ok (jm d) w:=by unfold isAgg;rw [Sem.run_bind,run_underlying h w];cases d <;> rfl
section
variable {P : Program} {E : Env} {g : Bool} {w : World} {dst : xc} {ty : TypeId} {pos : String} {af : x3} {gd : vb}
theorem Dr{n:Nat}{t:TypeId}(b:P.underlying t=some (.slice e))(hx:ar E g x v)(c:O5 v n):
  bg P E g ⟨dst,.call ⟨.builtin .len,#[x],#[t]⟩,ty,pos,af,gd⟩ w (.int .i64 n):=
 λn' a f d=>by obtain ⟨h,cap,rfl⟩:=c;simp [execOp,resolve,invoke,builtin,hx n' a f d,Builtin.len_,run_underlying b,goInt]
theorem EN{n bytes:Nat}{t:TypeId}(h:P.underlying t=some (.slice e))(b:TI P e n bytes z)
  (hx:ar E g x v) (f:ar E g y (.int k i)) (l:g=true->x9 v i n p):
  bg P E g ⟨dst,.indexAddr t x y,ty,pos,af,gd⟩ w (.pointer (some p)):=
 λn' a d c=>by obtain ⟨q,hi,j,_,_⟩:=b.out;obtain ⟨r,len,cap,rfl,o,m,rfl⟩:=l c;simp [execOp,hx n' a d c,f n' a d c,Instr.indexAt,asIntOf,run_underlying h,o,m,sizeOf,typeInfo,hi,j]
theorem MJ{t:TypeId}(a:P.underlying t=some d)(hd:jm d=false)(hc:w.cell? p=some v):
  (loadVar t p).run P w= .ok v w:=by
 simp [loadVar,xd a,hd,hc]
theorem bM.cell0(hc:bM w p vs)(a:vs[0]? =some v):w.cell? p=some v:=by have:=hc.cell a;simpa [Addr.add] using this
theorem LW{t:TypeId}(c:P.underlying t=some d)(hd:jm d=false)(hx:ar E g x (.pointer (some p)))
  (hc:g=true->bM w p [v]):bg P E g ⟨dst,.load t x,ty,pos,af,gd⟩ w v:=
 λn' a e b=>by simp [execOp,hx n' a e b,Instr.loadAt,Instr.sureAddr,MJ c hd ((hc b).cell0 rfl)]
theorem KX{t:TypeId}{n bytes:Nat}(b:P.underlying t=some d)(hd:jm d=true)(a:TI P t n bytes z)(hc:bM w p vs)(e:vs.length=n):
  (loadVar t p).run P w= .ok (.agg vs.toArray) w:=by
 obtain ⟨f,hi,c,_,_⟩:=a.out;have:=run_loadCells_list (P:=P) w p vs (λj v hv=>hc.cell hv);rw [e] at this;simp [loadVar,xd b,hd,sizeOf,typeInfo,hi,c,this]
theorem Lg{t:TypeId}{n bytes:Nat}(e:P.underlying t=some d)(hd:jm d=true)(b:TI P t n bytes z)(hx:ar E g x (.pointer (some p)))
  (hc:g=true->bM w p vs) (f:vs.length=n):bg P E g ⟨dst,.load t x,ty,pos,af,gd⟩ w (.agg vs.toArray):=
 λn' a h c=>by simp [execOp,hx n' a h c,Instr.loadAt,Instr.sureAddr,KX e hd b (hc c) f]
def afe(P:Program)(t:TypeId)(k:Nat)(off:Nat):Prop:=
 ∃fs f i,P.underlying t=some (.struct fs)/\fs[k]? =some f/\f.offset=off/\P.info? f.type=some i/\i.size≠0
theorem Jj{t:TypeId}{k off:Nat}(c:afe P t k off)(hx:ar E g x (.pointer (some p))):
  bg P E g ⟨dst,.fieldAddr t x k,ty,pos,af,gd⟩ w (.pointer (some (p.add off))):=
 λn' a o n=>by obtain ⟨d,f,i,e,m,l,hi,j⟩:=c;have b:∃h:k<d.size,d[k]=f:=Array.getElem?_eq_some_iff.1 m;obtain ⟨r,q⟩:=b;simp [execOp,hx n' a o n,Instr.fieldAt,run_underlying e,Instr.sureAddr,fieldPlace,sizeOf,typeInfo,hi,j,l,r,q]
theorem abR(hx:ar E g x (.pointer (some p))):bg P E g ⟨dst,.nilCheck x,ty,pos,af,gd⟩ w (.pointer (some p)):=
 λn' a c b=>by simp only [execOp,hx n' a c b];rfl
theorem ak6{f:FuncId}{us vs:w5}(hx:ar E g x (.func (.func f) us vs)):bg P E g ⟨dst,.nilCheck x,ty,pos,af,gd⟩ w (.func (.func f) us vs):=
 λn' a c b=>by simp only [execOp,hx n' a c b];rfl
theorem aaw{t:TypeId}{n bytes off:Nat}{cs:w9}(b:P.underlying t=some d)(a:TI P t n bytes z)
  (hv:(if jm d then some (.agg ((cs.drop off).take n).toArray) else cs[off]?)=some v):(part t cs.toArray off).run P w= .ok v w:=by
 obtain ⟨e,hi,c,_,_⟩:=a.out;unfold part;rw [Sem.run_bind,xd b];cases hd:jm d
 .simp only [hd,oi,qF] at hv ⊢;simp [hv]
 .have f:(cs.toArray.extract off (off+n))=((cs.drop off).take n).toArray:=by rw [List.extract_toArray];congr 1;simp [List.extract_eq_take_drop]
  simp only [hd,qn,b8] at hv;subst hv;simp [sizeOf,typeInfo,hi,c]
theorem ajN{t:TypeId}{k n bytes off:Nat}{i:Array Field}{f:Field}{cs:w9}
  (j:P.underlying t=some (.struct i)) (l:i[k]? =some f) (e:f.type=t') (h:f.offset=off) (c:P.underlying t'=some d) (b:TI P t' n bytes z) (hx:ar E g x (.agg cs.toArray))
  (hv:(if jm d then some (.agg ((cs.drop off).take n).toArray) else cs[off]?)=some v):
  bg P E g ⟨dst,.field t x k,ty,pos,af,gd⟩ w v:=
 λn' a o m=>by subst e;subst h;have hp:=aaw (w:=w) c b hv;simp only [execOp,hx n' a o m,Instr.field,Sem.run_bind,run_underlying j,Result.andThen_ok,l,asAgg,Sem.run_pure,hp]
theorem ajb{t:TypeId}{b:List (Nat×Operand)}(hx:gG E g (b.map (·.2)) vs)
  (hb:∀w:World,(Instr.build t ((b.map (·.1)).zip vs).toArray).run P w= .ok v w):
  bg P E g ⟨dst,.build t b.toArray,ty,pos,af,gd⟩ w v:=
 λn' a d c=>by
  have e:(b.map λp=>(p.1,a.eval p.2))=(b.map (·.1)).zip vs:=by
   have h:=hx.map d c;rw [qG] at h;subst h;clear hx hb
   induction b with
   |nil=>rfl
   |cons p ps ih=>simp [ih]
  simp only [execOp,List.map_toArray];have f:(b.map λx:Nat×Operand=>match x with|(i,x)=>(i,a.eval x))=(b.map (·.1)).zip vs:=e;rw [f];simp [hb]
def QU(v:Value)(i j:Int)(n:Nat)(v':Value):Prop:=
 ∃ad len cap,v= .slice ad len cap/\0<=i/\i<=j/\j<=(len:Nat)/\len<=cap/\
  v'= .slice (if cap=i.toNat then ad else ad.map (·.add (i.toNat*n))) (j.toNat-i.toNat) (cap-i.toNat)
def MO(v:Value)(i j k:Int)(n:Nat)(v':Value):Prop:=
 ∃ad len cap,v= .slice ad len cap/\0<=i/\i<=j/\j<=k/\k<=(len:Nat)/\len<=cap/\
  v'= .slice (if k.toNat=i.toNat then ad else ad.map (·.add (i.toNat*n))) (j.toNat-i.toNat) (k.toNat-i.toNat)
def bD{α:Type}(xs:List α)(i j:Int):List α:=(xs.drop i.toNat).take (j.toNat-i.toNat)
def jO(i j k:Int)(n:Nat):Bool:=decide (0<=i)&&decide (i<=j)&&decide (j<=k)&&decide (k<=n)
theorem ajw{j k:Int}{n:Nat}:jO i j k n=true↔((0<=i/\i<=j)/\j<=k)/\k<=n:=by simp [jO]
theorem bQ.sub{M:Nat->Prop}{off cap:Nat}{cs:w5}{e':TypeId}{fr:Nat×Nat}{xs:List α}{i m:Nat}{j:Nat}(g:¬M b)(hb:w.heap[b]? =some (.cells cs e' fr))(h:xs.length<=cap)
  (p:off+cap*A.n<=cs.size) (k:cL A M w ((cs.toList.drop off).take (xs.length*A.n)) xs) (t:i<=j) (s:j<=xs.length) (r:j<=m) (o:m<=cap):
  bQ A M w (.slice (if m=i then some ⟨b,off,none⟩ else (some (⟨b,off,none⟩:Addr)).map (·.add (i*A.n))) (j-i) (m-i)) ((xs.drop i).take (j-i)):=by
 have a:((xs.drop i).take (j-i)).length=j-i:=by rw [b0,cq];omega
 by_cases c:m=i
 .rw [lk c];have e:j-i=0:=by omega
  refine .inr ⟨b,off,m-i,cs,e',fr,by rw [a],g,hb,by rw [a];omega,?_,?_⟩
  .have:(m-i)*A.n<=cap*A.n:=ed _ (by omega);omega
  .have:((xs.drop i).take (j-i))=[]:=by rw [e];rfl
   rw [this];simpa using (cL.nil (A:=A) (M:=M) (w:=w))
 .rw [j0 c];have d:(⟨b,off,none⟩:Addr).add (i*A.n)=⟨b,off+i*A.n,none⟩:=by unfold Addr.add;split <;> simp_all
  refine .inr ⟨b,off+i*A.n,m-i,cs,e',fr,by rw [a];simp [d],g,hb,by rw [a];omega,?_,?_⟩
  .have q:i*A.n+(m-i)*A.n=m*A.n:=by rw [<-p8];congr 1;omega
   have f:m*A.n<=cap*A.n:=ed _ o;omega
  .have f:=(k.drop i).take (j-i);rw [qc,mj,n7] at f;rw [a];have l:(j-i)*A.n<=xs.length*A.n-i*A.n:=by rw [<-Nat.sub_mul];exact ed _ (by omega)
   rwa [c8 l] at f
theorem bQ.cut{M:Nat->Prop}{xs:List α}{j:Int}(h:bQ A M w v xs)(hc:db i j xs.length=true):
  ∃v',QU v i j A.n v'/\bQ A M w v' (bD xs i j):=by
 obtain ⟨⟨m,l⟩,d⟩:=Bn.1 hc;rcases h with ⟨⟨o,rfl⟩,rfl⟩|⟨b,off,cap,cs,e',fr,rfl,g,hb,a,e,k⟩
 .have f:j=0:=by simp at d;omega
  have c:i=0:=by omega
  subst f;subst c;exact ⟨_,⟨o,0,0,rfl,by omega,by omega,by simp,bb _,rfl⟩,.inl ⟨⟨_,rfl⟩,by simp [bD]⟩⟩
 .exact ⟨_,⟨some ⟨b,off,none⟩,xs.length,cap,rfl,m,l,d,a,rfl⟩,bQ.sub g hb a e k (by omega) (by omega) (by omega) (bb _)⟩
theorem bQ.arp{M:Nat->Prop}{xs:List α}{j k:Int}(h:bQ A M w v xs)(hc:jO i j k xs.length=true):
  ∃v',MO v i j k A.n v'/\bQ A M w v' (bD xs i j):=by
 obtain ⟨⟨⟨q,p⟩,o⟩,d⟩:=ajw.1 hc;rcases h with ⟨⟨r,rfl⟩,rfl⟩|⟨b,off,cap,cs,e',fr,rfl,l,hb,a,e,m⟩
 .have f:k=0:=by simp at d;omega
  have g:j=0:=by omega
  have c:i=0:=by omega
  subst f;subst g;subst c;exact ⟨_,⟨r,0,0,rfl,by omega,by omega,by omega,by simp,bb _,rfl⟩,.inl ⟨⟨_,rfl⟩,by simp [bD]⟩⟩
 .exact ⟨_,⟨some ⟨b,off,none⟩,xs.length,cap,rfl,q,p,o,d,a,rfl⟩,bQ.sub l hb a e m (by omega) (by omega) (by omega) (by omega)⟩
theorem DG{r:Value}{j:Int}{lo hi:Option Operand}{t:TypeId}{n bytes len:Nat}
  (m:P.underlying t=some (.slice e)) (p:TI P e n bytes z) (hx:ar E g x v) (q:g=true->O5 v len)
  (l:match lo with|none=>i=0|some y=>∃k,ar E g y (.int k i)) (c:match hi with|none=>j=len|some y=>∃k,ar E g y (.int k j))
  (hc:g=true->QU v i j n r):bg P E g ⟨dst,.slice t x lo hi none,ty,pos,af,gd⟩ w r:=by
 cases A:g
 .intro n' a d h;cases h
 .subst A;obtain ⟨J,b,u,_,_⟩:=p.out;obtain ⟨N,s,cap,rfl,F,D,M,L,rfl⟩:=hc rfl;obtain ⟨_,_,q⟩:=q rfl;cases q;intro n' a d A;have K:i<=((j.toNat:Nat):Int):=by omega
  have C:j<=(cap:Nat):=by omega
  have B:0<=j:=by omega
  have G:((j.toNat:Nat):Int)=j:=by omega
  cases lo with
  |none=>
   subst l;cases hi with
   |none=>
    subst c;simp [execOp,hx n' a d rfl,Instr.sliceAt,Instr.slice,Instr.sliceBounds,run_underlying m,sizeOf,typeInfo,b]
   |some y=>
    obtain ⟨k,o⟩:=c;simp [execOp,hx n' a d rfl,o n' a d rfl,Instr.sliceAt,Instr.slice,Instr.sliceBounds,Instr.sliceBound,asIntOf,run_underlying m,sizeOf,typeInfo,b,B,C]
  |some H=>
   obtain ⟨I,f⟩:=l;cases hi with
   |none=>
    subst c;simp [execOp,hx n' a d rfl,f n' a d rfl,Instr.sliceAt,Instr.slice,Instr.sliceBounds,Instr.sliceBound,asIntOf,run_underlying m,sizeOf,typeInfo,b,u,F,D]
   |some y=>
    obtain ⟨k,o⟩:=c;simp [execOp,hx n' a d rfl,f n' a d rfl,o n' a d rfl,Instr.sliceAt,Instr.slice,Instr.sliceBounds,Instr.sliceBound,asIntOf,run_underlying m,sizeOf,typeInfo,b,u,F,B,C,D,G]
theorem Sd{p:Operand}{q:Value}{j k:Int}{J:IntKind}{lo hi:Option Operand}{t:TypeId}{n bytes len:Nat}
  (u:P.underlying t=some (.slice e)) (m:TI P e n bytes z) (hx:ar E g x v) (o:g=true->O5 v len)
  (c:match lo with|none=>i=0|some y=>∃k,ar E g y (.int k i)) (f:match hi with|none=>False|some y=>∃k,ar E g y (.int k j)) (F:ar E g p (.int J k))
  (hc:g=true->MO v i j k n q):bg P E g ⟨dst,.slice t x lo hi (some p),ty,pos,af,gd⟩ w q:=by
 cases A:g
 .intro n' a b h;cases h
 .subst A;obtain ⟨T,d,K,_,_⟩:=m.out;obtain ⟨W,r,cap,rfl,N,M,H,L,G,rfl⟩:=hc rfl;obtain ⟨_,_,o⟩:=o rfl;cases o;intro n' a b A;have V:i<=((j.toNat:Nat):Int):=by omega
  have D:k<=(cap:Nat):=by omega
  have C:0<=j:=by omega
  have B:0<=k:=by omega
  have U:j<=((k.toNat:Nat):Int):=by omega
  have O:((j.toNat:Nat):Int)=j:=by omega
  have I:((k.toNat:Nat):Int)=k:=by omega
  cases hi with
  |none=>exact f.elim
  |some y=>
   obtain ⟨S,s⟩:=f;cases lo with
   |none=>
    subst c;simp [execOp,hx n' a b rfl,s n' a b rfl,F n' a b rfl,Instr.sliceAt,Instr.slice,Instr.sliceBounds,Instr.sliceBound,asIntOf,run_underlying u,sizeOf,typeInfo,d,C,B,D,H,I]
   |some Q=>
    obtain ⟨R,l⟩:=c;simp [execOp,hx n' a b rfl,l n' a b rfl,s n' a b rfl,F n' a b rfl,Instr.sliceAt,Instr.slice,Instr.sliceBounds,Instr.sliceBound,asIntOf,run_underlying u,sizeOf,typeInfo,d,K,N,M,C,B,D,H,O,I]
end
section
variable {P : Program} {E : Env} {w : World}
theorem amH(a:Array TypeId)(t:TypeId)(k:IntKind)(x y:Int)(w:World):(Builtin.max_ a t #[.int k x,.int k y]).run P w= .ok (.int k (max x y)) w:=by rw [run_max_int2];congr 2;split <;> omega
theorem als(a:Array TypeId)(t:TypeId)(k:IntKind)(x y:Int)(w:World):(Builtin.min_ a t #[.int k x,.int k y]).run P w= .ok (.int k (min x y)) w:=by rw [run_min_int2];congr 2;split <;> omega
theorem mz{g:Bool}{dst:xc}{ty:TypeId}{pos:String}{af:x3}{gd:Option (Nat×Bool)}{m:Nat}{t:TypeId}(c:P.underlying t=some (.slice e))(hx:ar E g x v)(d:g=true->O5 v m):
  bg P E g ⟨dst,.call ⟨.builtin .len,#[x],#[t]⟩,ty,pos,af,gd⟩ w (.int .i64 m):=λn' a f b=>Dr c hx (d b) n' a f b
theorem Zx(P:Program)(w:World)(d:Nat)(t:TypeId)(a b:aE)(h:P.underlying t=some .string):(Op.equalIn (d+1) t (S a) (S b)).run P w= .ok (a==b) w:=by unfold S;rw [run_equalIn_string w d t _ _ h,HI,HI]
theorem agk{t:TypeId}{cs:w9}{off:Nat}(a:P.underlying t=some d)(hd:jm d=false)(hv:cs[off]? =some v):(part t cs.toArray off).run P w= .ok v w:=by unfold part;rw [Sem.run_bind,xd a];simp [hd,hv]
theorem amT{d:Nat}{xs ys:w5}{f:Field}{e:List Field}{a b:Value}{r s:Bool}(g:(f.name != "_")=true) (k:(part f.type xs f.offset).run P w= .ok a w) (j:(part f.type ys f.offset).run P w= .ok b w)
  (i:(Op.equalIn d f.type a b).run P w= .ok r w) (h:(Op.eqFields d xs ys e).run P w= .ok s w):(Op.eqFields d xs ys (f::e)).run P w= .ok (r&&s) w:=by
 have c:f.name≠ "_" :=by simpa using g
 simp only [Op.eqFields,lk c,Sem.run_bind,k,j,i,Result.andThen_ok];cases r
 .rfl
 .simpa using h
theorem aoz{d:Nat}{xs ys:w5}:(Op.eqFields d xs ys []).run P w= .ok true w:=rfl
end
def pH(v:Value)(i:Int)(n:Nat):Addr:=match v with
 | .slice (some a) _ _=>a.add (i.toNat*n)
 |_=>⟨0,0,none⟩
theorem x9.pH{n:Nat}(h:x9 v i n p):p=pH v i n:=by obtain ⟨a,len,cap,rfl,_,_,rfl⟩:=h;rfl
theorem bQ.atA{M:Nat->Prop}{w:World}{xs:List α}{x:α}(h:bQ A M w v xs)(hx:idx xs i=some x):
  x9 v i A.n (pH v i A.n)/\∃vs,bM w (pH v i A.n) vs/\A.rd M w vs x/\ ¬M (pH v i A.n).block:=by
 have f:∀p,x9 v i A.n p-> ¬M p.block:=by
  intro p hp;rcases h with ⟨⟨a0,rfl⟩,rfl⟩|⟨b,off,cap,cs,e,fr,rfl,g,_⟩
  .obtain ⟨a,l,c,hv,m,d,_⟩:=hp;simp only [Value.slice.injEq] at hv;omega
  .obtain ⟨a,l,c,hv,_,_,rfl⟩:=hp;cases hv;unfold Addr.add;split <;> exact g
 obtain ⟨p,vs,d,k,j⟩:=h.at_ hx;have:=d.pH;subst this;exact ⟨d,vs,k,j,f _ d⟩
theorem bK.atA{M:Nat->Prop}{w:World}{xs:List α}{R:x8}{x:α}(h:bK A e M w v xs R)(hx:idx xs i=some x):
  x9 v i A.n (pH v i A.n)/\∃vs,bM w (pH v i A.n) vs/\A.rd M w vs x:=by
 obtain ⟨p,vs,a,c,b⟩:=bK.atG (g:=true) (λ_=>h) (λ_=>hx);have:=(a rfl).pH;subst this;exact ⟨a rfl,vs,c rfl,b rfl⟩
section
variable {P : Program} {E : Env} {w : World} {dst : xc} {ty : TypeId} {pos : String} {af : x3}
theorem dY(w:World)(o:Obj):Ext w (w.alloc o):=⟨rfl,rfl,rfl,by simp,λb hb=>heap_alloc_old w o hb⟩
theorem IX{t:TypeId}{size bytes:Nat}(c:TI P t size bytes z)(d:z.cells=zs.toArray):
  kM P E ⟨dst,.alloc t,ty,pos,af,none⟩ w (.pointer (some ⟨w.heap.size,0,none⟩)) (w.alloc (.cells zs.toArray t)):=λn' a f=>by
 obtain ⟨e,hi,_,_,b⟩:=c.out;simp [execOp,Instr.alloc,zeroValue,typeInfo,hi,b,newVar,newRow,d]
theorem amw{t:TypeId}(hx:ar E true x v)(b:v.cells=zs.toArray):
  kM P E ⟨dst,.box t x,ty,pos,af,none⟩ w (.pointer (some ⟨w.heap.size,0,none⟩)) (w.alloc (.cells zs.toArray t)):=λn' a c=>by
 simp [execOp,Instr.box,newVar,newRow,hx n' a c rfl,b]
def oR(size len:Nat)(z:w9)(parts:List (Nat×Value)):Option w5:=
 Instr.fill (λi=>some (i*size,size)) ((Array.range (len*size)).map (z.toArray[· %z.length]!)) parts
theorem aiS{b:List (Nat×Operand)}(hx:gG E true (b.map (·.2)) vs){n:Nat}{a:Act}(c:Fits n E a):
  (b.map λx:Nat×Operand=>match x with|(i,x)=>(i,a.eval x))=(b.map (·.1)).zip vs:=by
 have h:=hx.map c rfl;rw [qG] at h;subst h;clear hx
 induction b with
 |nil=>rfl
 |cons p ps ih=>simp [ih]
theorem nT{t:TypeId}{len size bytes:Nat}{cells:w9}{b:List (Nat×Operand)}
  (l:P.underlying t=some (.slice e)) (g:TI P e size bytes z) (k:z.cells=zs.toArray) (c:Nat.blt 0 (len*size)=true) (d:Nat.ble (len*size) 16777216=true)
  (hx:gG E true (b.map (·.2)) vs) (hc:oR size len zs ((b.map (·.1)).zip vs)=some cells.toArray):
  kM P E ⟨dst,.buildSlice t len b.toArray,ty,pos,af,none⟩ w (.slice (some ⟨w.heap.size,0,none⟩) len len) (w.alloc (.cells cells.toArray e)):=λn' a n=>by
 obtain ⟨q,hi,m,_,f⟩:=g.out;have p:=aiS hx n;have o:¬len*size=0:=by
  have:0<len*size:=by simpa using c
  omega
 have j:¬(len*size>2^24):=by have:=cj d;omega
 have h:Instr.fill (λi=>some (i*size,size)) ((Array.range (len*size)).map (z.cells[· %z.cells.size]!)) ((b.map (·.1)).zip vs)=some cells.toArray:=by rw [k];simpa [oR] using hc
 simp only [execOp,List.map_toArray,p,Instr.buildSlice,Sem.run_bind,run_underlying l,Result.andThen_ok,sizeOf,typeInfo,run_program,hi,Sem.run_pure,m,j0 j,j0 o,zeroValue,f,h,newRow,run_newObj];rfl
theorem sE{t:TypeId}{size bytes:Nat}(d:P.underlying t=some (.slice e))(b:TI P e size bytes z):
  kM P E ⟨dst,.buildSlice t 0 #[],ty,pos,af,none⟩ w (.slice (some ⟨w.heap.size,0,none⟩) 0 0) (w.alloc (.cells ([]:w9).toArray e)):=λn' a i=>by
 obtain ⟨g,hi,h,_,c⟩:=b.out;have f:(Array.range 0).map (λ_=>(default:Value))= #[]:=Array.eq_empty_of_size_eq_zero (by simp);simp [execOp,Instr.buildSlice,run_underlying d,sizeOf,typeInfo,hi,Instr.fill,newRow,f]
theorem bQ.fresh{M:Nat->Prop}{len:Nat}{cells:w9}{xs:List α}(hb:eM w b e cells)(d:¬M b)
  (c:xs.length=len) (a:cL A M w cells xs):bQ A M w (.slice (some ⟨b,0,none⟩) len len) xs:=
 .inr ⟨b,0,len,cells.toArray,e,(0,0),by rw [c],d,hb,by omega,by simp [a.1,c],by rw [l9,<-a.1];simpa using a⟩
theorem gb.fresh{M:Nat->Prop}{len:Nat}{cells:w9}{xs:List α}(hb:eM w b e cells)
  (c:xs.length=len) (d:Nat.ble len 9223372036854775807=true) (a:cL A M w cells xs):gb A e M w (.slice (some ⟨b,0,none⟩) len len) xs:=
 ⟨cells,⟨a.1,.inr ⟨b,0,len,cells.toArray,by rw [c],hb,by omega,by simpa [maxLen] using cj d,⟨by simp [a.1,c],.inl rfl⟩,by simp [<-a.1]⟩⟩,a⟩
def mW(vs:w9)(k:Nat)(us:w9):w9:=vs.take k++us++vs.drop (k+us.length)
theorem ag6{t:TypeId}{k:Nat}{us d:w9}{size bytes:Nat}(h:TI P t size bytes z)
  (hx:ar E true x (.pointer (some ⟨b,k,none⟩))) (o:ar E true y v) (hv:v.cells=us.toArray) (l:us.length=size)
  (r:us.all Value.oneCell'=true) (hb:eM w b e vs) (q:Nat.ble (k+us.length) vs.length=true) (g:mW vs k us=d):
  P3 P E ⟨dst,.store t x y,ty,pos,af,none⟩ w (w.setRow b d.toArray)/\js [b] w (w.setRow b d.toArray)/\eM (w.setRow b d.toArray) b e d:=by
 obtain ⟨u,hi,p,_,_⟩:=h.out;have i:=cj q;have f:=run_storeCells_at P b k e us 0 vs.toArray w hb (by simpa using i) (by simpa using r);refine ⟨λn a m=>?_,⟨rfl,rfl,rfl,by simp,λc _ j=>setRow_other w b c _ (by simpa using j)⟩,setRow_heap w b _ _ e (0,0) hb⟩;have s:(vs.take k++us++vs.drop (k+us.length))=d:=g;simp only [qj] at f;simp [execOp,Instr.storeAt,Instr.sureAddr,hx n a m rfl,o n a m rfl,storeVar,sizeOf,typeInfo,hi,p,hv,l,f];rw [<-s];simp [l]
theorem Jq{M:Nat->Prop}{t:TypeId}{k:Nat}{r:Value}{xs:List α}{u:α}{us d:w9}{size bytes:Nat}(Q:TI P t size bytes z)
  (hx:ar E true x (.pointer (some (p.add k)))) (hy:ar E true y v) (hv:v.cells=us.toArray) (R:us.length=size) (Z:us.all Value.oneCell'=true) (X:x9 r i A.n p) (ho:gb A e M w r xs) (hC:bM w p vs) (hvl:vs.length=A.n)
  (D:Nat.ble (k+us.length) vs.length=true) (N:mW vs k us=d) (O:A.rd M w d u) (hM:∀b∈dv r,M b):
  ∃w',P3 P E ⟨dst,.store t x y,ty,pos,af,none⟩ w w'/\js (dv r) w w'/\w'.heap.size=w.heap.size/\∀M',Mv M w M' w'->gb A e M' w' r (xs.set i.toNat u):=by
 obtain ⟨i',hi,hs,_,_⟩:=Q.out;obtain ⟨ad,len,cap,rfl,h0,h1,rfl⟩:=X;obtain ⟨cells,⟨hcl,C⟩,hA⟩:=ho;rcases C with ⟨H,_⟩|⟨g,off,cap',cur,s,V,hc,hm,F,ht⟩
 .cases H
 .cases s;have hcs1:=F.1;have D:=cj D;have U:=A.len O;have m:i.toNat<xs.length:=by omega
  have I:((⟨g,off,none⟩:Addr).add (i.toNat*A.n))=⟨g,off+i.toNat*A.n,none⟩:=by unfold Addr.add;split <;> simp_all
  rw [I] at hx hC;have q:((⟨g,off+i.toNat*A.n,none⟩:Addr).add k)=⟨g,off+i.toNat*A.n+k,none⟩:=by unfold Addr.add;split <;> simp_all
  rw [q] at hx;have e3:(i.toNat+1)*A.n=i.toNat*A.n+A.n:=qX ..;have W:off+i.toNat*A.n+A.n<=cur.size:=by have:(i.toNat+1)*A.n<=cap*A.n:=ed _ (by omega);omega
  have B:=run_storeCells_at P g (off+i.toNat*A.n+k) e us 0 cur w V (by simp only [qj];omega) (by simpa using Z);simp only [qj] at B;generalize K:cur.toList.drop off=L at ht;have f:L.length=cur.size-off:=by rw [<-K];simp
  -- the element's cells
  have h:vs=(L.drop (i.toNat*A.n)).take A.n:=by
   obtain ⟨_,cs,t',fr,hb,o⟩:=hC;rw [V] at hb;cases hb;apply List.ext_getElem
   .simp only [b0,cq,f];omega
   .intro j h2 h3;have:=o j _ (cb h2);have hj:j<A.n:=by omega
    subst K;rw [q4,q5,q5,Array.getElem_toList];simp only [<-qs];rw [Array.getElem?_eq_getElem (by show off+i.toNat*A.n+j<cur.size;omega)] at this;exact (qa this).symm
  have J:cur.toList.take (off+i.toNat*A.n+k)++us++cur.toList.drop (off+i.toNat*A.n+k+us.length)=cur.toList.take off++(L.take (i.toNat*A.n)++d++L.drop ((i.toNat+1)*A.n)):=by
   have e1:cur.toList.take (off+i.toNat*A.n+k)=cur.toList.take off++(L.take (i.toNat*A.n)++vs.take k):=by rw [h,<-K,n7,qs,List.take_add,List.take_add,mj,c8 (by omega)]
   have e2:cur.toList.drop (off+i.toNat*A.n+k+us.length)=vs.drop (k+us.length)++L.drop ((i.toNat+1)*A.n):=by
    have e5:cur.toList.drop (off+i.toNat*A.n+k+us.length)=L.drop (i.toNat*A.n+(k+us.length)):=by rw [<-K,mj];congr 1;omega
    rw [e5,h,qc,mj,e3];have e4:L.drop (i.toNat*A.n+A.n)=(L.drop (i.toNat*A.n+(k+us.length))).drop (A.n-(k+us.length)):=by rw [mj];congr 1;omega
    rw [e4,qO]
   rw [e1,e2,<-N];simp [mW]
  have l:P3 P E ⟨dst,.store t x y,ty,pos,af,none⟩ w (w.setRow g (cur.toList.take (off+i.toNat*A.n+k)++us++cur.toList.drop (off+i.toNat*A.n+k+us.length)).toArray):=λn a hf=>by
   have S:¬(us.toArray.size≠i'.size):=by simp [R,hs]
   simp only [execOp,Instr.storeAt,Instr.sureAddr,hx n a hf rfl,hy n a hf rfl,storeVar,sizeOf,typeInfo,hi,hv,Sem.run_bind,Sem.run_pure,Result.andThen_ok,run_program,j0 S,B]
  rw [J] at l;have G:js [g] w (w.setRow g (cur.toList.take off++(L.take (i.toNat*A.n)++d++L.drop ((i.toNat+1)*A.n))).toArray):=
   ⟨rfl,rfl,rfl,by simp,λc _ Y=>setRow_other w g c _ (by simpa using Y)⟩
  refine ⟨_,l,G,by simp,λM' T=>?_⟩;refine ⟨cells.take (i.toNat*A.n)++d++cells.drop ((i.toNat+1)*A.n),⟨?_,.inr ⟨g,off,cap,_,by simp,setRow_heap w g cur _ e _ V,by simpa using hc,hm,⟨?_,F.2⟩,?_⟩⟩,((hA.set m O).mv T)⟩
  .exact (hA.set m O).1
  .simp only [mi,b9,b0,cq,ch,f];omega
  .have e6:(cur.toList.take off++(L.take (i.toNat*A.n)++d++L.drop ((i.toNat+1)*A.n))).drop off=L.take (i.toNat*A.n)++d++L.drop ((i.toNat+1)*A.n):=by
    have e7:(cur.toList.take off).length=off:=by rw [b0,ch];omega
    rw [rM,q8 (by omega),e7,Nat.sub_self];rfl
   rw [s3,<-ht,e6];have hk:i.toNat*A.n+A.n<=xs.length*A.n:=by rw [<-qX];exact ed _ m
   have e3:(i.toNat+1)*A.n=i.toNat*A.n+d.length:=by rw [U,p8];omega
   rw [e3,qQ,qQ,n7,n7,qc];have e4:min (xs.length*A.n) (i.toNat*A.n)=i.toNat*A.n:=by omega
   have e5:min (i.toNat*A.n) (xs.length*A.n)=i.toNat*A.n:=by omega
   rw [e4,e5];congr 1
   .congr 1;rw [hW];simp only [b0,f];omega
   .congr 1;simp only [b9,b0,f];omega
def aG(k bytes:Nat):Bool:=Nat.ble (k*bytes) 140737488355328&&Nat.ble k 9223372036854775807
theorem afZ{l ns:w9}{off m:Nat}(d:m=((l.drop off).take m).length)(e:off+m+ns.length<=l.length):
  ((l.take (off+m)++ns++l.drop (off+m+ns.length)).drop off).take ((l.drop off).take m++ns).length=(l.drop off).take m++ns:=by
 have c:l.take (off+m)=l.take off++(l.drop off).take m:=List.take_add;have b:(l.take off).length=off:=by rw [b0];omega
 have a:(l.take off++(l.drop off).take m++ns++l.drop (off+m+ns.length)).drop off=(l.drop off).take m++ns++l.drop (off+m+ns.length):=by have:=List.drop_left (l₁:=l.take off) (l₂:=(l.drop off).take m++ns++l.drop (off+m+ns.length));rw [b] at this;simpa only [aO] using this
 rw [c,a];exact q0
theorem PO(t ty e:TypeId)(i:TypeInfo)(o:P.underlying t=some (.slice e))(hi:P.info? e=some i)
  (g off d f:Nat) (cur:w5) (q:w.heap[g]? =some (.cells cur e (0,0)))
  (a:Addr) (m c:Nat) (b:w9) (p:b.length=m*i.size) (k:∀j u,b[j]? =some u->w.cell? (a.add j)=some u) (s:∀u∈b,u.oneCell'=true)
  (h:d+m<=f) (n:off+d*i.size+b.length<=cur.size):
  (Builtin.append_ #[t,t] ty #[.slice (some ⟨g,off,none⟩) d f,.slice (some a) m c]).run P w=
   .ok (.slice (some ⟨g,off,none⟩) (d+m) f) (w.setRow g (cur.toList.take (off+d*i.size)++b++cur.toList.drop (off+d*i.size+b.length)).toArray):=by
 have r:=run_firstCells_some (P:=P) w i.size m a m c b p k;have l:=run_storeCells_at P g (off+d*i.size) e b 0 cur w q (by simpa using n) s;simp only [qj] at l;simp [Builtin.append_,run_underlying o,sizeOf,typeInfo,hi,Builtin.lenOf,h,r,Addr.add_lit,l]
theorem GQ{M:Nat->Prop}(t D e:TypeId)(i:TypeInfo)(z:Value)(J:P.underlying t=some (.slice e))(hi:P.info? e=some i)(hz:i.zero=some z)(F:i.size=A.n)
  (X:z.cells.size=A.n) {v u:Value} {xs ys:List α} (ho:gb A e M w v xs) (hy:bQ A M w u ys) (hM:∀b∈dv v,M b) (l:aG (xs.length+ys.length) i.bytes=true) (_hpos:0<A.n):
  ∃v' w',(Builtin.append_ #[t,t] D #[v,u]).run P w= .ok v' w'/\js (dv v) w w'/\(∀b∈dv v',b<w'.heap.size/\(b∈dv v\/w.heap.size<=b))/\
   (∀M',Mv M w M' w'->gb A e M' w' v' (xs++ys)):=by
 simp only [aG,ae] at l;have W:=cj l.1;have V:=cj l.2;have U:=ho.lt;obtain ⟨cells,f,R⟩:=ho
 -- the new cells
 have T:(u= .slice none 0 0/\ys=[])\/∃I c d,u= .slice (some I) ys.length c/\d.length=ys.length*A.n/\(∀j x,d[j]? =some x->w.cell? (I.add j)=some x)/\cL A M w d ys:=by
  rcases hy with ⟨⟨uo,rfl⟩,rfl⟩|⟨b,off,cap,cs,e',fr,rfl,hMb,hb,hc,hof,B⟩
  .cases uo with
   |none=>exact .inl ⟨rfl,rfl⟩
   |some I=>exact .inr ⟨I,0,[],rfl,by simp,by simp,cL.nil⟩
  .refine .inr ⟨⟨b,off,none⟩,cap,_,rfl,B.1,λj x G=>?_,B⟩;have key:bM w ⟨b,off,none⟩ ((cs.toList.drop off).take (ys.length*A.n)):=⟨rfl,cs,e',fr,hb,λj u G=>by
    rw [kR] at G;split at G
    .simpa [j5] using G
    .cases G⟩
   exact key.cell G
 rcases T with ⟨rfl,rfl⟩|⟨I,c,d,rfl,q,K,L⟩
 . -- nothing is appended
  refine ⟨v,w,?_,(Ext.refl w).rz _,λb hb=>⟨?_,.inl hb⟩,λM' m=>⟨cells,?_,?_⟩⟩
  .rcases f.2 with ⟨rfl,h0⟩|⟨g,off,cap,cur,rfl,Q,p,_⟩
   .simp [Builtin.append_,run_underlying J,sizeOf,typeInfo,hi,Builtin.lenOf,Builtin.firstCells]
   .simp [Builtin.append_,run_underlying J,sizeOf,typeInfo,hi,Builtin.lenOf,Builtin.firstCells,storeCells,p]
  .exact U b hb
  .simpa using f
  .simpa using R.mv m
 .have r:=R.append L;have S:=L.AE;by_cases hm0:ys.length=0
  . -- a slice without elements
   have Y:ys=[]:=cp hm0;subst Y;have hn0:d=[]:=cp (by simpa using q);subst hn0;refine ⟨v,w,?_,(Ext.refl w).rz _,λb hb=>⟨?_,.inl hb⟩,λM' m=>⟨cells,?_,?_⟩⟩
   .rcases f.2 with ⟨rfl,h0⟩|⟨g,off,cap,cur,rfl,Q,p,_⟩
    .simp [Builtin.append_,run_underlying J,sizeOf,typeInfo,hi,Builtin.lenOf,Builtin.firstCells,loadCells,loadCellsFrom]
    .simp [Builtin.append_,run_underlying J,sizeOf,typeInfo,hi,Builtin.lenOf,Builtin.firstCells,storeCells,loadCells,loadCellsFrom,p]
   .exact U b hb
   .simpa using f
   .simpa using R.mv m
  .have y:∀(iu:Nat),iu<xs.length+ys.length->
     (w.drew.alloc (.cells (cells.toArray++d.toArray++Builtin.zeroCells z.cells (grownCap w (xs.length+ys.length) iu e-(xs.length+ys.length))) e)).ownsRow 0 e A.n
      (.slice (some ⟨w.heap.size,0,none⟩) (xs++ys).length (grownCap w (xs.length+ys.length) iu e)) (xs++ys).length (cells++d):=by
    intro iu hold;have hge:=grownCap_ge w (xs.length+ys.length) iu e;have O:grownCap w (xs.length+ys.length) iu e<=maxLen:=grownCap_le_maxLen w _ iu e (by simpa [maxLen] using V);refine ⟨r.1,.inr ⟨w.heap.size,_,_,rfl,qd _,heap_alloc_new w.drew _,by simpa using hge,O,?_,?_⟩⟩
    .simp only [qo,mi,size_zeroCells,X,R.1,q,<-p8];congr 1;omega
    .simp only [qT,aO];rw [<-aO,<-r.1];exact q0
   have H:∀o C,js C w (w.drew.alloc o):=λo C=>⟨rfl,rfl,rfl,by simp,λb hb _=>heap_alloc_old w.drew o hb⟩;rcases f.2 with ⟨rfl,h0⟩|⟨g,off,cap,cur,rfl,Q,p,O,N,k⟩
   .have Z:xs=[]:=cp h0;subst Z;have hc0:cells=[]:=cp (by simpa using f.1);subst hc0;have B:=run_append_nil (P:=P) w t D e i z J hi hz I ys.length c d (by rw [F];exact q) K (by omega) (by simp at V;omega) (by simp at W;omega);have E:=y 0 (by simp;omega);simp only [gj,hV,mo,qY] at E B;refine ⟨_,_,B,H _ _,λb hb=>?_,λM' m=>⟨_,.of (by simpa using E),by simpa using L.mv m⟩⟩;have:b=w.heap.size:=by simpa [dv,Value.ownBlock] using hb
    subst this;exact ⟨by simp,.inr (bb _)⟩
   .by_cases h:xs.length+ys.length<=cap
    .have s:off+xs.length*i.size+d.length<=cur.size:=by have:(xs.length+ys.length)*A.n<=cap*A.n:=ed _ h;rw [p8] at this;have:=N.1;rw [F,q];omega
     have B:=PO (P:=P) (w:=w) t D e i J hi g off xs.length cap cur Q I ys.length c d (by rw [F];exact q) K S h s;rw [F] at B;refine ⟨_,_,B,⟨rfl,rfl,rfl,by simp,λb hb hbg=>setRow_other w g b _ (by simpa [dv,Value.ownBlock] using hbg)⟩,λb hb=>?_,λM' m=>⟨cells++d,⟨r.1,.inr ⟨g,off,cap,_,by simp,setRow_heap w g cur _ e _ Q,by simpa using h,O,⟨?_,N.2⟩,?_⟩⟩,r.mv m⟩⟩
     .have:b=g:=by simpa [dv,Value.ownBlock] using hb
      subst this;exact ⟨by simpa using (Array.getElem?_eq_some_iff.1 Q).1,.inl (by simp [dv,Value.ownBlock])⟩
     .simp only [mi,b9,b0,cq,ch];rw [F] at s;have:=N.1;omega
     .rw [<-r.1,<-k];exact afZ (by rw [k];exact R.1.symm) (by rw [F] at s;simp only [ch];omega)
    .have holds:∀j x,cells[j]? =some x->w.cell? ((⟨g,off,none⟩:Addr).add j)=some x:=λj x G=>(DY Q k).cell G;have B:=run_append_grow (P:=P) w t D e i z J hi hz ⟨g,off,none⟩ xs.length cap cells (by rw [F];exact R.1) holds I ys.length c d (by rw [F];exact q) K (by omega) (by omega) (growslice_fits (by omega) W);have E:=y cap (by omega);refine ⟨_,_,B,H _ _,λb hb=>?_,λM' m=>⟨_,.of (by simpa using E),r.mv m⟩⟩;have:b=w.heap.size:=by simpa [dv,Value.ownBlock] using hb
     subst this;exact ⟨by simp,.inr (bb _)⟩
theorem rZ{M:Nat->Prop}(t g e:TypeId)(i:TypeInfo)(z:Value)(s:P.underlying t=some (.slice e))(hi:P.info? e=some i)(I:i.zero=some z)(J:i.size=A.n)
  (y:z.cells.size=A.n) {a0:Option Addr} {u:Value} {ys:List α} (hx:bQ A M w (.slice a0 0 0) []) (O:bQ A M w u ys) (d:aG ys.length i.bytes=true):
  ((Builtin.append_ #[t,t] g #[.slice a0 0 0,u]).run P w= .ok (.slice a0 0 0) w/\ys=[])\/
  ∃v' w',(Builtin.append_ #[t,t] g #[.slice a0 0 0,u]).run P w= .ok v' w'/\Ext w w'/\(∀b∈dv v',b<w'.heap.size/\w.heap.size<=b)/\(∀M',Mv M w M' w'->gb A e M' w' v' ys):=by
 simp only [aG,ae] at d;have G:=cj d.1;have F:=cj d.2;have o:(u= .slice none 0 0/\ys=[])\/∃l c a,u= .slice (some l) ys.length c/\a.length=ys.length*A.n/\(∀j x,a[j]? =some x->w.cell? (l.add j)=some x)/\cL A M w a ys:=by
  rcases O with ⟨⟨N,rfl⟩,rfl⟩|⟨b,off,cap,cs,e',fr,rfl,R,hb,hc,Q,k⟩
  .cases N with
   |none=>exact .inl ⟨rfl,rfl⟩
   |some l=>exact .inr ⟨l,0,[],rfl,by simp,by simp,cL.nil⟩
  .refine .inr ⟨⟨b,off,none⟩,cap,_,rfl,k.1,λj x h=>?_,k⟩;have key:bM w ⟨b,off,none⟩ ((cs.toList.drop off).take (ys.length*A.n)):=⟨rfl,cs,e',fr,hb,λj u h=>by
    rw [kR] at h;split at h
    .simpa [j5] using h
    .cases h⟩
   exact key.cell h
 rcases o with ⟨rfl,rfl⟩|⟨l,c,a,rfl,f,p,q⟩
 .refine .inl ⟨?_,rfl⟩;cases a0 <;> simp [Builtin.append_,run_underlying s,sizeOf,typeInfo,hi,Builtin.lenOf,Builtin.firstCells,storeCells]
 .by_cases C:ys.length=0
  .have B:ys=[]:=cp C;subst B;refine .inl ⟨?_,rfl⟩;cases a0 <;> simp [Builtin.append_,run_underlying s,sizeOf,typeInfo,hi,Builtin.lenOf,Builtin.firstCells,storeCells,loadCells,loadCellsFrom]
  .refine .inr ?_;have D:=grownCap_ge w ys.length 0 e;have E:grownCap w ys.length 0 e<=maxLen:=grownCap_le_maxLen w _ 0 e (by simpa [maxLen] using F);have r:(w.drew.alloc (.cells (a.toArray++Builtin.zeroCells z.cells (grownCap w ys.length 0 e-ys.length)) e)).ownsRow 0 e A.n
      (.slice (some ⟨w.heap.size,0,none⟩) ys.length (grownCap w ys.length 0 e)) ys.length a:=by
    refine ⟨f,.inr ⟨w.heap.size,_,_,rfl,qd _,heap_alloc_new w.drew _,D,E,?_,?_⟩⟩
    .simp only [qo,mi,size_zeroCells,y,f,<-p8];congr 1;omega
    .simp only [qT];rw [<-f];exact q0
   have K:Ext w (w.drew.alloc (.cells (a.toArray++Builtin.zeroCells z.cells (grownCap w ys.length 0 e-ys.length)) e)):=⟨rfl,rfl,rfl,by simp,λb hb=>heap_alloc_old w.drew _ hb⟩;have L:∀b∈dv (.slice (some ⟨w.heap.size,0,none⟩) ys.length (grownCap w ys.length 0 e)),b<(w.drew.alloc (.cells (a.toArray++Builtin.zeroCells z.cells (grownCap w ys.length 0 e-ys.length)) e)).heap.size/\w.heap.size<=b:=λb hb=>by
    have:b=w.heap.size:=by simpa [dv,Value.ownBlock] using hb
    subst this;exact ⟨by simp,bb _⟩
   cases a0 with
   |none=>
    have k:=run_append_nil (P:=P) w t g e i z s hi I l ys.length c a (by rw [J];exact f) p (by omega) (by omega) (by omega);exact ⟨_,_,k,K,L,λM' m=>⟨a,.of r,q.mv m⟩⟩
   |some H=>
    have k:=run_append_grow (P:=P) w t g e i z s hi I H 0 0 [] (by simp) (by intro j v h;simp at h) l ys.length c a (by rw [J];exact f) p (by omega) (by omega) (growslice_fits (by omega) (by simpa using G));simp only [hV,qY] at k;exact ⟨_,_,by simpa using k,K,L,λM' m=>⟨a,.of r,q.mv m⟩⟩
theorem Fl{M:Nat->Prop}{u:Value}{t:TypeId}{bytes:Nat}{R:x8}(D:P.underlying t=some (.slice e))(p:TI P e A.n bytes z)
  (g:z.cells.size=A.n) (k:0<A.n) (hx:ar E true x v) (o:ar E true y u)
  {xs ys:List α} (q:bK A e M w v xs R) (h:bQ A M w u ys) (I:∀b∈R,M b) (c:aG (xs.length+ys.length) bytes=true):
  ∃d R' w',kM P E ⟨dst,.call ⟨.builtin .append,#[x,y],#[t,t]⟩,ty,pos,af,none⟩ w d w'/\js R w w'/\(∀b∈R',b<w'.heap.size/\(b∈R\/w.heap.size<=b))/\∀M',Mv M w M' w'->bK A e M' w' d (xs++ys) R':=by
 obtain ⟨B,l,F,r,C⟩:=p.out;subst r;rcases q with ⟨rfl,q⟩|⟨rfl,rfl,⟨a0,rfl⟩,i⟩
 .obtain ⟨d,w',j,K,H,s⟩:=GQ t ty e B z D l C F g q h I c k;exact ⟨d,dv d,w',(λn' a f=>by simp [execOp,resolve,invoke,builtin,hx n' a f rfl,o n' a f rfl,j]),K,H,λM' m=>bK.of (s M' m)⟩
 .rcases rZ t ty e B z D l C F g i h (by simpa using c) with ⟨j,rfl⟩|⟨d,w',j,J,G,s⟩
  .exact ⟨_,[],w,(λn' a f=>by simp [execOp,resolve,invoke,builtin,hx n' a f rfl,o n' a f rfl,j]),(Ext.refl w).rz _,(λb hb=>by cases hb),λM' m=>bK.empty (i.mv m)⟩
  .exact ⟨d,dv d,w',(λn' a f=>by simp [execOp,resolve,invoke,builtin,hx n' a f rfl,o n' a f rfl,j]),J.rz _,(λb hb=>⟨(G b hb).1,.inr (G b hb).2⟩),λM' m=>bK.of (by simpa using s M' m)⟩
theorem acp(zs:w9):∀m j,j<m*zs.length->((List.replicate m zs).flatten)[j]? =zs[j%zs.length]?
 |0,j,h=>by simp at h
 |m+1,j,h=>by
  rw [qi,List.flatten_cons];by_cases a:j<zs.length
  .rw [cd a,Nat.mod_eq_of_lt a]
  .have b:j-zs.length<m*zs.length:=by rw [qX] at h;omega
   rw [b5 (by omega),acp zs m _ b,Nat.mod_eq_sub_mod (by omega:zs.length<=j)]
theorem Dn(zs:w9)(a:0<zs.length)(m:Nat):((Array.range (m*zs.length)).map (zs.toArray[· %zs.toArray.size]!))=((List.replicate m zs).flatten).toArray:=by
 apply Array.toList_inj.1;apply qp;intro j;by_cases d:j<m*zs.length
 .have b:j%zs.length<zs.length:=sv _ a;rw [acp zs m j d];simp only [Array.toList_map,Array.toList_range,n9,List.getElem?_range d,mi,l7];rw [cb b];simp [b]
 .have c:((List.replicate m zs).flatten).length=m*zs.length:=by simp
  rw [j6 (by simp;omega),j6 (by simp at c ⊢; omega)]
theorem aj4{t:TypeId}{bytes:Nat}{v:IntKind}{l:Int}{g:α}(H:P.underlying t=some (.slice e))(o:TI P e A.n bytes z)
  (F:z.cells=zs.toArray) (j:zs.length=A.n) (C:0<A.n) (hx:ar E true x (.int k l)) (G:ar E true y (.int v l)) (L:decide (0<=l)=true) (b:aG l.toNat bytes=true)
  (i:∀M w,A.rd M w zs g):
  ∃w',kM P E ⟨dst,.makeSlice t x y,ty,pos,af,none⟩ w (.slice (some ⟨w.heap.size,0,none⟩) l.toNat l.toNat) w'/\Ext w w'/\w.heap.size<w'.heap.size/\∀M,gb A e M w' (.slice (some ⟨w.heap.size,0,none⟩) l.toNat l.toNat) (List.replicate l.toNat g):=by
 obtain ⟨f,p,I,q,h⟩:=o.out;subst q;simp only [aG,ae] at b;have J:=cj b.1;have r:=cj b.2;have u:0<=l:=by simpa using L
 have N:((l.toNat:Nat):Int)=l:=by omega
 have s:(f.bytes:Int)*l<=281474976710656:=by
  have K:((f.bytes*l.toNat:Nat):Int)<=281474976710656:=by rw [Nat.mul_comm];omega
  rwa [Int.natCast_mul,N] at K
 have B:=run_make (P:=P) w t e f z H p h k v l l u (Int.le_refl _) s (by omega);have d:∀m M w',cL A M w' ((List.replicate m zs).flatten) (List.replicate m g):=by
  intro m M w'
  induction m with
  |zero=>simpa using cL.nil
  |succ m ih=>rw [qi,List.flatten_cons,qi];exact cL.cons (i M w') ih
 have c:madeCells z.cells (l.toNat*f.size)=((List.replicate l.toNat zs).flatten).toArray:=by rw [F,I,<-j,<-Dn zs (by omega) l.toNat];simp [madeCells]
 rw [c] at B;refine ⟨w.alloc (.cells ((List.replicate l.toNat zs).flatten).toArray e),(λn' a D=>by simp [execOp,hx n' a D rfl,G n' a D rfl,B]),dY _ _,by simp,λM=>?_⟩;exact gb.fresh (heap_alloc_new w _) (by simp) (by simpa using r) (d _ _ _)
end
section
variable {P : Program} {fn : Func} {S : Value -> World -> Prop} {Sp : vA -> World -> Prop} {n : Nat} {E : Env} {w : World}
def jh(P:Program)(E:Env)(w:World)(r:ResultVar)(v:Value):Prop:=
 match r with
 | .tmp t=>look E t=some (true,v)
 | .cell p t=>∃ad,look E p=some (true,.pointer (some ad))/\(loadVar t ad).run P w= .ok v w
theorem jh.t{t:Tmp}(h:look E t=some (true,v)):jh P E w (.tmp t) v:=h
theorem jh.cA{p:Tmp}{t:TypeId}{b:Addr}{size bytes:Nat}(h:look E p=some (true,.pointer (some b)))(c:P.underlying t=some d)(hd:jm d=true)
  (a:TI P t size bytes z) (hc:bM w b vs) (e:vs.length=size):jh P E w (.cell p t) (.agg vs.toArray):=⟨b,h,KX c hd a hc e⟩
theorem jh.c1{p:Tmp}{t:TypeId}{a:Addr}(h:look E p=some (true,.pointer (some a)))(b:P.underlying t=some d)(hd:jm d=false)
  (hc:bM w a vs) (c:vs[0]? =some v):jh P E w (.cell p t) v:=⟨a,h,MJ b hd (hc.cell0 c)⟩
def Ux(a:Act)(r:ResultVar):Sem Value:=
 match r with
 | .tmp t=>pure (a.tmps.getD t undef)
 | .cell p t=>do loadVar t (<-asAddr (a.tmps.getD p undef))
theorem jh.run{r:ResultVar}(c:jh P E w r v){a:Act}(d:Fits n E a):(Ux a r).run P w= .ok v w:=by
 cases r with
 |tmp t=>have:=d.at_ t true v c;simp [Ux,this,vO]
 |cell p t=>
  obtain ⟨f,e,b⟩:=c;have:=d.at_ p true _ e;simp [Ux,this,vO,asAddr,b]
theorem SW(fn:Func)(a:Act):results fn a.tmps=(do let vs <-fn.results.mapM (Ux a);pure (if h:vs.size=1 then vs[0] else .tuple vs)):=rfl
theorem ahf(d:fn.results.toList.length=vs.length)(h:∀a,Fits n E a->(fn.results.mapM (Ux a)).run P w= .ok vs.toArray w){v:Value}(hv:(if h:vs.length=1 then vs[0] else .tuple vs.toArray)=v)(c:S v w):
  At (BP P fn S Sp) .ret n [] E w:=λa b hd=>by
 show LeavesInM _ _ _ _ _ _ a.defers _ _;rw [hd];refine ⟨v,?_,c⟩;rw [SW];simp only [Sem.run_bind,h a b,Result.andThen_ok,Sem.run_pure];subst hv;simp
theorem MQ{r:ResultVar}(b:fn.results= #[r])(e:jh P E w r v)(d:S v w):At (BP P fn S Sp) .ret n [] E w:=
 ahf (vs:=[v]) (by rw [b];rfl) (λa c=>by rw [b];simp [e.run c]) (by simp) d
end
structure fO(w w':World):Prop where
 os:w'.os=w.os
 tape:w'.tape=w.tape
 output:w'.output=w.output
theorem fO.refl(w:World):fO w w:=⟨rfl,rfl,rfl⟩
theorem fO.trans{a b c:World}(h:fO a b)(k:fO b c):fO a c:=⟨k.os.trans h.os,k.tape.trans h.tape,k.output.trans h.output⟩
theorem js.env{C:x8}{w w':World}(h:js C w w'):fO w w':=⟨h.os,h.tape,h.output⟩
structure Item where
 own:x8
 P:(Nat->Prop)->World->Prop
 lt:∀{M w},P M w->∀b∈own,b<w.heap.size
 cK:∀{M M' w w'},P M w->Mv M w M' w'->(∀b∈own,w'.heap[b]? =w.heap[b]?)->fO w w'->P M' w'
 cF:Bool
 hp:cF=true->own=[]
abbrev Ctx:=List Item
def Ctx.M(Γ:Ctx)(b:Nat):Prop:= ∃it,it∈Γ/\b∈it.own
structure Sat(Γ:Ctx)(w:World):Prop where
 all:∀it,it∈Γ->it.P Γ.M w
 sep:∀(i j:Nat) (it jt:Item),Γ[i]? =some it->Γ[j]? =some jt->i≠j->∀b,b∈it.own->b∉jt.own
section
variable {Γ : Ctx} {w w' : World} {it new : Item} {i : Nat}
theorem Sat.nil:Sat [] w:=⟨λ_ h=>(by cases h),λi j it jt h=>(by simp at h)⟩
theorem Sat.at_(h:Sat Γ w)(hi:Γ[i]? =some it):it.P Γ.M w:=h.all it (pa hi)
theorem Ctx.iH(hi:Γ[i]? =some it){b:Nat}(hb:b∈it.own):Γ.M b:=⟨it,pa hi,hb⟩
theorem Sat.lt(h:Sat Γ w){b:Nat}(hb:Γ.M b):b<w.heap.size:=by obtain ⟨it,hi,hb⟩:=hb;exact it.lt (h.all it hi) b hb
theorem Ctx.AM:Ctx.M (new::Γ) b↔b∈new.own\/Γ.M b:=by
 constructor
 .rintro ⟨it,hi,hb⟩;rcases List.mem_cons.1 hi with rfl|hi
  .exact .inl hb
  .exact .inr ⟨it,hi,hb⟩
 .rintro (hb|⟨it,hi,hb⟩)
  .exact ⟨new,bj .., hb⟩
  .exact ⟨it,aW _ hi,hb⟩
theorem Sat.ext(h:Sat Γ w)(x:Ext w w'):Sat Γ w':=
 ⟨λit hi=>it.cK (h.all it hi) (x.mv _) (λb hb=>x.block b (h.lt ⟨it,hi,hb⟩)) ⟨x.os,x.tape,x.output⟩,h.sep⟩
theorem Sat.nd(h:Sat Γ w)(hi:Γ[i]? =some it)(p:js it.own w w')(v:∀b∈new.own,b<w'.heap.size/\(b∈it.own\/w.heap.size<=b))
  (y:∀M',Mv Γ.M w M' w'->(∀b∈it.own,b∉new.own-> ¬M' b)->new.P M' w'):Sat (Γ.set i new) w':=by
 have x:i<Γ.length:=(List.getElem?_eq_some_iff.1 hi).1;have l:∀{j jt},Γ[j]? =some jt->j≠i->∀b∈new.own,b∉jt.own:=λ{j jt} a d b hb c=>by
  rcases (v b hb).2 with o|o
  .exact h.sep j i jt it a hi d b c o
  .have:=h.lt (Ctx.iH a c);omega
 have f:∀{jt},jt∈Γ.set i new->jt=new\/∃j,j≠i/\Γ[j]? =some jt:=λ{jt} a=>by
  obtain ⟨j,a⟩:=List.mem_iff_getElem?.1 a;rw [q6] at a;split at a
  next e=>subst e;simp only [b8] at a;exact .inl a.symm
  next e=>exact .inr ⟨j,λe'=>e e'.symm,a⟩
 have mv:Mv Γ.M w (Ctx.M (Γ.set i new)) w':=by
  refine ⟨p.size,λb hb q=>⟨?_,p.block b hb (λhc=>q (Ctx.iH hi hc))⟩⟩;rintro ⟨jt,a,n⟩;rcases f a with rfl|⟨j,_,a⟩
  .rcases (v b n).2 with o|o
   .exact q (Ctx.iH hi o)
   .omega
  .exact q (Ctx.iH a n)
 refine ⟨λjt a=>?_,λj k jt kt a g r b hb c=>?_⟩
 .rcases f a with rfl|⟨j,d,a⟩
  .refine y _ mv (λb hb s=>?_);rintro ⟨kt,g,m⟩;rcases f g with rfl|⟨k,d,g⟩
   .exact s m
   .exact h.sep k i kt it g hi d b m hb
  .exact jt.cK (h.at_ a) mv (λb hb=>p.block b (h.lt (Ctx.iH a hb)) (λhc=>h.sep j i jt it a hi d b hb hc)) p.env
 .rw [q6] at a g;split at a <;> split at g
  .omega
  next u t=>subst u;simp only [b8] at a;subst a;exact l g (λe=>t e.symm) b hb c
  next u t=>subst t;simp only [b8] at g;subst g;exact l a (λe=>u e.symm) b c hb
  .exact h.sep j k jt kt a g r b hb c
theorem Sat.push(h:Sat Γ w)(x:Ext w w')(f:∀b∈new.own,b<w'.heap.size/\w.heap.size<=b)(l:∀M',Mv Γ.M w M' w'->new.P M' w'):Sat (new::Γ) w':=by
 have mv:Mv Γ.M w (Ctx.M (new::Γ)) w':=by
  refine ⟨x.size,λb hb i=>⟨?_,x.block b hb⟩⟩;rw [Ctx.AM];rintro (g|g)
  .have:=(f b g).2;omega
  .exact i g
 refine ⟨λjt a=>?_,λj k jt kt a d e b hb c=>?_⟩
 .rcases List.mem_cons.1 a with rfl|a
  .exact l _ mv
  .exact jt.cK (h.all jt a) mv (λb hb=>x.block b (h.lt ⟨jt,a,hb⟩)) ⟨x.os,x.tape,x.output⟩
 .cases j with
  |zero=>
   simp only [ec,b8] at a;subst a;cases k with
   |zero=>exact e rfl
   |succ k=>
    simp only [cf] at d;have:=(f b hb).2;have:=h.lt (Ctx.iH d c);omega
  |succ j=>
   simp only [cf] at a;cases k with
   |zero=>
    simp only [ec,b8] at d;subst d;have:=(f b c).2;have:=h.lt (Ctx.iH a hb);omega
   |succ k=>
    simp only [cf] at d;exact h.sep j k jt kt a d (by omega) b hb c
theorem Sat.add(h:Sat Γ w)(hp:new.own=[])(a:new.P Γ.M w):Sat (new::Γ) w:=by refine h.push (Ext.refl w) (λb hb=>absurd (hp▸hb:b∈([]:x8)) List.not_mem_nil) (λM' m=>new.cK a m (λb _=>rfl) (fO.refl w))
theorem Sat.map{Γ':Ctx}(h:Sat Γ w)(f:Nat->Nat)(d:∀(j:Nat) (jt:Item),Γ'[j]? =some jt->Γ[f j]? =some jt)(l:∀(j k:Nat) (jt:Item),j≠k->f j=f k->Γ'[j]? =some jt->(Γ'[k]?).isSome=true->jt.cF=true):Sat Γ' w:=by
 have mv:Mv Γ.M w (Ctx.M Γ') w:=Mv.weaken w λb hb=>by obtain ⟨it,hi,hb⟩:=hb;obtain ⟨k,a⟩:=List.mem_iff_getElem?.1 hi;exact Ctx.iH (d k it a) hb
 refine ⟨λjt c=>?_,λj k jt kt c a g b hb i=>?_⟩
 .obtain ⟨k,a⟩:=List.mem_iff_getElem?.1 c;exact jt.cK (h.at_ (d k jt a)) mv (λ_ _=>rfl) (fO.refl w)
 .by_cases e:f j=f k
  .have hp:=l j k jt g e c (by rw [a];rfl);rw [jt.hp hp] at hb;cases hb
  .exact h.sep (f j) (f k) jt kt (d j jt c) (d k kt a) e b hb i
def reB(Γ:Ctx)(k:Nat):x8->Bool
 |[]=>true
 |i::is=>Nat.blt i k&&(match Γ[i]? with
   |none=>false
   |some it=> !(is.contains i)||it.cF)&&reB Γ k is
def Ctx.re(Γ:Ctx)(k:Nat):x8->Ctx
 |[]=>Γ.drop k
 |i::is=>match Γ[i]? with
   |none=>[]
   |some it=>it::Γ.re k is
def sO(k:Nat):x8->Nat->Nat
 |[],j=>k+j
 |i::_,0=>i
 |_::is,j+1=>sO k is j
theorem GH{k:Nat}:∀(a:x8),reB Γ k a=true->∀(j:Nat) (jt:Item),(Γ.re k a)[j]? =some jt->Γ[sO k a j]? =some jt
 |[],_,j,jt,h=>by simpa [Ctx.re,sO] using h
 |i::a,hB,j,jt,h=>by
  simp only [reB,ae] at hB;simp only [Ctx.re] at h;cases hi:Γ[i]? with
  |none=>simp [hi] at hB
  |some it=>
   simp only [hi] at h;cases j with
   |zero=>simp only [ec,b8] at h;subst h;exact hi
   |succ j=>simp only [cf] at h;exact GH a hB.2 j jt h
theorem afi(k:Nat):∀(a:x8) (j:Nat),(sO k a j∈a/\j<a.length)\/(k<=sO k a j/\sO k a j=k+(j-a.length)/\a.length<=j)
 |[],j=> .inr ⟨by simp [sO],by simp [sO],by simp⟩
 |i::a,0=> .inl ⟨by simp [sO],by simp⟩
 |i::a,j+1=>by
  rcases afi k a j with ⟨h,d⟩|⟨c,e,b⟩
  .exact .inl ⟨by simp [sO,h],by simpa using d⟩
  .exact .inr ⟨by simpa [sO] using c,by simp only [sO,eb];omega,by simpa using b⟩
theorem VW{k:Nat}:∀(b:x8),reB Γ k b=true->∀(j a:Nat) (it:Item),j<a->sO k b j=sO k b a->Γ[sO k b j]? =some it->it.cF=true
 |[],_,j,a,it,hlt,e,_=>by simp [sO] at e;omega
 |i::b,hB,j,a,it,hlt,e,hi=>by
  have f:=hB;simp only [reB,ae] at hB;cases a with
  |zero=>omega
  |succ a=>
   cases j with
   |zero=>
    simp only [sO] at e hi;simp only [hi,c5] at hB;rcases hB.1.2 with h|h
    .have d:i<k:=by simpa using hB.1.1
     rcases afi k b a with ⟨c,_⟩|⟨c,_⟩
     .rw [<-e] at c;have:b.contains i=true:=by simpa using c
      rw [this] at h;cases h
     .omega
    .exact h
   |succ j=>exact VW b hB.2 j a it (by omega) (by simpa [sO] using e) (by simpa [sO] using hi)
theorem Sat.re(h:Sat Γ w)(k:Nat)(a:x8)(c:reB Γ k a=true):Sat (Γ.re k a) w:=
 h.map (sO k a) (GH a c) λj d jt f e i g=>by
  rcases Nat.lt_or_gt_of_ne f with b|b
  .exact VW a c j d jt b e (GH a c j jt i)
  .obtain ⟨kt,n⟩:=Option.isSome_iff_exists.1 g;have m:=GH a c j jt i;have l:=GH a c d kt n;rw [e,l] at m;cases m;exact VW a c d j jt b e.symm l
end
def Jp{α:Type}(A:dD α)(vs:w9)(x:α):Item where
 own:=[]
 P M w:=A.rd M w vs x
 lt _ b hb:=by cases hb
 cK h m _ _:=A.mv h m
 cF:=true
 hp _:=rfl
def box(b:Nat)(e:TypeId)(vs:w9):Item where
 own:=[b]
 P _ w:=eM w b e vs
 lt h c hc:=by
  have:c=b:=by simpa using hc
  subst this;exact h.lt
 cK h _ k _:=eM.cK h (k b (by simp))
 cF:=false
 hp h:=by cases h
def fX{α:Type}(A:dD α)(e:TypeId)(v:Value)(xs:List α)(R:x8):Item where
 own:=R
 P M w:=bK A e M w v xs R
 lt h:=h.lt
 cK h m k _:=h.cK k m
 cF:=false
 hp h:=by cases h
def U1(w:World)(b:Nat)(l:aE)(pos:Nat):Prop:=w.heap[b]? =some (.stringIter ⟨l.toArray⟩ pos)
def iter(b:Nat)(l:aE)(pos:Nat):Item where
 own:=[b]
 P _ w:=U1 w b l pos
 lt h c hc:=by
  have:c=b:=by simpa using hc
  subst this;exact (Array.getElem?_eq_some_iff.1 h).1
 cK h _ k _:=(k b (by simp)).trans h
 cF:=false
 hp h:=by cases h
def elem(g:Bool)(p:Addr)(vs:w9):Item where
 own:=[]
 P M w:=g=true-> ¬M p.block/\bM w p vs
 lt _ b hb:=by cases hb
 cK {M M' w w'} h m _ _:=λhg=>by obtain ⟨h1,hs,cs,t,fr,hb,hc⟩:=h hg;obtain ⟨h2,h3⟩:=m.2 _ (Array.getElem?_eq_some_iff.1 hb).1 h1;exact ⟨h2,hs,cs,t,fr,h3.trans hb,hc⟩
 cF:=true
 hp _:=rfl
def kept(w0:World)(M0:Nat->Prop):Item where
 own:=[]
 P M w:=fO w0 w/\w0.heap.size<=w.heap.size/\∀b,b<w0.heap.size-> ¬M0 b-> ¬M b/\w.heap[b]? =w0.heap[b]?
 lt _ b hb:=by cases hb
 cK h m _ e:=⟨h.1.trans e,cg h.2.1 m.1,λb hb hn=>by obtain ⟨h1,h2⟩:=h.2.2 b hb hn;obtain ⟨h3,h4⟩:=m.2 b (dk hb h.2.1) h1;exact ⟨h3,h4.trans h2⟩⟩
 cF:=true
 hp _:=rfl
section
variable {Γ : Ctx} {w w' : World} {α : Type} {A : dD α} {i : Nat}
theorem Sat.Jp(h:Sat Γ w){vs:w9}{x:α}(hi:Γ[i]? =some (Jp A vs x)):A.rd Γ.M w vs x:=h.at_ hi
theorem apq{M:Nat->Prop}{xs:List α}(h:(Jf A).rd M w [v] xs):bQ A M w v xs:=by
 obtain ⟨u,a,h⟩:=h;have:v=sl u:=by simpa using a
 rw [this];exact h
theorem Sat.sl(h:Sat Γ w){v:Value}{xs:List α}(hi:Γ[i]? =some (Go.Proofs.YtkedhpmpejhekaaGreatDoor.Jp (Jf A) [v] xs)):bQ A Γ.M w v xs:=apq (h.Jp hi)
theorem Sat.box(h:Sat Γ w){b:Nat}{e:TypeId}{vs:w9}(hi:Γ[i]? =some (box b e vs)):eM w b e vs:=h.at_ hi
theorem Sat.own(h:Sat Γ w){e:TypeId}{v:Value}{xs:List α}{R:x8}(hi:Γ[i]? =some (fX A e v xs R)):bK A e Γ.M w v xs R:=h.at_ hi
theorem Sat.iter(h:Sat Γ w){b:Nat}{l:aE}{pos:Nat}(hi:Γ[i]? =some (iter b l pos)):U1 w b l pos:=h.at_ hi
theorem Sat.kept(h:Sat Γ w){a:World}{c:Nat->Prop}(hi:Γ[i]? =some (kept a c)):fO a w/\a.heap.size<=w.heap.size/\∀b,b<a.heap.size-> ¬c b-> ¬ Γ.M b/\w.heap[b]? =a.heap[b]? :=h.at_ hi
theorem Sat.freeze(h:Sat Γ w){e:TypeId}{v:Value}{xs:List α}{R:x8}(hi:Γ[i]? =some (fX A e v xs R)):Sat (Γ.set i (Go.Proofs.YtkedhpmpejhekaaGreatDoor.Jp (Jf A) [v] xs)) w:=
 h.nd hi ((Ext.refl w).rz _) (λb hb=>by cases hb) (λM' m a=>((h.own hi).freeze (λb hb=>a b hb (λhb=>by cases hb)) m).rsl)
end
def agJ(M:Nat->Prop)(w:World):List Item->Prop
 |[]=>True
 |it::l=>it.P M w/\agJ M w l
theorem ajI{Γ:Ctx}{b:Nat}:∀(new:List Item),new.all (·.cF)=true->Ctx.M (new++Γ) b->Γ.M b
 |[],_,h=>h
 |it::l,hp,h=>by
  simp only [qt,ae] at hp;rcases Ctx.AM.1 h with h|h
  .rw [it.hp hp.1] at h;cases h
  .exact ajI l hp.2 h
theorem Sat.amc{Γ:Ctx}{w:World}(h:Sat Γ w):∀(new:List Item),new.all (·.cF)=true->agJ Γ.M w new->Sat (new++Γ) w
 |[],_,_=>h
 |it::l,hp,hP=>by have a:=hp;simp only [qt,ae] at hp;have c:=h.amc l hp.2 hP.2;exact c.add (it.hp hp.1) (it.cK hP.1 (Mv.weaken w λb hb=>ajI l hp.2 hb) (λ_ _=>rfl) (fO.refl w))
theorem xH{x:Int}(h: -9223372036854775808<=x/\x<=9223372036854775807):i64.wrap x=x:=by rw [IntKind.wrap_i64];omega
def strOf(xs:x6):aE:=xs.map λn=>UInt8.ofNat n.toNat
section
variable {P : Program} {E : Env} {g : Bool} {w : World}
theorem cL.ints{M:Nat->Prop}{cs:w9}{xs:x6}(h:cL (RI k) M w cs xs):cs=xs.map (Value.int k):=by
 have b:=h.1;simp only [RI,q9] at b;apply List.ext_getElem (by simpa using b);intro i d c;have hi:i<xs.length:=by omega
 have a:=h.2 i hi;simp only [RI,q9] at a;have:cs[i]=((cs.drop i).take 1)[0]'(by simp;omega):=by simp
 rw [this];simp only [a,List.getElem_cons_zero,qH]
theorem anN{M:Nat->Prop}{xs:x6}{c d:TypeId}(j:P.underlying c=some (.slice e))(k:P.underlying e=some (.int .u8))(hd:P.underlying d=some .string)
  (h:bQ (RI .u8) M w v xs):(convert c d v).run P w= .ok (S (strOf xs)) w:=by
 rcases h with ⟨⟨a,rfl⟩,rfl⟩|⟨b,off,cap,cs,e',fr,rfl,p,hb,hc,o,l⟩
 .cases a with
  |none=>exact run_convert_bytes_nil w c e j k 0 0 d hd
  |some a=>
   rw [run_convert_bytes_string w c d e _ 0 0 j k hd];simp [Conv.bytesToString,loadCells,loadCellsFrom,strOf,S]
   try rfl
 .have hi:=l.ints;have m:=l.1;refine run_convert_bytes_arg w c e j k b off xs.length cap xs rfl (λi f=>?_) d hd;have g:(List.take (xs.length*(RI u8).n) (List.drop off cs.toList))[i]? =some (.int .u8 xs[i]):=by rw [hi];simp [f]
  rw [kR] at g;split at g
  .rw [j5] at g;simp only [World.cell?,hb];simpa [List.getD,f] using g
  .cases g
theorem anI{M:Nat->Prop}{dst:xc}{ty:TypeId}{pos:String}{af:x3}{gd:Option (Nat×Bool)}{xs:x6}{b d:TypeId}(f:P.underlying b=some (.slice e))(j:P.underlying e=some (.int .u8))(hd:P.underlying d=some .string)
  (hx:ar E g x v) (h:g=true->bQ (RI .u8) M w v xs):bg P E g ⟨dst,.convert b d x,ty,pos,af,gd⟩ w (S (strOf xs)):=
 λn a i c=>by simp [execOp,hx n a i c,anN f j hd (h c)]
end
section
variable {P : Program} {E : Env} {w : World} {g : Bool}
variable {dst : xc} {ty : TypeId} {pos : String} {af : x3} {gd : vb}
def nA(k:IntKind)(x y:Int):Int:=x/2^min y.toNat k.bits
def bY(k:IntKind)(x y:Int):Int:=k.wrap (x*2^min y.toNat k.bits)
theorem aos{b:IntKind}{l:Int}{t:TypeId}(hx:ar E g x (.int k m))(d:ar E g y (.int b l))(f:g=true->decide (0<=l)=true):
  bg P E g ⟨dst,.binOp .shr t x y t',ty,pos,af,gd⟩ w (.int k (nA k m l)):=λn a e c=>
 cw (P:=P) hx d (by rw [Sem.run_bind,dB rfl,Result.andThen_ok];show (Op.shift .shr k m b l).run P w=_;rw [shift_shr_any k b m l (qe (f c))];rfl) n a e c
theorem anS{b:IntKind}{l:Int}{t:TypeId}(hx:ar E g x (.int k m))(d:ar E g y (.int b l))(f:g=true->decide (0<=l)=true):
  bg P E g ⟨dst,.binOp .shl t x y t',ty,pos,af,gd⟩ w (.int k (bY k m l)):=λn a e c=>
 cw (P:=P) hx d (by rw [Sem.run_bind,dB rfl,Result.andThen_ok];show (Op.shift .shl k m b l).run P w=_;rw [shift_shl_any k b m l (qe (f c))];rfl) n a e c
def pT(k:IntKind)(x y:Int):Int:=k.wrap ((BitVec.ofInt k.bits x &&& BitVec.ofInt k.bits y).toNat:Nat)
def dQ(k:IntKind)(x y:Int):Int:=k.wrap ((BitVec.ofInt k.bits x ||| BitVec.ofInt k.bits y).toNat:Nat)
def Xe(k:IntKind)(x y:Int):Int:=k.wrap ((BitVec.ofInt k.bits x ^^^ BitVec.ofInt k.bits y).toNat:Nat)
def bJ(k:IntKind)(x y:Int):Int:=k.wrap ((BitVec.ofInt k.bits x &&& ~~~ BitVec.ofInt k.bits y).toNat:Nat)
theorem akY{l:Int}{t:TypeId}(hx:ar E g x (.int k m))(a:ar E g y (.int k l)):
  bg P E g ⟨dst,.binOp .and t x y t',ty,pos,af,gd⟩ w (.int k (pT k m l)):=DH (.inl rfl) hx a (λ_=>rfl)
theorem aod{l:Int}{t:TypeId}(hx:ar E g x (.int k m))(a:ar E g y (.int k l)):
  bg P E g ⟨dst,.binOp .or t x y t',ty,pos,af,gd⟩ w (.int k (dQ k m l)):=DH (.inr (.inl rfl)) hx a (λ_=>rfl)
theorem alj{l:Int}{t:TypeId}(hx:ar E g x (.int k m))(a:ar E g y (.int k l)):
  bg P E g ⟨dst,.binOp .xor t x y t',ty,pos,af,gd⟩ w (.int k (Xe k m l)):=DH (.inr (.inr (.inl rfl))) hx a (λ_=>rfl)
theorem aeG{l:Int}{t:TypeId}(hx:ar E g x (.int k m))(a:ar E g y (.int k l)):
  bg P E g ⟨dst,.binOp .andNot t x y t',ty,pos,af,gd⟩ w (.int k (bJ k m l)):=DH (.inr (.inr (.inr rfl))) hx a (λ_=>rfl)
def Jv(x y:aE):Bool:=Op.bytesLess x y
theorem aog{m l:aE}{t:TypeId}(hx:ar E g x (S m))(a:ar E g y (S l)):
  bg P E g ⟨dst,.binOp .lss t x y t',ty,pos,af,gd⟩ w (.bool (Jv m l)):=cw hx a (by simp [eqGuard,S,binOp,Op.stringOp,Jv])
theorem aoT{m l:aE}{t:TypeId}(hx:ar E g x (S m))(a:ar E g y (S l)):
  bg P E g ⟨dst,.binOp .leq t x y t',ty,pos,af,gd⟩ w (.bool (Jv m l||m==l)):=cw hx a (by simp [eqGuard,S,binOp,Op.stringOp,Jv])
theorem ao8{m l:aE}{t:TypeId}(hx:ar E g x (S m))(a:ar E g y (S l)):
  bg P E g ⟨dst,.binOp .gtr t x y t',ty,pos,af,gd⟩ w (.bool (!(Jv m l||m==l))):=cw hx a (by simp [eqGuard,S,binOp,Op.stringOp,Jv])
theorem aoP{m l:aE}{t:TypeId}(hx:ar E g x (S m))(a:ar E g y (S l)):
  bg P E g ⟨dst,.binOp .geq t x y t',ty,pos,af,gd⟩ w (.bool (!(Jv m l))):=cw hx a (by simp [eqGuard,S,binOp,Op.stringOp,Jv])
def wW:Value->Bool
 | .slice none _ _=>true
 |_=>false
theorem aeg{t:TypeId}{len:Nat}(c:P.underlying t=some (.slice e))(hx:ar E g x v)(d:O5 v len)(b:ar E g y (.slice none 0 0)):
  bg P E g ⟨dst,.binOp .eql t x y t',ty,pos,af,gd⟩ w (.bool (wW v)):=by
 obtain ⟨a,cap,rfl⟩:=d;exact cw hx b (by cases a <;> simp [eqGuard,binOp,run_equal_slice_nil w t e _ _ _ c,wW])
theorem aeZ{t:TypeId}{len:Nat}(c:P.underlying t=some (.slice e))(hx:ar E g x v)(d:O5 v len)(b:ar E g y (.slice none 0 0)):
  bg P E g ⟨dst,.binOp .neq t x y t',ty,pos,af,gd⟩ w (.bool (!wW v)):=by
 obtain ⟨a,cap,rfl⟩:=d;exact cw hx b (by cases a <;> simp [eqGuard,binOp,run_equal_slice_nil w t e _ _ _ c,wW])
end
def ba(l:aE):x6:=l.map λb=>(b.toNat:Int)
theorem K6{w:World}{M:Nat->Prop}:∀l:aE,cL (RI .u8) M w (l.map λb=>Value.int .u8 (b.toNat:Int)) (ba l)
 |[]=>cL.nil
 |b::l=>cL.cons (A:=RI .u8) (c:=[Value.int .u8 (b.toNat:Int)]) rfl (K6 l)
section
variable {P : Program} {E : Env} {w : World} {dst : xc} {ty : TypeId} {pos : String} {af : x3}
theorem akn{l:aE}{g k:TypeId}(m:P.underlying g=some .string)(hd:P.underlying k=some (.slice e))(p:P.underlying e=some (.int .u8))(hx:ar E true x (S l)):
  ∃v' w',kM P E ⟨dst,.convert g k x,ty,pos,af,none⟩ w v' w'/\Ext w w'/\w.heap.size<w'.heap.size/\(∀M:Nat->Prop,¬M w.heap.size->bQ (RI .u8) M w' v' (ba l)):=by
 have d:=run_bytes_of_string (P:=P) w g k e ⟨l.toArray⟩ m hd p;have c:(w.drew.alloc (.cells (bytesRow ⟨l.toArray⟩ (grownCap w l.length 0 e)) e ((bytesRow ⟨l.toArray⟩ (grownCap w l.length 0 e)).size,(bytesRow ⟨l.toArray⟩ (grownCap w l.length 0 e)).size+1))).heap[w.heap.size]? =some (.cells (bytesRow ⟨l.toArray⟩ (grownCap w l.length 0 e)) e ((bytesRow ⟨l.toArray⟩ (grownCap w l.length 0 e)).size,(bytesRow ⟨l.toArray⟩ (grownCap w l.length 0 e)).size+1)):=by show (w.heap.push _)[w.heap.size]? =_;simp
 have i:=dY w.drew (.cells (bytesRow ⟨l.toArray⟩ (grownCap w l.length 0 e)) e ((bytesRow ⟨l.toArray⟩ (grownCap w l.length 0 e)).size,(bytesRow ⟨l.toArray⟩ (grownCap w l.length 0 e)).size+1));have j:=(Array.getElem?_eq_some_iff.1 c).1;refine ⟨.slice (some ⟨w.heap.size,0,none⟩) l.length (grownCap w l.length 0 e),_,?_,⟨i.os,i.tape,i.output,i.size,i.block⟩,j,λM q=>?_⟩
 .intro n a o;rw [ki] at d;simp only [execOp,hx n a o rfl];simp [S,d]
 .have h:l.length<=grownCap w l.length 0 e:=grownCap_ge w l.length 0 e;have f:(ba l).length=l.length:=by simp [ba]
  refine .inr ⟨w.heap.size,0,grownCap w l.length 0 e,bytesRow ⟨l.toArray⟩ (grownCap w l.length 0 e),e,_,by rw [f],q,c,by rw [f];exact h,?_,?_⟩
  .simp [bytesRow,RI,ki];omega
  .have:((bytesRow ⟨l.toArray⟩ (grownCap w l.length 0 e)).toList.drop 0).take ((ba l).length*(RI .u8).n)=l.map λb=>Value.int .u8 (b.toNat:Int):=by simp [bytesRow,ba,RI]
   rw [this];exact K6 l
end
section
variable {P : Program} {ρ : xb} {Q : bu} {n : Nat} {D : v7} {E : Env} {w : World} {ops : xJ} {rest : x5} {Γ : Ctx} {i : Nat}
variable {d : Tmp} {ty : TypeId} {pos : String} {af : x3}
theorem akW{t:TypeId}{size bytes:Nat}{z:Value}{zs:w9}(e:Sat Γ w)(a:TI P t size bytes z)(c:z.cells=zs.toArray)(f:Nat.blt d n=true)
  (h:∀b w',Sat (box b t zs::Γ) w'->WL P ρ ops Q n D rest ((d,true,.pointer (some ⟨b,0,none⟩))::E) w'):
  WL P ρ ops Q n D (⟨some d,.alloc t,ty,pos,af,none⟩::rest) E w:=
 uV (IX a c) rfl rfl rfl f (h _ _ (e.push (dY _ _) (λb hb=>by
  have:b=w.heap.size:=by simpa [box] using hb
  subst this;simp) (λ_ _=>heap_alloc_new w _)))
theorem aje{u:Value}{t:TypeId}{bytes:Nat}{R:x8}{xs ys:List α}(r:Sat Γ w)(i:Nat)(hi:Γ[i]? =some (fX A e v xs R))
  (C:P.underlying t=some (.slice e)) (o:TI P e A.n bytes z) (k:z.cells.size=A.n) (f:Nat.blt 0 A.n=true) (hx:ar E true x v) (B:ar E true y u) (l:bQ A Γ.M w u ys)
  (c:aG (xs.length+ys.length) bytes=true) (H:Nat.blt d n=true)
  (h:∀(p:fA) g w',Sat (Γ.set i (fX A e (sl p) (xs++ys) g)) w'->WL P ρ ops Q n D rest ((d,true,sl p)::E) w'):
  WL P ρ ops Q n D (⟨some d,.call ⟨.builtin .append,#[x,y],#[t,t]⟩,ty,pos,af,none⟩::rest) E w:=by
 obtain ⟨j,g,w',F,K,I,J⟩:=Fl (P:=P) (E:=E) (w:=w) (dst:=some d) (ty:=ty) (pos:=pos) (af:=af) C o k (by simpa using f) hx B (r.own hi) l (λb hb=>Ctx.iH hi hb) c;have s:=r.nd hi (new:=fX A e j (xs++ys) g) K I (λM' m _=>J M' m);have hv:∃p,j=sl p:=by have q:i<Γ.length:=(List.getElem?_eq_some_iff.1 hi).1;have G:=s.own (i:=i) (A:=A) (e:=e) (v:=j) (xs:=xs++ys) (R:=g) (by rw [qA q]);obtain ⟨a,cap,hv⟩:=G.len;exact ⟨(a,_,cap),hv⟩
 obtain ⟨p,rfl⟩:=hv;exact uV F rfl rfl rfl H (h _ _ _ s)
def BV(l:aE)(pos:Nat):Int:=((Utf8.decode ⟨l.toArray⟩ pos).1:Nat)
def nj(l:aE)(pos:Nat):Nat:=pos+(Utf8.decode ⟨l.toArray⟩ pos).2
end
variable {i j : Nat} {oj : Oper}
def BE(Q:bu)(c:vA)(D:v7)(w:World):Prop:= ∀a,a.defers=D->Q (.panic c) a w
def QN(Q:bu):bu:=λe a w=>match e with|.panic c=>BE Q c a.defers w|e=>Q e a w
theorem anU{Q:bu}{c:vA}{D:v7}{w:World}(h:BE Q c D w):BE (Exit.inBlock i Q) c D w:=h
theorem BE.at{Q:bu}{c:vA}{D:v7}{w:World}{n:Nat}{E:Env}(h:BE Q c D w):At Q (.panic c) n D E w:=λa _ hd=>h a hd
theorem il(a:Act)(d:xc)(v:Value):(a.put d v).defers=a.defers:=by cases d <;> rfl
section
variable {P : Program} {ρ : xb} {ops : xJ} {md : Region.Mode}
def YJ(P:Program)(ops:xJ)(J:World->Prop)(o:Oper)(v:Value)(a:Act):Prop:=
 (Region.wanted o (yielded ops a.tmps)=true/\∀w,J w->(execOp a.eval o).run P w= .ok (.value v) w)\/
 (Region.wanted o (yielded ops a.tmps)=false/\v=undef)
theorem YJ.wpOp{J:World->Prop}{a:Act}{Q:bu}(hi:ops[i]? =some o)(hp:ix o=true)(c:YJ P ops J o v a)
  {K:Act->World->Prop} {w:World} (d:J w) (h:K (a.put o.dst v) w):wpOpIn (FW ρ) 0 P ops Q i K a w:=by
 unfold Go.wpOpIn;simp only [hi];rcases c with ⟨b,hv⟩|⟨b,rfl⟩
 .simp only [b,qn];exact j7 hp (by rw [hv w d];exact h)
 .simp only [b,oi,qF];exact ⟨λ_ _=>trivial,h⟩
theorem YJ.of_same{J:World->Prop}{a b:Act}(c:YJ P ops J o v a)(e:execOp b.eval o=execOp a.eval o)
  (d:Region.wanted o (yielded ops b.tmps)=Region.wanted o (yielded ops a.tmps)):YJ P ops J o v b:=by
 unfold YJ at*;rw [e,d];exact c
theorem ajE{J:World->Prop}{g:Oper}{Q:bu}(E:ops[j]? =some oj)(q:ix oj=true)(z:g.apart ops oj=true)
  (y:∀cs b,g.op≠ .select cs b) (t:∀cs b,oj.op≠ .select cs b) (A:∀c a w,Q (.panic c) (a.put g.dst v) w->Q (.panic c) a w) {K:Act->World->Prop} {a:Act} {w:World}
  (i:YJ P ops J g v a) (h:wpOpIn (FW ρ) 0 P ops Q j K (a.put g.dst v) w):
  wpOpIn (FW ρ) 0 P ops Q j (λD w'=>YJ P ops J g v D/\K (D.put g.dst v) w') a w:=by
 obtain ⟨C,o,B⟩:=Oper.apart_spec z;have cK:∀(a:Act),YJ P ops J g v a->∀u,YJ P ops J g v (a.put oj.dst u):=λa i u=>
  i.of_same (execOp_put g y a oj.dst u B) (wanted_put g a oj.dst u B)
 have m:∀d,YJ P ops J g v { a with defers:=d::a.defers }:=λd=>i.of_same rfl rfl;unfold wpOpIn at*;simp only [E] at*;rw [wanted_put oj a g.dst v C] at h;split
 .rename_i s;simp only [s,qn] at h;refine j7 q ?_;have h:=h.2;rw [show (FW ρ).round=ρ from rfl,Iq q,execOp_put oj t a g.dst v C] at h;generalize (execOp a.eval oj).run P w=r at*;cases r with
  |ok n w'=>
   cases n <;> simp only [Oper.uponIn] at h ⊢
   case value u=>exact ⟨cK a i u,by rw [<-Act.put_comm a v u o];exact h⟩
   case skip=>exact ⟨cK a i _,by rw [<-Act.put_comm a v undef o];exact h⟩
   case defer d=>
    refine ⟨cK _ (m d) _,?_⟩;rw [<-Act.put_comm _ v undef o,<-Act.put_defers];exact h
   case enter f args=>
    refine ⟨h.1,CallsIn.mono h.2 λe p k=>?_⟩;cases e with
    |returned u=>exact ⟨cK a i u,by rw [<-Act.put_comm a v u o];exact k⟩
    |panicked c=>exact A _ _ _ k
    |outgrown=>exact k
   case row row args=>exact ⟨h.1,RowsIn.mono h.2 λu p k=>⟨cK a i u,by rw [<-Act.put_comm a v u o];exact k⟩⟩
   case round l f tmps assign body=>
    refine ⟨h.1,RoundIn.mono h.2 λe p k=>?_⟩;cases e with
    |returned u=>exact ⟨cK a i u,by rw [<-Act.put_comm a v u o];exact k⟩
    |panicked c=>exact A _ _ _ k
    |outgrown=>exact k
  |halt x w'=>
   cases x <;> simp only [Oper.uponIn] at h ⊢
   case panic u=>exact A _ _ _ h
 next s=>simp only [s] at h;exact ⟨λ_ _=>trivial,cK a i _,by rw [<-Act.put_comm a v undef o];exact h.2⟩
def fw:List Edge->Nat
 |[]=>0
 |e::l=>bif Region.binds .any e then Nat.lor (Nat.shiftLeft 1 e.on) (fw l) else fw l
theorem lU:∀(l:List Edge) (i:Nat),(fw l).testBit i=l.any (λe=>Region.binds .any e&&e.on==i)
 |[],i=>by simp [fw]
 |e::l,i=>by
  simp only [fw,List.any_cons];cases h:Region.binds .any e
  .simp [lU l i]
  .have d:(Nat.lor (Nat.shiftLeft 1 e.on) (fw l)).testBit i=((1 <<< e.on) ||| fw l).testBit i:=rfl;rw [c9,d,Nat.testBit_or,lU l i,Nat.testBit_shiftLeft];simp only [qu];congr 1;by_cases hi:e.on=i
   .subst hi;simp
   .have c:(e.on==i)=false:=by simpa using hi
    rw [c];by_cases b:e.on<=i
    .obtain ⟨n,a⟩:∃n,i-e.on=n+1:=⟨i-e.on-1,by omega⟩;rw [a];simp [Nat.testBit_succ]
    .simp [b]
def Fb:x5->Nat->Nat->Nat
 |[],_,m=>m
 |o::os,k,m=>bif (Fb os (k+1) m).testBit k then Nat.lor (fw o.after.toList) (Fb os (k+1) m) else Fb os (k+1) m
def waits(md:Region.Mode)(ops:xJ)(k i:Nat):Bool:=match ops[k]? with
 |some o=>(o.after.any λe=>Region.binds md e&&e.on==i)||(match md with
  | .any=>(Fb ops.toList 0 (fw o.after.toList)).testBit i
  |_=>false)
 |none=>false
def tM(ops:xJ)(listed:x4):Prop:= ∀(l:Nat) (ol:Oper),ops[l]? =some ol->listed[l]? =some true->∀e∈ol.after.toList,Region.binds .any e=true->listed[e.on]? =some true
theorem Up{a:x4}(hc:tM ops a){m:Nat}(d:∀i,m.testBit i=true->a[i]? =some true):∀(os:x5) (k:Nat),(∀j,os[j]? =ops[k+j]?)->∀i,(Fb os k m).testBit i=true->a[i]? =some true
 |[],k,_,i,h=>d i h
 |o::os,k,ho,i,h=>by
  have ih:=Up hc d os (k+1) (λj=>by have:=ho (j+1);rw [cf] at this;rw [this];congr 1;omega);unfold Fb at h;cases c:(Fb os (k+1) m).testBit k with
  |false=>rw [c] at h;exact ih i h
  |true=>
   rw [c] at h;have b:(Nat.lor (fw o.after.toList) (Fb os (k+1) m)).testBit i=true:=h;have e:(Nat.lor (fw o.after.toList) (Fb os (k+1) m)).testBit i=((fw o.after.toList).testBit i||(Fb os (k+1) m).testBit i):=Nat.testBit_or ..;rw [e,c5] at b;rcases b with b|b
   .rw [lU] at b;obtain ⟨e,f,hb⟩:=List.any_eq_true.1 b;simp only [ae,kX] at hb;have:=hc k o (by have:=ho 0;simpa using this.symm) (ih k c) e f hb.1;rwa [hb.2] at this
   .exact ih i b
abbrev ej:=List (Nat×(World->Prop))
def fU:ej->World->Prop
 |[],_=>True
 |p::l,w=>p.2 w/\fU l w
def still(md:Region.Mode)(ops:xJ)(k:Nat)(l:ej):ej:=l.filter λp=> !waits md ops k p.1
theorem adI{w:World}:fU [] w:=trivial
theorem kN{f:Nat×(World->Prop)->Bool}{w:World}:∀{l:ej},fU l w->fU (l.filter f) w
 |[],_=>trivial
 |p::l,h=>by
  rw [qg];split
  .exact ⟨h.1,kN h.2⟩
  .exact kN h.2
def Dd(P:Program)(ρ:xb)(md:Region.Mode)(ops:xJ)(Q:bu):Nat->ej->x4->Act->World->Prop
 |0,pend,listed,a,w=>fU pend w/\Region.ready md ops listed=[]/\Q .normal a w
 |fuel+1,pend,listed,a,w=>fU pend w/\(Region.ready md ops listed=[]->Q .normal a w)/\
  ∀i∈Region.ready md ops listed,wpOpIn (FW ρ) 0 P ops Q i (Dd P ρ md ops Q fuel (still md ops i pend) (listed.setIfInBounds i true)) a w
theorem aaW{Q:bu}(p:Nat×(World->Prop)):∀(c:Nat) (pend:ej) (b:x4) (a:Act) (w:World),Dd P ρ md ops Q c (p::pend) b a w->Dd P ρ md ops Q c pend b a w
 |0,_,_,_,_,h=>⟨h.1.2,h.2⟩
 |c+1,pend,b,a,w,h=>⟨h.1.2,h.2.1,λi hi=>wpOpIn_mono (λe w' d=>by
   unfold still at d;rw [qg] at d;split at d
   .exact aaW p c _ _ _ _ d
   .exact d) (h.2.2 i hi)⟩
theorem aga{Q:bu}:∀(c:Nat) (pend:ej) (b:x4) (a:Act) (w:World),Dd P ρ md ops Q c pend b a w->wpAnyIn (FW ρ) 0 P md ops Q c b a w
 |0,_,_,_,_,h=>h.2
 |c+1,_,_,_,_,h=>⟨h.2.1,λi hi=>wpOpIn_mono (λf e d=>aga c _ _ _ _ d) (h.2.2 i hi)⟩
theorem adQ{k:Nat}{a:x4}(g:ops[k]? =some o)(hc:tM ops a)(d:∀e∈o.after,Region.binds .any e=true->a[e.on]? =some true)(hi:a[i]? ≠some true):waits .any ops k i=false:=by
 unfold waits;simp only [g];rw [n3];intro b;rw [c5] at b;rcases b with b|b
 .obtain ⟨e,c,hb⟩:=Array.any_eq_true'.1 b;simp only [ae,kX] at hb;have:=d e c hb.1;rw [hb.2] at this;exact hi this
 .refine hi (Up hc (λj f=>?_) ops.toList 0 (λj=>by rw [hV,qk]) i b);rw [lU] at f;obtain ⟨e,c,hb⟩:=List.any_eq_true.1 f;simp only [ae,kX] at hb;have:=d e (by simpa using c) hb.1;rwa [hb.2] at this
theorem Lo{a:x4}(h:j∈Region.ready .any ops a)(i:ops[j]? =some oj):∀e∈oj.after,Region.binds .any e=true->a[e.on]? =some true:=λe k hb=>by
 obtain ⟨_,l,d,f⟩:=mem_ready.1 h;rw [i] at d;cases d;have c:=f e k hb;rw [kW] at c;cases g:a[e.on]? with
 |none=>rw [g] at c;cases c
 |some b=>rw [g] at c;simp only [qx] at c;rw [c]
theorem V6{a:x4}(h:i∈Region.ready .any ops a):a[i]? ≠some true:=λhc=>by have b:=(mem_ready.1 h).1;rw [kW,hc] at b;cases b
theorem l8{a:x4}(hc:tM ops a)(h:j∈Region.ready .any ops a):tM ops (a.setIfInBounds j true):=λl k d g e f hb=>by
 have cK:∀i,a[i]? =some true->(a.setIfInBounds j true)[i]? =some true:=λi hi=>by
  by_cases c:j=i
  .subst c;rw [qS (Array.getElem?_eq_some_iff.1 hi).1]
  .rw [ql c];exact hi
 by_cases b:j=l
 .subst b;exact cK _ (Lo h d e (by simpa using f) hb)
 .rw [ql b] at g;exact cK _ (hc l k d g e f hb)
theorem ai8{Q:bu}{J:World->Prop}{z:Oper}(hi:ops[i]? =some z)(s:∀(j:Nat) (o:Oper) cs b,ops[j]? =some o->o.op≠ .select cs b)
  (V:∀c (a:Act) d v w,Q (.panic c) (a.put d v) w->Q (.panic c) a w) (x:∀(j:Nat) (o:Oper),ops[j]? =some o->ix o=true):
  ∀(l:Nat) (pend:ej) (g:x4) (a:Act) (w:World),
   (∀j oj,ops[j]? =some oj->j≠i->g.getD j true=false->(∀e∈oj.after,Region.binds .any e=true->e.on≠i)->z.apart ops oj=true)->
   tM ops g->i∈Region.ready .any ops g->YJ P ops J z v a->
   Dd P ρ .any ops Q l ((i,J)::pend) (g.setIfInBounds i true) (a.put z.dst v) w->Dd P ρ .any ops Q (l+1) pend g a w:=by
 intro l
 induction l with
 |zero=>
  intro pend g a w _ _ t I H;refine ⟨H.1.2,λh=>(by rw [h] at t;cases t),λj A=>?_⟩;by_cases m:j=i
  .subst m;exact I.wpOp hi (x _ _ hi) H.1.1 ⟨kN H.1.2,H.2⟩
  .have:=ready_mono A m;rw [H.2.1] at this;cases this
 |succ l ih=>
  intro pend g a w q E t I H;refine ⟨H.1.2,λh=>(by rw [h] at t;cases t),λj A=>?_⟩;by_cases m:j=i
  .subst m;refine I.wpOp hi (x _ _ hi) H.1.1 ?_;have X:=aaW _ _ _ _ _ _ H
   -- fewer promises
   have key:∀(l:Nat) (pend:ej) (f:Nat×(World->Prop)->Bool) (g:x4) (a:Act) (w:World),Dd P ρ .any ops Q l pend g a w->Dd P ρ .any ops Q l (pend.filter f) g a w:=by
    intro l
    induction l with
    |zero=>intro pend f g a w h;exact ⟨kN h.1,h.2⟩
    |succ l K=>
     intro pend f g a w h;refine ⟨kN h.1,h.2.1,λi hi=>wpOpIn_mono (λS w' G=>?_) (h.2.2 i hi)⟩;have:still .any ops i (pend.filter f)=(still .any ops i pend).filter f:=by unfold still;rw [qM,qM];congr 1;funext p;exact Bool.and_comm ..
     rw [this];exact K _ f _ _ _ G
   exact key _ _ _ _ _ _ X
  .have y:=H.2.2 j (ready_mono A m);obtain ⟨u,oj,n,F⟩:=mem_ready.1 A;have C:∀e∈oj.after,Region.binds .any e=true->e.on≠i:=λe U hb N=>by
    have y:=F e U hb;have R:=(mem_ready.1 t).1;rw [N] at y;rcases sq i g.size with G|G
    .simp [G] at R y;rw [R] at y;cases y
    .simp [Array.getElem?_eq_none G] at y
   have W:=ajE n (x _ _ n) (q j oj n m u C) (λcs b=>s i z cs b hi) (λcs b=>s j oj cs b n) (λc a w=>V c a _ _ w) I y;have r:∀k ok,ops[k]? =some ok->k≠i->(g.setIfInBounds j true).getD k true=false->
     (∀e∈ok.after,Region.binds .any e=true->e.on≠i)->z.apart ops ok=true:=λk ok T M B L=>by
    refine q k ok T M ?_ L;by_cases D:j=k
    .subst D;exact u
    .rw [getD_set_ne true D] at B;exact B
   refine wpOpIn_mono (λS w' O=>ih _ (g.setIfInBounds j true) S w' r (l8 E A) (ready_mono t (Ne.symm m)) O.1 ?_) W;rw [Array.setIfInBounds_comm _ _ m];have e:still .any ops j ((i,J)::pend)=(i,J)::still .any ops j pend:=by unfold still;rw [qg,adQ n E (Lo A n) (V6 t)];rfl
   rw [e] at O;exact O.2
inductive OT where
 |nil
 |q (k m:Nat) (r:OT)
 |l (k m:Nat) (r:OT)
 |l2 (m:Nat) (k₁:Nat) (r₁:OT) (k₂:Nat) (r₂:OT)
 /-- k changes the world and takes the floats fs; the floats fl (new blocks) may run here, ahead of it, in whatever order -/
 |f (k m:Nat) (fl fs:x8) (r:OT)
def IT(a m:Nat):Bool:=Nat.beq (Nat.land a m) a
theorem vV{a m:Nat}:IT a m=true↔ ∀i,a.testBit i=true->m.testBit i=true:=by
 unfold IT;constructor
 .intro h i hi;have c:a &&& m=a:=ah h;have b:(a &&& m).testBit i=true:=by rw [c];exact hi
  rw [Nat.testBit_and] at b;simp only [ae] at b;exact b.2
 .intro h;have c:a &&& m=a:=by
   apply Nat.eq_of_testBit_eq;intro i;rw [Nat.testBit_and];cases hi:a.testBit i
   .rfl
   .rw [h i hi];rfl
  show Nat.beq (a &&& m) a=true;rw [c];simp
def Dp:x8->Nat->Nat->x8->Bool
 |[],_,_,_=>true
 |a::as,j,m,ks=>(Nat.testBit m j|| !(IT a m)||ks.any (Nat.beq j))&&Dp as (j+1) m ks
theorem SS:∀(l:x8) (b m:Nat) (ks:x8),Dp l b m ks=true->∀j a,l[j]? =some a->m.testBit (b+j)=false->IT a m=true->(b+j)∈ks
 |[],_,_,_,_,j,a,h,_,_=>by simp at h
 |a0::as,b,m,ks,hB,j,a,h,h1,h2=>by
  simp only [Dp,ae,c5,et,List.any_eq_true] at hB;cases j with
  |zero=>
   simp only [ec,b8] at h;subst h;rcases hB.1 with (c|c)|⟨x,hx,c⟩
   .rw [qj] at h1;rw [h1] at c;cases c
   .rw [h2] at c;cases c
   .have:=ah c;rw [qj,this];exact hx
  |succ j=>
   simp only [cf] at h;have:=SS as (b+1) m ks hB.2 j a h (by rw [<-h1];congr 1;omega) h2;have e:b+1+j=b+(j+1):=by omega
   rwa [e] at this
def wT(masks:x8)(k m:Nat):Bool:=match masks[k]? with
 |some a=> !(Nat.testBit m k)&&IT a m
 |none=>false
def bit(m k:Nat):Nat:=Nat.lor m (Nat.shiftLeft 1 k)
theorem AF(m k i:Nat):(bit m k).testBit i=(m.testBit i||k==i):=by
 have d:(bit m k).testBit i=(m ||| (1 <<< k)).testBit i:=rfl;rw [d,Nat.testBit_or,Nat.testBit_shiftLeft];congr 1;by_cases hi:k=i
 .subst hi;simp
 .have c:(k==i)=false:=by simpa using hi
  rw [c];by_cases b:k<=i
  .obtain ⟨n,a⟩:∃n,i-k=n+1:=⟨i-k-1,by omega⟩;rw [a];simp [Nat.testBit_succ]
  .simp [b]
def dh(f:Nat):x8->Bool
 |[]=>false
 |x::l=>Nat.beq x f||dh f l
theorem df{f:Nat}:∀{l:x8},dh f l=true↔f∈l
 |[]=>by simp [dh]
 |x::l=>by
  simp only [dh,c5,qC,df (l:=l)];constructor
  .rintro (h|h)
   .exact .inl (ah h).symm
   .exact .inr h
  .rintro (h|h)
   .exact .inl (by rw [h];simp)
   .exact .inr h
def ia(m:Nat):x8->Nat
 |[]=>m
 |f::l=>bit (ia m l) f
theorem dL{m i:Nat}:∀{l:x8},(ia m l).testBit i=(m.testBit i||dh i l)
 |[]=>by simp [ia,dh]
 |f::l=>by
  have e:(f==i)=Nat.beq f i:=by rw [qN,kX];exact ⟨λh=>by rw [h];simp,ah⟩
  rw [ia,AF,dL (l:=l),dh,e];cases m.testBit i <;> cases Nat.beq f i <;> cases dh i l <;> rfl
def hasB(masks:x8)(k f:Nat):Bool:=match masks[k]? with
 |some a=>a.testBit f
 |none=>false
def rO(masks:x8):OT->x8->Nat->Bool
 | .nil,pf,m=>pf.isEmpty&&Dp masks 0 m []
 | .q k m' r,pf,m=>Nat.beq m' m&&wT masks k m'&& !(dh k pf)&&rO masks r pf (bit m' k)
 | .l k m' r,pf,m=>pf.isEmpty&&Nat.beq m' m&&wT masks k m'&&Dp masks 0 m' [k]&&rO masks r [] (bit m' k)
 | .l2 m' k₁ r₁ k₂ r₂,pf,m=>pf.isEmpty&&Nat.beq m' m&&wT masks k₁ m'&&wT masks k₂ m'&&Dp masks 0 m' [k₁,k₂]&&rO masks r₁ [] (bit m' k₁)&&rO masks r₂ [] (bit m' k₂)
 | .f k m' fl fs r,pf,m=>Nat.beq m' m&&pf.all (λf=>dh f fl)&&fl.all (λf=>wT masks f m')&&fs.all (λf=>dh f fl&&hasB masks k f)&& !(dh k fl)&&wT masks k (ia m' fs)&&Dp masks 0 (ia m' fl) [k]&&
  rO masks r (fl.filter λf=> !(dh f fs)) (bit (ia m' fs) k)
def LM(n:Nat)(listed:x4)(m:Nat):Prop:=listed.size=n/\∀i,i<n->listed.getD i true=m.testBit i
theorem LM.set{n k m:Nat}{a:x4}(h:LM n a m):LM n (a.setIfInBounds k true) (bit m k):=by
 refine ⟨by simp [h.1],λi hi=>?_⟩;rw [AF];by_cases e:k=i
 .subst e;simp [kW,h.1,hi]
 .have c:(k==i)=false:=by simpa using e
  have b:=h.2 i hi;rw [c,Bool.or_false,<-b];simp [kW,e]
theorem LM.getD{n m i:Nat}{a:x4}(h:LM n a m)(b:Bool)(hi:i<n):a.getD i b=m.testBit i:=by
 rw [<-h.2 i hi];have:i<a.size:=by rw [h.1];exact hi
 simp [Array.getD,this]
def Ud(ops:x5)(masks:x8):Bool:=match ops,masks with
 |[],[]=>true
 |o::ops,a::as=>Nat.beq (fw o.after.toList) a&&Ud ops as
 |_,_=>false
theorem OS:∀(ops:x5) (masks:x8),Ud ops masks=true->masks=ops.map λo=>fw o.after.toList
 |[],[],_=>rfl
 |o::ops,a::as,h=>by
  simp only [Ud,ae] at h;rw [cx,<-ah h.1,<-OS ops as h.2]
 |[],_::_,h=>by cases h
 |_::_,[],h=>by cases h
def abc(n:Nat)(ops:x5):Bool:=ops.all λo=>o.after.toList.all λe=> !Region.binds .any e||Nat.blt e.on n
section
variable {ops : xJ} {masks : x8}
theorem Dt(r:masks=ops.toList.map λo=>fw o.after.toList)(s:abc ops.size ops.toList=true){b:x4}{m j:Nat}(q:LM ops.size b m):
  j∈Region.ready .any ops b↔ ∃a,masks[j]? =some a/\m.testBit j=false/\IT a m=true:=by
 rw [mem_ready];have g:∀{o:Oper} {e:Edge},o∈ops.toList->e∈o.after->Region.binds .any e=true->e.on<ops.size:=λ{o e} n d hb=>by have p:=List.all_eq_true.1 s o n;have l:=List.all_eq_true.1 p e (by simpa using d);rw [hb] at l;simpa using l
 constructor
 .rintro ⟨p,oj,c,l⟩;have k:j<ops.size:=(Array.getElem?_eq_some_iff.1 c).1;refine ⟨fw oj.after.toList,by rw [r,n9];simp [c],by rw [<-q.2 j k];exact p,?_⟩;rw [vV];intro i hi;rw [lU,List.any_eq_true] at hi;obtain ⟨e,d,hb⟩:=hi;simp only [ae,kX] at hb;have h:e∈oj.after:=by simpa using d
  have f:oj∈ops.toList:=by simpa using Array.mem_of_getElem? c
  have:=l e h hb.1;rw [q.getD false (g f h hb.1),hb.2] at this;exact this
 .rintro ⟨a,ha,p,l⟩;rw [r,n9] at ha;cases n:ops.toList[j]? with
  |none=>rw [n] at ha;cases ha
  |some oj=>
   rw [n] at ha;simp only [l7,b8] at ha;have c:ops[j]? =some oj:=by simpa using n
   have k:j<ops.size:=(Array.getElem?_eq_some_iff.1 c).1;refine ⟨by rw [q.2 j k];exact p,oj,c,λe d hb=>?_⟩;have f:oj∈ops.toList:=pa n;rw [q.getD false (g f d hb)];rw [vV] at l;refine l _ ?_;rw [<-ha,lU,List.any_eq_true];exact ⟨e,by simpa using d,by simp [hb]⟩
end
def M5(t:Tmp)(o:Oper):Bool:=match o.dst with
 |some d=>Nat.beq d t
 |none=>false
def aaO(t:Tmp)(j a:Nat):x5->x8->Nat->Bool
 |[],_,_=>true
 |o::l,ms,i=>(!(M5 t o)||Nat.beq i j||Nat.testBit a i||(match ms with|m::_=>Nat.testBit m j|[]=>false))&&aaO t j a l ms.tail (i+1)
def MD(t:Tmp)(j:Nat):x5->Nat->Bool
 |[],_=>true
 |o::l,i=>(!(M5 t o)||Nat.beq i j)&&MD t j l (i+1)
def MU(ops:xJ)(all:x5)(mall:x8):x5->x8->Nat->Bool
 |[],_,_=>true
 |o::l,a::as,j=>(o.looksAt ops).all (λt=>aaO t j a all mall 0)&&(match o.dst with|some d=>MD d j all 0|none=>true)&&MU ops all mall l as (j+1)
 |_::_,[],_=>false
theorem Mg{t:Tmp}{j a:Nat}:∀(l:x5) (c:x8) (d:Nat),aaO t j a l c d=true->∀i o,l[i]? =some o->o.dst=some t->d+i≠j->a.testBit (d+i)=true\/∃m,c[i]? =some m/\m.testBit j=true
 |[],_,_,_,i,o,h,_,_=>by simp at h
 |o0::l,c,d,hB,i,o,h,hd,hne=>by
  simp only [aaO,ae,c5,et] at hB;cases i with
  |zero=>
   simp only [ec,b8] at h;subst h;rcases hB.1 with ((b|b)|b)|b
   .simp [M5,hd] at b
   .exact absurd (ah b) hne
   .exact .inl b
   .cases c with
    |nil=>cases b
    |cons m c=>exact .inr ⟨m,rfl,b⟩
  |succ i=>
   simp only [cf] at h;have e:d+1+i=d+(i+1):=by omega
   have:=Mg l c.tail (d+1) hB.2 i o h hd (by rw [e];exact hne);rw [e] at this;rcases this with b|⟨m,b,f⟩
   .exact .inl b
   .refine .inr ⟨m,?_,f⟩;cases c with
    |nil=>simp at b
    |cons g c=>simpa using b
theorem Pu{t:Tmp}{j:Nat}:∀(l:x5) (a:Nat),MD t j l a=true->∀i o,l[i]? =some o->o.dst=some t->a+i=j
 |[],_,_,i,o,h,_=>by simp at h
 |o0::l,a,hB,i,o,h,hd=>by
  simp only [MD,ae,c5,et] at hB;cases i with
  |zero=>
   simp only [ec,b8] at h;subst h;rcases hB.1 with b|b
   .simp [M5,hd] at b
   .exact ah b
  |succ i=>
   simp only [cf] at h;have:=Pu l (a+1) hB.2 i o h hd;omega
theorem H3{ops:xJ}{all:x5}{b:x8}:∀(l:x5) (as:x8) (c:Nat),MU ops all b l as c=true->∀j o a,l[j]? =some o->as[j]? =some a->
  (∀t∈o.looksAt ops,aaO t (c+j) a all b 0=true)/\(∀d,o.dst=some d->MD d (c+j) all 0=true)
 |[],_,_,_,j,o,a,h,_=>by simp at h
 |o0::l,[],_,h,_,_,_,_,_=>by cases h
 |o0::l,a0::as,c,hB,j,o,a,h,ha=>by
  simp only [MU,ae,qy] at hB;cases j with
  |zero=>
   simp only [ec,b8] at h ha;subst h;subst ha;refine ⟨λt f=>hB.1.1 t f,λd hd=>?_⟩;have:=hB.1.2;rw [hd] at this;exact this
  |succ j=>
   simp only [cf] at h ha;have e:c+1+j=c+(j+1):=by omega
   have:=H3 l as (c+1) hB.2 j o a h ha;rwa [e] at this
theorem ak2{ops:xJ}{masks:x8}(p:masks=ops.toList.map λo=>fw o.after.toList)(q:MU ops ops.toList masks ops.toList masks 0=true){i j:Nat}{a oj:Oper}(hi:ops[i]? =some a)(v:ops[j]? =some oj)(u:j≠i)
  (s:(fw oj.after.toList).testBit i=false) (r:(fw a.after.toList).testBit j=false):a.apart ops oj=true:=by
 have b:ops.toList[i]? =some a:=by simpa using hi
 have c:ops.toList[j]? =some oj:=by simpa using v
 have n:masks[i]? =some (fw a.after.toList):=by rw [p,n9,b];rfl
 have l:masks[j]? =some (fw oj.after.toList):=by rw [p,n9,c];rfl
 obtain ⟨k,t⟩:=H3 _ _ 0 q i a _ b n;obtain ⟨g,f⟩:=H3 _ _ 0 q j oj _ c l;simp only [hV] at k t g f;unfold Oper.apart;simp only [ae];constructor
 .cases hd:a.dst with
  |none=>rfl
  |some d=>
   simp only [ae,et,bne_iff_ne];refine ⟨?_,?_⟩
   .rw [n3];intro hc;rcases Mg _ _ 0 (g d (by simpa using hc)) i a b hd (by omega) with h|⟨m,h,e⟩
    .rw [hV,s] at h;cases h
    .rw [n] at h;cases h;rw [r] at e;cases e
   .intro hc;have:=Pu _ 0 (f d hc) i a b hd;omega
 .cases hd:oj.dst with
  |none=>rfl
  |some d=>
   simp only [et];rw [n3];intro hc;rcases Mg _ _ 0 (k d (by simpa using hc)) j oj c hd (by omega) with h|⟨m,h,e⟩
   .rw [hV,r] at h;cases h
   .rw [l] at h;cases h;rw [s] at e;cases e
def ac6(ops:xJ)(masks:x8)(order:OT):Bool:=
 ops.toList.all ix&&Region.noSelect ops&&Ud ops.toList masks&&abc ops.size ops.toList&&MU ops ops.toList masks ops.toList masks 0&&rO masks order [] 0
def wpE(P:Program)(ρ:xb)(ops:xJ)(Q:bu)(fl:x8)(pend:ej)(nx:x8->Act->World->Prop):Nat->x8->Act->World->Prop
 |0,ea,a,w=>nx ea a w
 |n+1,ea,a,w=>nx ea a w/\∀f∈fl,dh f ea=false->wpOpIn (FW ρ) 0 P ops Q f (λa' w'=>fU pend w'/\wpE P ρ ops Q fl pend nx n (f::ea) a' w') a w
def gZ(P:Program)(ρ:xb)(ops:xJ)(Q:bu):OT->x8->ej->Act->World->Prop
 | .nil,_,_,a,w=>Q .normal a w
 | .q k _ r,ea,pend,a,w=>match ops[k]? with
  |none=>False
  |some o=>∃v J,J w/\YJ P ops J o v a/\gZ P ρ ops Q r ea ((k,J)::pend) (a.put o.dst v) w
 | .l k _ r,ea,pend,a,w=>match ops[k]? with
  |none=>False
  |some _=>wpOpIn (FW ρ) 0 P ops Q k (λa' w'=>fU (still .any ops k pend) w'/\gZ P ρ ops Q r ea (still .any ops k pend) a' w') a w
 | .l2 _ k₁ r₁ k₂ r₂,ea,pend,a,w=>(match ops[k₁]? with
  |none=>False
  |some _=>wpOpIn (FW ρ) 0 P ops Q k₁ (λa' w'=>fU (still .any ops k₁ pend) w'/\gZ P ρ ops Q r₁ ea (still .any ops k₁ pend) a' w') a w)/\
  (match ops[k₂]? with
  |none=>False
  |some _=>wpOpIn (FW ρ) 0 P ops Q k₂ (λa' w'=>fU (still .any ops k₂ pend) w'/\gZ P ρ ops Q r₂ ea (still .any ops k₂ pend) a' w') a w)
 | .f k _ fl fs r,ea,pend,a,w=>wpE P ρ ops Q fl pend (λea a w=>(∀f∈fs,f∈ea)->wpOpIn (FW ρ) 0 P ops Q k (λa' w'=>fU (still .any ops k pend) w'/\gZ P ρ ops Q r (ea.filter λf=> !(dh f fs)) (still .any ops k pend) a' w') a w) fl.length ea a w
def tG:List Bool->Nat
 |[]=>0
 |true::l=>tG l
 |false::l=>tG l+1
theorem abH:∀{l:List Bool} {i:Nat},l[i]? =some false->tG (l.set i true)+1=tG l
 |[],i,h=>by simp at h
 |b::l,0,h=>by
  simp only [ec,b8] at h;subst h;rfl
 |b::l,i+1,h=>by simp only [cf] at h;have:=abH h;cases b <;> simp only [List.set_cons_succ,tG] <;> omega
theorem adj:∀{n:Nat},tG (List.replicate n false)=n
 |0=>rfl
 |n+1=>by rw [qi,tG,adj]
theorem VG{Q:bu}:∀(c:Nat) (pend:ej) (f:Nat×(World->Prop)->Bool) (b:x4) (a:Act) (w:World),Dd P ρ md ops Q c pend b a w->Dd P ρ md ops Q c (pend.filter f) b a w
 |0,_,_,_,_,_,h=>⟨kN h.1,h.2⟩
 |c+1,pend,f,b,a,w,h=>⟨kN h.1,h.2.1,λi hi=>wpOpIn_mono (λe w' d=>by
   have:still md ops i (pend.filter f)=(still md ops i pend).filter f:=by unfold still;rw [qM,qM];congr 1;funext p;exact Bool.and_comm ..
   rw [this];exact VG c _ f _ _ _ d) (h.2.2 i hi)⟩
theorem filter_lt{α:Type}{p q:α->Bool}(a:∀x,q x=true->p x=true):∀{l:List α} {x:α},x∈l->p x=true->q x=false->(l.filter q).length<(l.filter p).length
 |y::l,x,hx,hp,hq=>by
  have c:∀l:List α,(l.filter q).length<=(l.filter p).length:=λl=>by
   induction l with
   |nil=>exact bb _
   |cons z l ih=>
    rw [qg,qg];cases b:q z
    .cases p z <;> simp <;> omega
    .rw [a z b];simp;omega
  rw [qg,qg];rcases List.mem_cons.1 hx with rfl|hx
  .rw [hp,hq];have:=c l;simp;omega
  .have ih:=filter_lt a hx hp hq;cases b:q y
   .cases p y <;> simp <;> omega
   .rw [a y b];simp;omega
theorem aqw{Q:bu}{masks:x8}(hm:masks=ops.toList.map λo=>fw o.after.toList)(he:abc ops.size ops.toList=true)(hD:MU ops ops.toList masks ops.toList masks 0=true)
  (hs:Region.noSelect ops=true) (hQ:∀c (a:Act) d v w,Q (.panic c) (a.put d v) w->Q (.panic c) a w) (hpl:∀(j:Nat) (o:Oper),ops[j]? =some o->ix o=true):∀(C:OT) (n:Nat) (pf s:x8) (pend:ej) (g:x4) (m:Nat) (a:Act) (w:World),
  (∀f∈s,f∈pf)->LM ops.size g (ia m s)->tG g.toList=n->rO masks C pf m=true->fU pend w->tM ops g->gZ P ρ ops Q C s pend a w->Dd P ρ .any ops Q n pend g a w:=by
 have T:∀{k m:Nat} {s:x8} {g:x4},LM ops.size g (ia m s)->wT masks k m=true->k∉s->k∈Region.ready .any ops g:=λ{k m s g} u h M=>by
  rw [Dt hm he u];unfold wT at h;cases ha:masks[k]? with
  |none=>rw [ha] at h;cases h
  |some a=>
   rw [ha] at h;simp only [ae,et] at h;refine ⟨a,rfl,?_,?_⟩
   .rw [dL,h.1,qv,n3];exact λhc=>M (df.1 hc)
   .rw [vV] at h ⊢;intro i hi;rw [dL,h.2 i hi,Bool.true_or]
 have only:∀{m:Nat} {ks fl s:x8} {g:x4},(∀f∈s,f∈fl)->LM ops.size g (ia m s)->Dp masks 0 (ia m fl) ks=true->∀i∈Region.ready .any ops g,i∉s/\m.testBit i=false/\(i∈fl\/i∈ks):=λ{m ks fl s g} r u h i hi=>by
  obtain ⟨a,ha,A,O⟩:=(Dt hm he u).1 hi;rw [dL,qD] at A;refine ⟨(λhc=>by rw [df.2 hc] at A;cases A.2),A.1,?_⟩;by_cases E:i∈fl
  .exact .inl E
  .refine .inr ?_;have:=SS masks 0 (ia m fl) ks h i a ha (by rw [hV,dL,A.1,qv,n3];exact λhc=>E (df.1 hc)) (by rw [vV] at O ⊢;intro j hj;have:=O j hj;rw [dL,c5] at this;rw [dL,c5];exact this.imp id λh=>df.2 (r j (df.1 h)))
   rwa [hV] at this
 have B:∀{i n:Nat} {g:x4},i∈Region.ready .any ops g->tG g.toList=n->∃n',n=n'+1/\tG (g.setIfInBounds i true).toList=n':=λ{i n g} hi D=>by
  have A:=(mem_ready.1 hi).1;have O:g.toList[i]? =some false:=by
   rw [kW] at A;rw [qk];cases hl:g[i]? with
   |none=>rw [hl] at A;cases A
   |some b=>rw [hl] at A;simp only [qx] at A;rw [A]
  have N:=abH O;refine ⟨tG (g.toList.set i true),by omega,?_⟩;rw [Array.toList_setIfInBounds]
 have X:∀{g:x4} {m U:Nat},LM ops.size g m->(∀i,m.testBit i=U.testBit i)->LM ops.size g U:=λh e=>⟨h.1,λi hi=>by rw [h.2 i hi,e]⟩;have L:∀{g:x4} {m k:Nat} {s:x8},LM ops.size g (ia m s)->LM ops.size (g.setIfInBounds k true) (ia (bit m k) s):=λ{g m k s} h=>X h.set λi=>by rw [AF,dL,dL,AF];cases m.testBit i <;> cases (k==i) <;> cases dh i s <;> rfl
 intro C
 induction C with
 |nil=>
  intro n pf s pend g m a w r u D z H t h;simp only [rO,ae,List.isEmpty_iff] at z;obtain ⟨rfl,z⟩:=z;have h0:Region.ready .any ops g=[]:=by
   cases hr:Region.ready .any ops g with
   |nil=>rfl
   |cons x xs=>
    obtain ⟨_,_,A⟩:=only (fl:=[]) r u z x (by rw [hr];exact bj ..);simp at A
  cases n with
  |zero=>exact ⟨H,h0,h⟩
  |succ n=>exact ⟨H,λ_=>h,λi hi=>by rw [h0] at hi;cases hi⟩
 |q k U rest ih=>
  intro n pf s pend g m a w r u D z H t h;simp only [rO,ae,et] at z;obtain ⟨⟨⟨K,M⟩,hkp⟩,z⟩:=z;have:=ah K;subst this;simp only [gZ] at h;split at h
  .exact h.elim
  .rename_i o Y;obtain ⟨v,J,hJw,hy,h⟩:=h;have G:=T u M (λhc=>by rw [df.2 (r k hc)] at hkp;cases hkp);obtain ⟨n',rfl,V⟩:=B G D;refine ai8 Y (Region.noSelect_spec hs) hQ hpl n' pend g a w (λj oj hj hne hun hno=>?_) t G hy (ih _ _ _ _ _ _ _ _ r (L u) V z ⟨hJw,H⟩ (l8 t G) h);refine ak2 hm hD Y hj hne ?_ ?_
   .rw [lU,n3];intro hc;obtain ⟨e,hin,hb⟩:=List.any_eq_true.1 hc;simp only [ae,kX] at hb;exact hno e (by simpa using hin) hb.1 hb.2
   .rw [lU,n3];intro hc;obtain ⟨e,hin,hb⟩:=List.any_eq_true.1 hc;simp only [ae,kX] at hb;obtain ⟨_,o',ho',y⟩:=mem_ready.1 G;rw [Y] at ho';cases ho';have N:=y e (by simpa using hin) hb.1;have hlt:j<ops.size:=(Array.getElem?_eq_some_iff.1 hj).1;rw [hb.2,u.getD false hlt,<-u.2 j hlt,hun] at N;cases N
 |l k U rest ih=>
  intro n pf s pend g m a w r u D z H t h;simp only [rO,ae,List.isEmpty_iff] at z;obtain ⟨⟨⟨⟨rfl,K⟩,M⟩,Y⟩,z⟩:=z;have:=ah K;subst this;simp only [gZ] at h;have G:=T u M (λhc=>by cases r k hc);obtain ⟨n',rfl,V⟩:=B G D;split at h
  .exact h.elim
  .refine ⟨H,(λh0=>by rw [h0] at G;cases G),λi hi=>?_⟩;obtain ⟨_,_,A⟩:=only (fl:=[]) r u Y i hi;have:i=k:=by simpa using A
   subst this;exact wpOpIn_mono (λS w' I=>ih _ _ _ _ _ _ _ _ r (L u) V z I.1 (l8 t hi) I.2) h
 |l2 U k₁ r₁ k₂ r₂ ih1 ih2=>
  intro n pf s pend g m a w r u D z H t h;simp only [rO,ae,List.isEmpty_iff] at z;obtain ⟨⟨⟨⟨⟨⟨rfl,K⟩,hk1⟩,hk2⟩,Y⟩,hB1⟩,hB2⟩:=z;have:=ah K;subst this;simp only [gZ] at h;obtain ⟨A,O⟩:=h;have W:=T u hk1 (λhc=>by cases r k₁ hc);have hk2':=T u hk2 (λhc=>by cases r k₂ hc);obtain ⟨n',rfl,hn1⟩:=B W D;obtain ⟨n2,e2,Z⟩:=B hk2' D;have e3:n2=n':=by omega
  subst e3;refine ⟨H,(λh0=>by rw [h0] at W;cases W),λi hi=>?_⟩;obtain ⟨_,_,N⟩:=only (fl:=[]) r u Y i hi;have N:i=k₁\/i=k₂:=by simpa using N
  rcases N with rfl|rfl
  .split at A
   .exact A.elim
   .exact wpOpIn_mono (λS w' I=>ih1 _ _ _ _ _ _ _ _ r (L u) hn1 hB1 I.1 (l8 t hi) I.2) A
  .split at O
   .exact O.elim
   .exact wpOpIn_mono (λS w' I=>ih2 _ _ _ _ _ _ _ _ r (L u) Z hB2 I.1 (l8 t hi) I.2) O
 |f k U fl R rest ih=>
  intro n pf s pend g m a w r u D z H t h;simp only [rO,ae,qy,et] at z;obtain ⟨⟨⟨⟨⟨⟨⟨K,hpf⟩,hfl⟩,hfs⟩,hkf⟩,M⟩,Y⟩,z⟩:=z;have:=ah K;subst this;simp only [gZ] at h;have hsub':∀f∈s,f∈fl:=λf E=>df.1 (hpf f (r f E));have hkfl:k∉fl:=λhc=>by rw [df.2 hc] at hkf;cases hkf
  have flm:∀f∈fl,U.testBit f=false:=λf E=>by
   have:=hfl f E;unfold wT at this;split at this
   .simp only [ae,et] at this;exact this.1
   .cases this
  have main:∀(nf n:Nat) (s:x8) (g:x4) (a:Act) (w:World),(∀f∈s,f∈fl)->(fl.filter λf=> !(dh f s)).length<=nf->LM ops.size g (ia U s)->tG g.toList=n->fU pend w->tM ops g->
    wpE P ρ ops Q fl pend (λs a w=>(∀f∈R,f∈s)->wpOpIn (FW ρ) 0 P ops Q k (λS w'=>fU (still .any ops k pend) w'/\gZ P ρ ops Q rest (s.filter λf=> !(dh f R)) (still .any ops k pend) S w') a w) nf s a w->Dd P ρ .any ops Q n pend g a w:=by
   have body:∀(n:Nat) (s:x8) (g:x4) (a:Act) (w:World),(∀f∈s,f∈fl)->LM ops.size g (ia U s)->tG g.toList=n->fU pend w->tM ops g->
     ((∀f∈R,f∈s)->wpOpIn (FW ρ) 0 P ops Q k (λS w'=>fU (still .any ops k pend) w'/\gZ P ρ ops Q rest (s.filter λf=> !(dh f R)) (still .any ops k pend) S w') a w)->
     (∀i∈fl,i∉s->wpOpIn (FW ρ) 0 P ops Q i (λS w'=>∀n',LM ops.size (g.setIfInBounds i true) (ia U (i::s))->tG (g.setIfInBounds i true).toList=n'->tM ops (g.setIfInBounds i true)->Dd P ρ .any ops Q n' pend (g.setIfInBounds i true) S w') a w)->Dd P ρ .any ops Q n pend g a w:=by
    intro n s g a w r u D H t hx E;have F:∃i,i∈Region.ready .any ops g:=by
     by_cases y:∀f∈R,f∈s
     .refine ⟨k,?_⟩;rw [Dt hm he u];unfold wT at M;cases ha:masks[k]? with
      |none=>rw [ha] at M;cases M
      |some x=>
       rw [ha] at M;simp only [ae,et] at M;refine ⟨x,rfl,?_,?_⟩
       .have:=M.1;rw [dL,qD] at this;rw [dL,this.1,qv,n3];exact λhc=>hkfl (r k (df.1 hc))
       .have O:=M.2;rw [vV] at O ⊢;intro j hj;have:=O j hj;rw [dL,c5] at this;rw [dL,c5];exact this.imp id λh=>df.2 (y j (df.1 h))
     .obtain ⟨f,hff,hfe⟩:∃f,f∈R/\f∉s:=by apply qV;intro hc;exact y λf E=>qV λD=>hc ⟨f,E,D⟩
      exact ⟨f,T u (hfl f (df.1 (hfs f hff).1)) hfe⟩
    obtain ⟨i0,hi0⟩:=F;obtain ⟨n',rfl,_⟩:=B hi0 D;refine ⟨H,(λh0=>by rw [h0] at hi0;cases hi0),λi hi=>?_⟩;obtain ⟨n2,e2,Z⟩:=B hi D;have e3:n2=n':=by omega
    subst e3;obtain ⟨A,O,N⟩:=only r u Y i hi;rcases N with N|N
    .exact wpOpIn_mono (λS w' I=>VG _ _ _ _ _ _ (I _ u.set Z (l8 t hi))) (E i N A)
    .have:i=k:=by simpa using N
     subst this;have y:∀f∈R,f∈s:=λf hf'=>by obtain ⟨x,hx1,_,hx3⟩:=(Dt hm he u).1 hi;obtain ⟨q1,q2⟩:=hfs f hf';unfold hasB at q2;rw [hx1] at q2;have:=vV.1 hx3 f q2;rw [dL,flm f (df.1 q1),qv] at this;exact df.1 this
     refine wpOpIn_mono (λS w' I=>ih _ _ _ _ _ _ _ _ (λf E=>?_) (X u.set λj=>?_) Z z I.1 (l8 t hi) I.2) (hx y)
     .rw [List.mem_filter] at E ⊢;exact ⟨r f E.1,E.2⟩
     .rw [AF,dL,dL,AF,dL];have e:dh j s=(dh j R||dh j (s.filter λf=> !(dh f R))):=by
       rw [qN,c5,df,df,df,List.mem_filter];constructor
       .intro h;by_cases hj:j∈R
        .exact .inl hj
        .refine .inr ⟨h,?_⟩;rw [et,n3];exact λhc=>hj (df.1 hc)
       .rintro (h|h)
        .exact y j h
        .exact h.1
      rw [e];cases U.testBit j <;> cases (i==j) <;> cases dh j R <;> cases dh j (s.filter λf=> !(dh f R)) <;> rfl
   intro nf
   induction nf with
   |zero=>
    intro n s g a w r hlen u D H t h;refine body n s g a w r u D H t h λi hi hie=>?_;have:i∈fl.filter λf=> !(dh f s):=List.mem_filter.2 ⟨hi,by rw [et,n3];exact λhc=>hie (df.1 hc)⟩
    rw [cp (Nat.le_zero.1 hlen)] at this;cases this
   |succ nf ihf=>
    intro n s g a w r hlen u D H t h;refine body n s g a w r u D H t h.1 λi hi hie=>?_;have hie':dh i s=false:=by rw [n3];exact λhc=>hie (df.1 hc)
    refine wpOpIn_mono (λS w' I n' hL' V hcl'=>ihf n' (i::s) _ S w' (λf E=>?_) ?_ hL' V I.1 hcl' I.2) (h.2 i hi hie')
    .rcases List.mem_cons.1 E with rfl|E
     .exact hi
     .exact r f E
    .have:=filter_lt (p:=λf=> !(dh f s)) (q:=λf=> !(dh f (i::s))) (λx hx=>by simp only [dh,Bool.not_or,ae] at hx;exact hx.2) hi (by rw [hie'];rfl) (by simp [dh])
     omega
  exact main fl.length n s g a w hsub' (List.length_filter_le ..) u D H t h
theorem K8{j:Nat}:∀(b a:ej) (w:World),fU (b++a) w->fU (b++(j,λ_=>True)::a) w
 |[],_,_,h=>⟨trivial,h⟩
 |_::b,a,w,h=>⟨h.1,K8 b a w h.2⟩
theorem afj{Q:bu}{fl:x8}{pend pend':ej}{d c:x8->Act->World->Prop}(hp:∀w,fU pend w->fU pend' w)(hx:∀b a w,d b a w->c b a w):∀(n:Nat) (b:x8) (a:Act) (w:World),wpE P ρ ops Q fl pend d n b a w->wpE P ρ ops Q fl pend' c n b a w
 |0,b,a,w,h=>hx b a w h
 |n+1,b,a,w,h=>⟨hx b a w h.1,λf i g=>wpOpIn_mono (λ_ w' e=>⟨hp w' e.1,afj hp hx n _ _ _ e.2⟩) (h.2 f i g)⟩
theorem alF{Q:bu}:∀(d:OT) (g:x8) (b l2:ej) (a:Act) (w:World),gZ P ρ ops Q d g (b++l2) a w->gZ P ρ ops Q d g (b++(j,λ_=>True)::l2) a w:=by
 have c:∀(k:Nat) (b l2:ej),still .any ops k (b++l2)=still .any ops k b++still .any ops k l2:=λk b l2=>List.filter_append ..;intro d;have i:∀(k:Nat) (r:OT) (g:x8) (b l2:ej) (a:Act) (w:World),(∀(g:x8) (b l2:ej) (a:Act) (w:World),gZ P ρ ops Q r g (b++l2) a w->gZ P ρ ops Q r g (b++(j,λ_=>True)::l2) a w)->
   wpOpIn (FW ρ) 0 P ops Q k (λx w'=>fU (still .any ops k (b++l2)) w'/\gZ P ρ ops Q r g (still .any ops k (b++l2)) x w') a w->
   wpOpIn (FW ρ) 0 P ops Q k (λx w'=>fU (still .any ops k (b++(j,λ_=>True)::l2)) w'/\gZ P ρ ops Q r g (still .any ops k (b++(j,λ_=>True)::l2)) x w') a w:=λk r g b l2 a w ih h=>by
  refine wpOpIn_mono (λx w' u=>?_) h;rw [c] at u;rw [c];have e:still .any ops k ((j,λ_=>True)::l2)=(j,λ_=>True)::still .any ops k l2\/still .any ops k ((j,λ_=>True)::l2)=still .any ops k l2:=by
   unfold still;rw [qg];split
   .exact .inl rfl
   .exact .inr rfl
  rcases e with e|e
  .rw [e];exact ⟨K8 _ _ _ u.1,ih _ _ _ _ _ u.2⟩
  .rw [e];exact u
 induction d with
 |nil=>intro g b l2 a w h;exact h
 |q k m r ih=>
  intro g b l2 a w h;simp only [gZ] at h ⊢;split at h
  .exact h.elim
  .obtain ⟨v,J,E,C,h⟩:=h;exact ⟨v,J,E,C,ih g ((k,J)::b) l2 _ _ h⟩
 |l k m r ih=>
  intro g b l2 a w h;simp only [gZ] at h ⊢;split at h
  .exact h.elim
  .exact i k r g b l2 a w ih h
 |l2 m s o p n z y=>
  intro g b l2 a w h;simp only [gZ] at h ⊢;obtain ⟨B,A⟩:=h;refine ⟨?_,?_⟩
  .split at B
   .exact B.elim
   .exact i s o g b l2 a w z B
  .split at A
   .exact A.elim
   .exact i p n g b l2 a w y A
 |f k m fl F r ih=>
  intro g b l2 a w h;simp only [gZ] at h ⊢;exact afj (λw D=>K8 _ _ _ D) (λg a w hx t=>i k r _ b l2 a w ih (hx t)) _ _ _ _ h
theorem alV{Q:bu}(c:vA)(a:Act)(d:xc)(v:Value)(w:World)(h:QN Q (.panic c) (a.put d v) w):QN Q (.panic c) a w:=by unfold QN at*;rwa [il] at h
end
def WD(P:Program)(ρ:xb)(ops:xJ)(Q:bu)(n:Nat)(D:v7)(order:OT)(pend:ej)(E:Env)(w:World):Prop:=
 ∀a,Fits n E a->a.defers=D->gZ P ρ ops (QN Q) order [] pend a w
section
variable {P : Program} {ρ : xb} {Q : bu} {n : Nat} {D : v7} {E : Env} {w : World}
theorem SC{id:Nat}{ops:xJ}{a:Act}(h:(Code.region id ops true).wpIn (FW ρ) 0 P (QN Q) a w):(Code.region id ops true).wpIn (FW ρ) 0 P Q a w:=
 wpIn_mono h λe a w b=>by cases e <;> first|exact b|exact b a rfl
theorem uM{id:Nat}{l:x5}(masks:x8)(b:OT)(r:P.follows .mixedOrders=true)(q:ac6 l.toArray masks b=true)
  (h:∀w1,Ext w w1->WD P ρ l.toArray Q n D b [] E w1):WC P ρ (.region id l.toArray true) Q n D E w:=by
 simp only [ac6,ae] at q;obtain ⟨⟨⟨⟨⟨f,c⟩,g⟩,k⟩,m⟩,e⟩:=q;intro a t hd;refine SC (wpIn_region_any r ?_);have d:∀(j:Nat) (o:Oper),l.toArray[j]? =some o->ix o=true:=λj o s=>List.all_eq_true.1 f o (by simpa using Array.mem_of_getElem? s);have u:LM l.toArray.size (Array.replicate l.toArray.size false) (ia 0 []):=⟨by simp,λi hi=>by show _=Nat.testBit 0 i;simp at hi;simp [Array.getD,hi]⟩
 exact aga _ _ _ _ _ (aqw (OS _ _ g) k m c alV d b _ [] [] [] _ 0 a _ (λ_ h=>by cases h) u (by rw [Array.toList_replicate];exact adj) e trivial (λl v x p=>by rw [Array.getElem?_replicate] at p;split at p <;> cases p) (h { w with drawn:=w.drawn+1 } ⟨rfl,rfl,rfl,bb _,λ_ _=>rfl⟩ a t hd))
variable {ops : xJ} {rest : OT} {pend : ej} {k mk : Nat}
theorem ajB(h:At Q .normal n D E w):WD P ρ ops Q n D .nil pend E w:=λa b hd=>h a b hd
theorem aqM{d:Tmp}(J:World->Prop)(j:J w)(e:∀w,J w->bg P E true o w v)(g:ops[k]? =some o)(i:o.guard=none)(hd:o.dst=some d)(f:Nat.blt d n=true)
  (h:WD P ρ ops Q n D rest ((k,J)::pend) ((d,true,v)::E) w):WD P ρ ops Q n D (.q k mk rest) pend E w:=λa c l=>by
 simp only [gZ,g];refine ⟨v,J,j,.inl ⟨by simp [Region.wanted,i],λw' b=>e w' b n a c rfl⟩,?_⟩;rw [hd];exact h _ (c.put f) l
theorem gz{d:Tmp}(b:∀w,bg P E true o w v)(e:ops[k]? =some o)(f:o.guard=none)(hd:o.dst=some d)(c:Nat.blt d n=true)
  (h:WD P ρ ops Q n D rest pend ((d,true,v)::E) w):WD P ρ ops Q n D (.q k mk rest) pend E w:=
 aqM (λ_=>True) trivial (λw _=>b w) e f hd c (λa g i=>alF rest [] [] pend a w (h a g i))
def QK(P:Program)(ρ:xb)(ops:xJ)(Q:bu)(_n:Nat)(_D:v7)(rest:OT)(pend:ej):bu:=λe a w=>match e with
 | .normal=>fU pend w/\gZ P ρ ops (QN Q) rest [] pend a w
 | .panic c=>BE Q c a.defers w
 |e=>Q e a w
theorem ane(c:fU pend w)(h:WD P ρ ops Q n D rest pend E w):At (QK P ρ ops Q n D rest pend) .normal n D E w:=λa b hd=>⟨c,h a b hd⟩
theorem af1{pend':ej}(d:ops[k]? =some o)(hp:still .any ops k pend=pend')(h:WL P ρ ops (QK P ρ ops Q n D rest pend') n D [o] E w):
  WD P ρ ops Q n D (.l k mk rest) pend E w:=λa e f=>by
 subst hp;simp only [gZ,d];have b:=h a e f;unfold wpOpIn;simp only [d];simp only [wpListIn] at b;split
 .rename_i c;simp only [c,qn] at b;refine ⟨b.1,?_⟩;have b:=b.2;generalize (o.semAt (FW ρ).round a.eval).run P w=r at*;cases r with
  |ok n w'=>
   cases n <;> simp only [Oper.uponIn] at b ⊢ <;> exact b
  |halt x w'=>cases x <;> simp only [Oper.uponIn] at b ⊢ <;> exact b
 next c=>simp only [c] at b;exact b
end
def OT.ops:OT->x8
 | .nil=>[]
 | .q k _ r=>k::r.ops
 | .l k _ r=>k::r.ops
 | .l2 _ k₁ r₁ k₂ r₂=>k₁::k₂::(r₁.ops++r₂.ops)
 | .f k _ _ _ r=>k::r.ops
def OT.Sg:OT->x8
 | .nil=>[]
 | .q _ _ r=>r.Sg
 | .l _ _ r=>r.Sg
 | .l2 _ _ r₁ _ r₂=>r₁.Sg++r₂.Sg
 | .f _ _ fl _ r=>fl++r.Sg
def nW(ops:xJ)(j f:Nat):Bool:=match ops[j]?, ops[f]? with
 |some oj,some f=>(match oj.dst with
  |none=>true
  |some d=>(f.looksAt ops).all (λt=> !(Nat.beq t d))&& !(M5 d f))
 |_,_=>false
theorem ahT{ops:xJ}{f:Nat}(h:nW ops j f=true)(a:ops[j]? =some oj)(b:ops[f]? =some o):(∀d,oj.dst=some d->d∉o.looksAt ops)/\(∀d,oj.dst=some d->o.dst≠some d):=by
 unfold nW at h;rw [a,b] at h;simp only at h;constructor
 .intro d hd hc;rw [hd] at h;simp only [ae,qy] at h;have:=h.1 d hc;simp at this
 .intro d hd hc;rw [hd] at h;simp only [ae,et,M5,hc] at h;simp at h
def E6(o:Oper)(b:Nat):Value:=match o.op with
 | .buildSlice _ len _=> .slice (some ⟨b,0,none⟩) len len
 |_=> .pointer (some ⟨b,0,none⟩)
abbrev pL:=Nat×Nat×TypeId×w9
def sI(P:Program)(ops:xJ)(a:Act)(x:pL):Prop:= ∃(o:Oper) (d:Tmp) (w0:World),ops[x.1]? =some o/\o.dst=some d/\(∀cs b,o.op≠ .select cs b)/\x.2.1=w0.heap.size/\
 a.tmps.getD d undef=E6 o x.2.1/\(execOp a.eval o).run P w0= .ok (.value (E6 o x.2.1)) (w0.alloc (.cells x.2.2.2.toArray x.2.2.1))
section
variable {P : Program} {ρ : xb} {Q : bu} {n : Nat} {D : v7} {E : Env} {w : World} {ops : xJ}
theorem sI.put{a:Act}{x:pL}(h:sI P ops a x)(i:ops[j]? =some oj)(k:nW ops j x.1=true):sI P ops (a.put oj.dst v) x:=by
 obtain ⟨o,d,g,f,c,b,p,n,m⟩:=h;obtain ⟨r,q⟩:=ahT k i f;refine ⟨o,d,g,f,c,b,p,?_,?_⟩
 .rw [<-n];have:=Act.eval_put (a:=a) (dst:=oj.dst) (v:=v) (x:= .tmp d) (λe l hc=>q e l (by cases hc;exact c));exact this
 .rw [execOp_put (ops:=ops) o b a oj.dst v r];exact m
theorem aiI{C:Act->Prop}(p:ops[j]? =some oj)(g:∀a v,C a->C (a.put oj.dst v))(m:∀(a:Act) d,C a->C { a with defers:=d::a.defers }){K:Act->World->Prop}{a:Act}
  (hc:C a) (h:wpOpIn (FW ρ) 0 P ops Q j K a w):wpOpIn (FW ρ) 0 P ops Q j (λo w'=>C o/\K o w') a w:=by
 unfold wpOpIn at*;simp only [p] at*;split
 .rename_i k;simp only [k,qn] at h;refine ⟨h.1,?_⟩;have h:=h.2;generalize (oj.semAt (FW ρ).round a.eval).run P w=r at*;cases r with
  |ok n w'=>
   cases n <;> simp only [Oper.uponIn] at h ⊢
   case value u=>exact ⟨g a u hc,h⟩
   case skip=>exact ⟨g a _ hc,h⟩
   case defer d=>exact ⟨g _ _ (m a d hc),h⟩
   case enter f args=>
    refine ⟨h.1,CallsIn.mono h.2 λe i b=>?_⟩;cases e with
    |returned u=>exact ⟨g a u hc,b⟩
    |panicked c=>exact b
    |outgrown=>exact b
   case row row args=>exact ⟨h.1,RowsIn.mono h.2 λu i b=>⟨g a u hc,b⟩⟩
   case round l f tmps assign body=>
    refine ⟨h.1,RoundIn.mono h.2 λe i b=>?_⟩;cases e with
    |returned u=>exact ⟨g a u hc,b⟩
    |panicked c=>exact b
    |outgrown=>exact b
  |halt x w'=>
   cases x <;> simp only [Oper.uponIn] at h ⊢
   case panic u=>exact h
 next k=>simp only [k] at h;exact ⟨h.1,g a _ hc,h.2⟩
def DO(P:Program)(ρ:xb)(ops:xJ)(Q:bu)(n:Nat)(D:v7)(order:OT)(EV:List pL)(pend:ej)(E:Env)(w:World):Prop:=
 ∀a,Fits n E a->a.defers=D->(∀x∈EV,sI P ops a x)->gZ P ρ ops (QN Q) order (EV.map (·.1)) pend a w
theorem DO.wd{b:OT}{pend:ej}(h:DO P ρ ops Q n D b [] pend E w):WD P ρ ops Q n D b pend E w:=λa c hd=>h a c hd λ_ hx=>by cases hx
theorem aoy{EV:List pL}{pend:ej}(h:At Q .normal n D E w):DO P ρ ops Q n D .nil EV pend E w:=λa b hd _=>h a b hd
theorem apX{EV:List pL}{pend:ej}{mk e d:Nat}{c b:OT}(g:DO P ρ ops Q n D (.l e mk c) EV pend E w)(f:DO P ρ ops Q n D (.l d mk b) EV pend E w):DO P ρ ops Q n D (.l2 mk e c d b) EV pend E w:=λa h i hc=>by have g:=g a h i hc;have f:=f a h i hc;simp only [gZ] at g f ⊢;exact ⟨g,f⟩
def QKE(P:Program)(ρ:xb)(ops:xJ)(Q:bu)(rest:OT)(EV:List pL)(pend:ej):bu:=λe a w=>match e with
 | .normal=>(∀x∈EV,sI P ops a x)->fU pend w/\gZ P ρ ops (QN Q) rest (EV.map (·.1)) pend a w
 | .panic c=>BE Q c a.defers w
 |e=>Q e a w
theorem apN{rest:OT}{EV:List pL}{pend:ej}(c:fU pend w)(h:DO P ρ ops Q n D rest EV pend E w):At (QKE P ρ ops Q rest EV pend) .normal n D E w:=λa b hd hc=>⟨c,h a b hd hc⟩
theorem adl{rest:OT}{EV:List pL}{pend:ej}{c:vA}(h:BE Q c D w):At (QKE P ρ ops Q rest EV pend) (.panic c) n D E w:=λa _ hd=>by subst hd;exact h
theorem amM{rest:OT}{EV:List pL}{pend pend':ej}{k mk:Nat}(c:ops[k]? =some o)(j:∀x∈EV,nW ops k x.1=true)(hp:still .any ops k pend=pend')(h:WL P ρ ops (QKE P ρ ops Q rest EV pend') n D [o] E w):
  DO P ρ ops Q n D (.l k mk rest) EV pend E w:=λa g i hc=>by
 subst hp;simp only [gZ,c];have b:=h a g i;have m:wpOpIn (FW ρ) 0 P ops (QN Q) k (λf w'=>(∀x∈EV,sI P ops f x)->fU (still .any ops k pend) w'/\gZ P ρ ops (QN Q) rest (EV.map (·.1)) (still .any ops k pend) f w') a w:=by
  unfold wpOpIn;simp only [c];simp only [wpListIn] at b;split
  .rename_i e;simp only [e,qn] at b;refine ⟨b.1,?_⟩;have b:=b.2;generalize (o.semAt (FW ρ).round a.eval).run P w=r at*;cases r with
   |ok n w'=>cases n <;> simp only [Oper.uponIn] at b ⊢ <;> exact b
   |halt x w'=>cases x <;> simp only [Oper.uponIn] at b ⊢ <;> exact b
  next e=>simp only [e] at b;exact b
 exact wpOpIn_mono (λf w' h=>h.2 h.1) (aiI (C:=λa=>∀x∈EV,sI P ops a x) c (λa v hc x hx=>(hc x hx).put c (j x hx)) (λa d hc x hx=>hc x hx) hc m)
end
section
variable {α : Type} {A : dD α} {M : Nat -> Prop} {w : World} {v : Value} {xs : List α} {i : Int} {x : α} {e : TypeId} {R : x8} {cs : w9}
end
theorem bQ.arj{α:Type}{A:dD α}{M:Nat->Prop}{w:World}{g:Bool}{v:Value}{xs:List α}{i j:Int}(h:g=true->bQ A M w v xs)(hc:g=true->db i j xs.length=true):
  ∃p:fA,(g=true->QU v i j A.n (sl p))/\(g=true->bQ A M w (sl p) (bD xs i j)):=by
 cases g
 .exact ⟨(none,0,0),(λh=>by cases h),(λh=>by cases h)⟩
 .obtain ⟨c,b,a⟩:=bQ.cut (h rfl) (hc rfl);obtain ⟨p,rfl⟩:=a.lz;exact ⟨p,λ_=>b,λ_=>a⟩
theorem bQ.aqv{α:Type}{A:dD α}{M:Nat->Prop}{w:World}{g:Bool}{v:Value}{xs:List α}{i j k:Int}(h:g=true->bQ A M w v xs)(hc:g=true->jO i j k xs.length=true):
  ∃p:fA,(g=true->MO v i j k A.n (sl p))/\(g=true->bQ A M w (sl p) (bD xs i j)):=by
 cases g
 .exact ⟨(none,0,0),(λh=>by cases h),(λh=>by cases h)⟩
 .obtain ⟨c,b,a⟩:=bQ.arp (h rfl) (hc rfl);obtain ⟨p,rfl⟩:=a.lz;exact ⟨p,λ_=>b,λ_=>a⟩
section
variable {P : Program} {ρ : xb} {Q : bu} {n : Nat} {D : v7} {E : Env} {w : World} {ops : xJ} {rest : x5} {Γ : Ctx} {g : Bool}
variable {dst : xc} {d : Tmp} {ty : TypeId} {pos : String} {af : x3} {gd : vb}
def fK:TypeDesc->Bool
 | .interface _=>true
 |_=>false
theorem aex{x:Operand}{v:Value}{t:TypeId}{dd:TypeDesc}(b:P.underlying t=some dd)(hd:fK dd=false)(hx:ar E g x v):bg P E g ⟨dst,.makeInterface t x,ty,pos,af,gd⟩ w (.iface t v):=
 λn a d c=>by simp only [execOp,hx n a d c,Instr.makeInterface,Sem.run_bind,run_underlying b,Result.andThen_ok];cases dd <;> first|rfl|(simp [fK] at hd)
theorem aeT{x:Operand}{v:Value}{s t:TypeId}{dd:TypeDesc}(b:P.underlying t=some dd)(hd:fK dd=false)(hx:ar E g x (.iface t v)):bg P E g ⟨dst,.typeAssert x s t false,ty,pos,af,gd⟩ w v:=
 λn a d c=>by simp only [execOp,hx n a d c,Instr.typeAssert,Sem.run_bind,run_underlying b,Result.andThen_ok];cases dd <;> first|(dsimp only;rw [lk rfl];rfl)|(simp [fK] at hd)
end
def gl(b:Nat)(vs:w9):Item where
 own:=[]
 P M w:= ¬M b/\∃t fr,w.heap[b]? =some (.cells vs.toArray t fr)
 lt _ b hb:=by cases hb
 cK {M M' w w'} h m _ _:=by obtain ⟨h1,t,fr,hb⟩:=h;obtain ⟨h2,h3⟩:=m.2 _ (Array.getElem?_eq_some_iff.1 hb).1 h1;exact ⟨h2,t,fr,h3.trans hb⟩
 cF:=true
 hp _:=rfl
section
variable {Γ : Ctx} {w : World} {α : Type} {A : dD α} {i : Nat}
theorem Sat.gl0(h:Sat Γ w){b:Nat}{vs:w9}(hi:Γ[i]? =some (gl b vs)):¬ Γ.M b/\∃t fr,w.heap[b]? =some (.cells vs.toArray t fr):=h.at_ hi
theorem Sat.gl(h:Sat Γ w){b:Nat}{vs:w9}(hi:Γ[i]? =some (gl b vs)):¬ Γ.M b/\bM w ⟨b,0,none⟩ vs:=by obtain ⟨c,t,fr,hb⟩:=h.gl0 hi;exact ⟨c,rfl,_,t,fr,hb,λj u a=>by simpa using a⟩
theorem aqH{M:Nat->Prop}{xs:List α}(d:¬M b)(h:bM w ⟨b,0,none⟩ vs)(a:cL A M w vs xs):bQ A M w (sl (some ⟨b,0,none⟩,xs.length,xs.length)) xs:=by
 obtain ⟨_,cs,t,fr,hb,hc⟩:=h;have i:=a.1;have c:vs.length<=cs.size:=by
  rcases Nat.eq_zero_or_pos vs.length with g|g
  .omega
  .have:=hc (vs.length-1) _ (cb (by omega));have:=(Array.getElem?_eq_some_iff.1 this).1;omega
 refine .inr ⟨b,0,xs.length,cs,t,fr,rfl,d,hb,bb _,by omega,?_⟩;have e:(cs.toList.drop 0).take (xs.length*A.n)=vs:=by
  apply List.ext_getElem
  .simp;omega
  .intro j k f;have:=hc j _ (cb f);simp only [l9,q4,Array.getElem_toList];rw [hV] at this;exact (Array.getElem?_eq_some_iff.1 this).2
 rw [e];exact a
theorem anK{β:Type}{xs:List β}{j:Int}{x:β}{n:Nat}(hx:idx xs j=some x)(b:xs.length=n):vt j n=true:=by obtain ⟨a,hi,_⟩:=AT hx;exact vP.2 ⟨a,by omega⟩
theorem Qf{M:Nat->Prop}:∀l:List aE,cL RS M w (l.map S) l
 |[]=>cL.nil
 |x::l=>cL.cons (A:=RS) (c:=[S x]) rfl (Qf l)
theorem Yu{M:Nat->Prop}{k:IntKind}:∀l:x6,cL (RI k) M w (l.map (Value.int k)) l
 |[]=>cL.nil
 |x::l=>cL.cons (A:=RI k) (c:=[Value.int k x]) rfl (Yu l)
end
section
variable {P : Program} {ρ : xb} {Q : bu} {n : Nat} {D : v7} {E : Env} {w : World} {ops : xJ} {rest : x5} {Γ : Ctx} {g : Bool}
variable {dst : xc} {d : Tmp} {ty : TypeId} {pos : String} {af : x3} {gd : vb}
theorem y7{i:Int}{m len bytes:Nat}{t:TypeId}(j:P.underlying t=some (.array len e))(b:TI P e m bytes z)(hx:ar E g x (.pointer (some p)))(h:ar E g y (.int k i))
  (hi:g=true->vt i len=true):bg P E g ⟨dst,.indexAddr t x y,ty,pos,af,gd⟩ w (.pointer (some (p.add (i.toNat*m)))):=
 λn' a f d=>by obtain ⟨q,c,l,_,_⟩:=b.out;obtain ⟨o,n⟩:=vP.1 (hi d);simp [execOp,hx n' a f d,h n' a f d,Instr.indexAt,asIntOf,run_underlying j,Instr.sureAddr,o,n,sizeOf,typeInfo,c,l]
theorem Uo{len:Nat}{m bytes:Nat}{t:TypeId}(f:P.underlying t=some (.array len e))(c:TI P e m bytes z)(b:Nat.blt 0 len=true)(hx:ar E g x (.pointer (some p))):
  bg P E g ⟨dst,.slice t x none none none,ty,pos,af,gd⟩ w (.slice (some p) len len):=
 λn' a i h=>by
  obtain ⟨j,d,k,_,_⟩:=c.out;have l:0<len:=by simpa using b
  simp [execOp,hx n' a i h,Instr.sliceAt,run_underlying f,Instr.sureAddr,Instr.sliceBounds,sizeOf,typeInfo,d,Addr.add]
theorem adU{α:Type}{A:dD α}{M:Nat->Prop}{p:fA}{xs:List α}(h:bQ A M w (sl p) xs):(p=(none,0,0)/\xs=[])\/wW (sl p)=false:=by
 rcases h with ⟨⟨a0,h⟩,rfl⟩|⟨b,off,cap,cs,e,fr,h,_⟩
 .cases a0 with
  |none=>
   obtain ⟨a,l,c⟩:=p;simp only [sl,Value.slice.injEq] at h;exact .inl ⟨by rw [h.1,h.2.1,h.2.2],rfl⟩
  |some a0=>rw [h];exact .inr rfl
 .rw [h];exact .inr rfl
theorem adS{α:Type}{A:dD α}{M:Nat->Prop}{p:fA}{xs:List α}{R:x8}(h:bK A e M w (sl p) xs R):(wW (sl p)=true/\xs=[])\/wW (sl p)=false:=by
 cases b:wW (sl p)
 .exact .inr rfl
 .refine .inl ⟨rfl,?_⟩;obtain ⟨a,l,c⟩:=p;rcases h with ⟨_,cells,⟨_,h⟩,_⟩|⟨_,h,_⟩
  .rcases h with ⟨_,d⟩|⟨g,off,cap,cur,hv,_⟩
   .exact cp d
   .rw [hv] at b;cases b
  .exact h
end
section
variable {P : Program} {ρ : xb} {Q : bu} {n : Nat} {D : v7} {E : Env} {w : World} {ops : xJ} {rest : x5} {Γ : Ctx} {g : Bool}
variable {d : Tmp} {ty : TypeId} {pos : String} {af : x3}
end
variable {kt : TypeId}
structure sb(P:Program)(kt:TypeId){κ:Type}[BEq κ](ke:κ->Value):Prop where
 ut:∃d,P.underlying kt=some d/\((∀a b,Instr.sameNow d (ke a) (ke b)=some (a==b))\/((∀a b,Instr.sameNow d (ke a) (ke b)=none)/\∀a b (w:World),(Op.equal kt (ke a) (ke b)).run P w= .ok (a==b) w))
 bits:∀a b,(a==b)=true->a=b/\Instr.sameBits 10000 (ke b) (ke a)=true
 check:∀(em:Bool) (a:κ) (w:World),(Instr.checkKey em 10000 kt (ke a)).run P w= .ok () w
theorem sb.int{P:Program}(h:P.underlying kt=some (.int k)):sb P kt (Value.int k) where
 ut:=⟨_,h,.inl λa b=>by simp [Instr.sameNow]⟩
 bits a b h:=by
  have:a=b:=by simpa using h
  subst this;exact ⟨rfl,by simp [Instr.sameBits]⟩
 check em a w:=by show (Instr.checkKey em (9999+1) kt _).run P w=_;unfold Instr.checkKey;simp [run_underlying h]
theorem am1(a b:aE):((⟨a.toArray⟩:ByteArray)==(⟨b.toArray⟩:ByteArray))=(a==b):=by
 rw [qN,MapKept.bytes_beq,kX];constructor
 .intro h;have:=congrArg ByteArray.toList h;rwa [HI,HI] at this
 .intro h;rw [h]
theorem sb.str{P:Program}(h:P.underlying kt=some .string):sb P kt S where
 ut:=⟨_,h,.inl λa b=>by simp only [Instr.sameNow,S,am1]⟩
 bits a b h:=by
  have:a=b:=by simpa using h
  subst this;exact ⟨rfl,by simp only [Instr.sameBits,S,am1,h]⟩
 check em a w:=by show (Instr.checkKey em (9999+1) kt _).run P w=_;unfold Instr.checkKey;simp [run_underlying h,S]
def UM(k1 k2:IntKind)(p:Int×Int):Value:= .agg #[.int k1 p.1,.int k2 p.2]
theorem Dh{P:Program}{w:World}{t:TypeId}{cs:w5}{off:Nat}(h:P.underlying t=some (.int k))(hv:cs[off]? =some v):(part t cs off).run P w= .ok v w:=by unfold part;rw [Sem.run_bind,xd h];simp [jm,hv]
theorem sb.pair{P:Program}{f e:Field}{d c:IntKind}(h:P.underlying kt=some (.struct #[f,e]))(m:f.name≠ "_") (l:e.name≠ "_") (k:f.offset=0) (j:e.offset=1)
  (t1:P.underlying f.type=some (.int d)) (t2:P.underlying e.type=some (.int c)) (n:P.stoodInHeld kt=false):sb P kt (UM d c) where
 ut:=⟨_,h,.inr ⟨λa b=>rfl,λa b w=>by
  have i:∀x:Int×Int,(part f.type #[.int d x.1,.int c x.2] 0).run P w= .ok (.int d x.1) w:=λx=>Dh t1 rfl;have g:∀x:Int×Int,(part e.type #[.int d x.1,.int c x.2] 1).run P w= .ok (.int c x.2) w:=λx=>Dh t2 rfl;have r:(Op.equalIn 9999 f.type (.int d a.1) (.int d b.1)).run P w= .ok (a.1==b.1) w:=by show (Op.equalIn (9998+1) _ _ _).run P w=_;unfold Op.equalIn;simp [run_underlying t1]
  have q:(Op.equalIn 9999 e.type (.int c a.2) (.int c b.2)).run P w= .ok (a.2==b.2) w:=by show (Op.equalIn (9998+1) _ _ _).run P w=_;unfold Op.equalIn;simp [run_underlying t2]
  show (Op.equalIn (9999+1) kt _ _).run P w=_;unfold Op.equalIn;have ee:(a==b)=(a.1==b.1&&a.2==b.2):=rfl;simp only [run_underlying h,Sem.run_bind,Result.andThen_ok,UM,run_program,n];rw [ee];cases p:(a.1==b.1) <;> cases o:(a.2==b.2) <;> simp [m,l,k,j,i,g,r,q,p,o]⟩⟩
 bits a b h:=by
  have:a=b:=by obtain ⟨y,v⟩:=a;obtain ⟨u,t⟩:=b;have:(y==u&&v==t)=true:=h;simp only [ae,kX] at this;rw [this.1,this.2]
  subst this;refine ⟨rfl,?_⟩;show Instr.sameBits (9999+1) _ _=true;simp [Instr.sameBits,UM]
 check em a w:=by
  have c1:(Instr.checkKey em 9999 f.type (.int d a.1)).run P w= .ok () w:=by show (Instr.checkKey em (9998+1) _ _).run P w=_;unfold Instr.checkKey;simp [run_underlying t1]
  have s:(Instr.checkKey em 9999 e.type (.int c a.2)).run P w= .ok () w:=by show (Instr.checkKey em (9998+1) _ _).run P w=_;unfold Instr.checkKey;simp [run_underlying t2]
  have i:(part f.type #[.int d a.1,.int c a.2] 0).run P w= .ok (.int d a.1) w:=Dh t1 rfl;have g:(part e.type #[.int d a.1,.int c a.2] 1).run P w= .ok (.int c a.2) w:=Dh t2 rfl;show (Instr.checkKey em (9999+1) kt _).run P w=_;unfold Instr.checkKey;simp [run_underlying h,UM,m,l,k,j,i,g,c1,s]
def pY{κ ν:Type}[BEq κ](l:List (κ×ν))(k:κ):Option ν:=match l with
 |[]=>none
 |p::l=>bif k==p.1 then some p.2 else pY l k
def lI{κ ν:Type}[BEq κ](l:List (κ×ν))(k:κ)(v:ν):List (κ×ν):=match l with
 |[]=>[(k,v)]
 |p::l=>bif k==p.1 then (k,v)::l else p::lI l k v
section
variable {κ ν : Type} [BEq κ] {ke : κ -> Value} {vi : ν -> Value}
def vD(ke:κ->Value)(vi:ν->Value)(es:List MapEntry)(l:List (κ×ν)):Prop:=es.map (λe=>(e.key,e.val))=l.map λp=>(ke p.1,vi p.2)
def nM(ke:κ->Value)(vi:ν->Value)(w:World)(v:Value)(d:Option (List (κ×ν))):Prop:=
 (v= .map none/\d=none)\/∃b es clock l,v= .map (some b)/\d=some l/\w.heap[b]? =some (.map es clock)/\vD ke vi es.toList l
def HR:Value->x8
 | .map (some b)=>[b]
 |_=>[]
omit [BEq κ] in
theorem nM.nil{w:World}:nM ke vi w (.map none) none:= .inl ⟨rfl,rfl⟩
omit [BEq κ] in
theorem nM.lt{w:World}{d:Option (List (κ×ν))}(h:nM ke vi w v d):∀b∈HR v,b<w.heap.size:=λb hb=>by
 rcases h with ⟨rfl,_⟩|⟨f,e,a,l,rfl,_,c,_⟩
 .cases hb
 .simp [HR] at hb;subst hb;exact (Array.getElem?_eq_some_iff.1 c).1
omit [BEq κ] in
theorem nM.cK{w w':World}{d:Option (List (κ×ν))}(h:nM ke vi w v d)(k:∀b∈HR v,w'.heap[b]? =w.heap[b]?):nM ke vi w' v d:=by
 rcases h with h|⟨b,f,a,l,rfl,hd,e,c⟩
 .exact .inl h
 .exact .inr ⟨b,f,a,l,rfl,hd,by rw [k b (by simp [HR])];exact e,c⟩
theorem Pf{d:TypeDesc}(m:∀a b:κ,Instr.sameNow d (ke a) (ke b)=some (a==b))(k:κ):∀(g:List MapEntry) (l:List (κ×ν)) (i:Nat),vD ke vi g l->
  (pY l k=none/\(l.any λp=>k==p.1)=false/\Instr.findNow d (ke k) g i=some none)\/
  ∃j v,pY l k=some v/\Instr.findNow d (ke k) g i=some (some (i+j,vi v))/\j<g.length/\(∃p,l[j]? =some p/\(k==p.1)=true/\∀q,lI l k q=l.set j (k,q))
 |[],[],i,_=> .inl ⟨rfl,rfl,rfl⟩
 |[],_::_,_,h=>by simp [vD] at h
 |_::_,[],_,h=>by simp [vD] at h
 |e::g,p::l,i,h=>by
  simp only [vD,cx,qb,p0] at h;obtain ⟨⟨r,w⟩,t⟩:=h;cases f:(k==p.1)
  .rcases Pf m k g l (i+1) t with ⟨a,b,c⟩|⟨j,v,a,b,c,q,s,o,n⟩
   .exact .inl ⟨by simp [pY,f,a],by simp [f,b],by simp [Instr.findNow,r,m,f,c]⟩
   .refine .inr ⟨j+1,v,by simp [pY,f,a],?_,by simpa using c,q,by simpa using s,o,λu=>by simp [lI,f,n]⟩;simp only [Instr.findNow,r,m,f,b];congr 3;omega
  .exact .inr ⟨0,p.2,by simp [pY,f],by simp [Instr.findNow,r,m,f,w],by simp,p,by simp,f,λu=>by simp [lI,f]⟩
theorem Pe{P:Program}{w:World}{kt:TypeId}(g:∀a b:κ,(Op.equal kt (ke a) (ke b)).run P w= .ok (a==b) w)(k:κ):∀(f:List MapEntry) (l:List (κ×ν)) (i:Nat),vD ke vi f l->
  (pY l k=none/\(l.any λp=>k==p.1)=false/\(Instr.findAsking kt (ke k) f i).run P w= .ok none w)\/
  ∃j v,pY l k=some v/\(Instr.findAsking kt (ke k) f i).run P w= .ok (some (i+j,vi v)) w/\j<f.length/\(∃p,l[j]? =some p/\(k==p.1)=true/\∀q,lI l k q=l.set j (k,q))
 |[],[],i,_=> .inl ⟨rfl,rfl,rfl⟩
 |[],_::_,_,h=>by simp [vD] at h
 |_::_,[],_,h=>by simp [vD] at h
 |e::f,p::l,i,h=>by
  simp only [vD,cx,qb,p0] at h;obtain ⟨⟨o,t⟩,s⟩:=h;cases d:(k==p.1)
  .rcases Pe g k f l (i+1) s with ⟨a,b,c⟩|⟨j,v,a,b,c,q,r,n,m⟩
   .exact .inl ⟨by simp [pY,d,a],by simp [d,b],by simp [Instr.findAsking,o,g,d,c]⟩
   .refine .inr ⟨j+1,v,by simp [pY,d,a],?_,by simpa using c,q,by simpa using r,n,λu=>by simp [lI,d,m]⟩;have:i+1+j=i+(j+1):=by omega
    rw [this] at b;simp [Instr.findAsking,o,g,d,b]
  .exact .inr ⟨0,p.2,by simp [pY,d],by simp [Instr.findAsking,o,g,d,t],by simp,p,by simp,d,λu=>by simp [lI,d]⟩
theorem Fj{P:Program}(m:sb P kt ke)(k:κ)(f:List MapEntry)(l:List (κ×ν))(h:vD ke vi f l)(w:World):
  (pY l k=none/\(l.any λp=>k==p.1)=false/\(Instr.findKey kt (ke k) f).run P w= .ok none w)\/
  ∃j v,pY l k=some v/\(Instr.findKey kt (ke k) f).run P w= .ok (some (j,vi v)) w/\j<f.length/\(∃p,l[j]? =some p/\(k==p.1)=true/\∀q,lI l k q=l.set j (k,q)):=by
 obtain ⟨n,d,g⟩:=m.ut;rcases g with g|⟨g,ha⟩
 .rcases Pf g k f l 0 h with ⟨a,b,c⟩|⟨j,v,a,b,c⟩
  .exact .inl ⟨a,b,by simp [Instr.findKey,run_underlying d,c]⟩
  .exact .inr ⟨j,v,a,by simp [Instr.findKey,run_underlying d,b],c⟩
 .have i:Instr.findNow n (ke k) f 0=none\/f=[]:=by
   cases f with
   |nil=>exact .inr rfl
   |cons e f=>
    cases l with
    |nil=>simp [vD] at h
    |cons p l=>
     simp only [vD,cx,qb,p0] at h;exact .inl (by simp [Instr.findNow,h.1.1,g])
  rcases i with i|rfl
  .rcases Pe (λa b=>ha a b w) k f l 0 h with ⟨a,b,c⟩|⟨j,v,a,b,c⟩
   .exact .inl ⟨a,b,by simp [Instr.findKey,run_underlying d,i,c]⟩
   .exact .inr ⟨j,v,a,by simpa [Instr.findKey,run_underlying d,i] using b,c⟩
  .cases l with
   |nil=>exact .inl ⟨rfl,rfl,by simp [Instr.findKey,run_underlying d,Instr.findNow]⟩
   |cons p l=>simp [vD] at h
theorem ajc{l:List (κ×ν)}{k:κ}{v:ν}(h:(l.any λp=>k==p.1)=false):lI l k v=l++[(k,v)]:=by
 induction l with
 |nil=>rfl
 |cons p l ih=>
  simp only [List.any_cons,qD] at h;simp [lI,h.1,ih h.2]
end
def omap{κ ν:Type}(ke:κ->Value)(vi:ν->Value)(v:Value)(d:Option (List (κ×ν))):Item where
 own:=HR v
 P _ w:=nM ke vi w v d
 lt h:=h.lt
 cK h _ k _:=h.cK k
 cF:=false
 hp h:=by cases h
section
variable {κ ν : Type} {ke : κ -> Value} {vi : ν -> Value} {Γ : Ctx} {w : World} {i : Nat}
theorem Sat.omap(h:Sat Γ w){v:Value}{d:Option (List (κ×ν))}(hi:Γ[i]? =some (Go.Proofs.YtkedhpmpejhekaaGreatDoor.omap ke vi v d)):nM ke vi w v d:=h.at_ hi
end
section
variable {κ ν : Type} [BEq κ] {ke : κ -> Value} {vi : ν -> Value}
variable {P : Program} {E : Env} {w : World} {g : Bool}
variable {dst : xc} {ty : TypeId} {pos : String} {af : x3} {gd : vb}
def ll(d:Option (List (κ×ν)))(k:κ)(z:ν):ν:=((d.getD []) |> λl=>pY l k).getD z
def QX(d:Option (List (κ×ν)))(k:κ):Bool:=(pY (d.getD []) k).isSome
theorem S9{o t:TypeId}(e:sb P kt ke)(f:P.underlying t=some (.map kt o)){z:ν}(m:(zeroValue o).run P w= .ok (vi z) w){v:Value}{d:Option (List (κ×ν))}(h:nM ke vi w v d)(k:κ)(ok:Bool):
  (Instr.lookup t v (ke k) ok).run P w= .ok (bif ok then .tuple #[vi (ll d k z),.bool (QX d k)] else vi (ll d k z)) w:=by
 rcases h with ⟨rfl,rfl⟩|⟨b,p,i,l,rfl,rfl,n,g⟩
 .rcases Fj (vi:=vi) e k [] [] rfl w with ⟨a,_,c⟩|⟨j,u,a,_⟩
  .cases ok <;> simp [Instr.lookup,run_underlying f,e.check,c,m,ll,QX,pY,Result.andThen]
  .cases a
 .rcases Fj e k p.toList l g w with ⟨a,_,c⟩|⟨j,u,a,c,_⟩
  .cases ok <;> simp [Instr.lookup,run_underlying f,MapKept.run_getObj_map n,e.check,c,m,ll,QX,a,Result.andThen]
  .cases ok <;> simp [Instr.lookup,run_underlying f,MapKept.run_getObj_map n,e.check,c,ll,QX,a,Result.andThen]
theorem ah3{e t:TypeId}(l:sb P kt ke)(j:P.underlying t=some (.map kt e)){z:ν}(f:(zeroValue e).run P w= .ok (vi z) w){v:Value}{d:Option (List (κ×ν))}{k:κ}(hx:ar E g x v)(i:ar E g y (ke k))(h:g=true->nM ke vi w v d):
  bg P E g ⟨dst,.lookup t x y false,ty,pos,af,gd⟩ w (vi (ll d k z)):=λn a c b=>by
 simp [execOp,hx n a c b,i n a c b,S9 l j f (h b) k false]
theorem aa7{e t:TypeId}(l:sb P kt ke)(j:P.underlying t=some (.map kt e)){z:ν}(f:(zeroValue e).run P w= .ok (vi z) w){v:Value}{d:Option (List (κ×ν))}{k:κ}(hx:ar E g x v)(i:ar E g y (ke k))(h:g=true->nM ke vi w v d):
  bg P E g ⟨dst,.lookup t x y true,ty,pos,af,gd⟩ w (.tuple #[vi (ll d k z),.bool (QX d k)]):=λn a c b=>by
 simp [execOp,hx n a c b,i n a c b,S9 l j f (h b) k true]
end
section
variable {κ ν : Type} {ke : κ -> Value} {vi : ν -> Value}
variable {P : Program} {ρ : xb} {Q : bu} {n : Nat} {D : v7} {E : Env} {w : World} {ops : xJ} {rest : x5} {Γ : Ctx} {i : Nat}
variable {d : Tmp} {ty : TypeId} {pos : String} {af : x3}
variable [BEq κ]
omit [BEq κ] in
theorem aoE{a:List MapEntry}{l:List (κ×ν)}(h:vD ke vi a l){j:Nat}(f:MapEntry->MapEntry){k:κ}{u:ν}(g:∀e,a[j]? =some e->((f e).key,(f e).val)=(ke k,vi u)):vD ke vi (a.modify j f) (l.set j (k,u)):=by
 unfold vD at*;have n:a.length=l.length:=by simpa using congrArg List.length h
 apply qp;intro i;have hi:(a.map λe=>(e.key,e.val))[i]? =(l.map λp=>(ke p.1,vi p.2))[i]? :=by rw [h]
 rw [n9,n9] at hi ⊢;rw [List.getElem?_modify,q6];by_cases c:j=i
 .subst c;by_cases b:j<a.length
  .have m:j<l.length:=by omega
   have d:=g _ (cb b);simp [cb b,m,p0] at d ⊢;exact d
  .rw [j6 (by omega)];simp;omega
 .simp only [c,qF];simpa using hi
theorem Wv{z:Operand}{V t:TypeId}{v:xb}{l:List (κ×ν)}{k:κ}{u:ν}(B:sb P kt ke)(Q:P.underlying t=some (.map kt V))(hx:ar E true x (.map v))(O:ar E true y (ke k))(N:ar E true z (vi u))(T:nM ke vi w (.map v) (some l)):
  ∃w',P3 P E ⟨none,.mapUpdate t x y z,ty,pos,af,none⟩ w w'/\js (HR (.map v)) w w'/\w'.heap.size=w.heap.size/\nM ke vi w' (.map v) (some (lI l k u)):=by
 rcases T with ⟨S,M⟩|⟨b,o,f,l',S,M,s,g⟩
 .cases M
 cases S;cases M;have C:=(Array.getElem?_eq_some_iff.1 s).1;have A:∀(h:Array MapEntry) (d:Nat),vD ke vi h.toList (lI l k u)->P3 P E ⟨none,.mapUpdate t x y z,ty,pos,af,none⟩ w { w with heap:=w.heap.setIfInBounds b (.map h d) }->
   ∃w',P3 P E ⟨none,.mapUpdate t x y z,ty,pos,af,none⟩ w w'/\js (HR (.map (some b))) w w'/\w'.heap.size=w.heap.size/\nM ke vi w' (.map (some b)) (some (lI l k u)):=λh d r q=>by
  refine ⟨_,q,⟨rfl,rfl,rfl,by simp,λc _ J=>?_⟩,by simp,.inr ⟨b,h,d,_,rfl,rfl,?_,r⟩⟩
  .exact ql (λe=>J (by simp [HR,e]))
  .simp [C]
 rcases Fj B k o.toList l g w with ⟨_,W,c⟩|⟨j,X,_,c,R,p,hp,F,D⟩
 .refine A (o.push { key:=ke k,val:=vi u,born:=f }) (f+1) ?_ ?_
  .rw [ajc W];unfold vD at*;simp [g]
  .intro n a i;simp [execOp,hx n a i rfl,O n a i rfl,N n a i rfl,Instr.mapUpdate,run_underlying Q,MapKept.run_getObj_map s,B.check,c,MapKept.run_setObj_map _ s,Result.andThen]
 .obtain ⟨rfl,K⟩:=B.bits k p.1 F;have H:∃e,o.toList[j]? =some e/\e.key=ke p.1:=by
   have L:(o.toList.map λe=>(e.key,e.val))[j]? =(l.map λp=>(ke p.1,vi p.2))[j]? :=by rw [g]
   rw [n9,n9,hp,cb R] at L;simp only [l7,b8,p0] at L;exact ⟨_,cb R,L.1⟩
  obtain ⟨e,U,G⟩:=H;have I:o[j]? =some e:=by simpa using U
  refine A (o.modify j λe=>{ e with key:=ke p.1,val:=vi u }) f ?_ ?_
  .rw [D,Array.toList_modify];exact aoE g _ (λe _=>rfl)
  .have m:Instr.sameBits 10000 e.key (ke p.1)=true:=by rw [G];exact K
   intro n a i;simp [execOp,hx n a i rfl,O n a i rfl,N n a i rfl,Instr.mapUpdate,run_underlying Q,MapKept.run_getObj_map s,B.check,c,MapKept.run_setObj_map _ s,Result.andThen,I,Instr.keyThatStays,m]
end
end Go.Proofs.YtkedhpmpejhekaaGreatDoor
