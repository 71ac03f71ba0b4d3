/-
  Own texts for the statement NestRounds, cut down to what it needs: B22, KIt. (cut and joined by a program)
-/
import Derived.Test.YtcgihjbfppkcfaaGreatDoorNestRoundsD
import Derived.Lib.ItoaNum
set_option linter.unusedVariables false
set_option linter.unusedSimpArgs false
namespace Go.Proofs.YtcgihjbfppkcfaaGreatDoor
variable {tb : List aA} {tc : List pr} {tp : List bY}
open Go.Lib
def eN:List (Bool×Row)->List Row
 |[]=>[]
 |x::R=>aD x.1 (x.2::eN R) (eN R)
def nS:List (Bool×Row)->List Row
 |[]=>[]
 |x::R=>aD x.1 (nS R) (x.2::nS R)
def Nn:List Row->zk
 |[]=>[]
 |r::G=>(match r with
  | .box j _ _=>j::Nn G
  |_=>Nn G)
def idB:Nat->Nat->wi
 |0,_=>[]
 |n+1,k=>some k::idB n (k+1)
def Y2:List (Nat×List AV)->List (List AV)->List (Nat×List AV)
 |x::X,cs::C=>(x.1,cs)::Y2 X C
 |_,_=>[]
def Ky(X:Cx)(fr:Fr)(st:aC):ResultVar->Option AV
 | .tmp t=>BG st.E fr.F t
 | .cell p t=>(match BG st.E fr.F p with
  |some v=>(match BB [] st.G fr.H none v with
   |some cs=>nU X.P t cs
   |none=>none)
  |none=>none)
def HE(vs:List AV):AV:=match vs with
 |[v]=>v
 |vs=> .tuple vs
def akR(e:aA)(fr:Fr)(st:aC)(v:AV)(fix0:Nat->Option AV)(fix:Nat->jv):List Row:=cw (yT st.G fr.H e.r v++SA st.G fr.H fix0 fix e.os) st.G
def aqy(e:aA)(fr:Fr)(n:Nat)(G:List Row)(v:AV)(fix0:Nat->Option AV)(fix:Nat->jv):Option (fK (ry e.r++jC e.os)):=match mt G fr.H e.r v none none (idB n 0) with
 |some mr=>(match mtV G fr.H fix0 fix e.os mr.B with
  |some mq=>aD (HL ((mr.S++mq.S).map λx=>dE G fr.H x.2)&&Pq G.length ((mr.S++mq.S).map λx=>dE G fr.H x.2)) (cW _ (mr.D++mq.D)) none
  |none=>none)
 |none=>none
def af0(X:Cx)(e:aA)(fn:Func)(fr:Fr)(n:Nat)(fix0:Nat->Option AV)(fix:Nat->jv)(st:aC):Option (fK (ry e.r++jC e.os)):=match yP (Ky X fr st) fn.results.toList with
 |some rs=>aqy e fr n (akR e fr st (HE rs) fix0 fix) (HE rs) fix0 fix
 |none=>none
abbrev asR{R:Type}(K:aC->Option R):XE->aC->Option R
 | .nrm,st=>K st
 | .ret,st=>K st
 |_,_=>none
noncomputable def ahc{R:Type}(X:Cx)(tb:List aA)(tp:List bY)(tc:List pr)(h:HT)(fn:Func)(ps:List Pt)(KF:List AV->List Row->Nat->List (Nat×List AV)->XE->aC->Option R)(s:fK (rH ps)):Option R:=
 match fv id ps [] [] 0 (iU _ s) with
 |⟨vs,R,n,_,XA⟩=>match oF (Nn (eN R)) n (eN R) with
  |(G,Q,c)=>match fn.body with
   |none=>none
   |some body=>aD (Nat.ble vs.length fn.ntmps&&AV.ck n vs&&bB n (R.map (·.2))) (
    afq X tb tp tc body ⟨[],Q++nS R,fn.ntmps⟩ (KF vs (Q++nS R) n (Y2 XA (kb G))) ⟨c,p9 0 vs,G,h⟩) none
noncomputable def abt(X:Cx)(tb:List aA)(tp:List bY)(tc:List pr)(h:HT)(fn:Func)(e:aA)(s:fK (rH e.ps)):Option (fK (ry e.r++jC e.os)):=
 ahc X tb tp tc h fn e.ps (λvs H n XX=>asR (af0 X e fn ⟨[],H,fn.ntmps⟩ n (λ(i:Nat)=>vs[i]?) (y9 e.ps vs XX))) s
def Ou(pp:Pt)(fr:Fr)(v:AV)(st:aC):Option (fK (ry pp)):=match mt (cw (yT st.G fr.H pp v) st.G) fr.H pp v none none [] with
 |some mr=>aD (HL (mr.S.map λx=>dE (cw (yT st.G fr.H pp v) st.G) fr.H x.2)&&Pq (cw (yT st.G fr.H pp v) st.G).length (mr.S.map λx=>dE (cw (yT st.G fr.H pp v) st.G) fr.H x.2)) (cW _ mr.D) none
 |none=>none
abbrev Eo(pp:Pt):(pq:Option Pt)->(fr:Fr)->(v:AV)->(st:aC)->Option (Sv pp pq)
 |none,fr,v,st=>Ou pp fr v st
 |some q,fr,v,st=>match Ou pp fr v st with
  |some x=>some (.inl x)
  |none=>(Ou q fr v st).map .inr
abbrev inT{B:Type}:(nv:Bool)->(r:Pt)->(os:List (Bool×Nat×Pt))->Option (fK (ry r++jC os))->Option (Except B (uZ nv r os))
 |true,_,_,_=>none
 |false,_,_,o=>o.map .ok
theorem Z0{B:Type}:{nv:Bool}->{r:Pt}->{os:List (Bool×Nat×Pt)}->{o:Option (fK (ry r++jC os))}->{z:Except B (uZ nv r os)}->inT nv r os o=some z->∃x q,o=some q/\z= .ok x/\isOk nv r os x q
 |true,_,_,_,_,h=>by cases h
 |false,_,_,none,_,h=>by cases h
 |false,_,_,some q,_,h=>by cases h;exact ⟨q,q,rfl,rfl,rfl⟩
abbrev asO{B:Type}(nv:Bool)(r:Pt)(os:List (Bool×Nat×Pt))(K:aC->Option (fK (ry r++jC os)))(KP KL:AV->aC->Option B):XE->aC->Option (Except B (uZ nv r os))
 | .nrm,st=>inT nv r os (K st)
 | .ret,st=>inT nv r os (K st)
 | .j4 v,st=>(KP v st).map .error
 | .panE v,st=>(KP v st).map .error
 | .panL v,st=>(KL v st).map .error
 |_,_=>none
noncomputable def amY(X:Cx)(tb:List aA)(tp:List bY)(tc:List pr)(h:HT)(fn:Func)(e:bY)(s:fK (rH e.ps)):Option (Except (Sv e.pp e.pq) (uZ e.nv e.r e.os)):=
 ahc X tb tp tc h fn e.ps (λvs H n XX=>asO e.nv e.r e.os (af0 X e.oe fn ⟨[],H,fn.ntmps⟩ n (λ(i:Nat)=>vs[i]?) (y9 e.ps vs XX)) (Eo e.pp e.pq ⟨[],H,fn.ntmps⟩) (λv st=>aD (e.lp||Qv H) (Eo e.pp e.pq ⟨[],dz H,fn.ntmps⟩ v st) none)) s
theorem CC:{G H:List Row}->kb (G++H)=kb G++kb H
 |[],_=>rfl
 |r::G,H=>by cases r <;> simp only [pA,kb,CC]
theorem A8:{R S:List (Bool×Row)}->eN (R++S)=eN R++eN S
 |[],_=>rfl
 |x::R,S=>by have e:∀Q,eN (x::Q)=aD x.1 (x.2::eN Q) (eN Q):=λ_=>rfl;rw [pA,e,e,A8];cases x.1 <;> rfl
theorem V4{nm:Nat->Nat}:(t:Ty)->(x:t.T)->(n:Nat)->(o:v7)->kb (eN (jg nm t x n o).R)=[]
 | .i _,_,_,_|.bo,_,_,_|.s,_,_,_|.un,_,_,_|.n,_,_,_|.mp _ _,_,_,_=>rfl
 | .p a b,x,n,o=>by
  unfold jg;have f:=V4 (nm:=nm) a x.1 n o;generalize jg nm a x.1 n o=L at f;obtain ⟨u,p,n1,c⟩:=L;dsimp only;have d:=V4 (nm:=nm) b x.2 n1 c;generalize jg nm b x.2 n1 c=L at d;obtain ⟨g,p2,j,h⟩:=L;show kb (eN (p++p2))=[];rw [A8,CC,show kb (eN p)=[] from f,show kb (eN p2)=[] from d];rfl
 | .l t,x,n,o=>by
  unfold jg;split <;> first|rfl|(rename_i e _;show kb (eN [(ow e,_)])=[];unfold eN;cases ow e <;> rfl)
 | .ex,x,n,o=>by unfold jg;split <;> first|rfl|(rename_i e _;show kb (eN [(ow e,_)])=[];unfold eN;cases ow e <;> rfl)
mutual
theorem adM{nm:Nat->Nat}:(p:Pt)->(fx:jv)->(c:Option AV)->(n:Nat)->(D:List cm)->(fill nm p fx c n D).X.map (·.2)=kb (eN (fill nm p fx c n D).R)
 | .int _,_,_,_,_|.bool,_,_,_,_|.str,_,_,_,_|.sli _,_,_,_,_|.slr _,_,_,_,_|.ptr _ _,_,_,_,_|.it,_,_,_,_|.nK _,_,_,_,_|.ifn,_,_,_,_|.sfp,_,_,_,_|.same,_,_,_,_=>rfl
 | .own t e m,fx,c,n,D=>by cases m <;> rfl
 | .mp k v m,fx,c,n,D=>by cases m <;> rfl
 | .bx t off m vs,fx,c,n,D=>by
  unfold fill;have h:=wO (nm:=nm) vs [] (JE fx) (n+1) D;generalize fv nm vs [] (JE fx) (n+1) D=L at h;obtain ⟨cs,R,k,g,d⟩:=L;have q:d.map (·.2)=kb (eN R):=h;cases m
  .exact q
  .show reS (Il nm fx n) vs cs::d.map (·.2)=reS (Il nm fx n) vs cs::kb (eN R);rw [q]
 | .agg l,fx,c,n,D=>by
  unfold fill;have h:=wO (nm:=nm) l (ja fx) [] n D;generalize fv nm l (ja fx) [] n D=L at h;obtain ⟨cs,R,k,g,d⟩:=L;exact h
 | .cW l,fx,c,n,D=>by
  unfold fill;have h:=wO (nm:=nm) l [] [] n D;generalize fv nm l [] [] n D=L at h;obtain ⟨cs,R,k,g,d⟩:=L;exact h
 | .fn f a b,fx,c,n,D=>by
  unfold fill;have h:=wO (nm:=nm) a [] [] n D;generalize fv nm a [] [] n D=L at h;obtain ⟨cs,R,k,g,d⟩:=L;dsimp only;have j:=wO (nm:=nm) b (ja fx) [] k g;generalize fv nm b (ja fx) [] k g=L at j;obtain ⟨s,r,x,u,i⟩:=L;show (d++i).map (·.2)=kb (eN (R++r));rw [q9,A8,CC,show d.map (·.2)=kb (eN R) from h,show i.map (·.2)=kb (eN r) from j]
 | .ifc t p,fx,c,n,D=>by
  unfold fill;have h:=adM (nm:=nm) p (sQ p (ja fx)) none n D;generalize fill nm p (sQ p (ja fx)) none n D=L at h;obtain ⟨v,R,k,g,d⟩:=L;exact h
 | .dat t o,fx,c,n,D=>by unfold fill;have h:=V4 (nm:=nm) t (iK t D) n o;generalize jg nm t (iK t D) n o=L at h;obtain ⟨cs,R,k,w⟩:=L;exact h.symm
theorem wO{nm:Nat->Nat}:(l:List Pt)->(b a:List AV)->(n:Nat)->(D:List cm)->(fv nm l b a n D).X.map (·.2)=kb (eN (fv nm l b a n D).R)
 |[],_,_,_,_=>rfl
 |p::l,b,a,n,D=>by unfold fv;have h:=adM (nm:=nm) p (sQ p b) a.head? n D;generalize fill nm p (sQ p b) a.head? n D=L at h;obtain ⟨cs,R,k,g,e⟩:=L;dsimp only;have d:=wO (nm:=nm) l b.tail a.tail k g;generalize fv nm l b.tail a.tail k g=L at d;obtain ⟨i,f,m,j,c⟩:=L;show (e++c).map (·.2)=kb (eN (R++f));rw [q9,A8,CC,show e.map (·.2)=kb (eN R) from h,show c.map (·.2)=kb (eN f) from d]
end
theorem ZF{ρ ρ':ay}:{X:List (Nat×List AV)}->{C:List (List AV)}->C.map (AV.al ρ')=X.map (λx=>AV.al ρ x.2)->fj ρ' (Y2 X C)=fj ρ X
 |[],[],_=>rfl
 |[],_::_,h=>by cases h
 |_::_,[],h=>by cases h
 |x::X,cs::C,h=>by simp only [eT,o5] at h;show (x.1,AV.al ρ' cs)::fj ρ' (Y2 X C)=(x.1,AV.al ρ x.2)::fj ρ X;rw [h.1,ZF h.2]
section
variable {w : World} {ρ : ay}
theorem Sat.aqc{A B:Ctx}{x:Item}(h:Sat (A++B) w)(hx:x.own=[]/\∀M w,x.P M w):Sat (A++x::B) w:=by
 refine h.Dp (λj k=>(j<A.length/\k=j)\/(A.length<j/\k+1=j)) (λj b a=>?_) (λj k q c g f=>by omega);by_cases e:j<A.length
 .rw [ec e] at a;exact .inr ⟨j,b,.inl ⟨e,rfl⟩,by rw [ec e];exact a,bW.refl⟩
 .rw [c9 (by omega)] at a;by_cases d:j=A.length
  .subst d;simp at a;subst a;exact .inl hx
  .refine .inr ⟨j-1,b,.inr ⟨by omega,by omega⟩,?_,bW.refl⟩;rw [c9 (by omega)];have:j-A.length=(j-1-A.length)+1:=by omega
   rw [this,gy] at a;exact a
theorem Sat.na{A B:Ctx}(h:Sat (A++B) w):∀(L:List Item),(∀it∈L,it.cM=true/\∀M w,it.P M w)->Sat (A++(L++B)) w
 |[],_=>h
 |x::L,hL=>(Sat.na h L (λit bH=>hL it (cp _ bH))).aqc ⟨x.hp (hL x (c8 ..)).1,(hL x (c8 ..)).2⟩
theorem Xg{Φ:Ctx}{T:aB}:∀{R:List (Bool×Row)} {A:Ctx},Sat (A++(ab ρ T (R.map (·.2))++Φ)) w->Sat (A++(ab ρ T (eN R)++(ab ρ T (nS R)++Φ))) w
 |[],_,h=>h
 |x::R,A,h=>by
  have c:Sat ((A++[x.2.item ρ T])++(ab ρ T (R.map (·.2))++Φ)) w:=by simpa [ab] using h
  have a:=Xg c;unfold eN nS;cases x.1
  .have b:Sat (A++x.2.item ρ T::(ab ρ T (eN R)++(ab ρ T (nS R)++Φ))) w:=by simpa using a
   exact b.move
  .simpa [ab] using a
theorem Ng{Φ:Ctx}{T:aB}:∀{R:List (Bool×Row)} {I:fX} {A:Ctx},gB (RwI ρ T) R I->Sat (A++(ab ρ T (nS R)++Φ)) w->Sat (A++(iE I++Φ)) w
 |_,_,_,.nil,h=>h
 |_,_,A,.cons (a:=a) (b:=b) (l:=l) (m:=m) h1 hr,h=>by
  unfold nS at h;show Sat (A++(aD b.1 jr b.2)::(iE m++Φ)) w;rw [<-h1.1];cases ha:a.1
  .rw [ha] at h;have e:Sat (A++b.2::(ab ρ T (nS l)++Φ)) w:=by have c:Sat (A++a.2.item ρ T::(ab ρ T (nS l)++Φ)) w:=h;exact c.F6 h1.2.2
   have d:Sat ((A++[b.2])++(ab ρ T (nS l)++Φ)) w:=by simpa using e
   have:=Ng hr d;simpa using this
  .rw [ha] at h;have c:Sat (A++(ab ρ T (nS l)++Φ)) w:=h;exact (Ng hr c).aqc ⟨rfl,λ_ _=>trivial⟩
theorem Z2{c:Nat}:{R:List (Bool×Row)}->bB c (R.map (·.2))=true->bB c (eN R)=true/\bB c (nS R)=true
 |[],_=>⟨rfl,rfl⟩
 |x::R,h=>by
  simp only [eT,bB,ar] at h;obtain ⟨b,a⟩:=Z2 h.2;unfold eN nS;cases x.1
  .exact ⟨b,by show bB c (x.2::nS R)=true;simp only [bB,ar];exact ⟨h.1,a⟩⟩
  .exact ⟨by show bB c (x.2::eN R)=true;simp only [bB,ar];exact ⟨h.1,b⟩,a⟩
theorem aju{N:List Nm}:∀{M:List Nm} {k:Nat},(∀i a,M[i]? =some a->ρ (k+i)=a)->NB ρ (idB M.length k) M
 |[],_,_=> .nil
 |a::M,k,h=> .cons (by
   have:=h 0 a rfl;rw [Nat.add_zero] at this;exact ⟨by rw [this],by rw [this],by rw [this]⟩) (aju (N:=N) λi b hb=>by
   have:=h (i+1) b (by simpa using hb);rw [<-this];congr 1;omega)
end
section
variable {X : Cx} {fr : Fr} {st : aC} {ρ : ay} {Φ : Ctx} {w : World}
theorem ao0(j:Sat (ab ρ [] st.G++(ab ρ [] fr.H++Φ)) w){r:ResultVar}{v:AV}(h:Ky X fr st r=some v):nB X.P (az ρ [] st.E fr.F) w r (v.val ρ):=by
 cases r with
 |tmp t=>exact nB.t (HO h)
 |cell p t=>
  unfold Ky at h;dsimp only at h;split at h
  .rename_i u i;split at h
   .rename_i cs b;obtain ⟨y,s,f⟩:=MO j b aB.get_none;have hl:=HO (ρ:=ρ) i;rw [s] at hl;have o:nU X.P t (cs.drop 0)=some v:=by simpa using h
    obtain ⟨d,n,bytes,z,c1,x,e⟩:=rX (ρ:=ρ) o;cases hd:mV d
    .rw [hd] at e;simp only [eF,qu] at e;exact nB.c1 hl c1 hd f e
    .unfold nU at h;rw [c1] at h;rcases ek h with ⟨_,c⟩|⟨g,_⟩
     .split at c
      next q k=>obtain ⟨n,bytes,z⟩:=q;obtain ⟨m,l⟩:=aI c;cases l;have a:n<=cs.length:=ei m;simp only [AV.val];refine nB.cA hl c1 hd (cR k) (vs:=AV.al ρ (cs.take n)) ?_ (by rw [AV.bE,dh,hV a]);have:=f.sub (us:=AV.al ρ (cs.take n)) 0 (by rw [AV.mB,n9,dh,AV.bE,hV a]);simpa [Addr.add] using this
      .cases c
     .rw [hd] at g;cases g
   .cases h
  .cases h
theorem akd{rs:List AV}:(if h:(AV.al ρ rs).length=1 then (AV.al ρ rs)[0] else .tuple (AV.al ρ rs).toArray)=(HE rs).val ρ:=by
 match rs with
 |[]=>simp [HE,AV.al,AV.val]
 |[v]=>simp [HE,AV.al]
 |u::v::l=>simp [HE,AV.al,AV.val]
theorem ajK{fn:Func}{S:Value->World->Prop}{Sp:w4->World->Prop}{rs:List AV}(k:Sat (ab ρ [] st.G++(ab ρ [] fr.H++Φ)) w)(h:yP (Ky X fr st) fn.results.toList=some rs)(hS:S ((HE rs).val ρ) w):
  At (BP X.P fn S Sp) .ret fr.n [] (az ρ [] st.E fr.F) w:=by
 have c:∀{α β:Type} {f:α->Option β} {l:List α} {ys:List β},yP f l=some ys->l.length=ys.length:=λ{α β f l}=>by
  induction l with
  |nil=>intro ys h;cases h;rfl
  |cons x l ih=>
   intro ys h;unfold yP at h;split at h
   .split at h
    next zs e=>cases h;simp [ih e]
    .cases h
   .cases h
 have b:∀{l:List ResultVar} {ys:List AV},yP (Ky X fr st) l=some ys->yP (λr=>(Ky X fr st r).map (AV.val ρ)) l=some (AV.al ρ ys):=λ{l}=>by
  induction l with
  |nil=>intro ys h;cases h;simp [yP,AV.al]
  |cons x l ih=>
   intro ys h;unfold yP at h ⊢;split at h
   .rename_i y j;split at h
    next zs e=>cases h;rw [j,ih e];simp [AV.al]
    .cases h
   .cases h
 refine afG (vs:=AV.al ρ rs) (by rw [AV.bE];exact c h) (λa m=>Uv (g:=λr=>(Ky X fr st r).map (AV.val ρ)) (λr v d=>?_) (b h)) akd hS;cases i:Ky X fr st r with
 |none=>rw [i] at d;cases d
 |some u=>
  rw [i] at d;cases d;exact (ao0 k i).run m
end
theorem adG{R:Type}{X:Cx}{h:HT}{fn:Func}{f:FuncId}{ps:List Pt}{KF:List AV->List Row->Nat->List (Nat×List AV)->XE->aC->Option R}{s:fK (rH ps)}{r:R}{S:Value->World->Prop}{Sp:w4->World->Prop}
  (Y:X.P.funcs[f]? =some fn) (O:∀e∈tb,e.Ok X.P X.Γ) (K:∀e∈tp,e.Ok X.P X.Γ) (M:∀c∈tc,c.Ok X.P) (hd:ahc X tb tp tc h fn ps KF s=some r) {d:za} {N:List Nm} {I:fX} {XX:lP} {Φ:Ctx} {w:World}
  (hS:xQ ps d [] [] [] (iU _ s) I XX N) (m:Sat (dF I++Φ) w) (J:∀it∈X.Γ,it∈Φ)
  (fin:∀(x:XE) (vs:List AV) (H:List Row) (z:List (Nat×List AV)) (st:aC) (ρ:ay) (w':World),KF vs H N.length z x st=some r->Sat (ab ρ [] st.G++(ab ρ [] (hx x ⟨[],H,fn.ntmps⟩)++Φ)) w'->NB ρ (idB N.length 0) N->AV.al ρ vs=d->fj ρ z=XX->
   (∀{A:Ctx} {F:World},Sat (A++(ab ρ [] H++Φ)) F->Sat (A++(iE I++Φ)) F)->NF (BP X.P fn S Sp) x ρ fn.ntmps [] (az ρ [] st.E []) w'):ov X.P f d w S Sp:=by
 -- names of the arguments
 have o:ym (λ(i:Nat)=>(N[i]?).getD dy) id 0 N:=λi a ha=>by simp only [id,ha,qE];exact ⟨trivial,trivial,trivial,λ_=>trivial⟩
 have p:∀(i:Nat) a,N[i]? =some a->(λ(i:Nat)=>(N[i]?).getD dy) (0+i)=a:=λi a ha=>by simp only [ma,ha,qE]
 generalize (λ(i:Nat)=>(N[i]?).getD dy)=ρ at o p;obtain ⟨u,y,f3,v,t⟩:=wx (T:=[]) (nm:=id) ps d [] [] [] (iU _ s) I XX N (by simpa only [AV.al] using hS) o (n6 _) [];have Z:=wO (nm:=id) ps [] [] 0 (iU _ s);simp only [j5,qq] at u y f3 v t;unfold ahc at hd;generalize fv id ps [] [] 0 (iU _ s)=L at u y f3 v t Z hd;obtain ⟨vs,R,n,DD,z⟩:=L;simp only at u y f3 v t Z;dsimp only at hd;subst y;generalize hL:oF (Nn (eN R)) N.length (eN R)=L at hd;obtain ⟨G,D,c⟩:=L;dsimp only at hd;split at hd
 .cases hd
 rename_i body j;obtain ⟨h1,h2⟩:=aI hd;simp only [ar] at h1;obtain ⟨⟨h3,h4⟩,h5⟩:=h1;obtain ⟨l1,l2⟩:=Z2 h5;obtain ⟨b,g⟩:=Jl (ids:=Nn (eN R)) (ρ:=ρ) l1;rw [hL] at g;have hc:N.length<=c:=g.le;have V:Sat (ab ρ [] (R.map (·.2))++Φ) w:=Sat.leL (A:=[]) (B:=dF I) (C:=Φ) m t.rw;have U:=Xg (A:=[]) V;have e1:ab b [] G=ab ρ [] (eN R):=g.eq;have Q:Sat (ab b [] G++(ab b [] (D++nS R)++Φ)) w:=by
  rw [e1,bg,aZ g.ag l2,cb];exact Sat.na (A:=ab ρ [] (eN R)) (B:=ab ρ [] (nS R)++Φ) U (ab b [] D) (λit bH=>by obtain ⟨q,hq,rfl⟩:=List.mem_map.1 bH;exact g.rp q hq)
 have l:AV.al b vs=d:=by rw [AV.bZ g.ag _ h4,u]
 refine nt Y j rfl (by rw [<-l,AV.bE];exact h3) ?_;have hE:az b [] (p9 0 vs) []=iota 0 d:=by show aF.env b [] (p9 0 vs)++[]=_;rw [DU,l,j5]
 rw [<-hE];refine apa (fr:=⟨[],D++nS R,fn.ntmps⟩) (st:=⟨c,p9 0 vs,G,h⟩) J O K M body Q h2 (λx st' ρ' w' a1 a2 a3 a4=>?_);have k:aS N.length ρ ρ':=g.ag.trans (a1.less hc) (cH _);refine fin x vs (D++nS R) (Y2 z (kb G)) st' ρ' w' a3 a4 (aju (N:=N) (λi a ha=>by
   have hi:i<N.length:=(List.getElem?_eq_some_iff.1 ha).1;rw [k _ (by omega)];exact p i a ha)) (by rw [AV.bZ k _ h4,u]) ?_ (λ{A F} hw=>?_)
 .rw [v];refine ZF ?_;have g1:(kb G).map (AV.al ρ')=(kb G).map (AV.al b):=Ms a1 g.lw;have g2:(kb G).map (AV.al b)=(kb (eN R)).map (AV.al ρ):=g.bx;rw [g1,g2,<-Z,List.map_map];rfl
 .rw [bg,cb] at hw;have p4:=hw.Sq;have W:ab ρ' [] (nS R)=ab ρ [] (nS R):=aZ k l2;rw [W] at p4;exact Ng t p4
theorem OC{X:Cx}{e:aA}{fn:Func}{S:Value->World->Prop}{Sp:w4->World->Prop}{q:fK (ry e.r++jC e.os)}{a:za}{N:List Nm}{I:fX}{u:lP}{Φ:Ctx}{vs:List AV}{H:List Row}{f:List (Nat×List AV)}{st:aC}{ρ:ay}{w':World}
  (hk:af0 X e fn ⟨[],H,fn.ntmps⟩ N.length (λ(i:Nat)=>vs[i]?) (y9 e.ps vs f) st=some q) (z:Sat (ab ρ [] st.G++(ab ρ [] H++Φ)) w') (t:NB ρ (idB N.length 0) N) (b:AV.al ρ vs=a) (T:fj ρ f=u)
  (c:∀{A:Ctx} {w:World},Sat (A++(ab ρ [] H++Φ)) w->Sat (A++(iE I++Φ)) w)
  (s:∀v w',(∃(h N2:List Nm) (F C:List cm) (k j:fX) (V U:lP),Sem e.r v none none N F k V h/\G6 (Rz e.ps a u) (λ(i:Nat)=>a[i]?) e.os h C j U N2/\F++C=iU _ q/\Sat ((dF k++dF j)++(iE I++Φ)) w')->S v w'):
  At (BP X.P fn S Sp) .ret fn.ntmps [] (az ρ [] st.E []) w':=by
 unfold af0 at hk;split at hk
 .rename_i rs m;refine ajK (fr:=⟨[],H,fn.ntmps⟩) z m (s _ _ ?_);generalize HE rs=v at hk;have d:=lI (ids:=yT st.G H e.r v++SA st.G H (λ(i:Nat)=>vs[i]?) (y9 e.ps vs f) e.os) z;change Sat (ab ρ [] (akR e ⟨[],H,fn.ntmps⟩ st v (λ(i:Nat)=>vs[i]?) (y9 e.ps vs f))++_) w' at d;generalize akR e ⟨[],H,fn.ntmps⟩ st v (λ(i:Nat)=>vs[i]?) (y9 e.ps vs f)=Y at hk d;unfold aqy at hk;split at hk
  .rename_i l n;split at hk
   .rename_i y o;obtain ⟨k1,Q⟩:=aI hk;simp only [ar] at k1;obtain ⟨h,k,J,n1,L⟩:=Ov d e.r v none none _ l N n t (λq R=>by cases R);obtain ⟨N2,j,x,W,K⟩:=Ru d e.os l.B y h o n1;have p:(λi=>iB ρ (y9 e.ps vs f i))=Rz e.ps a u:=by
     funext i
     rw [<-adh,b,T]
    have g:(λ(i:Nat)=>(vs[i]?).map (AV.val ρ))=λ(i:Nat)=>a[i]? :=by
     funext i
     rw [<-b,Vu]
    rw [p,g] at x;obtain ⟨p1,_⟩:=Oj d (L.append K);obtain ⟨p2,_⟩:=AE d p1 (Aq k1.1);rw [DP k1.2] at p2;have O:=p2.Sq;have M:=c O;refine ⟨h,N2,l.D,y.D,k,j,_,_,J,x,(Dv _ Q).symm,?_⟩;simpa [dF] using M
   .cases hk
  .cases hk
 .cases hk
theorem arB{X:Cx}{h:HT}{fn:Func}{e:aA}(q:Enters X.P e.f)(p:X.P.funcs[e.f]? =some fn)(o:∀e∈tb,e.Ok X.P X.Γ)(k:∀e∈tp,e.Ok X.P X.Γ)(n:∀c∈tc,c.Ok X.P)(hm:∀s r,e.m s=some r->abt X tb tp tc h fn e s=some r):e.Ok X.P X.Γ:=by
 refine ⟨q,λs r z y N I A Φ w hS d j=>?_⟩;refine adG p o k n (hm s r z) hS d j (λx vs H B st ρ w' hk u g b t a=>?_);cases x with
 |nrm=>exact OC hk u g b t a (λ_ _ h=>h)
 |ret=>exact OC hk u g b t a (λ_ _ h=>h)
 |ext i=>cases hk
 |gto l=>cases hk
 |j4 v=>cases hk
 |panE v=>cases hk
 |panL v=>cases hk
theorem aoa{X:Cx}{h:HT}{fn:Func}{e:bY}(Q:Enters X.P e.f)(O:X.P.funcs[e.f]? =some fn)(L:∀e∈tb,e.Ok X.P X.Γ)(J:∀e∈tp,e.Ok X.P X.Γ)(K:∀c∈tc,c.Ok X.P)(hm:∀s r,e.m s=some r->amY X tb tp tc h fn e s=some r):e.Ok X.P X.Γ:=by
 refine ⟨Q,λs r Y S N I Z Φ w hS B F=>?_⟩;refine adG O L J K (hm s r Y) hS B F (λx vs H XA st ρ w' hk t C z R b=>?_);have two:∀(v:AV) (H:List Row) (E:Ctx),Sat (ab ρ [] st.G++(ab ρ [] H++Φ)) w'->(∀{A:Ctx},Sat (A++(ab ρ [] H++Φ)) w'->Sat (A++(E++Φ)) w')->∀(pp:Pt) (pq:Option Pt) (p:Sv pp pq),Eo pp pq ⟨[],H,fn.ntmps⟩ v st=some p->∃(g:List Nm) (d:fX) (n:lP),amR pp pq p (v.val ρ) d n g/\Sat (dF d++(E++Φ)) w':=λv H E t b pp pq p hp=>by
  have one:∀(pp:Pt) (p:fK (ry pp)),Ou pp ⟨[],H,fn.ntmps⟩ v st=some p->∃(g:List Nm) (d:fX) (n:lP),Sem pp (v.val ρ) none none [] (iU _ p) d n g/\Sat (dF d++(E++Φ)) w':=λpp p hp=>by
   unfold Ou at hp;have D:=lI (ids:=yT st.G H pp v) t;generalize cw (yT st.G H pp v) st.G=G' at hp D;split at hp
   next V M=>obtain ⟨k1,W⟩:=aI hp;simp only [ar] at k1;obtain ⟨g,d,o,n1,T⟩:=Ov D pp v none none _ V [] M .nil (λq j=>by cases j);obtain ⟨p1,_⟩:=Oj D T;obtain ⟨p2,_⟩:=AE D p1 (Aq k1.1);rw [DP k1.2] at p2;have U:=b p2.Sq;rw [<-Dv _ W] at o;exact ⟨g,d,_,o,by simpa [dF] using U⟩
   .cases hp
  cases pq with
  |none=>exact one pp p hp
  |some q=>
   simp only [Eo] at hp;split at hp
   next x hx=>cases hp;exact one pp x hx
   .cases j:Ou q ⟨[],H,fn.ntmps⟩ v st with
    |none=>rw [j] at hp;cases hp
    |some x=>
     rw [j] at hp;cases hp;exact one q x j
 have y:∀{A:Ctx},Sat (A++(iE I++Φ)) w'->Sat (A++(aD e.lp [] (iE I)++Φ)) w':=λh=>by
  cases e.lp
  .exact h
  .exact Sat.MU h
 cases x with
 |nrm=>
  obtain ⟨x,q,j,rfl,hi⟩:=Z0 hk;exact OC j t C z R b (λ_ _ h=>⟨x,q,rfl,hi,h⟩)
 |ret=>
  obtain ⟨x,q,j,rfl,hi⟩:=Z0 hk;exact OC j t C z R b (λ_ _ h=>⟨x,q,rfl,hi,h⟩)
 |ext i=>cases hk
 |gto l=>cases hk
 |j4 v=>
  have a:(Eo e.pp e.pq ⟨[],H,fn.ntmps⟩ v st).map Except.error=some r:=hk;cases hp:Eo e.pp e.pq ⟨[],H,fn.ntmps⟩ v st with
  |none=>rw [hp] at a;cases a
  |some p=>
   rw [hp] at a;cases a;obtain ⟨g,d,n,o,u⟩:=two v H (iE I) t b e.pp e.pq p hp;exact aff ⟨p,rfl,v.val ρ,g,d,n,rfl,o,y u⟩
 |panE v=>
  have a:(Eo e.pp e.pq ⟨[],H,fn.ntmps⟩ v st).map Except.error=some r:=hk;cases hp:Eo e.pp e.pq ⟨[],H,fn.ntmps⟩ v st with
  |none=>rw [hp] at a;cases a
  |some p=>
   rw [hp] at a;cases a;obtain ⟨g,d,n,o,u⟩:=two v H (iE I) t b e.pp e.pq p hp;exact (aff ⟨p,rfl,v.val ρ,g,d,n,rfl,o,y u⟩:EE _ _ [] _).at
 |panL v=>
  have a:(aD (e.lp||Qv H) (Eo e.pp e.pq ⟨[],dz H,fn.ntmps⟩ v st) none).map Except.error=some r:=hk;cases k:e.lp||Qv H with
  |false=>rw [k] at a;cases a
  |true=>
   rw [k] at a;replace a:(Eo e.pp e.pq ⟨[],dz H,fn.ntmps⟩ v st).map Except.error=some r:=a;cases hp:Eo e.pp e.pq ⟨[],dz H,fn.ntmps⟩ v st with
   |none=>rw [hp] at a;cases a
   |some p=>
    rw [hp] at a;cases a;obtain ⟨g,d,n,o,u⟩:=two v (dz H) (aD e.lp [] (iE I)) t (λh=>by
     cases hl:e.lp
     .rw [hl,mE] at k;rw [V0 k] at h;exact b h
     .exact Sat.MU h) e.pp e.pq p hp
    exact (aff ⟨p,rfl,v.val ρ,g,d,n,rfl,o,u⟩:EE _ _ [] _).at
theorem nZ{X:Cx}{A B:Type}{E:(A->Option B)->aA}{F:(A->Option B)->A->Option B}(a:(E λ_=>none).Ok X.P X.Γ)(step:∀k,(E k).Ok X.P X.Γ->(E (F k)).Ok X.P X.Γ):∀n,(E (aj F n)).Ok X.P X.Γ
 |0=>a
 |n+1=>step _ (nZ a step n)
theorem abc{X:Cx}{A B:Type}{E:(A->Option B)->bY}{F:(A->Option B)->A->Option B}(a:(E λ_=>none).Ok X.P X.Γ)(step:∀k,(E k).Ok X.P X.Γ->(E (F k)).Ok X.P X.Γ):∀n,(E (aj F n)).Ok X.P X.Γ
 |0=>a
 |n+1=>step _ (abc a step n)
theorem eB{X:Cx}{fn:Func}{e:aA}(h:HT)(i:Enters X.P e.f)(g:X.P.funcs[e.f]? =some fn)(d:∀e∈tb,e.Ok X.P X.Γ)(a:∀e∈tp,e.Ok X.P X.Γ)(b:∀c∈tc,c.Ok X.P)(eq:∀s,abt X tb tp tc h fn e s=e.m s):e.Ok X.P X.Γ:=
 arB i g d a b λs _ j=>(eq s).trans j
theorem L8{X:Cx}{fn:Func}{e:bY}(h:HT)(i:Enters X.P e.f)(g:X.P.funcs[e.f]? =some fn)(d:∀e∈tb,e.Ok X.P X.Γ)(a:∀e∈tp,e.Ok X.P X.Γ)(b:∀c∈tc,c.Ok X.P)(eq:∀s,amY X tb tp tc h fn e s=e.m s):e.Ok X.P X.Γ:=
 aoa i g d a b λs _ j=>(eq s).trans j
theorem ax{E:Type}{p:E->Prop}:∀e∈([]:List E),p e:=λ_ h=>by cases h
theorem aw{E:Type}{p:E->Prop}{x:E}{l:List E}(hx:p x)(hl:∀e∈l,p e):∀e∈x::l,p e:=λe a=>by
 rcases List.mem_cons.1 a with rfl|a
 .exact hx
 .exact hl e a
def ZL(x:Int):Bool:=decide (-9223372036854775808<=x)&&decide (x<=9223372036854775807)
theorem YP{x:Int}:ZL x=true↔ -9223372036854775808<=x/\x<=9223372036854775807:=by simp [ZL]
end Go.Proofs.YtcgihjbfppkcfaaGreatDoor
