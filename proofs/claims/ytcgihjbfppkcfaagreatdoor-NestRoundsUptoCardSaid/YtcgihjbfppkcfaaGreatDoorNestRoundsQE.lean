/- Own texts for NestRoundsQ, cut and joined by a program. -/
import Derived.Test.YtcgihjbfppkcfaaGreatDoorNestRoundsQD
import Derived.Lib.ItoaNum
set_option linter.all false
namespace Go.Proofs.YtcgihjbfppkcfaaGreatDoor
variable {tb : List aA} {tc : List py} {tp : List bY}
open Go.Lib
def eN:List (Bool×Row)->List Row
 |[]=>[]
 |x::R=>aD x.1 (x.2::eN R) (eN R)
def nN:List (Bool×Row)->List Row
 |[]=>[]
 |x::R=>aD x.1 (nN R) (x.2::nN R)
def L0:List Row->zk
 |[]=>[]
 |r::G=>(match r with
  | .box j _ _=>j::L0 G
  |_=>L0 G)
def idB:Nat->Nat->wi
 |0,_=>[]
 |n+1,k=>some k::idB n (k+1)
def Ze:List (Nat×List AV)->List (List AV)->List (Nat×List AV)
 |x::X,cs::C=>(x.1,cs)::Ze X C
 |_,_=>[]
def JB(X:Cx)(fr:Fr)(st:aC):ResultVar->Option AV
 | .tmp t=>BL st.E fr.F t
 | .cell p t=>(match BL st.E fr.F p with
  |some v=>(match Bv [] st.G fr.H none v with
   |some cs=>nV X.P t cs
   |none=>none)
  |none=>none)
def HC(vs:List AV):AV:=match vs with
 |[v]=>v
 |vs=> .tuple vs
def alE(e:aA)(fr:Fr)(st:aC)(v:AV)(fix0:Nat->Option AV)(fix:Nat->jE):List Row:=cw (yh st.G fr.H e.r v++Sn st.G fr.H fix0 fix e.os) st.G
def aq3(e:aA)(fr:Fr)(n:Nat)(G:List Row)(v:AV)(fix0:Nat->Option AV)(fix:Nat->jE):Option (fN (rA e.r++jx e.os)):=match mt G fr.H e.r v none none (idB n 0) with
 |some mr=>(match mtV G fr.H fix0 fix e.os mr.B with
  |some mq=>aD (HG ((mr.S++mq.S).map λx=>dF G fr.H x.2)&&Pk G.length ((mr.S++mq.S).map λx=>dF G fr.H x.2)) (cW _ (mr.D++mq.D)) none
  |none=>none)
 |none=>none
def agq(X:Cx)(e:aA)(fn:Func)(fr:Fr)(n:Nat)(fix0:Nat->Option AV)(fix:Nat->jE)(st:aC):Option (fN (rA e.r++jx e.os)):=match yb (JB X fr st) fn.results.toList with
 |some rs=>aq3 e fr n (alE e fr st (HC rs) fix0 fix) (HC rs) fix0 fix
 |none=>none
abbrev asA{R:Type}(K:aC->Option R):XE->aC->Option R
 | .nrm,st=>K st
 | .ret,st=>K st
 |_,_=>none
noncomputable def ae8{R:Type}(X:Cx)(tb:List aA)(tp:List bY)(tc:List py)(h:HT)(fn:Func)(ps:List Pt)(KF:List AV->List Row->Nat->List (Nat×List AV)->XE->aC->Option R)(s:fN (rR ps)):Option R:=
 match fv id ps [] [] 0 (iP _ s) with
 |⟨vs,R,n,_,XA⟩=>match oA (L0 (eN R)) n (eN R) with
  |(G,Q,c)=>match fn.body with
   |none=>none
   |some body=>aD (Nat.ble vs.length fn.ntmps&&AV.ck n vs&&bB n (R.map (·.2))) (
    ag1 X tb tp tc body ⟨[],Q++nN R,fn.ntmps⟩ (KF vs (Q++nN R) n (Ze XA (kb G))) ⟨c,rv 0 vs,G,h⟩) none
noncomputable def Zj(X:Cx)(tb:List aA)(tp:List bY)(tc:List py)(h:HT)(fn:Func)(e:aA)(s:fN (rR e.ps)):Option (fN (rA e.r++jx e.os)):=
 ae8 X tb tp tc h fn e.ps (λvs H n XX=>asA (agq X e fn ⟨[],H,fn.ntmps⟩ n (λ(i:Nat)=>vs[i]?) (y7 e.ps vs XX))) s
def Oi(pp:Pt)(fr:Fr)(v:AV)(st:aC):Option (fN (rA pp)):=match mt (cw (yh st.G fr.H pp v) st.G) fr.H pp v none none [] with
 |some mr=>aD (HG (mr.S.map λx=>dF (cw (yh st.G fr.H pp v) st.G) fr.H x.2)&&Pk (cw (yh st.G fr.H pp v) st.G).length (mr.S.map λx=>dF (cw (yh st.G fr.H pp v) st.G) fr.H x.2)) (cW _ mr.D) none
 |none=>none
abbrev El(pp:Pt):(pq:Option Pt)->(fr:Fr)->(v:AV)->(st:aC)->Option (S4 pp pq)
 |none,fr,v,st=>Oi pp fr v st
 |some q,fr,v,st=>match Oi pp fr v st with
  |some x=>some (.inl x)
  |none=>(Oi q fr v st).map .inr
abbrev inT{B:Type}:(nv:Bool)->(r:Pt)->(os:List (Bool×Nat×Pt))->Option (fN (rA r++jx os))->Option (Except B (u7 nv r os))
 |true,_,_,_=>none
 |false,_,_,o=>o.map .ok
theorem ZL{B:Type}:{nv:Bool}->{r:Pt}->{os:List (Bool×Nat×Pt)}->{o:Option (fN (rA r++jx os))}->{z:Except B (u7 nv r os)}->inT nv r os o=some z->∃x q,o=some q/\z= .ok x/\isOk nv r os x q
 |true,_,_,_,_,h=>by cases h
 |false,_,_,none,_,h=>by cases h
 |false,_,_,some q,_,h=>by cases h;exact ⟨q,q,rfl,rfl,rfl⟩
abbrev asR{B:Type}(nv:Bool)(r:Pt)(os:List (Bool×Nat×Pt))(K:aC->Option (fN (rA r++jx os)))(KP KL:AV->aC->Option B):XE->aC->Option (Except B (u7 nv r os))
 | .nrm,st=>inT nv r os (K st)
 | .ret,st=>inT nv r os (K st)
 | .ka v,st=>(KP v st).map .error
 | .panE v,st=>(KP v st).map .error
 | .panL v,st=>(KL v st).map .error
 |_,_=>none
noncomputable def akh(X:Cx)(tb:List aA)(tp:List bY)(tc:List py)(h:HT)(fn:Func)(e:bY)(s:fN (rR e.ps)):Option (Except (S4 e.pp e.pq) (u7 e.nv e.r e.os)):=
 ae8 X tb tp tc h fn e.ps (λvs H n XX=>asR e.nv e.r e.os (agq X e.oe fn ⟨[],H,fn.ntmps⟩ n (λ(i:Nat)=>vs[i]?) (y7 e.ps vs XX)) (El e.pp e.pq ⟨[],H,fn.ntmps⟩) (λv st=>aD (e.lp||Rd H) (El e.pp e.pq ⟨[],dz H,fn.ntmps⟩ v st) none)) s
theorem CG:{G H:List Row}->kb (G++H)=kb G++kb H
 |[],_=>rfl
 |r::G,H=>by cases r <;> simp only [pA,kb,CG]
theorem Ba:{R S:List (Bool×Row)}->eN (R++S)=eN R++eN S
 |[],_=>rfl
 |x::R,S=>by have e:∀Q,eN (x::Q)=aD x.1 (x.2::eN Q) (eN Q):=λ_=>rfl;rw [pA,e,e,Ba];cases x.1 <;> rfl
theorem Vo{nm:Nat->Nat}:(t:Ty)->(x:t.T)->(n:Nat)->(o:v7)->kb (eN (jf nm t x n o).R)=[]
 | .i _,_,_,_|.bo,_,_,_|.s,_,_,_|.un,_,_,_|.n,_,_,_|.mp _ _,_,_,_=>rfl
 | .p a b,x,n,o=>by
  unfold jf;have f:=Vo (nm:=nm) a x.1 n o;generalize jf nm a x.1 n o=L at f;obtain ⟨u,p,n1,c⟩:=L;dsimp only;have d:=Vo (nm:=nm) b x.2 n1 c;generalize jf nm b x.2 n1 c=L at d;obtain ⟨g,p2,j,h⟩:=L;show kb (eN (p++p2))=[];rw [Ba,CG,show kb (eN p)=[] from f,show kb (eN p2)=[] from d];rfl
 | .l t,x,n,o=>by
  unfold jf;split <;> first|rfl|(rename_i e _;show kb (eN [(ow e,_)])=[];unfold eN;cases ow e <;> rfl)
 | .ex,x,n,o=>by unfold jf;split <;> first|rfl|(rename_i e _;show kb (eN [(ow e,_)])=[];unfold eN;cases ow e <;> rfl)
mutual
theorem adw{nm:Nat->Nat}:(p:Pt)->(fx:jE)->(c:Option AV)->(n:Nat)->(D:List cm)->(fill nm p fx c n D).X.map (·.2)=kb (eN (fill nm p fx c n D).R)
 | .int _,_,_,_,_|.bool,_,_,_,_|.str,_,_,_,_|.sli _,_,_,_,_|.slr _,_,_,_,_|.ptr _ _,_,_,_,_|.it,_,_,_,_|.nK _,_,_,_,_|.ifn,_,_,_,_|.sfp,_,_,_,_|.same,_,_,_,_=>rfl
 | .own t e m,fx,c,n,D=>by cases m <;> rfl
 | .mp k v m,fx,c,n,D=>by cases m <;> rfl
 | .bx t off m vs,fx,c,n,D=>by
  unfold fill;have h:=wm (nm:=nm) vs [] (Kp fx) (n+1) D;generalize fv nm vs [] (Kp fx) (n+1) D=L at h;obtain ⟨cs,R,k,g,d⟩:=L;have q:d.map (·.2)=kb (eN R):=h;cases m
  .exact q
  .show reS (H4 nm fx n) vs cs::d.map (·.2)=reS (H4 nm fx n) vs cs::kb (eN R);rw [q]
 | .agg l,fx,c,n,D=>by
  unfold fill;have h:=wm (nm:=nm) l (ja fx) [] n D;generalize fv nm l (ja fx) [] n D=L at h;obtain ⟨cs,R,k,g,d⟩:=L;exact h
 | .cW l,fx,c,n,D=>by
  unfold fill;have h:=wm (nm:=nm) l [] [] n D;generalize fv nm l [] [] n D=L at h;obtain ⟨cs,R,k,g,d⟩:=L;exact h
 | .fn f a b,fx,c,n,D=>by
  unfold fill;have h:=wm (nm:=nm) a [] [] n D;generalize fv nm a [] [] n D=L at h;obtain ⟨cs,R,k,g,d⟩:=L;dsimp only;have j:=wm (nm:=nm) b (ja fx) [] k g;generalize fv nm b (ja fx) [] k g=L at j;obtain ⟨s,r,x,u,i⟩:=L;show (d++i).map (·.2)=kb (eN (R++r));rw [q9,Ba,CG,show d.map (·.2)=kb (eN R) from h,show i.map (·.2)=kb (eN r) from j]
 | .ifc t p,fx,c,n,D=>by
  unfold fill;have h:=adw (nm:=nm) p (sK p (ja fx)) none n D;generalize fill nm p (sK p (ja fx)) none n D=L at h;obtain ⟨v,R,k,g,d⟩:=L;exact h
 | .dat t o,fx,c,n,D=>by unfold fill;have h:=Vo (nm:=nm) t (iK t D) n o;generalize jf nm t (iK t D) n o=L at h;obtain ⟨cs,R,k,w⟩:=L;exact h.symm
theorem wm{nm:Nat->Nat}:(l:List Pt)->(b a:List AV)->(n:Nat)->(D:List cm)->(fv nm l b a n D).X.map (·.2)=kb (eN (fv nm l b a n D).R)
 |[],_,_,_,_=>rfl
 |p::l,b,a,n,D=>by unfold fv;have h:=adw (nm:=nm) p (sK p b) a.head? n D;generalize fill nm p (sK p b) a.head? n D=L at h;obtain ⟨cs,R,k,g,e⟩:=L;dsimp only;have d:=wm (nm:=nm) l b.tail a.tail k g;generalize fv nm l b.tail a.tail k g=L at d;obtain ⟨i,f,m,j,c⟩:=L;show (e++c).map (·.2)=kb (eN (R++f));rw [q9,Ba,CG,show e.map (·.2)=kb (eN R) from h,show c.map (·.2)=kb (eN f) from d]
end
theorem abd{ρ ρ':ay}:{X:List (Nat×List AV)}->{C:List (List AV)}->C.map (AV.al ρ')=X.map (λx=>AV.al ρ x.2)->fm ρ' (Ze X C)=fm ρ X
 |[],[],_=>rfl
 |[],_::_,h=>by cases h
 |_::_,[],h=>by cases h
 |x::X,cs::C,h=>by simp only [eT,o6] at h;show (x.1,AV.al ρ' cs)::fm ρ' (Ze X C)=(x.1,AV.al ρ x.2)::fm ρ X;rw [h.1,abd h.2]
section
variable {w : World} {ρ : ay}
theorem Sat.ark{A B:Ctx}{x:Item}(h:Sat (A++B) w)(hx:x.own=[]/\∀M w,x.P M w):Sat (A++x::B) w:=by
 refine h.CK (λj k=>(j<A.length/\k=j)\/(A.length<j/\k+1=j)) (λj b a=>?_) (λj k q c g f=>by omega);by_cases e:j<A.length
 .rw [ec e] at a;exact .inr ⟨j,b,.inl ⟨e,rfl⟩,by rw [ec e];exact a,bW.refl⟩
 .rw [c9 (by omega)] at a;by_cases d:j=A.length
  .subst d;simp at a;subst a;exact .inl hx
  .refine .inr ⟨j-1,b,.inr ⟨by omega,by omega⟩,?_,bW.refl⟩;rw [c9 (by omega)];have:j-A.length=(j-1-A.length)+1:=by omega
   rw [this,gy] at a;exact a
theorem Sat.ng{A B:Ctx}(h:Sat (A++B) w):∀(L:List Item),(∀it∈L,it.cM=true/\∀M w,it.P M w)->Sat (A++(L++B)) w
 |[],_=>h
 |x::L,hL=>(Sat.ng h L (λit bI=>hL it (cp _ bI))).ark ⟨x.hp (hL x (c8 ..)).1,(hL x (c8 ..)).2⟩
theorem WE{Φ:Ctx}{T:aB}:∀{R:List (Bool×Row)} {A:Ctx},Sat (A++(ab ρ T (R.map (·.2))++Φ)) w->Sat (A++(ab ρ T (eN R)++(ab ρ T (nN R)++Φ))) w
 |[],_,h=>h
 |x::R,A,h=>by
  have c:Sat ((A++[x.2.item ρ T])++(ab ρ T (R.map (·.2))++Φ)) w:=by simpa [ab] using h
  have a:=WE c;unfold eN nN;cases x.1
  .have b:Sat (A++x.2.item ρ T::(ab ρ T (eN R)++(ab ρ T (nN R)++Φ))) w:=by simpa using a
   exact b.move
  .simpa [ab] using a
theorem MT{Φ:Ctx}{T:aB}:∀{R:List (Bool×Row)} {I:fX} {A:Ctx},gi (RwI ρ T) R I->Sat (A++(ab ρ T (nN R)++Φ)) w->Sat (A++(iA I++Φ)) w
 |_,_,_,.nil,h=>h
 |_,_,A,.cons (a:=a) (b:=b) (l:=l) (m:=m) h1 hr,h=>by
  unfold nN at h;show Sat (A++(aD b.1 jC b.2)::(iA m++Φ)) w;rw [<-h1.1];cases ha:a.1
  .rw [ha] at h;have e:Sat (A++b.2::(ab ρ T (nN l)++Φ)) w:=by have c:Sat (A++a.2.item ρ T::(ab ρ T (nN l)++Φ)) w:=h;exact c.Gb h1.2.2
   have d:Sat ((A++[b.2])++(ab ρ T (nN l)++Φ)) w:=by simpa using e
   have:=MT hr d;simpa using this
  .rw [ha] at h;have c:Sat (A++(ab ρ T (nN l)++Φ)) w:=h;exact (MT hr c).ark ⟨rfl,λ_ _=>trivial⟩
theorem ab0{c:Nat}:{R:List (Bool×Row)}->bB c (R.map (·.2))=true->bB c (eN R)=true/\bB c (nN R)=true
 |[],_=>⟨rfl,rfl⟩
 |x::R,h=>by
  simp only [eT,bB,ar] at h;obtain ⟨b,a⟩:=ab0 h.2;unfold eN nN;cases x.1
  .exact ⟨b,by show bB c (x.2::nN R)=true;simp only [bB,ar];exact ⟨h.1,a⟩⟩
  .exact ⟨by show bB c (x.2::eN R)=true;simp only [bB,ar];exact ⟨h.1,b⟩,a⟩
theorem ahh{N:List Nm}:∀{M:List Nm} {k:Nat},(∀i a,M[i]? =some a->ρ (k+i)=a)->NB ρ (idB M.length k) M
 |[],_,_=> .nil
 |a::M,k,h=> .cons (by
   have:=h 0 a rfl;rw [Nat.add_zero] at this;exact ⟨by rw [this],by rw [this],by rw [this]⟩) (ahh (N:=N) λi b hb=>by
   have:=h (i+1) b (by simpa using hb);rw [<-this];congr 1;omega)
end
section
variable {X : Cx} {fr : Fr} {st : aC} {ρ : ay} {Φ : Ctx} {w : World}
theorem aoO(j:Sat (ab ρ [] st.G++(ab ρ [] fr.H++Φ)) w){r:ResultVar}{v:AV}(h:JB X fr st r=some v):nz X.P (az ρ [] st.E fr.F) w r (v.val ρ):=by
 cases r with
 |tmp t=>exact nz.t (G9 h)
 |cell p t=>
  unfold JB at h;dsimp only at h;split at h
  .rename_i u i;split at h
   .rename_i cs b;obtain ⟨y,s,f⟩:=Nr j b aB.get_none;have hl:=G9 (ρ:=ρ) i;rw [s] at hl;have o:nV X.P t (cs.drop 0)=some v:=by simpa using h
    obtain ⟨d,n,bytes,z,c1,x,e⟩:=sb (ρ:=ρ) o;cases hd:mT d
    .rw [hd] at e;simp only [eF,qu] at e;exact nz.c1 hl c1 hd f e
    .unfold nV at h;rw [c1] at h;rcases ek h with ⟨_,c⟩|⟨g,_⟩
     .split at c
      next q k=>obtain ⟨n,bytes,z⟩:=q;obtain ⟨m,l⟩:=aI c;cases l;have a:n<=cs.length:=ei m;simp only [AV.val];refine nz.cA hl c1 hd (cR k) (vs:=AV.al ρ (cs.take n)) ?_ (by rw [AV.bE,dj,hV a]);have:=f.sub (us:=AV.al ρ (cs.take n)) 0 (by rw [AV.mD,n9,dj,AV.bE,hV a]);simpa [Addr.add] using this
      .cases c
     .rw [hd] at g;cases g
   .cases h
  .cases h
theorem am1{rs:List AV}:(if h:(AV.al ρ rs).length=1 then (AV.al ρ rs)[0] else .tuple (AV.al ρ rs).toArray)=(HC rs).val ρ:=by
 match rs with
 |[]=>simp [HC,AV.al,AV.val]
 |[v]=>simp [HC,AV.al]
 |u::v::l=>simp [HC,AV.al,AV.val]
theorem ain{fn:Func}{S:Value->World->Prop}{Sp:w4->World->Prop}{rs:List AV}(k:Sat (ab ρ [] st.G++(ab ρ [] fr.H++Φ)) w)(h:yb (JB X fr st) fn.results.toList=some rs)(hS:S ((HC rs).val ρ) w):
  At (BP X.P fn S Sp) .ret fr.n [] (az ρ [] st.E fr.F) w:=by
 have c:∀{α β:Type} {f:α->Option β} {l:List α} {ys:List β},yb f l=some ys->l.length=ys.length:=λ{α β f l}=>by
  induction l with
  |nil=>intro ys h;cases h;rfl
  |cons x l ih=>
   intro ys h;unfold yb at h;split at h
   .split at h
    next zs e=>cases h;simp [ih e]
    .cases h
   .cases h
 have b:∀{l:List ResultVar} {ys:List AV},yb (JB X fr st) l=some ys->yb (λr=>(JB X fr st r).map (AV.val ρ)) l=some (AV.al ρ ys):=λ{l}=>by
  induction l with
  |nil=>intro ys h;cases h;simp [yb,AV.al]
  |cons x l ih=>
   intro ys h;unfold yb at h ⊢;split at h
   .rename_i y j;split at h
    next zs e=>cases h;rw [j,ih e];simp [AV.al]
    .cases h
   .cases h
 refine af0 (vs:=AV.al ρ rs) (by rw [AV.bE];exact c h) (λa m=>RJ (g:=λr=>(JB X fr st r).map (AV.val ρ)) (λr v d=>?_) (b h)) am1 hS;cases i:JB X fr st r with
 |none=>rw [i] at d;cases d
 |some u=>
  rw [i] at d;cases d;exact (aoO k i).run m
end
theorem adP{R:Type}{X:Cx}{h:HT}{fn:Func}{f:FuncId}{ps:List Pt}{KF:List AV->List Row->Nat->List (Nat×List AV)->XE->aC->Option R}{s:fN (rR ps)}{r:R}{S:Value->World->Prop}{Sp:w4->World->Prop}
  (Y:X.P.funcs[f]? =some fn) (O:∀e∈tb,e.Ok X.P X.Γ) (K:∀e∈tp,e.Ok X.P X.Γ) (M:∀c∈tc,c.Ok X.P) (hd:ae8 X tb tp tc h fn ps KF s=some r) {d:za} {N:List Nm} {I:fX} {XX:lO} {Φ:Ctx} {w:World}
  (hS:yp ps d [] [] [] (iP _ s) I XX N) (m:Sat (dE I++Φ) w) (J:∀it∈X.Γ,it∈Φ)
  (fin:∀(x:XE) (vs:List AV) (H:List Row) (z:List (Nat×List AV)) (st:aC) (ρ:ay) (w':World),KF vs H N.length z x st=some r->Sat (ab ρ [] st.G++(ab ρ [] (hx x ⟨[],H,fn.ntmps⟩)++Φ)) w'->NB ρ (idB N.length 0) N->AV.al ρ vs=d->fm ρ z=XX->
   (∀{A:Ctx} {F:World},Sat (A++(ab ρ [] H++Φ)) F->Sat (A++(iA I++Φ)) F)->NI (BP X.P fn S Sp) x ρ fn.ntmps [] (az ρ [] st.E []) w'):oJ X.P f d w S Sp:=by
 -- names of the arguments
 have o:xN (λ(i:Nat)=>(N[i]?).getD dy) id 0 N:=λi a ha=>by simp only [id,ha,qE];exact ⟨trivial,trivial,trivial,λ_=>trivial⟩
 have p:∀(i:Nat) a,N[i]? =some a->(λ(i:Nat)=>(N[i]?).getD dy) (0+i)=a:=λi a ha=>by simp only [ma,ha,qE]
 generalize (λ(i:Nat)=>(N[i]?).getD dy)=ρ at o p;obtain ⟨u,y,f3,v,t⟩:=wj (T:=[]) (nm:=id) ps d [] [] [] (iP _ s) I XX N (by simpa only [AV.al] using hS) o (n6 _) [];have Z:=wm (nm:=id) ps [] [] 0 (iP _ s);simp only [j5,qq] at u y f3 v t;unfold ae8 at hd;generalize fv id ps [] [] 0 (iP _ s)=L at u y f3 v t Z hd;obtain ⟨vs,R,n,DD,z⟩:=L;simp only at u y f3 v t Z;dsimp only at hd;subst y;generalize hL:oA (L0 (eN R)) N.length (eN R)=L at hd;obtain ⟨G,D,c⟩:=L;dsimp only at hd;split at hd
 .cases hd
 rename_i body j;obtain ⟨h1,h2⟩:=aI hd;simp only [ar] at h1;obtain ⟨⟨h3,h4⟩,h5⟩:=h1;obtain ⟨l1,l2⟩:=ab0 h5;obtain ⟨b,g⟩:=Jl (ids:=L0 (eN R)) (ρ:=ρ) l1;rw [hL] at g;have hc:N.length<=c:=g.le;have V:Sat (ab ρ [] (R.map (·.2))++Φ) w:=Sat.Z2 (A:=[]) (B:=dE I) (C:=Φ) m t.rw;have U:=WE (A:=[]) V;have e1:ab b [] G=ab ρ [] (eN R):=g.eq;have Q:Sat (ab b [] G++(ab b [] (D++nN R)++Φ)) w:=by
  rw [e1,bg,aZ g.ag l2,cb];exact Sat.ng (A:=ab ρ [] (eN R)) (B:=ab ρ [] (nN R)++Φ) U (ab b [] D) (λit bI=>by obtain ⟨q,hq,rfl⟩:=List.mem_map.1 bI;exact g.rp q hq)
 have l:AV.al b vs=d:=by rw [AV.cd g.ag _ h4,u]
 refine mU Y j rfl (by rw [<-l,AV.bE];exact h3) ?_;have hE:az b [] (rv 0 vs) []=iota 0 d:=by show aF.env b [] (rv 0 vs)++[]=_;rw [Ek,l,j5]
 rw [<-hE];refine aoI (fr:=⟨[],D++nN R,fn.ntmps⟩) (st:=⟨c,rv 0 vs,G,h⟩) J O K M body Q h2 (λx st' ρ' w' a1 a2 a3 a4=>?_);have k:aS N.length ρ ρ':=g.ag.trans (a1.less hc) (cH _);refine fin x vs (D++nN R) (Ze z (kb G)) st' ρ' w' a3 a4 (ahh (N:=N) (λi a ha=>by
   have hi:i<N.length:=(List.getElem?_eq_some_iff.1 ha).1;rw [k _ (by omega)];exact p i a ha)) (by rw [AV.cd k _ h4,u]) ?_ (λ{A F} hw=>?_)
 .rw [v];refine abd ?_;have g1:(kb G).map (AV.al ρ')=(kb G).map (AV.al b):=MP a1 g.lw;have g2:(kb G).map (AV.al b)=(kb (eN R)).map (AV.al ρ):=g.bx;rw [g1,g2,<-Z,List.map_map];rfl
 .rw [bg,cb] at hw;have p4:=hw.R6;have W:ab ρ' [] (nN R)=ab ρ [] (nN R):=aZ k l2;rw [W] at p4;exact MT t p4
theorem On{X:Cx}{e:aA}{fn:Func}{S:Value->World->Prop}{Sp:w4->World->Prop}{q:fN (rA e.r++jx e.os)}{a:za}{N:List Nm}{I:fX}{u:lO}{Φ:Ctx}{vs:List AV}{H:List Row}{f:List (Nat×List AV)}{st:aC}{ρ:ay}{w':World}
  (hk:agq X e fn ⟨[],H,fn.ntmps⟩ N.length (λ(i:Nat)=>vs[i]?) (y7 e.ps vs f) st=some q) (z:Sat (ab ρ [] st.G++(ab ρ [] H++Φ)) w') (t:NB ρ (idB N.length 0) N) (b:AV.al ρ vs=a) (T:fm ρ f=u)
  (c:∀{A:Ctx} {w:World},Sat (A++(ab ρ [] H++Φ)) w->Sat (A++(iA I++Φ)) w)
  (s:∀v w',(∃(h N2:List Nm) (F C:List cm) (k j:fX) (V U:lO),Sem e.r v none none N F k V h/\G7 (UA e.ps a u) (λ(i:Nat)=>a[i]?) e.os h C j U N2/\F++C=iP _ q/\Sat ((dE k++dE j)++(iA I++Φ)) w')->S v w'):
  At (BP X.P fn S Sp) .ret fn.ntmps [] (az ρ [] st.E []) w':=by
 unfold agq at hk;split at hk
 .rename_i rs m;refine ain (fr:=⟨[],H,fn.ntmps⟩) z m (s _ _ ?_);generalize HC rs=v at hk;have d:=lI (ids:=yh st.G H e.r v++Sn st.G H (λ(i:Nat)=>vs[i]?) (y7 e.ps vs f) e.os) z;change Sat (ab ρ [] (alE e ⟨[],H,fn.ntmps⟩ st v (λ(i:Nat)=>vs[i]?) (y7 e.ps vs f))++_) w' at d;generalize alE e ⟨[],H,fn.ntmps⟩ st v (λ(i:Nat)=>vs[i]?) (y7 e.ps vs f)=Y at hk d;unfold aq3 at hk;split at hk
  .rename_i l n;split at hk
   .rename_i y o;obtain ⟨k1,Q⟩:=aI hk;simp only [ar] at k1;obtain ⟨h,k,J,n1,L⟩:=N9 d e.r v none none _ l N n t (λq R=>by cases R);obtain ⟨N2,j,x,W,K⟩:=Sd d e.os l.B y h o n1;have p:(λi=>iD ρ (y7 e.ps vs f i))=UA e.ps a u:=by
     funext i
     rw [<-adq,b,T]
    have g:(λ(i:Nat)=>(vs[i]?).map (AV.val ρ))=λ(i:Nat)=>a[i]? :=by
     funext i
     rw [<-b,Vj]
    rw [p,g] at x;obtain ⟨p1,_⟩:=Oa d (L.append K);obtain ⟨p2,_⟩:=AH d p1 (Aq k1.1);rw [Eg k1.2] at p2;have O:=p2.R6;have M:=c O;refine ⟨h,N2,l.D,y.D,k,j,_,_,J,x,(Dz _ Q).symm,?_⟩;simpa [dE] using M
   .cases hk
  .cases hk
 .cases hk
theorem aqL{X:Cx}{h:HT}{fn:Func}{e:aA}(q:Enters X.P e.f)(p:X.P.funcs[e.f]? =some fn)(o:∀e∈tb,e.Ok X.P X.Γ)(k:∀e∈tp,e.Ok X.P X.Γ)(n:∀c∈tc,c.Ok X.P)(hm:∀s r,e.m s=some r->Zj X tb tp tc h fn e s=some r):e.Ok X.P X.Γ:=by
 refine ⟨q,λs r z y N I A Φ w hS d j=>?_⟩;refine adP p o k n (hm s r z) hS d j (λx vs H B st ρ w' hk u g b t a=>?_);cases x with
 |nrm=>exact On hk u g b t a (λ_ _ h=>h)
 |ret=>exact On hk u g b t a (λ_ _ h=>h)
 |ext i=>cases hk
 |gto l=>cases hk
 |ka v=>cases hk
 |panE v=>cases hk
 |panL v=>cases hk
theorem apq{X:Cx}{h:HT}{fn:Func}{e:bY}(Q:Enters X.P e.f)(O:X.P.funcs[e.f]? =some fn)(L:∀e∈tb,e.Ok X.P X.Γ)(J:∀e∈tp,e.Ok X.P X.Γ)(K:∀c∈tc,c.Ok X.P)(hm:∀s r,e.m s=some r->akh X tb tp tc h fn e s=some r):e.Ok X.P X.Γ:=by
 refine ⟨Q,λs r Y S N I Z Φ w hS B F=>?_⟩;refine adP O L J K (hm s r Y) hS B F (λx vs H XA st ρ w' hk t C z R b=>?_);have two:∀(v:AV) (H:List Row) (E:Ctx),Sat (ab ρ [] st.G++(ab ρ [] H++Φ)) w'->(∀{A:Ctx},Sat (A++(ab ρ [] H++Φ)) w'->Sat (A++(E++Φ)) w')->∀(pp:Pt) (pq:Option Pt) (p:S4 pp pq),El pp pq ⟨[],H,fn.ntmps⟩ v st=some p->∃(g:List Nm) (d:fX) (n:lO),amE pp pq p (v.val ρ) d n g/\Sat (dE d++(E++Φ)) w':=λv H E t b pp pq p hp=>by
  have one:∀(pp:Pt) (p:fN (rA pp)),Oi pp ⟨[],H,fn.ntmps⟩ v st=some p->∃(g:List Nm) (d:fX) (n:lO),Sem pp (v.val ρ) none none [] (iP _ p) d n g/\Sat (dE d++(E++Φ)) w':=λpp p hp=>by
   unfold Oi at hp;have D:=lI (ids:=yh st.G H pp v) t;generalize cw (yh st.G H pp v) st.G=G' at hp D;split at hp
   next V M=>obtain ⟨k1,W⟩:=aI hp;simp only [ar] at k1;obtain ⟨g,d,o,n1,T⟩:=N9 D pp v none none _ V [] M .nil (λq j=>by cases j);obtain ⟨p1,_⟩:=Oa D T;obtain ⟨p2,_⟩:=AH D p1 (Aq k1.1);rw [Eg k1.2] at p2;have U:=b p2.R6;rw [<-Dz _ W] at o;exact ⟨g,d,_,o,by simpa [dE] using U⟩
   .cases hp
  cases pq with
  |none=>exact one pp p hp
  |some q=>
   simp only [El] at hp;split at hp
   next x hx=>cases hp;exact one pp x hx
   .cases j:Oi q ⟨[],H,fn.ntmps⟩ v st with
    |none=>rw [j] at hp;cases hp
    |some x=>
     rw [j] at hp;cases hp;exact one q x j
 have y:∀{A:Ctx},Sat (A++(iA I++Φ)) w'->Sat (A++(aD e.lp [] (iA I)++Φ)) w':=λh=>by
  cases e.lp
  .exact h
  .exact Sat.Nx h
 cases x with
 |nrm=>
  obtain ⟨x,q,j,rfl,hi⟩:=ZL hk;exact On j t C z R b (λ_ _ h=>⟨x,q,rfl,hi,h⟩)
 |ret=>
  obtain ⟨x,q,j,rfl,hi⟩:=ZL hk;exact On j t C z R b (λ_ _ h=>⟨x,q,rfl,hi,h⟩)
 |ext i=>cases hk
 |gto l=>cases hk
 |ka v=>
  have a:(El e.pp e.pq ⟨[],H,fn.ntmps⟩ v st).map Except.error=some r:=hk;cases hp:El e.pp e.pq ⟨[],H,fn.ntmps⟩ v st with
  |none=>rw [hp] at a;cases a
  |some p=>
   rw [hp] at a;cases a;obtain ⟨g,d,n,o,u⟩:=two v H (iA I) t b e.pp e.pq p hp;exact afF ⟨p,rfl,v.val ρ,g,d,n,rfl,o,y u⟩
 |panE v=>
  have a:(El e.pp e.pq ⟨[],H,fn.ntmps⟩ v st).map Except.error=some r:=hk;cases hp:El e.pp e.pq ⟨[],H,fn.ntmps⟩ v st with
  |none=>rw [hp] at a;cases a
  |some p=>
   rw [hp] at a;cases a;obtain ⟨g,d,n,o,u⟩:=two v H (iA I) t b e.pp e.pq p hp;exact (afF ⟨p,rfl,v.val ρ,g,d,n,rfl,o,y u⟩:Fa _ _ [] _).at
 |panL v=>
  have a:(aD (e.lp||Rd H) (El e.pp e.pq ⟨[],dz H,fn.ntmps⟩ v st) none).map Except.error=some r:=hk;cases k:e.lp||Rd H with
  |false=>rw [k] at a;cases a
  |true=>
   rw [k] at a;replace a:(El e.pp e.pq ⟨[],dz H,fn.ntmps⟩ v st).map Except.error=some r:=a;cases hp:El e.pp e.pq ⟨[],dz H,fn.ntmps⟩ v st with
   |none=>rw [hp] at a;cases a
   |some p=>
    rw [hp] at a;cases a;obtain ⟨g,d,n,o,u⟩:=two v (dz H) (aD e.lp [] (iA I)) t (λh=>by
     cases hl:e.lp
     .rw [hl,mE] at k;rw [VI k] at h;exact b h
     .exact Sat.Nx h) e.pp e.pq p hp
    exact (afF ⟨p,rfl,v.val ρ,g,d,n,rfl,o,u⟩:Fa _ _ [] _).at
theorem n3{X:Cx}{A B:Type}{E:(A->Option B)->aA}{F:(A->Option B)->A->Option B}(a:(E λ_=>none).Ok X.P X.Γ)(step:∀k,(E k).Ok X.P X.Γ->(E (F k)).Ok X.P X.Γ):∀n,(E (aj F n)).Ok X.P X.Γ
 |0=>a
 |n+1=>step _ (n3 a step n)
theorem abz{X:Cx}{A B:Type}{E:(A->Option B)->bY}{F:(A->Option B)->A->Option B}(a:(E λ_=>none).Ok X.P X.Γ)(step:∀k,(E k).Ok X.P X.Γ->(E (F k)).Ok X.P X.Γ):∀n,(E (aj F n)).Ok X.P X.Γ
 |0=>a
 |n+1=>step _ (abz a step n)
theorem eC{X:Cx}{fn:Func}{e:aA}(h:HT)(i:Enters X.P e.f)(g:X.P.funcs[e.f]? =some fn)(d:∀e∈tb,e.Ok X.P X.Γ)(a:∀e∈tp,e.Ok X.P X.Γ)(b:∀c∈tc,c.Ok X.P)(eq:∀s,Zj X tb tp tc h fn e s=e.m s):e.Ok X.P X.Γ:=
 aqL i g d a b λs _ j=>(eq s).trans j
theorem Mx{X:Cx}{fn:Func}{e:bY}(h:HT)(i:Enters X.P e.f)(g:X.P.funcs[e.f]? =some fn)(d:∀e∈tb,e.Ok X.P X.Γ)(a:∀e∈tp,e.Ok X.P X.Γ)(b:∀c∈tc,c.Ok X.P)(eq:∀s,akh X tb tp tc h fn e s=e.m s):e.Ok X.P X.Γ:=
 apq i g d a b λs _ j=>(eq s).trans j
theorem ax{E:Type}{p:E->Prop}:∀e∈([]:List E),p e:=λ_ h=>by cases h
theorem aw{E:Type}{p:E->Prop}{x:E}{l:List E}(hx:p x)(hl:∀e∈l,p e):∀e∈x::l,p e:=λe a=>by
 rcases List.mem_cons.1 a with rfl|a
 .exact hx
 .exact hl e a
def aaH(x:Int):Bool:=decide (-9223372036854775808<=x)&&decide (x<=9223372036854775807)
theorem ZW{x:Int}:aaH x=true↔ -9223372036854775808<=x/\x<=9223372036854775807:=by simp [aaH]
end Go.Proofs.YtcgihjbfppkcfaaGreatDoor
