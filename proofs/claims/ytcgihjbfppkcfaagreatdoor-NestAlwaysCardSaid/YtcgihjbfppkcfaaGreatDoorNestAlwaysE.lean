/-
  Own texts for the statement NestAlways, cut down to what it needs: B22, KIt. (cut and joined by a program)
-/
import Derived.Test.YtcgihjbfppkcfaaGreatDoorNestAlwaysD
import Derived.Lib.ItoaNum
set_option linter.unusedVariables false
set_option linter.unusedSimpArgs false
namespace Go.Proofs.YtcgihjbfppkcfaaGreatDoor
variable {tb : List aB} {tc : List ou} {tp : List bX}
open Go.Lib
def ew:List (Bool×Row)->List Row
 |[]=>[]
 |x::R=>aD x.1 (x.2::ew R) (ew R)
def mT:List (Bool×Row)->List Row
 |[]=>[]
 |x::R=>aD x.1 (mT R) (x.2::mT R)
def KX:List Row->zo
 |[]=>[]
 |r::G=>(match r with
  | .box j _ _=>j::KX G
  |_=>KX G)
def idB:Nat->Nat->xc
 |0,_=>[]
 |n+1,k=>some k::idB n (k+1)
def Z6:List (Nat×List AV)->List (List AV)->List (Nat×List AV)
 |x::X,cs::C=>(x.1,cs)::Z6 X C
 |_,_=>[]
def Iq(X:Cx)(fr:Fr)(st:aC):ResultVar->Option AV
 | .tmp t=>Aw st.E fr.F t
 | .cell p t=>(match Aw st.E fr.F p with
  |some v=>(match Ao [] st.G fr.H none v with
   |some cs=>mW X.P t cs
   |none=>none)
  |none=>none)
def Fo(vs:List AV):AV:=match vs with
 |[v]=>v
 |vs=> .tuple vs
def aii(e:aB)(fr:Fr)(st:aC)(v:AV)(fix0:Nat->Option AV)(fix:Nat->jc):List Row:=cu (xh st.G fr.H e.r v++Pv st.G fr.H fix0 fix e.os) st.G
def apa(e:aB)(fr:Fr)(n:Nat)(G:List Row)(v:AV)(fix0:Nat->Option AV)(fix:Nat->jc):Option (fu (pr e.r++je e.os)):=match mt G fr.H e.r v none none (idB n 0) with
 |some mr=>(match ZP G fr.H fix0 fix e.os mr.B with
  |some mq=>aD (FD ((mr.S++mq.S).map λx=>dB G fr.H x.2)&&M9 G.length ((mr.S++mq.S).map λx=>dB G fr.H x.2)) (cQ _ (mr.D++mq.D)) none
  |none=>none)
 |none=>none
def adN(X:Cx)(e:aB)(fn:Func)(fr:Fr)(n:Nat)(fix0:Nat->Option AV)(fix:Nat->jc)(st:aC):Option (fu (pr e.r++je e.os)):=match xG (Iq X fr st) fn.results.toList with
 |some rs=>apa e fr n (aii e fr st (Fo rs) fix0 fix) (Fo rs) fix0 fix
 |none=>none
abbrev aqE{R:Type}(K:aC->Option R):XE->aC->Option R
 | .nrm,st=>K st
 | .ret,st=>K st
 |_,_=>none
noncomputable def ad2{R:Type}(X:Cx)(tb:List aB)(tp:List bX)(tc:List ou)(h:HT)(fn:Func)(ps:List Pt)(KF:List AV->List Row->Nat->List (Nat×List AV)->XE->aC->Option R)(s:fu (pQ ps)):Option R:=
 match eX id ps [] [] 0 (iE _ s) with
 |⟨vs,R,n,_,XA⟩=>match nK (KX (ew R)) n (ew R) with
  |(G,Q,c)=>match fn.body with
   |none=>none
   |some body=>aD (Nat.ble vs.length fn.ntmps&&AV.cj n vs&&bB n (R.map (·.2))) (
    adR X tb tp tc body ⟨[],Q++mT R,fn.ntmps⟩ (KF vs (Q++mT R) n (Z6 XA (jK G))) ⟨c,oK 0 vs,G,h⟩) none
noncomputable def X9(X:Cx)(tb:List aB)(tp:List bX)(tc:List ou)(h:HT)(fn:Func)(e:aB)(s:fu (pQ e.ps)):Option (fu (pr e.r++je e.os)):=
 ad2 X tb tp tc h fn e.ps (λvs H n XX=>aqE (adN X e fn ⟨[],H,fn.ntmps⟩ n (λ(i:Nat)=>vs[i]?) (yb e.ps vs XX))) s
def MA(pp:Pt)(fr:Fr)(v:AV)(st:aC):Option (fu (pr pp)):=match mt (cu (xh st.G fr.H pp v) st.G) fr.H pp v none none [] with
 |some mr=>aD (FD (mr.S.map λx=>dB (cu (xh st.G fr.H pp v) st.G) fr.H x.2)&&M9 (cu (xh st.G fr.H pp v) st.G).length (mr.S.map λx=>dB (cu (xh st.G fr.H pp v) st.G) fr.H x.2)) (cQ _ mr.D) none
 |none=>none
abbrev Cm(pp:Pt):(pq:Option Pt)->(fr:Fr)->(v:AV)->(st:aC)->Option (PK pp pq)
 |none,fr,v,st=>MA pp fr v st
 |some q,fr,v,st=>match MA pp fr v st with
  |some x=>some (.inl x)
  |none=>(MA q fr v st).map .inr
abbrev inT{B:Type}:(nv:Bool)->(r:Pt)->(os:List (Bool×Nat×Pt))->Option (fu (pr r++je os))->Option (Except B (tW nv r os))
 |true,_,_,_=>none
 |false,_,_,o=>o.map .ok
theorem Yj{B:Type}:{nv:Bool}->{r:Pt}->{os:List (Bool×Nat×Pt)}->{o:Option (fu (pr r++je os))}->{z:Except B (tW nv r os)}->inT nv r os o=some z->∃x q,o=some q/\z= .ok x/\isOk nv r os x q
 |true,_,_,_,_,h=>by cases h
 |false,_,_,none,_,h=>by cases h
 |false,_,_,some q,_,h=>by cases h;exact ⟨q,q,rfl,rfl,rfl⟩
abbrev aqK{B:Type}(nv:Bool)(r:Pt)(os:List (Bool×Nat×Pt))(K:aC->Option (fu (pr r++je os)))(KP KL:AV->aC->Option B):XE->aC->Option (Except B (tW nv r os))
 | .nrm,st=>inT nv r os (K st)
 | .ret,st=>inT nv r os (K st)
 | .jG v,st=>(KP v st).map .error
 | .panE v,st=>(KP v st).map .error
 | .panL v,st=>(KL v st).map .error
 |_,_=>none
noncomputable def ajI(X:Cx)(tb:List aB)(tp:List bX)(tc:List ou)(h:HT)(fn:Func)(e:bX)(s:fu (pQ e.ps)):Option (Except (PK e.pp e.pq) (tW e.nv e.r e.os)):=
 ad2 X tb tp tc h fn e.ps (λvs H n XX=>aqK e.nv e.r e.os (adN X e.oe fn ⟨[],H,fn.ntmps⟩ n (λ(i:Nat)=>vs[i]?) (yb e.ps vs XX)) (Cm e.pp e.pq ⟨[],H,fn.ntmps⟩) (λv st=>aD (e.lp||Oe H) (Cm e.pp e.pq ⟨[],dm H,fn.ntmps⟩ v st) none)) s
theorem BS:{G H:List Row}->jK (G++H)=jK G++jK H
 |[],_=>rfl
 |r::G,H=>by cases r <;> simp only [qd,jK,BS]
theorem Aa:{R S:List (Bool×Row)}->ew (R++S)=ew R++ew S
 |[],_=>rfl
 |x::R,S=>by have e:∀Q,ew (x::Q)=aD x.1 (x.2::ew Q) (ew Q):=λ_=>rfl;rw [qd,e,e,Aa];cases x.1 <;> rfl
theorem Rx{nm:Nat->Nat}:(t:Ty)->(x:t.T)->(n:Nat)->(o:xa)->jK (ew (iM nm t x n o).R)=[]
 | .i _,_,_,_|.bo,_,_,_|.s,_,_,_|.un,_,_,_|.n,_,_,_|.mp _ _,_,_,_=>rfl
 | .p a b,x,n,o=>by
  unfold iM;have g:=Rx (nm:=nm) a x.1 n o;generalize iM nm a x.1 n o=L at g;obtain ⟨u,p,d,c⟩:=L;dsimp only;have f:=Rx (nm:=nm) b x.2 d c;generalize iM nm b x.2 d c=L at f;obtain ⟨h,p2,k,j⟩:=L;show jK (ew (p++p2))=[];rw [Aa,BS,show jK (ew p)=[] from g,show jK (ew p2)=[] from f];rfl
 | .l t,x,n,o=>by
  unfold iM;split <;> first|rfl|(rename_i e _;show jK (ew [(ow e,_)])=[];unfold ew;cases ow e <;> rfl)
 | .ex,x,n,o=>by unfold iM;split <;> first|rfl|(rename_i e _;show jK (ew [(ow e,_)])=[];unfold ew;cases ow e <;> rfl)
mutual
theorem acg{nm:Nat->Nat}:(p:Pt)->(fx:jc)->(c:Option AV)->(n:Nat)->(D:List ck)->(fill nm p fx c n D).X.map (·.2)=jK (ew (fill nm p fx c n D).R)
 | .int _,_,_,_,_|.bool,_,_,_,_|.str,_,_,_,_|.sli _,_,_,_,_|.slr _,_,_,_,_|.ptr _ _,_,_,_,_|.it,_,_,_,_|.mQ _,_,_,_,_|.ifn,_,_,_,_|.sfp,_,_,_,_|.same,_,_,_,_=>rfl
 | .own t e m,fx,c,n,D=>by cases m <;> rfl
 | .mp k v m,fx,c,n,D=>by cases m <;> rfl
 | .bx t off m vs,fx,c,n,D=>by
  unfold fill;have h:=vx (nm:=nm) vs [] (H2 fx) (n+1) D;generalize eX nm vs [] (H2 fx) (n+1) D=L at h;obtain ⟨cs,R,k,g,d⟩:=L;have q:d.map (·.2)=jK (ew R):=h;cases m
  .exact q
  .show XK (GJ nm fx n) vs cs::d.map (·.2)=XK (GJ nm fx n) vs cs::jK (ew R);rw [q]
 | .agg l,fx,c,n,D=>by
  unfold fill;have h:=vx (nm:=nm) l (iG fx) [] n D;generalize eX nm l (iG fx) [] n D=L at h;obtain ⟨cs,R,k,g,d⟩:=L;exact h
 | .cQ l,fx,c,n,D=>by
  unfold fill;have h:=vx (nm:=nm) l [] [] n D;generalize eX nm l [] [] n D=L at h;obtain ⟨cs,R,k,g,d⟩:=L;exact h
 | .fn f a b,fx,c,n,D=>by
  unfold fill;have h:=vx (nm:=nm) a [] [] n D;generalize eX nm a [] [] n D=L at h;obtain ⟨cs,R,k,g,d⟩:=L;dsimp only;have j:=vx (nm:=nm) b (iG fx) [] k g;generalize eX nm b (iG fx) [] k g=L at j;obtain ⟨s,r,x,u,i⟩:=L;show (d++i).map (·.2)=jK (ew (R++r));rw [sj,Aa,BS,show d.map (·.2)=jK (ew R) from h,show i.map (·.2)=jK (ew r) from j]
 | .ifc t p,fx,c,n,D=>by
  unfold fill;have h:=acg (nm:=nm) p (rv p (iG fx)) none n D;generalize fill nm p (rv p (iG fx)) none n D=L at h;obtain ⟨v,R,k,g,d⟩:=L;exact h
 | .dat t o,fx,c,n,D=>by unfold fill;have h:=Rx (nm:=nm) t (iq t D) n o;generalize iM nm t (iq t D) n o=L at h;obtain ⟨cs,R,k,w⟩:=L;exact h.symm
theorem vx{nm:Nat->Nat}:(l:List Pt)->(b a:List AV)->(n:Nat)->(D:List ck)->(eX nm l b a n D).X.map (·.2)=jK (ew (eX nm l b a n D).R)
 |[],_,_,_,_=>rfl
 |p::l,b,a,n,D=>by unfold eX;have h:=acg (nm:=nm) p (rv p b) a.head? n D;generalize fill nm p (rv p b) a.head? n D=L at h;obtain ⟨cs,R,k,g,e⟩:=L;dsimp only;have d:=vx (nm:=nm) l b.tail a.tail k g;generalize eX nm l b.tail a.tail k g=L at d;obtain ⟨i,f,m,j,c⟩:=L;show (e++c).map (·.2)=jK (ew (R++f));rw [sj,Aa,BS,show e.map (·.2)=jK (ew R) from h,show c.map (·.2)=jK (ew f) from d]
end
theorem W6{ρ ρ':aw}:{X:List (Nat×List AV)}->{C:List (List AV)}->C.map (AV.aj ρ')=X.map (λx=>AV.aj ρ x.2)->eV ρ' (Z6 X C)=eV ρ X
 |[],[],_=>rfl
 |[],_::_,h=>by cases h
 |_::_,[],h=>by cases h
 |x::X,cs::C,h=>by simp only [eT,qa] at h;show (x.1,AV.aj ρ' cs)::eV ρ' (Z6 X C)=(x.1,AV.aj ρ x.2)::eV ρ X;rw [h.1,W6 h.2]
section
variable {w : World} {ρ : aw}
theorem Sat.ao3{A B:Ctx}{x:Item}(h:Sat (A++B) w)(hx:x.own=[]/\∀M w,x.P M w):Sat (A++x::B) w:=by
 refine h.BL (λj k=>(j<A.length/\k=j)\/(A.length<j/\k+1=j)) (λj b a=>?_) (λj k q c g f=>by omega);by_cases e:j<A.length
 .rw [eb e] at a;exact .inr ⟨j,b,.inl ⟨e,rfl⟩,by rw [eb e];exact a,bV.refl⟩
 .rw [db (by omega)] at a;by_cases d:j=A.length
  .subst d;simp at a;subst a;exact .inl hx
  .refine .inr ⟨j-1,b,.inr ⟨by omega,by omega⟩,?_,bV.refl⟩;rw [db (by omega)];have:j-A.length=(j-1-A.length)+1:=by omega
   rw [this,iQ] at a;exact a
theorem Sat.me{A B:Ctx}(h:Sat (A++B) w):∀(L:List Item),(∀it∈L,it.cH=true/\∀M w,it.P M w)->Sat (A++(L++B)) w
 |[],_=>h
 |x::L,hL=>(Sat.me h L (λit bG=>hL it (b7 _ bG))).ao3 ⟨x.hp (hL x (cx ..)).1,(hL x (cx ..)).2⟩
theorem Vi{Φ:Ctx}{T:aA}:∀{R:List (Bool×Row)} {A:Ctx},Sat (A++(ab ρ T (R.map (·.2))++Φ)) w->Sat (A++(ab ρ T (ew R)++(ab ρ T (mT R)++Φ))) w
 |[],_,h=>h
 |x::R,A,h=>by
  have c:Sat ((A++[x.2.item ρ T])++(ab ρ T (R.map (·.2))++Φ)) w:=by simpa [ab] using h
  have a:=Vi c;unfold ew mT;cases x.1
  .have b:Sat (A++x.2.item ρ T::(ab ρ T (ew R)++(ab ρ T (mT R)++Φ))) w:=by simpa using a
   exact b.move
  .simpa [ab] using a
theorem Lf{Φ:Ctx}{T:aA}:∀{R:List (Bool×Row)} {I:fH} {A:Ctx},fQ (RwI ρ T) R I->Sat (A++(ab ρ T (mT R)++Φ)) w->Sat (A++(gZ I++Φ)) w
 |_,_,_,.nil,h=>h
 |_,_,A,.cons (a:=a) (b:=b) (l:=l) (m:=m) h1 hr,h=>by
  unfold mT at h;show Sat (A++(aD b.1 iW b.2)::(gZ m++Φ)) w;rw [<-h1.1];cases ha:a.1
  .rw [ha] at h;have e:Sat (A++b.2::(ab ρ T (mT l)++Φ)) w:=by have c:Sat (A++a.2.item ρ T::(ab ρ T (mT l)++Φ)) w:=h;exact c.E3 h1.2.2
   have d:Sat ((A++[b.2])++(ab ρ T (mT l)++Φ)) w:=by simpa using e
   have:=Lf hr d;simpa using this
  .rw [ha] at h;have c:Sat (A++(ab ρ T (mT l)++Φ)) w:=h;exact (Lf hr c).ao3 ⟨rfl,λ_ _=>trivial⟩
theorem Y0{c:Nat}:{R:List (Bool×Row)}->bB c (R.map (·.2))=true->bB c (ew R)=true/\bB c (mT R)=true
 |[],_=>⟨rfl,rfl⟩
 |x::R,h=>by
  simp only [eT,bB,an] at h;obtain ⟨b,a⟩:=Y0 h.2;unfold ew mT;cases x.1
  .exact ⟨b,by show bB c (x.2::mT R)=true;simp only [bB,an];exact ⟨h.1,a⟩⟩
  .exact ⟨by show bB c (x.2::ew R)=true;simp only [bB,an];exact ⟨h.1,b⟩,a⟩
theorem agN{N:List Nm}:∀{M:List Nm} {k:Nat},(∀i a,M[i]? =some a->ρ (k+i)=a)->NB ρ (idB M.length k) M
 |[],_,_=> .nil
 |a::M,k,h=> .cons (by
   have:=h 0 a rfl;rw [Nat.add_zero] at this;exact ⟨by rw [this],by rw [this],by rw [this]⟩) (agN (N:=N) λi b hb=>by
   have:=h (i+1) b (by simpa using hb);rw [<-this];congr 1;omega)
end
section
variable {X : Cx} {fr : Fr} {st : aC} {ρ : aw} {Φ : Ctx} {w : World}
theorem amP(j:Sat (ab ρ [] st.G++(ab ρ [] fr.H++Φ)) w){r:ResultVar}{v:AV}(h:Iq X fr st r=some v):mM X.P (ax ρ [] st.E fr.F) w r (v.val ρ):=by
 cases r with
 |tmp t=>exact mM.t (FZ h)
 |cell p t=>
  unfold Iq at h;dsimp only at h;split at h
  .rename_i u i;split at h
   .rename_i cs b;obtain ⟨y,s,f⟩:=J0 j b aA.get_none;have hl:=FZ (ρ:=ρ) i;rw [s] at hl;have o:mW X.P t (cs.drop 0)=some v:=by simpa using h
    obtain ⟨d,n,bytes,z,c1,x,e⟩:=pO (ρ:=ρ) o;cases hd:lX d
    .rw [hd] at e;simp only [e9,qw] at e;exact mM.c1 hl c1 hd f e
    .unfold mW at h;rw [c1] at h;rcases dR h with ⟨_,c⟩|⟨g,_⟩
     .split at c
      next q k=>obtain ⟨n,bytes,z⟩:=q;obtain ⟨m,l⟩:=aI c;cases l;have a:n<=cs.length:=er m;simp only [AV.val];refine mM.cA hl c1 hd (cP k) (vs:=AV.aj ρ (cs.take n)) ?_ (by rw [AV.bD,dk,j0 a]);have:=f.sub (us:=AV.aj ρ (cs.take n)) 0 (by rw [AV.lI,p5,dk,AV.bD,j0 a]);simpa [Addr.add] using this
      .cases c
     .rw [hd] at g;cases g
   .cases h
  .cases h
theorem aiP{rs:List AV}:(if h:(AV.aj ρ rs).length=1 then (AV.aj ρ rs)[0] else .tuple (AV.aj ρ rs).toArray)=(Fo rs).val ρ:=by
 match rs with
 |[]=>simp [Fo,AV.aj,AV.val]
 |[v]=>simp [Fo,AV.aj]
 |u::v::l=>simp [Fo,AV.aj,AV.val]
theorem ahT{fn:Func}{S:Value->World->Prop}{Sp:x5->World->Prop}{rs:List AV}(k:Sat (ab ρ [] st.G++(ab ρ [] fr.H++Φ)) w)(h:xG (Iq X fr st) fn.results.toList=some rs)(hS:S ((Fo rs).val ρ) w):
  At (BP X.P fn S Sp) .ret fr.n [] (ax ρ [] st.E fr.F) w:=by
 have c:∀{α β:Type} {f:α->Option β} {l:List α} {ys:List β},xG f l=some ys->l.length=ys.length:=λ{α β f l}=>by
  induction l with
  |nil=>intro ys h;cases h;rfl
  |cons x l ih=>
   intro ys h;unfold xG at h;split at h
   .split at h
    next zs e=>cases h;simp [ih e]
    .cases h
   .cases h
 have b:∀{l:List ResultVar} {ys:List AV},xG (Iq X fr st) l=some ys->xG (λr=>(Iq X fr st r).map (AV.val ρ)) l=some (AV.aj ρ ys):=λ{l}=>by
  induction l with
  |nil=>intro ys h;cases h;simp [xG,AV.aj]
  |cons x l ih=>
   intro ys h;unfold xG at h ⊢;split at h
   .rename_i y j;split at h
    next zs e=>cases h;rw [j,ih e];simp [AV.aj]
    .cases h
   .cases h
 refine adl (vs:=AV.aj ρ rs) (by rw [AV.bD];exact c h) (λa m=>QY (g:=λr=>(Iq X fr st r).map (AV.val ρ)) (λr v d=>?_) (b h)) aiP hS;cases i:Iq X fr st r with
 |none=>rw [i] at d;cases d
 |some u=>
  rw [i] at d;cases d;exact (amP k i).run m
end
theorem acA{R:Type}{X:Cx}{h:HT}{fn:Func}{f:FuncId}{ps:List Pt}{KF:List AV->List Row->Nat->List (Nat×List AV)->XE->aC->Option R}{s:fu (pQ ps)}{r:R}{S:Value->World->Prop}{Sp:x5->World->Prop}
  (Y:X.P.funcs[f]? =some fn) (O:∀e∈tb,e.Ok X.P X.Γ) (K:∀e∈tp,e.Ok X.P X.Γ) (M:∀c∈tc,c.Ok X.P) (hd:ad2 X tb tp tc h fn ps KF s=some r) {d:ze} {N:List Nm} {I:fH} {XX:la} {Φ:Ctx} {w:World}
  (hS:xp ps d [] [] [] (iE _ s) I XX N) (m:Sat (dA I++Φ) w) (J:∀it∈X.Γ,it∈Φ)
  (fin:∀(x:XE) (vs:List AV) (H:List Row) (z:List (Nat×List AV)) (st:aC) (ρ:aw) (w':World),KF vs H N.length z x st=some r->Sat (ab ρ [] st.G++(ab ρ [] (hx x ⟨[],H,fn.ntmps⟩)++Φ)) w'->NB ρ (idB N.length 0) N->AV.aj ρ vs=d->eV ρ z=XX->
   (∀{A:Ctx} {F:World},Sat (A++(ab ρ [] H++Φ)) F->Sat (A++(gZ I++Φ)) F)->Le (BP X.P fn S Sp) x ρ fn.ntmps [] (ax ρ [] st.E []) w'):nE X.P f d w S Sp:=by
 -- names of the arguments
 have o:wF (λ(i:Nat)=>(N[i]?).getD dp) id 0 N:=λi a ha=>by simp only [id,ha,qF];exact ⟨trivial,trivial,trivial,λ_=>trivial⟩
 have p:∀(i:Nat) a,N[i]? =some a->(λ(i:Nat)=>(N[i]?).getD dp) (0+i)=a:=λi a ha=>by simp only [nI,ha,qF]
 generalize (λ(i:Nat)=>(N[i]?).getD dp)=ρ at o p;obtain ⟨u,y,f3,v,t⟩:=vp (T:=[]) (nm:=id) ps d [] [] [] (iE _ s) I XX N (by simpa only [AV.aj] using hS) o (pF _) [];have Z:=vx (nm:=id) ps [] [] 0 (iE _ s);simp only [ma,qg] at u y f3 v t;unfold ad2 at hd;generalize eX id ps [] [] 0 (iE _ s)=L at u y f3 v t Z hd;obtain ⟨vs,R,n,DD,z⟩:=L;simp only at u y f3 v t Z;dsimp only at hd;subst y;generalize hL:nK (KX (ew R)) N.length (ew R)=L at hd;obtain ⟨G,D,c⟩:=L;dsimp only at hd;split at hd
 .cases hd
 rename_i body j;obtain ⟨h1,h2⟩:=aI hd;simp only [an] at h1;obtain ⟨⟨h3,h4⟩,h5⟩:=h1;obtain ⟨l1,l2⟩:=Y0 h5;obtain ⟨b,g⟩:=Jb (ids:=KX (ew R)) (ρ:=ρ) l1;rw [hL] at g;have hc:N.length<=c:=g.le;have V:Sat (ab ρ [] (R.map (·.2))++Φ) w:=Sat.YH (A:=[]) (B:=dA I) (C:=Φ) m t.rw;have U:=Vi (A:=[]) V;have e1:ab b [] G=ab ρ [] (ew R):=g.eq;have Q:Sat (ab b [] G++(ab b [] (D++mT R)++Φ)) w:=by
  rw [e1,bg,ba g.ag l2,cb];exact Sat.me (A:=ab ρ [] (ew R)) (B:=ab ρ [] (mT R)++Φ) U (ab b [] D) (λit bG=>by obtain ⟨q,hq,rfl⟩:=List.mem_map.1 bG;exact g.rp q hq)
 have l:AV.aj b vs=d:=by rw [AV.bZ g.ag _ h4,u]
 refine mh Y j rfl (by rw [<-l,AV.bD];exact h3) ?_;have hE:ax b [] (oK 0 vs) []=iota 0 d:=by show aF.env b [] (oK 0 vs)++[]=_;rw [CP,l,ma]
 rw [<-hE];refine anN (fr:=⟨[],D++mT R,fn.ntmps⟩) (st:=⟨c,oK 0 vs,G,h⟩) J O K M body Q h2 (λx st' ρ' w' a1 a2 a3 a4=>?_);have k:aQ N.length ρ ρ':=g.ag.trans (a1.less hc) (c8 _);refine fin x vs (D++mT R) (Z6 z (jK G)) st' ρ' w' a3 a4 (agN (N:=N) (λi a ha=>by
   have hi:i<N.length:=(List.getElem?_eq_some_iff.1 ha).1;rw [k _ (by omega)];exact p i a ha)) (by rw [AV.bZ k _ h4,u]) ?_ (λ{A F} hw=>?_)
 .rw [v];refine W6 ?_;have g1:(jK G).map (AV.aj ρ')=(jK G).map (AV.aj b):=LJ a1 g.lw;have g2:(jK G).map (AV.aj b)=(jK (ew R)).map (AV.aj ρ):=g.bx;rw [g1,g2,<-Z,List.map_map];rfl
 .rw [bg,cb] at hw;have p4:=hw.QM;have W:ab ρ' [] (mT R)=ab ρ [] (mT R):=ba k l2;rw [W] at p4;exact Lf t p4
theorem Mw{X:Cx}{e:aB}{fn:Func}{S:Value->World->Prop}{Sp:x5->World->Prop}{q:fu (pr e.r++je e.os)}{a:ze}{N:List Nm}{I:fH}{u:la}{Φ:Ctx}{vs:List AV}{H:List Row}{f:List (Nat×List AV)}{st:aC}{ρ:aw}{w':World}
  (hk:adN X e fn ⟨[],H,fn.ntmps⟩ N.length (λ(i:Nat)=>vs[i]?) (yb e.ps vs f) st=some q) (z:Sat (ab ρ [] st.G++(ab ρ [] H++Φ)) w') (t:NB ρ (idB N.length 0) N) (b:AV.aj ρ vs=a) (U:eV ρ f=u)
  (c:∀{A:Ctx} {w:World},Sat (A++(ab ρ [] H++Φ)) w->Sat (A++(gZ I++Φ)) w)
  (s:∀v w',(∃(h N2:List Nm) (F C:List ck) (k j:fH) (W V:la),Sem e.r v none none N F k W h/\Fv (QO e.ps a u) (λ(i:Nat)=>a[i]?) e.os h C j V N2/\F++C=iE _ q/\Sat ((dA k++dA j)++(gZ I++Φ)) w')->S v w'):
  At (BP X.P fn S Sp) .ret fn.ntmps [] (ax ρ [] st.E []) w':=by
 unfold adN at hk;split at hk
 .rename_i rs m;refine ahT (fr:=⟨[],H,fn.ntmps⟩) z m (s _ _ ?_);generalize Fo rs=v at hk;have d:=kX (ids:=xh st.G H e.r v++Pv st.G H (λ(i:Nat)=>vs[i]?) (yb e.ps vs f) e.os) z;change Sat (ab ρ [] (aii e ⟨[],H,fn.ntmps⟩ st v (λ(i:Nat)=>vs[i]?) (yb e.ps vs f))++_) w' at d;generalize aii e ⟨[],H,fn.ntmps⟩ st v (λ(i:Nat)=>vs[i]?) (yb e.ps vs f)=G' at hk d;unfold apa at hk;split at hk
  .rename_i l n;split at hk
   .rename_i y o;obtain ⟨k1,R⟩:=aI hk;simp only [an] at k1;obtain ⟨h,k,J,Q,L⟩:=Ma d e.r v none none _ l N n t (λq T=>by cases T);obtain ⟨N2,j,x,Y,K⟩:=Rn d e.os l.B y h o Q;have p:(λi=>ie ρ (yb e.ps vs f i))=QO e.ps a u:=by
     funext i
     rw [<-abP,b,U]
    have g:(λ(i:Nat)=>(vs[i]?).map (AV.val ρ))=λ(i:Nat)=>a[i]? :=by
     funext i
     rw [<-b,SC]
    rw [p,g] at x;obtain ⟨p1,_⟩:=MC d (L.append K);obtain ⟨p2,_⟩:=yw d p1 (yG k1.1);rw [CE k1.2] at p2;have O:=p2.QM;have M:=c O;refine ⟨h,N2,l.D,y.D,k,j,_,_,J,x,(Cc _ R).symm,?_⟩;simpa [dA] using M
   .cases hk
  .cases hk
 .cases hk
theorem ao0{X:Cx}{h:HT}{fn:Func}{e:aB}(q:Enters X.P e.f)(p:X.P.funcs[e.f]? =some fn)(o:∀e∈tb,e.Ok X.P X.Γ)(k:∀e∈tp,e.Ok X.P X.Γ)(n:∀c∈tc,c.Ok X.P)(hm:∀s r,e.m s=some r->X9 X tb tp tc h fn e s=some r):e.Ok X.P X.Γ:=by
 refine ⟨q,λs r z y N I A Φ w hS d j=>?_⟩;refine acA p o k n (hm s r z) hS d j (λx vs H B st ρ w' hk u g b t a=>?_);cases x with
 |nrm=>exact Mw hk u g b t a (λ_ _ h=>h)
 |ret=>exact Mw hk u g b t a (λ_ _ h=>h)
 |ext i=>cases hk
 |gto l=>cases hk
 |jG v=>cases hk
 |panE v=>cases hk
 |panL v=>cases hk
theorem ami{X:Cx}{h:HT}{fn:Func}{e:bX}(Q:Enters X.P e.f)(O:X.P.funcs[e.f]? =some fn)(L:∀e∈tb,e.Ok X.P X.Γ)(J:∀e∈tp,e.Ok X.P X.Γ)(K:∀c∈tc,c.Ok X.P)(hm:∀s r,e.m s=some r->ajI X tb tp tc h fn e s=some r):e.Ok X.P X.Γ:=by
 refine ⟨Q,λs r Y S N I XX Φ w hS B F=>?_⟩;refine acA O L J K (hm s r Y) hS B F (λx vs H XA st ρ w' hk t C z R b=>?_);have two:∀(v:AV) (H:List Row) (E:Ctx),Sat (ab ρ [] st.G++(ab ρ [] H++Φ)) w'->(∀{A:Ctx},Sat (A++(ab ρ [] H++Φ)) w'->Sat (A++(E++Φ)) w')->∀(pp:Pt) (pq:Option Pt) (p:PK pp pq),Cm pp pq ⟨[],H,fn.ntmps⟩ v st=some p->∃(g:List Nm) (d:fH) (n:la),aj1 pp pq p (v.val ρ) d n g/\Sat (dA d++(E++Φ)) w':=λv H E t b pp pq p hp=>by
  have one:∀(pp:Pt) (p:fu (pr pp)),MA pp ⟨[],H,fn.ntmps⟩ v st=some p->∃(g:List Nm) (d:fH) (n:la),Sem pp (v.val ρ) none none [] (iE _ p) d n g/\Sat (dA d++(E++Φ)) w':=λpp p hp=>by
   unfold MA at hp;have D:=kX (ids:=xh st.G H pp v) t;generalize cu (xh st.G H pp v) st.G=G' at hp D;split at hp
   next V M=>obtain ⟨k1,W⟩:=aI hp;simp only [an] at k1;obtain ⟨g,d,o,Z,T⟩:=Ma D pp v none none _ V [] M .nil (λq j=>by cases j);obtain ⟨p1,_⟩:=MC D T;obtain ⟨p2,_⟩:=yw D p1 (yG k1.1);rw [CE k1.2] at p2;have U:=b p2.QM;rw [<-Cc _ W] at o;exact ⟨g,d,_,o,by simpa [dA] using U⟩
   .cases hp
  cases pq with
  |none=>exact one pp p hp
  |some q=>
   simp only [Cm] at hp;split at hp
   next x hx=>cases hp;exact one pp x hx
   .cases j:MA q ⟨[],H,fn.ntmps⟩ v st with
    |none=>rw [j] at hp;cases hp
    |some x=>
     rw [j] at hp;cases hp;exact one q x j
 have y:∀{A:Ctx},Sat (A++(gZ I++Φ)) w'->Sat (A++(aD e.lp [] (gZ I)++Φ)) w':=λh=>by
  cases e.lp
  .exact h
  .exact Sat.Kk h
 cases x with
 |nrm=>
  obtain ⟨x,q,j,rfl,hi⟩:=Yj hk;exact Mw j t C z R b (λ_ _ h=>⟨x,q,rfl,hi,h⟩)
 |ret=>
  obtain ⟨x,q,j,rfl,hi⟩:=Yj hk;exact Mw j t C z R b (λ_ _ h=>⟨x,q,rfl,hi,h⟩)
 |ext i=>cases hk
 |gto l=>cases hk
 |jG v=>
  have a:(Cm e.pp e.pq ⟨[],H,fn.ntmps⟩ v st).map Except.error=some r:=hk;cases hp:Cm e.pp e.pq ⟨[],H,fn.ntmps⟩ v st with
  |none=>rw [hp] at a;cases a
  |some p=>
   rw [hp] at a;cases a;obtain ⟨g,d,n,o,u⟩:=two v H (gZ I) t b e.pp e.pq p hp;exact adf ⟨p,rfl,v.val ρ,g,d,n,rfl,o,y u⟩
 |panE v=>
  have a:(Cm e.pp e.pq ⟨[],H,fn.ntmps⟩ v st).map Except.error=some r:=hk;cases hp:Cm e.pp e.pq ⟨[],H,fn.ntmps⟩ v st with
  |none=>rw [hp] at a;cases a
  |some p=>
   rw [hp] at a;cases a;obtain ⟨g,d,n,o,u⟩:=two v H (gZ I) t b e.pp e.pq p hp;exact (adf ⟨p,rfl,v.val ρ,g,d,n,rfl,o,y u⟩:DA _ _ [] _).at
 |panL v=>
  have a:(aD (e.lp||Oe H) (Cm e.pp e.pq ⟨[],dm H,fn.ntmps⟩ v st) none).map Except.error=some r:=hk;cases k:e.lp||Oe H with
  |false=>rw [k] at a;cases a
  |true=>
   rw [k] at a;replace a:(Cm e.pp e.pq ⟨[],dm H,fn.ntmps⟩ v st).map Except.error=some r:=a;cases hp:Cm e.pp e.pq ⟨[],dm H,fn.ntmps⟩ v st with
   |none=>rw [hp] at a;cases a
   |some p=>
    rw [hp] at a;cases a;obtain ⟨g,d,n,o,u⟩:=two v (dm H) (aD e.lp [] (gZ I)) t (λh=>by
     cases hl:e.lp
     .rw [hl,mm] at k;rw [Si k] at h;exact b h
     .exact Sat.Kk h) e.pp e.pq p hp
    exact (adf ⟨p,rfl,v.val ρ,g,d,n,rfl,o,u⟩:DA _ _ [] _).at
theorem tq{X:Cx}{A B:Type}{E:(A->Option B)->aB}{F:(A->Option B)->A->Option B}(a:(E λ_=>none).Ok X.P X.Γ)(step:∀k,(E k).Ok X.P X.Γ->(E (F k)).Ok X.P X.Γ):∀n,(E (ao F n)).Ok X.P X.Γ
 |0=>a
 |n+1=>step _ (tq a step n)
theorem XP{X:Cx}{A B:Type}{E:(A->Option B)->bX}{F:(A->Option B)->A->Option B}(a:(E λ_=>none).Ok X.P X.Γ)(step:∀k,(E k).Ok X.P X.Γ->(E (F k)).Ok X.P X.Γ):∀n,(E (ao F n)).Ok X.P X.Γ
 |0=>a
 |n+1=>step _ (XP a step n)
theorem gE{X:Cx}{fn:Func}{e:aB}(h:HT)(i:Enters X.P e.f)(g:X.P.funcs[e.f]? =some fn)(d:∀e∈tb,e.Ok X.P X.Γ)(a:∀e∈tp,e.Ok X.P X.Γ)(b:∀c∈tc,c.Ok X.P)(eq:∀s,X9 X tb tp tc h fn e s=e.m s):e.Ok X.P X.Γ:=
 ao0 i g d a b λs _ j=>(eq s).trans j
theorem KN{X:Cx}{fn:Func}{e:bX}(h:HT)(i:Enters X.P e.f)(g:X.P.funcs[e.f]? =some fn)(d:∀e∈tb,e.Ok X.P X.Γ)(a:∀e∈tp,e.Ok X.P X.Γ)(b:∀c∈tc,c.Ok X.P)(eq:∀s,ajI X tb tp tc h fn e s=e.m s):e.Ok X.P X.Γ:=
 ami i g d a b λs _ j=>(eq s).trans j
theorem az{E:Type}{p:E->Prop}:∀e∈([]:List E),p e:=λ_ h=>by cases h
theorem ar{E:Type}{p:E->Prop}{x:E}{l:List E}(hx:p x)(hl:∀e∈l,p e):∀e∈x::l,p e:=λe a=>by
 rcases List.mem_cons.1 a with rfl|a
 .exact hx
 .exact hl e a
def Xx(x:Int):Bool:=decide (-9223372036854775808<=x)&&decide (x<=9223372036854775807)
theorem Zt{x:Int}:Xx x=true↔ -9223372036854775808<=x/\x<=9223372036854775807:=by simp [Xx]
end Go.Proofs.YtcgihjbfppkcfaaGreatDoor
