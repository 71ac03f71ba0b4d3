/- Own texts for NestAlwaysQ, cut and joined by a program. -/
import Derived.Test.YtcgihjbfppkcfaaGreatDoorNestAlwaysQD
import Derived.Lib.ItoaNum
set_option linter.all false
namespace Go.Proofs.YtcgihjbfppkcfaaGreatDoor
variable {tb : List aC} {tc : List ov} {tp : List bX}
open Go.Lib
def ew:List (Bool×Row)->List Row
 |[]=>[]
 |x::R=>aD x.1 (x.2::ew R) (ew R)
def na:List (Bool×Row)->List Row
 |[]=>[]
 |x::R=>aD x.1 (na R) (x.2::na R)
def Lz:List Row->zo
 |[]=>[]
 |r::G=>(match r with
  | .box j _ _=>j::Lz G
  |_=>Lz G)
def idB:Nat->Nat->xc
 |0,_=>[]
 |n+1,k=>some k::idB n (k+1)
def Yl:List (Nat×List AV)->List (List AV)->List (Nat×List AV)
 |x::X,cs::C=>(x.1,cs)::Yl X C
 |_,_=>[]
def Ij(X:Cx)(fr:Fr)(st:aB):ResultVar->Option AV
 | .tmp t=>Ak st.E fr.F t
 | .cell p t=>(match Ak st.E fr.F p with
  |some v=>(match An [] st.G fr.H none v with
   |some cs=>mX X.P t cs
   |none=>none)
  |none=>none)
def FC(vs:List AV):AV:=match vs with
 |[v]=>v
 |vs=> .tuple vs
def akO(e:aC)(fr:Fr)(st:aB)(v:AV)(fix0:Nat->Option AV)(fix:Nat->ja):List Row:=cu (xi st.G fr.H e.r v++Px st.G fr.H fix0 fix e.os) st.G
def apq(e:aC)(fr:Fr)(n:Nat)(G:List Row)(v:AV)(fix0:Nat->Option AV)(fix:Nat->ja):Option (fy (po e.r++iW e.os)):=match mt G fr.H e.r v none none (idB n 0) with
 |some mr=>(match WE G fr.H fix0 fix e.os mr.B with
  |some mq=>aD (Fk ((mr.S++mq.S).map λx=>dB G fr.H x.2)&&NQ G.length ((mr.S++mq.S).map λx=>dB G fr.H x.2)) (cQ _ (mr.D++mq.D)) none
  |none=>none)
 |none=>none
def afs(X:Cx)(e:aC)(fn:Func)(fr:Fr)(n:Nat)(fix0:Nat->Option AV)(fix:Nat->ja)(st:aB):Option (fy (po e.r++iW e.os)):=match wS (Ij X fr st) fn.results.toList with
 |some rs=>apq e fr n (akO e fr st (FC rs) fix0 fix) (FC rs) fix0 fix
 |none=>none
abbrev aqA{R:Type}(K:aB->Option R):XE->aB->Option R
 | .nrm,st=>K st
 | .ret,st=>K st
 |_,_=>none
noncomputable def aeL{R:Type}(X:Cx)(tb:List aC)(tp:List bX)(tc:List ov)(h:HT)(fn:Func)(ps:List Pt)(KF:List AV->List Row->Nat->List (Nat×List AV)->XE->aB->Option R)(s:fy (pJ ps)):Option R:=
 match eX id ps [] [] 0 (iD _ s) with
 |⟨vs,R,n,_,XA⟩=>match nt (Lz (ew R)) n (ew R) with
  |(G,Q,c)=>match fn.body with
   |none=>none
   |some body=>aD (Nat.ble vs.length fn.ntmps&&AV.cj n vs&&bB n (R.map (·.2))) (
    aeK X tb tp tc body ⟨[],Q++na R,fn.ntmps⟩ (KF vs (Q++na R) n (Yl XA (jG G))) ⟨c,oS 0 vs,G,h⟩) none
noncomputable def Zp(X:Cx)(tb:List aC)(tp:List bX)(tc:List ov)(h:HT)(fn:Func)(e:aC)(s:fy (pJ e.ps)):Option (fy (po e.r++iW e.os)):=
 aeL X tb tp tc h fn e.ps (λvs H n XX=>aqA (afs X e fn ⟨[],H,fn.ntmps⟩ n (λ(i:Nat)=>vs[i]?) (x8 e.ps vs XX))) s
def MD(pp:Pt)(fr:Fr)(v:AV)(st:aB):Option (fy (po pp)):=match mt (cu (xi st.G fr.H pp v) st.G) fr.H pp v none none [] with
 |some mr=>aD (Fk (mr.S.map λx=>dB (cu (xi st.G fr.H pp v) st.G) fr.H x.2)&&NQ (cu (xi st.G fr.H pp v) st.G).length (mr.S.map λx=>dB (cu (xi st.G fr.H pp v) st.G) fr.H x.2)) (cQ _ mr.D) none
 |none=>none
abbrev Dy(pp:Pt):(pq:Option Pt)->(fr:Fr)->(v:AV)->(st:aB)->Option (Rj pp pq)
 |none,fr,v,st=>MD pp fr v st
 |some q,fr,v,st=>match MD pp fr v st with
  |some x=>some (.inl x)
  |none=>(MD q fr v st).map .inr
abbrev inT{B:Type}:(nv:Bool)->(r:Pt)->(os:List (Bool×Nat×Pt))->Option (fy (po r++iW os))->Option (Except B (tT nv r os))
 |true,_,_,_=>none
 |false,_,_,o=>o.map .ok
theorem Xf{B:Type}:{nv:Bool}->{r:Pt}->{os:List (Bool×Nat×Pt)}->{o:Option (fy (po r++iW os))}->{z:Except B (tT nv r os)}->inT nv r os o=some z->∃x q,o=some q/\z= .ok x/\isOk nv r os x q
 |true,_,_,_,_,h=>by cases h
 |false,_,_,none,_,h=>by cases h
 |false,_,_,some q,_,h=>by cases h;exact ⟨q,q,rfl,rfl,rfl⟩
abbrev aqO{B:Type}(nv:Bool)(r:Pt)(os:List (Bool×Nat×Pt))(K:aB->Option (fy (po r++iW os)))(KP KL:AV->aB->Option B):XE->aB->Option (Except B (tT nv r os))
 | .nrm,st=>inT nv r os (K st)
 | .ret,st=>inT nv r os (K st)
 | .jI v,st=>(KP v st).map .error
 | .panE v,st=>(KP v st).map .error
 | .panL v,st=>(KL v st).map .error
 |_,_=>none
noncomputable def ai2(X:Cx)(tb:List aC)(tp:List bX)(tc:List ov)(h:HT)(fn:Func)(e:bX)(s:fy (pJ e.ps)):Option (Except (Rj e.pp e.pq) (tT e.nv e.r e.os)):=
 aeL X tb tp tc h fn e.ps (λvs H n XX=>aqO e.nv e.r e.os (afs X e.oe fn ⟨[],H,fn.ntmps⟩ n (λ(i:Nat)=>vs[i]?) (x8 e.ps vs XX)) (Dy e.pp e.pq ⟨[],H,fn.ntmps⟩) (λv st=>aD (e.lp||OB H) (Dy e.pp e.pq ⟨[],dp H,fn.ntmps⟩ v st) none)) s
theorem BN:{G H:List Row}->jG (G++H)=jG G++jG H
 |[],_=>rfl
 |r::G,H=>by cases r <;> simp only [qd,jG,BN]
theorem y9:{R S:List (Bool×Row)}->ew (R++S)=ew R++ew S
 |[],_=>rfl
 |x::R,S=>by have e:∀Q,ew (x::Q)=aD x.1 (x.2::ew Q) (ew Q):=λ_=>rfl;rw [qd,e,e,y9];cases x.1 <;> rfl
theorem Ug{nm:Nat->Nat}:(t:Ty)->(x:t.T)->(n:Nat)->(o:xa)->jG (ew (iL nm t x n o).R)=[]
 | .i _,_,_,_|.bo,_,_,_|.s,_,_,_|.un,_,_,_|.n,_,_,_|.mp _ _,_,_,_=>rfl
 | .p a b,x,n,o=>by
  unfold iL;have g:=Ug (nm:=nm) a x.1 n o;generalize iL nm a x.1 n o=L at g;obtain ⟨u,p,d,c⟩:=L;dsimp only;have f:=Ug (nm:=nm) b x.2 d c;generalize iL nm b x.2 d c=L at f;obtain ⟨h,p2,k,j⟩:=L;show jG (ew (p++p2))=[];rw [y9,BN,show jG (ew p)=[] from g,show jG (ew p2)=[] from f];rfl
 | .l t,x,n,o=>by
  unfold iL;split <;> first|rfl|(rename_i e _;show jG (ew [(ow e,_)])=[];unfold ew;cases ow e <;> rfl)
 | .ex,x,n,o=>by unfold iL;split <;> first|rfl|(rename_i e _;show jG (ew [(ow e,_)])=[];unfold ew;cases ow e <;> rfl)
mutual
theorem acV{nm:Nat->Nat}:(p:Pt)->(fx:ja)->(c:Option AV)->(n:Nat)->(D:List ck)->(fill nm p fx c n D).X.map (·.2)=jG (ew (fill nm p fx c n D).R)
 | .int _,_,_,_,_|.bool,_,_,_,_|.str,_,_,_,_|.sli _,_,_,_,_|.slr _,_,_,_,_|.ptr _ _,_,_,_,_|.it,_,_,_,_|.mQ _,_,_,_,_|.ifn,_,_,_,_|.sfp,_,_,_,_|.same,_,_,_,_=>rfl
 | .own t e m,fx,c,n,D=>by cases m <;> rfl
 | .mp k v m,fx,c,n,D=>by cases m <;> rfl
 | .bx t off m vs,fx,c,n,D=>by
  unfold fill;have h:=vt (nm:=nm) vs [] (Iv fx) (n+1) D;generalize eX nm vs [] (Iv fx) (n+1) D=L at h;obtain ⟨cs,R,k,g,d⟩:=L;have q:d.map (·.2)=jG (ew R):=h;cases m
  .exact q
  .show XO (G2 nm fx n) vs cs::d.map (·.2)=XO (G2 nm fx n) vs cs::jG (ew R);rw [q]
 | .agg l,fx,c,n,D=>by
  unfold fill;have h:=vt (nm:=nm) l (iG fx) [] n D;generalize eX nm l (iG fx) [] n D=L at h;obtain ⟨cs,R,k,g,d⟩:=L;exact h
 | .cQ l,fx,c,n,D=>by
  unfold fill;have h:=vt (nm:=nm) l [] [] n D;generalize eX nm l [] [] n D=L at h;obtain ⟨cs,R,k,g,d⟩:=L;exact h
 | .fn f a b,fx,c,n,D=>by
  unfold fill;have h:=vt (nm:=nm) a [] [] n D;generalize eX nm a [] [] n D=L at h;obtain ⟨cs,R,k,g,d⟩:=L;dsimp only;have j:=vt (nm:=nm) b (iG fx) [] k g;generalize eX nm b (iG fx) [] k g=L at j;obtain ⟨s,r,x,u,i⟩:=L;show (d++i).map (·.2)=jG (ew (R++r));rw [sj,y9,BN,show d.map (·.2)=jG (ew R) from h,show i.map (·.2)=jG (ew r) from j]
 | .ifc t p,fx,c,n,D=>by
  unfold fill;have h:=acV (nm:=nm) p (rA p (iG fx)) none n D;generalize fill nm p (rA p (iG fx)) none n D=L at h;obtain ⟨v,R,k,g,d⟩:=L;exact h
 | .dat t o,fx,c,n,D=>by unfold fill;have h:=Ug (nm:=nm) t (im t D) n o;generalize iL nm t (im t D) n o=L at h;obtain ⟨cs,R,k,w⟩:=L;exact h.symm
theorem vt{nm:Nat->Nat}:(l:List Pt)->(b a:List AV)->(n:Nat)->(D:List ck)->(eX nm l b a n D).X.map (·.2)=jG (ew (eX nm l b a n D).R)
 |[],_,_,_,_=>rfl
 |p::l,b,a,n,D=>by unfold eX;have h:=acV (nm:=nm) p (rA p b) a.head? n D;generalize fill nm p (rA p b) a.head? n D=L at h;obtain ⟨cs,R,k,g,e⟩:=L;dsimp only;have d:=vt (nm:=nm) l b.tail a.tail k g;generalize eX nm l b.tail a.tail k g=L at d;obtain ⟨i,f,m,j,c⟩:=L;show (e++c).map (·.2)=jG (ew (R++f));rw [sj,y9,BN,show e.map (·.2)=jG (ew R) from h,show c.map (·.2)=jG (ew f) from d]
end
theorem aad{ρ ρ':aw}:{X:List (Nat×List AV)}->{C:List (List AV)}->C.map (AV.aj ρ')=X.map (λx=>AV.aj ρ x.2)->eV ρ' (Yl X C)=eV ρ X
 |[],[],_=>rfl
 |[],_::_,h=>by cases h
 |_::_,[],h=>by cases h
 |x::X,cs::C,h=>by simp only [eT,qa] at h;show (x.1,AV.aj ρ' cs)::eV ρ' (Yl X C)=(x.1,AV.aj ρ x.2)::eV ρ X;rw [h.1,aad h.2]
section
variable {w : World} {ρ : aw}
theorem Sat.aoG{A B:Ctx}{x:Item}(h:Sat (A++B) w)(hx:x.own=[]/\∀M w,x.P M w):Sat (A++x::B) w:=by
 refine h.BA (λj k=>(j<A.length/\k=j)\/(A.length<j/\k+1=j)) (λj b a=>?_) (λj k q c g f=>by omega);by_cases e:j<A.length
 .rw [eb e] at a;exact .inr ⟨j,b,.inl ⟨e,rfl⟩,by rw [eb e];exact a,bV.refl⟩
 .rw [de (by omega)] at a;by_cases d:j=A.length
  .subst d;simp at a;subst a;exact .inl hx
  .refine .inr ⟨j-1,b,.inr ⟨by omega,by omega⟩,?_,bV.refl⟩;rw [de (by omega)];have:j-A.length=(j-1-A.length)+1:=by omega
   rw [this,iQ] at a;exact a
theorem Sat.lT{A B:Ctx}(h:Sat (A++B) w):∀(L:List Item),(∀it∈L,it.cL=true/\∀M w,it.P M w)->Sat (A++(L++B)) w
 |[],_=>h
 |x::L,hL=>(Sat.lT h L (λit bH=>hL it (b7 _ bH))).aoG ⟨x.hp (hL x (cx ..)).1,(hL x (cx ..)).2⟩
theorem Vs{Φ:Ctx}{T:aA}:∀{R:List (Bool×Row)} {A:Ctx},Sat (A++(ab ρ T (R.map (·.2))++Φ)) w->Sat (A++(ab ρ T (ew R)++(ab ρ T (na R)++Φ))) w
 |[],_,h=>h
 |x::R,A,h=>by
  have c:Sat ((A++[x.2.item ρ T])++(ab ρ T (R.map (·.2))++Φ)) w:=by simpa [ab] using h
  have a:=Vs c;unfold ew na;cases x.1
  .have b:Sat (A++x.2.item ρ T::(ab ρ T (ew R)++(ab ρ T (na R)++Φ))) w:=by simpa using a
   exact b.move
  .simpa [ab] using a
theorem Kx{Φ:Ctx}{T:aA}:∀{R:List (Bool×Row)} {I:fI} {A:Ctx},fN (RwI ρ T) R I->Sat (A++(ab ρ T (na R)++Φ)) w->Sat (A++(hZ I++Φ)) w
 |_,_,_,.nil,h=>h
 |_,_,A,.cons (a:=a) (b:=b) (l:=l) (m:=m) h1 hr,h=>by
  unfold na at h;show Sat (A++(aD b.1 jb b.2)::(hZ m++Φ)) w;rw [<-h1.1];cases ha:a.1
  .rw [ha] at h;have e:Sat (A++b.2::(ab ρ T (na l)++Φ)) w:=by have c:Sat (A++a.2.item ρ T::(ab ρ T (na l)++Φ)) w:=h;exact c.El h1.2.2
   have d:Sat ((A++[b.2])++(ab ρ T (na l)++Φ)) w:=by simpa using e
   have:=Kx hr d;simpa using this
  .rw [ha] at h;have c:Sat (A++(ab ρ T (na l)++Φ)) w:=h;exact (Kx hr c).aoG ⟨rfl,λ_ _=>trivial⟩
theorem Y7{c:Nat}:{R:List (Bool×Row)}->bB c (R.map (·.2))=true->bB c (ew R)=true/\bB c (na R)=true
 |[],_=>⟨rfl,rfl⟩
 |x::R,h=>by
  simp only [eT,bB,an] at h;obtain ⟨b,a⟩:=Y7 h.2;unfold ew na;cases x.1
  .exact ⟨b,by show bB c (x.2::na R)=true;simp only [bB,an];exact ⟨h.1,a⟩⟩
  .exact ⟨by show bB c (x.2::ew R)=true;simp only [bB,an];exact ⟨h.1,b⟩,a⟩
theorem ahO{N:List Nm}:∀{M:List Nm} {k:Nat},(∀i a,M[i]? =some a->ρ (k+i)=a)->NB ρ (idB M.length k) M
 |[],_,_=> .nil
 |a::M,k,h=> .cons (by
   have:=h 0 a rfl;rw [Nat.add_zero] at this;exact ⟨by rw [this],by rw [this],by rw [this]⟩) (ahO (N:=N) λi b hb=>by
   have:=h (i+1) b (by simpa using hb);rw [<-this];congr 1;omega)
end
section
variable {X : Cx} {fr : Fr} {st : aB} {ρ : aw} {Φ : Ctx} {w : World}
theorem anC(j:Sat (ab ρ [] st.G++(ab ρ [] fr.H++Φ)) w){r:ResultVar}{v:AV}(h:Ij X fr st r=some v):mP X.P (ay ρ [] st.E fr.F) w r (v.val ρ):=by
 cases r with
 |tmp t=>exact mP.t (E9 h)
 |cell p t=>
  unfold Ij at h;dsimp only at h;split at h
  .rename_i u i;split at h
   .rename_i cs b;obtain ⟨y,s,f⟩:=KO j b aA.get_none;have hl:=E9 (ρ:=ρ) i;rw [s] at hl;have o:mX X.P t (cs.drop 0)=some v:=by simpa using h
    obtain ⟨d,n,bytes,z,c1,x,e⟩:=pI (ρ:=ρ) o;cases hd:mB d
    .rw [hd] at e;simp only [e9,qw] at e;exact mP.c1 hl c1 hd f e
    .unfold mX at h;rw [c1] at h;rcases dR h with ⟨_,c⟩|⟨g,_⟩
     .split at c
      next q k=>obtain ⟨n,bytes,z⟩:=q;obtain ⟨m,l⟩:=aI c;cases l;have a:n<=cs.length:=er m;simp only [AV.val];refine mP.cA hl c1 hd (cP k) (vs:=AV.aj ρ (cs.take n)) ?_ (by rw [AV.bD,dk,j0 a]);have:=f.sub (us:=AV.aj ρ (cs.take n)) 0 (by rw [AV.lG,p5,dk,AV.bD,j0 a]);simpa [Addr.add] using this
      .cases c
     .rw [hd] at g;cases g
   .cases h
  .cases h
theorem alg{rs:List AV}:(if h:(AV.aj ρ rs).length=1 then (AV.aj ρ rs)[0] else .tuple (AV.aj ρ rs).toArray)=(FC rs).val ρ:=by
 match rs with
 |[]=>simp [FC,AV.aj,AV.val]
 |[v]=>simp [FC,AV.aj]
 |u::v::l=>simp [FC,AV.aj,AV.val]
theorem agG{fn:Func}{S:Value->World->Prop}{Sp:x7->World->Prop}{rs:List AV}(k:Sat (ab ρ [] st.G++(ab ρ [] fr.H++Φ)) w)(h:wS (Ij X fr st) fn.results.toList=some rs)(hS:S ((FC rs).val ρ) w):
  At (BP X.P fn S Sp) .ret fr.n [] (ay ρ [] st.E fr.F) w:=by
 have c:∀{α β:Type} {f:α->Option β} {l:List α} {ys:List β},wS f l=some ys->l.length=ys.length:=λ{α β f l}=>by
  induction l with
  |nil=>intro ys h;cases h;rfl
  |cons x l ih=>
   intro ys h;unfold wS at h;split at h
   .split at h
    next zs e=>cases h;simp [ih e]
    .cases h
   .cases h
 have b:∀{l:List ResultVar} {ys:List AV},wS (Ij X fr st) l=some ys->wS (λr=>(Ij X fr st r).map (AV.val ρ)) l=some (AV.aj ρ ys):=λ{l}=>by
  induction l with
  |nil=>intro ys h;cases h;simp [wS,AV.aj]
  |cons x l ih=>
   intro ys h;unfold wS at h ⊢;split at h
   .rename_i y j;split at h
    next zs e=>cases h;rw [j,ih e];simp [AV.aj]
    .cases h
   .cases h
 refine ae8 (vs:=AV.aj ρ rs) (by rw [AV.bD];exact c h) (λa m=>QW (g:=λr=>(Ij X fr st r).map (AV.val ρ)) (λr v d=>?_) (b h)) alg hS;cases i:Ij X fr st r with
 |none=>rw [i] at d;cases d
 |some u=>
  rw [i] at d;cases d;exact (anC k i).run m
end
theorem abm{R:Type}{X:Cx}{h:HT}{fn:Func}{f:FuncId}{ps:List Pt}{KF:List AV->List Row->Nat->List (Nat×List AV)->XE->aB->Option R}{s:fy (pJ ps)}{r:R}{S:Value->World->Prop}{Sp:x7->World->Prop}
  (Y:X.P.funcs[f]? =some fn) (O:∀e∈tb,e.Ok X.P X.Γ) (K:∀e∈tp,e.Ok X.P X.Γ) (M:∀c∈tc,c.Ok X.P) (hd:aeL X tb tp tc h fn ps KF s=some r) {d:ze} {N:List Nm} {I:fI} {XX:lh} {Φ:Ctx} {w:World}
  (hS:w7 ps d [] [] [] (iD _ s) I XX N) (m:Sat (dA I++Φ) w) (J:∀it∈X.Γ,it∈Φ)
  (fin:∀(x:XE) (vs:List AV) (H:List Row) (z:List (Nat×List AV)) (st:aB) (ρ:aw) (w':World),KF vs H N.length z x st=some r->Sat (ab ρ [] st.G++(ab ρ [] (hx x ⟨[],H,fn.ntmps⟩)++Φ)) w'->NB ρ (idB N.length 0) N->AV.aj ρ vs=d->eV ρ z=XX->
   (∀{A:Ctx} {F:World},Sat (A++(ab ρ [] H++Φ)) F->Sat (A++(hZ I++Φ)) F)->Ly (BP X.P fn S Sp) x ρ fn.ntmps [] (ay ρ [] st.E []) w'):nz X.P f d w S Sp:=by
 -- names of the arguments
 have o:xF (λ(i:Nat)=>(N[i]?).getD dm) id 0 N:=λi a ha=>by simp only [id,ha,qF];exact ⟨trivial,trivial,trivial,λ_=>trivial⟩
 have p:∀(i:Nat) a,N[i]? =some a->(λ(i:Nat)=>(N[i]?).getD dm) (0+i)=a:=λi a ha=>by simp only [nI,ha,qF]
 generalize (λ(i:Nat)=>(N[i]?).getD dm)=ρ at o p;obtain ⟨u,y,f3,v,t⟩:=u5 (T:=[]) (nm:=id) ps d [] [] [] (iD _ s) I XX N (by simpa only [AV.aj] using hS) o (pF _) [];have Z:=vt (nm:=id) ps [] [] 0 (iD _ s);simp only [ma,qg] at u y f3 v t;unfold aeL at hd;generalize eX id ps [] [] 0 (iD _ s)=L at u y f3 v t Z hd;obtain ⟨vs,R,n,DD,z⟩:=L;simp only at u y f3 v t Z;dsimp only at hd;subst y;generalize hL:nt (Lz (ew R)) N.length (ew R)=L at hd;obtain ⟨G,D,c⟩:=L;dsimp only at hd;split at hd
 .cases hd
 rename_i body j;obtain ⟨h1,h2⟩:=aI hd;simp only [an] at h1;obtain ⟨⟨h3,h4⟩,h5⟩:=h1;obtain ⟨l1,l2⟩:=Y7 h5;obtain ⟨b,g⟩:=HO (ids:=Lz (ew R)) (ρ:=ρ) l1;rw [hL] at g;have hc:N.length<=c:=g.le;have V:Sat (ab ρ [] (R.map (·.2))++Φ) w:=Sat.ZN (A:=[]) (B:=dA I) (C:=Φ) m t.rw;have U:=Vs (A:=[]) V;have e1:ab b [] G=ab ρ [] (ew R):=g.eq;have Q:Sat (ab b [] G++(ab b [] (D++na R)++Φ)) w:=by
  rw [e1,bg,aZ g.ag l2,cb];exact Sat.lT (A:=ab ρ [] (ew R)) (B:=ab ρ [] (na R)++Φ) U (ab b [] D) (λit bH=>by obtain ⟨q,hq,rfl⟩:=List.mem_map.1 bH;exact g.rp q hq)
 have l:AV.aj b vs=d:=by rw [AV.bZ g.ag _ h4,u]
 refine mn Y j rfl (by rw [<-l,AV.bD];exact h3) ?_;have hE:ay b [] (oS 0 vs) []=iota 0 d:=by show aF.env b [] (oS 0 vs)++[]=_;rw [C4,l,ma]
 rw [<-hE];refine am3 (fr:=⟨[],D++na R,fn.ntmps⟩) (st:=⟨c,oS 0 vs,G,h⟩) J O K M body Q h2 (λx st' ρ' w' a1 a2 a3 a4=>?_);have k:aQ N.length ρ ρ':=g.ag.trans (a1.less hc) (c8 _);refine fin x vs (D++na R) (Yl z (jG G)) st' ρ' w' a3 a4 (ahO (N:=N) (λi a ha=>by
   have hi:i<N.length:=(List.getElem?_eq_some_iff.1 ha).1;rw [k _ (by omega)];exact p i a ha)) (by rw [AV.bZ k _ h4,u]) ?_ (λ{A F} hw=>?_)
 .rw [v];refine aad ?_;have g1:(jG G).map (AV.aj ρ')=(jG G).map (AV.aj b):=J6 a1 g.lw;have g2:(jG G).map (AV.aj b)=(jG (ew R)).map (AV.aj ρ):=g.bx;rw [g1,g2,<-Z,List.map_map];rfl
 .rw [bg,cb] at hw;have p4:=hw.Qh;have W:ab ρ' [] (na R)=ab ρ [] (na R):=aZ k l2;rw [W] at p4;exact Kx t p4
theorem L9{X:Cx}{e:aC}{fn:Func}{S:Value->World->Prop}{Sp:x7->World->Prop}{q:fy (po e.r++iW e.os)}{a:ze}{N:List Nm}{I:fI}{u:lh}{Φ:Ctx}{vs:List AV}{H:List Row}{f:List (Nat×List AV)}{st:aB}{ρ:aw}{w':World}
  (hk:afs X e fn ⟨[],H,fn.ntmps⟩ N.length (λ(i:Nat)=>vs[i]?) (x8 e.ps vs f) st=some q) (z:Sat (ab ρ [] st.G++(ab ρ [] H++Φ)) w') (t:NB ρ (idB N.length 0) N) (b:AV.aj ρ vs=a) (U:eV ρ f=u)
  (c:∀{A:Ctx} {w:World},Sat (A++(ab ρ [] H++Φ)) w->Sat (A++(hZ I++Φ)) w)
  (s:∀v w',(∃(h N2:List Nm) (F C:List ck) (k j:fI) (W V:lh),Sem e.r v none none N F k W h/\FE (Qb e.ps a u) (λ(i:Nat)=>a[i]?) e.os h C j V N2/\F++C=iD _ q/\Sat ((dA k++dA j)++(hZ I++Φ)) w')->S v w'):
  At (BP X.P fn S Sp) .ret fn.ntmps [] (ay ρ [] st.E []) w':=by
 unfold afs at hk;split at hk
 .rename_i rs m;refine agG (fr:=⟨[],H,fn.ntmps⟩) z m (s _ _ ?_);generalize FC rs=v at hk;have d:=kY (ids:=xi st.G H e.r v++Px st.G H (λ(i:Nat)=>vs[i]?) (x8 e.ps vs f) e.os) z;change Sat (ab ρ [] (akO e ⟨[],H,fn.ntmps⟩ st v (λ(i:Nat)=>vs[i]?) (x8 e.ps vs f))++_) w' at d;generalize akO e ⟨[],H,fn.ntmps⟩ st v (λ(i:Nat)=>vs[i]?) (x8 e.ps vs f)=G' at hk d;unfold apq at hk;split at hk
  .rename_i l n;split at hk
   .rename_i y o;obtain ⟨k1,R⟩:=aI hk;simp only [an] at k1;obtain ⟨h,k,J,Q,L⟩:=Mt d e.r v none none _ l N n t (λq T=>by cases T);obtain ⟨N2,j,x,Y,K⟩:=P9 d e.os l.B y h o Q;have p:(λi=>ic ρ (x8 e.ps vs f i))=Qb e.ps a u:=by
     funext i
     rw [<-abA,b,U]
    have g:(λ(i:Nat)=>(vs[i]?).map (AV.val ρ))=λ(i:Nat)=>a[i]? :=by
     funext i
     rw [<-b,Rw]
    rw [p,g] at x;obtain ⟨p1,_⟩:=Mr d (L.append K);obtain ⟨p2,_⟩:=yA d p1 (yC k1.1);rw [C0 k1.2] at p2;have O:=p2.Qh;have M:=c O;refine ⟨h,N2,l.D,y.D,k,j,_,_,J,x,(Cd _ R).symm,?_⟩;simpa [dA] using M
   .cases hk
  .cases hk
 .cases hk
theorem apH{X:Cx}{h:HT}{fn:Func}{e:aC}(q:Enters X.P e.f)(p:X.P.funcs[e.f]? =some fn)(o:∀e∈tb,e.Ok X.P X.Γ)(k:∀e∈tp,e.Ok X.P X.Γ)(n:∀c∈tc,c.Ok X.P)(hm:∀s r,e.m s=some r->Zp X tb tp tc h fn e s=some r):e.Ok X.P X.Γ:=by
 refine ⟨q,λs r z y N I A Φ w hS d j=>?_⟩;refine abm p o k n (hm s r z) hS d j (λx vs H B st ρ w' hk u g b t a=>?_);cases x with
 |nrm=>exact L9 hk u g b t a (λ_ _ h=>h)
 |ret=>exact L9 hk u g b t a (λ_ _ h=>h)
 |ext i=>cases hk
 |gto l=>cases hk
 |jI v=>cases hk
 |panE v=>cases hk
 |panL v=>cases hk
theorem ami{X:Cx}{h:HT}{fn:Func}{e:bX}(Q:Enters X.P e.f)(O:X.P.funcs[e.f]? =some fn)(L:∀e∈tb,e.Ok X.P X.Γ)(J:∀e∈tp,e.Ok X.P X.Γ)(K:∀c∈tc,c.Ok X.P)(hm:∀s r,e.m s=some r->ai2 X tb tp tc h fn e s=some r):e.Ok X.P X.Γ:=by
 refine ⟨Q,λs r Y S N I XX Φ w hS B F=>?_⟩;refine abm O L J K (hm s r Y) hS B F (λx vs H XA st ρ w' hk t C z R b=>?_);have two:∀(v:AV) (H:List Row) (E:Ctx),Sat (ab ρ [] st.G++(ab ρ [] H++Φ)) w'->(∀{A:Ctx},Sat (A++(ab ρ [] H++Φ)) w'->Sat (A++(E++Φ)) w')->∀(pp:Pt) (pq:Option Pt) (p:Rj pp pq),Dy pp pq ⟨[],H,fn.ntmps⟩ v st=some p->∃(g:List Nm) (d:fI) (n:lh),ajc pp pq p (v.val ρ) d n g/\Sat (dA d++(E++Φ)) w':=λv H E t b pp pq p hp=>by
  have one:∀(pp:Pt) (p:fy (po pp)),MD pp ⟨[],H,fn.ntmps⟩ v st=some p->∃(g:List Nm) (d:fI) (n:lh),Sem pp (v.val ρ) none none [] (iD _ p) d n g/\Sat (dA d++(E++Φ)) w':=λpp p hp=>by
   unfold MD at hp;have D:=kY (ids:=xi st.G H pp v) t;generalize cu (xi st.G H pp v) st.G=G' at hp D;split at hp
   next V M=>obtain ⟨k1,W⟩:=aI hp;simp only [an] at k1;obtain ⟨g,d,o,Z,T⟩:=Mt D pp v none none _ V [] M .nil (λq j=>by cases j);obtain ⟨p1,_⟩:=Mr D T;obtain ⟨p2,_⟩:=yA D p1 (yC k1.1);rw [C0 k1.2] at p2;have U:=b p2.Qh;rw [<-Cd _ W] at o;exact ⟨g,d,_,o,by simpa [dA] using U⟩
   .cases hp
  cases pq with
  |none=>exact one pp p hp
  |some q=>
   simp only [Dy] at hp;split at hp
   next x hx=>cases hp;exact one pp x hx
   .cases j:MD q ⟨[],H,fn.ntmps⟩ v st with
    |none=>rw [j] at hp;cases hp
    |some x=>
     rw [j] at hp;cases hp;exact one q x j
 have y:∀{A:Ctx},Sat (A++(hZ I++Φ)) w'->Sat (A++(aD e.lp [] (hZ I)++Φ)) w':=λh=>by
  cases e.lp
  .exact h
  .exact Sat.KS h
 cases x with
 |nrm=>
  obtain ⟨x,q,j,rfl,hi⟩:=Xf hk;exact L9 j t C z R b (λ_ _ h=>⟨x,q,rfl,hi,h⟩)
 |ret=>
  obtain ⟨x,q,j,rfl,hi⟩:=Xf hk;exact L9 j t C z R b (λ_ _ h=>⟨x,q,rfl,hi,h⟩)
 |ext i=>cases hk
 |gto l=>cases hk
 |jI v=>
  have a:(Dy e.pp e.pq ⟨[],H,fn.ntmps⟩ v st).map Except.error=some r:=hk;cases hp:Dy e.pp e.pq ⟨[],H,fn.ntmps⟩ v st with
  |none=>rw [hp] at a;cases a
  |some p=>
   rw [hp] at a;cases a;obtain ⟨g,d,n,o,u⟩:=two v H (hZ I) t b e.pp e.pq p hp;exact afi ⟨p,rfl,v.val ρ,g,d,n,rfl,o,y u⟩
 |panE v=>
  have a:(Dy e.pp e.pq ⟨[],H,fn.ntmps⟩ v st).map Except.error=some r:=hk;cases hp:Dy e.pp e.pq ⟨[],H,fn.ntmps⟩ v st with
  |none=>rw [hp] at a;cases a
  |some p=>
   rw [hp] at a;cases a;obtain ⟨g,d,n,o,u⟩:=two v H (hZ I) t b e.pp e.pq p hp;exact (afi ⟨p,rfl,v.val ρ,g,d,n,rfl,o,y u⟩:Dk _ _ [] _).at
 |panL v=>
  have a:(aD (e.lp||OB H) (Dy e.pp e.pq ⟨[],dp H,fn.ntmps⟩ v st) none).map Except.error=some r:=hk;cases k:e.lp||OB H with
  |false=>rw [k] at a;cases a
  |true=>
   rw [k] at a;replace a:(Dy e.pp e.pq ⟨[],dp H,fn.ntmps⟩ v st).map Except.error=some r:=a;cases hp:Dy e.pp e.pq ⟨[],dp H,fn.ntmps⟩ v st with
   |none=>rw [hp] at a;cases a
   |some p=>
    rw [hp] at a;cases a;obtain ⟨g,d,n,o,u⟩:=two v (dp H) (aD e.lp [] (hZ I)) t (λh=>by
     cases hl:e.lp
     .rw [hl,mm] at k;rw [Sd k] at h;exact b h
     .exact Sat.KS h) e.pp e.pq p hp
    exact (afi ⟨p,rfl,v.val ρ,g,d,n,rfl,o,u⟩:Dk _ _ [] _).at
theorem tK{X:Cx}{A B:Type}{E:(A->Option B)->aC}{F:(A->Option B)->A->Option B}(a:(E λ_=>none).Ok X.P X.Γ)(step:∀k,(E k).Ok X.P X.Γ->(E (F k)).Ok X.P X.Γ):∀n,(E (ao F n)).Ok X.P X.Γ
 |0=>a
 |n+1=>step _ (tK a step n)
theorem W5{X:Cx}{A B:Type}{E:(A->Option B)->bX}{F:(A->Option B)->A->Option B}(a:(E λ_=>none).Ok X.P X.Γ)(step:∀k,(E k).Ok X.P X.Γ->(E (F k)).Ok X.P X.Γ):∀n,(E (ao F n)).Ok X.P X.Γ
 |0=>a
 |n+1=>step _ (W5 a step n)
theorem gE{X:Cx}{fn:Func}{e:aC}(h:HT)(i:Enters X.P e.f)(g:X.P.funcs[e.f]? =some fn)(d:∀e∈tb,e.Ok X.P X.Γ)(a:∀e∈tp,e.Ok X.P X.Γ)(b:∀c∈tc,c.Ok X.P)(eq:∀s,Zp X tb tp tc h fn e s=e.m s):e.Ok X.P X.Γ:=
 apH i g d a b λs _ j=>(eq s).trans j
theorem Lh{X:Cx}{fn:Func}{e:bX}(h:HT)(i:Enters X.P e.f)(g:X.P.funcs[e.f]? =some fn)(d:∀e∈tb,e.Ok X.P X.Γ)(a:∀e∈tp,e.Ok X.P X.Γ)(b:∀c∈tc,c.Ok X.P)(eq:∀s,ai2 X tb tp tc h fn e s=e.m s):e.Ok X.P X.Γ:=
 ami i g d a b λs _ j=>(eq s).trans j
theorem az{E:Type}{p:E->Prop}:∀e∈([]:List E),p e:=λ_ h=>by cases h
theorem aq{E:Type}{p:E->Prop}{x:E}{l:List E}(hx:p x)(hl:∀e∈l,p e):∀e∈x::l,p e:=λe a=>by
 rcases List.mem_cons.1 a with rfl|a
 .exact hx
 .exact hl e a
def Z7(x:Int):Bool:=decide (-9223372036854775808<=x)&&decide (x<=9223372036854775807)
theorem Zz{x:Int}:Z7 x=true↔ -9223372036854775808<=x/\x<=9223372036854775807:=by simp [Z7]
end Go.Proofs.YtcgihjbfppkcfaaGreatDoor
