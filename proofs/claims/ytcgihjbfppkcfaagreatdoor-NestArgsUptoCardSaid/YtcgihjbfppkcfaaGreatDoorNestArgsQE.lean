/- Own texts for NestArgsQ, cut and joined by a program. -/
import Derived.Test.YtcgihjbfppkcfaaGreatDoorNestArgsQD
import Derived.Lib.ItoaNum
set_option linter.all false
namespace Go.Proofs.YtcgihjbfppkcfaaGreatDoor
variable {tb : List aA} {tc : List pO} {tp : List bY}
open Go.Lib
def eQ:List (Bool×Row)->List Row
 |[]=>[]
 |x::R=>aD x.1 (x.2::eQ R) (eQ R)
def n5:List (Bool×Row)->List Row
 |[]=>[]
 |x::R=>aD x.1 (n5 R) (x.2::n5 R)
def NW:List Row->zm
 |[]=>[]
 |r::G=>(match r with
  | .box j _ _=>j::NW G
  |_=>NW G)
def idB:Nat->Nat->w5
 |0,_=>[]
 |n+1,k=>some k::idB n (k+1)
def aae:List (Nat×List AV)->List (List AV)->List (Nat×List AV)
 |x::X,cs::C=>(x.1,cs)::aae X C
 |_,_=>[]
def Kf(X:Cx)(fr:Fr)(st:aC):ResultVar->Option AV
 | .tmp t=>BV st.E fr.F t
 | .cell p t=>(match BV st.E fr.F p with
  |some v=>(match B9 [] st.G fr.H none v with
   |some cs=>od X.P t cs
   |none=>none)
  |none=>none)
def Is(vs:List AV):AV:=match vs with
 |[v]=>v
 |vs=> .tuple vs
def alg(e:aA)(fr:Fr)(st:aC)(v:AV)(fix0:Nat->Option AV)(fix:Nat->jB):List Row:=cB (yf st.G fr.H e.r v++S9 st.G fr.H fix0 fix e.os) st.G
def arC(e:aA)(fr:Fr)(n:Nat)(G:List Row)(v:AV)(fix0:Nat->Option AV)(fix:Nat->jB):Option (fS (rT e.r++jo e.os)):=match mt G fr.H e.r v none none (idB n 0) with
 |some mr=>(match mtV G fr.H fix0 fix e.os mr.B with
  |some mq=>aD (Iw ((mr.S++mq.S).map λx=>dG G fr.H x.2)&&Qz G.length ((mr.S++mq.S).map λx=>dG G fr.H x.2)) (cU _ (mr.D++mq.D)) none
  |none=>none)
 |none=>none
def ahr(X:Cx)(e:aA)(fn:Func)(fr:Fr)(n:Nat)(fix0:Nat->Option AV)(fix:Nat->jB)(st:aC):Option (fS (rT e.r++jo e.os)):=match yi (Kf X fr st) fn.results.toList with
 |some rs=>arC e fr n (alg e fr st (Is rs) fix0 fix) (Is rs) fix0 fix
 |none=>none
abbrev atD{R:Type}(K:aC->Option R):XE->aC->Option R
 | .nrm,st=>K st
 | .ret,st=>K st
 |_,_=>none
noncomputable def afY{R:Type}(X:Cx)(tb:List aA)(tp:List bY)(tc:List pO)(h:HT)(fn:Func)(ps:List Pt)(KF:List AV->List Row->Nat->List (Nat×List AV)->XE->aC->Option R)(s:fS (sG ps)):Option R:=
 match fA id ps [] [] 0 (jb _ s) with
 |⟨vs,R,n,_,XA⟩=>match pc (NW (eQ R)) n (eQ R) with
  |(G,Q,c)=>match fn.body with
   |none=>none
   |some body=>aD (Nat.ble vs.length fn.ntmps&&AV.cq n vs&&bD n (R.map (·.2))) (
    afG X tb tp tc body ⟨[],Q++n5 R,fn.ntmps⟩ (KF vs (Q++n5 R) n (aae XA (kq G))) ⟨c,ra 0 vs,G,h⟩) none
noncomputable def acE(X:Cx)(tb:List aA)(tp:List bY)(tc:List pO)(h:HT)(fn:Func)(e:aA)(s:fS (sG e.ps)):Option (fS (rT e.r++jo e.os)):=
 afY X tb tp tc h fn e.ps (λvs H n XX=>atD (ahr X e fn ⟨[],H,fn.ntmps⟩ n (λ(i:Nat)=>vs[i]?) (Ax e.ps vs XX))) s
def O5(pp:Pt)(fr:Fr)(v:AV)(st:aC):Option (fS (rT pp)):=match mt (cB (yf st.G fr.H pp v) st.G) fr.H pp v none none [] with
 |some mr=>aD (Iw (mr.S.map λx=>dG (cB (yf st.G fr.H pp v) st.G) fr.H x.2)&&Qz (cB (yf st.G fr.H pp v) st.G).length (mr.S.map λx=>dG (cB (yf st.G fr.H pp v) st.G) fr.H x.2)) (cU _ mr.D) none
 |none=>none
abbrev FZ(pp:Pt):(pq:Option Pt)->(fr:Fr)->(v:AV)->(st:aC)->Option (S6 pp pq)
 |none,fr,v,st=>O5 pp fr v st
 |some q,fr,v,st=>match O5 pp fr v st with
  |some x=>some (.inl x)
  |none=>(O5 q fr v st).map .inr
abbrev inT{B:Type}:(nv:Bool)->(r:Pt)->(os:List (Bool×Nat×Pt))->Option (fS (rT r++jo os))->Option (Except B (vn nv r os))
 |true,_,_,_=>none
 |false,_,_,o=>o.map .ok
theorem aaS{B:Type}:{nv:Bool}->{r:Pt}->{os:List (Bool×Nat×Pt)}->{o:Option (fS (rT r++jo os))}->{z:Except B (vn nv r os)}->inT nv r os o=some z->∃x q,o=some q/\z= .ok x/\isOk nv r os x q
 |true,_,_,_,_,h=>by cases h
 |false,_,_,none,_,h=>by cases h
 |false,_,_,some q,_,h=>by cases h;exact ⟨q,q,rfl,rfl,rfl⟩
abbrev atW{B:Type}(nv:Bool)(r:Pt)(os:List (Bool×Nat×Pt))(K:aC->Option (fS (rT r++jo os)))(KP KL:AV->aC->Option B):XE->aC->Option (Except B (vn nv r os))
 | .nrm,st=>inT nv r os (K st)
 | .ret,st=>inT nv r os (K st)
 | .kh v,st=>(KP v st).map .error
 | .panE v,st=>(KP v st).map .error
 | .panL v,st=>(KL v st).map .error
 |_,_=>none
noncomputable def amm(X:Cx)(tb:List aA)(tp:List bY)(tc:List pO)(h:HT)(fn:Func)(e:bY)(s:fS (sG e.ps)):Option (Except (S6 e.pp e.pq) (vn e.nv e.r e.os)):=
 afY X tb tp tc h fn e.ps (λvs H n XX=>atW e.nv e.r e.os (ahr X e.oe fn ⟨[],H,fn.ntmps⟩ n (λ(i:Nat)=>vs[i]?) (Ax e.ps vs XX)) (FZ e.pp e.pq ⟨[],H,fn.ntmps⟩) (λv st=>aD (e.lp||QG H) (FZ e.pp e.pq ⟨[],dB H,fn.ntmps⟩ v st) none)) s
theorem Dy:{G H:List Row}->kq (G++H)=kq G++kq H
 |[],_=>rfl
 |r::G,H=>by cases r <;> simp only [qb,kq,Dy]
theorem BE:{R S:List (Bool×Row)}->eQ (R++S)=eQ R++eQ S
 |[],_=>rfl
 |x::R,S=>by have e:∀Q,eQ (x::Q)=aD x.1 (x.2::eQ Q) (eQ Q):=λ_=>rfl;rw [qb,e,e,BE];cases x.1 <;> rfl
theorem WU{nm:Nat->Nat}:(t:Ty)->(x:t.T)->(n:Nat)->(o:wi)->kq (eQ (jn nm t x n o).R)=[]
 | .i _,_,_,_|.bo,_,_,_|.s,_,_,_|.un,_,_,_|.n,_,_,_|.mp _ _,_,_,_=>rfl
 | .p a b,x,n,o=>by
  unfold jn;have f:=WU (nm:=nm) a x.1 n o;generalize jn nm a x.1 n o=L at f;obtain ⟨u,p,n1,c⟩:=L;dsimp only;have d:=WU (nm:=nm) b x.2 n1 c;generalize jn nm b x.2 n1 c=L at d;obtain ⟨g,p2,j,h⟩:=L;show kq (eQ (p++p2))=[];rw [BE,Dy,show kq (eQ p)=[] from f,show kq (eQ p2)=[] from d];rfl
 | .l t,x,n,o=>by
  unfold jn;split <;> first|rfl|(rename_i e _;show kq (eQ [(ow e,_)])=[];unfold eQ;cases ow e <;> rfl)
 | .ex,x,n,o=>by unfold jn;split <;> first|rfl|(rename_i e _;show kq (eQ [(ow e,_)])=[];unfold eQ;cases ow e <;> rfl)
mutual
theorem aea{nm:Nat->Nat}:(p:Pt)->(fx:jB)->(c:Option AV)->(n:Nat)->(D:List cr)->(fill nm p fx c n D).X.map (·.2)=kq (eQ (fill nm p fx c n D).R)
 | .int _,_,_,_,_|.bool,_,_,_,_|.str,_,_,_,_|.sli _,_,_,_,_|.slr _,_,_,_,_|.ptr _ _,_,_,_,_|.it,_,_,_,_|.nU _,_,_,_,_|.ifn,_,_,_,_|.sfp,_,_,_,_|.same,_,_,_,_=>rfl
 | .own t e m,fx,c,n,D=>by cases m <;> rfl
 | .mp k v m,fx,c,n,D=>by cases m <;> rfl
 | .bx t off m vs,fx,c,n,D=>by
  unfold fill;have h:=wN (nm:=nm) vs [] (Li fx) (n+1) D;generalize fA nm vs [] (Li fx) (n+1) D=L at h;obtain ⟨cs,R,k,g,d⟩:=L;have q:d.map (·.2)=kq (eQ R):=h;cases m
  .exact q
  .show Z1 (JO nm fx n) vs cs::d.map (·.2)=Z1 (JO nm fx n) vs cs::kq (eQ R);rw [q]
 | .agg l,fx,c,n,D=>by
  unfold fill;have h:=wN (nm:=nm) l (jj fx) [] n D;generalize fA nm l (jj fx) [] n D=L at h;obtain ⟨cs,R,k,g,d⟩:=L;exact h
 | .cU l,fx,c,n,D=>by
  unfold fill;have h:=wN (nm:=nm) l [] [] n D;generalize fA nm l [] [] n D=L at h;obtain ⟨cs,R,k,g,d⟩:=L;exact h
 | .fn f a b,fx,c,n,D=>by
  unfold fill;have h:=wN (nm:=nm) a [] [] n D;generalize fA nm a [] [] n D=L at h;obtain ⟨cs,R,k,g,d⟩:=L;dsimp only;have j:=wN (nm:=nm) b (jj fx) [] k g;generalize fA nm b (jj fx) [] k g=L at j;obtain ⟨s,r,x,u,i⟩:=L;show (d++i).map (·.2)=kq (eQ (R++r));rw [rJ,BE,Dy,show d.map (·.2)=kq (eQ R) from h,show i.map (·.2)=kq (eQ r) from j]
 | .ifc t p,fx,c,n,D=>by
  unfold fill;have h:=aea (nm:=nm) p (tn p (jj fx)) none n D;generalize fill nm p (tn p (jj fx)) none n D=L at h;obtain ⟨v,R,k,g,d⟩:=L;exact h
 | .dat t o,fx,c,n,D=>by unfold fill;have h:=WU (nm:=nm) t (iS t D) n o;generalize jn nm t (iS t D) n o=L at h;obtain ⟨cs,R,k,w⟩:=L;exact h.symm
theorem wN{nm:Nat->Nat}:(l:List Pt)->(b a:List AV)->(n:Nat)->(D:List cr)->(fA nm l b a n D).X.map (·.2)=kq (eQ (fA nm l b a n D).R)
 |[],_,_,_,_=>rfl
 |p::l,b,a,n,D=>by unfold fA;have h:=aea (nm:=nm) p (tn p b) a.head? n D;generalize fill nm p (tn p b) a.head? n D=L at h;obtain ⟨cs,R,k,g,e⟩:=L;dsimp only;have d:=wN (nm:=nm) l b.tail a.tail k g;generalize fA nm l b.tail a.tail k g=L at d;obtain ⟨i,f,m,j,c⟩:=L;show (e++c).map (·.2)=kq (eQ (R++f));rw [rJ,BE,Dy,show e.map (·.2)=kq (eQ R) from h,show c.map (·.2)=kq (eQ f) from d]
end
theorem aad{ρ ρ':ay}:{X:List (Nat×List AV)}->{C:List (List AV)}->C.map (AV.al ρ')=X.map (λx=>AV.al ρ x.2)->fw ρ' (aae X C)=fw ρ X
 |[],[],_=>rfl
 |[],_::_,h=>by cases h
 |_::_,[],h=>by cases h
 |x::X,cs::C,h=>by simp only [e9,qa] at h;show (x.1,AV.al ρ' cs)::fw ρ' (aae X C)=(x.1,AV.al ρ x.2)::fw ρ X;rw [h.1,aad h.2]
section
variable {w : World} {ρ : ay}
theorem Sat.arL{A B:Ctx}{x:Item}(h:Sat (A++B) w)(hx:x.own=[]/\∀M w,x.P M w):Sat (A++x::B) w:=by
 refine h.CZ (λj k=>(j<A.length/\k=j)\/(A.length<j/\k+1=j)) (λj b a=>?_) (λj k q c g f=>by omega);by_cases e:j<A.length
 .rw [ec e] at a;exact .inr ⟨j,b,.inl ⟨e,rfl⟩,by rw [ec e];exact a,bX.refl⟩
 .rw [de (by omega)] at a;by_cases d:j=A.length
  .subst d;simp at a;subst a;exact .inl hx
  .refine .inr ⟨j-1,b,.inr ⟨by omega,by omega⟩,?_,bX.refl⟩;rw [de (by omega)];have:j-A.length=(j-1-A.length)+1:=by omega
   rw [this,hU] at a;exact a
theorem Sat.nc{A B:Ctx}(h:Sat (A++B) w):∀(L:List Item),(∀it∈L,it.cO=true/\∀M w,it.P M w)->Sat (A++(L++B)) w
 |[],_=>h
 |x::L,hL=>(Sat.nc h L (λit bI=>hL it (cp _ bI))).arL ⟨x.hp (hL x (c8 ..)).1,(hL x (c8 ..)).2⟩
theorem XQ{Φ:Ctx}{T:aB}:∀{R:List (Bool×Row)} {A:Ctx},Sat (A++(ab ρ T (R.map (·.2))++Φ)) w->Sat (A++(ab ρ T (eQ R)++(ab ρ T (n5 R)++Φ))) w
 |[],_,h=>h
 |x::R,A,h=>by
  have c:Sat ((A++[x.2.item ρ T])++(ab ρ T (R.map (·.2))++Φ)) w:=by simpa [ab] using h
  have a:=XQ c;unfold eQ n5;cases x.1
  .have b:Sat (A++x.2.item ρ T::(ab ρ T (eQ R)++(ab ρ T (n5 R)++Φ))) w:=by simpa using a
   exact b.move
  .simpa [ab] using a
theorem OD{Φ:Ctx}{T:aB}:∀{R:List (Bool×Row)} {I:gf} {A:Ctx},gB (RwI ρ T) R I->Sat (A++(ab ρ T (n5 R)++Φ)) w->Sat (A++(iI I++Φ)) w
 |_,_,_,.nil,h=>h
 |_,_,A,.cons (a:=a) (b:=b) (l:=l) (m:=m) h1 hr,h=>by
  unfold n5 at h;show Sat (A++(aD b.1 jH b.2)::(iI m++Φ)) w;rw [<-h1.1];cases ha:a.1
  .rw [ha] at h;have e:Sat (A++b.2::(ab ρ T (n5 l)++Φ)) w:=by have c:Sat (A++a.2.item ρ T::(ab ρ T (n5 l)++Φ)) w:=h;exact c.Hl h1.2.2
   have d:Sat ((A++[b.2])++(ab ρ T (n5 l)++Φ)) w:=by simpa using e
   have:=OD hr d;simpa using this
  .rw [ha] at h;have c:Sat (A++(ab ρ T (n5 l)++Φ)) w:=h;exact (OD hr c).arL ⟨rfl,λ_ _=>trivial⟩
theorem acr{c:Nat}:{R:List (Bool×Row)}->bD c (R.map (·.2))=true->bD c (eQ R)=true/\bD c (n5 R)=true
 |[],_=>⟨rfl,rfl⟩
 |x::R,h=>by
  simp only [e9,bD,au] at h;obtain ⟨b,a⟩:=acr h.2;unfold eQ n5;cases x.1
  .exact ⟨b,by show bD c (x.2::n5 R)=true;simp only [bD,au];exact ⟨h.1,a⟩⟩
  .exact ⟨by show bD c (x.2::eQ R)=true;simp only [bD,au];exact ⟨h.1,b⟩,a⟩
theorem ai9{N:List Nm}:∀{M:List Nm} {k:Nat},(∀i a,M[i]? =some a->ρ (k+i)=a)->NB ρ (idB M.length k) M
 |[],_,_=> .nil
 |a::M,k,h=> .cons (by
   have:=h 0 a rfl;rw [Nat.add_zero] at this;exact ⟨by rw [this],by rw [this],by rw [this]⟩) (ai9 (N:=N) λi b hb=>by
   have:=h (i+1) b (by simpa using hb);rw [<-this];congr 1;omega)
end
section
variable {X : Cx} {fr : Fr} {st : aC} {ρ : ay} {Φ : Ctx} {w : World}
theorem ao3(j:Sat (ab ρ [] st.G++(ab ρ [] fr.H++Φ)) w){r:ResultVar}{v:AV}(h:Kf X fr st r=some v):nS X.P (az ρ [] st.E fr.F) w r (v.val ρ):=by
 cases r with
 |tmp t=>exact nS.t (Ig h)
 |cell p t=>
  unfold Kf at h;dsimp only at h;split at h
  .rename_i u i;split at h
   .rename_i cs b;obtain ⟨y,s,f⟩:=Nl j b aB.get_none;have hl:=Ig (ρ:=ρ) i;rw [s] at hl;have o:od X.P t (cs.drop 0)=some v:=by simpa using h
    obtain ⟨d,n,bytes,z,c1,x,e⟩:=sE (ρ:=ρ) o;cases hd:nD d
    .rw [hd] at e;simp only [eT,qn] at e;exact nS.c1 hl c1 hd f e
    .unfold od at h;rw [c1] at h;rcases eo h with ⟨_,c⟩|⟨g,_⟩
     .split at c
      next q k=>obtain ⟨n,bytes,z⟩:=q;obtain ⟨m,l⟩:=aI c;cases l;have a:n<=cs.length:=ei m;simp only [AV.val];refine nS.cA hl c1 hd (cT k) (vs:=AV.al ρ (cs.take n)) ?_ (by rw [AV.bF,dq,iQ a]);have:=f.sub (us:=AV.al ρ (cs.take n)) 0 (by rw [AV.mK,n9,dq,AV.bF,iQ a]);simpa [Addr.add] using this
      .cases c
     .rw [hd] at g;cases g
   .cases h
  .cases h
theorem anH{rs:List AV}:(if h:(AV.al ρ rs).length=1 then (AV.al ρ rs)[0] else .tuple (AV.al ρ rs).toArray)=(Is rs).val ρ:=by
 match rs with
 |[]=>simp [Is,AV.al,AV.val]
 |[v]=>simp [Is,AV.al]
 |u::v::l=>simp [Is,AV.al,AV.val]
theorem aj4{fn:Func}{S:Value->World->Prop}{Sp:xa->World->Prop}{rs:List AV}(k:Sat (ab ρ [] st.G++(ab ρ [] fr.H++Φ)) w)(h:yi (Kf X fr st) fn.results.toList=some rs)(hS:S ((Is rs).val ρ) w):
  At (BP X.P fn S Sp) .ret fr.n [] (az ρ [] st.E fr.F) w:=by
 have c:∀{α β:Type} {f:α->Option β} {l:List α} {ys:List β},yi f l=some ys->l.length=ys.length:=λ{α β f l}=>by
  induction l with
  |nil=>intro ys h;cases h;rfl
  |cons x l ih=>
   intro ys h;unfold yi at h;split at h
   .split at h
    next zs e=>cases h;simp [ih e]
    .cases h
   .cases h
 have b:∀{l:List ResultVar} {ys:List AV},yi (Kf X fr st) l=some ys->yi (λr=>(Kf X fr st r).map (AV.val ρ)) l=some (AV.al ρ ys):=λ{l}=>by
  induction l with
  |nil=>intro ys h;cases h;simp [yi,AV.al]
  |cons x l ih=>
   intro ys h;unfold yi at h ⊢;split at h
   .rename_i y j;split at h
    next zs e=>cases h;rw [j,ih e];simp [AV.al]
    .cases h
   .cases h
 refine afU (vs:=AV.al ρ rs) (by rw [AV.bF];exact c h) (λa m=>UU (g:=λr=>(Kf X fr st r).map (AV.val ρ)) (λr v d=>?_) (b h)) anH hS;cases i:Kf X fr st r with
 |none=>rw [i] at d;cases d
 |some u=>
  rw [i] at d;cases d;exact (ao3 k i).run m
end
theorem aeF{R:Type}{X:Cx}{h:HT}{fn:Func}{f:FuncId}{ps:List Pt}{KF:List AV->List Row->Nat->List (Nat×List AV)->XE->aC->Option R}{s:fS (sG ps)}{r:R}{S:Value->World->Prop}{Sp:xa->World->Prop}
  (Y:X.P.funcs[f]? =some fn) (O:∀e∈tb,e.Ok X.P X.Γ) (K:∀e∈tp,e.Ok X.P X.Γ) (M:∀c∈tc,c.Ok X.P) (hd:afY X tb tp tc h fn ps KF s=some r) {d:zc} {N:List Nm} {I:gf} {XX:lT} {Φ:Ctx} {w:World}
  (hS:yA ps d [] [] [] (jb _ s) I XX N) (m:Sat (dH I++Φ) w) (J:∀it∈X.Γ,it∈Φ)
  (fin:∀(x:XE) (vs:List AV) (H:List Row) (z:List (Nat×List AV)) (st:aC) (ρ:ay) (w':World),KF vs H N.length z x st=some r->Sat (ab ρ [] st.G++(ab ρ [] (hx x ⟨[],H,fn.ntmps⟩)++Φ)) w'->NB ρ (idB N.length 0) N->AV.al ρ vs=d->fw ρ z=XX->
   (∀{A:Ctx} {F:World},Sat (A++(ab ρ [] H++Φ)) F->Sat (A++(iI I++Φ)) F)->Ox (BP X.P fn S Sp) x ρ fn.ntmps [] (az ρ [] st.E []) w'):o8 X.P f d w S Sp:=by
 -- names of the arguments
 have o:yn (λ(i:Nat)=>(N[i]?).getD dA) id 0 N:=λi a ha=>by simp only [id,ha,qG];exact ⟨trivial,trivial,trivial,λ_=>trivial⟩
 have p:∀(i:Nat) a,N[i]? =some a->(λ(i:Nat)=>(N[i]?).getD dA) (0+i)=a:=λi a ha=>by simp only [mN,ha,qG]
 generalize (λ(i:Nat)=>(N[i]?).getD dA)=ρ at o p;obtain ⟨u,y,f3,v,t⟩:=wR (T:=[]) (nm:=id) ps d [] [] [] (jb _ s) I XX N (by simpa only [AV.al] using hS) o (pF _) [];have Z:=wN (nm:=id) ps [] [] 0 (jb _ s);simp only [ko,qf] at u y f3 v t;unfold afY at hd;generalize fA id ps [] [] 0 (jb _ s)=L at u y f3 v t Z hd;obtain ⟨vs,R,n,DD,z⟩:=L;simp only at u y f3 v t Z;dsimp only at hd;subst y;generalize hL:pc (NW (eQ R)) N.length (eQ R)=L at hd;obtain ⟨G,D,c⟩:=L;dsimp only at hd;split at hd
 .cases hd
 rename_i body j;obtain ⟨h1,h2⟩:=aI hd;simp only [au] at h1;obtain ⟨⟨h3,h4⟩,h5⟩:=h1;obtain ⟨l1,l2⟩:=acr h5;obtain ⟨b,g⟩:=Ls (ids:=NW (eQ R)) (ρ:=ρ) l1;rw [hL] at g;have hc:N.length<=c:=g.le;have V:Sat (ab ρ [] (R.map (·.2))++Φ) w:=Sat.leL (A:=[]) (B:=dH I) (C:=Φ) m t.rw;have U:=XQ (A:=[]) V;have e1:ab b [] G=ab ρ [] (eQ R):=g.eq;have Q:Sat (ab b [] G++(ab b [] (D++n5 R)++Φ)) w:=by
  rw [e1,bg,ba g.ag l2,cx];exact Sat.nc (A:=ab ρ [] (eQ R)) (B:=ab ρ [] (n5 R)++Φ) U (ab b [] D) (λit bI=>by obtain ⟨q,hq,rfl⟩:=List.mem_map.1 bI;exact g.rp q hq)
 have l:AV.al b vs=d:=by rw [AV.cd g.ag _ h4,u]
 refine nB Y j rfl (by rw [<-l,AV.bF];exact h3) ?_;have hE:az b [] (ra 0 vs) []=iota 0 d:=by show aF.env b [] (ra 0 vs)++[]=_;rw [Fw,l,ko]
 rw [<-hE];refine apW (fr:=⟨[],D++n5 R,fn.ntmps⟩) (st:=⟨c,ra 0 vs,G,h⟩) J O K M body Q h2 (λx st' ρ' w' a1 a2 a3 a4=>?_);have k:aS N.length ρ ρ':=g.ag.trans (a1.less hc) (cK _);refine fin x vs (D++n5 R) (aae z (kq G)) st' ρ' w' a3 a4 (ai9 (N:=N) (λi a ha=>by
   have hi:i<N.length:=(List.getElem?_eq_some_iff.1 ha).1;rw [k _ (by omega)];exact p i a ha)) (by rw [AV.cd k _ h4,u]) ?_ (λ{A F} hw=>?_)
 .rw [v];refine aad ?_;have g1:(kq G).map (AV.al ρ')=(kq G).map (AV.al b):=N7 a1 g.lw;have g2:(kq G).map (AV.al b)=(kq (eQ R)).map (AV.al ρ):=g.bx;rw [g1,g2,<-Z,List.map_map];rfl
 .rw [bg,cx] at hw;have p4:=hw.Um;have W:ab ρ' [] (n5 R)=ab ρ [] (n5 R):=ba k l2;rw [W] at p4;exact OD t p4
theorem OR{X:Cx}{e:aA}{fn:Func}{S:Value->World->Prop}{Sp:xa->World->Prop}{q:fS (rT e.r++jo e.os)}{a:zc}{N:List Nm}{I:gf}{u:lT}{Φ:Ctx}{vs:List AV}{H:List Row}{f:List (Nat×List AV)}{st:aC}{ρ:ay}{w':World}
  (hk:ahr X e fn ⟨[],H,fn.ntmps⟩ N.length (λ(i:Nat)=>vs[i]?) (Ax e.ps vs f) st=some q) (z:Sat (ab ρ [] st.G++(ab ρ [] H++Φ)) w') (t:NB ρ (idB N.length 0) N) (b:AV.al ρ vs=a) (T:fw ρ f=u)
  (c:∀{A:Ctx} {w:World},Sat (A++(ab ρ [] H++Φ)) w->Sat (A++(iI I++Φ)) w)
  (s:∀v w',(∃(h N2:List Nm) (F C:List cr) (k j:gf) (V U:lT),Sem e.r v none none N F k V h/\H2 (SD e.ps a u) (λ(i:Nat)=>a[i]?) e.os h C j U N2/\F++C=jb _ q/\Sat ((dH k++dH j)++(iI I++Φ)) w')->S v w'):
  At (BP X.P fn S Sp) .ret fn.ntmps [] (az ρ [] st.E []) w':=by
 unfold ahr at hk;split at hk
 .rename_i rs m;refine aj4 (fr:=⟨[],H,fn.ntmps⟩) z m (s _ _ ?_);generalize Is rs=v at hk;have d:=lQ (ids:=yf st.G H e.r v++S9 st.G H (λ(i:Nat)=>vs[i]?) (Ax e.ps vs f) e.os) z;change Sat (ab ρ [] (alg e ⟨[],H,fn.ntmps⟩ st v (λ(i:Nat)=>vs[i]?) (Ax e.ps vs f))++_) w' at d;generalize alg e ⟨[],H,fn.ntmps⟩ st v (λ(i:Nat)=>vs[i]?) (Ax e.ps vs f)=Y at hk d;unfold arC at hk;split at hk
  .rename_i l n;split at hk
   .rename_i y o;obtain ⟨k1,Q⟩:=aI hk;simp only [au] at k1;obtain ⟨h,k,J,n1,L⟩:=Pc d e.r v none none _ l N n t (λq R=>by cases R);obtain ⟨N2,j,x,W,K⟩:=Vg d e.os l.B y h o n1;have p:(λi=>iK ρ (Ax e.ps vs f i))=SD e.ps a u:=by
     funext i
     rw [<-adS,b,T]
    have g:(λ(i:Nat)=>(vs[i]?).map (AV.val ρ))=λ(i:Nat)=>a[i]? :=by
     funext i
     rw [<-b,VY]
    rw [p,g] at x;obtain ⟨p1,_⟩:=OU d (L.append K);obtain ⟨p2,_⟩:=Bm d p1 (Bi k1.1);rw [Fz k1.2] at p2;have O:=p2.Um;have M:=c O;refine ⟨h,N2,l.D,y.D,k,j,_,_,J,x,(DQ _ Q).symm,?_⟩;simpa [dH] using M
   .cases hk
  .cases hk
 .cases hk
theorem asq{X:Cx}{h:HT}{fn:Func}{e:aA}(q:Enters X.P e.f)(p:X.P.funcs[e.f]? =some fn)(o:∀e∈tb,e.Ok X.P X.Γ)(k:∀e∈tp,e.Ok X.P X.Γ)(n:∀c∈tc,c.Ok X.P)(hm:∀s r,e.m s=some r->acE X tb tp tc h fn e s=some r):e.Ok X.P X.Γ:=by
 refine ⟨q,λs r z y N I A Φ w hS d j=>?_⟩;refine aeF p o k n (hm s r z) hS d j (λx vs H B st ρ w' hk u g b t a=>?_);cases x with
 |nrm=>exact OR hk u g b t a (λ_ _ h=>h)
 |ret=>exact OR hk u g b t a (λ_ _ h=>h)
 |ext i=>cases hk
 |gto l=>cases hk
 |kh v=>cases hk
 |panE v=>cases hk
 |panL v=>cases hk
theorem ao7{X:Cx}{h:HT}{fn:Func}{e:bY}(Q:Enters X.P e.f)(O:X.P.funcs[e.f]? =some fn)(L:∀e∈tb,e.Ok X.P X.Γ)(J:∀e∈tp,e.Ok X.P X.Γ)(K:∀c∈tc,c.Ok X.P)(hm:∀s r,e.m s=some r->amm X tb tp tc h fn e s=some r):e.Ok X.P X.Γ:=by
 refine ⟨Q,λs r Y S N I Z Φ w hS B F=>?_⟩;refine aeF O L J K (hm s r Y) hS B F (λx vs H XA st ρ w' hk t C z R b=>?_);have two:∀(v:AV) (H:List Row) (E:Ctx),Sat (ab ρ [] st.G++(ab ρ [] H++Φ)) w'->(∀{A:Ctx},Sat (A++(ab ρ [] H++Φ)) w'->Sat (A++(E++Φ)) w')->∀(pp:Pt) (pq:Option Pt) (p:S6 pp pq),FZ pp pq ⟨[],H,fn.ntmps⟩ v st=some p->∃(g:List Nm) (d:gf) (n:lT),alV pp pq p (v.val ρ) d n g/\Sat (dH d++(E++Φ)) w':=λv H E t b pp pq p hp=>by
  have one:∀(pp:Pt) (p:fS (rT pp)),O5 pp ⟨[],H,fn.ntmps⟩ v st=some p->∃(g:List Nm) (d:gf) (n:lT),Sem pp (v.val ρ) none none [] (jb _ p) d n g/\Sat (dH d++(E++Φ)) w':=λpp p hp=>by
   unfold O5 at hp;have D:=lQ (ids:=yf st.G H pp v) t;generalize cB (yf st.G H pp v) st.G=G' at hp D;split at hp
   next V M=>obtain ⟨k1,W⟩:=aI hp;simp only [au] at k1;obtain ⟨g,d,o,n1,T⟩:=Pc D pp v none none _ V [] M .nil (λq j=>by cases j);obtain ⟨p1,_⟩:=OU D T;obtain ⟨p2,_⟩:=Bm D p1 (Bi k1.1);rw [Fz k1.2] at p2;have U:=b p2.Um;rw [<-DQ _ W] at o;exact ⟨g,d,_,o,by simpa [dH] using U⟩
   .cases hp
  cases pq with
  |none=>exact one pp p hp
  |some q=>
   simp only [FZ] at hp;split at hp
   next x hx=>cases hp;exact one pp x hx
   .cases j:O5 q ⟨[],H,fn.ntmps⟩ v st with
    |none=>rw [j] at hp;cases hp
    |some x=>
     rw [j] at hp;cases hp;exact one q x j
 have y:∀{A:Ctx},Sat (A++(iI I++Φ)) w'->Sat (A++(aD e.lp [] (iI I)++Φ)) w':=λh=>by
  cases e.lp
  .exact h
  .exact Sat.NJ h
 cases x with
 |nrm=>
  obtain ⟨x,q,j,rfl,hi⟩:=aaS hk;exact OR j t C z R b (λ_ _ h=>⟨x,q,rfl,hi,h⟩)
 |ret=>
  obtain ⟨x,q,j,rfl,hi⟩:=aaS hk;exact OR j t C z R b (λ_ _ h=>⟨x,q,rfl,hi,h⟩)
 |ext i=>cases hk
 |gto l=>cases hk
 |kh v=>
  have a:(FZ e.pp e.pq ⟨[],H,fn.ntmps⟩ v st).map Except.error=some r:=hk;cases hp:FZ e.pp e.pq ⟨[],H,fn.ntmps⟩ v st with
  |none=>rw [hp] at a;cases a
  |some p=>
   rw [hp] at a;cases a;obtain ⟨g,d,n,o,u⟩:=two v H (iI I) t b e.pp e.pq p hp;exact ahR ⟨p,rfl,v.val ρ,g,d,n,rfl,o,y u⟩
 |panE v=>
  have a:(FZ e.pp e.pq ⟨[],H,fn.ntmps⟩ v st).map Except.error=some r:=hk;cases hp:FZ e.pp e.pq ⟨[],H,fn.ntmps⟩ v st with
  |none=>rw [hp] at a;cases a
  |some p=>
   rw [hp] at a;cases a;obtain ⟨g,d,n,o,u⟩:=two v H (iI I) t b e.pp e.pq p hp;exact (ahR ⟨p,rfl,v.val ρ,g,d,n,rfl,o,y u⟩:EH _ _ [] _).at
 |panL v=>
  have a:(aD (e.lp||QG H) (FZ e.pp e.pq ⟨[],dB H,fn.ntmps⟩ v st) none).map Except.error=some r:=hk;cases k:e.lp||QG H with
  |false=>rw [k] at a;cases a
  |true=>
   rw [k] at a;replace a:(FZ e.pp e.pq ⟨[],dB H,fn.ntmps⟩ v st).map Except.error=some r:=a;cases hp:FZ e.pp e.pq ⟨[],dB H,fn.ntmps⟩ v st with
   |none=>rw [hp] at a;cases a
   |some p=>
    rw [hp] at a;cases a;obtain ⟨g,d,n,o,u⟩:=two v (dB H) (aD e.lp [] (iI I)) t (λh=>by
     cases hl:e.lp
     .rw [hl,mE] at k;rw [Vw k] at h;exact b h
     .exact Sat.NJ h) e.pp e.pq p hp
    exact (ahR ⟨p,rfl,v.val ρ,g,d,n,rfl,o,u⟩:EH _ _ [] _).at
theorem ot{X:Cx}{A B:Type}{E:(A->Option B)->aA}{F:(A->Option B)->A->Option B}(a:(E λ_=>none).Ok X.P X.Γ)(step:∀k,(E k).Ok X.P X.Γ->(E (F k)).Ok X.P X.Γ):∀n,(E (aj F n)).Ok X.P X.Γ
 |0=>a
 |n+1=>step _ (ot a step n)
theorem aa9{X:Cx}{A B:Type}{E:(A->Option B)->bY}{F:(A->Option B)->A->Option B}(a:(E λ_=>none).Ok X.P X.Γ)(step:∀k,(E k).Ok X.P X.Γ->(E (F k)).Ok X.P X.Γ):∀n,(E (aj F n)).Ok X.P X.Γ
 |0=>a
 |n+1=>step _ (aa9 a step n)
theorem eD{X:Cx}{fn:Func}{e:aA}(h:HT)(i:Enters X.P e.f)(g:X.P.funcs[e.f]? =some fn)(d:∀e∈tb,e.Ok X.P X.Γ)(a:∀e∈tp,e.Ok X.P X.Γ)(b:∀c∈tc,c.Ok X.P)(eq:∀s,acE X tb tp tc h fn e s=e.m s):e.Ok X.P X.Γ:=
 asq i g d a b λs _ j=>(eq s).trans j
theorem M1{X:Cx}{fn:Func}{e:bY}(h:HT)(i:Enters X.P e.f)(g:X.P.funcs[e.f]? =some fn)(d:∀e∈tb,e.Ok X.P X.Γ)(a:∀e∈tp,e.Ok X.P X.Γ)(b:∀c∈tc,c.Ok X.P)(eq:∀s,amm X tb tp tc h fn e s=e.m s):e.Ok X.P X.Γ:=
 ao7 i g d a b λs _ j=>(eq s).trans j
theorem ax{E:Type}{p:E->Prop}:∀e∈([]:List E),p e:=λ_ h=>by cases h
theorem aw{E:Type}{p:E->Prop}{x:E}{l:List E}(hx:p x)(hl:∀e∈l,p e):∀e∈x::l,p e:=λe a=>by
 rcases List.mem_cons.1 a with rfl|a
 .exact hx
 .exact hl e a
def aaM(x:Int):Bool:=decide (-9223372036854775808<=x)&&decide (x<=9223372036854775807)
theorem abz{x:Int}:aaM x=true↔ -9223372036854775808<=x/\x<=9223372036854775807:=by simp [aaM]
end Go.Proofs.YtcgihjbfppkcfaaGreatDoor
