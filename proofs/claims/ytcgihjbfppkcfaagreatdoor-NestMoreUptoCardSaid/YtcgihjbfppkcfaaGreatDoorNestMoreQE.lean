/- Own texts for NestMoreQ, cut and joined by a program. -/
import Derived.Test.YtcgihjbfppkcfaaGreatDoorNestMoreQD
import Derived.Lib.ItoaNum
set_option linter.all false
namespace Go.Proofs.YtcgihjbfppkcfaaGreatDoor
variable {tb : List aA} {tc : List pL} {tp : List bZ}
open Go.Lib
def eP:List (Bool×Row)->List Row
 |[]=>[]
 |x::R=>aD x.1 (x.2::eP R) (eP R)
def nU:List (Bool×Row)->List Row
 |[]=>[]
 |x::R=>aD x.1 (nU R) (x.2::nU R)
def NW:List Row->zl
 |[]=>[]
 |r::G=>(match r with
  | .box j _ _=>j::NW G
  |_=>NW G)
def idB:Nat->Nat->w4
 |0,_=>[]
 |n+1,k=>some k::idB n (k+1)
def ZS:List (Nat×List AV)->List (List AV)->List (Nat×List AV)
 |x::X,cs::C=>(x.1,cs)::ZS X C
 |_,_=>[]
def J1(X:Cx)(fr:Fr)(st:aC):ResultVar->Option AV
 | .tmp t=>BN st.E fr.F t
 | .cell p t=>(match BN st.E fr.F p with
  |some v=>(match BQ [] st.G fr.H none v with
   |some cs=>n3 X.P t cs
   |none=>none)
  |none=>none)
def HA(vs:List AV):AV:=match vs with
 |[v]=>v
 |vs=> .tuple vs
def akM(e:aA)(fr:Fr)(st:aC)(v:AV)(fix0:Nat->Option AV)(fix:Nat->jx):List Row:=cB (ya st.G fr.H e.r v++Uw st.G fr.H fix0 fix e.os) st.G
def ari(e:aA)(fr:Fr)(n:Nat)(G:List Row)(v:AV)(fix0:Nat->Option AV)(fix:Nat->jx):Option (fQ (rR e.r++jH e.os)):=match mt G fr.H e.r v none none (idB n 0) with
 |some mr=>(match mtV G fr.H fix0 fix e.os mr.B with
  |some mq=>aD (HN ((mr.S++mq.S).map λx=>dH G fr.H x.2)&&Qm G.length ((mr.S++mq.S).map λx=>dH G fr.H x.2)) (cU _ (mr.D++mq.D)) none
  |none=>none)
 |none=>none
def afJ(X:Cx)(e:aA)(fn:Func)(fr:Fr)(n:Nat)(fix0:Nat->Option AV)(fix:Nat->jx)(st:aC):Option (fQ (rR e.r++jH e.os)):=match yS (J1 X fr st) fn.results.toList with
 |some rs=>ari e fr n (akM e fr st (HA rs) fix0 fix) (HA rs) fix0 fix
 |none=>none
abbrev atv{R:Type}(K:aC->Option R):XE->aC->Option R
 | .nrm,st=>K st
 | .ret,st=>K st
 |_,_=>none
noncomputable def agh{R:Type}(X:Cx)(tb:List aA)(tp:List bZ)(tc:List pL)(h:HT)(fn:Func)(ps:List Pt)(KF:List AV->List Row->Nat->List (Nat×List AV)->XE->aC->Option R)(s:fQ (rZ ps)):Option R:=
 match fz id ps [] [] 0 (jc _ s) with
 |⟨vs,R,n,_,XA⟩=>match oX (NW (eP R)) n (eP R) with
  |(G,Q,c)=>match fn.body with
   |none=>none
   |some body=>aD (Nat.ble vs.length fn.ntmps&&AV.cn n vs&&bD n (R.map (·.2))) (
    ahB X tb tp tc body ⟨[],Q++nU R,fn.ntmps⟩ (KF vs (Q++nU R) n (ZS XA (j9 G))) ⟨c,rB 0 vs,G,h⟩) none
noncomputable def Zt(X:Cx)(tb:List aA)(tp:List bZ)(tc:List pL)(h:HT)(fn:Func)(e:aA)(s:fQ (rZ e.ps)):Option (fQ (rR e.r++jH e.os)):=
 agh X tb tp tc h fn e.ps (λvs H n XX=>atv (afJ X e fn ⟨[],H,fn.ntmps⟩ n (λ(i:Nat)=>vs[i]?) (Ap e.ps vs XX))) s
def OV(pp:Pt)(fr:Fr)(v:AV)(st:aC):Option (fQ (rR pp)):=match mt (cB (ya st.G fr.H pp v) st.G) fr.H pp v none none [] with
 |some mr=>aD (HN (mr.S.map λx=>dH (cB (ya st.G fr.H pp v) st.G) fr.H x.2)&&Qm (cB (ya st.G fr.H pp v) st.G).length (mr.S.map λx=>dH (cB (ya st.G fr.H pp v) st.G) fr.H x.2)) (cU _ mr.D) none
 |none=>none
abbrev Ep(pp:Pt):(pq:Option Pt)->(fr:Fr)->(v:AV)->(st:aC)->Option (SW pp pq)
 |none,fr,v,st=>OV pp fr v st
 |some q,fr,v,st=>match OV pp fr v st with
  |some x=>some (.inl x)
  |none=>(OV q fr v st).map .inr
abbrev inT{B:Type}:(nv:Bool)->(r:Pt)->(os:List (Bool×Nat×Pt))->Option (fQ (rR r++jH os))->Option (Except B (vu nv r os))
 |true,_,_,_=>none
 |false,_,_,o=>o.map .ok
theorem aaA{B:Type}:{nv:Bool}->{r:Pt}->{os:List (Bool×Nat×Pt)}->{o:Option (fQ (rR r++jH os))}->{z:Except B (vu nv r os)}->inT nv r os o=some z->∃x q,o=some q/\z= .ok x/\isOk nv r os x q
 |true,_,_,_,_,h=>by cases h
 |false,_,_,none,_,h=>by cases h
 |false,_,_,some q,_,h=>by cases h;exact ⟨q,q,rfl,rfl,rfl⟩
abbrev atP{B:Type}(nv:Bool)(r:Pt)(os:List (Bool×Nat×Pt))(K:aC->Option (fQ (rR r++jH os)))(KP KL:AV->aC->Option B):XE->aC->Option (Except B (vu nv r os))
 | .nrm,st=>inT nv r os (K st)
 | .ret,st=>inT nv r os (K st)
 | .kg v,st=>(KP v st).map .error
 | .panE v,st=>(KP v st).map .error
 | .panL v,st=>(KL v st).map .error
 |_,_=>none
noncomputable def akO(X:Cx)(tb:List aA)(tp:List bZ)(tc:List pL)(h:HT)(fn:Func)(e:bZ)(s:fQ (rZ e.ps)):Option (Except (SW e.pp e.pq) (vu e.nv e.r e.os)):=
 agh X tb tp tc h fn e.ps (λvs H n XX=>atP e.nv e.r e.os (afJ X e.oe fn ⟨[],H,fn.ntmps⟩ n (λ(i:Nat)=>vs[i]?) (Ap e.ps vs XX)) (Ep e.pp e.pq ⟨[],H,fn.ntmps⟩) (λv st=>aD (e.lp||RW H) (Ep e.pp e.pq ⟨[],dA H,fn.ntmps⟩ v st) none)) s
theorem DA:{G H:List Row}->j9 (G++H)=j9 G++j9 H
 |[],_=>rfl
 |r::G,H=>by cases r <;> simp only [qa,j9,DA]
theorem Bw:{R S:List (Bool×Row)}->eP (R++S)=eP R++eP S
 |[],_=>rfl
 |x::R,S=>by have e:∀Q,eP (x::Q)=aD x.1 (x.2::eP Q) (eP Q):=λ_=>rfl;rw [qa,e,e,Bw];cases x.1 <;> rfl
theorem V4{nm:Nat->Nat}:(t:Ty)->(x:t.T)->(n:Nat)->(o:wb)->j9 (eP (jl nm t x n o).R)=[]
 | .i _,_,_,_|.bo,_,_,_|.s,_,_,_|.un,_,_,_|.n,_,_,_|.mp _ _,_,_,_=>rfl
 | .p a b,x,n,o=>by
  unfold jl;have f:=V4 (nm:=nm) a x.1 n o;generalize jl nm a x.1 n o=L at f;obtain ⟨u,p,n1,c⟩:=L;dsimp only;have d:=V4 (nm:=nm) b x.2 n1 c;generalize jl nm b x.2 n1 c=L at d;obtain ⟨g,p2,j,h⟩:=L;show j9 (eP (p++p2))=[];rw [Bw,DA,show j9 (eP p)=[] from f,show j9 (eP p2)=[] from d];rfl
 | .l t,x,n,o=>by
  unfold jl;split <;> first|rfl|(rename_i e _;show j9 (eP [(ow e,_)])=[];unfold eP;cases ow e <;> rfl)
 | .ex,x,n,o=>by unfold jl;split <;> first|rfl|(rename_i e _;show j9 (eP [(ow e,_)])=[];unfold eP;cases ow e <;> rfl)
mutual
theorem aeH{nm:Nat->Nat}:(p:Pt)->(fx:jx)->(c:Option AV)->(n:Nat)->(D:List cq)->(fill nm p fx c n D).X.map (·.2)=j9 (eP (fill nm p fx c n D).R)
 | .int _,_,_,_,_|.bool,_,_,_,_|.str,_,_,_,_|.sli _,_,_,_,_|.slr _,_,_,_,_|.ptr _ _,_,_,_,_|.it,_,_,_,_|.nT _,_,_,_,_|.ifn,_,_,_,_|.sfp,_,_,_,_|.same,_,_,_,_=>rfl
 | .own t e m,fx,c,n,D=>by cases m <;> rfl
 | .mp k v m,fx,c,n,D=>by cases m <;> rfl
 | .bx t off m vs,fx,c,n,D=>by
  unfold fill;have h:=w9 (nm:=nm) vs [] (J9 fx) (n+1) D;generalize fz nm vs [] (J9 fx) (n+1) D=L at h;obtain ⟨cs,R,k,g,d⟩:=L;have q:d.map (·.2)=j9 (eP R):=h;cases m
  .exact q
  .show reS (JC nm fx n) vs cs::d.map (·.2)=reS (JC nm fx n) vs cs::j9 (eP R);rw [q]
 | .agg l,fx,c,n,D=>by
  unfold fill;have h:=w9 (nm:=nm) l (jh fx) [] n D;generalize fz nm l (jh fx) [] n D=L at h;obtain ⟨cs,R,k,g,d⟩:=L;exact h
 | .cU l,fx,c,n,D=>by
  unfold fill;have h:=w9 (nm:=nm) l [] [] n D;generalize fz nm l [] [] n D=L at h;obtain ⟨cs,R,k,g,d⟩:=L;exact h
 | .fn f a b,fx,c,n,D=>by
  unfold fill;have h:=w9 (nm:=nm) a [] [] n D;generalize fz nm a [] [] n D=L at h;obtain ⟨cs,R,k,g,d⟩:=L;dsimp only;have j:=w9 (nm:=nm) b (jh fx) [] k g;generalize fz nm b (jh fx) [] k g=L at j;obtain ⟨s,r,x,u,i⟩:=L;show (d++i).map (·.2)=j9 (eP (R++r));rw [rJ,Bw,DA,show d.map (·.2)=j9 (eP R) from h,show i.map (·.2)=j9 (eP r) from j]
 | .ifc t p,fx,c,n,D=>by
  unfold fill;have h:=aeH (nm:=nm) p (tn p (jh fx)) none n D;generalize fill nm p (tn p (jh fx)) none n D=L at h;obtain ⟨v,R,k,g,d⟩:=L;exact h
 | .dat t o,fx,c,n,D=>by unfold fill;have h:=V4 (nm:=nm) t (iL t D) n o;generalize jl nm t (iL t D) n o=L at h;obtain ⟨cs,R,k,w⟩:=L;exact h.symm
theorem w9{nm:Nat->Nat}:(l:List Pt)->(b a:List AV)->(n:Nat)->(D:List cq)->(fz nm l b a n D).X.map (·.2)=j9 (eP (fz nm l b a n D).R)
 |[],_,_,_,_=>rfl
 |p::l,b,a,n,D=>by unfold fz;have h:=aeH (nm:=nm) p (tn p b) a.head? n D;generalize fill nm p (tn p b) a.head? n D=L at h;obtain ⟨cs,R,k,g,e⟩:=L;dsimp only;have d:=w9 (nm:=nm) l b.tail a.tail k g;generalize fz nm l b.tail a.tail k g=L at d;obtain ⟨i,f,m,j,c⟩:=L;show (e++c).map (·.2)=j9 (eP (R++f));rw [rJ,Bw,DA,show e.map (·.2)=j9 (eP R) from h,show c.map (·.2)=j9 (eP f) from d]
end
theorem ZZ{ρ ρ':ay}:{X:List (Nat×List AV)}->{C:List (List AV)}->C.map (AV.al ρ')=X.map (λx=>AV.al ρ x.2)->fp ρ' (ZS X C)=fp ρ X
 |[],[],_=>rfl
 |[],_::_,h=>by cases h
 |_::_,[],h=>by cases h
 |x::X,cs::C,h=>by simp only [e9,p5] at h;show (x.1,AV.al ρ' cs)::fp ρ' (ZS X C)=(x.1,AV.al ρ x.2)::fp ρ X;rw [h.1,ZZ h.2]
section
variable {w : World} {ρ : ay}
theorem Sat.ass{A B:Ctx}{x:Item}(h:Sat (A++B) w)(hx:x.own=[]/\∀M w,x.P M w):Sat (A++x::B) w:=by
 refine h.C0 (λj k=>(j<A.length/\k=j)\/(A.length<j/\k+1=j)) (λj b a=>?_) (λj k q c g f=>by omega);by_cases e:j<A.length
 .rw [ec e] at a;exact .inr ⟨j,b,.inl ⟨e,rfl⟩,by rw [ec e];exact a,bX.refl⟩
 .rw [de (by omega)] at a;by_cases d:j=A.length
  .subst d;simp at a;subst a;exact .inl hx
  .refine .inr ⟨j-1,b,.inr ⟨by omega,by omega⟩,?_,bX.refl⟩;rw [de (by omega)];have:j-A.length=(j-1-A.length)+1:=by omega
   rw [this,gy] at a;exact a
theorem Sat.mT{A B:Ctx}(h:Sat (A++B) w):∀(L:List Item),(∀it∈L,it.cP=true/\∀M w,it.P M w)->Sat (A++(L++B)) w
 |[],_=>h
 |x::L,hL=>(Sat.mT h L (λit bJ=>hL it (cb _ bJ))).ass ⟨x.hp (hL x (c8 ..)).1,(hL x (c8 ..)).2⟩
theorem XH{Φ:Ctx}{T:aB}:∀{R:List (Bool×Row)} {A:Ctx},Sat (A++(ab ρ T (R.map (·.2))++Φ)) w->Sat (A++(ab ρ T (eP R)++(ab ρ T (nU R)++Φ))) w
 |[],_,h=>h
 |x::R,A,h=>by
  have c:Sat ((A++[x.2.item ρ T])++(ab ρ T (R.map (·.2))++Φ)) w:=by simpa [ab] using h
  have a:=XH c;unfold eP nU;cases x.1
  .have b:Sat (A++x.2.item ρ T::(ab ρ T (eP R)++(ab ρ T (nU R)++Φ))) w:=by simpa using a
   exact b.move
  .simpa [ab] using a
theorem Nr{Φ:Ctx}{T:aB}:∀{R:List (Bool×Row)} {I:ga} {A:Ctx},gC (RwI ρ T) R I->Sat (A++(ab ρ T (nU R)++Φ)) w->Sat (A++(iI I++Φ)) w
 |_,_,_,.nil,h=>h
 |_,_,A,.cons (a:=a) (b:=b) (l:=l) (m:=m) h1 hr,h=>by
  unfold nU at h;show Sat (A++(aD b.1 jG b.2)::(iI m++Φ)) w;rw [<-h1.1];cases ha:a.1
  .rw [ha] at h;have e:Sat (A++b.2::(ab ρ T (nU l)++Φ)) w:=by have c:Sat (A++a.2.item ρ T::(ab ρ T (nU l)++Φ)) w:=h;exact c.GD h1.2.2
   have d:Sat ((A++[b.2])++(ab ρ T (nU l)++Φ)) w:=by simpa using e
   have:=Nr hr d;simpa using this
  .rw [ha] at h;have c:Sat (A++(ab ρ T (nU l)++Φ)) w:=h;exact (Nr hr c).ass ⟨rfl,λ_ _=>trivial⟩
theorem acC{c:Nat}:{R:List (Bool×Row)}->bD c (R.map (·.2))=true->bD c (eP R)=true/\bD c (nU R)=true
 |[],_=>⟨rfl,rfl⟩
 |x::R,h=>by
  simp only [e9,bD,au] at h;obtain ⟨b,a⟩:=acC h.2;unfold eP nU;cases x.1
  .exact ⟨b,by show bD c (x.2::nU R)=true;simp only [bD,au];exact ⟨h.1,a⟩⟩
  .exact ⟨by show bD c (x.2::eP R)=true;simp only [bD,au];exact ⟨h.1,b⟩,a⟩
theorem aj6{N:List Nm}:∀{M:List Nm} {k:Nat},(∀i a,M[i]? =some a->ρ (k+i)=a)->NB ρ (idB M.length k) M
 |[],_,_=> .nil
 |a::M,k,h=> .cons (by
   have:=h 0 a rfl;rw [Nat.add_zero] at this;exact ⟨by rw [this],by rw [this],by rw [this]⟩) (aj6 (N:=N) λi b hb=>by
   have:=h (i+1) b (by simpa using hb);rw [<-this];congr 1;omega)
end
section
variable {X : Cx} {fr : Fr} {st : aC} {ρ : ay} {Φ : Ctx} {w : World}
theorem apV(j:Sat (ab ρ [] st.G++(ab ρ [] fr.H++Φ)) w){r:ResultVar}{v:AV}(h:J1 X fr st r=some v):nH X.P (az ρ [] st.E fr.F) w r (v.val ρ):=by
 cases r with
 |tmp t=>exact nH.t (Ih h)
 |cell p t=>
  unfold J1 at h;dsimp only at h;split at h
  .rename_i u i;split at h
   .rename_i cs b;obtain ⟨y,s,f⟩:=NJ j b aB.get_none;have hl:=Ih (ρ:=ρ) i;rw [s] at hl;have o:n3 X.P t (cs.drop 0)=some v:=by simpa using h
    obtain ⟨d,n,bytes,z,c1,x,e⟩:=su (ρ:=ρ) o;cases hd:nn d
    .rw [hd] at e;simp only [eF,qn] at e;exact nH.c1 hl c1 hd f e
    .unfold n3 at h;rw [c1] at h;rcases ek h with ⟨_,c⟩|⟨g,_⟩
     .split at c
      next q k=>obtain ⟨n,bytes,z⟩:=q;obtain ⟨m,l⟩:=aI c;cases l;have a:n<=cs.length:=ei m;simp only [AV.val];refine nH.cA hl c1 hd (cT k) (vs:=AV.al ρ (cs.take n)) ?_ (by rw [AV.bG,dq,hV a]);have:=f.sub (us:=AV.al ρ (cs.take n)) 0 (by rw [AV.mH,n9,dq,AV.bG,hV a]);simpa [Addr.add] using this
      .cases c
     .rw [hd] at g;cases g
   .cases h
  .cases h
theorem amV{rs:List AV}:(if h:(AV.al ρ rs).length=1 then (AV.al ρ rs)[0] else .tuple (AV.al ρ rs).toArray)=(HA rs).val ρ:=by
 match rs with
 |[]=>simp [HA,AV.al,AV.val]
 |[v]=>simp [HA,AV.al]
 |u::v::l=>simp [HA,AV.al,AV.val]
theorem aiC{fn:Func}{S:Value->World->Prop}{Sp:xa->World->Prop}{rs:List AV}(k:Sat (ab ρ [] st.G++(ab ρ [] fr.H++Φ)) w)(h:yS (J1 X fr st) fn.results.toList=some rs)(hS:S ((HA rs).val ρ) w):
  At (BP X.P fn S Sp) .ret fr.n [] (az ρ [] st.E fr.F) w:=by
 have c:∀{α β:Type} {f:α->Option β} {l:List α} {ys:List β},yS f l=some ys->l.length=ys.length:=λ{α β f l}=>by
  induction l with
  |nil=>intro ys h;cases h;rfl
  |cons x l ih=>
   intro ys h;unfold yS at h;split at h
   .split at h
    next zs e=>cases h;simp [ih e]
    .cases h
   .cases h
 have b:∀{l:List ResultVar} {ys:List AV},yS (J1 X fr st) l=some ys->yS (λr=>(J1 X fr st r).map (AV.val ρ)) l=some (AV.al ρ ys):=λ{l}=>by
  induction l with
  |nil=>intro ys h;cases h;simp [yS,AV.al]
  |cons x l ih=>
   intro ys h;unfold yS at h ⊢;split at h
   .rename_i y j;split at h
    next zs e=>cases h;rw [j,ih e];simp [AV.al]
    .cases h
   .cases h
 refine agW (vs:=AV.al ρ rs) (by rw [AV.bG];exact c h) (λa m=>SN (g:=λr=>(J1 X fr st r).map (AV.val ρ)) (λr v d=>?_) (b h)) amV hS;cases i:J1 X fr st r with
 |none=>rw [i] at d;cases d
 |some u=>
  rw [i] at d;cases d;exact (apV k i).run m
end
theorem afv{R:Type}{X:Cx}{h:HT}{fn:Func}{f:FuncId}{ps:List Pt}{KF:List AV->List Row->Nat->List (Nat×List AV)->XE->aC->Option R}{s:fQ (rZ ps)}{r:R}{S:Value->World->Prop}{Sp:xa->World->Prop}
  (Y:X.P.funcs[f]? =some fn) (O:∀e∈tb,e.Ok X.P X.Γ) (K:∀e∈tp,e.Ok X.P X.Γ) (M:∀c∈tc,c.Ok X.P) (hd:agh X tb tp tc h fn ps KF s=some r) {d:zb} {N:List Nm} {I:ga} {XX:lU} {Φ:Ctx} {w:World}
  (hS:yX ps d [] [] [] (jc _ s) I XX N) (m:Sat (dG I++Φ) w) (J:∀it∈X.Γ,it∈Φ)
  (fin:∀(x:XE) (vs:List AV) (H:List Row) (z:List (Nat×List AV)) (st:aC) (ρ:ay) (w':World),KF vs H N.length z x st=some r->Sat (ab ρ [] st.G++(ab ρ [] (hx x ⟨[],H,fn.ntmps⟩)++Φ)) w'->NB ρ (idB N.length 0) N->AV.al ρ vs=d->fp ρ z=XX->
   (∀{A:Ctx} {F:World},Sat (A++(ab ρ [] H++Φ)) F->Sat (A++(iI I++Φ)) F)->MJ (BP X.P fn S Sp) x ρ fn.ntmps [] (az ρ [] st.E []) w'):oU X.P f d w S Sp:=by
 -- names of the arguments
 have o:Ad (λ(i:Nat)=>(N[i]?).getD dB) id 0 N:=λi a ha=>by simp only [id,ha,qG];exact ⟨trivial,trivial,trivial,λ_=>trivial⟩
 have p:∀(i:Nat) a,N[i]? =some a->(λ(i:Nat)=>(N[i]?).getD dB) (0+i)=a:=λi a ha=>by simp only [mj,ha,qG]
 generalize (λ(i:Nat)=>(N[i]?).getD dB)=ρ at o p;obtain ⟨u,y,f3,v,t⟩:=wS (T:=[]) (nm:=id) ps d [] [] [] (jc _ s) I XX N (by simpa only [AV.al] using hS) o (pA _) [];have Z:=w9 (nm:=id) ps [] [] 0 (jc _ s);simp only [ko,qe] at u y f3 v t;unfold agh at hd;generalize fz id ps [] [] 0 (jc _ s)=L at u y f3 v t Z hd;obtain ⟨vs,R,n,DD,z⟩:=L;simp only at u y f3 v t Z;dsimp only at hd;subst y;generalize hL:oX (NW (eP R)) N.length (eP R)=L at hd;obtain ⟨G,D,c⟩:=L;dsimp only at hd;split at hd
 .cases hd
 rename_i body j;obtain ⟨h1,h2⟩:=aI hd;simp only [au] at h1;obtain ⟨⟨h3,h4⟩,h5⟩:=h1;obtain ⟨l1,l2⟩:=acC h5;obtain ⟨b,g⟩:=Lb (ids:=NW (eP R)) (ρ:=ρ) l1;rw [hL] at g;have hc:N.length<=c:=g.le;have V:Sat (ab ρ [] (R.map (·.2))++Φ) w:=Sat.leL (A:=[]) (B:=dG I) (C:=Φ) m t.rw;have U:=XH (A:=[]) V;have e1:ab b [] G=ab ρ [] (eP R):=g.eq;have Q:Sat (ab b [] G++(ab b [] (D++nU R)++Φ)) w:=by
  rw [e1,bh,ba g.ag l2,cp];exact Sat.mT (A:=ab ρ [] (eP R)) (B:=ab ρ [] (nU R)++Φ) U (ab b [] D) (λit bJ=>by obtain ⟨q,hq,rfl⟩:=List.mem_map.1 bJ;exact g.rp q hq)
 have l:AV.al b vs=d:=by rw [AV.cd g.ag _ h4,u]
 refine nD Y j rfl (by rw [<-l,AV.bG];exact h3) ?_;have hE:az b [] (rB 0 vs) []=iota 0 d:=by show aF.env b [] (rB 0 vs)++[]=_;rw [Ed,l,ko]
 rw [<-hE];refine aqb (fr:=⟨[],D++nU R,fn.ntmps⟩) (st:=⟨c,rB 0 vs,G,h⟩) J O K M body Q h2 (λx st' ρ' w' a1 a2 a3 a4=>?_);have k:aS N.length ρ ρ':=g.ag.trans (a1.less hc) (cK _);refine fin x vs (D++nU R) (ZS z (j9 G)) st' ρ' w' a3 a4 (aj6 (N:=N) (λi a ha=>by
   have hi:i<N.length:=(List.getElem?_eq_some_iff.1 ha).1;rw [k _ (by omega)];exact p i a ha)) (by rw [AV.cd k _ h4,u]) ?_ (λ{A F} hw=>?_)
 .rw [v];refine ZZ ?_;have g1:(j9 G).map (AV.al ρ')=(j9 G).map (AV.al b):=ME a1 g.lw;have g2:(j9 G).map (AV.al b)=(j9 (eP R)).map (AV.al ρ):=g.bx;rw [g1,g2,<-Z,List.map_map];rfl
 .rw [bh,cp] at hw;have p4:=hw.Uk;have W:ab ρ' [] (nU R)=ab ρ [] (nU R):=ba k l2;rw [W] at p4;exact Nr t p4
theorem O5{X:Cx}{e:aA}{fn:Func}{S:Value->World->Prop}{Sp:xa->World->Prop}{q:fQ (rR e.r++jH e.os)}{a:zb}{N:List Nm}{I:ga}{u:lU}{Φ:Ctx}{vs:List AV}{H:List Row}{f:List (Nat×List AV)}{st:aC}{ρ:ay}{w':World}
  (hk:afJ X e fn ⟨[],H,fn.ntmps⟩ N.length (λ(i:Nat)=>vs[i]?) (Ap e.ps vs f) st=some q) (z:Sat (ab ρ [] st.G++(ab ρ [] H++Φ)) w') (t:NB ρ (idB N.length 0) N) (b:AV.al ρ vs=a) (T:fp ρ f=u)
  (c:∀{A:Ctx} {w:World},Sat (A++(ab ρ [] H++Φ)) w->Sat (A++(iI I++Φ)) w)
  (s:∀v w',(∃(h N2:List Nm) (F C:List cq) (k j:ga) (V U:lU),Sem e.r v none none N F k V h/\Io (Ss e.ps a u) (λ(i:Nat)=>a[i]?) e.os h C j U N2/\F++C=jc _ q/\Sat ((dG k++dG j)++(iI I++Φ)) w')->S v w'):
  At (BP X.P fn S Sp) .ret fn.ntmps [] (az ρ [] st.E []) w':=by
 unfold afJ at hk;split at hk
 .rename_i rs m;refine aiC (fr:=⟨[],H,fn.ntmps⟩) z m (s _ _ ?_);generalize HA rs=v at hk;have d:=lQ (ids:=ya st.G H e.r v++Uw st.G H (λ(i:Nat)=>vs[i]?) (Ap e.ps vs f) e.os) z;change Sat (ab ρ [] (akM e ⟨[],H,fn.ntmps⟩ st v (λ(i:Nat)=>vs[i]?) (Ap e.ps vs f))++_) w' at d;generalize akM e ⟨[],H,fn.ntmps⟩ st v (λ(i:Nat)=>vs[i]?) (Ap e.ps vs f)=Y at hk d;unfold ari at hk;split at hk
  .rename_i l n;split at hk
   .rename_i y o;obtain ⟨k1,Q⟩:=aI hk;simp only [au] at k1;obtain ⟨h,k,J,n1,L⟩:=OD d e.r v none none _ l N n t (λq R=>by cases R);obtain ⟨N2,j,x,W,K⟩:=Uv d e.os l.B y h o n1;have p:(λi=>iE ρ (Ap e.ps vs f i))=Ss e.ps a u:=by
     funext i
     rw [<-aft,b,T]
    have g:(λ(i:Nat)=>(vs[i]?).map (AV.val ρ))=λ(i:Nat)=>a[i]? :=by
     funext i
     rw [<-b,We]
    rw [p,g] at x;obtain ⟨p1,_⟩:=Pe d (L.append K);obtain ⟨p2,_⟩:=AP d p1 (A3 k1.1);rw [Fq k1.2] at p2;have O:=p2.Uk;have M:=c O;refine ⟨h,N2,l.D,y.D,k,j,_,_,J,x,(DM _ Q).symm,?_⟩;simpa [dG] using M
   .cases hk
  .cases hk
 .cases hk
theorem arL{X:Cx}{h:HT}{fn:Func}{e:aA}(q:Enters X.P e.f)(p:X.P.funcs[e.f]? =some fn)(o:∀e∈tb,e.Ok X.P X.Γ)(k:∀e∈tp,e.Ok X.P X.Γ)(n:∀c∈tc,c.Ok X.P)(hm:∀s r,e.m s=some r->Zt X tb tp tc h fn e s=some r):e.Ok X.P X.Γ:=by
 refine ⟨q,λs r z y N I A Φ w hS d j=>?_⟩;refine afv p o k n (hm s r z) hS d j (λx vs H B st ρ w' hk u g b t a=>?_);cases x with
 |nrm=>exact O5 hk u g b t a (λ_ _ h=>h)
 |ret=>exact O5 hk u g b t a (λ_ _ h=>h)
 |ext i=>cases hk
 |gto l=>cases hk
 |kg v=>cases hk
 |panE v=>cases hk
 |panL v=>cases hk
theorem aqC{X:Cx}{h:HT}{fn:Func}{e:bZ}(Q:Enters X.P e.f)(O:X.P.funcs[e.f]? =some fn)(L:∀e∈tb,e.Ok X.P X.Γ)(J:∀e∈tp,e.Ok X.P X.Γ)(K:∀c∈tc,c.Ok X.P)(hm:∀s r,e.m s=some r->akO X tb tp tc h fn e s=some r):e.Ok X.P X.Γ:=by
 refine ⟨Q,λs r Y S N I Z Φ w hS B F=>?_⟩;refine afv O L J K (hm s r Y) hS B F (λx vs H XA st ρ w' hk t C z R b=>?_);have two:∀(v:AV) (H:List Row) (E:Ctx),Sat (ab ρ [] st.G++(ab ρ [] H++Φ)) w'->(∀{A:Ctx},Sat (A++(ab ρ [] H++Φ)) w'->Sat (A++(E++Φ)) w')->∀(pp:Pt) (pq:Option Pt) (p:SW pp pq),Ep pp pq ⟨[],H,fn.ntmps⟩ v st=some p->∃(g:List Nm) (d:ga) (n:lU),amt pp pq p (v.val ρ) d n g/\Sat (dG d++(E++Φ)) w':=λv H E t b pp pq p hp=>by
  have one:∀(pp:Pt) (p:fQ (rR pp)),OV pp ⟨[],H,fn.ntmps⟩ v st=some p->∃(g:List Nm) (d:ga) (n:lU),Sem pp (v.val ρ) none none [] (jc _ p) d n g/\Sat (dG d++(E++Φ)) w':=λpp p hp=>by
   unfold OV at hp;have D:=lQ (ids:=ya st.G H pp v) t;generalize cB (ya st.G H pp v) st.G=G' at hp D;split at hp
   next V M=>obtain ⟨k1,W⟩:=aI hp;simp only [au] at k1;obtain ⟨g,d,o,n1,T⟩:=OD D pp v none none _ V [] M .nil (λq j=>by cases j);obtain ⟨p1,_⟩:=Pe D T;obtain ⟨p2,_⟩:=AP D p1 (A3 k1.1);rw [Fq k1.2] at p2;have U:=b p2.Uk;rw [<-DM _ W] at o;exact ⟨g,d,_,o,by simpa [dG] using U⟩
   .cases hp
  cases pq with
  |none=>exact one pp p hp
  |some q=>
   simp only [Ep] at hp;split at hp
   next x hx=>cases hp;exact one pp x hx
   .cases j:OV q ⟨[],H,fn.ntmps⟩ v st with
    |none=>rw [j] at hp;cases hp
    |some x=>
     rw [j] at hp;cases hp;exact one q x j
 have y:∀{A:Ctx},Sat (A++(iI I++Φ)) w'->Sat (A++(aD e.lp [] (iI I)++Φ)) w':=λh=>by
  cases e.lp
  .exact h
  .exact Sat.Ml h
 cases x with
 |nrm=>
  obtain ⟨x,q,j,rfl,hi⟩:=aaA hk;exact O5 j t C z R b (λ_ _ h=>⟨x,q,rfl,hi,h⟩)
 |ret=>
  obtain ⟨x,q,j,rfl,hi⟩:=aaA hk;exact O5 j t C z R b (λ_ _ h=>⟨x,q,rfl,hi,h⟩)
 |ext i=>cases hk
 |gto l=>cases hk
 |kg v=>
  have a:(Ep e.pp e.pq ⟨[],H,fn.ntmps⟩ v st).map Except.error=some r:=hk;cases hp:Ep e.pp e.pq ⟨[],H,fn.ntmps⟩ v st with
  |none=>rw [hp] at a;cases a
  |some p=>
   rw [hp] at a;cases a;obtain ⟨g,d,n,o,u⟩:=two v H (iI I) t b e.pp e.pq p hp;exact ahE ⟨p,rfl,v.val ρ,g,d,n,rfl,o,y u⟩
 |panE v=>
  have a:(Ep e.pp e.pq ⟨[],H,fn.ntmps⟩ v st).map Except.error=some r:=hk;cases hp:Ep e.pp e.pq ⟨[],H,fn.ntmps⟩ v st with
  |none=>rw [hp] at a;cases a
  |some p=>
   rw [hp] at a;cases a;obtain ⟨g,d,n,o,u⟩:=two v H (iI I) t b e.pp e.pq p hp;exact (ahE ⟨p,rfl,v.val ρ,g,d,n,rfl,o,y u⟩:D8 _ _ [] _).at
 |panL v=>
  have a:(aD (e.lp||RW H) (Ep e.pp e.pq ⟨[],dA H,fn.ntmps⟩ v st) none).map Except.error=some r:=hk;cases k:e.lp||RW H with
  |false=>rw [k] at a;cases a
  |true=>
   rw [k] at a;replace a:(Ep e.pp e.pq ⟨[],dA H,fn.ntmps⟩ v st).map Except.error=some r:=a;cases hp:Ep e.pp e.pq ⟨[],dA H,fn.ntmps⟩ v st with
   |none=>rw [hp] at a;cases a
   |some p=>
    rw [hp] at a;cases a;obtain ⟨g,d,n,o,u⟩:=two v (dA H) (aD e.lp [] (iI I)) t (λh=>by
     cases hl:e.lp
     .rw [hl,nJ] at k;rw [VR k] at h;exact b h
     .exact Sat.Ml h) e.pp e.pq p hp
    exact (ahE ⟨p,rfl,v.val ρ,g,d,n,rfl,o,u⟩:D8 _ _ [] _).at
theorem ot{X:Cx}{A B:Type}{E:(A->Option B)->aA}{F:(A->Option B)->A->Option B}(a:(E λ_=>none).Ok X.P X.Γ)(step:∀k,(E k).Ok X.P X.Γ->(E (F k)).Ok X.P X.Γ):∀n,(E (aj F n)).Ok X.P X.Γ
 |0=>a
 |n+1=>step _ (ot a step n)
theorem Zl{X:Cx}{A B:Type}{E:(A->Option B)->bZ}{F:(A->Option B)->A->Option B}(a:(E λ_=>none).Ok X.P X.Γ)(step:∀k,(E k).Ok X.P X.Γ->(E (F k)).Ok X.P X.Γ):∀n,(E (aj F n)).Ok X.P X.Γ
 |0=>a
 |n+1=>step _ (Zl a step n)
theorem eA{X:Cx}{fn:Func}{e:aA}(h:HT)(i:Enters X.P e.f)(g:X.P.funcs[e.f]? =some fn)(d:∀e∈tb,e.Ok X.P X.Γ)(a:∀e∈tp,e.Ok X.P X.Γ)(b:∀c∈tc,c.Ok X.P)(eq:∀s,Zt X tb tp tc h fn e s=e.m s):e.Ok X.P X.Γ:=
 arL i g d a b λs _ j=>(eq s).trans j
theorem NS{X:Cx}{fn:Func}{e:bZ}(h:HT)(i:Enters X.P e.f)(g:X.P.funcs[e.f]? =some fn)(d:∀e∈tb,e.Ok X.P X.Γ)(a:∀e∈tp,e.Ok X.P X.Γ)(b:∀c∈tc,c.Ok X.P)(eq:∀s,akO X tb tp tc h fn e s=e.m s):e.Ok X.P X.Γ:=
 aqC i g d a b λs _ j=>(eq s).trans j
theorem ax{E:Type}{p:E->Prop}:∀e∈([]:List E),p e:=λ_ h=>by cases h
theorem aw{E:Type}{p:E->Prop}{x:E}{l:List E}(hx:p x)(hl:∀e∈l,p e):∀e∈x::l,p e:=λe a=>by
 rcases List.mem_cons.1 a with rfl|a
 .exact hx
 .exact hl e a
def ack(x:Int):Bool:=decide (-9223372036854775808<=x)&&decide (x<=9223372036854775807)
theorem aaq{x:Int}:ack x=true↔ -9223372036854775808<=x/\x<=9223372036854775807:=by simp [ack]
end Go.Proofs.YtcgihjbfppkcfaaGreatDoor
