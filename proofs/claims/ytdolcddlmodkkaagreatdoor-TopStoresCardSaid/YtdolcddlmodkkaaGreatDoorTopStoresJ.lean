/- Own texts for TopStores, cut and joined by a program. -/
import Derived.Test.YtdolcddlmodkkaaGreatDoorTopStoresI
import Derived.Lib.LaidTab
import Derived.Below
import Derived.ProofKit
import Derived.Test.YtdolcddlmodkkaaGreatDoorRows
import Derived.Carry
import Derived.ChangeSlices
import Derived.OpenShut
set_option linter.all false
namespace Go.Proofs.YtdolcddlmodkkaaGreatDoor
open IntKind (i64)
noncomputable section
variable {L V : zi} {W : Nat} {p : zB -> Bool} {v : zB}
namespace So
def DS(d:Df.D)(W:Nat)(L:zi):Prop:= ∃A,Df.Good d W L.length A/\∀w,w.length=W->(Df.Gn d w↔w∈L)
theorem adV{W:Nat}(h:1<=W/\W<=64):DS ((W:Int),[],-1,0,[]) W []:=
 ⟨[],Df.aqt h,λw _=>⟨λh=>absurd rfl h.1,λh=>by simp at h⟩⟩
theorem Xd{d:Df.D}(h:DS d W L){w:zB}(a:w.length=W):lX d w=some (decide (w∈L)):=by obtain ⟨A,G,b⟩:=h;have:=G.w1;obtain ⟨r,e,c⟩:=Df.amy G (w:=w) (by omega);rw [e];congr 1;rw [qh,c,j6,b w a];exact ⟨λh=>h.2,λh=>⟨a,h⟩⟩
theorem avq{d:Df.D}(h:DS d W L){w:zB}(e:w.length=W)(hb:By w)(g:w∈L)(i:L.length<2097152):fw d w=some (d,false,0):=by
 obtain ⟨A,G,f⟩:=h;have:=G.w1;rcases Df.ane G i (w:=w) (λb a=>by have:=hb b a;omega) (by omega) with ⟨j,_⟩|⟨_,_,c⟩|⟨_,c,_⟩
 .exact absurd e j
 .exact c
 .exact absurd ((f w e).2 g) c
theorem ans{d:Df.D}(h:DS d W L){w:zB}(f:w.length=W)(hb:By w)(j:w∉L)(k:L.length<2097152):∃a,fw d w=some (a,true,0)/\DS a W (L++[w]):=by
 obtain ⟨A,G,i⟩:=h;have:=G.w1;rcases Df.ane G k (w:=w) (λb c=>by have:=hb b c;omega) (by omega) with ⟨e,_⟩|⟨_,e,_⟩|⟨_,_,a,o,n,m,l⟩
 .exact absurd f e
 .exact absurd ((i w f).1 e) j
 .refine ⟨a,n,o,by simpa using m,λv g=>?_⟩;rw [l v g,i v g,qt,l5];exact Or.comm
theorem asO{d:Df.D}(h:DS d W L):KE d=some (L.length:Int):=by obtain ⟨A,G,_⟩:=h;unfold KE;rw [G.many]
abbrev Wo:=Df.D×Df.D×Df.D
def G0(s:List Fd)(d:Df.D)(V:zi)(p:zB->Bool):Prop:= ∃F:zi,DS d (gh s) (F.map (enc s))/\F.Nodup/\(∀v,v∈F↔p v=true)/\∀v∈F,v∈V
structure OkW(s:List Fd)(cap:Int)(t:Wo)(V:zi)(g:Gf):Prop where
 cap1:cap<=1048576
 few:(V.length:Int)<=cap
 ins:∀v∈V,In s v
 nd:V.Nodup
 d0:DS t.1 (gh s) (V.map (enc s))
 d1:G0 s t.2.1 V (g false)
 d2:G0 s t.2.2 V (g true)
theorem ajT{s:List Fd}(a:gz s):1<=gh s/\gh s<=64:=by have:=Ai a;have:=a.few;unfold gh;omega
theorem G0.add{s:List Fd}{d:Df.D}(h:G0 s d V p)(v:zB):G0 s d (V++[v]) p:=by obtain ⟨F,f,e,c,b⟩:=h;exact ⟨F,f,e,c,λu a=>qk _ (b u a)⟩
theorem G0.has{s:List Fd}{d:Df.D}(c:∀v∈V,In s v)(h:G0 s d V p){v:zB}(a:In s v):lX d (enc s v)=some (p v):=by obtain ⟨F,g,i,f,e⟩:=h;rw [Xd g (v8 a.len)];congr 1;rw [qh,j6,wL (λu b=>c u (e u b)) a,f]
theorem G0.set{s:List Fd}{d:Df.D}(o:∀v∈V,In s v)(q:V.length<2097152)(h:G0 s d V p){v:zB}(i:In s v)(m:v∈V):
  ∃g b,fw d (enc s v)=some (g,b,0)/\G0 s g V (λu=>p u||u==v):=by
 obtain ⟨F,l,k,j,f⟩:=h;have r:=arc k f;by_cases hp:v∈F
 .refine ⟨d,false,avq l (v8 i.len) (Wd s v) (List.mem_map.2 ⟨v,hp,rfl⟩) (by simp;omega),F,l,k,λu=>?_,f⟩;rw [eF,kR,j];exact ⟨.inl,λh=>h.elim id λe=>e▸(j v).1 hp⟩
 .obtain ⟨g,e1,e2⟩:=ans l (v8 i.len) (Wd s v) (by rw [wL (λu c=>o u (f u c)) i];exact hp) (by simp;omega);refine ⟨g,true,e1,F++[v],by simpa using e2,List.nodup_append.2 ⟨k,by simp,λa n b hb=>by simp at hb;subst hb;exact λe=>hp (e▸n)⟩,λu=>?_,λu c=>?_⟩
  .rw [eF,kR,qt,l5,j]
  .rcases List.mem_append.1 c with c|c
   .exact f u c
   .simp at c;subst c;exact m
abbrev St:=Int×List Fd×Int×Fl×Co×Tr×Wo×(Int×Int×Int×(zB×zB×zB))
structure OkS(t:St)(s:List Fd)(cap:Int)(V:zi)(g:Gf):Prop where
 sch:t.2.1=s
 cap_:t.2.2.1=cap
 kind:(t.1=0/\Dv s t.2.2.2.1 V g/\t.2.2.2.1.1.1=cap)\/(t.1=1/\NS s cap t.2.2.2.2.1 V g)\/(t.1=2/\rY s cap t.2.2.2.2.2.1 V g)\/(t.1=3/\OkW s cap t.2.2.2.2.2.2.1 V g)
theorem Py{t:St}{s:List Fd}(c:gz s)(b:t.2.1=s){v:zB}(a:In s v):dN t v=some (enc s v):=by unfold dN;rw [b,Pc c a,an]
theorem aoL{t:St}(b:dB t.2.1 v=some 0):
  (t.1=0->dv t v=jC () t v)/\(t.1=1->dv t v=iU () t v)/\(t.1=2->dv t v=jd () t v)/\(t.1=3->dv t v=jL () t v)/\(t.1=4->dv t v=mQ () t v):=by
 have a:∀x:Option (St×Bool×Int),(x.bind λr=>some (r.1,r.2.1,r.2.2))=x:=λx=>by cases x <;> rfl
 have k:∀n:Nat,cJ t=some n->dv t v=(bif (Nat.beq n 216) then jC () t v else bif (Nat.beq n 217) then iU () t v else bif (Nat.beq n 218) then jd () t v else bif (Nat.beq n 219) then jL () t v else bif (Nat.beq n 220) then mQ () t v else none):=by intro n c;unfold dv;rw [b,an,show ((0:Int) != 0)=false from rfl,aZ,c,an,a,a,a,a,a]
 refine ⟨λh=>?_,λh=>?_,λh=>?_,λh=>?_,λh=>?_⟩
 .rw [k 216 (by unfold cJ bw;rw [h];rfl)];rfl
 .rw [k 217 (by unfold cJ bw;rw [h];rfl)];rfl
 .rw [k 218 (by unfold cJ bw;rw [h];rfl)];rfl
 .rw [k 219 (by unfold cJ bw;rw [h];rfl)];rfl
 .rw [k 220 (by unfold cJ bw;rw [h];rfl)];rfl
theorem aqA{t:St}(a:dB t.2.1 v=some 0):
  (t.1=0->ey t v=(jN () t v).bind λr=>some (r,0))/\(t.1=1->ey t v=(jg () t v).bind λr=>some (r,0))/\(t.1=2->ey t v=(iZ () t v).bind λr=>some (r,0))/\(t.1=3->ey t v=(jF () t v).bind λr=>some (r,0))/\(t.1=4->ey t v=(mP () t v).bind λr=>some (r,0)):=by
 have k:∀n:Nat,cJ t=some n->ey t v=(bif (Nat.beq n 216) then (jN () t v).bind λr=>some (r,0) else bif (Nat.beq n 217) then (jg () t v).bind λr=>some (r,0) else bif (Nat.beq n 218) then (iZ () t v).bind λr=>some (r,0) else bif (Nat.beq n 219) then (jF () t v).bind λr=>some (r,0) else bif (Nat.beq n 220) then (mP () t v).bind λr=>some (r,0) else none):=by intro n b;unfold ey;rw [a,an,show ((0:Int) != 0)=false from rfl,aZ,b,an]
 refine ⟨λh=>?_,λh=>?_,λh=>?_,λh=>?_,λh=>?_⟩
 .rw [k 216 (by unfold cJ bw;rw [h];rfl)];rfl
 .rw [k 217 (by unfold cJ bw;rw [h];rfl)];rfl
 .rw [k 218 (by unfold cJ bw;rw [h];rfl)];rfl
 .rw [k 219 (by unfold cJ bw;rw [h];rfl)];rfl
 .rw [k 220 (by unfold cJ bw;rw [h];rfl)];rfl
theorem ape{t:St}(f:Int)(b:dB t.2.1 v=some 0):
  (t.1=0->gB t v f=mB () t v f)/\(t.1=1->gB t v f=lq () t v f)/\(t.1=2->gB t v f=lu () t v f)/\(t.1=3->gB t v f=mL () t v f)/\(t.1=4->gB t v f=rG () t v f):=by
 have a:∀x:Option (St×Int),(x.bind λr=>some (r.1,r.2))=x:=λx=>by cases x <;> rfl
 have k:∀n:Nat,cJ t=some n->gB t v f=(bif (Nat.beq n 216) then mB () t v f else bif (Nat.beq n 217) then lq () t v f else bif (Nat.beq n 218) then lu () t v f else bif (Nat.beq n 219) then mL () t v f else bif (Nat.beq n 220) then rG () t v f else none):=by intro n c;unfold gB;rw [b,an,show ((0:Int) != 0)=false from rfl,aZ,c,an,a,a,a,a,a]
 refine ⟨λh=>?_,λh=>?_,λh=>?_,λh=>?_,λh=>?_⟩
 .rw [k 216 (by unfold cJ bw;rw [h];rfl)];rfl
 .rw [k 217 (by unfold cJ bw;rw [h];rfl)];rfl
 .rw [k 218 (by unfold cJ bw;rw [h];rfl)];rfl
 .rw [k 219 (by unfold cJ bw;rw [h];rfl)];rfl
 .rw [k 220 (by unfold cJ bw;rw [h];rfl)];rfl
theorem aqV{t:St}(f:Int)(b:dB t.2.1 v=some 0):
  (t.1=0->gC t v f=mb () t v f)/\(t.1=1->gC t v f=lx () t v f)/\(t.1=2->gC t v f=kU () t v f)/\(t.1=3->gC t v f=mu () t v f)/\(t.1=4->gC t v f=rO () t v f):=by
 have a:∀x:Option (Bool×Int),(x.bind λr=>some (r.1,r.2))=x:=λx=>by cases x <;> rfl
 have k:∀n:Nat,cJ t=some n->gC t v f=(bif (Nat.beq n 216) then mb () t v f else bif (Nat.beq n 217) then lx () t v f else bif (Nat.beq n 218) then kU () t v f else bif (Nat.beq n 219) then mu () t v f else bif (Nat.beq n 220) then rO () t v f else none):=by intro n c;unfold gC;rw [b,an,show ((0:Int) != 0)=false from rfl,aZ,c,an,a,a,a,a,a]
 refine ⟨λh=>?_,λh=>?_,λh=>?_,λh=>?_,λh=>?_⟩
 .rw [k 216 (by unfold cJ bw;rw [h];rfl)];rfl
 .rw [k 217 (by unfold cJ bw;rw [h];rfl)];rfl
 .rw [k 218 (by unfold cJ bw;rw [h];rfl)];rfl
 .rw [k 219 (by unfold cJ bw;rw [h];rfl)];rfl
 .rw [k 220 (by unfold cJ bw;rw [h];rfl)];rfl
theorem in0{t:St}{s:List Fd}(c:gz s)(b:t.2.1=s){v:zB}(a:In s v):dB t.2.1 v=some 0:=by have:=c.few;have:=a.len;rw [b,u5 s v (by omega),oQ.2 a]
def O1(s:List Fd)(cap:Int)(V:zi)(v:zB):zi×Bool×Int:=if nE s v=0 then yi cap V v else (V,false,nE s v)
def alx(s:List Fd)(V:zi)(v:zB):Bool×Int:=if nE s v=0 then (decide (v∈V),0) else (false,nE s v)
def rN(s:List Fd)(V:zi)(v:zB)(flag:Int):Int:=if nE s v=0 then ew V v flag else nE s v
def akz(s:List Fd)(V:zi)(g:Gf)(v:zB)(flag:Int):Gf:=if rN s V v flag=0 then iP g (flag==1) v else g
def ala(s:List Fd)(V:zi)(g:Gf)(v:zB)(flag:Int):Bool:=if rN s V v flag=0 then g (flag==1) v else false
theorem auf{s:List Fd}(l:ij s){t:St}{cap:Int}{V:zi}{g:Gf}(h:OkS t s cap V g)(v:zB)(C:v.length<100000000):
  ∃t',dv t v=some (t',(O1 s cap V v).2)/\OkS t' s cap (O1 s cap V v).1 g/\t'.1=t.1:=by
 unfold O1;by_cases o:nE s v=0
 .rw [cN o];have c:=oQ.1 o;have q:=in0 l.fds h.sch c;have w:=Py l.fds h.sch c;obtain ⟨B,A,z,y,_⟩:=aoL q;rcases h.kind with ⟨e,ok,m⟩|⟨e,ok⟩|⟨e,ok⟩|⟨e,ok⟩
  .rw [B e];unfold jC;obtain ⟨f,d,i,x⟩:=akG l.fds ok c;rw [m] at d i x;rw [w,an,d,an];exact ⟨_,rfl,⟨h.sch,h.cap_,.inl ⟨e,i,x⟩⟩,rfl⟩
  .rw [A e];unfold iU;obtain ⟨f,d,i⟩:=alY l.fds ok c;rw [h.sch,d,an];exact ⟨_,rfl,⟨rfl,h.cap_,.inr (.inl ⟨e,i⟩)⟩,rfl⟩
  .rw [z e];unfold jd;obtain ⟨f,d,i⟩:=ako l ok c;rw [h.sch,d,an];exact ⟨_,rfl,⟨rfl,h.cap_,.inr (.inr (.inl ⟨e,i⟩))⟩,rfl⟩
  .rw [y e];unfold jL yi;have p:=wL ok.ins c;rw [w,an,Xd ok.d0 (v8 c.len),an];by_cases k:v∈V
   .rw [cu (p.2 k),cN k];exact ⟨t,rfl,h,rfl⟩
   .rw [cM (λr=>k (p.1 r)),cx k,aZ,asO ok.d0,an,h.cap_,qi];by_cases n:cap<=(V.length:Int)
    .rw [cu n,cN n];exact ⟨t,rfl,h,rfl⟩
    .have d:=ok.cap1;have i:=ok.few;rw [cM n,cx n,aZ];obtain ⟨E,e1,e2⟩:=ans ok.d0 (v8 c.len) (Wd s v) (λr=>k (p.1 r)) (by simp;omega);rw [e1,an];refine ⟨_,rfl,⟨h.sch,rfl,.inr (.inr (.inr ⟨e,⟨d,by simp;omega,λu j=>?_,?_,by simpa using e2,ok.d1.add v,ok.d2.add v⟩⟩))⟩,rfl⟩
     .rcases List.mem_append.1 j with j|j
      .exact ok.ins u j
      .simp at j;subst j;exact c
     .exact List.nodup_append.2 ⟨ok.nd,by simp,λa D b hb=>by simp at hb;subst hb;exact λe=>k (e▸D)⟩
 .rw [cx o];unfold dv;rw [h.sch,u5 s v C,an,show (nE s v != 0)=true by simpa using o,cr];exact ⟨t,rfl,h,rfl⟩
theorem auV{s:List Fd}(b:ij s){t:St}{cap:Int}{V:zi}{g:Gf}(h:OkS t s cap V g)(v:zB)(n:v.length<100000000):ey t v=some (alx s V v):=by
 unfold alx;by_cases c:nE s v=0
 .rw [cN c];have a:=oQ.1 c;have d:=in0 b.fds h.sch a;have f:=Py b.fds h.sch a;obtain ⟨m,l,k,j,_⟩:=aqA d;rcases h.kind with ⟨e,ok,i⟩|⟨e,ok⟩|⟨e,ok⟩|⟨e,ok⟩
  .rw [m e];unfold jN;rw [f,an,amd b.fds ok a,an,an]
  .rw [l e];unfold jg;rw [h.sch,akM b.fds ok a,an,an]
  .rw [k e];unfold iZ;rw [h.sch,alf b ok a,an,an]
  .rw [j e];unfold jF;rw [f,an,Xd ok.d0 (v8 a.len),an,an];congr 2;rw [decide_eq_decide];exact wL ok.ins a
 .rw [cx c];unfold ey;rw [h.sch,u5 s v n,an,show (nE s v != 0)=true by simpa using c,cr]
theorem XB{s:List Fd}(e:gz s){t:St}(d:t.2.1=s){cap:Int}{V:zi}{g:Gf}(ok:OkW s cap t.2.2.2.2.2.2.1 V g){v:zB}(b:In s v)(a:Int):pD t v a=some (ew V v a):=by
 unfold pD ew;simp only [cR];rcases y7 a with hb|hb
 .rw [cN hb,show (decide (a<0)||decide (1<a))=true by simpa using hb,cr]
 .rw [cx (show ¬(a<0\/1<a) by omega),show (decide (a<0)||decide (1<a))=false by rcases hb with rfl|rfl <;> rfl,aZ,Py e d b,an,Xd ok.d0 (v8 b.len),an];by_cases c:v∈V
  .rw [cu ((wL ok.ins b).2 c),cN c];rfl
  .rw [cM (λh=>c ((wL ok.ins b).1 h)),cx c];rfl
theorem auk{s:List Fd}(k:ij s){t:St}{cap:Int}{V:zi}{g:Gf}(h:OkS t s cap V g)(v:zB)(z:v.length<100000000)(a:Int):
  ∃t',gB t v a=some (t',rN s V v a)/\OkS t' s cap V (akz s V g v a)/\t'.1=t.1:=by
 unfold akz rN;by_cases m:nE s v=0
 .rw [cN m];have d:=oQ.1 m;have p:=in0 k.fds h.sch d;have o:=Py k.fds h.sch d;obtain ⟨y,x,w,r,_⟩:=ape a p;rcases h.kind with ⟨e,ok,l⟩|⟨e,ok⟩|⟨e,ok⟩|⟨e,ok⟩
  .rw [y e];unfold mB;obtain ⟨f,j,i,A⟩:=al1 k.fds ok d a;rw [o,an,j,an];exact ⟨_,rfl,⟨h.sch,h.cap_,.inl ⟨e,i,A.trans l⟩⟩,rfl⟩
  .rw [x e];unfold lq;obtain ⟨f,j,i⟩:=aln k.fds ok d a;rw [h.sch,j,an];exact ⟨_,rfl,⟨rfl,h.cap_,.inr (.inl ⟨e,i⟩)⟩,rfl⟩
  .rw [w e];unfold lu;obtain ⟨f,j,i⟩:=alR k ok d a;rw [h.sch,j,an];exact ⟨_,rfl,⟨rfl,h.cap_,.inr (.inr (.inl ⟨e,i⟩))⟩,rfl⟩
  .rw [r e];unfold mL;have j:=ok.cap1;have i:=ok.few;rw [XB k.fds h.sch ok d,an];by_cases c:ew V v a=0
   .rw [cN c,c,show ((0:Int) != 0)=false from rfl,aZ];have hb:a=0\/a=1:=by
     rcases y7 a with hb|hb
     .unfold ew at c;rw [cN hb] at c;omega
     .exact hb
    have n:v∈V:=Decidable.byContradiction λn=>by unfold ew at c;rw [cx (show ¬(a<0\/1<a) by omega),cx n] at c;omega
    rcases hb with rfl|rfl
    .obtain ⟨q,b,e1,e2⟩:=ok.d1.set ok.ins (by omega) d n;rw [show (i64.wrap (1+0)==0)=false from rfl,show (i64.wrap (1+0)==1)=true from rfl,aZ,cr,o,an,e1,an,aZ,cr];refine ⟨_,rfl,⟨h.sch,h.cap_,.inr (.inr (.inr ⟨e,⟨j,i,ok.ins,ok.nd,ok.d0,?_,?_⟩⟩))⟩,rfl⟩
     .show G0 s q V (λu=>g false u||(false==(0==1)&&u==v));simpa using e2
     .show G0 s _ V (λu=>g true u||(true==((0:Int)==1)&&u==v));simpa using ok.d2
    .obtain ⟨q,b,e1,e2⟩:=ok.d2.set ok.ins (by omega) d n;rw [show (i64.wrap (1+1)==0)=false from rfl,show (i64.wrap (1+1)==1)=false from rfl,show (i64.wrap (1+1)==2)=true from rfl,aZ,aZ,cr,o,an,e1,an,aZ,aZ,cr];refine ⟨_,rfl,⟨h.sch,h.cap_,.inr (.inr (.inr ⟨e,⟨j,i,ok.ins,ok.nd,ok.d0,?_,?_⟩⟩))⟩,rfl⟩
     .show G0 s _ V (λu=>g false u||(false==((1:Int)==1)&&u==v));simpa using ok.d1
     .show G0 s q V (λu=>g true u||(true==((1:Int)==1)&&u==v));simpa using e2
   .rw [cx c,show (ew V v a != 0)=true by simpa using c,cr];exact ⟨t,rfl,h,rfl⟩
 .rw [cx m];unfold gB;rw [h.sch,u5 s v z,an,show (nE s v != 0)=true by simpa using m,cr,cx m];exact ⟨t,rfl,h,rfl⟩
theorem aue{s:List Fd}(d:ij s){t:St}{cap:Int}{V:zi}{g:Gf}(h:OkS t s cap V g)(v:zB)(p:v.length<100000000)(a:Int):
  gC t v a=some (ala s V g v a,rN s V v a):=by
 unfold ala rN;by_cases f:nE s v=0
 .rw [cN f];have c:=oQ.1 f;have j:=in0 d.fds h.sch c;have i:=Py d.fds h.sch c;obtain ⟨o,n,m,l,_⟩:=aqV a j;rcases h.kind with ⟨e,ok,k⟩|⟨e,ok⟩|⟨e,ok⟩|⟨e,ok⟩
  .rw [o e];unfold mb;rw [i,an,akX d.fds ok c a,an];rfl
  .rw [n e];unfold lx;rw [h.sch,alT d.fds ok c a,an];rfl
  .rw [m e];unfold kU;rw [h.sch,ajW d ok c a,an];rfl
  .rw [l e];unfold mu;rw [XB d.fds h.sch ok c,an];by_cases b:ew V v a=0
   .rw [cN b,b,show ((0:Int) != 0)=false from rfl,aZ];have hb:a=0\/a=1:=by
     rcases y7 a with hb|hb
     .unfold ew at b;rw [cN hb] at b;omega
     .exact hb
    rcases hb with rfl|rfl
    .rw [show (i64.wrap (1+0)==0)=false from rfl,show (i64.wrap (1+0)==1)=true from rfl,aZ,cr,i,an,ok.d1.has ok.ins c,an];rfl
    .rw [show (i64.wrap (1+1)==0)=false from rfl,show (i64.wrap (1+1)==1)=false from rfl,show (i64.wrap (1+1)==2)=true from rfl,aZ,aZ,cr,i,an,ok.d2.has ok.ins c,an];rfl
   .rw [cx b,show (ew V v a != 0)=true by simpa using b,cr]
 .rw [cx f];unfold gC;rw [h.sch,u5 s v p,an,show (nE s v != 0)=true by simpa using f,cr,cx f]
end So
namespace So
theorem ahm{l:List Fd}(h:l.length<1000000000):dE l=some l:=by unfold dE;rw [bQ (dH (by omega) (by omega))]
abbrev Op:=Int×Int×Int×Int×Int×Int
def apo:St:=(0,[],0,((0,[],[]),[]),([],(0,[],[]),[]),([],[]),((0,[],0,0,[]),(0,[],0,0,[]),(0,[],0,0,[])),(0,0,0,([],[],[])))
def vP(s:List Fd)(o:Op):St:=(o.1,s,o.2.1,((0,[],[]),[]),([],(0,[],[]),[]),([],[]),((0,[],0,0,[]),(0,[],0,0,[]),(0,[],0,0,[])),(0,0,0,([],[],[])))
def thenS(x:Option (St×Int)):Option (St×Int):=x.bind λr=>bif (r.2 != 0) then some (apo,r.2) else some (r.1,0)
theorem ao9{s:List Fd}(f:FI s)(d:ij s)(o:Op):
  (o.1=0->fc s o=thenS (iL () (vP s o) o))/\(o.1=1->fc s o=thenS (gZ () (vP s o) o))/\(o.1=2->fc s o=thenS (ia () (vP s o) o))/\
  (o.1=3->fc s o=thenS (gi () (vP s o) o))/\(o.1=4->fc s o=thenS (nR () (vP s o) o)):=by
 have j:=d.few;have k:∀n:Nat,(decide (((5:Nat):Int)<=o.1))=false->decide (o.1<0)=false->(bw).bind (λa=>idx a o.1)=some n->fc s o=
   (bif (Nat.beq n 216) then thenS (iL () (vP s o) o) else bif (Nat.beq n 217) then thenS (gZ () (vP s o) o) else bif (Nat.beq n 218) then thenS (ia () (vP s o) o) else bif (Nat.beq n 219) then thenS (gi () (vP s o) o) else bif (Nat.beq n 220) then thenS (nR () (vP s o) o) else none):=by
  intro n g i e;unfold fc;obtain ⟨l,c,hi⟩:=iy e;have b:l.length=5:=by unfold bw at c;cases c;rfl
  simp only [cR];rw [agv f,an,GR.2 d,i,c,mN,n3,qo,fk,an,b,g,n3,aZ,an,hi,an,ahm (by omega),an];rfl
 refine ⟨λh=>?_,λh=>?_,λh=>?_,λh=>?_,λh=>?_⟩
 .rw [k 216 (by rw [h];rfl) (by rw [h];rfl) (by unfold bw;rw [h];rfl)];rfl
 .rw [k 217 (by rw [h];rfl) (by rw [h];rfl) (by unfold bw;rw [h];rfl)];rfl
 .rw [k 218 (by rw [h];rfl) (by rw [h];rfl) (by unfold bw;rw [h];rfl)];rfl
 .rw [k 219 (by rw [h];rfl) (by rw [h];rfl) (by unfold bw;rw [h];rfl)];rfl
 .rw [k 220 (by rw [h];rfl) (by rw [h];rfl) (by unfold bw;rw [h];rfl)];rfl
theorem ar4{s:List Fd}(g:FI s)(o:Op)(h:¬(ij s/\0<=o.1/\o.1<5)):fc s o=some (apo,1):=by
 unfold fc;simp only [cR];rw [agv g,an];cases d:rX s
 .rfl
 .have c:=GR.1 d;by_cases b:o.1<0
  .rw [cu b];rfl
  .rw [cM b];have hx:¬(0<=o.1/\o.1<5):=λx=>h ⟨c,x⟩;have e:decide ((5:Int)<=o.1)=true:=cu (by omega);obtain ⟨l,f,a⟩:∃l,bw=some l/\l.length=5:=⟨_,rfl,rfl⟩;rw [f,mN,n3,qo,fk,an,a];rw [show decide (((5:Nat):Int)<=o.1)=true from e];rfl
theorem ah0{s:List Fd}(g:gz s)(t:St)(h:t.2.1=s)(o:Op)(l:0<=o.2.1)(j:o.2.1<=1048576):
  gi () t o=some ((t.1,t.2.1,t.2.2.1,t.2.2.2.1,t.2.2.2.2.1,t.2.2.2.2.2.1,(((gh s:Int),[],-1,0,[]),((gh s:Int),[],-1,0,[]),((gh s:Int),[],-1,0,[])),t.2.2.2.2.2.2.2),0):=by
 unfold gi;simp only [cR];rw [cM (show ¬o.2.1<0 by omega),cM (show ¬ 1048576<o.2.1 by omega),q7,aZ];have f:od t.2.1=some (gh s:Int):=by rw [h];exact agU g
 have e:=Df.aui (ajT g);obtain ⟨m,i⟩:∃m,aA=m+4:=⟨2^64-4,rfl⟩;rw [i,bF];generalize a:iC () t=F;have d:∀k a1 a2 a3 a4 a5 b1 b2 b3 b4 b5 c1 c2 c3 c4 c5,F k (a1,a2,a3,a4,a5,b1,b2,b3,b4,b5,c1,c2,c3,c4,c5,0)=k ((gh s:Int),[],-1,0,[],b1,b2,b3,b4,b5,c1,c2,c3,c4,c5,1):=by intros;rw [<-a];unfold iC;dsimp only;rw [f,an,e,an];rfl
 have c:∀k a1 a2 a3 a4 a5 b1 b2 b3 b4 b5 c1 c2 c3 c4 c5,F k (a1,a2,a3,a4,a5,b1,b2,b3,b4,b5,c1,c2,c3,c4,c5,1)=k (a1,a2,a3,a4,a5,(gh s:Int),[],-1,0,[],c1,c2,c3,c4,c5,2):=by intros;rw [<-a];unfold iC;dsimp only;rw [f,an,e,an];rfl
 have b:∀k a1 a2 a3 a4 a5 b1 b2 b3 b4 b5 c1 c2 c3 c4 c5,F k (a1,a2,a3,a4,a5,b1,b2,b3,b4,b5,c1,c2,c3,c4,c5,2)=k (a1,a2,a3,a4,a5,b1,b2,b3,b4,b5,(gh s:Int),[],-1,0,[],3):=by intros;rw [<-a];unfold iC;dsimp only;rw [f,an,e,an];rfl
 rw [d,bF,c,bF,b,bF,<-a];rfl
theorem ai3{s:List Fd}(l:FI s)(a:ij s)(o:Op)(m:0<=o.1/\o.1<4):
  ((o.2.1<0\/1048576<o.2.1)->fc s o=some (apo,1))/\(0<=o.2.1->o.2.1<=1048576->∃t,fc s o=some (t,0)/\OkS t s o.2.1 [] (λ_ _=>false)/\t.1=o.1):=by
 obtain ⟨k,j,i,g,_⟩:=ao9 l a o;have c:o.1=0\/o.1=1\/o.1=2\/o.1=3:=by omega
 refine ⟨λhb=>?_,λe d=>?_⟩
 .rcases c with h|h|h|h
  .rw [k h];unfold iL;rw [Yq,cN hb];rfl
  .rw [j h];unfold gZ;rw [show (vP s o).2.1=s from rfl,Yp a.fds,cN hb];rfl
  .rw [i h];unfold ia;rw [show (vP s o).2.1=s from rfl,Wv a.fds,cN hb];rfl
  .rw [g h];unfold gi;simp only [cR];rw [show (decide (o.2.1<0)||decide (1048576<o.2.1))=true by simpa using hb];rfl
 .have hb:¬(o.2.1<0\/1048576<o.2.1):=by omega
  rcases c with h|h|h|h
  .rw [k h];unfold iL;rw [Yq,cx hb];exact ⟨_,rfl,⟨rfl,rfl,.inl ⟨h,al4 s e d,rfl⟩⟩,rfl⟩
  .rw [j h];unfold gZ;rw [show (vP s o).2.1=s from rfl,Yp a.fds,cx hb];exact ⟨_,rfl,⟨rfl,rfl,.inr (.inl ⟨h,akd s e d⟩)⟩,rfl⟩
  .rw [i h];unfold ia;rw [show (vP s o).2.1=s from rfl,Wv a.fds,cx hb];exact ⟨_,rfl,⟨rfl,rfl,.inr (.inr (.inl ⟨h,alC s e d⟩))⟩,rfl⟩
  .rw [g h,ah0 a.fds (vP s o) rfl o e d];have f:=ajT a.fds;exact ⟨_,rfl,⟨rfl,rfl,.inr (.inr (.inr ⟨h,⟨d,e,λv b=>by simp at b,qN,adV f,⟨[],adV f,qN,λv=>by simp,λv b=>by simp at b⟩,⟨[],adV f,qN,λv=>by simp,λv b=>by simp at b⟩⟩⟩))⟩,rfl⟩
theorem anb{s:List Fd}(j:FI s):lI s=some (rX s):=by
 unfold lI rX;simp only [cR];by_cases h:1<=s.length/\s.length<=17
 .rw [cM (show ¬(s.length:Int)<1 by omega),cM (show ¬(17:Int)<s.length by omega),q7,aZ,cu h.1,cu h.2,qm,qm];have a:∀i (hi:i<s.length) (k:Int->zo),gL s k (i:Int)=bif uT s[i] then k ((i+1:Nat):Int) else some false:=by
   intro i hi k;have g:=j s[i] (j0 hi);have l:=amT g.1 g.2;unfold gL;simp only [cR];rw [lR hi,cr,dU hi,an,an,nx (show i<9223372036854775807 by omega)];unfold uT;by_cases b:s[i].2<s[i].1
   .rw [cu b,mN,gU];simp only [vl,mN,gU,cr];rw [cM (show ¬s[i].1<=s[i].2 by omega),Bool.and_false,q6,aZ]
   .rw [cM b,qo,fk,an,n3];by_cases d:s[i].1< -1073741824
    .rw [cu d,mN,gU];simp only [vl,mN,gU,cr];rw [cM (show ¬ -1073741824<=s[i].1 by omega)];simp
    .rw [cM d,qo,fk,an,n3];by_cases f:1073741824<s[i].2
     .rw [cu f,mN,gU,gU,vl,cr,cM (show ¬s[i].2<=1073741824 by omega)];simp
     .rw [cM f,qo,fk,an,fk,an,n3,dP (by omega),cu (show -1073741824<=s[i].1 by omega),cu (show s[i].2<=1073741824 by omega),cu (show s[i].1<=s[i].2 by omega)];by_cases c:65535<s[i].2-s[i].1
      .rw [cu c,cM (show ¬s[i].2-s[i].1<=65535 by omega)];rfl
      .rw [cM c,cu (show s[i].2-s[i].1<=65535 by omega)];rfl
  refine (findF (F:=gL s) (λi=>(i:Int)) (λi=>if h:i<s.length then !uT s[i] else false) (r:=λi=>if i<s.length then some false else some true) s.length (s:=0) rfl (by omega) (λi hi hp k=>?_) (λi hi hp k=>?_) (λk=>?_)).elim (λ⟨i,b,d,f,c⟩=>?_) (λ⟨b,c⟩=>?_)
  .rw [qz hi] at hp;rw [a i hi,show uT s[i]=true by simpa using hp,cr]
  .rw [qz hi] at hp;rw [a i hi,show uT s[i]=false by simpa using hp,aZ,cN hi]
  .unfold gL;rw [pd (l9 _),aZ,cx (l9 _)]
  .rw [c,cN b];rw [qz b] at d;congr 1;rw [eq_comm,<-qU];intro h;have:=List.all_eq_true.1 h _ (j0 b);rw [this] at d;cases d
  .rw [c,cx (l9 _)];congr 1;rw [eq_comm,qw];intro x hx;obtain ⟨i,hi,e⟩:=qq hx;have:=b i hi;rw [qz hi,e] at this;simpa using this
 .have e:(decide ((s.length:Int)<1)||decide ((17:Int)<(s.length:Int)))=true:=by simp;omega
  have e':(decide (1<=s.length)&&decide (s.length<=17))=false:=by rw [<-qU,ah,j6,j6];omega
  rw [e,e',cr,q6]
theorem ahh(s:List Fd)(v:zB)(g:v.length<100000000):jh s v=some (nE s v):=by
 unfold jh;by_cases e:v.length=s.length
 .rw [show ((v.length:Int) != (s.length:Int))=false by simp;omega,aZ];have a:∀i,i<v.length->i<s.length:=λi h=>by omega
  have b:∀i (hi:i<v.length) (k:Int->zr),jb s v k (i:Int)=bif (decide ((s[i]'(a i hi)).1<=v[i])&&decide (v[i]<=(s[i]'(a i hi)).2)) then k ((i+1:Nat):Int) else some 5:=by
   intro i hi k;unfold jb;simp only [cR];rw [lR hi,cr,dU hi,dU (a i hi),an,an,nx (show i<9223372036854775807 by omega)];by_cases c:v[i]<(s[i]'(a i hi)).1
   .rw [cu c,mN,gU,gU,vl,cr,cM (show ¬(s[i]'(a i hi)).1<=v[i] by omega)];rfl
   .rw [cM c,qo,fk,an,fk,an,n3,cu (show (s[i]'(a i hi)).1<=v[i] by omega),qm];by_cases d:(s[i]'(a i hi)).2<v[i]
    .rw [cu d,cM (show ¬v[i]<=(s[i]'(a i hi)).2 by omega)];rfl
    .rw [cM d,cu (show v[i]<=(s[i]'(a i hi)).2 by omega)];rfl
  refine (findF (F:=jb s v) (λi=>(i:Int)) (λi=>if h:i<v.length then !(decide ((s[i]'(a i h)).1<=v[i])&&decide (v[i]<=(s[i]'(a i h)).2)) else false) (r:=λi=>if i<v.length then some 5 else some 0) v.length (s:=0) rfl (by omega) (λi hi hp k=>?_) (λi hi hp k=>?_) (λk=>?_)).elim (λ⟨i,c,d,j,f⟩=>?_) (λ⟨c,f⟩=>?_)
  .rw [qz hi,Bool.not_eq_false'] at hp;rw [b i hi,hp,cr]
  .rw [qz hi,gj] at hp;rw [b i hi,hp,aZ,cN hi]
  .unfold jb;rw [pd (l9 _),aZ,cx (l9 _)]
  .rw [f,cN c,agQ e i (by omega)];rw [qz c] at d;simp at d;omega
  .rw [f,cx (by omega),oQ.2 ⟨e,λi hi=>?_⟩];have:=c i (by omega);rw [qz (by omega)] at this;simpa using this
 .rw [show ((v.length:Int) != (s.length:Int))=true by simp;omega,cr];unfold nE;rw [cx e]
theorem anc(a b:zB)(l:a.length<100000000):nP a b=some (a==b):=by
 unfold nP;by_cases g:a.length=b.length
 .rw [show ((a.length:Int) != (b.length:Int))=false by simp;omega,aZ];have c:∀i (hi:i<a.length) (k:Int->zo),iz a b k (i:Int)=bif (a[i] != b[i]'(by omega)) then some false else k ((i+1:Nat):Int):=by intro i hi k;unfold iz;rw [lR hi,cr,dU hi,dU (show i<b.length by omega),an,an,nx (show i<9223372036854775807 by omega)]
  refine (findF (F:=iz a b) (λi=>(i:Int)) (λi=>if h:i<a.length then a[i] != b[i]'(by omega) else false) (r:=λi=>if i<a.length then some false else some true) a.length (s:=0) rfl (by omega) (λi hi hp k=>?_) (λi hi hp k=>?_) (λk=>?_)).elim (λ⟨i,e,d,j,f⟩=>?_) (λ⟨e,f⟩=>?_)
  .rw [qz hi] at hp;rw [c i hi,hp,aZ]
  .rw [qz hi] at hp;rw [c i hi,hp,cr,cN hi]
  .unfold iz;rw [pd (l9 _),aZ,cx (l9 _)]
  .rw [f,cN e];rw [qz e] at d;congr 1;rw [eq_comm,tt];rintro rfl;simp at d
  .rw [f,cx (l9 _)];congr 1;rw [eq_comm,kR];refine si g λi d j=>?_;have:=e i d;rw [qz d] at this;simpa using this
 .rw [show ((a.length:Int) != (b.length:Int))=true by simp;omega,cr];congr 1;rw [eq_comm,tt];rintro rfl;exact g rfl
end So
namespace So
abbrev RS:=List Fd×Int×zi×List (Bool×Bool)
structure Sy(u:RS)(s:List Fd)(cap:Int)(V:zi)(g:Gf)(n:Nat):Prop where
 e1:u.1=s
 e2:u.2.1=cap
 e3:u.2.2.1=V
 len:u.2.2.2.length=V.length
 at_:∀(i:Nat) v,V[i]? =some v->u.2.2.2[i]? =some (g false v,g true v)
 nd:V.Nodup
 ins:∀v∈V,In s v
 out:∀b v,v∉V->g b v=false
 few:V.length<=n
variable {s : List Fd} {u : RS} {cap : Int} {V : zi} {g : Gf} {n : Nat}
theorem Pp(f:gz s)(h:Sy u s cap V g n)(l:n<100000)(v:zB):(v∉V/\fu u v=some (-1))\/∃i:Nat,V[i]? =some v/\fu u v=some (i:Int):=by
 have m:=h.few;have c:∀i (hi:i<V.length),V[i].length<100000000:=λi hi=>by have:=(h.ins _ (j0 hi)).len;have:=f.few;omega
 unfold fu;refine (findF (F:=gG u v) (λi=>(i:Int)) (λi=>if h:i<V.length then V[i]==v else false) (r:=λi=>if i<V.length then some (i:Int) else some (-1)) V.length (s:=0) rfl (by omega) (λi hi hp k=>?_) (λi hi hp k=>?_) (λk=>?_)).elim (λ⟨i,a,d,o,b⟩=>?_) (λ⟨a,b⟩=>?_)
 .rw [qz hi] at hp;unfold gG;rw [h.e3,lR hi,cr,dU hi,an,anc _ _ (c i hi),an,hp,aZ,nx (by omega)]
 .rw [qz hi] at hp;unfold gG;rw [h.e3,lR hi,cr,dU hi,an,anc _ _ (c i hi),an,hp,cr,cN hi]
 .unfold gG;rw [h.e3,pd (l9 _),aZ,cx (l9 _)]
 .rw [qz a,kR] at d;refine .inr ⟨i,?_,?_⟩
  .rw [aT a,d]
  .rw [b,cN a]
 .refine .inl ⟨λj=>?_,?_⟩
  .obtain ⟨i,hi,e⟩:=qq j;have:=a i hi;rw [qz hi,e] at this;simp at this
  .rw [b,cx (l9 _)]
theorem att(e:gz s)(h:Sy u s cap V g n)(f:n<100000)(v:zB)(d:v.length<100000000):fV u v=some (alx s V v):=by
 unfold fV alx;rw [h.e1,ahh s v d,an];by_cases a:nE s v=0
 .rw [cN a,a,show ((0:Int) != 0)=false from rfl,aZ];rcases Pp e h f v with ⟨c,b⟩|⟨i,c,b⟩
  .rw [b,an,cM c];rfl
  .rw [b,an,cu (ej c),cu (by omega)]
 .rw [cx a,show (nE s v != 0)=true by simpa using a,cr]
theorem asv(l:gz s)(h:Sy u s cap V g n)(q:n<100000)(v:zB)(o:v.length<100000000):∃u',fY u v=some (u',(O1 s cap V v).2)/\Sy u' s cap (O1 s cap V v).1 g (n+1):=by
 have w:=h.few;have d:Sy u s cap V g (n+1):=⟨h.e1,h.e2,h.e3,h.len,h.at_,h.nd,h.ins,h.out,by omega⟩;unfold fY O1;rw [h.e1,ahh s v o,an];by_cases j:nE s v=0
 .have hi:=oQ.1 j;rw [cN j,j,show ((0:Int) != 0)=false from rfl,aZ];unfold yi;rcases Pp l h q v with ⟨f,k⟩|⟨i,f,k⟩
  .rw [k,an,show decide ((0:Int)<= -1)=false from rfl,aZ,cx f,h.e2,h.e3];by_cases c:cap<=(V.length:Int)
   .rw [cN c,cu c,cr];exact ⟨u,rfl,d⟩
   .have m:=hi.len;have p:=l.few;rw [cx c,cM c,aZ];simp only [qs,qg,qd];rw [bQ (dH (by omega) (by omega)),bQ (dH (by omega) (by omega)),bQ (dH (by omega) (by omega)),h.len,bQ (dH (by omega) (by omega)),bQ (dH (by omega) (by omega))];refine ⟨_,rfl,⟨rfl,rfl,rfl,?_,?_,?_,?_,?_,?_⟩⟩
    .simp only [cO,qd,h.len]
    .intro i x hx;dsimp only at hx ⊢;rcases ql i V.length with hi|hi
     .rw [cy hi] at hx;rw [cy (by rw [h.len];exact hi)];exact h.at_ i x hx
     .have:=oZ hx;simp only [cO,qd] at this;have e:i=V.length:=by omega
      rw [ca hi,e,vb] at hx;rw [ca (by rw [h.len];exact hi),e,h.len,vb];rw [<-du hx,h.out _ _ f,h.out _ _ f];rfl
    .rw [List.nodup_append];refine ⟨h.nd,by simp,λa t b hb=>?_⟩;rw [List.mem_singleton.1 hb];rintro rfl;exact f t
    .intro x hx;rcases List.mem_append.1 hx with hx|hx
     .exact h.ins x hx
     .rw [List.mem_singleton.1 hx];exact hi
    .intro b x hx;exact h.out b x (λr=>hx (qk _ r))
    .simp only [cO,qd];omega
  .rw [k,an,cu (by omega),cr,cN (ej f)];exact ⟨u,rfl,d⟩
 .rw [cx j,show (nE s v != 0)=true by simpa using j,cr];exact ⟨u,rfl,d⟩
theorem anN(k:gz s)(h:Sy u s cap V g n)(l:n<100000)(v:zB)(e:v.length<100000000)(f:Int):(rN s V v f≠0/\∃j,jl u v f=some (j,rN s V v f))\/(rN s V v f=0/\(f=0\/f=1)/\∃i:Nat,V[i]? =some v/\jl u v f=some ((i:Int),0)):=by
 unfold jl rN;simp only [cR];rw [h.e1,ahh s v e,an];by_cases b:nE s v=0
 .rw [cN b,b,show ((0:Int) != 0)=false from rfl,aZ];unfold ew;by_cases a:f<0\/1<f
  .rw [cN a,show (decide (f<0)||decide (1<f))=true by simpa using a,cr];exact .inl ⟨by omega,0,rfl⟩
  .rw [cx a,show (decide (f<0)||decide (1<f))=false by simp;omega,aZ];rcases Pp k h l v with ⟨c,d⟩|⟨i,c,d⟩
   .rw [d,an,cx c];exact .inl ⟨by omega,0,rfl⟩
   .rw [d,an,cN (ej c),cM (by omega),aZ];exact .inr ⟨rfl,by omega,i,c,rfl⟩
 .rw [cx b,show (nE s v != 0)=true by simpa using b,cr];exact .inl ⟨b,0,rfl⟩
theorem ar8(d:gz s)(h:Sy u s cap V g n)(e:n<100000)(v:zB)(c:v.length<100000000)(f:Int):iH u v f=some (ala s V g v f,rN s V v f):=by
 unfold iH ala;rcases anN d h e v c f with ⟨a,j,b⟩|⟨a,k,i,b,l⟩
 .rw [b,an,cx a];dsimp only;rw [show (rN s V v f != 0)=true by simpa using a,cr]
 .rw [l,an,cN a,a];dsimp only;rw [show ((0:Int) != 0)=false from rfl,aZ,eT (h.at_ i v b),an];rcases k with rfl|rfl <;> rfl
theorem as5(w:gz s)(h:Sy u s cap V g n)(y:n<100000)(v:zB)(t:v.length<100000000)(f:Int):∃u',iJ u v f=some (u',rN s V v f)/\Sy u' s cap V (akz s V g v f) n:=by
 have r:=h.few;unfold iJ akz;rcases anN w h y v t f with ⟨m,j,c⟩|⟨m,A,i,c,B⟩
 .rw [c,an,cx m];dsimp only;rw [show (rN s V v f != 0)=true by simpa using m,cr];exact ⟨u,rfl,h⟩
 .have a:=oZ c;have z:=ej c;rw [B,an,cN m,m];dsimp only;rw [show ((0:Int) != 0)=false from rfl,aZ,qs,qg,h.len,bQ (dH (by omega) (by omega)),eT (h.at_ i v c),an,e9];have uniq:∀(j:Nat) x,V[j]? =some x->j≠i->x≠v:=by
   intro j x hx o e;rw [e] at hx;have p:=oZ hx;rw [aT p] at hx;rw [aT a] at c;have l:=(du hx).trans (du c).symm;rcases Nat.lt_or_gt_of_ne o with k|k
   .exact List.pairwise_iff_getElem.1 h.nd j i p a k l
   .exact List.pairwise_iff_getElem.1 h.nd i j a p k l.symm
  have d:∀b q x,x∉V->iP g b v q x=false:=by intro b q x hx;unfold iP;rw [h.out q x hx,n3,Bool.and_eq_false_imp];intro _;exact beq_eq_false_iff_ne.2 (λe=>hx (e▸z))
  rcases A with rfl|rfl
  .rw [show ((0:Int)==0)=true from rfl,cr,show ((0:Int)==1)=false from rfl];refine ⟨_,rfl,⟨h.e1,h.e2,h.e3,by rw [oi];exact h.len,λj x hx=>?_,h.nd,h.ins,d false,h.few⟩⟩;dsimp only;rw [gb (by rw [h.len];exact a)];by_cases e:i=j
   .subst e;rw [c] at hx;rw [cN rfl,<-du hx];simp [iP]
   .rw [cx e,h.at_ j x hx];have:=uniq j x hx (λe'=>e e'.symm);simp [iP,this]
  .rw [show ((1:Int)==0)=false from rfl,aZ,show ((1:Int)==1)=true from rfl,cr];refine ⟨_,rfl,⟨h.e1,h.e2,h.e3,by rw [oi];exact h.len,λj x hx=>?_,h.nd,h.ins,d true,h.few⟩⟩;dsimp only;rw [gb (by rw [h.len];exact a)];by_cases e:i=j
   .subst e;rw [c] at hx;rw [cN rfl,<-du hx];simp [iP]
   .rw [cx e,h.at_ j x hx];have:=uniq j x hx (λe'=>e e'.symm);simp [iP,this]
end So
namespace So
theorem aqq:uH=some true:=by kernel_rfl
end So
namespace So
abbrev Ac:=Int×zB×Int
def unP(t:St)(u:RS)(i:Int):=(t.1,t.2.1,t.2.2.1,t.2.2.2.1.1.1,t.2.2.2.1.1.2.1,t.2.2.2.1.1.2.2,t.2.2.2.1.2,t.2.2.2.2.1.1,t.2.2.2.2.1.2.1.1,t.2.2.2.2.1.2.1.2.1,t.2.2.2.2.1.2.1.2.2,t.2.2.2.2.1.2.2,t.2.2.2.2.2.1.1,t.2.2.2.2.2.1.2,t.2.2.2.2.2.2.1.1.1,t.2.2.2.2.2.2.1.1.2.1,t.2.2.2.2.2.2.1.1.2.2.1,t.2.2.2.2.2.2.1.1.2.2.2.1,t.2.2.2.2.2.2.1.1.2.2.2.2,t.2.2.2.2.2.2.1.2.1.1,t.2.2.2.2.2.2.1.2.1.2.1,t.2.2.2.2.2.2.1.2.1.2.2.1,t.2.2.2.2.2.2.1.2.1.2.2.2.1,t.2.2.2.2.2.2.1.2.1.2.2.2.2,t.2.2.2.2.2.2.1.2.2.1,t.2.2.2.2.2.2.1.2.2.2.1,t.2.2.2.2.2.2.1.2.2.2.2.1,t.2.2.2.2.2.2.1.2.2.2.2.2.1,t.2.2.2.2.2.2.1.2.2.2.2.2.2,t.2.2.2.2.2.2.2.1,t.2.2.2.2.2.2.2.2.1,t.2.2.2.2.2.2.2.2.2.1,t.2.2.2.2.2.2.2.2.2.2.1,t.2.2.2.2.2.2.2.2.2.2.2.1,t.2.2.2.2.2.2.2.2.2.2.2.2,u.1,u.2.1,u.2.2.1,u.2.2.2,i)
theorem arC(t:St):(t.1,t.2.1,t.2.2.1,((t.2.2.2.1.1.1,t.2.2.2.1.1.2.1,t.2.2.2.1.1.2.2),t.2.2.2.1.2),(t.2.2.2.2.1.1,(t.2.2.2.2.1.2.1.1,t.2.2.2.2.1.2.1.2.1,t.2.2.2.2.1.2.1.2.2),t.2.2.2.2.1.2.2),(t.2.2.2.2.2.1.1,t.2.2.2.2.2.1.2),((t.2.2.2.2.2.2.1.1.1,t.2.2.2.2.2.2.1.1.2.1,t.2.2.2.2.2.2.1.1.2.2.1,t.2.2.2.2.2.2.1.1.2.2.2.1,t.2.2.2.2.2.2.1.1.2.2.2.2),(t.2.2.2.2.2.2.1.2.1.1,t.2.2.2.2.2.2.1.2.1.2.1,t.2.2.2.2.2.2.1.2.1.2.2.1,t.2.2.2.2.2.2.1.2.1.2.2.2.1,t.2.2.2.2.2.2.1.2.1.2.2.2.2),(t.2.2.2.2.2.2.1.2.2.1,t.2.2.2.2.2.2.1.2.2.2.1,t.2.2.2.2.2.2.1.2.2.2.2.1,t.2.2.2.2.2.2.1.2.2.2.2.2.1,t.2.2.2.2.2.2.1.2.2.2.2.2.2)),(t.2.2.2.2.2.2.2.1,t.2.2.2.2.2.2.2.2.1,t.2.2.2.2.2.2.2.2.2.1,(t.2.2.2.2.2.2.2.2.2.2.1,t.2.2.2.2.2.2.2.2.2.2.2.1,t.2.2.2.2.2.2.2.2.2.2.2.2)))=t:=rfl
theorem aro(u:RS):(u.1,u.2.1,u.2.2.1,u.2.2.2)=u:=rfl
def K3P(s:List Fd)(l:List Ac)(i:Int)(k:_->zo)(t:St)(u:RS):=ln s l true i k t.1 t.2.1 t.2.2.1 t.2.2.2.1.1.1 t.2.2.2.1.1.2.1 t.2.2.2.1.1.2.2 t.2.2.2.1.2 t.2.2.2.2.1.1 t.2.2.2.2.1.2.1.1 t.2.2.2.2.1.2.1.2.1 t.2.2.2.2.1.2.1.2.2 t.2.2.2.2.1.2.2 t.2.2.2.2.2.1.1 t.2.2.2.2.2.1.2 t.2.2.2.2.2.2.1.1.1 t.2.2.2.2.2.2.1.1.2.1 t.2.2.2.2.2.2.1.1.2.2.1 t.2.2.2.2.2.2.1.1.2.2.2.1 t.2.2.2.2.2.2.1.1.2.2.2.2 t.2.2.2.2.2.2.1.2.1.1 t.2.2.2.2.2.2.1.2.1.2.1 t.2.2.2.2.2.2.1.2.1.2.2.1 t.2.2.2.2.2.2.1.2.1.2.2.2.1 t.2.2.2.2.2.2.1.2.1.2.2.2.2 t.2.2.2.2.2.2.1.2.2.1 t.2.2.2.2.2.2.1.2.2.2.1 t.2.2.2.2.2.2.1.2.2.2.2.1 t.2.2.2.2.2.2.1.2.2.2.2.2.1 t.2.2.2.2.2.2.1.2.2.2.2.2.2 t.2.2.2.2.2.2.2.1 t.2.2.2.2.2.2.2.2.1 t.2.2.2.2.2.2.2.2.2.1 t.2.2.2.2.2.2.2.2.2.2.1 t.2.2.2.2.2.2.2.2.2.2.2.1 t.2.2.2.2.2.2.2.2.2.2.2.2 u.1 u.2.1 u.2.2.1 u.2.2.2
theorem atC(s:List Fd)(l:List Ac)(i:Int)(k:_->zo)(t:St)(u:RS)(j:Nat){e:Ac}(d:(j:Int)<=i)(f:l[j]? =some e)(c:Int->zo){a:Bool×Int}{b:Bool×Int}
  (n:ey t e.2.1=some a) (m:fV u e.2.1=some a) (h:gC t e.2.1 1=some b) (g:iH u e.2.1 1=some b):
  ez s l true i k t.1 t.2.1 t.2.2.1 t.2.2.2.1.1.1 t.2.2.2.1.1.2.1 t.2.2.2.1.1.2.2 t.2.2.2.1.2 t.2.2.2.2.1.1 t.2.2.2.2.1.2.1.1 t.2.2.2.2.1.2.1.2.1 t.2.2.2.2.1.2.1.2.2 t.2.2.2.2.1.2.2 t.2.2.2.2.2.1.1 t.2.2.2.2.2.1.2 t.2.2.2.2.2.2.1.1.1 t.2.2.2.2.2.2.1.1.2.1 t.2.2.2.2.2.2.1.1.2.2.1 t.2.2.2.2.2.2.1.1.2.2.2.1 t.2.2.2.2.2.2.1.1.2.2.2.2 t.2.2.2.2.2.2.1.2.1.1 t.2.2.2.2.2.2.1.2.1.2.1 t.2.2.2.2.2.2.1.2.1.2.2.1 t.2.2.2.2.2.2.1.2.1.2.2.2.1 t.2.2.2.2.2.2.1.2.1.2.2.2.2 t.2.2.2.2.2.2.1.2.2.1 t.2.2.2.2.2.2.1.2.2.2.1 t.2.2.2.2.2.2.1.2.2.2.2.1 t.2.2.2.2.2.2.1.2.2.2.2.2.1 t.2.2.2.2.2.2.1.2.2.2.2.2.2 t.2.2.2.2.2.2.2.1 t.2.2.2.2.2.2.2.2.1 t.2.2.2.2.2.2.2.2.2.1 t.2.2.2.2.2.2.2.2.2.2.1 t.2.2.2.2.2.2.2.2.2.2.2.1 t.2.2.2.2.2.2.2.2.2.2.2.2 u.1 u.2.1 u.2.2.1 u.2.2.2 c (j:Int)=c (i64.wrap ((j:Int)+1)):=by
 unfold ez;simp only [cR];rw [cu d,cr,eT f];simp only [an];rw [arC t,aro u,n,an,m,an,h,an,g,an];simp only [w4,q7];rfl
theorem auo(s:List Fd)(l:List Ac)(i:Int)(k:_->zo)(t:St)(u:RS)(j:Int)(b:¬j<=i)(a:Int->zo):ez s l true i k t.1 t.2.1 t.2.2.1 t.2.2.2.1.1.1 t.2.2.2.1.1.2.1 t.2.2.2.1.1.2.2 t.2.2.2.1.2 t.2.2.2.2.1.1 t.2.2.2.2.1.2.1.1 t.2.2.2.2.1.2.1.2.1 t.2.2.2.2.1.2.1.2.2 t.2.2.2.2.1.2.2 t.2.2.2.2.2.1.1 t.2.2.2.2.2.1.2 t.2.2.2.2.2.2.1.1.1 t.2.2.2.2.2.2.1.1.2.1 t.2.2.2.2.2.2.1.1.2.2.1 t.2.2.2.2.2.2.1.1.2.2.2.1 t.2.2.2.2.2.2.1.1.2.2.2.2 t.2.2.2.2.2.2.1.2.1.1 t.2.2.2.2.2.2.1.2.1.2.1 t.2.2.2.2.2.2.1.2.1.2.2.1 t.2.2.2.2.2.2.1.2.1.2.2.2.1 t.2.2.2.2.2.2.1.2.1.2.2.2.2 t.2.2.2.2.2.2.1.2.2.1 t.2.2.2.2.2.2.1.2.2.2.1 t.2.2.2.2.2.2.1.2.2.2.2.1 t.2.2.2.2.2.2.1.2.2.2.2.2.1 t.2.2.2.2.2.2.1.2.2.2.2.2.2 t.2.2.2.2.2.2.2.1 t.2.2.2.2.2.2.2.2.1 t.2.2.2.2.2.2.2.2.2.1 t.2.2.2.2.2.2.2.2.2.2.1 t.2.2.2.2.2.2.2.2.2.2.2.1 t.2.2.2.2.2.2.2.2.2.2.2.2 u.1 u.2.1 u.2.2.1 u.2.2.2 a j=k (unP t u (i64.wrap (i+1))):=by unfold ez;rw [cM b,aZ];rfl
theorem asj(s:List Fd)(l:List Ac)(b:Int)(a:Int->zo)(k:_->zo)(t:St)(u:RS)(i:Nat)(hi:¬i<l.length):dh s l true b a k (unP t u (i:Int))=a (i64.wrap (b+1)):=by unfold dh;dsimp only [unP];rw [pd hi,aZ]
theorem apx(s:List Fd)(l:List Ac)(b:Int)(a:Int->zo)(k:_->zo)(t:St)(u:RS)(i:Nat){e:Ac}(c:l[i]? =some e):dh s l true b a k (unP t u (i:Int))=
  bif decide ((40:Int)<(e.2.1.length:Int)) then some true
  else bif (Int.tmod e.1 2==0) then (dv t e.2.1).bind λx=>(fY u e.2.1).bind λy=>bif (x.2.1 != y.2.1||x.2.2 != y.2.2) then some false else K3P s l (i:Int) k x.1 y.1
  else (gB t e.2.1 e.2.2).bind λx=>(iJ u e.2.1 e.2.2).bind λy=>bif (x.2 != y.2) then some false else K3P s l (i:Int) k x.1 y.1:=by
 unfold dh;dsimp only [unP];rw [lR (oZ c),cr,eT c];simp only [an,cR];rw [arC t,aro u];rfl
def ET(t:St)(u:RS)(s:List Fd)(n:Nat):Prop:= ∃cap V g,OkS t s cap V g/\Sy u s cap V g n
variable {s : List Fd} {t : St} {u : RS} {n : Nat}
theorem avD(c:ij s)(h:ET t u s n)(l:n<1000)(v:zB)(b:v.length<100000000):∃t' a u',dv t v=some (t',a)/\fY u v=some (u',a)/\ET t' u' s (n+1):=by obtain ⟨cap,V,g,e,d⟩:=h;obtain ⟨t',k,j,_⟩:=auf c e v b;obtain ⟨u',i,f⟩:=asv c.fds d (by omega) v b;exact ⟨t',_,u',k,i,cap,_,g,j,f⟩
theorem avC(c:ij s)(h:ET t u s n)(m:n<1000)(v:zB)(b:v.length<100000000)(f:Int):∃t' a u',gB t v f=some (t',a)/\iJ u v f=some (u',a)/\ET t' u' s n:=by obtain ⟨cap,V,g,e,d⟩:=h;obtain ⟨t',l,k,_⟩:=auk c e v b f;obtain ⟨u',j,i⟩:=as5 c.fds d (by omega) v b f;exact ⟨t',_,u',l,j,cap,_,_,k,i⟩
theorem avB(c:ij s)(h:ET t u s n)(i:n<1000)(v:zB)(b:v.length<100000000)(f:Int):∃a,gC t v f=some a/\iH u v f=some a:=by obtain ⟨cap,V,g,e,d⟩:=h;exact ⟨_,aue c e v b f,ar8 c.fds d (by omega) v b f⟩
theorem avx(c:ij s)(h:ET t u s n)(f:n<1000)(v:zB)(b:v.length<100000000):∃a,ey t v=some a/\fV u v=some a:=by obtain ⟨cap,V,g,e,d⟩:=h;exact ⟨_,auV c e v b,att c.fds d (by omega) v b⟩
theorem avZ(h:ET t u s n):ET t u s (n+1):=by obtain ⟨cap,V,g,b,a⟩:=h;exact ⟨cap,V,g,b,⟨a.e1,a.e2,a.e3,a.len,a.at_,a.nd,a.ins,a.out,by have:=a.few;omega⟩⟩
theorem ajb(c:ij s)(h:ET t u s n)(d:n<1000){l:List Ac}{i:Nat}(hi:i<l.length)(f:i<1000)(g:∀(j:Nat) e,l[j]? =some e->j<=i->e.2.1.length<=40)(k:_->zo):∀(N j:Nat),j<=i+1->i+2<=N+j->
  ax (ez s l true (i:Int) k t.1 t.2.1 t.2.2.1 t.2.2.2.1.1.1 t.2.2.2.1.1.2.1 t.2.2.2.1.1.2.2 t.2.2.2.1.2 t.2.2.2.2.1.1 t.2.2.2.2.1.2.1.1 t.2.2.2.2.1.2.1.2.1 t.2.2.2.2.1.2.1.2.2 t.2.2.2.2.1.2.2 t.2.2.2.2.2.1.1 t.2.2.2.2.2.1.2 t.2.2.2.2.2.2.1.1.1 t.2.2.2.2.2.2.1.1.2.1 t.2.2.2.2.2.2.1.1.2.2.1 t.2.2.2.2.2.2.1.1.2.2.2.1 t.2.2.2.2.2.2.1.1.2.2.2.2 t.2.2.2.2.2.2.1.2.1.1 t.2.2.2.2.2.2.1.2.1.2.1 t.2.2.2.2.2.2.1.2.1.2.2.1 t.2.2.2.2.2.2.1.2.1.2.2.2.1 t.2.2.2.2.2.2.1.2.1.2.2.2.2 t.2.2.2.2.2.2.1.2.2.1 t.2.2.2.2.2.2.1.2.2.2.1 t.2.2.2.2.2.2.1.2.2.2.2.1 t.2.2.2.2.2.2.1.2.2.2.2.2.1 t.2.2.2.2.2.2.1.2.2.2.2.2.2 t.2.2.2.2.2.2.2.1 t.2.2.2.2.2.2.2.2.1 t.2.2.2.2.2.2.2.2.2.1 t.2.2.2.2.2.2.2.2.2.2.1 t.2.2.2.2.2.2.2.2.2.2.2.1 t.2.2.2.2.2.2.2.2.2.2.2.2 u.1 u.2.1 u.2.2.1 u.2.2.2) N (j:Int)=k (unP t u (i64.wrap ((i:Int)+1)))
 |0,j,h1,h2=>by omega
 |N+1,j,h1,h2=>by
  rw [bF];by_cases v:j<=i
  .have m:=aT (show j<l.length by omega);have w:=g j _ m v;obtain ⟨a,r,q⟩:=avx c h d l[j].2.1 (by omega);obtain ⟨b,p,o⟩:=avB c h d l[j].2.1 (by omega) 1;rw [atC s l (i:Int) k t u j (by omega) m _ r q p o,nx (by omega)];exact ajb c h d hi f g k N (j+1) (by omega) (by omega)
  .rw [auo s l (i:Int) k t u (j:Int) (by omega)]
theorem afD(o:ij s){l:List Ac}(z:l.length<=40)(c:Int)(b:Int->zo)(w:b (i64.wrap (c+1))=some true):∀(d i:Nat) (t:St) (u:RS) (N:Nat),i+d=l.length->d<N->(∀(j:Nat) e,l[j]? =some e->j<i->e.2.1.length<=40)->ET t u s i->
  ax (dh s l true c b) N (unP t u (i:Int))=some true
 |0,i,t,u,N,hi,hN,hf,h=>by
  obtain ⟨m,rfl⟩:∃m,N=m+1:=⟨N-1,by omega⟩;rw [bF,asj s l c b _ t u i (by omega),w]
 |d+1,i,t,u,N,hi,hN,hf,h=>by
  obtain ⟨m,rfl⟩:∃m,N=m+1:=⟨N-1,by omega⟩;have g:i<l.length:=by omega
  have p:=aT g;rw [bF,apx s l c b _ t u i p];generalize l[i]=e at p;by_cases n:(40:Int)<(e.2.1.length:Int)
  .rw [cu n,cr]
  .have k:∀(j:Nat) x,l[j]? =some x->j<=i->x.2.1.length<=40:=λj x hx f=>by
    rcases Nat.lt_or_eq_of_le f with f|f
    .exact hf j x hx f
    .rw [f,p] at hx;rw [<-du hx];omega
   have next:∀t' u',ET t' u' s (i+1)->K3P s l (i:Int) (ax (dh s l true c b) m) t' u'=some true:=by intro t' u' y;unfold K3P ln;have:=ajb o y (by omega) g (by omega) k (ax (dh s l true c b) m) aA 0 (by omega) (by show i+2<=18446744073709551616+0;omega);refine Eq.trans this ?_;rw [nx (by omega)];exact afD o z c b w d (i+1) t' u' m (by omega) (by omega) (λj x hx f=>k j x hx (by omega)) y
   rw [cM n,aZ];cases (Int.tmod e.1 2==0)
   .obtain ⟨t',a,u',v,r,q⟩:=avC o h (by omega) e.2.1 (by omega) e.2.2;rw [aZ,v,an,r,an];dsimp only;rw [w4,aZ];exact next t' u' (avZ q)
   .obtain ⟨t',a,u',v,r,q⟩:=avD o h (by omega) e.2.1 (by omega);rw [cr,v,an,r,an];dsimp only;rw [w4,w4,q7,aZ];exact next t' u' q
theorem asD(s:List Fd)(a:Int):nL s a=some (if a<0\/1048576<a then (([],0,[],[]),1) else ((s,a,[],[]),0)):=by
 unfold nL;simp only [cR];by_cases h:a<0\/1048576<a
 .rw [cN h,show (decide (a<0)||decide (1048576<a))=true by simpa using h];rfl
 .rw [cx h,show (decide (a<0)||decide (1048576<a))=false by simp;omega];rfl
theorem Xn(c:FI s)(a:Int){l:List Ac}(n:l.length<=40):∀(N k:Nat),k<=4->5<=N+k->ax (iD s a l true (rX s)) N (k:Int)=some true
 |0,k,h1,h2=>by omega
 |N+1,k,h1,h2=>by
  have ih:=Xn c a n N (k+1);rw [bF];generalize ax (iD s a l true (rX s)) N=f at ih ⊢;unfold iD;by_cases p:k<4
  .have g:f (i64.wrap ((k:Int)+1))=some true:=by rw [nx (by omega)];exact ih (by omega) (by omega)
   rw [cu (by omega),cr,asD];simp only [cR];by_cases b:ij s
   .rw [GR.2 b];by_cases m:a<0\/1048576<a
    .have d:=(ai3 c b ((k:Int),a,0,0,0,0) (by dsimp only;omega)).1 m;rw [d,an,an,cN m];exact g
    .obtain ⟨t,d,o,_⟩:=(ai3 c b ((k:Int),a,0,0,0,0) (by dsimp only;omega)).2 (by dsimp only;omega) (by dsimp only;omega);rw [d,an,an,cx m];have:=afD b n (k:Int) f g l.length 0 t (s,a,[],[]) aA (by omega) (by show l.length<18446744073709551616;omega) (λj e _ h=>by omega)
      ⟨_,_,_,o,⟨rfl,rfl,rfl,rfl,λi v h=>by simp at h,qN,λv h=>by simp at h,λ_ _ _=>rfl,b7 _⟩⟩
     exact this
   .have hb:rX s=false:=by
     cases hb:rX s
     .rfl
     .exact absurd (GR.1 hb) b
    rw [ar4 c ((k:Int),a,0,0,0,0) (λh=>b h.1),hb,an,an];exact g
  .rw [cM (by omega),aZ]
theorem aaS(s:List Fd)(a:Int)(l:List Ac)(b:FI s):jQ s a l=some true:=by
 unfold jQ;rw [aqq,an];simp only [cR];by_cases d:(20:Int)<(s.length:Int)
 .rw [cu d,vl,cr]
 .by_cases c:(40:Int)<(l.length:Int)
  .rw [cu c,Bool.or_true,cr]
  .rw [cM d,cM c,q7,aZ,anb b,an];exact Xn b a (by omega) aA 0 (by omega) (by show 5<=18446744073709551616+0;omega)
end So
variable {P : Program} {w : World}
open Go.Lib Go.ChangeAt Go.ChangeShapes Go.WideShapes Go.RowKit
theorem Z4{P:Program}{w:World}:∀(l:List (String×DataW Unit)) (ps:List MemPlace),DataW.LaidVars P w l ps->∀(i:Nat) (n:String) (d:DataW Unit),l[i]? =some (n,d)->
  ∃g t cs a p,P.globalNamed n=some g/\(P.globals[g]?).map (·.type)=some t/\w.var? P n=some cs/\DataW.trod (λ_=>()) P w 0 (λ_=>true) false a t cs.toList=some (d,p)
 |[],_,_,i,n,d,h=>by simp at h
 |(n0,d0)::l,ps,h,i,n,d,hi=>by
  obtain ⟨g,t,cs,a,p,q,j,f,e,c,b,_⟩:=h;cases i with
  |zero=>
   simp only [gy,cH,p8] at hi;obtain ⟨rfl,rfl⟩:=hi;exact ⟨g,t,cs,a,p,j,f,e,c⟩
  |succ i=>exact Z4 l q b i n d (by simpa using hi)
theorem acD{H:Type}{enc:TypeId×Value->H}{f:Nat}{q:Nat->Bool}{d:Bool}{a:Nat}{t e:TypeId}{n:Nat}{cs:zq}{zs:List aS}{p:List MemPlace}
  (u:P.underlying t=some (.array n e)) (x:P.underlying e=some .string) (l:P.cellsOf e=1) (k:P.cellsOf t=n)
  (h:DataW.trod enc P w f q d a t cs=some (.agg (zs.map λz=> .lit (.string z)),p)):cs=zs.map S:=by
 cases a with
 |zero=>simp [DataW.trod] at h
 |succ a=>
  simp only [DataW.trod,u,l,k,xa] at h;split at h
  .rename_i C;obtain ⟨xs,o,hx⟩:=Option.map_eq_some_iff.1 h;have c:xs.map (·.1)=zs.map λz=>(DataW.lit (.string z):DataW H):=by have:=congrArg Prod.fst hx;simpa using this
   have s:xs.length=n:=by simpa using mapM_length o
   have r:zs.length=n:=by have:=congrArg List.length c;simp at this;omega
   apply nc;intro i;by_cases hi:i<n
   .obtain ⟨b,hb,v⟩:=mapM_at o i i (by simp [hi]);obtain ⟨z,y,rfl,_⟩:=DataW.trod_string x v;have A:cs[i]? =some (.string z):=by have:=congrArg (·[0]?) y;simpa [mo,lk] using this
    have m:(xs.map (·.1))[i]? =some (DataW.lit (.string z.data.toList):DataW H):=by simp [hb]
    rw [c] at m;simp only [np,Option.map_eq_some_iff,DataW.lit.injEq,Lit.string.injEq] at m;obtain ⟨B,j,g⟩:=m;subst g;simp [A,j,S]
   .rw [cw (by omega),cw (by simp;omega)]
  .cases h
theorem alM{laid:List (String×DataW Unit)}(a:(laid.filter λx=>x.2.handleName?.isSome)=[])(h:laidMetH P laid w):laidMet P laid w:=by unfold laidMetH at h;rw [a] at h;exact h
theorem Qu{laid:List (String×DataW Unit)}{Γ:Ctx}(h:laidMet P laid w)(i:Nat){n:String}{zs:List aS}{g:Nat}{t e:TypeId}{k:Nat}
  (hi:laid[i]? =some (n,.agg (zs.map λz=> .lit (.string z)))) (m:P.globalNamed n=some g) (b:(P.globals[g]?).map (·.type)=some t)
  (q:P.underlying t=some (.array k e)) (s:P.underlying e=some .string) (l:P.cellsOf e=1) (j:P.cellsOf t=k) (v:¬ Γ.M g):(gl g (zs.map S)).P Γ.M w:=by
 obtain ⟨ps,r,_⟩:=h;obtain ⟨g',t',cs,o,p,f,d,a,u⟩:=Z4 _ _ r i n _ hi;obtain rfl:=du (m.symm.trans f);obtain rfl:=du (b.symm.trans d);have e1:=acD q s l j u;refine ⟨v,?_⟩;unfold World.var? at a;rw [m] at a;simp only [q8] at a;split at a
 next c ty fr hb=>obtain rfl:=du a;exact ⟨ty,fr,by rw [hb,<-e1]⟩
 .cases a
theorem asJ{laid:List (String×DataW Unit)}{Γ:Ctx}(h:laidMet P laid w)(i:Nat){n:String}{kd:IntKind}{zs:zB}{g:Nat}{t e:TypeId}{k:Nat}
  (hi:laid[i]? =some (n,tabData kd zs)) (m:P.globalNamed n=some g) (b:(P.globals[g]?).map (·.type)=some t)
  (q:P.underlying t=some (.array k e)) (s:P.underlying e=some (.int kd)) (l:P.cellsOf e=1) (j:P.cellsOf t=k) (v:¬ Γ.M g):(gl g (zs.map (Value.int kd))).P Γ.M w:=by
 obtain ⟨ps,r,_⟩:=h;obtain ⟨g',t',cs,o,p,f,d,a,u⟩:=Z4 _ _ r i n _ hi;obtain rfl:=du (m.symm.trans f);obtain rfl:=du (b.symm.trans d);have e1:=cells_of_tab q s l j u;refine ⟨v,?_⟩;unfold World.var? at a;rw [m] at a;simp only [q8] at a;split at a
 next c ty fr hb=>obtain rfl:=du a;exact ⟨ty,fr,by rw [hb,<-e1]⟩
 .cases a
def JG(Γ:Ctx):Prop:= ∀b,¬ Γ.M b
theorem ai6:JG []:=λb h=>by obtain ⟨it,h,_⟩:=h;cases h
theorem vN{it:Item}{Γ:Ctx}(hp:it.own=[])(h:JG Γ):JG (it::Γ):=λb hb=>by
 rcases Ctx.EY.1 hb with a|a
 .rw [hp] at a;cases a
 .exact h b a
theorem amC(w:World):Sat [kept w (λ_=>False)] w:=Sat.nil.add rfl ⟨hU.refl w,b7 _,λb _ _=>⟨ai6 b,rfl⟩⟩
theorem amx(w:World):JG [kept w (λ_=>False)]:=vN rfl ai6
theorem apV{Γ:Ctx}(h:JG Γ):Mv (λ_=>False) w Γ.M w:=⟨b7 _,λb _ _=>⟨h b,rfl⟩⟩
theorem aon{w':World}{Γ:Ctx}{i:Nat}(h:Sat Γ w')(hi:Γ[i]? =some (kept w (λ_=>False))):Below w.heap.size w w':=by obtain ⟨a,d,c⟩:=h.kept hi;exact ⟨a.os,a.tape,a.output,d,λk b=>(c k b (λh=>h)).2⟩
theorem Wm{Y:Type}(R:Nat->Y->Ex->Prop):∀(ys:List Y),(∀i y,ys[i]? =some y->∃e,R i y e)->∃l:List Ex,l.length=ys.length/\∀i y e,ys[i]? =some y->l[i]? =some e->R i y e
 |[],_=>⟨[],rfl,λi y e h=>by simp at h⟩
 |y::ys,h=>by
  obtain ⟨e,f⟩:=h 0 y rfl;obtain ⟨l,d,c⟩:=Wm (λi=>R (i+1)) ys (λi y a=>h (i+1) y (by simpa using a));refine ⟨e::l,by simp [d],λi b e' a hx=>?_⟩;cases i with
  |zero=>
   simp only [gy,cH] at a hx;subst a;subst hx;exact f
  |succ i=>exact c i b e' (by simpa using a) (by simpa using hx)
theorem anq{H:Type}:∀(l:List Ex) (ds:List (DataW H)),l.length=ds.length->(∀(i:Nat) (e:Ex) (d:DataW H),l[i]? =some e->ds[i]? =some d->e.sz<=Rows.uptoBulk d)->szL l<=Rows.uptoBulkAll ds
 |[],[],_,_=>b7 _
 |e::l,d::ds,hl,h=>by
  have f:=h 0 e d rfl rfl;have c:=anq l ds (by simpa using hl) (λi e d a b=>h (i+1) e d (by simpa using a) (by simpa using b));simp only [szL,Rows.uptoBulkAll];omega
 |[],_::_,h,_=>by simp at h
 |_::_,[],h,_=>by simp at h
theorem Vr{H:Type}(d:DataW H):1<=Rows.uptoBulk d:=by
 cases d with
 |lit l=>cases l <;> simp [Rows.uptoBulk]
 |nil=>simp [Rows.uptoBulk]
 |ptr d=>simp [Rows.uptoBulk]
 |slice e b=>simp [Rows.uptoBulk]
 |agg c=>simp [Rows.uptoBulk]
 |iface t d=>simp [Rows.uptoBulk]
 |map a=>simp [Rows.uptoBulk]
 |held h=>simp [Rows.uptoBulk]
theorem G5{H:Type}{d:DataW H}:∀{l:List (DataW H)},d∈l->Rows.uptoBulk d<=Rows.uptoBulkAll l
 |x::r,h=>by
  simp only [Rows.uptoBulkAll];rcases List.mem_cons.1 h with rfl|h
  .omega
  .have:=G5 h;omega
structure am5(P:Program)(t:TypeId):Prop where
 fields:∃(fs:Array Field) (f0 f1 f2 f3:Field),P.underlying t=some (.struct fs)/\fs.size=4/\fs[0]? =some f0/\fs[1]? =some f1/\fs[2]? =some f2/\fs[3]? =some f3/\
  (f0.offset=0/\P.underlying f0.type=some (.int .i64)/\P.cellsOf f0.type=1)/\(f1.offset=1/\P.underlying f1.type=some (.int .i64)/\P.cellsOf f1.type=1)/\
  (f2.offset=2/\P.underlying f2.type=some (.int .i64)/\P.cellsOf f2.type=1)/\(f3.offset=3/\P.underlying f3.type=some (.slice t)/\P.cellsOf f3.type=1)
 cells:P.cellsOf t=4
theorem auJ{a:Nat}{t:TypeId}{v:Value}{c:Array Field}(b:P.underlying t=some (.struct c))(h:Value.okWide P w .any a t v):
  ∃cs,v= .agg cs/\cs.size=P.cellsOf t/\Row.okWide P w .any a t cs:=by
 unfold Value.okWide at h;rw [b] at h;exact h
theorem ak1{a:Addr}{v:Value}(h:w.cell? a=some v):a.spot=none/\∃cs e fr,w.heap[a.block]? =some (.cells cs e fr)/\cs[a.off]? =some v:=by
 unfold World.cell? at h;split at h
 .rename_i cs e fr hb;split at h
  .cases h
  next b=>exact ⟨by simpa using b,cs,e,fr,hb,h⟩
 .cases h
theorem alZ{H:Type}{enc:TypeId×Value->H}{W:World}{t:TypeId}(L:am5 P t):∀(o:Nat) (cs:zq) (x:DataW H×List MemPlace),
  DataW.trod enc P W 0 (λ_=>true) true o t cs=some x->∃e,xq (λ_=>False) W cs e/\e.sz<=Rows.uptoBulk x.1:=by
 intro o
 induction o using Nat.strongRecOn with
 |ind o ih=>
 intro cs x h;obtain ⟨⟨fs,f0,f1,f2,f3,hT,hsz,g0,g1,g2,g3,⟨o0,u0,c0⟩,⟨o1,u1,c1⟩,⟨o2,u2,c2⟩,⟨o3,u3,c3⟩⟩,hc⟩:=L;obtain ⟨xs,n,rfl,rfl,hl,C,V⟩:=DataW.trod_struct hT h;rw [hc] at hl;rw [hsz] at C;obtain ⟨a0,U,T,B,rfl⟩:∃a0 U T B,cs=[a0,U,T,B]:=by
  match cs,hl with
  |[a,b,c,d],_=>exact ⟨a,b,c,d,rfl⟩
 obtain ⟨x0,x1,x2,z,rfl⟩:∃a0 U T B,xs=[a0,U,T,B]:=by
  match xs,C with
  |[a,b,c,d],_=>exact ⟨a,b,c,d,rfl⟩
 have Z:=V 0 f0 g0;have t1:=V 1 f1 g1;have t2:=V 2 f2 g2;have Y:=V 3 f3 g3;rw [o0,c0] at Z;rw [o1,c1] at t1;rw [o2,c2] at t2;rw [o3,c3] at Y;simp only [qa,tj,List.take_zero,List.drop_succ_cons,gy,c8] at Z t1 t2 Y;obtain ⟨w,e0,_,_⟩:=DataW.trod_int u0 Z;obtain ⟨v,e1,_,_⟩:=DataW.trod_int u1 t1;obtain ⟨u,e2,_,_⟩:=DataW.trod_int u2 t2;obtain rfl:a0= .int .i64 w:=by simpa using e0
 obtain rfl:U= .int .i64 v:=by simpa using e1
 obtain rfl:T= .int .i64 u:=by simpa using e2
 have hb:∀d,z.1=d->Rows.uptoBulk d+1<=Rows.uptoBulk (DataW.agg ([x0,x1,x2,z].map (·.1))):=λd X=>by subst X;have:=G5 (d:=z.1) (l:=[x0,x1,x2,z].map (·.1)) (by simp);simp only [Rows.uptoBulk];omega
 rcases DataW.trod_slice u3 Y with ⟨p,D⟩|⟨a,len,cap,f,rest,m,rfl,p,D,_,hlc,_,I,N,hsp,_⟩
 .obtain rfl:B= .slice none 0 0:=by simpa using p
  refine ⟨.mk w v u [],.nil w v u none,?_⟩;have:=hb _ rfl;have:=Vr z.1;simp only [Ex.sz,szL];omega
 .obtain rfl:B= .slice (some a) len cap:=by simpa using p
  obtain ⟨hrl,F⟩:=hsp rfl;rw [hc] at N F
  -- all of it is there
  have cell:∀i,i<cap->∃us y,W.cells? 0 (a.add (i*4)) 4=some us/\us.length=4/\(∀j,j<4->W.cell? ((a.add (i*4)).add j)=us[j]?)/\DataW.trod enc P W 0 (λ_=>true) true m t us=some y/\(i<len->f[i]? =some y):=λi hi=>by
   by_cases K:i<len
   .obtain ⟨y,q⟩:∃y,f[i]? =some y:=⟨f[i]'(by omega),aT _⟩;have:=N i K;rw [q,qW] at this;obtain ⟨us,A,R⟩:=this;obtain ⟨_,p,s⟩:=World.cells?_some A;exact ⟨us,y,A,p,s,R,λ_=>q⟩
   .obtain ⟨y,q⟩:∃y,rest[i-len]? =some y:=⟨rest[i-len]'(by omega),aT _⟩;have:=F (i-len) (by omega);rw [q,qW] at this;obtain ⟨us,A,R⟩:=this;have e:len+(i-len)=i:=by omega
    rw [e] at A;obtain ⟨_,p,s⟩:=World.cells?_some A;exact ⟨us,y,A,p,s,R,λh=>absurd h K⟩
  by_cases O:cap=0
  .subst O;obtain rfl:len=0:=by omega
   refine ⟨.mk w v u [],.nil w v u (some a),?_⟩;have:=hb _ rfl;have:=Vr z.1;simp only [Ex.sz,szL];omega
  .obtain ⟨us0,_,_,hl0,hc0,_⟩:=cell 0 (by omega);have S:=hc0 0 (by omega);rw [aT (by omega)] at S;obtain ⟨hs,k,e',fr,Q,_⟩:=ak1 S;have E:a.spot=none:=by simpa [Addr.add] using hs
   have g:W.heap[a.block]? =some (.cells k e' fr):=by simpa [Addr.add] using Q
   obtain ⟨b,off,sp⟩:=a;simp only at E g;subst E;have at_:∀i j,((⟨b,off,none⟩:Addr).add (i*4)).add j=⟨b,off+i*4+j,none⟩:=λi j=>by unfold Addr.add;split <;> split <;> simp_all
   have r:∀i,i<cap->∃us y,us.length=4/\(∀j,j<4->k[off+i*4+j]? =us[j]?)/\DataW.trod enc P W 0 (λ_=>true) true m t us=some y/\(i<len->f[i]? =some y):=λi hi=>by obtain ⟨us,y,_,p,s,h5,h6⟩:=cell i hi;refine ⟨us,y,p,λj J=>?_,h5,h6⟩;have:=s j J;rw [at_] at this;simpa [World.cell?,g] using this
   have hsize:off+cap*4<=k.size:=by obtain ⟨us,_,p,s,_⟩:=r (cap-1) (by omega);have:=s 3 (by omega);rw [aT (by omega)] at this;have:=(Array.getElem?_eq_some_iff.1 this).1;omega
   have M:∀i y,f[i]? =some y->∃e,(xq (λ_=>False) W (((k.toList.drop off).drop (i*4)).take 4) e/\e.sz<=Rows.uptoBulk y.1):=λi y q=>by
    have hi:i<len:=by rw [<-I];exact (List.getElem?_eq_some_iff.1 q).1
    obtain ⟨us,y',p,s,h5,h6⟩:=r i (by omega);obtain rfl:y'=y:=by have:=h6 hi;rw [q] at this;exact (du this).symm
    have hus:((k.toList.drop off).drop (i*4)).take 4=us:=by
     apply nc;intro j;by_cases J:j<4
     .rw [mo,cN J,lk,lk,<-s j J];simp [qC]
     .rw [mo,cx J,cw (by omega)]
    rw [hus];exact ih m (by omega) us y' h5
   obtain ⟨l,hll,hR⟩:=Wm (λi y e=>xq (λ_=>False) W (((k.toList.drop off).drop (i*4)).take 4) e/\e.sz<=Rows.uptoBulk y.1) f M;have G:l.length=len:=by omega
   refine ⟨.mk w v u l,?_,?_⟩
   .rw [<-G];refine .some w v u l b off cap k e' fr (λh=>h) g (by omega) (by omega) ?_ (λi hi=>?_)
    .simp only [b9,ec,de];omega
    .obtain ⟨y,q⟩:∃y,f[i]? =some y:=⟨f[i]'(by omega),aT _⟩;have:=(hR i y l[i] q (aT _)).1;rw [qn,pF];have e4:min 4 (l.length*4-i*4)=4:=by omega
     rw [e4];exact this
   .have A:=anq l (f.map (·.1)) (by simp [hll]) (λi e d he X=>by rw [np,Option.map_eq_some_iff] at X;obtain ⟨y,q,rfl⟩:=X;exact (hR i y e q he).2)
    have R:z.1= .slice (f.map (·.1)) (rest.map (·.1)):=by rw [D]
    have p:=hb _ R;simp only [Ex.sz];have s:Rows.uptoBulk (DataW.slice (f.map (·.1)) (rest.map (·.1)))=Rows.uptoBulkAll (f.map (·.1))+Rows.uptoBulkAll (rest.map (·.1))+1:=by simp only [Rows.uptoBulk]
    omega
variable {Q : Nat -> Prop} {W : World}
open Go.ChangeMaps (open_string)
def uM:Ty->zf
 | .p a b=>uM a++uM b
 | .l _|.ex=>[none]
 |_=>[]
def at3:Ty->Pt
 | .i k=> .int k
 | .bo=> .bool
 | .s=> .str
 | .l t=> .sli t
 |t=> .dat t (uM t)
def Cw(Q:Nat->Prop):(t:Ty)->t.T->Prop
 | .i k,x=>(Lit.int k x).wf=true
 | .s,x=>x.length<=9223372036854775807
 | .p a b,x=>Cw Q a x.1/\Cw Q b x.2
 | .l t,x=>(List.length (α:=t.T) x<=9223372036854775807/\Q (List.length (α:=t.T) x))/\∀y:t.T,List.Mem y x->Cw Q t y
 | .ex,x=>Q x.sz
 |_,_=>True
def NH(P:Program)(t:TypeId):Bool:=(match P.underlying t with
 |some (.int .i64)=>true
 |_=>false)&&P.cellsOf t==1
def exB(P:Program)(t:TypeId):Bool:=(match P.underlying t with
 |some (.struct fs)=>(match fs.toList with
  |[f0,f1,f2,f3]=>f0.offset==0&&NH P f0.type&&(f1.offset==1&&NH P f1.type)&&(f2.offset==2&&NH P f2.type)&&(f3.offset==3&&P.cellsOf f3.type==1&&(match P.underlying f3.type with
   |some (.slice e)=>e==t
   |_=>false))
  |_=>false)
 |_=>false)&&P.cellsOf t==4
def CX(P:Program)(fit:TypeId->Ty->Bool)(tot:Nat):List Field->Nat->Ty->Bool
 |[],_,_=>false
 |[f],off,t=>f.offset==off&&off+P.cellsOf f.type==tot&&P.cellsOf f.type==t.rep.n&&fit f.type t
 |f::g::fs,off,t=>match t with
  | .p a b=>f.offset==off&&P.cellsOf f.type==a.rep.n&&fit f.type a&&CX P fit tot (g::fs) (off+P.cellsOf f.type) b
  |_=>false
def fits(P:Program):Nat->TypeId->Ty->Bool
 |0,_,_=>false
 |n+1,i,t=>match P.underlying i with
  |some (.int k)=>(match t with
   | .i k'=>decide (k=k')
   |_=>false)
  |some .bool=>(match t with
   | .bo=>true
   |_=>false)
  |some .string=>(match t with
   | .s=>true
   |_=>false)
  |some (.slice e)=>(match t with
   | .l u=>P.cellsOf e==u.rep.n&&Nat.blt 0 u.rep.n&&fits P n e u
   |_=>false)
  |some (.struct fs)=>(match t with
   | .ex=>exB P i
   | .p a b=>CX P (fits P n) (P.cellsOf i) fs.toList 0 (.p a b)
   |_=>false)
  |_=>false
def noN:Ty->Bool
 | .n=>false
 | .p a b=>noN a&&noN b
 |_=>true
theorem N6{P:Program}{c:TypeId->Ty->Bool}(h:∀i t,c i t=true->noN t=true){d:Nat}:∀(j:List Field) (off:Nat) (t:Ty),CX P c d j off t=true->noN t=true
 |[],_,_,e=>by cases e
 |[f],off,t,e=>by
  simp only [CX,ah] at e;exact h _ _ e.2
 |f::g::j,off,t,e=>by
  unfold CX at e;split at e
  next a b=>simp only [ah] at e;simp only [noN,ah];exact ⟨h _ _ e.1.2,N6 h (g::j) _ b e.2⟩
  .cases e
theorem aeA{P:Program}:∀(n:Nat) (i:TypeId) (t:Ty),fits P n i t=true->noN t=true
 |0,_,_,e=>by cases e
 |n+1,i,t,e=>by
  unfold fits at e;split at e <;> (try cases e)
  .split at e
   .rfl
   .cases e
  .split at e
   .rfl
   .cases e
  .split at e
   .rfl
   .cases e
  .split at e
   .rfl
   .cases e
  .split at e
   .rfl
   .exact N6 (λi t=>aeA n i t) _ _ _ e
   .cases e
theorem wo{t:TypeId}(h:NH P t=true):P.underlying t=some (.int .i64)/\P.cellsOf t=1:=by
 unfold NH at h;simp only [ah,kR] at h;refine ⟨?_,h.2⟩;revert h;split
 next h=>intro _;exact h
 .intro h;cases h.1
theorem auE{t:TypeId}(h:exB P t=true):am5 P t:=by
 unfold exB at h;simp only [ah,kR] at h;obtain ⟨a,r⟩:=h;split at a
 .rename_i f b;split at a
  .rename_i l k j c d;simp only [ah,kR] at a;obtain ⟨⟨⟨⟨a0,o⟩,x,n⟩,w,m⟩,⟨v,s⟩,u⟩:=a;have g:∀i:Nat,f[i]? =[l,k,j,c][i]? :=λi=>by rw [<-d,qE]
   have p:P.underlying c.type=some (.slice t):=by
    revert u;split
    next e q=>intro hb;rw [q,(by simpa using hb:e=t)]
    .intro hb;cases hb
   refine ⟨⟨f,l,k,j,c,b,?_,g 0,g 1,g 2,g 3,⟨a0,(wo o).1,(wo o).2⟩,⟨x,(wo n).1,(wo n).2⟩,⟨w,(wo m).1,(wo m).2⟩,⟨v,p,s⟩⟩,r⟩;rw [<-de,d];rfl
  .cases a
 .cases a
theorem aqY{a:Addr}{v:Value}(h:w.cell? a=some v):a.spot=none/\∃cs e fr,w.heap[a.block]? =some (.cells cs e fr)/\cs[a.off]? =some v:=by
 unfold World.cell? at h;split at h
 .rename_i cs e fr hb;split at h
  .cases h
  next b=>exact ⟨by simpa using b,cs,e,fr,hb,h⟩
 .cases h
theorem SN{Y α:Type}(R:Nat->Y->α->Prop):∀(ys:List Y),(∀i y,ys[i]? =some y->∃e,R i y e)->∃l:List α,l.length=ys.length/\∀i y e,ys[i]? =some y->l[i]? =some e->R i y e
 |[],_=>⟨[],rfl,λi y e h=>by simp at h⟩
 |y::ys,h=>by
  obtain ⟨e,f⟩:=h 0 y rfl;obtain ⟨l,d,c⟩:=SN (λi=>R (i+1)) ys (λi y a=>h (i+1) y (by simpa using a));refine ⟨e::l,by simp [d],λi b e' a hx=>?_⟩;cases i with
  |zero=>
   simp only [gy,cH] at a hx;subst a;subst hx;exact f
  |succ i=>exact c i b e' (by simpa using a) (by simpa using hx)
theorem Sd{H:Type}:∀(l:List (DataW H)),l.length<=Rows.uptoBulkAll l
 |[]=>qf _
 |d::l=>by have:=Sd l;have:=Vr d;simp only [p0,Rows.uptoBulkAll];omega
theorem amu{H α:Type}{enc:TypeId×Value->H}{t e:TypeId}{A:eB α}{D:α->Prop}(ht:P.underlying t=some (.slice e))(hA:P.cellsOf e=A.n)(hn:0<A.n)
  (p:Nat) (cs:zq) (x:DataW H×List MemPlace) (N:∀n,n<=Rows.uptoBulk x.1->Q n)
  (he:∀(p:Nat) (us:zq) (y:DataW H×List MemPlace),(∀n,n<=Rows.uptoBulk y.1->Q n)->DataW.trod enc P W 0 (λ_=>true) true p e us=some y->∃z,A.rd (λ_=>False) W us z/\D z)
  (h:DataW.trod enc P W 0 (λ_=>true) true p t cs=some x):
  ∃(u:gP) (zs:List α),cs=[sl u]/\bW A (λ_=>False) W (sl u) zs/\(zs.length<=9223372036854775807/\Q zs.length)/\∀z∈zs,D z:=by
 rcases DataW.trod_slice ht h with ⟨o,_⟩|⟨a,len,cap,c,rest,m,rfl,o,hx,_,hlc,B,E,J,T,_⟩
 .exact ⟨(none,0,0),[],o,bW.nil,⟨by simp,N _ (qf _)⟩,by simp⟩
 .obtain ⟨hrl,w⟩:=T rfl;rw [hA] at J w;have B:cap<=9223372036854775807:=B;have hb:Rows.uptoBulk x.1=Rows.uptoBulkAll (c.map (·.1))+Rows.uptoBulkAll (rest.map (·.1))+1:=by rw [hx];simp only [Rows.uptoBulk]
  have hlb:len<=Rows.uptoBulk x.1:=by have:=Sd (c.map (·.1));simp only [qi] at this;omega
  have V:∀y∈c,∀n,n<=Rows.uptoBulk y.1->Q n:=λy k n hn=>N n (by have:=G5 (d:=y.1) (l:=c.map (·.1)) (List.mem_map.2 ⟨y,k,rfl⟩);omega)
  have cell:∀i,i<cap->∃us y,us.length=A.n/\(∀j,j<A.n->W.cell? ((a.add (i*A.n)).add j)=us[j]?)/\DataW.trod enc P W 0 (λ_=>true) true m e us=some y/\(i<len->c[i]? =some y):=λi hi=>by
   by_cases G:i<len
   .obtain ⟨y,k⟩:∃y,c[i]? =some y:=⟨c[i]'(by omega),aT _⟩;have:=J i G;rw [k,qW] at this;obtain ⟨us,O,Z⟩:=this;obtain ⟨_,o,r⟩:=World.cells?_some O;exact ⟨us,y,o,r,Z,λ_=>k⟩
   .obtain ⟨y,k⟩:∃y,rest[i-len]? =some y:=⟨rest[i-len]'(by omega),aT _⟩;have:=w (i-len) (by omega);rw [k,qW,show len+(i-len)=i by omega] at this;obtain ⟨us,O,Z⟩:=this;obtain ⟨_,o,r⟩:=World.cells?_some O;exact ⟨us,y,o,r,Z,λh=>absurd h G⟩
  by_cases K:cap=0
  .subst K;obtain rfl:len=0:=by omega
   exact ⟨(some a,0,0),[],o,bW.emp,⟨by simp,N _ (qf _)⟩,by simp⟩
  .obtain ⟨us0,_,hl0,U,_⟩:=cell 0 (by omega);have M:=U 0 hn;rw [aT (by omega)] at M;obtain ⟨hs,f,e',fr,L,_⟩:=aqY M;have v:a.spot=none:=by simpa [Addr.add] using hs
   have g:W.heap[a.block]? =some (.cells f e' fr):=by simpa [Addr.add] using L
   obtain ⟨b,off,sp⟩:=a;simp only at v g;subst v;have at_:∀i j,((⟨b,off,none⟩:Addr).add (i*A.n)).add j=⟨b,off+i*A.n+j,none⟩:=λi j=>by unfold Addr.add;split <;> split <;> simp_all
   have q:∀i,i<cap->∃us y,us.length=A.n/\(∀j,j<A.n->f[off+i*A.n+j]? =us[j]?)/\DataW.trod enc P W 0 (λ_=>true) true m e us=some y/\(i<len->c[i]? =some y):=λi hi=>by obtain ⟨us,y,o,r,Y,X⟩:=cell i hi;refine ⟨us,y,o,λj F=>?_,Y,X⟩;have:=r j F;rw [at_] at this;simpa [World.cell?,g] using this
   have s:off+cap*A.n<=f.size:=by
    obtain ⟨us,_,o,r,_⟩:=q (cap-1) (by omega);have:=r (A.n-1) (by omega);rw [aT (by omega)] at this;have:=(Array.getElem?_eq_some_iff.1 this).1;have e1:cap*A.n=(cap-1)*A.n+A.n:=by
     have:cap=(cap-1)+1:=by omega
     conv=>lhs;rw [this]
     rw [qe,Nat.one_mul]
    omega
   have I:∀i y,c[i]? =some y->∃z,(A.rd (λ_=>False) W (((f.toList.drop off).drop (i*A.n)).take A.n) z/\D z):=λi y k=>by
    have hi:i<len:=by rw [<-E];exact (List.getElem?_eq_some_iff.1 k).1
    obtain ⟨us,R,o,r,Y,X⟩:=q i (by omega);obtain rfl:R=y:=by have:=X hi;rw [k] at this;exact (du this).symm
    have S:((f.toList.drop off).drop (i*A.n)).take A.n=us:=by
     apply nc;intro j;by_cases F:j<A.n
     .rw [mo,cN F,lk,lk,<-r j F];simp [qC]
     .rw [mo,cx F,cw (by omega)]
    rw [S];exact he m us R (V R (ej k)) Y
   obtain ⟨l,hll,hR⟩:=SN (λi y z=>A.rd (λ_=>False) W (((f.toList.drop off).drop (i*A.n)).take A.n) z/\D z) c I;have C:l.length=len:=by omega
   have get:∀i (hi:i<l.length),A.rd (λ_=>False) W (((f.toList.drop off).drop (i*A.n)).take A.n) l[i]/\D l[i]:=λi hi=>by obtain ⟨y,k⟩:∃y,c[i]? =some y:=⟨c[i]'(by omega),aT _⟩;exact hR i y l[i] k (aT _)
   refine ⟨(some ⟨b,off,none⟩,len,cap),l,o,.inr ⟨b,off,cap,f,e',fr,by rw [C];rfl,(λh=>h),g,by omega,s,?_⟩,⟨by omega,N _ (by omega)⟩,λz hz=>?_⟩
   .have hle:l.length*A.n<=cap*A.n:=jy _ (by omega);refine ⟨?_,λi hi=>?_⟩
    .simp only [b9,ec,de];omega
    .have O:i*A.n+A.n<=l.length*A.n:=by rw [<-u9];exact jy _ hi
     rw [qn,pF,et (by omega)];exact (get i hi).1
   .obtain ⟨i,hi,rfl⟩:=qq hz;exact (get i hi).2
theorem ahX{H:Type}{enc:TypeId×Value->H}:∀(n:Nat) (i:TypeId) (t:Ty),fits P n i t=true->∀(o:Nat) (cs:zq) (x:DataW H×List MemPlace),
  (∀n,n<=Rows.uptoBulk x.1->Q n)->DataW.trod enc P W 0 (λ_=>true) true o i cs=some x->∃z:t.T,t.rep.rd (λ_=>False) W cs z/\Cw Q t z:=by
 intro n
 induction n with
 |zero=>intro i t h;cases h
 |succ n ih=>
 intro i t c o cs x R h;unfold fits at c;split at c
 .rename_i k s;split at c
  .obtain ⟨z,q,_,v⟩:=DataW.trod_int s h;have e:=qp c;subst e;exact ⟨z,q,v⟩
  .cases c
 .rename_i s;split at c
  .obtain ⟨z,q,_⟩:=DataW.trod_bool s h;exact ⟨z,q,trivial⟩
  .cases c
 .rename_i s;split at c
  .obtain ⟨⟨⟨z⟩⟩,q,_,v⟩:=DataW.trod_string s h;exact ⟨z,q,v⟩
  .cases c
 .rename_i e s;split at c
  next u=>simp only [ah,kR,j5] at c;obtain ⟨⟨q,F⟩,v⟩:=c;obtain ⟨p,zs,a1,a2,a3,Z⟩:=amu (A:=u.rep) (Q:=Q) (D:=Cw Q u) s q F o cs x R (λo us y J h=>ih e u v o us y J h) h;exact ⟨zs,⟨p,a1,a2⟩,a3,Z⟩
  .cases c
 .rename_i B s;have key:∀t:Ty,CX P (fits P n) (P.cellsOf i) B.toList 0 t=true->∃z:t.T,t.rep.rd (λ_=>False) W cs z/\Cw Q t z:=λt c=>by
   obtain ⟨xs,m,_,hx,hl,K,N⟩:=DataW.trod_struct s h;have hb:Rows.uptoBulk x.1=Rows.uptoBulkAll (xs.map (·.1))+1:=by rw [hx];simp only [Rows.uptoBulk]
   have O:∀y∈xs,∀n,n<=Rows.uptoBulk y.1->Q n:=λy J n hn=>R n (by have:=G5 (d:=y.1) (l:=xs.map (·.1)) (List.mem_map.2 ⟨y,J,rfl⟩);omega)
   have one:∀(j:Nat) (f:Field) (t:Ty),B.toList[j]? =some f->fits P n f.type t=true->∃z:t.T,t.rep.rd (λ_=>False) W ((cs.drop f.offset).take (P.cellsOf f.type)) z/\Cw Q t z:=λj f t G Y=>by
    have E:B[j]? =some f:=by simpa using G
    have q:=N j f E;have M:j<xs.length:=by rw [K];exact (Array.getElem?_eq_some_iff.1 E).1
    rw [aT M] at q;exact ih f.type t Y m _ _ (O _ (j0 _)) q
   have go:∀(r:List Field) (j off:Nat) (t:Ty),B.toList.drop j=r->CX P (fits P n) (P.cellsOf i) r off t=true->∃z:t.T,t.rep.rd (λ_=>False) W (cs.drop off) z/\Cw Q t z:=λr=>by
    induction r with
    |nil=>intro j off t _ h;cases h
    |cons f r I=>
     intro j off t U c;have G:B.toList[j]? =some f:=by have:=congrArg (·[0]?) U;simpa [lk] using this
     have L:B.toList.drop (j+1)=r:=by rw [<-n9,U];rfl
     cases r with
     |nil=>
      simp only [CX,ah,kR] at c;obtain ⟨⟨⟨q,F⟩,v⟩,S⟩:=c;obtain ⟨z,w,C⟩:=one j f t G S;rw [q,ei (by simp;omega)] at w;exact ⟨z,w,C⟩
     |cons g r=>
      unfold CX at c;split at c
      next a b=>simp only [ah,kR] at c;obtain ⟨⟨⟨q,F⟩,v⟩,S⟩:=c;obtain ⟨z,w,C⟩:=one j f a G v;obtain ⟨y,X,V⟩:=I (j+1) _ b L S;rw [q] at w;refine ⟨(z,y),⟨_,_,?_,w,X⟩,C,V⟩;rw [<-n9];exact (qb ..).symm
      .cases c
   obtain ⟨z,w,C⟩:=go B.toList 0 0 t rfl c;exact ⟨z,by simpa using w,C⟩
  split at c
  .obtain ⟨e,q,F⟩:=alZ (auE c) o cs x h;exact ⟨e,q,R _ F⟩
  .exact key _ c
  .cases c
 .cases c
def lZ(W:World)(I:fJ):Prop:= ∀it∈I,it.1=false/\it.2.cV=true/\∀M,Mv (λ_=>False) W M W->it.2.P M W
theorem lZ.nil:lZ W []:=λit h=>by cases h
theorem lZ.app{I J:fJ}(h:lZ W I)(k:lZ W J):lZ W (I++J):=λit a=>by
 rcases List.mem_append.1 a with b|b
 .exact h it b
 .exact k it b
theorem lZ.one{α:Type}{A:eB α}{p:gP}{l:List α}(h:bW A (λ_=>False) W (sl p) l):lZ W [(false,Is true A p l false)]:=λit a=>by
 rcases List.mem_singleton.1 a with rfl
 exact ⟨rfl,rfl,λM b _=>⟨h.mv b,λh=>by cases h⟩⟩
theorem L3{W:World}:∀(t:Ty) (cs:zq) (x:t.T),noN t=true->t.rep.rd (λ_=>False) W cs x->∀(o:zf) (N:List Nm),∃I N',VB t x cs (uM t++o) N I N' o/\lZ W I
 | .i k,cs,x,hn,h,o,N=>⟨[],N,⟨h,rfl,rfl,rfl⟩,.nil⟩
 | .bo,cs,x,hn,h,o,N=>⟨[],N,⟨h,rfl,rfl,rfl⟩,.nil⟩
 | .s,cs,x,hn,h,o,N=>⟨[],N,⟨h,rfl,rfl,rfl⟩,.nil⟩
 | .un,cs,x,hn,h,o,N=>⟨[],N,⟨h,rfl,rfl,rfl⟩,.nil⟩
 | .n,cs,x,hn,h,o,N=>by cases hn
 | .mp _ _,cs,x,hn,h,o,N=>absurd h id
 | .p a b,cs,x,hn,h,o,N=>by
  simp only [noN,ah] at hn;obtain ⟨c1,e,d,c,r⟩:=h;obtain ⟨j,f,q,v⟩:=L3 a c1 x.1 hn.1 c (uM b++o) N;obtain ⟨g,N2,m,u⟩:=L3 b e x.2 hn.2 r o f;refine ⟨j++g,N2,⟨c1,e,f,j,g,uM b++o,?_,m,d,rfl⟩,v.app u⟩;rw [show uM (.p a b)++o=uM a++(uM b++o) by simp [uM]];exact q
 | .l t,cs,x,hn,h,o,N=>by
  obtain ⟨p,d,c⟩:=h;exact ⟨_,_,⟨⟨0,p,⟨0,0,none⟩,none,.bool false,⟨.un,()⟩⟩,d,rfl,.inl ⟨rfl,rfl⟩⟩,.one c⟩
 | .ex,cs,x,hn,h,o,N=>by obtain ⟨p,d,c⟩:=LZ h;exact ⟨_,_,⟨⟨0,p,⟨0,0,none⟩,none,.bool false,⟨.un,()⟩⟩,d,rfl,.inl ⟨rfl,rfl⟩⟩,.one c⟩
def Arg(W:World)(t:Ty)(v:Value)(z:t.T):Prop:= ∀N:List Nm,∃I N',Sem (at3 t) v none none N [⟨t,z⟩] I [] N'/\lZ W I
theorem Io{H:Type}{enc:TypeId×Value->H}{o:Nat}{n:Nat}{i:TypeId}(t:Ty)(f:fits P n i t=true){v:Value}{d:DataW H}{ps:List MemPlace}
  (l:Value.okWide P W .any o i v) (w:∀n,n<=Rows.uptoBulk d->Q n) (h:DataW.Trod enc P W 0 (λ_=>true) true i v d ps):∃z:t.T,Arg W t v z/\Cw Q t z:=by
 have q:=h;obtain ⟨m,hx⟩:=h;obtain ⟨z,c,x⟩:=ahX n i t f m _ _ w hx;refine ⟨z,?_,x⟩;cases n with
 |zero=>cases f
 |succ n=>
 unfold fits at f;split at f
 .rename_i k j;split at f
  .have e:=qp f;subst e;obtain ⟨y,rfl,_⟩:=open_int j l q;have:y=z:=by
    have c:([.int k y]:zq)=[.int k z]:=c;injection c with c _
    injection c
   subst this;exact λN=>⟨[],N,⟨y,rfl,rfl,rfl,rfl,rfl⟩,.nil⟩
  .cases f
 .rename_i j;split at f
  .obtain ⟨y,rfl,_⟩:=open_bool j l q;have:y=z:=by
    have c:([.bool y]:zq)=[.bool z]:=c;injection c with c _
    injection c
   subst this;exact λN=>⟨[],N,⟨y,rfl,rfl,rfl,rfl,rfl⟩,.nil⟩
  .cases f
 .rename_i j;split at f
  .obtain ⟨⟨⟨y⟩⟩,rfl,_⟩:=open_string j l q;have:y=z:=by
    have c:([S y]:zq)=[S z]:=c;injection c with c _
    injection c with c
    injection c with c
    injection c
   subst this;exact λN=>⟨[],N,⟨y,rfl,rfl,rfl,rfl,rfl⟩,.nil⟩
  .cases f
 .rename_i e j;split at f
  .rename_i u;obtain ⟨a,len,cap,rfl⟩:=okWide_slice j l;obtain ⟨p,e1,r⟩:=c;have e2:Value.slice a len cap=sl p:=by simpa [Value.cells] using e1
   rw [e2];exact λN=>⟨_,_,⟨⟨0,p,⟨0,0,none⟩,none,.bool false,⟨.un,()⟩⟩,z,rfl,rfl,rfl,rfl,rfl⟩,.one r⟩
  .cases f
 .rename_i A j;obtain ⟨cs,rfl,_,_⟩:=auJ j l;split at f
  .obtain ⟨p,e1,r⟩:=LZ c;exact λN=>⟨_,_,⟨cs.toList,z,[],by simp,rfl,⟨⟨0,p,⟨0,0,none⟩,none,.bool false,⟨.un,()⟩⟩,e1,rfl,.inl ⟨rfl,rfl⟩⟩,rfl⟩,.one r⟩
  .rename_i a b;exact λN=>by
    obtain ⟨I,N',s,g⟩:=L3 (.p a b) _ z (N6 (λi t=>aeA n i t) _ _ _ f) c [] N;exact ⟨I,N',⟨cs.toList,z,[],by simp,rfl,by simpa [Value.cells] using s,rfl⟩,g⟩
  .cases f
 .cases f
def aoD(W:World)(ps:List Pt)(vs:zq)(D:List cn):Prop:= ∀N:List Nm,∃I N',xA ps vs [] [] N D I [] N'/\lZ W I
theorem apf:aoD W [] [] []:=λN=>⟨[],N,⟨rfl,rfl,rfl,rfl,rfl⟩,.nil⟩
theorem NP{W:World}{t:Ty}{v:Value}{z:t.T}{ps:List Pt}{vs:zq}{D:List cn}(h:Arg W t v z)(k:aoD W ps vs D):aoD W (at3 t::ps) (v::vs) (⟨t,z⟩::D):=λN=>by obtain ⟨c,a,e,g⟩:=h N;obtain ⟨b,N2,d,f⟩:=k a;exact ⟨c++b,N2,⟨v,vs,[⟨t,z⟩],D,c,b,[],[],a,rfl,e,d,rfl,rfl,rfl⟩,g.app f⟩
theorem aqf{I:fJ}{Γ:Ctx}(g:lZ W I)(b:JG Γ)(h:Sat Γ W):Sat (dM I++Γ) W:=DA h _ (λit a=>by obtain ⟨x,hx,rfl⟩:=List.mem_map.1 a;exact ⟨(g x hx).2.1,(g x hx).2.2 _ (apV b)⟩)
namespace So
theorem arH{x:Int}(h:(Lit.int .i64 x).wf=true):I64 x:=by simp only [Lit.wf,ah,j6] at h;exact h
theorem avX{s:List Fd}(h:Cw Q (.l (.p (.i .i64) (.i .i64))) s):FI s:=λf a=>⟨arH (h.2 f a).1,arH (h.2 f a).2⟩
theorem aiv(s:List Fd)(a:Int)(l:List Ac)(b:Cw Q (.l (.p (.i .i64) (.i .i64))) s)(_:Cw Q (.i .i64) a)(_:Cw Q (.l (.p (.i .u8) (.p (.l (.i .i64)) (.i .i64)))) l):jQ s a l=some true:=
 aaS s a l (avX b)
end So
end
end Go.Proofs.YtdolcddlmodkkaaGreatDoor
