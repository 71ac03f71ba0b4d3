/- Own texts for NestArgsQ, cut and joined by a program. -/
import Derived.Test.YtcgihjbfppkcfaaGreatDoorNestArgsQI
set_option linter.all false
namespace Go.Proofs.YtcgihjbfppkcfaaGreatDoor
open IntKind (i64)
noncomputable section
theorem pg(e:Ex):1<=e.sz:=by rw [Ex.af1];omega
theorem aij{x:Ex}:∀{l:List Ex},x∈l->x.sz<=xx l
 |y::l,h=>by
  simp [xx];rcases List.mem_cons.1 h with rfl|h
  .omega
  .have:=aij h;omega
theorem adW:∀(l:List Ex),l.length<=xx l
 |[]=>cK _
 |x::l=>by have:=adW l;grind [pg,xx,List.length_cons]
theorem mJ{e x:Ex}(h:x∈e.l):x.sz<e.sz:=by have:=aij h;rw [Ex.af1 e];omega
theorem yq(e:Ex):e.l.length<e.sz:=by grind [adW,Ex.af1]
theorem ah{α ρ:Type}(x:α)(k:α->Option ρ):(some x).bind k=k x:=rfl
theorem aK{α ρ:Type}(x:α)(k:α->Option ρ):ai x k=k x:=rfl
theorem dN{α ρ:Type}(d:α)(m:Option α)(k:α->Option ρ):bm true d m k=m.bind k:=rfl
theorem rY{α ρ:Type}(d:α)(m:Option α)(k:α->Option ρ):bm false d m k=k d:=rfl
theorem oz{l pre r:List Ex}{x:Ex}(h:l=pre++x::r):idx l (pre.length:Int)=some x:=by subst h;simp [idx]
theorem mT{n:Nat}(h:n<4611686018427387904):i64.wrap ((n:Int)+1)=((n+1:Nat):Int):=by grind [bB]
theorem kY{l pre r:List Ex}{x:Ex}(h:l=pre++x::r):decide ((pre.length:Int)<(List.length l:Int))=true:=by subst h;simp;omega
theorem vT{l pre:List Ex}(h:l=pre++[]):decide ((pre.length:Int)<(List.length l:Int))=false:=by subst h;simp
def as0(op a:Int)(i b t:Bool):Int×Int×Int:=
 bif decide (op<=6)&&i then (1,0,0)
 else bif decide (6<op)&&decide (op<=12)&&i||op==13||op==14||decide (15<=op)&&decide (op<=19)&&b then (2,0,0)
 else bif decide (15<=op)&&t then (3,0,0) else (0,4,a)
mutual
def ty:Ex->Int×Int×Int
 | .mk op _ a l=>tyA op a l true true true
def tyA(op a:Int):List Ex->Bool->Bool->Bool->Int×Int×Int
 |[],i,b,t=>as0 op a i b t
 |x::r,i,b,t=>bif (ty x).2.1 != 0 then (0,(ty x).2.1,(ty x).2.2) else tyA op a r (i&&(ty x).1==1) (b&&(ty x).1==2) (t&&(ty x).1 != 1)
end
def oM(op:Int):Int:=bif op==1||op==2||op==13||op==14 then 0 else bif op==6||op==15||op==20||op==21||op==22 then 1 else 2
def vL(op n len want vars:Int):Bool:=
 !(decide (op<1)||decide (24<op)||len != want)&& !((op==1)&&(decide (n<0)||decide (1073741824<n))||(op==2)&&(decide (n<0)||decide (vars<=n))||decide (2<op)&&n != 0)
mutual
def fv(vars:Int):Ex->Bool
 | .mk op n _ l=>vL op n (l.length:Int) (oM op) vars&&vS vars l
def vS(vars:Int):List Ex->Bool
 |[]=>true
 |x::r=>fv vars x&&vS vars r
end
theorem Wv(a:Int)(e:Ex):fv a e=(vL e.op e.n (e.l.length:Int) (oM e.op) a&&vS a e.l):=by cases e;simp [fv,Ex.op,Ex.n,Ex.l]
def tr(b:Bool):Int:=bif b then 1 else 0
def PX(op n:Int)(v:zl)(a b:Int):Int:=
 bif op==1 then n else bif op==2 then (bif decide (n<0)||decide ((List.length v:Int)<=n) then 0 else v.getD n.toNat 0)
 else bif op==3 then i64.wrap (a+b) else bif op==5 then i64.wrap (a*b) else bif op==6 then i64.wrap (0-a) else bif op==4 then i64.wrap (a-b)
 else bif op==8 then tr ((a==b) != true) else bif op==7 then tr ((a==b) != false) else bif op==19 then tr ((a==b) != false)
 else bif op==12 then tr (decide (a<b) != true) else bif op==9 then tr (decide (a<b) != false) else bif op==11 then tr (decide (a<=b) != true) else bif op==10 then tr (decide (a<=b) != false)
 else bif op==13 then 1 else bif op==15 then i64.wrap (1-a) else bif op==16 then i64.wrap (a*b) else bif op==17 then max a b else bif op==18 then max (i64.wrap (1-a)) b else 0
mutual
def ev(v:zl):Ex->Int
 | .mk op n _ l=>PX op n v (CN v l) (FF v l)
def CN(v:zl):List Ex->Int
 |[]=>0
 |x::_=>ev v x
def FF(v:zl):List Ex->Int
 |[]=>0
 |_::r=>CN v r
end
theorem ahP(v:zl)(e:Ex):ev v e=PX e.op e.n v (CN v e.l) (FF v e.l):=by cases e;simp [ev,Ex.op,Ex.n,Ex.l]
def O3(op a len i b t:Int):Int×Int×Int:=
 bif decide (op<=6)&&(i==len) then (1,0,0)
 else bif decide (7<=op)&&decide (op<=12)&&(i==len)||op==13||op==14 then (2,0,0)
 else bif decide (15<=op)&&decide (op<=19)&&(b==len) then (2,0,0)
 else bif decide (15<=op)&&(b+t==len) then (3,0,0) else (0,4,a)
mutual
def rt:Ex->Int×Int×Int
 | .mk op _ a l=>tD op a (l.length:Int) l 0 0 0
def tD(op a len:Int):List Ex->Int->Int->Int->Int×Int×Int
 |[],i,b,t=>O3 op a len i b t
 |x::r,i,b,t=>bif (rt x).2.1 != 0 then (0,(rt x).2.1,(rt x).2.2) else tD op a len r (bif (rt x).1==1 then i+1 else i) (bif (rt x).1==2 then b+1 else b) (bif (rt x).1==3 then t+1 else t)
end
theorem rt_eq(e:Ex):rt e=tD e.op e.at_ (e.l.length:Int) e.l 0 0 0:=by cases e;simp [rt,Ex.op,Ex.at_,Ex.l]
theorem ao4{α ρ:Type}(g:Bool)(d v:α)(k:α->Option ρ):bm g d (some v) k=k (bif g then v else d):=by cases g <;> rfl
theorem O2(op a len:Int):∀(l:List Ex) (i b t:Int),(tD op a len l i b t).1=2->7<=op/\op<=19
 |[],i,b,t,h=>by
  simp [tD,O3] at h;grind
 |x::r,i,b,t,h=>by
  simp [tD] at h;cases c:((rt x).2.1 != 0)
  .rw [c] at h;exact O2 op a len r _ _ _ h
  grind
theorem acj(op a len:Int)(e:15<=op)(d:op<=19):∀(l:List Ex) (i b t:Int),b+l.length<len->(tD op a len l i b t).1≠2
 |[],i,b,t,hb,h=>by
  simp [tD,O3] at h;grind
 |x::r,i,b,t,hb,h=>by
  simp [tD] at h;cases c:((rt x).2.1 != 0)
  .rw [c] at h;refine acj op a len e d r _ _ _ ?_ h;grind
  grind
theorem OJ(op a len:Int)(e:15<=op)(d:op<=19):∀(l:List Ex) (i b t:Int),b+l.length<=len->(tD op a len l i b t).1=2->∀x∈l,(rt x).1=2/\(rt x).2.1=0
 |[],_,_,_,_,_,x,hx=>by cases hx
 |y::r,i,b,t,hb,h,x,hx=>by
  simp [tD] at h;cases c:((rt y).2.1 != 0)
  .rw [c] at h;cases f:((rt y).1==2)
   .exact absurd h (acj op a len e d r _ _ _ (by grind))
   .rcases List.mem_cons.1 hx with rfl|hx
    .grind
    .exact OJ op a len e d r _ _ _ (by grind) h x hx
  grind
theorem Rj(b:Bool):tr b=0\/tr b=1:=by cases b;exact .inl rfl;exact .inr rfl
theorem aq4(v:zl){l:List Ex}(h:∀x∈l,ev v x=0\/ev v x=1):(CN v l=0\/CN v l=1)/\(FF v l=0\/FF v l=1):=by
 match l,h with
 |[],_=>grind [CN,FF]
 |[x],h=>grind [CN,FF]
 |x::y::r,h=>grind [CN,FF]
theorem ata(op n:Int)(v:zl)(a b:Int)(e:7<=op)(d:op<=19)(c:15<=op->(a=0\/a=1)/\(b=0\/b=1)):PX op n v a b=0\/PX op n v a b=1:=by
 have:op=7\/op=8\/op=9\/op=10\/op=11\/op=12\/op=13\/op=14\/op=15\/op=16\/op=17\/op=18\/op=19:=by omega
 rcases this with rfl|rfl|rfl|rfl|rfl|rfl|rfl|rfl|rfl|rfl|rfl|rfl|rfl
 .exact Rj _
 .exact Rj _
 .exact Rj _
 .exact Rj _
 .exact Rj _
 .exact Rj _
 .exact .inr rfl
 .exact .inl rfl
 .obtain ⟨ha,_⟩:=c (by omega);rcases ha with rfl|rfl
  .exact .inr rfl
  .exact .inl rfl
 .obtain ⟨ha,hb⟩:=c (by omega);rcases ha with rfl|rfl <;> rcases hb with rfl|rfl
  .exact .inl rfl
  .exact .inl rfl
  .exact .inl rfl
  .exact .inr rfl
 .obtain ⟨ha,hb⟩:=c (by omega);rcases ha with rfl|rfl <;> rcases hb with rfl|rfl
  .exact .inl rfl
  .exact .inr rfl
  .exact .inr rfl
  .exact .inr rfl
 .obtain ⟨ha,hb⟩:=c (by omega);rcases ha with rfl|rfl <;> rcases hb with rfl|rfl
  .exact .inr rfl
  .exact .inr rfl
  .exact .inl rfl
  .exact .inr rfl
 .exact Rj _
theorem arM(v:zl):∀(N:Nat) (e:Ex),e.sz<=N->(rt e).1=2->ev v e=0\/ev v e=1:=by
 intro N
 induction N with
 |zero=>grind [pg]
 |succ N ih=>
  intro e h b;rw [rt_eq] at b;obtain ⟨d,a⟩:=O2 _ _ _ _ _ _ _ b;rw [ahP];refine ata _ _ _ _ _ d a (λc=>aq4 v (λx hx=>?_));have:=OJ _ _ _ c a _ _ _ _ (by omega) b x hx;exact ih x (by have:=mJ hx;omega) this.1
theorem Ot{a:Int}{e:Ex}(h:fv a e=true):(1<=e.op/\e.op<=24)/\(e.l.length:Int)=oM e.op/\(e.op=1->0<=e.n/\e.n<=1073741824)/\(e.op=2->0<=e.n/\e.n<a)/\∀x∈e.l,fv a x=true:=by
 rw [Wv] at h;simp [vL,au,l9,l5,pA,bne_eq_false_iff_eq,Bool.and_eq_false_imp,n6] at h;obtain ⟨⟨⟨⟨i,g⟩,c⟩,⟨f,d⟩,_⟩,b⟩:=h;refine ⟨by omega,c,λh=>by omega,λh=>by omega,?_⟩;have:∀(l:List Ex),vS a l=true->∀x∈l,fv a x=true:=λl=>by
  induction l with
  |nil=>intro _ x hx;cases hx
  |cons y r ih=>
   intro h x hx;simp [vS] at h;grind
 exact this _ b
theorem aeY(op a len:Int)(c:op<=12):∀(l:List Ex) (i b t:Int),i+l.length<len->(tD op a len l i b t).1=0
 |[],i,b,t,hb=>by
  simp [tD,O3];grind
 |x::r,i,b,t,hb=>by
  simp [tD];cases ((rt x).2.1 != 0)
  .refine aeY op a len c r _ _ _ ?_;grind
  .rfl
theorem ZR(op a len:Int)(d:op<=12):∀(l:List Ex) (i b t:Int),i+l.length<=len->(tD op a len l i b t).1≠0->∀x∈l,(rt x).1=1
 |[],_,_,_,_,_,x,hx=>by cases hx
 |y::r,i,b,t,hb,h,x,hx=>by
  simp [tD] at h;cases c:((rt y).2.1 != 0)
  .rw [c] at h;cases e:((rt y).1==1)
   .exact absurd (aeY op a len d r _ _ _ (by grind)) h
   .rcases List.mem_cons.1 hx with rfl|hx
    .simpa using e
    .exact ZR op a len d r _ _ _ (by grind) h x hx
  grind
theorem Wj(op a len:Int):∀(l:List Ex) (i b t:Int),(tD op a len l i b t).1=1->op<=6
 |[],i,b,t,h=>by
  simp [tD,O3] at h;grind
 |x::r,i,b,t,h=>by
  simp [tD] at h;cases c:((rt x).2.1 != 0)
  .rw [c] at h;exact Wj op a len r _ _ _ h
  grind
theorem adh{a:Int}{e:Ex}(hm:fv a e=true)(h:(rt e).1=1\/(rt e).1=2):∀x∈e.l,(rt x).1=1\/(rt x).1=2:=by
 intro x hx;obtain ⟨_,g,_⟩:=Ot hm;rw [rt_eq] at h;by_cases d:e.op<=12
 .exact .inl (ZR e.op e.at_ (e.l.length) d e.l 0 0 0 (by omega) (by grind) x hx)
 .have f:(tD e.op e.at_ (e.l.length) e.l 0 0 0).1=2:=by
   rcases h with h|h
   .have:=Wj _ _ _ _ _ _ _ h;omega
   .exact h
  have b:=O2 _ _ _ _ _ _ _ f;by_cases c:15<=e.op
  .exact .inr (OJ _ _ _ c b.2 _ _ _ _ (by omega) f x hx).1
  grind [oM,List.eq_nil_of_length_eq_zero]
variable {d : Int}
def yY:List aE:=[[116,114,117,101],[102,97,108,115,101],[88],[70],[71],[85],[82],[118,97,114],[112,114,111,99]]
def ar0:List aE:=[[],[],[],[43],[45],[42],[45],[61,61],[33,61],[60],[60,61],[62],[62,61],[116,114,117,101],[102,97,108,115,101],[33],[38],[124],[45,62],[60,45,62],[88],[70],[71],[85],[82]]
def bS(op:Int):aE:=ar0.getD op.toNat []
namespace Pa
abbrev Tok:=Int×aE×Int×Int
abbrev Out:=Except (Int×Int) (Ex×List Tok)
def key(s:aE):Bool:=yY.contains s
def AD(t:Tok):Bool:=t.1==3||(t.1==1&&key t.2.1)
def ops:Nat->zl
 |1=>[19]
 |2=>[18]
 |3=>[17]
 |4=>[16]
 |5=>[23,24]
 |6=>[15,20,21,22]
 |7=>[7,8,9,10,11,12]
 |8=>[3,4]
 |9=>[5]
 |10=>[6]
 |11=>[13,14]
 |_=>[]
def CM(l:zl)(t:Tok):zd:=bif AD t then l.find? (λo=>bS o==t.2.1) else none
def dD(s:Nat)(t:Tok):zd:=CM (ops s) t
def kd:Nat->Nat
 |6=>0
 |10=>0
 |1=>1
 |2=>1
 |5=>1
 |7=>1
 |3=>2
 |4=>2
 |8=>2
 |9=>2
 |11=>3
 |_=>4
def Bc(s:Nat):Bool:=s==1||s==2||s==5||s==6||s==10
def dn(s:Nat)(d:Int):Int:=bif Bc s then d+1 else d
def sA(s:Nat)(d:Int):Bool:=Bc s&&decide (320<=d)
def nx(s:Nat):Nat:=bif s==7 then 8 else s
def at_(names:List aE)(v:aE):ze:=names.findIdx? (λx=>v==x)
def open_(t:Tok):Bool:=t.1==3&&t.2.1==[40]
def close_(t:Tok):Bool:=t.1==3&&t.2.1==[41]
def Dm(t:Tok):Bool:=t.1==1&& !key t.2.1
def aqM(k:Int)(a:Int)(r:Out):Out:=r.map λp=>(.mk k 0 a [p.1],p.2)
def asn(k:Int)(a:Int)(x:Ex)(r:Out):Out:=r.map λp=>(.mk k 0 a [x,p.1],p.2)
inductive CO where
 |line (s:Nat)
 |loop (s:Nat) (a:Ex)
open CO
inductive P(names:List aE):CO->Int->List Tok->Out->Prop
 |ue {s d t ts}:sA s d=true->P names (line s) d (t::ts) (.error (9,t.2.2.2))
 |pre {s d t ts k r}:kd s=0->sA s d=false->dD s t=some k->P names (line s) (dn s d) ts r->P names (line s) d (t::ts) (aqM k t.2.2.2 r)
 |other {s d t ts r}:kd s=0->sA s d=false->dD s t=none->P names (line (s+1)) (dn s d) (t::ts) r->P names (line s) d (t::ts) r
 |rErr {s d ts e}:kd s=1->sA s d=false->P names (line (s+1)) (dn s d) ts (.error e)->P names (line s) d ts (.error e)
 |rOne {s d ts a t ts'}:kd s=1->sA s d=false->P names (line (s+1)) (dn s d) ts (.ok (a,t::ts'))->dD s t=none->P names (line s) d ts (.ok (a,t::ts'))
 |rTwo {s d ts a t ts' k r}:kd s=1->sA s d=false->P names (line (s+1)) (dn s d) ts (.ok (a,t::ts'))->dD s t=some k->P names (line (nx s)) (dn s d) ts' r->P names (line s) d ts (asn k t.2.2.2 a r)
 |lErr {s d ts e}:kd s=2->P names (line (s+1)) d ts (.error e)->P names (line s) d ts (.error e)
 |lGo {s d ts a ts' r}:kd s=2->P names (line (s+1)) d ts (.ok (a,ts'))->P names (loop s a) d ts' r->P names (line s) d ts r
 |lpEnd {s a d t ts}:dD s t=none->P names (loop s a) d (t::ts) (.ok (a,t::ts))
 |lpErr {s a d t ts k e}:dD s t=some k->P names (line (s+1)) d ts (.error e)->P names (loop s a) d (t::ts) (.error e)
 |lpGo {s a d t ts k b ts' r}:dD s t=some k->P names (line (s+1)) d ts (.ok (b,ts'))->P names (loop s (.mk k 0 t.2.2.2 [a,b])) d ts' r->P names (loop s a) d (t::ts) r
 |oWord {s d t ts k}:kd s=3->dD s t=some k->P names (line s) d (t::ts) (.ok (.mk k 0 t.2.2.2 [],ts))
 |oNum {s d t ts}:kd s=3->dD s t=none->(t.1==2)=true->P names (line s) d (t::ts) (.ok (.mk 1 t.2.2.1 t.2.2.2 [],ts))
 |oVar {s d t ts i}:kd s=3->dD s t=none->(t.1==2)=false->Dm t=true->at_ names t.2.1=some i->P names (line s) d (t::ts) (.ok (.mk 2 (i:Int) t.2.2.2 [],ts))
 |oName {s d t ts}:kd s=3->dD s t=none->(t.1==2)=false->Dm t=true->at_ names t.2.1=none->P names (line s) d (t::ts) (.error (3,t.2.2.2))
 |oOpen {s d t ts a c ts'}:kd s=3->dD s t=none->(t.1==2)=false->Dm t=false->open_ t=true->P names (line 1) d ts (.ok (a,c::ts'))->close_ c=true->P names (line s) d (t::ts) (.ok (a,ts'))
 |oErr {s d t ts e}:kd s=3->dD s t=none->(t.1==2)=false->Dm t=false->open_ t=true->P names (line 1) d ts (.error e)->P names (line s) d (t::ts) (.error e)
 |oClose {s d t ts a c ts'}:kd s=3->dD s t=none->(t.1==2)=false->Dm t=false->open_ t=true->P names (line 1) d ts (.ok (a,c::ts'))->close_ c=false->P names (line s) d (t::ts) (.error (2,c.2.2.2))
 |oForm {s d t ts}:kd s=3->dD s t=none->(t.1==2)=false->Dm t=false->open_ t=false->P names (line s) d (t::ts) (.error (2,t.2.2.2))
theorem rL{s:Nat}(h:sA s d=true):kd s=0\/kd s=1:=by unfold sA Bc at h;simp at h;rcases h.1 with (((rfl|rfl)|rfl)|rfl)|rfl <;> simp [kd]
theorem P.det{names:List aE}{j:CO}{n:List Tok}{r l:Out}(h:P names j d n r)(b:P names j d n l):r=l:=by
 induction h generalizing l with
 |ue a=>have:=rL a;cases b <;> simp_all
 |pre a c f e ih=>cases b <;> simp_all <;> (rename_i g;rw [ih g])
 |other a c f e ih=>
  cases b with
  |other _ _ _ h=>exact ih h
  |_=>simp_all
 |rErr a c f ih=>
  cases b with
  |rErr _ _ h=>exact ih h
  |rOne _ _ h=>cases ih h
  |rTwo _ _ h=>cases ih h
  |_=>simp_all
 |rOne a c f e ih=>
  cases b with
  |rErr _ _ h=>cases ih h
  |rOne _ _ h=>exact ih h
  |rTwo _ _ h g=>cases ih h;simp_all
  |_=>simp_all
 |rTwo a c f e g ih i=>
  cases b with
  |rErr _ _ h=>cases ih h
  |rOne _ _ h=>cases ih h;simp_all
  |rTwo _ _ h k m=>cases ih h;rw [e] at k;cases k;rw [i m]
  |_=>simp_all
 |lErr a c ih=>
  cases b with
  |lErr _ h=>exact ih h
  |lGo _ h=>cases ih h
  |ue h=>have:=rL h;simp_all
  |_=>simp_all
 |lGo a c f ih i=>
  cases b with
  |lErr _ h=>cases ih h
  |lGo _ h e=>cases ih h;exact i e
  |ue h=>have:=rL h;simp_all
  |_=>simp_all
 |lpEnd a=>cases b <;> simp_all
 |lpErr a c ih=>
  cases b with
  |lpErr _ h=>exact ih h
  |lpGo _ h=>cases ih h
  |_=>simp_all
 |lpGo a c f ih i=>
  cases b with
  |lpErr _ h=>cases ih h
  |lpGo g h e=>cases ih h;rw [a] at g;cases g;exact i e
  |_=>simp_all
 |oOpen a c f e g k m ih=>
  cases b with
  |oOpen _ _ _ _ _ h _=>cases ih h;rfl
  |oErr _ _ _ _ _ h=>cases ih h
  |oClose _ _ _ _ _ h o=>cases ih h;simp_all
  |ue h=>have:=rL h;simp_all
  |_=>simp_all
 |oErr a c f e g k ih=>
  cases b with
  |oOpen _ _ _ _ _ h _=>cases ih h
  |oErr _ _ _ _ _ h=>exact ih h
  |oClose _ _ _ _ _ h o=>cases ih h
  |ue h=>have:=rL h;simp_all
  |_=>simp_all
 |oClose a c f e g k m ih=>
  cases b with
  |oOpen _ _ _ _ _ h _=>cases ih h;simp_all
  |oErr _ _ _ _ _ h=>cases ih h
  |oClose _ _ _ _ _ h o=>cases ih h;rfl
  |ue h=>have:=rL h;simp_all
  |_=>simp_all
 |oWord a c=>cases b <;> first|(rename_i h;have:=rL h;simp_all;done)|simp_all
 |oNum a c f=>cases b <;> first|grind [rL]|simp_all
 |oVar a c f e g=>cases b <;> first|grind [rL]|simp_all
 |oName a c f e g=>cases b <;> first|grind [rL]|simp_all
 |oForm a c f e g=>cases b <;> first|grind [rL]|simp_all
def Ends:List Tok->Prop
 |[]=>False
 |t::ts=>Ends ts\/(ts=[]/\t.1=4)
theorem Ends.tail{t:Tok}{a:List Tok}(h:Ends (t::a))(b:t.1≠4):Ends a:=by
 rcases h with h|⟨_,h⟩
 .exact h
 .exact absurd h b
theorem Ends.ne{a:List Tok}(h:Ends a):∃t r,a=t::r:=by
 cases a with
 |nil=>exact h.elim
 |cons t r=>exact ⟨t,r,rfl⟩
theorem aq1{t:Tok}(h:AD t=true):t.1≠4:=by grind [AD]
theorem apg{l:zl}{t:Tok}{k:Int}(h:CM l t=some k):AD t=true:=by grind [CM,AD]
theorem arQ{l:zl}{t:Tok}{k:Int}(h:CM l t=some k):t.1≠4:=aq1 (apg h)
theorem Ha{s:Nat}{t:Tok}{k:Int}(h:dD s t=some k):t.1≠4:=arQ h
def shorter:CO->Nat->Nat->Prop
 |line _,a,b=>a<b
 |loop _ _,a,b=>a<=b
theorem P.ends{names:List aE}{j:CO}{m:List Tok}{r:Out}(h:P names j d m r):Ends m->∀p,r= .ok p->Ends p.2/\shorter j p.2.length m.length:=by
 induction h with
 |ue=>intro _ p h;cases h
 | @pre s d t m k r c f g l ih=>
  intro b p h;cases r with
  |error e=>cases h
  |ok q=>
   obtain ⟨n,o⟩:=ih (b.tail (Ha g)) q rfl;cases h;grind [shorter,List.length_cons]
 |other c f g l ih=>intro b p h;exact ih b p h
 |rErr=>intro _ p h;cases h
 |rOne c f g l ih=>intro b p h;exact ih b p h
 | @rTwo s d m a t ts' k r c f g l u ih i=>
  intro b p h;cases r with
  |error e=>cases h
  |ok q=>
   obtain ⟨n,o⟩:=ih b _ rfl;obtain ⟨w,v⟩:=i (n.tail (Ha l)) q rfl;cases h;grind [shorter,List.length_cons]
 |lErr=>intro _ p h;cases h
 |lGo c f g ih i=>
  grind [shorter]
 |lpEnd c=>intro b p h;cases h;exact ⟨b,cK _⟩
 |lpErr=>intro _ p h;cases h
 |lpGo c f g ih i=>
  intro b p h;obtain ⟨n,o⟩:=ih (b.tail (Ha c)) _ rfl;grind [shorter,List.length_cons]
 |oWord c f=>intro b p h;cases h;exact ⟨b.tail (Ha f),l7 _⟩
 |oNum c f g=>intro b p h;cases h;exact ⟨b.tail (by grind),l7 _⟩
 |oVar c f g l u=>intro b p h;cases h;exact ⟨b.tail (by simp_all [Dm,au]),l7 _⟩
 |oName=>intro _ p h;cases h
 |oOpen c f g l u y x ih=>
  intro b p h;cases h;obtain ⟨n,o⟩:=ih (b.tail (by simp_all [open_,au])) _ rfl;refine ⟨n.tail (by simp_all [close_,au]),?_⟩;grind [shorter,List.length_cons]
 |oErr=>intro _ p h;cases h
 |oClose=>intro _ p h;cases h
 |oForm=>intro _ p h;cases h
theorem P.err{names:List aE}{j:CO}{b:List Tok}{r:Out}(h:P names j d b r):∀e,r= .error e->e.1=9\/e.1=2\/e.1=3:=by
 induction h with
 |ue=>grind
 | @pre s d t b k r i g f c ih=>
  intro e h;cases r with
  |error e'=>cases h;exact ih _ rfl
  |ok q=>cases h
 |other i g f c ih=>exact ih
 |rErr _ _ _ ih=>exact ih
 |rOne=>intro e h;cases h
 | @rTwo s d b a t ts' k r i g f c h4 ih ih2=>
  intro e h;cases r with
  |error e'=>cases h;exact ih2 _ rfl
  |ok q=>cases h
 |lErr _ _ ih=>exact ih
 |lGo _ _ _ _ ih=>exact ih
 |lpEnd=>intro e h;cases h
 |lpErr _ _ ih=>exact ih
 |lpGo _ _ _ _ ih=>exact ih
 |oWord=>intro e h;cases h
 |oNum=>intro e h;cases h
 |oVar=>intro e h;cases h
 |oName=>grind
 |oOpen=>intro e h;cases h
 |oErr _ _ _ _ _ _ ih=>exact ih
 |oClose=>grind
 |oForm=>grind
end Pa
namespace Sy
open Pa
abbrev aT:=Int×Ex×List (Int×Ex)
abbrev bk:=List aE×xb×zl×List aE×List aT
abbrev iu:=Int×Int
def GR(names:List aE)(ts:List Tok):Out:=
 open Classical in if h :∃r, P names (.line 1) 0 ts r then Classical.choose h else .error (2, 0)
theorem akK{names:List aE}{a:List Tok}{r:Out}(h:P names (.line 1) 0 a r):GR names a=r:=by unfold GR;rw [ub ⟨r,h⟩];exact (Classical.choose_spec (⟨r,h⟩)).det h
theorem anL{names:List aE}{a:List Tok}{p:Ex×List Tok}(h:GR names a= .ok p):P names (.line 1) 0 a (.ok p):=by
 unfold GR at h;split at h
 .grind
 .cases h
def Ap(k:Int)(x:aE)(t:Tok):Bool:=(t.1==k)&&(t.2.1==x)
def UP:List Tok->Int
 |[]=>0
 |t::_=>t.2.2.2
def uj(k:Int)(x:aE):List Tok->Bool
 |[]=>false
 |t::_=>Ap k x t
def cf(x:aE)(ts:List Tok):Except iu (List Tok):=match ts with
 |[]=> .error (2,0)
 |t::r=>bif Ap 3 x t then .ok r else .error (2,t.2.2.2)
def fZ(full:Bool)(names procs:List aE)(ts:List Tok):Except iu (aE×List Tok):=match ts with
 |[]=> .error (2,0)
 |t::r=>bif t.1 != 1 then .error (2,t.2.2.2) else bif key t.2.1||names.contains t.2.1||procs.contains t.2.1 then .error (3,t.2.2.2) else bif full then .error (9,t.2.2.2) else .ok (t.2.1,r)
def tH(neg:Bool)(ts:List Tok):Except iu (Int×List Tok):=match ts with
 |[]=> .error (2,0)
 |t::r=>bif t.1 != 2 then .error (2,t.2.2.2) else .ok (bif neg then i64.wrap (0-t.2.2.1) else t.2.2.1,r)
def gD(ts:List Tok):Except iu (Int×List Tok):=bif uj 3 [45] ts then tH true ts.tail else tH false ts
def lX(lo hi:Int):Bool:= !(decide (hi<lo))&& !(decide (lo< -1073741824))&& !(decide (1073741824<hi))&& !(decide (65535<i64.wrap (hi-lo)))
def sn(m:bk)(ts:List Tok):Except iu (bk×List Tok):=
 match fZ (decide (16<=(m.1.length:Int))) m.1 m.2.2.2.1 ts with
 | .error e=> .error e
 | .ok (name,ts1)=>match gD ts1 with
  | .error e=> .error e
  | .ok (lo,ts2)=>match gD ts2 with
   | .error e=> .error e
   | .ok (hi,ts3)=>match gD ts3 with
    | .error e=> .error e
    | .ok (first,ts4)=>match cf [59] ts4 with
     | .error e=> .error e
     | .ok ts5=>bif !(lX lo hi)||decide (first<lo)||decide (hi<first) then .error (5,UP ts1) else .ok ((m.1++[name],m.2.1++[(lo,hi)],m.2.2.1++[first],m.2.2.2.1,m.2.2.2.2),ts5)
def eN(want:Int)(names:List aE)(ts:List Tok):Except iu (Ex×List Tok):=
 match GR names ts with
 | .error e=> .error e
 | .ok (x,r)=>bif (rt x).2.1 != 0 then .error ((rt x).2.1,(rt x).2.2) else bif (rt x).1 != want then .error (4,x.at_) else .ok (x,r)
def fc(names:List aE)(v:aE):Int:=match at_ names v with
 |some i=>(i:Int)
 |none=> -1
def Dz(acc:List (Int×Ex))(i:Int):Bool:=acc.any (λs=>s.1==i)
def fQ(names:List aE):Nat->List (Int×Ex)->List Tok->Except iu (List (Int×Ex)×List Tok)
 |0,_,_=> .error (2,0)
 |f+1,acc,ts=>match ts with
  |[]=> .error (2,0)
  |t::r=>bif t.1 != 1 then .error (2,t.2.2.2) else bif decide (fc names t.2.1<0)||Dz acc (fc names t.2.1) then .error (3,t.2.2.2) else
   match cf [61] r with
   | .error e=> .error e
   | .ok r1=>match eN 1 names r1 with
    | .error e=> .error e
    | .ok (x,r2)=>bif uj 3 [44] r2 then fQ names f (acc++[(fc names t.2.1,x)]) r2.tail else .ok (acc++[(fc names t.2.1,x)],r2)
def oa(m:bk)(ts:List Tok):Except iu (bk×List Tok):=
 bif decide (256<=(m.2.2.2.2.length:Int)) then .error (9,UP ts) else
 match eN 2 m.1 ts with
 | .error e=> .error e
 | .ok (g,r1)=>match cf [58] r1 with
  | .error e=> .error e
  | .ok r2=>match fQ m.1 (r2.length+1) [] r2 with
   | .error e=> .error e
   | .ok (sets,r3)=>match cf [59] r3 with
    | .error e=> .error e
    | .ok r4=> .ok ((m.1,m.2.1,m.2.2.1,m.2.2.2.1,m.2.2.2.2++[(i64.wrap ((m.2.2.2.1.length:Int)-1),g,sets)]),r4)
def mo:Nat->bk->List Tok->Except iu (bk×List Tok)
 |0,_,_=> .error (2,0)
 |f+1,m,ts=>bif uj 3 [125] ts then .ok (m,ts.tail) else match oa m ts with
  | .error e=> .error e
  | .ok (m',r)=>mo f m' r
def wE(m:bk)(ts:List Tok):Except iu (bk×List Tok):=
 match fZ false m.1 m.2.2.2.1 ts with
 | .error e=> .error e
 | .ok (name,r1)=>match cf [123] r1 with
  | .error e=> .error e
  | .ok r2=>mo (r2.length+1) (m.1,m.2.1,m.2.2.1,m.2.2.2.1++[name],m.2.2.2.2) r2
def rO:Nat->bk->List Tok->Except iu bk
 |0,_,_=> .error (2,0)
 |f+1,m,ts=>match ts with
  |[]=> .error (2,0)
  |t::r=>bif t.1==4 then (bif m.1.isEmpty then .error (2,t.2.2.2) else .ok m)
   else bif Ap 1 [118,97,114] t then (match sn m r with
    | .error e=> .error e
    | .ok (m',r')=>rO f m' r')
   else bif Ap 1 [112,114,111,99] t then (match wE m r with
    | .error e=> .error e
    | .ok (m',r')=>rO f m' r')
   else .error (2,t.2.2.2)
def sys(l:List Tok):Except iu bk:=rO (l.length+1) ([],[],[],[],[]) l
def Sk:Except iu bk->bk×Int×Int
 | .ok m=>(m,0,0)
 | .error e=>(([],[],[],[],[]),e.1,e.2)
def je(ts ts':List Tok):Prop:=Pa.Ends ts'/\ts'.length<ts.length
theorem Z8{k:Int}{x:aE}{t:Tok}(h:Ap k x t=true)(hk:k≠4):t.1≠4:=by simp_all [Ap,au]
theorem nn{x:aE}{a r:List Tok}(c:Pa.Ends a)(h:cf x a= .ok r):je a r:=by
 obtain ⟨t,d,rfl⟩:=c.ne;simp [cf] at h;cases b:Ap 3 x t
 .rw [b] at h;cases h
 .rw [b] at h;cases h;exact ⟨c.tail (Z8 b (by decide)),l7 _⟩
theorem Sd{full:Bool}{names a:List aE}{c:List Tok}{p:aE×List Tok}(d:Pa.Ends c)(h:fZ full names a c= .ok p):
  je c p.2/\key p.1=false/\names.contains p.1=false/\a.contains p.1=false/\full=false:=by
 obtain ⟨t,f,rfl⟩:=d.ne;simp only [fZ] at h;cases e:(t.1 != 1)
 .rw [e] at h;cases b:(key t.2.1||names.contains t.2.1||a.contains t.2.1)
  .rw [b] at h;cases full
   .cases h;simp only [l5] at b;have  :=by simpa using e
    exact ⟨⟨d.tail (by omega),l7 _⟩,b.1.1,b.1.2,b.2,rfl⟩
   .cases h
  grind
 grind
theorem ZD{b:Bool}{a:List Tok}{p:Int×List Tok}(c:Pa.Ends a)(h:tH b a= .ok p):je a p.2:=by
 obtain ⟨t,e,rfl⟩:=c.ne;simp [tH] at h;cases d:(t.1 != 2)
 .rw [d] at h;cases h;have  :=by simpa using d
  exact ⟨c.tail (by omega),l7 _⟩
 grind
theorem ph{k:Int}{x:aE}{a:List Tok}(b:Pa.Ends a)(hk:k≠4)(h:uj k x a=true):Pa.Ends a.tail/\a.tail.length+1=a.length:=by obtain ⟨t,c,rfl⟩:=b.ne;exact ⟨b.tail (Z8 h hk),rfl⟩
theorem Wm{a:List Tok}{p:Int×List Tok}(c:Pa.Ends a)(h:gD a= .ok p):je a p.2:=by
 unfold gD at h;cases b:uj 3 [45] a
 .grind [ZD]
 .rw [b] at h;obtain ⟨e,g⟩:=ph c (by decide) b;obtain ⟨d,f⟩:=ZD e h;exact ⟨d,by omega⟩
theorem tS{a:Int}{names:List aE}{b:List Tok}{p:Ex×List Tok}(g:Pa.Ends b)(h:eN a names b= .ok p):
  je b p.2/\P names (.line 1) 0 b (.ok p)/\(rt p.1).2.1=0/\(rt p.1).1=a:=by
 unfold eN at h;cases c:GR names b with
 |error e=>rw [c] at h;cases h
 |ok q=>
  obtain ⟨x,r⟩:=q;rw [c] at h;simp only at h;cases f:((rt x).2.1 != 0)
  .rw [f] at h;cases d:((rt x).1 != a)
   .rw [d] at h;cases h;have hp:=anL c;exact ⟨hp.ends g _ rfl,hp,by simpa using f,by simpa using d⟩
   grind
  grind
theorem je.trans{a b c:List Tok}(h:je a b)(k:je b c):je a c:=⟨k.1,Nat.lt_trans k.2 h.2⟩
theorem acy{names:List aE}:∀(f:Nat) (acc:List (Int×Ex)) (a:List Tok) (p:List (Int×Ex)×List Tok),Pa.Ends a->fQ names f acc a= .ok p->je a p.2:=by
 intro f
 induction f with
 |zero=>grind [fQ]
 |succ f ih=>
  intro acc a p l h;obtain ⟨t,r,rfl⟩:=l.ne;simp [fQ] at h;cases j:(t.1 != 1)
  case true=>rw [j] at h;cases h
  rw [j] at h;cases n:(decide (fc names t.2.1<0)||Dz acc (fc names t.2.1))
  case true=>rw [n] at h;cases h
  rw [n] at h;have ht  :=by simpa using j
  have d:=l.tail (by omega);cases i:cf [61] r with
  |error e=>rw [i] at h;cases h
  |ok r1=>
   rw [i] at h;simp only at h;have k:=nn d i;cases g:eN 1 names r1 with
   |error e=>rw [g] at h;cases h
   |ok q=>
    obtain ⟨x,r2⟩:=q;rw [g] at h;simp only at h;have b:je r1 r2:=(tS k.1 g).1;have c:je (t::r) r2:=⟨b.1,by have:=k.2;have:=b.2;grind⟩;cases m:uj 3 [44] r2
    .grind
    .rw [m] at h;obtain ⟨o,s⟩:=ph b.1 (by decide) m;have:=ih _ _ _ o h;exact ⟨this.1,by have:=this.2;have:=c.2;omega⟩
theorem aeC{m:bk}{c:List Tok}{p:bk×List Tok}(C:Pa.Ends c)(h:sn m c= .ok p):je c p.2/\
  ∃a lo hi first,p.1=(m.1++[a],m.2.1++[(lo,hi)],m.2.2.1++[first],m.2.2.2.1,m.2.2.2.2)/\lX lo hi=true/\lo<=first/\first<=hi/\m.1.length<16/\m.1.contains a=false:=by
 unfold sn at h;cases r:fZ (decide (16<=(m.1.length:Int))) m.1 m.2.2.2.1 c with
 |error e=>rw [r] at h;cases h
 |ok B=>
  obtain ⟨a,i⟩:=B;rw [r] at h;simp only at h;obtain ⟨v,_,j,_,b⟩:=Sd C r;cases q:gD i with
  |error e=>rw [q] at h;cases h
  |ok A=>
   obtain ⟨lo,g⟩:=A;rw [q] at h;simp only at h;have u:=Wm v.1 q;cases o:gD g with
   |error e=>rw [o] at h;cases h
   |ok z=>
    obtain ⟨hi,f⟩:=z;rw [o] at h;simp only at h;have t:=Wm u.1 o;cases n:gD f with
    |error e=>rw [n] at h;cases h
    |ok y=>
     obtain ⟨first,d⟩:=y;rw [n] at h;simp only at h;have s:=Wm t.1 n;cases l:cf [59] d with
     |error e=>rw [l] at h;cases h
     |ok w=>
      rw [l] at h;have x:=nn s.1 l;cases k:(!(lX lo hi)||decide (first<lo)||decide (hi<first))
      .rw [k] at h;cases h;simp at k;simp at b;exact ⟨(((v.trans u).trans t).trans s).trans x,a,lo,hi,first,rfl,k.1.1,by omega,by omega,by omega,j⟩
      grind
theorem VJ{m:bk}{a:List Tok}{p:bk×List Tok}(s:Pa.Ends a)(h:oa m a= .ok p):je a p.2/\
  ∃g r1 r2 sets b,m.2.2.2.2.length<256/\eN 2 m.1 a= .ok (g,r1)/\Pa.Ends r2/\fQ m.1 (r2.length+1) [] r2= .ok (sets,b)/\
   p.1=(m.1,m.2.1,m.2.2.1,m.2.2.2.1,m.2.2.2.2++[(i64.wrap ((m.2.2.2.1.length:Int)-1),g,sets)])/\cf [58] r1= .ok r2/\cf [59] b= .ok p.2:=by
 unfold oa at h;cases k:decide (256<=(m.2.2.2.2.length:Int))
 case true=>rw [k] at h;cases h
 rw [k] at h;simp at k;cases j:eN 2 m.1 a with
 |error e=>rw [j] at h;cases h
 |ok r=>
  obtain ⟨g,r1⟩:=r;rw [j] at h;simp only at h;have n:=(tS s j).1;cases f:cf [58] r1 with
  |error e=>rw [f] at h;cases h
  |ok r2=>
   rw [f] at h;simp only at h;have i:=nn n.1 f;cases d:fQ m.1 (r2.length+1) [] r2 with
   |error e=>rw [d] at h;cases h
   |ok q=>
    obtain ⟨sets,b⟩:=q;rw [d] at h;simp only at h;have l:=acy _ _ _ _ i.1 d;cases c:cf [59] b with
    |error e=>rw [c] at h;cases h
    |ok t=>
     rw [c] at h;cases h;have o:=nn l.1 c;exact ⟨((n.trans i).trans l).trans o,g,r1,r2,sets,b,by omega,rfl,i.1,d,rfl,f,c⟩
end Sy
variable {s : Nat}
namespace Pa
open CO
def LN:CO->Nat
 |line _=>0
 |loop _ a=>a.sz
theorem ZH(k n a:Int):(Ex.mk k n a []).sz=1:=by simp [Ex.sz,xx]
theorem asf(k n a:Int)(x:Ex):(Ex.mk k n a [x]).sz=x.sz+1:=by simp [Ex.sz,xx]
theorem ajb(k n a:Int)(x y:Ex):(Ex.mk k n a [x,y]).sz=x.sz+y.sz+1:=by simp [Ex.sz,xx]
theorem P.size{names:List aE}{j:CO}{l:List Tok}{r:Out}(h:P names j d l r):∀p,r= .ok p->p.1.sz+p.2.length<=l.length+LN j:=by
 induction h with
 |ue=>intro p h;cases h
 | @pre s d t l k r b c f i ih=>
  intro p h;cases r with
  |error e=>cases h
  |ok q=>cases h;grind [LN,asf,List.length_cons]
 |other b c f i ih=>intro p h;exact ih p h
 |rErr=>intro p h;cases h
 |rOne b c f i ih=>intro p h;exact ih p h
 | @rTwo s d l a t ts' k r b c f i m ih g=>
  intro p h;cases r with
  |error e=>cases h
  |ok q=>cases h;grind [LN,ajb,List.length_cons]
 |lErr=>intro p h;cases h
 |lGo b c f ih g=>grind [LN]
 |lpEnd b=>grind [LN]
 |lpErr=>intro p h;cases h
 |lpGo b c f ih g=>grind [LN,ajb,List.length_cons]
 |oWord b c=>grind [LN,ZH,List.length_cons]
 |oNum b c f=>grind [LN,ZH,List.length_cons]
 |oVar b c f i m=>grind [LN,ZH,List.length_cons]
 |oName=>intro p h;cases h
 |oOpen b c f i m o n ih=>grind [LN,List.length_cons]
 |oErr=>intro p h;cases h
 |oClose=>intro p h;cases h
 |oForm=>intro p h;cases h
theorem P.suf{names:List aE}{j:CO}{l:List Tok}{r:Out}(h:P names j d l r):∀p,r= .ok p->p.2 <:+ l:=by
 induction h with
 |ue=>intro p h;cases h
 | @pre s d t l k r b c f i ih=>
  intro p h;cases r with
  |error e=>cases h
  |ok q=>cases h;grind
 |other b c f i ih=>exact ih
 |rErr=>intro p h;cases h
 |rOne b c f i ih=>exact ih
 | @rTwo s d l a t ts' k r b c f i m ih g=>
  intro p h;cases r with
  |error e=>cases h
  |ok q=>cases h;grind [List.suffix_cons,trans]
 |lErr=>intro p h;cases h
 |lGo b c f ih g=>grind
 |lpEnd b=>grind
 |lpErr=>intro p h;cases h
 |lpGo b c f ih g=>grind
 |oWord b c=>grind
 |oNum b c f=>grind
 |oVar b c f i m=>grind
 |oName=>intro p h;cases h
 |oOpen b c f i m o n ih=>intro p h;cases h;exact ((q0 _ _).trans (ih _ rfl)).trans (q0 _ _)
 |oErr=>intro p h;cases h
 |oClose=>intro p h;cases h
 |oForm=>intro p h;cases h
def DH(t:Tok):Prop:=t.1=2->0<=t.2.2.1/\t.2.2.1<=1073741824
theorem KN{t:Tok}{k:Int}(h:dD s t=some k):k∈ops s:=by grind [dD,CM,AD,List.mem_of_find?_eq_some]
theorem ao2(hk:kd s=0){k:Int}(h:k∈ops s)(a:Int):vL k 0 1 (oM k) a=true:=by
 have:s=6\/s=10:=by unfold kd at hk;grind
 rcases this with rfl|rfl
 .simp [ops,qe,qF,or_false] at h;rcases h with rfl|rfl|rfl|rfl <;> rfl
 .simp [ops,qe,qF,or_false] at h;subst h;rfl
theorem aef(hk:kd s=1\/kd s=2){k:Int}(h:k∈ops s)(a:Int):vL k 0 2 (oM k) a=true:=by
 have:s=1\/s=2\/s=3\/s=4\/s=5\/s=7\/s=8\/s=9:=by unfold kd at hk;grind
 rcases this with rfl|rfl|rfl|rfl|rfl|rfl|rfl|rfl <;> simp [ops,qe,qF,or_false] at h
 .subst h;rfl
 .subst h;rfl
 .subst h;rfl
 .subst h;rfl
 .rcases h with rfl|rfl <;> rfl
 .rcases h with rfl|rfl|rfl|rfl|rfl|rfl <;> rfl
 .rcases h with rfl|rfl <;> rfl
 .subst h;rfl
theorem anM(hk:kd s=3){k:Int}(h:k∈ops s)(a:Int):vL k 0 0 (oM k) a=true:=by
 have:s=11:=by unfold kd at hk;grind
 subst this;simp [ops,qe,qF,or_false] at h;rcases h with rfl|rfl <;> rfl
theorem WT{b k n a:Int}(h:vL k n 0 (oM k) b=true):fv b (.mk k n a [])=true:=by simp [fv,vS];grind
theorem aoY{b k a:Int}{x:Ex}(h:vL k 0 1 (oM k) b=true)(hx:fv b x=true):fv b (.mk k 0 a [x])=true:=by simp [fv,vS,eb];grind
theorem aeo{b k a:Int}{x y:Ex}(h:vL k 0 2 (oM k) b=true)(hx:fv b x=true)(c:fv b y=true):fv b (.mk k 0 a [x,y])=true:=by simp [fv,vS,eb];grind
def atV(vars:Int):CO->Bool
 |line _=>true
 |loop _ a=>fv vars a
def okJ:CO->Prop
 |line _=>True
 |loop s _=>kd s=2
theorem pS{names:List aE}{v:aE}{i:Nat}(h:at_ names v=some i):i<names.length:=by grind [at_,List.findIdx?_eq_some_iff_getElem]
theorem P.may{names:List aE}{j:CO}{o:List Tok}{r:Out}(h:P names j d o r):okJ j->(∀t∈o,DH t)->atV names.length j=true->∀p,r= .ok p->fv names.length p.1=true:=by
 induction h with
 |ue=>grind
 | @pre s d t o k r g m n w ih=>
  intro _ f _ p h;cases r with
  |error e=>cases h
  |ok q=>cases h;grind [aoY,ao2,KN]
 |other g m n w ih=>intro _ f v p h;exact ih trivial f rfl p h
 |rErr=>grind
 |rOne g m n w ih=>intro _ f v p h;exact ih trivial f rfl _ h
 | @rTwo s d o a t ts' k r g m n w h4 ih l=>
  intro _ f _ p h;cases r with
  |error e=>cases h
  |ok q=>
   have x:=ih trivial f rfl _ rfl;have u:=n.suf _ rfl;have A:=l trivial (λt ht=>f t (u.mem (cp _ ht))) rfl q rfl;cases h;grind [aeo,aef,KN]
 |lErr=>grind
 |lGo g m n ih l=>
  intro _ f _ p h;have x:=ih trivial f rfl _ rfl;have u:=m.suf _ rfl;exact l g (λt ht=>f t (u.mem ht)) x p h
 |lpEnd g=>intro _ f v p h;cases h;exact v
 |lpErr=>grind
 | @lpGo s a d t o k b ts' r g m n ih l=>
  intro y f v p h;have x:=ih trivial (λt ht=>f t (cp _ ht)) rfl _ rfl;have u:=m.suf _ rfl;exact l y (λt ht=>f t (cp _ (u.mem ht))) (aeo (a:=t.2.2.2) (aef (.inr y) (KN g) _) v x) p h
 |oWord g m=>grind [WT,anM,KN]
 | @oNum s d t o g m n=>
  intro _ f _ p h;obtain ⟨n0,n1⟩:=f t (c8 ..) (beq_iff_eq.1 n);grind [WT,vL,oM,decide,decide_eq_false]
 | @oVar s d t o i g m n w h4=>
  have z:=pS h4;grind [WT,vL,oM,decide,decide_eq_false]
 |oName=>grind
 | @oOpen s d t o a c ts' g m n w h4 h5 h6 ih=>intro _ f _ p h;cases h;exact ih trivial (λt ht=>f t (cp _ ht)) rfl (a,c::ts') rfl
 |oErr=>grind
 |oClose=>grind
 |oForm=>grind
end Pa
namespace Pa
def isLet(c:UInt8):Bool:=(decide (97<=c)&&decide (c<=122))||(decide (65<=c)&&decide (c<=90))||c==95
def jN(t:Tok):Prop:=(t.1=1/\∃c s,t.2.1=c::s/\isLet c=true)\/t.1=2\/(t.1=3/\∀c s,t.2.1=c::s->isLet c=false)\/t.1=4
theorem sT{l:List Tok}{a:Nat}{t:Tok}{c:List Tok}(h:l.drop a=t::c):idx l (a:Int)=some t/\l.drop (a+1)=c/\a<l.length/\t∈l:=by
 have b:a<l.length:=by grind [Nat.lt_or_ge,List.drop_of_length_le]
 rw [nJ b] at h;grind [List.cons.injEq,idx,List.getElem?_eq_getElem,List.getElem_mem]
theorem bP{a:Nat}(h:a<4611686018427387904):i64.wrap ((a:Int)+1)=((a+1:Nat):Int):=by grind [bB]
end Pa
namespace Sy
open Pa
theorem vg{α:Type}{l pre r:List α}{x:α}(h:l=pre++x::r):decide ((pre.length:Int)<(List.length l:Int))=true:=by subst h;simp;omega
theorem uS{α:Type}{l pre:List α}(h:l=pre++[]):decide ((pre.length:Int)<(List.length l:Int))=false:=by subst h;simp
theorem lr{α:Type}{l pre r:List α}{x:α}(h:l=pre++x::r):idx l (pre.length:Int)=some x:=by subst h;simp [idx]
theorem cC{k b:Nat}(h:k*b<=140737488355328)(a:k<=9223372036854775807):aH k b=true:=by simp_all [aH,au]
theorem aO{ρ:Type}{c:Bool}(h:c=true)(k:Option ρ):aN c k=k:=by subst h;rfl
end Sy
theorem aep(a:aE):jS a=some (yY.contains a):=by
 unfold jS ye yY;simp only [List.contains_cons,List.contains_nil];cases (a==[116,114,117,101])
 case true=>rfl
 cases (a==[102,97,108,115,101])
 case true=>rfl
 cases (a==[88])
 case true=>rfl
 cases (a==[70])
 case true=>rfl
 cases (a==[71])
 case true=>rfl
 cases (a==[85])
 case true=>rfl
 cases (a==[82])
 case true=>rfl
 cases (a==[118,97,114])
 case true=>rfl
 cases (a==[112,114,111,99]) <;> rfl
namespace Pa
open CO
def Kt(w:Bool)(x:aE):Bool:=match x with
 |[]=>false
 |c::_=>isLet c==w&&yY.contains x==w
theorem aaj{t:Tok}(h:jN t){x:aE}(hx:Kt true x=true):(AD t&&(x==t.2.1))=((t.1==1)&&(t.2.1==x)):=by
 obtain ⟨k,y,n,p⟩:=t;simp [AD,key];by_cases a:y=x
 .subst a;rcases h with ⟨rfl,c,s,b,d⟩|rfl|⟨rfl,e⟩|rfl
  .simp_all [Kt,au]
  .simp
  .cases y with
   |nil=>cases hx
   |cons c s=>
    simp [Kt,au] at hx;grind
  .simp
 grind
theorem arf{t:Tok}(h:jN t){x:aE}(hx:Kt false x=true):(AD t&&(x==t.2.1))=((t.1==3)&&(t.2.1==x)):=by
 obtain ⟨k,y,n,p⟩:=t;simp [AD];by_cases a:y=x
 .subst a;rcases h with ⟨rfl,c,s,b,d⟩|rfl|⟨rfl,e⟩|rfl
  .simp_all [Kt,au]
  .simp
  .simp
  .simp
 grind
def kQ(t:Tok):Bool:=(t.1 != 2)&&(t.1 != 4)
theorem bI{t:Tok}(h:jN t){x:aE}{w:Bool}(hx:Kt w x=true):(AD t&&(x==t.2.1))=(kQ t&&(t.2.1==x)):=by
 by_cases b:t.2.1=x
 .rcases h with ⟨i,c,s,a,f⟩|e|⟨g,d⟩|d
  .rw [b] at a;simp_all [Kt,AD,key,kQ]
  .simp [AD,kQ,e]
  .grind [AD,kQ]
  grind [AD,kQ]
 grind
theorem pY(t:Tok):CM [] t=none:=by grind [CM,AD]
theorem mY(o:Int)(l:zl)(t:Tok):CM (o::l) t=bif (AD t&&(bS o==t.2.1)) then some o else CM l t:=by unfold CM;grind
def opt(o:zd):Int:=o.getD 0
theorem atU{t:Tok}(h:jN t):cY t 1=some (opt (dD 1 t)):=by have e:=bI h (x:=bS 19) (w:=false) rfl;simp [dD,ops,mY,pY,e];show (bif kQ t then (bif (t.2.1==bS 19) then some 19 else some 0) else some 0)=_;cases kQ t <;> cases (t.2.1==bS 19) <;> rfl
theorem atS{t:Tok}(h:jN t):cY t 2=some (opt (dD 2 t)):=by have e:=bI h (x:=bS 18) (w:=false) rfl;simp [dD,ops,mY,pY,e];show (bif kQ t then (bif (t.2.1==bS 18) then some 18 else some 0) else some 0)=_;cases kQ t <;> cases (t.2.1==bS 18) <;> rfl
theorem atF{t:Tok}(h:jN t):cY t 3=some (opt (dD 3 t)):=by have e:=bI h (x:=bS 17) (w:=false) rfl;simp [dD,ops,mY,pY,e];show (bif kQ t then (bif (t.2.1==bS 17) then some 17 else some 0) else some 0)=_;cases kQ t <;> cases (t.2.1==bS 17) <;> rfl
theorem atJ{t:Tok}(h:jN t):cY t 4=some (opt (dD 4 t)):=by have e:=bI h (x:=bS 16) (w:=false) rfl;simp [dD,ops,mY,pY,e];show (bif kQ t then (bif (t.2.1==bS 16) then some 16 else some 0) else some 0)=_;cases kQ t <;> cases (t.2.1==bS 16) <;> rfl
theorem atN{t:Tok}(h:jN t):cY t 5=some (opt (dD 5 t)):=by have e:=bI h (x:=bS 23) (w:=true) rfl;have a:=bI h (x:=bS 24) (w:=true) rfl;simp [dD,ops,mY,pY,e,a];show (bif kQ t then (bif (t.2.1==bS 23) then some 23 else (bif (t.2.1==bS 24) then some 24 else some 0)) else some 0)=_;cases kQ t <;> cases (t.2.1==bS 23) <;> cases (t.2.1==bS 24) <;> rfl
theorem atL{t:Tok}(h:jN t):cY t 8=some (opt (dD 8 t)):=by have e:=bI h (x:=bS 3) (w:=false) rfl;have a:=bI h (x:=bS 4) (w:=false) rfl;simp [dD,ops,mY,pY,e,a];show (bif kQ t then (bif (t.2.1==bS 3) then some 3 else (bif (t.2.1==bS 4) then some 4 else some 0)) else some 0)=_;cases kQ t <;> cases (t.2.1==bS 3) <;> cases (t.2.1==bS 4) <;> rfl
theorem atC{t:Tok}(h:jN t):cY t 9=some (opt (dD 9 t)):=by have e:=bI h (x:=bS 5) (w:=false) rfl;simp [dD,ops,mY,pY,e];show (bif kQ t then (bif (t.2.1==bS 5) then some 5 else some 0) else some 0)=_;cases kQ t <;> cases (t.2.1==bS 5) <;> rfl
theorem atT{t:Tok}(h:jN t):cY t 7=some (opt (dD 7 t)):=by
 have n:=bI h (x:=bS 7) (w:=false) rfl;have l:=bI h (x:=bS 8) (w:=false) rfl;have e3:=bI h (x:=bS 9) (w:=false) rfl;have e4:=bI h (x:=bS 10) (w:=false) rfl;have k:=bI h (x:=bS 11) (w:=false) rfl;have j:=bI h (x:=bS 12) (w:=false) rfl;simp [dD,ops,mY,pY,n,l,e3,e4,k,j];obtain ⟨m,hm⟩:∃m,an=m+7:=⟨18446744073709551609,rfl⟩;refine Eq.trans (b:=bif kQ t then aj (bM t) (m+7) 0 else some 0) rfl ?_;have i:aj (bM t) (m+7) 0=bif (t.2.1==bS 7) then some 7 else aj (bM t) (m+6) 1:=rfl
 have g:aj (bM t) (m+6) 1=bif (t.2.1==bS 8) then some 8 else aj (bM t) (m+5) 2:=rfl
 have f:aj (bM t) (m+5) 2=bif (t.2.1==bS 9) then some 9 else aj (bM t) (m+4) 3:=rfl
 have e:aj (bM t) (m+4) 3=bif (t.2.1==bS 10) then some 10 else aj (bM t) (m+3) 4:=rfl
 have d:aj (bM t) (m+3) 4=bif (t.2.1==bS 11) then some 11 else aj (bM t) (m+2) 5:=rfl
 have c:aj (bM t) (m+2) 5=bif (t.2.1==bS 12) then some 12 else aj (bM t) (m+1) 6:=rfl
 have a:aj (bM t) (m+1) 6=some 0:=rfl;rw [i,g,f,e,d,c,a];cases kQ t
 .rfl
 cases (t.2.1==bS 7)
 case true=>rfl
 cases (t.2.1==bS 8)
 case true=>rfl
 cases (t.2.1==bS 9)
 case true=>rfl
 cases (t.2.1==bS 10)
 case true=>rfl
 cases (t.2.1==bS 11)
 case true=>rfl
 cases (t.2.1==bS 12) <;> rfl
theorem aoE{t:Tok}(h:jN t){s:Nat}(c:1<=s)(a:s<=9)(b:s≠6):cY t (s:Int)=some (opt (dD s t)):=by
 have:s=1\/s=2\/s=3\/s=4\/s=5\/s=7\/s=8\/s=9:=by omega
 rcases this with rfl|rfl|rfl|rfl|rfl|rfl|rfl|rfl
 .exact atU h
 .exact atS h
 .exact atF h
 .exact atJ h
 .exact atN h
 .exact atT h
 .exact atL h
 .exact atC h
theorem RK{t:Tok}{k:Int}(h:dD s t=some k):(k==0)=false:=by
 have key:∀l:zl,(l.all λo=>o != 0)=true->CM l t=some k->(k==0)=false:=λl hl h=>by grind [CM,AD,List.mem_of_find?_eq_some,List.all_eq_true]
 refine key (ops s) ?_ h
 match s with
 |0=>rfl
 |1=>rfl
 |2=>rfl
 |3=>rfl
 |4=>rfl
 |5=>rfl
 |6=>rfl
 |7=>rfl
 |8=>rfl
 |9=>rfl
 |10=>rfl
 |11=>rfl
 |n+12=>rfl
abbrev R4:=Ex×Int×Int×Int
abbrev LF:=(Int×Int×List Tok×Int×List aE×Int×Int)->Option R4
def RR(l:List Tok)(r:Out)(m:Option R4):Prop:=match r with
 | .ok (x,ts)=>∃a:Nat,l.drop a=ts/\m=some (x,(a:Int),0,0)
 | .error (b,p)=>∃x a,m=some (x,a,b,p)
theorem Jo{names:List aE}{j:CO}{a:List Tok}{b p:Int}(h:P names j d a (.error (b,p))):(b != 0)=true:=by rcases h.err _ rfl with h|h|h <;> (grind)
theorem OQ{l:List Tok}{a:Nat}{t:Tok}(h:idx l (a:Int)=some t)(b:Int)(names:List aE)(p:Int):bH b l (a:Int) names 0 p=some (.mk 0 0 0 [],b,t.2.2.2):=by grind [bH]
def oG(names:List aE)(v:aE)(i:Nat):ze:=((names.drop i).findIdx? (λx=>v==x)).map (· +i)
theorem Qe(names:List aE)(v:aE):oG names v 0=at_ names v:=by unfold oG at_;simp
theorem amA{l:List Tok}{a:Nat}{t:Tok}{names:List aE}(hn:names.length<4611686018427387904)(ha:a<4611686018427387904)(ht:idx l (a:Int)=some t):
  ∀(m i M:Nat),names.length-i<=m->i<=names.length->m<M->
   aj (eB l (a:Int) names 0 0 t) M (i:Int)=
    match oG names t.2.1 i with
    |some j=>some (.mk 2 (j:Int) t.2.2.2 [],((a+1:Nat):Int),0,0)
    |none=>some (.mk 0 0 0 [],(a:Int),3,t.2.2.2):=by
 intro m
 induction m with
 |zero=>
  intro i M d c b;obtain ⟨M,rfl⟩:∃k,M=k+1:=⟨M-1,by omega⟩;have hi:i=names.length:=by omega
  simp_all [ao,oG,eB,OQ]
 |succ m ih=>
  intro i M d c b;obtain ⟨M,rfl⟩:∃k,M=k+1:=⟨M-1,by omega⟩;rw [ao];by_cases hi:i<names.length
  .have hd  :=nJ hi;have hx:idx names (i)=some names[i]:=by simp [idx]
   simp only [eB,cb (show ((i):Int)<(List.length names) by omega),hx,ah,bP ha,bP (show i<4611686018427387904 by omega)];have e:oG names t.2.1 i=bif (names[i]==t.2.1) then some i else oG names t.2.1 (i+1):=by
    unfold oG;rw [hd,List.findIdx?_cons];have:(t.2.1==names[i])=(names[i]==t.2.1):=by grind
    rw [this];cases (names[i]==t.2.1)
    .simp;congr 1;grind
    .simp
   rw [e];cases (names[i]==t.2.1)
   .exact ih (i+1) M (by omega) (by omega) (by omega)
   .rfl
  .have hi:i=names.length:=by omega
   simp_all [oG,eB,OQ]
def SR(names:List aE)(l:List Tok)(k:LF)(s:Nat)(d:Int)(a:Nat):Prop:= ∃r,P names (line s) d (l.drop a) r/\RR l r (k ((s:Int),d,l,(a:Int),names,0,0))
theorem aqS{names:List aE}(hn:names.length<4611686018427387904){l:List Tok}(hl:l.length<4611686018427387904)(htok:∀t∈l,jN t){k:LF}{d:Int}{a:Nat}(E:Ends (l.drop a))
  (hk:Ends (l.drop (a+1))->SR names l k 1 d (a+1)):∃r,P names (line 11) d (l.drop a) r/\RR l r (dY k d l (a:Int) names 0 0):=by
 obtain ⟨t,Q,s⟩:=E.ne;obtain ⟨hx,i,J,v⟩:=sT s;have u:=htok t v;have ha:a<4611686018427387904:=by omega
 have N:=aaj u (x:=bS 13) rfl;have O:=aaj u (x:=bS 14) rfl;have o:dD 11 t=bif ((t.1==1)&&(t.2.1==bS 13)) then some 13 else bif ((t.1==1)&&(t.2.1==bS 14)) then some 14 else none:=by simp only [dD,ops,mY,pY,N,O]
 rw [s];unfold dY;simp only [hx,ah,aK,aep,bP ha];cases n:(t.1==2)
 case true=>
  have M:(t.1==1)=false:=by have:=beq_iff_eq.1 n;rw [this];rfl
  exact ⟨_,.oNum rfl (by rw [o,M];rfl) n,a+1,i,rfl⟩
 simp only [b7];cases z:((t.1==1)&&(t.2.1==bS 13))
 case true=>
  rw [show ((t.1==1)&&(t.2.1==[116,114,117,101]))=true from z];exact ⟨_,.oWord rfl (by rw [o,z];rfl),a+1,i,rfl⟩
 rw [show ((t.1==1)&&(t.2.1==[116,114,117,101]))=false from z];simp only [b7];cases B:((t.1==1)&&(t.2.1==bS 14))
 case true=>
  rw [show ((t.1==1)&&(t.2.1==[102,97,108,115,101]))=true from B];exact ⟨_,.oWord rfl (by rw [o,z,B];rfl),a+1,i,rfl⟩
 rw [show ((t.1==1)&&(t.2.1==[102,97,108,115,101]))=false from B];simp only [b7];have f:dD 11 t=none:=by rw [o,z,B];rfl
 cases hN:((t.1==1)&& !(yY.contains t.2.1))
 case true=>
  have e:Dm t=true:=hN;simp only [ca];have:=amA hn ha hx names.length 0 an (by omega) (by omega) (by show names.length<2^64;omega);rw [show ((0:Nat):Int)=0 from rfl,Qe] at this;rw [this];cases hat:at_ names t.2.1 with
  |some j=>exact ⟨_,.oVar rfl f n e hat,a+1,i,rfl⟩
  |none=>exact ⟨_,.oName rfl f n e hat,_,_,rfl⟩
 have e:Dm t=false:=hN;simp only [b7];cases A:(((t.1 != 3)||(t.2.1 != [40])):Bool)
 case true=>
  have g:open_ t=false:=by
   unfold open_;simp only [eZ,bne_iff_ne] at A;rcases A with h|h
   .rw [beq_eq_false_iff_ne.2 h];rfl
   .rw [beq_eq_false_iff_ne.2 h,qK]
  simp only [ca,OQ hx,ah];exact ⟨_,.oForm rfl f n e g,_,_,rfl⟩
 have G  :=by simp at A;exact A
 have g:open_ t=true:=by unfold open_;rw [G.1,G.2];rfl
 have w  :=by rw [s] at E;exact E.tail (by rw [G.1];decide)
 obtain ⟨r,m,hm⟩:=hk (by rw [i];exact w);rw [i] at m
 match r,m,hm with
 | .error (b,p),m,⟨x,a',hm⟩=>
  have hb:=Jo m;rw [show ((1:Nat):Int)=1 from rfl] at hm;rw [hm,ah];simp [hb];exact ⟨_,.oErr rfl f n e g m,_,_,rfl⟩
 | .ok (x,ts'),m,⟨a',ha',hm⟩=>
  rw [show ((1:Nat):Int)=1 from rfl] at hm;obtain ⟨D,sK⟩:=m.ends w _ rfl;obtain ⟨c,I,L⟩:=D.ne;subst L;obtain ⟨q,F,H,C⟩:=sT ha';rw [hm,ah];simp [q,bP (show a'<4611686018427387904 by omega)];by_cases y:c.1=3
  .have e3:(c.1 != 3)=false:=by rw [y];rfl
   simp [e3,iN,dN,ah];cases K:(c.2.1 != [41])
   .have:close_ c=true:=by grind [close_,bne_eq_false_iff_eq]
    exact ⟨_,.oOpen rfl f n e g m this,a'+1,F,rfl⟩
   .have:close_ c=false:=by simp_all [close_,bne_iff_ne]
    simp [OQ q];exact ⟨_,.oClose rfl f n e g m this,_,_,rfl⟩
  .have e3  :=bne_iff_ne.2 y;have:close_ c=false:=by grind [close_,beq_eq_false_iff_ne]
   simp [e3,OQ q];exact ⟨_,.oClose rfl f n e g m this,_,_,rfl⟩
end Pa
namespace Pa
open CO
theorem Sv(e:Ex):Ex.mk e.op e.n e.at_ e.l=e:=by cases e;rfl
theorem afr(m:Option R4):(m.bind λr=>some (r.1,r.2.1,r.2.2.1,r.2.2.2))=m:=by cases m <;> rfl
theorem RR.one{l:List Tok}{r:Out}{m:Option R4}(h:RR l r m)(c pl:Int):RR l (aqM c pl r) (m.bind λr=>some (.mk c 0 pl [r.1],r.2.1,r.2.2.1,r.2.2.2)):=by
 match r,h with
 | .ok (x,ts),⟨a,h1,h2⟩=>subst h2;exact ⟨a,h1,rfl⟩
 | .error (b,p),⟨x,a,h2⟩=>subst h2;exact ⟨_,_,rfl⟩
theorem RR.two{l:List Tok}{r:Out}{m:Option R4}(h:RR l r m)(c pl:Int)(y:Ex):RR l (asn c pl y r) (m.bind λr=>some (.mk c 0 pl [y,r.1],r.2.1,r.2.2.1,r.2.2.2)):=by
 match r,h with
 | .ok (x,ts),⟨a,h1,h2⟩=>subst h2;exact ⟨a,h1,rfl⟩
 | .error (b,p),⟨x,a,h2⟩=>subst h2;exact ⟨_,_,rfl⟩
theorem ajY{s:Nat}(a:1<=s)(h:s<=10):l8 (s:Int)=some (Bc s):=by
 have:s=1\/s=2\/s=3\/s=4\/s=5\/s=6\/s=7\/s=8\/s=9\/s=10:=by omega
 rcases this with rfl|rfl|rfl|rfl|rfl|rfl|rfl|rfl|rfl|rfl <;> rfl
theorem atx{k:LF}{s:Nat}(c:1<=s)(h:s<=10){d:Int}(f:0<=d)(e:d<=320)(l:List Tok)(a:Int)(names:List aE):
  dy k (s:Int) d l a names 0 0=jY k (s:Int) l a names 0 0 (Bc s) (dn s d):=by
 unfold dy;simp [ajY c h];have b:i64.wrap (d+1)=d+1:=bB (by omega);unfold dn;rw [b];cases Bc s <;> rfl
theorem apN(s:Nat)(d:Int):(Bc s&&decide (320<dn s d))=sA s d:=by unfold sA dn;grind
theorem asJ{s:Nat}{d:Int}(b:0<=d)(a:d<=320)(hd:sA s d=false):0<=dn s d/\dn s d<=320:=by unfold sA at hd;unfold dn;grind
section
variable {names : List aE} {l : List Tok} {k : LF} {N : Nat}
variable (hn : names.length < 4611686018427387904) (hl : l.length < 4611686018427387904) (htok :∀t ∈ l, jN t)
variable (hk :∀(s : Nat) (d : Int) (a : Nat), 1 <= s -> s <= 10 -> 0 <= d -> d <= 320 -> Ends (l.drop a) -> 12 * (l.drop a).length + (11 - s) < N -> SR names l k s d a)
include hn hl htok hk
theorem pre6{d:Int}{a:Nat}{t:Tok}{i:List Tok}(c:l.drop a=t::i)(w:Ends (t::i))(z:0<=dn 6 d)(y:dn 6 d<=320)(hd:sA 6 d=false)(hN:12*(l.drop a).length+5<N+1):
  ∃r,P names (line 6) d (t::i) r/\RR l r (dh k l (a:Int) names 0 0 (dn 6 d) t (bif ((t.1==3)&&(t.2.1==[33])) then 15 else 0)):=by
 obtain ⟨hx,f,B,h⟩:=sT c;have e:=htok t h;have G:=arf e (x:=bS 15) rfl;have F:=aaj e (x:=bS 20) rfl;have E:=aaj e (x:=bS 21) rfl;have D:=aaj e (x:=bS 22) rfl;have m:dD 6 t=bif ((t.1==3)&&(t.2.1==bS 15)) then some 15 else bif ((t.1==1)&&(t.2.1==bS 20)) then some 20 else bif ((t.1==1)&&(t.2.1==bS 21)) then some 21 else bif ((t.1==1)&&(t.2.1==bS 22)) then some 22 else none:=by grind [dD,ops,mY,pY]
 have C:dh k l (a) names 0 0 (dn 6 d) t (bif ((t.1==3)&&(t.2.1==[33])) then 15 else 0)=j7 k l (a) names 0 0 (dn 6 d) t (opt (dD 6 t)):=by
  rw [m];unfold dh pM pK;rw [show bS 15=[33] from rfl,show bS 20=[88] from rfl,show bS 21=[70] from rfl,show bS 22=[71] from rfl];by_cases u:t.1=1
  .rw [u];by_cases q:t.2.1=[88]
   .rw [q];rfl
   .by_cases s:t.2.1=[70]
    .rw [s];rfl
    .by_cases p:t.2.1=[71]
     .rw [p];rfl
     .rw [beq_eq_false_iff_ne.2 q,beq_eq_false_iff_ne.2 s,beq_eq_false_iff_ne.2 p];rfl
  .rw [beq_eq_false_iff_ne.2 u];cases ((t.1==3)&&(t.2.1==[33])) <;> rfl
 rw [C];unfold j7;have v:(l.drop a).length=i.length+1:=by rw [c];rfl
 cases j:dD 6 t with
 |none=>
  obtain ⟨r,g,hm⟩:=hk 7 (dn 6 d) a (by omega) (by omega) z y (by rw [c];exact w) (by omega);rw [c] at g;refine ⟨r,.other rfl hd j g,?_⟩;show RR l r ((k (7,dn 6 d,l,(a),names,0,0)).bind λb=>some (b.1,b.2.1,b.2.2.1,b.2.2.2));grind [afr]
 |some A=>
  have n:=RK j;have o  :=w.tail (Ha j);obtain ⟨r,g,hm⟩:=hk 6 (dn 6 d) (a+1) (by omega) (by omega) z y (by rw [f];exact o) (by rw [f];omega);rw [f] at g;refine ⟨_,.pre rfl hd j g,?_⟩;simp [opt,qG,n,bP (show a<4611686018427387904 by omega)];exact hm.one A t.2.2.2
theorem atg{d:Int}{a:Nat}{t:Tok}{m:List Tok}(f:l.drop a=t::m)(q:Ends (t::m))(u:0<=dn 10 d)(s:dn 10 d<=320)(hd:sA 10 d=false)(hN:12*(l.drop a).length+1<N+1):
  ∃r,P names (line 10) d (t::m) r/\RR l r (bif ((t.1 != 3)||(t.2.1 != [45])) then ((dY k (dn 10 d) l (a:Int) names 0 0).bind λe=>some (e.1,e.2.1,e.2.2.1,e.2.2.2))
   else ((k (10,dn 10 d,l,(i64.wrap ((a:Int)+1)),names,0,0)).bind λb=>some ((Ex.mk 6 0 t.2.2.2 ([b.1]:List Ex)),b.2.1,b.2.2.1,b.2.2.2))):=by
 obtain ⟨hx,g,v,j⟩:=sT f;have n:=htok t j;have w:=arf n (x:=bS 6) rfl;have c:dD 10 t=bif ((t.1==3)&&(t.2.1==bS 6)) then some 6 else none:=by grind [dD,ops,mY,pY]
 have p:(l.drop a).length=m.length+1:=by rw [f];rfl
 have hb:((t.1 != 3)||(t.2.1 != [45]))= !((t.1==3)&&(t.2.1==bS 6)):=by show ((!(t.1==3))||(!(t.2.1==[45])))=_;rw [show bS 6=[45] from rfl,Bool.not_and]
 rw [hb];cases o:((t.1==3)&&(t.2.1==bS 6))
 .rw [o] at c;simp [afr];obtain ⟨r,i,hm⟩:=aqS hn hl htok (by rw [f];exact q) (λh=>hk 1 (dn 10 d) (a+1) (by omega) (by omega) u s h (by rw [g];omega));rw [f] at i;exact ⟨r,.other rfl hd c i,hm⟩
 .rw [o] at c;have h  :=q.tail (Ha c);simp [bP (show a<4611686018427387904 by omega)];obtain ⟨r,i,hm⟩:=hk 10 (dn 10 d) (a+1) (by omega) (by omega) u s (by rw [g];exact h) (by rw [g];omega);rw [g] at i;exact ⟨_,.pre rfl hd c i,hm.one 6 t.2.2.2⟩
theorem akq{s:Nat}(q:1<=s)(K:s<=9)(L:s≠6)(C:kd s=2){D:Int}(Q:0<=D)(O:D<=320)(G:((((s:Int)==1)||((s:Int)==2))||((s:Int)==5))=false)(F:((s:Int)==7)=false):
  ∀(n a M:Nat) (x:Ex),(l.drop a).length<=n->n<M->Ends (l.drop a)->12*(l.drop a).length<=N->
   ∃r,P names (loop s x) D (l.drop a) r/\RR l r (aj (di k (s:Int) l names D) M ((a:Int),0,0,x.op,x.n,x.at_,x.l)):=by
 intro n
 induction n with
 |zero=>
  intro a M x q S o _;obtain ⟨t,A,c⟩:=o.ne;rw [c] at q;simp at q
 |succ n ih=>
  intro a M x J R o hN;obtain ⟨M,rfl⟩:∃m,M=m+1:=⟨M-1,by omega⟩;obtain ⟨t,A,c⟩:=o.ne;obtain ⟨hx,e,I,h⟩:=sT c;have v:=htok t h;have B:(l.drop a).length=A.length+1:=by rw [c];rfl
  rw [ao];simp [di,hx,ah,aoE v q K L,aK,G,b7];cases g:dD s t with
  |none=>
   refine ⟨.ok (x,l.drop a),by rw [c];exact .lpEnd g,a,rfl,?_⟩;simp [opt,Option.getD_none,qh,ca,Sv]
  |some E=>
   have w:=RK g;have i  :=by rw [c] at o;exact o.tail (Ha g)
   have u:i64.wrap ((s)+1)=((s+1:Nat)):=by grind [bB]
   simp only [opt,qG,w,bP (show a<4611686018427387904 by omega),u];obtain ⟨r,d,hm⟩:=hk (s+1) D (a+1) (by omega) (by omega) Q O (by rw [e];exact i) (by rw [e];omega);rw [e] at d
   match r,d,hm with
   | .error (b,p),d,⟨y,a',hm⟩=>
    have hb:=Jo d;have z:(b==0)=false:=by simpa using hb
    rw [hm,ah];obtain ⟨M,rfl⟩:∃m,M=m+1:=⟨M-1,by omega⟩;rw [ao];simp [di,z];rw [c];exact ⟨_,.lpErr g d,_,_,rfl⟩
   | .ok (y,ts'),d,⟨a',ha',hm⟩=>
    obtain ⟨j,sK⟩:=d.ends i _ rfl;simp [shorter] at sK j;obtain ⟨r2,f,H⟩:=ih a' M (.mk E 0 t.2.2.2 [x,y]) (by rw [ha'];omega) (by omega) (by rw [ha'];exact j) (by rw [ha'];omega);rw [ha'] at f;refine ⟨r2,by rw [c];exact .lpGo g d f,?_⟩;grind [Sv]
theorem aj9{s:Nat}(T:1<=s)(S:s<=10){d:Int}(h0:0<=d)(Z:d<=320){a:Nat}(u:Ends (l.drop a))(hN:12*(l.drop a).length+(11-s)<N+1):
  ∃r,P names (line s) d (l.drop a) r/\RR l r (dy k (s:Int) d l (a:Int) names 0 0):=by
 obtain ⟨t,ts,c⟩:=u.ne;obtain ⟨hx,hd1,hlt,W⟩:=sT c;rw [atx T S h0 Z];unfold jY;simp only [aK,apN];cases hd:sA s d
 case true=>
  rw [c];simp only [ca,OQ hx,ah];exact ⟨_,.ue hd,_,_,rfl⟩
 obtain ⟨j,i⟩:=asJ h0 Z hd;simp only [b7,hx,ah];rw [c] at u;by_cases R:s=6
 .subst R;have:=pre6 hn hl htok hk c u j i hd (by omega);rw [c];obtain ⟨r,f,hm⟩:=this;refine ⟨r,f,?_⟩;show RR l r (bif ((t.1==3)&&(t.2.1==[33])) then dh k l (a:Int) names 0 0 (dn 6 d) t 15 else dh k l (a:Int) names 0 0 (dn 6 d) t 0);cases hb:((t.1==3)&&(t.2.1==[33])) <;> rw [hb] at hm <;> exact hm
 by_cases v:s=10
 .subst v;obtain ⟨r,f,hm⟩:=atg hn hl htok hk c u j i hd (by omega);rw [c];exact ⟨r,f,hm⟩
 have b6:((s:Int)==6)=false:=beq_eq_false_iff_ne.2 (by omega);have U:((s:Int)==10)=false:=beq_eq_false_iff_ne.2 (by omega);have w:i64.wrap ((s:Int)+1)=((s+1:Nat):Int):=by rw [bB (by omega)];omega
 simp only [b6,U,b7,w];obtain ⟨r,f,hm⟩:=hk (s+1) (dn s d) a (by omega) (by omega) j i (by rw [c];exact u) (by omega);have Y:(l.drop a).length=ts.length+1:=by rw [c];rfl
 have B:kd s=1\/kd s=2:=by
  have:s=1\/s=2\/s=3\/s=4\/s=5\/s=7\/s=8\/s=9:=by omega
  rcases this with rfl|rfl|rfl|rfl|rfl|rfl|rfl|rfl <;> simp [kd]
 match r,f,hm with
 | .error (b,p),f,⟨y,a',hm⟩=>
  have hb:=Jo f;have M:(b==0)=false:=by simpa using hb
  rw [hm,ah];obtain ⟨m,O⟩:∃m,an=m+1:=⟨18446744073709551615,rfl⟩;rw [O,ao];simp only [di,M,b7];rcases B with h|h
  .exact ⟨_,.rErr h hd f,_,_,rfl⟩
  .refine ⟨.error (b,p),.lErr h (d:=d) ?_,_,_,rfl⟩;have:dn s d=d:=by
    have:s=3\/s=4\/s=8\/s=9:=by
     have:s=1\/s=2\/s=3\/s=4\/s=5\/s=7\/s=8\/s=9:=by omega
     rcases this with rfl|rfl|rfl|rfl|rfl|rfl|rfl|rfl <;> simp [kd] at h <;> simp
    rcases this with rfl|rfl|rfl|rfl <;> rfl
   rw [this] at f;exact f
 | .ok (x,ts'),f,⟨a',ha',hm⟩=>
  rw [c] at f;obtain ⟨o,sK⟩:=f.ends u _ rfl;simp only [shorter,eb] at sK o;rw [hm,ah];rcases B with h|h
  . -- once
   obtain ⟨t2,D,F⟩:=o.ne;subst F;obtain ⟨E,g,X,q⟩:=sT ha';have z:=htok t2 q;obtain ⟨m,O⟩:∃m,an=m+1:=⟨18446744073709551615,rfl⟩;rw [O,ao,c];simp only [di,qh,ca,E,ah,aoE z T (by omega) R,aK];cases A:dD s t2 with
   |none=>
    refine ⟨_,.rOne h hd f A,a',ha',?_⟩;simp only [opt,Option.getD_none,qh,ca,Sv]
   |some V=>
    have J:=RK A;have C:Ends D:=o.tail (Ha A);simp only [opt,qG,J,b7,bP (show a'<4611686018427387904 by omega),w,Sv];simp only [eb] at sK;have L:s=1\/s=2\/s=5\/s=7:=by
     have:s=1\/s=2\/s=3\/s=4\/s=5\/s=7\/s=8\/s=9:=by omega
     rcases this with rfl|rfl|rfl|rfl|rfl|rfl|rfl|rfl <;> simp [kd] at h <;> simp
    by_cases Q:s=7
    .subst Q;obtain ⟨r2,e,n⟩:=hk 8 (dn 7 d) (a'+1) (by omega) (by omega) j i (by rw [g];exact C) (by rw [g];omega);rw [g] at e;exact ⟨_,.rTwo h hd f A e,n.two V t2.2.2.2 x⟩
    .obtain ⟨r2,e,n⟩:=hk s (dn s d) (a'+1) (by omega) (by omega) j i (by rw [g];exact C) (by rw [g];omega);rw [g] at e;have H:nx s=s:=by unfold nx;rw [beq_eq_false_iff_ne.2 Q];rfl
     refine ⟨_,.rTwo h hd f A (by rw [H];exact e),?_⟩;have hb:((((s:Int)==1)||((s:Int)==2))||((s:Int)==5))=true:=by
      rcases L with rfl|rfl|rfl|rfl
      .rfl
      .rfl
      .rfl
      .exact absurd rfl Q
     rw [hb];exact n.two V t2.2.2.2 x
  . -- from the left
   have L:s=3\/s=4\/s=8\/s=9:=by
    have:s=1\/s=2\/s=3\/s=4\/s=5\/s=7\/s=8\/s=9:=by omega
    rcases this with rfl|rfl|rfl|rfl|rfl|rfl|rfl|rfl <;> simp [kd] at h <;> simp
   have K:dn s d=d:=by rcases L with rfl|rfl|rfl|rfl <;> rfl
   have hq:((((s:Int)==1)||((s:Int)==2))||((s:Int)==5))=false:=by grind
   have G:((s:Int)==7)=false:=by grind
   have I:(l.drop a').length<=l.length:=by simp
   obtain ⟨r2,e,n⟩:=akq hn hl htok hk T (by omega) R h j i hq G l.length a' an x I (by show l.length<2^64;omega) (by rw [ha'];exact o) (by rw [ha'];omega);rw [ha'] at e;rw [c];rw [K] at f e;exact ⟨r2,.lGo h f e,n⟩
end
theorem anv{names:List aE}{l:List Tok}(hn:names.length<4611686018427387904)(hl:l.length<4611686018427387904)(htok:∀t∈l,jN t):
  ∀(N:Nat) (s:Nat) (d:Int) (a:Nat),1<=s->s<=10->0<=d->d<=320->Ends (l.drop a)->12*(l.drop a).length+(11-s)<N->
   SR names l (aj (λk (s:(Int×Int×(List (Int×aE×Int×Int))×Int×(List aE)×Int×Int))=>dy k s.1 s.2.1 s.2.2.1 s.2.2.2.1 s.2.2.2.2.1 s.2.2.2.2.2.1 s.2.2.2.2.2.2) N) s d a:=by
 intro N
 induction N with
 |zero=>grind
 |succ N ih=>
  intro s d a f b g e c hN;exact aj9 hn hl htok ih f b g e c hN
theorem ajx{names:List aE}{l:List Tok}(hn:names.length<4611686018427387904)(hl:l.length<1152921504606846976)(htok:∀t∈l,jN t){a:Nat}(f:Ends (l.drop a)):
  ∃r,P names (line 1) 0 (l.drop a) r/\match r with
   | .ok (x,ts)=>∃d:Nat,l.drop d=ts/\fE l (a:Int) names=some (x,(d:Int),0,0)
   | .error (b,p)=>fE l (a:Int) names=some (.mk 0 0 0 [],0,b,p):=by
 have e:(l.drop a).length<=l.length:=by simp
 obtain ⟨r,c,hm⟩:=anv hn (by omega) htok an 1 0 a (by omega) (by omega) (by omega) (by omega) f (by show _<2^64;omega);unfold fE iL
 match r,c,hm with
 | .ok (x,ts),c,⟨d,ha',hm⟩=>
  grind
 | .error (b,p),c,⟨x,d,hm⟩=>
  have hb:=Jo c;grind
end Pa
theorem Ky(k:Ex->Option (Int×Int×Int))(e:Ex)(hk:∀x∈e.l,k x=some (rt x))(hl:e.l.length<1152921504606846976):
  ∀(r pre:List Ex),e.l=pre++r->∀(M:Nat) (i b t:Int),0<=i/\i<=pre.length->0<=b/\b<=pre.length->0<=t/\t<=pre.length->r.length<M->
   aj (lE k e) M (i,b,t,(pre.length:Int))=some (tD e.op e.at_ (e.l.length:Int) r i b t)
 |[],pre,h,M,i,b,t,hi,hb,ht,hM=>by
  obtain ⟨m,rfl⟩:∃m,M=m+1:=⟨M-1,by omega⟩;rw [ao];have a:pre.length<1152921504606846976:=by grind
  have f:i64.wrap (b+t)=b+t:=bB (by omega);simp [lE,aK,tD,O3];grind
 |x::r,pre,h,M,i,b,t,hi,hb,ht,hM=>by
  obtain ⟨m,rfl⟩:∃m,M=m+1:=⟨M-1,by omega⟩;rw [ao];have hx  :=hk x (by rw [h];simp);have a:pre.length<1152921504606846976:=by grind
  have ih:=λi b t hi hb ht=>Ky k e hk hl r (pre++[x]) (by rw [h];simp) m i b t hi hb ht (by simp at hM;omega);have hp:((pre++[x]).length)=((pre.length+1:Nat)):=by simp
  rw [hp] at ih;have c:i64.wrap (i+1)=i+1:=bB (by omega);have d:i64.wrap (b+1)=b+1:=bB (by omega);have wt:i64.wrap (t+1)=t+1:=bB (by omega);simp only [lE,rN,xO,kY h,oz h,ah,hx,mT (show pre.length<4611686018427387904 by omega),tD,c,d,wt];cases (rt x).2.1 != 0
  .cases (rt x).1==1 <;> cases (rt x).1==2 <;> cases (rt x).1==3 <;> simp <;> exact ih _ _ _ (by omega) (by omega) (by omega)
  .rfl
theorem Vs:∀(N:Nat) (e:Ex),e.sz<=N->e.sz<1152921504606846976->aj (λk s=>jF k s) N e=some (rt e):=by
 intro N
 induction N with
 |zero=>grind [pg]
 |succ N ih=>
  intro e h hb;rw [ao];have hl:=yq e;rw [rt_eq];exact Ky (aj (λk s=>jF k s) N) e (λx hx=>ih x (by have:=mJ hx;omega) (by have:=mJ hx;omega)) (by omega) e.l [] rfl an 0 0 0 (by simp) (by simp) (by simp) (by show e.l.length<2^64;omega)
theorem amM(e:Ex)(h:e.sz<1152921504606846976):dO e=some (rt e):=Vs an e (by show e.sz<=2^64;omega) h
namespace Sy
open Pa
theorem type_s2(e:Ex):iZ e=jF dO e:=rfl
theorem ahC(e:Ex)(h:e.sz<1152921504606846976):iZ e=some (rt e):=by have hl:=yq e;rw [rt_eq];exact Ky dO e (λx hx=>amM x (by have:=mJ hx;omega)) (by omega) e.l [] rfl an 0 0 0 (by simp) (by simp) (by simp) (by show e.l.length<2^64;omega)
theorem Dq{names:List aE}{v:aE}(hn:names.length<4611686018427387904):∀(m i M:Nat),names.length-i<=m->i<=names.length->m<M->
  aj (fX names v) M (i:Int)=some (match oG names v i with|some j=>(j:Int)|none=> -1):=by
 intro m
 induction m with
 |zero=>
  intro i M c b a;obtain ⟨M,rfl⟩:∃k,M=k+1:=⟨M-1,by omega⟩;have hi:i=names.length:=by omega
  simp_all [ao,oG,fX,List.length]
 |succ m ih=>
  intro i M c b a;obtain ⟨M,rfl⟩:∃k,M=k+1:=⟨M-1,by omega⟩;rw [ao];by_cases hi:i<names.length
  .have hd  :=nJ hi;have hx:idx names (i)=some names[i]:=by simp [idx]
   simp only [fX,cb (show ((i):Int)<(List.length names) by omega),hx,ah,bP (show i<4611686018427387904 by omega)];have e:oG names v i=bif (names[i]==v) then some i else oG names v (i+1):=by
    unfold oG;rw [hd,List.findIdx?_cons];have:(v==names[i])=(names[i]==v):=by grind
    rw [this];cases (names[i]==v)
    .simp;congr 1;grind
    .simp
   rw [e];cases (names[i]==v)
   .exact ih (i+1) M (by omega) (by omega) (by omega)
   .rfl
  .have hi:i=names.length:=by omega
   simp_all [oG,fX,List.length]
theorem RX{names:List aE}(hn:names.length<4611686018427387904)(v:aE):cS names v=some (fc names v):=by have:=Dq (v:=v) hn names.length 0 an (by omega) (by omega) (by show names.length<2^64;omega);rw [show ((0:Nat))=0 from rfl,Qe] at this;grind [cS,fc,at_]
theorem aoK{names:List aE}{v:aE}:at_ names v=none↔names.contains v=false:=by grind [at_,List.findIdx?_eq_none_iff,List.contains_iff_mem]
theorem LI(names:List aE)(v:aE):decide (0<=fc names v)=names.contains v:=by grind [fc,at_,aoK]
def bQ(st:Except iu (List Tok))(f:List Tok->Except iu (List Tok)):Except iu (List Tok):=match st with
 | .ok ts=>f ts
 | .error e=> .error e
def rest{α:Type}:Except iu (α×List Tok)->Except iu (List Tok)
 | .ok p=> .ok p.2
 | .error e=> .error e
def bA{α:Type}(st:Except iu (List Tok))(f:List Tok->Except iu (α×List Tok)):Except iu (List Tok):=bQ st λts=>rest (f ts)
def St(l:List Tok)(st:Except iu (List Tok))(a b p:Int):Prop:=match st with
 | .ok ts=>∃k:Nat,a=(k:Int)/\l.drop k=ts/\Pa.Ends ts/\b=0/\p=0
 | .error e=>(∃t,idx l a=some t)/\(e.1==0)=false/\b=e.1/\p=e.2
def E6(k:Int)(x:aE):Except iu (List Tok)->Bool
 | .ok ts=>uj k x ts
 | .error _=>false
def SF{α:Type}(st:Except iu (List Tok))(f:List Tok->Except iu (α×List Tok))(x:α):Prop:= ∀ts y r,st= .ok ts->f ts= .ok (y,r)->x=y
section
variable {l : List Tok} (hl : l.length < 1099511627776) (htok :∀t ∈ l, jN t) (hnum :∀t ∈ l, DH t)
variable {st : Except iu (List Tok)} {a b p : Int} (N : List aE) (S_ : List (Int × Int)) (I : zl) (Q : List aE) (C : List aT)
theorem St.at{st:Except iu (List Tok)}{a b p:Int}(h:St l st a b p):∃t,idx l a=some t:=by
 cases st with
 |ok d=>
  obtain ⟨k,rfl,hd,c,_⟩:=h;obtain ⟨t,r,rfl⟩:=c.ne;exact ⟨t,(sT hd).1⟩
 |error e=>exact h.1
theorem St.ok{c:List Tok}(h:St l (.ok c) a b p):∃(k:Nat) (t:Tok) (r:List Tok),a=(k:Int)/\c=t::r/\l.drop k=t::r/\Pa.Ends (t::r)/\b=0/\p=0/\idx l a=some t/\t∈l/\l.drop (k+1)=r/\k<l.length:=by obtain ⟨k,rfl,hd,d,hb,hp⟩:=h;obtain ⟨t,r,rfl⟩:=d.ne;obtain ⟨i,g,f,e⟩:=sT hd;grind
theorem UC(c q x:Int):aJ c q l x N S_ I Q C 0 0=some (c,q):=rfl
theorem FN{b:Int}(hb:(b==0)=false)(c q x p:Int):aJ c q l x N S_ I Q C b p=some (b,p):=by grind [aJ]
theorem KS(h:St l st a b p)(k:Int)(x:aE):bW k x l a N S_ I Q C b p=some (E6 k x st):=by
 cases st with
 |ok d=>
  obtain ⟨f,t,r,rfl,rfl,hd,c,rfl,rfl,hx,_⟩:=h.ok;unfold bW;simp [aK,qh,dN,hx,ah,E6,uj,Ap];cases (t.1==k)
  .rfl
  .simp [dN,ah]
 |error e=>
  obtain ⟨_,c,rfl,rfl⟩:=h;unfold bW;simp [aK,c,rY,lk,E6]
theorem afl(h:St l st a b p):∃q,bu l a N S_ I Q C b p=some q/\∀c,st= .ok c->q=UP c:=by
 obtain ⟨t,ht⟩:=h.at
 refine ⟨t.2.2.2,by grind [bu],λc d=>?_⟩;subst d;obtain ⟨e,t',r,rfl,rfl,hd,f,rfl,rfl,hx,_⟩:=h.ok;rw [hx] at ht;cases ht;rfl
include hl in
theorem DW(h:St l st a b p)(x:aE):∃a' b' p',bO x l a N S_ I Q C b p=some (a',b',p')/\St l (bQ st (cf x)) a' b' p':=by
 have hi:=KS N S_ I Q C h 3 x;unfold bO;rw [hi,ah];cases st with
 |ok g=>
  obtain ⟨k,t,r,rfl,rfl,hd,c,rfl,rfl,hx,hm,d,hk⟩:=h.ok;simp [E6,uj,bQ,cf];cases f:Ap 3 x t
  .simp [bu,hx,ah];exact ⟨_,_,_,rfl,⟨t,hx⟩,rfl,rfl,rfl⟩
  .simp only [bP (show k<4611686018427387904 by omega)];exact ⟨_,_,_,rfl,k+1,rfl,d,c.tail (Z8 f (by decide)),rfl,rfl⟩
 |error e=>
  obtain ⟨⟨t,hx⟩,c,rfl,rfl⟩:=h;simp [bu,hx,FN N S_ I Q C c];exact ⟨_,_,_,rfl,⟨t,hx⟩,c,rfl,rfl⟩
include hl in
theorem adV(h:St l st a b p)(hN:N.length<1099511627776)(hQ:Q.length<1099511627776)(full:Bool):∃s a' b' p',gV full l a N S_ I Q C b p=some (s,a',b',p')/\St l (bA st (fZ full N Q)) a' b' p'/\SF st (fZ full N Q) s:=by
 obtain ⟨t,ht⟩:=h.at
 have G:=RX (names:=N) (by omega) t.2.1;have F:=RX (names:=Q) (by omega) t.2.1;unfold gV;simp only [ht,ah,aep,aK];cases st with
 |ok m=>
  obtain ⟨k,t',r,rfl,rfl,hd,i,rfl,rfl,hx,hm,B,hk⟩:=h.ok;rw [hx] at ht;cases ht;simp only [bA,bQ];have d:fZ full N Q (t::r)=(bif t.1 != 1 then .error (2,t.2.2.2) else bif key t.2.1||N.contains t.2.1||Q.contains t.2.1 then .error (3,t.2.2.2) else bif full then .error (9,t.2.2.2) else .ok (t.2.1,r)):=rfl;cases v:(t.1 != 1)
  case true=>
   rw [v] at d;simp only [ca] at d;simp only [ca,UC,ah,d,rest];exact ⟨_,_,_,_,rfl,⟨⟨t,hx⟩,rfl,rfl,rfl⟩,λm y w j f=>by cases j;rw [d] at f;cases f⟩
  rw [v] at d;simp only [b7] at d ⊢;have J:(key t.2.1||N.contains t.2.1||Q.contains t.2.1)=(yY.contains t.2.1||decide (0<=fc N t.2.1)||decide (0<=fc Q t.2.1)):=by rw [LI,LI];rfl
  rw [J] at d;have fin:∀c:Bool,(yY.contains t.2.1||decide (0<=fc N t.2.1)||decide (0<=fc Q t.2.1))=c->
    ∃s a' b' p',(bif c then ((aJ 3 t.2.2.2 l (k:Int) N S_ I Q C 0 0).bind λo=>some (t.2.1,(k:Int),o.1,o.2)) else (bif full then ((aJ 9 t.2.2.2 l (k:Int) N S_ I Q C 0 0).bind λn=>some (t.2.1,(k:Int),n.1,n.2)) else (bif ((0:Int)==0) then some (t.2.1,(i64.wrap ((k:Int)+1)),0,0) else some (t.2.1,(k:Int),0,0))))=some (s,a',b',p')/\
     St l (rest (fZ full N Q (t::r))) a' b' p'/\SF (.ok (t::r)) (fZ full N Q) s:=by
   intro c D;rw [D] at d;cases c
   .cases full
    .simp only [b7] at d;refine ⟨_,_,_,_,rfl,?_,λm y w j f=>by cases j;rw [d] at f;cases f;rfl⟩;rw [d,bP (show k<4611686018427387904 by omega)];have:t.1=1:=by simpa using v
     exact ⟨k+1,rfl,B,i.tail (by omega),rfl,rfl⟩
    .simp only [b7,ca] at d;exact ⟨_,_,_,_,rfl,by rw [d];exact ⟨⟨t,hx⟩,rfl,rfl,rfl⟩,λm y w j f=>by cases j;rw [d] at f;cases f⟩
   .simp only [ca] at d;exact ⟨_,_,_,_,rfl,by rw [d];exact ⟨⟨t,hx⟩,rfl,rfl,rfl⟩,λm y w j f=>by cases j;rw [d] at f;cases f⟩
  have:=fin _ rfl;cases u:yY.contains t.2.1
  .simp only [iN,dN,G,ah,mE,u] at this ⊢;cases q:decide (0<=fc N t.2.1)
   .simp only [F,q] at this ⊢;exact this
   .simp [q] at this ⊢;exact this
  .simp only [v7,u] at this ⊢;exact this
 |error e=>
  obtain ⟨_,i,rfl,rfl⟩:=h;simp only [bA,bQ];have V:∀s,SF (.error e) (fZ full N Q) s:=λs m y r h=>by cases h
  have hS:St l (.error e) a e.1 e.2:=⟨⟨t,ht⟩,i,rfl,rfl⟩;have A:∀g:Bool,∃z,∀k:Int->Option (aE×Int×Int×Int),bm g default (cS N t.2.1) k=k z:=λg=>by
   cases g
   .exact ⟨default,λk=>rfl⟩
   .exact ⟨fc N t.2.1,λk=>by rw [dN,G];rfl⟩
  have x:∀g:Bool,∃z,∀k:Int->Option (aE×Int×Int×Int),bm g default (cS Q t.2.1) k=k z:=λg=>by
   cases g
   .exact ⟨default,λk=>rfl⟩
   .exact ⟨fc Q t.2.1,λk=>by rw [dN,F];rfl⟩
  cases v:(t.1 != 1)
  case true=>
   simp [FN N S_ I Q C i,ah];grind
  obtain ⟨E,L⟩:=A (!(yY.contains t.2.1));rw [L];obtain ⟨H,K⟩:=x (!(yY.contains t.2.1||decide (0<=E)));rw [K];cases (yY.contains t.2.1||decide (0<=E)||decide (0<=H))
  .cases full
   .simp [i];grind
   .simp [FN N S_ I Q C i,ah];grind
  .simp [FN N S_ I Q C i,ah];grind
include hl in
theorem Wa(c:Bool)(h:St l st a b p):∃n a' b' p',kx l N S_ I Q C b p c a=some (n,a',b',p')/\St l (bA st (tH c)) a' b' p'/\SF st (tH c) n:=by
 obtain ⟨t,ht⟩:=h.at
 unfold kx;rw [ht,ah];cases st with
 |ok f=>
  obtain ⟨k,t',r,rfl,rfl,hd,g,rfl,rfl,hx,hm,d,hk⟩:=h.ok;rw [hx] at ht;cases ht;simp [bA,bQ,tH,SF];cases s:(t.1 != 2)
  .simp [kB,bP (show k<4611686018427387904 by omega)];have q  :=by simpa using s
   have j  :=g.tail (by omega);cases c
   .exact ⟨_,_,_,_,rfl,⟨k+1,rfl,d,j,rfl,rfl⟩,λf y i o m=>by grind⟩
   .exact ⟨_,_,_,_,rfl,⟨k+1,rfl,d,j,rfl,rfl⟩,λf y i o m=>by grind⟩
  .exact ⟨_,_,_,_,rfl,⟨⟨t,hx⟩,rfl,rfl,rfl⟩,λf y i o m=>by grind⟩
 |error e=>
  obtain ⟨_,g,rfl,rfl⟩:=h;have hb:(e.1 != 0)=true:=by grind
  simp only [FN N S_ I Q C g,ah,kB,aK,hb];have hS:St l (.error e) a e.1 e.2:=⟨⟨t,ht⟩,g,rfl,rfl⟩;cases (t.1 != 2) <;> exact ⟨_,_,_,_,rfl,hS,λf y r h=>by cases h⟩
include hl in
theorem ZQ(h:St l st a b p):∃n d c p',ed l a N S_ I Q C b p=some (n,d,c,p')/\St l (bA st gD) d c p'/\SF st gD n:=by
 unfold ed;rw [KS N S_ I Q C h 3 [45],ah];cases st with
 |ok m=>
  simp [E6];cases v:uj 3 [45] m
  .obtain ⟨n,d,c,p',g,q,j⟩:=Wa hl N S_ I Q C false h;have e:gD m=tH false m:=by grind [gD]
   exact ⟨n,d,c,p',g,by grind [bA,bQ],λf y r i x=>j f y r i (by grind)⟩
  .obtain ⟨k,t,r,rfl,rfl,hd,u,rfl,rfl,hx,hm,o,hk⟩:=h.ok;have w  :=(ph u (by decide) v).1;have hS:St l (.ok r) (i64.wrap ((k)+1)) 0 0:=by rw [bP (by omega)];exact ⟨k+1,rfl,o,w,rfl,rfl⟩
   obtain ⟨n,d,c,p',g,q,j⟩:=Wa hl N S_ I Q C true hS;have e:gD (t::r)=tH true r:=by grind [gD]
   exact ⟨n,d,c,p',g,by grind [bA,bQ],λf y s i x=>j r y s rfl (by grind)⟩
 |error e=>
  obtain ⟨n,d,c,p',g,q,j⟩:=Wa hl N S_ I Q C false h;exact ⟨n,d,c,p',g,q,λf y r i=>by cases i⟩
include hl htok hnum in
theorem aeh(h:St l st a b p)(hN:N.length<1099511627776)(c:Int):∃x a' b' p',cG c l a N S_ I Q C b p=some (x,a',b',p')/\St l (bA st (eN c N)) a' b' p'/\SF st (eN c N) x:=by
 unfold cG;cases st with
 |ok i=>
  obtain ⟨k,t,r0,rfl,rfl,hd,n,rfl,rfl,hx,hm,A,hk⟩:=h.ok;obtain ⟨r,g,j⟩:=ajx (names:=N) (by omega) (by omega) htok (by rw [hd];exact n);rw [hd] at g;have d:=akK g
  match r,g,j,d with
  | .error (b,p),g,j,d=>
   have hb:=Jo g;have q:(b==0)=false:=by simpa using hb
   rw [j,ah];simp [hb,bA,bQ,eN,d];exact ⟨_,_,_,_,rfl,⟨⟨t,hx⟩,q,rfl,rfl⟩,λi y m z s=>by grind [eN]⟩
  | .ok (x,ts'),g,⟨k',hk',j⟩,d=>
   have o:=g.size _ rfl;simp only [LN] at o;have v:(t::r0).length<=l.length:=by rw [<-hd];simp
   have f:=(g.ends n _ rfl).1;rw [j,ah];simp [ahC x (by omega),ah,bA,bQ,eN,d,SF];have hat:∃t',idx l (k')=some t':=by obtain ⟨t',m,w⟩:=f.ne;simp only at w;rw [w] at hk';exact ⟨t',(sT hk').1⟩
   cases D:((rt x).2.1 != 0)
   case true=>
    have u:((rt x).2.1==0)=false:=by simpa using D
    exact ⟨_,_,_,_,rfl,⟨hat,u,rfl,rfl⟩,λi y m z s=>by grind⟩
   cases z:((rt x).1 != c)
   case true=>
    exact ⟨_,_,_,_,rfl,⟨hat,rfl,rfl,rfl⟩,λi y m B s=>by grind⟩
   exact ⟨_,_,_,_,rfl,⟨k',rfl,hk',f,rfl,rfl⟩,λi y m B s=>by grind⟩
 |error e=>
  obtain ⟨ht,n,rfl,rfl⟩:=h;have hb:(e.1 != 0)=true:=by grind
  simp only [hb,bA];exact ⟨_,_,_,_,rfl,⟨ht,n,rfl,rfl⟩,λi y r h=>by cases h⟩
end
end Sy
namespace Sy
open Pa
theorem akH(lo hi:Int):nR ([(lo,hi)]:xb)=some (lX lo hi):=by
 have e:nR ([(lo,hi)])=aj (pE [(lo,hi)]) an 0:=rfl;rw [e];obtain ⟨m,hm⟩:∃m,an=m+2:=⟨18446744073709551614,rfl⟩;rw [hm,show m+2=(m+1)+1 from rfl,ao];have i0:idx ([(lo,hi)]) 0=some (lo,hi):=rfl;simp [pE,i0,ah,aK];unfold lX;cases decide (hi<lo)
 case true=>rfl
 simp [iN,dN,ah,mE];cases decide (lo< -1073741824)
 case true=>rfl
 simp [iN,dN,ah,mE];cases decide (1073741824<hi)
 case true=>rfl
 simp [iN,dN,ah,mE];cases decide (65535<i64.wrap (hi-lo))
 .rfl
 .rfl
section
variable {l : List Tok} (hl : l.length < 1099511627776) (htok :∀t ∈ l, jN t) (hnum :∀t ∈ l, DH t)
variable {st : Except iu (List Tok)} {a b p : Int} (N : List aE) (S_ : List (Int × Int)) (I : zl) (Q : List aE) (C : List aT)
variable (hN : N.length < 1099511627776) (hS : S_.length < 1099511627776) (hI : I.length < 1099511627776) (hQ : Q.length < 1099511627776) (hC : C.length < 1099511627776)
include hl hN hS hI hQ in
theorem aqL(h:St l st a b p):∃a' F E G b' p',ik l a N S_ I Q C b p=some (a',F,E,G,b',p')/\St l (bA st (sn (N,S_,I,Q,C))) a' b' p'/\
  (∀f m r,st= .ok f->sn (N,S_,I,Q,C) f= .ok (m,r)->m=(F,E,G,Q,C)):=by
 obtain ⟨d,a1,b1,p1,n,R,Z⟩:=adV hl N S_ I Q C h hN hQ (decide (16<=(List.length N:Int)));obtain ⟨q,e0,v0⟩:=afl N S_ I Q C R;obtain ⟨lo,a2,b2,p2,e2,s2,Y⟩:=ZQ hl N S_ I Q C R;obtain ⟨hi,a3,b3,p3,e3,s3,X⟩:=ZQ hl N S_ I Q C s2;obtain ⟨g,a4,b4,p4,e4,s4,W⟩:=ZQ hl N S_ I Q C s3;obtain ⟨P,U,S,e5,o⟩:=DW hl N S_ I Q C s4 [59];have k1:aH (List.length N+List.length ([d]:List aE)) 16=true:=cC (by simp;omega) (by simp;omega);have k2:aH (List.length S_+List.length ([(lo,hi)]:xb)) 16=true:=cC (by simp;omega) (by simp;omega);have k3:aH (List.length I+List.length ([g]:zl)) 8=true:=cC (by simp;omega) (by simp;omega);have hK:∀v u,jC N S_ I (d,a1,b1,p1) (lo,a2,b2,p2) (hi,a3,b3,p3) (g,a4,b4,p4) (P,U,S) v u=some (P,N++[d],S_++[(lo,hi)],I++[g],v,u):=λv u=>by unfold jC;rw [aO k1,aO k2,aO k3]
 unfold ik;simp only [n,ah,e0,e2,e3,e4,e5,akH,aK,hK]
 -- where it is wrong
 have O:∀e:iu,bQ (bA (bA (bA (bA st (fZ (decide (16<=(List.length N:Int))) N Q)) gD) gD) gD) (cf [59])= .error e->
   (bA st (sn (N,S_,I,Q,C)))= .error e:=by
  intro e c;cases st with
  |error e'=>simp only [bA,bQ] at c ⊢; exact c
  |ok f=>
   simp only [bA,bQ,sn] at c ⊢;cases k:fZ (decide (16<=(List.length N:Int))) N Q f with
   |error n=>rw [k] at c;simp only [rest] at c ⊢; exact c
   |ok M=>
    rw [k] at c;simp only [rest] at c ⊢;cases j:gD M.2 with
    |error n=>rw [j] at c;simp only [] at c ⊢; exact c
    |ok L=>
     rw [j] at c;simp only [] at c ⊢;cases z:gD L.2 with
     |error n=>rw [z] at c;simp only [] at c ⊢; exact c
     |ok K=>
      rw [z] at c;simp only [] at c ⊢;cases H:gD K.2 with
      |error n=>rw [H] at c;simp only [] at c ⊢; exact c
      |ok q4=>
       rw [H] at c;simp only [] at c ⊢;rw [c]
 cases kl:bQ (bA (bA (bA (bA st (fZ (decide (16<=(List.length N:Int))) N Q)) gD) gD) gD) (cf [59]) with
 |error e=>
  have hb:=O e kl;rw [kl] at o;have t:=FN (l:=l) N S_ I Q C (b:=U) (by rw [o.2.2.1];exact o.2.1) 5 q P S;rw [hb];have V:∀F E G,∀f m r,st= .ok f->sn (N,S_,I,Q,C) f= .ok (m,r)->m=(F,E,G,Q,C):=λF E G f m r k j=>by subst k;simp only [bA,bQ,j,rest] at hb;cases hb
  cases (!(lX lo hi)||decide (g<lo)||decide (hi<g))
  .simp only [b7];exact ⟨_,_,_,_,_,_,rfl,o,V _ _ _⟩
  .simp only [ca,t,ah];exact ⟨_,_,_,_,_,_,rfl,o,V _ _ _⟩
 |ok w=>
  rw [kl] at o;cases st with
  |error e'=>simp only [bA,bQ] at kl;cases kl
  |ok f=>
   simp only [bA,bQ] at kl;cases k:fZ (decide (16<=(List.length N:Int))) N Q f with
   |error n=>rw [k] at kl;cases kl
   |ok M=>
    obtain ⟨s,i⟩:=M;rw [k] at kl;simp only [rest] at kl;have en:d=s:=Z _ _ _ rfl k;have t1:bA (.ok f) (fZ (decide (16<=(List.length N:Int))) N Q)= .ok i:=by simp only [bA,bQ,k,rest]
    have eq:q=UP i:=v0 _ t1;cases j:gD i with
    |error n=>rw [j] at kl;cases kl
    |ok L=>
     obtain ⟨lo',y⟩:=L;rw [j] at kl;simp only at kl;have e2'  :=Y _ _ _ t1 j;have t2:bA (bA (.ok f) (fZ (decide (16<=(List.length N:Int))) N Q)) gD= .ok y:=by rw [t1];simp [bA,bQ,j,rest]
     cases z:gD y with
     |error n=>rw [z] at kl;cases kl
     |ok K=>
      obtain ⟨hi',x⟩:=K;have e3'  :=X _ _ _ t2 z;have t3:bA (bA (bA (.ok f) (fZ (decide (16<=(List.length N:Int))) N Q)) gD) gD= .ok x:=by grind [bA,bQ,rest]
      cases H:gD x with
      |error n=>grind
      |ok q4=>
       have e4'  :=W _ _ _ t3 H;have hv:sn (N,S_,I,Q,C) f=(bif !(lX lo hi)||decide (g<lo)||decide (hi<g) then .error (5,UP i) else .ok ((N++[d],S_++[(lo,hi)],I++[g],Q,C),w)):=by grind [sn]
       simp [bA,bQ,hv];obtain ⟨T,D,B,A,rfl,rfl⟩:=o;cases hq:(!(lX lo hi)||decide (g<lo)||decide (hi<g))
       .exact ⟨_,_,_,_,_,_,rfl,⟨T,D,B,A,rfl,rfl⟩,λJ m r h5 h6=>by grind⟩
       .refine ⟨_,_,_,_,_,_,rfl,?_,λJ m r h5 h6=>by grind⟩;have hat:=St.at (st:= .ok w) ⟨T,D,B,A,rfl,rfl⟩;exact ⟨hat,rfl,rfl,eq⟩
end
end Sy
namespace Sy
open Pa
section
variable {l : List Tok} (hl : l.length < 1099511627776) (htok :∀t ∈ l, jN t) (hnum :∀t ∈ l, DH t)
variable {st : Except iu (List Tok)} {a b p : Int} (N : List aE) (S_ : List (Int × Int)) (I : zl) (Q : List aE) (C : List aT)
variable (hN : N.length < 1099511627776) (hQ : Q.length < 1099511627776) (hC : C.length < 1099511627776)
theorem Va(acc:List (Int×Ex))(f:acc.length<4611686018427387904)(again)(e:Tok)(i:Int)(a b p:Int):∀(r pre:List (Int×Ex)),acc=pre++r->∀(M:Nat) (c:Bool),r.length<M->
  aj (cH l N S_ I Q C a b p acc again e i) M (c,(pre.length:Int))=cH l N S_ I Q C a b p acc again e i (λ_=>none) (c||Dz r i,(acc.length:Int))
 |[],pre,h,M,c,hM=>by
  obtain ⟨m,rfl⟩:∃m,M=m+1:=⟨M-1,by omega⟩;simp_all [ao,cH,Dz,List.any_nil]
 |x::r,pre,h,M,c,hM=>by
  obtain ⟨m,rfl⟩:∃m,M=m+1:=⟨M-1,by omega⟩;rw [ao];have d:pre.length<4611686018427387904:=by grind
  have ih:=λc=>Va acc f again e i a b p r (pre++[x]) (by rw [h];simp) m c (by simp at hM;omega);rw [show ((pre++[x]).length)=((pre.length+1:Nat)) by simp] at ih;have j:∀k:(Int×Ex)->Option (Int×List aT×Int×Int),bm (!c) (0,Ex.mk 0 0 0 []) (some x) k=k (bif c then (0,Ex.mk 0 0 0 []) else x):=λk=>by cases c <;> rfl
  refine Eq.trans (b:=bif decide ((pre.length:Int)<(List.length acc)) then (bm (!c) (0,(Ex.mk 0 0 0 [])) (idx acc (pre.length)) λg=>aj (cH l N S_ I Q C a b p acc again e i) m (c||(g.1==i),i64.wrap ((pre.length)+1))) else none) ?_ ?_
  .simp only [cH,vg h,ca,aK]
  .rw [vg h,ca,lr h,j,bP d,ih];grind [Dz]
include hl hC in
theorem Vt(f:Ex×Int×Int×Int)(acc:List (Int×Ex))(c:Bool)(M:Nat)(h:St l st a b p)(hm:(c&&(b==0))=false):
  ∃e d p',aj (dj l N S_ I Q C f) (M+1) (a,b,p,acc,c)=some (e,C++[(i64.wrap ((Q.length:Int)-1),f.1,acc)],d,p')/\St l (bQ st (cf [59])) e d p':=by
 obtain ⟨e,d,p',g,i⟩:=DW hl N S_ I Q C h [59];rw [ao];simp only [dj,aK,g,ah];have k1:∀x:aT,aH (List.length C+List.length ([x])) 80=true:=λx=>cC (by simp;omega) (by simp;omega);rw [aO (k1 _)];grind
include hl htok hnum hN in
theorem as2(acc:List (Int×Ex))(g:acc.length<1099511627776)(again)(i:Int)(h:St l st a b p):
  ∃x a' b' p',gu l N S_ I Q C acc again i b p a=again (a',b',p',acc++[(i,x)],E6 3 [44] (bA (bQ st (cf [61])) (eN 1 N)))/\
   St l (match bA (bQ st (cf [61])) (eN 1 N) with|.ok c=>(bif uj 3 [44] c then .ok c.tail else .ok c)|.error e=> .error e) a' b' p'/\SF (bQ st (cf [61])) (eN 1 N) x:=by
 obtain ⟨y,v,p1,s,m⟩:=DW hl N S_ I Q C h [61];obtain ⟨x,w,u,p2,q,d,j⟩:=aeh hl htok hnum N S_ I Q C m hN 1;have e3:=KS N S_ I Q C d 3 [44];have k1:aH (List.length acc+List.length ([(i,x)])) 56=true:=cC (by simp;omega) (by simp;omega);unfold gu;simp only [s,ah,q,aO k1,e3];cases kl:bA (bQ st (cf [61])) (eN 1 N) with
 |error e=>
  simp [E6];grind
 |ok c=>
  rw [kl] at d;simp [E6];cases o:uj 3 [44] c
  .grind
  .obtain ⟨k,t,r,rfl,rfl,hd,n,rfl,rfl,hx,hm,f,hk⟩:=d.ok;refine ⟨x,_,_,_,rfl,?_,j⟩;rw [bP (by omega)];exact ⟨k+1,rfl,f,(ph n (by decide) o).1,rfl,rfl⟩
include hl htok hnum hN hC in
theorem aqz(A:Ex×Int×Int×Int):∀(n:Nat) (w:List Tok) (acc:List (Int×Ex)) (a:Int) (M f:Nat),w.length<=n->n+2<=M->w.length<f->acc.length+w.length<1099511627776->St l (.ok w) a 0 0->
  ∃a' C' b' p',aj (dj l N S_ I Q C A) M (a,0,0,acc,true)=some (a',C',b',p')/\St l (bQ (rest (fQ N f acc w)) (cf [59])) a' b' p'/\
   (∀sets r,fQ N f acc w= .ok (sets,r)->C'=C++[(i64.wrap ((Q.length:Int)-1),A.1,sets)]):=by
 intro n
 induction n with
 |zero=>
  intro w acc a M f V _ _ _ O;obtain ⟨k,t,r,_,rfl,_⟩:=O.ok;simp at V
 |succ n ih=>
  intro w acc a M f V h2 h3 h4 O;obtain ⟨M,rfl⟩:∃m,M=m+1:=⟨M-1,by omega⟩;obtain ⟨f,rfl⟩:∃m,f=m+1:=⟨f-1,by omega⟩;obtain ⟨k,t,r,rfl,rfl,hd,he,_,_,hx,hm,R,hk⟩:=O.ok;rw [ao];generalize U:aj (dj l N S_ I Q C A) M=i;simp only [dj,aK,qh,q9,ca,hx,ah,RX (show N.length<4611686018427387904 by omega)];have D:=Va (l:=l) N S_ I Q C acc (by omega) i t (fc N t.2.1) (k:Int) 0 0 acc [] rfl an false (by show acc.length<2^64;omega);rw [show (([]:List (Int×Ex)).length:Int)=0 from rfl,mE] at D;rw [D];simp only [cH,cy (show ¬((acc.length:Int)<(List.length acc:Int)) by omega),b7,aK,UC,ah]
  -- the state behind the name
  have step:∀(st1:Except iu (List Tok)) (c b p:Int),St l st1 c b p->(st1= .ok r\/∃e,st1= .error e)->
    fQ N (f+1) acc (t::r)=(match st1 with
     | .error e=> .error e
     | .ok r0=>match cf [61] r0 with
      | .error e=> .error e
      | .ok r1=>match eN 1 N r1 with
       | .error e=> .error e
       | .ok (x,r2)=>bif uj 3 [44] r2 then fQ N f (acc++[(fc N t.2.1,x)]) r2.tail else .ok (acc++[(fc N t.2.1,x)],r2))->
    ∃a' C' b' p',gu l N S_ I Q C acc i (fc N t.2.1) b p c=some (a',C',b',p')/\St l (bQ (rest (fQ N (f+1) acc (t::r))) (cf [59])) a' b' p'/\
     (∀sets K,fQ N (f+1) acc (t::r)= .ok (sets,K)->C'=C++[(i64.wrap ((Q.length:Int)-1),A.1,sets)]):=by
   intro st1 c b p j sK g;obtain ⟨x,a1,b1,p1,e1,o,Z⟩:=as2 hl htok hnum N S_ I Q C hN acc (by omega) i (fc N t.2.1) j;rw [e1,<-U];have hM1:1<=M:=by omega
   obtain ⟨M',rfl⟩:∃m,M=m+1:=⟨M-1,by omega⟩;cases d:bA (bQ st1 (cf [61])) (eN 1 N) with
   |error e=>
    rw [d] at o;simp only [E6] at o ⊢;obtain ⟨X,W,p2,H,B⟩:=Vt hl N S_ I Q C hC A (acc++[(fc N t.2.1,x)]) false M' o rfl;have E:fQ N (f+1) acc (t::r)= .error e:=by
     rw [g];cases st1 with
     |error e'=>simp only [bA,bQ] at d ⊢; cases d;rfl
     |ok r0=>
      simp only [bA,bQ] at d ⊢;cases u:cf [61] r0 with
      |error e'=>rw [u] at d;simp only at d ⊢; cases d;rfl
      |ok r1=>
       rw [u] at d;simp only at d ⊢;cases s:eN 1 N r1 with
       |error e'=>rw [s] at d;simp only [rest] at d ⊢; cases d;rfl
       |ok q=>rw [s] at d;simp only [rest] at d;cases d
    rw [E];exact ⟨_,_,_,_,H,B,λsets K h=>by cases h⟩
   |ok r2=>
    rw [d] at o;simp only [E6] at o ⊢;obtain ⟨r0,r1,J,v,z,y⟩:∃r0 r1 J,st1= .ok r0/\cf [61] r0= .ok r1/\eN 1 N r1= .ok (J,r2):=by
     cases st1 with
     |error e'=>simp only [bA,bQ] at d;cases d
     |ok r0=>
      simp only [bA,bQ] at d;cases u:cf [61] r0 with
      |error e'=>rw [u] at d;cases d
      |ok r1=>
       rw [u] at d;simp only at d;cases s:eN 1 N r1 with
       |error e'=>rw [s] at d;cases d
       |ok q=>rw [s] at d;simp only [rest] at d;cases d;exact ⟨r0,r1,q.1,rfl,u,s⟩
    have L:x=J:=Z r1 J r2 (by rw [v];simp only [bQ,z]) y;subst L;rw [v] at g;simp only [z,y] at g;have F:r0=r:=by rcases sK with h|⟨e,h⟩ <;> rw [v] at h <;> cases h;rfl
    subst F;have P:Pa.Ends r0:=by
     rw [v] at j;exact (j.ok).choose_spec.choose_spec.choose_spec.2.2.2.1 |> λh=>by have:=(j.ok).choose_spec.choose_spec.choose_spec.2.1;rw [this];exact h
    have u:=nn P z;have s:=(tS u.1 y).1;have q2':r2.length<r1.length:=s.2;have q1':r1.length<r0.length:=u.2;cases S:uj 3 [44] r2
    .rw [S] at o g;simp only [b7] at o g;obtain ⟨X,W,p2,H,B⟩:=Vt hl N S_ I Q C hC A (acc++[(fc N t.2.1,x)]) false M' o rfl;rw [g];exact ⟨_,_,_,_,H,B,λsets K h=>by cases h;rfl⟩
    .rw [S] at o g;simp only [ca] at o g;obtain ⟨t1,t2⟩:=ph s.1 (by decide) S;have t2':r2.tail.length+1=r2.length:=t2;have G:(acc++[(fc N t.2.1,x)]).length=acc.length+1:=by simp
     simp only [eb] at V h3 h4;have T:b1=0/\p1=0:=by obtain ⟨_,_,_,_,h5,h6⟩:=o;exact ⟨h5,h6⟩
     obtain ⟨rfl,rfl⟩:=T;obtain ⟨X,C2,W,p2,H,B,Y⟩:=ih r2.tail (acc++[(fc N t.2.1,x)]) a1 (M'+1) f (by omega) (by omega) (by omega) (by rw [G];omega) o;rw [g];exact ⟨_,_,_,_,H,B,Y⟩
  cases c1:(t.1 != 1)
  case true=>
   simp only [ca,jZ,show ((2:Int)==0)=false from rfl,b7];refine step (.error (2,t.2.2.2)) (k) 2 t.2.2.2 ⟨⟨t,hx⟩,rfl,rfl,rfl⟩ (.inr ⟨_,rfl⟩) ?_;simp [fQ,c1,ca]
  cases c2:(decide (fc N t.2.1<0)||Dz acc (fc N t.2.1))
  case true=>
   refine step (.error (3,t.2.2.2)) (k) 3 t.2.2.2 ⟨⟨t,hx⟩,rfl,rfl,rfl⟩ (.inr ⟨_,rfl⟩) ?_;simp [fQ,c1,b7,c2,ca]
  simp [jZ,bP (show k<4611686018427387904 by omega)];have ht1  :=by simpa using c1
  refine step (.ok r) ((k+1:Nat)) 0 0 ⟨k+1,rfl,R,he.tail (by omega),rfl,rfl⟩ (.inl rfl) ?_;simp [fQ,b7];grind
include hl htok hnum hN hC in
theorem ajR(h:St l st a b p):∃a' C' b' p',gi l a N S_ I Q C b p=some (a',C',b',p')/\
  St l (bQ (bQ (bA st (eN 2 N)) (cf [58])) (λr2=>bQ (rest (fQ N (r2.length+1) [] r2)) (cf [59]))) a' b' p'/\
  (∀d g r1 r2 sets i,st= .ok d->eN 2 N d= .ok (g,r1)->cf [58] r1= .ok r2->fQ N (r2.length+1) [] r2= .ok (sets,i)->C'=C++[(i64.wrap ((Q.length:Int)-1),g,sets)]):=by
 obtain ⟨x,o,n,p1,z,r,q⟩:=aeh hl htok hnum N S_ I Q C h hN 2;obtain ⟨H,B,p2,y,c⟩:=DW hl N S_ I Q C r [58];unfold gi;simp [z,ah,y];cases m:bQ (bA st (eN 2 N)) (cf [58]) with
 |error e=>
  rw [m] at c;have hb:(false)=(B==0):=by rw [c.2.2.1];exact c.2.1.symm
  obtain ⟨D,A,t,e3,f⟩:=Vt hl N S_ I Q C hC (x,o,n,p1) [] true 18446744073709551615 c (by rw [<-hb];rfl);rw [show an=18446744073709551615+1 from rfl,e3];grind [bA,bQ,rest]
 |ok r2=>
  rw [m] at c;obtain ⟨k,rfl,hd,u,rfl,rfl⟩:=c;have j:r2.length<=l.length:=by rw [<-hd];simp
  obtain ⟨D,J,A,t,e3,f,E⟩:=aqz hl htok hnum N S_ I Q C hN hC (x,o,n,p1) r2.length r2 [] (k) an (r2.length+1) (cK _) (by show _<=2^64;omega) (by omega) (by simp;omega) ⟨k,rfl,hd,u,rfl,rfl⟩;refine ⟨_,_,_,_,e3,f,λd g r1 s sets i w v G F=>?_⟩;subst w;have hx  :=q d g r1 rfl v;grind [bA,bQ,rest]
include hl htok hnum hN hC in
theorem ars(h:St l st a b p):∃g i f p',iG l a N S_ I Q C b p=some (g,i,f,p')/\St l (bA st (oa (N,S_,I,Q,C))) g f p'/\
  (∀c m r,st= .ok c->oa (N,S_,I,Q,C) c= .ok (m,r)->m=(N,S_,I,Q,i)):=by
 unfold iG;have key:∀(st1:Except iu (List Tok)) (o p1:Int),St l st1 a o p1->((∃e,st1= .error e/\bA st (oa (N,S_,I,Q,C))= .error e)\/(st1=st/\decide (256<=(C.length:Int))=false))->
   ∃g i f p',gi l a N S_ I Q C o p1=some (g,i,f,p')/\St l (bA st (oa (N,S_,I,Q,C))) g f p'/\
    (∀c m r,st= .ok c->oa (N,S_,I,Q,C) c= .ok (m,r)->m=(N,S_,I,Q,i)):=by
  intro st1 o p1 v j;obtain ⟨g,i,f,p',y,s,A⟩:=ajR hl htok hnum N S_ I Q C hN hC v;refine ⟨g,i,f,p',y,?_,?_⟩
  .rcases j with ⟨e,rfl,n⟩|⟨rfl,hd⟩
   .rw [n];exact s
   .have:bA st1 (oa (N,S_,I,Q,C))=bQ (bQ (bA st1 (eN 2 N)) (cf [58])) (λr2=>bQ (rest (fQ N (r2.length+1) [] r2)) (cf [59])):=by
     cases st1 with
     |error e=>rfl
     |ok c=>
      simp [bA,bQ,oa,hd];cases eN 2 N c with
      |error e=>rfl
      |ok q=>
       simp [rest];cases cf [58] q.2 with
       |error e=>rfl
       |ok r2=>
        simp only;cases fQ N (r2.length+1) [] r2 with
        |error e=>rfl
        |ok u=>
         simp only;cases cf [59] u.2 <;> rfl
    rw [this];exact s
  .intro c m r D x;rcases j with ⟨e,rfl,n⟩|⟨rfl,hd⟩
   .grind [bA,bQ,rest]
   .simp [oa,hd] at x;grind
 cases hd:decide (256<=(List.length C:Int))
 .simp [aK];grind
 .simp only [aK];obtain ⟨q,z,B⟩:=afl N S_ I Q C h;rw [z,ah];cases st with
  |ok c=>
   obtain ⟨k,t,r,rfl,rfl,w,n,rfl,rfl,hx,_⟩:=h.ok;refine key (.error (9,q)) 9 q ⟨⟨t,hx⟩,rfl,rfl,rfl⟩ (.inl ⟨_,rfl,?_⟩);simp_all [bA,bQ,oa,rest]
  |error e=>
   have n:=h.2.1;have d:=h;obtain ⟨_,_,rfl,rfl⟩:=d;rw [FN N S_ I Q C n,ah];exact key (.error e) e.1 e.2 h (.inl ⟨e,rfl,rfl⟩)
end
end Sy
variable {α ρ : Type}
namespace Lx
theorem bG(xs:List α)(k:Nat):idx xs (k:Int)=xs[k]? :=by simp [idx]
theorem fz{α:Type}{xs:List α}{k:Nat}(h:k<xs.length):idx xs (k:Int)=some xs[k]:=by rw [bG,b9 h]
theorem ao{σ:Type}(F:(σ->Option ρ)->σ->Option ρ)(n:Nat)(s:σ):aj F (n+1) s=F (aj F n) s:=rfl
theorem pG(k:Option ρ):aN true k=k:=rfl
theorem JQ(c:Bool)(k:Option ρ):JR false c k=k:=rfl
theorem GD(k:Option ρ)(g:Bool):JR g true k=k:=by cases g <;> rfl
theorem sU(d:α)(m:Option α)(k:α->Option ρ):bm true d m k=m.bind k:=rfl
theorem Mu(d:α)(m:Option α)(k:α->Option ρ):bm false d m k=k d:=rfl
theorem kJ(x:α)(k:α->Option ρ):(some x).bind k=k x:=rfl
theorem mP(x:α)(k:α->Option ρ):ai x k=k x:=rfl
theorem ur{i:Int}{n:Nat}(b:0<=i)(a:i<n):uR i n=true:=ou.2 ⟨b,a⟩
theorem GN{i j:Int}{n:Nat}(c:0<=i)(b:i<=j)(a:j<=n):db i j n=true:=wO.2 ⟨⟨c,b⟩,a⟩
theorem Dp{k b:Nat}(h:k*b<=140737488355328)(a:k<=9223372036854775807):aH k b=true:=by simp_all [aH,au]
theorem Ly(l:aE)(k:Nat)(h:k<l.length):nh l (k:Int)=(l[k].toNat:Int):=by simp [nh,h]
theorem apT(l:aE)(i j:Nat):cut l (i:Int) (j:Int)=(l.drop i).take (j-i):=rfl
theorem wG{p:Prop}[Decidable p](h:p):decide p=true:=cb h
theorem Da{p:Prop}[Decidable p](h:¬p):decide p=false:=cy h
theorem Bf:an=18446744073709551616:=rfl
abbrev Tok:=Int×aE×Int×Int
def jR(c:UInt8):Bool:=c==32||c==9||c==10||c==13
def gY(c:UInt8):Bool:=(decide (97<=c)&&decide (c<=122))||(decide (65<=c)&&decide (c<=90))||c==95
def isDigit(c:UInt8):Bool:=decide (48<=c)&&decide (c<=57)
def fM(c:UInt8):Bool:=gY c||isDigit c
def Hg(c:UInt8):Bool:=c != 10
theorem Hb(c d:UInt8):((c.toNat:Int)==(d.toNat:Int))=(c==d):=by grind [UInt8.toNat_inj]
theorem VV(c d:UInt8):decide ((c.toNat:Int)<=(d.toNat:Int))=decide (c<=d):=by simp_all [s5]
theorem tU{p:UInt8->Bool}:∀(l:aE) (k:Nat),(∀i (h:i<l.length),i<k->p l[i]=true)->k<=l.length->(∀h:k<l.length,p l[k]=false)->l.takeWhile p=l.take k
  |[],k,_,hk,_=>by simp
  |c::l,0,_,_,h2=>by
    simp_all
  |c::l,k+1,h1,hk,h2=>by
    have a:=h1 0 (by simp) (by omega);simp at a;rw [List.takeWhile_cons,du a,q5,tU l k (λi h b=>by
      grind) (by simpa using hk) (λh=>by
      grind)]
theorem run_gen{p:UInt8->Bool}{f:Int->za}(j:∀c:UInt8,f (c.toNat:Int)=some (p c)){text:aE}(d:text.length<9223372036854775807)
    {F:(Int->Option aE)->Int->Option aE}
    (l:∀again t1,F again t1=bif (decide (t1<(List.length text:Int))) then (aN (uR t1 (List.length text))<|(f (nh text t1)).bind λg=>bif (!g) then (aN (db 0 t1 (List.length text))<|some (cut text 0 t1)) else (again (i64.wrap (t1+1)))) else (some text)):
    aj F an 0=some (text.takeWhile p):=by
  have key:∀N k,k<=text.length->text.length-k<N->(∀i (h:i<text.length),i<k->p text[i]=true)->aj F N ((k:Nat):Int)=some (text.takeWhile p):=by
    intro N
    induction N with
    |zero=>intro k _ h;omega
    |succ N ih=>
      intro k hk hN hp;rw [ao,l];by_cases b:k<text.length
      . rw [wG (by omega),ca,ur (by omega) (by omega),pG,Ly _ _ b,j,kJ];cases a:p text[k]
        . simp only [iN,ca];rw [GN (by omega) (by omega) (by omega),pG,tU text k hp hk (λ_=>a)];simp [cut]
        . simp only [py,b7];rw [bB (by omega)];exact ih (k+1) (by omega) (by omega) (λi h hi=>by
            rcases qE i k with e|e
            . exact hp i h e
            . have:i=k:=by omega
              subst this;exact a)
      . rw [Da (by omega),b7,tU text k hp hk (λh=>absurd h b),fb (by omega)]
  exact key an 0 (by omega) (by rw [Bf];omega) (λi _ h=>by omega)
def AF(c:UInt8):Int:=(c.toNat:Int)-48
def gN(n:Int)(s:aE):Int:=s.foldl (λn c=>10*n+AF c) n
def ue(n:Int):Bool:=decide (1073741824<n)
theorem Vc{c:UInt8}(h:isDigit c=true):0<=AF c/\AF c<=9:=by simp [isDigit,s5] at h;unfold AF;grind
theorem FO:∀(s:aE) (n:Int),0<=n->s.all isDigit=true->n<=gN n s
  |[],n,_,_=>qc _
  |c::s,n,hn,h=>by simp only [qp,au] at h;have hd:=Vc h.1;have:=FO s (10*n+AF c) (by omega) h.2;grind [gN,AF]
def cZ:List aE:=[[60,45,62],[45,62],[61,61],[33,61],[60,61],[62,61],[60],[62],[61],[43],[45],[42],[40],[41],[123],[125],[59],[44],[58],[38],[124],[33]]
def fW(s:aE):aE:=(cZ.find? (λg=>g.isPrefixOf s)).getD []
inductive Step where
  |skip (k:Nat)
  |err (e:Int)
  |tok (k:Int) (t:aE) (n:Int)
def step:aE->Step
  |[]=> .skip 0
  |c::s=>
    if jR c then .skip 1
    else if c==35 then .skip ((c::s).takeWhile Hg).length
    else if gY c then (if 32<((c::s).takeWhile fM).length then .err 9 else .tok 1 ((c::s).takeWhile fM) 0)
    else if isDigit c then (if ue (gN 0 ((c::s).takeWhile isDigit)) then .err 9 else .tok 2 ((c::s).takeWhile isDigit) (gN 0 ((c::s).takeWhile isDigit)))
    else if fW (c::s)==[] then .err 2 else .tok 3 (fW (c::s)) 0
def rI:Nat->Nat->aE->Except (Int×Int) (List Tok)
  |0,_,_=> .ok []
  |_+1,at_,[]=> .ok [(4,[],0,(at_:Int))]
  |f+1,at_,c::s=>
    match step (c::s) with
    | .skip k=>rI f (at_+k) ((c::s).drop k)
    | .err e=> .error (e,at_)
    | .tok k t n=>match rI f (at_+t.length) ((c::s).drop t.length) with
      | .ok l=> .ok ((k,t,n,(at_:Int))::l)
      | .error e=> .error e
def res:Except (Int×Int) (List Tok)->List Tok×Int×Int
  | .ok l=>(l,0,0)
  | .error e=>([],e.1,e.2)
def tokens(s:aE):List Tok×Int×Int:=if 65536<s.length then ([],9,0) else res (rI (s.length+1) 0 s)
theorem L5(p:UInt8->Bool):∀s:aE,(s.takeWhile p).all p=true
  |[]=>rfl
  |c::s=>by
    rw [List.takeWhile_cons];split
    . simp_all
    . rfl
theorem wD(p:UInt8->Bool)(s:aE):(s.takeWhile p).length<=s.length:=(s6 p).length_le
theorem ox{p:UInt8->Bool}{c:UInt8}{s:aE}(h:p c=true):1<=((c::s).takeWhile p).length:=by simp_all
theorem wT{c:UInt8}(h:gY c=true):fM c=true:=by simp [fM,h]
theorem XL:∀g∈cZ,1<=g.length:=by decide
theorem Lh{s:aE}(h:(fW s==[])=false):fW s∈cZ/\fW s <+: s/\cZ.find? (λg=>g.isPrefixOf s)=some (fW s):=by
  unfold fW at*;cases a:cZ.find? (λg=>g.isPrefixOf s) with
  |none=>rw [a] at h;simp at h
  |some g=>
    grind
theorem step_take{c:UInt8}{s:aE}(hb:jR c=false)(e:(c==35)=false){k:Int}{t:aE}{n:Int}(h:step (c::s)= .tok k t n):1<=t.length/\t <+: (c::s):=by
  simp only [step,hb,e,eT] at h;cases a:gY c
  . simp only [a,eT] at h;cases b:isDigit c
    . simp only [b,eT] at h;cases d:(fW (c::s)==[])
      . grind [Lh,XL]
      . simp [d] at h
    . simp [b,qU] at h;split at h
      . cases h
      . grind [ox,List.takeWhile_prefix]
  . simp [a,qU] at h;split at h
    . cases h
    . grind [ox,wT,List.takeWhile_prefix]
def MP(out:List Tok):Except (Int×Int) (List Tok)->List Tok×Int×Int
  | .ok l=>(out++l,0,0)
  | .error e=>([],e.1,e.2)
theorem YM{s:aE}{k:Nat}{c:UInt8}{r:aE}(h:s.drop k=c::r):∃hk:k<s.length,s[k]=c:=by grind [Nat.lt_or_ge,List.drop_of_length_le,List.drop_eq_getElem_cons,List.cons.inj]
theorem asy{c:UInt8}{s:aE}{e:Int}(h:step (c::s)= .err e):e≠0:=by grind [step]
theorem N0{σ:Type}{F:(σ->Option ρ)->σ->Option ρ}(p:UInt8->Bool)(s:aE)(st:Nat->σ)(r:Nat->Option ρ)
    (go:∀again k (h:k<s.length),p s[k]=true->(∀i (hi:i<s.length),i<k->p s[i]=true)->F again (st k)=again (st (k+1)))
    (a:∀again k (h:k<s.length),p s[k]=false->F again (st k)=r k)
    (last:∀again,F again (st s.length)=r s.length) (N:Nat) (hN:s.length<N):aj F N (st 0)=r (s.takeWhile p).length:=by
  have key:∀N k,k<=s.length->s.length-k<N->(∀i (h:i<s.length),i<k->p s[i]=true)->aj F N (st k)=r (s.takeWhile p).length:=by
    intro N
    induction N with
    |zero=>omega
    |succ N ih=>
      intro k hk hN hp;rw [ao];by_cases c:k<s.length
      . cases b:p s[k]
        . rw [a _ k c b,tU s k hp hk (λ_=>b),dq,iQ hk]
        grind
      . have:k=s.length:=by omega
        subst this;rw [last,tU s s.length hp (cK _) (λh=>absurd h c),dq,Nat.min_self]
  grind
def kindOf(c:UInt8):Int:=if jR c then 0 else if gY c then 1 else if isDigit c then 2 else 3
theorem ado(c:UInt8):jR c=(((c==9||c==10)||c==13)||c==32):=by grind [jR]
theorem IX(c:UInt8):gC (c.toNat:Int)=some (kindOf c):=by unfold gC;simp [mP];have e:=Hb c 32;have d:=Hb c 9;have b:=Hb c 10;have a:=Hb c 13;have k1:=VV 97 c;have i:=VV c 122;have h:=VV 65 c;have g:=VV c 90;have f:=Hb c 95;have d1:=VV 48 c;have d2:=VV c 57;rw [show ((32:Int)=((32:UInt8).toNat)) from rfl,show ((9:Int)=((9:UInt8).toNat)) from rfl,show ((10:Int)=((10:UInt8).toNat)) from rfl,show ((13:Int)=((13:UInt8).toNat)) from rfl,e,d,b,a,<-ado];unfold kindOf;have k:((decide (97<=c)&&decide (c<=122))||(decide (65<=c)&&decide (c<=90))||c==95)=gY c:=rfl;have j:(decide (48<=c)&&decide (c<=57))=isDigit c:=rfl;grind
def dz(n:Int)(s:aE):Int:=s.foldl (λn c=>if n<=1073741824 then 10*n+AF c else n) n
theorem aaL:∀(s:aE) (n:Int),1073741824<n->dz n s=n
  |[],_,_=>rfl
  |c::s,n,h=>by show dz (if n<=1073741824 then 10*n+AF c else n) s=n;rw [dk (by omega)];exact aaL s n h
theorem aed:∀(s:aE) (n:Int),0<=n->s.all isDigit=true->(ue (gN n s)=false->dz n s=gN n s)/\(ue (gN n s)=true->1073741824<dz n s)
  |[],n,_,_=>⟨λ_=>rfl,λh=>qB (show decide (1073741824<n)=true from h)⟩
  |c::s,n,hn,h=>by
    simp only [qp,au] at h;have hd:=Vc h.1;have ih:=aed s (10*n+AF c) (by omega) h.2;have b:gN n (c::s)=gN (10*n+AF c) s:=rfl;have a:dz n (c::s)=dz (if n<=1073741824 then 10*n+AF c else n) s:=rfl;by_cases hb:n<=1073741824
    . grind
    . grind [FO,AF,ue,aaL]
theorem Oq:∀(s:aE) (n:Int),0<=n->n<=10737418249->s.all isDigit=true->0<=dz n s/\dz n s<=10737418249
  |[],n,h,h',_=>⟨h,h'⟩
  |c::s,n,h,h',hd=>by
    simp only [qp,au] at hd;have a:=Vc hd.1;show 0<=dz (if n<=1073741824 then 10*n+AF c else n) s/\dz (if n<=1073741824 then 10*n+AF c else n) s<=10737418249;split
    . exact Oq s _ (by omega) (by omega) hd.2
    . exact Oq s _ h h' hd.2
theorem anr(s:aE)(k:Nat)(h:k<s.length):dz 0 (s.take (k+1))=if dz 0 (s.take k)<=1073741824 then 10*dz 0 (s.take k)+AF s[k] else dz 0 (s.take k):=by grind [dz,List.take_succ_eq_append_getElem]
theorem Jq(p:UInt8->Bool)(s:aE):s.take (s.takeWhile p).length=s.takeWhile p:=
  (List.prefix_iff_eq_take.1 (s6 p)).symm
section
variable {text s : aE} {at_ : Nat} (hd : text.drop at_ = s) (hat : at_ <= text.length)
include hd hat
theorem MJ:text.length=at_+s.length:=by grind
theorem D7(k:Nat)(h:k<s.length):nh text ((at_+k:Nat):Int)=(s[k].toNat:Int):=by
  have hl:=MJ hd hat
  rw [Ly text (at_+k) (by omega)];grind
omit hat in
theorem aaA(k:Nat):cut text (at_:Int) ((at_+k:Nat):Int)=s.take k:=by rw [apT,hd];congr 1;omega
theorem as4(hl:text.length<=65536)(out:List Tok)(again7):
    aj (gU text out again7) an (at_:Int)=again7 (out,((at_+(s.takeWhile Hg).length:Nat):Int)):=by
  have b:=MJ hd hat
  refine N0 Hg s (λk=>((at_+k:Nat):Int)) (λk=>again7 (out,((at_+k:Nat)))) ?_ ?_ ?_ an (by rw [Bf];omega)
  . intro a k h hp _;unfold gU;simp only [mP];rw [wG (by omega),ur (by omega) (by omega),D7 hd hat k h,GD];have:((s[k].toNat:Int) != 10)=Hg s[k]:=by have:=Hb s[k] 10;unfold Hg bne;grind
    rw [this,hp,q9,ca,bB (by omega)];rfl
  . intro a k h hp;unfold gU;simp only [mP];rw [wG (by omega),ur (by omega) (by omega),D7 hd hat k h,GD];have:((s[k].toNat) != 10)=Hg s[k]:=by have:=Hb s[k] 10;unfold Hg bne;grind
    grind
  simp_all [gU,mP,JQ,lk]
end
theorem PW(c:UInt8):((kindOf c==1)||(kindOf c==2))=fM c:=by
  cases hb:jR c
  . grind [kindOf,fM,gY,isDigit]
  . have:fM c=false:=by simp [jR,eZ,n6] at hb;rcases hb with ((rfl|rfl)|rfl)|rfl <;> decide
    simp_all [kindOf]
theorem atf{text s:aE}{at_:Nat}(hd:text.drop at_=s)(hat:at_<=text.length)(hl:text.length<=65536)(out:List Tok)(again7)(d:out.length<=65536):
    aj (eX text out (at_:Int) again7) an (at_:Int)=if 32<(s.takeWhile fM).length then some ([],9,(at_:Int)) else again7 (out++[(1,s.takeWhile fM,0,(at_:Int))],((at_+(s.takeWhile fM).length:Nat):Int)):=by
  have e:=MJ hd hat
  have f:(if 32<(s.takeWhile fM).length then some ([],9,(at_:Int)) else again7 (out++[(1,s.takeWhile fM,0,(at_:Int))],((at_+(s.takeWhile fM).length:Nat))))
     =(λk=>if 32<k then some ([],9,(at_:Int)) else again7 (out++[(1,s.take k,0,(at_:Int))],((at_+k:Nat)))) (s.takeWhile fM).length:=by
    simp [Jq]
  rw [f];have tail:∀k,k<=s.length->(bif (decide (32<(i64.wrap (((at_+k:Nat))-(at_))))) then ( some ([],9,(at_:Int))) else ( aN (db (at_) ((at_+k:Nat)) (List.length text))<| aN (aH (List.length out+List.length ([(1,(cut text (at_:Int) ((at_+k:Nat):Int)),0,(at_:Int))])) 40)<| again7 ((out++([(1,(cut text (at_:Int) ((at_+k:Nat):Int)),0,(at_:Int))])),((at_+k:Nat)))))=(if 32<k then some ([],9,(at_:Int)) else again7 (out++[(1,s.take k,0,(at_:Int))],((at_+k:Nat)))):=by
    intro k hk;rw [bB (by omega)];by_cases c:32<k
    . grind
    . rw [Da (by omega),b7,dk c,GN (by omega) (by omega) (by omega),pG,Dp (by simp;omega) (by simp;omega),pG,aaA hd]
  refine N0 (F:=eX text out (at_) again7) fM s (λk=>((at_+k:Nat))) (λk=>if 32<k then some ([],9,(at_)) else again7 (out++[(1,s.take k,0,(at_:Int))],((at_+k:Nat)))) ?_ ?_ ?_ an (by rw [Bf];omega)
  . intro a k h hp _;unfold eX;simp only [mP];have ke:=PW s[k];rw [hp] at ke;rw [wG (by omega),ur (by omega) (by omega),D7 hd hat k h];simp [IX,sU,kJ,fj];cases b:(kindOf s[k]==1)
    . rw [b] at ke;simp only [iN,sU,kJ] at ke ⊢;rw [ke,ca,bB (by omega)];rfl
    . rw [bB (by omega)];rfl
  . intro a k h hp;unfold eX;simp only [mP];have ke:=PW s[k];rw [hp] at ke;simp only [l5] at ke;rw [wG (by omega),ur (by omega) (by omega),D7 hd hat k h];simp [IX,sU,kJ,fj,ke.1,ke.2,iN,tA];exact tail k (by omega)
  simp_all [eX,mP,JQ,Mu,b7]
theorem agV(c:UInt8)(h:gY c=false):(kindOf c==2)=isDigit c:=by
  unfold kindOf;rw [h];cases hb:jR c
  . cases isDigit c <;> rfl
  . have:isDigit c=false:=by simp [jR,eZ,n6] at hb;rcases hb with ((rfl|rfl)|rfl)|rfl <;> decide
    rw [this];rfl
theorem Zw{c:UInt8}(h:gY c=true):isDigit c=false:=by
  simp [gY,eZ,au,er,s5] at h;cases hd:isDigit c
  . rfl
  . simp [isDigit,au,er,s5] at hd;have d:(57:UInt8).toNat=57:=rfl;have b:(97:UInt8).toNat=97:=rfl;have a:(65:UInt8).toNat=65:=rfl;rcases h with (h|h)|h
    . omega
    . omega
    simp_all
theorem Lw(c:UInt8):(kindOf c==2)=isDigit c:=by grind [gY,agV,kindOf,Zw,jR]
theorem asO{text s:aE}{at_:Nat}(hd:text.drop at_=s)(hat:at_<=text.length)(hl:text.length<=65536)(out:List Tok)(again7)(j:out.length<=65536):
    aj (eY text out (at_:Int) again7) an ((at_:Int),0)=if ue (gN 0 (s.takeWhile isDigit)) then some ([],9,(at_:Int)) else again7 (out++[(2,s.takeWhile isDigit,gN 0 (s.takeWhile isDigit),(at_:Int))],((at_+(s.takeWhile isDigit).length:Nat):Int)):=by
  have l:=MJ hd hat
  have a:=aed (s.takeWhile isDigit) 0 (qc _) (L5 _ _);have o:(if ue (gN 0 (s.takeWhile isDigit)) then some ([],9,(at_:Int)) else again7 (out++[(2,s.takeWhile isDigit,gN 0 (s.takeWhile isDigit),(at_:Int))],((at_+(s.takeWhile isDigit).length:Nat):Int)))
     =(λk=>if 1073741824<dz 0 (s.take k) then some ([],9,(at_:Int)) else again7 (out++[(2,s.take k,dz 0 (s.take k),(at_:Int))],((at_+k:Nat):Int))) (s.takeWhile isDigit).length:=by
    simp only [Jq];cases hb:ue (gN 0 (s.takeWhile isDigit))
    . have n:=a.1 hb;rw [n];have:¬ 1073741824<gN 0 (s.takeWhile isDigit):=by simpa [ue] using hb
      rw [dk this];rfl
    . rw [du (a.2 hb)];rfl
  rw [o];have tail:∀k,k<=s.length->(bif (decide (1073741824<dz 0 (s.take k))) then ( some ([],9,(at_:Int))) else ( aN (db (at_:Int) ((at_+k:Nat):Int) (List.length text))<| aN (aH (List.length out+List.length ([(2,(cut text (at_:Int) ((at_+k:Nat):Int)),dz 0 (s.take k),(at_:Int))])) 40)<| again7 ((out++([(2,(cut text (at_:Int) ((at_+k:Nat):Int)),dz 0 (s.take k),(at_:Int))])),((at_+k:Nat)))))=(if 1073741824<dz 0 (s.take k) then some ([],9,(at_:Int)) else again7 (out++[(2,s.take k,dz 0 (s.take k),(at_:Int))],((at_+k:Nat)))):=by
    intro k hk;by_cases e:1073741824<dz 0 (s.take k)
    . rw [wG (by omega),ca,du e]
    . rw [Da (by omega),b7,dk e,GN (by omega) (by omega) (by omega),pG,Dp (by simp;omega) (by simp;omega),pG,aaA hd]
  refine N0 (F:=eY text out (at_) again7) isDigit s (λk=>(((at_+k:Nat)),dz 0 (s.take k))) (λk=>if 1073741824<dz 0 (s.take k) then some ([],9,(at_)) else again7 (out++[(2,s.take k,dz 0 (s.take k),(at_:Int))],((at_+k:Nat)))) ?_ ?_ ?_ an (by rw [Bf];omega)
  . intro b k h hp d;unfold eY;simp only [mP];have ke:=Lw s[k];rw [hp] at ke;have g:=Vc hp;have hb:=Oq (s.take k) 0 (qc _) (by omega) (by rw [qo];intro c m;obtain ⟨i,hi,rfl⟩:=List.mem_iff_getElem.1 m;rw [List.getElem_take];exact d i (by simp at hi;omega) (by simp at hi;omega))
    rw [wG (by omega),ur (by omega) (by omega),D7 hd hat k h];simp [GD,IX,sU,kJ,fj,ke,ca];rw [anr s k h,bB (by omega)];unfold AF at g ⊢;by_cases f:dz 0 (s.take k)<=1073741824
    . rw [wG f,ca,pG,du f,bB (x:=10*_) (by omega),bB (x:=(s[k].toNat)) (by omega),bB (x:=10*_+_) (by omega),bB (by omega)];congr 2;omega
    . rw [Da f,b7,dk f];rfl
  . intro b k h hp;unfold eY;simp only [mP];have ke:=Lw s[k];rw [hp] at ke;rw [wG (by omega),ur (by omega) (by omega),D7 hd hat k h];simp [IX,sU,kJ,ke];exact tail k (by omega)
  . unfold eY;simp [mP];rw [Da (by omega)];simp [JQ,Mu,lk];grind
theorem adx:tf=some cZ:=rfl
theorem aqV{text:aE}{out:List Tok}{a:Int}{again7}{again122}{g:aE}{j:Int}(d:(g==[])=false)
    (c:out.length<=65536) (hi:0<=a/\a<=65536) (b:g.length<=65536):
    bU text out a again7 cZ again122 (g,j)=again7 (out++[(3,g,0,a)],a+g.length):=by
  unfold bU;simp [mP,qK];grind [Dp,pG,bB]
theorem ati{text s:aE}{at_:Nat}(hd:text.drop at_=s)(hat:at_<=text.length)(hl:text.length<=65536)(out:List Tok)(again7)(d:out.length<=65536):
    aj (bU text out (at_:Int) again7 cZ) an ([],0)=if fW s==[] then some ([],2,(at_:Int)) else again7 (out++[(3,fW s,0,(at_:Int))],((at_+(fW s).length:Nat):Int)):=by
  have q:=MJ hd hat
  have p:cZ.length=22:=rfl;have key:∀N k,k<=cZ.length->cZ.length-k+1<N->(∀i (h:i<cZ.length),i<k->cZ[i].isPrefixOf s=false)->
      aj (bU text out (at_:Int) again7 cZ) N ([],((k:Nat):Int))=if fW s==[] then some ([],2,(at_:Int)) else again7 (out++[(3,fW s,0,(at_:Int))],((at_+(fW s).length:Nat):Int)):=by
    intro N
    induction N with
    |zero=>intro k _ h;omega
    |succ N ih=>
      intro k hk hN hp;rw [ao];by_cases a:k<cZ.length
      . have b:cZ[k]∈cZ:=c9 a;have n:∀g∈cZ,g.length<=3/\(g==[])=false:=by decide
        have e:=n _ b;have body:bU text out (at_:Int) again7 cZ (aj (bU text out (at_:Int) again7 cZ) N) ([],((k:Nat):Int))=aj (bU text out (at_:Int) again7 cZ) N ((if cZ[k].isPrefixOf s then cZ[k] else []),((k+1:Nat):Int)):=by
          generalize aj (bU text out (at_:Int) again7 cZ) N=o;unfold bU;simp only [mP];rw [wG (by omega)];simp only [show (([]:aE)==[])=true from rfl,q9,ca];rw [fz a];simp only [kJ];rw [bB (x:=(text.length:Int)-(at_:Int)) (by omega),bB (x:=((k:Nat):Int)+1) (by omega)];by_cases l:cZ[k].length<=s.length
          . rw [wG (by omega)];simp only [sU,kJ,fj];rw [bB (by omega),GN (by omega) (by omega) (by omega),GD];have v:(at_:Int)+(cZ[k].length:Int)=((at_+cZ[k].length:Nat):Int):=by omega
            rw [v,aaA hd];have e3:(s.take cZ[k].length==cZ[k])=cZ[k].isPrefixOf s:=by
              rw [qC,List.isPrefixOf_iff_prefix,n6];constructor
              . intro h;rw [<-h];exact List.take_prefix ..
              . intro h;exact (List.prefix_iff_eq_take.1 h).symm
            rw [e3];cases cZ[k].isPrefixOf s
            . rfl
            . rfl
          . rw [Da (by omega)];have:cZ[k].isPrefixOf s=false:=by rw [qj,Ne,List.isPrefixOf_iff_prefix];intro h;exact l h.length_le
            rw [this];rfl
        rw [body];cases c:cZ[k].isPrefixOf s
        . exact ih (k+1) (by omega) (by omega) (λi h hi=>by
            rcases qE i k with r|r
            . exact hp i h r
            . have:i=k:=by omega
              subst this;exact c)
        . have f:fW s=cZ[k]:=by
            unfold fW;have:cZ.find? (λg=>g.isPrefixOf s)=some cZ[k]:=by rw [List.find?_eq_some_iff_getElem];exact ⟨c,k,a,rfl,λj t=>by simp [hp j (by omega) t]⟩
            rw [this];rfl
          rw [f];obtain ⟨N,rfl⟩:∃m,N=m+1:=⟨N-1,by omega⟩;rw [ao];simp only [qU,e.2,eT];rw [aqV e.2 d (by omega) (by omega)];rfl
      . have:fW s=[]:=by
          unfold fW;have:cZ.find? (λg=>g.isPrefixOf s)=none:=by rw [List.find?_eq_none];intro g u;obtain ⟨i,hi,rfl⟩:=List.mem_iff_getElem.1 u;grind
          rw [this];rfl
        grind [aj,bU,cZ,mP,Da]
  grind [an,Bf]
theorem ak5(text:aE)(d:text.length<=65536):∀(N f at_:Nat) (out:List Tok),at_<=text.length->text.length-at_<N->text.length-at_<f->out.length<=at_->
    aj (j9 text) N (out,(at_:Int))=some (MP out (rI f at_ (text.drop at_))):=by
  intro N
  induction N with
  |zero=>intro f at_ out _ h;omega
  |succ N ih=>
    intro f at_ out hat hN E x;obtain ⟨f,rfl⟩:∃g,f=g+1:=⟨f-1,by omega⟩;rw [ao];generalize aj (j9 text) N=a at ih ⊢;unfold j9;dsimp only;cases hd:text.drop at_ with
    |nil=>
      have n:at_=text.length:=by have:=congrArg List.length hd;simp at this;omega
      subst n;rw [Da (by omega)];simp only [b7];rw [Dp (by simp;omega) (by simp;omega),pG];rfl
    |cons c r=>
      obtain ⟨u,m⟩:=YM hd;have B:(c::r).length=text.length-at_:=by rw [<-hd];simp
      have j:nh text (at_:Int)=(c.toNat:Int):=by rw [Ly _ _ u,m]
      have next:∀(k:Nat) (b:List Tok),1<=k->k<=(c::r).length->b.length<=at_+k->
          a (b,((at_+k:Nat):Int))=some (MP b (rI f (at_+k) ((c::r).drop k))):=by
        intro k b A z q;rw [ih f (at_+k) b (by omega) (by omega) (by omega) q];have D:text.drop (at_+k)=(c::r).drop k:=by rw [<-hd,qz]
        rw [D]
      rw [wG (by omega)];simp only [ca,ur (show (0:Int)<=(at_:Int) by omega) (show (at_:Int)<(text.length:Int) by omega),pG,j,IX,kJ];have w:((c.toNat:Int)==35)=(c==35):=by rw [show ((35:Int)=((35:UInt8).toNat:Int)) from rfl];exact Hb c 35
      rw [w];cases hb:jR c
      . have l:(kindOf c==0)=false:=by unfold kindOf;rw [hb];cases gY c <;> cases isDigit c <;> rfl
        simp only [l,b7];cases C:(c==35)
        . simp only [b7];simp only [rI,step,hb,C,eT,qn];cases e:gY c
          . have i:(kindOf c==1)=false:=by unfold kindOf;rw [hb,e];cases isDigit c <;> rfl
            simp only [i,b7,eT,qn];rw [Lw];cases o:isDigit c
            . simp only [b7,eT,qn];rw [adx,kJ,ati hd hat d out a (by omega)];cases t:(fW (c::r)==[])
              . simp only [eT,qn];obtain ⟨A,z,_⟩:=Lh t;have q:=XL _ A;have v:=z.length_le;rw [next _ _ q v (by simp;omega)];cases rI f (at_+(fW (c::r)).length) ((c::r).drop (fW (c::r)).length) <;> simp [MP]
              . rfl
            . simp;rw [asO hd hat d out a (by omega)];cases y:ue (gN 0 ((c::r).takeWhile isDigit))
              . simp only [eT,qn];have q:=ox (s:=r) o;have v:=wD isDigit (c::r);rw [next _ _ q v (by simp;omega)];cases rI f (at_+((c::r).takeWhile isDigit).length) ((c::r).drop ((c::r).takeWhile isDigit).length) <;> simp [MP]
              . rfl
          . have i:(kindOf c==1)=true:=by unfold kindOf;rw [hb,e];rfl
            simp [i,ca];rw [atf hd hat d out a (by omega)];by_cases p:32<((c::r).takeWhile fM).length
            . rw [du p,du p];rfl
            . grind [ox,wT,wD,fM,rI,MP]
        . rw [as4 hd hat d out a];grind [Hg,ox,wD,step,rI]
      . have l:(kindOf c==0)=true:=by grind [kindOf]
        grind [bB,step,rI]
theorem Ny(text:aE):gM text=some (tokens text):=by
  unfold gM tokens;by_cases h:65536<text.length
  . grind
  . rw [Da (by omega),b7,dk h];have:=ak5 text (by omega) an (text.length+1) 0 [] (by omega) (by rw [Bf];omega) (by omega) (by simp);simp only [n9] at this;have a:((0:Nat):Int)=0:=rfl;rw [a] at this;rw [this];cases rI (text.length+1) 0 text <;> rfl
abbrev Res:=Except (Int×Int) (List Tok)
theorem step_skip{c:UInt8}{s:aE}{k:Nat}(h:step (c::s)= .skip k):1<=k/\k<=(c::s).length:=by
  cases hb:jR c
  . cases a:(c==35)
    . simp [step,eT] at h;grind
    . simp [step,hb,a,eT,qn,qU,Step.skip.injEq] at h;subst h;have  :=by simpa using a
      subst this;exact ⟨ox (by decide),wD _ _⟩
  simp_all [step,qU]
theorem abn{c:UInt8}{s:aE}{k:Int}{t:aE}{n:Int}(h:step (c::s)= .tok k t n):jR c=false/\(c==35)=false/\1<=t.length/\t <+: (c::s):=by
  cases hb:jR c
  . cases a:(c==35)
    . obtain ⟨d,b⟩:=step_take hb a h;grind
    simp_all [step,qn]
  simp_all [step]
def lex(s:aE):Res:=rI (s.length+1) 0 s
theorem afz{s:aE}(h:s.length<=65536):tokens s=res (lex s):=by simp_all [tokens,lex,dk]
theorem aho:∀g∈cZ,fW g=g/\∃c s,g=c::s/\jR c=false/\(c==35)=false/\gY c=false/\isDigit c=false:=by
  have a:∀g∈cZ,fW g=g/\(match g with|[]=>false|c::_=> !jR c&& !(c==35)&& !gY c&& !isDigit c)=true:=by decide
  grind
end Lx
namespace Sy
open Pa
theorem ak1:∀(f:Nat) (m:bk) (a:List Tok) (p:bk×List Tok),Pa.Ends a->mo f m a= .ok p->je a p.2:=by
 intro f
 induction f with
 |zero=>grind [mo]
 |succ f ih=>
  intro m a p g h;simp [mo] at h;cases c:uj 3 [125] a
  .rw [c] at h;cases b:oa m a with
   |error e=>rw [b] at h;cases h
   |ok q=>
    obtain ⟨i,r⟩:=q;rw [b] at h;have d  :=(VJ g b).1;exact d.trans (ih i r p d.1 h)
  .rw [c] at h;cases h;obtain ⟨b,j⟩:=ph g (by decide) c;exact ⟨b,by grind⟩
abbrev R8:=Int×List aE×xb×zl×List aE×List aT×Int×Int
abbrev RP:=bk×Int×Int
section
variable {l : List Tok} (hl : l.length < 1000000000) (htok :∀t ∈ l, jN t) (hnum :∀t ∈ l, DH t)
variable {st : Except iu (List Tok)} {a b p : Int} (N : List aE) (S_ : List (Int × Int)) (I : zl) (Q : List aE)
variable (hN : N.length < 1000000000) (hQ : Q.length < 1000000000)
theorem Ow{C:List aT}(g f:Int)(c:R8->Option RP)(nm:aE×Int×Int×Int)(hl:l.length<1099511627776)(M:Nat)(h:St l st a b p)(en:Bool)(hb:((b==0)&& !en)=false):
  ∃e d p',aj (ix (l,g,f) Q c N S_ I nm) (M+1) (a,C,b,p,en)=c (e,N,S_,I,Q++[nm.1],C,d,p')/\St l (bQ st (cf [125])) e d p':=by
 obtain ⟨e,d,p',e3,i⟩:=DW hl N S_ I (Q++[nm.1]) C h [125];rw [ao];simp [ix,aK,e3];grind
include hl htok hnum hN hQ in
theorem apl(z y:Int)(b:R8->Option RP)(nm:aE×Int×Int×Int):∀(n:Nat) (c:List Tok) (C:List aT) (a:Int) (M f:Nat),c.length<=n->n+2<=M->c.length<f->C.length+c.length<1099511627776-1->St l (.ok c) a 0 0->
  ∃a' C' b' p',aj (ix (l,z,y) Q b N S_ I nm) M (a,C,0,0,uj 3 [125] c)=b (a',N,S_,I,Q++[nm.1],C',b',p')/\
   St l (rest (mo f (N,S_,I,Q++[nm.1],C) c)) a' b' p'/\(∀m r,mo f (N,S_,I,Q++[nm.1],C) c= .ok (m,r)->m=(N,S_,I,Q++[nm.1],C')/\C'.length+r.length<C.length+c.length):=by
 have O:(Q++[nm.1]).length<1099511627776:=by simp;omega
 intro n
 induction n with
 |zero=>
  intro c C a M f F _ _ _ o;obtain ⟨k,t,r,_,rfl,_⟩:=o.ok;simp at F
 |succ n ih=>
  intro c C a M f F Y X W o;obtain ⟨M,rfl⟩:∃m,M=m+1:=⟨M-1,by omega⟩;obtain ⟨f,rfl⟩:∃m,f=m+1:=⟨f-1,by omega⟩;have D:Pa.Ends c:=by obtain ⟨_,_,_,h,_⟩:=o;exact h
  cases B:uj 3 [125] c
  . -- a command
   have i:mo (f+1) (N,S_,I,Q++[nm.1],C) c=(match oa (N,S_,I,Q++[nm.1],C) c with|.error e=> .error e|.ok (A,r)=>mo f A r):=by
    simp only [mo,B,b7]
    all_goals (cases oa (N,S_,I,Q++[nm.1],C) c <;> rfl)
   obtain ⟨S,v,H,p1,e3,d,U⟩:=ars (by omega) htok hnum N S_ I (Q++[nm.1]) C (by omega) (by omega) o;have e4:=KS N S_ I (Q++[nm.1]) v d 3 [125];rw [ao];simp only [ix,aK,qh,iN,q9,ca,e3,ah,e4];cases w:oa (N,S_,I,Q++[nm.1],C) c with
   |error e=>
    have s:bA (.ok c) (oa (N,S_,I,Q++[nm.1],C))= .error e:=by simp only [bA,bQ,w,rest]
    rw [s] at d;simp only [s,E6];obtain ⟨M',rfl⟩:∃m,M=m+1:=⟨M-1,by omega⟩;have j:(H==0)=false:=by rw [d.2.2.1];exact d.2.1
    obtain ⟨J,G,p2,u,p⟩:=Ow N S_ I Q z y b nm (by omega) M' d false (by rw [j];rfl);rw [i,w];exact ⟨_,_,_,_,u,p,λm r h=>by cases h⟩
   |ok q=>
    obtain ⟨A,r⟩:=q;have s:bA (.ok c) (oa (N,S_,I,Q++[nm.1],C))= .ok r:=by grind [bA,bQ,rest]
    rw [s] at d;simp [E6];obtain ⟨L,g,r1,r2,sets,V,_,_,_,_,hp,_⟩:=VJ D w;have x:v=C++[(i64.wrap (((Q++[nm.1]).length)-1),g,sets)]:=by grind
    have E:v.length=C.length+1:=by rw [x];simp
    have K:r.length<c.length:=L.2;have j:H=0/\p1=0:=by obtain ⟨_,_,_,_,R,P⟩:=d;exact ⟨R,P⟩
    obtain ⟨rfl,rfl⟩:=j;obtain ⟨J,Z,G,p2,u,p,T⟩:=ih r v S M f (by omega) (by omega) (by omega) (by omega) d;grind
  .have i:mo (f+1) (N,S_,I,Q++[nm.1],C) c= .ok ((N,S_,I,Q++[nm.1],C),c.tail):=by simp [mo,B,ca]
   obtain ⟨J,G,p2,u,p⟩:=Ow N S_ I Q z y b nm (by omega) M o true (by simp);rw [i];refine ⟨_,_,_,_,u,?_,λm r h=>by cases h;exact ⟨rfl,by grind [ph]⟩⟩;have:bQ (.ok c) (cf [125])=rest (.ok ((N,S_,I,Q++[nm.1],C),c.tail)):=by obtain ⟨t,r,rfl⟩:=D.ne;grind [bQ,cf,rest,List.tail_cons,uj]
   rw [<-this];exact p
def Big(m:bk)(ts:List Tok):Prop:=m.1.length+ts.length<1000000000/\m.2.1.length+ts.length<1000000000/\m.2.2.1.length+ts.length<1000000000/\m.2.2.2.1.length+ts.length<1000000000/\m.2.2.2.2.length+ts.length<1000000000
theorem UD{e3 e4:Int}(e d:Int)(m:bk)(h:St l (.error (e3,e4)) a b p)(M:Nat):aj (fB (l,e,d)) (M+1) (a,m.1,m.2.1,m.2.2.1,m.2.2.2.1,m.2.2.2.2,b,p)=some (([],[],[],[],[]),e3,e4):=by
 obtain ⟨⟨t,hx⟩,c,rfl,rfl⟩:=h;rw [ao];have hb:(b != 0)=true:=by grind
 simp [fB,aK,c,rY,kM,bu,aJ,hb];grind
include hl htok hnum in
theorem amT(w v:Int):∀(n:Nat) (y:List Tok) (m:bk) (a:Int) (M f:Nat),y.length<=n->n+2<=M->y.length<f->Big m y->St l (.ok y) a 0 0->
  aj (fB (l,w,v)) M (a,m.1,m.2.1,m.2.2.1,m.2.2.2.1,m.2.2.2.2,0,0)=some (Sk (rO f m y)):=by
 intro n
 induction n with
 |zero=>
  intro y m a M f h1 _ _ _ K;obtain ⟨k,t,r,_,rfl,_⟩:=K.ok;simp at h1
 |succ n ih=>
  intro y m a M f h1 h2 h3 hB K;obtain ⟨M,rfl⟩:∃m,M=m+1:=⟨M-1,by omega⟩;obtain ⟨f,rfl⟩:∃m,f=m+1:=⟨f-1,by omega⟩;obtain ⟨k,t,r,rfl,rfl,hd,he,_,_,hx,hm,hd1,hk⟩:=K.ok;obtain ⟨N,S_,I,Q,C⟩:=m;obtain ⟨B1,B2,B3,B4,B5⟩:=hB;simp only [eb] at B1 B2 B3 B4 B5 h1 h3;have iv:=KS N S_ I Q C K 1 [118,97,114];have ip:=KS N S_ I Q C K 1 [112,114,111,99];rw [ao];generalize c:aj (fB (l,w,v)) M=g;simp only [fB,aK,qh,dN,hx,ah,fj];have o:rO (f+1) (N,S_,I,Q,C) (t::r)=(bif t.1==4 then (bif N.isEmpty then .error (2,t.2.2.2) else .ok (N,S_,I,Q,C))
   else bif Ap 1 [118,97,114] t then (match sn (N,S_,I,Q,C) r with
    | .error e=> .error e
    | .ok (B,d)=>rO f B d)
   else bif Ap 1 [112,114,111,99] t then (match wE (N,S_,I,Q,C) r with
    | .error e=> .error e
    | .ok (B,d)=>rO f B d)
   else .error (2,t.2.2.2)):=by
   simp only [rO]
   all_goals (cases sn (N,S_,I,Q,C) r <;> cases wE (N,S_,I,Q,C) r <;> rfl)
  cases F:(t.1==4)
  case true=>
   have E:(t.1 != 4)=false:=by simp only [bne,F,py]
   rw [o,F];simp only [E,b7,ca];have hne:((List.length N:Int)==0)=N.isEmpty:=by cases N with
    |nil=>rfl
    |cons x r=>simp only [eb,List.isEmpty_cons];exact beq_eq_false_iff_ne.2 (by omega)
   rw [hne];cases N.isEmpty
   .simp only [b7,kM,bne_self_eq_false,Sk]
   .simp only [ca,bu,hx,ah,UC,kM,Sk];rfl
  have E:(t.1 != 4)=true:=by simp only [bne,F,iN]
  simp only [E6,uj] at iv ip;simp only [E,ca,iv,ip,ah];have D:Pa.Ends r:=he.tail (by simpa using F);have J:St l (.ok r) ((k+1:Nat):Int) 0 0:=⟨k+1,rfl,hd1,D,rfl,rfl⟩;have wk:i64.wrap ((k:Int)+1)=((k+1:Nat):Int):=bP (by omega);obtain ⟨M',u⟩:∃m,M=m+1:=⟨M-1,by omega⟩;cases cv:Ap 1 [118,97,114] t
  .cases S:Ap 1 [112,114,111,99] t
   . -- neither
    rw [o,F,cv,S];simp only [b7,iN,q9,ca,bu,hx,ah,UC,kF,show ((2:Int)==0)=false from rfl,kP,kL,aK];rw [<-c,u];exact UD (e3:=2) (e4:=t.2.2.2) w v (N,S_,I,Q,C) ⟨⟨t,hx⟩,rfl,rfl,rfl⟩ M'
   . -- a process
    rw [o,F,cv,S];simp only [b7,py,iN,qK,ca,kF,qh,kP,kL,wk,aK];obtain ⟨nm,U,T,p1,e3,z,V⟩:=adV (by omega) N S_ I Q C J (by omega) (by omega) false;have k1:aH (List.length Q+List.length ([nm]:List aE)) 16=true:=cC (by simp;omega) (by simp;omega);obtain ⟨a2,b2,p2,e4,j⟩:=DW (by omega) N S_ I (Q++[nm]) C z [123];have e5:=KS N S_ I (Q++[nm]) C j 3 [125];simp only [e3,ah,aO k1,e4,e5];cases b:bQ (bA (.ok r) (fZ false N Q)) (cf [123]) with
    |error e=>
     rw [b] at j;have hb1:(b2==0)=false:=by rw [j.2.2.1];exact j.2.1
     obtain ⟨a3,b3,p3,e6,i⟩:=Ow N S_ I Q (C:=C) w v g (nm,U,T,p1) (by omega) 18446744073709551615 j false (by rw [hb1];rfl);simp only [E6];rw [show an=18446744073709551615+1 from rfl,e6];have hp:wE (N,S_,I,Q,C) r= .error e:=by
      simp only [wE];simp only [bA,bQ] at b;cases A:fZ false N Q r with
      |error e'=>rw [A] at b;simp only [rest] at b ⊢; cases b;rfl
      |ok q=>
       rw [A] at b;simp only [rest] at b ⊢;rw [b]
     rw [hp];simp only [bQ] at i;obtain ⟨ee1,ee2⟩:=e;rw [<-c,u];exact UD w v (N,S_,I,Q++[nm],C) i M'
    |ok r2=>
     rw [b] at j;obtain ⟨r1,O,L⟩:∃r1,fZ false N Q r= .ok (nm,r1)/\cf [123] r1= .ok r2:=by
      simp only [bA,bQ] at b;cases A:fZ false N Q r with
      |error e'=>rw [A] at b;cases b
      |ok q=>
       obtain ⟨X,r1⟩:=q;rw [A] at b;simp only [rest] at b;have:=V r X r1 rfl A;subst this;exact ⟨r1,rfl,b⟩
     have hb:b2=0/\p2=0:=by obtain ⟨_,_,_,_,R,P⟩:=j;exact ⟨R,P⟩
     obtain ⟨rfl,rfl⟩:=hb;have H:=(Sd D O).1;have G:=nn H.1 L;have l1:r1.length<r.length:=H.2;have l2:r2.length<r1.length:=G.2;have hp:wE (N,S_,I,Q,C) r=mo (r2.length+1) (N,S_,I,Q++[nm],C) r2:=by simp only [wE,O,L]
     have hle:r2.length<=l.length:=by obtain ⟨k2,_,h,_⟩:=j;rw [<-h];simp
     obtain ⟨a3,C3,b3,p3,e6,i,v3⟩:=apl hl htok hnum N S_ I Q (by omega) (by omega) w v g (nm,U,T,p1) r2.length r2 C a2 an (r2.length+1) (cK _) (by show _<=2^64;omega) (by omega) (by omega) j;simp only [E6];rw [e6,hp];cases s:mo (r2.length+1) (N,S_,I,Q++[nm],C) r2 with
     |error e=>
      rw [s] at i;simp only [rest] at i;obtain ⟨ee1,ee2⟩:=e;rw [<-c,u];exact UD w v (N,S_,I,Q++[nm],C3) i M'
     |ok q=>
      obtain ⟨B,d⟩:=q;rw [s] at i;simp only [rest] at i;obtain ⟨p,hlen⟩:=v3 B d s;have W:=ak1 _ _ _ _ G.1 s;have l3:d.length<r2.length:=W.2;have hb:b3=0/\p3=0:=by obtain ⟨_,_,_,_,R,P⟩:=i;exact ⟨R,P⟩
      obtain ⟨rfl,rfl⟩:=hb;simp only;rw [<-c,p];have hQl:(Q++[nm]).length=Q.length+1:=by simp
      exact ih d (N,S_,I,Q++[nm],C3) a3 M f (by omega) (by omega) (by omega) ⟨by simp only;omega,by simp only;omega,by simp only;omega,by simp only;omega,by simp only;omega⟩ i
  . -- a variable
   have S:Ap 1 [112,114,111,99] t=false:=by unfold Ap at cv ⊢;simp only [au,n6] at cv;rw [cv.2];simp
   rw [o,F,cv];simp only [b7,py,lk,ca,kF,qh,kP,S,wk,aK];obtain ⟨U,N',S',I',T,p1,e3,z,V⟩:=aqL (by omega) N S_ I Q C (by omega) (by omega) (by omega) (by omega) J;simp only [e3,ah,kL,b7];cases b:sn (N,S_,I,Q,C) r with
   |error e=>
    simp [bA,bQ,b] at z;rw [<-c,u];exact UD w v (N',S',I',Q,C) z M'
   |ok q=>
    obtain ⟨B,d⟩:=q;simp [bA,bQ,b] at z;have p:=V r B d rfl b;obtain ⟨sh,name,lo,hi,first,hp,_⟩:=aeC D b;have l1:d.length<r.length:=sh.2;have hb:T=0/\p1=0:=by obtain ⟨_,_,_,_,R,P⟩:=z;exact ⟨R,P⟩
    obtain ⟨rfl,rfl⟩:=hb;rw [p] at hp;simp at hp;obtain ⟨hp1,Z,Y⟩:=hp;have A:N'.length=N.length+1:=by rw [hp1];simp
    have q2:S'.length=S_.length+1:=by rw [Z];simp
    have q3:I'.length=I.length+1:=by rw [Y];simp
    rw [<-c,p];exact ih d (N',S',I',Q,C) U M f (by omega) (by omega) (by omega) ⟨by simp only;omega,by simp only;omega,by simp only;omega,by simp only;omega,by simp only;omega⟩ z
end
theorem alT{text:aE}{l:List Tok}(ht:gM text=some (l,0,0))(hl:l.length<500000000)(htok:∀t∈l,jN t)(hnum:∀t∈l,DH t)(a:Pa.Ends l):
  fP text=some (Sk (sys l)):=by
 unfold fP;rw [ht,ah];simp;exact amT (by omega) htok hnum 0 0 l.length l ([],[],[],[],[]) 0 an (l.length+1) (cK _) (by show _<=2^64;omega) (by omega) ⟨by simp;omega,by simp;omega,by simp;omega,by simp;omega,by simp;omega⟩ ⟨0,rfl,rfl,a,rfl,rfl⟩
end Sy
namespace Sy
open Pa
theorem afA(s:aE)(h:s.all Lx.isDigit=true):0<=Lx.gN 0 s:=Lx.FO s 0 (qc _) h
theorem akA{c:UInt8}{s:aE}{k:Int}{t:aE}{n:Int}(h:Lx.step (c::s)= .tok k t n)(pl:Int):jN (k,t,n,pl)/\DH (k,t,n,pl)/\k≠4:=by
 obtain ⟨hb,g,_,_⟩:=Lx.abn h;simp only [Lx.step,hb,g,eT] at h;cases a:Lx.gY c
 .simp only [a,eT,qn] at h;cases b:Lx.isDigit c
  .simp only [b,eT] at h;cases d:(Lx.fW (c::s)==[])
   .simp [d,qn] at h;obtain ⟨rfl,rfl,rfl⟩:=h;obtain ⟨i,m,_⟩:=Lx.Lh d;obtain ⟨_,p,l,f,_,_,hl,_⟩:=Lx.aho _ i;refine ⟨.inr (.inr (.inl ⟨rfl,λo j e=>?_⟩)),(λh=>by cases h),by decide⟩;rw [f] at e;cases e;exact hl
   .simp [d] at h
  .simp only [b,qU] at h;split at h
   .cases h
   .obtain ⟨rfl,rfl,rfl⟩:=h;refine ⟨.inr (.inl rfl),λ_=>⟨afA _ (Lx.L5 _ _),?_⟩,by decide⟩;simp_all [Lx.ue]
 .simp [a,qU] at h;split at h
  .cases h
  .obtain ⟨rfl,rfl,rfl⟩:=h;refine ⟨.inl ⟨rfl,c,s.takeWhile Lx.fM,?_,a⟩,(λh=>by cases h),by decide⟩;simp_all [Lx.wT]
structure Good(n:Nat)(l:List Tok):Prop where
 ok:∀t∈l,jN t
 num:∀t∈l,DH t
 ends:Pa.Ends l
 len:l.length<=n
theorem aiS{t:Tok}{l:List Tok}(h:Pa.Ends l):Pa.Ends (t::l):= .inl h
theorem aiL:∀(f a:Nat) (s:aE) (l:List Tok),s.length<f->Lx.rI f a s= .ok l->Good (s.length+1) l:=by
 intro f
 induction f with
 |zero=>omega
 |succ f ih=>
  intro a s l p h;cases s with
  |nil=>
   cases h;exact ⟨(λt ht=>by rw [List.mem_singleton.1 ht];exact .inr (.inr (.inr rfl))),(λt ht=>by rw [List.mem_singleton.1 ht];intro h;cases h),.inr ⟨rfl,rfl⟩,by simp⟩
  |cons c s=>
   simp [Lx.rI] at h;cases b:Lx.step (c::s) with
   |skip k=>
    rw [b] at h;obtain ⟨j,i⟩:=Lx.step_skip b;have:=ih _ _ _ (by grind) h;exact ⟨this.ok,this.num,this.ends,by have:=this.len;grind⟩
   |err e=>rw [b] at h;cases h
   |tok k g n=>
    rw [b] at h;simp only at h;obtain ⟨_,_,j,i⟩:=Lx.abn b;obtain ⟨o,m,_⟩:=akA b (a);cases d:Lx.rI f (a+g.length) ((c::s).drop g.length) with
    |error e=>rw [d] at h;cases h
    |ok l'=>
     rw [d] at h;cases h;have:=ih _ _ _ (by grind) d;refine ⟨λt ht=>?_,λt ht=>?_,aiS this.ends,by have:=this.len;grind⟩
     .rcases List.mem_cons.1 ht with rfl|ht
      .exact o
      .exact this.ok t ht
     .rcases List.mem_cons.1 ht with rfl|ht
      .exact m
      .exact this.num t ht
theorem aaT{s:aE}{l:List Tok}(h:Lx.lex s= .ok l):Good (s.length+1) l:=aiL _ _ _ _ (l7 _) h
theorem abu:∀(f a:Nat) (s:aE) (e:Int×Int),Lx.rI f a s= .error e->e.1≠0:=by
 intro f
 induction f with
 |zero=>grind [Lx.rI]
 |succ f ih=>
  intro a s e h;cases s with
  |nil=>simp [Lx.rI] at h
  |cons c s=>
   grind [Lx.rI,Lx.step,Lx.asy]
def RN(text:aE):Except iu bk:=if 65536<text.length then .error (9,0) else match Lx.lex text with
 | .ok l=>sys l
 | .error e=> .error e
structure Zn(n:Nat)(s:Int×Ex):Prop where
 var:0<=s.1/\s.1<n
 may:fv (n:Int) s.2=true
 typ:(rt s.2).2.1=0/\(rt s.2).1=1
 sz:s.2.sz<=65537
structure Zc(n:Nat)(c:aT):Prop where
 may:fv (n:Int) c.2.1=true
 typ:(rt c.2.1).2.1=0/\(rt c.2.1).1=2
 sz:c.2.1.sz<=65537
 sets:∀s∈c.2.2,Zn n s
 one:1<=c.2.2.length
 len:c.2.2.length<=65537
 once:c.2.2.Pairwise (λa b=>a.1≠b.1)
structure O8(f:Int×Int):Prop where
 le:f.1<=f.2
 lo: -1073741824<=f.1
 hi:f.2<=1073741824
 wide:f.2-f.1<=65535
structure Part(m:bk):Prop where
 names:m.1.length<=16
 schema:m.2.1.length=m.1.length
 init:m.2.2.1.length=m.1.length
 fields:∀f∈m.2.1,O8 f
 first:∀(i:Nat) (f:Int×Int) (v:Int),m.2.1[i]? =some f->m.2.2.1[i]? =some v->f.1<=v/\v<=f.2
 cmds:m.2.2.2.2.length<=256
 cmd:∀c∈m.2.2.2.2,Zc m.1.length c
structure Wf(m:bk):Prop extends Part m where
 some_:1<=m.1.length
theorem aqt{op n len a v w:Int}(h:vL op n len a v=true)(b:v<=w):vL op n len a w=true:=by simp [vL,Bool.and_eq_false_imp] at h ⊢;grind
theorem ae0{v w:Int}(c:v<=w):∀(N:Nat) (e:Ex),e.sz<=N->fv v e=true->fv w e=true:=by
 intro N
 induction N with
 |zero=>grind [pg]
 |succ N ih=>
  intro e h hm;have d:=(Ot hm).2.2.2.2;rw [Wv] at hm ⊢;simp at hm ⊢;refine ⟨aqt hm.1 c,?_⟩;have:∀l:List Ex,(∀x∈l,x∈e.l)->vS w l=true:=λl=>by
   induction l with
   |nil=>grind [vS]
   |cons x r a=>
    intro hx;simp [vS,au];exact ⟨ih x (by have:=mJ (hx x (by simp));omega) (d x (hx x (by simp))),a (λy b=>hx y (cp _ b))⟩
  grind
theorem Zc.le{n k:Nat}{c:aT}(h:Zc n c)(hk:n<=k):Zc k c:=
 ⟨ae0 (by omega) _ _ (cK _) h.may,h.typ,h.sz,λs a=>⟨⟨(h.sets s a).var.1,by have:=(h.sets s a).var.2;omega⟩,ae0 (by omega) _ _ (cK _) (h.sets s a).may,(h.sets s a).typ,(h.sets s a).sz⟩,h.one,h.len,h.once⟩
theorem aj7{lo hi:Int}(h:lX lo hi=true):O8 (lo,hi):=by simp [lX,au,l9,pA] at h;obtain ⟨⟨⟨d,c⟩,b⟩,a⟩:=h;rw [bB (by omega)] at a;exact ⟨by omega,by omega,by omega,by omega⟩
def tY(ts:List Tok):Prop:=(∀t∈ts,DH t)/\Pa.Ends ts/\ts.length<=65537
theorem tY.of{b a:List Tok}(h:tY b)(c:je b a)(d:a <:+ b):tY a:=⟨λt ht=>h.1 t (d.mem ht),c.1,by have:=c.2;have:=h.2.2;omega⟩
theorem xE{x:aE}{a r:List Tok}(h:cf x a= .ok r):r <:+ a:=by
 cases a with
 |nil=>simp [cf] at h
 |cons t b=>
  grind [cf,Ap,List.suffix_cons]
theorem Xj{full:Bool}{names a:List aE}{b:List Tok}{p:aE×List Tok}(h:fZ full names a b= .ok p):p.2 <:+ b:=by
 cases b with
 |nil=>simp [fZ] at h
 |cons t c=>
  simp [fZ] at h;grind
theorem Xv{b:Bool}{a:List Tok}{p:Int×List Tok}(h:tH b a= .ok p):p.2 <:+ a:=by
 cases a with
 |nil=>simp [tH] at h
 |cons t c=>
  grind [tH,List.suffix_cons]
theorem RH{a:List Tok}{p:Int×List Tok}(h:gD a= .ok p):p.2 <:+ a:=by
 unfold gD at h;cases b:uj 3 [45] a
 .grind [Xv]
 .rw [b] at h;exact (Xv h).trans (vb _)
theorem M4{a:Int}{names:List aE}{b:List Tok}{p:Ex×List Tok}(c:Pa.Ends b)(h:eN a names b= .ok p):p.2 <:+ b:=(tS c h).2.1.suf _ rfl
theorem aiQ{names:List aE}:∀(f:Nat) (acc:List (Int×Ex)) (a:List Tok) (p:List (Int×Ex)×List Tok),Pa.Ends a->fQ names f acc a= .ok p->p.2 <:+ a:=by
 intro f
 induction f with
 |zero=>grind [fQ]
 |succ f ih=>
  intro acc a p k h;obtain ⟨t,r,rfl⟩:=k.ne;simp [fQ] at h;cases g:(t.1 != 1)
  case true=>rw [g] at h;cases h
  rw [g] at h;cases m:(decide (fc names t.2.1<0)||Dz acc (fc names t.2.1))
  case true=>rw [m] at h;cases h
  rw [m] at h;have ht  :=by simpa using g
  have d:=k.tail (by omega);cases c:cf [61] r with
  |error e=>rw [c] at h;cases h
  |ok r1=>
   rw [c] at h;simp only at h;have j:=nn d c;cases b:eN 1 names r1 with
   |error e=>rw [b] at h;cases h
   |ok q=>
    obtain ⟨x,r2⟩:=q;rw [b] at h;simp only at h;have n  :=(tS j.1 b).1;have i:r2 <:+ t::r:=((M4 j.1 b).trans (xE c)).trans (q0 _ _);cases l:uj 3 [44] r2
    .grind
    .rw [l] at h;exact ((ih _ _ _ (ph n.1 (by decide) l).1 h).trans (vb _)).trans i
theorem Xn{a:Int}{names:List aE}{d:List Tok}{x:Ex}{r:List Tok}(c:tY d)(h:eN a names d= .ok (x,r)):
  fv (names.length:Int) x=true/\((rt x).2.1=0/\(rt x).1=a)/\x.sz<=65537:=by
 obtain ⟨g,hp,f,e⟩:=tS c.2.1 h;have b:=hp.size _ rfl;simp [LN] at b;exact ⟨hp.may trivial c.1 rfl _ rfl,⟨f,e⟩,by have:=c.2.2;omega⟩
theorem aoV{names:List aE}{v:aE}(h:¬fc names v<0):0<=fc names v/\fc names v<names.length:=by
 unfold fc at h ⊢;cases ha:at_ names v with
 |none=>rw [ha] at h;simp at h
 |some i=>have:=pS ha;simp only;omega
theorem afH{names:List aE}:∀(f:Nat) (acc:List (Int×Ex)) (k:List Tok) (p:List (Int×Ex)×List Tok),tY k->fQ names f acc k= .ok p->
  (∀s∈acc,Zn names.length s)->acc.Pairwise (λa b=>a.1≠b.1)->acc.length+k.length<=65537->(∀s∈p.1,Zn names.length s)/\p.1.Pairwise (λa b=>a.1≠b.1)/\p.1.length<=65537/\1<=p.1.length:=by
 intro f
 induction f with
 |zero=>grind [fQ]
 |succ f ih=>
  intro acc k p y h i F d;obtain ⟨t,r,rfl⟩:=y.2.1.ne;have G:=y.2.1;simp [fQ] at h;cases z:(t.1 != 1)
  case true=>rw [z] at h;cases h
  rw [z] at h;cases o:(decide (fc names t.2.1<0)||Dz acc (fc names t.2.1))
  case true=>rw [o] at h;cases h
  rw [o] at h;have ht  :=by simpa using z
  have g:=G.tail (by omega);simp only [l5,pA] at o;cases n:cf [61] r with
  |error e=>rw [n] at h;cases h
  |ok r1=>
   rw [n] at h;simp only at h;have l:=nn g n;have E:=l.2;have v:tY r:=⟨λt' A=>y.1 t' (cp _ A),g,by grind⟩;have j  :=v.of l (xE n);cases m:eN 1 names r1 with
   |error e=>rw [m] at h;cases h
   |ok q=>
    obtain ⟨x,r2⟩:=q;have u:je r1 r2:=(tS l.1 m).1;have D:=u.2;have w  :=j.of u (M4 l.1 m);obtain ⟨L,K,J⟩:=Xn j m;have hi:=aoV o.1;have C:∀s∈acc++[(fc names t.2.1,x)],Zn names.length s:=λs c=>by
     rcases List.mem_append.1 c with c|c
     .exact i s c
     .rw [List.mem_singleton.1 c];exact ⟨hi,L,K,J⟩
    have B:(acc++[(fc names t.2.1,x)]).Pairwise (λa b=>a.1≠b.1):=by grind [List.mem_singleton,Dz,fc,List.any_eq_true]
    simp at d;cases I:uj 3 [44] r2
    .grind
    .obtain ⟨M,N⟩:=ph u.1 (by decide) I;have H:tY r2.tail:=⟨λt' A=>w.1 t' ((vb _).mem A),M,by omega⟩;grind
theorem ajl{m:bk}{f:List Tok}{p:bk×List Tok}(d:tY f)(hm:Part m)(h:oa m f= .ok p):Part p.1/\tY p.2/\p.2.length<f.length:=by
 obtain ⟨D,g,r1,r2,sets,E,v,q,z,o,hp,u,t⟩:=VJ d.2.1 h;have j  :=(tS d.2.1 q).1;have n  :=d.of j (M4 d.2.1 q);have e:=nn j.1 u;have a  :=n.of e (xE u);have i  :=acy _ _ _ _ e.1 o;have l  :=a.of i (aiQ _ _ _ _ e.1 o);have r:=nn i.1 t;have k  :=l.of r (xE t);obtain ⟨C,B,A⟩:=Xn d q;obtain ⟨t1,t2,x,w⟩:=afH _ _ _ _ a o (λs y=>by cases y) List.Pairwise.nil (by have:=a.2.2;simpa using this);refine ⟨?_,k,by have:=j.2;have:=e.2;have:=i.2;have:=r.2;omega⟩;rw [hp];refine ⟨hm.names,hm.schema,hm.init,hm.fields,hm.first,by simp;omega,λc b=>?_⟩;rcases List.mem_append.1 b with b|b
 .exact hm.cmd c b
 .rw [List.mem_singleton.1 b];exact ⟨C,B,A,t1,w,x,t2⟩
theorem ag7:∀(f:Nat) (m:bk) (a:List Tok) (p:bk×List Tok),tY a->Part m->mo f m a= .ok p->Part p.1/\tY p.2:=by
 intro f
 induction f with
 |zero=>grind [mo]
 |succ f ih=>
  intro m a p c hm h;simp [mo] at h;cases d:uj 3 [125] a
  .rw [d] at h;cases b:oa m a with
   |error e=>rw [b] at h;cases h
   |ok q=>
    obtain ⟨g,r⟩:=q;rw [b] at h;obtain ⟨j,i,_⟩:=ajl c hm b;exact ih g r p i j h
  .rw [d] at h;cases h;obtain ⟨b,k⟩:=ph c.2.1 (by decide) d;exact ⟨hm,λt ht=>c.1 t ((vb _).mem ht),b,by have:=c.2.2;grind⟩
theorem agw{m:bk}{d:List Tok}{p:bk×List Tok}(i:tY d)(hm:Part m)(h:wE m d= .ok p):Part p.1/\tY p.2:=by
 unfold wE at h;cases c:fZ false m.1 m.2.2.2.1 d with
 |error e=>rw [c] at h;cases h
 |ok k=>
  obtain ⟨a,r1⟩:=k;rw [c] at h;simp only at h;have g  :=(Sd i.2.1 c).1;have f  :=i.of g (Xj c);cases b:cf [123] r1 with
  |error e=>rw [b] at h;cases h
  |ok r2=>
   rw [b] at h;have j:=nn g.1 b;exact ag7 _ (m.1,m.2.1,m.2.2.1,m.2.2.2.1++[a],m.2.2.2.2) _ _ (f.of j (xE b)) ⟨hm.names,hm.schema,hm.init,hm.fields,hm.first,hm.cmds,hm.cmd⟩ h
theorem akM{m:bk}{f:List Tok}{p:bk×List Tok}(h:sn m f= .ok p):p.2 <:+ f:=by
 unfold sn at h;cases k:fZ (decide (16<=(m.1.length:Int))) m.1 m.2.2.2.1 f with
 |error e=>rw [k] at h;cases h
 |ok t=>
  obtain ⟨l,d⟩:=t;rw [k] at h;simp only at h;have y  :=Xj k;cases j:gD d with
  |error e=>rw [j] at h;cases h
  |ok s=>
   obtain ⟨lo,c⟩:=s;rw [j] at h;simp only at h;have x  :=RH j;cases i:gD c with
   |error e=>rw [i] at h;cases h
   |ok r=>
    obtain ⟨hi,b⟩:=r;rw [i] at h;simp only at h;have w  :=RH i;cases g:gD b with
    |error e=>rw [g] at h;cases h
    |ok q=>
     obtain ⟨first,a⟩:=q;rw [g] at h;simp only at h;have v  :=RH g;cases n:cf [59] a with
     |error e=>rw [n] at h;cases h
     |ok o=>
      have u:=xE n;grind
theorem aka{m:bk}{e:List Tok}{p:bk×List Tok}(k:tY e)(hm:Part m)(h:sn m e= .ok p):Part p.1/\tY p.2/\1<=p.1.1.length:=by
 obtain ⟨l,g,lo,hi,first,hp,s,u,t,r,_⟩:=aeC k.2.1 h;refine ⟨?_,k.of l (akM h),by rw [hp];simp⟩;rw [hp];have n:=hm.schema;have d:=hm.init;refine ⟨by simp;omega,by simp [n],by simp [d],λf a=>?_,λi f v a j=>?_,hm.cmds,λc q=>(hm.cmd c q).le (by simp)⟩
 .rcases List.mem_append.1 a with a|a
  .exact hm.fields f a
  grind [List.mem_singleton,aj7]
 .rcases qE i m.2.1.length with b|o
  .rw [ec b] at a;rw [ec (by omega)] at j;exact hm.first i f v a j
  grind
theorem adj:∀(f:Nat) (m:bk) (b:List Tok) (p:bk),tY b->Part m->rO f m b= .ok p->Wf p:=by
 intro f
 induction f with
 |zero=>grind [rO]
 |succ f ih=>
  intro m b p a hm h;obtain ⟨t,r,rfl⟩:=a.2.1.ne;have j:=a.2.1;simp [rO] at h;cases g:(t.1==4)
  .rw [g] at h;have k:tY r:=⟨λt' l=>a.1 t' (cp _ l),j.tail (by simpa using g),by have:=a.2.2;grind⟩;cases cv:Ap 1 [118,97,114] t
   .rw [cv] at h;cases i:Ap 1 [112,114,111,99] t
    .rw [i] at h;cases h
    .rw [i] at h;cases d:wE m r with
     |error e=>rw [d] at h;cases h
     |ok q=>
      grind [agw]
   .rw [cv] at h;cases d:sn m r with
    |error e=>rw [d] at h;cases h
    |ok q=>
     grind [aka]
  .rw [g] at h;cases c:m.1.isEmpty
   .rw [c] at h;cases h;refine ⟨hm,?_⟩;grind
   grind
theorem aj8{text:aE}{m:bk}(h:RN text= .ok m):Wf m:=by
 unfold RN at h;split at h
 .cases h
 .cases hx:Lx.lex text with
  |error e=>rw [hx] at h;cases h
  |ok l=>
   rw [hx] at h;have a:=aaT hx;exact adj _ _ _ _ ⟨a.num,a.ends,by have:=a.len;omega⟩ ⟨by simp,rfl,rfl,(λf b=>by cases b),(λi f v b=>by simp at b),by simp,(λc d=>by cases d)⟩ h
end Sy
namespace Sy
open Pa
theorem alo(text:aE):fP text=some (Sk (RN text)):=by
 unfold RN;by_cases h:65536<text.length
 .rw [du h];unfold fP;rw [Lx.Ny];unfold Lx.tokens;rw [du h];rfl
 .rw [dk h];have ht:gM text=some (Lx.res (Lx.lex text)):=by grind [Lx.Ny,Lx.afz]
  cases hl:Lx.lex text with
  |ok l=>
   rw [hl] at ht;have a:=aaT hl;exact alT ht (by have:=a.len;omega) a.ok a.num a.ends
  |error e=>
   rw [hl] at ht;have b  :=bne_iff_ne.2 (abu _ _ _ _ hl);unfold fP;rw [ht,ah];simp [Lx.res,b,ca,Sk]
end Sy
variable {v : zl}
namespace Sp
theorem apn(d:Nat)(h:d<10):Lx.AF (UInt8.ofNat (48+d))=d/\Lx.isDigit (UInt8.ofNat (48+d))=true:=by
 have:d=0\/d=1\/d=2\/d=3\/d=4\/d=5\/d=6\/d=7\/d=8\/d=9:=by omega
 rcases this with rfl|rfl|rfl|rfl|rfl|rfl|rfl|rfl|rfl|rfl <;> exact ⟨rfl,rfl⟩
theorem QF:∀(N n:Nat),n<=N->Lx.gN 0 (Lib.decDigits n)=n/\(Lib.decDigits n).all Lx.isDigit=true/\Lib.decDigits n≠[]:=by
 intro N
 induction N with
 |zero=>
  intro n h;obtain rfl:n=0:=by omega
  rw [Lib.decDigits,ub (by omega)];exact ⟨rfl,rfl,by simp⟩
 |succ N ih=>
  intro n h;rw [Lib.decDigits];grind [apn,Bool.and_self,Lx.AF,UInt8.ofNat,Lx.gN]
theorem ap0{m n:Nat}(h:Lib.decDigits m=Lib.decDigits n):m=n:=by have b:=(QF m m (cK _)).1;have a:=(QF n n (cK _)).1;grind
theorem QT{c:UInt8}(h:Lx.isDigit c=true):c≠45/\c≠32:=by constructor <;> (intro e;subst e;cases h)
theorem VN(n:Nat):∀c∈Lib.decDigits n,Lx.isDigit c=true:=λc a=>List.all_eq_true.1 (QF n n (cK _)).2.1 c a
theorem anz{x y:Int}(h:Lib.itoa x=Lib.itoa y):x=y:=by
 have a:∀(m n:Nat),Lib.decDigits m≠45::Lib.decDigits n:=λm n e=>by have:=VN m 45 (by rw [e];simp);exact (QT this).1 rfl
 grind [Lib.itoa,ap0,List.cons.inj,absurd]
theorem Xt(x:Int):∀c∈Lib.itoa x,c≠32:=by
 intro c a;unfold Lib.itoa at a;split at a
 .rcases List.mem_cons.1 a with rfl|a
  .decide
  .exact (QT (VN _ c a)).2
 .exact (QT (VN _ c a)).2
theorem Ie:∀(k u:Nat),u<10^(k+1)->Lib.nDigits u<=k+1
 |0,u,h=>by grind [Lib.nDigits_small]
 |k+1,u,h=>by
  by_cases a:u<10
  .grind [Lib.nDigits_small]
  .rw [Lib.nDigits_big a];have:=Ie k (u/10) (by grind);omega
theorem XG{n:Int}(b: -9223372036854775808<=n)(a:n<=9223372036854775807):(Lib.itoa n).length<=20:=by
 unfold Lib.itoa;split
 .rw [eb,Lib.decDigits_length];have:=Ie 18 n.natAbs (by omega);omega
 .rw [Lib.decDigits_length];have:=Ie 18 n.toNat (by omega);omega
def fy(v:zl):aE:=v.flatMap λn=>Lib.itoa n++[32]
theorem aqs{a b r s:aE}(ha:∀c∈a,c≠32)(hb:∀c∈b,c≠32)(h:a++32::r=b++32::s):a=b/\r=s:=by
 induction a generalizing b with
 |nil=>
  cases b with
  |nil=>grind
  |cons c b=>grind
 |cons c a ih=>
  cases b with
  |nil=>grind
  |cons d b=>
   grind
theorem Rb:∀{a b:zl},fy a=fy b->a=b
 |[],[],_=>rfl
 |[],y::b,h=>by
  simp_all [fy,congrArg]
 |x::a,[],h=>by
  simp_all [fy,congrArg]
 |x::a,y::b,h=>by simp [fy,qO,cx] at h;obtain ⟨d,c⟩:=aqs (Xt x) (Xt y) h;rw [anz d,Rb c]
theorem text_cat(a b:zl):fy (a++b)=fy a++fy b:=by simp [fy]
theorem L3(s:aE):strOf (aQ s)=s:=by
 induction s with
 |nil=>rfl
 |cons c s ih=>
  simp_all [strOf,aQ,e9]
theorem Qu(a b:aE):aQ (a++b)=aQ a++aQ b:=by simp [aQ]
theorem Ik(s:aE):(aQ s).length=s.length:=by simp [aQ]
def vY(v:zl):Prop:= ∀n∈v,-9223372036854775808<=n/\n<=9223372036854775807
theorem acg(h:vY v):(fy v).length<=21*v.length:=by
 induction v with
 |nil=>simp [fy]
 |cons n v ih=>
  have a:=h n (by simp);have:=XG a.1 a.2;have:=ih (λm hm=>h m (cp _ hm));grind [fy,List.length_append,List.length_cons,List.length_nil]
theorem copy_eq(f:Bool)(l:zl):jg f l=some true:=by cases f <;> rfl
theorem as7{s:aE}{l:zl}(f:Bool)(h:l.length+s.length<=140737488355328):ie s f l=some ((s.length:Int),true,l++aQ s):=by grind [ie,copy_eq,ah,Sy.aO,Sy.cC]
theorem asI{l:zl}(c:Int)(f:Bool)(h:l.length+1<=140737488355328):ji c f l=some (true,l++[c]):=by grind [ji,copy_eq,ah,Sy.aO,Sy.cC]
theorem ajj(f:Bool){s:aE}(h:aQ s≠[]):kG f (aQ s)=some s:=by
 have e  :=L3 s;cases hb:aQ s with
 |nil=>exact absurd hb h
 |cons c l=>
  rw [hb] at e;unfold kG;rw [show idx (c::l) 0=some c from rfl,ah,Sy.aO (by simp),e]
theorem ary{x:Int}(h:aaM x=true):Y9 x=some (Lib.itoa x):=Sy.aO h _
theorem XV(v:zl)(b:vY v)(hl:v.length<1000000000)(a:v≠[]):∀(r pre:zl),v=pre++r->∀(M:Nat) (f:Bool),r.length<M->
  aj (Ai v) M (f,aQ (fy pre),(pre.length:Int))=some (fy v)
 |[],pre,h,M,f,hM=>by
  obtain ⟨m,rfl⟩:∃m,M=m+1:=⟨M-1,by omega⟩;rw [ao];have e  :=by simpa using h.symm
  subst e;simp only [Ai,cy (show ¬((pre.length:Int)<(List.length pre)) by omega),b7];rw [ajj,ah];cases pre with
  |nil=>exact absurd rfl a
  |cons x r=>
   have:(aQ (fy (x::r))).length≠0:=by rw [Ik];simp [fy]
   grind
 |x::r,pre,h,M,f,hM=>by
  obtain ⟨m,rfl⟩:∃m,M=m+1:=⟨M-1,by omega⟩;rw [ao];have hx:=b x (by rw [h];simp);have hi  :=abz.2 hx;have hp:vY pre:=λn hn=>b n (by grind);have hb:=acg hp;have c:=XG hx.1 hx.2;have ih:=XV v b hl a r (pre++[x]) (by rw [h];simp) m true (by simp at hM;omega);have d:aQ (fy (pre++[x]))=(aQ (fy pre)++aQ (Lib.itoa x))++[32]:=by simp [fy,qO,Qu,cx];rfl
  simp [Ai,Sy.lr h,ah,ary hi];grind [as7,Ik,ah,asI,List.length_append,Pa.bP]
theorem apm(b:vY v)(hl:v.length<1000000000)(a:v≠[]):MZ v=some (fy v):=
 XV v b hl a v [] rfl an false (by show v.length<2^64;omega)
def iy(l:w8)(v:zl):w8:=if l.contains v then l else l++[v]
def dm(acc l:w8):w8:=l.foldl iy acc
def Seen(l:w8)(at_:Option (List (aE×Bool))):Prop:=(at_=none->l=[])/\∀v,eA at_ (fy v) false=l.contains v
theorem amb:Seen [] none:=⟨λ_=>rfl,λa=>rfl⟩
theorem G7(l:List (aE×Bool))(k a:aE):(pJ (l6 l k true) a).getD false=((a==k)||(pJ l a).getD false):=by
 induction l with
 |nil=>
  grind [l6,pJ]
 |cons p l ih=>
  simp [l6];cases b:(k==p.1)
  .simp [b7,pJ];grind
  .simp [ca,pJ];grind
theorem add_eq{l:w8}{at_:Option (List (aE×Bool))}(f:vY v)(hl:v.length<1000000000)(c:v≠[])(g:l.length<1000000000)(b:Seen l at_):
  ∃at',oA v l at_=some (iy l v,at')/\Seen (iy l v) at':=by
 have k1:aH (List.length l+List.length ([v])) 24=true:=Sy.cC (by simp;omega) (by simp;omega);have key:∀a:List (aE×Bool),Seen l (some a)->∃at',wI v l (some a)=some (iy l v,at')/\Seen (iy l v) at':=λa b=>by
  unfold wI;rw [apm f hl c,ah,b.2 v];unfold iy;cases i:l.contains v
  .simp only [Sy.aO k1,eT];refine ⟨_,rfl,(λh=>by cases h),λu=>?_⟩;have d:=b.2 u;unfold eA at d ⊢;simp at d ⊢;rw [G7,d];have e:(fy u==fy v)=(u==v):=by grind [beq_eq_false_iff_ne,Rb]
   grind
  grind
 cases at_ with
 |none=>
  refine key [] ⟨(λh=>by cases h),λu=>?_⟩;exact b.2 u
 |some a=>
  exact key a b
theorem FK(l:w8)(v:zl):(iy l v).length<=l.length+1:=by grind [iy]
theorem acB{l:w8}{u:zl}:u∈iy l v↔u∈l\/u=v:=by unfold iy;grind
theorem sb:∀(m l:w8),(dm l m).length<=l.length+m.length
 |[],l=>by simp [dm]
 |v::m,l=>by have:=sb m (iy l v);grind [FK,dm,List.length_cons]
theorem nt{u:zl}:∀{m l:w8},u∈dm l m↔u∈l\/u∈m
 |[],l=>by simp [dm]
 |v::m,l=>by have:=nt (u:=u) (m:=m) (l:=iy l v);grind [dm,acB]
theorem Sn:∀(m l:w8),l <+: dm l m
 |[],l=>tw _
 |v::m,l=>by have a:=Sn m (iy l v);grind [iy,List.prefix_refl,List.prefix_append,dm]
end Sp
theorem amS(b:Bool):yr b=some (tr b):=by cases b <;> rfl
theorem Mw(k:Ex×zl->zd)(e:Ex)(v:zl)(d:Int×Int×Int->zd)(a b t:Int)(h:¬t<(List.length (aV e.l 0 (min (List.length e.l:Int) 2)):Int)):
  eI k e v d (a,b,t)=some (PX e.op e.n v a b):=by
 simp [eI,cy h,aK,FQ,E4,Eg,FA,Ej,amS,PX];cases r:(decide (e.n<0)||decide ((List.length v)<=e.n))
 .have q:idx v e.n=some (v.getD e.n.toNat 0):=by simp_all [idx,b9]
  rw [q];generalize (e.op==1)=p;generalize (e.op==2)=o;generalize (e.op==3)=m;generalize (e.op==5)=i;generalize (e.op==6)=g;generalize (e.op==4)=j;generalize (e.op==8)=b8;generalize (e.op==7)=f;generalize (e.op==19)=c;cases p
  case true=>rfl
  cases o
  case true=>rfl
  cases m
  case true=>rfl
  cases i
  case true=>rfl
  cases g
  case true=>rfl
  cases j
  case true=>rfl
  cases b8
  case true=>rfl
  cases f
  case true=>rfl
  cases c
  case true=>rfl
  grind
 .generalize (e.op==1)=p;generalize (e.op==2)=o;generalize (e.op==3)=m;generalize (e.op==5)=i;generalize (e.op==6)=g;generalize (e.op==4)=j;generalize (e.op==8)=b8;generalize (e.op==7)=f;generalize (e.op==19)=c;cases p
  case true=>rfl
  cases o
  case true=>rfl
  cases m
  case true=>rfl
  cases i
  case true=>rfl
  cases g
  case true=>rfl
  cases j
  case true=>rfl
  cases b8
  case true=>rfl
  cases f
  case true=>rfl
  cases c
  case true=>rfl
  grind
theorem aso(k:Ex×zl->zd)(e:Ex)(v:zl)(hk:∀x∈e.l,k (x,v)=some (ev v x)):vZ k e v=some (ev v e):=by
 unfold vZ;have d:db 0 (min (List.length e.l) 2) (List.length e.l)=true:=wO.2 ⟨⟨qc _,by omega⟩,by omega⟩;rw [d,ahP];show aj (eI k e v) an (0,0,0)=_;rw [show an=18446744073709551613+1+1+1 from rfl];generalize 18446744073709551613=N;rw [ao];obtain ⟨op,n,a,l⟩:=e
 match l,hk with
 |[],_=>exact Mw k (.mk op n a []) v _ 0 0 0 (by show ¬(0:Int)<((List.length (aV ([]:List Ex) 0 _):Nat));simp [aV])
 |[x],hk=>
  have hx:=hk x (by simp [Ex.l]);have hl:aV [x] 0 (min (List.length [x]) 2)=[x]:=rfl;have b:eI k (.mk op n a [x]) v (aj (eI k (.mk op n a [x]) v) (N+1+1)) (0,0,0)=aj (eI k (.mk op n a [x]) v) (N+1+1) (ev v x,0,1):=by show (k (x,v)).bind _=_;rw [hx];rfl
  rw [b,ao];exact Mw k (.mk op n a [x]) v _ (ev v x) 0 1 (by show ¬(1:Int)<(List.length (aV [x] 0 (min (List.length [x]:Int) 2)));rw [hl];simp)
 |x::y::r,hk=>
  have hx:=hk x (by simp [Ex.l]);have c:=hk y (by simp [Ex.l]);have hm:min (List.length (x::y::r):Int) 2=2:=by grind
  have hl:aV (x::y::r) 0 2=[x,y]:=rfl;have b:eI k (.mk op n a (x::y::r)) v (aj (eI k (.mk op n a (x::y::r)) v) (N+1+1)) (0,0,0)=aj (eI k (.mk op n a (x::y::r)) v) (N+1+1) (ev v x,0,1):=by show (bif decide ((0:Int)<(List.length (aV (x::y::r) 0 (min (List.length (x::y::r):Int) 2)))) then (idx (aV (x::y::r) 0 (min (List.length (x::y::r)) 2)) 0).bind _ else _)=_;rw [hm,hl];show (k (x,v)).bind _=_;rw [hx];rfl
  have f:eI k (.mk op n a (x::y::r)) v (aj (eI k (.mk op n a (x::y::r)) v) (N+1)) (ev v x,0,1)=aj (eI k (.mk op n a (x::y::r)) v) (N+1) (ev v x,ev v y,2):=by show (bif decide ((1:Int)<(List.length (aV (x::y::r) 0 (min (List.length (x::y::r):Int) 2)))) then (idx (aV (x::y::r) 0 (min (List.length (x::y::r)) 2)) 1).bind _ else _)=_;rw [hm,hl];show (k (y,v)).bind _=_;rw [c];rfl
  rw [b,ao,f,ao];exact Mw k (.mk op n a (x::y::r)) v _ (ev v x) (ev v y) 2 (by grind [List.length,aV,min])
theorem aiA:∀(N:Nat) (e:Ex) (v:zl),e.sz<=N->aj (λk (s:Ex×zl)=>vZ k s.1 s.2) N (e,v)=some (ev v e):=by
 intro N
 induction N with
 |zero=>grind [pg]
 |succ N ih=>
  intro e v h;exact aso _ e v (λx hx=>ih x v (by have:=mJ hx;omega))
theorem VB(e:Ex)(h:e.sz<4611686018427387904)(v:zl):rV e v=some (ev v e):=aiA an e v (by show e.sz<=2^64;omega)
namespace Sp
def fits:xb->zl->Bool
 |s::S,n::w=>(decide (s.1<=n)&&decide (n<=s.2))&&fits S w
 |_,_=>true
def Nn(v w:zl)(s:Int×Ex):zl:=w.set s.1.toNat (ev v s.2)
def agh(v:zl)(c:Sy.aT):zl:=c.2.2.foldl (Nn v) v
theorem RW(v w:zl)(s:Int×Ex):(Nn v w s).length=w.length:=by simp [Nn]
theorem Xi(v:zl):∀(l:List (Int×Ex)) (w:zl),(l.foldl (Nn v) w).length=w.length
 |[],w=>rfl
 |s::l,w=>by rw [List.foldl_cons,Xi v l,RW]
theorem MI(v:zl)(c:Sy.aT):(agh v c).length=v.length:=Xi _ _ _
def fin(S:xb)(w:zl):zl×Int:=bif fits S w then (w,0) else ([],6)
def nk(v:zl):Nat->List Sy.aT->zl
 |_,[]=>[]
 |k,c::r=>if ev v c.2.1=1 then (k:Int)::nk v (k+1) r else nk v (k+1) r
def enC(v:zl)(l:List Sy.aT):List Sy.aT:=l.filter λc=>decide (ev v c.2.1=1)
def fq(cmds:List Sy.aT)(v:zl)(i:Int):zl:=match cmds[i.toNat]? with|some c=>agh v c|none=>v
def O1(S:xb)(cmds:List Sy.aT)(v:zl)(k:Int):zl×Int:=
 if k<0\/(cmds.length:Int)<=k then ([],10) else fin S (fq cmds v k)
def goes(v:zl)(cmds:List Sy.aT):w8:=(enC v cmds).map (agh v)
def Pb(S:xb)(v:zl)(ws:w8):w8×Int:=
 if ws=[] then ([v],0) else bif ws.all (fits S) then (dm [] ws,0) else ([],6)
def fa(S:xb)(cmds:List Sy.aT)(v:zl):w8×Int:=Pb S v (goes v cmds)
structure SafeS(S:xb)(C:List Sy.aT):Prop where
 pos:1<=S.length
 df:S.length<=16
 field:∀f∈S,Sy.O8 f
 cmds:C.length<=300
 guard:∀c∈C,c.2.1.sz<1000000
 sets:∀c∈C,c.2.2.length<=65537/\∀s∈c.2.2,0<=s.1/\s.1<S.length/\s.2.sz<1000000
structure sH(S:xb)(v:zl):Prop where
 len:v.length=S.length
 fit:fits S v=true
theorem abm:∀{S:xb} {v:zl},v.length=S.length->(∀f∈S,Sy.O8 f)->fits S v=true->vY v
 |[],[],_,_,_=>λn hn=>by cases hn
 |[],_::_,h,_,_=>by simp at h
 |_::_,[],h,_,_=>by simp at h
 |s::S,x::w,h,hS,a=>by
  simp [fits,au,er] at a;have b:=hS s (by simp);intro n hn;rcases List.mem_cons.1 hn with rfl|hn
  .have:=b.lo;have:=b.hi;omega
  .exact abm (by simpa using h) (λf a=>hS f (cp _ a)) a.2 n hn
theorem sH.i64{S:xb}{cmds:List Sy.aT}(h:sH S v)(a:SafeS S cmds):vY v:=abm h.len a.field h.fit
theorem sH.ne{S:xb}{cmds:List Sy.aT}(h:sH S v)(a:SafeS S cmds):v≠[]:=λe=>by have:=h.len;have:=a.pos;grind
theorem sH.short{S:xb}{cmds:List Sy.aT}(h:sH S v)(a:SafeS S cmds):v.length<1000000000:=by have:=h.len;have:=a.df;omega
theorem ar3(s:Int×Int)(n:Int):lx s n=some (decide (s.1<=n)&&decide (n<=s.2)):=rfl
theorem ad5(S:xb)(w:zl):∀(r pre:zl) (rs ps:xb),w=pre++r->S=ps++rs->ps.length=pre.length->rs.length=r.length->w.length<1000->
  ∀M,r.length<M->aj (tN S w) M (pre.length:Int)=some (bif fits rs r then 0 else 5)
 |[],pre,rs,ps,h,hS,hl,hr,hw,M,hM=>by
  obtain ⟨m,rfl⟩:∃m,M=m+1:=⟨M-1,by omega⟩;rw [ao];simp only [tN,Sy.uS h];have  :=et hr;subst this;rfl
 |x::r,pre,[],ps,h,hS,hl,hr,hw,M,hM=>by simp at hr
 |x::r,pre,s::rs,ps,h,hS,hl,hr,hw,M,hM=>by
  obtain ⟨m,rfl⟩:∃m,M=m+1:=⟨M-1,by omega⟩;rw [ao];have b:idx S (pre.length)=some s:=by grind [Sy.lr]
  have a:pre.length+r.length+1=w.length:=by rw [h];simp;omega
  have ih:=ad5 S w r (pre++[x]) rs (ps++[s]) (by rw [h];simp) (by rw [hS];simp) (by simp;omega) (by simpa using hr) hw m (by simp at hM;omega);simp [tN,Sy.lr h,ar3,Pa.bP (show pre.length<4611686018427387904 by omega),fits];grind
theorem as8(S:xb)(w:zl)(hl:w.length=S.length)(a:w.length<1000):uO S w=some (bif fits S w then 0 else 5):=by unfold uO;rw [show ((List.length w:Int) != (List.length S))=false by rw [hl];simp,b7];exact ad5 S w w [] S [] rfl rfl rfl hl.symm a an (by show w.length<2^64;omega)
theorem sM(l:List α)(i:Int)(b:0<=i)(a:i<l.length):∃x,idx l i=some x/\l[i.toNat]? =some x:=by simp_all [idx]
theorem XO(m:Sy.bk)(v:zl)(e:Sy.aT)(hn:v.length=m.2.1.length)(c:v.length<1000)(d:e.2.2.length<=65537)(a:∀s∈e.2.2,0<=s.1/\s.1<m.2.1.length/\s.2.sz<1000000):
  ∀(r pre:List (Int×Ex)),e.2.2=pre++r->∀(w:zl) (M:Nat),w.length=v.length->r.length<M->
   aj (ym m v e) M (w,(pre.length:Int))=some (fin m.2.1 (r.foldl (Nn v) w))
 |[],pre,h,w,M,hw,hM=>by
  obtain ⟨k,rfl⟩:∃k,M=k+1:=⟨M-1,by omega⟩;rw [ao];simp [ym,fin];grind [as8,ah,fits]
 |s::r,pre,h,w,M,hw,hM=>by
  obtain ⟨k,rfl⟩:∃k,M=k+1:=⟨M-1,by omega⟩;rw [ao];obtain ⟨f,i,g⟩:=a s (by rw [h];simp);have b:pre.length+r.length+1=e.2.2.length:=by rw [h];simp;omega
  obtain ⟨x,hx,_⟩:=sM w s.1 f (by omega);have ih:=XO m v e hn c d a r (pre++[s]) (by rw [h];simp) (Nn v w s) k (by rw [RW,hw]) (by simp at hM;omega);rw [show ((pre++[s]).length)=((pre.length+1:Nat)) by simp] at ih;simp only [ym,Sy.vg h,Sy.lr h,ah];rw [VB s.2 (by omega) v];simp [hx,Pa.bP (show pre.length<4611686018427387904 by omega)];exact ih
theorem R6(v:zl)(h:v.length<1000000000):bz v=some v:=by grind [bz,Sy.aO,Sy.cC]
theorem aoS{m:Sy.bk}(hm:SafeS m.2.1 m.2.2.2.2)(hn:v.length=m.2.1.length)(k:Int):Hd m v k=some (O1 m.2.1 m.2.2.2.2 v k):=by
 have d:v.length<1000:=by have:=hm.df;omega
 unfold Hd;simp [aK];unfold O1;by_cases hk:k<0\/(m.2.2.2.2.length)<=k
 .grind
 .rw [dk hk];rw [show (decide (k<0)||decide ((List.length m.2.2.2.2)<=k))=false by grind,b7];obtain ⟨c,e,b⟩:=sM m.2.2.2.2 k (by omega) (by omega);rw [R6 v (by omega),ah,e,ah];have a  :=fm b;have:=XO m v c hn d (hm.sets c a).1 (hm.sets c a).2 c.2.2 [] rfl v an rfl (by have:=(hm.sets c a).1;show _<2^64;omega);rw [show (0:Int)=((([]:List (Int×Ex)).length:Nat)) from rfl,this];unfold fq;rw [b];rfl
theorem aeH(m:Sy.bk)(v:zl)(hm:SafeS m.2.1 m.2.2.2.2):∀(r pre:List Sy.aT),m.2.2.2.2=pre++r->∀(out:zl) (M:Nat),out.length<=pre.length->r.length<M->
  aj (tL m v) M (out,(pre.length:Int))=some (out++nk v pre.length r)
 |[],pre,h,out,M,a,hM=>by
  obtain ⟨k,rfl⟩:∃k,M=k+1:=⟨M-1,by omega⟩;simp_all [ao,tL,nk]
 |c::r,pre,h,out,M,a,hM=>by
  obtain ⟨k,rfl⟩:∃k,M=k+1:=⟨M-1,by omega⟩;rw [ao];have b:pre.length+r.length+1=m.2.2.2.2.length:=by rw [h];simp;omega
  have f:=hm.cmds;have e:=hm.guard c (by rw [h];simp);simp only [tL,Sy.vg h,Sy.lr h,ah];rw [VB c.2.1 (by omega) v,ah];have ih:=λout a=>aeH m v hm r (pre++[c]) (by rw [h];simp) out k a (by simp at hM;omega);rw [show ((pre++[c]).length:Int)=((pre.length+1:Nat)) by simp,show (pre++[c]).length=pre.length+1 by simp] at ih;simp only [Pa.bP (show pre.length<4611686018427387904 by omega),nk];by_cases d:ev v c.2.1=1
  .rw [du d,show (ev v c.2.1==1)=true by simpa using d,ca,Sy.aO (Sy.cC (by simp;omega) (by simp;omega)),ih _ (by simp;omega),cx];rfl
  grind
theorem asG{m:Sy.bk}(hm:SafeS m.2.1 m.2.2.2.2):Ed m v=some (nk v 0 m.2.2.2.2):=
 aeH m v hm m.2.2.2.2 [] rfl [] an (cK _) (by have:=hm.cmds;show _<2^64;omega)
theorem I9(v:zl):∀(r:List Sy.aT) (k:Nat),(nk v k r).length=(enC v r).length
 |[],k=>rfl
 |c::r,k=>by
  unfold nk enC;rw [tj];by_cases a:ev v c.2.1=1
  .rw [du a,du (by simpa using a),eb,eb,I9 v r];rfl
  .rw [dk a,dk (by simpa using a),I9 v r];rfl
theorem ae4{v:zl}{i:Int}:∀{r:List Sy.aT} {k:Nat},i∈nk v k r->∃(j:Nat) (c:Sy.aT),i=((k+j:Nat):Int)/\r[j]? =some c/\ev v c.2.1=1
 |[],k,h=>by simp [nk] at h
 |c::r,k,h=>by
  unfold nk at h;have a:i∈nk v (k+1) r->∃(j:Nat) (d:Sy.aT),i=((k+j:Nat))/\(c::r)[j]? =some d/\ev v d.2.1=1:=λh=>by obtain ⟨j,d,g,f,e⟩:=ae4 h;exact ⟨j+1,d,by omega,by simpa using f,e⟩
  by_cases b:ev v c.2.1=1
  .rw [du b] at h;rcases List.mem_cons.1 h with rfl|h
   .exact ⟨0,c,rfl,rfl,b⟩
   .exact a h
  grind
theorem Vv(v:zl)(cmds:List Sy.aT):∀(r pre:List Sy.aT),cmds=pre++r->(nk v pre.length r).map (fq cmds v)=goes v r
 |[],pre,h=>rfl
 |c::r,pre,h=>by
  have ih:=Vv v cmds r (pre++[c]) (by rw [h];simp);rw [show (pre++[c]).length=pre.length+1 by simp] at ih;unfold nk goes enC;rw [tj];by_cases a:ev v c.2.1=1
  .rw [du a,du (by simpa using a),e9,e9,ih];unfold fq;rw [show ((pre.length:Int)).toNat=pre.length from rfl,show cmds[pre.length]? =some c by rw [h];simp];rfl
  .rw [dk a,dk (by simpa using a),ih];rfl
theorem al7{w:zl}{cmds:List Sy.aT}(h:w∈goes v cmds):w.length=v.length:=by obtain ⟨c,_,rfl⟩:=List.mem_map.1 h;exact MI v c
theorem anY(v:zl)(cmds:List Sy.aT):(goes v cmds).length<=cmds.length:=by grind [goes,enC,List.length_map,List.length_filter_le]
theorem ajL{cmds:List Sy.aT}{i:Int}(h:i∈nk v 0 cmds):0<=i/\i<cmds.length:=by obtain ⟨j,c,rfl,a,_⟩:=ae4 h;grind
theorem Rv{S:xb}{cmds:List Sy.aT}(b:sH S v):∀w∈(fa S cmds v).1,sH S w:=by
 intro w a;unfold fa Pb at a;split at a
 .grind
 .cases ha:(goes v cmds).all (fits S) <;> rw [ha] at a
  .cases a
  .rcases nt.1 a with h|h
   .cases h
   .exact ⟨by rw [al7 h];exact b.len,List.all_eq_true.1 ha w h⟩
theorem Oi{S:xb}{cmds:List Sy.aT}(v:zl):(fa S cmds v).1.length<=cmds.length+1:=by grind [fa,Pb,goes,fits,sb,anY]
end Sp
namespace Sp
theorem ak6{S:xb}{C:List Sy.aT}(hm:SafeS S C)(c:sH S v){l:w8}{at_:Option (List (aE×Bool))}(f:Seen l at_)(k:w8->Option (List (aE×Bool))->Option (w8×Int))(hk:∀l a,k l a=some (l,0)):
  (bif ((List.length l:Int)==0) then ((bz v).bind λd=>(oA d l at_).bind λb=>k b.1 b.2) else some (l,0))=some (if l=[] then [v] else l,0):=by
 by_cases h:l=[]
 .subst h;rw [show ((List.length ([]):Int)==0)=true from rfl,ca,R6 v (c.short hm),ah];obtain ⟨i,g,_⟩:=add_eq (c.i64 hm) (c.short hm) (c.ne hm) (by simp) f;rw [g,ah,hk];rfl
 .have e:((List.length l)==0)=false:=by simp_all
  grind
theorem Ch(m:Sy.bk)(v:zl)(hm:SafeS m.2.1 m.2.2.2.2)(b:sH m.2.1 v)(L:zl)(p:∀i∈L,0<=i/\i<m.2.2.2.2.length)(g:L.length<=300):
  ∀(r pre:zl),L=pre++r->∀(c:Int) (l:w8) (at_:Option (List (aE×Bool))) (M:Nat),Seen l at_->l.length<=pre.length->r.length<M->
   aj (y7 v (m.1,m.2.1,m.2.2.1,m.2.2.2.1,m.2.2.2.2,v) L) M ((pre.length:Int),c,l,at_)=
    some (if (r.map (fq m.2.2.2.2 v)).all (fits m.2.1)=true then (if dm l (r.map (fq m.2.2.2.2 v))=[] then [v] else dm l (r.map (fq m.2.2.2.2 v)),0) else ([],6))
 |[],pre,h,c,l,at_,M,hs,hl,hM=>by
  obtain ⟨k,rfl⟩:∃k,M=k+1:=⟨M-1,by omega⟩;rw [ao];simp only [y7,Sy.uS h];exact ak6 hm b hs (λl _=>some (l,0)) (λ_ _=>rfl)
 |i::r,pre,h,c,l,at_,M,hs,hl,hM=>by
  obtain ⟨k,rfl⟩:∃k,M=k+1:=⟨M-1,by omega⟩;rw [ao];have o:pre.length+r.length+1=L.length:=by rw [h];simp;omega
  obtain ⟨e,d⟩:=p i (by rw [h];simp);simp only [y7,Sy.vg h,ca,Sy.lr h,ah,iN];rw [show (m.1,m.2.1,m.2.2.1,m.2.2.2.1,m.2.2.2.2)=m from rfl,aoS hm b.len i];unfold O1;rw [dk (by omega),ah];unfold fin;rw [e9,qp];obtain ⟨x,_,t⟩:=sM m.2.2.2.2 i e d;have f:(fq m.2.2.2.2 v i).length=m.2.1.length:=by unfold fq;rw [t,<-b.len];exact MI v x
  cases s:fits m.2.1 (fq m.2.2.2.2 v i)
  .grind
  .have a:sH m.2.1 (fq m.2.2.2.2 v i):=⟨f,s⟩;obtain ⟨j,w,u⟩:=add_eq (a.i64 hm) (a.short hm) (a.ne hm) (by omega) hs;have q:=FK l (fq m.2.2.2.2 v i);have n:=Ch m v hm b L p g r (pre++[i]) (by rw [h];simp) c (iy l (fq m.2.2.2.2 v i)) j k u (by simp;omega) (by simp at hM;omega);rw [show ((pre++[i]).length)=((pre.length+1:Nat)) by simp] at n;rw [ca,show ((0:Int) != 0)=false from rfl,b7];simp only [w,ah,Pa.bP (show pre.length<4611686018427387904 by omega)];rw [n,fj];rfl
theorem ap8{m:Sy.bk}(hm:SafeS m.2.1 m.2.2.2.2)(h:sH m.2.1 v):GH m v=some (fa m.2.1 m.2.2.2.2 v):=by
 have b:(nk v 0 m.2.2.2.2).length<=300:=by rw [I9];have:=qV (λc:Sy.aT=>decide (ev v c.2.1=1)) m.2.2.2.2;have:=hm.cmds;unfold enC;omega
 have f:=Ch m v hm h (nk v 0 m.2.2.2.2) (λi hi=>ajL hi) b (nk v 0 m.2.2.2.2) [] rfl 0 [] none an amb (cK _) (by show _<2^64;omega);have a:(nk v 0 m.2.2.2.2).map (fq m.2.2.2.2 v)=goes v m.2.2.2.2:=Vv v m.2.2.2.2 m.2.2.2.2 [] rfl;rw [a] at f;unfold GH K0;rw [ah];rw [show (m.1,m.2.1,m.2.2.1,m.2.2.2.1,m.2.2.2.2)=m from rfl,asG hm,ah];rw [show ((([]:zl).length):Int)=0 from rfl] at f;rw [f];unfold fa Pb;cases ha:(goes v m.2.2.2.2).all (fits m.2.1)
 .grind
 .rw [du rfl,ca];by_cases d:goes v m.2.2.2.2=[]
  .rw [du d,du (by rw [d];rfl)]
  .rw [dk d,dk];intro e;cases g:goes v m.2.2.2.2 with
   |nil=>exact d g
   |cons x r=>
    have:x∈dm [] (x::r):=nt.2 (.inr (by simp));grind
end Sp
end
end Go.Proofs.YtcgihjbfppkcfaaGreatDoor
