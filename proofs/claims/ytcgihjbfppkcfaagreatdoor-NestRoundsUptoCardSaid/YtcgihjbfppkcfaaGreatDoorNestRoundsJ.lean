/-
  Own texts for the statement NestRounds, cut down to what it needs: TrA, TrPa, TrSys, TrPb, TrGen, TrRKey, TrRRead, TrRLine, TrRType, TrRSys, TrRSys2, TrRSys3, ExprLex, TrRSys4, SysT, TrToks, StA, TrEval, StB1, StN. (cut and joined by a program)
-/
import Derived.Test.YtcgihjbfppkcfaaGreatDoorNestRoundsI
set_option linter.unusedVariables false
set_option linter.unusedSimpArgs false
set_option linter.unusedSectionVars false
namespace Go.Proofs.YtcgihjbfppkcfaaGreatDoor
open IntKind (i64)
noncomputable section
theorem oD(e:Ex):1<=e.sz:=by rw [Ex.aeY];omega
theorem ahH{x:Ex}:∀{l:List Ex},x∈l->x.sz<=xk l
 |y::l,h=>by
  simp [xk];rcases List.mem_cons.1 h with rfl|h
  .omega
  .have:=ahH h;omega
theorem adv:∀(l:List Ex),l.length<=xk l
 |[]=>cH _
 |x::l=>by have:=adv l;grind [oD,xk,List.length_cons]
theorem my{e x:Ex}(h:x∈e.l):x.sz<e.sz:=by have:=ahH h;rw [Ex.aeY e];omega
theorem yt(e:Ex):e.l.length<e.sz:=by grind [adv,Ex.aeY]
theorem ah{α ρ:Type}(x:α)(k:α->Option ρ):(some x).bind k=k x:=rfl
theorem aM{α ρ:Type}(x:α)(k:α->Option ρ):ai x k=k x:=rfl
theorem dU{α ρ:Type}(d:α)(m:Option α)(k:α->Option ρ):bC true d m k=m.bind k:=rfl
theorem rD{α ρ:Type}(d:α)(m:Option α)(k:α->Option ρ):bC false d m k=k d:=rfl
theorem n7{l pre r:List Ex}{x:Ex}(h:l=pre++x::r):idx l (pre.length:Int)=some x:=by subst h;simp [idx]
theorem mG{n:Nat}(h:n<4611686018427387904):i64.wrap ((n:Int)+1)=((n+1:Nat):Int):=by grind [bG]
theorem kL{l pre r:List Ex}{x:Ex}(h:l=pre++x::r):decide ((pre.length:Int)<(List.length l:Int))=true:=by subst h;simp;omega
theorem vk{l pre:List Ex}(h:l=pre++[]):decide ((pre.length:Int)<(List.length l:Int))=false:=by subst h;simp
def arV(op a:Int)(i b t:Bool):Int×Int×Int:=
 bif decide (op<=6)&&i then (1,0,0)
 else bif decide (6<op)&&decide (op<=12)&&i||op==13||op==14||decide (15<=op)&&decide (op<=19)&&b then (2,0,0)
 else bif decide (15<=op)&&t then (3,0,0) else (0,4,a)
mutual
def ty:Ex->Int×Int×Int
 | .mk op _ a l=>tyA op a l true true true
def tyA(op a:Int):List Ex->Bool->Bool->Bool->Int×Int×Int
 |[],i,b,t=>arV op a i b t
 |x::r,i,b,t=>bif (ty x).2.1 != 0 then (0,(ty x).2.1,(ty x).2.2) else tyA op a r (i&&(ty x).1==1) (b&&(ty x).1==2) (t&&(ty x).1 != 1)
end
def oH(op:Int):Int:=bif op==1||op==2||op==13||op==14 then 0 else bif op==6||op==15||op==20||op==21||op==22 then 1 else 2
def vj(op n len want vars:Int):Bool:=
 !(decide (op<1)||decide (24<op)||len != want)&& !((op==1)&&(decide (n<0)||decide (1073741824<n))||(op==2)&&(decide (n<0)||decide (vars<=n))||decide (2<op)&&n != 0)
mutual
def fp(vars:Int):Ex->Bool
 | .mk op n _ l=>vj op n (l.length:Int) (oH op) vars&&vr vars l
def vr(vars:Int):List Ex->Bool
 |[]=>true
 |x::r=>fp vars x&&vr vars r
end
theorem V1(a:Int)(e:Ex):fp a e=(vj e.op e.n (e.l.length:Int) (oH e.op) a&&vr a e.l):=by cases e;simp [fp,Ex.op,Ex.n,Ex.l]
def tr(b:Bool):Int:=bif b then 1 else 0
def Py(op n:Int)(v:zj)(a b:Int):Int:=
 bif op==1 then n else bif op==2 then (bif decide (n<0)||decide ((List.length v:Int)<=n) then 0 else v.getD n.toNat 0)
 else bif op==3 then i64.wrap (a+b) else bif op==5 then i64.wrap (a*b) else bif op==6 then i64.wrap (0-a) else bif op==4 then i64.wrap (a-b)
 else bif op==8 then tr ((a==b) != true) else bif op==7 then tr ((a==b) != false) else bif op==19 then tr ((a==b) != false)
 else bif op==12 then tr (decide (a<b) != true) else bif op==9 then tr (decide (a<b) != false) else bif op==11 then tr (decide (a<=b) != true) else bif op==10 then tr (decide (a<=b) != false)
 else bif op==13 then 1 else bif op==15 then i64.wrap (1-a) else bif op==16 then i64.wrap (a*b) else bif op==17 then max a b else bif op==18 then max (i64.wrap (1-a)) b else 0
mutual
def ev(v:zj):Ex->Int
 | .mk op n _ l=>Py op n v (Cv v l) (Fk v l)
def Cv(v:zj):List Ex->Int
 |[]=>0
 |x::_=>ev v x
def Fk(v:zj):List Ex->Int
 |[]=>0
 |_::r=>Cv v r
end
theorem ae6(v:zj)(e:Ex):ev v e=Py e.op e.n v (Cv v e.l) (Fk v e.l):=by cases e;simp [ev,Ex.op,Ex.n,Ex.l]
def Om(op a len i b t:Int):Int×Int×Int:=
 bif decide (op<=6)&&(i==len) then (1,0,0)
 else bif decide (7<=op)&&decide (op<=12)&&(i==len)||op==13||op==14 then (2,0,0)
 else bif decide (15<=op)&&decide (op<=19)&&(b==len) then (2,0,0)
 else bif decide (15<=op)&&(b+t==len) then (3,0,0) else (0,4,a)
mutual
def rt:Ex->Int×Int×Int
 | .mk op _ a l=>s9 op a (l.length:Int) l 0 0 0
def s9(op a len:Int):List Ex->Int->Int->Int->Int×Int×Int
 |[],i,b,t=>Om op a len i b t
 |x::r,i,b,t=>bif (rt x).2.1 != 0 then (0,(rt x).2.1,(rt x).2.2) else s9 op a len r (bif (rt x).1==1 then i+1 else i) (bif (rt x).1==2 then b+1 else b) (bif (rt x).1==3 then t+1 else t)
end
theorem rt_eq(e:Ex):rt e=s9 e.op e.at_ (e.l.length:Int) e.l 0 0 0:=by cases e;simp [rt,Ex.op,Ex.at_,Ex.l]
theorem apc{α ρ:Type}(g:Bool)(d v:α)(k:α->Option ρ):bC g d (some v) k=k (bif g then v else d):=by cases g <;> rfl
theorem Oq(op a len:Int):∀(l:List Ex) (i b t:Int),(s9 op a len l i b t).1=2->7<=op/\op<=19
 |[],i,b,t,h=>by
  simp [s9,Om] at h;grind
 |x::r,i,b,t,h=>by
  simp [s9] at h;cases c:((rt x).2.1 != 0)
  .rw [c] at h;exact Oq op a len r _ _ _ h
  grind
theorem Y8(op a len:Int)(e:15<=op)(d:op<=19):∀(l:List Ex) (i b t:Int),b+l.length<len->(s9 op a len l i b t).1≠2
 |[],i,b,t,hb,h=>by
  simp [s9,Om] at h;grind
 |x::r,i,b,t,hb,h=>by
  simp [s9] at h;cases c:((rt x).2.1 != 0)
  .rw [c] at h;refine Y8 op a len e d r _ _ _ ?_ h;grind
  grind
theorem Ot(op a len:Int)(e:15<=op)(d:op<=19):∀(l:List Ex) (i b t:Int),b+l.length<=len->(s9 op a len l i b t).1=2->∀x∈l,(rt x).1=2/\(rt x).2.1=0
 |[],_,_,_,_,_,x,hx=>by cases hx
 |y::r,i,b,t,hb,h,x,hx=>by
  simp [s9] at h;cases c:((rt y).2.1 != 0)
  .rw [c] at h;cases f:((rt y).1==2)
   .exact absurd h (Y8 op a len e d r _ _ _ (by grind))
   .rcases List.mem_cons.1 hx with rfl|hx
    .grind
    .exact Ot op a len e d r _ _ _ (by grind) h x hx
  grind
theorem Qn(b:Bool):tr b=0\/tr b=1:=by cases b;exact .inl rfl;exact .inr rfl
theorem apT(v:zj){l:List Ex}(h:∀x∈l,ev v x=0\/ev v x=1):(Cv v l=0\/Cv v l=1)/\(Fk v l=0\/Fk v l=1):=by
 match l,h with
 |[],_=>grind [Cv,Fk]
 |[x],h=>grind [Cv,Fk]
 |x::y::r,h=>grind [Cv,Fk]
theorem arS(op n:Int)(v:zj)(a b:Int)(e:7<=op)(d:op<=19)(c:15<=op->(a=0\/a=1)/\(b=0\/b=1)):Py op n v a b=0\/Py op n v a b=1:=by
 have:op=7\/op=8\/op=9\/op=10\/op=11\/op=12\/op=13\/op=14\/op=15\/op=16\/op=17\/op=18\/op=19:=by omega
 rcases this with rfl|rfl|rfl|rfl|rfl|rfl|rfl|rfl|rfl|rfl|rfl|rfl|rfl
 .exact Qn _
 .exact Qn _
 .exact Qn _
 .exact Qn _
 .exact Qn _
 .exact Qn _
 .exact .inr rfl
 .exact .inl rfl
 .obtain ⟨ha,_⟩:=c (by omega);rcases ha with rfl|rfl
  .exact .inr rfl
  .exact .inl rfl
 .obtain ⟨ha,hb⟩:=c (by omega);rcases ha with rfl|rfl <;> rcases hb with rfl|rfl
  .exact .inl rfl
  .exact .inl rfl
  .exact .inl rfl
  .exact .inr rfl
 .obtain ⟨ha,hb⟩:=c (by omega);rcases ha with rfl|rfl <;> rcases hb with rfl|rfl
  .exact .inl rfl
  .exact .inr rfl
  .exact .inr rfl
  .exact .inr rfl
 .obtain ⟨ha,hb⟩:=c (by omega);rcases ha with rfl|rfl <;> rcases hb with rfl|rfl
  .exact .inr rfl
  .exact .inr rfl
  .exact .inl rfl
  .exact .inr rfl
 .exact Qn _
theorem aqJ(v:zj):∀(N:Nat) (e:Ex),e.sz<=N->(rt e).1=2->ev v e=0\/ev v e=1:=by
 intro N
 induction N with
 |zero=>grind [oD]
 |succ N ih=>
  intro e h b;rw [rt_eq] at b;obtain ⟨d,a⟩:=Oq _ _ _ _ _ _ _ b;rw [ae6];refine arS _ _ _ _ _ d a (λc=>apT v (λx hx=>?_));have:=Ot _ _ _ c a _ _ _ _ (by omega) b x hx;exact ih x (by have:=my hx;omega) this.1
theorem MS{a:Int}{e:Ex}(h:fp a e=true):(1<=e.op/\e.op<=24)/\(e.l.length:Int)=oH e.op/\(e.op=1->0<=e.n/\e.n<=1073741824)/\(e.op=2->0<=e.n/\e.n<a)/\∀x∈e.l,fp a x=true:=by
 rw [V1] at h;simp [vj,ar,mm,nA,qi,bne_eq_false_iff_eq,Bool.and_eq_false_imp,mN] at h;obtain ⟨⟨⟨⟨i,g⟩,c⟩,⟨f,d⟩,_⟩,b⟩:=h;refine ⟨by omega,c,λh=>by omega,λh=>by omega,?_⟩;have:∀(l:List Ex),vr a l=true->∀x∈l,fp a x=true:=λl=>by
  induction l with
  |nil=>intro _ x hx;cases hx
  |cons y r ih=>
   intro h x hx;simp [vr] at h;grind
 exact this _ b
theorem aee(op a len:Int)(c:op<=12):∀(l:List Ex) (i b t:Int),i+l.length<len->(s9 op a len l i b t).1=0
 |[],i,b,t,hb=>by
  simp [s9,Om];grind
 |x::r,i,b,t,hb=>by
  simp [s9];cases ((rt x).2.1 != 0)
  .refine aee op a len c r _ _ _ ?_;grind
  .rfl
theorem aam(op a len:Int)(d:op<=12):∀(l:List Ex) (i b t:Int),i+l.length<=len->(s9 op a len l i b t).1≠0->∀x∈l,(rt x).1=1
 |[],_,_,_,_,_,x,hx=>by cases hx
 |y::r,i,b,t,hb,h,x,hx=>by
  simp [s9] at h;cases c:((rt y).2.1 != 0)
  .rw [c] at h;cases e:((rt y).1==1)
   .exact absurd (aee op a len d r _ _ _ (by grind)) h
   .rcases List.mem_cons.1 hx with rfl|hx
    .simpa using e
    .exact aam op a len d r _ _ _ (by grind) h x hx
  grind
theorem UU(op a len:Int):∀(l:List Ex) (i b t:Int),(s9 op a len l i b t).1=1->op<=6
 |[],i,b,t,h=>by
  simp [s9,Om] at h;grind
 |x::r,i,b,t,h=>by
  simp [s9] at h;cases c:((rt x).2.1 != 0)
  .rw [c] at h;exact UU op a len r _ _ _ h
  grind
theorem ach{a:Int}{e:Ex}(hm:fp a e=true)(h:(rt e).1=1\/(rt e).1=2):∀x∈e.l,(rt x).1=1\/(rt x).1=2:=by
 intro x hx;obtain ⟨_,g,_⟩:=MS hm;rw [rt_eq] at h;by_cases d:e.op<=12
 .exact .inl (aam e.op e.at_ (e.l.length) d e.l 0 0 0 (by omega) (by grind) x hx)
 .have f:(s9 e.op e.at_ (e.l.length) e.l 0 0 0).1=2:=by
   rcases h with h|h
   .have:=UU _ _ _ _ _ _ _ h;omega
   .exact h
  have b:=Oq _ _ _ _ _ _ _ f;by_cases c:15<=e.op
  .exact .inr (Ot _ _ _ c b.2 _ _ _ _ (by omega) f x hx).1
  grind [oH,List.eq_nil_of_length_eq_zero]
variable {d : Int}
def x4:List aE:=[[116,114,117,101],[102,97,108,115,101],[88],[70],[71],[85],[82],[118,97,114],[112,114,111,99]]
def ap4:List aE:=[[],[],[],[43],[45],[42],[45],[61,61],[33,61],[60],[60,61],[62],[62,61],[116,114,117,101],[102,97,108,115,101],[33],[38],[124],[45,62],[60,45,62],[88],[70],[71],[85],[82]]
def bQ(op:Int):aE:=ap4.getD op.toNat []
namespace Pa
abbrev Tok:=Int×aE×Int×Int
abbrev Out:=Except (Int×Int) (Ex×List Tok)
def key(s:aE):Bool:=x4.contains s
def y8(t:Tok):Bool:=t.1==3||(t.1==1&&key t.2.1)
def ops:Nat->zj
 |1=>[19]
 |2=>[18]
 |3=>[17]
 |4=>[16]
 |5=>[23,24]
 |6=>[15,20,21,22]
 |7=>[7,8,9,10,11,12]
 |8=>[3,4]
 |9=>[5]
 |10=>[6]
 |11=>[13,14]
 |_=>[]
def Cr(l:zj)(t:Tok):zb:=bif y8 t then l.find? (λo=>bQ o==t.2.1) else none
def dA(s:Nat)(t:Tok):zb:=Cr (ops s) t
def kd:Nat->Nat
 |6=>0
 |10=>0
 |1=>1
 |2=>1
 |5=>1
 |7=>1
 |3=>2
 |4=>2
 |8=>2
 |9=>2
 |11=>3
 |_=>4
def AX(s:Nat):Bool:=s==1||s==2||s==5||s==6||s==10
def dn(s:Nat)(d:Int):Int:=bif AX s then d+1 else d
def sb(s:Nat)(d:Int):Bool:=AX s&&decide (320<=d)
def nx(s:Nat):Nat:=bif s==7 then 8 else s
def at_(names:List aE)(v:aE):zc:=names.findIdx? (λx=>v==x)
def open_(t:Tok):Bool:=t.1==3&&t.2.1==[40]
def close_(t:Tok):Bool:=t.1==3&&t.2.1==[41]
def CI(t:Tok):Bool:=t.1==1&& !key t.2.1
def apX(k:Int)(a:Int)(r:Out):Out:=r.map λp=>(.mk k 0 a [p.1],p.2)
def arz(k:Int)(a:Int)(x:Ex)(r:Out):Out:=r.map λp=>(.mk k 0 a [x,p.1],p.2)
inductive Cz where
 |line (s:Nat)
 |loop (s:Nat) (a:Ex)
open Cz
inductive P(names:List aE):Cz->Int->List Tok->Out->Prop
 |tR {s d t ts}:sb s d=true->P names (line s) d (t::ts) (.error (9,t.2.2.2))
 |pre {s d t ts k r}:kd s=0->sb s d=false->dA s t=some k->P names (line s) (dn s d) ts r->P names (line s) d (t::ts) (apX k t.2.2.2 r)
 |other {s d t ts r}:kd s=0->sb s d=false->dA s t=none->P names (line (s+1)) (dn s d) (t::ts) r->P names (line s) d (t::ts) r
 |rErr {s d ts e}:kd s=1->sb s d=false->P names (line (s+1)) (dn s d) ts (.error e)->P names (line s) d ts (.error e)
 |rOne {s d ts a t ts'}:kd s=1->sb s d=false->P names (line (s+1)) (dn s d) ts (.ok (a,t::ts'))->dA s t=none->P names (line s) d ts (.ok (a,t::ts'))
 |rTwo {s d ts a t ts' k r}:kd s=1->sb s d=false->P names (line (s+1)) (dn s d) ts (.ok (a,t::ts'))->dA s t=some k->P names (line (nx s)) (dn s d) ts' r->P names (line s) d ts (arz k t.2.2.2 a r)
 |lErr {s d ts e}:kd s=2->P names (line (s+1)) d ts (.error e)->P names (line s) d ts (.error e)
 |lGo {s d ts a ts' r}:kd s=2->P names (line (s+1)) d ts (.ok (a,ts'))->P names (loop s a) d ts' r->P names (line s) d ts r
 |lpEnd {s a d t ts}:dA s t=none->P names (loop s a) d (t::ts) (.ok (a,t::ts))
 |lpErr {s a d t ts k e}:dA s t=some k->P names (line (s+1)) d ts (.error e)->P names (loop s a) d (t::ts) (.error e)
 |lpGo {s a d t ts k b ts' r}:dA s t=some k->P names (line (s+1)) d ts (.ok (b,ts'))->P names (loop s (.mk k 0 t.2.2.2 [a,b])) d ts' r->P names (loop s a) d (t::ts) r
 |oWord {s d t ts k}:kd s=3->dA s t=some k->P names (line s) d (t::ts) (.ok (.mk k 0 t.2.2.2 [],ts))
 |oNum {s d t ts}:kd s=3->dA s t=none->(t.1==2)=true->P names (line s) d (t::ts) (.ok (.mk 1 t.2.2.1 t.2.2.2 [],ts))
 |oVar {s d t ts i}:kd s=3->dA s t=none->(t.1==2)=false->CI t=true->at_ names t.2.1=some i->P names (line s) d (t::ts) (.ok (.mk 2 (i:Int) t.2.2.2 [],ts))
 |oName {s d t ts}:kd s=3->dA s t=none->(t.1==2)=false->CI t=true->at_ names t.2.1=none->P names (line s) d (t::ts) (.error (3,t.2.2.2))
 |oOpen {s d t ts a c ts'}:kd s=3->dA s t=none->(t.1==2)=false->CI t=false->open_ t=true->P names (line 1) d ts (.ok (a,c::ts'))->close_ c=true->P names (line s) d (t::ts) (.ok (a,ts'))
 |oErr {s d t ts e}:kd s=3->dA s t=none->(t.1==2)=false->CI t=false->open_ t=true->P names (line 1) d ts (.error e)->P names (line s) d (t::ts) (.error e)
 |oClose {s d t ts a c ts'}:kd s=3->dA s t=none->(t.1==2)=false->CI t=false->open_ t=true->P names (line 1) d ts (.ok (a,c::ts'))->close_ c=false->P names (line s) d (t::ts) (.error (2,c.2.2.2))
 |oForm {s d t ts}:kd s=3->dA s t=none->(t.1==2)=false->CI t=false->open_ t=false->P names (line s) d (t::ts) (.error (2,t.2.2.2))
theorem rq{s:Nat}(h:sb s d=true):kd s=0\/kd s=1:=by unfold sb AX at h;simp at h;rcases h.1 with (((rfl|rfl)|rfl)|rfl)|rfl <;> simp [kd]
theorem P.det{names:List aE}{j:Cz}{n:List Tok}{r l:Out}(h:P names j d n r)(b:P names j d n l):r=l:=by
 induction h generalizing l with
 |tR a=>have:=rq a;cases b <;> simp_all
 |pre a c f e ih=>cases b <;> simp_all <;> (rename_i g;rw [ih g])
 |other a c f e ih=>
  cases b with
  |other _ _ _ h=>exact ih h
  |_=>simp_all
 |rErr a c f ih=>
  cases b with
  |rErr _ _ h=>exact ih h
  |rOne _ _ h=>cases ih h
  |rTwo _ _ h=>cases ih h
  |_=>simp_all
 |rOne a c f e ih=>
  cases b with
  |rErr _ _ h=>cases ih h
  |rOne _ _ h=>exact ih h
  |rTwo _ _ h g=>cases ih h;simp_all
  |_=>simp_all
 |rTwo a c f e g ih i=>
  cases b with
  |rErr _ _ h=>cases ih h
  |rOne _ _ h=>cases ih h;simp_all
  |rTwo _ _ h k m=>cases ih h;rw [e] at k;cases k;rw [i m]
  |_=>simp_all
 |lErr a c ih=>
  cases b with
  |lErr _ h=>exact ih h
  |lGo _ h=>cases ih h
  |tR h=>have:=rq h;simp_all
  |_=>simp_all
 |lGo a c f ih i=>
  cases b with
  |lErr _ h=>cases ih h
  |lGo _ h e=>cases ih h;exact i e
  |tR h=>have:=rq h;simp_all
  |_=>simp_all
 |lpEnd a=>cases b <;> simp_all
 |lpErr a c ih=>
  cases b with
  |lpErr _ h=>exact ih h
  |lpGo _ h=>cases ih h
  |_=>simp_all
 |lpGo a c f ih i=>
  cases b with
  |lpErr _ h=>cases ih h
  |lpGo g h e=>cases ih h;rw [a] at g;cases g;exact i e
  |_=>simp_all
 |oOpen a c f e g k m ih=>
  cases b with
  |oOpen _ _ _ _ _ h _=>cases ih h;rfl
  |oErr _ _ _ _ _ h=>cases ih h
  |oClose _ _ _ _ _ h o=>cases ih h;simp_all
  |tR h=>have:=rq h;simp_all
  |_=>simp_all
 |oErr a c f e g k ih=>
  cases b with
  |oOpen _ _ _ _ _ h _=>cases ih h
  |oErr _ _ _ _ _ h=>exact ih h
  |oClose _ _ _ _ _ h o=>cases ih h
  |tR h=>have:=rq h;simp_all
  |_=>simp_all
 |oClose a c f e g k m ih=>
  cases b with
  |oOpen _ _ _ _ _ h _=>cases ih h;simp_all
  |oErr _ _ _ _ _ h=>cases ih h
  |oClose _ _ _ _ _ h o=>cases ih h;rfl
  |tR h=>have:=rq h;simp_all
  |_=>simp_all
 |oWord a c=>cases b <;> first|(rename_i h;have:=rq h;simp_all;done)|simp_all
 |oNum a c f=>cases b <;> first|grind [rq]|simp_all
 |oVar a c f e g=>cases b <;> first|grind [rq]|simp_all
 |oName a c f e g=>cases b <;> first|grind [rq]|simp_all
 |oForm a c f e g=>cases b <;> first|grind [rq]|simp_all
def Ends:List Tok->Prop
 |[]=>False
 |t::ts=>Ends ts\/(ts=[]/\t.1=4)
theorem Ends.tail{t:Tok}{a:List Tok}(h:Ends (t::a))(b:t.1≠4):Ends a:=by
 rcases h with h|⟨_,h⟩
 .exact h
 .exact absurd h b
theorem Ends.ne{a:List Tok}(h:Ends a):∃t r,a=t::r:=by
 cases a with
 |nil=>exact h.elim
 |cons t r=>exact ⟨t,r,rfl⟩
theorem aqz{t:Tok}(h:y8 t=true):t.1≠4:=by grind [y8]
theorem aoP{l:zj}{t:Tok}{k:Int}(h:Cr l t=some k):y8 t=true:=by grind [Cr,y8]
theorem aq3{l:zj}{t:Tok}{k:Int}(h:Cr l t=some k):t.1≠4:=aqz (aoP h)
theorem Gs{s:Nat}{t:Tok}{k:Int}(h:dA s t=some k):t.1≠4:=aq3 h
def shorter:Cz->Nat->Nat->Prop
 |line _,a,b=>a<b
 |loop _ _,a,b=>a<=b
theorem P.ends{names:List aE}{j:Cz}{m:List Tok}{r:Out}(h:P names j d m r):Ends m->∀p,r= .ok p->Ends p.2/\shorter j p.2.length m.length:=by
 induction h with
 |tR=>intro _ p h;cases h
 | @pre s d t m k r c f g l ih=>
  intro b p h;cases r with
  |error e=>cases h
  |ok q=>
   obtain ⟨n,o⟩:=ih (b.tail (Gs g)) q rfl;cases h;grind [shorter,List.length_cons]
 |other c f g l ih=>intro b p h;exact ih b p h
 |rErr=>intro _ p h;cases h
 |rOne c f g l ih=>intro b p h;exact ih b p h
 | @rTwo s d m a t ts' k r c f g l u ih i=>
  intro b p h;cases r with
  |error e=>cases h
  |ok q=>
   obtain ⟨n,o⟩:=ih b _ rfl;obtain ⟨w,v⟩:=i (n.tail (Gs l)) q rfl;cases h;grind [shorter,List.length_cons]
 |lErr=>intro _ p h;cases h
 |lGo c f g ih i=>
  grind [shorter]
 |lpEnd c=>intro b p h;cases h;exact ⟨b,cH _⟩
 |lpErr=>intro _ p h;cases h
 |lpGo c f g ih i=>
  intro b p h;obtain ⟨n,o⟩:=ih (b.tail (Gs c)) _ rfl;grind [shorter,List.length_cons]
 |oWord c f=>intro b p h;cases h;exact ⟨b.tail (Gs f),ko _⟩
 |oNum c f g=>intro b p h;cases h;exact ⟨b.tail (by grind),ko _⟩
 |oVar c f g l u=>intro b p h;cases h;exact ⟨b.tail (by simp_all [CI,ar]),ko _⟩
 |oName=>intro _ p h;cases h
 |oOpen c f g l u y x ih=>
  intro b p h;cases h;obtain ⟨n,o⟩:=ih (b.tail (by simp_all [open_,ar])) _ rfl;refine ⟨n.tail (by simp_all [close_,ar]),?_⟩;grind [shorter,List.length_cons]
 |oErr=>intro _ p h;cases h
 |oClose=>intro _ p h;cases h
 |oForm=>intro _ p h;cases h
theorem P.err{names:List aE}{j:Cz}{b:List Tok}{r:Out}(h:P names j d b r):∀e,r= .error e->e.1=9\/e.1=2\/e.1=3:=by
 induction h with
 |tR=>grind
 | @pre s d t b k r i g f c ih=>
  intro e h;cases r with
  |error e'=>cases h;exact ih _ rfl
  |ok q=>cases h
 |other i g f c ih=>exact ih
 |rErr _ _ _ ih=>exact ih
 |rOne=>intro e h;cases h
 | @rTwo s d b a t ts' k r i g f c h4 ih ih2=>
  intro e h;cases r with
  |error e'=>cases h;exact ih2 _ rfl
  |ok q=>cases h
 |lErr _ _ ih=>exact ih
 |lGo _ _ _ _ ih=>exact ih
 |lpEnd=>intro e h;cases h
 |lpErr _ _ ih=>exact ih
 |lpGo _ _ _ _ ih=>exact ih
 |oWord=>intro e h;cases h
 |oNum=>intro e h;cases h
 |oVar=>intro e h;cases h
 |oName=>grind
 |oOpen=>intro e h;cases h
 |oErr _ _ _ _ _ _ ih=>exact ih
 |oClose=>grind
 |oForm=>grind
end Pa
namespace Sy
open Pa
abbrev aT:=Int×Ex×List (Int×Ex)
abbrev bw:=List aE×w5×zj×List aE×List aT
abbrev iy:=Int×Int
def GN(names:List aE)(ts:List Tok):Out:=
 open Classical in if h :∃r, P names (.line 1) 0 ts r then Classical.choose h else .error (2, 0)
theorem al4{names:List aE}{a:List Tok}{r:Out}(h:P names (.line 1) 0 a r):GN names a=r:=by unfold GN;rw [tA ⟨r,h⟩];exact (Classical.choose_spec (⟨r,h⟩)).det h
theorem ams{names:List aE}{a:List Tok}{p:Ex×List Tok}(h:GN names a= .ok p):P names (.line 1) 0 a (.ok p):=by
 unfold GN at h;split at h
 .grind
 .cases h
def Ad(k:Int)(x:aE)(t:Tok):Bool:=(t.1==k)&&(t.2.1==x)
def SK:List Tok->Int
 |[]=>0
 |t::_=>t.2.2.2
def uj(k:Int)(x:aE):List Tok->Bool
 |[]=>false
 |t::_=>Ad k x t
def cd(x:aE)(ts:List Tok):Except iy (List Tok):=match ts with
 |[]=> .error (2,0)
 |t::r=>bif Ad 3 x t then .ok r else .error (2,t.2.2.2)
def fP(full:Bool)(names procs:List aE)(ts:List Tok):Except iy (aE×List Tok):=match ts with
 |[]=> .error (2,0)
 |t::r=>bif t.1 != 1 then .error (2,t.2.2.2) else bif key t.2.1||names.contains t.2.1||procs.contains t.2.1 then .error (3,t.2.2.2) else bif full then .error (9,t.2.2.2) else .ok (t.2.1,r)
def te(neg:Bool)(ts:List Tok):Except iy (Int×List Tok):=match ts with
 |[]=> .error (2,0)
 |t::r=>bif t.1 != 2 then .error (2,t.2.2.2) else .ok (bif neg then i64.wrap (0-t.2.2.1) else t.2.2.1,r)
def gz(ts:List Tok):Except iy (Int×List Tok):=bif uj 3 [45] ts then te true ts.tail else te false ts
def nh(lo hi:Int):Bool:= !(decide (hi<lo))&& !(decide (lo< -1073741824))&& !(decide (1073741824<hi))&& !(decide (65535<i64.wrap (hi-lo)))
def rK(m:bw)(ts:List Tok):Except iy (bw×List Tok):=
 match fP (decide (16<=(m.1.length:Int))) m.1 m.2.2.2.1 ts with
 | .error e=> .error e
 | .ok (name,ts1)=>match gz ts1 with
  | .error e=> .error e
  | .ok (lo,ts2)=>match gz ts2 with
   | .error e=> .error e
   | .ok (hi,ts3)=>match gz ts3 with
    | .error e=> .error e
    | .ok (first,ts4)=>match cd [59] ts4 with
     | .error e=> .error e
     | .ok ts5=>bif !(nh lo hi)||decide (first<lo)||decide (hi<first) then .error (5,SK ts1) else .ok ((m.1++[name],m.2.1++[(lo,hi)],m.2.2.1++[first],m.2.2.2.1,m.2.2.2.2),ts5)
def eI(want:Int)(names:List aE)(ts:List Tok):Except iy (Ex×List Tok):=
 match GN names ts with
 | .error e=> .error e
 | .ok (x,r)=>bif (rt x).2.1 != 0 then .error ((rt x).2.1,(rt x).2.2) else bif (rt x).1 != want then .error (4,x.at_) else .ok (x,r)
def fc(names:List aE)(v:aE):Int:=match at_ names v with
 |some i=>(i:Int)
 |none=> -1
def Dk(acc:List (Int×Ex))(i:Int):Bool:=acc.any (λs=>s.1==i)
def fN(names:List aE):Nat->List (Int×Ex)->List Tok->Except iy (List (Int×Ex)×List Tok)
 |0,_,_=> .error (2,0)
 |f+1,acc,ts=>match ts with
  |[]=> .error (2,0)
  |t::r=>bif t.1 != 1 then .error (2,t.2.2.2) else bif decide (fc names t.2.1<0)||Dk acc (fc names t.2.1) then .error (3,t.2.2.2) else
   match cd [61] r with
   | .error e=> .error e
   | .ok r1=>match eI 1 names r1 with
    | .error e=> .error e
    | .ok (x,r2)=>bif uj 3 [44] r2 then fN names f (acc++[(fc names t.2.1,x)]) r2.tail else .ok (acc++[(fc names t.2.1,x)],r2)
def nO(m:bw)(ts:List Tok):Except iy (bw×List Tok):=
 bif decide (256<=(m.2.2.2.2.length:Int)) then .error (9,SK ts) else
 match eI 2 m.1 ts with
 | .error e=> .error e
 | .ok (g,r1)=>match cd [58] r1 with
  | .error e=> .error e
  | .ok r2=>match fN m.1 (r2.length+1) [] r2 with
   | .error e=> .error e
   | .ok (sets,r3)=>match cd [59] r3 with
    | .error e=> .error e
    | .ok r4=> .ok ((m.1,m.2.1,m.2.2.1,m.2.2.2.1,m.2.2.2.2++[(i64.wrap ((m.2.2.2.1.length:Int)-1),g,sets)]),r4)
def lW:Nat->bw->List Tok->Except iy (bw×List Tok)
 |0,_,_=> .error (2,0)
 |f+1,m,ts=>bif uj 3 [125] ts then .ok (m,ts.tail) else match nO m ts with
  | .error e=> .error e
  | .ok (m',r)=>lW f m' r
def wa(m:bw)(ts:List Tok):Except iy (bw×List Tok):=
 match fP false m.1 m.2.2.2.1 ts with
 | .error e=> .error e
 | .ok (name,r1)=>match cd [123] r1 with
  | .error e=> .error e
  | .ok r2=>lW (r2.length+1) (m.1,m.2.1,m.2.2.1,m.2.2.2.1++[name],m.2.2.2.2) r2
def pZ:Nat->bw->List Tok->Except iy bw
 |0,_,_=> .error (2,0)
 |f+1,m,ts=>match ts with
  |[]=> .error (2,0)
  |t::r=>bif t.1==4 then (bif m.1.isEmpty then .error (2,t.2.2.2) else .ok m)
   else bif Ad 1 [118,97,114] t then (match rK m r with
    | .error e=> .error e
    | .ok (m',r')=>pZ f m' r')
   else bif Ad 1 [112,114,111,99] t then (match wa m r with
    | .error e=> .error e
    | .ok (m',r')=>pZ f m' r')
   else .error (2,t.2.2.2)
def sys(l:List Tok):Except iy bw:=pZ (l.length+1) ([],[],[],[],[]) l
def QD:Except iy bw->bw×Int×Int
 | .ok m=>(m,0,0)
 | .error e=>(([],[],[],[],[]),e.1,e.2)
def iX(ts ts':List Tok):Prop:=Pa.Ends ts'/\ts'.length<ts.length
theorem abE{k:Int}{x:aE}{t:Tok}(h:Ad k x t=true)(hk:k≠4):t.1≠4:=by simp_all [Ad,ar]
theorem np{x:aE}{a r:List Tok}(c:Pa.Ends a)(h:cd x a= .ok r):iX a r:=by
 obtain ⟨t,d,rfl⟩:=c.ne;simp [cd] at h;cases b:Ad 3 x t
 .rw [b] at h;cases h
 .rw [b] at h;cases h;exact ⟨c.tail (abE b (by decide)),ko _⟩
theorem Qt{full:Bool}{names a:List aE}{c:List Tok}{p:aE×List Tok}(d:Pa.Ends c)(h:fP full names a c= .ok p):
  iX c p.2/\key p.1=false/\names.contains p.1=false/\a.contains p.1=false/\full=false:=by
 obtain ⟨t,f,rfl⟩:=d.ne;simp only [fP] at h;cases e:(t.1 != 1)
 .rw [e] at h;cases b:(key t.2.1||names.contains t.2.1||a.contains t.2.1)
  .rw [b] at h;cases full
   .cases h;simp only [nA] at b;have  :=by simpa using e
    exact ⟨⟨d.tail (by omega),ko _⟩,b.1.1,b.1.2,b.2,rfl⟩
   .cases h
  grind
 grind
theorem Zh{b:Bool}{a:List Tok}{p:Int×List Tok}(c:Pa.Ends a)(h:te b a= .ok p):iX a p.2:=by
 obtain ⟨t,e,rfl⟩:=c.ne;simp [te] at h;cases d:(t.1 != 2)
 .rw [d] at h;cases h;have  :=by simpa using d
  exact ⟨c.tail (by omega),ko _⟩
 grind
theorem oT{k:Int}{x:aE}{a:List Tok}(b:Pa.Ends a)(hk:k≠4)(h:uj k x a=true):Pa.Ends a.tail/\a.tail.length+1=a.length:=by obtain ⟨t,c,rfl⟩:=b.ne;exact ⟨b.tail (abE h hk),rfl⟩
theorem VL{a:List Tok}{p:Int×List Tok}(c:Pa.Ends a)(h:gz a= .ok p):iX a p.2:=by
 unfold gz at h;cases b:uj 3 [45] a
 .grind [Zh]
 .rw [b] at h;obtain ⟨e,g⟩:=oT c (by decide) b;obtain ⟨d,f⟩:=Zh e h;exact ⟨d,by omega⟩
theorem ui{a:Int}{names:List aE}{b:List Tok}{p:Ex×List Tok}(g:Pa.Ends b)(h:eI a names b= .ok p):
  iX b p.2/\P names (.line 1) 0 b (.ok p)/\(rt p.1).2.1=0/\(rt p.1).1=a:=by
 unfold eI at h;cases c:GN names b with
 |error e=>rw [c] at h;cases h
 |ok q=>
  obtain ⟨x,r⟩:=q;rw [c] at h;simp only at h;cases f:((rt x).2.1 != 0)
  .rw [f] at h;cases d:((rt x).1 != a)
   .rw [d] at h;cases h;have hp:=ams c;exact ⟨hp.ends g _ rfl,hp,by simpa using f,by simpa using d⟩
   grind
  grind
theorem iX.trans{a b c:List Tok}(h:iX a b)(k:iX b c):iX a c:=⟨k.1,Nat.lt_trans k.2 h.2⟩
theorem Zi{names:List aE}:∀(f:Nat) (acc:List (Int×Ex)) (a:List Tok) (p:List (Int×Ex)×List Tok),Pa.Ends a->fN names f acc a= .ok p->iX a p.2:=by
 intro f
 induction f with
 |zero=>grind [fN]
 |succ f ih=>
  intro acc a p l h;obtain ⟨t,r,rfl⟩:=l.ne;simp [fN] at h;cases j:(t.1 != 1)
  case true=>rw [j] at h;cases h
  rw [j] at h;cases n:(decide (fc names t.2.1<0)||Dk acc (fc names t.2.1))
  case true=>rw [n] at h;cases h
  rw [n] at h;have ht  :=by simpa using j
  have d:=l.tail (by omega);cases i:cd [61] r with
  |error e=>rw [i] at h;cases h
  |ok r1=>
   rw [i] at h;simp only at h;have k:=np d i;cases g:eI 1 names r1 with
   |error e=>rw [g] at h;cases h
   |ok q=>
    obtain ⟨x,r2⟩:=q;rw [g] at h;simp only at h;have b:iX r1 r2:=(ui k.1 g).1;have c:iX (t::r) r2:=⟨b.1,by have:=k.2;have:=b.2;grind⟩;cases m:uj 3 [44] r2
    .grind
    .rw [m] at h;obtain ⟨o,s⟩:=oT b.1 (by decide) m;have:=ih _ _ _ o h;exact ⟨this.1,by have:=this.2;have:=c.2;omega⟩
theorem aeK{m:bw}{c:List Tok}{p:bw×List Tok}(C:Pa.Ends c)(h:rK m c= .ok p):iX c p.2/\
  ∃a lo hi first,p.1=(m.1++[a],m.2.1++[(lo,hi)],m.2.2.1++[first],m.2.2.2.1,m.2.2.2.2)/\nh lo hi=true/\lo<=first/\first<=hi/\m.1.length<16/\m.1.contains a=false:=by
 unfold rK at h;cases r:fP (decide (16<=(m.1.length:Int))) m.1 m.2.2.2.1 c with
 |error e=>rw [r] at h;cases h
 |ok B=>
  obtain ⟨a,i⟩:=B;rw [r] at h;simp only at h;obtain ⟨v,_,j,_,b⟩:=Qt C r;cases q:gz i with
  |error e=>rw [q] at h;cases h
  |ok A=>
   obtain ⟨lo,g⟩:=A;rw [q] at h;simp only at h;have u:=VL v.1 q;cases o:gz g with
   |error e=>rw [o] at h;cases h
   |ok z=>
    obtain ⟨hi,f⟩:=z;rw [o] at h;simp only at h;have t:=VL u.1 o;cases n:gz f with
    |error e=>rw [n] at h;cases h
    |ok y=>
     obtain ⟨first,d⟩:=y;rw [n] at h;simp only at h;have s:=VL t.1 n;cases l:cd [59] d with
     |error e=>rw [l] at h;cases h
     |ok w=>
      rw [l] at h;have x:=np s.1 l;cases k:(!(nh lo hi)||decide (first<lo)||decide (hi<first))
      .rw [k] at h;cases h;simp at k;simp at b;exact ⟨(((v.trans u).trans t).trans s).trans x,a,lo,hi,first,rfl,k.1.1,by omega,by omega,by omega,j⟩
      grind
theorem UZ{m:bw}{a:List Tok}{p:bw×List Tok}(s:Pa.Ends a)(h:nO m a= .ok p):iX a p.2/\
  ∃g r1 r2 sets b,m.2.2.2.2.length<256/\eI 2 m.1 a= .ok (g,r1)/\Pa.Ends r2/\fN m.1 (r2.length+1) [] r2= .ok (sets,b)/\
   p.1=(m.1,m.2.1,m.2.2.1,m.2.2.2.1,m.2.2.2.2++[(i64.wrap ((m.2.2.2.1.length:Int)-1),g,sets)])/\cd [58] r1= .ok r2/\cd [59] b= .ok p.2:=by
 unfold nO at h;cases k:decide (256<=(m.2.2.2.2.length:Int))
 case true=>rw [k] at h;cases h
 rw [k] at h;simp at k;cases j:eI 2 m.1 a with
 |error e=>rw [j] at h;cases h
 |ok r=>
  obtain ⟨g,r1⟩:=r;rw [j] at h;simp only at h;have n:=(ui s j).1;cases f:cd [58] r1 with
  |error e=>rw [f] at h;cases h
  |ok r2=>
   rw [f] at h;simp only at h;have i:=np n.1 f;cases d:fN m.1 (r2.length+1) [] r2 with
   |error e=>rw [d] at h;cases h
   |ok q=>
    obtain ⟨sets,b⟩:=q;rw [d] at h;simp only at h;have l:=Zi _ _ _ _ i.1 d;cases c:cd [59] b with
    |error e=>rw [c] at h;cases h
    |ok t=>
     rw [c] at h;cases h;have o:=np l.1 c;exact ⟨((n.trans i).trans l).trans o,g,r1,r2,sets,b,by omega,rfl,i.1,d,rfl,f,c⟩
end Sy
variable {s : Nat}
namespace Pa
open Cz
def Lk:Cz->Nat
 |line _=>0
 |loop _ a=>a.sz
theorem abF(k n a:Int):(Ex.mk k n a []).sz=1:=by simp [Ex.sz,xk]
theorem aqb(k n a:Int)(x:Ex):(Ex.mk k n a [x]).sz=x.sz+1:=by simp [Ex.sz,xk]
theorem ahZ(k n a:Int)(x y:Ex):(Ex.mk k n a [x,y]).sz=x.sz+y.sz+1:=by simp [Ex.sz,xk]
theorem P.size{names:List aE}{j:Cz}{l:List Tok}{r:Out}(h:P names j d l r):∀p,r= .ok p->p.1.sz+p.2.length<=l.length+Lk j:=by
 induction h with
 |tR=>intro p h;cases h
 | @pre s d t l k r b c f i ih=>
  intro p h;cases r with
  |error e=>cases h
  |ok q=>cases h;grind [Lk,aqb,List.length_cons]
 |other b c f i ih=>intro p h;exact ih p h
 |rErr=>intro p h;cases h
 |rOne b c f i ih=>intro p h;exact ih p h
 | @rTwo s d l a t ts' k r b c f i m ih g=>
  intro p h;cases r with
  |error e=>cases h
  |ok q=>cases h;grind [Lk,ahZ,List.length_cons]
 |lErr=>intro p h;cases h
 |lGo b c f ih g=>grind [Lk]
 |lpEnd b=>grind [Lk]
 |lpErr=>intro p h;cases h
 |lpGo b c f ih g=>grind [Lk,ahZ,List.length_cons]
 |oWord b c=>grind [Lk,abF,List.length_cons]
 |oNum b c f=>grind [Lk,abF,List.length_cons]
 |oVar b c f i m=>grind [Lk,abF,List.length_cons]
 |oName=>intro p h;cases h
 |oOpen b c f i m o n ih=>grind [Lk,List.length_cons]
 |oErr=>intro p h;cases h
 |oClose=>intro p h;cases h
 |oForm=>intro p h;cases h
theorem P.suf{names:List aE}{j:Cz}{l:List Tok}{r:Out}(h:P names j d l r):∀p,r= .ok p->p.2 <:+ l:=by
 induction h with
 |tR=>intro p h;cases h
 | @pre s d t l k r b c f i ih=>
  intro p h;cases r with
  |error e=>cases h
  |ok q=>cases h;grind
 |other b c f i ih=>exact ih
 |rErr=>intro p h;cases h
 |rOne b c f i ih=>exact ih
 | @rTwo s d l a t ts' k r b c f i m ih g=>
  intro p h;cases r with
  |error e=>cases h
  |ok q=>cases h;grind [List.suffix_cons,trans]
 |lErr=>intro p h;cases h
 |lGo b c f ih g=>grind
 |lpEnd b=>grind
 |lpErr=>intro p h;cases h
 |lpGo b c f ih g=>grind
 |oWord b c=>grind
 |oNum b c f=>grind
 |oVar b c f i m=>grind
 |oName=>intro p h;cases h
 |oOpen b c f i m o n ih=>intro p h;cases h;exact ((qY _ _).trans (ih _ rfl)).trans (qY _ _)
 |oErr=>intro p h;cases h
 |oClose=>intro p h;cases h
 |oForm=>intro p h;cases h
def CE(t:Tok):Prop:=t.1=2->0<=t.2.2.1/\t.2.2.1<=1073741824
theorem JF{t:Tok}{k:Int}(h:dA s t=some k):k∈ops s:=by grind [dA,Cr,y8,List.mem_of_find?_eq_some]
theorem apB(hk:kd s=0){k:Int}(h:k∈ops s)(a:Int):vj k 0 1 (oH k) a=true:=by
 have:s=6\/s=10:=by unfold kd at hk;grind
 rcases this with rfl|rfl
 .simp [ops,qa,qD,or_false] at h;rcases h with rfl|rfl|rfl|rfl <;> rfl
 .simp [ops,qa,qD,or_false] at h;subst h;rfl
theorem adu(hk:kd s=1\/kd s=2){k:Int}(h:k∈ops s)(a:Int):vj k 0 2 (oH k) a=true:=by
 have:s=1\/s=2\/s=3\/s=4\/s=5\/s=7\/s=8\/s=9:=by unfold kd at hk;grind
 rcases this with rfl|rfl|rfl|rfl|rfl|rfl|rfl|rfl <;> simp [ops,qa,qD,or_false] at h
 .subst h;rfl
 .subst h;rfl
 .subst h;rfl
 .subst h;rfl
 .rcases h with rfl|rfl <;> rfl
 .rcases h with rfl|rfl|rfl|rfl|rfl|rfl <;> rfl
 .rcases h with rfl|rfl <;> rfl
 .subst h;rfl
theorem alC(hk:kd s=3){k:Int}(h:k∈ops s)(a:Int):vj k 0 0 (oH k) a=true:=by
 have:s=11:=by unfold kd at hk;grind
 subst this;simp [ops,qa,qD,or_false] at h;rcases h with rfl|rfl <;> rfl
theorem VW{b k n a:Int}(h:vj k n 0 (oH k) b=true):fp b (.mk k n a [])=true:=by simp [fp,vr];grind
theorem aoU{b k a:Int}{x:Ex}(h:vj k 0 1 (oH k) b=true)(hx:fp b x=true):fp b (.mk k 0 a [x])=true:=by simp [fp,vr,eb];grind
theorem ad6{b k a:Int}{x y:Ex}(h:vj k 0 2 (oH k) b=true)(hx:fp b x=true)(c:fp b y=true):fp b (.mk k 0 a [x,y])=true:=by simp [fp,vr,eb];grind
def asz(vars:Int):Cz->Bool
 |line _=>true
 |loop _ a=>fp vars a
def okJ:Cz->Prop
 |line _=>True
 |loop s _=>kd s=2
theorem pD{names:List aE}{v:aE}{i:Nat}(h:at_ names v=some i):i<names.length:=by grind [at_,List.findIdx?_eq_some_iff_getElem]
theorem P.may{names:List aE}{j:Cz}{o:List Tok}{r:Out}(h:P names j d o r):okJ j->(∀t∈o,CE t)->asz names.length j=true->∀p,r= .ok p->fp names.length p.1=true:=by
 induction h with
 |tR=>grind
 | @pre s d t o k r g m n w ih=>
  intro _ f _ p h;cases r with
  |error e=>cases h
  |ok q=>cases h;grind [aoU,apB,JF]
 |other g m n w ih=>intro _ f v p h;exact ih trivial f rfl p h
 |rErr=>grind
 |rOne g m n w ih=>intro _ f v p h;exact ih trivial f rfl _ h
 | @rTwo s d o a t ts' k r g m n w h4 ih l=>
  intro _ f _ p h;cases r with
  |error e=>cases h
  |ok q=>
   have x:=ih trivial f rfl _ rfl;have u:=n.suf _ rfl;have A:=l trivial (λt ht=>f t (u.mem (cp _ ht))) rfl q rfl;cases h;grind [ad6,adu,JF]
 |lErr=>grind
 |lGo g m n ih l=>
  intro _ f _ p h;have x:=ih trivial f rfl _ rfl;have u:=m.suf _ rfl;exact l g (λt ht=>f t (u.mem ht)) x p h
 |lpEnd g=>intro _ f v p h;cases h;exact v
 |lpErr=>grind
 | @lpGo s a d t o k b ts' r g m n ih l=>
  intro y f v p h;have x:=ih trivial (λt ht=>f t (cp _ ht)) rfl _ rfl;have u:=m.suf _ rfl;exact l y (λt ht=>f t (cp _ (u.mem ht))) (ad6 (a:=t.2.2.2) (adu (.inr y) (JF g) _) v x) p h
 |oWord g m=>grind [VW,alC,JF]
 | @oNum s d t o g m n=>
  intro _ f _ p h;obtain ⟨n0,n1⟩:=f t (c8 ..) (beq_iff_eq.1 n);grind [VW,vj,oH,decide,decide_eq_false]
 | @oVar s d t o i g m n w h4=>
  have z:=pD h4;grind [VW,vj,oH,decide,decide_eq_false]
 |oName=>grind
 | @oOpen s d t o a c ts' g m n w h4 h5 h6 ih=>intro _ f _ p h;cases h;exact ih trivial (λt ht=>f t (cp _ ht)) rfl (a,c::ts') rfl
 |oErr=>grind
 |oClose=>grind
 |oForm=>grind
end Pa
namespace Pa
def isLet(c:UInt8):Bool:=(decide (97<=c)&&decide (c<=122))||(decide (65<=c)&&decide (c<=90))||c==95
def ju(t:Tok):Prop:=(t.1=1/\∃c s,t.2.1=c::s/\isLet c=true)\/t.1=2\/(t.1=3/\∀c s,t.2.1=c::s->isLet c=false)\/t.1=4
theorem sC{l:List Tok}{a:Nat}{t:Tok}{c:List Tok}(h:l.drop a=t::c):idx l (a:Int)=some t/\l.drop (a+1)=c/\a<l.length/\t∈l:=by
 have b:a<l.length:=by grind [Nat.lt_or_ge,List.drop_of_length_le]
 rw [n4 b] at h;grind [List.cons.injEq,idx,List.getElem?_eq_getElem,List.getElem_mem]
theorem bR{a:Nat}(h:a<4611686018427387904):i64.wrap ((a:Int)+1)=((a+1:Nat):Int):=by grind [bG]
end Pa
namespace Sy
open Pa
theorem uM{α:Type}{l pre r:List α}{x:α}(h:l=pre++x::r):decide ((pre.length:Int)<(List.length l:Int))=true:=by subst h;simp;omega
theorem uS{α:Type}{l pre:List α}(h:l=pre++[]):decide ((pre.length:Int)<(List.length l:Int))=false:=by subst h;simp
theorem lL{α:Type}{l pre r:List α}{x:α}(h:l=pre++x::r):idx l (pre.length:Int)=some x:=by subst h;simp [idx]
theorem dw{k b:Nat}(h:k*b<=140737488355328)(a:k<=9223372036854775807):aH k b=true:=by simp_all [aH,ar]
theorem aP{ρ:Type}{c:Bool}(h:c=true)(k:Option ρ):aN c k=k:=by subst h;rfl
end Sy
theorem ac8(a:aE):jK a=some (x4.contains a):=by
 unfold jK xO x4;simp only [List.contains_cons,List.contains_nil];cases (a==[116,114,117,101])
 case true=>rfl
 cases (a==[102,97,108,115,101])
 case true=>rfl
 cases (a==[88])
 case true=>rfl
 cases (a==[70])
 case true=>rfl
 cases (a==[71])
 case true=>rfl
 cases (a==[85])
 case true=>rfl
 cases (a==[82])
 case true=>rfl
 cases (a==[118,97,114])
 case true=>rfl
 cases (a==[112,114,111,99]) <;> rfl
namespace Pa
open Cz
def JG(w:Bool)(x:aE):Bool:=match x with
 |[]=>false
 |c::_=>isLet c==w&&x4.contains x==w
theorem ZW{t:Tok}(h:ju t){x:aE}(hx:JG true x=true):(y8 t&&(x==t.2.1))=((t.1==1)&&(t.2.1==x)):=by
 obtain ⟨k,y,n,p⟩:=t;simp [y8,key];by_cases a:y=x
 .subst a;rcases h with ⟨rfl,c,s,b,d⟩|rfl|⟨rfl,e⟩|rfl
  .simp_all [JG,ar]
  .simp
  .cases y with
   |nil=>cases hx
   |cons c s=>
    simp [JG,ar] at hx;grind
  .simp
 grind
theorem aqU{t:Tok}(h:ju t){x:aE}(hx:JG false x=true):(y8 t&&(x==t.2.1))=((t.1==3)&&(t.2.1==x)):=by
 obtain ⟨k,y,n,p⟩:=t;simp [y8];by_cases a:y=x
 .subst a;rcases h with ⟨rfl,c,s,b,d⟩|rfl|⟨rfl,e⟩|rfl
  .simp_all [JG,ar]
  .simp
  .simp
  .simp
 grind
def kx(t:Tok):Bool:=(t.1 != 2)&&(t.1 != 4)
theorem bH{t:Tok}(h:ju t){x:aE}{w:Bool}(hx:JG w x=true):(y8 t&&(x==t.2.1))=(kx t&&(t.2.1==x)):=by
 by_cases b:t.2.1=x
 .rcases h with ⟨i,c,s,a,f⟩|e|⟨g,d⟩|d
  .rw [b] at a;simp_all [JG,y8,key,kx]
  .simp [y8,kx,e]
  .grind [y8,kx]
  grind [y8,kx]
 grind
theorem pY(t:Tok):Cr [] t=none:=by grind [Cr,y8]
theorem mM(o:Int)(l:zj)(t:Tok):Cr (o::l) t=bif (y8 t&&(bQ o==t.2.1)) then some o else Cr l t:=by unfold Cr;grind
def opt(o:zb):Int:=o.getD 0
theorem asT{t:Tok}(h:ju t):cV t 1=some (opt (dA 1 t)):=by have e:=bH h (x:=bQ 19) (w:=false) rfl;simp [dA,ops,mM,pY,e];show (bif kx t then (bif (t.2.1==bQ 19) then some 19 else some 0) else some 0)=_;cases kx t <;> cases (t.2.1==bQ 19) <;> rfl
theorem asW{t:Tok}(h:ju t):cV t 2=some (opt (dA 2 t)):=by have e:=bH h (x:=bQ 18) (w:=false) rfl;simp [dA,ops,mM,pY,e];show (bif kx t then (bif (t.2.1==bQ 18) then some 18 else some 0) else some 0)=_;cases kx t <;> cases (t.2.1==bQ 18) <;> rfl
theorem asI{t:Tok}(h:ju t):cV t 3=some (opt (dA 3 t)):=by have e:=bH h (x:=bQ 17) (w:=false) rfl;simp [dA,ops,mM,pY,e];show (bif kx t then (bif (t.2.1==bQ 17) then some 17 else some 0) else some 0)=_;cases kx t <;> cases (t.2.1==bQ 17) <;> rfl
theorem asN{t:Tok}(h:ju t):cV t 4=some (opt (dA 4 t)):=by have e:=bH h (x:=bQ 16) (w:=false) rfl;simp [dA,ops,mM,pY,e];show (bif kx t then (bif (t.2.1==bQ 16) then some 16 else some 0) else some 0)=_;cases kx t <;> cases (t.2.1==bQ 16) <;> rfl
theorem asX{t:Tok}(h:ju t):cV t 5=some (opt (dA 5 t)):=by have e:=bH h (x:=bQ 23) (w:=true) rfl;have a:=bH h (x:=bQ 24) (w:=true) rfl;simp [dA,ops,mM,pY,e,a];show (bif kx t then (bif (t.2.1==bQ 23) then some 23 else (bif (t.2.1==bQ 24) then some 24 else some 0)) else some 0)=_;cases kx t <;> cases (t.2.1==bQ 23) <;> cases (t.2.1==bQ 24) <;> rfl
theorem asA{t:Tok}(h:ju t):cV t 8=some (opt (dA 8 t)):=by have e:=bH h (x:=bQ 3) (w:=false) rfl;have a:=bH h (x:=bQ 4) (w:=false) rfl;simp [dA,ops,mM,pY,e,a];show (bif kx t then (bif (t.2.1==bQ 3) then some 3 else (bif (t.2.1==bQ 4) then some 4 else some 0)) else some 0)=_;cases kx t <;> cases (t.2.1==bQ 3) <;> cases (t.2.1==bQ 4) <;> rfl
theorem asU{t:Tok}(h:ju t):cV t 9=some (opt (dA 9 t)):=by have e:=bH h (x:=bQ 5) (w:=false) rfl;simp [dA,ops,mM,pY,e];show (bif kx t then (bif (t.2.1==bQ 5) then some 5 else some 0) else some 0)=_;cases kx t <;> cases (t.2.1==bQ 5) <;> rfl
theorem asM{t:Tok}(h:ju t):cV t 7=some (opt (dA 7 t)):=by
 have n:=bH h (x:=bQ 7) (w:=false) rfl;have l:=bH h (x:=bQ 8) (w:=false) rfl;have e3:=bH h (x:=bQ 9) (w:=false) rfl;have e4:=bH h (x:=bQ 10) (w:=false) rfl;have k:=bH h (x:=bQ 11) (w:=false) rfl;have j:=bH h (x:=bQ 12) (w:=false) rfl;simp [dA,ops,mM,pY,n,l,e3,e4,k,j];obtain ⟨m,hm⟩:∃m,au=m+7:=⟨18446744073709551609,rfl⟩;refine Eq.trans (b:=bif kx t then aj (bL t) (m+7) 0 else some 0) rfl ?_;have i:aj (bL t) (m+7) 0=bif (t.2.1==bQ 7) then some 7 else aj (bL t) (m+6) 1:=rfl
 have g:aj (bL t) (m+6) 1=bif (t.2.1==bQ 8) then some 8 else aj (bL t) (m+5) 2:=rfl
 have f:aj (bL t) (m+5) 2=bif (t.2.1==bQ 9) then some 9 else aj (bL t) (m+4) 3:=rfl
 have e:aj (bL t) (m+4) 3=bif (t.2.1==bQ 10) then some 10 else aj (bL t) (m+3) 4:=rfl
 have d:aj (bL t) (m+3) 4=bif (t.2.1==bQ 11) then some 11 else aj (bL t) (m+2) 5:=rfl
 have c:aj (bL t) (m+2) 5=bif (t.2.1==bQ 12) then some 12 else aj (bL t) (m+1) 6:=rfl
 have a:aj (bL t) (m+1) 6=some 0:=rfl;rw [i,g,f,e,d,c,a];cases kx t
 .rfl
 cases (t.2.1==bQ 7)
 case true=>rfl
 cases (t.2.1==bQ 8)
 case true=>rfl
 cases (t.2.1==bQ 9)
 case true=>rfl
 cases (t.2.1==bQ 10)
 case true=>rfl
 cases (t.2.1==bQ 11)
 case true=>rfl
 cases (t.2.1==bQ 12) <;> rfl
theorem anI{t:Tok}(h:ju t){s:Nat}(c:1<=s)(a:s<=9)(b:s≠6):cV t (s:Int)=some (opt (dA s t)):=by
 have:s=1\/s=2\/s=3\/s=4\/s=5\/s=7\/s=8\/s=9:=by omega
 rcases this with rfl|rfl|rfl|rfl|rfl|rfl|rfl|rfl
 .exact asT h
 .exact asW h
 .exact asI h
 .exact asN h
 .exact asX h
 .exact asM h
 .exact asA h
 .exact asU h
theorem QE{t:Tok}{k:Int}(h:dA s t=some k):(k==0)=false:=by
 have key:∀l:zj,(l.all λo=>o != 0)=true->Cr l t=some k->(k==0)=false:=λl hl h=>by grind [Cr,y8,List.mem_of_find?_eq_some,List.all_eq_true]
 refine key (ops s) ?_ h
 match s with
 |0=>rfl
 |1=>rfl
 |2=>rfl
 |3=>rfl
 |4=>rfl
 |5=>rfl
 |6=>rfl
 |7=>rfl
 |8=>rfl
 |9=>rfl
 |10=>rfl
 |11=>rfl
 |n+12=>rfl
abbrev R4:=Ex×Int×Int×Int
abbrev LF:=(Int×Int×List Tok×Int×List aE×Int×Int)->Option R4
def RR(l:List Tok)(r:Out)(m:Option R4):Prop:=match r with
 | .ok (x,ts)=>∃a:Nat,l.drop a=ts/\m=some (x,(a:Int),0,0)
 | .error (b,p)=>∃x a,m=some (x,a,b,p)
theorem IM{names:List aE}{j:Cz}{a:List Tok}{b p:Int}(h:P names j d a (.error (b,p))):(b != 0)=true:=by rcases h.err _ rfl with h|h|h <;> (grind)
theorem N5{l:List Tok}{a:Nat}{t:Tok}(h:idx l (a:Int)=some t)(b:Int)(names:List aE)(p:Int):bF b l (a:Int) names 0 p=some (.mk 0 0 0 [],b,t.2.2.2):=by grind [bF]
def ou(names:List aE)(v:aE)(i:Nat):zc:=((names.drop i).findIdx? (λx=>v==x)).map (· +i)
theorem PJ(names:List aE)(v:aE):ou names v 0=at_ names v:=by unfold ou at_;simp
theorem amZ{l:List Tok}{a:Nat}{t:Tok}{names:List aE}(hn:names.length<4611686018427387904)(ha:a<4611686018427387904)(ht:idx l (a:Int)=some t):
  ∀(m i M:Nat),names.length-i<=m->i<=names.length->m<M->
   aj (eA l (a:Int) names 0 0 t) M (i:Int)=
    match ou names t.2.1 i with
    |some j=>some (.mk 2 (j:Int) t.2.2.2 [],((a+1:Nat):Int),0,0)
    |none=>some (.mk 0 0 0 [],(a:Int),3,t.2.2.2):=by
 intro m
 induction m with
 |zero=>
  intro i M d c b;obtain ⟨M,rfl⟩:∃k,M=k+1:=⟨M-1,by omega⟩;have hi:i=names.length:=by omega
  simp_all [ao,ou,eA,N5]
 |succ m ih=>
  intro i M d c b;obtain ⟨M,rfl⟩:∃k,M=k+1:=⟨M-1,by omega⟩;rw [ao];by_cases hi:i<names.length
  .have hd  :=n4 hi;have hx:idx names (i)=some names[i]:=by simp [idx]
   simp only [eA,cx (show ((i):Int)<(List.length names) by omega),hx,ah,bR ha,bR (show i<4611686018427387904 by omega)];have e:ou names t.2.1 i=bif (names[i]==t.2.1) then some i else ou names t.2.1 (i+1):=by
    unfold ou;rw [hd,List.findIdx?_cons];have:(t.2.1==names[i])=(names[i]==t.2.1):=by grind
    rw [this];cases (names[i]==t.2.1)
    .simp;congr 1;grind
    .simp
   rw [e];cases (names[i]==t.2.1)
   .exact ih (i+1) M (by omega) (by omega) (by omega)
   .rfl
  .have hi:i=names.length:=by omega
   simp_all [ou,eA,N5]
def SR(names:List aE)(l:List Tok)(k:LF)(s:Nat)(d:Int)(a:Nat):Prop:= ∃r,P names (line s) d (l.drop a) r/\RR l r (k ((s:Int),d,l,(a:Int),names,0,0))
theorem aqL{names:List aE}(hn:names.length<4611686018427387904){l:List Tok}(hl:l.length<4611686018427387904)(htok:∀t∈l,ju t){k:LF}{d:Int}{a:Nat}(E:Ends (l.drop a))
  (hk:Ends (l.drop (a+1))->SR names l k 1 d (a+1)):∃r,P names (line 11) d (l.drop a) r/\RR l r (dY k d l (a:Int) names 0 0):=by
 obtain ⟨t,Q,s⟩:=E.ne;obtain ⟨hx,i,J,v⟩:=sC s;have u:=htok t v;have ha:a<4611686018427387904:=by omega
 have N:=ZW u (x:=bQ 13) rfl;have O:=ZW u (x:=bQ 14) rfl;have o:dA 11 t=bif ((t.1==1)&&(t.2.1==bQ 13)) then some 13 else bif ((t.1==1)&&(t.2.1==bQ 14)) then some 14 else none:=by simp only [dA,ops,mM,pY,N,O]
 rw [s];unfold dY;simp only [hx,ah,aM,ac8,bR ha];cases n:(t.1==2)
 case true=>
  have M:(t.1==1)=false:=by have:=beq_iff_eq.1 n;rw [this];rfl
  exact ⟨_,.oNum rfl (by rw [o,M];rfl) n,a+1,i,rfl⟩
 simp only [b7];cases z:((t.1==1)&&(t.2.1==bQ 13))
 case true=>
  rw [show ((t.1==1)&&(t.2.1==[116,114,117,101]))=true from z];exact ⟨_,.oWord rfl (by rw [o,z];rfl),a+1,i,rfl⟩
 rw [show ((t.1==1)&&(t.2.1==[116,114,117,101]))=false from z];simp only [b7];cases B:((t.1==1)&&(t.2.1==bQ 14))
 case true=>
  rw [show ((t.1==1)&&(t.2.1==[102,97,108,115,101]))=true from B];exact ⟨_,.oWord rfl (by rw [o,z,B];rfl),a+1,i,rfl⟩
 rw [show ((t.1==1)&&(t.2.1==[102,97,108,115,101]))=false from B];simp only [b7];have f:dA 11 t=none:=by rw [o,z,B];rfl
 cases hN:((t.1==1)&& !(x4.contains t.2.1))
 case true=>
  have e:CI t=true:=hN;simp only [ca];have:=amZ hn ha hx names.length 0 au (by omega) (by omega) (by show names.length<2^64;omega);rw [show ((0:Nat):Int)=0 from rfl,PJ] at this;rw [this];cases hat:at_ names t.2.1 with
  |some j=>exact ⟨_,.oVar rfl f n e hat,a+1,i,rfl⟩
  |none=>exact ⟨_,.oName rfl f n e hat,_,_,rfl⟩
 have e:CI t=false:=hN;simp only [b7];cases A:(((t.1 != 3)||(t.2.1 != [40])):Bool)
 case true=>
  have g:open_ t=false:=by
   unfold open_;simp only [e9,bne_iff_ne] at A;rcases A with h|h
   .rw [beq_eq_false_iff_ne.2 h];rfl
   .rw [beq_eq_false_iff_ne.2 h,qP]
  simp only [ca,N5 hx,ah];exact ⟨_,.oForm rfl f n e g,_,_,rfl⟩
 have G  :=by simp at A;exact A
 have g:open_ t=true:=by unfold open_;rw [G.1,G.2];rfl
 have w  :=by rw [s] at E;exact E.tail (by rw [G.1];decide)
 obtain ⟨r,m,hm⟩:=hk (by rw [i];exact w);rw [i] at m
 match r,m,hm with
 | .error (b,p),m,⟨x,a',hm⟩=>
  have hb:=IM m;rw [show ((1:Nat):Int)=1 from rfl] at hm;rw [hm,ah];simp [hb];exact ⟨_,.oErr rfl f n e g m,_,_,rfl⟩
 | .ok (x,ts'),m,⟨a',ha',hm⟩=>
  rw [show ((1:Nat):Int)=1 from rfl] at hm;obtain ⟨D,sx⟩:=m.ends w _ rfl;obtain ⟨c,I,L⟩:=D.ne;subst L;obtain ⟨q,F,H,C⟩:=sC ha';rw [hm,ah];simp [q,bR (show a'<4611686018427387904 by omega)];by_cases y:c.1=3
  .have e3:(c.1 != 3)=false:=by rw [y];rfl
   simp [e3,j6,dU,ah];cases K:(c.2.1 != [41])
   .have:close_ c=true:=by grind [close_,bne_eq_false_iff_eq]
    exact ⟨_,.oOpen rfl f n e g m this,a'+1,F,rfl⟩
   .have:close_ c=false:=by simp_all [close_,bne_iff_ne]
    simp [N5 q];exact ⟨_,.oClose rfl f n e g m this,_,_,rfl⟩
  .have e3  :=bne_iff_ne.2 y;have:close_ c=false:=by grind [close_,beq_eq_false_iff_ne]
   simp [e3,N5 q];exact ⟨_,.oClose rfl f n e g m this,_,_,rfl⟩
end Pa
namespace Pa
open Cz
theorem Rx(e:Ex):Ex.mk e.op e.n e.at_ e.l=e:=by cases e;rfl
theorem ael(m:Option R4):(m.bind λr=>some (r.1,r.2.1,r.2.2.1,r.2.2.2))=m:=by cases m <;> rfl
theorem RR.one{l:List Tok}{r:Out}{m:Option R4}(h:RR l r m)(c pl:Int):RR l (apX c pl r) (m.bind λr=>some (.mk c 0 pl [r.1],r.2.1,r.2.2.1,r.2.2.2)):=by
 match r,h with
 | .ok (x,ts),⟨a,h1,h2⟩=>subst h2;exact ⟨a,h1,rfl⟩
 | .error (b,p),⟨x,a,h2⟩=>subst h2;exact ⟨_,_,rfl⟩
theorem RR.two{l:List Tok}{r:Out}{m:Option R4}(h:RR l r m)(c pl:Int)(y:Ex):RR l (arz c pl y r) (m.bind λr=>some (.mk c 0 pl [y,r.1],r.2.1,r.2.2.1,r.2.2.2)):=by
 match r,h with
 | .ok (x,ts),⟨a,h1,h2⟩=>subst h2;exact ⟨a,h1,rfl⟩
 | .error (b,p),⟨x,a,h2⟩=>subst h2;exact ⟨_,_,rfl⟩
theorem ai6{s:Nat}(a:1<=s)(h:s<=10):ml (s:Int)=some (AX s):=by
 have:s=1\/s=2\/s=3\/s=4\/s=5\/s=6\/s=7\/s=8\/s=9\/s=10:=by omega
 rcases this with rfl|rfl|rfl|rfl|rfl|rfl|rfl|rfl|rfl|rfl <;> rfl
theorem asD{k:LF}{s:Nat}(c:1<=s)(h:s<=10){d:Int}(f:0<=d)(e:d<=320)(l:List Tok)(a:Int)(names:List aE):
  dv k (s:Int) d l a names 0 0=jU k (s:Int) l a names 0 0 (AX s) (dn s d):=by
 unfold dv;simp [ai6 c h];have b:i64.wrap (d+1)=d+1:=bG (by omega);unfold dn;rw [b];cases AX s <;> rfl
theorem aoJ(s:Nat)(d:Int):(AX s&&decide (320<dn s d))=sb s d:=by unfold sb dn;grind
theorem arX{s:Nat}{d:Int}(b:0<=d)(a:d<=320)(hd:sb s d=false):0<=dn s d/\dn s d<=320:=by unfold sb at hd;unfold dn;grind
section
variable {names : List aE} {l : List Tok} {k : LF} {N : Nat}
variable (hn : names.length < 4611686018427387904) (hl : l.length < 4611686018427387904) (htok :∀t ∈ l, ju t)
variable (hk :∀(s : Nat) (d : Int) (a : Nat), 1 <= s -> s <= 10 -> 0 <= d -> d <= 320 -> Ends (l.drop a) -> 12 * (l.drop a).length + (11 - s) < N -> SR names l k s d a)
include hn hl htok hk
theorem pre6{d:Int}{a:Nat}{t:Tok}{i:List Tok}(c:l.drop a=t::i)(w:Ends (t::i))(z:0<=dn 6 d)(y:dn 6 d<=320)(hd:sb 6 d=false)(hN:12*(l.drop a).length+5<N+1):
  ∃r,P names (line 6) d (t::i) r/\RR l r (da k l (a:Int) names 0 0 (dn 6 d) t (bif ((t.1==3)&&(t.2.1==[33])) then 15 else 0)):=by
 obtain ⟨hx,f,B,h⟩:=sC c;have e:=htok t h;have G:=aqU e (x:=bQ 15) rfl;have F:=ZW e (x:=bQ 20) rfl;have E:=ZW e (x:=bQ 21) rfl;have D:=ZW e (x:=bQ 22) rfl;have m:dA 6 t=bif ((t.1==3)&&(t.2.1==bQ 15)) then some 15 else bif ((t.1==1)&&(t.2.1==bQ 20)) then some 20 else bif ((t.1==1)&&(t.2.1==bQ 21)) then some 21 else bif ((t.1==1)&&(t.2.1==bQ 22)) then some 22 else none:=by grind [dA,ops,mM,pY]
 have C:da k l (a) names 0 0 (dn 6 d) t (bif ((t.1==3)&&(t.2.1==[33])) then 15 else 0)=jS k l (a) names 0 0 (dn 6 d) t (opt (dA 6 t)):=by
  rw [m];unfold da pw py;rw [show bQ 15=[33] from rfl,show bQ 20=[88] from rfl,show bQ 21=[70] from rfl,show bQ 22=[71] from rfl];by_cases u:t.1=1
  .rw [u];by_cases q:t.2.1=[88]
   .rw [q];rfl
   .by_cases s:t.2.1=[70]
    .rw [s];rfl
    .by_cases p:t.2.1=[71]
     .rw [p];rfl
     .rw [beq_eq_false_iff_ne.2 q,beq_eq_false_iff_ne.2 s,beq_eq_false_iff_ne.2 p];rfl
  .rw [beq_eq_false_iff_ne.2 u];cases ((t.1==3)&&(t.2.1==[33])) <;> rfl
 rw [C];unfold jS;have v:(l.drop a).length=i.length+1:=by rw [c];rfl
 cases j:dA 6 t with
 |none=>
  obtain ⟨r,g,hm⟩:=hk 7 (dn 6 d) a (by omega) (by omega) z y (by rw [c];exact w) (by omega);rw [c] at g;refine ⟨r,.other rfl hd j g,?_⟩;show RR l r ((k (7,dn 6 d,l,(a),names,0,0)).bind λb=>some (b.1,b.2.1,b.2.2.1,b.2.2.2));grind [ael]
 |some A=>
  have n:=QE j;have o  :=w.tail (Gs j);obtain ⟨r,g,hm⟩:=hk 6 (dn 6 d) (a+1) (by omega) (by omega) z y (by rw [f];exact o) (by rw [f];omega);rw [f] at g;refine ⟨_,.pre rfl hd j g,?_⟩;simp [opt,qE,n,bR (show a<4611686018427387904 by omega)];exact hm.one A t.2.2.2
theorem asa{d:Int}{a:Nat}{t:Tok}{m:List Tok}(f:l.drop a=t::m)(q:Ends (t::m))(u:0<=dn 10 d)(s:dn 10 d<=320)(hd:sb 10 d=false)(hN:12*(l.drop a).length+1<N+1):
  ∃r,P names (line 10) d (t::m) r/\RR l r (bif ((t.1 != 3)||(t.2.1 != [45])) then ((dY k (dn 10 d) l (a:Int) names 0 0).bind λe=>some (e.1,e.2.1,e.2.2.1,e.2.2.2))
   else ((k (10,dn 10 d,l,(i64.wrap ((a:Int)+1)),names,0,0)).bind λb=>some ((Ex.mk 6 0 t.2.2.2 ([b.1]:List Ex)),b.2.1,b.2.2.1,b.2.2.2))):=by
 obtain ⟨hx,g,v,j⟩:=sC f;have n:=htok t j;have w:=aqU n (x:=bQ 6) rfl;have c:dA 10 t=bif ((t.1==3)&&(t.2.1==bQ 6)) then some 6 else none:=by grind [dA,ops,mM,pY]
 have p:(l.drop a).length=m.length+1:=by rw [f];rfl
 have hb:((t.1 != 3)||(t.2.1 != [45]))= !((t.1==3)&&(t.2.1==bQ 6)):=by show ((!(t.1==3))||(!(t.2.1==[45])))=_;rw [show bQ 6=[45] from rfl,Bool.not_and]
 rw [hb];cases o:((t.1==3)&&(t.2.1==bQ 6))
 .rw [o] at c;simp [ael];obtain ⟨r,i,hm⟩:=aqL hn hl htok (by rw [f];exact q) (λh=>hk 1 (dn 10 d) (a+1) (by omega) (by omega) u s h (by rw [g];omega));rw [f] at i;exact ⟨r,.other rfl hd c i,hm⟩
 .rw [o] at c;have h  :=q.tail (Gs c);simp [bR (show a<4611686018427387904 by omega)];obtain ⟨r,i,hm⟩:=hk 10 (dn 10 d) (a+1) (by omega) (by omega) u s (by rw [g];exact h) (by rw [g];omega);rw [g] at i;exact ⟨_,.pre rfl hd c i,hm.one 6 t.2.2.2⟩
theorem ail{s:Nat}(q:1<=s)(K:s<=9)(L:s≠6)(C:kd s=2){D:Int}(Q:0<=D)(O:D<=320)(G:((((s:Int)==1)||((s:Int)==2))||((s:Int)==5))=false)(F:((s:Int)==7)=false):
  ∀(n a M:Nat) (x:Ex),(l.drop a).length<=n->n<M->Ends (l.drop a)->12*(l.drop a).length<=N->
   ∃r,P names (loop s x) D (l.drop a) r/\RR l r (aj (df k (s:Int) l names D) M ((a:Int),0,0,x.op,x.n,x.at_,x.l)):=by
 intro n
 induction n with
 |zero=>
  intro a M x q S o _;obtain ⟨t,A,c⟩:=o.ne;rw [c] at q;simp at q
 |succ n ih=>
  intro a M x J R o hN;obtain ⟨M,rfl⟩:∃m,M=m+1:=⟨M-1,by omega⟩;obtain ⟨t,A,c⟩:=o.ne;obtain ⟨hx,e,I,h⟩:=sC c;have v:=htok t h;have B:(l.drop a).length=A.length+1:=by rw [c];rfl
  rw [ao];simp [df,hx,ah,anI v q K L,aM,G,b7];cases g:dA s t with
  |none=>
   refine ⟨.ok (x,l.drop a),by rw [c];exact .lpEnd g,a,rfl,?_⟩;simp [opt,Option.getD_none,qc,ca,Rx]
  |some E=>
   have w:=QE g;have i  :=by rw [c] at o;exact o.tail (Gs g)
   have u:i64.wrap ((s)+1)=((s+1:Nat)):=by grind [bG]
   simp only [opt,qE,w,bR (show a<4611686018427387904 by omega),u];obtain ⟨r,d,hm⟩:=hk (s+1) D (a+1) (by omega) (by omega) Q O (by rw [e];exact i) (by rw [e];omega);rw [e] at d
   match r,d,hm with
   | .error (b,p),d,⟨y,a',hm⟩=>
    have hb:=IM d;have z:(b==0)=false:=by simpa using hb
    rw [hm,ah];obtain ⟨M,rfl⟩:∃m,M=m+1:=⟨M-1,by omega⟩;rw [ao];simp [df,z];rw [c];exact ⟨_,.lpErr g d,_,_,rfl⟩
   | .ok (y,ts'),d,⟨a',ha',hm⟩=>
    obtain ⟨j,sx⟩:=d.ends i _ rfl;simp [shorter] at sx j;obtain ⟨r2,f,H⟩:=ih a' M (.mk E 0 t.2.2.2 [x,y]) (by rw [ha'];omega) (by omega) (by rw [ha'];exact j) (by rw [ha'];omega);rw [ha'] at f;refine ⟨r2,by rw [c];exact .lpGo g d f,?_⟩;grind [Rx]
theorem aiY{s:Nat}(T:1<=s)(S:s<=10){d:Int}(h0:0<=d)(Z:d<=320){a:Nat}(u:Ends (l.drop a))(hN:12*(l.drop a).length+(11-s)<N+1):
  ∃r,P names (line s) d (l.drop a) r/\RR l r (dv k (s:Int) d l (a:Int) names 0 0):=by
 obtain ⟨t,ts,c⟩:=u.ne;obtain ⟨hx,hd1,hlt,W⟩:=sC c;rw [asD T S h0 Z];unfold jU;simp only [aM,aoJ];cases hd:sb s d
 case true=>
  rw [c];simp only [ca,N5 hx,ah];exact ⟨_,.tR hd,_,_,rfl⟩
 obtain ⟨j,i⟩:=arX h0 Z hd;simp only [b7,hx,ah];rw [c] at u;by_cases R:s=6
 .subst R;have:=pre6 hn hl htok hk c u j i hd (by omega);rw [c];obtain ⟨r,f,hm⟩:=this;refine ⟨r,f,?_⟩;show RR l r (bif ((t.1==3)&&(t.2.1==[33])) then da k l (a:Int) names 0 0 (dn 6 d) t 15 else da k l (a:Int) names 0 0 (dn 6 d) t 0);cases hb:((t.1==3)&&(t.2.1==[33])) <;> rw [hb] at hm <;> exact hm
 by_cases v:s=10
 .subst v;obtain ⟨r,f,hm⟩:=asa hn hl htok hk c u j i hd (by omega);rw [c];exact ⟨r,f,hm⟩
 have b6:((s:Int)==6)=false:=beq_eq_false_iff_ne.2 (by omega);have U:((s:Int)==10)=false:=beq_eq_false_iff_ne.2 (by omega);have w:i64.wrap ((s:Int)+1)=((s+1:Nat):Int):=by rw [bG (by omega)];omega
 simp only [b6,U,b7,w];obtain ⟨r,f,hm⟩:=hk (s+1) (dn s d) a (by omega) (by omega) j i (by rw [c];exact u) (by omega);have Y:(l.drop a).length=ts.length+1:=by rw [c];rfl
 have B:kd s=1\/kd s=2:=by
  have:s=1\/s=2\/s=3\/s=4\/s=5\/s=7\/s=8\/s=9:=by omega
  rcases this with rfl|rfl|rfl|rfl|rfl|rfl|rfl|rfl <;> simp [kd]
 match r,f,hm with
 | .error (b,p),f,⟨y,a',hm⟩=>
  have hb:=IM f;have M:(b==0)=false:=by simpa using hb
  rw [hm,ah];obtain ⟨m,O⟩:∃m,au=m+1:=⟨18446744073709551615,rfl⟩;rw [O,ao];simp only [df,M,b7];rcases B with h|h
  .exact ⟨_,.rErr h hd f,_,_,rfl⟩
  .refine ⟨.error (b,p),.lErr h (d:=d) ?_,_,_,rfl⟩;have:dn s d=d:=by
    have:s=3\/s=4\/s=8\/s=9:=by
     have:s=1\/s=2\/s=3\/s=4\/s=5\/s=7\/s=8\/s=9:=by omega
     rcases this with rfl|rfl|rfl|rfl|rfl|rfl|rfl|rfl <;> simp [kd] at h <;> simp
    rcases this with rfl|rfl|rfl|rfl <;> rfl
   rw [this] at f;exact f
 | .ok (x,ts'),f,⟨a',ha',hm⟩=>
  rw [c] at f;obtain ⟨o,sx⟩:=f.ends u _ rfl;simp only [shorter,eb] at sx o;rw [hm,ah];rcases B with h|h
  .-- once
   obtain ⟨t2,D,F⟩:=o.ne;subst F;obtain ⟨E,g,X,q⟩:=sC ha';have z:=htok t2 q;obtain ⟨m,O⟩:∃m,au=m+1:=⟨18446744073709551615,rfl⟩;rw [O,ao,c];simp only [df,qc,ca,E,ah,anI z T (by omega) R,aM];cases A:dA s t2 with
   |none=>
    refine ⟨_,.rOne h hd f A,a',ha',?_⟩;simp only [opt,Option.getD_none,qc,ca,Rx]
   |some V=>
    have J:=QE A;have C:Ends D:=o.tail (Gs A);simp only [opt,qE,J,b7,bR (show a'<4611686018427387904 by omega),w,Rx];simp only [eb] at sx;have L:s=1\/s=2\/s=5\/s=7:=by
     have:s=1\/s=2\/s=3\/s=4\/s=5\/s=7\/s=8\/s=9:=by omega
     rcases this with rfl|rfl|rfl|rfl|rfl|rfl|rfl|rfl <;> simp [kd] at h <;> simp
    by_cases Q:s=7
    .subst Q;obtain ⟨r2,e,n⟩:=hk 8 (dn 7 d) (a'+1) (by omega) (by omega) j i (by rw [g];exact C) (by rw [g];omega);rw [g] at e;exact ⟨_,.rTwo h hd f A e,n.two V t2.2.2.2 x⟩
    .obtain ⟨r2,e,n⟩:=hk s (dn s d) (a'+1) (by omega) (by omega) j i (by rw [g];exact C) (by rw [g];omega);rw [g] at e;have H:nx s=s:=by unfold nx;rw [beq_eq_false_iff_ne.2 Q];rfl
     refine ⟨_,.rTwo h hd f A (by rw [H];exact e),?_⟩;have hb:((((s:Int)==1)||((s:Int)==2))||((s:Int)==5))=true:=by
      rcases L with rfl|rfl|rfl|rfl
      .rfl
      .rfl
      .rfl
      .exact absurd rfl Q
     rw [hb];exact n.two V t2.2.2.2 x
  .-- from the left
   have L:s=3\/s=4\/s=8\/s=9:=by
    have:s=1\/s=2\/s=3\/s=4\/s=5\/s=7\/s=8\/s=9:=by omega
    rcases this with rfl|rfl|rfl|rfl|rfl|rfl|rfl|rfl <;> simp [kd] at h <;> simp
   have K:dn s d=d:=by rcases L with rfl|rfl|rfl|rfl <;> rfl
   have hq:((((s:Int)==1)||((s:Int)==2))||((s:Int)==5))=false:=by grind
   have G:((s:Int)==7)=false:=by grind
   have I:(l.drop a').length<=l.length:=by simp
   obtain ⟨r2,e,n⟩:=ail hn hl htok hk T (by omega) R h j i hq G l.length a' au x I (by show l.length<2^64;omega) (by rw [ha'];exact o) (by rw [ha'];omega);rw [ha'] at e;rw [c];rw [K] at f e;exact ⟨r2,.lGo h f e,n⟩
end
theorem akw{names:List aE}{l:List Tok}(hn:names.length<4611686018427387904)(hl:l.length<4611686018427387904)(htok:∀t∈l,ju t):
  ∀(N:Nat) (s:Nat) (d:Int) (a:Nat),1<=s->s<=10->0<=d->d<=320->Ends (l.drop a)->12*(l.drop a).length+(11-s)<N->
   SR names l (aj (λk (s:(Int×Int×(List (Int×aE×Int×Int))×Int×(List aE)×Int×Int))=>dv k s.1 s.2.1 s.2.2.1 s.2.2.2.1 s.2.2.2.2.1 s.2.2.2.2.2.1 s.2.2.2.2.2.2) N) s d a:=by
 intro N
 induction N with
 |zero=>grind
 |succ N ih=>
  intro s d a f b g e c hN;exact aiY hn hl htok ih f b g e c hN
theorem aiX{names:List aE}{l:List Tok}(hn:names.length<4611686018427387904)(hl:l.length<1152921504606846976)(htok:∀t∈l,ju t){a:Nat}(f:Ends (l.drop a)):
  ∃r,P names (line 1) 0 (l.drop a) r/\match r with
   | .ok (x,ts)=>∃d:Nat,l.drop d=ts/\fy l (a:Int) names=some (x,(d:Int),0,0)
   | .error (b,p)=>fy l (a:Int) names=some (.mk 0 0 0 [],0,b,p):=by
 have e:(l.drop a).length<=l.length:=by simp
 obtain ⟨r,c,hm⟩:=akw hn (by omega) htok au 1 0 a (by omega) (by omega) (by omega) (by omega) f (by show _<2^64;omega);unfold fy iD
 match r,c,hm with
 | .ok (x,ts),c,⟨d,ha',hm⟩=>
  grind
 | .error (b,p),c,⟨x,d,hm⟩=>
  have hb:=IM c;grind
end Pa
theorem Kr(k:Ex->Option (Int×Int×Int))(e:Ex)(hk:∀x∈e.l,k x=some (rt x))(hl:e.l.length<1152921504606846976):
  ∀(r pre:List Ex),e.l=pre++r->∀(M:Nat) (i b t:Int),0<=i/\i<=pre.length->0<=b/\b<=pre.length->0<=t/\t<=pre.length->r.length<M->
   aj (lj k e) M (i,b,t,(pre.length:Int))=some (s9 e.op e.at_ (e.l.length:Int) r i b t)
 |[],pre,h,M,i,b,t,hi,hb,ht,hM=>by
  obtain ⟨m,rfl⟩:∃m,M=m+1:=⟨M-1,by omega⟩;rw [ao];have a:pre.length<1152921504606846976:=by grind
  have f:i64.wrap (b+t)=b+t:=bG (by omega);simp [lj,aM,s9,Om];grind
 |x::r,pre,h,M,i,b,t,hi,hb,ht,hM=>by
  obtain ⟨m,rfl⟩:∃m,M=m+1:=⟨M-1,by omega⟩;rw [ao];have hx  :=hk x (by rw [h];simp);have a:pre.length<1152921504606846976:=by grind
  have ih:=λi b t hi hb ht=>Kr k e hk hl r (pre++[x]) (by rw [h];simp) m i b t hi hb ht (by simp at hM;omega);have hp:((pre++[x]).length)=((pre.length+1:Nat)):=by simp
  rw [hp] at ih;have c:i64.wrap (i+1)=i+1:=bG (by omega);have d:i64.wrap (b+1)=b+1:=bG (by omega);have wt:i64.wrap (t+1)=t+1:=bG (by omega);simp only [lj,ru,w6,kL h,n7 h,ah,hx,mG (show pre.length<4611686018427387904 by omega),s9,c,d,wt];cases (rt x).2.1 != 0
  .cases (rt x).1==1 <;> cases (rt x).1==2 <;> cases (rt x).1==3 <;> simp <;> exact ih _ _ _ (by omega) (by omega) (by omega)
  .rfl
theorem Sn:∀(N:Nat) (e:Ex),e.sz<=N->e.sz<1152921504606846976->aj (λk s=>jj k s) N e=some (rt e):=by
 intro N
 induction N with
 |zero=>grind [oD]
 |succ N ih=>
  intro e h hb;rw [ao];have hl:=yt e;rw [rt_eq];exact Kr (aj (λk s=>jj k s) N) e (λx hx=>ih x (by have:=my hx;omega) (by have:=my hx;omega)) (by omega) e.l [] rfl au 0 0 0 (by simp) (by simp) (by simp) (by show e.l.length<2^64;omega)
theorem amm(e:Ex)(h:e.sz<1152921504606846976):dO e=some (rt e):=Sn au e (by show e.sz<=2^64;omega) h
namespace Sy
open Pa
theorem type_s2(e:Ex):iO e=jj dO e:=rfl
theorem afC(e:Ex)(h:e.sz<1152921504606846976):iO e=some (rt e):=by have hl:=yt e;rw [rt_eq];exact Kr dO e (λx hx=>amm x (by have:=my hx;omega)) (by omega) e.l [] rfl au 0 0 0 (by simp) (by simp) (by simp) (by show e.l.length<2^64;omega)
theorem CR{names:List aE}{v:aE}(hn:names.length<4611686018427387904):∀(m i M:Nat),names.length-i<=m->i<=names.length->m<M->
  aj (fI names v) M (i:Int)=some (match ou names v i with|some j=>(j:Int)|none=> -1):=by
 intro m
 induction m with
 |zero=>
  intro i M c b a;obtain ⟨M,rfl⟩:∃k,M=k+1:=⟨M-1,by omega⟩;have hi:i=names.length:=by omega
  simp_all [ao,ou,fI,List.length]
 |succ m ih=>
  intro i M c b a;obtain ⟨M,rfl⟩:∃k,M=k+1:=⟨M-1,by omega⟩;rw [ao];by_cases hi:i<names.length
  .have hd  :=n4 hi;have hx:idx names (i)=some names[i]:=by simp [idx]
   simp only [fI,cx (show ((i):Int)<(List.length names) by omega),hx,ah,bR (show i<4611686018427387904 by omega)];have e:ou names v i=bif (names[i]==v) then some i else ou names v (i+1):=by
    unfold ou;rw [hd,List.findIdx?_cons];have:(v==names[i])=(names[i]==v):=by grind
    rw [this];cases (names[i]==v)
    .simp;congr 1;grind
    .simp
   rw [e];cases (names[i]==v)
   .exact ih (i+1) M (by omega) (by omega) (by omega)
   .rfl
  .have hi:i=names.length:=by omega
   simp_all [ou,fI,List.length]
theorem QQ{names:List aE}(hn:names.length<4611686018427387904)(v:aE):cQ names v=some (fc names v):=by have:=CR (v:=v) hn names.length 0 au (by omega) (by omega) (by show names.length<2^64;omega);rw [show ((0:Nat))=0 from rfl,PJ] at this;grind [cQ,fc,at_]
theorem aov{names:List aE}{v:aE}:at_ names v=none↔names.contains v=false:=by grind [at_,List.findIdx?_eq_none_iff,List.contains_iff_mem]
theorem Lj(names:List aE)(v:aE):decide (0<=fc names v)=names.contains v:=by grind [fc,at_,aov]
def bO(st:Except iy (List Tok))(f:List Tok->Except iy (List Tok)):Except iy (List Tok):=match st with
 | .ok ts=>f ts
 | .error e=> .error e
def rest{α:Type}:Except iy (α×List Tok)->Except iy (List Tok)
 | .ok p=> .ok p.2
 | .error e=> .error e
def bz{α:Type}(st:Except iy (List Tok))(f:List Tok->Except iy (α×List Tok)):Except iy (List Tok):=bO st λts=>rest (f ts)
def St(l:List Tok)(st:Except iy (List Tok))(a b p:Int):Prop:=match st with
 | .ok ts=>∃k:Nat,a=(k:Int)/\l.drop k=ts/\Pa.Ends ts/\b=0/\p=0
 | .error e=>(∃t,idx l a=some t)/\(e.1==0)=false/\b=e.1/\p=e.2
def Fc(k:Int)(x:aE):Except iy (List Tok)->Bool
 | .ok ts=>uj k x ts
 | .error _=>false
def Uc{α:Type}(st:Except iy (List Tok))(f:List Tok->Except iy (α×List Tok))(x:α):Prop:= ∀ts y r,st= .ok ts->f ts= .ok (y,r)->x=y
section
variable {l : List Tok} (hl : l.length < 1099511627776) (htok :∀t ∈ l, ju t) (hnum :∀t ∈ l, CE t)
variable {st : Except iy (List Tok)} {a b p : Int} (N : List aE) (S_ : List (Int × Int)) (I : zj) (Q : List aE) (C : List aT)
theorem St.at{st:Except iy (List Tok)}{a b p:Int}(h:St l st a b p):∃t,idx l a=some t:=by
 cases st with
 |ok d=>
  obtain ⟨k,rfl,hd,c,_⟩:=h;obtain ⟨t,r,rfl⟩:=c.ne;exact ⟨t,(sC hd).1⟩
 |error e=>exact h.1
theorem St.ok{c:List Tok}(h:St l (.ok c) a b p):∃(k:Nat) (t:Tok) (r:List Tok),a=(k:Int)/\c=t::r/\l.drop k=t::r/\Pa.Ends (t::r)/\b=0/\p=0/\idx l a=some t/\t∈l/\l.drop (k+1)=r/\k<l.length:=by obtain ⟨k,rfl,hd,d,hb,hp⟩:=h;obtain ⟨t,r,rfl⟩:=d.ne;obtain ⟨i,g,f,e⟩:=sC hd;grind
theorem S1(c q x:Int):aJ c q l x N S_ I Q C 0 0=some (c,q):=rfl
theorem Ek{b:Int}(hb:(b==0)=false)(c q x p:Int):aJ c q l x N S_ I Q C b p=some (b,p):=by grind [aJ]
theorem Kq(h:St l st a b p)(k:Int)(x:aE):bU k x l a N S_ I Q C b p=some (Fc k x st):=by
 cases st with
 |ok d=>
  obtain ⟨f,t,r,rfl,rfl,hd,c,rfl,rfl,hx,_⟩:=h.ok;unfold bU;simp [aM,qc,dU,hx,ah,Fc,uj,Ad];cases (t.1==k)
  .rfl
  .simp [dU,ah]
 |error e=>
  obtain ⟨_,c,rfl,rfl⟩:=h;unfold bU;simp [aM,c,rD,oi,Fc]
theorem aeA(h:St l st a b p):∃q,bq l a N S_ I Q C b p=some q/\∀c,st= .ok c->q=SK c:=by
 obtain ⟨t,ht⟩:=h.at
 refine ⟨t.2.2.2,by grind [bq],λc d=>?_⟩;subst d;obtain ⟨e,t',r,rfl,rfl,hd,f,rfl,rfl,hx,_⟩:=h.ok;rw [hx] at ht;cases ht;rfl
include hl in
theorem DB(h:St l st a b p)(x:aE):∃a' b' p',bN x l a N S_ I Q C b p=some (a',b',p')/\St l (bO st (cd x)) a' b' p':=by
 have hi:=Kq N S_ I Q C h 3 x;unfold bN;rw [hi,ah];cases st with
 |ok g=>
  obtain ⟨k,t,r,rfl,rfl,hd,c,rfl,rfl,hx,hm,d,hk⟩:=h.ok;simp [Fc,uj,bO,cd];cases f:Ad 3 x t
  .simp [bq,hx,ah];exact ⟨_,_,_,rfl,⟨t,hx⟩,rfl,rfl,rfl⟩
  .simp only [bR (show k<4611686018427387904 by omega)];exact ⟨_,_,_,rfl,k+1,rfl,d,c.tail (abE f (by decide)),rfl,rfl⟩
 |error e=>
  obtain ⟨⟨t,hx⟩,c,rfl,rfl⟩:=h;simp [bq,hx,Ek N S_ I Q C c];exact ⟨_,_,_,rfl,⟨t,hx⟩,c,rfl,rfl⟩
include hl in
theorem aeD(h:St l st a b p)(hN:N.length<1099511627776)(hQ:Q.length<1099511627776)(full:Bool):∃s a' b' p',gQ full l a N S_ I Q C b p=some (s,a',b',p')/\St l (bz st (fP full N Q)) a' b' p'/\Uc st (fP full N Q) s:=by
 obtain ⟨t,ht⟩:=h.at
 have G:=QQ (names:=N) (by omega) t.2.1;have F:=QQ (names:=Q) (by omega) t.2.1;unfold gQ;simp only [ht,ah,ac8,aM];cases st with
 |ok m=>
  obtain ⟨k,t',r,rfl,rfl,hd,i,rfl,rfl,hx,hm,B,hk⟩:=h.ok;rw [hx] at ht;cases ht;simp only [bz,bO];have d:fP full N Q (t::r)=(bif t.1 != 1 then .error (2,t.2.2.2) else bif key t.2.1||N.contains t.2.1||Q.contains t.2.1 then .error (3,t.2.2.2) else bif full then .error (9,t.2.2.2) else .ok (t.2.1,r)):=rfl;cases v:(t.1 != 1)
  case true=>
   rw [v] at d;simp only [ca] at d;simp only [ca,S1,ah,d,rest];exact ⟨_,_,_,_,rfl,⟨⟨t,hx⟩,rfl,rfl,rfl⟩,λm y w j f=>by cases j;rw [d] at f;cases f⟩
  rw [v] at d;simp only [b7] at d ⊢;have J:(key t.2.1||N.contains t.2.1||Q.contains t.2.1)=(x4.contains t.2.1||decide (0<=fc N t.2.1)||decide (0<=fc Q t.2.1)):=by rw [Lj,Lj];rfl
  rw [J] at d;have fin:∀c:Bool,(x4.contains t.2.1||decide (0<=fc N t.2.1)||decide (0<=fc Q t.2.1))=c->
    ∃s a' b' p',(bif c then ((aJ 3 t.2.2.2 l (k:Int) N S_ I Q C 0 0).bind λo=>some (t.2.1,(k:Int),o.1,o.2)) else (bif full then ((aJ 9 t.2.2.2 l (k:Int) N S_ I Q C 0 0).bind λn=>some (t.2.1,(k:Int),n.1,n.2)) else (bif ((0:Int)==0) then some (t.2.1,(i64.wrap ((k:Int)+1)),0,0) else some (t.2.1,(k:Int),0,0))))=some (s,a',b',p')/\
     St l (rest (fP full N Q (t::r))) a' b' p'/\Uc (.ok (t::r)) (fP full N Q) s:=by
   intro c D;rw [D] at d;cases c
   .cases full
    .simp only [b7] at d;refine ⟨_,_,_,_,rfl,?_,λm y w j f=>by cases j;rw [d] at f;cases f;rfl⟩;rw [d,bR (show k<4611686018427387904 by omega)];have:t.1=1:=by simpa using v
     exact ⟨k+1,rfl,B,i.tail (by omega),rfl,rfl⟩
    .simp only [b7,ca] at d;exact ⟨_,_,_,_,rfl,by rw [d];exact ⟨⟨t,hx⟩,rfl,rfl,rfl⟩,λm y w j f=>by cases j;rw [d] at f;cases f⟩
   .simp only [ca] at d;exact ⟨_,_,_,_,rfl,by rw [d];exact ⟨⟨t,hx⟩,rfl,rfl,rfl⟩,λm y w j f=>by cases j;rw [d] at f;cases f⟩
  have:=fin _ rfl;cases u:x4.contains t.2.1
  .simp only [j6,dU,G,ah,mE,u] at this ⊢;cases q:decide (0<=fc N t.2.1)
   .simp only [F,q] at this ⊢;exact this
   .simp [q] at this ⊢;exact this
  .simp only [Bool.true_or,u] at this ⊢;exact this
 |error e=>
  obtain ⟨_,i,rfl,rfl⟩:=h;simp only [bz,bO];have V:∀s,Uc (.error e) (fP full N Q) s:=λs m y r h=>by cases h
  have hS:St l (.error e) a e.1 e.2:=⟨⟨t,ht⟩,i,rfl,rfl⟩;have A:∀g:Bool,∃z,∀k:Int->Option (aE×Int×Int×Int),bC g default (cQ N t.2.1) k=k z:=λg=>by
   cases g
   .exact ⟨default,λk=>rfl⟩
   .exact ⟨fc N t.2.1,λk=>by rw [dU,G];rfl⟩
  have x:∀g:Bool,∃z,∀k:Int->Option (aE×Int×Int×Int),bC g default (cQ Q t.2.1) k=k z:=λg=>by
   cases g
   .exact ⟨default,λk=>rfl⟩
   .exact ⟨fc Q t.2.1,λk=>by rw [dU,F];rfl⟩
  cases v:(t.1 != 1)
  case true=>
   simp [Ek N S_ I Q C i,ah];grind
  obtain ⟨E,L⟩:=A (!(x4.contains t.2.1));rw [L];obtain ⟨H,K⟩:=x (!(x4.contains t.2.1||decide (0<=E)));rw [K];cases (x4.contains t.2.1||decide (0<=E)||decide (0<=H))
  .cases full
   .simp [i];grind
   .simp [Ek N S_ I Q C i,ah];grind
  .simp [Ek N S_ I Q C i,ah];grind
include hl in
theorem UW(c:Bool)(h:St l st a b p):∃n a' b' p',kj l N S_ I Q C b p c a=some (n,a',b',p')/\St l (bz st (te c)) a' b' p'/\Uc st (te c) n:=by
 obtain ⟨t,ht⟩:=h.at
 unfold kj;rw [ht,ah];cases st with
 |ok f=>
  obtain ⟨k,t',r,rfl,rfl,hd,g,rfl,rfl,hx,hm,d,hk⟩:=h.ok;rw [hx] at ht;cases ht;simp [bz,bO,te,Uc];cases s:(t.1 != 2)
  .simp [kl,bR (show k<4611686018427387904 by omega)];have q  :=by simpa using s
   have j  :=g.tail (by omega);cases c
   .exact ⟨_,_,_,_,rfl,⟨k+1,rfl,d,j,rfl,rfl⟩,λf y i o m=>by grind⟩
   .exact ⟨_,_,_,_,rfl,⟨k+1,rfl,d,j,rfl,rfl⟩,λf y i o m=>by grind⟩
  .exact ⟨_,_,_,_,rfl,⟨⟨t,hx⟩,rfl,rfl,rfl⟩,λf y i o m=>by grind⟩
 |error e=>
  obtain ⟨_,g,rfl,rfl⟩:=h;have hb:(e.1 != 0)=true:=by grind
  simp only [Ek N S_ I Q C g,ah,kl,aM,hb];have hS:St l (.error e) a e.1 e.2:=⟨⟨t,ht⟩,g,rfl,rfl⟩;cases (t.1 != 2) <;> exact ⟨_,_,_,_,rfl,hS,λf y r h=>by cases h⟩
include hl in
theorem abU(h:St l st a b p):∃n d c p',dZ l a N S_ I Q C b p=some (n,d,c,p')/\St l (bz st gz) d c p'/\Uc st gz n:=by
 unfold dZ;rw [Kq N S_ I Q C h 3 [45],ah];cases st with
 |ok m=>
  simp [Fc];cases v:uj 3 [45] m
  .obtain ⟨n,d,c,p',g,q,j⟩:=UW hl N S_ I Q C false h;have e:gz m=te false m:=by grind [gz]
   exact ⟨n,d,c,p',g,by grind [bz,bO],λf y r i x=>j f y r i (by grind)⟩
  .obtain ⟨k,t,r,rfl,rfl,hd,u,rfl,rfl,hx,hm,o,hk⟩:=h.ok;have w  :=(oT u (by decide) v).1;have hS:St l (.ok r) (i64.wrap ((k)+1)) 0 0:=by rw [bR (by omega)];exact ⟨k+1,rfl,o,w,rfl,rfl⟩
   obtain ⟨n,d,c,p',g,q,j⟩:=UW hl N S_ I Q C true hS;have e:gz (t::r)=te true r:=by grind [gz]
   exact ⟨n,d,c,p',g,by grind [bz,bO],λf y s i x=>j r y s rfl (by grind)⟩
 |error e=>
  obtain ⟨n,d,c,p',g,q,j⟩:=UW hl N S_ I Q C false h;exact ⟨n,d,c,p',g,q,λf y r i=>by cases i⟩
include hl htok hnum in
theorem aed(h:St l st a b p)(hN:N.length<1099511627776)(c:Int):∃x a' b' p',cE c l a N S_ I Q C b p=some (x,a',b',p')/\St l (bz st (eI c N)) a' b' p'/\Uc st (eI c N) x:=by
 unfold cE;cases st with
 |ok i=>
  obtain ⟨k,t,r0,rfl,rfl,hd,n,rfl,rfl,hx,hm,A,hk⟩:=h.ok;obtain ⟨r,g,j⟩:=aiX (names:=N) (by omega) (by omega) htok (by rw [hd];exact n);rw [hd] at g;have d:=al4 g
  match r,g,j,d with
  | .error (b,p),g,j,d=>
   have hb:=IM g;have q:(b==0)=false:=by simpa using hb
   rw [j,ah];simp [hb,bz,bO,eI,d];exact ⟨_,_,_,_,rfl,⟨⟨t,hx⟩,q,rfl,rfl⟩,λi y m z s=>by grind [eI]⟩
  | .ok (x,ts'),g,⟨k',hk',j⟩,d=>
   have o:=g.size _ rfl;simp only [Lk] at o;have v:(t::r0).length<=l.length:=by rw [<-hd];simp
   have f:=(g.ends n _ rfl).1;rw [j,ah];simp [afC x (by omega),ah,bz,bO,eI,d,Uc];have hat:∃t',idx l (k')=some t':=by obtain ⟨t',m,w⟩:=f.ne;simp only at w;rw [w] at hk';exact ⟨t',(sC hk').1⟩
   cases D:((rt x).2.1 != 0)
   case true=>
    have u:((rt x).2.1==0)=false:=by simpa using D
    exact ⟨_,_,_,_,rfl,⟨hat,u,rfl,rfl⟩,λi y m z s=>by grind⟩
   cases z:((rt x).1 != c)
   case true=>
    exact ⟨_,_,_,_,rfl,⟨hat,rfl,rfl,rfl⟩,λi y m B s=>by grind⟩
   exact ⟨_,_,_,_,rfl,⟨k',rfl,hk',f,rfl,rfl⟩,λi y m B s=>by grind⟩
 |error e=>
  obtain ⟨ht,n,rfl,rfl⟩:=h;have hb:(e.1 != 0)=true:=by grind
  simp only [hb,bz];exact ⟨_,_,_,_,rfl,⟨ht,n,rfl,rfl⟩,λi y r h=>by cases h⟩
end
end Sy
namespace Sy
open Pa
theorem alI(lo hi:Int):nz ([(lo,hi)]:w5)=some (nh lo hi):=by
 have e:nz ([(lo,hi)])=aj (o9 [(lo,hi)]) au 0:=rfl;rw [e];obtain ⟨m,hm⟩:∃m,au=m+2:=⟨18446744073709551614,rfl⟩;rw [hm,show m+2=(m+1)+1 from rfl,ao];have i0:idx ([(lo,hi)]) 0=some (lo,hi):=rfl;simp [o9,i0,ah,aM];unfold nh;cases decide (hi<lo)
 case true=>rfl
 simp [j6,dU,ah,mE];cases decide (lo< -1073741824)
 case true=>rfl
 simp [j6,dU,ah,mE];cases decide (1073741824<hi)
 case true=>rfl
 simp [j6,dU,ah,mE];cases decide (65535<i64.wrap (hi-lo))
 .rfl
 .rfl
section
variable {l : List Tok} (hl : l.length < 1099511627776) (htok :∀t ∈ l, ju t) (hnum :∀t ∈ l, CE t)
variable {st : Except iy (List Tok)} {a b p : Int} (N : List aE) (S_ : List (Int × Int)) (I : zj) (Q : List aE) (C : List aT)
variable (hN : N.length < 1099511627776) (hS : S_.length < 1099511627776) (hI : I.length < 1099511627776) (hQ : Q.length < 1099511627776) (hC : C.length < 1099511627776)
include hl hN hS hI hQ in
theorem aqT(h:St l st a b p):∃a' F E G b' p',gZ l a N S_ I Q C b p=some (a',F,E,G,b',p')/\St l (bz st (rK (N,S_,I,Q,C))) a' b' p'/\
  (∀f m r,st= .ok f->rK (N,S_,I,Q,C) f= .ok (m,r)->m=(F,E,G,Q,C)):=by
 obtain ⟨d,a1,b1,p1,n,R,Z⟩:=aeD hl N S_ I Q C h hN hQ (decide (16<=(List.length N:Int)));obtain ⟨q,e0,v0⟩:=aeA N S_ I Q C R;obtain ⟨lo,a2,b2,p2,e2,s2,Y⟩:=abU hl N S_ I Q C R;obtain ⟨hi,a3,b3,p3,e3,s3,X⟩:=abU hl N S_ I Q C s2;obtain ⟨g,a4,b4,p4,e4,s4,W⟩:=abU hl N S_ I Q C s3;obtain ⟨P,U,S,e5,o⟩:=DB hl N S_ I Q C s4 [59];have k1:aH (List.length N+List.length ([d]:List aE)) 16=true:=dw (by simp;omega) (by simp;omega);have k2:aH (List.length S_+List.length ([(lo,hi)]:w5)) 16=true:=dw (by simp;omega) (by simp;omega);have k3:aH (List.length I+List.length ([g]:zj)) 8=true:=dw (by simp;omega) (by simp;omega);have hK:∀v u,jz N S_ I (d,a1,b1,p1) (lo,a2,b2,p2) (hi,a3,b3,p3) (g,a4,b4,p4) (P,U,S) v u=some (P,N++[d],S_++[(lo,hi)],I++[g],v,u):=λv u=>by unfold jz;rw [aP k1,aP k2,aP k3]
 unfold gZ;simp only [n,ah,e0,e2,e3,e4,e5,alI,aM,hK]
 -- where it is wrong
 have O:∀e:iy,bO (bz (bz (bz (bz st (fP (decide (16<=(List.length N:Int))) N Q)) gz) gz) gz) (cd [59])= .error e->
   (bz st (rK (N,S_,I,Q,C)))= .error e:=by
  intro e c;cases st with
  |error e'=>simp only [bz,bO] at c ⊢; exact c
  |ok f=>
   simp only [bz,bO,rK] at c ⊢;cases k:fP (decide (16<=(List.length N:Int))) N Q f with
   |error n=>rw [k] at c;simp only [rest] at c ⊢; exact c
   |ok M=>
    rw [k] at c;simp only [rest] at c ⊢;cases j:gz M.2 with
    |error n=>rw [j] at c;simp only [] at c ⊢; exact c
    |ok L=>
     rw [j] at c;simp only [] at c ⊢;cases z:gz L.2 with
     |error n=>rw [z] at c;simp only [] at c ⊢; exact c
     |ok K=>
      rw [z] at c;simp only [] at c ⊢;cases H:gz K.2 with
      |error n=>rw [H] at c;simp only [] at c ⊢; exact c
      |ok q4=>
       rw [H] at c;simp only [] at c ⊢;rw [c]
 cases j7:bO (bz (bz (bz (bz st (fP (decide (16<=(List.length N:Int))) N Q)) gz) gz) gz) (cd [59]) with
 |error e=>
  have hb:=O e j7;rw [j7] at o;have t:=Ek (l:=l) N S_ I Q C (b:=U) (by rw [o.2.2.1];exact o.2.1) 5 q P S;rw [hb];have V:∀F E G,∀f m r,st= .ok f->rK (N,S_,I,Q,C) f= .ok (m,r)->m=(F,E,G,Q,C):=λF E G f m r k j=>by subst k;simp only [bz,bO,j,rest] at hb;cases hb
  cases (!(nh lo hi)||decide (g<lo)||decide (hi<g))
  .simp only [b7];exact ⟨_,_,_,_,_,_,rfl,o,V _ _ _⟩
  .simp only [ca,t,ah];exact ⟨_,_,_,_,_,_,rfl,o,V _ _ _⟩
 |ok w=>
  rw [j7] at o;cases st with
  |error e'=>simp only [bz,bO] at j7;cases j7
  |ok f=>
   simp only [bz,bO] at j7;cases k:fP (decide (16<=(List.length N:Int))) N Q f with
   |error n=>rw [k] at j7;cases j7
   |ok M=>
    obtain ⟨s,i⟩:=M;rw [k] at j7;simp only [rest] at j7;have en:d=s:=Z _ _ _ rfl k;have t1:bz (.ok f) (fP (decide (16<=(List.length N:Int))) N Q)= .ok i:=by simp only [bz,bO,k,rest]
    have eq:q=SK i:=v0 _ t1;cases j:gz i with
    |error n=>rw [j] at j7;cases j7
    |ok L=>
     obtain ⟨lo',y⟩:=L;rw [j] at j7;simp only at j7;have e2'  :=Y _ _ _ t1 j;have t2:bz (bz (.ok f) (fP (decide (16<=(List.length N:Int))) N Q)) gz= .ok y:=by rw [t1];simp [bz,bO,j,rest]
     cases z:gz y with
     |error n=>rw [z] at j7;cases j7
     |ok K=>
      obtain ⟨hi',x⟩:=K;have e3'  :=X _ _ _ t2 z;have t3:bz (bz (bz (.ok f) (fP (decide (16<=(List.length N:Int))) N Q)) gz) gz= .ok x:=by grind [bz,bO,rest]
      cases H:gz x with
      |error n=>grind
      |ok q4=>
       have e4'  :=W _ _ _ t3 H;have hv:rK (N,S_,I,Q,C) f=(bif !(nh lo hi)||decide (g<lo)||decide (hi<g) then .error (5,SK i) else .ok ((N++[d],S_++[(lo,hi)],I++[g],Q,C),w)):=by grind [rK]
       simp [bz,bO,hv];obtain ⟨T,D,B,A,rfl,rfl⟩:=o;cases hq:(!(nh lo hi)||decide (g<lo)||decide (hi<g))
       .exact ⟨_,_,_,_,_,_,rfl,⟨T,D,B,A,rfl,rfl⟩,λJ m r h5 h6=>by grind⟩
       .refine ⟨_,_,_,_,_,_,rfl,?_,λJ m r h5 h6=>by grind⟩;have hat:=St.at (st:= .ok w) ⟨T,D,B,A,rfl,rfl⟩;exact ⟨hat,rfl,rfl,eq⟩
end
end Sy
namespace Sy
open Pa
section
variable {l : List Tok} (hl : l.length < 1099511627776) (htok :∀t ∈ l, ju t) (hnum :∀t ∈ l, CE t)
variable {st : Except iy (List Tok)} {a b p : Int} (N : List aE) (S_ : List (Int × Int)) (I : zj) (Q : List aE) (C : List aT)
variable (hN : N.length < 1099511627776) (hQ : Q.length < 1099511627776) (hC : C.length < 1099511627776)
theorem SF(acc:List (Int×Ex))(f:acc.length<4611686018427387904)(again)(e:Tok)(i:Int)(a b p:Int):∀(r pre:List (Int×Ex)),acc=pre++r->∀(M:Nat) (c:Bool),r.length<M->
  aj (cF l N S_ I Q C a b p acc again e i) M (c,(pre.length:Int))=cF l N S_ I Q C a b p acc again e i (λ_=>none) (c||Dk r i,(acc.length:Int))
 |[],pre,h,M,c,hM=>by
  obtain ⟨m,rfl⟩:∃m,M=m+1:=⟨M-1,by omega⟩;simp_all [ao,cF,Dk,List.any_nil]
 |x::r,pre,h,M,c,hM=>by
  obtain ⟨m,rfl⟩:∃m,M=m+1:=⟨M-1,by omega⟩;rw [ao];have d:pre.length<4611686018427387904:=by grind
  have ih:=λc=>SF acc f again e i a b p r (pre++[x]) (by rw [h];simp) m c (by simp at hM;omega);rw [show ((pre++[x]).length)=((pre.length+1:Nat)) by simp] at ih;have j:∀k:(Int×Ex)->Option (Int×List aT×Int×Int),bC (!c) (0,Ex.mk 0 0 0 []) (some x) k=k (bif c then (0,Ex.mk 0 0 0 []) else x):=λk=>by cases c <;> rfl
  refine Eq.trans (b:=bif decide ((pre.length:Int)<(List.length acc)) then (bC (!c) (0,(Ex.mk 0 0 0 [])) (idx acc (pre.length)) λg=>aj (cF l N S_ I Q C a b p acc again e i) m (c||(g.1==i),i64.wrap ((pre.length)+1))) else none) ?_ ?_
  .simp only [cF,uM h,ca,aM]
  .rw [uM h,ca,lL h,j,bR d,ih];grind [Dk]
include hl hC in
theorem Vf(f:Ex×Int×Int×Int)(acc:List (Int×Ex))(c:Bool)(M:Nat)(h:St l st a b p)(hm:(c&&(b==0))=false):
  ∃e d p',aj (db l N S_ I Q C f) (M+1) (a,b,p,acc,c)=some (e,C++[(i64.wrap ((Q.length:Int)-1),f.1,acc)],d,p')/\St l (bO st (cd [59])) e d p':=by
 obtain ⟨e,d,p',g,i⟩:=DB hl N S_ I Q C h [59];rw [ao];simp only [db,aM,g,ah];have k1:∀x:aT,aH (List.length C+List.length ([x])) 80=true:=λx=>dw (by simp;omega) (by simp;omega);rw [aP (k1 _)];grind
include hl htok hnum hN in
theorem asb(acc:List (Int×Ex))(g:acc.length<1099511627776)(again)(i:Int)(h:St l st a b p):
  ∃x a' b' p',gb l N S_ I Q C acc again i b p a=again (a',b',p',acc++[(i,x)],Fc 3 [44] (bz (bO st (cd [61])) (eI 1 N)))/\
   St l (match bz (bO st (cd [61])) (eI 1 N) with|.ok c=>(bif uj 3 [44] c then .ok c.tail else .ok c)|.error e=> .error e) a' b' p'/\Uc (bO st (cd [61])) (eI 1 N) x:=by
 obtain ⟨y,v,p1,s,m⟩:=DB hl N S_ I Q C h [61];obtain ⟨x,w,u,p2,q,d,j⟩:=aed hl htok hnum N S_ I Q C m hN 1;have e3:=Kq N S_ I Q C d 3 [44];have k1:aH (List.length acc+List.length ([(i,x)])) 56=true:=dw (by simp;omega) (by simp;omega);unfold gb;simp only [s,ah,q,aP k1,e3];cases j7:bz (bO st (cd [61])) (eI 1 N) with
 |error e=>
  simp [Fc];grind
 |ok c=>
  rw [j7] at d;simp [Fc];cases o:uj 3 [44] c
  .grind
  .obtain ⟨k,t,r,rfl,rfl,hd,n,rfl,rfl,hx,hm,f,hk⟩:=d.ok;refine ⟨x,_,_,_,rfl,?_,j⟩;rw [bR (by omega)];exact ⟨k+1,rfl,f,(oT n (by decide) o).1,rfl,rfl⟩
include hl htok hnum hN hC in
theorem apq(A:Ex×Int×Int×Int):∀(n:Nat) (w:List Tok) (acc:List (Int×Ex)) (a:Int) (M f:Nat),w.length<=n->n+2<=M->w.length<f->acc.length+w.length<1099511627776->St l (.ok w) a 0 0->
  ∃a' C' b' p',aj (db l N S_ I Q C A) M (a,0,0,acc,true)=some (a',C',b',p')/\St l (bO (rest (fN N f acc w)) (cd [59])) a' b' p'/\
   (∀sets r,fN N f acc w= .ok (sets,r)->C'=C++[(i64.wrap ((Q.length:Int)-1),A.1,sets)]):=by
 intro n
 induction n with
 |zero=>
  intro w acc a M f V _ _ _ O;obtain ⟨k,t,r,_,rfl,_⟩:=O.ok;simp at V
 |succ n ih=>
  intro w acc a M f V h2 h3 h4 O;obtain ⟨M,rfl⟩:∃m,M=m+1:=⟨M-1,by omega⟩;obtain ⟨f,rfl⟩:∃m,f=m+1:=⟨f-1,by omega⟩;obtain ⟨k,t,r,rfl,rfl,hd,he,_,_,hx,hm,R,hk⟩:=O.ok;rw [ao];generalize U:aj (db l N S_ I Q C A) M=i;simp only [db,aM,qc,q8,ca,hx,ah,QQ (show N.length<4611686018427387904 by omega)];have D:=SF (l:=l) N S_ I Q C acc (by omega) i t (fc N t.2.1) (k:Int) 0 0 acc [] rfl au false (by show acc.length<2^64;omega);rw [show (([]:List (Int×Ex)).length:Int)=0 from rfl,mE] at D;rw [D];simp only [cF,cy (show ¬((acc.length:Int)<(List.length acc:Int)) by omega),b7,aM,S1,ah]
  -- the state behind the name
  have step:∀(st1:Except iy (List Tok)) (c b p:Int),St l st1 c b p->(st1= .ok r\/∃e,st1= .error e)->
    fN N (f+1) acc (t::r)=(match st1 with
     | .error e=> .error e
     | .ok r0=>match cd [61] r0 with
      | .error e=> .error e
      | .ok r1=>match eI 1 N r1 with
       | .error e=> .error e
       | .ok (x,r2)=>bif uj 3 [44] r2 then fN N f (acc++[(fc N t.2.1,x)]) r2.tail else .ok (acc++[(fc N t.2.1,x)],r2))->
    ∃a' C' b' p',gb l N S_ I Q C acc i (fc N t.2.1) b p c=some (a',C',b',p')/\St l (bO (rest (fN N (f+1) acc (t::r))) (cd [59])) a' b' p'/\
     (∀sets K,fN N (f+1) acc (t::r)= .ok (sets,K)->C'=C++[(i64.wrap ((Q.length:Int)-1),A.1,sets)]):=by
   intro st1 c b p j sx g;obtain ⟨x,a1,b1,p1,e1,o,Z⟩:=asb hl htok hnum N S_ I Q C hN acc (by omega) i (fc N t.2.1) j;rw [e1,<-U];have hM1:1<=M:=by omega
   obtain ⟨M',rfl⟩:∃m,M=m+1:=⟨M-1,by omega⟩;cases d:bz (bO st1 (cd [61])) (eI 1 N) with
   |error e=>
    rw [d] at o;simp only [Fc] at o ⊢;obtain ⟨X,W,p2,H,B⟩:=Vf hl N S_ I Q C hC A (acc++[(fc N t.2.1,x)]) false M' o rfl;have E:fN N (f+1) acc (t::r)= .error e:=by
     rw [g];cases st1 with
     |error e'=>simp only [bz,bO] at d ⊢; cases d;rfl
     |ok r0=>
      simp only [bz,bO] at d ⊢;cases u:cd [61] r0 with
      |error e'=>rw [u] at d;simp only at d ⊢; cases d;rfl
      |ok r1=>
       rw [u] at d;simp only at d ⊢;cases s:eI 1 N r1 with
       |error e'=>rw [s] at d;simp only [rest] at d ⊢; cases d;rfl
       |ok q=>rw [s] at d;simp only [rest] at d;cases d
    rw [E];exact ⟨_,_,_,_,H,B,λsets K h=>by cases h⟩
   |ok r2=>
    rw [d] at o;simp only [Fc] at o ⊢;obtain ⟨r0,r1,J,v,z,y⟩:∃r0 r1 J,st1= .ok r0/\cd [61] r0= .ok r1/\eI 1 N r1= .ok (J,r2):=by
     cases st1 with
     |error e'=>simp only [bz,bO] at d;cases d
     |ok r0=>
      simp only [bz,bO] at d;cases u:cd [61] r0 with
      |error e'=>rw [u] at d;cases d
      |ok r1=>
       rw [u] at d;simp only at d;cases s:eI 1 N r1 with
       |error e'=>rw [s] at d;cases d
       |ok q=>rw [s] at d;simp only [rest] at d;cases d;exact ⟨r0,r1,q.1,rfl,u,s⟩
    have L:x=J:=Z r1 J r2 (by rw [v];simp only [bO,z]) y;subst L;rw [v] at g;simp only [z,y] at g;have F:r0=r:=by rcases sx with h|⟨e,h⟩ <;> rw [v] at h <;> cases h;rfl
    subst F;have P:Pa.Ends r0:=by
     rw [v] at j;exact (j.ok).choose_spec.choose_spec.choose_spec.2.2.2.1 |> λh=>by have:=(j.ok).choose_spec.choose_spec.choose_spec.2.1;rw [this];exact h
    have u:=np P z;have s:=(ui u.1 y).1;have q2':r2.length<r1.length:=s.2;have q1':r1.length<r0.length:=u.2;cases S:uj 3 [44] r2
    .rw [S] at o g;simp only [b7] at o g;obtain ⟨X,W,p2,H,B⟩:=Vf hl N S_ I Q C hC A (acc++[(fc N t.2.1,x)]) false M' o rfl;rw [g];exact ⟨_,_,_,_,H,B,λsets K h=>by cases h;rfl⟩
    .rw [S] at o g;simp only [ca] at o g;obtain ⟨t1,t2⟩:=oT s.1 (by decide) S;have t2':r2.tail.length+1=r2.length:=t2;have G:(acc++[(fc N t.2.1,x)]).length=acc.length+1:=by simp
     simp only [eb] at V h3 h4;have T:b1=0/\p1=0:=by obtain ⟨_,_,_,_,h5,h6⟩:=o;exact ⟨h5,h6⟩
     obtain ⟨rfl,rfl⟩:=T;obtain ⟨X,C2,W,p2,H,B,Y⟩:=ih r2.tail (acc++[(fc N t.2.1,x)]) a1 (M'+1) f (by omega) (by omega) (by omega) (by rw [G];omega) o;rw [g];exact ⟨_,_,_,_,H,B,Y⟩
  cases c1:(t.1 != 1)
  case true=>
   simp only [ca,jW,show ((2:Int)==0)=false from rfl,b7];refine step (.error (2,t.2.2.2)) (k) 2 t.2.2.2 ⟨⟨t,hx⟩,rfl,rfl,rfl⟩ (.inr ⟨_,rfl⟩) ?_;simp [fN,c1,ca]
  cases c2:(decide (fc N t.2.1<0)||Dk acc (fc N t.2.1))
  case true=>
   refine step (.error (3,t.2.2.2)) (k) 3 t.2.2.2 ⟨⟨t,hx⟩,rfl,rfl,rfl⟩ (.inr ⟨_,rfl⟩) ?_;simp [fN,c1,b7,c2,ca]
  simp [jW,bR (show k<4611686018427387904 by omega)];have ht1  :=by simpa using c1
  refine step (.ok r) ((k+1:Nat)) 0 0 ⟨k+1,rfl,R,he.tail (by omega),rfl,rfl⟩ (.inl rfl) ?_;simp [fN,b7];grind
include hl htok hnum hN hC in
theorem aiJ(h:St l st a b p):∃a' C' b' p',gf l a N S_ I Q C b p=some (a',C',b',p')/\
  St l (bO (bO (bz st (eI 2 N)) (cd [58])) (λr2=>bO (rest (fN N (r2.length+1) [] r2)) (cd [59]))) a' b' p'/\
  (∀d g r1 r2 sets i,st= .ok d->eI 2 N d= .ok (g,r1)->cd [58] r1= .ok r2->fN N (r2.length+1) [] r2= .ok (sets,i)->C'=C++[(i64.wrap ((Q.length:Int)-1),g,sets)]):=by
 obtain ⟨x,o,n,p1,z,r,q⟩:=aed hl htok hnum N S_ I Q C h hN 2;obtain ⟨H,B,p2,y,c⟩:=DB hl N S_ I Q C r [58];unfold gf;simp [z,ah,y];cases m:bO (bz st (eI 2 N)) (cd [58]) with
 |error e=>
  rw [m] at c;have hb:(false)=(B==0):=by rw [c.2.2.1];exact c.2.1.symm
  obtain ⟨D,A,t,e3,f⟩:=Vf hl N S_ I Q C hC (x,o,n,p1) [] true 18446744073709551615 c (by rw [<-hb];rfl);rw [show au=18446744073709551615+1 from rfl,e3];grind [bz,bO,rest]
 |ok r2=>
  rw [m] at c;obtain ⟨k,rfl,hd,u,rfl,rfl⟩:=c;have j:r2.length<=l.length:=by rw [<-hd];simp
  obtain ⟨D,J,A,t,e3,f,E⟩:=apq hl htok hnum N S_ I Q C hN hC (x,o,n,p1) r2.length r2 [] (k) au (r2.length+1) (cH _) (by show _<=2^64;omega) (by omega) (by simp;omega) ⟨k,rfl,hd,u,rfl,rfl⟩;refine ⟨_,_,_,_,e3,f,λd g r1 s sets i w v G F=>?_⟩;subst w;have hx  :=q d g r1 rfl v;grind [bz,bO,rest]
include hl htok hnum hN hC in
theorem arf(h:St l st a b p):∃g i f p',iC l a N S_ I Q C b p=some (g,i,f,p')/\St l (bz st (nO (N,S_,I,Q,C))) g f p'/\
  (∀c m r,st= .ok c->nO (N,S_,I,Q,C) c= .ok (m,r)->m=(N,S_,I,Q,i)):=by
 unfold iC;have key:∀(st1:Except iy (List Tok)) (o p1:Int),St l st1 a o p1->((∃e,st1= .error e/\bz st (nO (N,S_,I,Q,C))= .error e)\/(st1=st/\decide (256<=(C.length:Int))=false))->
   ∃g i f p',gf l a N S_ I Q C o p1=some (g,i,f,p')/\St l (bz st (nO (N,S_,I,Q,C))) g f p'/\
    (∀c m r,st= .ok c->nO (N,S_,I,Q,C) c= .ok (m,r)->m=(N,S_,I,Q,i)):=by
  intro st1 o p1 v j;obtain ⟨g,i,f,p',y,s,A⟩:=aiJ hl htok hnum N S_ I Q C hN hC v;refine ⟨g,i,f,p',y,?_,?_⟩
  .rcases j with ⟨e,rfl,n⟩|⟨rfl,hd⟩
   .rw [n];exact s
   .have:bz st1 (nO (N,S_,I,Q,C))=bO (bO (bz st1 (eI 2 N)) (cd [58])) (λr2=>bO (rest (fN N (r2.length+1) [] r2)) (cd [59])):=by
     cases st1 with
     |error e=>rfl
     |ok c=>
      simp [bz,bO,nO,hd];cases eI 2 N c with
      |error e=>rfl
      |ok q=>
       simp [rest];cases cd [58] q.2 with
       |error e=>rfl
       |ok r2=>
        simp only;cases fN N (r2.length+1) [] r2 with
        |error e=>rfl
        |ok u=>
         simp only;cases cd [59] u.2 <;> rfl
    rw [this];exact s
  .intro c m r D x;rcases j with ⟨e,rfl,n⟩|⟨rfl,hd⟩
   .grind [bz,bO,rest]
   .simp [nO,hd] at x;grind
 cases hd:decide (256<=(List.length C:Int))
 .simp [aM];grind
 .simp only [aM];obtain ⟨q,z,B⟩:=aeA N S_ I Q C h;rw [z,ah];cases st with
  |ok c=>
   obtain ⟨k,t,r,rfl,rfl,w,n,rfl,rfl,hx,_⟩:=h.ok;refine key (.error (9,q)) 9 q ⟨⟨t,hx⟩,rfl,rfl,rfl⟩ (.inl ⟨_,rfl,?_⟩);simp_all [bz,bO,nO,rest]
  |error e=>
   have n:=h.2.1;have d:=h;obtain ⟨_,_,rfl,rfl⟩:=d;rw [Ek N S_ I Q C n,ah];exact key (.error e) e.1 e.2 h (.inl ⟨e,rfl,rfl⟩)
end
end Sy
variable {α ρ : Type}
namespace Lx
theorem bP(xs:List α)(k:Nat):idx xs (k:Int)=xs[k]? :=by simp [idx]
theorem fk{α:Type}{xs:List α}{k:Nat}(h:k<xs.length):idx xs (k:Int)=some xs[k]:=by rw [bP,b9 h]
theorem ao{σ:Type}(F:(σ->Option ρ)->σ->Option ρ)(n:Nat)(s:σ):aj F (n+1) s=F (aj F n) s:=rfl
theorem oU(k:Option ρ):aN true k=k:=rfl
theorem Kx(c:Bool)(k:Option ρ):KG false c k=k:=rfl
theorem Gi(k:Option ρ)(g:Bool):KG g true k=k:=by cases g <;> rfl
theorem sy(d:α)(m:Option α)(k:α->Option ρ):bC true d m k=m.bind k:=rfl
theorem Ny(d:α)(m:Option α)(k:α->Option ρ):bC false d m k=k d:=rfl
theorem kG(x:α)(k:α->Option ρ):(some x).bind k=k x:=rfl
theorem mJ(x:α)(k:α->Option ρ):ai x k=k x:=rfl
theorem ug{i:Int}{n:Nat}(b:0<=i)(a:i<n):um i n=true:=n5.2 ⟨b,a⟩
theorem Ge{i j:Int}{n:Nat}(c:0<=i)(b:i<=j)(a:j<=n):cZ i j n=true:=wy.2 ⟨⟨c,b⟩,a⟩
theorem C6{k b:Nat}(h:k*b<=140737488355328)(a:k<=9223372036854775807):aH k b=true:=by simp_all [aH,ar]
theorem J2(l:aE)(k:Nat)(h:k<l.length):mS l (k:Int)=(l[k].toNat:Int):=by simp [mS,h]
theorem an1(l:aE)(i j:Nat):cut l (i:Int) (j:Int)=(l.drop i).take (j-i):=rfl
theorem vZ{p:Prop}[Decidable p](h:p):decide p=true:=cx h
theorem CL{p:Prop}[Decidable p](h:¬p):decide p=false:=cy h
theorem AD:au=18446744073709551616:=rfl
abbrev Tok:=Int×aE×Int×Int
def jI(c:UInt8):Bool:=c==32||c==9||c==10||c==13
def gW(c:UInt8):Bool:=(decide (97<=c)&&decide (c<=122))||(decide (65<=c)&&decide (c<=90))||c==95
def isDigit(c:UInt8):Bool:=decide (48<=c)&&decide (c<=57)
def fF(c:UInt8):Bool:=gW c||isDigit c
def GL(c:UInt8):Bool:=c != 10
theorem Gx(c d:UInt8):((c.toNat:Int)==(d.toNat:Int))=(c==d):=by grind [UInt8.toNat_inj]
theorem Wg(c d:UInt8):decide ((c.toNat:Int)<=(d.toNat:Int))=decide (c<=d):=by simp_all [so]
theorem tV{p:UInt8->Bool}:∀(l:aE) (k:Nat),(∀i (h:i<l.length),i<k->p l[i]=true)->k<=l.length->(∀h:k<l.length,p l[k]=false)->l.takeWhile p=l.take k
  |[],k,_,hk,_=>by simp
  |c::l,0,_,_,h2=>by
    simp_all
  |c::l,k+1,h1,hk,h2=>by
    have a:=h1 0 (by simp) (by omega);simp at a;rw [List.takeWhile_cons,du a,qZ,tV l k (λi h b=>by
      grind) (by simpa using hk) (λh=>by
      grind)]
theorem run_gen{p:UInt8->Bool}{f:Int->x3}(j:∀c:UInt8,f (c.toNat:Int)=some (p c)){text:aE}(d:text.length<9223372036854775807)
    {F:(Int->Option aE)->Int->Option aE}
    (l:∀again t1,F again t1=bif (decide (t1<(List.length text:Int))) then (aN (um t1 (List.length text))<|(f (mS text t1)).bind λg=>bif (!g) then (aN (cZ 0 t1 (List.length text))<|some (cut text 0 t1)) else (again (i64.wrap (t1+1)))) else (some text)):
    aj F au 0=some (text.takeWhile p):=by
  have key:∀N k,k<=text.length->text.length-k<N->(∀i (h:i<text.length),i<k->p text[i]=true)->aj F N ((k:Nat):Int)=some (text.takeWhile p):=by
    intro N
    induction N with
    |zero=>intro k _ h;omega
    |succ N ih=>
      intro k hk hN hp;rw [ao,l];by_cases b:k<text.length
      . rw [vZ (by omega),ca,ug (by omega) (by omega),oU,J2 _ _ b,j,kG];cases a:p text[k]
        . simp only [j6,ca];rw [Ge (by omega) (by omega) (by omega),oU,tV text k hp hk (λ_=>a)];simp [cut]
        . simp only [qf,b7];rw [bG (by omega)];exact ih (k+1) (by omega) (by omega) (λi h hi=>by
            rcases qC i k with e|e
            . exact hp i h e
            . have:i=k:=by omega
              subst this;exact a)
      . rw [CL (by omega),b7,tV text k hp hk (λh=>absurd h b),fb (by omega)]
  exact key au 0 (by omega) (by rw [AD];omega) (λi _ h=>by omega)
def Ac(c:UInt8):Int:=(c.toNat:Int)-48
def gH(n:Int)(s:aE):Int:=s.foldl (λn c=>10*n+Ac c) n
def tR(n:Int):Bool:=decide (1073741824<n)
theorem RX{c:UInt8}(h:isDigit c=true):0<=Ac c/\Ac c<=9:=by simp [isDigit,so] at h;unfold Ac;grind
theorem DV:∀(s:aE) (n:Int),0<=n->s.all isDigit=true->n<=gH n s
  |[],n,_,_=>pF _
  |c::s,n,hn,h=>by simp only [qm,ar] at h;have hd:=RX h.1;have:=DV s (10*n+Ac c) (by omega) h.2;grind [gH,Ac]
def cX:List aE:=[[60,45,62],[45,62],[61,61],[33,61],[60,61],[62,61],[60],[62],[61],[43],[45],[42],[40],[41],[123],[125],[59],[44],[58],[38],[124],[33]]
def fV(s:aE):aE:=(cX.find? (λg=>g.isPrefixOf s)).getD []
inductive Step where
  |skip (k:Nat)
  |err (e:Int)
  |tok (k:Int) (t:aE) (n:Int)
def step:aE->Step
  |[]=> .skip 0
  |c::s=>
    if jI c then .skip 1
    else if c==35 then .skip ((c::s).takeWhile GL).length
    else if gW c then (if 32<((c::s).takeWhile fF).length then .err 9 else .tok 1 ((c::s).takeWhile fF) 0)
    else if isDigit c then (if tR (gH 0 ((c::s).takeWhile isDigit)) then .err 9 else .tok 2 ((c::s).takeWhile isDigit) (gH 0 ((c::s).takeWhile isDigit)))
    else if fV (c::s)==[] then .err 2 else .tok 3 (fV (c::s)) 0
def p8:Nat->Nat->aE->Except (Int×Int) (List Tok)
  |0,_,_=> .ok []
  |_+1,at_,[]=> .ok [(4,[],0,(at_:Int))]
  |f+1,at_,c::s=>
    match step (c::s) with
    | .skip k=>p8 f (at_+k) ((c::s).drop k)
    | .err e=> .error (e,at_)
    | .tok k t n=>match p8 f (at_+t.length) ((c::s).drop t.length) with
      | .ok l=> .ok ((k,t,n,(at_:Int))::l)
      | .error e=> .error e
def res:Except (Int×Int) (List Tok)->List Tok×Int×Int
  | .ok l=>(l,0,0)
  | .error e=>([],e.1,e.2)
def tokens(s:aE):List Tok×Int×Int:=if 65536<s.length then ([],9,0) else res (p8 (s.length+1) 0 s)
theorem Lp(p:UInt8->Bool):∀s:aE,(s.takeWhile p).all p=true
  |[]=>rfl
  |c::s=>by
    rw [List.takeWhile_cons];split
    . simp_all
    . rfl
theorem v8(p:UInt8->Bool)(s:aE):(s.takeWhile p).length<=s.length:=(sv p).length_le
theorem nX{p:UInt8->Bool}{c:UInt8}{s:aE}(h:p c=true):1<=((c::s).takeWhile p).length:=by simp_all
theorem wL{c:UInt8}(h:gW c=true):fF c=true:=by simp [fF,h]
theorem Xl:∀g∈cX,1<=g.length:=by decide
theorem Ke{s:aE}(h:(fV s==[])=false):fV s∈cX/\fV s <+: s/\cX.find? (λg=>g.isPrefixOf s)=some (fV s):=by
  unfold fV at*;cases a:cX.find? (λg=>g.isPrefixOf s) with
  |none=>rw [a] at h;simp at h
  |some g=>
    grind
theorem step_take{c:UInt8}{s:aE}(hb:jI c=false)(e:(c==35)=false){k:Int}{t:aE}{n:Int}(h:step (c::s)= .tok k t n):1<=t.length/\t <+: (c::s):=by
  simp only [step,hb,e,eF] at h;cases a:gW c
  . simp only [a,eF] at h;cases b:isDigit c
    . simp only [b,eF] at h;cases d:(fV (c::s)==[])
      . grind [Ke,Xl]
      . simp [d] at h
    . simp [b,q6] at h;split at h
      . cases h
      . grind [nX,List.takeWhile_prefix]
  . simp [a,q6] at h;split at h
    . cases h
    . grind [nX,wL,List.takeWhile_prefix]
def NG(out:List Tok):Except (Int×Int) (List Tok)->List Tok×Int×Int
  | .ok l=>(out++l,0,0)
  | .error e=>([],e.1,e.2)
theorem Yg{s:aE}{k:Nat}{c:UInt8}{r:aE}(h:s.drop k=c::r):∃hk:k<s.length,s[k]=c:=by grind [Nat.lt_or_ge,List.drop_of_length_le,List.drop_eq_getElem_cons,List.cons.inj]
theorem arx{c:UInt8}{s:aE}{e:Int}(h:step (c::s)= .err e):e≠0:=by grind [step]
theorem Ma{σ:Type}{F:(σ->Option ρ)->σ->Option ρ}(p:UInt8->Bool)(s:aE)(st:Nat->σ)(r:Nat->Option ρ)
    (go:∀again k (h:k<s.length),p s[k]=true->(∀i (hi:i<s.length),i<k->p s[i]=true)->F again (st k)=again (st (k+1)))
    (a:∀again k (h:k<s.length),p s[k]=false->F again (st k)=r k)
    (last:∀again,F again (st s.length)=r s.length) (N:Nat) (hN:s.length<N):aj F N (st 0)=r (s.takeWhile p).length:=by
  have key:∀N k,k<=s.length->s.length-k<N->(∀i (h:i<s.length),i<k->p s[i]=true)->aj F N (st k)=r (s.takeWhile p).length:=by
    intro N
    induction N with
    |zero=>omega
    |succ N ih=>
      intro k hk hN hp;rw [ao];by_cases c:k<s.length
      . cases b:p s[k]
        . rw [a _ k c b,tV s k hp hk (λ_=>b),dh,hV hk]
        grind
      . have:k=s.length:=by omega
        subst this;rw [last,tV s s.length hp (cH _) (λh=>absurd h c),dh,Nat.min_self]
  grind
def kindOf(c:UInt8):Int:=if jI c then 0 else if gW c then 1 else if isDigit c then 2 else 3
theorem acd(c:UInt8):jI c=(((c==9||c==10)||c==13)||c==32):=by grind [jI]
theorem IS(c:UInt8):gm (c.toNat:Int)=some (kindOf c):=by unfold gm;simp [mJ];have e:=Gx c 32;have d:=Gx c 9;have b:=Gx c 10;have a:=Gx c 13;have k1:=Wg 97 c;have i:=Wg c 122;have h:=Wg 65 c;have g:=Wg c 90;have f:=Gx c 95;have d1:=Wg 48 c;have d2:=Wg c 57;rw [show ((32:Int)=((32:UInt8).toNat)) from rfl,show ((9:Int)=((9:UInt8).toNat)) from rfl,show ((10:Int)=((10:UInt8).toNat)) from rfl,show ((13:Int)=((13:UInt8).toNat)) from rfl,e,d,b,a,<-acd];unfold kindOf;have k:((decide (97<=c)&&decide (c<=122))||(decide (65<=c)&&decide (c<=90))||c==95)=gW c:=rfl;have j:(decide (48<=c)&&decide (c<=57))=isDigit c:=rfl;grind
def dq(n:Int)(s:aE):Int:=s.foldl (λn c=>if n<=1073741824 then 10*n+Ac c else n) n
theorem aby:∀(s:aE) (n:Int),1073741824<n->dq n s=n
  |[],_,_=>rfl
  |c::s,n,h=>by show dq (if n<=1073741824 then 10*n+Ac c else n) s=n;rw [dk (by omega)];exact aby s n h
theorem ad1:∀(s:aE) (n:Int),0<=n->s.all isDigit=true->(tR (gH n s)=false->dq n s=gH n s)/\(tR (gH n s)=true->1073741824<dq n s)
  |[],n,_,_=>⟨λ_=>rfl,λh=>qK (show decide (1073741824<n)=true from h)⟩
  |c::s,n,hn,h=>by
    simp only [qm,ar] at h;have hd:=RX h.1;have ih:=ad1 s (10*n+Ac c) (by omega) h.2;have b:gH n (c::s)=gH (10*n+Ac c) s:=rfl;have a:dq n (c::s)=dq (if n<=1073741824 then 10*n+Ac c else n) s:=rfl;by_cases hb:n<=1073741824
    . grind
    . grind [DV,Ac,tR,aby]
theorem NU:∀(s:aE) (n:Int),0<=n->n<=10737418249->s.all isDigit=true->0<=dq n s/\dq n s<=10737418249
  |[],n,h,h',_=>⟨h,h'⟩
  |c::s,n,h,h',hd=>by
    simp only [qm,ar] at hd;have a:=RX hd.1;show 0<=dq (if n<=1073741824 then 10*n+Ac c else n) s/\dq (if n<=1073741824 then 10*n+Ac c else n) s<=10737418249;split
    . exact NU s _ (by omega) (by omega) hd.2
    . exact NU s _ h h' hd.2
theorem ajP(s:aE)(k:Nat)(h:k<s.length):dq 0 (s.take (k+1))=if dq 0 (s.take k)<=1073741824 then 10*dq 0 (s.take k)+Ac s[k] else dq 0 (s.take k):=by grind [dq,List.take_succ_eq_append_getElem]
theorem HZ(p:UInt8->Bool)(s:aE):s.take (s.takeWhile p).length=s.takeWhile p:=
  (List.prefix_iff_eq_take.1 (sv p)).symm
section
variable {text s : aE} {at_ : Nat} (hd : text.drop at_ = s) (hat : at_ <= text.length)
include hd hat
theorem MY:text.length=at_+s.length:=by grind
theorem Dr(k:Nat)(h:k<s.length):mS text ((at_+k:Nat):Int)=(s[k].toNat:Int):=by
  have hl:=MY hd hat
  rw [J2 text (at_+k) (by omega)];grind
omit hat in
theorem YO(k:Nat):cut text (at_:Int) ((at_+k:Nat):Int)=s.take k:=by rw [an1,hd];congr 1;omega
theorem arM(hl:text.length<=65536)(out:List Tok)(again7):
    aj (gP text out again7) au (at_:Int)=again7 (out,((at_+(s.takeWhile GL).length:Nat):Int)):=by
  have b:=MY hd hat
  refine Ma GL s (λk=>((at_+k:Nat):Int)) (λk=>again7 (out,((at_+k:Nat)))) ?_ ?_ ?_ au (by rw [AD];omega)
  . intro a k h hp _;unfold gP;simp only [mJ];rw [vZ (by omega),ug (by omega) (by omega),Dr hd hat k h,Gi];have:((s[k].toNat:Int) != 10)=GL s[k]:=by have:=Gx s[k] 10;unfold GL bne;grind
    rw [this,hp,q8,ca,bG (by omega)];rfl
  . intro a k h hp;unfold gP;simp only [mJ];rw [vZ (by omega),ug (by omega) (by omega),Dr hd hat k h,Gi];have:((s[k].toNat) != 10)=GL s[k]:=by have:=Gx s[k] 10;unfold GL bne;grind
    grind
  simp_all [gP,mJ,Kx,oi]
end
theorem Pr(c:UInt8):((kindOf c==1)||(kindOf c==2))=fF c:=by
  cases hb:jI c
  . grind [kindOf,fF,gW,isDigit]
  . have:fF c=false:=by simp [jI,e9,mN] at hb;rcases hb with ((rfl|rfl)|rfl)|rfl <;> decide
    simp_all [kindOf]
theorem arP{text s:aE}{at_:Nat}(hd:text.drop at_=s)(hat:at_<=text.length)(hl:text.length<=65536)(out:List Tok)(again7)(d:out.length<=65536):
    aj (eV text out (at_:Int) again7) au (at_:Int)=if 32<(s.takeWhile fF).length then some ([],9,(at_:Int)) else again7 (out++[(1,s.takeWhile fF,0,(at_:Int))],((at_+(s.takeWhile fF).length:Nat):Int)):=by
  have e:=MY hd hat
  have f:(if 32<(s.takeWhile fF).length then some ([],9,(at_:Int)) else again7 (out++[(1,s.takeWhile fF,0,(at_:Int))],((at_+(s.takeWhile fF).length:Nat))))
     =(λk=>if 32<k then some ([],9,(at_:Int)) else again7 (out++[(1,s.take k,0,(at_:Int))],((at_+k:Nat)))) (s.takeWhile fF).length:=by
    simp [HZ]
  rw [f];have tail:∀k,k<=s.length->(bif (decide (32<(i64.wrap (((at_+k:Nat))-(at_))))) then (
some ([],9,(at_:Int)))
else (
aN (cZ (at_) ((at_+k:Nat)) (List.length text))<|
aN (aH (List.length out+List.length ([(1,(cut text (at_:Int) ((at_+k:Nat):Int)),0,(at_:Int))])) 40)<|
again7 ((out++([(1,(cut text (at_:Int) ((at_+k:Nat):Int)),0,(at_:Int))])),((at_+k:Nat)))))=(if 32<k then some ([],9,(at_:Int)) else again7 (out++[(1,s.take k,0,(at_:Int))],((at_+k:Nat)))):=by
    intro k hk;rw [bG (by omega)];by_cases c:32<k
    . grind
    . rw [CL (by omega),b7,dk c,Ge (by omega) (by omega) (by omega),oU,C6 (by simp;omega) (by simp;omega),oU,YO hd]
  refine Ma (F:=eV text out (at_) again7) fF s (λk=>((at_+k:Nat))) (λk=>if 32<k then some ([],9,(at_)) else again7 (out++[(1,s.take k,0,(at_:Int))],((at_+k:Nat)))) ?_ ?_ ?_ au (by rw [AD];omega)
  . intro a k h hp _;unfold eV;simp only [mJ];have ke:=Pr s[k];rw [hp] at ke;rw [vZ (by omega),ug (by omega) (by omega),Dr hd hat k h];simp [IS,sy,kG,iQ];cases b:(kindOf s[k]==1)
    . rw [b] at ke;simp only [j6,sy,kG] at ke ⊢;rw [ke,ca,bG (by omega)];rfl
    . rw [bG (by omega)];rfl
  . intro a k h hp;unfold eV;simp only [mJ];have ke:=Pr s[k];rw [hp] at ke;simp only [nA] at ke;rw [vZ (by omega),ug (by omega) (by omega),Dr hd hat k h];simp [IS,sy,kG,iQ,ke.1,ke.2,j6,vy];exact tail k (by omega)
  simp_all [eV,mJ,Kx,Ny,b7]
theorem ae7(c:UInt8)(h:gW c=false):(kindOf c==2)=isDigit c:=by
  unfold kindOf;rw [h];cases hb:jI c
  . cases isDigit c <;> rfl
  . have:isDigit c=false:=by simp [jI,e9,mN] at hb;rcases hb with ((rfl|rfl)|rfl)|rfl <;> decide
    rw [this];rfl
theorem Y4{c:UInt8}(h:gW c=true):isDigit c=false:=by
  simp [gW,e9,ar,eW,so] at h;cases hd:isDigit c
  . rfl
  . simp [isDigit,ar,eW,so] at hd;have d:(57:UInt8).toNat=57:=rfl;have b:(97:UInt8).toNat=97:=rfl;have a:(65:UInt8).toNat=65:=rfl;rcases h with (h|h)|h
    . omega
    . omega
    simp_all
theorem JM(c:UInt8):(kindOf c==2)=isDigit c:=by grind [gW,ae7,kindOf,Y4,jI]
theorem arT{text s:aE}{at_:Nat}(hd:text.drop at_=s)(hat:at_<=text.length)(hl:text.length<=65536)(out:List Tok)(again7)(j:out.length<=65536):
    aj (eU text out (at_:Int) again7) au ((at_:Int),0)=if tR (gH 0 (s.takeWhile isDigit)) then some ([],9,(at_:Int)) else again7 (out++[(2,s.takeWhile isDigit,gH 0 (s.takeWhile isDigit),(at_:Int))],((at_+(s.takeWhile isDigit).length:Nat):Int)):=by
  have l:=MY hd hat
  have a:=ad1 (s.takeWhile isDigit) 0 (pF _) (Lp _ _);have o:(if tR (gH 0 (s.takeWhile isDigit)) then some ([],9,(at_:Int)) else again7 (out++[(2,s.takeWhile isDigit,gH 0 (s.takeWhile isDigit),(at_:Int))],((at_+(s.takeWhile isDigit).length:Nat):Int)))
     =(λk=>if 1073741824<dq 0 (s.take k) then some ([],9,(at_:Int)) else again7 (out++[(2,s.take k,dq 0 (s.take k),(at_:Int))],((at_+k:Nat):Int))) (s.takeWhile isDigit).length:=by
    simp only [HZ];cases hb:tR (gH 0 (s.takeWhile isDigit))
    . have n:=a.1 hb;rw [n];have:¬ 1073741824<gH 0 (s.takeWhile isDigit):=by simpa [tR] using hb
      rw [dk this];rfl
    . rw [du (a.2 hb)];rfl
  rw [o];have tail:∀k,k<=s.length->(bif (decide (1073741824<dq 0 (s.take k))) then (
some ([],9,(at_:Int)))
else (
aN (cZ (at_:Int) ((at_+k:Nat):Int) (List.length text))<|
aN (aH (List.length out+List.length ([(2,(cut text (at_:Int) ((at_+k:Nat):Int)),dq 0 (s.take k),(at_:Int))])) 40)<|
again7 ((out++([(2,(cut text (at_:Int) ((at_+k:Nat):Int)),dq 0 (s.take k),(at_:Int))])),((at_+k:Nat)))))=(if 1073741824<dq 0 (s.take k) then some ([],9,(at_:Int)) else again7 (out++[(2,s.take k,dq 0 (s.take k),(at_:Int))],((at_+k:Nat)))):=by
    intro k hk;by_cases e:1073741824<dq 0 (s.take k)
    . rw [vZ (by omega),ca,du e]
    . rw [CL (by omega),b7,dk e,Ge (by omega) (by omega) (by omega),oU,C6 (by simp;omega) (by simp;omega),oU,YO hd]
  refine Ma (F:=eU text out (at_) again7) isDigit s (λk=>(((at_+k:Nat)),dq 0 (s.take k))) (λk=>if 1073741824<dq 0 (s.take k) then some ([],9,(at_)) else again7 (out++[(2,s.take k,dq 0 (s.take k),(at_:Int))],((at_+k:Nat)))) ?_ ?_ ?_ au (by rw [AD];omega)
  . intro b k h hp d;unfold eU;simp only [mJ];have ke:=JM s[k];rw [hp] at ke;have g:=RX hp;have hb:=NU (s.take k) 0 (pF _) (by omega) (by rw [qk];intro c m;obtain ⟨i,hi,rfl⟩:=List.mem_iff_getElem.1 m;rw [List.getElem_take];exact d i (by simp at hi;omega) (by simp at hi;omega))
    rw [vZ (by omega),ug (by omega) (by omega),Dr hd hat k h];simp [Gi,IS,sy,kG,iQ,ke,ca];rw [ajP s k h,bG (by omega)];unfold Ac at g ⊢;by_cases f:dq 0 (s.take k)<=1073741824
    . rw [vZ f,ca,oU,du f,bG (x:=10*_) (by omega),bG (x:=(s[k].toNat)) (by omega),bG (x:=10*_+_) (by omega),bG (by omega)];congr 2;omega
    . rw [CL f,b7,dk f];rfl
  . intro b k h hp;unfold eU;simp only [mJ];have ke:=JM s[k];rw [hp] at ke;rw [vZ (by omega),ug (by omega) (by omega),Dr hd hat k h];simp [IS,sy,kG,ke];exact tail k (by omega)
  . unfold eU;simp [mJ];rw [CL (by omega)];simp [Kx,Ny,oi];grind
theorem ace:sL=some cX:=rfl
theorem aqe{text:aE}{out:List Tok}{a:Int}{again7}{again122}{g:aE}{j:Int}(d:(g==[])=false)
    (c:out.length<=65536) (hi:0<=a/\a<=65536) (b:g.length<=65536):
    bT text out a again7 cX again122 (g,j)=again7 (out++[(3,g,0,a)],a+g.length):=by
  unfold bT;simp [mJ,qP];grind [C6,oU,bG]
theorem arY{text s:aE}{at_:Nat}(hd:text.drop at_=s)(hat:at_<=text.length)(hl:text.length<=65536)(out:List Tok)(again7)(d:out.length<=65536):
    aj (bT text out (at_:Int) again7 cX) au ([],0)=if fV s==[] then some ([],2,(at_:Int)) else again7 (out++[(3,fV s,0,(at_:Int))],((at_+(fV s).length:Nat):Int)):=by
  have q:=MY hd hat
  have p:cX.length=22:=rfl;have key:∀N k,k<=cX.length->cX.length-k+1<N->(∀i (h:i<cX.length),i<k->cX[i].isPrefixOf s=false)->
      aj (bT text out (at_:Int) again7 cX) N ([],((k:Nat):Int))=if fV s==[] then some ([],2,(at_:Int)) else again7 (out++[(3,fV s,0,(at_:Int))],((at_+(fV s).length:Nat):Int)):=by
    intro N
    induction N with
    |zero=>intro k _ h;omega
    |succ N ih=>
      intro k hk hN hp;rw [ao];by_cases a:k<cX.length
      . have b:cX[k]∈cX:=de a;have n:∀g∈cX,g.length<=3/\(g==[])=false:=by decide
        have e:=n _ b;have body:bT text out (at_:Int) again7 cX (aj (bT text out (at_:Int) again7 cX) N) ([],((k:Nat):Int))=aj (bT text out (at_:Int) again7 cX) N ((if cX[k].isPrefixOf s then cX[k] else []),((k+1:Nat):Int)):=by
          generalize aj (bT text out (at_:Int) again7 cX) N=o;unfold bT;simp only [mJ];rw [vZ (by omega)];simp only [show (([]:aE)==[])=true from rfl,q8,ca];rw [fk a];simp only [kG];rw [bG (x:=(text.length:Int)-(at_:Int)) (by omega),bG (x:=((k:Nat):Int)+1) (by omega)];by_cases l:cX[k].length<=s.length
          . rw [vZ (by omega)];simp only [sy,kG,iQ];rw [bG (by omega),Ge (by omega) (by omega) (by omega),Gi];have v:(at_:Int)+(cX[k].length:Int)=((at_+cX[k].length:Nat):Int):=by omega
            rw [v,YO hd];have e3:(s.take cX[k].length==cX[k])=cX[k].isPrefixOf s:=by
              rw [qA,List.isPrefixOf_iff_prefix,mN];constructor
              . intro h;rw [<-h];exact List.take_prefix ..
              . intro h;exact (List.prefix_iff_eq_take.1 h).symm
            rw [e3];cases cX[k].isPrefixOf s
            . rfl
            . rfl
          . rw [CL (by omega)];have:cX[k].isPrefixOf s=false:=by rw [qe,Ne,List.isPrefixOf_iff_prefix];intro h;exact l h.length_le
            rw [this];rfl
        rw [body];cases c:cX[k].isPrefixOf s
        . exact ih (k+1) (by omega) (by omega) (λi h hi=>by
            rcases qC i k with r|r
            . exact hp i h r
            . have:i=k:=by omega
              subst this;exact c)
        . have f:fV s=cX[k]:=by
            unfold fV;have:cX.find? (λg=>g.isPrefixOf s)=some cX[k]:=by rw [List.find?_eq_some_iff_getElem];exact ⟨c,k,a,rfl,λj t=>by simp [hp j (by omega) t]⟩
            rw [this];rfl
          rw [f];obtain ⟨N,rfl⟩:∃m,N=m+1:=⟨N-1,by omega⟩;rw [ao];simp only [q6,e.2,eF];rw [aqe e.2 d (by omega) (by omega)];rfl
      . have:fV s=[]:=by
          unfold fV;have:cX.find? (λg=>g.isPrefixOf s)=none:=by rw [List.find?_eq_none];intro g u;obtain ⟨i,hi,rfl⟩:=List.mem_iff_getElem.1 u;grind
          rw [this];rfl
        grind [aj,bT,cX,mJ,CL]
  grind [au,AD]
theorem amA(text:aE)(d:text.length<=65536):∀(N f at_:Nat) (out:List Tok),at_<=text.length->text.length-at_<N->text.length-at_<f->out.length<=at_->
    aj (jZ text) N (out,(at_:Int))=some (NG out (p8 f at_ (text.drop at_))):=by
  intro N
  induction N with
  |zero=>intro f at_ out _ h;omega
  |succ N ih=>
    intro f at_ out hat hN E x;obtain ⟨f,rfl⟩:∃g,f=g+1:=⟨f-1,by omega⟩;rw [ao];generalize aj (jZ text) N=a at ih ⊢;unfold jZ;dsimp only;cases hd:text.drop at_ with
    |nil=>
      have n:at_=text.length:=by have:=congrArg List.length hd;simp at this;omega
      subst n;rw [CL (by omega)];simp only [b7];rw [C6 (by simp;omega) (by simp;omega),oU];rfl
    |cons c r=>
      obtain ⟨u,m⟩:=Yg hd;have B:(c::r).length=text.length-at_:=by rw [<-hd];simp
      have j:mS text (at_:Int)=(c.toNat:Int):=by rw [J2 _ _ u,m]
      have next:∀(k:Nat) (b:List Tok),1<=k->k<=(c::r).length->b.length<=at_+k->
          a (b,((at_+k:Nat):Int))=some (NG b (p8 f (at_+k) ((c::r).drop k))):=by
        intro k b A z q;rw [ih f (at_+k) b (by omega) (by omega) (by omega) q];have D:text.drop (at_+k)=(c::r).drop k:=by rw [<-hd,qy]
        rw [D]
      rw [vZ (by omega)];simp only [ca,ug (show (0:Int)<=(at_:Int) by omega) (show (at_:Int)<(text.length:Int) by omega),oU,j,IS,kG];have w:((c.toNat:Int)==35)=(c==35):=by rw [show ((35:Int)=((35:UInt8).toNat:Int)) from rfl];exact Gx c 35
      rw [w];cases hb:jI c
      . have l:(kindOf c==0)=false:=by unfold kindOf;rw [hb];cases gW c <;> cases isDigit c <;> rfl
        simp only [l,b7];cases C:(c==35)
        . simp only [b7];simp only [p8,step,hb,C,eF,qu];cases e:gW c
          . have i:(kindOf c==1)=false:=by unfold kindOf;rw [hb,e];cases isDigit c <;> rfl
            simp only [i,b7,eF,qu];rw [JM];cases o:isDigit c
            . simp only [b7,eF,qu];rw [ace,kG,arY hd hat d out a (by omega)];cases t:(fV (c::r)==[])
              . simp only [eF,qu];obtain ⟨A,z,_⟩:=Ke t;have q:=Xl _ A;have v:=z.length_le;rw [next _ _ q v (by simp;omega)];cases p8 f (at_+(fV (c::r)).length) ((c::r).drop (fV (c::r)).length) <;> simp [NG]
              . rfl
            . simp;rw [arT hd hat d out a (by omega)];cases y:tR (gH 0 ((c::r).takeWhile isDigit))
              . simp only [eF,qu];have q:=nX (s:=r) o;have v:=v8 isDigit (c::r);rw [next _ _ q v (by simp;omega)];cases p8 f (at_+((c::r).takeWhile isDigit).length) ((c::r).drop ((c::r).takeWhile isDigit).length) <;> simp [NG]
              . rfl
          . have i:(kindOf c==1)=true:=by unfold kindOf;rw [hb,e];rfl
            simp [i,ca];rw [arP hd hat d out a (by omega)];by_cases p:32<((c::r).takeWhile fF).length
            . rw [du p,du p];rfl
            . grind [nX,wL,v8,fF,p8,NG]
        . rw [arM hd hat d out a];grind [GL,nX,v8,step,p8]
      . have l:(kindOf c==0)=true:=by grind [kindOf]
        grind [bG,step,p8]
theorem MW(text:aE):gF text=some (tokens text):=by
  unfold gF tokens;by_cases h:65536<text.length
  . grind
  . rw [CL (by omega),b7,dk h];have:=amA text (by omega) au (text.length+1) 0 [] (by omega) (by rw [AD];omega) (by omega) (by simp);simp only [n9] at this;have a:((0:Nat):Int)=0:=rfl;rw [a] at this;rw [this];cases p8 (text.length+1) 0 text <;> rfl
abbrev Res:=Except (Int×Int) (List Tok)
theorem step_skip{c:UInt8}{s:aE}{k:Nat}(h:step (c::s)= .skip k):1<=k/\k<=(c::s).length:=by
  cases hb:jI c
  . cases a:(c==35)
    . simp [step,eF] at h;grind
    . simp [step,hb,a,eF,qu,q6,Step.skip.injEq] at h;subst h;have  :=by simpa using a
      subst this;exact ⟨nX (by decide),v8 _ _⟩
  simp_all [step,q6]
theorem aaO{c:UInt8}{s:aE}{k:Int}{t:aE}{n:Int}(h:step (c::s)= .tok k t n):jI c=false/\(c==35)=false/\1<=t.length/\t <+: (c::s):=by
  cases hb:jI c
  . cases a:(c==35)
    . obtain ⟨d,b⟩:=step_take hb a h;grind
    simp_all [step,qu]
  simp_all [step]
def lex(s:aE):Res:=p8 (s.length+1) 0 s
theorem afb{s:aE}(h:s.length<=65536):tokens s=res (lex s):=by simp_all [tokens,lex,dk]
theorem afE:∀g∈cX,fV g=g/\∃c s,g=c::s/\jI c=false/\(c==35)=false/\gW c=false/\isDigit c=false:=by
  have a:∀g∈cX,fV g=g/\(match g with|[]=>false|c::_=> !jI c&& !(c==35)&& !gW c&& !isDigit c)=true:=by decide
  grind
end Lx
namespace Sy
open Pa
theorem alb:∀(f:Nat) (m:bw) (a:List Tok) (p:bw×List Tok),Pa.Ends a->lW f m a= .ok p->iX a p.2:=by
 intro f
 induction f with
 |zero=>grind [lW]
 |succ f ih=>
  intro m a p g h;simp [lW] at h;cases c:uj 3 [125] a
  .rw [c] at h;cases b:nO m a with
   |error e=>rw [b] at h;cases h
   |ok q=>
    obtain ⟨i,r⟩:=q;rw [b] at h;have d  :=(UZ g b).1;exact d.trans (ih i r p d.1 h)
  .rw [c] at h;cases h;obtain ⟨b,j⟩:=oT g (by decide) c;exact ⟨b,by grind⟩
abbrev R8:=Int×List aE×w5×zj×List aE×List aT×Int×Int
abbrev RP:=bw×Int×Int
section
variable {l : List Tok} (hl : l.length < 1000000000) (htok :∀t ∈ l, ju t) (hnum :∀t ∈ l, CE t)
variable {st : Except iy (List Tok)} {a b p : Int} (N : List aE) (S_ : List (Int × Int)) (I : zj) (Q : List aE)
variable (hN : N.length < 1000000000) (hQ : Q.length < 1000000000)
theorem Ml{C:List aT}(g f:Int)(c:R8->Option RP)(nm:aE×Int×Int×Int)(hl:l.length<1099511627776)(M:Nat)(h:St l st a b p)(en:Bool)(hb:((b==0)&& !en)=false):
  ∃e d p',aj (iu (l,g,f) Q c N S_ I nm) (M+1) (a,C,b,p,en)=c (e,N,S_,I,Q++[nm.1],C,d,p')/\St l (bO st (cd [125])) e d p':=by
 obtain ⟨e,d,p',e3,i⟩:=DB hl N S_ I (Q++[nm.1]) C h [125];rw [ao];simp [iu,aM,e3];grind
include hl htok hnum hN hQ in
theorem aoY(z y:Int)(b:R8->Option RP)(nm:aE×Int×Int×Int):∀(n:Nat) (c:List Tok) (C:List aT) (a:Int) (M f:Nat),c.length<=n->n+2<=M->c.length<f->C.length+c.length<1099511627776-1->St l (.ok c) a 0 0->
  ∃a' C' b' p',aj (iu (l,z,y) Q b N S_ I nm) M (a,C,0,0,uj 3 [125] c)=b (a',N,S_,I,Q++[nm.1],C',b',p')/\
   St l (rest (lW f (N,S_,I,Q++[nm.1],C) c)) a' b' p'/\(∀m r,lW f (N,S_,I,Q++[nm.1],C) c= .ok (m,r)->m=(N,S_,I,Q++[nm.1],C')/\C'.length+r.length<C.length+c.length):=by
 have O:(Q++[nm.1]).length<1099511627776:=by simp;omega
 intro n
 induction n with
 |zero=>
  intro c C a M f F _ _ _ o;obtain ⟨k,t,r,_,rfl,_⟩:=o.ok;simp at F
 |succ n ih=>
  intro c C a M f F Y X W o;obtain ⟨M,rfl⟩:∃m,M=m+1:=⟨M-1,by omega⟩;obtain ⟨f,rfl⟩:∃m,f=m+1:=⟨f-1,by omega⟩;have D:Pa.Ends c:=by obtain ⟨_,_,_,h,_⟩:=o;exact h
  cases B:uj 3 [125] c
  .-- a command
   have i:lW (f+1) (N,S_,I,Q++[nm.1],C) c=(match nO (N,S_,I,Q++[nm.1],C) c with|.error e=> .error e|.ok (A,r)=>lW f A r):=by
    simp only [lW,B,b7]
    all_goals (cases nO (N,S_,I,Q++[nm.1],C) c <;> rfl)
   obtain ⟨S,v,H,p1,e3,d,U⟩:=arf (by omega) htok hnum N S_ I (Q++[nm.1]) C (by omega) (by omega) o;have e4:=Kq N S_ I (Q++[nm.1]) v d 3 [125];rw [ao];simp only [iu,aM,qc,j6,q8,ca,e3,ah,e4];cases w:nO (N,S_,I,Q++[nm.1],C) c with
   |error e=>
    have s:bz (.ok c) (nO (N,S_,I,Q++[nm.1],C))= .error e:=by simp only [bz,bO,w,rest]
    rw [s] at d;simp only [s,Fc];obtain ⟨M',rfl⟩:∃m,M=m+1:=⟨M-1,by omega⟩;have j:(H==0)=false:=by rw [d.2.2.1];exact d.2.1
    obtain ⟨J,G,p2,u,p⟩:=Ml N S_ I Q z y b nm (by omega) M' d false (by rw [j];rfl);rw [i,w];exact ⟨_,_,_,_,u,p,λm r h=>by cases h⟩
   |ok q=>
    obtain ⟨A,r⟩:=q;have s:bz (.ok c) (nO (N,S_,I,Q++[nm.1],C))= .ok r:=by grind [bz,bO,rest]
    rw [s] at d;simp [Fc];obtain ⟨L,g,r1,r2,sets,V,_,_,_,_,hp,_⟩:=UZ D w;have x:v=C++[(i64.wrap (((Q++[nm.1]).length)-1),g,sets)]:=by grind
    have E:v.length=C.length+1:=by rw [x];simp
    have K:r.length<c.length:=L.2;have j:H=0/\p1=0:=by obtain ⟨_,_,_,_,R,P⟩:=d;exact ⟨R,P⟩
    obtain ⟨rfl,rfl⟩:=j;obtain ⟨J,Z,G,p2,u,p,T⟩:=ih r v S M f (by omega) (by omega) (by omega) (by omega) d;grind
  .have i:lW (f+1) (N,S_,I,Q++[nm.1],C) c= .ok ((N,S_,I,Q++[nm.1],C),c.tail):=by simp [lW,B,ca]
   obtain ⟨J,G,p2,u,p⟩:=Ml N S_ I Q z y b nm (by omega) M o true (by simp);rw [i];refine ⟨_,_,_,_,u,?_,λm r h=>by cases h;exact ⟨rfl,by grind [oT]⟩⟩;have:bO (.ok c) (cd [125])=rest (.ok ((N,S_,I,Q++[nm.1],C),c.tail)):=by obtain ⟨t,r,rfl⟩:=D.ne;grind [bO,cd,rest,List.tail_cons,uj]
   rw [<-this];exact p
def Big(m:bw)(ts:List Tok):Prop:=m.1.length+ts.length<1000000000/\m.2.1.length+ts.length<1000000000/\m.2.2.1.length+ts.length<1000000000/\m.2.2.2.1.length+ts.length<1000000000/\m.2.2.2.2.length+ts.length<1000000000
theorem Rv{e3 e4:Int}(e d:Int)(m:bw)(h:St l (.error (e3,e4)) a b p)(M:Nat):aj (fw (l,e,d)) (M+1) (a,m.1,m.2.1,m.2.2.1,m.2.2.2.1,m.2.2.2.2,b,p)=some (([],[],[],[],[]),e3,e4):=by
 obtain ⟨⟨t,hx⟩,c,rfl,rfl⟩:=h;rw [ao];have hb:(b != 0)=true:=by grind
 simp [fw,aM,c,rD,ku,bq,aJ,hb];grind
include hl htok hnum in
theorem aki(w v:Int):∀(n:Nat) (y:List Tok) (m:bw) (a:Int) (M f:Nat),y.length<=n->n+2<=M->y.length<f->Big m y->St l (.ok y) a 0 0->
  aj (fw (l,w,v)) M (a,m.1,m.2.1,m.2.2.1,m.2.2.2.1,m.2.2.2.2,0,0)=some (QD (pZ f m y)):=by
 intro n
 induction n with
 |zero=>
  intro y m a M f h1 _ _ _ K;obtain ⟨k,t,r,_,rfl,_⟩:=K.ok;simp at h1
 |succ n ih=>
  intro y m a M f h1 h2 h3 hB K;obtain ⟨M,rfl⟩:∃m,M=m+1:=⟨M-1,by omega⟩;obtain ⟨f,rfl⟩:∃m,f=m+1:=⟨f-1,by omega⟩;obtain ⟨k,t,r,rfl,rfl,hd,he,_,_,hx,hm,hd1,hk⟩:=K.ok;obtain ⟨N,S_,I,Q,C⟩:=m;obtain ⟨B1,B2,B3,B4,B5⟩:=hB;simp only [eb] at B1 B2 B3 B4 B5 h1 h3;have iv:=Kq N S_ I Q C K 1 [118,97,114];have ip:=Kq N S_ I Q C K 1 [112,114,111,99];rw [ao];generalize c:aj (fw (l,w,v)) M=g;simp only [fw,aM,qc,dU,hx,ah,iQ];have o:pZ (f+1) (N,S_,I,Q,C) (t::r)=(bif t.1==4 then (bif N.isEmpty then .error (2,t.2.2.2) else .ok (N,S_,I,Q,C))
   else bif Ad 1 [118,97,114] t then (match rK (N,S_,I,Q,C) r with
    | .error e=> .error e
    | .ok (B,d)=>pZ f B d)
   else bif Ad 1 [112,114,111,99] t then (match wa (N,S_,I,Q,C) r with
    | .error e=> .error e
    | .ok (B,d)=>pZ f B d)
   else .error (2,t.2.2.2)):=by
   simp only [pZ]
   all_goals (cases rK (N,S_,I,Q,C) r <;> cases wa (N,S_,I,Q,C) r <;> rfl)
  cases F:(t.1==4)
  case true=>
   have E:(t.1 != 4)=false:=by simp only [bne,F,qf]
   rw [o,F];simp only [E,b7,ca];have hne:((List.length N:Int)==0)=N.isEmpty:=by cases N with
    |nil=>rfl
    |cons x r=>simp only [eb,List.isEmpty_cons];exact beq_eq_false_iff_ne.2 (by omega)
   rw [hne];cases N.isEmpty
   .simp only [b7,ku,bne_self_eq_false,QD]
   .simp only [ca,bq,hx,ah,S1,ku,QD];rfl
  have E:(t.1 != 4)=true:=by simp only [bne,F,j6]
  simp only [Fc,uj] at iv ip;simp only [E,ca,iv,ip,ah];have D:Pa.Ends r:=he.tail (by simpa using F);have J:St l (.ok r) ((k+1:Nat):Int) 0 0:=⟨k+1,rfl,hd1,D,rfl,rfl⟩;have wk:i64.wrap ((k:Int)+1)=((k+1:Nat):Int):=bR (by omega);obtain ⟨M',u⟩:∃m,M=m+1:=⟨M-1,by omega⟩;cases cv:Ad 1 [118,97,114] t
  .cases S:Ad 1 [112,114,111,99] t
   .-- neither
    rw [o,F,cv,S];simp only [b7,j6,q8,ca,bq,hx,ah,S1,ky,show ((2:Int)==0)=false from rfl,kr,kC,aM];rw [<-c,u];exact Rv (e3:=2) (e4:=t.2.2.2) w v (N,S_,I,Q,C) ⟨⟨t,hx⟩,rfl,rfl,rfl⟩ M'
   .-- a process
    rw [o,F,cv,S];simp only [b7,qf,j6,qP,ca,ky,qc,kr,kC,wk,aM];obtain ⟨nm,U,T,p1,e3,z,V⟩:=aeD (by omega) N S_ I Q C J (by omega) (by omega) false;have k1:aH (List.length Q+List.length ([nm]:List aE)) 16=true:=dw (by simp;omega) (by simp;omega);obtain ⟨a2,b2,p2,e4,j⟩:=DB (by omega) N S_ I (Q++[nm]) C z [123];have e5:=Kq N S_ I (Q++[nm]) C j 3 [125];simp only [e3,ah,aP k1,e4,e5];cases b:bO (bz (.ok r) (fP false N Q)) (cd [123]) with
    |error e=>
     rw [b] at j;have hb1:(b2==0)=false:=by rw [j.2.2.1];exact j.2.1
     obtain ⟨a3,b3,p3,e6,i⟩:=Ml N S_ I Q (C:=C) w v g (nm,U,T,p1) (by omega) 18446744073709551615 j false (by rw [hb1];rfl);simp only [Fc];rw [show au=18446744073709551615+1 from rfl,e6];have hp:wa (N,S_,I,Q,C) r= .error e:=by
      simp only [wa];simp only [bz,bO] at b;cases A:fP false N Q r with
      |error e'=>rw [A] at b;simp only [rest] at b ⊢; cases b;rfl
      |ok q=>
       rw [A] at b;simp only [rest] at b ⊢;rw [b]
     rw [hp];simp only [bO] at i;obtain ⟨ee1,ee2⟩:=e;rw [<-c,u];exact Rv w v (N,S_,I,Q++[nm],C) i M'
    |ok r2=>
     rw [b] at j;obtain ⟨r1,O,L⟩:∃r1,fP false N Q r= .ok (nm,r1)/\cd [123] r1= .ok r2:=by
      simp only [bz,bO] at b;cases A:fP false N Q r with
      |error e'=>rw [A] at b;cases b
      |ok q=>
       obtain ⟨X,r1⟩:=q;rw [A] at b;simp only [rest] at b;have:=V r X r1 rfl A;subst this;exact ⟨r1,rfl,b⟩
     have hb:b2=0/\p2=0:=by obtain ⟨_,_,_,_,R,P⟩:=j;exact ⟨R,P⟩
     obtain ⟨rfl,rfl⟩:=hb;have H:=(Qt D O).1;have G:=np H.1 L;have l1:r1.length<r.length:=H.2;have l2:r2.length<r1.length:=G.2;have hp:wa (N,S_,I,Q,C) r=lW (r2.length+1) (N,S_,I,Q++[nm],C) r2:=by simp only [wa,O,L]
     have hle:r2.length<=l.length:=by obtain ⟨k2,_,h,_⟩:=j;rw [<-h];simp
     obtain ⟨a3,C3,b3,p3,e6,i,v3⟩:=aoY hl htok hnum N S_ I Q (by omega) (by omega) w v g (nm,U,T,p1) r2.length r2 C a2 au (r2.length+1) (cH _) (by show _<=2^64;omega) (by omega) (by omega) j;simp only [Fc];rw [e6,hp];cases s:lW (r2.length+1) (N,S_,I,Q++[nm],C) r2 with
     |error e=>
      rw [s] at i;simp only [rest] at i;obtain ⟨ee1,ee2⟩:=e;rw [<-c,u];exact Rv w v (N,S_,I,Q++[nm],C3) i M'
     |ok q=>
      obtain ⟨B,d⟩:=q;rw [s] at i;simp only [rest] at i;obtain ⟨p,hlen⟩:=v3 B d s;have W:=alb _ _ _ _ G.1 s;have l3:d.length<r2.length:=W.2;have hb:b3=0/\p3=0:=by obtain ⟨_,_,_,_,R,P⟩:=i;exact ⟨R,P⟩
      obtain ⟨rfl,rfl⟩:=hb;simp only;rw [<-c,p];have hQl:(Q++[nm]).length=Q.length+1:=by simp
      exact ih d (N,S_,I,Q++[nm],C3) a3 M f (by omega) (by omega) (by omega) ⟨by simp only;omega,by simp only;omega,by simp only;omega,by simp only;omega,by simp only;omega⟩ i
  .-- a variable
   have S:Ad 1 [112,114,111,99] t=false:=by unfold Ad at cv ⊢;simp only [ar,mN] at cv;rw [cv.2];simp
   rw [o,F,cv];simp only [b7,qf,oi,ca,ky,qc,kr,S,wk,aM];obtain ⟨U,N',S',I',T,p1,e3,z,V⟩:=aqT (by omega) N S_ I Q C (by omega) (by omega) (by omega) (by omega) J;simp only [e3,ah,kC,b7];cases b:rK (N,S_,I,Q,C) r with
   |error e=>
    simp [bz,bO,b] at z;rw [<-c,u];exact Rv w v (N',S',I',Q,C) z M'
   |ok q=>
    obtain ⟨B,d⟩:=q;simp [bz,bO,b] at z;have p:=V r B d rfl b;obtain ⟨sh,name,lo,hi,first,hp,_⟩:=aeK D b;have l1:d.length<r.length:=sh.2;have hb:T=0/\p1=0:=by obtain ⟨_,_,_,_,R,P⟩:=z;exact ⟨R,P⟩
    obtain ⟨rfl,rfl⟩:=hb;rw [p] at hp;simp at hp;obtain ⟨hp1,Z,Y⟩:=hp;have A:N'.length=N.length+1:=by rw [hp1];simp
    have q2:S'.length=S_.length+1:=by rw [Z];simp
    have q3:I'.length=I.length+1:=by rw [Y];simp
    rw [<-c,p];exact ih d (N',S',I',Q,C) U M f (by omega) (by omega) (by omega) ⟨by simp only;omega,by simp only;omega,by simp only;omega,by simp only;omega,by simp only;omega⟩ z
end
theorem amW{text:aE}{l:List Tok}(ht:gF text=some (l,0,0))(hl:l.length<500000000)(htok:∀t∈l,ju t)(hnum:∀t∈l,CE t)(a:Pa.Ends l):
  fE text=some (QD (sys l)):=by
 unfold fE;rw [ht,ah];simp;exact aki (by omega) htok hnum 0 0 l.length l ([],[],[],[],[]) 0 au (l.length+1) (cH _) (by show _<=2^64;omega) (by omega) ⟨by simp;omega,by simp;omega,by simp;omega,by simp;omega,by simp;omega⟩ ⟨0,rfl,rfl,a,rfl,rfl⟩
end Sy
namespace Sy
open Pa
theorem agW(s:aE)(h:s.all Lx.isDigit=true):0<=Lx.gH 0 s:=Lx.DV s 0 (pF _) h
theorem ah6{c:UInt8}{s:aE}{k:Int}{t:aE}{n:Int}(h:Lx.step (c::s)= .tok k t n)(pl:Int):ju (k,t,n,pl)/\CE (k,t,n,pl)/\k≠4:=by
 obtain ⟨hb,g,_,_⟩:=Lx.aaO h;simp only [Lx.step,hb,g,eF] at h;cases a:Lx.gW c
 .simp only [a,eF,qu] at h;cases b:Lx.isDigit c
  .simp only [b,eF] at h;cases d:(Lx.fV (c::s)==[])
   .simp [d,qu] at h;obtain ⟨rfl,rfl,rfl⟩:=h;obtain ⟨i,m,_⟩:=Lx.Ke d;obtain ⟨_,p,l,f,_,_,hl,_⟩:=Lx.afE _ i;refine ⟨.inr (.inr (.inl ⟨rfl,λo j e=>?_⟩)),(λh=>by cases h),by decide⟩;rw [f] at e;cases e;exact hl
   .simp [d] at h
  .simp only [b,q6] at h;split at h
   .cases h
   .obtain ⟨rfl,rfl,rfl⟩:=h;refine ⟨.inr (.inl rfl),λ_=>⟨agW _ (Lx.Lp _ _),?_⟩,by decide⟩;simp_all [Lx.tR]
 .simp [a,q6] at h;split at h
  .cases h
  .obtain ⟨rfl,rfl,rfl⟩:=h;refine ⟨.inl ⟨rfl,c,s.takeWhile Lx.fF,?_,a⟩,(λh=>by cases h),by decide⟩;simp_all [Lx.wL]
structure Good(n:Nat)(l:List Tok):Prop where
 ok:∀t∈l,ju t
 num:∀t∈l,CE t
 ends:Pa.Ends l
 len:l.length<=n
theorem aif{t:Tok}{l:List Tok}(h:Pa.Ends l):Pa.Ends (t::l):= .inl h
theorem ahC:∀(f a:Nat) (s:aE) (l:List Tok),s.length<f->Lx.p8 f a s= .ok l->Good (s.length+1) l:=by
 intro f
 induction f with
 |zero=>omega
 |succ f ih=>
  intro a s l p h;cases s with
  |nil=>
   cases h;exact ⟨(λt ht=>by rw [List.mem_singleton.1 ht];exact .inr (.inr (.inr rfl))),(λt ht=>by rw [List.mem_singleton.1 ht];intro h;cases h),.inr ⟨rfl,rfl⟩,by simp⟩
  |cons c s=>
   simp [Lx.p8] at h;cases b:Lx.step (c::s) with
   |skip k=>
    rw [b] at h;obtain ⟨j,i⟩:=Lx.step_skip b;have:=ih _ _ _ (by grind) h;exact ⟨this.ok,this.num,this.ends,by have:=this.len;grind⟩
   |err e=>rw [b] at h;cases h
   |tok k g n=>
    rw [b] at h;simp only at h;obtain ⟨_,_,j,i⟩:=Lx.aaO b;obtain ⟨o,m,_⟩:=ah6 b (a);cases d:Lx.p8 f (a+g.length) ((c::s).drop g.length) with
    |error e=>rw [d] at h;cases h
    |ok l'=>
     rw [d] at h;cases h;have:=ih _ _ _ (by grind) d;refine ⟨λt ht=>?_,λt ht=>?_,aif this.ends,by have:=this.len;grind⟩
     .rcases List.mem_cons.1 ht with rfl|ht
      .exact o
      .exact this.ok t ht
     .rcases List.mem_cons.1 ht with rfl|ht
      .exact m
      .exact this.num t ht
theorem ZD{s:aE}{l:List Tok}(h:Lx.lex s= .ok l):Good (s.length+1) l:=ahC _ _ _ _ (ko _) h
theorem aaq:∀(f a:Nat) (s:aE) (e:Int×Int),Lx.p8 f a s= .error e->e.1≠0:=by
 intro f
 induction f with
 |zero=>grind [Lx.p8]
 |succ f ih=>
  intro a s e h;cases s with
  |nil=>simp [Lx.p8] at h
  |cons c s=>
   grind [Lx.p8,Lx.step,Lx.arx]
def QY(text:aE):Except iy bw:=if 65536<text.length then .error (9,0) else match Lx.lex text with
 | .ok l=>sys l
 | .error e=> .error e
structure Yv(n:Nat)(s:Int×Ex):Prop where
 var:0<=s.1/\s.1<n
 may:fp (n:Int) s.2=true
 typ:(rt s.2).2.1=0/\(rt s.2).1=1
 sz:s.2.sz<=65537
structure YD(n:Nat)(c:aT):Prop where
 may:fp (n:Int) c.2.1=true
 typ:(rt c.2.1).2.1=0/\(rt c.2.1).1=2
 sz:c.2.1.sz<=65537
 sets:∀s∈c.2.2,Yv n s
 one:1<=c.2.2.length
 len:c.2.2.length<=65537
 once:c.2.2.Pairwise (λa b=>a.1≠b.1)
structure Od(f:Int×Int):Prop where
 le:f.1<=f.2
 lo: -1073741824<=f.1
 hi:f.2<=1073741824
 wide:f.2-f.1<=65535
structure Part(m:bw):Prop where
 names:m.1.length<=16
 schema:m.2.1.length=m.1.length
 init:m.2.2.1.length=m.1.length
 fields:∀f∈m.2.1,Od f
 first:∀(i:Nat) (f:Int×Int) (v:Int),m.2.1[i]? =some f->m.2.2.1[i]? =some v->f.1<=v/\v<=f.2
 cmds:m.2.2.2.2.length<=256
 cmd:∀c∈m.2.2.2.2,YD m.1.length c
structure Wf(m:bw):Prop extends Part m where
 some_:1<=m.1.length
theorem aoI{op n len a v w:Int}(h:vj op n len a v=true)(b:v<=w):vj op n len a w=true:=by simp [vj,Bool.and_eq_false_imp] at h ⊢;grind
theorem adm{v w:Int}(c:v<=w):∀(N:Nat) (e:Ex),e.sz<=N->fp v e=true->fp w e=true:=by
 intro N
 induction N with
 |zero=>grind [oD]
 |succ N ih=>
  intro e h hm;have d:=(MS hm).2.2.2.2;rw [V1] at hm ⊢;simp at hm ⊢;refine ⟨aoI hm.1 c,?_⟩;have:∀l:List Ex,(∀x∈l,x∈e.l)->vr w l=true:=λl=>by
   induction l with
   |nil=>grind [vr]
   |cons x r a=>
    intro hx;simp [vr,ar];exact ⟨ih x (by have:=my (hx x (by simp));omega) (d x (hx x (by simp))),a (λy b=>hx y (cp _ b))⟩
  grind
theorem YD.le{n k:Nat}{c:aT}(h:YD n c)(hk:n<=k):YD k c:=
 ⟨adm (by omega) _ _ (cH _) h.may,h.typ,h.sz,λs a=>⟨⟨(h.sets s a).var.1,by have:=(h.sets s a).var.2;omega⟩,adm (by omega) _ _ (cH _) (h.sets s a).may,(h.sets s a).typ,(h.sets s a).sz⟩,h.one,h.len,h.once⟩
theorem aiW{lo hi:Int}(h:nh lo hi=true):Od (lo,hi):=by simp [nh,ar,mm,qi] at h;obtain ⟨⟨⟨d,c⟩,b⟩,a⟩:=h;rw [bG (by omega)] at a;exact ⟨by omega,by omega,by omega,by omega⟩
def tv(ts:List Tok):Prop:=(∀t∈ts,CE t)/\Pa.Ends ts/\ts.length<=65537
theorem tv.of{b a:List Tok}(h:tv b)(c:iX b a)(d:a <:+ b):tv a:=⟨λt ht=>h.1 t (d.mem ht),c.1,by have:=c.2;have:=h.2.2;omega⟩
theorem xq{x:aE}{a r:List Tok}(h:cd x a= .ok r):r <:+ a:=by
 cases a with
 |nil=>simp [cd] at h
 |cons t b=>
  grind [cd,Ad,List.suffix_cons]
theorem WE{full:Bool}{names a:List aE}{b:List Tok}{p:aE×List Tok}(h:fP full names a b= .ok p):p.2 <:+ b:=by
 cases b with
 |nil=>simp [fP] at h
 |cons t c=>
  simp [fP] at h;grind
theorem Wu{b:Bool}{a:List Tok}{p:Int×List Tok}(h:te b a= .ok p):p.2 <:+ a:=by
 cases a with
 |nil=>simp [te] at h
 |cons t c=>
  grind [te,List.suffix_cons]
theorem Ro{a:List Tok}{p:Int×List Tok}(h:gz a= .ok p):p.2 <:+ a:=by
 unfold gz at h;cases b:uj 3 [45] a
 .grind [Wu]
 .rw [b] at h;exact (Wu h).trans (uc _)
theorem M6{a:Int}{names:List aE}{b:List Tok}{p:Ex×List Tok}(c:Pa.Ends b)(h:eI a names b= .ok p):p.2 <:+ b:=(ui c h).2.1.suf _ rfl
theorem ahQ{names:List aE}:∀(f:Nat) (acc:List (Int×Ex)) (a:List Tok) (p:List (Int×Ex)×List Tok),Pa.Ends a->fN names f acc a= .ok p->p.2 <:+ a:=by
 intro f
 induction f with
 |zero=>grind [fN]
 |succ f ih=>
  intro acc a p k h;obtain ⟨t,r,rfl⟩:=k.ne;simp [fN] at h;cases g:(t.1 != 1)
  case true=>rw [g] at h;cases h
  rw [g] at h;cases m:(decide (fc names t.2.1<0)||Dk acc (fc names t.2.1))
  case true=>rw [m] at h;cases h
  rw [m] at h;have ht  :=by simpa using g
  have d:=k.tail (by omega);cases c:cd [61] r with
  |error e=>rw [c] at h;cases h
  |ok r1=>
   rw [c] at h;simp only at h;have j:=np d c;cases b:eI 1 names r1 with
   |error e=>rw [b] at h;cases h
   |ok q=>
    obtain ⟨x,r2⟩:=q;rw [b] at h;simp only at h;have n  :=(ui j.1 b).1;have i:r2 <:+ t::r:=((M6 j.1 b).trans (xq c)).trans (qY _ _);cases l:uj 3 [44] r2
    .grind
    .rw [l] at h;exact ((ih _ _ _ (oT n.1 (by decide) l).1 h).trans (uc _)).trans i
theorem WZ{a:Int}{names:List aE}{d:List Tok}{x:Ex}{r:List Tok}(c:tv d)(h:eI a names d= .ok (x,r)):
  fp (names.length:Int) x=true/\((rt x).2.1=0/\(rt x).1=a)/\x.sz<=65537:=by
 obtain ⟨g,hp,f,e⟩:=ui c.2.1 h;have b:=hp.size _ rfl;simp [Lk] at b;exact ⟨hp.may trivial c.1 rfl _ rfl,⟨f,e⟩,by have:=c.2.2;omega⟩
theorem aod{names:List aE}{v:aE}(h:¬fc names v<0):0<=fc names v/\fc names v<names.length:=by
 unfold fc at h ⊢;cases ha:at_ names v with
 |none=>rw [ha] at h;simp at h
 |some i=>have:=pD ha;simp only;omega
theorem agL{names:List aE}:∀(f:Nat) (acc:List (Int×Ex)) (k:List Tok) (p:List (Int×Ex)×List Tok),tv k->fN names f acc k= .ok p->
  (∀s∈acc,Yv names.length s)->acc.Pairwise (λa b=>a.1≠b.1)->acc.length+k.length<=65537->(∀s∈p.1,Yv names.length s)/\p.1.Pairwise (λa b=>a.1≠b.1)/\p.1.length<=65537/\1<=p.1.length:=by
 intro f
 induction f with
 |zero=>grind [fN]
 |succ f ih=>
  intro acc k p y h i F d;obtain ⟨t,r,rfl⟩:=y.2.1.ne;have G:=y.2.1;simp [fN] at h;cases z:(t.1 != 1)
  case true=>rw [z] at h;cases h
  rw [z] at h;cases o:(decide (fc names t.2.1<0)||Dk acc (fc names t.2.1))
  case true=>rw [o] at h;cases h
  rw [o] at h;have ht  :=by simpa using z
  have g:=G.tail (by omega);simp only [nA,qi] at o;cases n:cd [61] r with
  |error e=>rw [n] at h;cases h
  |ok r1=>
   rw [n] at h;simp only at h;have l:=np g n;have E:=l.2;have v:tv r:=⟨λt' A=>y.1 t' (cp _ A),g,by grind⟩;have j  :=v.of l (xq n);cases m:eI 1 names r1 with
   |error e=>rw [m] at h;cases h
   |ok q=>
    obtain ⟨x,r2⟩:=q;have u:iX r1 r2:=(ui l.1 m).1;have D:=u.2;have w  :=j.of u (M6 l.1 m);obtain ⟨L,K,J⟩:=WZ j m;have hi:=aod o.1;have C:∀s∈acc++[(fc names t.2.1,x)],Yv names.length s:=λs c=>by
     rcases List.mem_append.1 c with c|c
     .exact i s c
     .rw [List.mem_singleton.1 c];exact ⟨hi,L,K,J⟩
    have B:(acc++[(fc names t.2.1,x)]).Pairwise (λa b=>a.1≠b.1):=by grind [List.mem_singleton,Dk,fc,List.any_eq_true]
    simp at d;cases I:uj 3 [44] r2
    .grind
    .obtain ⟨M,N⟩:=oT u.1 (by decide) I;have H:tv r2.tail:=⟨λt' A=>w.1 t' ((uc _).mem A),M,by omega⟩;grind
theorem ai0{m:bw}{f:List Tok}{p:bw×List Tok}(d:tv f)(hm:Part m)(h:nO m f= .ok p):Part p.1/\tv p.2/\p.2.length<f.length:=by
 obtain ⟨D,g,r1,r2,sets,E,v,q,z,o,hp,u,t⟩:=UZ d.2.1 h;have j  :=(ui d.2.1 q).1;have n  :=d.of j (M6 d.2.1 q);have e:=np j.1 u;have a  :=n.of e (xq u);have i  :=Zi _ _ _ _ e.1 o;have l  :=a.of i (ahQ _ _ _ _ e.1 o);have r:=np i.1 t;have k  :=l.of r (xq t);obtain ⟨C,B,A⟩:=WZ d q;obtain ⟨t1,t2,x,w⟩:=agL _ _ _ _ a o (λs y=>by cases y) List.Pairwise.nil (by have:=a.2.2;simpa using this);refine ⟨?_,k,by have:=j.2;have:=e.2;have:=i.2;have:=r.2;omega⟩;rw [hp];refine ⟨hm.names,hm.schema,hm.init,hm.fields,hm.first,by simp;omega,λc b=>?_⟩;rcases List.mem_append.1 b with b|b
 .exact hm.cmd c b
 .rw [List.mem_singleton.1 b];exact ⟨C,B,A,t1,w,x,t2⟩
theorem ahf:∀(f:Nat) (m:bw) (a:List Tok) (p:bw×List Tok),tv a->Part m->lW f m a= .ok p->Part p.1/\tv p.2:=by
 intro f
 induction f with
 |zero=>grind [lW]
 |succ f ih=>
  intro m a p c hm h;simp [lW] at h;cases d:uj 3 [125] a
  .rw [d] at h;cases b:nO m a with
   |error e=>rw [b] at h;cases h
   |ok q=>
    obtain ⟨g,r⟩:=q;rw [b] at h;obtain ⟨j,i,_⟩:=ai0 c hm b;exact ih g r p i j h
  .rw [d] at h;cases h;obtain ⟨b,k⟩:=oT c.2.1 (by decide) d;exact ⟨hm,λt ht=>c.1 t ((uc _).mem ht),b,by have:=c.2.2;grind⟩
theorem ahe{m:bw}{d:List Tok}{p:bw×List Tok}(i:tv d)(hm:Part m)(h:wa m d= .ok p):Part p.1/\tv p.2:=by
 unfold wa at h;cases c:fP false m.1 m.2.2.2.1 d with
 |error e=>rw [c] at h;cases h
 |ok k=>
  obtain ⟨a,r1⟩:=k;rw [c] at h;simp only at h;have g  :=(Qt i.2.1 c).1;have f  :=i.of g (WE c);cases b:cd [123] r1 with
  |error e=>rw [b] at h;cases h
  |ok r2=>
   rw [b] at h;have j:=np g.1 b;exact ahf _ (m.1,m.2.1,m.2.2.1,m.2.2.2.1++[a],m.2.2.2.2) _ _ (f.of j (xq b)) ⟨hm.names,hm.schema,hm.init,hm.fields,hm.first,hm.cmds,hm.cmd⟩ h
theorem amz{m:bw}{f:List Tok}{p:bw×List Tok}(h:rK m f= .ok p):p.2 <:+ f:=by
 unfold rK at h;cases k:fP (decide (16<=(m.1.length:Int))) m.1 m.2.2.2.1 f with
 |error e=>rw [k] at h;cases h
 |ok t=>
  obtain ⟨l,d⟩:=t;rw [k] at h;simp only at h;have y  :=WE k;cases j:gz d with
  |error e=>rw [j] at h;cases h
  |ok s=>
   obtain ⟨lo,c⟩:=s;rw [j] at h;simp only at h;have x  :=Ro j;cases i:gz c with
   |error e=>rw [i] at h;cases h
   |ok r=>
    obtain ⟨hi,b⟩:=r;rw [i] at h;simp only at h;have w  :=Ro i;cases g:gz b with
    |error e=>rw [g] at h;cases h
    |ok q=>
     obtain ⟨first,a⟩:=q;rw [g] at h;simp only at h;have v  :=Ro g;cases n:cd [59] a with
     |error e=>rw [n] at h;cases h
     |ok o=>
      have u:=xq n;grind
theorem aiG{m:bw}{e:List Tok}{p:bw×List Tok}(k:tv e)(hm:Part m)(h:rK m e= .ok p):Part p.1/\tv p.2/\1<=p.1.1.length:=by
 obtain ⟨l,g,lo,hi,first,hp,s,u,t,r,_⟩:=aeK k.2.1 h;refine ⟨?_,k.of l (amz h),by rw [hp];simp⟩;rw [hp];have n:=hm.schema;have d:=hm.init;refine ⟨by simp;omega,by simp [n],by simp [d],λf a=>?_,λi f v a j=>?_,hm.cmds,λc q=>(hm.cmd c q).le (by simp)⟩
 .rcases List.mem_append.1 a with a|a
  .exact hm.fields f a
  grind [List.mem_singleton,aiW]
 .rcases qC i m.2.1.length with b|o
  .rw [ec b] at a;rw [ec (by omega)] at j;exact hm.first i f v a j
  grind
theorem acw:∀(f:Nat) (m:bw) (b:List Tok) (p:bw),tv b->Part m->pZ f m b= .ok p->Wf p:=by
 intro f
 induction f with
 |zero=>grind [pZ]
 |succ f ih=>
  intro m b p a hm h;obtain ⟨t,r,rfl⟩:=a.2.1.ne;have j:=a.2.1;simp [pZ] at h;cases g:(t.1==4)
  .rw [g] at h;have k:tv r:=⟨λt' l=>a.1 t' (cp _ l),j.tail (by simpa using g),by have:=a.2.2;grind⟩;cases cv:Ad 1 [118,97,114] t
   .rw [cv] at h;cases i:Ad 1 [112,114,111,99] t
    .rw [i] at h;cases h
    .rw [i] at h;cases d:wa m r with
     |error e=>rw [d] at h;cases h
     |ok q=>
      grind [ahe]
   .rw [cv] at h;cases d:rK m r with
    |error e=>rw [d] at h;cases h
    |ok q=>
     grind [aiG]
  .rw [g] at h;cases c:m.1.isEmpty
   .rw [c] at h;cases h;refine ⟨hm,?_⟩;grind
   grind
theorem ah5{text:aE}{m:bw}(h:QY text= .ok m):Wf m:=by
 unfold QY at h;split at h
 .cases h
 .cases hx:Lx.lex text with
  |error e=>rw [hx] at h;cases h
  |ok l=>
   rw [hx] at h;have a:=ZD hx;exact acw _ _ _ _ ⟨a.num,a.ends,by have:=a.len;omega⟩ ⟨by simp,rfl,rfl,(λf b=>by cases b),(λi f v b=>by simp at b),by simp,(λc d=>by cases d)⟩ h
end Sy
namespace Sy
open Pa
theorem ak7(text:aE):fE text=some (QD (QY text)):=by
 unfold QY;by_cases h:65536<text.length
 .rw [du h];unfold fE;rw [Lx.MW];unfold Lx.tokens;rw [du h];rfl
 .rw [dk h];have ht:gF text=some (Lx.res (Lx.lex text)):=by grind [Lx.MW,Lx.afb]
  cases hl:Lx.lex text with
  |ok l=>
   rw [hl] at ht;have a:=ZD hl;exact amW ht (by have:=a.len;omega) a.ok a.num a.ends
  |error e=>
   rw [hl] at ht;have b  :=bne_iff_ne.2 (aaq _ _ _ _ hl);unfold fE;rw [ht,ah];simp [Lx.res,b,ca,QD]
end Sy
variable {v : zj}
namespace Sp
theorem aoW(d:Nat)(h:d<10):Lx.Ac (UInt8.ofNat (48+d))=d/\Lx.isDigit (UInt8.ofNat (48+d))=true:=by
 have:d=0\/d=1\/d=2\/d=3\/d=4\/d=5\/d=6\/d=7\/d=8\/d=9:=by omega
 rcases this with rfl|rfl|rfl|rfl|rfl|rfl|rfl|rfl|rfl|rfl <;> exact ⟨rfl,rfl⟩
theorem Rs:∀(N n:Nat),n<=N->Lx.gH 0 (Lib.decDigits n)=n/\(Lib.decDigits n).all Lx.isDigit=true/\Lib.decDigits n≠[]:=by
 intro N
 induction N with
 |zero=>
  intro n h;obtain rfl:n=0:=by omega
  rw [Lib.decDigits,tA (by omega)];exact ⟨rfl,rfl,by simp⟩
 |succ N ih=>
  intro n h;rw [Lib.decDigits];grind [aoW,Bool.and_self,Lx.Ac,UInt8.ofNat,Lx.gH]
theorem aol{m n:Nat}(h:Lib.decDigits m=Lib.decDigits n):m=n:=by have b:=(Rs m m (cH _)).1;have a:=(Rs n n (cH _)).1;grind
theorem QM{c:UInt8}(h:Lx.isDigit c=true):c≠45/\c≠32:=by constructor <;> (intro e;subst e;cases h)
theorem Wh(n:Nat):∀c∈Lib.decDigits n,Lx.isDigit c=true:=λc a=>List.all_eq_true.1 (Rs n n (cH _)).2.1 c a
theorem amQ{x y:Int}(h:Lib.itoa x=Lib.itoa y):x=y:=by
 have a:∀(m n:Nat),Lib.decDigits m≠45::Lib.decDigits n:=λm n e=>by have:=Wh m 45 (by rw [e];simp);exact (QM this).1 rfl
 grind [Lib.itoa,aol,List.cons.inj,absurd]
theorem Wn(x:Int):∀c∈Lib.itoa x,c≠32:=by
 intro c a;unfold Lib.itoa at a;split at a
 .rcases List.mem_cons.1 a with rfl|a
  .decide
  .exact (QM (Wh _ c a)).2
 .exact (QM (Wh _ c a)).2
theorem GV:∀(k u:Nat),u<10^(k+1)->Lib.nDigits u<=k+1
 |0,u,h=>by grind [Lib.nDigits_small]
 |k+1,u,h=>by
  by_cases a:u<10
  .grind [Lib.nDigits_small]
  .rw [Lib.nDigits_big a];have:=GV k (u/10) (by grind);omega
theorem WG{n:Int}(b: -9223372036854775808<=n)(a:n<=9223372036854775807):(Lib.itoa n).length<=20:=by
 unfold Lib.itoa;split
 .rw [eb,Lib.decDigits_length];have:=GV 18 n.natAbs (by omega);omega
 .rw [Lib.decDigits_length];have:=GV 18 n.toNat (by omega);omega
def fm(v:zj):aE:=v.flatMap λn=>Lib.itoa n++[32]
theorem an4{a b r s:aE}(ha:∀c∈a,c≠32)(hb:∀c∈b,c≠32)(h:a++32::r=b++32::s):a=b/\r=s:=by
 induction a generalizing b with
 |nil=>
  cases b with
  |nil=>grind
  |cons c b=>grind
 |cons c a ih=>
  cases b with
  |nil=>grind
  |cons d b=>
   grind
theorem Rh:∀{a b:zj},fm a=fm b->a=b
 |[],[],_=>rfl
 |[],y::b,h=>by
  simp_all [fm,congrArg]
 |x::a,[],h=>by
  simp_all [fm,congrArg]
 |x::a,y::b,h=>by simp [fm,qU,cb] at h;obtain ⟨d,c⟩:=an4 (Wn x) (Wn y) h;rw [amQ d,Rh c]
theorem text_cat(a b:zj):fm (a++b)=fm a++fm b:=by simp [fm]
theorem Le(s:aE):strOf (aQ s)=s:=by
 induction s with
 |nil=>rfl
 |cons c s ih=>
  simp_all [strOf,aQ,eT]
theorem PO(a b:aE):aQ (a++b)=aQ a++aQ b:=by simp [aQ]
theorem HB(s:aE):(aQ s).length=s.length:=by simp [aQ]
def vF(v:zj):Prop:= ∀n∈v,-9223372036854775808<=n/\n<=9223372036854775807
theorem abH(h:vF v):(fm v).length<=21*v.length:=by
 induction v with
 |nil=>simp [fm]
 |cons n v ih=>
  have a:=h n (by simp);have:=WG a.1 a.2;have:=ih (λm hm=>h m (cp _ hm));grind [fm,List.length_append,List.length_cons,List.length_nil]
theorem copy_eq(f:Bool)(l:zj):je f l=some true:=by cases f <;> rfl
theorem arR{s:aE}{l:zj}(f:Bool)(h:l.length+s.length<=140737488355328):gY s f l=some ((s.length:Int),true,l++aQ s):=by grind [gY,copy_eq,ah,Sy.aP,Sy.dw]
theorem ar5{l:zj}(c:Int)(f:Bool)(h:l.length+1<=140737488355328):iZ c f l=some (true,l++[c]):=by grind [iZ,copy_eq,ah,Sy.aP,Sy.dw]
theorem aiR(f:Bool){s:aE}(h:aQ s≠[]):kB f (aQ s)=some s:=by
 have e  :=Le s;cases hb:aQ s with
 |nil=>exact absurd hb h
 |cons c l=>
  rw [hb] at e;unfold kB;rw [show idx (c::l) 0=some c from rfl,ah,Sy.aP (by simp),e]
theorem arw{x:Int}(h:ZL x=true):YA x=some (Lib.itoa x):=Sy.aP h _
theorem Xe(v:zj)(b:vF v)(hl:v.length<1000000000)(a:v≠[]):∀(r pre:zj),v=pre++r->∀(M:Nat) (f:Bool),r.length<M->
  aj (xJ v) M (f,aQ (fm pre),(pre.length:Int))=some (fm v)
 |[],pre,h,M,f,hM=>by
  obtain ⟨m,rfl⟩:∃m,M=m+1:=⟨M-1,by omega⟩;rw [ao];have e  :=by simpa using h.symm
  subst e;simp only [xJ,cy (show ¬((pre.length:Int)<(List.length pre)) by omega),b7];rw [aiR,ah];cases pre with
  |nil=>exact absurd rfl a
  |cons x r=>
   have:(aQ (fm (x::r))).length≠0:=by rw [HB];simp [fm]
   grind
 |x::r,pre,h,M,f,hM=>by
  obtain ⟨m,rfl⟩:∃m,M=m+1:=⟨M-1,by omega⟩;rw [ao];have hx:=b x (by rw [h];simp);have hi  :=YP.2 hx;have hp:vF pre:=λn hn=>b n (by grind);have hb:=abH hp;have c:=WG hx.1 hx.2;have ih:=Xe v b hl a r (pre++[x]) (by rw [h];simp) m true (by simp at hM;omega);have d:aQ (fm (pre++[x]))=(aQ (fm pre)++aQ (Lib.itoa x))++[32]:=by simp [fm,qU,PO,cb];rfl
  simp [xJ,Sy.lL h,ah,arw hi];grind [arR,HB,ah,ar5,List.length_append,Pa.bR]
theorem api(b:vF v)(hl:v.length<1000000000)(a:v≠[]):Nv v=some (fm v):=
 Xe v b hl a v [] rfl au false (by show v.length<2^64;omega)
def iz(l:wq)(v:zj):wq:=if l.contains v then l else l++[v]
def di(acc l:wq):wq:=l.foldl iz acc
def Seen(l:wq)(at_:Option (List (aE×Bool))):Prop:=(at_=none->l=[])/\∀v,ew at_ (fm v) false=l.contains v
theorem alQ:Seen [] none:=⟨λ_=>rfl,λa=>rfl⟩
theorem Gq(l:List (aE×Bool))(k a:aE):(pd (mo l k true) a).getD false=((a==k)||(pd l a).getD false):=by
 induction l with
 |nil=>
  grind [mo,pd]
 |cons p l ih=>
  simp [mo];cases b:(k==p.1)
  .simp [b7,pd];grind
  .simp [ca,pd];grind
theorem add_eq{l:wq}{at_:Option (List (aE×Bool))}(f:vF v)(hl:v.length<1000000000)(c:v≠[])(g:l.length<1000000000)(b:Seen l at_):
  ∃at',n8 v l at_=some (iz l v,at')/\Seen (iz l v) at':=by
 have k1:aH (List.length l+List.length ([v])) 24=true:=Sy.dw (by simp;omega) (by simp;omega);have key:∀a:List (aE×Bool),Seen l (some a)->∃at',wK v l (some a)=some (iz l v,at')/\Seen (iz l v) at':=λa b=>by
  unfold wK;rw [api f hl c,ah,b.2 v];unfold iz;cases i:l.contains v
  .simp only [Sy.aP k1,eF];refine ⟨_,rfl,(λh=>by cases h),λu=>?_⟩;have d:=b.2 u;unfold ew at d ⊢;simp at d ⊢;rw [Gq,d];have e:(fm u==fm v)=(u==v):=by grind [beq_eq_false_iff_ne,Rh]
   grind
  grind
 cases at_ with
 |none=>
  refine key [] ⟨(λh=>by cases h),λu=>?_⟩;exact b.2 u
 |some a=>
  exact key a b
theorem Ed(l:wq)(v:zj):(iz l v).length<=l.length+1:=by grind [iz]
theorem aat{l:wq}{u:zj}:u∈iz l v↔u∈l\/u=v:=by unfold iz;grind
theorem rG:∀(m l:wq),(di l m).length<=l.length+m.length
 |[],l=>by simp [di]
 |v::m,l=>by have:=rG m (iz l v);grind [Ed,di,List.length_cons]
theorem mR{u:zj}:∀{m l:wq},u∈di l m↔u∈l\/u∈m
 |[],l=>by simp [di]
 |v::m,l=>by have:=mR (u:=u) (m:=m) (l:=iz l v);grind [di,aat]
theorem Qb:∀(m l:wq),l <+: di l m
 |[],l=>tj _
 |v::m,l=>by have a:=Qb m (iz l v);grind [iz,List.prefix_refl,List.prefix_append,di]
end Sp
theorem akc(b:Bool):yk b=some (tr b):=by cases b <;> rfl
theorem Nr(k:Ex×zj->zb)(e:Ex)(v:zj)(d:Int×Int×Int->zb)(a b t:Int)(h:¬t<(List.length (aV e.l 0 (min (List.length e.l:Int) 2)):Int)):
  ez k e v d (a,b,t)=some (Py e.op e.n v a b):=by
 simp [ez,cy h,aM,EO,Eb,EI,DT,EZ,akc,Py];cases r:(decide (e.n<0)||decide ((List.length v)<=e.n))
 .have q:idx v e.n=some (v.getD e.n.toNat 0):=by simp_all [idx,b9]
  rw [q];generalize (e.op==1)=p;generalize (e.op==2)=o;generalize (e.op==3)=m;generalize (e.op==5)=i;generalize (e.op==6)=g;generalize (e.op==4)=j;generalize (e.op==8)=b8;generalize (e.op==7)=f;generalize (e.op==19)=c;cases p
  case true=>rfl
  cases o
  case true=>rfl
  cases m
  case true=>rfl
  cases i
  case true=>rfl
  cases g
  case true=>rfl
  cases j
  case true=>rfl
  cases b8
  case true=>rfl
  cases f
  case true=>rfl
  cases c
  case true=>rfl
  grind
 .generalize (e.op==1)=p;generalize (e.op==2)=o;generalize (e.op==3)=m;generalize (e.op==5)=i;generalize (e.op==6)=g;generalize (e.op==4)=j;generalize (e.op==8)=b8;generalize (e.op==7)=f;generalize (e.op==19)=c;cases p
  case true=>rfl
  cases o
  case true=>rfl
  cases m
  case true=>rfl
  cases i
  case true=>rfl
  cases g
  case true=>rfl
  cases j
  case true=>rfl
  cases b8
  case true=>rfl
  cases f
  case true=>rfl
  cases c
  case true=>rfl
  grind
theorem ap8(k:Ex×zj->zb)(e:Ex)(v:zj)(hk:∀x∈e.l,k (x,v)=some (ev v x)):vD k e v=some (ev v e):=by
 unfold vD;have d:cZ 0 (min (List.length e.l) 2) (List.length e.l)=true:=wy.2 ⟨⟨pF _,by omega⟩,by omega⟩;rw [d,ae6];show aj (ez k e v) au (0,0,0)=_;rw [show au=18446744073709551613+1+1+1 from rfl];generalize 18446744073709551613=N;rw [ao];obtain ⟨op,n,a,l⟩:=e
 match l,hk with
 |[],_=>exact Nr k (.mk op n a []) v _ 0 0 0 (by show ¬(0:Int)<((List.length (aV ([]:List Ex) 0 _):Nat));simp [aV])
 |[x],hk=>
  have hx:=hk x (by simp [Ex.l]);have hl:aV [x] 0 (min (List.length [x]) 2)=[x]:=rfl;have b:ez k (.mk op n a [x]) v (aj (ez k (.mk op n a [x]) v) (N+1+1)) (0,0,0)=aj (ez k (.mk op n a [x]) v) (N+1+1) (ev v x,0,1):=by show (k (x,v)).bind _=_;rw [hx];rfl
  rw [b,ao];exact Nr k (.mk op n a [x]) v _ (ev v x) 0 1 (by show ¬(1:Int)<(List.length (aV [x] 0 (min (List.length [x]:Int) 2)));rw [hl];simp)
 |x::y::r,hk=>
  have hx:=hk x (by simp [Ex.l]);have c:=hk y (by simp [Ex.l]);have hm:min (List.length (x::y::r):Int) 2=2:=by grind
  have hl:aV (x::y::r) 0 2=[x,y]:=rfl;have b:ez k (.mk op n a (x::y::r)) v (aj (ez k (.mk op n a (x::y::r)) v) (N+1+1)) (0,0,0)=aj (ez k (.mk op n a (x::y::r)) v) (N+1+1) (ev v x,0,1):=by show (bif decide ((0:Int)<(List.length (aV (x::y::r) 0 (min (List.length (x::y::r):Int) 2)))) then (idx (aV (x::y::r) 0 (min (List.length (x::y::r)) 2)) 0).bind _ else _)=_;rw [hm,hl];show (k (x,v)).bind _=_;rw [hx];rfl
  have f:ez k (.mk op n a (x::y::r)) v (aj (ez k (.mk op n a (x::y::r)) v) (N+1)) (ev v x,0,1)=aj (ez k (.mk op n a (x::y::r)) v) (N+1) (ev v x,ev v y,2):=by show (bif decide ((1:Int)<(List.length (aV (x::y::r) 0 (min (List.length (x::y::r):Int) 2)))) then (idx (aV (x::y::r) 0 (min (List.length (x::y::r)) 2)) 1).bind _ else _)=_;rw [hm,hl];show (k (y,v)).bind _=_;rw [c];rfl
  rw [b,ao,f,ao];exact Nr k (.mk op n a (x::y::r)) v _ (ev v x) (ev v y) 2 (by grind [List.length,aV,min])
theorem ajm:∀(N:Nat) (e:Ex) (v:zj),e.sz<=N->aj (λk (s:Ex×zj)=>vD k s.1 s.2) N (e,v)=some (ev v e):=by
 intro N
 induction N with
 |zero=>grind [oD]
 |succ N ih=>
  intro e v h;exact ap8 _ e v (λx hx=>ih x v (by have:=my hx;omega))
theorem Wd(e:Ex)(h:e.sz<4611686018427387904)(v:zj):rz e v=some (ev v e):=ajm au e v (by show e.sz<=2^64;omega)
namespace Sp
def fits:w5->zj->Bool
 |s::S,n::w=>(decide (s.1<=n)&&decide (n<=s.2))&&fits S w
 |_,_=>true
def NT(v w:zj)(s:Int×Ex):zj:=w.set s.1.toNat (ev v s.2)
def afc(v:zj)(c:Sy.aT):zj:=c.2.2.foldl (NT v) v
theorem P8(v w:zj)(s:Int×Ex):(NT v w s).length=w.length:=by simp [NT]
theorem W9(v:zj):∀(l:List (Int×Ex)) (w:zj),(l.foldl (NT v) w).length=w.length
 |[],w=>rfl
 |s::l,w=>by rw [List.foldl_cons,W9 v l,P8]
theorem L6(v:zj)(c:Sy.aT):(afc v c).length=v.length:=W9 _ _ _
def fin(S:w5)(w:zj):zj×Int:=bif fits S w then (w,0) else ([],6)
def ni(v:zj):Nat->List Sy.aT->zj
 |_,[]=>[]
 |k,c::r=>if ev v c.2.1=1 then (k:Int)::ni v (k+1) r else ni v (k+1) r
def ZX(v:zj)(l:List Sy.aT):List Sy.aT:=l.filter λc=>decide (ev v c.2.1=1)
def fq(cmds:List Sy.aT)(v:zj)(i:Int):zj:=match cmds[i.toNat]? with|some c=>afc v c|none=>v
def NY(S:w5)(cmds:List Sy.aT)(v:zj)(k:Int):zj×Int:=
 if k<0\/(cmds.length:Int)<=k then ([],10) else fin S (fq cmds v k)
def goes(v:zj)(cmds:List Sy.aT):wq:=(ZX v cmds).map (afc v)
def SJ(S:w5)(v:zj)(ws:wq):wq×Int:=
 if ws=[] then ([v],0) else bif ws.all (fits S) then (di [] ws,0) else ([],6)
def fL(S:w5)(cmds:List Sy.aT)(v:zj):wq×Int:=SJ S v (goes v cmds)
structure SafeS(S:w5)(C:List Sy.aT):Prop where
 pos:1<=S.length
 dT:S.length<=16
 field:∀f∈S,Sy.Od f
 cmds:C.length<=300
 guard:∀c∈C,c.2.1.sz<1000000
 sets:∀c∈C,c.2.2.length<=65537/\∀s∈c.2.2,0<=s.1/\s.1<S.length/\s.2.sz<1000000
structure sW(S:w5)(v:zj):Prop where
 len:v.length=S.length
 fit:fits S v=true
theorem ZT:∀{S:w5} {v:zj},v.length=S.length->(∀f∈S,Sy.Od f)->fits S v=true->vF v
 |[],[],_,_,_=>λn hn=>by cases hn
 |[],_::_,h,_,_=>by simp at h
 |_::_,[],h,_,_=>by simp at h
 |s::S,x::w,h,hS,a=>by
  simp [fits,ar,eW] at a;have b:=hS s (by simp);intro n hn;rcases List.mem_cons.1 hn with rfl|hn
  .have:=b.lo;have:=b.hi;omega
  .exact ZT (by simpa using h) (λf a=>hS f (cp _ a)) a.2 n hn
theorem sW.i64{S:w5}{cmds:List Sy.aT}(h:sW S v)(a:SafeS S cmds):vF v:=ZT h.len a.field h.fit
theorem sW.ne{S:w5}{cmds:List Sy.aT}(h:sW S v)(a:SafeS S cmds):v≠[]:=λe=>by have:=h.len;have:=a.pos;grind
theorem sW.short{S:w5}{cmds:List Sy.aT}(h:sW S v)(a:SafeS S cmds):v.length<1000000000:=by have:=h.len;have:=a.dT;omega
theorem aqX(s:Int×Int)(n:Int):lq s n=some (decide (s.1<=n)&&decide (n<=s.2)):=rfl
theorem aej(S:w5)(w:zj):∀(r pre:zj) (rs ps:w5),w=pre++r->S=ps++rs->ps.length=pre.length->rs.length=r.length->w.length<1000->
  ∀M,r.length<M->aj (tn S w) M (pre.length:Int)=some (bif fits rs r then 0 else 5)
 |[],pre,rs,ps,h,hS,hl,hr,hw,M,hM=>by
  obtain ⟨m,rfl⟩:∃m,M=m+1:=⟨M-1,by omega⟩;rw [ao];simp only [tn,Sy.uS h];have  :=er hr;subst this;rfl
 |x::r,pre,[],ps,h,hS,hl,hr,hw,M,hM=>by simp at hr
 |x::r,pre,s::rs,ps,h,hS,hl,hr,hw,M,hM=>by
  obtain ⟨m,rfl⟩:∃m,M=m+1:=⟨M-1,by omega⟩;rw [ao];have b:idx S (pre.length)=some s:=by grind [Sy.lL]
  have a:pre.length+r.length+1=w.length:=by rw [h];simp;omega
  have ih:=aej S w r (pre++[x]) rs (ps++[s]) (by rw [h];simp) (by rw [hS];simp) (by simp;omega) (by simpa using hr) hw m (by simp at hM;omega);simp [tn,Sy.lL h,aqX,Pa.bR (show pre.length<4611686018427387904 by omega),fits];grind
theorem arQ(S:w5)(w:zj)(hl:w.length=S.length)(a:w.length<1000):tP S w=some (bif fits S w then 0 else 5):=by unfold tP;rw [show ((List.length w:Int) != (List.length S))=false by rw [hl];simp,b7];exact aej S w w [] S [] rfl rfl rfl hl.symm a au (by show w.length<2^64;omega)
theorem sw(l:List α)(i:Int)(b:0<=i)(a:i<l.length):∃x,idx l i=some x/\l[i.toNat]? =some x:=by simp_all [idx]
theorem WJ(m:Sy.bw)(v:zj)(e:Sy.aT)(hn:v.length=m.2.1.length)(c:v.length<1000)(d:e.2.2.length<=65537)(a:∀s∈e.2.2,0<=s.1/\s.1<m.2.1.length/\s.2.sz<1000000):
  ∀(r pre:List (Int×Ex)),e.2.2=pre++r->∀(w:zj) (M:Nat),w.length=v.length->r.length<M->
   aj (xS m v e) M (w,(pre.length:Int))=some (fin m.2.1 (r.foldl (NT v) w))
 |[],pre,h,w,M,hw,hM=>by
  obtain ⟨k,rfl⟩:∃k,M=k+1:=⟨M-1,by omega⟩;rw [ao];simp [xS,fin];grind [arQ,ah,fits]
 |s::r,pre,h,w,M,hw,hM=>by
  obtain ⟨k,rfl⟩:∃k,M=k+1:=⟨M-1,by omega⟩;rw [ao];obtain ⟨f,i,g⟩:=a s (by rw [h];simp);have b:pre.length+r.length+1=e.2.2.length:=by rw [h];simp;omega
  obtain ⟨x,hx,_⟩:=sw w s.1 f (by omega);have ih:=WJ m v e hn c d a r (pre++[s]) (by rw [h];simp) (NT v w s) k (by rw [P8,hw]) (by simp at hM;omega);rw [show ((pre++[s]).length)=((pre.length+1:Nat)) by simp] at ih;simp only [xS,Sy.uM h,Sy.lL h,ah];rw [Wd s.2 (by omega) v];simp [hx,Pa.bR (show pre.length<4611686018427387904 by omega)];exact ih
theorem Qq(v:zj)(h:v.length<1000000000):bu v=some v:=by grind [bu,Sy.aP,Sy.dw]
theorem an9{m:Sy.bw}(hm:SafeS m.2.1 m.2.2.2.2)(hn:v.length=m.2.1.length)(k:Int):GB m v k=some (NY m.2.1 m.2.2.2.2 v k):=by
 have d:v.length<1000:=by have:=hm.dT;omega
 unfold GB;simp [aM];unfold NY;by_cases hk:k<0\/(m.2.2.2.2.length)<=k
 .grind
 .rw [dk hk];rw [show (decide (k<0)||decide ((List.length m.2.2.2.2)<=k))=false by grind,b7];obtain ⟨c,e,b⟩:=sw m.2.2.2.2 k (by omega) (by omega);rw [Qq v (by omega),ah,e,ah];have a  :=fe b;have:=WJ m v c hn d (hm.sets c a).1 (hm.sets c a).2 c.2.2 [] rfl v au rfl (by have:=(hm.sets c a).1;show _<2^64;omega);rw [show (0:Int)=((([]:List (Int×Ex)).length:Nat)) from rfl,this];unfold fq;rw [b];rfl
theorem ac7(m:Sy.bw)(v:zj)(hm:SafeS m.2.1 m.2.2.2.2):∀(r pre:List Sy.aT),m.2.2.2.2=pre++r->∀(out:zj) (M:Nat),out.length<=pre.length->r.length<M->
  aj (sY m v) M (out,(pre.length:Int))=some (out++ni v pre.length r)
 |[],pre,h,out,M,a,hM=>by
  obtain ⟨k,rfl⟩:∃k,M=k+1:=⟨M-1,by omega⟩;simp_all [ao,sY,ni]
 |c::r,pre,h,out,M,a,hM=>by
  obtain ⟨k,rfl⟩:∃k,M=k+1:=⟨M-1,by omega⟩;rw [ao];have b:pre.length+r.length+1=m.2.2.2.2.length:=by rw [h];simp;omega
  have f:=hm.cmds;have e:=hm.guard c (by rw [h];simp);simp only [sY,Sy.uM h,Sy.lL h,ah];rw [Wd c.2.1 (by omega) v,ah];have ih:=λout a=>ac7 m v hm r (pre++[c]) (by rw [h];simp) out k a (by simp at hM;omega);rw [show ((pre++[c]).length:Int)=((pre.length+1:Nat)) by simp,show (pre++[c]).length=pre.length+1 by simp] at ih;simp only [Pa.bR (show pre.length<4611686018427387904 by omega),ni];by_cases d:ev v c.2.1=1
  .rw [du d,show (ev v c.2.1==1)=true by simpa using d,ca,Sy.aP (Sy.dw (by simp;omega) (by simp;omega)),ih _ (by simp;omega),cb];rfl
  grind
theorem asl{m:Sy.bw}(hm:SafeS m.2.1 m.2.2.2.2):Fi m v=some (ni v 0 m.2.2.2.2):=
 ac7 m v hm m.2.2.2.2 [] rfl [] au (cH _) (by have:=hm.cmds;show _<2^64;omega)
theorem Iu(v:zj):∀(r:List Sy.aT) (k:Nat),(ni v k r).length=(ZX v r).length
 |[],k=>rfl
 |c::r,k=>by
  unfold ni ZX;rw [s6];by_cases a:ev v c.2.1=1
  .rw [du a,du (by simpa using a),eb,eb,Iu v r];rfl
  .rw [dk a,dk (by simpa using a),Iu v r];rfl
theorem ads{v:zj}{i:Int}:∀{r:List Sy.aT} {k:Nat},i∈ni v k r->∃(j:Nat) (c:Sy.aT),i=((k+j:Nat):Int)/\r[j]? =some c/\ev v c.2.1=1
 |[],k,h=>by simp [ni] at h
 |c::r,k,h=>by
  unfold ni at h;have a:i∈ni v (k+1) r->∃(j:Nat) (d:Sy.aT),i=((k+j:Nat))/\(c::r)[j]? =some d/\ev v d.2.1=1:=λh=>by obtain ⟨j,d,g,f,e⟩:=ads h;exact ⟨j+1,d,by omega,by simpa using f,e⟩
  by_cases b:ev v c.2.1=1
  .rw [du b] at h;rcases List.mem_cons.1 h with rfl|h
   .exact ⟨0,c,rfl,rfl,b⟩
   .exact a h
  grind
theorem VP(v:zj)(cmds:List Sy.aT):∀(r pre:List Sy.aT),cmds=pre++r->(ni v pre.length r).map (fq cmds v)=goes v r
 |[],pre,h=>rfl
 |c::r,pre,h=>by
  have ih:=VP v cmds r (pre++[c]) (by rw [h];simp);rw [show (pre++[c]).length=pre.length+1 by simp] at ih;unfold ni goes ZX;rw [s6];by_cases a:ev v c.2.1=1
  .rw [du a,du (by simpa using a),eT,eT,ih];unfold fq;rw [show ((pre.length:Int)).toNat=pre.length from rfl,show cmds[pre.length]? =some c by rw [h];simp];rfl
  .rw [dk a,dk (by simpa using a),ih];rfl
theorem am1{w:zj}{cmds:List Sy.aT}(h:w∈goes v cmds):w.length=v.length:=by obtain ⟨c,_,rfl⟩:=List.mem_map.1 h;exact L6 v c
theorem ako(v:zj)(cmds:List Sy.aT):(goes v cmds).length<=cmds.length:=by grind [goes,ZX,List.length_map,List.length_filter_le]
theorem aiE{cmds:List Sy.aT}{i:Int}(h:i∈ni v 0 cmds):0<=i/\i<cmds.length:=by obtain ⟨j,c,rfl,a,_⟩:=ads h;grind
theorem Qc{S:w5}{cmds:List Sy.aT}(b:sW S v):∀w∈(fL S cmds v).1,sW S w:=by
 intro w a;unfold fL SJ at a;split at a
 .grind
 .cases ha:(goes v cmds).all (fits S) <;> rw [ha] at a
  .cases a
  .rcases mR.1 a with h|h
   .cases h
   .exact ⟨by rw [am1 h];exact b.len,List.all_eq_true.1 ha w h⟩
theorem No{S:w5}{cmds:List Sy.aT}(v:zj):(fL S cmds v).1.length<=cmds.length+1:=by grind [fL,SJ,goes,fits,rG,ako]
end Sp
namespace Sp
theorem akl{S:w5}{C:List Sy.aT}(hm:SafeS S C)(c:sW S v){l:wq}{at_:Option (List (aE×Bool))}(f:Seen l at_)(k:wq->Option (List (aE×Bool))->Option (wq×Int))(hk:∀l a,k l a=some (l,0)):
  (bif ((List.length l:Int)==0) then ((bu v).bind λd=>(n8 d l at_).bind λb=>k b.1 b.2) else some (l,0))=some (if l=[] then [v] else l,0):=by
 by_cases h:l=[]
 .subst h;rw [show ((List.length ([]):Int)==0)=true from rfl,ca,Qq v (c.short hm),ah];obtain ⟨i,g,_⟩:=add_eq (c.i64 hm) (c.short hm) (c.ne hm) (by simp) f;rw [g,ah,hk];rfl
 .have e:((List.length l)==0)=false:=by simp_all
  grind
theorem BS(m:Sy.bw)(v:zj)(hm:SafeS m.2.1 m.2.2.2.2)(b:sW m.2.1 v)(L:zj)(p:∀i∈L,0<=i/\i<m.2.2.2.2.length)(g:L.length<=300):
  ∀(r pre:zj),L=pre++r->∀(c:Int) (l:wq) (at_:Option (List (aE×Bool))) (M:Nat),Seen l at_->l.length<=pre.length->r.length<M->
   aj (yy v (m.1,m.2.1,m.2.2.1,m.2.2.2.1,m.2.2.2.2,v) L) M ((pre.length:Int),c,l,at_)=
    some (if (r.map (fq m.2.2.2.2 v)).all (fits m.2.1)=true then (if di l (r.map (fq m.2.2.2.2 v))=[] then [v] else di l (r.map (fq m.2.2.2.2 v)),0) else ([],6))
 |[],pre,h,c,l,at_,M,hs,hl,hM=>by
  obtain ⟨k,rfl⟩:∃k,M=k+1:=⟨M-1,by omega⟩;rw [ao];simp only [yy,Sy.uS h];exact akl hm b hs (λl _=>some (l,0)) (λ_ _=>rfl)
 |i::r,pre,h,c,l,at_,M,hs,hl,hM=>by
  obtain ⟨k,rfl⟩:∃k,M=k+1:=⟨M-1,by omega⟩;rw [ao];have o:pre.length+r.length+1=L.length:=by rw [h];simp;omega
  obtain ⟨e,d⟩:=p i (by rw [h];simp);simp only [yy,Sy.uM h,ca,Sy.lL h,ah,j6];rw [show (m.1,m.2.1,m.2.2.1,m.2.2.2.1,m.2.2.2.2)=m from rfl,an9 hm b.len i];unfold NY;rw [dk (by omega),ah];unfold fin;rw [eT,qm];obtain ⟨x,_,t⟩:=sw m.2.2.2.2 i e d;have f:(fq m.2.2.2.2 v i).length=m.2.1.length:=by unfold fq;rw [t,<-b.len];exact L6 v x
  cases s:fits m.2.1 (fq m.2.2.2.2 v i)
  .grind
  .have a:sW m.2.1 (fq m.2.2.2.2 v i):=⟨f,s⟩;obtain ⟨j,w,u⟩:=add_eq (a.i64 hm) (a.short hm) (a.ne hm) (by omega) hs;have q:=Ed l (fq m.2.2.2.2 v i);have n:=BS m v hm b L p g r (pre++[i]) (by rw [h];simp) c (iz l (fq m.2.2.2.2 v i)) j k u (by simp;omega) (by simp at hM;omega);rw [show ((pre++[i]).length)=((pre.length+1:Nat)) by simp] at n;rw [ca,show ((0:Int) != 0)=false from rfl,b7];simp only [w,ah,Pa.bR (show pre.length<4611686018427387904 by omega)];rw [n,iQ];rfl
theorem aou{m:Sy.bw}(hm:SafeS m.2.1 m.2.2.2.2)(h:sW m.2.1 v):Gn m v=some (fL m.2.1 m.2.2.2.2 v):=by
 have b:(ni v 0 m.2.2.2.2).length<=300:=by rw [Iu];have:=qS (λc:Sy.aT=>decide (ev v c.2.1=1)) m.2.2.2.2;have:=hm.cmds;unfold ZX;omega
 have f:=BS m v hm h (ni v 0 m.2.2.2.2) (λi hi=>aiE hi) b (ni v 0 m.2.2.2.2) [] rfl 0 [] none au alQ (cH _) (by show _<2^64;omega);have a:(ni v 0 m.2.2.2.2).map (fq m.2.2.2.2 v)=goes v m.2.2.2.2:=VP v m.2.2.2.2 m.2.2.2.2 [] rfl;rw [a] at f;unfold Gn JO;rw [ah];rw [show (m.1,m.2.1,m.2.2.1,m.2.2.2.1,m.2.2.2.2)=m from rfl,asl hm,ah];rw [show ((([]:zj).length):Int)=0 from rfl] at f;rw [f];unfold fL SJ;cases ha:(goes v m.2.2.2.2).all (fits m.2.1)
 .grind
 .rw [du rfl,ca];by_cases d:goes v m.2.2.2.2=[]
  .rw [du d,du (by rw [d];rfl)]
  .rw [dk d,dk];intro e;cases g:goes v m.2.2.2.2 with
   |nil=>exact d g
   |cons x r=>
    have:x∈di [] (x::r):=mR.2 (.inr (by simp));grind
end Sp
end
end Go.Proofs.YtcgihjbfppkcfaaGreatDoor
