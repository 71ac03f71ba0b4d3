/- Own texts for NestRoundsQ, cut and joined by a program. -/
import Derived.Test.YtcgihjbfppkcfaaGreatDoorNestRoundsQI
set_option linter.all false
namespace Go.Proofs.YtcgihjbfppkcfaaGreatDoor
open IntKind (i64)
noncomputable section
theorem oR(e:Ex):1<=e.sz:=by rw [Ex.ahf];omega
theorem ahL{x:Ex}:∀{l:List Ex},x∈l->x.sz<=w7 l
 |y::l,h=>by
  simp [w7];rcases List.mem_cons.1 h with rfl|h
  .omega
  .have:=ahL h;omega
theorem adY:∀(l:List Ex),l.length<=w7 l
 |[]=>cH _
 |x::l=>by have:=adY l;grind [oR,w7,List.length_cons]
theorem lU{e x:Ex}(h:x∈e.l):x.sz<e.sz:=by have:=ahL h;rw [Ex.ahf e];omega
theorem x5(e:Ex):e.l.length<e.sz:=by grind [adY,Ex.ahf]
theorem ah{α ρ:Type}(x:α)(k:α->Option ρ):(some x).bind k=k x:=rfl
theorem aM{α ρ:Type}(x:α)(k:α->Option ρ):ai x k=k x:=rfl
theorem dU{α ρ:Type}(d:α)(m:Option α)(k:α->Option ρ):bC true d m k=m.bind k:=rfl
theorem rE{α ρ:Type}(d:α)(m:Option α)(k:α->Option ρ):bC false d m k=k d:=rfl
theorem n8{l pre r:List Ex}{x:Ex}(h:l=pre++x::r):idx l (pre.length:Int)=some x:=by subst h;simp [idx]
theorem mI{n:Nat}(h:n<4611686018427387904):i64.wrap ((n:Int)+1)=((n+1:Nat):Int):=by grind [bG]
theorem kN{l pre r:List Ex}{x:Ex}(h:l=pre++x::r):decide ((pre.length:Int)<(List.length l:Int))=true:=by subst h;simp;omega
theorem vw{l pre:List Ex}(h:l=pre++[]):decide ((pre.length:Int)<(List.length l:Int))=false:=by subst h;simp
def ar9(op a:Int)(i b t:Bool):Int×Int×Int:=
 bif decide (op<=6)&&i then (1,0,0)
 else bif decide (6<op)&&decide (op<=12)&&i||op==13||op==14||decide (15<=op)&&decide (op<=19)&&b then (2,0,0)
 else bif decide (15<=op)&&t then (3,0,0) else (0,4,a)
mutual
def ty:Ex->Int×Int×Int
 | .mk op _ a l=>tyA op a l true true true
def tyA(op a:Int):List Ex->Bool->Bool->Bool->Int×Int×Int
 |[],i,b,t=>ar9 op a i b t
 |x::r,i,b,t=>bif (ty x).2.1 != 0 then (0,(ty x).2.1,(ty x).2.2) else tyA op a r (i&&(ty x).1==1) (b&&(ty x).1==2) (t&&(ty x).1 != 1)
end
def oD(op:Int):Int:=bif op==1||op==2||op==13||op==14 then 0 else bif op==6||op==15||op==20||op==21||op==22 then 1 else 2
def vr(op n len want vars:Int):Bool:=
 !(decide (op<1)||decide (24<op)||len != want)&& !((op==1)&&(decide (n<0)||decide (1073741824<n))||(op==2)&&(decide (n<0)||decide (vars<=n))||decide (2<op)&&n != 0)
mutual
def fp(vars:Int):Ex->Bool
 | .mk op n _ l=>vr op n (l.length:Int) (oD op) vars&&vo vars l
def vo(vars:Int):List Ex->Bool
 |[]=>true
 |x::r=>fp vars x&&vo vars r
end
theorem We(a:Int)(e:Ex):fp a e=(vr e.op e.n (e.l.length:Int) (oD e.op) a&&vo a e.l):=by cases e;simp [fp,Ex.op,Ex.n,Ex.l]
def tr(b:Bool):Int:=bif b then 1 else 0
def Pr(op n:Int)(v:zj)(a b:Int):Int:=
 bif op==1 then n else bif op==2 then (bif decide (n<0)||decide ((List.length v:Int)<=n) then 0 else v.getD n.toNat 0)
 else bif op==3 then i64.wrap (a+b) else bif op==5 then i64.wrap (a*b) else bif op==6 then i64.wrap (0-a) else bif op==4 then i64.wrap (a-b)
 else bif op==8 then tr ((a==b) != true) else bif op==7 then tr ((a==b) != false) else bif op==19 then tr ((a==b) != false)
 else bif op==12 then tr (decide (a<b) != true) else bif op==9 then tr (decide (a<b) != false) else bif op==11 then tr (decide (a<=b) != true) else bif op==10 then tr (decide (a<=b) != false)
 else bif op==13 then 1 else bif op==15 then i64.wrap (1-a) else bif op==16 then i64.wrap (a*b) else bif op==17 then max a b else bif op==18 then max (i64.wrap (1-a)) b else 0
mutual
def ev(v:zj):Ex->Int
 | .mk op n _ l=>Pr op n v (Cs v l) (Ed v l)
def Cs(v:zj):List Ex->Int
 |[]=>0
 |x::_=>ev v x
def Ed(v:zj):List Ex->Int
 |[]=>0
 |_::r=>Cs v r
end
theorem agj(v:zj)(e:Ex):ev v e=Pr e.op e.n v (Cs v e.l) (Ed v e.l):=by cases e;simp [ev,Ex.op,Ex.n,Ex.l]
def N7(op a len i b t:Int):Int×Int×Int:=
 bif decide (op<=6)&&(i==len) then (1,0,0)
 else bif decide (7<=op)&&decide (op<=12)&&(i==len)||op==13||op==14 then (2,0,0)
 else bif decide (15<=op)&&decide (op<=19)&&(b==len) then (2,0,0)
 else bif decide (15<=op)&&(b+t==len) then (3,0,0) else (0,4,a)
mutual
def rt:Ex->Int×Int×Int
 | .mk op _ a l=>sZ op a (l.length:Int) l 0 0 0
def sZ(op a len:Int):List Ex->Int->Int->Int->Int×Int×Int
 |[],i,b,t=>N7 op a len i b t
 |x::r,i,b,t=>bif (rt x).2.1 != 0 then (0,(rt x).2.1,(rt x).2.2) else sZ op a len r (bif (rt x).1==1 then i+1 else i) (bif (rt x).1==2 then b+1 else b) (bif (rt x).1==3 then t+1 else t)
end
theorem rt_eq(e:Ex):rt e=sZ e.op e.at_ (e.l.length:Int) e.l 0 0 0:=by cases e;simp [rt,Ex.op,Ex.at_,Ex.l]
theorem ao5{α ρ:Type}(g:Bool)(d v:α)(k:α->Option ρ):bC g d (some v) k=k (bif g then v else d):=by cases g <;> rfl
theorem Og(op a len:Int):∀(l:List Ex) (i b t:Int),(sZ op a len l i b t).1=2->7<=op/\op<=19
 |[],i,b,t,h=>by
  simp [sZ,N7] at h;grind
 |x::r,i,b,t,h=>by
  simp [sZ] at h;cases c:((rt x).2.1 != 0)
  .rw [c] at h;exact Og op a len r _ _ _ h
  grind
theorem ZA(op a len:Int)(e:15<=op)(d:op<=19):∀(l:List Ex) (i b t:Int),b+l.length<len->(sZ op a len l i b t).1≠2
 |[],i,b,t,hb,h=>by
  simp [sZ,N7] at h;grind
 |x::r,i,b,t,hb,h=>by
  simp [sZ] at h;cases c:((rt x).2.1 != 0)
  .rw [c] at h;refine ZA op a len e d r _ _ _ ?_ h;grind
  grind
theorem Od(op a len:Int)(e:15<=op)(d:op<=19):∀(l:List Ex) (i b t:Int),b+l.length<=len->(sZ op a len l i b t).1=2->∀x∈l,(rt x).1=2/\(rt x).2.1=0
 |[],_,_,_,_,_,x,hx=>by cases hx
 |y::r,i,b,t,hb,h,x,hx=>by
  simp [sZ] at h;cases c:((rt y).2.1 != 0)
  .rw [c] at h;cases f:((rt y).1==2)
   .exact absurd h (ZA op a len e d r _ _ _ (by grind))
   .rcases List.mem_cons.1 hx with rfl|hx
    .grind
    .exact Od op a len e d r _ _ _ (by grind) h x hx
  grind
theorem QY(b:Bool):tr b=0\/tr b=1:=by cases b;exact .inl rfl;exact .inr rfl
theorem arq(v:zj){l:List Ex}(h:∀x∈l,ev v x=0\/ev v x=1):(Cs v l=0\/Cs v l=1)/\(Ed v l=0\/Ed v l=1):=by
 match l,h with
 |[],_=>grind [Cs,Ed]
 |[x],h=>grind [Cs,Ed]
 |x::y::r,h=>grind [Cs,Ed]
theorem arK(op n:Int)(v:zj)(a b:Int)(e:7<=op)(d:op<=19)(c:15<=op->(a=0\/a=1)/\(b=0\/b=1)):Pr op n v a b=0\/Pr op n v a b=1:=by
 have:op=7\/op=8\/op=9\/op=10\/op=11\/op=12\/op=13\/op=14\/op=15\/op=16\/op=17\/op=18\/op=19:=by omega
 rcases this with rfl|rfl|rfl|rfl|rfl|rfl|rfl|rfl|rfl|rfl|rfl|rfl|rfl
 .exact QY _
 .exact QY _
 .exact QY _
 .exact QY _
 .exact QY _
 .exact QY _
 .exact .inr rfl
 .exact .inl rfl
 .obtain ⟨ha,_⟩:=c (by omega);rcases ha with rfl|rfl
  .exact .inr rfl
  .exact .inl rfl
 .obtain ⟨ha,hb⟩:=c (by omega);rcases ha with rfl|rfl <;> rcases hb with rfl|rfl
  .exact .inl rfl
  .exact .inl rfl
  .exact .inl rfl
  .exact .inr rfl
 .obtain ⟨ha,hb⟩:=c (by omega);rcases ha with rfl|rfl <;> rcases hb with rfl|rfl
  .exact .inl rfl
  .exact .inr rfl
  .exact .inr rfl
  .exact .inr rfl
 .obtain ⟨ha,hb⟩:=c (by omega);rcases ha with rfl|rfl <;> rcases hb with rfl|rfl
  .exact .inr rfl
  .exact .inr rfl
  .exact .inl rfl
  .exact .inr rfl
 .exact QY _
theorem apO(v:zj):∀(N:Nat) (e:Ex),e.sz<=N->(rt e).1=2->ev v e=0\/ev v e=1:=by
 intro N
 induction N with
 |zero=>grind [oR]
 |succ N ih=>
  intro e h b;rw [rt_eq] at b;obtain ⟨d,a⟩:=Og _ _ _ _ _ _ _ b;rw [agj];refine arK _ _ _ _ _ d a (λc=>arq v (λx hx=>?_));have:=Od _ _ _ c a _ _ _ _ (by omega) b x hx;exact ih x (by have:=lU hx;omega) this.1
theorem M9{a:Int}{e:Ex}(h:fp a e=true):(1<=e.op/\e.op<=24)/\(e.l.length:Int)=oD e.op/\(e.op=1->0<=e.n/\e.n<=1073741824)/\(e.op=2->0<=e.n/\e.n<a)/\∀x∈e.l,fp a x=true:=by
 rw [We] at h;simp [vr,ar,mm,nA,qi,bne_eq_false_iff_eq,Bool.and_eq_false_imp,mN] at h;obtain ⟨⟨⟨⟨i,g⟩,c⟩,⟨f,d⟩,_⟩,b⟩:=h;refine ⟨by omega,c,λh=>by omega,λh=>by omega,?_⟩;have:∀(l:List Ex),vo a l=true->∀x∈l,fp a x=true:=λl=>by
  induction l with
  |nil=>intro _ x hx;cases hx
  |cons y r ih=>
   intro h x hx;simp [vo] at h;grind
 exact this _ b
theorem adO(op a len:Int)(c:op<=12):∀(l:List Ex) (i b t:Int),i+l.length<len->(sZ op a len l i b t).1=0
 |[],i,b,t,hb=>by
  simp [sZ,N7];grind
 |x::r,i,b,t,hb=>by
  simp [sZ];cases ((rt x).2.1 != 0)
  .refine adO op a len c r _ _ _ ?_;grind
  .rfl
theorem abv(op a len:Int)(d:op<=12):∀(l:List Ex) (i b t:Int),i+l.length<=len->(sZ op a len l i b t).1≠0->∀x∈l,(rt x).1=1
 |[],_,_,_,_,_,x,hx=>by cases hx
 |y::r,i,b,t,hb,h,x,hx=>by
  simp [sZ] at h;cases c:((rt y).2.1 != 0)
  .rw [c] at h;cases e:((rt y).1==1)
   .exact absurd (adO op a len d r _ _ _ (by grind)) h
   .rcases List.mem_cons.1 hx with rfl|hx
    .simpa using e
    .exact abv op a len d r _ _ _ (by grind) h x hx
  grind
theorem Vc(op a len:Int):∀(l:List Ex) (i b t:Int),(sZ op a len l i b t).1=1->op<=6
 |[],i,b,t,h=>by
  simp [sZ,N7] at h;grind
 |x::r,i,b,t,h=>by
  simp [sZ] at h;cases c:((rt x).2.1 != 0)
  .rw [c] at h;exact Vc op a len r _ _ _ h
  grind
theorem acH{a:Int}{e:Ex}(hm:fp a e=true)(h:(rt e).1=1\/(rt e).1=2):∀x∈e.l,(rt x).1=1\/(rt x).1=2:=by
 intro x hx;obtain ⟨_,g,_⟩:=M9 hm;rw [rt_eq] at h;by_cases d:e.op<=12
 .exact .inl (abv e.op e.at_ (e.l.length) d e.l 0 0 0 (by omega) (by grind) x hx)
 .have f:(sZ e.op e.at_ (e.l.length) e.l 0 0 0).1=2:=by
   rcases h with h|h
   .have:=Vc _ _ _ _ _ _ _ h;omega
   .exact h
  have b:=Og _ _ _ _ _ _ _ f;by_cases c:15<=e.op
  .exact .inr (Od _ _ _ c b.2 _ _ _ _ (by omega) f x hx).1
  grind [oD,List.eq_nil_of_length_eq_zero]
variable {d : Int}
def xH:List aE:=[[116,114,117,101],[102,97,108,115,101],[88],[70],[71],[85],[82],[118,97,114],[112,114,111,99]]
def aqT:List aE:=[[],[],[],[43],[45],[42],[45],[61,61],[33,61],[60],[60,61],[62],[62,61],[116,114,117,101],[102,97,108,115,101],[33],[38],[124],[45,62],[60,45,62],[88],[70],[71],[85],[82]]
def bQ(op:Int):aE:=aqT.getD op.toNat []
namespace Pa
abbrev Tok:=Int×aE×Int×Int
abbrev Out:=Except (Int×Int) (Ex×List Tok)
def key(s:aE):Bool:=xH.contains s
def y6(t:Tok):Bool:=t.1==3||(t.1==1&&key t.2.1)
def ops:Nat->zj
 |1=>[19]
 |2=>[18]
 |3=>[17]
 |4=>[16]
 |5=>[23,24]
 |6=>[15,20,21,22]
 |7=>[7,8,9,10,11,12]
 |8=>[3,4]
 |9=>[5]
 |10=>[6]
 |11=>[13,14]
 |_=>[]
def Cu(l:zj)(t:Tok):zb:=bif y6 t then l.find? (λo=>bQ o==t.2.1) else none
def dB(s:Nat)(t:Tok):zb:=Cu (ops s) t
def kd:Nat->Nat
 |6=>0
 |10=>0
 |1=>1
 |2=>1
 |5=>1
 |7=>1
 |3=>2
 |4=>2
 |8=>2
 |9=>2
 |11=>3
 |_=>4
def AD(s:Nat):Bool:=s==1||s==2||s==5||s==6||s==10
def dn(s:Nat)(d:Int):Int:=bif AD s then d+1 else d
def rW(s:Nat)(d:Int):Bool:=AD s&&decide (320<=d)
def nx(s:Nat):Nat:=bif s==7 then 8 else s
def at_(names:List aE)(v:aE):zc:=names.findIdx? (λx=>v==x)
def open_(t:Tok):Bool:=t.1==3&&t.2.1==[40]
def close_(t:Tok):Bool:=t.1==3&&t.2.1==[41]
def CY(t:Tok):Bool:=t.1==1&& !key t.2.1
def apX(k:Int)(a:Int)(r:Out):Out:=r.map λp=>(.mk k 0 a [p.1],p.2)
def aql(k:Int)(a:Int)(x:Ex)(r:Out):Out:=r.map λp=>(.mk k 0 a [x,p.1],p.2)
inductive Cz where
 |line (s:Nat)
 |loop (s:Nat) (a:Ex)
open Cz
inductive P(names:List aE):Cz->Int->List Tok->Out->Prop
 |ui {s d t ts}:rW s d=true->P names (line s) d (t::ts) (.error (9,t.2.2.2))
 |pre {s d t ts k r}:kd s=0->rW s d=false->dB s t=some k->P names (line s) (dn s d) ts r->P names (line s) d (t::ts) (apX k t.2.2.2 r)
 |other {s d t ts r}:kd s=0->rW s d=false->dB s t=none->P names (line (s+1)) (dn s d) (t::ts) r->P names (line s) d (t::ts) r
 |rErr {s d ts e}:kd s=1->rW s d=false->P names (line (s+1)) (dn s d) ts (.error e)->P names (line s) d ts (.error e)
 |rOne {s d ts a t ts'}:kd s=1->rW s d=false->P names (line (s+1)) (dn s d) ts (.ok (a,t::ts'))->dB s t=none->P names (line s) d ts (.ok (a,t::ts'))
 |rTwo {s d ts a t ts' k r}:kd s=1->rW s d=false->P names (line (s+1)) (dn s d) ts (.ok (a,t::ts'))->dB s t=some k->P names (line (nx s)) (dn s d) ts' r->P names (line s) d ts (aql k t.2.2.2 a r)
 |lErr {s d ts e}:kd s=2->P names (line (s+1)) d ts (.error e)->P names (line s) d ts (.error e)
 |lGo {s d ts a ts' r}:kd s=2->P names (line (s+1)) d ts (.ok (a,ts'))->P names (loop s a) d ts' r->P names (line s) d ts r
 |lpEnd {s a d t ts}:dB s t=none->P names (loop s a) d (t::ts) (.ok (a,t::ts))
 |lpErr {s a d t ts k e}:dB s t=some k->P names (line (s+1)) d ts (.error e)->P names (loop s a) d (t::ts) (.error e)
 |lpGo {s a d t ts k b ts' r}:dB s t=some k->P names (line (s+1)) d ts (.ok (b,ts'))->P names (loop s (.mk k 0 t.2.2.2 [a,b])) d ts' r->P names (loop s a) d (t::ts) r
 |oWord {s d t ts k}:kd s=3->dB s t=some k->P names (line s) d (t::ts) (.ok (.mk k 0 t.2.2.2 [],ts))
 |oNum {s d t ts}:kd s=3->dB s t=none->(t.1==2)=true->P names (line s) d (t::ts) (.ok (.mk 1 t.2.2.1 t.2.2.2 [],ts))
 |oVar {s d t ts i}:kd s=3->dB s t=none->(t.1==2)=false->CY t=true->at_ names t.2.1=some i->P names (line s) d (t::ts) (.ok (.mk 2 (i:Int) t.2.2.2 [],ts))
 |oName {s d t ts}:kd s=3->dB s t=none->(t.1==2)=false->CY t=true->at_ names t.2.1=none->P names (line s) d (t::ts) (.error (3,t.2.2.2))
 |oOpen {s d t ts a c ts'}:kd s=3->dB s t=none->(t.1==2)=false->CY t=false->open_ t=true->P names (line 1) d ts (.ok (a,c::ts'))->close_ c=true->P names (line s) d (t::ts) (.ok (a,ts'))
 |oErr {s d t ts e}:kd s=3->dB s t=none->(t.1==2)=false->CY t=false->open_ t=true->P names (line 1) d ts (.error e)->P names (line s) d (t::ts) (.error e)
 |oClose {s d t ts a c ts'}:kd s=3->dB s t=none->(t.1==2)=false->CY t=false->open_ t=true->P names (line 1) d ts (.ok (a,c::ts'))->close_ c=false->P names (line s) d (t::ts) (.error (2,c.2.2.2))
 |oForm {s d t ts}:kd s=3->dB s t=none->(t.1==2)=false->CY t=false->open_ t=false->P names (line s) d (t::ts) (.error (2,t.2.2.2))
theorem pV{s:Nat}(h:rW s d=true):kd s=0\/kd s=1:=by unfold rW AD at h;simp at h;rcases h.1 with (((rfl|rfl)|rfl)|rfl)|rfl <;> simp [kd]
theorem P.det{names:List aE}{j:Cz}{n:List Tok}{r l:Out}(h:P names j d n r)(b:P names j d n l):r=l:=by
 induction h generalizing l with
 |ui a=>have:=pV a;cases b <;> simp_all
 |pre a c f e ih=>cases b <;> simp_all <;> (rename_i g;rw [ih g])
 |other a c f e ih=>
  cases b with
  |other _ _ _ h=>exact ih h
  |_=>simp_all
 |rErr a c f ih=>
  cases b with
  |rErr _ _ h=>exact ih h
  |rOne _ _ h=>cases ih h
  |rTwo _ _ h=>cases ih h
  |_=>simp_all
 |rOne a c f e ih=>
  cases b with
  |rErr _ _ h=>cases ih h
  |rOne _ _ h=>exact ih h
  |rTwo _ _ h g=>cases ih h;simp_all
  |_=>simp_all
 |rTwo a c f e g ih i=>
  cases b with
  |rErr _ _ h=>cases ih h
  |rOne _ _ h=>cases ih h;simp_all
  |rTwo _ _ h k m=>cases ih h;rw [e] at k;cases k;rw [i m]
  |_=>simp_all
 |lErr a c ih=>
  cases b with
  |lErr _ h=>exact ih h
  |lGo _ h=>cases ih h
  |ui h=>have:=pV h;simp_all
  |_=>simp_all
 |lGo a c f ih i=>
  cases b with
  |lErr _ h=>cases ih h
  |lGo _ h e=>cases ih h;exact i e
  |ui h=>have:=pV h;simp_all
  |_=>simp_all
 |lpEnd a=>cases b <;> simp_all
 |lpErr a c ih=>
  cases b with
  |lpErr _ h=>exact ih h
  |lpGo _ h=>cases ih h
  |_=>simp_all
 |lpGo a c f ih i=>
  cases b with
  |lpErr _ h=>cases ih h
  |lpGo g h e=>cases ih h;rw [a] at g;cases g;exact i e
  |_=>simp_all
 |oOpen a c f e g k m ih=>
  cases b with
  |oOpen _ _ _ _ _ h _=>cases ih h;rfl
  |oErr _ _ _ _ _ h=>cases ih h
  |oClose _ _ _ _ _ h o=>cases ih h;simp_all
  |ui h=>have:=pV h;simp_all
  |_=>simp_all
 |oErr a c f e g k ih=>
  cases b with
  |oOpen _ _ _ _ _ h _=>cases ih h
  |oErr _ _ _ _ _ h=>exact ih h
  |oClose _ _ _ _ _ h o=>cases ih h
  |ui h=>have:=pV h;simp_all
  |_=>simp_all
 |oClose a c f e g k m ih=>
  cases b with
  |oOpen _ _ _ _ _ h _=>cases ih h;simp_all
  |oErr _ _ _ _ _ h=>cases ih h
  |oClose _ _ _ _ _ h o=>cases ih h;rfl
  |ui h=>have:=pV h;simp_all
  |_=>simp_all
 |oWord a c=>cases b <;> first|(rename_i h;have:=pV h;simp_all;done)|simp_all
 |oNum a c f=>cases b <;> first|grind [pV]|simp_all
 |oVar a c f e g=>cases b <;> first|grind [pV]|simp_all
 |oName a c f e g=>cases b <;> first|grind [pV]|simp_all
 |oForm a c f e g=>cases b <;> first|grind [pV]|simp_all
def Ends:List Tok->Prop
 |[]=>False
 |t::ts=>Ends ts\/(ts=[]/\t.1=4)
theorem Ends.tail{t:Tok}{a:List Tok}(h:Ends (t::a))(b:t.1≠4):Ends a:=by
 rcases h with h|⟨_,h⟩
 .exact h
 .exact absurd h b
theorem Ends.ne{a:List Tok}(h:Ends a):∃t r,a=t::r:=by
 cases a with
 |nil=>exact h.elim
 |cons t r=>exact ⟨t,r,rfl⟩
theorem apY{t:Tok}(h:y6 t=true):t.1≠4:=by grind [y6]
theorem ao6{l:zj}{t:Tok}{k:Int}(h:Cu l t=some k):y6 t=true:=by grind [Cu,y6]
theorem apT{l:zj}{t:Tok}{k:Int}(h:Cu l t=some k):t.1≠4:=apY (ao6 h)
theorem Gw{s:Nat}{t:Tok}{k:Int}(h:dB s t=some k):t.1≠4:=apT h
def shorter:Cz->Nat->Nat->Prop
 |line _,a,b=>a<b
 |loop _ _,a,b=>a<=b
theorem P.ends{names:List aE}{j:Cz}{m:List Tok}{r:Out}(h:P names j d m r):Ends m->∀p,r= .ok p->Ends p.2/\shorter j p.2.length m.length:=by
 induction h with
 |ui=>intro _ p h;cases h
 | @pre s d t m k r c f g l ih=>
  intro b p h;cases r with
  |error e=>cases h
  |ok q=>
   obtain ⟨n,o⟩:=ih (b.tail (Gw g)) q rfl;cases h;grind [shorter,List.length_cons]
 |other c f g l ih=>intro b p h;exact ih b p h
 |rErr=>intro _ p h;cases h
 |rOne c f g l ih=>intro b p h;exact ih b p h
 | @rTwo s d m a t ts' k r c f g l u ih i=>
  intro b p h;cases r with
  |error e=>cases h
  |ok q=>
   obtain ⟨n,o⟩:=ih b _ rfl;obtain ⟨w,v⟩:=i (n.tail (Gw l)) q rfl;cases h;grind [shorter,List.length_cons]
 |lErr=>intro _ p h;cases h
 |lGo c f g ih i=>
  grind [shorter]
 |lpEnd c=>intro b p h;cases h;exact ⟨b,cH _⟩
 |lpErr=>intro _ p h;cases h
 |lpGo c f g ih i=>
  intro b p h;obtain ⟨n,o⟩:=ih (b.tail (Gw c)) _ rfl;grind [shorter,List.length_cons]
 |oWord c f=>intro b p h;cases h;exact ⟨b.tail (Gw f),ko _⟩
 |oNum c f g=>intro b p h;cases h;exact ⟨b.tail (by grind),ko _⟩
 |oVar c f g l u=>intro b p h;cases h;exact ⟨b.tail (by simp_all [CY,ar]),ko _⟩
 |oName=>intro _ p h;cases h
 |oOpen c f g l u y x ih=>
  intro b p h;cases h;obtain ⟨n,o⟩:=ih (b.tail (by simp_all [open_,ar])) _ rfl;refine ⟨n.tail (by simp_all [close_,ar]),?_⟩;grind [shorter,List.length_cons]
 |oErr=>intro _ p h;cases h
 |oClose=>intro _ p h;cases h
 |oForm=>intro _ p h;cases h
theorem P.err{names:List aE}{j:Cz}{b:List Tok}{r:Out}(h:P names j d b r):∀e,r= .error e->e.1=9\/e.1=2\/e.1=3:=by
 induction h with
 |ui=>grind
 | @pre s d t b k r i g f c ih=>
  intro e h;cases r with
  |error e'=>cases h;exact ih _ rfl
  |ok q=>cases h
 |other i g f c ih=>exact ih
 |rErr _ _ _ ih=>exact ih
 |rOne=>intro e h;cases h
 | @rTwo s d b a t ts' k r i g f c h4 ih ih2=>
  intro e h;cases r with
  |error e'=>cases h;exact ih2 _ rfl
  |ok q=>cases h
 |lErr _ _ ih=>exact ih
 |lGo _ _ _ _ ih=>exact ih
 |lpEnd=>intro e h;cases h
 |lpErr _ _ ih=>exact ih
 |lpGo _ _ _ _ ih=>exact ih
 |oWord=>intro e h;cases h
 |oNum=>intro e h;cases h
 |oVar=>intro e h;cases h
 |oName=>grind
 |oOpen=>intro e h;cases h
 |oErr _ _ _ _ _ _ ih=>exact ih
 |oClose=>grind
 |oForm=>grind
end Pa
namespace Sy
open Pa
abbrev aT:=Int×Ex×List (Int×Ex)
abbrev bw:=List aE×w5×zj×List aE×List aT
abbrev ir:=Int×Int
def Gj(names:List aE)(ts:List Tok):Out:=
 open Classical in if h :∃r, P names (.line 1) 0 ts r then Classical.choose h else .error (2, 0)
theorem alj{names:List aE}{a:List Tok}{r:Out}(h:P names (.line 1) 0 a r):Gj names a=r:=by unfold Gj;rw [tA ⟨r,h⟩];exact (Classical.choose_spec (⟨r,h⟩)).det h
theorem akY{names:List aE}{a:List Tok}{p:Ex×List Tok}(h:Gj names a= .ok p):P names (.line 1) 0 a (.ok p):=by
 unfold Gj at h;split at h
 .grind
 .cases h
def y5(k:Int)(x:aE)(t:Tok):Bool:=(t.1==k)&&(t.2.1==x)
def Uc:List Tok->Int
 |[]=>0
 |t::_=>t.2.2.2
def uv(k:Int)(x:aE):List Tok->Bool
 |[]=>false
 |t::_=>y5 k x t
def bZ(x:aE)(ts:List Tok):Except ir (List Tok):=match ts with
 |[]=> .error (2,0)
 |t::r=>bif y5 3 x t then .ok r else .error (2,t.2.2.2)
def fJ(full:Bool)(names procs:List aE)(ts:List Tok):Except ir (aE×List Tok):=match ts with
 |[]=> .error (2,0)
 |t::r=>bif t.1 != 1 then .error (2,t.2.2.2) else bif key t.2.1||names.contains t.2.1||procs.contains t.2.1 then .error (3,t.2.2.2) else bif full then .error (9,t.2.2.2) else .ok (t.2.1,r)
def ta(neg:Bool)(ts:List Tok):Except ir (Int×List Tok):=match ts with
 |[]=> .error (2,0)
 |t::r=>bif t.1 != 2 then .error (2,t.2.2.2) else .ok (bif neg then i64.wrap (0-t.2.2.1) else t.2.2.1,r)
def gw(ts:List Tok):Except ir (Int×List Tok):=bif uv 3 [45] ts then ta true ts.tail else ta false ts
def nk(lo hi:Int):Bool:= !(decide (hi<lo))&& !(decide (lo< -1073741824))&& !(decide (1073741824<hi))&& !(decide (65535<i64.wrap (hi-lo)))
def rF(m:bw)(ts:List Tok):Except ir (bw×List Tok):=
 match fJ (decide (16<=(m.1.length:Int))) m.1 m.2.2.2.1 ts with
 | .error e=> .error e
 | .ok (name,ts1)=>match gw ts1 with
  | .error e=> .error e
  | .ok (lo,ts2)=>match gw ts2 with
   | .error e=> .error e
   | .ok (hi,ts3)=>match gw ts3 with
    | .error e=> .error e
    | .ok (first,ts4)=>match bZ [59] ts4 with
     | .error e=> .error e
     | .ok ts5=>bif !(nk lo hi)||decide (first<lo)||decide (hi<first) then .error (5,Uc ts1) else .ok ((m.1++[name],m.2.1++[(lo,hi)],m.2.2.1++[first],m.2.2.2.1,m.2.2.2.2),ts5)
def eI(want:Int)(names:List aE)(ts:List Tok):Except ir (Ex×List Tok):=
 match Gj names ts with
 | .error e=> .error e
 | .ok (x,r)=>bif (rt x).2.1 != 0 then .error ((rt x).2.1,(rt x).2.2) else bif (rt x).1 != want then .error (4,x.at_) else .ok (x,r)
def fa(names:List aE)(v:aE):Int:=match at_ names v with
 |some i=>(i:Int)
 |none=> -1
def CZ(acc:List (Int×Ex))(i:Int):Bool:=acc.any (λs=>s.1==i)
def fM(names:List aE):Nat->List (Int×Ex)->List Tok->Except ir (List (Int×Ex)×List Tok)
 |0,_,_=> .error (2,0)
 |f+1,acc,ts=>match ts with
  |[]=> .error (2,0)
  |t::r=>bif t.1 != 1 then .error (2,t.2.2.2) else bif decide (fa names t.2.1<0)||CZ acc (fa names t.2.1) then .error (3,t.2.2.2) else
   match bZ [61] r with
   | .error e=> .error e
   | .ok r1=>match eI 1 names r1 with
    | .error e=> .error e
    | .ok (x,r2)=>bif uv 3 [44] r2 then fM names f (acc++[(fa names t.2.1,x)]) r2.tail else .ok (acc++[(fa names t.2.1,x)],r2)
def nL(m:bw)(ts:List Tok):Except ir (bw×List Tok):=
 bif decide (256<=(m.2.2.2.2.length:Int)) then .error (9,Uc ts) else
 match eI 2 m.1 ts with
 | .error e=> .error e
 | .ok (g,r1)=>match bZ [58] r1 with
  | .error e=> .error e
  | .ok r2=>match fM m.1 (r2.length+1) [] r2 with
   | .error e=> .error e
   | .ok (sets,r3)=>match bZ [59] r3 with
    | .error e=> .error e
    | .ok r4=> .ok ((m.1,m.2.1,m.2.2.1,m.2.2.2.1,m.2.2.2.2++[(i64.wrap ((m.2.2.2.1.length:Int)-1),g,sets)]),r4)
def my:Nat->bw->List Tok->Except ir (bw×List Tok)
 |0,_,_=> .error (2,0)
 |f+1,m,ts=>bif uv 3 [125] ts then .ok (m,ts.tail) else match nL m ts with
  | .error e=> .error e
  | .ok (m',r)=>my f m' r
def wa(m:bw)(ts:List Tok):Except ir (bw×List Tok):=
 match fJ false m.1 m.2.2.2.1 ts with
 | .error e=> .error e
 | .ok (name,r1)=>match bZ [123] r1 with
  | .error e=> .error e
  | .ok r2=>my (r2.length+1) (m.1,m.2.1,m.2.2.1,m.2.2.2.1++[name],m.2.2.2.2) r2
def pS:Nat->bw->List Tok->Except ir bw
 |0,_,_=> .error (2,0)
 |f+1,m,ts=>match ts with
  |[]=> .error (2,0)
  |t::r=>bif t.1==4 then (bif m.1.isEmpty then .error (2,t.2.2.2) else .ok m)
   else bif y5 1 [118,97,114] t then (match rF m r with
    | .error e=> .error e
    | .ok (m',r')=>pS f m' r')
   else bif y5 1 [112,114,111,99] t then (match wa m r with
    | .error e=> .error e
    | .ok (m',r')=>pS f m' r')
   else .error (2,t.2.2.2)
def sys(l:List Tok):Except ir bw:=pS (l.length+1) ([],[],[],[],[]) l
def QL:Except ir bw->bw×Int×Int
 | .ok m=>(m,0,0)
 | .error e=>(([],[],[],[],[]),e.1,e.2)
def iV(ts ts':List Tok):Prop:=Pa.Ends ts'/\ts'.length<ts.length
theorem Z0{k:Int}{x:aE}{t:Tok}(h:y5 k x t=true)(hk:k≠4):t.1≠4:=by simp_all [y5,ar]
theorem mR{x:aE}{a r:List Tok}(c:Pa.Ends a)(h:bZ x a= .ok r):iV a r:=by
 obtain ⟨t,d,rfl⟩:=c.ne;simp [bZ] at h;cases b:y5 3 x t
 .rw [b] at h;cases h
 .rw [b] at h;cases h;exact ⟨c.tail (Z0 b (by decide)),ko _⟩
theorem Qu{full:Bool}{names a:List aE}{c:List Tok}{p:aE×List Tok}(d:Pa.Ends c)(h:fJ full names a c= .ok p):
  iV c p.2/\key p.1=false/\names.contains p.1=false/\a.contains p.1=false/\full=false:=by
 obtain ⟨t,f,rfl⟩:=d.ne;simp only [fJ] at h;cases e:(t.1 != 1)
 .rw [e] at h;cases b:(key t.2.1||names.contains t.2.1||a.contains t.2.1)
  .rw [b] at h;cases full
   .cases h;simp only [nA] at b;have  :=by simpa using e
    exact ⟨⟨d.tail (by omega),ko _⟩,b.1.1,b.1.2,b.2,rfl⟩
   .cases h
  grind
 grind
theorem YW{b:Bool}{a:List Tok}{p:Int×List Tok}(c:Pa.Ends a)(h:ta b a= .ok p):iV a p.2:=by
 obtain ⟨t,e,rfl⟩:=c.ne;simp [ta] at h;cases d:(t.1 != 2)
 .rw [d] at h;cases h;have  :=by simpa using d
  exact ⟨c.tail (by omega),ko _⟩
 grind
theorem oX{k:Int}{x:aE}{a:List Tok}(b:Pa.Ends a)(hk:k≠4)(h:uv k x a=true):Pa.Ends a.tail/\a.tail.length+1=a.length:=by obtain ⟨t,c,rfl⟩:=b.ne;exact ⟨b.tail (Z0 h hk),rfl⟩
theorem VM{a:List Tok}{p:Int×List Tok}(c:Pa.Ends a)(h:gw a= .ok p):iV a p.2:=by
 unfold gw at h;cases b:uv 3 [45] a
 .grind [YW]
 .rw [b] at h;obtain ⟨e,g⟩:=oX c (by decide) b;obtain ⟨d,f⟩:=YW e h;exact ⟨d,by omega⟩
theorem uk{a:Int}{names:List aE}{b:List Tok}{p:Ex×List Tok}(g:Pa.Ends b)(h:eI a names b= .ok p):
  iV b p.2/\P names (.line 1) 0 b (.ok p)/\(rt p.1).2.1=0/\(rt p.1).1=a:=by
 unfold eI at h;cases c:Gj names b with
 |error e=>rw [c] at h;cases h
 |ok q=>
  obtain ⟨x,r⟩:=q;rw [c] at h;simp only at h;cases f:((rt x).2.1 != 0)
  .rw [f] at h;cases d:((rt x).1 != a)
   .rw [d] at h;cases h;have hp:=akY c;exact ⟨hp.ends g _ rfl,hp,by simpa using f,by simpa using d⟩
   grind
  grind
theorem iV.trans{a b c:List Tok}(h:iV a b)(k:iV b c):iV a c:=⟨k.1,Nat.lt_trans k.2 h.2⟩
theorem abY{names:List aE}:∀(f:Nat) (acc:List (Int×Ex)) (a:List Tok) (p:List (Int×Ex)×List Tok),Pa.Ends a->fM names f acc a= .ok p->iV a p.2:=by
 intro f
 induction f with
 |zero=>grind [fM]
 |succ f ih=>
  intro acc a p l h;obtain ⟨t,r,rfl⟩:=l.ne;simp [fM] at h;cases j:(t.1 != 1)
  case true=>rw [j] at h;cases h
  rw [j] at h;cases n:(decide (fa names t.2.1<0)||CZ acc (fa names t.2.1))
  case true=>rw [n] at h;cases h
  rw [n] at h;have ht  :=by simpa using j
  have d:=l.tail (by omega);cases i:bZ [61] r with
  |error e=>rw [i] at h;cases h
  |ok r1=>
   rw [i] at h;simp only at h;have k:=mR d i;cases g:eI 1 names r1 with
   |error e=>rw [g] at h;cases h
   |ok q=>
    obtain ⟨x,r2⟩:=q;rw [g] at h;simp only at h;have b:iV r1 r2:=(uk k.1 g).1;have c:iV (t::r) r2:=⟨b.1,by have:=k.2;have:=b.2;grind⟩;cases m:uv 3 [44] r2
    .grind
    .rw [m] at h;obtain ⟨o,s⟩:=oX b.1 (by decide) m;have:=ih _ _ _ o h;exact ⟨this.1,by have:=this.2;have:=c.2;omega⟩
theorem adi{m:bw}{c:List Tok}{p:bw×List Tok}(C:Pa.Ends c)(h:rF m c= .ok p):iV c p.2/\
  ∃a lo hi first,p.1=(m.1++[a],m.2.1++[(lo,hi)],m.2.2.1++[first],m.2.2.2.1,m.2.2.2.2)/\nk lo hi=true/\lo<=first/\first<=hi/\m.1.length<16/\m.1.contains a=false:=by
 unfold rF at h;cases r:fJ (decide (16<=(m.1.length:Int))) m.1 m.2.2.2.1 c with
 |error e=>rw [r] at h;cases h
 |ok B=>
  obtain ⟨a,i⟩:=B;rw [r] at h;simp only at h;obtain ⟨v,_,j,_,b⟩:=Qu C r;cases q:gw i with
  |error e=>rw [q] at h;cases h
  |ok A=>
   obtain ⟨lo,g⟩:=A;rw [q] at h;simp only at h;have u:=VM v.1 q;cases o:gw g with
   |error e=>rw [o] at h;cases h
   |ok z=>
    obtain ⟨hi,f⟩:=z;rw [o] at h;simp only at h;have t:=VM u.1 o;cases n:gw f with
    |error e=>rw [n] at h;cases h
    |ok y=>
     obtain ⟨first,d⟩:=y;rw [n] at h;simp only at h;have s:=VM t.1 n;cases l:bZ [59] d with
     |error e=>rw [l] at h;cases h
     |ok w=>
      rw [l] at h;have x:=mR s.1 l;cases k:(!(nk lo hi)||decide (first<lo)||decide (hi<first))
      .rw [k] at h;cases h;simp at k;simp at b;exact ⟨(((v.trans u).trans t).trans s).trans x,a,lo,hi,first,rfl,k.1.1,by omega,by omega,by omega,j⟩
      grind
theorem VS{m:bw}{a:List Tok}{p:bw×List Tok}(s:Pa.Ends a)(h:nL m a= .ok p):iV a p.2/\
  ∃g r1 r2 sets b,m.2.2.2.2.length<256/\eI 2 m.1 a= .ok (g,r1)/\Pa.Ends r2/\fM m.1 (r2.length+1) [] r2= .ok (sets,b)/\
   p.1=(m.1,m.2.1,m.2.2.1,m.2.2.2.1,m.2.2.2.2++[(i64.wrap ((m.2.2.2.1.length:Int)-1),g,sets)])/\bZ [58] r1= .ok r2/\bZ [59] b= .ok p.2:=by
 unfold nL at h;cases k:decide (256<=(m.2.2.2.2.length:Int))
 case true=>rw [k] at h;cases h
 rw [k] at h;simp at k;cases j:eI 2 m.1 a with
 |error e=>rw [j] at h;cases h
 |ok r=>
  obtain ⟨g,r1⟩:=r;rw [j] at h;simp only at h;have n:=(uk s j).1;cases f:bZ [58] r1 with
  |error e=>rw [f] at h;cases h
  |ok r2=>
   rw [f] at h;simp only at h;have i:=mR n.1 f;cases d:fM m.1 (r2.length+1) [] r2 with
   |error e=>rw [d] at h;cases h
   |ok q=>
    obtain ⟨sets,b⟩:=q;rw [d] at h;simp only at h;have l:=abY _ _ _ _ i.1 d;cases c:bZ [59] b with
    |error e=>rw [c] at h;cases h
    |ok t=>
     rw [c] at h;cases h;have o:=mR l.1 c;exact ⟨((n.trans i).trans l).trans o,g,r1,r2,sets,b,by omega,rfl,i.1,d,rfl,f,c⟩
end Sy
variable {s : Nat}
namespace Pa
open Cz
def Lk:Cz->Nat
 |line _=>0
 |loop _ a=>a.sz
theorem YQ(k n a:Int):(Ex.mk k n a []).sz=1:=by simp [Ex.sz,w7]
theorem ap8(k n a:Int)(x:Ex):(Ex.mk k n a [x]).sz=x.sz+1:=by simp [Ex.sz,w7]
theorem ahS(k n a:Int)(x y:Ex):(Ex.mk k n a [x,y]).sz=x.sz+y.sz+1:=by simp [Ex.sz,w7]
theorem P.size{names:List aE}{j:Cz}{l:List Tok}{r:Out}(h:P names j d l r):∀p,r= .ok p->p.1.sz+p.2.length<=l.length+Lk j:=by
 induction h with
 |ui=>intro p h;cases h
 | @pre s d t l k r b c f i ih=>
  intro p h;cases r with
  |error e=>cases h
  |ok q=>cases h;grind [Lk,ap8,List.length_cons]
 |other b c f i ih=>intro p h;exact ih p h
 |rErr=>intro p h;cases h
 |rOne b c f i ih=>intro p h;exact ih p h
 | @rTwo s d l a t ts' k r b c f i m ih g=>
  intro p h;cases r with
  |error e=>cases h
  |ok q=>cases h;grind [Lk,ahS,List.length_cons]
 |lErr=>intro p h;cases h
 |lGo b c f ih g=>grind [Lk]
 |lpEnd b=>grind [Lk]
 |lpErr=>intro p h;cases h
 |lpGo b c f ih g=>grind [Lk,ahS,List.length_cons]
 |oWord b c=>grind [Lk,YQ,List.length_cons]
 |oNum b c f=>grind [Lk,YQ,List.length_cons]
 |oVar b c f i m=>grind [Lk,YQ,List.length_cons]
 |oName=>intro p h;cases h
 |oOpen b c f i m o n ih=>grind [Lk,List.length_cons]
 |oErr=>intro p h;cases h
 |oClose=>intro p h;cases h
 |oForm=>intro p h;cases h
theorem P.suf{names:List aE}{j:Cz}{l:List Tok}{r:Out}(h:P names j d l r):∀p,r= .ok p->p.2 <:+ l:=by
 induction h with
 |ui=>intro p h;cases h
 | @pre s d t l k r b c f i ih=>
  intro p h;cases r with
  |error e=>cases h
  |ok q=>cases h;grind
 |other b c f i ih=>exact ih
 |rErr=>intro p h;cases h
 |rOne b c f i ih=>exact ih
 | @rTwo s d l a t ts' k r b c f i m ih g=>
  intro p h;cases r with
  |error e=>cases h
  |ok q=>cases h;grind [List.suffix_cons,trans]
 |lErr=>intro p h;cases h
 |lGo b c f ih g=>grind
 |lpEnd b=>grind
 |lpErr=>intro p h;cases h
 |lpGo b c f ih g=>grind
 |oWord b c=>grind
 |oNum b c f=>grind
 |oVar b c f i m=>grind
 |oName=>intro p h;cases h
 |oOpen b c f i m o n ih=>intro p h;cases h;exact ((qY _ _).trans (ih _ rfl)).trans (qY _ _)
 |oErr=>intro p h;cases h
 |oClose=>intro p h;cases h
 |oForm=>intro p h;cases h
def Db(t:Tok):Prop:=t.1=2->0<=t.2.2.1/\t.2.2.1<=1073741824
theorem Kz{t:Tok}{k:Int}(h:dB s t=some k):k∈ops s:=by grind [dB,Cu,y6,List.mem_of_find?_eq_some]
theorem aoX(hk:kd s=0){k:Int}(h:k∈ops s)(a:Int):vr k 0 1 (oD k) a=true:=by
 have:s=6\/s=10:=by unfold kd at hk;grind
 rcases this with rfl|rfl
 .simp [ops,qa,qD,or_false] at h;rcases h with rfl|rfl|rfl|rfl <;> rfl
 .simp [ops,qa,qD,or_false] at h;subst h;rfl
theorem aea(hk:kd s=1\/kd s=2){k:Int}(h:k∈ops s)(a:Int):vr k 0 2 (oD k) a=true:=by
 have:s=1\/s=2\/s=3\/s=4\/s=5\/s=7\/s=8\/s=9:=by unfold kd at hk;grind
 rcases this with rfl|rfl|rfl|rfl|rfl|rfl|rfl|rfl <;> simp [ops,qa,qD,or_false] at h
 .subst h;rfl
 .subst h;rfl
 .subst h;rfl
 .subst h;rfl
 .rcases h with rfl|rfl <;> rfl
 .rcases h with rfl|rfl|rfl|rfl|rfl|rfl <;> rfl
 .rcases h with rfl|rfl <;> rfl
 .subst h;rfl
theorem alz(hk:kd s=3){k:Int}(h:k∈ops s)(a:Int):vr k 0 0 (oD k) a=true:=by
 have:s=11:=by unfold kd at hk;grind
 subst this;simp [ops,qa,qD,or_false] at h;rcases h with rfl|rfl <;> rfl
theorem UH{b k n a:Int}(h:vr k n 0 (oD k) b=true):fp b (.mk k n a [])=true:=by simp [fp,vo];grind
theorem aov{b k a:Int}{x:Ex}(h:vr k 0 1 (oD k) b=true)(hx:fp b x=true):fp b (.mk k 0 a [x])=true:=by simp [fp,vo,eb];grind
theorem adn{b k a:Int}{x y:Ex}(h:vr k 0 2 (oD k) b=true)(hx:fp b x=true)(c:fp b y=true):fp b (.mk k 0 a [x,y])=true:=by simp [fp,vo,eb];grind
def asB(vars:Int):Cz->Bool
 |line _=>true
 |loop _ a=>fp vars a
def okJ:Cz->Prop
 |line _=>True
 |loop s _=>kd s=2
theorem pB{names:List aE}{v:aE}{i:Nat}(h:at_ names v=some i):i<names.length:=by grind [at_,List.findIdx?_eq_some_iff_getElem]
theorem P.may{names:List aE}{j:Cz}{o:List Tok}{r:Out}(h:P names j d o r):okJ j->(∀t∈o,Db t)->asB names.length j=true->∀p,r= .ok p->fp names.length p.1=true:=by
 induction h with
 |ui=>grind
 | @pre s d t o k r g m n w ih=>
  intro _ f _ p h;cases r with
  |error e=>cases h
  |ok q=>cases h;grind [aov,aoX,Kz]
 |other g m n w ih=>intro _ f v p h;exact ih trivial f rfl p h
 |rErr=>grind
 |rOne g m n w ih=>intro _ f v p h;exact ih trivial f rfl _ h
 | @rTwo s d o a t ts' k r g m n w h4 ih l=>
  intro _ f _ p h;cases r with
  |error e=>cases h
  |ok q=>
   have x:=ih trivial f rfl _ rfl;have u:=n.suf _ rfl;have A:=l trivial (λt ht=>f t (u.mem (cp _ ht))) rfl q rfl;cases h;grind [adn,aea,Kz]
 |lErr=>grind
 |lGo g m n ih l=>
  intro _ f _ p h;have x:=ih trivial f rfl _ rfl;have u:=m.suf _ rfl;exact l g (λt ht=>f t (u.mem ht)) x p h
 |lpEnd g=>intro _ f v p h;cases h;exact v
 |lpErr=>grind
 | @lpGo s a d t o k b ts' r g m n ih l=>
  intro y f v p h;have x:=ih trivial (λt ht=>f t (cp _ ht)) rfl _ rfl;have u:=m.suf _ rfl;exact l y (λt ht=>f t (cp _ (u.mem ht))) (adn (a:=t.2.2.2) (aea (.inr y) (Kz g) _) v x) p h
 |oWord g m=>grind [UH,alz,Kz]
 | @oNum s d t o g m n=>
  intro _ f _ p h;obtain ⟨n0,n1⟩:=f t (c8 ..) (beq_iff_eq.1 n);grind [UH,vr,oD,decide,decide_eq_false]
 | @oVar s d t o i g m n w h4=>
  have z:=pB h4;grind [UH,vr,oD,decide,decide_eq_false]
 |oName=>grind
 | @oOpen s d t o a c ts' g m n w h4 h5 h6 ih=>intro _ f _ p h;cases h;exact ih trivial (λt ht=>f t (cp _ ht)) rfl (a,c::ts') rfl
 |oErr=>grind
 |oClose=>grind
 |oForm=>grind
end Pa
namespace Pa
def isLet(c:UInt8):Bool:=(decide (97<=c)&&decide (c<=122))||(decide (65<=c)&&decide (c<=90))||c==95
def jB(t:Tok):Prop:=(t.1=1/\∃c s,t.2.1=c::s/\isLet c=true)\/t.1=2\/(t.1=3/\∀c s,t.2.1=c::s->isLet c=false)\/t.1=4
theorem sC{l:List Tok}{a:Nat}{t:Tok}{c:List Tok}(h:l.drop a=t::c):idx l (a:Int)=some t/\l.drop (a+1)=c/\a<l.length/\t∈l:=by
 have b:a<l.length:=by grind [Nat.lt_or_ge,List.drop_of_length_le]
 rw [n4 b] at h;grind [List.cons.injEq,idx,List.getElem?_eq_getElem,List.getElem_mem]
theorem bR{a:Nat}(h:a<4611686018427387904):i64.wrap ((a:Int)+1)=((a+1:Nat):Int):=by grind [bG]
end Pa
namespace Sy
open Pa
theorem uz{α:Type}{l pre r:List α}{x:α}(h:l=pre++x::r):decide ((pre.length:Int)<(List.length l:Int))=true:=by subst h;simp;omega
theorem uB{α:Type}{l pre:List α}(h:l=pre++[]):decide ((pre.length:Int)<(List.length l:Int))=false:=by subst h;simp
theorem lR{α:Type}{l pre r:List α}{x:α}(h:l=pre++x::r):idx l (pre.length:Int)=some x:=by subst h;simp [idx]
theorem dv{k b:Nat}(h:k*b<=140737488355328)(a:k<=9223372036854775807):aH k b=true:=by simp_all [aH,ar]
theorem aP{ρ:Type}{c:Bool}(h:c=true)(k:Option ρ):aN c k=k:=by subst h;rfl
end Sy
theorem aeJ(a:aE):jM a=some (xH.contains a):=by
 unfold jM ye xH;simp only [List.contains_cons,List.contains_nil];cases (a==[116,114,117,101])
 case true=>rfl
 cases (a==[102,97,108,115,101])
 case true=>rfl
 cases (a==[88])
 case true=>rfl
 cases (a==[70])
 case true=>rfl
 cases (a==[71])
 case true=>rfl
 cases (a==[85])
 case true=>rfl
 cases (a==[82])
 case true=>rfl
 cases (a==[118,97,114])
 case true=>rfl
 cases (a==[112,114,111,99]) <;> rfl
namespace Pa
open Cz
def JZ(w:Bool)(x:aE):Bool:=match x with
 |[]=>false
 |c::_=>isLet c==w&&xH.contains x==w
theorem abD{t:Tok}(h:jB t){x:aE}(hx:JZ true x=true):(y6 t&&(x==t.2.1))=((t.1==1)&&(t.2.1==x)):=by
 obtain ⟨k,y,n,p⟩:=t;simp [y6,key];by_cases a:y=x
 .subst a;rcases h with ⟨rfl,c,s,b,d⟩|rfl|⟨rfl,e⟩|rfl
  .simp_all [JZ,ar]
  .simp
  .cases y with
   |nil=>cases hx
   |cons c s=>
    simp [JZ,ar] at hx;grind
  .simp
 grind
theorem aqB{t:Tok}(h:jB t){x:aE}(hx:JZ false x=true):(y6 t&&(x==t.2.1))=((t.1==3)&&(t.2.1==x)):=by
 obtain ⟨k,y,n,p⟩:=t;simp [y6];by_cases a:y=x
 .subst a;rcases h with ⟨rfl,c,s,b,d⟩|rfl|⟨rfl,e⟩|rfl
  .simp_all [JZ,ar]
  .simp
  .simp
  .simp
 grind
def kE(t:Tok):Bool:=(t.1 != 2)&&(t.1 != 4)
theorem bI{t:Tok}(h:jB t){x:aE}{w:Bool}(hx:JZ w x=true):(y6 t&&(x==t.2.1))=(kE t&&(t.2.1==x)):=by
 by_cases b:t.2.1=x
 .rcases h with ⟨i,c,s,a,f⟩|e|⟨g,d⟩|d
  .rw [b] at a;simp_all [JZ,y6,key,kE]
  .simp [y6,kE,e]
  .grind [y6,kE]
  grind [y6,kE]
 grind
theorem pX(t:Tok):Cu [] t=none:=by grind [Cu,y6]
theorem nh(o:Int)(l:zj)(t:Tok):Cu (o::l) t=bif (y6 t&&(bQ o==t.2.1)) then some o else Cu l t:=by unfold Cu;grind
def opt(o:zb):Int:=o.getD 0
theorem asP{t:Tok}(h:jB t):cV t 1=some (opt (dB 1 t)):=by have e:=bI h (x:=bQ 19) (w:=false) rfl;simp [dB,ops,nh,pX,e];show (bif kE t then (bif (t.2.1==bQ 19) then some 19 else some 0) else some 0)=_;cases kE t <;> cases (t.2.1==bQ 19) <;> rfl
theorem asG{t:Tok}(h:jB t):cV t 2=some (opt (dB 2 t)):=by have e:=bI h (x:=bQ 18) (w:=false) rfl;simp [dB,ops,nh,pX,e];show (bif kE t then (bif (t.2.1==bQ 18) then some 18 else some 0) else some 0)=_;cases kE t <;> cases (t.2.1==bQ 18) <;> rfl
theorem asF{t:Tok}(h:jB t):cV t 3=some (opt (dB 3 t)):=by have e:=bI h (x:=bQ 17) (w:=false) rfl;simp [dB,ops,nh,pX,e];show (bif kE t then (bif (t.2.1==bQ 17) then some 17 else some 0) else some 0)=_;cases kE t <;> cases (t.2.1==bQ 17) <;> rfl
theorem asX{t:Tok}(h:jB t):cV t 4=some (opt (dB 4 t)):=by have e:=bI h (x:=bQ 16) (w:=false) rfl;simp [dB,ops,nh,pX,e];show (bif kE t then (bif (t.2.1==bQ 16) then some 16 else some 0) else some 0)=_;cases kE t <;> cases (t.2.1==bQ 16) <;> rfl
theorem asM{t:Tok}(h:jB t):cV t 5=some (opt (dB 5 t)):=by have e:=bI h (x:=bQ 23) (w:=true) rfl;have a:=bI h (x:=bQ 24) (w:=true) rfl;simp [dB,ops,nh,pX,e,a];show (bif kE t then (bif (t.2.1==bQ 23) then some 23 else (bif (t.2.1==bQ 24) then some 24 else some 0)) else some 0)=_;cases kE t <;> cases (t.2.1==bQ 23) <;> cases (t.2.1==bQ 24) <;> rfl
theorem asO{t:Tok}(h:jB t):cV t 8=some (opt (dB 8 t)):=by have e:=bI h (x:=bQ 3) (w:=false) rfl;have a:=bI h (x:=bQ 4) (w:=false) rfl;simp [dB,ops,nh,pX,e,a];show (bif kE t then (bif (t.2.1==bQ 3) then some 3 else (bif (t.2.1==bQ 4) then some 4 else some 0)) else some 0)=_;cases kE t <;> cases (t.2.1==bQ 3) <;> cases (t.2.1==bQ 4) <;> rfl
theorem asE{t:Tok}(h:jB t):cV t 9=some (opt (dB 9 t)):=by have e:=bI h (x:=bQ 5) (w:=false) rfl;simp [dB,ops,nh,pX,e];show (bif kE t then (bif (t.2.1==bQ 5) then some 5 else some 0) else some 0)=_;cases kE t <;> cases (t.2.1==bQ 5) <;> rfl
theorem asz{t:Tok}(h:jB t):cV t 7=some (opt (dB 7 t)):=by
 have n:=bI h (x:=bQ 7) (w:=false) rfl;have l:=bI h (x:=bQ 8) (w:=false) rfl;have e3:=bI h (x:=bQ 9) (w:=false) rfl;have e4:=bI h (x:=bQ 10) (w:=false) rfl;have k:=bI h (x:=bQ 11) (w:=false) rfl;have j:=bI h (x:=bQ 12) (w:=false) rfl;simp [dB,ops,nh,pX,n,l,e3,e4,k,j];obtain ⟨m,hm⟩:∃m,au=m+7:=⟨18446744073709551609,rfl⟩;refine Eq.trans (b:=bif kE t then aj (bK t) (m+7) 0 else some 0) rfl ?_;have i:aj (bK t) (m+7) 0=bif (t.2.1==bQ 7) then some 7 else aj (bK t) (m+6) 1:=rfl
 have g:aj (bK t) (m+6) 1=bif (t.2.1==bQ 8) then some 8 else aj (bK t) (m+5) 2:=rfl
 have f:aj (bK t) (m+5) 2=bif (t.2.1==bQ 9) then some 9 else aj (bK t) (m+4) 3:=rfl
 have e:aj (bK t) (m+4) 3=bif (t.2.1==bQ 10) then some 10 else aj (bK t) (m+3) 4:=rfl
 have d:aj (bK t) (m+3) 4=bif (t.2.1==bQ 11) then some 11 else aj (bK t) (m+2) 5:=rfl
 have c:aj (bK t) (m+2) 5=bif (t.2.1==bQ 12) then some 12 else aj (bK t) (m+1) 6:=rfl
 have a:aj (bK t) (m+1) 6=some 0:=rfl;rw [i,g,f,e,d,c,a];cases kE t
 .rfl
 cases (t.2.1==bQ 7)
 case true=>rfl
 cases (t.2.1==bQ 8)
 case true=>rfl
 cases (t.2.1==bQ 9)
 case true=>rfl
 cases (t.2.1==bQ 10)
 case true=>rfl
 cases (t.2.1==bQ 11)
 case true=>rfl
 cases (t.2.1==bQ 12) <;> rfl
theorem anM{t:Tok}(h:jB t){s:Nat}(c:1<=s)(a:s<=9)(b:s≠6):cV t (s:Int)=some (opt (dB s t)):=by
 have:s=1\/s=2\/s=3\/s=4\/s=5\/s=7\/s=8\/s=9:=by omega
 rcases this with rfl|rfl|rfl|rfl|rfl|rfl|rfl|rfl
 .exact asP h
 .exact asG h
 .exact asF h
 .exact asX h
 .exact asM h
 .exact asz h
 .exact asO h
 .exact asE h
theorem Rf{t:Tok}{k:Int}(h:dB s t=some k):(k==0)=false:=by
 have key:∀l:zj,(l.all λo=>o != 0)=true->Cu l t=some k->(k==0)=false:=λl hl h=>by grind [Cu,y6,List.mem_of_find?_eq_some,List.all_eq_true]
 refine key (ops s) ?_ h
 match s with
 |0=>rfl
 |1=>rfl
 |2=>rfl
 |3=>rfl
 |4=>rfl
 |5=>rfl
 |6=>rfl
 |7=>rfl
 |8=>rfl
 |9=>rfl
 |10=>rfl
 |11=>rfl
 |n+12=>rfl
abbrev R4:=Ex×Int×Int×Int
abbrev LF:=(Int×Int×List Tok×Int×List aE×Int×Int)->Option R4
def RR(l:List Tok)(r:Out)(m:Option R4):Prop:=match r with
 | .ok (x,ts)=>∃a:Nat,l.drop a=ts/\m=some (x,(a:Int),0,0)
 | .error (b,p)=>∃x a,m=some (x,a,b,p)
theorem Im{names:List aE}{j:Cz}{a:List Tok}{b p:Int}(h:P names j d a (.error (b,p))):(b != 0)=true:=by rcases h.err _ rfl with h|h|h <;> (grind)
theorem OG{l:List Tok}{a:Nat}{t:Tok}(h:idx l (a:Int)=some t)(b:Int)(names:List aE)(p:Int):bF b l (a:Int) names 0 p=some (.mk 0 0 0 [],b,t.2.2.2):=by grind [bF]
def ot(names:List aE)(v:aE)(i:Nat):zc:=((names.drop i).findIdx? (λx=>v==x)).map (· +i)
theorem PO(names:List aE)(v:aE):ot names v 0=at_ names v:=by unfold ot at_;simp
theorem aky{l:List Tok}{a:Nat}{t:Tok}{names:List aE}(hn:names.length<4611686018427387904)(ha:a<4611686018427387904)(ht:idx l (a:Int)=some t):
  ∀(m i M:Nat),names.length-i<=m->i<=names.length->m<M->
   aj (eB l (a:Int) names 0 0 t) M (i:Int)=
    match ot names t.2.1 i with
    |some j=>some (.mk 2 (j:Int) t.2.2.2 [],((a+1:Nat):Int),0,0)
    |none=>some (.mk 0 0 0 [],(a:Int),3,t.2.2.2):=by
 intro m
 induction m with
 |zero=>
  intro i M d c b;obtain ⟨M,rfl⟩:∃k,M=k+1:=⟨M-1,by omega⟩;have hi:i=names.length:=by omega
  simp_all [ao,ot,eB,OG]
 |succ m ih=>
  intro i M d c b;obtain ⟨M,rfl⟩:∃k,M=k+1:=⟨M-1,by omega⟩;rw [ao];by_cases hi:i<names.length
  .have hd  :=n4 hi;have hx:idx names (i)=some names[i]:=by simp [idx]
   simp only [eB,cx (show ((i):Int)<(List.length names) by omega),hx,ah,bR ha,bR (show i<4611686018427387904 by omega)];have e:ot names t.2.1 i=bif (names[i]==t.2.1) then some i else ot names t.2.1 (i+1):=by
    unfold ot;rw [hd,List.findIdx?_cons];have:(t.2.1==names[i])=(names[i]==t.2.1):=by grind
    rw [this];cases (names[i]==t.2.1)
    .simp;congr 1;grind
    .simp
   rw [e];cases (names[i]==t.2.1)
   .exact ih (i+1) M (by omega) (by omega) (by omega)
   .rfl
  .have hi:i=names.length:=by omega
   simp_all [ot,eB,OG]
def SR(names:List aE)(l:List Tok)(k:LF)(s:Nat)(d:Int)(a:Nat):Prop:= ∃r,P names (line s) d (l.drop a) r/\RR l r (k ((s:Int),d,l,(a:Int),names,0,0))
theorem aq9{names:List aE}(hn:names.length<4611686018427387904){l:List Tok}(hl:l.length<4611686018427387904)(htok:∀t∈l,jB t){k:LF}{d:Int}{a:Nat}(E:Ends (l.drop a))
  (hk:Ends (l.drop (a+1))->SR names l k 1 d (a+1)):∃r,P names (line 11) d (l.drop a) r/\RR l r (dV k d l (a:Int) names 0 0):=by
 obtain ⟨t,Q,s⟩:=E.ne;obtain ⟨hx,i,J,v⟩:=sC s;have u:=htok t v;have ha:a<4611686018427387904:=by omega
 have N:=abD u (x:=bQ 13) rfl;have O:=abD u (x:=bQ 14) rfl;have o:dB 11 t=bif ((t.1==1)&&(t.2.1==bQ 13)) then some 13 else bif ((t.1==1)&&(t.2.1==bQ 14)) then some 14 else none:=by simp only [dB,ops,nh,pX,N,O]
 rw [s];unfold dV;simp only [hx,ah,aM,aeJ,bR ha];cases n:(t.1==2)
 case true=>
  have M:(t.1==1)=false:=by have:=beq_iff_eq.1 n;rw [this];rfl
  exact ⟨_,.oNum rfl (by rw [o,M];rfl) n,a+1,i,rfl⟩
 simp only [b7];cases z:((t.1==1)&&(t.2.1==bQ 13))
 case true=>
  rw [show ((t.1==1)&&(t.2.1==[116,114,117,101]))=true from z];exact ⟨_,.oWord rfl (by rw [o,z];rfl),a+1,i,rfl⟩
 rw [show ((t.1==1)&&(t.2.1==[116,114,117,101]))=false from z];simp only [b7];cases B:((t.1==1)&&(t.2.1==bQ 14))
 case true=>
  rw [show ((t.1==1)&&(t.2.1==[102,97,108,115,101]))=true from B];exact ⟨_,.oWord rfl (by rw [o,z,B];rfl),a+1,i,rfl⟩
 rw [show ((t.1==1)&&(t.2.1==[102,97,108,115,101]))=false from B];simp only [b7];have f:dB 11 t=none:=by rw [o,z,B];rfl
 cases hN:((t.1==1)&& !(xH.contains t.2.1))
 case true=>
  have e:CY t=true:=hN;simp only [ca];have:=aky hn ha hx names.length 0 au (by omega) (by omega) (by show names.length<2^64;omega);rw [show ((0:Nat):Int)=0 from rfl,PO] at this;rw [this];cases hat:at_ names t.2.1 with
  |some j=>exact ⟨_,.oVar rfl f n e hat,a+1,i,rfl⟩
  |none=>exact ⟨_,.oName rfl f n e hat,_,_,rfl⟩
 have e:CY t=false:=hN;simp only [b7];cases A:(((t.1 != 3)||(t.2.1 != [40])):Bool)
 case true=>
  have g:open_ t=false:=by
   unfold open_;simp only [e9,bne_iff_ne] at A;rcases A with h|h
   .rw [beq_eq_false_iff_ne.2 h];rfl
   .rw [beq_eq_false_iff_ne.2 h,qP]
  simp only [ca,OG hx,ah];exact ⟨_,.oForm rfl f n e g,_,_,rfl⟩
 have G  :=by simp at A;exact A
 have g:open_ t=true:=by unfold open_;rw [G.1,G.2];rfl
 have w  :=by rw [s] at E;exact E.tail (by rw [G.1];decide)
 obtain ⟨r,m,hm⟩:=hk (by rw [i];exact w);rw [i] at m
 match r,m,hm with
 | .error (b,p),m,⟨x,a',hm⟩=>
  have hb:=Im m;rw [show ((1:Nat):Int)=1 from rfl] at hm;rw [hm,ah];simp [hb];exact ⟨_,.oErr rfl f n e g m,_,_,rfl⟩
 | .ok (x,ts'),m,⟨a',ha',hm⟩=>
  rw [show ((1:Nat):Int)=1 from rfl] at hm;obtain ⟨D,sk⟩:=m.ends w _ rfl;obtain ⟨c,I,L⟩:=D.ne;subst L;obtain ⟨q,F,H,C⟩:=sC ha';rw [hm,ah];simp [q,bR (show a'<4611686018427387904 by omega)];by_cases y:c.1=3
  .have e3:(c.1 != 3)=false:=by rw [y];rfl
   simp [e3,j6,dU,ah];cases K:(c.2.1 != [41])
   .have:close_ c=true:=by grind [close_,bne_eq_false_iff_eq]
    exact ⟨_,.oOpen rfl f n e g m this,a'+1,F,rfl⟩
   .have:close_ c=false:=by simp_all [close_,bne_iff_ne]
    simp [OG q];exact ⟨_,.oClose rfl f n e g m this,_,_,rfl⟩
  .have e3  :=bne_iff_ne.2 y;have:close_ c=false:=by grind [close_,beq_eq_false_iff_ne]
   simp [e3,OG q];exact ⟨_,.oClose rfl f n e g m this,_,_,rfl⟩
end Pa
namespace Pa
open Cz
theorem RA(e:Ex):Ex.mk e.op e.n e.at_ e.l=e:=by cases e;rfl
theorem aeB(m:Option R4):(m.bind λr=>some (r.1,r.2.1,r.2.2.1,r.2.2.2))=m:=by cases m <;> rfl
theorem RR.one{l:List Tok}{r:Out}{m:Option R4}(h:RR l r m)(c pl:Int):RR l (apX c pl r) (m.bind λr=>some (.mk c 0 pl [r.1],r.2.1,r.2.2.1,r.2.2.2)):=by
 match r,h with
 | .ok (x,ts),⟨a,h1,h2⟩=>subst h2;exact ⟨a,h1,rfl⟩
 | .error (b,p),⟨x,a,h2⟩=>subst h2;exact ⟨_,_,rfl⟩
theorem RR.two{l:List Tok}{r:Out}{m:Option R4}(h:RR l r m)(c pl:Int)(y:Ex):RR l (aql c pl y r) (m.bind λr=>some (.mk c 0 pl [y,r.1],r.2.1,r.2.2.1,r.2.2.2)):=by
 match r,h with
 | .ok (x,ts),⟨a,h1,h2⟩=>subst h2;exact ⟨a,h1,rfl⟩
 | .error (b,p),⟨x,a,h2⟩=>subst h2;exact ⟨_,_,rfl⟩
theorem ai7{s:Nat}(a:1<=s)(h:s<=10):mf (s:Int)=some (AD s):=by
 have:s=1\/s=2\/s=3\/s=4\/s=5\/s=6\/s=7\/s=8\/s=9\/s=10:=by omega
 rcases this with rfl|rfl|rfl|rfl|rfl|rfl|rfl|rfl|rfl|rfl <;> rfl
theorem asJ{k:LF}{s:Nat}(c:1<=s)(h:s<=10){d:Int}(f:0<=d)(e:d<=320)(l:List Tok)(a:Int)(names:List aE):
  dq k (s:Int) d l a names 0 0=jX k (s:Int) l a names 0 0 (AD s) (dn s d):=by
 unfold dq;simp [ai7 c h];have b:i64.wrap (d+1)=d+1:=bG (by omega);unfold dn;rw [b];cases AD s <;> rfl
theorem apD(s:Nat)(d:Int):(AD s&&decide (320<dn s d))=rW s d:=by unfold rW dn;grind
theorem arW{s:Nat}{d:Int}(b:0<=d)(a:d<=320)(hd:rW s d=false):0<=dn s d/\dn s d<=320:=by unfold rW at hd;unfold dn;grind
section
variable {names : List aE} {l : List Tok} {k : LF} {N : Nat}
variable (hn : names.length < 4611686018427387904) (hl : l.length < 4611686018427387904) (htok :∀t ∈ l, jB t)
variable (hk :∀(s : Nat) (d : Int) (a : Nat), 1 <= s -> s <= 10 -> 0 <= d -> d <= 320 -> Ends (l.drop a) -> 12 * (l.drop a).length + (11 - s) < N -> SR names l k s d a)
include hn hl htok hk
theorem pre6{d:Int}{a:Nat}{t:Tok}{i:List Tok}(c:l.drop a=t::i)(w:Ends (t::i))(z:0<=dn 6 d)(y:dn 6 d<=320)(hd:rW 6 d=false)(hN:12*(l.drop a).length+5<N+1):
  ∃r,P names (line 6) d (t::i) r/\RR l r (da k l (a:Int) names 0 0 (dn 6 d) t (bif ((t.1==3)&&(t.2.1==[33])) then 15 else 0)):=by
 obtain ⟨hx,f,B,h⟩:=sC c;have e:=htok t h;have G:=aqB e (x:=bQ 15) rfl;have F:=abD e (x:=bQ 20) rfl;have E:=abD e (x:=bQ 21) rfl;have D:=abD e (x:=bQ 22) rfl;have m:dB 6 t=bif ((t.1==3)&&(t.2.1==bQ 15)) then some 15 else bif ((t.1==1)&&(t.2.1==bQ 20)) then some 20 else bif ((t.1==1)&&(t.2.1==bQ 21)) then some 21 else bif ((t.1==1)&&(t.2.1==bQ 22)) then some 22 else none:=by grind [dB,ops,nh,pX]
 have C:da k l (a) names 0 0 (dn 6 d) t (bif ((t.1==3)&&(t.2.1==[33])) then 15 else 0)=jU k l (a) names 0 0 (dn 6 d) t (opt (dB 6 t)):=by
  rw [m];unfold da pr pw;rw [show bQ 15=[33] from rfl,show bQ 20=[88] from rfl,show bQ 21=[70] from rfl,show bQ 22=[71] from rfl];by_cases u:t.1=1
  .rw [u];by_cases q:t.2.1=[88]
   .rw [q];rfl
   .by_cases s:t.2.1=[70]
    .rw [s];rfl
    .by_cases p:t.2.1=[71]
     .rw [p];rfl
     .rw [beq_eq_false_iff_ne.2 q,beq_eq_false_iff_ne.2 s,beq_eq_false_iff_ne.2 p];rfl
  .rw [beq_eq_false_iff_ne.2 u];cases ((t.1==3)&&(t.2.1==[33])) <;> rfl
 rw [C];unfold jU;have v:(l.drop a).length=i.length+1:=by rw [c];rfl
 cases j:dB 6 t with
 |none=>
  obtain ⟨r,g,hm⟩:=hk 7 (dn 6 d) a (by omega) (by omega) z y (by rw [c];exact w) (by omega);rw [c] at g;refine ⟨r,.other rfl hd j g,?_⟩;show RR l r ((k (7,dn 6 d,l,(a),names,0,0)).bind λb=>some (b.1,b.2.1,b.2.2.1,b.2.2.2));grind [aeB]
 |some A=>
  have n:=Rf j;have o  :=w.tail (Gw j);obtain ⟨r,g,hm⟩:=hk 6 (dn 6 d) (a+1) (by omega) (by omega) z y (by rw [f];exact o) (by rw [f];omega);rw [f] at g;refine ⟨_,.pre rfl hd j g,?_⟩;simp [opt,qE,n,bR (show a<4611686018427387904 by omega)];exact hm.one A t.2.2.2
theorem ar8{d:Int}{a:Nat}{t:Tok}{m:List Tok}(f:l.drop a=t::m)(q:Ends (t::m))(u:0<=dn 10 d)(s:dn 10 d<=320)(hd:rW 10 d=false)(hN:12*(l.drop a).length+1<N+1):
  ∃r,P names (line 10) d (t::m) r/\RR l r (bif ((t.1 != 3)||(t.2.1 != [45])) then ((dV k (dn 10 d) l (a:Int) names 0 0).bind λe=>some (e.1,e.2.1,e.2.2.1,e.2.2.2))
   else ((k (10,dn 10 d,l,(i64.wrap ((a:Int)+1)),names,0,0)).bind λb=>some ((Ex.mk 6 0 t.2.2.2 ([b.1]:List Ex)),b.2.1,b.2.2.1,b.2.2.2))):=by
 obtain ⟨hx,g,v,j⟩:=sC f;have n:=htok t j;have w:=aqB n (x:=bQ 6) rfl;have c:dB 10 t=bif ((t.1==3)&&(t.2.1==bQ 6)) then some 6 else none:=by grind [dB,ops,nh,pX]
 have p:(l.drop a).length=m.length+1:=by rw [f];rfl
 have hb:((t.1 != 3)||(t.2.1 != [45]))= !((t.1==3)&&(t.2.1==bQ 6)):=by show ((!(t.1==3))||(!(t.2.1==[45])))=_;rw [show bQ 6=[45] from rfl,Bool.not_and]
 rw [hb];cases o:((t.1==3)&&(t.2.1==bQ 6))
 .rw [o] at c;simp [aeB];obtain ⟨r,i,hm⟩:=aq9 hn hl htok (by rw [f];exact q) (λh=>hk 1 (dn 10 d) (a+1) (by omega) (by omega) u s h (by rw [g];omega));rw [f] at i;exact ⟨r,.other rfl hd c i,hm⟩
 .rw [o] at c;have h  :=q.tail (Gw c);simp [bR (show a<4611686018427387904 by omega)];obtain ⟨r,i,hm⟩:=hk 10 (dn 10 d) (a+1) (by omega) (by omega) u s (by rw [g];exact h) (by rw [g];omega);rw [g] at i;exact ⟨_,.pre rfl hd c i,hm.one 6 t.2.2.2⟩
theorem ajd{s:Nat}(q:1<=s)(K:s<=9)(L:s≠6)(C:kd s=2){D:Int}(Q:0<=D)(O:D<=320)(G:((((s:Int)==1)||((s:Int)==2))||((s:Int)==5))=false)(F:((s:Int)==7)=false):
  ∀(n a M:Nat) (x:Ex),(l.drop a).length<=n->n<M->Ends (l.drop a)->12*(l.drop a).length<=N->
   ∃r,P names (loop s x) D (l.drop a) r/\RR l r (aj (db k (s:Int) l names D) M ((a:Int),0,0,x.op,x.n,x.at_,x.l)):=by
 intro n
 induction n with
 |zero=>
  intro a M x q S o _;obtain ⟨t,A,c⟩:=o.ne;rw [c] at q;simp at q
 |succ n ih=>
  intro a M x J R o hN;obtain ⟨M,rfl⟩:∃m,M=m+1:=⟨M-1,by omega⟩;obtain ⟨t,A,c⟩:=o.ne;obtain ⟨hx,e,I,h⟩:=sC c;have v:=htok t h;have B:(l.drop a).length=A.length+1:=by rw [c];rfl
  rw [ao];simp [db,hx,ah,anM v q K L,aM,G,b7];cases g:dB s t with
  |none=>
   refine ⟨.ok (x,l.drop a),by rw [c];exact .lpEnd g,a,rfl,?_⟩;simp [opt,Option.getD_none,qc,ca,RA]
  |some E=>
   have w:=Rf g;have i  :=by rw [c] at o;exact o.tail (Gw g)
   have u:i64.wrap ((s)+1)=((s+1:Nat)):=by grind [bG]
   simp only [opt,qE,w,bR (show a<4611686018427387904 by omega),u];obtain ⟨r,d,hm⟩:=hk (s+1) D (a+1) (by omega) (by omega) Q O (by rw [e];exact i) (by rw [e];omega);rw [e] at d
   match r,d,hm with
   | .error (b,p),d,⟨y,a',hm⟩=>
    have hb:=Im d;have z:(b==0)=false:=by simpa using hb
    rw [hm,ah];obtain ⟨M,rfl⟩:∃m,M=m+1:=⟨M-1,by omega⟩;rw [ao];simp [db,z];rw [c];exact ⟨_,.lpErr g d,_,_,rfl⟩
   | .ok (y,ts'),d,⟨a',ha',hm⟩=>
    obtain ⟨j,sk⟩:=d.ends i _ rfl;simp [shorter] at sk j;obtain ⟨r2,f,H⟩:=ih a' M (.mk E 0 t.2.2.2 [x,y]) (by rw [ha'];omega) (by omega) (by rw [ha'];exact j) (by rw [ha'];omega);rw [ha'] at f;refine ⟨r2,by rw [c];exact .lpGo g d f,?_⟩;grind [RA]
theorem ahB{s:Nat}(T:1<=s)(S:s<=10){d:Int}(h0:0<=d)(Z:d<=320){a:Nat}(u:Ends (l.drop a))(hN:12*(l.drop a).length+(11-s)<N+1):
  ∃r,P names (line s) d (l.drop a) r/\RR l r (dq k (s:Int) d l (a:Int) names 0 0):=by
 obtain ⟨t,ts,c⟩:=u.ne;obtain ⟨hx,hd1,hlt,W⟩:=sC c;rw [asJ T S h0 Z];unfold jX;simp only [aM,apD];cases hd:rW s d
 case true=>
  rw [c];simp only [ca,OG hx,ah];exact ⟨_,.ui hd,_,_,rfl⟩
 obtain ⟨j,i⟩:=arW h0 Z hd;simp only [b7,hx,ah];rw [c] at u;by_cases R:s=6
 .subst R;have:=pre6 hn hl htok hk c u j i hd (by omega);rw [c];obtain ⟨r,f,hm⟩:=this;refine ⟨r,f,?_⟩;show RR l r (bif ((t.1==3)&&(t.2.1==[33])) then da k l (a:Int) names 0 0 (dn 6 d) t 15 else da k l (a:Int) names 0 0 (dn 6 d) t 0);cases hb:((t.1==3)&&(t.2.1==[33])) <;> rw [hb] at hm <;> exact hm
 by_cases v:s=10
 .subst v;obtain ⟨r,f,hm⟩:=ar8 hn hl htok hk c u j i hd (by omega);rw [c];exact ⟨r,f,hm⟩
 have b6:((s:Int)==6)=false:=beq_eq_false_iff_ne.2 (by omega);have U:((s:Int)==10)=false:=beq_eq_false_iff_ne.2 (by omega);have w:i64.wrap ((s:Int)+1)=((s+1:Nat):Int):=by rw [bG (by omega)];omega
 simp only [b6,U,b7,w];obtain ⟨r,f,hm⟩:=hk (s+1) (dn s d) a (by omega) (by omega) j i (by rw [c];exact u) (by omega);have Y:(l.drop a).length=ts.length+1:=by rw [c];rfl
 have B:kd s=1\/kd s=2:=by
  have:s=1\/s=2\/s=3\/s=4\/s=5\/s=7\/s=8\/s=9:=by omega
  rcases this with rfl|rfl|rfl|rfl|rfl|rfl|rfl|rfl <;> simp [kd]
 match r,f,hm with
 | .error (b,p),f,⟨y,a',hm⟩=>
  have hb:=Im f;have M:(b==0)=false:=by simpa using hb
  rw [hm,ah];obtain ⟨m,O⟩:∃m,au=m+1:=⟨18446744073709551615,rfl⟩;rw [O,ao];simp only [db,M,b7];rcases B with h|h
  .exact ⟨_,.rErr h hd f,_,_,rfl⟩
  .refine ⟨.error (b,p),.lErr h (d:=d) ?_,_,_,rfl⟩;have:dn s d=d:=by
    have:s=3\/s=4\/s=8\/s=9:=by
     have:s=1\/s=2\/s=3\/s=4\/s=5\/s=7\/s=8\/s=9:=by omega
     rcases this with rfl|rfl|rfl|rfl|rfl|rfl|rfl|rfl <;> simp [kd] at h <;> simp
    rcases this with rfl|rfl|rfl|rfl <;> rfl
   rw [this] at f;exact f
 | .ok (x,ts'),f,⟨a',ha',hm⟩=>
  rw [c] at f;obtain ⟨o,sk⟩:=f.ends u _ rfl;simp only [shorter,eb] at sk o;rw [hm,ah];rcases B with h|h
  . -- once
   obtain ⟨t2,D,F⟩:=o.ne;subst F;obtain ⟨E,g,X,q⟩:=sC ha';have z:=htok t2 q;obtain ⟨m,O⟩:∃m,au=m+1:=⟨18446744073709551615,rfl⟩;rw [O,ao,c];simp only [db,qc,ca,E,ah,anM z T (by omega) R,aM];cases A:dB s t2 with
   |none=>
    refine ⟨_,.rOne h hd f A,a',ha',?_⟩;simp only [opt,Option.getD_none,qc,ca,RA]
   |some V=>
    have J:=Rf A;have C:Ends D:=o.tail (Gw A);simp only [opt,qE,J,b7,bR (show a'<4611686018427387904 by omega),w,RA];simp only [eb] at sk;have L:s=1\/s=2\/s=5\/s=7:=by
     have:s=1\/s=2\/s=3\/s=4\/s=5\/s=7\/s=8\/s=9:=by omega
     rcases this with rfl|rfl|rfl|rfl|rfl|rfl|rfl|rfl <;> simp [kd] at h <;> simp
    by_cases Q:s=7
    .subst Q;obtain ⟨r2,e,n⟩:=hk 8 (dn 7 d) (a'+1) (by omega) (by omega) j i (by rw [g];exact C) (by rw [g];omega);rw [g] at e;exact ⟨_,.rTwo h hd f A e,n.two V t2.2.2.2 x⟩
    .obtain ⟨r2,e,n⟩:=hk s (dn s d) (a'+1) (by omega) (by omega) j i (by rw [g];exact C) (by rw [g];omega);rw [g] at e;have H:nx s=s:=by unfold nx;rw [beq_eq_false_iff_ne.2 Q];rfl
     refine ⟨_,.rTwo h hd f A (by rw [H];exact e),?_⟩;have hb:((((s:Int)==1)||((s:Int)==2))||((s:Int)==5))=true:=by
      rcases L with rfl|rfl|rfl|rfl
      .rfl
      .rfl
      .rfl
      .exact absurd rfl Q
     rw [hb];exact n.two V t2.2.2.2 x
  . -- from the left
   have L:s=3\/s=4\/s=8\/s=9:=by
    have:s=1\/s=2\/s=3\/s=4\/s=5\/s=7\/s=8\/s=9:=by omega
    rcases this with rfl|rfl|rfl|rfl|rfl|rfl|rfl|rfl <;> simp [kd] at h <;> simp
   have K:dn s d=d:=by rcases L with rfl|rfl|rfl|rfl <;> rfl
   have hq:((((s:Int)==1)||((s:Int)==2))||((s:Int)==5))=false:=by grind
   have G:((s:Int)==7)=false:=by grind
   have I:(l.drop a').length<=l.length:=by simp
   obtain ⟨r2,e,n⟩:=ajd hn hl htok hk T (by omega) R h j i hq G l.length a' au x I (by show l.length<2^64;omega) (by rw [ha'];exact o) (by rw [ha'];omega);rw [ha'] at e;rw [c];rw [K] at f e;exact ⟨r2,.lGo h f e,n⟩
end
theorem amy{names:List aE}{l:List Tok}(hn:names.length<4611686018427387904)(hl:l.length<4611686018427387904)(htok:∀t∈l,jB t):
  ∀(N:Nat) (s:Nat) (d:Int) (a:Nat),1<=s->s<=10->0<=d->d<=320->Ends (l.drop a)->12*(l.drop a).length+(11-s)<N->
   SR names l (aj (λk (s:(Int×Int×(List (Int×aE×Int×Int))×Int×(List aE)×Int×Int))=>dq k s.1 s.2.1 s.2.2.1 s.2.2.2.1 s.2.2.2.2.1 s.2.2.2.2.2.1 s.2.2.2.2.2.2) N) s d a:=by
 intro N
 induction N with
 |zero=>grind
 |succ N ih=>
  intro s d a f b g e c hN;exact ahB hn hl htok ih f b g e c hN
theorem aho{names:List aE}{l:List Tok}(hn:names.length<4611686018427387904)(hl:l.length<1152921504606846976)(htok:∀t∈l,jB t){a:Nat}(f:Ends (l.drop a)):
  ∃r,P names (line 1) 0 (l.drop a) r/\match r with
   | .ok (x,ts)=>∃d:Nat,l.drop d=ts/\fz l (a:Int) names=some (x,(d:Int),0,0)
   | .error (b,p)=>fz l (a:Int) names=some (.mk 0 0 0 [],0,b,p):=by
 have e:(l.drop a).length<=l.length:=by simp
 obtain ⟨r,c,hm⟩:=amy hn (by omega) htok au 1 0 a (by omega) (by omega) (by omega) (by omega) f (by show _<2^64;omega);unfold fz iC
 match r,c,hm with
 | .ok (x,ts),c,⟨d,ha',hm⟩=>
  grind
 | .error (b,p),c,⟨x,d,hm⟩=>
  have hb:=Im c;grind
end Pa
theorem KA(k:Ex->Option (Int×Int×Int))(e:Ex)(hk:∀x∈e.l,k x=some (rt x))(hl:e.l.length<1152921504606846976):
  ∀(r pre:List Ex),e.l=pre++r->∀(M:Nat) (i b t:Int),0<=i/\i<=pre.length->0<=b/\b<=pre.length->0<=t/\t<=pre.length->r.length<M->
   aj (kY k e) M (i,b,t,(pre.length:Int))=some (sZ e.op e.at_ (e.l.length:Int) r i b t)
 |[],pre,h,M,i,b,t,hi,hb,ht,hM=>by
  obtain ⟨m,rfl⟩:∃m,M=m+1:=⟨M-1,by omega⟩;rw [ao];have a:pre.length<1152921504606846976:=by grind
  have f:i64.wrap (b+t)=b+t:=bG (by omega);simp [kY,aM,sZ,N7];grind
 |x::r,pre,h,M,i,b,t,hi,hb,ht,hM=>by
  obtain ⟨m,rfl⟩:∃m,M=m+1:=⟨M-1,by omega⟩;rw [ao];have hx  :=hk x (by rw [h];simp);have a:pre.length<1152921504606846976:=by grind
  have ih:=λi b t hi hb ht=>KA k e hk hl r (pre++[x]) (by rw [h];simp) m i b t hi hb ht (by simp at hM;omega);have hp:((pre++[x]).length)=((pre.length+1:Nat)):=by simp
  rw [hp] at ih;have c:i64.wrap (i+1)=i+1:=bG (by omega);have d:i64.wrap (b+1)=b+1:=bG (by omega);have wt:i64.wrap (t+1)=t+1:=bG (by omega);simp only [kY,p6,xg,kN h,n8 h,ah,hx,mI (show pre.length<4611686018427387904 by omega),sZ,c,d,wt];cases (rt x).2.1 != 0
  .cases (rt x).1==1 <;> cases (rt x).1==2 <;> cases (rt x).1==3 <;> simp <;> exact ih _ _ _ (by omega) (by omega) (by omega)
  .rfl
theorem Ub:∀(N:Nat) (e:Ex),e.sz<=N->e.sz<1152921504606846976->aj (λk s=>jF k s) N e=some (rt e):=by
 intro N
 induction N with
 |zero=>grind [oR]
 |succ N ih=>
  intro e h hb;rw [ao];have hl:=x5 e;rw [rt_eq];exact KA (aj (λk s=>jF k s) N) e (λx hx=>ih x (by have:=lU hx;omega) (by have:=lU hx;omega)) (by omega) e.l [] rfl au 0 0 0 (by simp) (by simp) (by simp) (by show e.l.length<2^64;omega)
theorem akd(e:Ex)(h:e.sz<1152921504606846976):dQ e=some (rt e):=Ub au e (by show e.sz<=2^64;omega) h
namespace Sy
open Pa
theorem type_s2(e:Ex):iY e=jF dQ e:=rfl
theorem afK(e:Ex)(h:e.sz<1152921504606846976):iY e=some (rt e):=by have hl:=x5 e;rw [rt_eq];exact KA dQ e (λx hx=>akd x (by have:=lU hx;omega)) (by omega) e.l [] rfl au 0 0 0 (by simp) (by simp) (by simp) (by show e.l.length<2^64;omega)
theorem CF{names:List aE}{v:aE}(hn:names.length<4611686018427387904):∀(m i M:Nat),names.length-i<=m->i<=names.length->m<M->
  aj (fK names v) M (i:Int)=some (match ot names v i with|some j=>(j:Int)|none=> -1):=by
 intro m
 induction m with
 |zero=>
  intro i M c b a;obtain ⟨M,rfl⟩:∃k,M=k+1:=⟨M-1,by omega⟩;have hi:i=names.length:=by omega
  simp_all [ao,ot,fK,List.length]
 |succ m ih=>
  intro i M c b a;obtain ⟨M,rfl⟩:∃k,M=k+1:=⟨M-1,by omega⟩;rw [ao];by_cases hi:i<names.length
  .have hd  :=n4 hi;have hx:idx names (i)=some names[i]:=by simp [idx]
   simp only [fK,cx (show ((i):Int)<(List.length names) by omega),hx,ah,bR (show i<4611686018427387904 by omega)];have e:ot names v i=bif (names[i]==v) then some i else ot names v (i+1):=by
    unfold ot;rw [hd,List.findIdx?_cons];have:(v==names[i])=(names[i]==v):=by grind
    rw [this];cases (names[i]==v)
    .simp;congr 1;grind
    .simp
   rw [e];cases (names[i]==v)
   .exact ih (i+1) M (by omega) (by omega) (by omega)
   .rfl
  .have hi:i=names.length:=by omega
   simp_all [ot,fK,List.length]
theorem PV{names:List aE}(hn:names.length<4611686018427387904)(v:aE):cQ names v=some (fa names v):=by have:=CF (v:=v) hn names.length 0 au (by omega) (by omega) (by show names.length<2^64;omega);rw [show ((0:Nat))=0 from rfl,PO] at this;grind [cQ,fa,at_]
theorem aoz{names:List aE}{v:aE}:at_ names v=none↔names.contains v=false:=by grind [at_,List.findIdx?_eq_none_iff,List.contains_iff_mem]
theorem Lg(names:List aE)(v:aE):decide (0<=fa names v)=names.contains v:=by grind [fa,at_,aoz]
def bO(st:Except ir (List Tok))(f:List Tok->Except ir (List Tok)):Except ir (List Tok):=match st with
 | .ok ts=>f ts
 | .error e=> .error e
def rest{α:Type}:Except ir (α×List Tok)->Except ir (List Tok)
 | .ok p=> .ok p.2
 | .error e=> .error e
def bz{α:Type}(st:Except ir (List Tok))(f:List Tok->Except ir (α×List Tok)):Except ir (List Tok):=bO st λts=>rest (f ts)
def St(l:List Tok)(st:Except ir (List Tok))(a b p:Int):Prop:=match st with
 | .ok ts=>∃k:Nat,a=(k:Int)/\l.drop k=ts/\Pa.Ends ts/\b=0/\p=0
 | .error e=>(∃t,idx l a=some t)/\(e.1==0)=false/\b=e.1/\p=e.2
def DV(k:Int)(x:aE):Except ir (List Tok)->Bool
 | .ok ts=>uv k x ts
 | .error _=>false
def Ua{α:Type}(st:Except ir (List Tok))(f:List Tok->Except ir (α×List Tok))(x:α):Prop:= ∀ts y r,st= .ok ts->f ts= .ok (y,r)->x=y
section
variable {l : List Tok} (hl : l.length < 1099511627776) (htok :∀t ∈ l, jB t) (hnum :∀t ∈ l, Db t)
variable {st : Except ir (List Tok)} {a b p : Int} (N : List aE) (S_ : List (Int × Int)) (I : zj) (Q : List aE) (C : List aT)
theorem St.at{st:Except ir (List Tok)}{a b p:Int}(h:St l st a b p):∃t,idx l a=some t:=by
 cases st with
 |ok d=>
  obtain ⟨k,rfl,hd,c,_⟩:=h;obtain ⟨t,r,rfl⟩:=c.ne;exact ⟨t,(sC hd).1⟩
 |error e=>exact h.1
theorem St.ok{c:List Tok}(h:St l (.ok c) a b p):∃(k:Nat) (t:Tok) (r:List Tok),a=(k:Int)/\c=t::r/\l.drop k=t::r/\Pa.Ends (t::r)/\b=0/\p=0/\idx l a=some t/\t∈l/\l.drop (k+1)=r/\k<l.length:=by obtain ⟨k,rfl,hd,d,hb,hp⟩:=h;obtain ⟨t,r,rfl⟩:=d.ne;obtain ⟨i,g,f,e⟩:=sC hd;grind
theorem R9(c q x:Int):aJ c q l x N S_ I Q C 0 0=some (c,q):=rfl
theorem E5{b:Int}(hb:(b==0)=false)(c q x p:Int):aJ c q l x N S_ I Q C b p=some (b,p):=by grind [aJ]
theorem KW(h:St l st a b p)(k:Int)(x:aE):bU k x l a N S_ I Q C b p=some (DV k x st):=by
 cases st with
 |ok d=>
  obtain ⟨f,t,r,rfl,rfl,hd,c,rfl,rfl,hx,_⟩:=h.ok;unfold bU;simp [aM,qc,dU,hx,ah,DV,uv,y5];cases (t.1==k)
  .rfl
  .simp [dU,ah]
 |error e=>
  obtain ⟨_,c,rfl,rfl⟩:=h;unfold bU;simp [aM,c,rE,oi,DV]
theorem adG(h:St l st a b p):∃q,bq l a N S_ I Q C b p=some q/\∀c,st= .ok c->q=Uc c:=by
 obtain ⟨t,ht⟩:=h.at
 refine ⟨t.2.2.2,by grind [bq],λc d=>?_⟩;subst d;obtain ⟨e,t',r,rfl,rfl,hd,f,rfl,rfl,hx,_⟩:=h.ok;rw [hx] at ht;cases ht;rfl
include hl in
theorem Dy(h:St l st a b p)(x:aE):∃a' b' p',bN x l a N S_ I Q C b p=some (a',b',p')/\St l (bO st (bZ x)) a' b' p':=by
 have hi:=KW N S_ I Q C h 3 x;unfold bN;rw [hi,ah];cases st with
 |ok g=>
  obtain ⟨k,t,r,rfl,rfl,hd,c,rfl,rfl,hx,hm,d,hk⟩:=h.ok;simp [DV,uv,bO,bZ];cases f:y5 3 x t
  .simp [bq,hx,ah];exact ⟨_,_,_,rfl,⟨t,hx⟩,rfl,rfl,rfl⟩
  .simp only [bR (show k<4611686018427387904 by omega)];exact ⟨_,_,_,rfl,k+1,rfl,d,c.tail (Z0 f (by decide)),rfl,rfl⟩
 |error e=>
  obtain ⟨⟨t,hx⟩,c,rfl,rfl⟩:=h;simp [bq,hx,E5 N S_ I Q C c];exact ⟨_,_,_,rfl,⟨t,hx⟩,c,rfl,rfl⟩
include hl in
theorem adN(h:St l st a b p)(hN:N.length<1099511627776)(hQ:Q.length<1099511627776)(full:Bool):∃s a' b' p',gP full l a N S_ I Q C b p=some (s,a',b',p')/\St l (bz st (fJ full N Q)) a' b' p'/\Ua st (fJ full N Q) s:=by
 obtain ⟨t,ht⟩:=h.at
 have G:=PV (names:=N) (by omega) t.2.1;have F:=PV (names:=Q) (by omega) t.2.1;unfold gP;simp only [ht,ah,aeJ,aM];cases st with
 |ok m=>
  obtain ⟨k,t',r,rfl,rfl,hd,i,rfl,rfl,hx,hm,B,hk⟩:=h.ok;rw [hx] at ht;cases ht;simp only [bz,bO];have d:fJ full N Q (t::r)=(bif t.1 != 1 then .error (2,t.2.2.2) else bif key t.2.1||N.contains t.2.1||Q.contains t.2.1 then .error (3,t.2.2.2) else bif full then .error (9,t.2.2.2) else .ok (t.2.1,r)):=rfl;cases v:(t.1 != 1)
  case true=>
   rw [v] at d;simp only [ca] at d;simp only [ca,R9,ah,d,rest];exact ⟨_,_,_,_,rfl,⟨⟨t,hx⟩,rfl,rfl,rfl⟩,λm y w j f=>by cases j;rw [d] at f;cases f⟩
  rw [v] at d;simp only [b7] at d ⊢;have J:(key t.2.1||N.contains t.2.1||Q.contains t.2.1)=(xH.contains t.2.1||decide (0<=fa N t.2.1)||decide (0<=fa Q t.2.1)):=by rw [Lg,Lg];rfl
  rw [J] at d;have fin:∀c:Bool,(xH.contains t.2.1||decide (0<=fa N t.2.1)||decide (0<=fa Q t.2.1))=c->
    ∃s a' b' p',(bif c then ((aJ 3 t.2.2.2 l (k:Int) N S_ I Q C 0 0).bind λo=>some (t.2.1,(k:Int),o.1,o.2)) else (bif full then ((aJ 9 t.2.2.2 l (k:Int) N S_ I Q C 0 0).bind λn=>some (t.2.1,(k:Int),n.1,n.2)) else (bif ((0:Int)==0) then some (t.2.1,(i64.wrap ((k:Int)+1)),0,0) else some (t.2.1,(k:Int),0,0))))=some (s,a',b',p')/\
     St l (rest (fJ full N Q (t::r))) a' b' p'/\Ua (.ok (t::r)) (fJ full N Q) s:=by
   intro c D;rw [D] at d;cases c
   .cases full
    .simp only [b7] at d;refine ⟨_,_,_,_,rfl,?_,λm y w j f=>by cases j;rw [d] at f;cases f;rfl⟩;rw [d,bR (show k<4611686018427387904 by omega)];have:t.1=1:=by simpa using v
     exact ⟨k+1,rfl,B,i.tail (by omega),rfl,rfl⟩
    .simp only [b7,ca] at d;exact ⟨_,_,_,_,rfl,by rw [d];exact ⟨⟨t,hx⟩,rfl,rfl,rfl⟩,λm y w j f=>by cases j;rw [d] at f;cases f⟩
   .simp only [ca] at d;exact ⟨_,_,_,_,rfl,by rw [d];exact ⟨⟨t,hx⟩,rfl,rfl,rfl⟩,λm y w j f=>by cases j;rw [d] at f;cases f⟩
  have:=fin _ rfl;cases u:xH.contains t.2.1
  .simp only [j6,dU,G,ah,mE,u] at this ⊢;cases q:decide (0<=fa N t.2.1)
   .simp only [F,q] at this ⊢;exact this
   .simp [q] at this ⊢;exact this
  .simp only [Bool.true_or,u] at this ⊢;exact this
 |error e=>
  obtain ⟨_,i,rfl,rfl⟩:=h;simp only [bz,bO];have V:∀s,Ua (.error e) (fJ full N Q) s:=λs m y r h=>by cases h
  have hS:St l (.error e) a e.1 e.2:=⟨⟨t,ht⟩,i,rfl,rfl⟩;have A:∀g:Bool,∃z,∀k:Int->Option (aE×Int×Int×Int),bC g default (cQ N t.2.1) k=k z:=λg=>by
   cases g
   .exact ⟨default,λk=>rfl⟩
   .exact ⟨fa N t.2.1,λk=>by rw [dU,G];rfl⟩
  have x:∀g:Bool,∃z,∀k:Int->Option (aE×Int×Int×Int),bC g default (cQ Q t.2.1) k=k z:=λg=>by
   cases g
   .exact ⟨default,λk=>rfl⟩
   .exact ⟨fa Q t.2.1,λk=>by rw [dU,F];rfl⟩
  cases v:(t.1 != 1)
  case true=>
   simp [E5 N S_ I Q C i,ah];grind
  obtain ⟨E,L⟩:=A (!(xH.contains t.2.1));rw [L];obtain ⟨H,K⟩:=x (!(xH.contains t.2.1||decide (0<=E)));rw [K];cases (xH.contains t.2.1||decide (0<=E)||decide (0<=H))
  .cases full
   .simp [i];grind
   .simp [E5 N S_ I Q C i,ah];grind
  .simp [E5 N S_ I Q C i,ah];grind
include hl in
theorem VF(c:Bool)(h:St l st a b p):∃n a' b' p',ki l N S_ I Q C b p c a=some (n,a',b',p')/\St l (bz st (ta c)) a' b' p'/\Ua st (ta c) n:=by
 obtain ⟨t,ht⟩:=h.at
 unfold ki;rw [ht,ah];cases st with
 |ok f=>
  obtain ⟨k,t',r,rfl,rfl,hd,g,rfl,rfl,hx,hm,d,hk⟩:=h.ok;rw [hx] at ht;cases ht;simp [bz,bO,ta,Ua];cases s:(t.1 != 2)
  .simp [kg,bR (show k<4611686018427387904 by omega)];have q  :=by simpa using s
   have j  :=g.tail (by omega);cases c
   .exact ⟨_,_,_,_,rfl,⟨k+1,rfl,d,j,rfl,rfl⟩,λf y i o m=>by grind⟩
   .exact ⟨_,_,_,_,rfl,⟨k+1,rfl,d,j,rfl,rfl⟩,λf y i o m=>by grind⟩
  .exact ⟨_,_,_,_,rfl,⟨⟨t,hx⟩,rfl,rfl,rfl⟩,λf y i o m=>by grind⟩
 |error e=>
  obtain ⟨_,g,rfl,rfl⟩:=h;have hb:(e.1 != 0)=true:=by grind
  simp only [E5 N S_ I Q C g,ah,kg,aM,hb];have hS:St l (.error e) a e.1 e.2:=⟨⟨t,ht⟩,g,rfl,rfl⟩;cases (t.1 != 2) <;> exact ⟨_,_,_,_,rfl,hS,λf y r h=>by cases h⟩
include hl in
theorem Zy(h:St l st a b p):∃n d c p',dW l a N S_ I Q C b p=some (n,d,c,p')/\St l (bz st gw) d c p'/\Ua st gw n:=by
 unfold dW;rw [KW N S_ I Q C h 3 [45],ah];cases st with
 |ok m=>
  simp [DV];cases v:uv 3 [45] m
  .obtain ⟨n,d,c,p',g,q,j⟩:=VF hl N S_ I Q C false h;have e:gw m=ta false m:=by grind [gw]
   exact ⟨n,d,c,p',g,by grind [bz,bO],λf y r i x=>j f y r i (by grind)⟩
  .obtain ⟨k,t,r,rfl,rfl,hd,u,rfl,rfl,hx,hm,o,hk⟩:=h.ok;have w  :=(oX u (by decide) v).1;have hS:St l (.ok r) (i64.wrap ((k)+1)) 0 0:=by rw [bR (by omega)];exact ⟨k+1,rfl,o,w,rfl,rfl⟩
   obtain ⟨n,d,c,p',g,q,j⟩:=VF hl N S_ I Q C true hS;have e:gw (t::r)=ta true r:=by grind [gw]
   exact ⟨n,d,c,p',g,by grind [bz,bO],λf y s i x=>j r y s rfl (by grind)⟩
 |error e=>
  obtain ⟨n,d,c,p',g,q,j⟩:=VF hl N S_ I Q C false h;exact ⟨n,d,c,p',g,q,λf y r i=>by cases i⟩
include hl htok hnum in
theorem adj(h:St l st a b p)(hN:N.length<1099511627776)(c:Int):∃x a' b' p',cF c l a N S_ I Q C b p=some (x,a',b',p')/\St l (bz st (eI c N)) a' b' p'/\Ua st (eI c N) x:=by
 unfold cF;cases st with
 |ok i=>
  obtain ⟨k,t,r0,rfl,rfl,hd,n,rfl,rfl,hx,hm,A,hk⟩:=h.ok;obtain ⟨r,g,j⟩:=aho (names:=N) (by omega) (by omega) htok (by rw [hd];exact n);rw [hd] at g;have d:=alj g
  match r,g,j,d with
  | .error (b,p),g,j,d=>
   have hb:=Im g;have q:(b==0)=false:=by simpa using hb
   rw [j,ah];simp [hb,bz,bO,eI,d];exact ⟨_,_,_,_,rfl,⟨⟨t,hx⟩,q,rfl,rfl⟩,λi y m z s=>by grind [eI]⟩
  | .ok (x,ts'),g,⟨k',hk',j⟩,d=>
   have o:=g.size _ rfl;simp only [Lk] at o;have v:(t::r0).length<=l.length:=by rw [<-hd];simp
   have f:=(g.ends n _ rfl).1;rw [j,ah];simp [afK x (by omega),ah,bz,bO,eI,d,Ua];have hat:∃t',idx l (k')=some t':=by obtain ⟨t',m,w⟩:=f.ne;simp only at w;rw [w] at hk';exact ⟨t',(sC hk').1⟩
   cases D:((rt x).2.1 != 0)
   case true=>
    have u:((rt x).2.1==0)=false:=by simpa using D
    exact ⟨_,_,_,_,rfl,⟨hat,u,rfl,rfl⟩,λi y m z s=>by grind⟩
   cases z:((rt x).1 != c)
   case true=>
    exact ⟨_,_,_,_,rfl,⟨hat,rfl,rfl,rfl⟩,λi y m B s=>by grind⟩
   exact ⟨_,_,_,_,rfl,⟨k',rfl,hk',f,rfl,rfl⟩,λi y m B s=>by grind⟩
 |error e=>
  obtain ⟨ht,n,rfl,rfl⟩:=h;have hb:(e.1 != 0)=true:=by grind
  simp only [hb,bz];exact ⟨_,_,_,_,rfl,⟨ht,n,rfl,rfl⟩,λi y r h=>by cases h⟩
end
end Sy
namespace Sy
open Pa
theorem amv(lo hi:Int):nu ([(lo,hi)]:w5)=some (nk lo hi):=by
 have e:nu ([(lo,hi)])=aj (pn [(lo,hi)]) au 0:=rfl;rw [e];obtain ⟨m,hm⟩:∃m,au=m+2:=⟨18446744073709551614,rfl⟩;rw [hm,show m+2=(m+1)+1 from rfl,ao];have i0:idx ([(lo,hi)]) 0=some (lo,hi):=rfl;simp [pn,i0,ah,aM];unfold nk;cases decide (hi<lo)
 case true=>rfl
 simp [j6,dU,ah,mE];cases decide (lo< -1073741824)
 case true=>rfl
 simp [j6,dU,ah,mE];cases decide (1073741824<hi)
 case true=>rfl
 simp [j6,dU,ah,mE];cases decide (65535<i64.wrap (hi-lo))
 .rfl
 .rfl
section
variable {l : List Tok} (hl : l.length < 1099511627776) (htok :∀t ∈ l, jB t) (hnum :∀t ∈ l, Db t)
variable {st : Except ir (List Tok)} {a b p : Int} (N : List aE) (S_ : List (Int × Int)) (I : zj) (Q : List aE) (C : List aT)
variable (hN : N.length < 1099511627776) (hS : S_.length < 1099511627776) (hI : I.length < 1099511627776) (hQ : Q.length < 1099511627776) (hC : C.length < 1099511627776)
include hl hN hS hI hQ in
theorem aqV(h:St l st a b p):∃a' F E G b' p',ia l a N S_ I Q C b p=some (a',F,E,G,b',p')/\St l (bz st (rF (N,S_,I,Q,C))) a' b' p'/\
  (∀f m r,st= .ok f->rF (N,S_,I,Q,C) f= .ok (m,r)->m=(F,E,G,Q,C)):=by
 obtain ⟨d,a1,b1,p1,n,R,Z⟩:=adN hl N S_ I Q C h hN hQ (decide (16<=(List.length N:Int)));obtain ⟨q,e0,v0⟩:=adG N S_ I Q C R;obtain ⟨lo,a2,b2,p2,e2,s2,Y⟩:=Zy hl N S_ I Q C R;obtain ⟨hi,a3,b3,p3,e3,s3,X⟩:=Zy hl N S_ I Q C s2;obtain ⟨g,a4,b4,p4,e4,s4,W⟩:=Zy hl N S_ I Q C s3;obtain ⟨P,U,S,e5,o⟩:=Dy hl N S_ I Q C s4 [59];have k1:aH (List.length N+List.length ([d]:List aE)) 16=true:=dv (by simp;omega) (by simp;omega);have k2:aH (List.length S_+List.length ([(lo,hi)]:w5)) 16=true:=dv (by simp;omega) (by simp;omega);have k3:aH (List.length I+List.length ([g]:zj)) 8=true:=dv (by simp;omega) (by simp;omega);have hK:∀v u,jH N S_ I (d,a1,b1,p1) (lo,a2,b2,p2) (hi,a3,b3,p3) (g,a4,b4,p4) (P,U,S) v u=some (P,N++[d],S_++[(lo,hi)],I++[g],v,u):=λv u=>by unfold jH;rw [aP k1,aP k2,aP k3]
 unfold ia;simp only [n,ah,e0,e2,e3,e4,e5,amv,aM,hK]
 -- where it is wrong
 have O:∀e:ir,bO (bz (bz (bz (bz st (fJ (decide (16<=(List.length N:Int))) N Q)) gw) gw) gw) (bZ [59])= .error e->
   (bz st (rF (N,S_,I,Q,C)))= .error e:=by
  intro e c;cases st with
  |error e'=>simp only [bz,bO] at c ⊢; exact c
  |ok f=>
   simp only [bz,bO,rF] at c ⊢;cases k:fJ (decide (16<=(List.length N:Int))) N Q f with
   |error n=>rw [k] at c;simp only [rest] at c ⊢; exact c
   |ok M=>
    rw [k] at c;simp only [rest] at c ⊢;cases j:gw M.2 with
    |error n=>rw [j] at c;simp only [] at c ⊢; exact c
    |ok L=>
     rw [j] at c;simp only [] at c ⊢;cases z:gw L.2 with
     |error n=>rw [z] at c;simp only [] at c ⊢; exact c
     |ok K=>
      rw [z] at c;simp only [] at c ⊢;cases H:gw K.2 with
      |error n=>rw [H] at c;simp only [] at c ⊢; exact c
      |ok q4=>
       rw [H] at c;simp only [] at c ⊢;rw [c]
 cases j4:bO (bz (bz (bz (bz st (fJ (decide (16<=(List.length N:Int))) N Q)) gw) gw) gw) (bZ [59]) with
 |error e=>
  have hb:=O e j4;rw [j4] at o;have t:=E5 (l:=l) N S_ I Q C (b:=U) (by rw [o.2.2.1];exact o.2.1) 5 q P S;rw [hb];have V:∀F E G,∀f m r,st= .ok f->rF (N,S_,I,Q,C) f= .ok (m,r)->m=(F,E,G,Q,C):=λF E G f m r k j=>by subst k;simp only [bz,bO,j,rest] at hb;cases hb
  cases (!(nk lo hi)||decide (g<lo)||decide (hi<g))
  .simp only [b7];exact ⟨_,_,_,_,_,_,rfl,o,V _ _ _⟩
  .simp only [ca,t,ah];exact ⟨_,_,_,_,_,_,rfl,o,V _ _ _⟩
 |ok w=>
  rw [j4] at o;cases st with
  |error e'=>simp only [bz,bO] at j4;cases j4
  |ok f=>
   simp only [bz,bO] at j4;cases k:fJ (decide (16<=(List.length N:Int))) N Q f with
   |error n=>rw [k] at j4;cases j4
   |ok M=>
    obtain ⟨s,i⟩:=M;rw [k] at j4;simp only [rest] at j4;have en:d=s:=Z _ _ _ rfl k;have t1:bz (.ok f) (fJ (decide (16<=(List.length N:Int))) N Q)= .ok i:=by simp only [bz,bO,k,rest]
    have eq:q=Uc i:=v0 _ t1;cases j:gw i with
    |error n=>rw [j] at j4;cases j4
    |ok L=>
     obtain ⟨lo',y⟩:=L;rw [j] at j4;simp only at j4;have e2'  :=Y _ _ _ t1 j;have t2:bz (bz (.ok f) (fJ (decide (16<=(List.length N:Int))) N Q)) gw= .ok y:=by rw [t1];simp [bz,bO,j,rest]
     cases z:gw y with
     |error n=>rw [z] at j4;cases j4
     |ok K=>
      obtain ⟨hi',x⟩:=K;have e3'  :=X _ _ _ t2 z;have t3:bz (bz (bz (.ok f) (fJ (decide (16<=(List.length N:Int))) N Q)) gw) gw= .ok x:=by grind [bz,bO,rest]
      cases H:gw x with
      |error n=>grind
      |ok q4=>
       have e4'  :=W _ _ _ t3 H;have hv:rF (N,S_,I,Q,C) f=(bif !(nk lo hi)||decide (g<lo)||decide (hi<g) then .error (5,Uc i) else .ok ((N++[d],S_++[(lo,hi)],I++[g],Q,C),w)):=by grind [rF]
       simp [bz,bO,hv];obtain ⟨T,D,B,A,rfl,rfl⟩:=o;cases hq:(!(nk lo hi)||decide (g<lo)||decide (hi<g))
       .exact ⟨_,_,_,_,_,_,rfl,⟨T,D,B,A,rfl,rfl⟩,λJ m r h5 h6=>by grind⟩
       .refine ⟨_,_,_,_,_,_,rfl,?_,λJ m r h5 h6=>by grind⟩;have hat:=St.at (st:= .ok w) ⟨T,D,B,A,rfl,rfl⟩;exact ⟨hat,rfl,rfl,eq⟩
end
end Sy
namespace Sy
open Pa
section
variable {l : List Tok} (hl : l.length < 1099511627776) (htok :∀t ∈ l, jB t) (hnum :∀t ∈ l, Db t)
variable {st : Except ir (List Tok)} {a b p : Int} (N : List aE) (S_ : List (Int × Int)) (I : zj) (Q : List aE) (C : List aT)
variable (hN : N.length < 1099511627776) (hQ : Q.length < 1099511627776) (hC : C.length < 1099511627776)
theorem S5(acc:List (Int×Ex))(f:acc.length<4611686018427387904)(again)(e:Tok)(i:Int)(a b p:Int):∀(r pre:List (Int×Ex)),acc=pre++r->∀(M:Nat) (c:Bool),r.length<M->
  aj (cE l N S_ I Q C a b p acc again e i) M (c,(pre.length:Int))=cE l N S_ I Q C a b p acc again e i (λ_=>none) (c||CZ r i,(acc.length:Int))
 |[],pre,h,M,c,hM=>by
  obtain ⟨m,rfl⟩:∃m,M=m+1:=⟨M-1,by omega⟩;simp_all [ao,cE,CZ,List.any_nil]
 |x::r,pre,h,M,c,hM=>by
  obtain ⟨m,rfl⟩:∃m,M=m+1:=⟨M-1,by omega⟩;rw [ao];have d:pre.length<4611686018427387904:=by grind
  have ih:=λc=>S5 acc f again e i a b p r (pre++[x]) (by rw [h];simp) m c (by simp at hM;omega);rw [show ((pre++[x]).length)=((pre.length+1:Nat)) by simp] at ih;have j:∀k:(Int×Ex)->Option (Int×List aT×Int×Int),bC (!c) (0,Ex.mk 0 0 0 []) (some x) k=k (bif c then (0,Ex.mk 0 0 0 []) else x):=λk=>by cases c <;> rfl
  refine Eq.trans (b:=bif decide ((pre.length:Int)<(List.length acc)) then (bC (!c) (0,(Ex.mk 0 0 0 [])) (idx acc (pre.length)) λg=>aj (cE l N S_ I Q C a b p acc again e i) m (c||(g.1==i),i64.wrap ((pre.length)+1))) else none) ?_ ?_
  .simp only [cE,uz h,ca,aM]
  .rw [uz h,ca,lR h,j,bR d,ih];grind [CZ]
include hl hC in
theorem UP(f:Ex×Int×Int×Int)(acc:List (Int×Ex))(c:Bool)(M:Nat)(h:St l st a b p)(hm:(c&&(b==0))=false):
  ∃e d p',aj (df l N S_ I Q C f) (M+1) (a,b,p,acc,c)=some (e,C++[(i64.wrap ((Q.length:Int)-1),f.1,acc)],d,p')/\St l (bO st (bZ [59])) e d p':=by
 obtain ⟨e,d,p',g,i⟩:=Dy hl N S_ I Q C h [59];rw [ao];simp only [df,aM,g,ah];have k1:∀x:aT,aH (List.length C+List.length ([x])) 80=true:=λx=>dv (by simp;omega) (by simp;omega);rw [aP (k1 _)];grind
include hl htok hnum hN in
theorem arM(acc:List (Int×Ex))(g:acc.length<1099511627776)(again)(i:Int)(h:St l st a b p):
  ∃x a' b' p',fZ l N S_ I Q C acc again i b p a=again (a',b',p',acc++[(i,x)],DV 3 [44] (bz (bO st (bZ [61])) (eI 1 N)))/\
   St l (match bz (bO st (bZ [61])) (eI 1 N) with|.ok c=>(bif uv 3 [44] c then .ok c.tail else .ok c)|.error e=> .error e) a' b' p'/\Ua (bO st (bZ [61])) (eI 1 N) x:=by
 obtain ⟨y,v,p1,s,m⟩:=Dy hl N S_ I Q C h [61];obtain ⟨x,w,u,p2,q,d,j⟩:=adj hl htok hnum N S_ I Q C m hN 1;have e3:=KW N S_ I Q C d 3 [44];have k1:aH (List.length acc+List.length ([(i,x)])) 56=true:=dv (by simp;omega) (by simp;omega);unfold fZ;simp only [s,ah,q,aP k1,e3];cases j4:bz (bO st (bZ [61])) (eI 1 N) with
 |error e=>
  simp [DV];grind
 |ok c=>
  rw [j4] at d;simp [DV];cases o:uv 3 [44] c
  .grind
  .obtain ⟨k,t,r,rfl,rfl,hd,n,rfl,rfl,hx,hm,f,hk⟩:=d.ok;refine ⟨x,_,_,_,rfl,?_,j⟩;rw [bR (by omega)];exact ⟨k+1,rfl,f,(oX n (by decide) o).1,rfl,rfl⟩
include hl htok hnum hN hC in
theorem apu(A:Ex×Int×Int×Int):∀(n:Nat) (w:List Tok) (acc:List (Int×Ex)) (a:Int) (M f:Nat),w.length<=n->n+2<=M->w.length<f->acc.length+w.length<1099511627776->St l (.ok w) a 0 0->
  ∃a' C' b' p',aj (df l N S_ I Q C A) M (a,0,0,acc,true)=some (a',C',b',p')/\St l (bO (rest (fM N f acc w)) (bZ [59])) a' b' p'/\
   (∀sets r,fM N f acc w= .ok (sets,r)->C'=C++[(i64.wrap ((Q.length:Int)-1),A.1,sets)]):=by
 intro n
 induction n with
 |zero=>
  intro w acc a M f V _ _ _ O;obtain ⟨k,t,r,_,rfl,_⟩:=O.ok;simp at V
 |succ n ih=>
  intro w acc a M f V h2 h3 h4 O;obtain ⟨M,rfl⟩:∃m,M=m+1:=⟨M-1,by omega⟩;obtain ⟨f,rfl⟩:∃m,f=m+1:=⟨f-1,by omega⟩;obtain ⟨k,t,r,rfl,rfl,hd,he,_,_,hx,hm,R,hk⟩:=O.ok;rw [ao];generalize U:aj (df l N S_ I Q C A) M=i;simp only [df,aM,qc,q8,ca,hx,ah,PV (show N.length<4611686018427387904 by omega)];have D:=S5 (l:=l) N S_ I Q C acc (by omega) i t (fa N t.2.1) (k:Int) 0 0 acc [] rfl au false (by show acc.length<2^64;omega);rw [show (([]:List (Int×Ex)).length:Int)=0 from rfl,mE] at D;rw [D];simp only [cE,cy (show ¬((acc.length:Int)<(List.length acc:Int)) by omega),b7,aM,R9,ah]
  -- the state behind the name
  have step:∀(st1:Except ir (List Tok)) (c b p:Int),St l st1 c b p->(st1= .ok r\/∃e,st1= .error e)->
    fM N (f+1) acc (t::r)=(match st1 with
     | .error e=> .error e
     | .ok r0=>match bZ [61] r0 with
      | .error e=> .error e
      | .ok r1=>match eI 1 N r1 with
       | .error e=> .error e
       | .ok (x,r2)=>bif uv 3 [44] r2 then fM N f (acc++[(fa N t.2.1,x)]) r2.tail else .ok (acc++[(fa N t.2.1,x)],r2))->
    ∃a' C' b' p',fZ l N S_ I Q C acc i (fa N t.2.1) b p c=some (a',C',b',p')/\St l (bO (rest (fM N (f+1) acc (t::r))) (bZ [59])) a' b' p'/\
     (∀sets K,fM N (f+1) acc (t::r)= .ok (sets,K)->C'=C++[(i64.wrap ((Q.length:Int)-1),A.1,sets)]):=by
   intro st1 c b p j sk g;obtain ⟨x,a1,b1,p1,e1,o,Z⟩:=arM hl htok hnum N S_ I Q C hN acc (by omega) i (fa N t.2.1) j;rw [e1,<-U];have hM1:1<=M:=by omega
   obtain ⟨M',rfl⟩:∃m,M=m+1:=⟨M-1,by omega⟩;cases d:bz (bO st1 (bZ [61])) (eI 1 N) with
   |error e=>
    rw [d] at o;simp only [DV] at o ⊢;obtain ⟨X,W,p2,H,B⟩:=UP hl N S_ I Q C hC A (acc++[(fa N t.2.1,x)]) false M' o rfl;have E:fM N (f+1) acc (t::r)= .error e:=by
     rw [g];cases st1 with
     |error e'=>simp only [bz,bO] at d ⊢; cases d;rfl
     |ok r0=>
      simp only [bz,bO] at d ⊢;cases u:bZ [61] r0 with
      |error e'=>rw [u] at d;simp only at d ⊢; cases d;rfl
      |ok r1=>
       rw [u] at d;simp only at d ⊢;cases s:eI 1 N r1 with
       |error e'=>rw [s] at d;simp only [rest] at d ⊢; cases d;rfl
       |ok q=>rw [s] at d;simp only [rest] at d;cases d
    rw [E];exact ⟨_,_,_,_,H,B,λsets K h=>by cases h⟩
   |ok r2=>
    rw [d] at o;simp only [DV] at o ⊢;obtain ⟨r0,r1,J,v,z,y⟩:∃r0 r1 J,st1= .ok r0/\bZ [61] r0= .ok r1/\eI 1 N r1= .ok (J,r2):=by
     cases st1 with
     |error e'=>simp only [bz,bO] at d;cases d
     |ok r0=>
      simp only [bz,bO] at d;cases u:bZ [61] r0 with
      |error e'=>rw [u] at d;cases d
      |ok r1=>
       rw [u] at d;simp only at d;cases s:eI 1 N r1 with
       |error e'=>rw [s] at d;cases d
       |ok q=>rw [s] at d;simp only [rest] at d;cases d;exact ⟨r0,r1,q.1,rfl,u,s⟩
    have L:x=J:=Z r1 J r2 (by rw [v];simp only [bO,z]) y;subst L;rw [v] at g;simp only [z,y] at g;have F:r0=r:=by rcases sk with h|⟨e,h⟩ <;> rw [v] at h <;> cases h;rfl
    subst F;have P:Pa.Ends r0:=by
     rw [v] at j;exact (j.ok).choose_spec.choose_spec.choose_spec.2.2.2.1 |> λh=>by have:=(j.ok).choose_spec.choose_spec.choose_spec.2.1;rw [this];exact h
    have u:=mR P z;have s:=(uk u.1 y).1;have q2':r2.length<r1.length:=s.2;have q1':r1.length<r0.length:=u.2;cases S:uv 3 [44] r2
    .rw [S] at o g;simp only [b7] at o g;obtain ⟨X,W,p2,H,B⟩:=UP hl N S_ I Q C hC A (acc++[(fa N t.2.1,x)]) false M' o rfl;rw [g];exact ⟨_,_,_,_,H,B,λsets K h=>by cases h;rfl⟩
    .rw [S] at o g;simp only [ca] at o g;obtain ⟨t1,t2⟩:=oX s.1 (by decide) S;have t2':r2.tail.length+1=r2.length:=t2;have G:(acc++[(fa N t.2.1,x)]).length=acc.length+1:=by simp
     simp only [eb] at V h3 h4;have T:b1=0/\p1=0:=by obtain ⟨_,_,_,_,h5,h6⟩:=o;exact ⟨h5,h6⟩
     obtain ⟨rfl,rfl⟩:=T;obtain ⟨X,C2,W,p2,H,B,Y⟩:=ih r2.tail (acc++[(fa N t.2.1,x)]) a1 (M'+1) f (by omega) (by omega) (by omega) (by rw [G];omega) o;rw [g];exact ⟨_,_,_,_,H,B,Y⟩
  cases c1:(t.1 != 1)
  case true=>
   simp only [ca,jV,show ((2:Int)==0)=false from rfl,b7];refine step (.error (2,t.2.2.2)) (k) 2 t.2.2.2 ⟨⟨t,hx⟩,rfl,rfl,rfl⟩ (.inr ⟨_,rfl⟩) ?_;simp [fM,c1,ca]
  cases c2:(decide (fa N t.2.1<0)||CZ acc (fa N t.2.1))
  case true=>
   refine step (.error (3,t.2.2.2)) (k) 3 t.2.2.2 ⟨⟨t,hx⟩,rfl,rfl,rfl⟩ (.inr ⟨_,rfl⟩) ?_;simp [fM,c1,b7,c2,ca]
  simp [jV,bR (show k<4611686018427387904 by omega)];have ht1  :=by simpa using c1
  refine step (.ok r) ((k+1:Nat)) 0 0 ⟨k+1,rfl,R,he.tail (by omega),rfl,rfl⟩ (.inl rfl) ?_;simp [fM,b7];grind
include hl htok hnum hN hC in
theorem aiH(h:St l st a b p):∃a' C' b' p',gb l a N S_ I Q C b p=some (a',C',b',p')/\
  St l (bO (bO (bz st (eI 2 N)) (bZ [58])) (λr2=>bO (rest (fM N (r2.length+1) [] r2)) (bZ [59]))) a' b' p'/\
  (∀d g r1 r2 sets i,st= .ok d->eI 2 N d= .ok (g,r1)->bZ [58] r1= .ok r2->fM N (r2.length+1) [] r2= .ok (sets,i)->C'=C++[(i64.wrap ((Q.length:Int)-1),g,sets)]):=by
 obtain ⟨x,o,n,p1,z,r,q⟩:=adj hl htok hnum N S_ I Q C h hN 2;obtain ⟨H,B,p2,y,c⟩:=Dy hl N S_ I Q C r [58];unfold gb;simp [z,ah,y];cases m:bO (bz st (eI 2 N)) (bZ [58]) with
 |error e=>
  rw [m] at c;have hb:(false)=(B==0):=by rw [c.2.2.1];exact c.2.1.symm
  obtain ⟨D,A,t,e3,f⟩:=UP hl N S_ I Q C hC (x,o,n,p1) [] true 18446744073709551615 c (by rw [<-hb];rfl);rw [show au=18446744073709551615+1 from rfl,e3];grind [bz,bO,rest]
 |ok r2=>
  rw [m] at c;obtain ⟨k,rfl,hd,u,rfl,rfl⟩:=c;have j:r2.length<=l.length:=by rw [<-hd];simp
  obtain ⟨D,J,A,t,e3,f,E⟩:=apu hl htok hnum N S_ I Q C hN hC (x,o,n,p1) r2.length r2 [] (k) au (r2.length+1) (cH _) (by show _<=2^64;omega) (by omega) (by simp;omega) ⟨k,rfl,hd,u,rfl,rfl⟩;refine ⟨_,_,_,_,e3,f,λd g r1 s sets i w v G F=>?_⟩;subst w;have hx  :=q d g r1 rfl v;grind [bz,bO,rest]
include hl htok hnum hN hC in
theorem ap2(h:St l st a b p):∃g i f p',iE l a N S_ I Q C b p=some (g,i,f,p')/\St l (bz st (nL (N,S_,I,Q,C))) g f p'/\
  (∀c m r,st= .ok c->nL (N,S_,I,Q,C) c= .ok (m,r)->m=(N,S_,I,Q,i)):=by
 unfold iE;have key:∀(st1:Except ir (List Tok)) (o p1:Int),St l st1 a o p1->((∃e,st1= .error e/\bz st (nL (N,S_,I,Q,C))= .error e)\/(st1=st/\decide (256<=(C.length:Int))=false))->
   ∃g i f p',gb l a N S_ I Q C o p1=some (g,i,f,p')/\St l (bz st (nL (N,S_,I,Q,C))) g f p'/\
    (∀c m r,st= .ok c->nL (N,S_,I,Q,C) c= .ok (m,r)->m=(N,S_,I,Q,i)):=by
  intro st1 o p1 v j;obtain ⟨g,i,f,p',y,s,A⟩:=aiH hl htok hnum N S_ I Q C hN hC v;refine ⟨g,i,f,p',y,?_,?_⟩
  .rcases j with ⟨e,rfl,n⟩|⟨rfl,hd⟩
   .rw [n];exact s
   .have:bz st1 (nL (N,S_,I,Q,C))=bO (bO (bz st1 (eI 2 N)) (bZ [58])) (λr2=>bO (rest (fM N (r2.length+1) [] r2)) (bZ [59])):=by
     cases st1 with
     |error e=>rfl
     |ok c=>
      simp [bz,bO,nL,hd];cases eI 2 N c with
      |error e=>rfl
      |ok q=>
       simp [rest];cases bZ [58] q.2 with
       |error e=>rfl
       |ok r2=>
        simp only;cases fM N (r2.length+1) [] r2 with
        |error e=>rfl
        |ok u=>
         simp only;cases bZ [59] u.2 <;> rfl
    rw [this];exact s
  .intro c m r D x;rcases j with ⟨e,rfl,n⟩|⟨rfl,hd⟩
   .grind [bz,bO,rest]
   .simp [nL,hd] at x;grind
 cases hd:decide (256<=(List.length C:Int))
 .simp [aM];grind
 .simp only [aM];obtain ⟨q,z,B⟩:=adG N S_ I Q C h;rw [z,ah];cases st with
  |ok c=>
   obtain ⟨k,t,r,rfl,rfl,w,n,rfl,rfl,hx,_⟩:=h.ok;refine key (.error (9,q)) 9 q ⟨⟨t,hx⟩,rfl,rfl,rfl⟩ (.inl ⟨_,rfl,?_⟩);simp_all [bz,bO,nL,rest]
  |error e=>
   have n:=h.2.1;have d:=h;obtain ⟨_,_,rfl,rfl⟩:=d;rw [E5 N S_ I Q C n,ah];exact key (.error e) e.1 e.2 h (.inl ⟨e,rfl,rfl⟩)
end
end Sy
variable {α ρ : Type}
namespace Lx
theorem bP(xs:List α)(k:Nat):idx xs (k:Int)=xs[k]? :=by simp [idx]
theorem fq{α:Type}{xs:List α}{k:Nat}(h:k<xs.length):idx xs (k:Int)=some xs[k]:=by rw [bP,b9 h]
theorem ao{σ:Type}(F:(σ->Option ρ)->σ->Option ρ)(n:Nat)(s:σ):aj F (n+1) s=F (aj F n) s:=rfl
theorem po(k:Option ρ):aN true k=k:=rfl
theorem Ke(c:Bool)(k:Option ρ):K4 false c k=k:=rfl
theorem F6(k:Option ρ)(g:Bool):K4 g true k=k:=by cases g <;> rfl
theorem sB(d:α)(m:Option α)(k:α->Option ρ):bC true d m k=m.bind k:=rfl
theorem Mr(d:α)(m:Option α)(k:α->Option ρ):bC false d m k=k d:=rfl
theorem kA(x:α)(k:α->Option ρ):(some x).bind k=k x:=rfl
theorem mK(x:α)(k:α->Option ρ):ai x k=k x:=rfl
theorem tO{i:Int}{n:Nat}(b:0<=i)(a:i<n):um i n=true:=nZ.2 ⟨b,a⟩
theorem F8{i j:Int}{n:Nat}(c:0<=i)(b:i<=j)(a:j<=n):cZ i j n=true:=wF.2 ⟨⟨c,b⟩,a⟩
theorem CL{k b:Nat}(h:k*b<=140737488355328)(a:k<=9223372036854775807):aH k b=true:=by simp_all [aH,ar]
theorem JX(l:aE)(k:Nat)(h:k<l.length):mV l (k:Int)=(l[k].toNat:Int):=by simp [mV,h]
theorem aoM(l:aE)(i j:Nat):cut l (i:Int) (j:Int)=(l.drop i).take (j-i):=rfl
theorem wc{p:Prop}[Decidable p](h:p):decide p=true:=cx h
theorem Di{p:Prop}[Decidable p](h:¬p):decide p=false:=cy h
theorem Av:au=18446744073709551616:=rfl
abbrev Tok:=Int×aE×Int×Int
def jK(c:UInt8):Bool:=c==32||c==9||c==10||c==13
def gU(c:UInt8):Bool:=(decide (97<=c)&&decide (c<=122))||(decide (65<=c)&&decide (c<=90))||c==95
def isDigit(c:UInt8):Bool:=decide (48<=c)&&decide (c<=57)
def fE(c:UInt8):Bool:=gU c||isDigit c
def GF(c:UInt8):Bool:=c != 10
theorem F9(c d:UInt8):((c.toNat:Int)==(d.toNat:Int))=(c==d):=by grind [UInt8.toNat_inj]
theorem UR(c d:UInt8):decide ((c.toNat:Int)<=(d.toNat:Int))=decide (c<=d):=by simp_all [so]
theorem uf{p:UInt8->Bool}:∀(l:aE) (k:Nat),(∀i (h:i<l.length),i<k->p l[i]=true)->k<=l.length->(∀h:k<l.length,p l[k]=false)->l.takeWhile p=l.take k
  |[],k,_,hk,_=>by simp
  |c::l,0,_,_,h2=>by
    simp_all
  |c::l,k+1,h1,hk,h2=>by
    have a:=h1 0 (by simp) (by omega);simp at a;rw [List.takeWhile_cons,du a,qZ,uf l k (λi h b=>by
      grind) (by simpa using hk) (λh=>by
      grind)]
theorem run_gen{p:UInt8->Bool}{f:Int->x3}(j:∀c:UInt8,f (c.toNat:Int)=some (p c)){text:aE}(d:text.length<9223372036854775807)
    {F:(Int->Option aE)->Int->Option aE}
    (l:∀again t1,F again t1=bif (decide (t1<(List.length text:Int))) then (aN (um t1 (List.length text))<|(f (mV text t1)).bind λg=>bif (!g) then (aN (cZ 0 t1 (List.length text))<|some (cut text 0 t1)) else (again (i64.wrap (t1+1)))) else (some text)):
    aj F au 0=some (text.takeWhile p):=by
  have key:∀N k,k<=text.length->text.length-k<N->(∀i (h:i<text.length),i<k->p text[i]=true)->aj F N ((k:Nat):Int)=some (text.takeWhile p):=by
    intro N
    induction N with
    |zero=>intro k _ h;omega
    |succ N ih=>
      intro k hk hN hp;rw [ao,l];by_cases b:k<text.length
      . rw [wc (by omega),ca,tO (by omega) (by omega),po,JX _ _ b,j,kA];cases a:p text[k]
        . simp only [j6,ca];rw [F8 (by omega) (by omega) (by omega),po,uf text k hp hk (λ_=>a)];simp [cut]
        . simp only [qf,b7];rw [bG (by omega)];exact ih (k+1) (by omega) (by omega) (λi h hi=>by
            rcases qC i k with e|e
            . exact hp i h e
            . have:i=k:=by omega
              subst this;exact a)
      . rw [Di (by omega),b7,uf text k hp hk (λh=>absurd h b),fb (by omega)]
  exact key au 0 (by omega) (by rw [Av];omega) (λi _ h=>by omega)
def Ae(c:UInt8):Int:=(c.toNat:Int)-48
def gH(n:Int)(s:aE):Int:=s.foldl (λn c=>10*n+Ae c) n
def ui(n:Int):Bool:=decide (1073741824<n)
theorem Uy{c:UInt8}(h:isDigit c=true):0<=Ae c/\Ae c<=9:=by simp [isDigit,so] at h;unfold Ae;grind
theorem EM:∀(s:aE) (n:Int),0<=n->s.all isDigit=true->n<=gH n s
  |[],n,_,_=>pF _
  |c::s,n,hn,h=>by simp only [qm,ar] at h;have hd:=Uy h.1;have:=EM s (10*n+Ae c) (by omega) h.2;grind [gH,Ae]
def cX:List aE:=[[60,45,62],[45,62],[61,61],[33,61],[60,61],[62,61],[60],[62],[61],[43],[45],[42],[40],[41],[123],[125],[59],[44],[58],[38],[124],[33]]
def fR(s:aE):aE:=(cX.find? (λg=>g.isPrefixOf s)).getD []
inductive Step where
  |skip (k:Nat)
  |err (e:Int)
  |tok (k:Int) (t:aE) (n:Int)
def step:aE->Step
  |[]=> .skip 0
  |c::s=>
    if jK c then .skip 1
    else if c==35 then .skip ((c::s).takeWhile GF).length
    else if gU c then (if 32<((c::s).takeWhile fE).length then .err 9 else .tok 1 ((c::s).takeWhile fE) 0)
    else if isDigit c then (if ui (gH 0 ((c::s).takeWhile isDigit)) then .err 9 else .tok 2 ((c::s).takeWhile isDigit) (gH 0 ((c::s).takeWhile isDigit)))
    else if fR (c::s)==[] then .err 2 else .tok 3 (fR (c::s)) 0
def pQ:Nat->Nat->aE->Except (Int×Int) (List Tok)
  |0,_,_=> .ok []
  |_+1,at_,[]=> .ok [(4,[],0,(at_:Int))]
  |f+1,at_,c::s=>
    match step (c::s) with
    | .skip k=>pQ f (at_+k) ((c::s).drop k)
    | .err e=> .error (e,at_)
    | .tok k t n=>match pQ f (at_+t.length) ((c::s).drop t.length) with
      | .ok l=> .ok ((k,t,n,(at_:Int))::l)
      | .error e=> .error e
def res:Except (Int×Int) (List Tok)->List Tok×Int×Int
  | .ok l=>(l,0,0)
  | .error e=>([],e.1,e.2)
def tokens(s:aE):List Tok×Int×Int:=if 65536<s.length then ([],9,0) else res (pQ (s.length+1) 0 s)
theorem Ld(p:UInt8->Bool):∀s:aE,(s.takeWhile p).all p=true
  |[]=>rfl
  |c::s=>by
    rw [List.takeWhile_cons];split
    . simp_all
    . rfl
theorem vY(p:UInt8->Bool)(s:aE):(s.takeWhile p).length<=s.length:=(sv p).length_le
theorem nW{p:UInt8->Bool}{c:UInt8}{s:aE}(h:p c=true):1<=((c::s).takeWhile p).length:=by simp_all
theorem wo{c:UInt8}(h:gU c=true):fE c=true:=by simp [fE,h]
theorem Ws:∀g∈cX,1<=g.length:=by decide
theorem JV{s:aE}(h:(fR s==[])=false):fR s∈cX/\fR s <+: s/\cX.find? (λg=>g.isPrefixOf s)=some (fR s):=by
  unfold fR at*;cases a:cX.find? (λg=>g.isPrefixOf s) with
  |none=>rw [a] at h;simp at h
  |some g=>
    grind
theorem step_take{c:UInt8}{s:aE}(hb:jK c=false)(e:(c==35)=false){k:Int}{t:aE}{n:Int}(h:step (c::s)= .tok k t n):1<=t.length/\t <+: (c::s):=by
  simp only [step,hb,e,eF] at h;cases a:gU c
  . simp only [a,eF] at h;cases b:isDigit c
    . simp only [b,eF] at h;cases d:(fR (c::s)==[])
      . grind [JV,Ws]
      . simp [d] at h
    . simp [b,q6] at h;split at h
      . cases h
      . grind [nW,List.takeWhile_prefix]
  . simp [a,q6] at h;split at h
    . cases h
    . grind [nW,wo,List.takeWhile_prefix]
def L7(out:List Tok):Except (Int×Int) (List Tok)->List Tok×Int×Int
  | .ok l=>(out++l,0,0)
  | .error e=>([],e.1,e.2)
theorem XN{s:aE}{k:Nat}{c:UInt8}{r:aE}(h:s.drop k=c::r):∃hk:k<s.length,s[k]=c:=by grind [Nat.lt_or_ge,List.drop_of_length_le,List.drop_eq_getElem_cons,List.cons.inj]
theorem arp{c:UInt8}{s:aE}{e:Int}(h:step (c::s)= .err e):e≠0:=by grind [step]
theorem Mh{σ:Type}{F:(σ->Option ρ)->σ->Option ρ}(p:UInt8->Bool)(s:aE)(st:Nat->σ)(r:Nat->Option ρ)
    (go:∀again k (h:k<s.length),p s[k]=true->(∀i (hi:i<s.length),i<k->p s[i]=true)->F again (st k)=again (st (k+1)))
    (a:∀again k (h:k<s.length),p s[k]=false->F again (st k)=r k)
    (last:∀again,F again (st s.length)=r s.length) (N:Nat) (hN:s.length<N):aj F N (st 0)=r (s.takeWhile p).length:=by
  have key:∀N k,k<=s.length->s.length-k<N->(∀i (h:i<s.length),i<k->p s[i]=true)->aj F N (st k)=r (s.takeWhile p).length:=by
    intro N
    induction N with
    |zero=>omega
    |succ N ih=>
      intro k hk hN hp;rw [ao];by_cases c:k<s.length
      . cases b:p s[k]
        . rw [a _ k c b,uf s k hp hk (λ_=>b),dj,hV hk]
        grind
      . have:k=s.length:=by omega
        subst this;rw [last,uf s s.length hp (cH _) (λh=>absurd h c),dj,Nat.min_self]
  grind
def kindOf(c:UInt8):Int:=if jK c then 0 else if gU c then 1 else if isDigit c then 2 else 3
theorem acO(c:UInt8):jK c=(((c==9||c==10)||c==13)||c==32):=by grind [jK]
theorem IE(c:UInt8):gu (c.toNat:Int)=some (kindOf c):=by unfold gu;simp [mK];have e:=F9 c 32;have d:=F9 c 9;have b:=F9 c 10;have a:=F9 c 13;have k1:=UR 97 c;have i:=UR c 122;have h:=UR 65 c;have g:=UR c 90;have f:=F9 c 95;have d1:=UR 48 c;have d2:=UR c 57;rw [show ((32:Int)=((32:UInt8).toNat)) from rfl,show ((9:Int)=((9:UInt8).toNat)) from rfl,show ((10:Int)=((10:UInt8).toNat)) from rfl,show ((13:Int)=((13:UInt8).toNat)) from rfl,e,d,b,a,<-acO];unfold kindOf;have k:((decide (97<=c)&&decide (c<=122))||(decide (65<=c)&&decide (c<=90))||c==95)=gU c:=rfl;have j:(decide (48<=c)&&decide (c<=57))=isDigit c:=rfl;grind
def dw(n:Int)(s:aE):Int:=s.foldl (λn c=>if n<=1073741824 then 10*n+Ae c else n) n
theorem YI:∀(s:aE) (n:Int),1073741824<n->dw n s=n
  |[],_,_=>rfl
  |c::s,n,h=>by show dw (if n<=1073741824 then 10*n+Ae c else n) s=n;rw [dk (by omega)];exact YI s n h
theorem ad5:∀(s:aE) (n:Int),0<=n->s.all isDigit=true->(ui (gH n s)=false->dw n s=gH n s)/\(ui (gH n s)=true->1073741824<dw n s)
  |[],n,_,_=>⟨λ_=>rfl,λh=>qK (show decide (1073741824<n)=true from h)⟩
  |c::s,n,hn,h=>by
    simp only [qm,ar] at h;have hd:=Uy h.1;have ih:=ad5 s (10*n+Ae c) (by omega) h.2;have b:gH n (c::s)=gH (10*n+Ae c) s:=rfl;have a:dw n (c::s)=dw (if n<=1073741824 then 10*n+Ae c else n) s:=rfl;by_cases hb:n<=1073741824
    . grind
    . grind [EM,Ae,ui,YI]
theorem MW:∀(s:aE) (n:Int),0<=n->n<=10737418249->s.all isDigit=true->0<=dw n s/\dw n s<=10737418249
  |[],n,h,h',_=>⟨h,h'⟩
  |c::s,n,h,h',hd=>by
    simp only [qm,ar] at hd;have a:=Uy hd.1;show 0<=dw (if n<=1073741824 then 10*n+Ae c else n) s/\dw (if n<=1073741824 then 10*n+Ae c else n) s<=10737418249;split
    . exact MW s _ (by omega) (by omega) hd.2
    . exact MW s _ h h' hd.2
theorem akO(s:aE)(k:Nat)(h:k<s.length):dw 0 (s.take (k+1))=if dw 0 (s.take k)<=1073741824 then 10*dw 0 (s.take k)+Ae s[k] else dw 0 (s.take k):=by grind [dw,List.take_succ_eq_append_getElem]
theorem H2(p:UInt8->Bool)(s:aE):s.take (s.takeWhile p).length=s.takeWhile p:=
  (List.prefix_iff_eq_take.1 (sv p)).symm
section
variable {text s : aE} {at_ : Nat} (hd : text.drop at_ = s) (hat : at_ <= text.length)
include hd hat
theorem MS:text.length=at_+s.length:=by grind
theorem Dr(k:Nat)(h:k<s.length):mV text ((at_+k:Nat):Int)=(s[k].toNat:Int):=by
  have hl:=MS hd hat
  rw [JX text (at_+k) (by omega)];grind
omit hat in
theorem ZG(k:Nat):cut text (at_:Int) ((at_+k:Nat):Int)=s.take k:=by rw [aoM,hd];congr 1;omega
theorem ash(hl:text.length<=65536)(out:List Tok)(again7):
    aj (gL text out again7) au (at_:Int)=again7 (out,((at_+(s.takeWhile GF).length:Nat):Int)):=by
  have b:=MS hd hat
  refine Mh GF s (λk=>((at_+k:Nat):Int)) (λk=>again7 (out,((at_+k:Nat)))) ?_ ?_ ?_ au (by rw [Av];omega)
  . intro a k h hp _;unfold gL;simp only [mK];rw [wc (by omega),tO (by omega) (by omega),Dr hd hat k h,F6];have:((s[k].toNat:Int) != 10)=GF s[k]:=by have:=F9 s[k] 10;unfold GF bne;grind
    rw [this,hp,q8,ca,bG (by omega)];rfl
  . intro a k h hp;unfold gL;simp only [mK];rw [wc (by omega),tO (by omega) (by omega),Dr hd hat k h,F6];have:((s[k].toNat) != 10)=GF s[k]:=by have:=F9 s[k] 10;unfold GF bne;grind
    grind
  simp_all [gL,mK,Ke,oi]
end
theorem Pc(c:UInt8):((kindOf c==1)||(kindOf c==2))=fE c:=by
  cases hb:jK c
  . grind [kindOf,fE,gU,isDigit]
  . have:fE c=false:=by simp [jK,e9,mN] at hb;rcases hb with ((rfl|rfl)|rfl)|rfl <;> decide
    simp_all [kindOf]
theorem arY{text s:aE}{at_:Nat}(hd:text.drop at_=s)(hat:at_<=text.length)(hl:text.length<=65536)(out:List Tok)(again7)(d:out.length<=65536):
    aj (eV text out (at_:Int) again7) au (at_:Int)=if 32<(s.takeWhile fE).length then some ([],9,(at_:Int)) else again7 (out++[(1,s.takeWhile fE,0,(at_:Int))],((at_+(s.takeWhile fE).length:Nat):Int)):=by
  have e:=MS hd hat
  have f:(if 32<(s.takeWhile fE).length then some ([],9,(at_:Int)) else again7 (out++[(1,s.takeWhile fE,0,(at_:Int))],((at_+(s.takeWhile fE).length:Nat))))
     =(λk=>if 32<k then some ([],9,(at_:Int)) else again7 (out++[(1,s.take k,0,(at_:Int))],((at_+k:Nat)))) (s.takeWhile fE).length:=by
    simp [H2]
  rw [f];have tail:∀k,k<=s.length->(bif (decide (32<(i64.wrap (((at_+k:Nat))-(at_))))) then ( some ([],9,(at_:Int))) else ( aN (cZ (at_) ((at_+k:Nat)) (List.length text))<| aN (aH (List.length out+List.length ([(1,(cut text (at_:Int) ((at_+k:Nat):Int)),0,(at_:Int))])) 40)<| again7 ((out++([(1,(cut text (at_:Int) ((at_+k:Nat):Int)),0,(at_:Int))])),((at_+k:Nat)))))=(if 32<k then some ([],9,(at_:Int)) else again7 (out++[(1,s.take k,0,(at_:Int))],((at_+k:Nat)))):=by
    intro k hk;rw [bG (by omega)];by_cases c:32<k
    . grind
    . rw [Di (by omega),b7,dk c,F8 (by omega) (by omega) (by omega),po,CL (by simp;omega) (by simp;omega),po,ZG hd]
  refine Mh (F:=eV text out (at_) again7) fE s (λk=>((at_+k:Nat))) (λk=>if 32<k then some ([],9,(at_)) else again7 (out++[(1,s.take k,0,(at_:Int))],((at_+k:Nat)))) ?_ ?_ ?_ au (by rw [Av];omega)
  . intro a k h hp _;unfold eV;simp only [mK];have ke:=Pc s[k];rw [hp] at ke;rw [wc (by omega),tO (by omega) (by omega),Dr hd hat k h];simp [IE,sB,kA,iQ];cases b:(kindOf s[k]==1)
    . rw [b] at ke;simp only [j6,sB,kA] at ke ⊢;rw [ke,ca,bG (by omega)];rfl
    . rw [bG (by omega)];rfl
  . intro a k h hp;unfold eV;simp only [mK];have ke:=Pc s[k];rw [hp] at ke;simp only [nA] at ke;rw [wc (by omega),tO (by omega) (by omega),Dr hd hat k h];simp [IE,sB,kA,iQ,ke.1,ke.2,j6,vy];exact tail k (by omega)
  simp_all [eV,mK,Ke,Mr,b7]
theorem agX(c:UInt8)(h:gU c=false):(kindOf c==2)=isDigit c:=by
  unfold kindOf;rw [h];cases hb:jK c
  . cases isDigit c <;> rfl
  . have:isDigit c=false:=by simp [jK,e9,mN] at hb;rcases hb with ((rfl|rfl)|rfl)|rfl <;> decide
    rw [this];rfl
theorem ZO{c:UInt8}(h:gU c=true):isDigit c=false:=by
  simp [gU,e9,ar,eY,so] at h;cases hd:isDigit c
  . rfl
  . simp [isDigit,ar,eY,so] at hd;have d:(57:UInt8).toNat=57:=rfl;have b:(97:UInt8).toNat=97:=rfl;have a:(65:UInt8).toNat=65:=rfl;rcases h with (h|h)|h
    . omega
    . omega
    simp_all
theorem JT(c:UInt8):(kindOf c==2)=isDigit c:=by grind [gU,agX,kindOf,ZO,jK]
theorem arR{text s:aE}{at_:Nat}(hd:text.drop at_=s)(hat:at_<=text.length)(hl:text.length<=65536)(out:List Tok)(again7)(j:out.length<=65536):
    aj (eU text out (at_:Int) again7) au ((at_:Int),0)=if ui (gH 0 (s.takeWhile isDigit)) then some ([],9,(at_:Int)) else again7 (out++[(2,s.takeWhile isDigit,gH 0 (s.takeWhile isDigit),(at_:Int))],((at_+(s.takeWhile isDigit).length:Nat):Int)):=by
  have l:=MS hd hat
  have a:=ad5 (s.takeWhile isDigit) 0 (pF _) (Ld _ _);have o:(if ui (gH 0 (s.takeWhile isDigit)) then some ([],9,(at_:Int)) else again7 (out++[(2,s.takeWhile isDigit,gH 0 (s.takeWhile isDigit),(at_:Int))],((at_+(s.takeWhile isDigit).length:Nat):Int)))
     =(λk=>if 1073741824<dw 0 (s.take k) then some ([],9,(at_:Int)) else again7 (out++[(2,s.take k,dw 0 (s.take k),(at_:Int))],((at_+k:Nat):Int))) (s.takeWhile isDigit).length:=by
    simp only [H2];cases hb:ui (gH 0 (s.takeWhile isDigit))
    . have n:=a.1 hb;rw [n];have:¬ 1073741824<gH 0 (s.takeWhile isDigit):=by simpa [ui] using hb
      rw [dk this];rfl
    . rw [du (a.2 hb)];rfl
  rw [o];have tail:∀k,k<=s.length->(bif (decide (1073741824<dw 0 (s.take k))) then ( some ([],9,(at_:Int))) else ( aN (cZ (at_:Int) ((at_+k:Nat):Int) (List.length text))<| aN (aH (List.length out+List.length ([(2,(cut text (at_:Int) ((at_+k:Nat):Int)),dw 0 (s.take k),(at_:Int))])) 40)<| again7 ((out++([(2,(cut text (at_:Int) ((at_+k:Nat):Int)),dw 0 (s.take k),(at_:Int))])),((at_+k:Nat)))))=(if 1073741824<dw 0 (s.take k) then some ([],9,(at_:Int)) else again7 (out++[(2,s.take k,dw 0 (s.take k),(at_:Int))],((at_+k:Nat)))):=by
    intro k hk;by_cases e:1073741824<dw 0 (s.take k)
    . rw [wc (by omega),ca,du e]
    . rw [Di (by omega),b7,dk e,F8 (by omega) (by omega) (by omega),po,CL (by simp;omega) (by simp;omega),po,ZG hd]
  refine Mh (F:=eU text out (at_) again7) isDigit s (λk=>(((at_+k:Nat)),dw 0 (s.take k))) (λk=>if 1073741824<dw 0 (s.take k) then some ([],9,(at_)) else again7 (out++[(2,s.take k,dw 0 (s.take k),(at_:Int))],((at_+k:Nat)))) ?_ ?_ ?_ au (by rw [Av];omega)
  . intro b k h hp d;unfold eU;simp only [mK];have ke:=JT s[k];rw [hp] at ke;have g:=Uy hp;have hb:=MW (s.take k) 0 (pF _) (by omega) (by rw [qk];intro c m;obtain ⟨i,hi,rfl⟩:=List.mem_iff_getElem.1 m;rw [List.getElem_take];exact d i (by simp at hi;omega) (by simp at hi;omega))
    rw [wc (by omega),tO (by omega) (by omega),Dr hd hat k h];simp [F6,IE,sB,kA,iQ,ke,ca];rw [akO s k h,bG (by omega)];unfold Ae at g ⊢;by_cases f:dw 0 (s.take k)<=1073741824
    . rw [wc f,ca,po,du f,bG (x:=10*_) (by omega),bG (x:=(s[k].toNat)) (by omega),bG (x:=10*_+_) (by omega),bG (by omega)];congr 2;omega
    . rw [Di f,b7,dk f];rfl
  . intro b k h hp;unfold eU;simp only [mK];have ke:=JT s[k];rw [hp] at ke;rw [wc (by omega),tO (by omega) (by omega),Dr hd hat k h];simp [IE,sB,kA,ke];exact tail k (by omega)
  . unfold eU;simp [mK];rw [Di (by omega)];simp [Ke,Mr,oi];grind
theorem aca:sG=some cX:=rfl
theorem aro{text:aE}{out:List Tok}{a:Int}{again7}{again122}{g:aE}{j:Int}(d:(g==[])=false)
    (c:out.length<=65536) (hi:0<=a/\a<=65536) (b:g.length<=65536):
    bT text out a again7 cX again122 (g,j)=again7 (out++[(3,g,0,a)],a+g.length):=by
  unfold bT;simp [mK,qP];grind [CL,po,bG]
theorem arU{text s:aE}{at_:Nat}(hd:text.drop at_=s)(hat:at_<=text.length)(hl:text.length<=65536)(out:List Tok)(again7)(d:out.length<=65536):
    aj (bT text out (at_:Int) again7 cX) au ([],0)=if fR s==[] then some ([],2,(at_:Int)) else again7 (out++[(3,fR s,0,(at_:Int))],((at_+(fR s).length:Nat):Int)):=by
  have q:=MS hd hat
  have p:cX.length=22:=rfl;have key:∀N k,k<=cX.length->cX.length-k+1<N->(∀i (h:i<cX.length),i<k->cX[i].isPrefixOf s=false)->
      aj (bT text out (at_:Int) again7 cX) N ([],((k:Nat):Int))=if fR s==[] then some ([],2,(at_:Int)) else again7 (out++[(3,fR s,0,(at_:Int))],((at_+(fR s).length:Nat):Int)):=by
    intro N
    induction N with
    |zero=>intro k _ h;omega
    |succ N ih=>
      intro k hk hN hp;rw [ao];by_cases a:k<cX.length
      . have b:cX[k]∈cX:=de a;have n:∀g∈cX,g.length<=3/\(g==[])=false:=by decide
        have e:=n _ b;have body:bT text out (at_:Int) again7 cX (aj (bT text out (at_:Int) again7 cX) N) ([],((k:Nat):Int))=aj (bT text out (at_:Int) again7 cX) N ((if cX[k].isPrefixOf s then cX[k] else []),((k+1:Nat):Int)):=by
          generalize aj (bT text out (at_:Int) again7 cX) N=o;unfold bT;simp only [mK];rw [wc (by omega)];simp only [show (([]:aE)==[])=true from rfl,q8,ca];rw [fq a];simp only [kA];rw [bG (x:=(text.length:Int)-(at_:Int)) (by omega),bG (x:=((k:Nat):Int)+1) (by omega)];by_cases l:cX[k].length<=s.length
          . rw [wc (by omega)];simp only [sB,kA,iQ];rw [bG (by omega),F8 (by omega) (by omega) (by omega),F6];have v:(at_:Int)+(cX[k].length:Int)=((at_+cX[k].length:Nat):Int):=by omega
            rw [v,ZG hd];have e3:(s.take cX[k].length==cX[k])=cX[k].isPrefixOf s:=by
              rw [qA,List.isPrefixOf_iff_prefix,mN];constructor
              . intro h;rw [<-h];exact List.take_prefix ..
              . intro h;exact (List.prefix_iff_eq_take.1 h).symm
            rw [e3];cases cX[k].isPrefixOf s
            . rfl
            . rfl
          . rw [Di (by omega)];have:cX[k].isPrefixOf s=false:=by rw [qe,Ne,List.isPrefixOf_iff_prefix];intro h;exact l h.length_le
            rw [this];rfl
        rw [body];cases c:cX[k].isPrefixOf s
        . exact ih (k+1) (by omega) (by omega) (λi h hi=>by
            rcases qC i k with r|r
            . exact hp i h r
            . have:i=k:=by omega
              subst this;exact c)
        . have f:fR s=cX[k]:=by
            unfold fR;have:cX.find? (λg=>g.isPrefixOf s)=some cX[k]:=by rw [List.find?_eq_some_iff_getElem];exact ⟨c,k,a,rfl,λj t=>by simp [hp j (by omega) t]⟩
            rw [this];rfl
          rw [f];obtain ⟨N,rfl⟩:∃m,N=m+1:=⟨N-1,by omega⟩;rw [ao];simp only [q6,e.2,eF];rw [aro e.2 d (by omega) (by omega)];rfl
      . have:fR s=[]:=by
          unfold fR;have:cX.find? (λg=>g.isPrefixOf s)=none:=by rw [List.find?_eq_none];intro g u;obtain ⟨i,hi,rfl⟩:=List.mem_iff_getElem.1 u;grind
          rw [this];rfl
        grind [aj,bT,cX,mK,Di]
  grind [au,Av]
theorem akt(text:aE)(d:text.length<=65536):∀(N f at_:Nat) (out:List Tok),at_<=text.length->text.length-at_<N->text.length-at_<f->out.length<=at_->
    aj (j3 text) N (out,(at_:Int))=some (L7 out (pQ f at_ (text.drop at_))):=by
  intro N
  induction N with
  |zero=>intro f at_ out _ h;omega
  |succ N ih=>
    intro f at_ out hat hN E x;obtain ⟨f,rfl⟩:∃g,f=g+1:=⟨f-1,by omega⟩;rw [ao];generalize aj (j3 text) N=a at ih ⊢;unfold j3;dsimp only;cases hd:text.drop at_ with
    |nil=>
      have n:at_=text.length:=by have:=congrArg List.length hd;simp at this;omega
      subst n;rw [Di (by omega)];simp only [b7];rw [CL (by simp;omega) (by simp;omega),po];rfl
    |cons c r=>
      obtain ⟨u,m⟩:=XN hd;have B:(c::r).length=text.length-at_:=by rw [<-hd];simp
      have j:mV text (at_:Int)=(c.toNat:Int):=by rw [JX _ _ u,m]
      have next:∀(k:Nat) (b:List Tok),1<=k->k<=(c::r).length->b.length<=at_+k->
          a (b,((at_+k:Nat):Int))=some (L7 b (pQ f (at_+k) ((c::r).drop k))):=by
        intro k b A z q;rw [ih f (at_+k) b (by omega) (by omega) (by omega) q];have D:text.drop (at_+k)=(c::r).drop k:=by rw [<-hd,qy]
        rw [D]
      rw [wc (by omega)];simp only [ca,tO (show (0:Int)<=(at_:Int) by omega) (show (at_:Int)<(text.length:Int) by omega),po,j,IE,kA];have w:((c.toNat:Int)==35)=(c==35):=by rw [show ((35:Int)=((35:UInt8).toNat:Int)) from rfl];exact F9 c 35
      rw [w];cases hb:jK c
      . have l:(kindOf c==0)=false:=by unfold kindOf;rw [hb];cases gU c <;> cases isDigit c <;> rfl
        simp only [l,b7];cases C:(c==35)
        . simp only [b7];simp only [pQ,step,hb,C,eF,qu];cases e:gU c
          . have i:(kindOf c==1)=false:=by unfold kindOf;rw [hb,e];cases isDigit c <;> rfl
            simp only [i,b7,eF,qu];rw [JT];cases o:isDigit c
            . simp only [b7,eF,qu];rw [aca,kA,arU hd hat d out a (by omega)];cases t:(fR (c::r)==[])
              . simp only [eF,qu];obtain ⟨A,z,_⟩:=JV t;have q:=Ws _ A;have v:=z.length_le;rw [next _ _ q v (by simp;omega)];cases pQ f (at_+(fR (c::r)).length) ((c::r).drop (fR (c::r)).length) <;> simp [L7]
              . rfl
            . simp;rw [arR hd hat d out a (by omega)];cases y:ui (gH 0 ((c::r).takeWhile isDigit))
              . simp only [eF,qu];have q:=nW (s:=r) o;have v:=vY isDigit (c::r);rw [next _ _ q v (by simp;omega)];cases pQ f (at_+((c::r).takeWhile isDigit).length) ((c::r).drop ((c::r).takeWhile isDigit).length) <;> simp [L7]
              . rfl
          . have i:(kindOf c==1)=true:=by unfold kindOf;rw [hb,e];rfl
            simp [i,ca];rw [arY hd hat d out a (by omega)];by_cases p:32<((c::r).takeWhile fE).length
            . rw [du p,du p];rfl
            . grind [nW,wo,vY,fE,pQ,L7]
        . rw [ash hd hat d out a];grind [GF,nW,vY,step,pQ]
      . have l:(kindOf c==0)=true:=by grind [kindOf]
        grind [bG,step,pQ]
theorem NO(text:aE):gF text=some (tokens text):=by
  unfold gF tokens;by_cases h:65536<text.length
  . grind
  . rw [Di (by omega),b7,dk h];have:=akt text (by omega) au (text.length+1) 0 [] (by omega) (by rw [Av];omega) (by omega) (by simp);simp only [n9] at this;have a:((0:Nat):Int)=0:=rfl;rw [a] at this;rw [this];cases pQ (text.length+1) 0 text <;> rfl
abbrev Res:=Except (Int×Int) (List Tok)
theorem step_skip{c:UInt8}{s:aE}{k:Nat}(h:step (c::s)= .skip k):1<=k/\k<=(c::s).length:=by
  cases hb:jK c
  . cases a:(c==35)
    . simp [step,eF] at h;grind
    . simp [step,hb,a,eF,qu,q6,Step.skip.injEq] at h;subst h;have  :=by simpa using a
      subst this;exact ⟨nW (by decide),vY _ _⟩
  simp_all [step,q6]
theorem aax{c:UInt8}{s:aE}{k:Int}{t:aE}{n:Int}(h:step (c::s)= .tok k t n):jK c=false/\(c==35)=false/\1<=t.length/\t <+: (c::s):=by
  cases hb:jK c
  . cases a:(c==35)
    . obtain ⟨d,b⟩:=step_take hb a h;grind
    simp_all [step,qu]
  simp_all [step]
def lex(s:aE):Res:=pQ (s.length+1) 0 s
theorem agT{s:aE}(h:s.length<=65536):tokens s=res (lex s):=by simp_all [tokens,lex,dk]
theorem af1:∀g∈cX,fR g=g/\∃c s,g=c::s/\jK c=false/\(c==35)=false/\gU c=false/\isDigit c=false:=by
  have a:∀g∈cX,fR g=g/\(match g with|[]=>false|c::_=> !jK c&& !(c==35)&& !gU c&& !isDigit c)=true:=by decide
  grind
end Lx
namespace Sy
open Pa
theorem aml:∀(f:Nat) (m:bw) (a:List Tok) (p:bw×List Tok),Pa.Ends a->my f m a= .ok p->iV a p.2:=by
 intro f
 induction f with
 |zero=>grind [my]
 |succ f ih=>
  intro m a p g h;simp [my] at h;cases c:uv 3 [125] a
  .rw [c] at h;cases b:nL m a with
   |error e=>rw [b] at h;cases h
   |ok q=>
    obtain ⟨i,r⟩:=q;rw [b] at h;have d  :=(VS g b).1;exact d.trans (ih i r p d.1 h)
  .rw [c] at h;cases h;obtain ⟨b,j⟩:=oX g (by decide) c;exact ⟨b,by grind⟩
abbrev R8:=Int×List aE×w5×zj×List aE×List aT×Int×Int
abbrev RP:=bw×Int×Int
section
variable {l : List Tok} (hl : l.length < 1000000000) (htok :∀t ∈ l, jB t) (hnum :∀t ∈ l, Db t)
variable {st : Except ir (List Tok)} {a b p : Int} (N : List aE) (S_ : List (Int × Int)) (I : zj) (Q : List aE)
variable (hN : N.length < 1000000000) (hQ : Q.length < 1000000000)
theorem L9{C:List aT}(g f:Int)(c:R8->Option RP)(nm:aE×Int×Int×Int)(hl:l.length<1099511627776)(M:Nat)(h:St l st a b p)(en:Bool)(hb:((b==0)&& !en)=false):
  ∃e d p',aj (il (l,g,f) Q c N S_ I nm) (M+1) (a,C,b,p,en)=c (e,N,S_,I,Q++[nm.1],C,d,p')/\St l (bO st (bZ [125])) e d p':=by
 obtain ⟨e,d,p',e3,i⟩:=Dy hl N S_ I (Q++[nm.1]) C h [125];rw [ao];simp [il,aM,e3];grind
include hl htok hnum hN hQ in
theorem aoY(z y:Int)(b:R8->Option RP)(nm:aE×Int×Int×Int):∀(n:Nat) (c:List Tok) (C:List aT) (a:Int) (M f:Nat),c.length<=n->n+2<=M->c.length<f->C.length+c.length<1099511627776-1->St l (.ok c) a 0 0->
  ∃a' C' b' p',aj (il (l,z,y) Q b N S_ I nm) M (a,C,0,0,uv 3 [125] c)=b (a',N,S_,I,Q++[nm.1],C',b',p')/\
   St l (rest (my f (N,S_,I,Q++[nm.1],C) c)) a' b' p'/\(∀m r,my f (N,S_,I,Q++[nm.1],C) c= .ok (m,r)->m=(N,S_,I,Q++[nm.1],C')/\C'.length+r.length<C.length+c.length):=by
 have O:(Q++[nm.1]).length<1099511627776:=by simp;omega
 intro n
 induction n with
 |zero=>
  intro c C a M f F _ _ _ o;obtain ⟨k,t,r,_,rfl,_⟩:=o.ok;simp at F
 |succ n ih=>
  intro c C a M f F Y X W o;obtain ⟨M,rfl⟩:∃m,M=m+1:=⟨M-1,by omega⟩;obtain ⟨f,rfl⟩:∃m,f=m+1:=⟨f-1,by omega⟩;have D:Pa.Ends c:=by obtain ⟨_,_,_,h,_⟩:=o;exact h
  cases B:uv 3 [125] c
  . -- a command
   have i:my (f+1) (N,S_,I,Q++[nm.1],C) c=(match nL (N,S_,I,Q++[nm.1],C) c with|.error e=> .error e|.ok (A,r)=>my f A r):=by
    simp only [my,B,b7]
    all_goals (cases nL (N,S_,I,Q++[nm.1],C) c <;> rfl)
   obtain ⟨S,v,H,p1,e3,d,U⟩:=ap2 (by omega) htok hnum N S_ I (Q++[nm.1]) C (by omega) (by omega) o;have e4:=KW N S_ I (Q++[nm.1]) v d 3 [125];rw [ao];simp only [il,aM,qc,j6,q8,ca,e3,ah,e4];cases w:nL (N,S_,I,Q++[nm.1],C) c with
   |error e=>
    have s:bz (.ok c) (nL (N,S_,I,Q++[nm.1],C))= .error e:=by simp only [bz,bO,w,rest]
    rw [s] at d;simp only [s,DV];obtain ⟨M',rfl⟩:∃m,M=m+1:=⟨M-1,by omega⟩;have j:(H==0)=false:=by rw [d.2.2.1];exact d.2.1
    obtain ⟨J,G,p2,u,p⟩:=L9 N S_ I Q z y b nm (by omega) M' d false (by rw [j];rfl);rw [i,w];exact ⟨_,_,_,_,u,p,λm r h=>by cases h⟩
   |ok q=>
    obtain ⟨A,r⟩:=q;have s:bz (.ok c) (nL (N,S_,I,Q++[nm.1],C))= .ok r:=by grind [bz,bO,rest]
    rw [s] at d;simp [DV];obtain ⟨L,g,r1,r2,sets,V,_,_,_,_,hp,_⟩:=VS D w;have x:v=C++[(i64.wrap (((Q++[nm.1]).length)-1),g,sets)]:=by grind
    have E:v.length=C.length+1:=by rw [x];simp
    have K:r.length<c.length:=L.2;have j:H=0/\p1=0:=by obtain ⟨_,_,_,_,R,P⟩:=d;exact ⟨R,P⟩
    obtain ⟨rfl,rfl⟩:=j;obtain ⟨J,Z,G,p2,u,p,T⟩:=ih r v S M f (by omega) (by omega) (by omega) (by omega) d;grind
  .have i:my (f+1) (N,S_,I,Q++[nm.1],C) c= .ok ((N,S_,I,Q++[nm.1],C),c.tail):=by simp [my,B,ca]
   obtain ⟨J,G,p2,u,p⟩:=L9 N S_ I Q z y b nm (by omega) M o true (by simp);rw [i];refine ⟨_,_,_,_,u,?_,λm r h=>by cases h;exact ⟨rfl,by grind [oX]⟩⟩;have:bO (.ok c) (bZ [125])=rest (.ok ((N,S_,I,Q++[nm.1],C),c.tail)):=by obtain ⟨t,r,rfl⟩:=D.ne;grind [bO,bZ,rest,List.tail_cons,uv]
   rw [<-this];exact p
def Big(m:bw)(ts:List Tok):Prop:=m.1.length+ts.length<1000000000/\m.2.1.length+ts.length<1000000000/\m.2.2.1.length+ts.length<1000000000/\m.2.2.2.1.length+ts.length<1000000000/\m.2.2.2.2.length+ts.length<1000000000
theorem SQ{e3 e4:Int}(e d:Int)(m:bw)(h:St l (.error (e3,e4)) a b p)(M:Nat):aj (fw (l,e,d)) (M+1) (a,m.1,m.2.1,m.2.2.1,m.2.2.2.1,m.2.2.2.2,b,p)=some (([],[],[],[],[]),e3,e4):=by
 obtain ⟨⟨t,hx⟩,c,rfl,rfl⟩:=h;rw [ao];have hb:(b != 0)=true:=by grind
 simp [fw,aM,c,rE,ky,bq,aJ,hb];grind
include hl htok hnum in
theorem akj(w v:Int):∀(n:Nat) (y:List Tok) (m:bw) (a:Int) (M f:Nat),y.length<=n->n+2<=M->y.length<f->Big m y->St l (.ok y) a 0 0->
  aj (fw (l,w,v)) M (a,m.1,m.2.1,m.2.2.1,m.2.2.2.1,m.2.2.2.2,0,0)=some (QL (pS f m y)):=by
 intro n
 induction n with
 |zero=>
  intro y m a M f h1 _ _ _ K;obtain ⟨k,t,r,_,rfl,_⟩:=K.ok;simp at h1
 |succ n ih=>
  intro y m a M f h1 h2 h3 hB K;obtain ⟨M,rfl⟩:∃m,M=m+1:=⟨M-1,by omega⟩;obtain ⟨f,rfl⟩:∃m,f=m+1:=⟨f-1,by omega⟩;obtain ⟨k,t,r,rfl,rfl,hd,he,_,_,hx,hm,hd1,hk⟩:=K.ok;obtain ⟨N,S_,I,Q,C⟩:=m;obtain ⟨B1,B2,B3,B4,B5⟩:=hB;simp only [eb] at B1 B2 B3 B4 B5 h1 h3;have iv:=KW N S_ I Q C K 1 [118,97,114];have ip:=KW N S_ I Q C K 1 [112,114,111,99];rw [ao];generalize c:aj (fw (l,w,v)) M=g;simp only [fw,aM,qc,dU,hx,ah,iQ];have o:pS (f+1) (N,S_,I,Q,C) (t::r)=(bif t.1==4 then (bif N.isEmpty then .error (2,t.2.2.2) else .ok (N,S_,I,Q,C))
   else bif y5 1 [118,97,114] t then (match rF (N,S_,I,Q,C) r with
    | .error e=> .error e
    | .ok (B,d)=>pS f B d)
   else bif y5 1 [112,114,111,99] t then (match wa (N,S_,I,Q,C) r with
    | .error e=> .error e
    | .ok (B,d)=>pS f B d)
   else .error (2,t.2.2.2)):=by
   simp only [pS]
   all_goals (cases rF (N,S_,I,Q,C) r <;> cases wa (N,S_,I,Q,C) r <;> rfl)
  cases F:(t.1==4)
  case true=>
   have E:(t.1 != 4)=false:=by simp only [bne,F,qf]
   rw [o,F];simp only [E,b7,ca];have hne:((List.length N:Int)==0)=N.isEmpty:=by cases N with
    |nil=>rfl
    |cons x r=>simp only [eb,List.isEmpty_cons];exact beq_eq_false_iff_ne.2 (by omega)
   rw [hne];cases N.isEmpty
   .simp only [b7,ky,bne_self_eq_false,QL]
   .simp only [ca,bq,hx,ah,R9,ky,QL];rfl
  have E:(t.1 != 4)=true:=by simp only [bne,F,j6]
  simp only [DV,uv] at iv ip;simp only [E,ca,iv,ip,ah];have D:Pa.Ends r:=he.tail (by simpa using F);have J:St l (.ok r) ((k+1:Nat):Int) 0 0:=⟨k+1,rfl,hd1,D,rfl,rfl⟩;have wk:i64.wrap ((k:Int)+1)=((k+1:Nat):Int):=bR (by omega);obtain ⟨M',u⟩:∃m,M=m+1:=⟨M-1,by omega⟩;cases cv:y5 1 [118,97,114] t
  .cases S:y5 1 [112,114,111,99] t
   . -- neither
    rw [o,F,cv,S];simp only [b7,j6,q8,ca,bq,hx,ah,R9,kr,show ((2:Int)==0)=false from rfl,kD,kH,aM];rw [<-c,u];exact SQ (e3:=2) (e4:=t.2.2.2) w v (N,S_,I,Q,C) ⟨⟨t,hx⟩,rfl,rfl,rfl⟩ M'
   . -- a process
    rw [o,F,cv,S];simp only [b7,qf,j6,qP,ca,kr,qc,kD,kH,wk,aM];obtain ⟨nm,U,T,p1,e3,z,V⟩:=adN (by omega) N S_ I Q C J (by omega) (by omega) false;have k1:aH (List.length Q+List.length ([nm]:List aE)) 16=true:=dv (by simp;omega) (by simp;omega);obtain ⟨a2,b2,p2,e4,j⟩:=Dy (by omega) N S_ I (Q++[nm]) C z [123];have e5:=KW N S_ I (Q++[nm]) C j 3 [125];simp only [e3,ah,aP k1,e4,e5];cases b:bO (bz (.ok r) (fJ false N Q)) (bZ [123]) with
    |error e=>
     rw [b] at j;have hb1:(b2==0)=false:=by rw [j.2.2.1];exact j.2.1
     obtain ⟨a3,b3,p3,e6,i⟩:=L9 N S_ I Q (C:=C) w v g (nm,U,T,p1) (by omega) 18446744073709551615 j false (by rw [hb1];rfl);simp only [DV];rw [show au=18446744073709551615+1 from rfl,e6];have hp:wa (N,S_,I,Q,C) r= .error e:=by
      simp only [wa];simp only [bz,bO] at b;cases A:fJ false N Q r with
      |error e'=>rw [A] at b;simp only [rest] at b ⊢; cases b;rfl
      |ok q=>
       rw [A] at b;simp only [rest] at b ⊢;rw [b]
     rw [hp];simp only [bO] at i;obtain ⟨ee1,ee2⟩:=e;rw [<-c,u];exact SQ w v (N,S_,I,Q++[nm],C) i M'
    |ok r2=>
     rw [b] at j;obtain ⟨r1,O,L⟩:∃r1,fJ false N Q r= .ok (nm,r1)/\bZ [123] r1= .ok r2:=by
      simp only [bz,bO] at b;cases A:fJ false N Q r with
      |error e'=>rw [A] at b;cases b
      |ok q=>
       obtain ⟨X,r1⟩:=q;rw [A] at b;simp only [rest] at b;have:=V r X r1 rfl A;subst this;exact ⟨r1,rfl,b⟩
     have hb:b2=0/\p2=0:=by obtain ⟨_,_,_,_,R,P⟩:=j;exact ⟨R,P⟩
     obtain ⟨rfl,rfl⟩:=hb;have H:=(Qu D O).1;have G:=mR H.1 L;have l1:r1.length<r.length:=H.2;have l2:r2.length<r1.length:=G.2;have hp:wa (N,S_,I,Q,C) r=my (r2.length+1) (N,S_,I,Q++[nm],C) r2:=by simp only [wa,O,L]
     have hle:r2.length<=l.length:=by obtain ⟨k2,_,h,_⟩:=j;rw [<-h];simp
     obtain ⟨a3,C3,b3,p3,e6,i,v3⟩:=aoY hl htok hnum N S_ I Q (by omega) (by omega) w v g (nm,U,T,p1) r2.length r2 C a2 au (r2.length+1) (cH _) (by show _<=2^64;omega) (by omega) (by omega) j;simp only [DV];rw [e6,hp];cases s:my (r2.length+1) (N,S_,I,Q++[nm],C) r2 with
     |error e=>
      rw [s] at i;simp only [rest] at i;obtain ⟨ee1,ee2⟩:=e;rw [<-c,u];exact SQ w v (N,S_,I,Q++[nm],C3) i M'
     |ok q=>
      obtain ⟨B,d⟩:=q;rw [s] at i;simp only [rest] at i;obtain ⟨p,hlen⟩:=v3 B d s;have W:=aml _ _ _ _ G.1 s;have l3:d.length<r2.length:=W.2;have hb:b3=0/\p3=0:=by obtain ⟨_,_,_,_,R,P⟩:=i;exact ⟨R,P⟩
      obtain ⟨rfl,rfl⟩:=hb;simp only;rw [<-c,p];have hQl:(Q++[nm]).length=Q.length+1:=by simp
      exact ih d (N,S_,I,Q++[nm],C3) a3 M f (by omega) (by omega) (by omega) ⟨by simp only;omega,by simp only;omega,by simp only;omega,by simp only;omega,by simp only;omega⟩ i
  . -- a variable
   have S:y5 1 [112,114,111,99] t=false:=by unfold y5 at cv ⊢;simp only [ar,mN] at cv;rw [cv.2];simp
   rw [o,F,cv];simp only [b7,qf,oi,ca,kr,qc,kD,S,wk,aM];obtain ⟨U,N',S',I',T,p1,e3,z,V⟩:=aqV (by omega) N S_ I Q C (by omega) (by omega) (by omega) (by omega) J;simp only [e3,ah,kH,b7];cases b:rF (N,S_,I,Q,C) r with
   |error e=>
    simp [bz,bO,b] at z;rw [<-c,u];exact SQ w v (N',S',I',Q,C) z M'
   |ok q=>
    obtain ⟨B,d⟩:=q;simp [bz,bO,b] at z;have p:=V r B d rfl b;obtain ⟨sh,name,lo,hi,first,hp,_⟩:=adi D b;have l1:d.length<r.length:=sh.2;have hb:T=0/\p1=0:=by obtain ⟨_,_,_,_,R,P⟩:=z;exact ⟨R,P⟩
    obtain ⟨rfl,rfl⟩:=hb;rw [p] at hp;simp at hp;obtain ⟨hp1,Z,Y⟩:=hp;have A:N'.length=N.length+1:=by rw [hp1];simp
    have q2:S'.length=S_.length+1:=by rw [Z];simp
    have q3:I'.length=I.length+1:=by rw [Y];simp
    rw [<-c,p];exact ih d (N',S',I',Q,C) U M f (by omega) (by omega) (by omega) ⟨by simp only;omega,by simp only;omega,by simp only;omega,by simp only;omega,by simp only;omega⟩ z
end
theorem akb{text:aE}{l:List Tok}(ht:gF text=some (l,0,0))(hl:l.length<500000000)(htok:∀t∈l,jB t)(hnum:∀t∈l,Db t)(a:Pa.Ends l):
  fF text=some (QL (sys l)):=by
 unfold fF;rw [ht,ah];simp;exact akj (by omega) htok hnum 0 0 l.length l ([],[],[],[],[]) 0 au (l.length+1) (cH _) (by show _<=2^64;omega) (by omega) ⟨by simp;omega,by simp;omega,by simp;omega,by simp;omega,by simp;omega⟩ ⟨0,rfl,rfl,a,rfl,rfl⟩
end Sy
namespace Sy
open Pa
theorem agp(s:aE)(h:s.all Lx.isDigit=true):0<=Lx.gH 0 s:=Lx.EM s 0 (pF _) h
theorem aiU{c:UInt8}{s:aE}{k:Int}{t:aE}{n:Int}(h:Lx.step (c::s)= .tok k t n)(pl:Int):jB (k,t,n,pl)/\Db (k,t,n,pl)/\k≠4:=by
 obtain ⟨hb,g,_,_⟩:=Lx.aax h;simp only [Lx.step,hb,g,eF] at h;cases a:Lx.gU c
 .simp only [a,eF,qu] at h;cases b:Lx.isDigit c
  .simp only [b,eF] at h;cases d:(Lx.fR (c::s)==[])
   .simp [d,qu] at h;obtain ⟨rfl,rfl,rfl⟩:=h;obtain ⟨i,m,_⟩:=Lx.JV d;obtain ⟨_,p,l,f,_,_,hl,_⟩:=Lx.af1 _ i;refine ⟨.inr (.inr (.inl ⟨rfl,λo j e=>?_⟩)),(λh=>by cases h),by decide⟩;rw [f] at e;cases e;exact hl
   .simp [d] at h
  .simp only [b,q6] at h;split at h
   .cases h
   .obtain ⟨rfl,rfl,rfl⟩:=h;refine ⟨.inr (.inl rfl),λ_=>⟨agp _ (Lx.Ld _ _),?_⟩,by decide⟩;simp_all [Lx.ui]
 .simp [a,q6] at h;split at h
  .cases h
  .obtain ⟨rfl,rfl,rfl⟩:=h;refine ⟨.inl ⟨rfl,c,s.takeWhile Lx.fE,?_,a⟩,(λh=>by cases h),by decide⟩;simp_all [Lx.wo]
structure Good(n:Nat)(l:List Tok):Prop where
 ok:∀t∈l,jB t
 num:∀t∈l,Db t
 ends:Pa.Ends l
 len:l.length<=n
theorem ajk{t:Tok}{l:List Tok}(h:Pa.Ends l):Pa.Ends (t::l):= .inl h
theorem ai0:∀(f a:Nat) (s:aE) (l:List Tok),s.length<f->Lx.pQ f a s= .ok l->Good (s.length+1) l:=by
 intro f
 induction f with
 |zero=>omega
 |succ f ih=>
  intro a s l p h;cases s with
  |nil=>
   cases h;exact ⟨(λt ht=>by rw [List.mem_singleton.1 ht];exact .inr (.inr (.inr rfl))),(λt ht=>by rw [List.mem_singleton.1 ht];intro h;cases h),.inr ⟨rfl,rfl⟩,by simp⟩
  |cons c s=>
   simp [Lx.pQ] at h;cases b:Lx.step (c::s) with
   |skip k=>
    rw [b] at h;obtain ⟨j,i⟩:=Lx.step_skip b;have:=ih _ _ _ (by grind) h;exact ⟨this.ok,this.num,this.ends,by have:=this.len;grind⟩
   |err e=>rw [b] at h;cases h
   |tok k g n=>
    rw [b] at h;simp only at h;obtain ⟨_,_,j,i⟩:=Lx.aax b;obtain ⟨o,m,_⟩:=aiU b (a);cases d:Lx.pQ f (a+g.length) ((c::s).drop g.length) with
    |error e=>rw [d] at h;cases h
    |ok l'=>
     rw [d] at h;cases h;have:=ih _ _ _ (by grind) d;refine ⟨λt ht=>?_,λt ht=>?_,ajk this.ends,by have:=this.len;grind⟩
     .rcases List.mem_cons.1 ht with rfl|ht
      .exact o
      .exact this.ok t ht
     .rcases List.mem_cons.1 ht with rfl|ht
      .exact m
      .exact this.num t ht
theorem aaV{s:aE}{l:List Tok}(h:Lx.lex s= .ok l):Good (s.length+1) l:=ai0 _ _ _ _ (ko _) h
theorem Za:∀(f a:Nat) (s:aE) (e:Int×Int),Lx.pQ f a s= .error e->e.1≠0:=by
 intro f
 induction f with
 |zero=>grind [Lx.pQ]
 |succ f ih=>
  intro a s e h;cases s with
  |nil=>simp [Lx.pQ] at h
  |cons c s=>
   grind [Lx.pQ,Lx.step,Lx.arp]
def Qm(text:aE):Except ir bw:=if 65536<text.length then .error (9,0) else match Lx.lex text with
 | .ok l=>sys l
 | .error e=> .error e
structure YA(n:Nat)(s:Int×Ex):Prop where
 var:0<=s.1/\s.1<n
 may:fp (n:Int) s.2=true
 typ:(rt s.2).2.1=0/\(rt s.2).1=1
 sz:s.2.sz<=65537
structure Yl(n:Nat)(c:aT):Prop where
 may:fp (n:Int) c.2.1=true
 typ:(rt c.2.1).2.1=0/\(rt c.2.1).1=2
 sz:c.2.1.sz<=65537
 sets:∀s∈c.2.2,YA n s
 one:1<=c.2.2.length
 len:c.2.2.length<=65537
 once:c.2.2.Pairwise (λa b=>a.1≠b.1)
structure OD(f:Int×Int):Prop where
 le:f.1<=f.2
 lo: -1073741824<=f.1
 hi:f.2<=1073741824
 wide:f.2-f.1<=65535
structure Part(m:bw):Prop where
 names:m.1.length<=16
 schema:m.2.1.length=m.1.length
 init:m.2.2.1.length=m.1.length
 fields:∀f∈m.2.1,OD f
 first:∀(i:Nat) (f:Int×Int) (v:Int),m.2.1[i]? =some f->m.2.2.1[i]? =some v->f.1<=v/\v<=f.2
 cmds:m.2.2.2.2.length<=256
 cmd:∀c∈m.2.2.2.2,Yl m.1.length c
structure Wf(m:bw):Prop extends Part m where
 some_:1<=m.1.length
theorem aof{op n len a v w:Int}(h:vr op n len a v=true)(b:v<=w):vr op n len a w=true:=by simp [vr,Bool.and_eq_false_imp] at h ⊢;grind
theorem aeG{v w:Int}(c:v<=w):∀(N:Nat) (e:Ex),e.sz<=N->fp v e=true->fp w e=true:=by
 intro N
 induction N with
 |zero=>grind [oR]
 |succ N ih=>
  intro e h hm;have d:=(M9 hm).2.2.2.2;rw [We] at hm ⊢;simp at hm ⊢;refine ⟨aof hm.1 c,?_⟩;have:∀l:List Ex,(∀x∈l,x∈e.l)->vo w l=true:=λl=>by
   induction l with
   |nil=>grind [vo]
   |cons x r a=>
    intro hx;simp [vo,ar];exact ⟨ih x (by have:=lU (hx x (by simp));omega) (d x (hx x (by simp))),a (λy b=>hx y (cp _ b))⟩
  grind
theorem Yl.le{n k:Nat}{c:aT}(h:Yl n c)(hk:n<=k):Yl k c:=
 ⟨aeG (by omega) _ _ (cH _) h.may,h.typ,h.sz,λs a=>⟨⟨(h.sets s a).var.1,by have:=(h.sets s a).var.2;omega⟩,aeG (by omega) _ _ (cH _) (h.sets s a).may,(h.sets s a).typ,(h.sets s a).sz⟩,h.one,h.len,h.once⟩
theorem ajz{lo hi:Int}(h:nk lo hi=true):OD (lo,hi):=by simp [nk,ar,mm,qi] at h;obtain ⟨⟨⟨d,c⟩,b⟩,a⟩:=h;rw [bG (by omega)] at a;exact ⟨by omega,by omega,by omega,by omega⟩
def tV(ts:List Tok):Prop:=(∀t∈ts,Db t)/\Pa.Ends ts/\ts.length<=65537
theorem tV.of{b a:List Tok}(h:tV b)(c:iV b a)(d:a <:+ b):tV a:=⟨λt ht=>h.1 t (d.mem ht),c.1,by have:=c.2;have:=h.2.2;omega⟩
theorem xj{x:aE}{a r:List Tok}(h:bZ x a= .ok r):r <:+ a:=by
 cases a with
 |nil=>simp [bZ] at h
 |cons t b=>
  grind [bZ,y5,List.suffix_cons]
theorem Wv{full:Bool}{names a:List aE}{b:List Tok}{p:aE×List Tok}(h:fJ full names a b= .ok p):p.2 <:+ b:=by
 cases b with
 |nil=>simp [fJ] at h
 |cons t c=>
  simp [fJ] at h;grind
theorem WJ{b:Bool}{a:List Tok}{p:Int×List Tok}(h:ta b a= .ok p):p.2 <:+ a:=by
 cases a with
 |nil=>simp [ta] at h
 |cons t c=>
  grind [ta,List.suffix_cons]
theorem QI{a:List Tok}{p:Int×List Tok}(h:gw a= .ok p):p.2 <:+ a:=by
 unfold gw at h;cases b:uv 3 [45] a
 .grind [WJ]
 .rw [b] at h;exact (WJ h).trans (uc _)
theorem L4{a:Int}{names:List aE}{b:List Tok}{p:Ex×List Tok}(c:Pa.Ends b)(h:eI a names b= .ok p):p.2 <:+ b:=(uk c h).2.1.suf _ rfl
theorem aid{names:List aE}:∀(f:Nat) (acc:List (Int×Ex)) (a:List Tok) (p:List (Int×Ex)×List Tok),Pa.Ends a->fM names f acc a= .ok p->p.2 <:+ a:=by
 intro f
 induction f with
 |zero=>grind [fM]
 |succ f ih=>
  intro acc a p k h;obtain ⟨t,r,rfl⟩:=k.ne;simp [fM] at h;cases g:(t.1 != 1)
  case true=>rw [g] at h;cases h
  rw [g] at h;cases m:(decide (fa names t.2.1<0)||CZ acc (fa names t.2.1))
  case true=>rw [m] at h;cases h
  rw [m] at h;have ht  :=by simpa using g
  have d:=k.tail (by omega);cases c:bZ [61] r with
  |error e=>rw [c] at h;cases h
  |ok r1=>
   rw [c] at h;simp only at h;have j:=mR d c;cases b:eI 1 names r1 with
   |error e=>rw [b] at h;cases h
   |ok q=>
    obtain ⟨x,r2⟩:=q;rw [b] at h;simp only at h;have n  :=(uk j.1 b).1;have i:r2 <:+ t::r:=((L4 j.1 b).trans (xj c)).trans (qY _ _);cases l:uv 3 [44] r2
    .grind
    .rw [l] at h;exact ((ih _ _ _ (oX n.1 (by decide) l).1 h).trans (uc _)).trans i
theorem WA{a:Int}{names:List aE}{d:List Tok}{x:Ex}{r:List Tok}(c:tV d)(h:eI a names d= .ok (x,r)):
  fp (names.length:Int) x=true/\((rt x).2.1=0/\(rt x).1=a)/\x.sz<=65537:=by
 obtain ⟨g,hp,f,e⟩:=uk c.2.1 h;have b:=hp.size _ rfl;simp [Lk] at b;exact ⟨hp.may trivial c.1 rfl _ rfl,⟨f,e⟩,by have:=c.2.2;omega⟩
theorem anT{names:List aE}{v:aE}(h:¬fa names v<0):0<=fa names v/\fa names v<names.length:=by
 unfold fa at h ⊢;cases ha:at_ names v with
 |none=>rw [ha] at h;simp at h
 |some i=>have:=pB ha;simp only;omega
theorem afD{names:List aE}:∀(f:Nat) (acc:List (Int×Ex)) (k:List Tok) (p:List (Int×Ex)×List Tok),tV k->fM names f acc k= .ok p->
  (∀s∈acc,YA names.length s)->acc.Pairwise (λa b=>a.1≠b.1)->acc.length+k.length<=65537->(∀s∈p.1,YA names.length s)/\p.1.Pairwise (λa b=>a.1≠b.1)/\p.1.length<=65537/\1<=p.1.length:=by
 intro f
 induction f with
 |zero=>grind [fM]
 |succ f ih=>
  intro acc k p y h i F d;obtain ⟨t,r,rfl⟩:=y.2.1.ne;have G:=y.2.1;simp [fM] at h;cases z:(t.1 != 1)
  case true=>rw [z] at h;cases h
  rw [z] at h;cases o:(decide (fa names t.2.1<0)||CZ acc (fa names t.2.1))
  case true=>rw [o] at h;cases h
  rw [o] at h;have ht  :=by simpa using z
  have g:=G.tail (by omega);simp only [nA,qi] at o;cases n:bZ [61] r with
  |error e=>rw [n] at h;cases h
  |ok r1=>
   rw [n] at h;simp only at h;have l:=mR g n;have E:=l.2;have v:tV r:=⟨λt' A=>y.1 t' (cp _ A),g,by grind⟩;have j  :=v.of l (xj n);cases m:eI 1 names r1 with
   |error e=>rw [m] at h;cases h
   |ok q=>
    obtain ⟨x,r2⟩:=q;have u:iV r1 r2:=(uk l.1 m).1;have D:=u.2;have w  :=j.of u (L4 l.1 m);obtain ⟨L,K,J⟩:=WA j m;have hi:=anT o.1;have C:∀s∈acc++[(fa names t.2.1,x)],YA names.length s:=λs c=>by
     rcases List.mem_append.1 c with c|c
     .exact i s c
     .rw [List.mem_singleton.1 c];exact ⟨hi,L,K,J⟩
    have B:(acc++[(fa names t.2.1,x)]).Pairwise (λa b=>a.1≠b.1):=by grind [List.mem_singleton,CZ,fa,List.any_eq_true]
    simp at d;cases I:uv 3 [44] r2
    .grind
    .obtain ⟨M,N⟩:=oX u.1 (by decide) I;have H:tV r2.tail:=⟨λt' A=>w.1 t' ((uc _).mem A),M,by omega⟩;grind
theorem ah8{m:bw}{f:List Tok}{p:bw×List Tok}(d:tV f)(hm:Part m)(h:nL m f= .ok p):Part p.1/\tV p.2/\p.2.length<f.length:=by
 obtain ⟨D,g,r1,r2,sets,E,v,q,z,o,hp,u,t⟩:=VS d.2.1 h;have j  :=(uk d.2.1 q).1;have n  :=d.of j (L4 d.2.1 q);have e:=mR j.1 u;have a  :=n.of e (xj u);have i  :=abY _ _ _ _ e.1 o;have l  :=a.of i (aid _ _ _ _ e.1 o);have r:=mR i.1 t;have k  :=l.of r (xj t);obtain ⟨C,B,A⟩:=WA d q;obtain ⟨t1,t2,x,w⟩:=afD _ _ _ _ a o (λs y=>by cases y) List.Pairwise.nil (by have:=a.2.2;simpa using this);refine ⟨?_,k,by have:=j.2;have:=e.2;have:=i.2;have:=r.2;omega⟩;rw [hp];refine ⟨hm.names,hm.schema,hm.init,hm.fields,hm.first,by simp;omega,λc b=>?_⟩;rcases List.mem_append.1 b with b|b
 .exact hm.cmd c b
 .rw [List.mem_singleton.1 b];exact ⟨C,B,A,t1,w,x,t2⟩
theorem agb:∀(f:Nat) (m:bw) (a:List Tok) (p:bw×List Tok),tV a->Part m->my f m a= .ok p->Part p.1/\tV p.2:=by
 intro f
 induction f with
 |zero=>grind [my]
 |succ f ih=>
  intro m a p c hm h;simp [my] at h;cases d:uv 3 [125] a
  .rw [d] at h;cases b:nL m a with
   |error e=>rw [b] at h;cases h
   |ok q=>
    obtain ⟨g,r⟩:=q;rw [b] at h;obtain ⟨j,i,_⟩:=ah8 c hm b;exact ih g r p i j h
  .rw [d] at h;cases h;obtain ⟨b,k⟩:=oX c.2.1 (by decide) d;exact ⟨hm,λt ht=>c.1 t ((uc _).mem ht),b,by have:=c.2.2;grind⟩
theorem afP{m:bw}{d:List Tok}{p:bw×List Tok}(i:tV d)(hm:Part m)(h:wa m d= .ok p):Part p.1/\tV p.2:=by
 unfold wa at h;cases c:fJ false m.1 m.2.2.2.1 d with
 |error e=>rw [c] at h;cases h
 |ok k=>
  obtain ⟨a,r1⟩:=k;rw [c] at h;simp only at h;have g  :=(Qu i.2.1 c).1;have f  :=i.of g (Wv c);cases b:bZ [123] r1 with
  |error e=>rw [b] at h;cases h
  |ok r2=>
   rw [b] at h;have j:=mR g.1 b;exact agb _ (m.1,m.2.1,m.2.2.1,m.2.2.2.1++[a],m.2.2.2.2) _ _ (f.of j (xj b)) ⟨hm.names,hm.schema,hm.init,hm.fields,hm.first,hm.cmds,hm.cmd⟩ h
theorem alx{m:bw}{f:List Tok}{p:bw×List Tok}(h:rF m f= .ok p):p.2 <:+ f:=by
 unfold rF at h;cases k:fJ (decide (16<=(m.1.length:Int))) m.1 m.2.2.2.1 f with
 |error e=>rw [k] at h;cases h
 |ok t=>
  obtain ⟨l,d⟩:=t;rw [k] at h;simp only at h;have y  :=Wv k;cases j:gw d with
  |error e=>rw [j] at h;cases h
  |ok s=>
   obtain ⟨lo,c⟩:=s;rw [j] at h;simp only at h;have x  :=QI j;cases i:gw c with
   |error e=>rw [i] at h;cases h
   |ok r=>
    obtain ⟨hi,b⟩:=r;rw [i] at h;simp only at h;have w  :=QI i;cases g:gw b with
    |error e=>rw [g] at h;cases h
    |ok q=>
     obtain ⟨first,a⟩:=q;rw [g] at h;simp only at h;have v  :=QI g;cases n:bZ [59] a with
     |error e=>rw [n] at h;cases h
     |ok o=>
      have u:=xj n;grind
theorem aiR{m:bw}{e:List Tok}{p:bw×List Tok}(k:tV e)(hm:Part m)(h:rF m e= .ok p):Part p.1/\tV p.2/\1<=p.1.1.length:=by
 obtain ⟨l,g,lo,hi,first,hp,s,u,t,r,_⟩:=adi k.2.1 h;refine ⟨?_,k.of l (alx h),by rw [hp];simp⟩;rw [hp];have n:=hm.schema;have d:=hm.init;refine ⟨by simp;omega,by simp [n],by simp [d],λf a=>?_,λi f v a j=>?_,hm.cmds,λc q=>(hm.cmd c q).le (by simp)⟩
 .rcases List.mem_append.1 a with a|a
  .exact hm.fields f a
  grind [List.mem_singleton,ajz]
 .rcases qC i m.2.1.length with b|o
  .rw [ec b] at a;rw [ec (by omega)] at j;exact hm.first i f v a j
  grind
theorem acy:∀(f:Nat) (m:bw) (b:List Tok) (p:bw),tV b->Part m->pS f m b= .ok p->Wf p:=by
 intro f
 induction f with
 |zero=>grind [pS]
 |succ f ih=>
  intro m b p a hm h;obtain ⟨t,r,rfl⟩:=a.2.1.ne;have j:=a.2.1;simp [pS] at h;cases g:(t.1==4)
  .rw [g] at h;have k:tV r:=⟨λt' l=>a.1 t' (cp _ l),j.tail (by simpa using g),by have:=a.2.2;grind⟩;cases cv:y5 1 [118,97,114] t
   .rw [cv] at h;cases i:y5 1 [112,114,111,99] t
    .rw [i] at h;cases h
    .rw [i] at h;cases d:wa m r with
     |error e=>rw [d] at h;cases h
     |ok q=>
      grind [afP]
   .rw [cv] at h;cases d:rF m r with
    |error e=>rw [d] at h;cases h
    |ok q=>
     grind [aiR]
  .rw [g] at h;cases c:m.1.isEmpty
   .rw [c] at h;cases h;refine ⟨hm,?_⟩;grind
   grind
theorem ai2{text:aE}{m:bw}(h:Qm text= .ok m):Wf m:=by
 unfold Qm at h;split at h
 .cases h
 .cases hx:Lx.lex text with
  |error e=>rw [hx] at h;cases h
  |ok l=>
   rw [hx] at h;have a:=aaV hx;exact acy _ _ _ _ ⟨a.num,a.ends,by have:=a.len;omega⟩ ⟨by simp,rfl,rfl,(λf b=>by cases b),(λi f v b=>by simp at b),by simp,(λc d=>by cases d)⟩ h
end Sy
namespace Sy
open Pa
theorem al6(text:aE):fF text=some (QL (Qm text)):=by
 unfold Qm;by_cases h:65536<text.length
 .rw [du h];unfold fF;rw [Lx.NO];unfold Lx.tokens;rw [du h];rfl
 .rw [dk h];have ht:gF text=some (Lx.res (Lx.lex text)):=by grind [Lx.NO,Lx.agT]
  cases hl:Lx.lex text with
  |ok l=>
   rw [hl] at ht;have a:=aaV hl;exact akb ht (by have:=a.len;omega) a.ok a.num a.ends
  |error e=>
   rw [hl] at ht;have b  :=bne_iff_ne.2 (Za _ _ _ _ hl);unfold fF;rw [ht,ah];simp [Lx.res,b,ca,QL]
end Sy
variable {v : zj}
namespace Sp
theorem ao9(d:Nat)(h:d<10):Lx.Ae (UInt8.ofNat (48+d))=d/\Lx.isDigit (UInt8.ofNat (48+d))=true:=by
 have:d=0\/d=1\/d=2\/d=3\/d=4\/d=5\/d=6\/d=7\/d=8\/d=9:=by omega
 rcases this with rfl|rfl|rfl|rfl|rfl|rfl|rfl|rfl|rfl|rfl <;> exact ⟨rfl,rfl⟩
theorem QR:∀(N n:Nat),n<=N->Lx.gH 0 (Lib.decDigits n)=n/\(Lib.decDigits n).all Lx.isDigit=true/\Lib.decDigits n≠[]:=by
 intro N
 induction N with
 |zero=>
  intro n h;obtain rfl:n=0:=by omega
  rw [Lib.decDigits,tA (by omega)];exact ⟨rfl,rfl,by simp⟩
 |succ N ih=>
  intro n h;rw [Lib.decDigits];grind [ao9,Bool.and_self,Lx.Ae,UInt8.ofNat,Lx.gH]
theorem aos{m n:Nat}(h:Lib.decDigits m=Lib.decDigits n):m=n:=by have b:=(QR m m (cH _)).1;have a:=(QR n n (cH _)).1;grind
theorem P5{c:UInt8}(h:Lx.isDigit c=true):c≠45/\c≠32:=by constructor <;> (intro e;subst e;cases h)
theorem VY(n:Nat):∀c∈Lib.decDigits n,Lx.isDigit c=true:=λc a=>List.all_eq_true.1 (QR n n (cH _)).2.1 c a
theorem ak3{x y:Int}(h:Lib.itoa x=Lib.itoa y):x=y:=by
 have a:∀(m n:Nat),Lib.decDigits m≠45::Lib.decDigits n:=λm n e=>by have:=VY m 45 (by rw [e];simp);exact (P5 this).1 rfl
 grind [Lib.itoa,aos,List.cons.inj,absurd]
theorem Xk(x:Int):∀c∈Lib.itoa x,c≠32:=by
 intro c a;unfold Lib.itoa at a;split at a
 .rcases List.mem_cons.1 a with rfl|a
  .decide
  .exact (P5 (VY _ c a)).2
 .exact (P5 (VY _ c a)).2
theorem HE:∀(k u:Nat),u<10^(k+1)->Lib.nDigits u<=k+1
 |0,u,h=>by grind [Lib.nDigits_small]
 |k+1,u,h=>by
  by_cases a:u<10
  .grind [Lib.nDigits_small]
  .rw [Lib.nDigits_big a];have:=HE k (u/10) (by grind);omega
theorem W5{n:Int}(b: -9223372036854775808<=n)(a:n<=9223372036854775807):(Lib.itoa n).length<=20:=by
 unfold Lib.itoa;split
 .rw [eb,Lib.decDigits_length];have:=HE 18 n.natAbs (by omega);omega
 .rw [Lib.decDigits_length];have:=HE 18 n.toNat (by omega);omega
def fu(v:zj):aE:=v.flatMap λn=>Lib.itoa n++[32]
theorem anX{a b r s:aE}(ha:∀c∈a,c≠32)(hb:∀c∈b,c≠32)(h:a++32::r=b++32::s):a=b/\r=s:=by
 induction a generalizing b with
 |nil=>
  cases b with
  |nil=>grind
  |cons c b=>grind
 |cons c a ih=>
  cases b with
  |nil=>grind
  |cons d b=>
   grind
theorem QJ:∀{a b:zj},fu a=fu b->a=b
 |[],[],_=>rfl
 |[],y::b,h=>by
  simp_all [fu,congrArg]
 |x::a,[],h=>by
  simp_all [fu,congrArg]
 |x::a,y::b,h=>by simp [fu,qU,cb] at h;obtain ⟨d,c⟩:=anX (Xk x) (Xk y) h;rw [ak3 d,QJ c]
theorem text_cat(a b:zj):fu (a++b)=fu a++fu b:=by simp [fu]
theorem Lf(s:aE):strOf (aQ s)=s:=by
 induction s with
 |nil=>rfl
 |cons c s ih=>
  simp_all [strOf,aQ,eT]
theorem PJ(a b:aE):aQ (a++b)=aQ a++aQ b:=by simp [aQ]
theorem G5(s:aE):(aQ s).length=s.length:=by simp [aQ]
def vE(v:zj):Prop:= ∀n∈v,-9223372036854775808<=n/\n<=9223372036854775807
theorem YP(h:vE v):(fu v).length<=21*v.length:=by
 induction v with
 |nil=>simp [fu]
 |cons n v ih=>
  have a:=h n (by simp);have:=W5 a.1 a.2;have:=ih (λm hm=>h m (cp _ hm));grind [fu,List.length_append,List.length_cons,List.length_nil]
theorem copy_eq(f:Bool)(l:zj):jb f l=some true:=by cases f <;> rfl
theorem asf{s:aE}{l:zj}(f:Bool)(h:l.length+s.length<=140737488355328):gZ s f l=some ((s.length:Int),true,l++aQ s):=by grind [gZ,copy_eq,ah,Sy.aP,Sy.dv]
theorem asj{l:zj}(c:Int)(f:Bool)(h:l.length+1<=140737488355328):je c f l=some (true,l++[c]):=by grind [je,copy_eq,ah,Sy.aP,Sy.dv]
theorem ahj(f:Bool){s:aE}(h:aQ s≠[]):kG f (aQ s)=some s:=by
 have e  :=Lf s;cases hb:aQ s with
 |nil=>exact absurd hb h
 |cons c l=>
  rw [hb] at e;unfold kG;rw [show idx (c::l) 0=some c from rfl,ah,Sy.aP (by simp),e]
theorem apV{x:Int}(h:aaH x=true):Yw x=some (Lib.itoa x):=Sy.aP h _
theorem W3(v:zj)(b:vE v)(hl:v.length<1000000000)(a:v≠[]):∀(r pre:zj),v=pre++r->∀(M:Nat) (f:Bool),r.length<M->
  aj (yr v) M (f,aQ (fu pre),(pre.length:Int))=some (fu v)
 |[],pre,h,M,f,hM=>by
  obtain ⟨m,rfl⟩:∃m,M=m+1:=⟨M-1,by omega⟩;rw [ao];have e  :=by simpa using h.symm
  subst e;simp only [yr,cy (show ¬((pre.length:Int)<(List.length pre)) by omega),b7];rw [ahj,ah];cases pre with
  |nil=>exact absurd rfl a
  |cons x r=>
   have:(aQ (fu (x::r))).length≠0:=by rw [G5];simp [fu]
   grind
 |x::r,pre,h,M,f,hM=>by
  obtain ⟨m,rfl⟩:∃m,M=m+1:=⟨M-1,by omega⟩;rw [ao];have hx:=b x (by rw [h];simp);have hi  :=ZW.2 hx;have hp:vE pre:=λn hn=>b n (by grind);have hb:=YP hp;have c:=W5 hx.1 hx.2;have ih:=W3 v b hl a r (pre++[x]) (by rw [h];simp) m true (by simp at hM;omega);have d:aQ (fu (pre++[x]))=(aQ (fu pre)++aQ (Lib.itoa x))++[32]:=by simp [fu,qU,PJ,cb];rfl
  simp [yr,Sy.lR h,ah,apV hi];grind [asf,G5,ah,asj,List.length_append,Pa.bR]
theorem anY(b:vE v)(hl:v.length<1000000000)(a:v≠[]):Mm v=some (fu v):=
 W3 v b hl a v [] rfl au false (by show v.length<2^64;omega)
def ik(l:wy)(v:zj):wy:=if l.contains v then l else l++[v]
def dh(acc l:wy):wy:=l.foldl ik acc
def Seen(l:wy)(at_:Option (List (aE×Bool))):Prop:=(at_=none->l=[])/\∀v,ey at_ (fu v) false=l.contains v
theorem akB:Seen [] none:=⟨λ_=>rfl,λa=>rfl⟩
theorem Gs(l:List (aE×Bool))(k a:aE):(oY (l6 l k true) a).getD false=((a==k)||(oY l a).getD false):=by
 induction l with
 |nil=>
  grind [l6,oY]
 |cons p l ih=>
  simp [l6];cases b:(k==p.1)
  .simp [b7,oY];grind
  .simp [ca,oY];grind
theorem add_eq{l:wy}{at_:Option (List (aE×Bool))}(f:vE v)(hl:v.length<1000000000)(c:v≠[])(g:l.length<1000000000)(b:Seen l at_):
  ∃at',oa v l at_=some (ik l v,at')/\Seen (ik l v) at':=by
 have k1:aH (List.length l+List.length ([v])) 24=true:=Sy.dv (by simp;omega) (by simp;omega);have key:∀a:List (aE×Bool),Seen l (some a)->∃at',wv v l (some a)=some (ik l v,at')/\Seen (ik l v) at':=λa b=>by
  unfold wv;rw [anY f hl c,ah,b.2 v];unfold ik;cases i:l.contains v
  .simp only [Sy.aP k1,eF];refine ⟨_,rfl,(λh=>by cases h),λu=>?_⟩;have d:=b.2 u;unfold ey at d ⊢;simp at d ⊢;rw [Gs,d];have e:(fu u==fu v)=(u==v):=by grind [beq_eq_false_iff_ne,QJ]
   grind
  grind
 cases at_ with
 |none=>
  refine key [] ⟨(λh=>by cases h),λu=>?_⟩;exact b.2 u
 |some a=>
  exact key a b
theorem EY(l:wy)(v:zj):(ik l v).length<=l.length+1:=by grind [ik]
theorem ZU{l:wy}{u:zj}:u∈ik l v↔u∈l\/u=v:=by unfold ik;grind
theorem rO:∀(m l:wy),(dh l m).length<=l.length+m.length
 |[],l=>by simp [dh]
 |v::m,l=>by have:=rO m (ik l v);grind [EY,dh,List.length_cons]
theorem nb{u:zj}:∀{m l:wy},u∈dh l m↔u∈l\/u∈m
 |[],l=>by simp [dh]
 |v::m,l=>by have:=nb (u:=u) (m:=m) (l:=ik l v);grind [dh,ZU]
theorem P7:∀(m l:wy),l <+: dh l m
 |[],l=>tj _
 |v::m,l=>by have a:=P7 m (ik l v);grind [ik,List.prefix_refl,List.prefix_append,dh]
end Sp
theorem ale(b:Bool):xK b=some (tr b):=by cases b <;> rfl
theorem MO(k:Ex×zj->zb)(e:Ex)(v:zj)(d:Int×Int×Int->zb)(a b t:Int)(h:¬t<(List.length (aV e.l 0 (min (List.length e.l:Int) 2)):Int)):
  ez k e v d (a,b,t)=some (Pr e.op e.n v a b):=by
 simp [ez,cy h,aM,EL,Ff,DY,Ep,Ee,ale,Pr];cases r:(decide (e.n<0)||decide ((List.length v)<=e.n))
 .have q:idx v e.n=some (v.getD e.n.toNat 0):=by simp_all [idx,b9]
  rw [q];generalize (e.op==1)=p;generalize (e.op==2)=o;generalize (e.op==3)=m;generalize (e.op==5)=i;generalize (e.op==6)=g;generalize (e.op==4)=j;generalize (e.op==8)=b8;generalize (e.op==7)=f;generalize (e.op==19)=c;cases p
  case true=>rfl
  cases o
  case true=>rfl
  cases m
  case true=>rfl
  cases i
  case true=>rfl
  cases g
  case true=>rfl
  cases j
  case true=>rfl
  cases b8
  case true=>rfl
  cases f
  case true=>rfl
  cases c
  case true=>rfl
  grind
 .generalize (e.op==1)=p;generalize (e.op==2)=o;generalize (e.op==3)=m;generalize (e.op==5)=i;generalize (e.op==6)=g;generalize (e.op==4)=j;generalize (e.op==8)=b8;generalize (e.op==7)=f;generalize (e.op==19)=c;cases p
  case true=>rfl
  cases o
  case true=>rfl
  cases m
  case true=>rfl
  cases i
  case true=>rfl
  cases g
  case true=>rfl
  cases j
  case true=>rfl
  cases b8
  case true=>rfl
  cases f
  case true=>rfl
  cases c
  case true=>rfl
  grind
theorem aqd(k:Ex×zj->zb)(e:Ex)(v:zj)(hk:∀x∈e.l,k (x,v)=some (ev v x)):vH k e v=some (ev v e):=by
 unfold vH;have d:cZ 0 (min (List.length e.l) 2) (List.length e.l)=true:=wF.2 ⟨⟨pF _,by omega⟩,by omega⟩;rw [d,agj];show aj (ez k e v) au (0,0,0)=_;rw [show au=18446744073709551613+1+1+1 from rfl];generalize 18446744073709551613=N;rw [ao];obtain ⟨op,n,a,l⟩:=e
 match l,hk with
 |[],_=>exact MO k (.mk op n a []) v _ 0 0 0 (by show ¬(0:Int)<((List.length (aV ([]:List Ex) 0 _):Nat));simp [aV])
 |[x],hk=>
  have hx:=hk x (by simp [Ex.l]);have hl:aV [x] 0 (min (List.length [x]) 2)=[x]:=rfl;have b:ez k (.mk op n a [x]) v (aj (ez k (.mk op n a [x]) v) (N+1+1)) (0,0,0)=aj (ez k (.mk op n a [x]) v) (N+1+1) (ev v x,0,1):=by show (k (x,v)).bind _=_;rw [hx];rfl
  rw [b,ao];exact MO k (.mk op n a [x]) v _ (ev v x) 0 1 (by show ¬(1:Int)<(List.length (aV [x] 0 (min (List.length [x]:Int) 2)));rw [hl];simp)
 |x::y::r,hk=>
  have hx:=hk x (by simp [Ex.l]);have c:=hk y (by simp [Ex.l]);have hm:min (List.length (x::y::r):Int) 2=2:=by grind
  have hl:aV (x::y::r) 0 2=[x,y]:=rfl;have b:ez k (.mk op n a (x::y::r)) v (aj (ez k (.mk op n a (x::y::r)) v) (N+1+1)) (0,0,0)=aj (ez k (.mk op n a (x::y::r)) v) (N+1+1) (ev v x,0,1):=by show (bif decide ((0:Int)<(List.length (aV (x::y::r) 0 (min (List.length (x::y::r):Int) 2)))) then (idx (aV (x::y::r) 0 (min (List.length (x::y::r)) 2)) 0).bind _ else _)=_;rw [hm,hl];show (k (x,v)).bind _=_;rw [hx];rfl
  have f:ez k (.mk op n a (x::y::r)) v (aj (ez k (.mk op n a (x::y::r)) v) (N+1)) (ev v x,0,1)=aj (ez k (.mk op n a (x::y::r)) v) (N+1) (ev v x,ev v y,2):=by show (bif decide ((1:Int)<(List.length (aV (x::y::r) 0 (min (List.length (x::y::r):Int) 2)))) then (idx (aV (x::y::r) 0 (min (List.length (x::y::r)) 2)) 1).bind _ else _)=_;rw [hm,hl];show (k (y,v)).bind _=_;rw [c];rfl
  rw [b,ao,f,ao];exact MO k (.mk op n a (x::y::r)) v _ (ev v x) (ev v y) 2 (by grind [List.length,aV,min])
theorem aht:∀(N:Nat) (e:Ex) (v:zj),e.sz<=N->aj (λk (s:Ex×zj)=>vH k s.1 s.2) N (e,v)=some (ev v e):=by
 intro N
 induction N with
 |zero=>grind [oR]
 |succ N ih=>
  intro e v h;exact aqd _ e v (λx hx=>ih x v (by have:=lU hx;omega))
theorem Vi(e:Ex)(h:e.sz<4611686018427387904)(v:zj):ry e v=some (ev v e):=aht au e v (by show e.sz<=2^64;omega)
namespace Sp
def fits:w5->zj->Bool
 |s::S,n::w=>(decide (s.1<=n)&&decide (n<=s.2))&&fits S w
 |_,_=>true
def Mu(v w:zj)(s:Int×Ex):zj:=w.set s.1.toNat (ev v s.2)
def agZ(v:zj)(c:Sy.aT):zj:=c.2.2.foldl (Mu v) v
theorem Rr(v w:zj)(s:Int×Ex):(Mu v w s).length=w.length:=by simp [Mu]
theorem WM(v:zj):∀(l:List (Int×Ex)) (w:zj),(l.foldl (Mu v) w).length=w.length
 |[],w=>rfl
 |s::l,w=>by rw [List.foldl_cons,WM v l,Rr]
theorem MZ(v:zj)(c:Sy.aT):(agZ v c).length=v.length:=WM _ _ _
def fin(S:w5)(w:zj):zj×Int:=bif fits S w then (w,0) else ([],6)
def mW(v:zj):Nat->List Sy.aT->zj
 |_,[]=>[]
 |k,c::r=>if ev v c.2.1=1 then (k:Int)::mW v (k+1) r else mW v (k+1) r
def enC(v:zj)(l:List Sy.aT):List Sy.aT:=l.filter λc=>decide (ev v c.2.1=1)
def fk(cmds:List Sy.aT)(v:zj)(i:Int):zj:=match cmds[i.toNat]? with|some c=>agZ v c|none=>v
def Oe(S:w5)(cmds:List Sy.aT)(v:zj)(k:Int):zj×Int:=
 if k<0\/(cmds.length:Int)<=k then ([],10) else fin S (fk cmds v k)
def goes(v:zj)(cmds:List Sy.aT):wy:=(enC v cmds).map (agZ v)
def SN(S:w5)(v:zj)(ws:wy):wy×Int:=
 if ws=[] then ([v],0) else bif ws.all (fits S) then (dh [] ws,0) else ([],6)
def fL(S:w5)(cmds:List Sy.aT)(v:zj):wy×Int:=SN S v (goes v cmds)
structure SafeS(S:w5)(C:List Sy.aT):Prop where
 pos:1<=S.length
 dT:S.length<=16
 field:∀f∈S,Sy.OD f
 cmds:C.length<=300
 guard:∀c∈C,c.2.1.sz<1000000
 sets:∀c∈C,c.2.2.length<=65537/\∀s∈c.2.2,0<=s.1/\s.1<S.length/\s.2.sz<1000000
structure s8(S:w5)(v:zj):Prop where
 len:v.length=S.length
 fit:fits S v=true
theorem ZJ:∀{S:w5} {v:zj},v.length=S.length->(∀f∈S,Sy.OD f)->fits S v=true->vE v
 |[],[],_,_,_=>λn hn=>by cases hn
 |[],_::_,h,_,_=>by simp at h
 |_::_,[],h,_,_=>by simp at h
 |s::S,x::w,h,hS,a=>by
  simp [fits,ar,eY] at a;have b:=hS s (by simp);intro n hn;rcases List.mem_cons.1 hn with rfl|hn
  .have:=b.lo;have:=b.hi;omega
  .exact ZJ (by simpa using h) (λf a=>hS f (cp _ a)) a.2 n hn
theorem s8.i64{S:w5}{cmds:List Sy.aT}(h:s8 S v)(a:SafeS S cmds):vE v:=ZJ h.len a.field h.fit
theorem s8.ne{S:w5}{cmds:List Sy.aT}(h:s8 S v)(a:SafeS S cmds):v≠[]:=λe=>by have:=h.len;have:=a.pos;grind
theorem s8.short{S:w5}{cmds:List Sy.aT}(h:s8 S v)(a:SafeS S cmds):v.length<1000000000:=by have:=h.len;have:=a.dT;omega
theorem aqP(s:Int×Int)(n:Int):lu s n=some (decide (s.1<=n)&&decide (n<=s.2)):=rfl
theorem adS(S:w5)(w:zj):∀(r pre:zj) (rs ps:w5),w=pre++r->S=ps++rs->ps.length=pre.length->rs.length=r.length->w.length<1000->
  ∀M,r.length<M->aj (te S w) M (pre.length:Int)=some (bif fits rs r then 0 else 5)
 |[],pre,rs,ps,h,hS,hl,hr,hw,M,hM=>by
  obtain ⟨m,rfl⟩:∃m,M=m+1:=⟨M-1,by omega⟩;rw [ao];simp only [te,Sy.uB h];have  :=er hr;subst this;rfl
 |x::r,pre,[],ps,h,hS,hl,hr,hw,M,hM=>by simp at hr
 |x::r,pre,s::rs,ps,h,hS,hl,hr,hw,M,hM=>by
  obtain ⟨m,rfl⟩:∃m,M=m+1:=⟨M-1,by omega⟩;rw [ao];have b:idx S (pre.length)=some s:=by grind [Sy.lR]
  have a:pre.length+r.length+1=w.length:=by rw [h];simp;omega
  have ih:=adS S w r (pre++[x]) rs (ps++[s]) (by rw [h];simp) (by rw [hS];simp) (by simp;omega) (by simpa using hr) hw m (by simp at hM;omega);simp [te,Sy.lR h,aqP,Pa.bR (show pre.length<4611686018427387904 by omega),fits];grind
theorem ar7(S:w5)(w:zj)(hl:w.length=S.length)(a:w.length<1000):tZ S w=some (bif fits S w then 0 else 5):=by unfold tZ;rw [show ((List.length w:Int) != (List.length S))=false by rw [hl];simp,b7];exact adS S w w [] S [] rfl rfl rfl hl.symm a au (by show w.length<2^64;omega)
theorem sf(l:List α)(i:Int)(b:0<=i)(a:i<l.length):∃x,idx l i=some x/\l[i.toNat]? =some x:=by simp_all [idx]
theorem WK(m:Sy.bw)(v:zj)(e:Sy.aT)(hn:v.length=m.2.1.length)(c:v.length<1000)(d:e.2.2.length<=65537)(a:∀s∈e.2.2,0<=s.1/\s.1<m.2.1.length/\s.2.sz<1000000):
  ∀(r pre:List (Int×Ex)),e.2.2=pre++r->∀(w:zj) (M:Nat),w.length=v.length->r.length<M->
   aj (yB m v e) M (w,(pre.length:Int))=some (fin m.2.1 (r.foldl (Mu v) w))
 |[],pre,h,w,M,hw,hM=>by
  obtain ⟨k,rfl⟩:∃k,M=k+1:=⟨M-1,by omega⟩;rw [ao];simp [yB,fin];grind [ar7,ah,fits]
 |s::r,pre,h,w,M,hw,hM=>by
  obtain ⟨k,rfl⟩:∃k,M=k+1:=⟨M-1,by omega⟩;rw [ao];obtain ⟨f,i,g⟩:=a s (by rw [h];simp);have b:pre.length+r.length+1=e.2.2.length:=by rw [h];simp;omega
  obtain ⟨x,hx,_⟩:=sf w s.1 f (by omega);have ih:=WK m v e hn c d a r (pre++[s]) (by rw [h];simp) (Mu v w s) k (by rw [Rr,hw]) (by simp at hM;omega);rw [show ((pre++[s]).length)=((pre.length+1:Nat)) by simp] at ih;simp only [yB,Sy.uz h,Sy.lR h,ah];rw [Vi s.2 (by omega) v];simp [hx,Pa.bR (show pre.length<4611686018427387904 by omega)];exact ih
theorem QT(v:zj)(h:v.length<1000000000):bu v=some v:=by grind [bu,Sy.aP,Sy.dv]
theorem apK{m:Sy.bw}(hm:SafeS m.2.1 m.2.2.2.2)(hn:v.length=m.2.1.length)(k:Int):Gd m v k=some (Oe m.2.1 m.2.2.2.2 v k):=by
 have d:v.length<1000:=by have:=hm.dT;omega
 unfold Gd;simp [aM];unfold Oe;by_cases hk:k<0\/(m.2.2.2.2.length)<=k
 .grind
 .rw [dk hk];rw [show (decide (k<0)||decide ((List.length m.2.2.2.2)<=k))=false by grind,b7];obtain ⟨c,e,b⟩:=sf m.2.2.2.2 k (by omega) (by omega);rw [QT v (by omega),ah,e,ah];have a  :=fe b;have:=WK m v c hn d (hm.sets c a).1 (hm.sets c a).2 c.2.2 [] rfl v au rfl (by have:=(hm.sets c a).1;show _<2^64;omega);rw [show (0:Int)=((([]:List (Int×Ex)).length:Nat)) from rfl,this];unfold fk;rw [b];rfl
theorem adM(m:Sy.bw)(v:zj)(hm:SafeS m.2.1 m.2.2.2.2):∀(r pre:List Sy.aT),m.2.2.2.2=pre++r->∀(out:zj) (M:Nat),out.length<=pre.length->r.length<M->
  aj (sY m v) M (out,(pre.length:Int))=some (out++mW v pre.length r)
 |[],pre,h,out,M,a,hM=>by
  obtain ⟨k,rfl⟩:∃k,M=k+1:=⟨M-1,by omega⟩;simp_all [ao,sY,mW]
 |c::r,pre,h,out,M,a,hM=>by
  obtain ⟨k,rfl⟩:∃k,M=k+1:=⟨M-1,by omega⟩;rw [ao];have b:pre.length+r.length+1=m.2.2.2.2.length:=by rw [h];simp;omega
  have f:=hm.cmds;have e:=hm.guard c (by rw [h];simp);simp only [sY,Sy.uz h,Sy.lR h,ah];rw [Vi c.2.1 (by omega) v,ah];have ih:=λout a=>adM m v hm r (pre++[c]) (by rw [h];simp) out k a (by simp at hM;omega);rw [show ((pre++[c]).length:Int)=((pre.length+1:Nat)) by simp,show (pre++[c]).length=pre.length+1 by simp] at ih;simp only [Pa.bR (show pre.length<4611686018427387904 by omega),mW];by_cases d:ev v c.2.1=1
  .rw [du d,show (ev v c.2.1==1)=true by simpa using d,ca,Sy.aP (Sy.dv (by simp;omega) (by simp;omega)),ih _ (by simp;omega),cb];rfl
  grind
theorem ar6{m:Sy.bw}(hm:SafeS m.2.1 m.2.2.2.2):Fe m v=some (mW v 0 m.2.2.2.2):=
 adM m v hm m.2.2.2.2 [] rfl [] au (cH _) (by have:=hm.cmds;show _<2^64;omega)
theorem I0(v:zj):∀(r:List Sy.aT) (k:Nat),(mW v k r).length=(enC v r).length
 |[],k=>rfl
 |c::r,k=>by
  unfold mW enC;rw [s6];by_cases a:ev v c.2.1=1
  .rw [du a,du (by simpa using a),eb,eb,I0 v r];rfl
  .rw [dk a,dk (by simpa using a),I0 v r];rfl
theorem adm{v:zj}{i:Int}:∀{r:List Sy.aT} {k:Nat},i∈mW v k r->∃(j:Nat) (c:Sy.aT),i=((k+j:Nat):Int)/\r[j]? =some c/\ev v c.2.1=1
 |[],k,h=>by simp [mW] at h
 |c::r,k,h=>by
  unfold mW at h;have a:i∈mW v (k+1) r->∃(j:Nat) (d:Sy.aT),i=((k+j:Nat))/\(c::r)[j]? =some d/\ev v d.2.1=1:=λh=>by obtain ⟨j,d,g,f,e⟩:=adm h;exact ⟨j+1,d,by omega,by simpa using f,e⟩
  by_cases b:ev v c.2.1=1
  .rw [du b] at h;rcases List.mem_cons.1 h with rfl|h
   .exact ⟨0,c,rfl,rfl,b⟩
   .exact a h
  grind
theorem UD(v:zj)(cmds:List Sy.aT):∀(r pre:List Sy.aT),cmds=pre++r->(mW v pre.length r).map (fk cmds v)=goes v r
 |[],pre,h=>rfl
 |c::r,pre,h=>by
  have ih:=UD v cmds r (pre++[c]) (by rw [h];simp);rw [show (pre++[c]).length=pre.length+1 by simp] at ih;unfold mW goes enC;rw [s6];by_cases a:ev v c.2.1=1
  .rw [du a,du (by simpa using a),eT,eT,ih];unfold fk;rw [show ((pre.length:Int)).toNat=pre.length from rfl,show cmds[pre.length]? =some c by rw [h];simp];rfl
  .rw [dk a,dk (by simpa using a),ih];rfl
theorem akr{w:zj}{cmds:List Sy.aT}(h:w∈goes v cmds):w.length=v.length:=by obtain ⟨c,_,rfl⟩:=List.mem_map.1 h;exact MZ v c
theorem ala(v:zj)(cmds:List Sy.aT):(goes v cmds).length<=cmds.length:=by grind [goes,enC,List.length_map,List.length_filter_le]
theorem ah1{cmds:List Sy.aT}{i:Int}(h:i∈mW v 0 cmds):0<=i/\i<cmds.length:=by obtain ⟨j,c,rfl,a,_⟩:=adm h;grind
theorem Rm{S:w5}{cmds:List Sy.aT}(b:s8 S v):∀w∈(fL S cmds v).1,s8 S w:=by
 intro w a;unfold fL SN at a;split at a
 .grind
 .cases ha:(goes v cmds).all (fits S) <;> rw [ha] at a
  .cases a
  .rcases nb.1 a with h|h
   .cases h
   .exact ⟨by rw [akr h];exact b.len,List.all_eq_true.1 ha w h⟩
theorem Nb{S:w5}{cmds:List Sy.aT}(v:zj):(fL S cmds v).1.length<=cmds.length+1:=by grind [fL,SN,goes,fits,rO,ala]
end Sp
namespace Sp
theorem amW{S:w5}{C:List Sy.aT}(hm:SafeS S C)(c:s8 S v){l:wy}{at_:Option (List (aE×Bool))}(f:Seen l at_)(k:wy->Option (List (aE×Bool))->Option (wy×Int))(hk:∀l a,k l a=some (l,0)):
  (bif ((List.length l:Int)==0) then ((bu v).bind λd=>(oa d l at_).bind λb=>k b.1 b.2) else some (l,0))=some (if l=[] then [v] else l,0):=by
 by_cases h:l=[]
 .subst h;rw [show ((List.length ([]):Int)==0)=true from rfl,ca,QT v (c.short hm),ah];obtain ⟨i,g,_⟩:=add_eq (c.i64 hm) (c.short hm) (c.ne hm) (by simp) f;rw [g,ah,hk];rfl
 .have e:((List.length l)==0)=false:=by simp_all
  grind
theorem BO(m:Sy.bw)(v:zj)(hm:SafeS m.2.1 m.2.2.2.2)(b:s8 m.2.1 v)(L:zj)(p:∀i∈L,0<=i/\i<m.2.2.2.2.length)(g:L.length<=300):
  ∀(r pre:zj),L=pre++r->∀(c:Int) (l:wy) (at_:Option (List (aE×Bool))) (M:Nat),Seen l at_->l.length<=pre.length->r.length<M->
   aj (yA v (m.1,m.2.1,m.2.2.1,m.2.2.2.1,m.2.2.2.2,v) L) M ((pre.length:Int),c,l,at_)=
    some (if (r.map (fk m.2.2.2.2 v)).all (fits m.2.1)=true then (if dh l (r.map (fk m.2.2.2.2 v))=[] then [v] else dh l (r.map (fk m.2.2.2.2 v)),0) else ([],6))
 |[],pre,h,c,l,at_,M,hs,hl,hM=>by
  obtain ⟨k,rfl⟩:∃k,M=k+1:=⟨M-1,by omega⟩;rw [ao];simp only [yA,Sy.uB h];exact amW hm b hs (λl _=>some (l,0)) (λ_ _=>rfl)
 |i::r,pre,h,c,l,at_,M,hs,hl,hM=>by
  obtain ⟨k,rfl⟩:∃k,M=k+1:=⟨M-1,by omega⟩;rw [ao];have o:pre.length+r.length+1=L.length:=by rw [h];simp;omega
  obtain ⟨e,d⟩:=p i (by rw [h];simp);simp only [yA,Sy.uz h,ca,Sy.lR h,ah,j6];rw [show (m.1,m.2.1,m.2.2.1,m.2.2.2.1,m.2.2.2.2)=m from rfl,apK hm b.len i];unfold Oe;rw [dk (by omega),ah];unfold fin;rw [eT,qm];obtain ⟨x,_,t⟩:=sf m.2.2.2.2 i e d;have f:(fk m.2.2.2.2 v i).length=m.2.1.length:=by unfold fk;rw [t,<-b.len];exact MZ v x
  cases s:fits m.2.1 (fk m.2.2.2.2 v i)
  .grind
  .have a:s8 m.2.1 (fk m.2.2.2.2 v i):=⟨f,s⟩;obtain ⟨j,w,u⟩:=add_eq (a.i64 hm) (a.short hm) (a.ne hm) (by omega) hs;have q:=EY l (fk m.2.2.2.2 v i);have n:=BO m v hm b L p g r (pre++[i]) (by rw [h];simp) c (ik l (fk m.2.2.2.2 v i)) j k u (by simp;omega) (by simp at hM;omega);rw [show ((pre++[i]).length)=((pre.length+1:Nat)) by simp] at n;rw [ca,show ((0:Int) != 0)=false from rfl,b7];simp only [w,ah,Pa.bR (show pre.length<4611686018427387904 by omega)];rw [n,iQ];rfl
theorem an8{m:Sy.bw}(hm:SafeS m.2.1 m.2.2.2.2)(h:s8 m.2.1 v):Ga m v=some (fL m.2.1 m.2.2.2.2 v):=by
 have b:(mW v 0 m.2.2.2.2).length<=300:=by rw [I0];have:=qS (λc:Sy.aT=>decide (ev v c.2.1=1)) m.2.2.2.2;have:=hm.cmds;unfold enC;omega
 have f:=BO m v hm h (mW v 0 m.2.2.2.2) (λi hi=>ah1 hi) b (mW v 0 m.2.2.2.2) [] rfl 0 [] none au akB (cH _) (by show _<2^64;omega);have a:(mW v 0 m.2.2.2.2).map (fk m.2.2.2.2 v)=goes v m.2.2.2.2:=UD v m.2.2.2.2 m.2.2.2.2 [] rfl;rw [a] at f;unfold Ga Jn;rw [ah];rw [show (m.1,m.2.1,m.2.2.1,m.2.2.2.1,m.2.2.2.2)=m from rfl,ar6 hm,ah];rw [show ((([]:zj).length):Int)=0 from rfl] at f;rw [f];unfold fL SN;cases ha:(goes v m.2.2.2.2).all (fits m.2.1)
 .grind
 .rw [du rfl,ca];by_cases d:goes v m.2.2.2.2=[]
  .rw [du d,du (by rw [d];rfl)]
  .rw [dk d,dk];intro e;cases g:goes v m.2.2.2.2 with
   |nil=>exact d g
   |cons x r=>
    have:x∈dh [] (x::r):=nb.2 (.inr (by simp));grind
end Sp
end
end Go.Proofs.YtcgihjbfppkcfaaGreatDoor
