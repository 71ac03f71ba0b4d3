/- Own texts for NestAlwaysQ, cut and joined by a program. -/
import Derived.Test.YtcgihjbfppkcfaaGreatDoorNestAlwaysQI
set_option linter.all false
namespace Go.Proofs.YtcgihjbfppkcfaaGreatDoor
open IntKind (u64)
noncomputable section
variable {d : Int}
def xw:List aE:=[[116,114,117,101],[102,97,108,115,101],[88],[70],[71],[85],[82],[118,97,114],[112,114,111,99]]
def aoM:List aE:=[[],[],[],[43],[45],[42],[45],[61,61],[33,61],[60],[60,61],[62],[62,61],[116,114,117,101],[102,97,108,115,101],[33],[38],[124],[45,62],[60,45,62],[88],[70],[71],[85],[82]]
def bQ(op:Int):aE:=aoM.getD op.toNat []
namespace Pa
abbrev Tok:=Int×aE×Int×Int
abbrev Out:=Except (Int×Int) (Ex×List Tok)
def key(s:aE):Bool:=xw.contains s
def x4(t:Tok):Bool:=t.1==3||(t.1==1&&key t.2.1)
def ops:Nat->zn
 |1=>[19]
 |2=>[18]
 |3=>[17]
 |4=>[16]
 |5=>[23,24]
 |6=>[15,20,21,22]
 |7=>[7,8,9,10,11,12]
 |8=>[3,4]
 |9=>[5]
 |10=>[6]
 |11=>[13,14]
 |_=>[]
def Dq(l:zn)(t:Tok):zf:=bif x4 t then l.find? (λo=>bQ o==t.2.1) else none
def dx(s:Nat)(t:Tok):zf:=Dq (ops s) t
def kd:Nat->Nat
 |6=>0
 |10=>0
 |1=>1
 |2=>1
 |5=>1
 |7=>1
 |3=>2
 |4=>2
 |8=>2
 |9=>2
 |11=>3
 |_=>4
def yz(s:Nat):Bool:=s==1||s==2||s==5||s==6||s==10
def dn(s:Nat)(d:Int):Int:=bif yz s then d+1 else d
def pW(s:Nat)(d:Int):Bool:=yz s&&decide (320<=d)
def nx(s:Nat):Nat:=bif s==7 then 8 else s
def at_(names:List aE)(v:aE):zg:=names.findIdx? (λx=>v==x)
def open_(t:Tok):Bool:=t.1==3&&t.2.1==[40]
def close_(t:Tok):Bool:=t.1==3&&t.2.1==[41]
def Bt(t:Tok):Bool:=t.1==1&& !key t.2.1
def aoL(k:Int)(a:Int)(r:Out):Out:=r.map λp=>(.mk k 0 a [p.1],p.2)
def aou(k:Int)(a:Int)(x:Ex)(r:Out):Out:=r.map λp=>(.mk k 0 a [x,p.1],p.2)
inductive Be where
 |line (s:Nat)
 |loop (s:Nat) (a:Ex)
open Be
inductive P(names:List aE):Be->Int->List Tok->Out->Prop
 |sI {s d t ts}:pW s d=true->P names (line s) d (t::ts) (.error (9,t.2.2.2))
 |pre {s d t ts k r}:kd s=0->pW s d=false->dx s t=some k->P names (line s) (dn s d) ts r->P names (line s) d (t::ts) (aoL k t.2.2.2 r)
 |other {s d t ts r}:kd s=0->pW s d=false->dx s t=none->P names (line (s+1)) (dn s d) (t::ts) r->P names (line s) d (t::ts) r
 |rErr {s d ts e}:kd s=1->pW s d=false->P names (line (s+1)) (dn s d) ts (.error e)->P names (line s) d ts (.error e)
 |rOne {s d ts a t ts'}:kd s=1->pW s d=false->P names (line (s+1)) (dn s d) ts (.ok (a,t::ts'))->dx s t=none->P names (line s) d ts (.ok (a,t::ts'))
 |rTwo {s d ts a t ts' k r}:kd s=1->pW s d=false->P names (line (s+1)) (dn s d) ts (.ok (a,t::ts'))->dx s t=some k->P names (line (nx s)) (dn s d) ts' r->P names (line s) d ts (aou k t.2.2.2 a r)
 |lErr {s d ts e}:kd s=2->P names (line (s+1)) d ts (.error e)->P names (line s) d ts (.error e)
 |lGo {s d ts a ts' r}:kd s=2->P names (line (s+1)) d ts (.ok (a,ts'))->P names (loop s a) d ts' r->P names (line s) d ts r
 |lpEnd {s a d t ts}:dx s t=none->P names (loop s a) d (t::ts) (.ok (a,t::ts))
 |lpErr {s a d t ts k e}:dx s t=some k->P names (line (s+1)) d ts (.error e)->P names (loop s a) d (t::ts) (.error e)
 |lpGo {s a d t ts k b ts' r}:dx s t=some k->P names (line (s+1)) d ts (.ok (b,ts'))->P names (loop s (.mk k 0 t.2.2.2 [a,b])) d ts' r->P names (loop s a) d (t::ts) r
 |oWord {s d t ts k}:kd s=3->dx s t=some k->P names (line s) d (t::ts) (.ok (.mk k 0 t.2.2.2 [],ts))
 |oNum {s d t ts}:kd s=3->dx s t=none->(t.1==2)=true->P names (line s) d (t::ts) (.ok (.mk 1 t.2.2.1 t.2.2.2 [],ts))
 |oVar {s d t ts i}:kd s=3->dx s t=none->(t.1==2)=false->Bt t=true->at_ names t.2.1=some i->P names (line s) d (t::ts) (.ok (.mk 2 (i:Int) t.2.2.2 [],ts))
 |oName {s d t ts}:kd s=3->dx s t=none->(t.1==2)=false->Bt t=true->at_ names t.2.1=none->P names (line s) d (t::ts) (.error (3,t.2.2.2))
 |oOpen {s d t ts a c ts'}:kd s=3->dx s t=none->(t.1==2)=false->Bt t=false->open_ t=true->P names (line 1) d ts (.ok (a,c::ts'))->close_ c=true->P names (line s) d (t::ts) (.ok (a,ts'))
 |oErr {s d t ts e}:kd s=3->dx s t=none->(t.1==2)=false->Bt t=false->open_ t=true->P names (line 1) d ts (.error e)->P names (line s) d (t::ts) (.error e)
 |oClose {s d t ts a c ts'}:kd s=3->dx s t=none->(t.1==2)=false->Bt t=false->open_ t=true->P names (line 1) d ts (.ok (a,c::ts'))->close_ c=false->P names (line s) d (t::ts) (.error (2,c.2.2.2))
 |oForm {s d t ts}:kd s=3->dx s t=none->(t.1==2)=false->Bt t=false->open_ t=false->P names (line s) d (t::ts) (.error (2,t.2.2.2))
theorem pa{s:Nat}(h:pW s d=true):kd s=0\/kd s=1:=by unfold pW yz at h;simp at h;rcases h.1 with (((rfl|rfl)|rfl)|rfl)|rfl <;> simp [kd]
theorem P.det{names:List aE}{j:Be}{n:List Tok}{r l:Out}(h:P names j d n r)(b:P names j d n l):r=l:=by
 induction h generalizing l with
 |sI a=>have:=pa a;cases b <;> simp_all
 |pre a c f e ih=>cases b <;> simp_all <;> (rename_i g;rw [ih g])
 |other a c f e ih=>
  cases b with
  |other _ _ _ h=>exact ih h
  |_=>simp_all
 |rErr a c f ih=>
  cases b with
  |rErr _ _ h=>exact ih h
  |rOne _ _ h=>cases ih h
  |rTwo _ _ h=>cases ih h
  |_=>simp_all
 |rOne a c f e ih=>
  cases b with
  |rErr _ _ h=>cases ih h
  |rOne _ _ h=>exact ih h
  |rTwo _ _ h g=>cases ih h;simp_all
  |_=>simp_all
 |rTwo a c f e g ih i=>
  cases b with
  |rErr _ _ h=>cases ih h
  |rOne _ _ h=>cases ih h;simp_all
  |rTwo _ _ h k m=>cases ih h;rw [e] at k;cases k;rw [i m]
  |_=>simp_all
 |lErr a c ih=>
  cases b with
  |lErr _ h=>exact ih h
  |lGo _ h=>cases ih h
  |sI h=>have:=pa h;simp_all
  |_=>simp_all
 |lGo a c f ih i=>
  cases b with
  |lErr _ h=>cases ih h
  |lGo _ h e=>cases ih h;exact i e
  |sI h=>have:=pa h;simp_all
  |_=>simp_all
 |lpEnd a=>cases b <;> simp_all
 |lpErr a c ih=>
  cases b with
  |lpErr _ h=>exact ih h
  |lpGo _ h=>cases ih h
  |_=>simp_all
 |lpGo a c f ih i=>
  cases b with
  |lpErr _ h=>cases ih h
  |lpGo g h e=>cases ih h;rw [a] at g;cases g;exact i e
  |_=>simp_all
 |oOpen a c f e g k m ih=>
  cases b with
  |oOpen _ _ _ _ _ h _=>cases ih h;rfl
  |oErr _ _ _ _ _ h=>cases ih h
  |oClose _ _ _ _ _ h o=>cases ih h;simp_all
  |sI h=>have:=pa h;simp_all
  |_=>simp_all
 |oErr a c f e g k ih=>
  cases b with
  |oOpen _ _ _ _ _ h _=>cases ih h
  |oErr _ _ _ _ _ h=>exact ih h
  |oClose _ _ _ _ _ h o=>cases ih h
  |sI h=>have:=pa h;simp_all
  |_=>simp_all
 |oClose a c f e g k m ih=>
  cases b with
  |oOpen _ _ _ _ _ h _=>cases ih h;simp_all
  |oErr _ _ _ _ _ h=>cases ih h
  |oClose _ _ _ _ _ h o=>cases ih h;rfl
  |sI h=>have:=pa h;simp_all
  |_=>simp_all
 |oWord a c=>cases b <;> first|(rename_i h;have:=pa h;simp_all;done)|simp_all
 |oNum a c f=>cases b <;> first|grind [pa]|simp_all
 |oVar a c f e g=>cases b <;> first|grind [pa]|simp_all
 |oName a c f e g=>cases b <;> first|grind [pa]|simp_all
 |oForm a c f e g=>cases b <;> first|grind [pa]|simp_all
def Ends:List Tok->Prop
 |[]=>False
 |t::ts=>Ends ts\/(ts=[]/\t.1=4)
theorem Ends.tail{t:Tok}{a:List Tok}(h:Ends (t::a))(b:t.1≠4):Ends a:=by
 rcases h with h|⟨_,h⟩
 .exact h
 .exact absurd h b
theorem Ends.ne{a:List Tok}(h:Ends a):∃t r,a=t::r:=by
 cases a with
 |nil=>exact h.elim
 |cons t r=>exact ⟨t,r,rfl⟩
theorem aof{t:Tok}(h:x4 t=true):t.1≠4:=by grind [x4]
theorem anX{l:zn}{t:Tok}{k:Int}(h:Dq l t=some k):x4 t=true:=by grind [Dq,x4]
theorem apv{l:zn}{t:Tok}{k:Int}(h:Dq l t=some k):t.1≠4:=aof (anX h)
theorem EG{s:Nat}{t:Tok}{k:Int}(h:dx s t=some k):t.1≠4:=apv h
def shorter:Be->Nat->Nat->Prop
 |line _,a,b=>a<b
 |loop _ _,a,b=>a<=b
theorem P.ends{names:List aE}{j:Be}{m:List Tok}{r:Out}(h:P names j d m r):Ends m->∀p,r= .ok p->Ends p.2/\shorter j p.2.length m.length:=by
 induction h with
 |sI=>intro _ p h;cases h
 | @pre s d t m k r c f g l ih=>
  intro b p h;cases r with
  |error e=>cases h
  |ok q=>
   obtain ⟨n,o⟩:=ih (b.tail (EG g)) q rfl;cases h;grind [shorter,List.length_cons]
 |other c f g l ih=>intro b p h;exact ih b p h
 |rErr=>intro _ p h;cases h
 |rOne c f g l ih=>intro b p h;exact ih b p h
 | @rTwo s d m a t ts' k r c f g l u ih i=>
  intro b p h;cases r with
  |error e=>cases h
  |ok q=>
   obtain ⟨n,o⟩:=ih b _ rfl;obtain ⟨w,v⟩:=i (n.tail (EG l)) q rfl;cases h;grind [shorter,List.length_cons]
 |lErr=>intro _ p h;cases h
 |lGo c f g ih i=>
  grind [shorter]
 |lpEnd c=>intro b p h;cases h;exact ⟨b,c8 _⟩
 |lpErr=>intro _ p h;cases h
 |lpGo c f g ih i=>
  intro b p h;obtain ⟨n,o⟩:=ih (b.tail (EG c)) _ rfl;grind [shorter,List.length_cons]
 |oWord c f=>intro b p h;cases h;exact ⟨b.tail (EG f),mE _⟩
 |oNum c f g=>intro b p h;cases h;exact ⟨b.tail (by grind),mE _⟩
 |oVar c f g l u=>intro b p h;cases h;exact ⟨b.tail (by simp_all [Bt,an]),mE _⟩
 |oName=>intro _ p h;cases h
 |oOpen c f g l u y x ih=>
  intro b p h;cases h;obtain ⟨n,o⟩:=ih (b.tail (by simp_all [open_,an])) _ rfl;refine ⟨n.tail (by simp_all [close_,an]),?_⟩;grind [shorter,List.length_cons]
 |oErr=>intro _ p h;cases h
 |oClose=>intro _ p h;cases h
 |oForm=>intro _ p h;cases h
theorem P.err{names:List aE}{j:Be}{b:List Tok}{r:Out}(h:P names j d b r):∀e,r= .error e->e.1=9\/e.1=2\/e.1=3:=by
 induction h with
 |sI=>grind
 | @pre s d t b k r i g f c ih=>
  intro e h;cases r with
  |error e'=>cases h;exact ih _ rfl
  |ok q=>cases h
 |other i g f c ih=>exact ih
 |rErr _ _ _ ih=>exact ih
 |rOne=>intro e h;cases h
 | @rTwo s d b a t ts' k r i g f c h4 ih ih2=>
  intro e h;cases r with
  |error e'=>cases h;exact ih2 _ rfl
  |ok q=>cases h
 |lErr _ _ ih=>exact ih
 |lGo _ _ _ _ ih=>exact ih
 |lpEnd=>intro e h;cases h
 |lpErr _ _ ih=>exact ih
 |lpGo _ _ _ _ ih=>exact ih
 |oWord=>intro e h;cases h
 |oNum=>intro e h;cases h
 |oVar=>intro e h;cases h
 |oName=>grind
 |oOpen=>intro e h;cases h
 |oErr _ _ _ _ _ _ ih=>exact ih
 |oClose=>grind
 |oForm=>grind
end Pa
namespace Sy
open Pa
abbrev aS:=Int×Ex×List (Int×Ex)
abbrev bn:=List aE×yx×zn×List aE×List aS
abbrev gR:=Int×Int
def EF(names:List aE)(ts:List Tok):Out:=
 open Classical in if h :∃r, P names (.line 1) 0 ts r then Classical.choose h else .error (2, 0)
theorem akH{names:List aE}{a:List Tok}{r:Out}(h:P names (.line 1) 0 a r):EF names a=r:=by unfold EF;rw [qX ⟨r,h⟩];exact (Classical.choose_spec (⟨r,h⟩)).det h
theorem aiY{names:List aE}{a:List Tok}{p:Ex×List Tok}(h:EF names a= .ok p):P names (.line 1) 0 a (.ok p):=by
 unfold EF at h;split at h
 .grind
 .cases h
def yc(k:Int)(x:aE)(t:Tok):Bool:=(t.1==k)&&(t.2.1==x)
def Qf:List Tok->Int
 |[]=>0
 |t::_=>t.2.2.2
def sS(k:Int)(x:aE):List Tok->Bool
 |[]=>false
 |t::_=>yc k x t
def bY(x:aE)(ts:List Tok):Except gR (List Tok):=match ts with
 |[]=> .error (2,0)
 |t::r=>bif yc 3 x t then .ok r else .error (2,t.2.2.2)
def fC(full:Bool)(names procs:List aE)(ts:List Tok):Except gR (aE×List Tok):=match ts with
 |[]=> .error (2,0)
 |t::r=>bif t.1 != 1 then .error (2,t.2.2.2) else bif key t.2.1||names.contains t.2.1||procs.contains t.2.1 then .error (3,t.2.2.2) else bif full then .error (9,t.2.2.2) else .ok (t.2.1,r)
def rK(neg:Bool)(ts:List Tok):Except gR (Int×List Tok):=match ts with
 |[]=> .error (2,0)
 |t::r=>bif t.1 != 2 then .error (2,t.2.2.2) else .ok (bif neg then IntKind.i64.wrap (0-t.2.2.1) else t.2.2.1,r)
def fP(ts:List Tok):Except gR (Int×List Tok):=bif sS 3 [45] ts then rK true ts.tail else rK false ts
def lV(lo hi:Int):Bool:= !(decide (hi<lo))&& !(decide (lo< -1073741824))&& !(decide (1073741824<hi))&& !(decide (65535<IntKind.i64.wrap (hi-lo)))
def pX(m:bn)(ts:List Tok):Except gR (bn×List Tok):=
 match fC (decide (16<=(m.1.length:Int))) m.1 m.2.2.2.1 ts with
 | .error e=> .error e
 | .ok (name,ts1)=>match fP ts1 with
  | .error e=> .error e
  | .ok (lo,ts2)=>match fP ts2 with
   | .error e=> .error e
   | .ok (hi,ts3)=>match fP ts3 with
    | .error e=> .error e
    | .ok (first,ts4)=>match bY [59] ts4 with
     | .error e=> .error e
     | .ok ts5=>bif !(lV lo hi)||decide (first<lo)||decide (hi<first) then .error (5,Qf ts1) else .ok ((m.1++[name],m.2.1++[(lo,hi)],m.2.2.1++[first],m.2.2.2.1,m.2.2.2.2),ts5)
def ek(want:Int)(names:List aE)(ts:List Tok):Except gR (Ex×List Tok):=
 match EF names ts with
 | .error e=> .error e
 | .ok (x,r)=>bif (rt x).2.1 != 0 then .error ((rt x).2.1,(rt x).2.2) else bif (rt x).1 != want then .error (4,x.at_) else .ok (x,r)
def eR(names:List aE)(v:aE):Int:=match at_ names v with
 |some i=>(i:Int)
 |none=> -1
def BO(acc:List (Int×Ex))(i:Int):Bool:=acc.any (λs=>s.1==i)
def fv(names:List aE):Nat->List (Int×Ex)->List Tok->Except gR (List (Int×Ex)×List Tok)
 |0,_,_=> .error (2,0)
 |f+1,acc,ts=>match ts with
  |[]=> .error (2,0)
  |t::r=>bif t.1 != 1 then .error (2,t.2.2.2) else bif decide (eR names t.2.1<0)||BO acc (eR names t.2.1) then .error (3,t.2.2.2) else
   match bY [61] r with
   | .error e=> .error e
   | .ok r1=>match ek 1 names r1 with
    | .error e=> .error e
    | .ok (x,r2)=>bif sS 3 [44] r2 then fv names f (acc++[(eR names t.2.1,x)]) r2.tail else .ok (acc++[(eR names t.2.1,x)],r2)
def mZ(m:bn)(ts:List Tok):Except gR (bn×List Tok):=
 bif decide (256<=(m.2.2.2.2.length:Int)) then .error (9,Qf ts) else
 match ek 2 m.1 ts with
 | .error e=> .error e
 | .ok (g,r1)=>match bY [58] r1 with
  | .error e=> .error e
  | .ok r2=>match fv m.1 (r2.length+1) [] r2 with
   | .error e=> .error e
   | .ok (sets,r3)=>match bY [59] r3 with
    | .error e=> .error e
    | .ok r4=> .ok ((m.1,m.2.1,m.2.2.1,m.2.2.2.1,m.2.2.2.2++[(IntKind.i64.wrap ((m.2.2.2.1.length:Int)-1),g,sets)]),r4)
def lz:Nat->bn->List Tok->Except gR (bn×List Tok)
 |0,_,_=> .error (2,0)
 |f+1,m,ts=>bif sS 3 [125] ts then .ok (m,ts.tail) else match mZ m ts with
  | .error e=> .error e
  | .ok (m',r)=>lz f m' r
def uW(m:bn)(ts:List Tok):Except gR (bn×List Tok):=
 match fC false m.1 m.2.2.2.1 ts with
 | .error e=> .error e
 | .ok (name,r1)=>match bY [123] r1 with
  | .error e=> .error e
  | .ok r2=>lz (r2.length+1) (m.1,m.2.1,m.2.2.1,m.2.2.2.1++[name],m.2.2.2.2) r2
def oN:Nat->bn->List Tok->Except gR bn
 |0,_,_=> .error (2,0)
 |f+1,m,ts=>match ts with
  |[]=> .error (2,0)
  |t::r=>bif t.1==4 then (bif m.1.isEmpty then .error (2,t.2.2.2) else .ok m)
   else bif yc 1 [118,97,114] t then (match pX m r with
    | .error e=> .error e
    | .ok (m',r')=>oN f m' r')
   else bif yc 1 [112,114,111,99] t then (match uW m r with
    | .error e=> .error e
    | .ok (m',r')=>oN f m' r')
   else .error (2,t.2.2.2)
def sys(l:List Tok):Except gR bn:=oN (l.length+1) ([],[],[],[],[]) l
def O3:Except gR bn->bn×Int×Int
 | .ok m=>(m,0,0)
 | .error e=>(([],[],[],[],[]),e.1,e.2)
def iA(ts ts':List Tok):Prop:=Pa.Ends ts'/\ts'.length<ts.length
theorem YE{k:Int}{x:aE}{t:Tok}(h:yc k x t=true)(hk:k≠4):t.1≠4:=by simp_all [yc,an]
theorem lX{x:aE}{a r:List Tok}(c:Pa.Ends a)(h:bY x a= .ok r):iA a r:=by
 obtain ⟨t,d,rfl⟩:=c.ne;simp [bY] at h;cases b:yc 3 x t
 .rw [b] at h;cases h
 .rw [b] at h;cases h;exact ⟨c.tail (YE b (by decide)),mE _⟩
theorem Pb{full:Bool}{names a:List aE}{c:List Tok}{p:aE×List Tok}(d:Pa.Ends c)(h:fC full names a c= .ok p):
  iA c p.2/\key p.1=false/\names.contains p.1=false/\a.contains p.1=false/\full=false:=by
 obtain ⟨t,f,rfl⟩:=d.ne;simp only [fC] at h;cases e:(t.1 != 1)
 .rw [e] at h;cases b:(key t.2.1||names.contains t.2.1||a.contains t.2.1)
  .rw [b] at h;cases full
   .cases h;simp only [n9] at b;have  :=by simpa using e
    exact ⟨⟨d.tail (by omega),mE _⟩,b.1.1,b.1.2,b.2,rfl⟩
   .cases h
  grind
 grind
theorem Xr{b:Bool}{a:List Tok}{p:Int×List Tok}(c:Pa.Ends a)(h:rK b a= .ok p):iA a p.2:=by
 obtain ⟨t,e,rfl⟩:=c.ne;simp [rK] at h;cases d:(t.1 != 2)
 .rw [d] at h;cases h;have  :=by simpa using d
  exact ⟨c.tail (by omega),mE _⟩
 grind
theorem nZ{k:Int}{x:aE}{a:List Tok}(b:Pa.Ends a)(hk:k≠4)(h:sS k x a=true):Pa.Ends a.tail/\a.tail.length+1=a.length:=by obtain ⟨t,c,rfl⟩:=b.ne;exact ⟨b.tail (YE h hk),rfl⟩
theorem Ul{a:List Tok}{p:Int×List Tok}(c:Pa.Ends a)(h:fP a= .ok p):iA a p.2:=by
 unfold fP at h;cases b:sS 3 [45] a
 .grind [Xr]
 .rw [b] at h;obtain ⟨e,g⟩:=nZ c (by decide) b;obtain ⟨d,f⟩:=Xr e h;exact ⟨d,by omega⟩
theorem sG{a:Int}{names:List aE}{b:List Tok}{p:Ex×List Tok}(g:Pa.Ends b)(h:ek a names b= .ok p):
  iA b p.2/\P names (.line 1) 0 b (.ok p)/\(rt p.1).2.1=0/\(rt p.1).1=a:=by
 unfold ek at h;cases c:EF names b with
 |error e=>rw [c] at h;cases h
 |ok q=>
  obtain ⟨x,r⟩:=q;rw [c] at h;simp only at h;cases f:((rt x).2.1 != 0)
  .rw [f] at h;cases d:((rt x).1 != a)
   .rw [d] at h;cases h;have hp:=aiY c;exact ⟨hp.ends g _ rfl,hp,by simpa using f,by simpa using d⟩
   grind
  grind
theorem iA.trans{a b c:List Tok}(h:iA a b)(k:iA b c):iA a c:=⟨k.1,Nat.lt_trans k.2 h.2⟩
theorem Yi{names:List aE}:∀(f:Nat) (acc:List (Int×Ex)) (a:List Tok) (p:List (Int×Ex)×List Tok),Pa.Ends a->fv names f acc a= .ok p->iA a p.2:=by
 intro f
 induction f with
 |zero=>grind [fv]
 |succ f ih=>
  intro acc a p l h;obtain ⟨t,r,rfl⟩:=l.ne;simp [fv] at h;cases j:(t.1 != 1)
  case true=>rw [j] at h;cases h
  rw [j] at h;cases n:(decide (eR names t.2.1<0)||BO acc (eR names t.2.1))
  case true=>rw [n] at h;cases h
  rw [n] at h;have ht  :=by simpa using j
  have d:=l.tail (by omega);cases i:bY [61] r with
  |error e=>rw [i] at h;cases h
  |ok r1=>
   rw [i] at h;simp only at h;have k:=lX d i;cases g:ek 1 names r1 with
   |error e=>rw [g] at h;cases h
   |ok q=>
    obtain ⟨x,r2⟩:=q;rw [g] at h;simp only at h;have b:iA r1 r2:=(sG k.1 g).1;have c:iA (t::r) r2:=⟨b.1,by have:=k.2;have:=b.2;grind⟩;cases m:sS 3 [44] r2
    .grind
    .rw [m] at h;obtain ⟨o,s⟩:=nZ b.1 (by decide) m;have:=ih _ _ _ o h;exact ⟨this.1,by have:=this.2;have:=c.2;omega⟩
theorem acj{m:bn}{c:List Tok}{p:bn×List Tok}(C:Pa.Ends c)(h:pX m c= .ok p):iA c p.2/\
  ∃a lo hi first,p.1=(m.1++[a],m.2.1++[(lo,hi)],m.2.2.1++[first],m.2.2.2.1,m.2.2.2.2)/\lV lo hi=true/\lo<=first/\first<=hi/\m.1.length<16/\m.1.contains a=false:=by
 unfold pX at h;cases r:fC (decide (16<=(m.1.length:Int))) m.1 m.2.2.2.1 c with
 |error e=>rw [r] at h;cases h
 |ok B=>
  obtain ⟨a,i⟩:=B;rw [r] at h;simp only at h;obtain ⟨v,_,j,_,b⟩:=Pb C r;cases q:fP i with
  |error e=>rw [q] at h;cases h
  |ok A=>
   obtain ⟨lo,g⟩:=A;rw [q] at h;simp only at h;have u:=Ul v.1 q;cases o:fP g with
   |error e=>rw [o] at h;cases h
   |ok z=>
    obtain ⟨hi,f⟩:=z;rw [o] at h;simp only at h;have t:=Ul u.1 o;cases n:fP f with
    |error e=>rw [n] at h;cases h
    |ok y=>
     obtain ⟨first,d⟩:=y;rw [n] at h;simp only at h;have s:=Ul t.1 n;cases l:bY [59] d with
     |error e=>rw [l] at h;cases h
     |ok w=>
      rw [l] at h;have x:=lX s.1 l;cases k:(!(lV lo hi)||decide (first<lo)||decide (hi<first))
      .rw [k] at h;cases h;simp at k;simp at b;exact ⟨(((v.trans u).trans t).trans s).trans x,a,lo,hi,first,rfl,k.1.1,by omega,by omega,by omega,j⟩
      grind
theorem Ue{m:bn}{a:List Tok}{p:bn×List Tok}(s:Pa.Ends a)(h:mZ m a= .ok p):iA a p.2/\
  ∃g r1 r2 sets b,m.2.2.2.2.length<256/\ek 2 m.1 a= .ok (g,r1)/\Pa.Ends r2/\fv m.1 (r2.length+1) [] r2= .ok (sets,b)/\
   p.1=(m.1,m.2.1,m.2.2.1,m.2.2.2.1,m.2.2.2.2++[(IntKind.i64.wrap ((m.2.2.2.1.length:Int)-1),g,sets)])/\bY [58] r1= .ok r2/\bY [59] b= .ok p.2:=by
 unfold mZ at h;cases k:decide (256<=(m.2.2.2.2.length:Int))
 case true=>rw [k] at h;cases h
 rw [k] at h;simp at k;cases j:ek 2 m.1 a with
 |error e=>rw [j] at h;cases h
 |ok r=>
  obtain ⟨g,r1⟩:=r;rw [j] at h;simp only at h;have n:=(sG s j).1;cases f:bY [58] r1 with
  |error e=>rw [f] at h;cases h
  |ok r2=>
   rw [f] at h;simp only at h;have i:=lX n.1 f;cases d:fv m.1 (r2.length+1) [] r2 with
   |error e=>rw [d] at h;cases h
   |ok q=>
    obtain ⟨sets,b⟩:=q;rw [d] at h;simp only at h;have l:=Yi _ _ _ _ i.1 d;cases c:bY [59] b with
    |error e=>rw [c] at h;cases h
    |ok t=>
     rw [c] at h;cases h;have o:=lX l.1 c;exact ⟨((n.trans i).trans l).trans o,g,r1,r2,sets,b,by omega,rfl,i.1,d,rfl,f,c⟩
end Sy
variable {s : Nat}
namespace Pa
open Be
def Jp:Be->Nat
 |line _=>0
 |loop _ a=>a.sz
theorem aai(k n a:Int):(Ex.mk k n a []).sz=1:=by simp [Ex.sz,EJ]
theorem ao8(k n a:Int)(x:Ex):(Ex.mk k n a [x]).sz=x.sz+1:=by simp [Ex.sz,EJ]
theorem afG(k n a:Int)(x y:Ex):(Ex.mk k n a [x,y]).sz=x.sz+y.sz+1:=by simp [Ex.sz,EJ]
theorem P.size{names:List aE}{j:Be}{l:List Tok}{r:Out}(h:P names j d l r):∀p,r= .ok p->p.1.sz+p.2.length<=l.length+Jp j:=by
 induction h with
 |sI=>intro p h;cases h
 | @pre s d t l k r b c f i ih=>
  intro p h;cases r with
  |error e=>cases h
  |ok q=>cases h;grind [Jp,ao8,List.length_cons]
 |other b c f i ih=>intro p h;exact ih p h
 |rErr=>intro p h;cases h
 |rOne b c f i ih=>intro p h;exact ih p h
 | @rTwo s d l a t ts' k r b c f i m ih g=>
  intro p h;cases r with
  |error e=>cases h
  |ok q=>cases h;grind [Jp,afG,List.length_cons]
 |lErr=>intro p h;cases h
 |lGo b c f ih g=>grind [Jp]
 |lpEnd b=>grind [Jp]
 |lpErr=>intro p h;cases h
 |lpGo b c f ih g=>grind [Jp,afG,List.length_cons]
 |oWord b c=>grind [Jp,aai,List.length_cons]
 |oNum b c f=>grind [Jp,aai,List.length_cons]
 |oVar b c f i m=>grind [Jp,aai,List.length_cons]
 |oName=>intro p h;cases h
 |oOpen b c f i m o n ih=>grind [Jp,List.length_cons]
 |oErr=>intro p h;cases h
 |oClose=>intro p h;cases h
 |oForm=>intro p h;cases h
theorem P.suf{names:List aE}{j:Be}{l:List Tok}{r:Out}(h:P names j d l r):∀p,r= .ok p->p.2 <:+ l:=by
 induction h with
 |sI=>intro p h;cases h
 | @pre s d t l k r b c f i ih=>
  intro p h;cases r with
  |error e=>cases h
  |ok q=>cases h;grind
 |other b c f i ih=>exact ih
 |rErr=>intro p h;cases h
 |rOne b c f i ih=>exact ih
 | @rTwo s d l a t ts' k r b c f i m ih g=>
  intro p h;cases r with
  |error e=>cases h
  |ok q=>cases h;grind [List.suffix_cons,trans]
 |lErr=>intro p h;cases h
 |lGo b c f ih g=>grind
 |lpEnd b=>grind
 |lpErr=>intro p h;cases h
 |lpGo b c f ih g=>grind
 |oWord b c=>grind
 |oNum b c f=>grind
 |oVar b c f i m=>grind
 |oName=>intro p h;cases h
 |oOpen b c f i m o n ih=>intro p h;cases h;exact ((qZ _ _).trans (ih _ rfl)).trans (qZ _ _)
 |oErr=>intro p h;cases h
 |oClose=>intro p h;cases h
 |oForm=>intro p h;cases h
def Bp(t:Tok):Prop:=t.1=2->0<=t.2.2.1/\t.2.2.1<=1073741824
theorem Hv{t:Tok}{k:Int}(h:dx s t=some k):k∈ops s:=by grind [dx,Dq,x4,List.mem_of_find?_eq_some]
theorem amf(hk:kd s=0){k:Int}(h:k∈ops s)(a:Int):xM k 0 1 (p6 k) a=true:=by
 have:s=6\/s=10:=by unfold kd at hk;grind
 rcases this with rfl|rfl
 .simp [ops,oi,qy,or_false] at h;rcases h with rfl|rfl|rfl|rfl <;> rfl
 .simp [ops,oi,qy,or_false] at h;subst h;rfl
theorem abo(hk:kd s=1\/kd s=2){k:Int}(h:k∈ops s)(a:Int):xM k 0 2 (p6 k) a=true:=by
 have:s=1\/s=2\/s=3\/s=4\/s=5\/s=7\/s=8\/s=9:=by unfold kd at hk;grind
 rcases this with rfl|rfl|rfl|rfl|rfl|rfl|rfl|rfl <;> simp [ops,oi,qy,or_false] at h
 .subst h;rfl
 .subst h;rfl
 .subst h;rfl
 .subst h;rfl
 .rcases h with rfl|rfl <;> rfl
 .rcases h with rfl|rfl|rfl|rfl|rfl|rfl <;> rfl
 .rcases h with rfl|rfl <;> rfl
 .subst h;rfl
theorem aiN(hk:kd s=3){k:Int}(h:k∈ops s)(a:Int):xM k 0 0 (p6 k) a=true:=by
 have:s=11:=by unfold kd at hk;grind
 subst this;simp [ops,oi,qy,or_false] at h;rcases h with rfl|rfl <;> rfl
theorem SM{b k n a:Int}(h:xM k n 0 (p6 k) b=true):jy b (.mk k n a [])=true:=by simp [jy,CE];grind
theorem anY{b k a:Int}{x:Ex}(h:xM k 0 1 (p6 k) b=true)(hx:jy b x=true):jy b (.mk k 0 a [x])=true:=by simp [jy,CE,ei];grind
theorem acL{b k a:Int}{x y:Ex}(h:xM k 0 2 (p6 k) b=true)(hx:jy b x=true)(c:jy b y=true):jy b (.mk k 0 a [x,y])=true:=by simp [jy,CE,ei];grind
def aqE(vars:Int):Be->Bool
 |line _=>true
 |loop _ a=>jy vars a
def okJ:Be->Prop
 |line _=>True
 |loop s _=>kd s=2
theorem uZ{names:List aE}{v:aE}{i:Nat}(h:at_ names v=some i):i<names.length:=by grind [at_,List.findIdx?_eq_some_iff_getElem]
theorem P.may{names:List aE}{j:Be}{o:List Tok}{r:Out}(h:P names j d o r):okJ j->(∀t∈o,Bp t)->aqE names.length j=true->∀p,r= .ok p->jy names.length p.1=true:=by
 induction h with
 |sI=>grind
 | @pre s d t o k r g m n w ih=>
  intro _ f _ p h;cases r with
  |error e=>cases h
  |ok q=>cases h;grind [anY,amf,Hv]
 |other g m n w ih=>intro _ f v p h;exact ih trivial f rfl p h
 |rErr=>grind
 |rOne g m n w ih=>intro _ f v p h;exact ih trivial f rfl _ h
 | @rTwo s d o a t ts' k r g m n w h4 ih l=>
  intro _ f _ p h;cases r with
  |error e=>cases h
  |ok q=>
   have x:=ih trivial f rfl _ rfl;have u:=n.suf _ rfl;have B:=l trivial (λt ht=>f t (u.mem (b7 _ ht))) rfl q rfl;cases h;grind [acL,abo,Hv]
 |lErr=>grind
 |lGo g m n ih l=>
  intro _ f _ p h;have x:=ih trivial f rfl _ rfl;have u:=m.suf _ rfl;exact l g (λt ht=>f t (u.mem ht)) x p h
 |lpEnd g=>intro _ f v p h;cases h;exact v
 |lpErr=>grind
 | @lpGo s a d t o k b ts' r g m n ih l=>
  intro y f v p h;have x:=ih trivial (λt ht=>f t (b7 _ ht)) rfl _ rfl;have u:=m.suf _ rfl;exact l y (λt ht=>f t (b7 _ (u.mem ht))) (acL (a:=t.2.2.2) (abo (.inr y) (Hv g) _) v x) p h
 |oWord g m=>grind [SM,aiN,Hv]
 | @oNum s d t o g m n=>
  intro _ f _ p h;obtain ⟨n0,A⟩:=f t (cx ..) (beq_iff_eq.1 n);grind [SM,xM,p6,decide,decide_eq_false]
 | @oVar s d t o i g m n w h4=>
  have z:=uZ h4;grind [SM,xM,p6,decide,decide_eq_false]
 |oName=>grind
 | @oOpen s d t o a c ts' g m n w h4 h5 h6 ih=>intro _ f _ p h;cases h;exact ih trivial (λt ht=>f t (b7 _ ht)) rfl (a,c::ts') rfl
 |oErr=>grind
 |oClose=>grind
 |oForm=>grind
end Pa
namespace Pa
def isLet(c:UInt8):Bool:=(decide (97<=c)&&decide (c<=122))||(decide (65<=c)&&decide (c<=90))||c==95
def jc(t:Tok):Prop:=(t.1=1/\∃c s,t.2.1=c::s/\isLet c=true)\/t.1=2\/(t.1=3/\∀c s,t.2.1=c::s->isLet c=false)\/t.1=4
theorem rm{l:List Tok}{a:Nat}{t:Tok}{c:List Tok}(h:l.drop a=t::c):idx l (a:Int)=some t/\l.drop (a+1)=c/\a<l.length/\t∈l:=by
 have b:a<l.length:=by grind [Nat.lt_or_ge,List.drop_of_length_le]
 rw [pA b] at h;grind [List.cons.injEq,idx,List.getElem?_eq_getElem,List.getElem_mem]
theorem cz{a:Nat}(h:a<4611686018427387904):IntKind.i64.wrap ((a:Int)+1)=((a+1:Nat):Int):=by grind [bR]
end Pa
namespace Sy
open Pa
theorem pL{α:Type}{l pre r:List α}{x:α}(h:l=pre++x::r):decide ((pre.length:Int)<(List.length l:Int))=true:=by subst h;simp;omega
theorem pS{α:Type}{l pre:List α}(h:l=pre++[]):decide ((pre.length:Int)<(List.length l:Int))=false:=by subst h;simp
theorem jv{α:Type}{l pre r:List α}{x:α}(h:l=pre++x::r):idx l (pre.length:Int)=some x:=by subst h;simp [idx]
theorem cO{k b:Nat}(h:k*b<=140737488355328)(a:k<=9223372036854775807):aH k b=true:=by simp_all [aH,an]
theorem aN{ρ:Type}{c:Bool}(h:c=true)(k:Option ρ):aM c k=k:=by subst h;rfl
end Sy
theorem ab8(a:aE):jm a=some (xw.contains a):=by
 unfold jm xv xw;simp only [List.contains_cons,List.contains_nil];cases (a==[116,114,117,101])
 case true=>rfl
 cases (a==[102,97,108,115,101])
 case true=>rfl
 cases (a==[88])
 case true=>rfl
 cases (a==[70])
 case true=>rfl
 cases (a==[71])
 case true=>rfl
 cases (a==[85])
 case true=>rfl
 cases (a==[82])
 case true=>rfl
 cases (a==[118,97,114])
 case true=>rfl
 cases (a==[112,114,111,99]) <;> rfl
namespace Pa
open Be
def I9(w:Bool)(x:aE):Bool:=match x with
 |[]=>false
 |c::_=>isLet c==w&&xw.contains x==w
theorem aac{t:Tok}(h:jc t){x:aE}(hx:I9 true x=true):(x4 t&&(x==t.2.1))=((t.1==1)&&(t.2.1==x)):=by
 obtain ⟨k,y,n,p⟩:=t;simp [x4,key];by_cases a:y=x
 .subst a;rcases h with ⟨rfl,c,s,b,d⟩|rfl|⟨rfl,e⟩|rfl
  .simp_all [I9,an]
  .simp
  .cases y with
   |nil=>cases hx
   |cons c s=>
    simp [I9,an] at hx;grind
  .simp
 grind
theorem apA{t:Tok}(h:jc t){x:aE}(hx:I9 false x=true):(x4 t&&(x==t.2.1))=((t.1==3)&&(t.2.1==x)):=by
 obtain ⟨k,y,n,p⟩:=t;simp [x4];by_cases a:y=x
 .subst a;rcases h with ⟨rfl,c,s,b,d⟩|rfl|⟨rfl,e⟩|rfl
  .simp_all [I9,an]
  .simp
  .simp
  .simp
 grind
def jY(t:Tok):Bool:=(t.1 != 2)&&(t.1 != 4)
theorem bH{t:Tok}(h:jc t){x:aE}{w:Bool}(hx:I9 w x=true):(x4 t&&(x==t.2.1))=(jY t&&(t.2.1==x)):=by
 by_cases b:t.2.1=x
 .rcases h with ⟨i,c,s,a,f⟩|e|⟨g,d⟩|d
  .rw [b] at a;simp_all [I9,x4,key,jY]
  .simp [x4,jY,e]
  .grind [x4,jY]
  grind [x4,jY]
 grind
theorem oW(t:Tok):Dq [] t=none:=by grind [Dq,x4]
theorem lU(o:Int)(l:zn)(t:Tok):Dq (o::l) t=bif (x4 t&&(bQ o==t.2.1)) then some o else Dq l t:=by unfold Dq;grind
def opt(o:zf):Int:=o.getD 0
theorem aqy{t:Tok}(h:jc t):cU t 1=some (opt (dx 1 t)):=by have e:=bH h (x:=bQ 19) (w:=false) rfl;simp [dx,ops,lU,oW,e];show (bif jY t then (bif (t.2.1==bQ 19) then some 19 else some 0) else some 0)=_;cases jY t <;> cases (t.2.1==bQ 19) <;> rfl
theorem aqM{t:Tok}(h:jc t):cU t 2=some (opt (dx 2 t)):=by have e:=bH h (x:=bQ 18) (w:=false) rfl;simp [dx,ops,lU,oW,e];show (bif jY t then (bif (t.2.1==bQ 18) then some 18 else some 0) else some 0)=_;cases jY t <;> cases (t.2.1==bQ 18) <;> rfl
theorem aqQ{t:Tok}(h:jc t):cU t 3=some (opt (dx 3 t)):=by have e:=bH h (x:=bQ 17) (w:=false) rfl;simp [dx,ops,lU,oW,e];show (bif jY t then (bif (t.2.1==bQ 17) then some 17 else some 0) else some 0)=_;cases jY t <;> cases (t.2.1==bQ 17) <;> rfl
theorem aqH{t:Tok}(h:jc t):cU t 4=some (opt (dx 4 t)):=by have e:=bH h (x:=bQ 16) (w:=false) rfl;simp [dx,ops,lU,oW,e];show (bif jY t then (bif (t.2.1==bQ 16) then some 16 else some 0) else some 0)=_;cases jY t <;> cases (t.2.1==bQ 16) <;> rfl
theorem aqR{t:Tok}(h:jc t):cU t 5=some (opt (dx 5 t)):=by have e:=bH h (x:=bQ 23) (w:=true) rfl;have a:=bH h (x:=bQ 24) (w:=true) rfl;simp [dx,ops,lU,oW,e,a];show (bif jY t then (bif (t.2.1==bQ 23) then some 23 else (bif (t.2.1==bQ 24) then some 24 else some 0)) else some 0)=_;cases jY t <;> cases (t.2.1==bQ 23) <;> cases (t.2.1==bQ 24) <;> rfl
theorem aqz{t:Tok}(h:jc t):cU t 8=some (opt (dx 8 t)):=by have e:=bH h (x:=bQ 3) (w:=false) rfl;have a:=bH h (x:=bQ 4) (w:=false) rfl;simp [dx,ops,lU,oW,e,a];show (bif jY t then (bif (t.2.1==bQ 3) then some 3 else (bif (t.2.1==bQ 4) then some 4 else some 0)) else some 0)=_;cases jY t <;> cases (t.2.1==bQ 3) <;> cases (t.2.1==bQ 4) <;> rfl
theorem aqJ{t:Tok}(h:jc t):cU t 9=some (opt (dx 9 t)):=by have e:=bH h (x:=bQ 5) (w:=false) rfl;simp [dx,ops,lU,oW,e];show (bif jY t then (bif (t.2.1==bQ 5) then some 5 else some 0) else some 0)=_;cases jY t <;> cases (t.2.1==bQ 5) <;> rfl
theorem aqG{t:Tok}(h:jc t):cU t 7=some (opt (dx 7 t)):=by
 have n:=bH h (x:=bQ 7) (w:=false) rfl;have l:=bH h (x:=bQ 8) (w:=false) rfl;have e3:=bH h (x:=bQ 9) (w:=false) rfl;have e4:=bH h (x:=bQ 10) (w:=false) rfl;have k:=bH h (x:=bQ 11) (w:=false) rfl;have j:=bH h (x:=bQ 12) (w:=false) rfl;simp [dx,ops,lU,oW,n,l,e3,e4,k,j];obtain ⟨m,hm⟩:∃m,ax=m+7:=⟨18446744073709551609,rfl⟩;refine Eq.trans (b:=bif jY t then ao (bJ t) (m+7) 0 else some 0) rfl ?_;have i:ao (bJ t) (m+7) 0=bif (t.2.1==bQ 7) then some 7 else ao (bJ t) (m+6) 1:=rfl
 have g:ao (bJ t) (m+6) 1=bif (t.2.1==bQ 8) then some 8 else ao (bJ t) (m+5) 2:=rfl
 have f:ao (bJ t) (m+5) 2=bif (t.2.1==bQ 9) then some 9 else ao (bJ t) (m+4) 3:=rfl
 have e:ao (bJ t) (m+4) 3=bif (t.2.1==bQ 10) then some 10 else ao (bJ t) (m+3) 4:=rfl
 have d:ao (bJ t) (m+3) 4=bif (t.2.1==bQ 11) then some 11 else ao (bJ t) (m+2) 5:=rfl
 have c:ao (bJ t) (m+2) 5=bif (t.2.1==bQ 12) then some 12 else ao (bJ t) (m+1) 6:=rfl
 have a:ao (bJ t) (m+1) 6=some 0:=rfl;rw [i,g,f,e,d,c,a];cases jY t
 .rfl
 cases (t.2.1==bQ 7)
 case true=>rfl
 cases (t.2.1==bQ 8)
 case true=>rfl
 cases (t.2.1==bQ 9)
 case true=>rfl
 cases (t.2.1==bQ 10)
 case true=>rfl
 cases (t.2.1==bQ 11)
 case true=>rfl
 cases (t.2.1==bQ 12) <;> rfl
theorem als{t:Tok}(h:jc t){s:Nat}(c:1<=s)(a:s<=9)(b:s≠6):cU t (s:Int)=some (opt (dx s t)):=by
 have:s=1\/s=2\/s=3\/s=4\/s=5\/s=7\/s=8\/s=9:=by omega
 rcases this with rfl|rfl|rfl|rfl|rfl|rfl|rfl|rfl
 .exact aqy h
 .exact aqM h
 .exact aqQ h
 .exact aqH h
 .exact aqR h
 .exact aqG h
 .exact aqz h
 .exact aqJ h
theorem O7{t:Tok}{k:Int}(h:dx s t=some k):(k==0)=false:=by
 have key:∀l:zn,(l.all λo=>o != 0)=true->Dq l t=some k->(k==0)=false:=λl hl h=>by grind [Dq,x4,List.mem_of_find?_eq_some,List.all_eq_true]
 refine key (ops s) ?_ h
 match s with
 |0=>rfl
 |1=>rfl
 |2=>rfl
 |3=>rfl
 |4=>rfl
 |5=>rfl
 |6=>rfl
 |7=>rfl
 |8=>rfl
 |9=>rfl
 |10=>rfl
 |11=>rfl
 |n+12=>rfl
abbrev R4:=Ex×Int×Int×Int
abbrev LF:=(Int×Int×List Tok×Int×List aE×Int×Int)->Option R4
def RR(l:List Tok)(r:Out)(m:Option R4):Prop:=match r with
 | .ok (x,ts)=>∃a:Nat,l.drop a=ts/\m=some (x,(a:Int),0,0)
 | .error (b,p)=>∃x a,m=some (x,a,b,p)
theorem G9{names:List aE}{j:Be}{a:List Tok}{b p:Int}(h:P names j d a (.error (b,p))):(b != 0)=true:=by rcases h.err _ rfl with h|h|h <;> (grind)
theorem MB{l:List Tok}{a:Nat}{t:Tok}(h:idx l (a:Int)=some t)(b:Int)(names:List aE)(p:Int):bE b l (a:Int) names 0 p=some (.mk 0 0 0 [],b,t.2.2.2):=by grind [bE]
def nN(names:List aE)(v:aE)(i:Nat):zg:=((names.drop i).findIdx? (λx=>v==x)).map (· +i)
theorem Nc(names:List aE)(v:aE):nN names v 0=at_ names v:=by unfold nN at_;simp
theorem aiK{l:List Tok}{a:Nat}{t:Tok}{names:List aE}(hn:names.length<4611686018427387904)(ha:a<4611686018427387904)(ht:idx l (a:Int)=some t):
  ∀(m i M:Nat),names.length-i<=m->i<=names.length->m<M->
   ao (dY l (a:Int) names 0 0 t) M (i:Int)=
    match nN names t.2.1 i with
    |some j=>some (.mk 2 (j:Int) t.2.2.2 [],((a+1:Nat):Int),0,0)
    |none=>some (.mk 0 0 0 [],(a:Int),3,t.2.2.2):=by
 intro m
 induction m with
 |zero=>
  intro i M d c b;obtain ⟨M,rfl⟩:∃k,M=k+1:=⟨M-1,by omega⟩;have hi:i=names.length:=by omega
  simp_all [au,nN,dY,MB]
 |succ m ih=>
  intro i M d c b;obtain ⟨M,rfl⟩:∃k,M=k+1:=⟨M-1,by omega⟩;rw [au];by_cases hi:i<names.length
  .have hd  :=pA hi;have hx:idx names (i)=some names[i]:=by simp [idx]
   simp only [dY,cy (show ((i):Int)<(List.length names) by omega),hx,ah,cz ha,cz (show i<4611686018427387904 by omega)];have e:nN names t.2.1 i=bif (names[i]==t.2.1) then some i else nN names t.2.1 (i+1):=by
    unfold nN;rw [hd,List.findIdx?_cons];have:(t.2.1==names[i])=(names[i]==t.2.1):=by grind
    rw [this];cases (names[i]==t.2.1)
    .simp;congr 1;grind
    .simp
   rw [e];cases (names[i]==t.2.1)
   .exact ih (i+1) M (by omega) (by omega) (by omega)
   .rfl
  .have hi:i=names.length:=by omega
   simp_all [nN,dY,MB]
def SR(names:List aE)(l:List Tok)(k:LF)(s:Nat)(d:Int)(a:Nat):Prop:= ∃r,P names (line s) d (l.drop a) r/\RR l r (k ((s:Int),d,l,(a:Int),names,0,0))
theorem WT{names:List aE}(hn:names.length<4611686018427387904){l:List Tok}(hl:l.length<4611686018427387904)(htok:∀t∈l,jc t){k:LF}{d:Int}{a:Nat}(E:Ends (l.drop a))
  (hk:Ends (l.drop (a+1))->SR names l k 1 d (a+1)):∃r,P names (line 11) d (l.drop a) r/\RR l r (dO k d l (a:Int) names 0 0):=by
 obtain ⟨t,Q,s⟩:=E.ne;obtain ⟨hx,i,J,v⟩:=rm s;have u:=htok t v;have ha:a<4611686018427387904:=by omega
 have N:=aac u (x:=bQ 13) rfl;have O:=aac u (x:=bQ 14) rfl;have o:dx 11 t=bif ((t.1==1)&&(t.2.1==bQ 13)) then some 13 else bif ((t.1==1)&&(t.2.1==bQ 14)) then some 14 else none:=by simp only [dx,ops,lU,oW,N,O]
 rw [s];unfold dO;simp only [hx,ah,aV,ab8,cz ha];cases n:(t.1==2)
 case true=>
  have M:(t.1==1)=false:=by have:=beq_iff_eq.1 n;rw [this];rfl
  exact ⟨_,.oNum rfl (by rw [o,M];rfl) n,a+1,i,rfl⟩
 simp only [ca];cases z:((t.1==1)&&(t.2.1==bQ 13))
 case true=>
  rw [show ((t.1==1)&&(t.2.1==[116,114,117,101]))=true from z];exact ⟨_,.oWord rfl (by rw [o,z];rfl),a+1,i,rfl⟩
 rw [show ((t.1==1)&&(t.2.1==[116,114,117,101]))=false from z];simp only [ca];cases B:((t.1==1)&&(t.2.1==bQ 14))
 case true=>
  rw [show ((t.1==1)&&(t.2.1==[102,97,108,115,101]))=true from B];exact ⟨_,.oWord rfl (by rw [o,z,B];rfl),a+1,i,rfl⟩
 rw [show ((t.1==1)&&(t.2.1==[102,97,108,115,101]))=false from B];simp only [ca];have f:dx 11 t=none:=by rw [o,z,B];rfl
 cases hN:((t.1==1)&& !(xw.contains t.2.1))
 case true=>
  have e:Bt t=true:=hN;simp only [cp];have:=aiK hn ha hx names.length 0 ax (by omega) (by omega) (by show names.length<2^64;omega);rw [show ((0:Nat):Int)=0 from rfl,Nc] at this;rw [this];cases hat:at_ names t.2.1 with
  |some j=>exact ⟨_,.oVar rfl f n e hat,a+1,i,rfl⟩
  |none=>exact ⟨_,.oName rfl f n e hat,_,_,rfl⟩
 have e:Bt t=false:=hN;simp only [ca];cases A:(((t.1 != 3)||(t.2.1 != [40])):Bool)
 case true=>
  have g:open_ t=false:=by
   unfold open_;simp only [fi,bne_iff_ne] at A;rcases A with h|h
   .rw [beq_eq_false_iff_ne.2 h];rfl
   .rw [beq_eq_false_iff_ne.2 h,w5]
  simp only [cp,MB hx,ah];exact ⟨_,.oForm rfl f n e g,_,_,rfl⟩
 have G  :=by simp at A;exact A
 have g:open_ t=true:=by unfold open_;rw [G.1,G.2];rfl
 have w  :=by rw [s] at E;exact E.tail (by rw [G.1];decide)
 obtain ⟨r,m,hm⟩:=hk (by rw [i];exact w);rw [i] at m
 match r,m,hm with
 | .error (b,p),m,⟨x,a',hm⟩=>
  have hb:=G9 m;rw [show ((1:Nat):Int)=1 from rfl] at hm;rw [hm,ah];simp [hb];exact ⟨_,.oErr rfl f n e g m,_,_,rfl⟩
 | .ok (x,ts'),m,⟨a',ha',hm⟩=>
  rw [show ((1:Nat):Int)=1 from rfl] at hm;obtain ⟨D,pr⟩:=m.ends w _ rfl;obtain ⟨c,I,L⟩:=D.ne;subst L;obtain ⟨q,F,H,C⟩:=rm ha';rw [hm,ah];simp [q,cz (show a'<4611686018427387904 by omega)];by_cases y:c.1=3
  .have e3:(c.1 != 3)=false:=by rw [y];rfl
   simp [e3,ko,dw,ah];cases K:(c.2.1 != [41])
   .have:close_ c=true:=by grind [close_,bne_eq_false_iff_eq]
    exact ⟨_,.oOpen rfl f n e g m this,a'+1,F,rfl⟩
   .have:close_ c=false:=by simp_all [close_,bne_iff_ne]
    simp [MB q];exact ⟨_,.oClose rfl f n e g m this,_,_,rfl⟩
  .have e3  :=bne_iff_ne.2 y;have:close_ c=false:=by grind [close_,beq_eq_false_iff_ne]
   simp [e3,MB q];exact ⟨_,.oClose rfl f n e g m this,_,_,rfl⟩
end Pa
namespace Pa
open Be
theorem PF(e:Ex):Ex.mk e.op e.n e.at_ e.l=e:=by cases e;rfl
theorem acJ(m:Option R4):(m.bind λr=>some (r.1,r.2.1,r.2.2.1,r.2.2.2))=m:=by cases m <;> rfl
theorem RR.one{l:List Tok}{r:Out}{m:Option R4}(h:RR l r m)(c pl:Int):RR l (aoL c pl r) (m.bind λr=>some (.mk c 0 pl [r.1],r.2.1,r.2.2.1,r.2.2.2)):=by
 match r,h with
 | .ok (x,ts),⟨a,h1,h2⟩=>subst h2;exact ⟨a,h1,rfl⟩
 | .error (b,p),⟨x,a,h2⟩=>subst h2;exact ⟨_,_,rfl⟩
theorem RR.two{l:List Tok}{r:Out}{m:Option R4}(h:RR l r m)(c pl:Int)(y:Ex):RR l (aou c pl y r) (m.bind λr=>some (.mk c 0 pl [y,r.1],r.2.1,r.2.2.1,r.2.2.2)):=by
 match r,h with
 | .ok (x,ts),⟨a,h1,h2⟩=>subst h2;exact ⟨a,h1,rfl⟩
 | .error (b,p),⟨x,a,h2⟩=>subst h2;exact ⟨_,_,rfl⟩
theorem ahE{s:Nat}(a:1<=s)(h:s<=10):lx (s:Int)=some (yz s):=by
 have:s=1\/s=2\/s=3\/s=4\/s=5\/s=6\/s=7\/s=8\/s=9\/s=10:=by omega
 rcases this with rfl|rfl|rfl|rfl|rfl|rfl|rfl|rfl|rfl|rfl <;> rfl
theorem aqL{k:LF}{s:Nat}(c:1<=s)(h:s<=10){d:Int}(f:0<=d)(e:d<=320)(l:List Tok)(a:Int)(names:List aE):
  dj k (s:Int) d l a names 0 0=jC k (s:Int) l a names 0 0 (yz s) (dn s d):=by
 unfold dj;simp [ahE c h];have b:IntKind.i64.wrap (d+1)=d+1:=bR (by omega);unfold dn;rw [b];cases yz s <;> rfl
theorem amV(s:Nat)(d:Int):(yz s&&decide (320<dn s d))=pW s d:=by unfold pW dn;grind
theorem ap7{s:Nat}{d:Int}(b:0<=d)(a:d<=320)(hd:pW s d=false):0<=dn s d/\dn s d<=320:=by unfold pW at hd;unfold dn;grind
section
variable {names : List aE} {l : List Tok} {k : LF} {N : Nat}
variable (hn : names.length < 4611686018427387904) (hl : l.length < 4611686018427387904) (htok :∀t ∈ l, jc t)
variable (hk :∀(s : Nat) (d : Int) (a : Nat), 1 <= s -> s <= 10 -> 0 <= d -> d <= 320 -> Ends (l.drop a) -> 12 * (l.drop a).length + (11 - s) < N -> SR names l k s d a)
include hn hl htok hk
theorem pre6{d:Int}{a:Nat}{t:Tok}{i:List Tok}(c:l.drop a=t::i)(w:Ends (t::i))(z:0<=dn 6 d)(y:dn 6 d<=320)(hd:pW 6 d=false)(hN:12*(l.drop a).length+5<N+1):
  ∃r,P names (line 6) d (t::i) r/\RR l r (cY k l (a:Int) names 0 0 (dn 6 d) t (bif ((t.1==3)&&(t.2.1==[33])) then 15 else 0)):=by
 obtain ⟨hx,f,B,h⟩:=rm c;have e:=htok t h;have G:=apA e (x:=bQ 15) rfl;have F:=aac e (x:=bQ 20) rfl;have E:=aac e (x:=bQ 21) rfl;have D:=aac e (x:=bQ 22) rfl;have m:dx 6 t=bif ((t.1==3)&&(t.2.1==bQ 15)) then some 15 else bif ((t.1==1)&&(t.2.1==bQ 20)) then some 20 else bif ((t.1==1)&&(t.2.1==bQ 21)) then some 21 else bif ((t.1==1)&&(t.2.1==bQ 22)) then some 22 else none:=by grind [dx,ops,lU,oW]
 have C:cY k l (a) names 0 0 (dn 6 d) t (bif ((t.1==3)&&(t.2.1==[33])) then 15 else 0)=jA k l (a) names 0 0 (dn 6 d) t (opt (dx 6 t)):=by
  rw [m];unfold cY oy ox;rw [show bQ 15=[33] from rfl,show bQ 20=[88] from rfl,show bQ 21=[70] from rfl,show bQ 22=[71] from rfl];by_cases u:t.1=1
  .rw [u];by_cases q:t.2.1=[88]
   .rw [q];rfl
   .by_cases s:t.2.1=[70]
    .rw [s];rfl
    .by_cases p:t.2.1=[71]
     .rw [p];rfl
     .rw [beq_eq_false_iff_ne.2 q,beq_eq_false_iff_ne.2 s,beq_eq_false_iff_ne.2 p];rfl
  .rw [beq_eq_false_iff_ne.2 u];cases ((t.1==3)&&(t.2.1==[33])) <;> rfl
 rw [C];unfold jA;have v:(l.drop a).length=i.length+1:=by rw [c];rfl
 cases j:dx 6 t with
 |none=>
  obtain ⟨r,g,hm⟩:=hk 7 (dn 6 d) a (by omega) (by omega) z y (by rw [c];exact w) (by omega);rw [c] at g;refine ⟨r,.other rfl hd j g,?_⟩;show RR l r ((k (7,dn 6 d,l,(a),names,0,0)).bind λb=>some (b.1,b.2.1,b.2.2.1,b.2.2.2));grind [acJ]
 |some A=>
  have n:=O7 j;have o  :=w.tail (EG j);obtain ⟨r,g,hm⟩:=hk 6 (dn 6 d) (a+1) (by omega) (by omega) z y (by rw [f];exact o) (by rw [f];omega);rw [f] at g;refine ⟨_,.pre rfl hd j g,?_⟩;simp [opt,qF,n,cz (show a<4611686018427387904 by omega)];exact hm.one A t.2.2.2
theorem ap6{d:Int}{a:Nat}{t:Tok}{m:List Tok}(f:l.drop a=t::m)(q:Ends (t::m))(u:0<=dn 10 d)(s:dn 10 d<=320)(hd:pW 10 d=false)(hN:12*(l.drop a).length+1<N+1):
  ∃r,P names (line 10) d (t::m) r/\RR l r (bif ((t.1 != 3)||(t.2.1 != [45])) then ((dO k (dn 10 d) l (a:Int) names 0 0).bind λe=>some (e.1,e.2.1,e.2.2.1,e.2.2.2))
   else ((k (10,dn 10 d,l,(IntKind.i64.wrap ((a:Int)+1)),names,0,0)).bind λb=>some ((Ex.mk 6 0 t.2.2.2 ([b.1]:List Ex)),b.2.1,b.2.2.1,b.2.2.2))):=by
 obtain ⟨hx,g,v,j⟩:=rm f;have n:=htok t j;have w:=apA n (x:=bQ 6) rfl;have c:dx 10 t=bif ((t.1==3)&&(t.2.1==bQ 6)) then some 6 else none:=by grind [dx,ops,lU,oW]
 have p:(l.drop a).length=m.length+1:=by rw [f];rfl
 have hb:((t.1 != 3)||(t.2.1 != [45]))= !((t.1==3)&&(t.2.1==bQ 6)):=by show ((!(t.1==3))||(!(t.2.1==[45])))=_;rw [show bQ 6=[45] from rfl,Bool.not_and]
 rw [hb];cases o:((t.1==3)&&(t.2.1==bQ 6))
 .rw [o] at c;simp [acJ];obtain ⟨r,i,hm⟩:=WT hn hl htok (by rw [f];exact q) (λh=>hk 1 (dn 10 d) (a+1) (by omega) (by omega) u s h (by rw [g];omega));rw [f] at i;exact ⟨r,.other rfl hd c i,hm⟩
 .rw [o] at c;have h  :=q.tail (EG c);simp [cz (show a<4611686018427387904 by omega)];obtain ⟨r,i,hm⟩:=hk 10 (dn 10 d) (a+1) (by omega) (by omega) u s (by rw [g];exact h) (by rw [g];omega);rw [g] at i;exact ⟨_,.pre rfl hd c i,hm.one 6 t.2.2.2⟩
theorem agm{s:Nat}(q:1<=s)(K:s<=9)(L:s≠6)(C:kd s=2){D:Int}(Q:0<=D)(O:D<=320)(G:((((s:Int)==1)||((s:Int)==2))||((s:Int)==5))=false)(F:((s:Int)==7)=false):
  ∀(n a M:Nat) (x:Ex),(l.drop a).length<=n->n<M->Ends (l.drop a)->12*(l.drop a).length<=N->
   ∃r,P names (loop s x) D (l.drop a) r/\RR l r (ao (da k (s:Int) l names D) M ((a:Int),0,0,x.op,x.n,x.at_,x.l)):=by
 intro n
 induction n with
 |zero=>
  intro a M x q S o _;obtain ⟨t,A,c⟩:=o.ne;rw [c] at q;simp at q
 |succ n ih=>
  intro a M x J R o hN;obtain ⟨M,rfl⟩:∃m,M=m+1:=⟨M-1,by omega⟩;obtain ⟨t,A,c⟩:=o.ne;obtain ⟨hx,e,I,h⟩:=rm c;have v:=htok t h;have B:(l.drop a).length=A.length+1:=by rw [c];rfl
  rw [au];simp [da,hx,ah,als v q K L,aV,G,ca];cases g:dx s t with
  |none=>
   refine ⟨.ok (x,l.drop a),by rw [c];exact .lpEnd g,a,rfl,?_⟩;simp [opt,Option.getD_none,qe,cp,PF]
  |some E=>
   have w:=O7 g;have i  :=by rw [c] at o;exact o.tail (EG g)
   have u:IntKind.i64.wrap ((s)+1)=((s+1:Nat)):=by grind [bR]
   simp only [opt,qF,w,cz (show a<4611686018427387904 by omega),u];obtain ⟨r,d,hm⟩:=hk (s+1) D (a+1) (by omega) (by omega) Q O (by rw [e];exact i) (by rw [e];omega);rw [e] at d
   match r,d,hm with
   | .error (b,p),d,⟨y,a',hm⟩=>
    have hb:=G9 d;have z:(b==0)=false:=by simpa using hb
    rw [hm,ah];obtain ⟨M,rfl⟩:∃m,M=m+1:=⟨M-1,by omega⟩;rw [au];simp [da,z];rw [c];exact ⟨_,.lpErr g d,_,_,rfl⟩
   | .ok (y,ts'),d,⟨a',ha',hm⟩=>
    obtain ⟨j,pr⟩:=d.ends i _ rfl;simp [shorter] at pr j;obtain ⟨r2,f,H⟩:=ih a' M (.mk E 0 t.2.2.2 [x,y]) (by rw [ha'];omega) (by omega) (by rw [ha'];exact j) (by rw [ha'];omega);rw [ha'] at f;refine ⟨r2,by rw [c];exact .lpGo g d f,?_⟩;grind [PF]
theorem ahD{s:Nat}(T:1<=s)(S:s<=10){d:Int}(h0:0<=d)(Z:d<=320){a:Nat}(u:Ends (l.drop a))(hN:12*(l.drop a).length+(11-s)<N+1):
  ∃r,P names (line s) d (l.drop a) r/\RR l r (dj k (s:Int) d l (a:Int) names 0 0):=by
 obtain ⟨t,ts,c⟩:=u.ne;obtain ⟨hx,hd1,hlt,W⟩:=rm c;rw [aqL T S h0 Z];unfold jC;simp only [aV,amV];cases hd:pW s d
 case true=>
  rw [c];simp only [cp,MB hx,ah];exact ⟨_,.sI hd,_,_,rfl⟩
 obtain ⟨j,i⟩:=ap7 h0 Z hd;simp only [ca,hx,ah];rw [c] at u;by_cases R:s=6
 .subst R;have:=pre6 hn hl htok hk c u j i hd (by omega);rw [c];obtain ⟨r,f,hm⟩:=this;refine ⟨r,f,?_⟩;show RR l r (bif ((t.1==3)&&(t.2.1==[33])) then cY k l (a:Int) names 0 0 (dn 6 d) t 15 else cY k l (a:Int) names 0 0 (dn 6 d) t 0);cases hb:((t.1==3)&&(t.2.1==[33])) <;> rw [hb] at hm <;> exact hm
 by_cases v:s=10
 .subst v;obtain ⟨r,f,hm⟩:=ap6 hn hl htok hk c u j i hd (by omega);rw [c];exact ⟨r,f,hm⟩
 have b6:((s:Int)==6)=false:=beq_eq_false_iff_ne.2 (by omega);have U:((s:Int)==10)=false:=beq_eq_false_iff_ne.2 (by omega);have w:IntKind.i64.wrap ((s:Int)+1)=((s+1:Nat):Int):=by rw [bR (by omega)];omega
 simp only [b6,U,ca,w];obtain ⟨r,f,hm⟩:=hk (s+1) (dn s d) a (by omega) (by omega) j i (by rw [c];exact u) (by omega);have Y:(l.drop a).length=ts.length+1:=by rw [c];rfl
 have B:kd s=1\/kd s=2:=by
  have:s=1\/s=2\/s=3\/s=4\/s=5\/s=7\/s=8\/s=9:=by omega
  rcases this with rfl|rfl|rfl|rfl|rfl|rfl|rfl|rfl <;> simp [kd]
 match r,f,hm with
 | .error (b,p),f,⟨y,a',hm⟩=>
  have hb:=G9 f;have M:(b==0)=false:=by simpa using hb
  rw [hm,ah];obtain ⟨m,O⟩:∃m,ax=m+1:=⟨18446744073709551615,rfl⟩;rw [O,au];simp only [da,M,ca];rcases B with h|h
  .exact ⟨_,.rErr h hd f,_,_,rfl⟩
  .refine ⟨.error (b,p),.lErr h (d:=d) ?_,_,_,rfl⟩;have:dn s d=d:=by
    have:s=3\/s=4\/s=8\/s=9:=by
     have:s=1\/s=2\/s=3\/s=4\/s=5\/s=7\/s=8\/s=9:=by omega
     rcases this with rfl|rfl|rfl|rfl|rfl|rfl|rfl|rfl <;> simp [kd] at h <;> simp
    rcases this with rfl|rfl|rfl|rfl <;> rfl
   rw [this] at f;exact f
 | .ok (x,ts'),f,⟨a',ha',hm⟩=>
  rw [c] at f;obtain ⟨o,pr⟩:=f.ends u _ rfl;simp only [shorter,ei] at pr o;rw [hm,ah];rcases B with h|h
  . -- once
   obtain ⟨t2,D,F⟩:=o.ne;subst F;obtain ⟨E,g,X,q⟩:=rm ha';have z:=htok t2 q;obtain ⟨m,O⟩:∃m,ax=m+1:=⟨18446744073709551615,rfl⟩;rw [O,au,c];simp only [da,qe,cp,E,ah,als z T (by omega) R,aV];cases A:dx s t2 with
   |none=>
    refine ⟨_,.rOne h hd f A,a',ha',?_⟩;simp only [opt,Option.getD_none,qe,cp,PF]
   |some V=>
    have J:=O7 A;have C:Ends D:=o.tail (EG A);simp only [opt,qF,J,ca,cz (show a'<4611686018427387904 by omega),w,PF];simp only [ei] at pr;have L:s=1\/s=2\/s=5\/s=7:=by
     have:s=1\/s=2\/s=3\/s=4\/s=5\/s=7\/s=8\/s=9:=by omega
     rcases this with rfl|rfl|rfl|rfl|rfl|rfl|rfl|rfl <;> simp [kd] at h <;> simp
    by_cases Q:s=7
    .subst Q;obtain ⟨r2,e,n⟩:=hk 8 (dn 7 d) (a'+1) (by omega) (by omega) j i (by rw [g];exact C) (by rw [g];omega);rw [g] at e;exact ⟨_,.rTwo h hd f A e,n.two V t2.2.2.2 x⟩
    .obtain ⟨r2,e,n⟩:=hk s (dn s d) (a'+1) (by omega) (by omega) j i (by rw [g];exact C) (by rw [g];omega);rw [g] at e;have H:nx s=s:=by unfold nx;rw [beq_eq_false_iff_ne.2 Q];rfl
     refine ⟨_,.rTwo h hd f A (by rw [H];exact e),?_⟩;have hb:((((s:Int)==1)||((s:Int)==2))||((s:Int)==5))=true:=by
      rcases L with rfl|rfl|rfl|rfl
      .rfl
      .rfl
      .rfl
      .exact absurd rfl Q
     rw [hb];exact n.two V t2.2.2.2 x
  . -- from the left
   have L:s=3\/s=4\/s=8\/s=9:=by
    have:s=1\/s=2\/s=3\/s=4\/s=5\/s=7\/s=8\/s=9:=by omega
    rcases this with rfl|rfl|rfl|rfl|rfl|rfl|rfl|rfl <;> simp [kd] at h <;> simp
   have K:dn s d=d:=by rcases L with rfl|rfl|rfl|rfl <;> rfl
   have hq:((((s:Int)==1)||((s:Int)==2))||((s:Int)==5))=false:=by grind
   have G:((s:Int)==7)=false:=by grind
   have I:(l.drop a').length<=l.length:=by simp
   obtain ⟨r2,e,n⟩:=agm hn hl htok hk T (by omega) R h j i hq G l.length a' ax x I (by show l.length<2^64;omega) (by rw [ha'];exact o) (by rw [ha'];omega);rw [ha'] at e;rw [c];rw [K] at f e;exact ⟨r2,.lGo h f e,n⟩
end
theorem akw{names:List aE}{l:List Tok}(hn:names.length<4611686018427387904)(hl:l.length<4611686018427387904)(htok:∀t∈l,jc t):
  ∀(N:Nat) (s:Nat) (d:Int) (a:Nat),1<=s->s<=10->0<=d->d<=320->Ends (l.drop a)->12*(l.drop a).length+(11-s)<N->
   SR names l (ao (λk (s:(Int×Int×(List (Int×aE×Int×Int))×Int×(List aE)×Int×Int))=>dj k s.1 s.2.1 s.2.2.1 s.2.2.2.1 s.2.2.2.2.1 s.2.2.2.2.2.1 s.2.2.2.2.2.2) N) s d a:=by
 intro N
 induction N with
 |zero=>grind
 |succ N ih=>
  intro s d a f b g e c hN;exact ahD hn hl htok ih f b g e c hN
theorem agM{names:List aE}{l:List Tok}(hn:names.length<4611686018427387904)(hl:l.length<1152921504606846976)(htok:∀t∈l,jc t){a:Nat}(f:Ends (l.drop a)):
  ∃r,P names (line 1) 0 (l.drop a) r/\match r with
   | .ok (x,ts)=>∃d:Nat,l.drop d=ts/\eY l (a:Int) names=some (x,(d:Int),0,0)
   | .error (b,p)=>eY l (a:Int) names=some (.mk 0 0 0 [],0,b,p):=by
 have e:(l.drop a).length<=l.length:=by simp
 obtain ⟨r,c,hm⟩:=akw hn (by omega) htok ax 1 0 a (by omega) (by omega) (by omega) (by omega) f (by show _<2^64;omega);unfold eY gY
 match r,c,hm with
 | .ok (x,ts),c,⟨d,ha',hm⟩=>
  grind
 | .error (b,p),c,⟨x,d,hm⟩=>
  have hb:=G9 c;grind
end Pa
theorem HL(k:Ex->Option (Int×Int×Int))(e:Ex)(hk:∀x∈e.l,k x=some (rt x))(hl:e.l.length<1152921504606846976):
  ∀(r pre:List Ex),e.l=pre++r->∀(M:Nat) (i b t:Int),0<=i/\i<=pre.length->0<=b/\b<=pre.length->0<=t/\t<=pre.length->r.length<M->
   ao (kI k e) M (i,b,t,(pre.length:Int))=some (rP e.op e.at_ (e.l.length:Int) r i b t)
 |[],pre,h,M,i,b,t,hi,hb,ht,hM=>by
  obtain ⟨m,rfl⟩:∃m,M=m+1:=⟨M-1,by omega⟩;rw [au];have a:pre.length<1152921504606846976:=by grind
  have f:IntKind.i64.wrap (b+t)=b+t:=bR (by omega);simp [kI,aV,rP,L3];grind
 |x::r,pre,h,M,i,b,t,hi,hb,ht,hM=>by
  obtain ⟨m,rfl⟩:∃m,M=m+1:=⟨M-1,by omega⟩;rw [au];have hx  :=hk x (by rw [h];simp);have a:pre.length<1152921504606846976:=by grind
  have ih:=λi b t hi hb ht=>HL k e hk hl r (pre++[x]) (by rw [h];simp) m i b t hi hb ht (by simp at hM;omega);have hp:((pre++[x]).length)=((pre.length+1:Nat)):=by simp
  rw [hp] at ih;have c:IntKind.i64.wrap (i+1)=i+1:=bR (by omega);have d:IntKind.i64.wrap (b+1)=b+1:=bR (by omega);have wt:IntKind.i64.wrap (t+1)=t+1:=bR (by omega);simp only [kI,oT,we,pg h,yS h,ah,hx,wc (show pre.length<4611686018427387904 by omega),rP,c,d,wt];cases (rt x).2.1 != 0
  .cases (rt x).1==1 <;> cases (rt x).1==2 <;> cases (rt x).1==3 <;> simp <;> exact ih _ _ _ (by omega) (by omega) (by omega)
  .rfl
theorem ac5:∀(N:Nat) (e:Ex),e.sz<=N->e.sz<1152921504606846976->ao (λk s=>iT k s) N e=some (rt e):=by
 intro N
 induction N with
 |zero=>grind [Hf]
 |succ N ih=>
  intro e h hb;rw [au];have hl:=af4 e;rw [rt_eq];exact HL (ao (λk s=>iT k s) N) e (λx hx=>ih x (by have:=Is hx;omega) (by have:=Is hx;omega)) (by omega) e.l [] rfl ax 0 0 0 (by simp) (by simp) (by simp) (by show e.l.length<2^64;omega)
theorem aje(e:Ex)(h:e.sz<1152921504606846976):iw e=some (rt e):=ac5 ax e (by show e.sz<=2^64;omega) h
namespace Sy
open Pa
theorem type_s2(e:Ex):iu e=iT iw e:=rfl
theorem ado(e:Ex)(h:e.sz<1152921504606846976):iu e=some (rt e):=by have hl:=af4 e;rw [rt_eq];exact HL iw e (λx hx=>aje x (by have:=Is hx;omega)) (by omega) e.l [] rfl ax 0 0 0 (by simp) (by simp) (by simp) (by show e.l.length<2^64;omega)
theorem BB{names:List aE}{v:aE}(hn:names.length<4611686018427387904):∀(m i M:Nat),names.length-i<=m->i<=names.length->m<M->
  ao (fw names v) M (i:Int)=some (match nN names v i with|some j=>(j:Int)|none=> -1):=by
 intro m
 induction m with
 |zero=>
  intro i M c b a;obtain ⟨M,rfl⟩:∃k,M=k+1:=⟨M-1,by omega⟩;have hi:i=names.length:=by omega
  simp_all [au,nN,fw,List.length]
 |succ m ih=>
  intro i M c b a;obtain ⟨M,rfl⟩:∃k,M=k+1:=⟨M-1,by omega⟩;rw [au];by_cases hi:i<names.length
  .have hd  :=pA hi;have hx:idx names (i)=some names[i]:=by simp [idx]
   simp only [fw,cy (show ((i):Int)<(List.length names) by omega),hx,ah,cz (show i<4611686018427387904 by omega)];have e:nN names v i=bif (names[i]==v) then some i else nN names v (i+1):=by
    unfold nN;rw [hd,List.findIdx?_cons];have:(v==names[i])=(names[i]==v):=by grind
    rw [this];cases (names[i]==v)
    .simp;congr 1;grind
    .simp
   rw [e];cases (names[i]==v)
   .exact ih (i+1) M (by omega) (by omega) (by omega)
   .rfl
  .have hi:i=names.length:=by omega
   simp_all [nN,fw,List.length]
theorem OU{names:List aE}(hn:names.length<4611686018427387904)(v:aE):cN names v=some (eR names v):=by have:=BB (v:=v) hn names.length 0 ax (by omega) (by omega) (by show names.length<2^64;omega);rw [show ((0:Nat))=0 from rfl,Nc] at this;grind [cN,eR,at_]
theorem anD{names:List aE}{v:aE}:at_ names v=none↔names.contains v=false:=by grind [at_,List.findIdx?_eq_none_iff,List.contains_iff_mem]
theorem Jx(names:List aE)(v:aE):decide (0<=eR names v)=names.contains v:=by grind [eR,at_,anD]
def bN(st:Except gR (List Tok))(f:List Tok->Except gR (List Tok)):Except gR (List Tok):=match st with
 | .ok ts=>f ts
 | .error e=> .error e
def rest{α:Type}:Except gR (α×List Tok)->Except gR (List Tok)
 | .ok p=> .ok p.2
 | .error e=> .error e
def bz{α:Type}(st:Except gR (List Tok))(f:List Tok->Except gR (α×List Tok)):Except gR (List Tok):=bN st λts=>rest (f ts)
def St(l:List Tok)(st:Except gR (List Tok))(a b p:Int):Prop:=match st with
 | .ok ts=>∃k:Nat,a=(k:Int)/\l.drop k=ts/\Pa.Ends ts/\b=0/\p=0
 | .error e=>(∃t,idx l a=some t)/\(e.1==0)=false/\b=e.1/\p=e.2
def C6(k:Int)(x:aE):Except gR (List Tok)->Bool
 | .ok ts=>sS k x ts
 | .error _=>false
def P4{α:Type}(st:Except gR (List Tok))(f:List Tok->Except gR (α×List Tok))(x:α):Prop:= ∀ts y r,st= .ok ts->f ts= .ok (y,r)->x=y
section
variable {l : List Tok} (hl : l.length < 1099511627776) (htok :∀t ∈ l, jc t) (hnum :∀t ∈ l, Bp t)
variable {st : Except gR (List Tok)} {a b p : Int} (N : List aE) (S_ : List (Int × Int)) (I : zn) (Q : List aE) (C : List aS)
theorem St.at{st:Except gR (List Tok)}{a b p:Int}(h:St l st a b p):∃t,idx l a=some t:=by
 cases st with
 |ok d=>
  obtain ⟨k,rfl,hd,c,_⟩:=h;obtain ⟨t,r,rfl⟩:=c.ne;exact ⟨t,(rm hd).1⟩
 |error e=>exact h.1
theorem St.ok{c:List Tok}(h:St l (.ok c) a b p):∃(k:Nat) (t:Tok) (r:List Tok),a=(k:Int)/\c=t::r/\l.drop k=t::r/\Pa.Ends (t::r)/\b=0/\p=0/\idx l a=some t/\t∈l/\l.drop (k+1)=r/\k<l.length:=by obtain ⟨k,rfl,hd,d,hb,hp⟩:=h;obtain ⟨t,r,rfl⟩:=d.ne;obtain ⟨i,g,f,e⟩:=rm hd;grind
theorem Ro(c q x:Int):aJ c q l x N S_ I Q C 0 0=some (c,q):=rfl
theorem CC{b:Int}(hb:(b==0)=false)(c q x p:Int):aJ c q l x N S_ I Q C b p=some (b,p):=by grind [aJ]
theorem HG(h:St l st a b p)(k:Int)(x:aE):bU k x l a N S_ I Q C b p=some (C6 k x st):=by
 cases st with
 |ok d=>
  obtain ⟨f,t,r,rfl,rfl,hd,c,rfl,rfl,hx,_⟩:=h.ok;unfold bU;simp [aV,qe,dw,hx,ah,C6,sS,yc];cases (t.1==k)
  .rfl
  .simp [dw,ah]
 |error e=>
  obtain ⟨_,c,rfl,rfl⟩:=h;unfold bU;simp [aV,c,lP,s6,C6]
theorem abc(h:St l st a b p):∃q,br l a N S_ I Q C b p=some q/\∀c,st= .ok c->q=Qf c:=by
 obtain ⟨t,ht⟩:=h.at
 refine ⟨t.2.2.2,by grind [br],λc d=>?_⟩;subst d;obtain ⟨e,t',r,rfl,rfl,hd,f,rfl,rfl,hx,_⟩:=h.ok;rw [hx] at ht;cases ht;rfl
include hl in
theorem Cj(h:St l st a b p)(x:aE):∃a' b' p',bM x l a N S_ I Q C b p=some (a',b',p')/\St l (bN st (bY x)) a' b' p':=by
 have hi:=HG N S_ I Q C h 3 x;unfold bM;rw [hi,ah];cases st with
 |ok g=>
  obtain ⟨k,t,r,rfl,rfl,hd,c,rfl,rfl,hx,hm,d,hk⟩:=h.ok;simp [C6,sS,bN,bY];cases f:yc 3 x t
  .simp [br,hx,ah];exact ⟨_,_,_,rfl,⟨t,hx⟩,rfl,rfl,rfl⟩
  .simp only [cz (show k<4611686018427387904 by omega)];exact ⟨_,_,_,rfl,k+1,rfl,d,c.tail (YE f (by decide)),rfl,rfl⟩
 |error e=>
  obtain ⟨⟨t,hx⟩,c,rfl,rfl⟩:=h;simp [br,hx,CC N S_ I Q C c];exact ⟨_,_,_,rfl,⟨t,hx⟩,c,rfl,rfl⟩
include hl in
theorem acF(h:St l st a b p)(hN:N.length<1099511627776)(hQ:Q.length<1099511627776)(full:Bool):∃s a' b' p',gz full l a N S_ I Q C b p=some (s,a',b',p')/\St l (bz st (fC full N Q)) a' b' p'/\P4 st (fC full N Q) s:=by
 obtain ⟨t,ht⟩:=h.at
 have G:=OU (names:=N) (by omega) t.2.1;have F:=OU (names:=Q) (by omega) t.2.1;unfold gz;simp only [ht,ah,ab8,aV];cases st with
 |ok m=>
  obtain ⟨k,t',r,rfl,rfl,hd,i,rfl,rfl,hx,hm,B,hk⟩:=h.ok;rw [hx] at ht;cases ht;simp only [bz,bN];have d:fC full N Q (t::r)=(bif t.1 != 1 then .error (2,t.2.2.2) else bif key t.2.1||N.contains t.2.1||Q.contains t.2.1 then .error (3,t.2.2.2) else bif full then .error (9,t.2.2.2) else .ok (t.2.1,r)):=rfl;cases v:(t.1 != 1)
  case true=>
   rw [v] at d;simp only [cp] at d;simp only [cp,Ro,ah,d,rest];exact ⟨_,_,_,_,rfl,⟨⟨t,hx⟩,rfl,rfl,rfl⟩,λm y w j f=>by cases j;rw [d] at f;cases f⟩
  rw [v] at d;simp only [ca] at d ⊢;have J:(key t.2.1||N.contains t.2.1||Q.contains t.2.1)=(xw.contains t.2.1||decide (0<=eR N t.2.1)||decide (0<=eR Q t.2.1)):=by rw [Jx,Jx];rfl
  rw [J] at d;have fin:∀c:Bool,(xw.contains t.2.1||decide (0<=eR N t.2.1)||decide (0<=eR Q t.2.1))=c->
    ∃s a' b' p',(bif c then ((aJ 3 t.2.2.2 l (k:Int) N S_ I Q C 0 0).bind λo=>some (t.2.1,(k:Int),o.1,o.2)) else (bif full then ((aJ 9 t.2.2.2 l (k:Int) N S_ I Q C 0 0).bind λn=>some (t.2.1,(k:Int),n.1,n.2)) else (bif ((0:Int)==0) then some (t.2.1,(IntKind.i64.wrap ((k:Int)+1)),0,0) else some (t.2.1,(k:Int),0,0))))=some (s,a',b',p')/\
     St l (rest (fC full N Q (t::r))) a' b' p'/\P4 (.ok (t::r)) (fC full N Q) s:=by
   intro c D;rw [D] at d;cases c
   .cases full
    .simp only [ca] at d;refine ⟨_,_,_,_,rfl,?_,λm y w j f=>by cases j;rw [d] at f;cases f;rfl⟩;rw [d,cz (show k<4611686018427387904 by omega)];have:t.1=1:=by simpa using v
     exact ⟨k+1,rfl,B,i.tail (by omega),rfl,rfl⟩
    .simp only [ca,cp] at d;exact ⟨_,_,_,_,rfl,by rw [d];exact ⟨⟨t,hx⟩,rfl,rfl,rfl⟩,λm y w j f=>by cases j;rw [d] at f;cases f⟩
   .simp only [cp] at d;exact ⟨_,_,_,_,rfl,by rw [d];exact ⟨⟨t,hx⟩,rfl,rfl,rfl⟩,λm y w j f=>by cases j;rw [d] at f;cases f⟩
  have:=fin _ rfl;cases u:xw.contains t.2.1
  .simp only [ko,dw,G,ah,mm,u] at this ⊢;cases q:decide (0<=eR N t.2.1)
   .simp only [F,q] at this ⊢;exact this
   .simp [q] at this ⊢;exact this
  .simp only [wi,u] at this ⊢;exact this
 |error e=>
  obtain ⟨_,i,rfl,rfl⟩:=h;simp only [bz,bN];have V:∀s,P4 (.error e) (fC full N Q) s:=λs m y r h=>by cases h
  have hS:St l (.error e) a e.1 e.2:=⟨⟨t,ht⟩,i,rfl,rfl⟩;have A:∀g:Bool,∃z,∀k:Int->Option (aE×Int×Int×Int),bF g default (cN N t.2.1) k=k z:=λg=>by
   cases g
   .exact ⟨default,λk=>rfl⟩
   .exact ⟨eR N t.2.1,λk=>by rw [dw,G];rfl⟩
  have x:∀g:Bool,∃z,∀k:Int->Option (aE×Int×Int×Int),bF g default (cN Q t.2.1) k=k z:=λg=>by
   cases g
   .exact ⟨default,λk=>rfl⟩
   .exact ⟨eR Q t.2.1,λk=>by rw [dw,F];rfl⟩
  cases v:(t.1 != 1)
  case true=>
   simp [CC N S_ I Q C i,ah];grind
  obtain ⟨E,L⟩:=A (!(xw.contains t.2.1));rw [L];obtain ⟨H,K⟩:=x (!(xw.contains t.2.1||decide (0<=E)));rw [K];cases (xw.contains t.2.1||decide (0<=E)||decide (0<=H))
  .cases full
   .simp [i];grind
   .simp [CC N S_ I Q C i,ah];grind
  .simp [CC N S_ I Q C i,ah];grind
include hl in
theorem R6(c:Bool)(h:St l st a b p):∃n a' b' p',jP l N S_ I Q C b p c a=some (n,a',b',p')/\St l (bz st (rK c)) a' b' p'/\P4 st (rK c) n:=by
 obtain ⟨t,ht⟩:=h.at
 unfold jP;rw [ht,ah];cases st with
 |ok f=>
  obtain ⟨k,t',r,rfl,rfl,hd,g,rfl,rfl,hx,hm,d,hk⟩:=h.ok;rw [hx] at ht;cases ht;simp [bz,bN,rK,P4];cases s:(t.1 != 2)
  .simp [jU,cz (show k<4611686018427387904 by omega)];have q  :=by simpa using s
   have j  :=g.tail (by omega);cases c
   .exact ⟨_,_,_,_,rfl,⟨k+1,rfl,d,j,rfl,rfl⟩,λf y i o m=>by grind⟩
   .exact ⟨_,_,_,_,rfl,⟨k+1,rfl,d,j,rfl,rfl⟩,λf y i o m=>by grind⟩
  .exact ⟨_,_,_,_,rfl,⟨⟨t,hx⟩,rfl,rfl,rfl⟩,λf y i o m=>by grind⟩
 |error e=>
  obtain ⟨_,g,rfl,rfl⟩:=h;have hb:(e.1 != 0)=true:=by grind
  simp only [CC N S_ I Q C g,ah,jU,aV,hb];have hS:St l (.error e) a e.1 e.2:=⟨⟨t,ht⟩,g,rfl,rfl⟩;cases (t.1 != 2) <;> exact ⟨_,_,_,_,rfl,hS,λf y r h=>by cases h⟩
include hl in
theorem Xl(h:St l st a b p):∃n d c p',dN l a N S_ I Q C b p=some (n,d,c,p')/\St l (bz st fP) d c p'/\P4 st fP n:=by
 unfold dN;rw [HG N S_ I Q C h 3 [45],ah];cases st with
 |ok m=>
  simp [C6];cases v:sS 3 [45] m
  .obtain ⟨n,d,c,p',g,q,j⟩:=R6 hl N S_ I Q C false h;have e:fP m=rK false m:=by grind [fP]
   exact ⟨n,d,c,p',g,by grind [bz,bN],λf y r i x=>j f y r i (by grind)⟩
  .obtain ⟨k,t,r,rfl,rfl,hd,u,rfl,rfl,hx,hm,o,hk⟩:=h.ok;have w  :=(nZ u (by decide) v).1;have hS:St l (.ok r) (IntKind.i64.wrap ((k)+1)) 0 0:=by rw [cz (by omega)];exact ⟨k+1,rfl,o,w,rfl,rfl⟩
   obtain ⟨n,d,c,p',g,q,j⟩:=R6 hl N S_ I Q C true hS;have e:fP (t::r)=rK true r:=by grind [fP]
   exact ⟨n,d,c,p',g,by grind [bz,bN],λf y s i x=>j r y s rfl (by grind)⟩
 |error e=>
  obtain ⟨n,d,c,p',g,q,j⟩:=R6 hl N S_ I Q C false h;exact ⟨n,d,c,p',g,q,λf y r i=>by cases i⟩
include hl htok hnum in
theorem aca(h:St l st a b p)(hN:N.length<1099511627776)(c:Int):∃x a' b' p',cD c l a N S_ I Q C b p=some (x,a',b',p')/\St l (bz st (ek c N)) a' b' p'/\P4 st (ek c N) x:=by
 unfold cD;cases st with
 |ok i=>
  obtain ⟨k,t,r0,rfl,rfl,hd,n,rfl,rfl,hx,hm,A,hk⟩:=h.ok;obtain ⟨r,g,j⟩:=agM (names:=N) (by omega) (by omega) htok (by rw [hd];exact n);rw [hd] at g;have d:=akH g
  match r,g,j,d with
  | .error (b,p),g,j,d=>
   have hb:=G9 g;have q:(b==0)=false:=by simpa using hb
   rw [j,ah];simp [hb,bz,bN,ek,d];exact ⟨_,_,_,_,rfl,⟨⟨t,hx⟩,q,rfl,rfl⟩,λi y m z s=>by grind [ek]⟩
  | .ok (x,ts'),g,⟨k',hk',j⟩,d=>
   have o:=g.size _ rfl;simp only [Jp] at o;have v:(t::r0).length<=l.length:=by rw [<-hd];simp
   have f:=(g.ends n _ rfl).1;rw [j,ah];simp [ado x (by omega),ah,bz,bN,ek,d,P4];have hat:∃t',idx l (k')=some t':=by obtain ⟨t',m,w⟩:=f.ne;simp only at w;rw [w] at hk';exact ⟨t',(rm hk').1⟩
   cases D:((rt x).2.1 != 0)
   case true=>
    have u:((rt x).2.1==0)=false:=by simpa using D
    exact ⟨_,_,_,_,rfl,⟨hat,u,rfl,rfl⟩,λi y m z s=>by grind⟩
   cases z:((rt x).1 != c)
   case true=>
    exact ⟨_,_,_,_,rfl,⟨hat,rfl,rfl,rfl⟩,λi y m B s=>by grind⟩
   exact ⟨_,_,_,_,rfl,⟨k',rfl,hk',f,rfl,rfl⟩,λi y m B s=>by grind⟩
 |error e=>
  obtain ⟨ht,n,rfl,rfl⟩:=h;have hb:(e.1 != 0)=true:=by grind
  simp only [hb,bz];exact ⟨_,_,_,_,rfl,⟨ht,n,rfl,rfl⟩,λi y r h=>by cases h⟩
end
end Sy
namespace Sy
open Pa
theorem akm(lo hi:Int):mK ([(lo,hi)]:yx)=some (lV lo hi):=by
 have e:mK ([(lo,hi)])=ao (oa [(lo,hi)]) ax 0:=rfl;rw [e];obtain ⟨m,hm⟩:∃m,ax=m+2:=⟨18446744073709551614,rfl⟩;rw [hm,show m+2=(m+1)+1 from rfl,au];have a:idx ([(lo,hi)]) 0=some (lo,hi):=rfl;simp [oa,a,ah,aV];unfold lV;cases decide (hi<lo)
 case true=>rfl
 simp [ko,dw,ah,mm];cases decide (lo< -1073741824)
 case true=>rfl
 simp [ko,dw,ah,mm];cases decide (1073741824<hi)
 case true=>rfl
 simp [ko,dw,ah,mm];cases decide (65535<IntKind.i64.wrap (hi-lo))
 .rfl
 .rfl
section
variable {l : List Tok} (hl : l.length < 1099511627776) (htok :∀t ∈ l, jc t) (hnum :∀t ∈ l, Bp t)
variable {st : Except gR (List Tok)} {a b p : Int} (N : List aE) (S_ : List (Int × Int)) (I : zn) (Q : List aE) (C : List aS)
variable (hN : N.length < 1099511627776) (hS : S_.length < 1099511627776) (hI : I.length < 1099511627776) (hQ : Q.length < 1099511627776) (hC : C.length < 1099511627776)
include hl hN hS hI hQ in
theorem ao5(h:St l st a b p):∃a' F E G b' p',gJ l a N S_ I Q C b p=some (a',F,E,G,b',p')/\St l (bz st (pX (N,S_,I,Q,C))) a' b' p'/\
  (∀f m r,st= .ok f->pX (N,S_,I,Q,C) f= .ok (m,r)->m=(F,E,G,Q,C)):=by
 obtain ⟨d,a1,b1,p1,n,R,Z⟩:=acF hl N S_ I Q C h hN hQ (decide (16<=(List.length N:Int)));obtain ⟨q,e0,v0⟩:=abc N S_ I Q C R;obtain ⟨lo,a2,b2,p2,e2,s2,Y⟩:=Xl hl N S_ I Q C R;obtain ⟨hi,a3,b3,p3,e3,s3,X⟩:=Xl hl N S_ I Q C s2;obtain ⟨g,a4,b4,p4,e4,s4,W⟩:=Xl hl N S_ I Q C s3;obtain ⟨P,U,S,e5,o⟩:=Cj hl N S_ I Q C s4 [59];have k1:aH (List.length N+List.length ([d]:List aE)) 16=true:=cO (by simp;omega) (by simp;omega);have k2:aH (List.length S_+List.length ([(lo,hi)]:yx)) 16=true:=cO (by simp;omega) (by simp;omega);have k3:aH (List.length I+List.length ([g]:zn)) 8=true:=cO (by simp;omega) (by simp;omega);have hK:∀v u,iZ N S_ I (d,a1,b1,p1) (lo,a2,b2,p2) (hi,a3,b3,p3) (g,a4,b4,p4) (P,U,S) v u=some (P,N++[d],S_++[(lo,hi)],I++[g],v,u):=λv u=>by unfold iZ;rw [aN k1,aN k2,aN k3]
 unfold gJ;simp only [n,ah,e0,e2,e3,e4,e5,akm,aV,hK]
 -- where it is wrong
 have O:∀e:gR,bN (bz (bz (bz (bz st (fC (decide (16<=(List.length N:Int))) N Q)) fP) fP) fP) (bY [59])= .error e->
   (bz st (pX (N,S_,I,Q,C)))= .error e:=by
  intro e c;cases st with
  |error e'=>simp only [bz,bN] at c ⊢; exact c
  |ok f=>
   simp only [bz,bN,pX] at c ⊢;cases k:fC (decide (16<=(List.length N:Int))) N Q f with
   |error n=>rw [k] at c;simp only [rest] at c ⊢; exact c
   |ok M=>
    rw [k] at c;simp only [rest] at c ⊢;cases j:fP M.2 with
    |error n=>rw [j] at c;simp only [] at c ⊢; exact c
    |ok L=>
     rw [j] at c;simp only [] at c ⊢;cases z:fP L.2 with
     |error n=>rw [z] at c;simp only [] at c ⊢; exact c
     |ok K=>
      rw [z] at c;simp only [] at c ⊢;cases H:fP K.2 with
      |error n=>rw [H] at c;simp only [] at c ⊢; exact c
      |ok q4=>
       rw [H] at c;simp only [] at c ⊢;rw [c]
 cases kC:bN (bz (bz (bz (bz st (fC (decide (16<=(List.length N:Int))) N Q)) fP) fP) fP) (bY [59]) with
 |error e=>
  have hb:=O e kC;rw [kC] at o;have t:=CC (l:=l) N S_ I Q C (b:=U) (by rw [o.2.2.1];exact o.2.1) 5 q P S;rw [hb];have V:∀F E G,∀f m r,st= .ok f->pX (N,S_,I,Q,C) f= .ok (m,r)->m=(F,E,G,Q,C):=λF E G f m r k j=>by subst k;simp only [bz,bN,j,rest] at hb;cases hb
  cases (!(lV lo hi)||decide (g<lo)||decide (hi<g))
  .simp only [ca];exact ⟨_,_,_,_,_,_,rfl,o,V _ _ _⟩
  .simp only [cp,t,ah];exact ⟨_,_,_,_,_,_,rfl,o,V _ _ _⟩
 |ok w=>
  rw [kC] at o;cases st with
  |error e'=>simp only [bz,bN] at kC;cases kC
  |ok f=>
   simp only [bz,bN] at kC;cases k:fC (decide (16<=(List.length N:Int))) N Q f with
   |error n=>rw [k] at kC;cases kC
   |ok M=>
    obtain ⟨s,i⟩:=M;rw [k] at kC;simp only [rest] at kC;have en:d=s:=Z _ _ _ rfl k;have t1:bz (.ok f) (fC (decide (16<=(List.length N:Int))) N Q)= .ok i:=by simp only [bz,bN,k,rest]
    have eq:q=Qf i:=v0 _ t1;cases j:fP i with
    |error n=>rw [j] at kC;cases kC
    |ok L=>
     obtain ⟨lo',y⟩:=L;rw [j] at kC;simp only at kC;have e2'  :=Y _ _ _ t1 j;have t2:bz (bz (.ok f) (fC (decide (16<=(List.length N:Int))) N Q)) fP= .ok y:=by rw [t1];simp [bz,bN,j,rest]
     cases z:fP y with
     |error n=>rw [z] at kC;cases kC
     |ok K=>
      obtain ⟨hi',x⟩:=K;have e3'  :=X _ _ _ t2 z;have t3:bz (bz (bz (.ok f) (fC (decide (16<=(List.length N:Int))) N Q)) fP) fP= .ok x:=by grind [bz,bN,rest]
      cases H:fP x with
      |error n=>grind
      |ok q4=>
       have e4'  :=W _ _ _ t3 H;have hv:pX (N,S_,I,Q,C) f=(bif !(lV lo hi)||decide (g<lo)||decide (hi<g) then .error (5,Qf i) else .ok ((N++[d],S_++[(lo,hi)],I++[g],Q,C),w)):=by grind [pX]
       simp [bz,bN,hv];obtain ⟨T,D,B,A,rfl,rfl⟩:=o;cases hq:(!(lV lo hi)||decide (g<lo)||decide (hi<g))
       .exact ⟨_,_,_,_,_,_,rfl,⟨T,D,B,A,rfl,rfl⟩,λJ m r h5 h6=>by grind⟩
       .refine ⟨_,_,_,_,_,_,rfl,?_,λJ m r h5 h6=>by grind⟩;have hat:=St.at (st:= .ok w) ⟨T,D,B,A,rfl,rfl⟩;exact ⟨hat,rfl,rfl,eq⟩
end
end Sy
namespace Sy
open Pa
section
variable {l : List Tok} (hl : l.length < 1099511627776) (htok :∀t ∈ l, jc t) (hnum :∀t ∈ l, Bp t)
variable {st : Except gR (List Tok)} {a b p : Int} (N : List aE) (S_ : List (Int × Int)) (I : zn) (Q : List aE) (C : List aS)
variable (hN : N.length < 1099511627776) (hQ : Q.length < 1099511627776) (hC : C.length < 1099511627776)
theorem P6(acc:List (Int×Ex))(f:acc.length<4611686018427387904)(again)(e:Tok)(i:Int)(a b p:Int):∀(r pre:List (Int×Ex)),acc=pre++r->∀(M:Nat) (c:Bool),r.length<M->
  ao (cC l N S_ I Q C a b p acc again e i) M (c,(pre.length:Int))=cC l N S_ I Q C a b p acc again e i (λ_=>none) (c||BO r i,(acc.length:Int))
 |[],pre,h,M,c,hM=>by
  obtain ⟨m,rfl⟩:∃m,M=m+1:=⟨M-1,by omega⟩;simp_all [au,cC,BO,List.any_nil]
 |x::r,pre,h,M,c,hM=>by
  obtain ⟨m,rfl⟩:∃m,M=m+1:=⟨M-1,by omega⟩;rw [au];have d:pre.length<4611686018427387904:=by grind
  have ih:=λc=>P6 acc f again e i a b p r (pre++[x]) (by rw [h];simp) m c (by simp at hM;omega);rw [show ((pre++[x]).length)=((pre.length+1:Nat)) by simp] at ih;have j:∀k:(Int×Ex)->Option (Int×List aS×Int×Int),bF (!c) (0,Ex.mk 0 0 0 []) (some x) k=k (bif c then (0,Ex.mk 0 0 0 []) else x):=λk=>by cases c <;> rfl
  refine Eq.trans (b:=bif decide ((pre.length:Int)<(List.length acc)) then (bF (!c) (0,(Ex.mk 0 0 0 [])) (idx acc (pre.length)) λg=>ao (cC l N S_ I Q C a b p acc again e i) m (c||(g.1==i),IntKind.i64.wrap ((pre.length)+1))) else none) ?_ ?_
  .simp only [cC,pL h,cp,aV]
  .rw [pL h,cp,jv h,j,cz d,ih];grind [BO]
include hl hC in
theorem Sf(f:Ex×Int×Int×Int)(acc:List (Int×Ex))(c:Bool)(M:Nat)(h:St l st a b p)(hm:(c&&(b==0))=false):
  ∃e d p',ao (cZ l N S_ I Q C f) (M+1) (a,b,p,acc,c)=some (e,C++[(IntKind.i64.wrap ((Q.length:Int)-1),f.1,acc)],d,p')/\St l (bN st (bY [59])) e d p':=by
 obtain ⟨e,d,p',g,i⟩:=Cj hl N S_ I Q C h [59];rw [au];simp only [cZ,aV,g,ah];have k1:∀x:aS,aH (List.length C+List.length ([x])) 80=true:=λx=>cO (by simp;omega) (by simp;omega);rw [aN (k1 _)];grind
include hl htok hnum hN in
theorem apW(acc:List (Int×Ex))(g:acc.length<1099511627776)(again)(i:Int)(h:St l st a b p):
  ∃x a' b' p',fM l N S_ I Q C acc again i b p a=again (a',b',p',acc++[(i,x)],C6 3 [44] (bz (bN st (bY [61])) (ek 1 N)))/\
   St l (match bz (bN st (bY [61])) (ek 1 N) with|.ok c=>(bif sS 3 [44] c then .ok c.tail else .ok c)|.error e=> .error e) a' b' p'/\P4 (bN st (bY [61])) (ek 1 N) x:=by
 obtain ⟨y,v,p1,s,m⟩:=Cj hl N S_ I Q C h [61];obtain ⟨x,w,u,p2,q,d,j⟩:=aca hl htok hnum N S_ I Q C m hN 1;have e3:=HG N S_ I Q C d 3 [44];have k1:aH (List.length acc+List.length ([(i,x)])) 56=true:=cO (by simp;omega) (by simp;omega);unfold fM;simp only [s,ah,q,aN k1,e3];cases kC:bz (bN st (bY [61])) (ek 1 N) with
 |error e=>
  simp [C6];grind
 |ok c=>
  rw [kC] at d;simp [C6];cases o:sS 3 [44] c
  .grind
  .obtain ⟨k,t,r,rfl,rfl,hd,n,rfl,rfl,hx,hm,f,hk⟩:=d.ok;refine ⟨x,_,_,_,rfl,?_,j⟩;rw [cz (by omega)];exact ⟨k+1,rfl,f,(nZ n (by decide) o).1,rfl,rfl⟩
include hl htok hnum hN hC in
theorem anc(A:Ex×Int×Int×Int):∀(n:Nat) (w:List Tok) (acc:List (Int×Ex)) (a:Int) (M f:Nat),w.length<=n->n+2<=M->w.length<f->acc.length+w.length<1099511627776->St l (.ok w) a 0 0->
  ∃a' C' b' p',ao (cZ l N S_ I Q C A) M (a,0,0,acc,true)=some (a',C',b',p')/\St l (bN (rest (fv N f acc w)) (bY [59])) a' b' p'/\
   (∀sets r,fv N f acc w= .ok (sets,r)->C'=C++[(IntKind.i64.wrap ((Q.length:Int)-1),A.1,sets)]):=by
 intro n
 induction n with
 |zero=>
  intro w acc a M f V _ _ _ O;obtain ⟨k,t,r,_,rfl,_⟩:=O.ok;simp at V
 |succ n ih=>
  intro w acc a M f V h2 h3 h4 O;obtain ⟨M,rfl⟩:∃m,M=m+1:=⟨M-1,by omega⟩;obtain ⟨f,rfl⟩:∃m,f=m+1:=⟨f-1,by omega⟩;obtain ⟨k,t,r,rfl,rfl,hd,he,_,_,hx,hm,R,hk⟩:=O.ok;rw [au];generalize U:ao (cZ l N S_ I Q C A) M=i;simp only [cZ,aV,qe,si,cp,hx,ah,OU (show N.length<4611686018427387904 by omega)];have D:=P6 (l:=l) N S_ I Q C acc (by omega) i t (eR N t.2.1) (k:Int) 0 0 acc [] rfl ax false (by show acc.length<2^64;omega);rw [show (([]:List (Int×Ex)).length:Int)=0 from rfl,mm] at D;rw [D];simp only [cC,c9 (show ¬((acc.length:Int)<(List.length acc:Int)) by omega),ca,aV,Ro,ah]
  -- the state behind the name
  have step:∀(st1:Except gR (List Tok)) (c b p:Int),St l st1 c b p->(st1= .ok r\/∃e,st1= .error e)->
    fv N (f+1) acc (t::r)=(match st1 with
     | .error e=> .error e
     | .ok r0=>match bY [61] r0 with
      | .error e=> .error e
      | .ok r1=>match ek 1 N r1 with
       | .error e=> .error e
       | .ok (x,r2)=>bif sS 3 [44] r2 then fv N f (acc++[(eR N t.2.1,x)]) r2.tail else .ok (acc++[(eR N t.2.1,x)],r2))->
    ∃a' C' b' p',fM l N S_ I Q C acc i (eR N t.2.1) b p c=some (a',C',b',p')/\St l (bN (rest (fv N (f+1) acc (t::r))) (bY [59])) a' b' p'/\
     (∀sets K,fv N (f+1) acc (t::r)= .ok (sets,K)->C'=C++[(IntKind.i64.wrap ((Q.length:Int)-1),A.1,sets)]):=by
   intro st1 c b p j pr g;obtain ⟨x,a1,b1,p1,e1,o,Z⟩:=apW hl htok hnum N S_ I Q C hN acc (by omega) i (eR N t.2.1) j;rw [e1,<-U];have hM1:1<=M:=by omega
   obtain ⟨M',rfl⟩:∃m,M=m+1:=⟨M-1,by omega⟩;cases d:bz (bN st1 (bY [61])) (ek 1 N) with
   |error e=>
    rw [d] at o;simp only [C6] at o ⊢;obtain ⟨X,W,p2,H,B⟩:=Sf hl N S_ I Q C hC A (acc++[(eR N t.2.1,x)]) false M' o rfl;have E:fv N (f+1) acc (t::r)= .error e:=by
     rw [g];cases st1 with
     |error e'=>simp only [bz,bN] at d ⊢; cases d;rfl
     |ok r0=>
      simp only [bz,bN] at d ⊢;cases u:bY [61] r0 with
      |error e'=>rw [u] at d;simp only at d ⊢; cases d;rfl
      |ok r1=>
       rw [u] at d;simp only at d ⊢;cases s:ek 1 N r1 with
       |error e'=>rw [s] at d;simp only [rest] at d ⊢; cases d;rfl
       |ok q=>rw [s] at d;simp only [rest] at d;cases d
    rw [E];exact ⟨_,_,_,_,H,B,λsets K h=>by cases h⟩
   |ok r2=>
    rw [d] at o;simp only [C6] at o ⊢;obtain ⟨r0,r1,J,v,z,y⟩:∃r0 r1 J,st1= .ok r0/\bY [61] r0= .ok r1/\ek 1 N r1= .ok (J,r2):=by
     cases st1 with
     |error e'=>simp only [bz,bN] at d;cases d
     |ok r0=>
      simp only [bz,bN] at d;cases u:bY [61] r0 with
      |error e'=>rw [u] at d;cases d
      |ok r1=>
       rw [u] at d;simp only at d;cases s:ek 1 N r1 with
       |error e'=>rw [s] at d;cases d
       |ok q=>rw [s] at d;simp only [rest] at d;cases d;exact ⟨r0,r1,q.1,rfl,u,s⟩
    have L:x=J:=Z r1 J r2 (by rw [v];simp only [bN,z]) y;subst L;rw [v] at g;simp only [z,y] at g;have F:r0=r:=by rcases pr with h|⟨e,h⟩ <;> rw [v] at h <;> cases h;rfl
    subst F;have P:Pa.Ends r0:=by
     rw [v] at j;exact (j.ok).choose_spec.choose_spec.choose_spec.2.2.2.1 |> λh=>by have:=(j.ok).choose_spec.choose_spec.choose_spec.2.1;rw [this];exact h
    have u:=lX P z;have s:=(sG u.1 y).1;have q2':r2.length<r1.length:=s.2;have q1':r1.length<r0.length:=u.2;cases S:sS 3 [44] r2
    .rw [S] at o g;simp only [ca] at o g;obtain ⟨X,W,p2,H,B⟩:=Sf hl N S_ I Q C hC A (acc++[(eR N t.2.1,x)]) false M' o rfl;rw [g];exact ⟨_,_,_,_,H,B,λsets K h=>by cases h;rfl⟩
    .rw [S] at o g;simp only [cp] at o g;obtain ⟨t1,t2⟩:=nZ s.1 (by decide) S;have t2':r2.tail.length+1=r2.length:=t2;have G:(acc++[(eR N t.2.1,x)]).length=acc.length+1:=by simp
     simp only [ei] at V h3 h4;have T:b1=0/\p1=0:=by obtain ⟨_,_,_,_,h5,h6⟩:=o;exact ⟨h5,h6⟩
     obtain ⟨rfl,rfl⟩:=T;obtain ⟨X,C2,W,p2,H,B,Y⟩:=ih r2.tail (acc++[(eR N t.2.1,x)]) a1 (M'+1) f (by omega) (by omega) (by omega) (by rw [G];omega) o;rw [g];exact ⟨_,_,_,_,H,B,Y⟩
  cases c1:(t.1 != 1)
  case true=>
   simp only [cp,jw,show ((2:Int)==0)=false from rfl,ca];refine step (.error (2,t.2.2.2)) (k) 2 t.2.2.2 ⟨⟨t,hx⟩,rfl,rfl,rfl⟩ (.inr ⟨_,rfl⟩) ?_;simp [fv,c1,cp]
  cases c2:(decide (eR N t.2.1<0)||BO acc (eR N t.2.1))
  case true=>
   refine step (.error (3,t.2.2.2)) (k) 3 t.2.2.2 ⟨⟨t,hx⟩,rfl,rfl,rfl⟩ (.inr ⟨_,rfl⟩) ?_;simp [fv,c1,ca,c2,cp]
  simp [jw,cz (show k<4611686018427387904 by omega)];have ht1  :=by simpa using c1
  refine step (.ok r) ((k+1:Nat)) 0 0 ⟨k+1,rfl,R,he.tail (by omega),rfl,rfl⟩ (.inl rfl) ?_;simp [fv,ca];grind
include hl htok hnum hN hC in
theorem afM(h:St l st a b p):∃a' C' b' p',fJ l a N S_ I Q C b p=some (a',C',b',p')/\
  St l (bN (bN (bz st (ek 2 N)) (bY [58])) (λr2=>bN (rest (fv N (r2.length+1) [] r2)) (bY [59]))) a' b' p'/\
  (∀d g r1 r2 sets i,st= .ok d->ek 2 N d= .ok (g,r1)->bY [58] r1= .ok r2->fv N (r2.length+1) [] r2= .ok (sets,i)->C'=C++[(IntKind.i64.wrap ((Q.length:Int)-1),g,sets)]):=by
 obtain ⟨x,o,n,p1,z,r,q⟩:=aca hl htok hnum N S_ I Q C h hN 2;obtain ⟨H,B,p2,y,c⟩:=Cj hl N S_ I Q C r [58];unfold fJ;simp [z,ah,y];cases m:bN (bz st (ek 2 N)) (bY [58]) with
 |error e=>
  rw [m] at c;have hb:(false)=(B==0):=by rw [c.2.2.1];exact c.2.1.symm
  obtain ⟨D,A,t,e3,f⟩:=Sf hl N S_ I Q C hC (x,o,n,p1) [] true 18446744073709551615 c (by rw [<-hb];rfl);rw [show ax=18446744073709551615+1 from rfl,e3];grind [bz,bN,rest]
 |ok r2=>
  rw [m] at c;obtain ⟨k,rfl,hd,u,rfl,rfl⟩:=c;have j:r2.length<=l.length:=by rw [<-hd];simp
  obtain ⟨D,J,A,t,e3,f,E⟩:=anc hl htok hnum N S_ I Q C hN hC (x,o,n,p1) r2.length r2 [] (k) ax (r2.length+1) (c8 _) (by show _<=2^64;omega) (by omega) (by simp;omega) ⟨k,rfl,hd,u,rfl,rfl⟩;refine ⟨_,_,_,_,e3,f,λd g r1 s sets i w v G F=>?_⟩;subst w;have hx  :=q d g r1 rfl v;grind [bz,bN,rest]
include hl htok hnum hN hC in
theorem apC(h:St l st a b p):∃g i f p',ie l a N S_ I Q C b p=some (g,i,f,p')/\St l (bz st (mZ (N,S_,I,Q,C))) g f p'/\
  (∀c m r,st= .ok c->mZ (N,S_,I,Q,C) c= .ok (m,r)->m=(N,S_,I,Q,i)):=by
 unfold ie;have key:∀(st1:Except gR (List Tok)) (o p1:Int),St l st1 a o p1->((∃e,st1= .error e/\bz st (mZ (N,S_,I,Q,C))= .error e)\/(st1=st/\decide (256<=(C.length:Int))=false))->
   ∃g i f p',fJ l a N S_ I Q C o p1=some (g,i,f,p')/\St l (bz st (mZ (N,S_,I,Q,C))) g f p'/\
    (∀c m r,st= .ok c->mZ (N,S_,I,Q,C) c= .ok (m,r)->m=(N,S_,I,Q,i)):=by
  intro st1 o p1 v j;obtain ⟨g,i,f,p',y,s,A⟩:=afM hl htok hnum N S_ I Q C hN hC v;refine ⟨g,i,f,p',y,?_,?_⟩
  .rcases j with ⟨e,rfl,n⟩|⟨rfl,hd⟩
   .rw [n];exact s
   .have:bz st1 (mZ (N,S_,I,Q,C))=bN (bN (bz st1 (ek 2 N)) (bY [58])) (λr2=>bN (rest (fv N (r2.length+1) [] r2)) (bY [59])):=by
     cases st1 with
     |error e=>rfl
     |ok c=>
      simp [bz,bN,mZ,hd];cases ek 2 N c with
      |error e=>rfl
      |ok q=>
       simp [rest];cases bY [58] q.2 with
       |error e=>rfl
       |ok r2=>
        simp only;cases fv N (r2.length+1) [] r2 with
        |error e=>rfl
        |ok u=>
         simp only;cases bY [59] u.2 <;> rfl
    rw [this];exact s
  .intro c m r D x;rcases j with ⟨e,rfl,n⟩|⟨rfl,hd⟩
   .grind [bz,bN,rest]
   .simp [mZ,hd] at x;grind
 cases hd:decide (256<=(List.length C:Int))
 .simp [aV];grind
 .simp only [aV];obtain ⟨q,z,B⟩:=abc N S_ I Q C h;rw [z,ah];cases st with
  |ok c=>
   obtain ⟨k,t,r,rfl,rfl,w,n,rfl,rfl,hx,_⟩:=h.ok;refine key (.error (9,q)) 9 q ⟨⟨t,hx⟩,rfl,rfl,rfl⟩ (.inl ⟨_,rfl,?_⟩);simp_all [bz,bN,mZ,rest]
  |error e=>
   have n:=h.2.1;have d:=h;obtain ⟨_,_,rfl,rfl⟩:=d;rw [CC N S_ I Q C n,ah];exact key (.error e) e.1 e.2 h (.inl ⟨e,rfl,rfl⟩)
end
end Sy
variable {α ρ : Type}
namespace Lx
theorem ed(xs:List α)(k:Nat):idx xs (k:Int)=xs[k]? :=by simp [idx]
theorem dX{α:Type}{xs:List α}{k:Nat}(h:k<xs.length):idx xs (k:Int)=some xs[k]:=by rw [ed,b9 h]
theorem au{σ:Type}(F:(σ->Option ρ)->σ->Option ρ)(n:Nat)(s:σ):ao F (n+1) s=F (ao F n) s:=rfl
theorem n6(k:Option ρ):aM true k=k:=rfl
theorem IA(c:Bool)(k:Option ρ):IE false c k=k:=rfl
theorem EM(k:Option ρ)(g:Bool):IE g true k=k:=by cases g <;> rfl
theorem rk(d:α)(m:Option α)(k:α->Option ρ):bF true d m k=m.bind k:=rfl
theorem JX(d:α)(m:Option α)(k:α->Option ρ):bF false d m k=k d:=rfl
theorem j2(x:α)(k:α->Option ρ):(some x).bind k=k x:=rfl
theorem lK(x:α)(k:α->Option ρ):ai x k=k x:=rfl
theorem tn{i:Int}{n:Nat}(b:0<=i)(a:i<n):oL i n=true:=nc.2 ⟨b,a⟩
theorem E4{i j:Int}{n:Nat}(c:0<=i)(b:i<=j)(a:j<=n):cR i j n=true:=vo.2 ⟨⟨c,b⟩,a⟩
theorem Bu{k b:Nat}(h:k*b<=140737488355328)(a:k<=9223372036854775807):aH k b=true:=by simp_all [aH,an]
theorem HM(l:aE)(k:Nat)(h:k<l.length):mz l (k:Int)=(l[k].toNat:Int):=by simp [mz,h]
theorem al8(l:aE)(i j:Nat):cut l (i:Int) (j:Int)=(l.drop i).take (j-i):=rfl
theorem uX{p:Prop}[Decidable p](h:p):decide p=true:=cy h
theorem BE{p:Prop}[Decidable p](h:¬p):decide p=false:=c9 h
theorem yj:ax=18446744073709551616:=rfl
abbrev Tok:=Int×aE×Int×Int
def ji(c:UInt8):Bool:=c==32||c==9||c==10||c==13
def gG(c:UInt8):Bool:=(decide (97<=c)&&decide (c<=122))||(decide (65<=c)&&decide (c<=90))||c==95
def isDigit(c:UInt8):Bool:=decide (48<=c)&&decide (c<=57)
def fp(c:UInt8):Bool:=gG c||isDigit c
def Ef(c:UInt8):Bool:=c != 10
theorem EB(c d:UInt8):((c.toNat:Int)==(d.toNat:Int))=(c==d):=by grind [UInt8.toNat_inj]
theorem RK(c d:UInt8):decide ((c.toNat:Int)<=(d.toNat:Int))=decide (c<=d):=by simp_all [s7]
theorem ta{p:UInt8->Bool}:∀(l:aE) (k:Nat),(∀i (h:i<l.length),i<k->p l[i]=true)->k<=l.length->(∀h:k<l.length,p l[k]=false)->l.takeWhile p=l.take k
  |[],k,_,hk,_=>by simp
  |c::l,0,_,_,h2=>by
    simp_all
  |c::l,k+1,h1,hk,h2=>by
    have a:=h1 0 (by simp) (by omega);simp at a;rw [List.takeWhile_cons,du a,q5,ta l k (λi h b=>by
      grind) (by simpa using hk) (λh=>by
      grind)]
theorem run_gen{p:UInt8->Bool}{f:Int->zc}(j:∀c:UInt8,f (c.toNat:Int)=some (p c)){text:aE}(d:text.length<9223372036854775807)
    {F:(Int->Option aE)->Int->Option aE}
    (l:∀again t1,F again t1=bif (decide (t1<(List.length text:Int))) then (aM (oL t1 (List.length text))<|(f (mz text t1)).bind λg=>bif (!g) then (aM (cR 0 t1 (List.length text))<|some (cut text 0 t1)) else (again (IntKind.i64.wrap (t1+1)))) else (some text)):
    ao F ax 0=some (text.takeWhile p):=by
  have key:∀N k,k<=text.length->text.length-k<N->(∀i (h:i<text.length),i<k->p text[i]=true)->ao F N ((k:Nat):Int)=some (text.takeWhile p):=by
    intro N
    induction N with
    |zero=>intro k _ h;omega
    |succ N ih=>
      intro k hk hN hp;rw [au,l];by_cases b:k<text.length
      . rw [uX (by omega),cp,tn (by omega) (by omega),n6,HM _ _ b,j,j2];cases a:p text[k]
        . simp only [ko,cp];rw [E4 (by omega) (by omega) (by omega),n6,ta text k hp hk (λ_=>a)];simp [cut]
        . simp only [qc,ca];rw [bR (by omega)];exact ih (k+1) (by omega) (by omega) (λi h hi=>by
            rcases qE i k with e|e
            . exact hp i h e
            . have:i=k:=by omega
              subst this;exact a)
      . rw [BE (by omega),ca,ta text k hp hk (λh=>absurd h b),gx (by omega)]
  exact key ax 0 (by omega) (by rw [yj];omega) (λi _ h=>by omega)
def x5(c:UInt8):Int:=(c.toNat:Int)-48
def gi(n:Int)(s:aE):Int:=s.foldl (λn c=>10*n+x5 c) n
def sI(n:Int):Bool:=decide (1073741824<n)
theorem QL{c:UInt8}(h:isDigit c=true):0<=x5 c/\x5 c<=9:=by simp [isDigit,s7] at h;unfold x5;grind
theorem Da:∀(s:aE) (n:Int),0<=n->s.all isDigit=true->n<=gi n s
  |[],n,_,_=>qV _
  |c::s,n,hn,h=>by simp only [qp,an] at h;have hd:=QL h.1;have:=Da s (10*n+x5 c) (by omega) h.2;grind [gi,x5]
def cW:List aE:=[[60,45,62],[45,62],[61,61],[33,61],[60,61],[62,61],[60],[62],[61],[43],[45],[42],[40],[41],[123],[125],[59],[44],[58],[38],[124],[33]]
def fE(s:aE):aE:=(cW.find? (λg=>g.isPrefixOf s)).getD []
inductive Step where
  |skip (k:Nat)
  |err (e:Int)
  |tok (k:Int) (t:aE) (n:Int)
def step:aE->Step
  |[]=> .skip 0
  |c::s=>
    if ji c then .skip 1
    else if c==35 then .skip ((c::s).takeWhile Ef).length
    else if gG c then (if 32<((c::s).takeWhile fp).length then .err 9 else .tok 1 ((c::s).takeWhile fp) 0)
    else if isDigit c then (if sI (gi 0 ((c::s).takeWhile isDigit)) then .err 9 else .tok 2 ((c::s).takeWhile isDigit) (gi 0 ((c::s).takeWhile isDigit)))
    else if fE (c::s)==[] then .err 2 else .tok 3 (fE (c::s)) 0
def o9:Nat->Nat->aE->Except (Int×Int) (List Tok)
  |0,_,_=> .ok []
  |_+1,at_,[]=> .ok [(4,[],0,(at_:Int))]
  |f+1,at_,c::s=>
    match step (c::s) with
    | .skip k=>o9 f (at_+k) ((c::s).drop k)
    | .err e=> .error (e,at_)
    | .tok k t n=>match o9 f (at_+t.length) ((c::s).drop t.length) with
      | .ok l=> .ok ((k,t,n,(at_:Int))::l)
      | .error e=> .error e
def res:Except (Int×Int) (List Tok)->List Tok×Int×Int
  | .ok l=>(l,0,0)
  | .error e=>([],e.1,e.2)
def tokens(s:aE):List Tok×Int×Int:=if 65536<s.length then ([],9,0) else res (o9 (s.length+1) 0 s)
theorem Jg(p:UInt8->Bool):∀s:aE,(s.takeWhile p).all p=true
  |[]=>rfl
  |c::s=>by
    rw [List.takeWhile_cons];split
    . simp_all
    . rfl
theorem uY(p:UInt8->Bool)(s:aE):(s.takeWhile p).length<=s.length:=(tj p).length_le
theorem ng{p:UInt8->Bool}{c:UInt8}{s:aE}(h:p c=true):1<=((c::s).takeWhile p).length:=by simp_all
theorem vk{c:UInt8}(h:gG c=true):fp c=true:=by simp [fp,h]
theorem UZ:∀g∈cW,1<=g.length:=by decide
theorem Ig{s:aE}(h:(fE s==[])=false):fE s∈cW/\fE s <+: s/\cW.find? (λg=>g.isPrefixOf s)=some (fE s):=by
  unfold fE at*;cases a:cW.find? (λg=>g.isPrefixOf s) with
  |none=>rw [a] at h;simp at h
  |some g=>
    grind
theorem step_take{c:UInt8}{s:aE}(hb:ji c=false)(e:(c==35)=false){k:Int}{t:aE}{n:Int}(h:step (c::s)= .tok k t n):1<=t.length/\t <+: (c::s):=by
  simp only [step,hb,e,e9] at h;cases a:gG c
  . simp only [a,e9] at h;cases b:isDigit c
    . simp only [b,e9] at h;cases d:(fE (c::s)==[])
      . grind [Ig,UZ]
      . simp [d] at h
    . simp [b,q9] at h;split at h
      . cases h
      . grind [ng,List.takeWhile_prefix]
  . simp [a,q9] at h;split at h
    . cases h
    . grind [ng,vk,List.takeWhile_prefix]
def JR(out:List Tok):Except (Int×Int) (List Tok)->List Tok×Int×Int
  | .ok l=>(out++l,0,0)
  | .error e=>([],e.1,e.2)
theorem Wa{s:aE}{k:Nat}{c:UInt8}{r:aE}(h:s.drop k=c::r):∃hk:k<s.length,s[k]=c:=by grind [Nat.lt_or_ge,List.drop_of_length_le,List.drop_eq_getElem_cons,List.cons.inj]
theorem an8{c:UInt8}{s:aE}{e:Int}(h:step (c::s)= .err e):e≠0:=by grind [step]
theorem J5{σ:Type}{F:(σ->Option ρ)->σ->Option ρ}(p:UInt8->Bool)(s:aE)(st:Nat->σ)(r:Nat->Option ρ)
    (go:∀again k (h:k<s.length),p s[k]=true->(∀i (hi:i<s.length),i<k->p s[i]=true)->F again (st k)=again (st (k+1)))
    (a:∀again k (h:k<s.length),p s[k]=false->F again (st k)=r k)
    (last:∀again,F again (st s.length)=r s.length) (N:Nat) (hN:s.length<N):ao F N (st 0)=r (s.takeWhile p).length:=by
  have key:∀N k,k<=s.length->s.length-k<N->(∀i (h:i<s.length),i<k->p s[i]=true)->ao F N (st k)=r (s.takeWhile p).length:=by
    intro N
    induction N with
    |zero=>omega
    |succ N ih=>
      intro k hk hN hp;rw [au];by_cases c:k<s.length
      . cases b:p s[k]
        . rw [a _ k c b,ta s k hp hk (λ_=>b),dk,j0 hk]
        grind
      . have:k=s.length:=by omega
        subst this;rw [last,ta s s.length hp (c8 _) (λh=>absurd h c),dk,Nat.min_self]
  grind
def kindOf(c:UInt8):Int:=if ji c then 0 else if gG c then 1 else if isDigit c then 2 else 3
theorem aaE(c:UInt8):ji c=(((c==9||c==10)||c==13)||c==32):=by grind [ji]
theorem GG(c:UInt8):fT (c.toNat:Int)=some (kindOf c):=by unfold fT;simp [lK];have e:=EB c 32;have d:=EB c 9;have b:=EB c 10;have a:=EB c 13;have k1:=RK 97 c;have i:=RK c 122;have h:=RK 65 c;have g:=RK c 90;have f:=EB c 95;have d1:=RK 48 c;have d2:=RK c 57;rw [show ((32:Int)=((32:UInt8).toNat)) from rfl,show ((9:Int)=((9:UInt8).toNat)) from rfl,show ((10:Int)=((10:UInt8).toNat)) from rfl,show ((13:Int)=((13:UInt8).toNat)) from rfl,e,d,b,a,<-aaE];unfold kindOf;have k:((decide (97<=c)&&decide (c<=122))||(decide (65<=c)&&decide (c<=90))||c==95)=gG c:=rfl;have j:(decide (48<=c)&&decide (c<=57))=isDigit c:=rfl;grind
def di(n:Int)(s:aE):Int:=s.foldl (λn c=>if n<=1073741824 then 10*n+x5 c else n) n
theorem ZF:∀(s:aE) (n:Int),1073741824<n->di n s=n
  |[],_,_=>rfl
  |c::s,n,h=>by show di (if n<=1073741824 then 10*n+x5 c else n) s=n;rw [df (by omega)];exact ZF s n h
theorem acn:∀(s:aE) (n:Int),0<=n->s.all isDigit=true->(sI (gi n s)=false->di n s=gi n s)/\(sI (gi n s)=true->1073741824<di n s)
  |[],n,_,_=>⟨λ_=>rfl,λh=>qM (show decide (1073741824<n)=true from h)⟩
  |c::s,n,hn,h=>by
    simp only [qp,an] at h;have hd:=QL h.1;have ih:=acn s (10*n+x5 c) (by omega) h.2;have b:gi n (c::s)=gi (10*n+x5 c) s:=rfl;have a:di n (c::s)=di (if n<=1073741824 then 10*n+x5 c else n) s:=rfl;by_cases hb:n<=1073741824
    . grind
    . grind [Da,x5,sI,ZF]
theorem Lr:∀(s:aE) (n:Int),0<=n->n<=10737418249->s.all isDigit=true->0<=di n s/\di n s<=10737418249
  |[],n,h,h',_=>⟨h,h'⟩
  |c::s,n,h,h',hd=>by
    simp only [qp,an] at hd;have a:=QL hd.1;show 0<=di (if n<=1073741824 then 10*n+x5 c else n) s/\di (if n<=1073741824 then 10*n+x5 c else n) s<=10737418249;split
    . exact Lr s _ (by omega) (by omega) hd.2
    . exact Lr s _ h h' hd.2
theorem akG(s:aE)(k:Nat)(h:k<s.length):di 0 (s.take (k+1))=if di 0 (s.take k)<=1073741824 then 10*di 0 (s.take k)+x5 s[k] else di 0 (s.take k):=by grind [di,List.take_succ_eq_append_getElem]
theorem Gv(p:UInt8->Bool)(s:aE):s.take (s.takeWhile p).length=s.takeWhile p:=
  (List.prefix_iff_eq_take.1 (tj p)).symm
section
variable {text s : aE} {at_ : Nat} (hd : text.drop at_ = s) (hat : at_ <= text.length)
include hd hat
theorem LU:text.length=at_+s.length:=by grind
theorem Ce(k:Nat)(h:k<s.length):mz text ((at_+k:Nat):Int)=(s[k].toNat:Int):=by
  have hl:=LU hd hat
  rw [HM text (at_+k) (by omega)];grind
omit hat in
theorem XN(k:Nat):cut text (at_:Int) ((at_+k:Nat):Int)=s.take k:=by rw [al8,hd];congr 1;omega
theorem aqa(hl:text.length<=65536)(out:List Tok)(again7):
    ao (gu text out again7) ax (at_:Int)=again7 (out,((at_+(s.takeWhile Ef).length:Nat):Int)):=by
  have b:=LU hd hat
  refine J5 Ef s (λk=>((at_+k:Nat):Int)) (λk=>again7 (out,((at_+k:Nat)))) ?_ ?_ ?_ ax (by rw [yj];omega)
  . intro a k h hp _;unfold gu;simp only [lK];rw [uX (by omega),tn (by omega) (by omega),Ce hd hat k h,EM];have:((s[k].toNat:Int) != 10)=Ef s[k]:=by have:=EB s[k] 10;unfold Ef bne;grind
    rw [this,hp,si,cp,bR (by omega)];rfl
  . intro a k h hp;unfold gu;simp only [lK];rw [uX (by omega),tn (by omega) (by omega),Ce hd hat k h,EM];have:((s[k].toNat) != 10)=Ef s[k]:=by have:=EB s[k] 10;unfold Ef bne;grind
    grind
  simp_all [gu,lK,IA,s6]
end
theorem NK(c:UInt8):((kindOf c==1)||(kindOf c==2))=fp c:=by
  cases hb:ji c
  . grind [kindOf,fp,gG,isDigit]
  . have:fp c=false:=by simp [ji,fi,n4] at hb;rcases hb with ((rfl|rfl)|rfl)|rfl <;> decide
    simp_all [kindOf]
theorem ap8{text s:aE}{at_:Nat}(hd:text.drop at_=s)(hat:at_<=text.length)(hl:text.length<=65536)(out:List Tok)(again7)(d:out.length<=65536):
    ao (eN text out (at_:Int) again7) ax (at_:Int)=if 32<(s.takeWhile fp).length then some ([],9,(at_:Int)) else again7 (out++[(1,s.takeWhile fp,0,(at_:Int))],((at_+(s.takeWhile fp).length:Nat):Int)):=by
  have e:=LU hd hat
  have f:(if 32<(s.takeWhile fp).length then some ([],9,(at_:Int)) else again7 (out++[(1,s.takeWhile fp,0,(at_:Int))],((at_+(s.takeWhile fp).length:Nat))))
     =(λk=>if 32<k then some ([],9,(at_:Int)) else again7 (out++[(1,s.take k,0,(at_:Int))],((at_+k:Nat)))) (s.takeWhile fp).length:=by
    simp [Gv]
  rw [f];have tail:∀k,k<=s.length->(bif (decide (32<(IntKind.i64.wrap (((at_+k:Nat))-(at_))))) then ( some ([],9,(at_:Int))) else ( aM (cR (at_) ((at_+k:Nat)) (List.length text))<| aM (aH (List.length out+List.length ([(1,(cut text (at_:Int) ((at_+k:Nat):Int)),0,(at_:Int))])) 40)<| again7 ((out++([(1,(cut text (at_:Int) ((at_+k:Nat):Int)),0,(at_:Int))])),((at_+k:Nat)))))=(if 32<k then some ([],9,(at_:Int)) else again7 (out++[(1,s.take k,0,(at_:Int))],((at_+k:Nat)))):=by
    intro k hk;rw [bR (by omega)];by_cases c:32<k
    . grind
    . rw [BE (by omega),ca,df c,E4 (by omega) (by omega) (by omega),n6,Bu (by simp;omega) (by simp;omega),n6,XN hd]
  refine J5 (F:=eN text out (at_) again7) fp s (λk=>((at_+k:Nat))) (λk=>if 32<k then some ([],9,(at_)) else again7 (out++[(1,s.take k,0,(at_:Int))],((at_+k:Nat)))) ?_ ?_ ?_ ax (by rw [yj];omega)
  . intro a k h hp _;unfold eN;simp only [lK];have ke:=NK s[k];rw [hp] at ke;rw [uX (by omega),tn (by omega) (by omega),Ce hd hat k h];simp [GG,rk,j2,mi];cases b:(kindOf s[k]==1)
    . rw [b] at ke;simp only [ko,rk,j2] at ke ⊢;rw [ke,cp,bR (by omega)];rfl
    . rw [bR (by omega)];rfl
  . intro a k h hp;unfold eN;simp only [lK];have ke:=NK s[k];rw [hp] at ke;simp only [n9] at ke;rw [uX (by omega),tn (by omega) (by omega),Ce hd hat k h];simp [GG,rk,j2,mi,ke.1,ke.2,ko,Bool.or_self];exact tail k (by omega)
  simp_all [eN,lK,IA,JX,ca]
theorem aeS(c:UInt8)(h:gG c=false):(kindOf c==2)=isDigit c:=by
  unfold kindOf;rw [h];cases hb:ji c
  . cases isDigit c <;> rfl
  . have:isDigit c=false:=by simp [ji,fi,n4] at hb;rcases hb with ((rfl|rfl)|rfl)|rfl <;> decide
    rw [this];rfl
theorem Ym{c:UInt8}(h:gG c=true):isDigit c=false:=by
  simp [gG,fi,an,gj,s7] at h;cases hd:isDigit c
  . rfl
  . simp [isDigit,an,gj,s7] at hd;have d:(57:UInt8).toNat=57:=rfl;have b:(97:UInt8).toNat=97:=rfl;have a:(65:UInt8).toNat=65:=rfl;rcases h with (h|h)|h
    . omega
    . omega
    simp_all
theorem IG(c:UInt8):(kindOf c==2)=isDigit c:=by grind [gG,aeS,kindOf,Ym,ji]
theorem aqe{text s:aE}{at_:Nat}(hd:text.drop at_=s)(hat:at_<=text.length)(hl:text.length<=65536)(out:List Tok)(again7)(j:out.length<=65536):
    ao (eM text out (at_:Int) again7) ax ((at_:Int),0)=if sI (gi 0 (s.takeWhile isDigit)) then some ([],9,(at_:Int)) else again7 (out++[(2,s.takeWhile isDigit,gi 0 (s.takeWhile isDigit),(at_:Int))],((at_+(s.takeWhile isDigit).length:Nat):Int)):=by
  have l:=LU hd hat
  have a:=acn (s.takeWhile isDigit) 0 (qV _) (Jg _ _);have o:(if sI (gi 0 (s.takeWhile isDigit)) then some ([],9,(at_:Int)) else again7 (out++[(2,s.takeWhile isDigit,gi 0 (s.takeWhile isDigit),(at_:Int))],((at_+(s.takeWhile isDigit).length:Nat):Int)))
     =(λk=>if 1073741824<di 0 (s.take k) then some ([],9,(at_:Int)) else again7 (out++[(2,s.take k,di 0 (s.take k),(at_:Int))],((at_+k:Nat):Int))) (s.takeWhile isDigit).length:=by
    simp only [Gv];cases hb:sI (gi 0 (s.takeWhile isDigit))
    . have n:=a.1 hb;rw [n];have:¬ 1073741824<gi 0 (s.takeWhile isDigit):=by simpa [sI] using hb
      rw [df this];rfl
    . rw [du (a.2 hb)];rfl
  rw [o];have tail:∀k,k<=s.length->(bif (decide (1073741824<di 0 (s.take k))) then ( some ([],9,(at_:Int))) else ( aM (cR (at_:Int) ((at_+k:Nat):Int) (List.length text))<| aM (aH (List.length out+List.length ([(2,(cut text (at_:Int) ((at_+k:Nat):Int)),di 0 (s.take k),(at_:Int))])) 40)<| again7 ((out++([(2,(cut text (at_:Int) ((at_+k:Nat):Int)),di 0 (s.take k),(at_:Int))])),((at_+k:Nat)))))=(if 1073741824<di 0 (s.take k) then some ([],9,(at_:Int)) else again7 (out++[(2,s.take k,di 0 (s.take k),(at_:Int))],((at_+k:Nat)))):=by
    intro k hk;by_cases e:1073741824<di 0 (s.take k)
    . rw [uX (by omega),cp,du e]
    . rw [BE (by omega),ca,df e,E4 (by omega) (by omega) (by omega),n6,Bu (by simp;omega) (by simp;omega),n6,XN hd]
  refine J5 (F:=eM text out (at_) again7) isDigit s (λk=>(((at_+k:Nat)),di 0 (s.take k))) (λk=>if 1073741824<di 0 (s.take k) then some ([],9,(at_)) else again7 (out++[(2,s.take k,di 0 (s.take k),(at_:Int))],((at_+k:Nat)))) ?_ ?_ ?_ ax (by rw [yj];omega)
  . intro b k h hp d;unfold eM;simp only [lK];have ke:=IG s[k];rw [hp] at ke;have g:=QL hp;have hb:=Lr (s.take k) 0 (qV _) (by omega) (by rw [qo];intro c m;obtain ⟨i,hi,rfl⟩:=List.mem_iff_getElem.1 m;rw [List.getElem_take];exact d i (by simp at hi;omega) (by simp at hi;omega))
    rw [uX (by omega),tn (by omega) (by omega),Ce hd hat k h];simp [EM,GG,rk,j2,mi,ke,cp];rw [akG s k h,bR (by omega)];unfold x5 at g ⊢;by_cases f:di 0 (s.take k)<=1073741824
    . rw [uX f,cp,n6,du f,bR (x:=10*_) (by omega),bR (x:=(s[k].toNat)) (by omega),bR (x:=10*_+_) (by omega),bR (by omega)];congr 2;omega
    . rw [BE f,ca,df f];rfl
  . intro b k h hp;unfold eM;simp only [lK];have ke:=IG s[k];rw [hp] at ke;rw [uX (by omega),tn (by omega) (by omega),Ce hd hat k h];simp [GG,rk,j2,ke];exact tail k (by omega)
  . unfold eM;simp [lK];rw [BE (by omega)];simp [IA,JX,s6];grind
theorem aaH:ry=some cW:=rfl
theorem apJ{text:aE}{out:List Tok}{a:Int}{again7}{again122}{g:aE}{j:Int}(d:(g==[])=false)
    (c:out.length<=65536) (hi:0<=a/\a<=65536) (b:g.length<=65536):
    bT text out a again7 cW again122 (g,j)=again7 (out++[(3,g,0,a)],a+g.length):=by
  unfold bT;simp [lK,w5];grind [Bu,n6,bR]
theorem apO{text s:aE}{at_:Nat}(hd:text.drop at_=s)(hat:at_<=text.length)(hl:text.length<=65536)(out:List Tok)(again7)(d:out.length<=65536):
    ao (bT text out (at_:Int) again7 cW) ax ([],0)=if fE s==[] then some ([],2,(at_:Int)) else again7 (out++[(3,fE s,0,(at_:Int))],((at_+(fE s).length:Nat):Int)):=by
  have q:=LU hd hat
  have p:cW.length=22:=rfl;have key:∀N k,k<=cW.length->cW.length-k+1<N->(∀i (h:i<cW.length),i<k->cW[i].isPrefixOf s=false)->
      ao (bT text out (at_:Int) again7 cW) N ([],((k:Nat):Int))=if fE s==[] then some ([],2,(at_:Int)) else again7 (out++[(3,fE s,0,(at_:Int))],((at_+(fE s).length:Nat):Int)):=by
    intro N
    induction N with
    |zero=>intro k _ h;omega
    |succ N ih=>
      intro k hk hN hp;rw [au];by_cases a:k<cW.length
      . have b:cW[k]∈cW:=eF a;have n:∀g∈cW,g.length<=3/\(g==[])=false:=by decide
        have e:=n _ b;have body:bT text out (at_:Int) again7 cW (ao (bT text out (at_:Int) again7 cW) N) ([],((k:Nat):Int))=ao (bT text out (at_:Int) again7 cW) N ((if cW[k].isPrefixOf s then cW[k] else []),((k+1:Nat):Int)):=by
          generalize ao (bT text out (at_:Int) again7 cW) N=o;unfold bT;simp only [lK];rw [uX (by omega)];simp only [show (([]:aE)==[])=true from rfl,si,cp];rw [dX a];simp only [j2];rw [bR (x:=(text.length:Int)-(at_:Int)) (by omega),bR (x:=((k:Nat):Int)+1) (by omega)];by_cases l:cW[k].length<=s.length
          . rw [uX (by omega)];simp only [rk,j2,mi];rw [bR (by omega),E4 (by omega) (by omega) (by omega),EM];have v:(at_:Int)+(cW[k].length:Int)=((at_+cW[k].length:Nat):Int):=by omega
            rw [v,XN hd];have e3:(s.take cW[k].length==cW[k])=cW[k].isPrefixOf s:=by
              rw [qB,List.isPrefixOf_iff_prefix,n4];constructor
              . intro h;rw [<-h];exact List.take_prefix ..
              . intro h;exact (List.prefix_iff_eq_take.1 h).symm
            rw [e3];cases cW[k].isPrefixOf s
            . rfl
            . rfl
          . rw [BE (by omega)];have:cW[k].isPrefixOf s=false:=by rw [qk,Ne,List.isPrefixOf_iff_prefix];intro h;exact l h.length_le
            rw [this];rfl
        rw [body];cases c:cW[k].isPrefixOf s
        . exact ih (k+1) (by omega) (by omega) (λi h hi=>by
            rcases qE i k with r|r
            . exact hp i h r
            . have:i=k:=by omega
              subst this;exact c)
        . have f:fE s=cW[k]:=by
            unfold fE;have:cW.find? (λg=>g.isPrefixOf s)=some cW[k]:=by rw [List.find?_eq_some_iff_getElem];exact ⟨c,k,a,rfl,λj t=>by simp [hp j (by omega) t]⟩
            rw [this];rfl
          rw [f];obtain ⟨N,rfl⟩:∃m,N=m+1:=⟨N-1,by omega⟩;rw [au];simp only [q9,e.2,e9];rw [apJ e.2 d (by omega) (by omega)];rfl
      . have:fE s=[]:=by
          unfold fE;have:cW.find? (λg=>g.isPrefixOf s)=none:=by rw [List.find?_eq_none];intro g u;obtain ⟨i,hi,rfl⟩:=List.mem_iff_getElem.1 u;grind
          rw [this];rfl
        grind [ao,bT,cW,lK,BE]
  grind [ax,yj]
theorem aio(text:aE)(d:text.length<=65536):∀(N f at_:Nat) (out:List Tok),at_<=text.length->text.length-at_<N->text.length-at_<f->out.length<=at_->
    ao (jD text) N (out,(at_:Int))=some (JR out (o9 f at_ (text.drop at_))):=by
  intro N
  induction N with
  |zero=>intro f at_ out _ h;omega
  |succ N ih=>
    intro f at_ out hat hN E x;obtain ⟨f,rfl⟩:∃g,f=g+1:=⟨f-1,by omega⟩;rw [au];generalize ao (jD text) N=a at ih ⊢;unfold jD;dsimp only;cases hd:text.drop at_ with
    |nil=>
      have n:at_=text.length:=by have:=congrArg List.length hd;simp at this;omega
      subst n;rw [BE (by omega)];simp only [ca];rw [Bu (by simp;omega) (by simp;omega),n6];rfl
    |cons c r=>
      obtain ⟨u,m⟩:=Wa hd;have B:(c::r).length=text.length-at_:=by rw [<-hd];simp
      have j:mz text (at_:Int)=(c.toNat:Int):=by rw [HM _ _ u,m]
      have next:∀(k:Nat) (b:List Tok),1<=k->k<=(c::r).length->b.length<=at_+k->
          a (b,((at_+k:Nat):Int))=some (JR b (o9 f (at_+k) ((c::r).drop k))):=by
        intro k b A z q;rw [ih f (at_+k) b (by omega) (by omega) (by omega) q];have D:text.drop (at_+k)=(c::r).drop k:=by rw [<-hd,qA]
        rw [D]
      rw [uX (by omega)];simp only [cp,tn (show (0:Int)<=(at_:Int) by omega) (show (at_:Int)<(text.length:Int) by omega),n6,j,GG,j2];have w:((c.toNat:Int)==35)=(c==35):=by rw [show ((35:Int)=((35:UInt8).toNat:Int)) from rfl];exact EB c 35
      rw [w];cases hb:ji c
      . have l:(kindOf c==0)=false:=by unfold kindOf;rw [hb];cases gG c <;> cases isDigit c <;> rfl
        simp only [l,ca];cases C:(c==35)
        . simp only [ca];simp only [o9,step,hb,C,e9,qw];cases e:gG c
          . have i:(kindOf c==1)=false:=by unfold kindOf;rw [hb,e];cases isDigit c <;> rfl
            simp only [i,ca,e9,qw];rw [IG];cases o:isDigit c
            . simp only [ca,e9,qw];rw [aaH,j2,apO hd hat d out a (by omega)];cases t:(fE (c::r)==[])
              . simp only [e9,qw];obtain ⟨A,z,_⟩:=Ig t;have q:=UZ _ A;have v:=z.length_le;rw [next _ _ q v (by simp;omega)];cases o9 f (at_+(fE (c::r)).length) ((c::r).drop (fE (c::r)).length) <;> simp [JR]
              . rfl
            . simp;rw [aqe hd hat d out a (by omega)];cases y:sI (gi 0 ((c::r).takeWhile isDigit))
              . simp only [e9,qw];have q:=ng (s:=r) o;have v:=uY isDigit (c::r);rw [next _ _ q v (by simp;omega)];cases o9 f (at_+((c::r).takeWhile isDigit).length) ((c::r).drop ((c::r).takeWhile isDigit).length) <;> simp [JR]
              . rfl
          . have i:(kindOf c==1)=true:=by unfold kindOf;rw [hb,e];rfl
            simp [i,cp];rw [ap8 hd hat d out a (by omega)];by_cases p:32<((c::r).takeWhile fp).length
            . rw [du p,du p];rfl
            . grind [ng,vk,uY,fp,o9,JR]
        . rw [aqa hd hat d out a];grind [Ef,ng,uY,step,o9]
      . have l:(kindOf c==0)=true:=by grind [kindOf]
        grind [bR,step,o9]
theorem J3(text:aE):gh text=some (tokens text):=by
  unfold gh tokens;by_cases h:65536<text.length
  . grind
  . rw [BE (by omega),ca,df h];have:=aio text (by omega) ax (text.length+1) 0 [] (by omega) (by rw [yj];omega) (by omega) (by simp);simp only [p5] at this;have a:((0:Nat):Int)=0:=rfl;rw [a] at this;rw [this];cases o9 (text.length+1) 0 text <;> rfl
abbrev Res:=Except (Int×Int) (List Tok)
theorem step_skip{c:UInt8}{s:aE}{k:Nat}(h:step (c::s)= .skip k):1<=k/\k<=(c::s).length:=by
  cases hb:ji c
  . cases a:(c==35)
    . simp [step,e9] at h;grind
    . simp [step,hb,a,e9,qw,q9,Step.skip.injEq] at h;subst h;have  :=by simpa using a
      subst this;exact ⟨ng (by decide),uY _ _⟩
  simp_all [step,q9]
theorem YW{c:UInt8}{s:aE}{k:Int}{t:aE}{n:Int}(h:step (c::s)= .tok k t n):ji c=false/\(c==35)=false/\1<=t.length/\t <+: (c::s):=by
  cases hb:ji c
  . cases a:(c==35)
    . obtain ⟨d,b⟩:=step_take hb a h;grind
    simp_all [step,qw]
  simp_all [step]
def lex(s:aE):Res:=o9 (s.length+1) 0 s
theorem aeD{s:aE}(h:s.length<=65536):tokens s=res (lex s):=by simp_all [tokens,lex,df]
theorem ae7:∀g∈cW,fE g=g/\∃c s,g=c::s/\ji c=false/\(c==35)=false/\gG c=false/\isDigit c=false:=by
  have a:∀g∈cW,fE g=g/\(match g with|[]=>false|c::_=> !ji c&& !(c==35)&& !gG c&& !isDigit c)=true:=by decide
  grind
end Lx
namespace Sy
open Pa
theorem akb:∀(f:Nat) (m:bn) (a:List Tok) (p:bn×List Tok),Pa.Ends a->lz f m a= .ok p->iA a p.2:=by
 intro f
 induction f with
 |zero=>grind [lz]
 |succ f ih=>
  intro m a p g h;simp [lz] at h;cases c:sS 3 [125] a
  .rw [c] at h;cases b:mZ m a with
   |error e=>rw [b] at h;cases h
   |ok q=>
    obtain ⟨i,r⟩:=q;rw [b] at h;have d  :=(Ue g b).1;exact d.trans (ih i r p d.1 h)
  .rw [c] at h;cases h;obtain ⟨b,j⟩:=nZ g (by decide) c;exact ⟨b,by grind⟩
abbrev R8:=Int×List aE×yx×zn×List aE×List aS×Int×Int
abbrev RP:=bn×Int×Int
section
variable {l : List Tok} (hl : l.length < 1000000000) (htok :∀t ∈ l, jc t) (hnum :∀t ∈ l, Bp t)
variable {st : Except gR (List Tok)} {a b p : Int} (N : List aE) (S_ : List (Int × Int)) (I : zn) (Q : List aE)
variable (hN : N.length < 1000000000) (hQ : Q.length < 1000000000)
theorem KW{C:List aS}(g f:Int)(c:R8->Option RP)(nm:aE×Int×Int×Int)(hl:l.length<1099511627776)(M:Nat)(h:St l st a b p)(en:Bool)(hb:((b==0)&& !en)=false):
  ∃e d p',ao (gT (l,g,f) Q c N S_ I nm) (M+1) (a,C,b,p,en)=c (e,N,S_,I,Q++[nm.1],C,d,p')/\St l (bN st (bY [125])) e d p':=by
 obtain ⟨e,d,p',e3,i⟩:=Cj hl N S_ I (Q++[nm.1]) C h [125];rw [au];simp [gT,aV,e3];grind
include hl htok hnum hN hQ in
theorem amX(z y:Int)(b:R8->Option RP)(nm:aE×Int×Int×Int):∀(n:Nat) (c:List Tok) (C:List aS) (a:Int) (M f:Nat),c.length<=n->n+2<=M->c.length<f->C.length+c.length<1099511627776-1->St l (.ok c) a 0 0->
  ∃a' C' b' p',ao (gT (l,z,y) Q b N S_ I nm) M (a,C,0,0,sS 3 [125] c)=b (a',N,S_,I,Q++[nm.1],C',b',p')/\
   St l (rest (lz f (N,S_,I,Q++[nm.1],C) c)) a' b' p'/\(∀m r,lz f (N,S_,I,Q++[nm.1],C) c= .ok (m,r)->m=(N,S_,I,Q++[nm.1],C')/\C'.length+r.length<C.length+c.length):=by
 have O:(Q++[nm.1]).length<1099511627776:=by simp;omega
 intro n
 induction n with
 |zero=>
  intro c C a M f F _ _ _ o;obtain ⟨k,t,r,_,rfl,_⟩:=o.ok;simp at F
 |succ n ih=>
  intro c C a M f F Y X W o;obtain ⟨M,rfl⟩:∃m,M=m+1:=⟨M-1,by omega⟩;obtain ⟨f,rfl⟩:∃m,f=m+1:=⟨f-1,by omega⟩;have D:Pa.Ends c:=by obtain ⟨_,_,_,h,_⟩:=o;exact h
  cases B:sS 3 [125] c
  . -- a command
   have i:lz (f+1) (N,S_,I,Q++[nm.1],C) c=(match mZ (N,S_,I,Q++[nm.1],C) c with|.error e=> .error e|.ok (A,r)=>lz f A r):=by
    simp only [lz,B,ca]
    all_goals (cases mZ (N,S_,I,Q++[nm.1],C) c <;> rfl)
   obtain ⟨S,v,H,p1,e3,d,U⟩:=apC (by omega) htok hnum N S_ I (Q++[nm.1]) C (by omega) (by omega) o;have e4:=HG N S_ I (Q++[nm.1]) v d 3 [125];rw [au];simp only [gT,aV,qe,ko,si,cp,e3,ah,e4];cases w:mZ (N,S_,I,Q++[nm.1],C) c with
   |error e=>
    have s:bz (.ok c) (mZ (N,S_,I,Q++[nm.1],C))= .error e:=by simp only [bz,bN,w,rest]
    rw [s] at d;simp only [s,C6];obtain ⟨M',rfl⟩:∃m,M=m+1:=⟨M-1,by omega⟩;have j:(H==0)=false:=by rw [d.2.2.1];exact d.2.1
    obtain ⟨J,G,p2,u,p⟩:=KW N S_ I Q z y b nm (by omega) M' d false (by rw [j];rfl);rw [i,w];exact ⟨_,_,_,_,u,p,λm r h=>by cases h⟩
   |ok q=>
    obtain ⟨A,r⟩:=q;have s:bz (.ok c) (mZ (N,S_,I,Q++[nm.1],C))= .ok r:=by grind [bz,bN,rest]
    rw [s] at d;simp [C6];obtain ⟨L,g,r1,r2,sets,V,_,_,_,_,hp,_⟩:=Ue D w;have x:v=C++[(IntKind.i64.wrap (((Q++[nm.1]).length)-1),g,sets)]:=by grind
    have E:v.length=C.length+1:=by rw [x];simp
    have K:r.length<c.length:=L.2;have j:H=0/\p1=0:=by obtain ⟨_,_,_,_,R,P⟩:=d;exact ⟨R,P⟩
    obtain ⟨rfl,rfl⟩:=j;obtain ⟨J,Z,G,p2,u,p,T⟩:=ih r v S M f (by omega) (by omega) (by omega) (by omega) d;grind
  .have i:lz (f+1) (N,S_,I,Q++[nm.1],C) c= .ok ((N,S_,I,Q++[nm.1],C),c.tail):=by simp [lz,B,cp]
   obtain ⟨J,G,p2,u,p⟩:=KW N S_ I Q z y b nm (by omega) M o true (by simp);rw [i];refine ⟨_,_,_,_,u,?_,λm r h=>by cases h;exact ⟨rfl,by grind [nZ]⟩⟩;have:bN (.ok c) (bY [125])=rest (.ok ((N,S_,I,Q++[nm.1],C),c.tail)):=by obtain ⟨t,r,rfl⟩:=D.ne;grind [bN,bY,rest,List.tail_cons,sS]
   rw [<-this];exact p
def Big(m:bn)(ts:List Tok):Prop:=m.1.length+ts.length<1000000000/\m.2.1.length+ts.length<1000000000/\m.2.2.1.length+ts.length<1000000000/\m.2.2.2.1.length+ts.length<1000000000/\m.2.2.2.2.length+ts.length<1000000000
theorem Qj{e3 e4:Int}(e d:Int)(m:bn)(h:St l (.error (e3,e4)) a b p)(M:Nat):ao (fa (l,e,d)) (M+1) (a,m.1,m.2.1,m.2.2.1,m.2.2.2.1,m.2.2.2.2,b,p)=some (([],[],[],[],[]),e3,e4):=by
 obtain ⟨⟨t,hx⟩,c,rfl,rfl⟩:=h;rw [au];have hb:(b != 0)=true:=by grind
 simp [fa,aV,c,lP,kf,br,aJ,hb];grind
include hl htok hnum in
theorem aif(w v:Int):∀(n:Nat) (y:List Tok) (m:bn) (a:Int) (M f:Nat),y.length<=n->n+2<=M->y.length<f->Big m y->St l (.ok y) a 0 0->
  ao (fa (l,w,v)) M (a,m.1,m.2.1,m.2.2.1,m.2.2.2.1,m.2.2.2.2,0,0)=some (O3 (oN f m y)):=by
 intro n
 induction n with
 |zero=>
  intro y m a M f h1 _ _ _ K;obtain ⟨k,t,r,_,rfl,_⟩:=K.ok;simp at h1
 |succ n ih=>
  intro y m a M f h1 h2 h3 hB K;obtain ⟨M,rfl⟩:∃m,M=m+1:=⟨M-1,by omega⟩;obtain ⟨f,rfl⟩:∃m,f=m+1:=⟨f-1,by omega⟩;obtain ⟨k,t,r,rfl,rfl,hd,he,_,_,hx,hm,hd1,hk⟩:=K.ok;obtain ⟨N,S_,I,Q,C⟩:=m;obtain ⟨B1,B2,B3,B4,B5⟩:=hB;simp only [ei] at B1 B2 B3 B4 B5 h1 h3;have iv:=HG N S_ I Q C K 1 [118,97,114];have ip:=HG N S_ I Q C K 1 [112,114,111,99];rw [au];generalize c:ao (fa (l,w,v)) M=g;simp only [fa,aV,qe,dw,hx,ah,mi];have o:oN (f+1) (N,S_,I,Q,C) (t::r)=(bif t.1==4 then (bif N.isEmpty then .error (2,t.2.2.2) else .ok (N,S_,I,Q,C))
   else bif yc 1 [118,97,114] t then (match pX (N,S_,I,Q,C) r with
    | .error e=> .error e
    | .ok (B,d)=>oN f B d)
   else bif yc 1 [112,114,111,99] t then (match uW (N,S_,I,Q,C) r with
    | .error e=> .error e
    | .ok (B,d)=>oN f B d)
   else .error (2,t.2.2.2)):=by
   simp only [oN]
   all_goals (cases pX (N,S_,I,Q,C) r <;> cases uW (N,S_,I,Q,C) r <;> rfl)
  cases F:(t.1==4)
  case true=>
   have E:(t.1 != 4)=false:=by simp only [bne,F,qc]
   rw [o,F];simp only [E,ca,cp];have hne:((List.length N:Int)==0)=N.isEmpty:=by cases N with
    |nil=>rfl
    |cons x r=>simp only [ei,List.isEmpty_cons];exact beq_eq_false_iff_ne.2 (by omega)
   rw [hne];cases N.isEmpty
   .simp only [ca,kf,bne_self_eq_false,O3]
   .simp only [cp,br,hx,ah,Ro,kf,O3];rfl
  have E:(t.1 != 4)=true:=by simp only [bne,F,ko]
  simp only [C6,sS] at iv ip;simp only [E,cp,iv,ip,ah];have D:Pa.Ends r:=he.tail (by simpa using F);have J:St l (.ok r) ((k+1:Nat):Int) 0 0:=⟨k+1,rfl,hd1,D,rfl,rfl⟩;have wk:IntKind.i64.wrap ((k:Int)+1)=((k+1:Nat):Int):=cz (by omega);obtain ⟨M',u⟩:∃m,M=m+1:=⟨M-1,by omega⟩;cases cv:yc 1 [118,97,114] t
  .cases S:yc 1 [112,114,111,99] t
   . -- neither
    rw [o,F,cv,S];simp only [ca,ko,si,cp,br,hx,ah,Ro,kb,show ((2:Int)==0)=false from rfl,kc,j7,aV];rw [<-c,u];exact Qj (e3:=2) (e4:=t.2.2.2) w v (N,S_,I,Q,C) ⟨⟨t,hx⟩,rfl,rfl,rfl⟩ M'
   . -- a process
    rw [o,F,cv,S];simp only [ca,qc,ko,w5,cp,kb,qe,kc,j7,wk,aV];obtain ⟨nm,U,T,p1,e3,z,V⟩:=acF (by omega) N S_ I Q C J (by omega) (by omega) false;have k1:aH (List.length Q+List.length ([nm]:List aE)) 16=true:=cO (by simp;omega) (by simp;omega);obtain ⟨a2,b2,p2,e4,j⟩:=Cj (by omega) N S_ I (Q++[nm]) C z [123];have e5:=HG N S_ I (Q++[nm]) C j 3 [125];simp only [e3,ah,aN k1,e4,e5];cases b:bN (bz (.ok r) (fC false N Q)) (bY [123]) with
    |error e=>
     rw [b] at j;have hb1:(b2==0)=false:=by rw [j.2.2.1];exact j.2.1
     obtain ⟨a3,b3,p3,e6,i⟩:=KW N S_ I Q (C:=C) w v g (nm,U,T,p1) (by omega) 18446744073709551615 j false (by rw [hb1];rfl);simp only [C6];rw [show ax=18446744073709551615+1 from rfl,e6];have hp:uW (N,S_,I,Q,C) r= .error e:=by
      simp only [uW];simp only [bz,bN] at b;cases A:fC false N Q r with
      |error e'=>rw [A] at b;simp only [rest] at b ⊢; cases b;rfl
      |ok q=>
       rw [A] at b;simp only [rest] at b ⊢;rw [b]
     rw [hp];simp only [bN] at i;obtain ⟨ee1,ee2⟩:=e;rw [<-c,u];exact Qj w v (N,S_,I,Q++[nm],C) i M'
    |ok r2=>
     rw [b] at j;obtain ⟨r1,O,L⟩:∃r1,fC false N Q r= .ok (nm,r1)/\bY [123] r1= .ok r2:=by
      simp only [bz,bN] at b;cases A:fC false N Q r with
      |error e'=>rw [A] at b;cases b
      |ok q=>
       obtain ⟨X,r1⟩:=q;rw [A] at b;simp only [rest] at b;have:=V r X r1 rfl A;subst this;exact ⟨r1,rfl,b⟩
     have hb:b2=0/\p2=0:=by obtain ⟨_,_,_,_,R,P⟩:=j;exact ⟨R,P⟩
     obtain ⟨rfl,rfl⟩:=hb;have H:=(Pb D O).1;have G:=lX H.1 L;have l1:r1.length<r.length:=H.2;have l2:r2.length<r1.length:=G.2;have hp:uW (N,S_,I,Q,C) r=lz (r2.length+1) (N,S_,I,Q++[nm],C) r2:=by simp only [uW,O,L]
     have hle:r2.length<=l.length:=by obtain ⟨k2,_,h,_⟩:=j;rw [<-h];simp
     obtain ⟨a3,C3,b3,p3,e6,i,v3⟩:=amX hl htok hnum N S_ I Q (by omega) (by omega) w v g (nm,U,T,p1) r2.length r2 C a2 ax (r2.length+1) (c8 _) (by show _<=2^64;omega) (by omega) (by omega) j;simp only [C6];rw [e6,hp];cases s:lz (r2.length+1) (N,S_,I,Q++[nm],C) r2 with
     |error e=>
      rw [s] at i;simp only [rest] at i;obtain ⟨ee1,ee2⟩:=e;rw [<-c,u];exact Qj w v (N,S_,I,Q++[nm],C3) i M'
     |ok q=>
      obtain ⟨B,d⟩:=q;rw [s] at i;simp only [rest] at i;obtain ⟨p,hlen⟩:=v3 B d s;have W:=akb _ _ _ _ G.1 s;have l3:d.length<r2.length:=W.2;have hb:b3=0/\p3=0:=by obtain ⟨_,_,_,_,R,P⟩:=i;exact ⟨R,P⟩
      obtain ⟨rfl,rfl⟩:=hb;simp only;rw [<-c,p];have hQl:(Q++[nm]).length=Q.length+1:=by simp
      exact ih d (N,S_,I,Q++[nm],C3) a3 M f (by omega) (by omega) (by omega) ⟨by simp only;omega,by simp only;omega,by simp only;omega,by simp only;omega,by simp only;omega⟩ i
  . -- a variable
   have S:yc 1 [112,114,111,99] t=false:=by unfold yc at cv ⊢;simp only [an,n4] at cv;rw [cv.2];simp
   rw [o,F,cv];simp only [ca,qc,s6,cp,kb,qe,kc,S,wk,aV];obtain ⟨U,N',S',I',T,p1,e3,z,V⟩:=ao5 (by omega) N S_ I Q C (by omega) (by omega) (by omega) (by omega) J;simp only [e3,ah,j7,ca];cases b:pX (N,S_,I,Q,C) r with
   |error e=>
    simp [bz,bN,b] at z;rw [<-c,u];exact Qj w v (N',S',I',Q,C) z M'
   |ok q=>
    obtain ⟨B,d⟩:=q;simp [bz,bN,b] at z;have p:=V r B d rfl b;obtain ⟨sh,name,lo,hi,first,hp,_⟩:=acj D b;have l1:d.length<r.length:=sh.2;have hb:T=0/\p1=0:=by obtain ⟨_,_,_,_,R,P⟩:=z;exact ⟨R,P⟩
    obtain ⟨rfl,rfl⟩:=hb;rw [p] at hp;simp at hp;obtain ⟨hp1,Z,Y⟩:=hp;have A:N'.length=N.length+1:=by rw [hp1];simp
    have q2:S'.length=S_.length+1:=by rw [Z];simp
    have q3:I'.length=I.length+1:=by rw [Y];simp
    rw [<-c,p];exact ih d (N',S',I',Q,C) U M f (by omega) (by omega) (by omega) ⟨by simp only;omega,by simp only;omega,by simp only;omega,by simp only;omega,by simp only;omega⟩ z
end
theorem akY{text:aE}{l:List Tok}(ht:gh text=some (l,0,0))(hl:l.length<500000000)(htok:∀t∈l,jc t)(hnum:∀t∈l,Bp t)(a:Pa.Ends l):
  fk text=some (O3 (sys l)):=by
 unfold fk;rw [ht,ah];simp;exact aif (by omega) htok hnum 0 0 l.length l ([],[],[],[],[]) 0 ax (l.length+1) (c8 _) (by show _<=2^64;omega) (by omega) ⟨by simp;omega,by simp;omega,by simp;omega,by simp;omega,by simp;omega⟩ ⟨0,rfl,rfl,a,rfl,rfl⟩
end Sy
namespace Sy
open Pa
theorem afg(s:aE)(h:s.all Lx.isDigit=true):0<=Lx.gi 0 s:=Lx.Da s 0 (qV _) h
theorem aha{c:UInt8}{s:aE}{k:Int}{t:aE}{n:Int}(h:Lx.step (c::s)= .tok k t n)(pl:Int):jc (k,t,n,pl)/\Bp (k,t,n,pl)/\k≠4:=by
 obtain ⟨hb,g,_,_⟩:=Lx.YW h;simp only [Lx.step,hb,g,e9] at h;cases a:Lx.gG c
 .simp only [a,e9,qw] at h;cases b:Lx.isDigit c
  .simp only [b,e9] at h;cases d:(Lx.fE (c::s)==[])
   .simp [d,qw] at h;obtain ⟨rfl,rfl,rfl⟩:=h;obtain ⟨i,m,_⟩:=Lx.Ig d;obtain ⟨_,p,l,f,_,_,hl,_⟩:=Lx.ae7 _ i;refine ⟨.inr (.inr (.inl ⟨rfl,λo j e=>?_⟩)),(λh=>by cases h),by decide⟩;rw [f] at e;cases e;exact hl
   .simp [d] at h
  .simp only [b,q9] at h;split at h
   .cases h
   .obtain ⟨rfl,rfl,rfl⟩:=h;refine ⟨.inr (.inl rfl),λ_=>⟨afg _ (Lx.Jg _ _),?_⟩,by decide⟩;simp_all [Lx.sI]
 .simp [a,q9] at h;split at h
  .cases h
  .obtain ⟨rfl,rfl,rfl⟩:=h;refine ⟨.inl ⟨rfl,c,s.takeWhile Lx.fp,?_,a⟩,(λh=>by cases h),by decide⟩;simp_all [Lx.vk]
structure Good(n:Nat)(l:List Tok):Prop where
 ok:∀t∈l,jc t
 num:∀t∈l,Bp t
 ends:Pa.Ends l
 len:l.length<=n
theorem af7{t:Tok}{l:List Tok}(h:Pa.Ends l):Pa.Ends (t::l):= .inl h
theorem ag1:∀(f a:Nat) (s:aE) (l:List Tok),s.length<f->Lx.o9 f a s= .ok l->Good (s.length+1) l:=by
 intro f
 induction f with
 |zero=>omega
 |succ f ih=>
  intro a s l p h;cases s with
  |nil=>
   cases h;exact ⟨(λt ht=>by rw [List.mem_singleton.1 ht];exact .inr (.inr (.inr rfl))),(λt ht=>by rw [List.mem_singleton.1 ht];intro h;cases h),.inr ⟨rfl,rfl⟩,by simp⟩
  |cons c s=>
   simp [Lx.o9] at h;cases b:Lx.step (c::s) with
   |skip k=>
    rw [b] at h;obtain ⟨j,i⟩:=Lx.step_skip b;have:=ih _ _ _ (by grind) h;exact ⟨this.ok,this.num,this.ends,by have:=this.len;grind⟩
   |err e=>rw [b] at h;cases h
   |tok k g n=>
    rw [b] at h;simp only at h;obtain ⟨_,_,j,i⟩:=Lx.YW b;obtain ⟨o,m,_⟩:=aha b (a);cases d:Lx.o9 f (a+g.length) ((c::s).drop g.length) with
    |error e=>rw [d] at h;cases h
    |ok l'=>
     rw [d] at h;cases h;have:=ih _ _ _ (by grind) d;refine ⟨λt ht=>?_,λt ht=>?_,af7 this.ends,by have:=this.len;grind⟩
     .rcases List.mem_cons.1 ht with rfl|ht
      .exact o
      .exact this.ok t ht
     .rcases List.mem_cons.1 ht with rfl|ht
      .exact m
      .exact this.num t ht
theorem YN{s:aE}{l:List Tok}(h:Lx.lex s= .ok l):Good (s.length+1) l:=ag1 _ _ _ _ (mE _) h
theorem WH:∀(f a:Nat) (s:aE) (e:Int×Int),Lx.o9 f a s= .error e->e.1≠0:=by
 intro f
 induction f with
 |zero=>grind [Lx.o9]
 |succ f ih=>
  intro a s e h;cases s with
  |nil=>simp [Lx.o9] at h
  |cons c s=>
   grind [Lx.o9,Lx.step,Lx.an8]
def OO(text:aE):Except gR bn:=if 65536<text.length then .error (9,0) else match Lx.lex text with
 | .ok l=>sys l
 | .error e=> .error e
structure Wz(n:Nat)(s:Int×Ex):Prop where
 var:0<=s.1/\s.1<n
 may:jy (n:Int) s.2=true
 typ:(rt s.2).2.1=0/\(rt s.2).1=1
 sz:s.2.sz<=65537
structure WA(n:Nat)(c:aS):Prop where
 may:jy (n:Int) c.2.1=true
 typ:(rt c.2.1).2.1=0/\(rt c.2.1).1=2
 sz:c.2.1.sz<=65537
 sets:∀s∈c.2.2,Wz n s
 one:1<=c.2.2.length
 len:c.2.2.length<=65537
 once:c.2.2.Pairwise (λa b=>a.1≠b.1)
structure L7(f:Int×Int):Prop where
 le:f.1<=f.2
 lo: -1073741824<=f.1
 hi:f.2<=1073741824
 wide:f.2-f.1<=65535
structure Part(m:bn):Prop where
 names:m.1.length<=16
 schema:m.2.1.length=m.1.length
 init:m.2.2.1.length=m.1.length
 fields:∀f∈m.2.1,L7 f
 first:∀(i:Nat) (f:Int×Int) (v:Int),m.2.1[i]? =some f->m.2.2.1[i]? =some v->f.1<=v/\v<=f.2
 cmds:m.2.2.2.2.length<=256
 cmd:∀c∈m.2.2.2.2,WA m.1.length c
structure Wf(m:bn):Prop extends Part m where
 some_:1<=m.1.length
theorem amB{op n len a v w:Int}(h:xM op n len a v=true)(b:v<=w):xM op n len a w=true:=by simp [xM,Bool.and_eq_false_imp] at h ⊢;grind
theorem acm{v w:Int}(c:v<=w):∀(N:Nat) (e:Ex),e.sz<=N->jy v e=true->jy w e=true:=by
 intro N
 induction N with
 |zero=>grind [Hf]
 |succ N ih=>
  intro e h hm;have d:=(Kg hm).2.2.2.2;rw [abT] at hm ⊢;simp at hm ⊢;refine ⟨amB hm.1 c,?_⟩;have:∀l:List Ex,(∀x∈l,x∈e.l)->CE w l=true:=λl=>by
   induction l with
   |nil=>grind [CE]
   |cons x r a=>
    intro hx;simp [CE,an];exact ⟨ih x (by have:=Is (hx x (by simp));omega) (d x (hx x (by simp))),a (λy b=>hx y (b7 _ b))⟩
  grind
theorem WA.le{n k:Nat}{c:aS}(h:WA n c)(hk:n<=k):WA k c:=
 ⟨acm (by omega) _ _ (c8 _) h.may,h.typ,h.sz,λs a=>⟨⟨(h.sets s a).var.1,by have:=(h.sets s a).var.2;omega⟩,acm (by omega) _ _ (c8 _) (h.sets s a).may,(h.sets s a).typ,(h.sets s a).sz⟩,h.one,h.len,h.once⟩
theorem agE{lo hi:Int}(h:lV lo hi=true):L7 (lo,hi):=by simp [lV,an,nA,q6] at h;obtain ⟨⟨⟨d,c⟩,b⟩,a⟩:=h;rw [bR (by omega)] at a;exact ⟨by omega,by omega,by omega,by omega⟩
def sn(ts:List Tok):Prop:=(∀t∈ts,Bp t)/\Pa.Ends ts/\ts.length<=65537
theorem sn.of{b a:List Tok}(h:sn b)(c:iA b a)(d:a <:+ b):sn a:=⟨λt ht=>h.1 t (d.mem ht),c.1,by have:=c.2;have:=h.2.2;omega⟩
theorem vG{x:aE}{a r:List Tok}(h:bY x a= .ok r):r <:+ a:=by
 cases a with
 |nil=>simp [bY] at h
 |cons t b=>
  grind [bY,yc,List.suffix_cons]
theorem Vq{full:Bool}{names a:List aE}{b:List Tok}{p:aE×List Tok}(h:fC full names a b= .ok p):p.2 <:+ b:=by
 cases b with
 |nil=>simp [fC] at h
 |cons t c=>
  simp [fC] at h;grind
theorem UT{b:Bool}{a:List Tok}{p:Int×List Tok}(h:rK b a= .ok p):p.2 <:+ a:=by
 cases a with
 |nil=>simp [rK] at h
 |cons t c=>
  grind [rK,List.suffix_cons]
theorem OZ{a:List Tok}{p:Int×List Tok}(h:fP a= .ok p):p.2 <:+ a:=by
 unfold fP at h;cases b:sS 3 [45] a
 .grind [UT]
 .rw [b] at h;exact (UT h).trans (vg _)
theorem LL{a:Int}{names:List aE}{b:List Tok}{p:Ex×List Tok}(c:Pa.Ends b)(h:ek a names b= .ok p):p.2 <:+ b:=(sG c h).2.1.suf _ rfl
theorem afw{names:List aE}:∀(f:Nat) (acc:List (Int×Ex)) (a:List Tok) (p:List (Int×Ex)×List Tok),Pa.Ends a->fv names f acc a= .ok p->p.2 <:+ a:=by
 intro f
 induction f with
 |zero=>grind [fv]
 |succ f ih=>
  intro acc a p k h;obtain ⟨t,r,rfl⟩:=k.ne;simp [fv] at h;cases g:(t.1 != 1)
  case true=>rw [g] at h;cases h
  rw [g] at h;cases m:(decide (eR names t.2.1<0)||BO acc (eR names t.2.1))
  case true=>rw [m] at h;cases h
  rw [m] at h;have ht  :=by simpa using g
  have d:=k.tail (by omega);cases c:bY [61] r with
  |error e=>rw [c] at h;cases h
  |ok r1=>
   rw [c] at h;simp only at h;have j:=lX d c;cases b:ek 1 names r1 with
   |error e=>rw [b] at h;cases h
   |ok q=>
    obtain ⟨x,r2⟩:=q;rw [b] at h;simp only at h;have n  :=(sG j.1 b).1;have i:r2 <:+ t::r:=((LL j.1 b).trans (vG c)).trans (qZ _ _);cases l:sS 3 [44] r2
    .grind
    .rw [l] at h;exact ((ih _ _ _ (nZ n.1 (by decide) l).1 h).trans (vg _)).trans i
theorem UK{a:Int}{names:List aE}{d:List Tok}{x:Ex}{r:List Tok}(c:sn d)(h:ek a names d= .ok (x,r)):
  jy (names.length:Int) x=true/\((rt x).2.1=0/\(rt x).1=a)/\x.sz<=65537:=by
 obtain ⟨g,hp,f,e⟩:=sG c.2.1 h;have b:=hp.size _ rfl;simp [Jp] at b;exact ⟨hp.may trivial c.1 rfl _ rfl,⟨f,e⟩,by have:=c.2.2;omega⟩
theorem amx{names:List aE}{v:aE}(h:¬eR names v<0):0<=eR names v/\eR names v<names.length:=by
 unfold eR at h ⊢;cases ha:at_ names v with
 |none=>rw [ha] at h;simp at h
 |some i=>have:=uZ ha;simp only;omega
theorem aeo{names:List aE}:∀(f:Nat) (acc:List (Int×Ex)) (k:List Tok) (p:List (Int×Ex)×List Tok),sn k->fv names f acc k= .ok p->
  (∀s∈acc,Wz names.length s)->acc.Pairwise (λa b=>a.1≠b.1)->acc.length+k.length<=65537->(∀s∈p.1,Wz names.length s)/\p.1.Pairwise (λa b=>a.1≠b.1)/\p.1.length<=65537/\1<=p.1.length:=by
 intro f
 induction f with
 |zero=>grind [fv]
 |succ f ih=>
  intro acc k p y h i F d;obtain ⟨t,r,rfl⟩:=y.2.1.ne;have G:=y.2.1;simp [fv] at h;cases z:(t.1 != 1)
  case true=>rw [z] at h;cases h
  rw [z] at h;cases o:(decide (eR names t.2.1<0)||BO acc (eR names t.2.1))
  case true=>rw [o] at h;cases h
  rw [o] at h;have ht  :=by simpa using z
  have g:=G.tail (by omega);simp only [n9,q6] at o;cases n:bY [61] r with
  |error e=>rw [n] at h;cases h
  |ok r1=>
   rw [n] at h;simp only at h;have l:=lX g n;have E:=l.2;have v:sn r:=⟨λt' A=>y.1 t' (b7 _ A),g,by grind⟩;have j  :=v.of l (vG n);cases m:ek 1 names r1 with
   |error e=>rw [m] at h;cases h
   |ok q=>
    obtain ⟨x,r2⟩:=q;have u:iA r1 r2:=(sG l.1 m).1;have D:=u.2;have w  :=j.of u (LL l.1 m);obtain ⟨L,K,J⟩:=UK j m;have hi:=amx o.1;have C:∀s∈acc++[(eR names t.2.1,x)],Wz names.length s:=λs c=>by
     rcases List.mem_append.1 c with c|c
     .exact i s c
     .rw [List.mem_singleton.1 c];exact ⟨hi,L,K,J⟩
    have B:(acc++[(eR names t.2.1,x)]).Pairwise (λa b=>a.1≠b.1):=by grind [List.mem_singleton,BO,eR,List.any_eq_true]
    simp at d;cases I:sS 3 [44] r2
    .grind
    .obtain ⟨M,N⟩:=nZ u.1 (by decide) I;have H:sn r2.tail:=⟨λt' A=>w.1 t' ((vg _).mem A),M,by omega⟩;grind
theorem ahq{m:bn}{f:List Tok}{p:bn×List Tok}(d:sn f)(hm:Part m)(h:mZ m f= .ok p):Part p.1/\sn p.2/\p.2.length<f.length:=by
 obtain ⟨D,g,r1,r2,sets,E,v,q,z,o,hp,u,t⟩:=Ue d.2.1 h;have j  :=(sG d.2.1 q).1;have n  :=d.of j (LL d.2.1 q);have e:=lX j.1 u;have a  :=n.of e (vG u);have i  :=Yi _ _ _ _ e.1 o;have l  :=a.of i (afw _ _ _ _ e.1 o);have r:=lX i.1 t;have k  :=l.of r (vG t);obtain ⟨C,B,A⟩:=UK d q;obtain ⟨t1,t2,x,w⟩:=aeo _ _ _ _ a o (λs y=>by cases y) List.Pairwise.nil (by have:=a.2.2;simpa using this);refine ⟨?_,k,by have:=j.2;have:=e.2;have:=i.2;have:=r.2;omega⟩;rw [hp];refine ⟨hm.names,hm.schema,hm.init,hm.fields,hm.first,by simp;omega,λc b=>?_⟩;rcases List.mem_append.1 b with b|b
 .exact hm.cmd c b
 .rw [List.mem_singleton.1 b];exact ⟨C,B,A,t1,w,x,t2⟩
theorem aeA:∀(f:Nat) (m:bn) (a:List Tok) (p:bn×List Tok),sn a->Part m->lz f m a= .ok p->Part p.1/\sn p.2:=by
 intro f
 induction f with
 |zero=>grind [lz]
 |succ f ih=>
  intro m a p c hm h;simp [lz] at h;cases d:sS 3 [125] a
  .rw [d] at h;cases b:mZ m a with
   |error e=>rw [b] at h;cases h
   |ok q=>
    obtain ⟨g,r⟩:=q;rw [b] at h;obtain ⟨j,i,_⟩:=ahq c hm b;exact ih g r p i j h
  .rw [d] at h;cases h;obtain ⟨b,k⟩:=nZ c.2.1 (by decide) d;exact ⟨hm,λt ht=>c.1 t ((vg _).mem ht),b,by have:=c.2.2;grind⟩
theorem adS{m:bn}{d:List Tok}{p:bn×List Tok}(i:sn d)(hm:Part m)(h:uW m d= .ok p):Part p.1/\sn p.2:=by
 unfold uW at h;cases c:fC false m.1 m.2.2.2.1 d with
 |error e=>rw [c] at h;cases h
 |ok k=>
  obtain ⟨a,r1⟩:=k;rw [c] at h;simp only at h;have g  :=(Pb i.2.1 c).1;have f  :=i.of g (Vq c);cases b:bY [123] r1 with
  |error e=>rw [b] at h;cases h
  |ok r2=>
   rw [b] at h;have j:=lX g.1 b;exact aeA _ (m.1,m.2.1,m.2.2.1,m.2.2.2.1++[a],m.2.2.2.2) _ _ (f.of j (vG b)) ⟨hm.names,hm.schema,hm.init,hm.fields,hm.first,hm.cmds,hm.cmd⟩ h
theorem ai7{m:bn}{f:List Tok}{p:bn×List Tok}(h:pX m f= .ok p):p.2 <:+ f:=by
 unfold pX at h;cases k:fC (decide (16<=(m.1.length:Int))) m.1 m.2.2.2.1 f with
 |error e=>rw [k] at h;cases h
 |ok t=>
  obtain ⟨l,d⟩:=t;rw [k] at h;simp only at h;have y  :=Vq k;cases j:fP d with
  |error e=>rw [j] at h;cases h
  |ok s=>
   obtain ⟨lo,c⟩:=s;rw [j] at h;simp only at h;have x  :=OZ j;cases i:fP c with
   |error e=>rw [i] at h;cases h
   |ok r=>
    obtain ⟨hi,b⟩:=r;rw [i] at h;simp only at h;have w  :=OZ i;cases g:fP b with
    |error e=>rw [g] at h;cases h
    |ok q=>
     obtain ⟨first,a⟩:=q;rw [g] at h;simp only at h;have v  :=OZ g;cases n:bY [59] a with
     |error e=>rw [n] at h;cases h
     |ok o=>
      have u:=vG n;grind
theorem ahu{m:bn}{e:List Tok}{p:bn×List Tok}(k:sn e)(hm:Part m)(h:pX m e= .ok p):Part p.1/\sn p.2/\1<=p.1.1.length:=by
 obtain ⟨l,g,lo,hi,first,hp,s,u,t,r,_⟩:=acj k.2.1 h;refine ⟨?_,k.of l (ai7 h),by rw [hp];simp⟩;rw [hp];have n:=hm.schema;have d:=hm.init;refine ⟨by simp;omega,by simp [n],by simp [d],λf a=>?_,λi f v a j=>?_,hm.cmds,λc q=>(hm.cmd c q).le (by simp)⟩
 .rcases List.mem_append.1 a with a|a
  .exact hm.fields f a
  grind [List.mem_singleton,agE]
 .rcases qE i m.2.1.length with b|o
  .rw [eb b] at a;rw [eb (by omega)] at j;exact hm.first i f v a j
  grind
theorem aaS:∀(f:Nat) (m:bn) (b:List Tok) (p:bn),sn b->Part m->oN f m b= .ok p->Wf p:=by
 intro f
 induction f with
 |zero=>grind [oN]
 |succ f ih=>
  intro m b p a hm h;obtain ⟨t,r,rfl⟩:=a.2.1.ne;have j:=a.2.1;simp [oN] at h;cases g:(t.1==4)
  .rw [g] at h;have k:sn r:=⟨λt' l=>a.1 t' (b7 _ l),j.tail (by simpa using g),by have:=a.2.2;grind⟩;cases cv:yc 1 [118,97,114] t
   .rw [cv] at h;cases i:yc 1 [112,114,111,99] t
    .rw [i] at h;cases h
    .rw [i] at h;cases d:uW m r with
     |error e=>rw [d] at h;cases h
     |ok q=>
      grind [adS]
   .rw [cv] at h;cases d:pX m r with
    |error e=>rw [d] at h;cases h
    |ok q=>
     grind [ahu]
  .rw [g] at h;cases c:m.1.isEmpty
   .rw [c] at h;cases h;refine ⟨hm,?_⟩;grind
   grind
theorem ag6{text:aE}{m:bn}(h:OO text= .ok m):Wf m:=by
 unfold OO at h;split at h
 .cases h
 .cases hx:Lx.lex text with
  |error e=>rw [hx] at h;cases h
  |ok l=>
   rw [hx] at h;have a:=YN hx;exact aaS _ _ _ _ ⟨a.num,a.ends,by have:=a.len;omega⟩ ⟨by simp,rfl,rfl,(λf b=>by cases b),(λi f v b=>by simp at b),by simp,(λc d=>by cases d)⟩ h
end Sy
namespace Sy
open Pa
theorem ait(text:aE):fk text=some (O3 (OO text)):=by
 unfold OO;by_cases h:65536<text.length
 .rw [du h];unfold fk;rw [Lx.J3];unfold Lx.tokens;rw [du h];rfl
 .rw [df h];have ht:gh text=some (Lx.res (Lx.lex text)):=by grind [Lx.J3,Lx.aeD]
  cases hl:Lx.lex text with
  |ok l=>
   rw [hl] at ht;have a:=YN hl;exact akY ht (by have:=a.len;omega) a.ok a.num a.ends
  |error e=>
   rw [hl] at ht;have b  :=bne_iff_ne.2 (WH _ _ _ _ hl);unfold fk;rw [ht,ah];simp [Lx.res,b,cp,O3]
end Sy
variable {v : zn}
namespace Sp
theorem anJ(d:Nat)(h:d<10):Lx.x5 (UInt8.ofNat (48+d))=d/\Lx.isDigit (UInt8.ofNat (48+d))=true:=by
 have:d=0\/d=1\/d=2\/d=3\/d=4\/d=5\/d=6\/d=7\/d=8\/d=9:=by omega
 rcases this with rfl|rfl|rfl|rfl|rfl|rfl|rfl|rfl|rfl|rfl <;> exact ⟨rfl,rfl⟩
theorem Ol:∀(N n:Nat),n<=N->Lx.gi 0 (Lib.decDigits n)=n/\(Lib.decDigits n).all Lx.isDigit=true/\Lib.decDigits n≠[]:=by
 intro N
 induction N with
 |zero=>
  intro n h;obtain rfl:n=0:=by omega
  rw [Lib.decDigits,qX (by omega)];exact ⟨rfl,rfl,by simp⟩
 |succ N ih=>
  intro n h;rw [Lib.decDigits];grind [anJ,Bool.and_self,Lx.x5,UInt8.ofNat,Lx.gi]
theorem al9{m n:Nat}(h:Lib.decDigits m=Lib.decDigits n):m=n:=by have b:=(Ol m m (c8 _)).1;have a:=(Ol n n (c8 _)).1;grind
theorem OE{c:UInt8}(h:Lx.isDigit c=true):c≠45/\c≠32:=by constructor <;> (intro e;subst e;cases h)
theorem RN(n:Nat):∀c∈Lib.decDigits n,Lx.isDigit c=true:=λc a=>List.all_eq_true.1 (Ol n n (c8 _)).2.1 c a
theorem ajh{x y:Int}(h:Lib.itoa x=Lib.itoa y):x=y:=by
 have a:∀(m n:Nat),Lib.decDigits m≠45::Lib.decDigits n:=λm n e=>by have:=RN m 45 (by rw [e];simp);exact (OE this).1 rfl
 grind [Lib.itoa,al9,List.cons.inj,absurd]
theorem Ut(x:Int):∀c∈Lib.itoa x,c≠32:=by
 intro c a;unfold Lib.itoa at a;split at a
 .rcases List.mem_cons.1 a with rfl|a
  .decide
  .exact (OE (RN _ c a)).2
 .exact (OE (RN _ c a)).2
theorem Fv:∀(k u:Nat),u<10^(k+1)->Lib.nDigits u<=k+1
 |0,u,h=>by grind [Lib.nDigits_small]
 |k+1,u,h=>by
  by_cases a:u<10
  .grind [Lib.nDigits_small]
  .rw [Lib.nDigits_big a];have:=Fv k (u/10) (by grind);omega
theorem U5{n:Int}(b: -9223372036854775808<=n)(a:n<=9223372036854775807):(Lib.itoa n).length<=20:=by
 unfold Lib.itoa;split
 .rw [ei,Lib.decDigits_length];have:=Fv 18 n.natAbs (by omega);omega
 .rw [Lib.decDigits_length];have:=Fv 18 n.toNat (by omega);omega
def eU(v:zn):aE:=v.flatMap λn=>Lib.itoa n++[32]
theorem amS{a b r s:aE}(ha:∀c∈a,c≠32)(hb:∀c∈b,c≠32)(h:a++32::r=b++32::s):a=b/\r=s:=by
 induction a generalizing b with
 |nil=>
  cases b with
  |nil=>grind
  |cons c b=>grind
 |cons c a ih=>
  cases b with
  |nil=>grind
  |cons d b=>
   grind
theorem NW:∀{a b:zn},eU a=eU b->a=b
 |[],[],_=>rfl
 |[],y::b,h=>by
  simp_all [eU,congrArg]
 |x::a,[],h=>by
  simp_all [eU,congrArg]
 |x::a,y::b,h=>by simp [eU,qS,cb] at h;obtain ⟨d,c⟩:=amS (Ut x) (Ut y) h;rw [ajh d,NW c]
theorem text_cat(a b:zn):eU (a++b)=eU a++eU b:=by simp [eU]
theorem JA(s:aE):strOf (aP s)=s:=by
 induction s with
 |nil=>rfl
 |cons c s ih=>
  simp_all [strOf,aP,eT]
theorem M8(a b:aE):aP (a++b)=aP a++aP b:=by simp [aP]
theorem Fi(s:aE):(aP s).length=s.length:=by simp [aP]
def uL(v:zn):Prop:= ∀n∈v,-9223372036854775808<=n/\n<=9223372036854775807
theorem W4(h:uL v):(eU v).length<=21*v.length:=by
 induction v with
 |nil=>simp [eU]
 |cons n v ih=>
  have a:=h n (by simp);have:=U5 a.1 a.2;have:=ih (λm hm=>h m (b7 _ hm));grind [eU,List.length_append,List.length_cons,List.length_nil]
theorem copy_eq(f:Bool)(l:zn):iJ f l=some true:=by cases f <;> rfl
theorem aqh{s:aE}{l:zn}(f:Bool)(h:l.length+s.length<=140737488355328):gL s f l=some ((s.length:Int),true,l++aP s):=by grind [gL,copy_eq,ah,Sy.aN,Sy.cO]
theorem apT{l:zn}(c:Int)(f:Bool)(h:l.length+1<=140737488355328):iH c f l=some (true,l++[c]):=by grind [iH,copy_eq,ah,Sy.aN,Sy.cO]
theorem afC(f:Bool){s:aE}(h:aP s≠[]):ka f (aP s)=some s:=by
 have e  :=JA s;cases hb:aP s with
 |nil=>exact absurd hb h
 |cons c l=>
  rw [hb] at e;unfold ka;rw [show idx (c::l) 0=some c from rfl,ah,Sy.aN (by simp),e]
theorem ape{x:Int}(h:Z7 x=true):Ww x=some (Lib.itoa x):=Sy.aN h _
theorem Vf(v:zn)(b:uL v)(hl:v.length<1000000000)(a:v≠[]):∀(r pre:zn),v=pre++r->∀(M:Nat) (f:Bool),r.length<M->
  ao (wL v) M (f,aP (eU pre),(pre.length:Int))=some (eU v)
 |[],pre,h,M,f,hM=>by
  obtain ⟨m,rfl⟩:∃m,M=m+1:=⟨M-1,by omega⟩;rw [au];have e  :=by simpa using h.symm
  subst e;simp only [wL,c9 (show ¬((pre.length:Int)<(List.length pre)) by omega),ca];rw [afC,ah];cases pre with
  |nil=>exact absurd rfl a
  |cons x r=>
   have:(aP (eU (x::r))).length≠0:=by rw [Fi];simp [eU]
   grind
 |x::r,pre,h,M,f,hM=>by
  obtain ⟨m,rfl⟩:∃m,M=m+1:=⟨M-1,by omega⟩;rw [au];have hx:=b x (by rw [h];simp);have hi  :=Zz.2 hx;have hp:uL pre:=λn hn=>b n (by grind);have hb:=W4 hp;have c:=U5 hx.1 hx.2;have ih:=Vf v b hl a r (pre++[x]) (by rw [h];simp) m true (by simp at hM;omega);have d:aP (eU (pre++[x]))=(aP (eU pre)++aP (Lib.itoa x))++[32]:=by simp [eU,qS,M8,cb];rfl
  simp [wL,Sy.jv h,ah,ape hi];grind [aqh,Fi,ah,apT,List.length_append,Pa.cz]
theorem amA(b:uL v)(hl:v.length<1000000000)(a:v≠[]):Kz v=some (eU v):=
 Vf v b hl a v [] rfl ax false (by show v.length<2^64;omega)
def ga(l:x3)(v:zn):x3:=if l.contains v then l else l++[v]
def cV(acc l:x3):x3:=l.foldl ga acc
def Seen(l:x3)(at_:Option (List (aE×Bool))):Prop:=(at_=none->l=[])/\∀v,dV at_ (eU v) false=l.contains v
theorem ajg:Seen [] none:=⟨λ_=>rfl,λa=>rfl⟩
theorem Ey(l:List (aE×Bool))(k a:aE):(n5 (lB l k true) a).getD false=((a==k)||(n5 l a).getD false):=by
 induction l with
 |nil=>
  grind [lB,n5]
 |cons p l ih=>
  simp [lB];cases b:(k==p.1)
  .simp [ca,n5];grind
  .simp [cp,n5];grind
theorem add_eq{l:x3}{at_:Option (List (aE×Bool))}(f:uL v)(hl:v.length<1000000000)(c:v≠[])(g:l.length<1000000000)(b:Seen l at_):
  ∃at',nh v l at_=some (ga l v,at')/\Seen (ga l v) at':=by
 have k1:aH (List.length l+List.length ([v])) 24=true:=Sy.cO (by simp;omega) (by simp;omega);have key:∀a:List (aE×Bool),Seen l (some a)->∃at',vp v l (some a)=some (ga l v,at')/\Seen (ga l v) at':=λa b=>by
  unfold vp;rw [amA f hl c,ah,b.2 v];unfold ga;cases i:l.contains v
  .simp only [Sy.aN k1,e9];refine ⟨_,rfl,(λh=>by cases h),λu=>?_⟩;have d:=b.2 u;unfold dV at d ⊢;simp at d ⊢;rw [Ey,d];have e:(eU u==eU v)=(u==v):=by grind [beq_eq_false_iff_ne,NW]
   grind
  grind
 cases at_ with
 |none=>
  refine key [] ⟨(λh=>by cases h),λu=>?_⟩;exact b.2 u
 |some a=>
  exact key a b
theorem yJ(l:x3)(v:zn):(ga l v).length<=l.length+1:=by grind [ga]
theorem OK{l:x3}{u:zn}:u∈ga l v↔u∈l\/u=v:=by unfold ga;grind
theorem adO{l:x3}(h:l.Nodup)(v:zn):(ga l v).Nodup:=by
 unfold ga;split
 .exact h
 next c=>rw [List.nodup_append];refine ⟨h,by simp,λa ha b hb=>?_⟩;rw [List.mem_singleton.1 hb];intro e;subst e;exact c (by simpa using ha)
theorem vE:∀(m l:x3),(cV l m).length<=l.length+m.length
 |[],l=>by simp [cV]
 |v::m,l=>by have:=vE m (ga l v);grind [yJ,cV,List.length_cons]
theorem jR{u:zn}:∀{m l:x3},u∈cV l m↔u∈l\/u∈m
 |[],l=>by simp [cV]
 |v::m,l=>by have:=jR (u:=u) (m:=m) (l:=ga l v);grind [cV,OK]
theorem Ra:∀{m l:x3},l.Nodup->(cV l m).Nodup
 |[],l,h=>h
 |v::m,l,h=>by have:=Ra (m:=m) (adO h v);simpa only [cV,List.foldl_cons] using this
theorem Z2:∀(m l:x3),l <+: cV l m
 |[],l=>qY _
 |v::m,l=>by have a:=Z2 m (ga l v);grind [ga,List.prefix_refl,List.prefix_append,cV]
end Sp
theorem ajD(b:Bool):wJ b=some (tr b):=by cases b <;> rfl
theorem J9(k:Ex×zn->zf)(e:Ex)(v:zn)(d:Int×Int×Int->zf)(a b t:Int)(h:¬t<(List.length (aT e.l 0 (min (List.length e.l:Int) 2)):Int)):
  dZ k e v d (a,b,t)=some (NN e.op e.n v a b):=by
 simp [dZ,c9 h,aV,Dg,CR,DC,Dv,CG,ajD,NN];cases r:(decide (e.n<0)||decide ((List.length v)<=e.n))
 .have q:idx v e.n=some (v.getD e.n.toNat 0):=by simp_all [idx,b9]
  rw [q];generalize (e.op==1)=p;generalize (e.op==2)=o;generalize (e.op==3)=m;generalize (e.op==5)=i;generalize (e.op==6)=g;generalize (e.op==4)=j;generalize (e.op==8)=b8;generalize (e.op==7)=f;generalize (e.op==19)=c;cases p
  case true=>rfl
  cases o
  case true=>rfl
  cases m
  case true=>rfl
  cases i
  case true=>rfl
  cases g
  case true=>rfl
  cases j
  case true=>rfl
  cases b8
  case true=>rfl
  cases f
  case true=>rfl
  cases c
  case true=>rfl
  grind
 .generalize (e.op==1)=p;generalize (e.op==2)=o;generalize (e.op==3)=m;generalize (e.op==5)=i;generalize (e.op==6)=g;generalize (e.op==4)=j;generalize (e.op==8)=b8;generalize (e.op==7)=f;generalize (e.op==19)=c;cases p
  case true=>rfl
  cases o
  case true=>rfl
  cases m
  case true=>rfl
  cases i
  case true=>rfl
  cases g
  case true=>rfl
  cases j
  case true=>rfl
  cases b8
  case true=>rfl
  cases f
  case true=>rfl
  cases c
  case true=>rfl
  grind
theorem apt(k:Ex×zn->zf)(e:Ex)(v:zn)(hk:∀x∈e.l,k (x,v)=some (ev v x)):uP k e v=some (ev v e):=by
 unfold uP;have d:cR 0 (min (List.length e.l) 2) (List.length e.l)=true:=vo.2 ⟨⟨qV _,by omega⟩,by omega⟩;rw [d,ae3];show ao (dZ k e v) ax (0,0,0)=_;rw [show ax=18446744073709551613+1+1+1 from rfl];generalize 18446744073709551613=N;rw [au];obtain ⟨op,n,a,l⟩:=e
 match l,hk with
 |[],_=>exact J9 k (.mk op n a []) v _ 0 0 0 (by show ¬(0:Int)<((List.length (aT ([]:List Ex) 0 _):Nat));simp [aT])
 |[x],hk=>
  have hx:=hk x (by simp [Ex.l]);have hl:aT [x] 0 (min (List.length [x]) 2)=[x]:=rfl;have b:dZ k (.mk op n a [x]) v (ao (dZ k (.mk op n a [x]) v) (N+1+1)) (0,0,0)=ao (dZ k (.mk op n a [x]) v) (N+1+1) (ev v x,0,1):=by show (k (x,v)).bind _=_;rw [hx];rfl
  rw [b,au];exact J9 k (.mk op n a [x]) v _ (ev v x) 0 1 (by show ¬(1:Int)<(List.length (aT [x] 0 (min (List.length [x]:Int) 2)));rw [hl];simp)
 |x::y::r,hk=>
  have hx:=hk x (by simp [Ex.l]);have c:=hk y (by simp [Ex.l]);have hm:min (List.length (x::y::r):Int) 2=2:=by grind
  have hl:aT (x::y::r) 0 2=[x,y]:=rfl;have b:dZ k (.mk op n a (x::y::r)) v (ao (dZ k (.mk op n a (x::y::r)) v) (N+1+1)) (0,0,0)=ao (dZ k (.mk op n a (x::y::r)) v) (N+1+1) (ev v x,0,1):=by show (bif decide ((0:Int)<(List.length (aT (x::y::r) 0 (min (List.length (x::y::r):Int) 2)))) then (idx (aT (x::y::r) 0 (min (List.length (x::y::r)) 2)) 0).bind _ else _)=_;rw [hm,hl];show (k (x,v)).bind _=_;rw [hx];rfl
  have f:dZ k (.mk op n a (x::y::r)) v (ao (dZ k (.mk op n a (x::y::r)) v) (N+1)) (ev v x,0,1)=ao (dZ k (.mk op n a (x::y::r)) v) (N+1) (ev v x,ev v y,2):=by show (bif decide ((1:Int)<(List.length (aT (x::y::r) 0 (min (List.length (x::y::r):Int) 2)))) then (idx (aT (x::y::r) 0 (min (List.length (x::y::r)) 2)) 1).bind _ else _)=_;rw [hm,hl];show (k (y,v)).bind _=_;rw [c];rfl
  rw [b,au,f,au];exact J9 k (.mk op n a (x::y::r)) v _ (ev v x) (ev v y) 2 (by grind [List.length,aT,min])
theorem ag3:∀(N:Nat) (e:Ex) (v:zn),e.sz<=N->ao (λk (s:Ex×zn)=>uP k s.1 s.2) N (e,v)=some (ev v e):=by
 intro N
 induction N with
 |zero=>grind [Hf]
 |succ N ih=>
  intro e v h;exact apt _ e v (λx hx=>ih x v (by have:=Is hx;omega))
theorem Rs(e:Ex)(h:e.sz<4611686018427387904)(v:zn):pn e v=some (ev v e):=ag3 ax e v (by show e.sz<=2^64;omega)
namespace Sp
def fits:yx->zn->Bool
 |s::S,n::w=>(decide (s.1<=n)&&decide (n<=s.2))&&fits S w
 |_,_=>true
def Lq(v w:zn)(s:Int×Ex):zn:=w.set s.1.toNat (ev v s.2)
def adi(v:zn)(c:Sy.aS):zn:=c.2.2.foldl (Lq v) v
theorem Ou(v w:zn)(s:Int×Ex):(Lq v w s).length=w.length:=by simp [Lq]
theorem Ux(v:zn):∀(l:List (Int×Ex)) (w:zn),(l.foldl (Lq v) w).length=w.length
 |[],w=>rfl
 |s::l,w=>by rw [List.foldl_cons,Ux v l,Ou]
theorem KC(v:zn)(c:Sy.aS):(adi v c).length=v.length:=Ux _ _ _
def fin(S:yx)(w:zn):zn×Int:=bif fits S w then (w,0) else ([],6)
def mb(v:zn):Nat->List Sy.aS->zn
 |_,[]=>[]
 |k,c::r=>if ev v c.2.1=1 then (k:Int)::mb v (k+1) r else mb v (k+1) r
def Xq(v:zn)(l:List Sy.aS):List Sy.aS:=l.filter λc=>decide (ev v c.2.1=1)
def eW(cmds:List Sy.aS)(v:zn)(i:Int):zn:=match cmds[i.toNat]? with|some c=>adi v c|none=>v
def Ma(S:yx)(cmds:List Sy.aS)(v:zn)(k:Int):zn×Int:=
 if k<0\/(cmds.length:Int)<=k then ([],10) else fin S (eW cmds v k)
def goes(v:zn)(cmds:List Sy.aS):x3:=(Xq v cmds).map (adi v)
def LY(S:yx)(v:zn)(ws:x3):x3×Int:=
 if ws=[] then ([v],0) else bif ws.all (fits S) then (cV [] ws,0) else ([],6)
def bO(S:yx)(cmds:List Sy.aS)(v:zn):x3×Int:=LY S v (goes v cmds)
structure SafeS(S:yx)(C:List Sy.aS):Prop where
 pos:1<=S.length
 dq:S.length<=16
 field:∀f∈S,Sy.L7 f
 cmds:C.length<=300
 guard:∀c∈C,c.2.1.sz<1000000
 sets:∀c∈C,c.2.2.length<=65537/\∀s∈c.2.2,0<=s.1/\s.1<S.length/\s.2.sz<1000000
structure km(S:yx)(v:zn):Prop where
 len:v.length=S.length
 fit:fits S v=true
theorem Zl:∀{S:yx} {v:zn},v.length=S.length->(∀f∈S,Sy.L7 f)->fits S v=true->uL v
 |[],[],_,_,_=>λn hn=>by cases hn
 |[],_::_,h,_,_=>by simp at h
 |_::_,[],h,_,_=>by simp at h
 |s::S,x::w,h,hS,a=>by
  simp [fits,an,gj] at a;have b:=hS s (by simp);intro n hn;rcases List.mem_cons.1 hn with rfl|hn
  .have:=b.lo;have:=b.hi;omega
  .exact Zl (by simpa using h) (λf a=>hS f (b7 _ a)) a.2 n hn
theorem km.i64{S:yx}{cmds:List Sy.aS}(h:km S v)(a:SafeS S cmds):uL v:=Zl h.len a.field h.fit
theorem km.ne{S:yx}{cmds:List Sy.aS}(h:km S v)(a:SafeS S cmds):v≠[]:=λe=>by have:=h.len;have:=a.pos;grind
theorem km.short{S:yx}{cmds:List Sy.aS}(h:km S v)(a:SafeS S cmds):v.length<1000000000:=by have:=h.len;have:=a.dq;omega
theorem ao4(s:Int×Int)(n:Int):kF s n=some (decide (s.1<=n)&&decide (n<=s.2)):=rfl
theorem aco(S:yx)(w:zn):∀(r pre:zn) (rs ps:yx),w=pre++r->S=ps++rs->ps.length=pre.length->rs.length=r.length->w.length<1000->
  ∀M,r.length<M->ao (rM S w) M (pre.length:Int)=some (bif fits rs r then 0 else 5)
 |[],pre,rs,ps,h,hS,hl,hr,hw,M,hM=>by
  obtain ⟨m,rfl⟩:∃m,M=m+1:=⟨M-1,by omega⟩;rw [au];simp only [rM,Sy.pS h];have  :=ej hr;subst this;rfl
 |x::r,pre,[],ps,h,hS,hl,hr,hw,M,hM=>by simp at hr
 |x::r,pre,s::rs,ps,h,hS,hl,hr,hw,M,hM=>by
  obtain ⟨m,rfl⟩:∃m,M=m+1:=⟨M-1,by omega⟩;rw [au];have b:idx S (pre.length)=some s:=by grind [Sy.jv]
  have a:pre.length+r.length+1=w.length:=by rw [h];simp;omega
  have ih:=aco S w r (pre++[x]) rs (ps++[s]) (by rw [h];simp) (by rw [hS];simp) (by simp;omega) (by simpa using hr) hw m (by simp at hM;omega);simp [rM,Sy.jv h,ao4,Pa.cz (show pre.length<4611686018427387904 by omega),fits];grind
theorem apX(S:yx)(w:zn)(hl:w.length=S.length)(a:w.length<1000):sP S w=some (bif fits S w then 0 else 5):=by unfold sP;rw [show ((List.length w:Int) != (List.length S))=false by rw [hl];simp,ca];exact aco S w w [] S [] rfl rfl rfl hl.symm a ax (by show w.length<2^64;omega)
theorem oP(l:List α)(i:Int)(b:0<=i)(a:i<l.length):∃x,idx l i=some x/\l[i.toNat]? =some x:=by simp_all [idx]
theorem UR(m:Sy.bn)(v:zn)(e:Sy.aS)(hn:v.length=m.2.1.length)(c:v.length<1000)(d:e.2.2.length<=65537)(a:∀s∈e.2.2,0<=s.1/\s.1<m.2.1.length/\s.2.sz<1000000):
  ∀(r pre:List (Int×Ex)),e.2.2=pre++r->∀(w:zn) (M:Nat),w.length=v.length->r.length<M->
   ao (wM m v e) M (w,(pre.length:Int))=some (fin m.2.1 (r.foldl (Lq v) w))
 |[],pre,h,w,M,hw,hM=>by
  obtain ⟨k,rfl⟩:∃k,M=k+1:=⟨M-1,by omega⟩;rw [au];simp [wM,fin];grind [apX,ah,fits]
 |s::r,pre,h,w,M,hw,hM=>by
  obtain ⟨k,rfl⟩:∃k,M=k+1:=⟨M-1,by omega⟩;rw [au];obtain ⟨f,i,g⟩:=a s (by rw [h];simp);have b:pre.length+r.length+1=e.2.2.length:=by rw [h];simp;omega
  obtain ⟨x,hx,_⟩:=oP w s.1 f (by omega);have ih:=UR m v e hn c d a r (pre++[s]) (by rw [h];simp) (Lq v w s) k (by rw [Ou,hw]) (by simp at hM;omega);rw [show ((pre++[s]).length)=((pre.length+1:Nat)) by simp] at ih;simp only [wM,Sy.pL h,Sy.jv h,ah];rw [Rs s.2 (by omega) v];simp [hx,Pa.cz (show pre.length<4611686018427387904 by omega)];exact ih
theorem OA(v:zn)(h:v.length<1000000000):bw v=some v:=by grind [bw,Sy.aN,Sy.cO]
theorem anB{m:Sy.bn}(hm:SafeS m.2.1 m.2.2.2.2)(hn:v.length=m.2.1.length)(k:Int):EY m v k=some (Ma m.2.1 m.2.2.2.2 v k):=by
 have d:v.length<1000:=by have:=hm.dq;omega
 unfold EY;simp [aV];unfold Ma;by_cases hk:k<0\/(m.2.2.2.2.length)<=k
 .grind
 .rw [df hk];rw [show (decide (k<0)||decide ((List.length m.2.2.2.2)<=k))=false by grind,ca];obtain ⟨c,e,b⟩:=oP m.2.2.2.2 k (by omega) (by omega);rw [OA v (by omega),ah,e,ah];have a  :=gr b;have:=UR m v c hn d (hm.sets c a).1 (hm.sets c a).2 c.2.2 [] rfl v ax rfl (by have:=(hm.sets c a).1;show _<2^64;omega);rw [show (0:Int)=((([]:List (Int×Ex)).length:Nat)) from rfl,this];unfold eW;rw [b];rfl
theorem ab2(m:Sy.bn)(v:zn)(hm:SafeS m.2.1 m.2.2.2.2):∀(r pre:List Sy.aS),m.2.2.2.2=pre++r->∀(out:zn) (M:Nat),out.length<=pre.length->r.length<M->
  ao (rL m v) M (out,(pre.length:Int))=some (out++mb v pre.length r)
 |[],pre,h,out,M,a,hM=>by
  obtain ⟨k,rfl⟩:∃k,M=k+1:=⟨M-1,by omega⟩;simp_all [au,rL,mb]
 |c::r,pre,h,out,M,a,hM=>by
  obtain ⟨k,rfl⟩:∃k,M=k+1:=⟨M-1,by omega⟩;rw [au];have b:pre.length+r.length+1=m.2.2.2.2.length:=by rw [h];simp;omega
  have f:=hm.cmds;have e:=hm.guard c (by rw [h];simp);simp only [rL,Sy.pL h,Sy.jv h,ah];rw [Rs c.2.1 (by omega) v,ah];have ih:=λout a=>ab2 m v hm r (pre++[c]) (by rw [h];simp) out k a (by simp at hM;omega);rw [show ((pre++[c]).length:Int)=((pre.length+1:Nat)) by simp,show (pre++[c]).length=pre.length+1 by simp] at ih;simp only [Pa.cz (show pre.length<4611686018427387904 by omega),mb];by_cases d:ev v c.2.1=1
  .rw [du d,show (ev v c.2.1==1)=true by simpa using d,cp,Sy.aN (Sy.cO (by simp;omega) (by simp;omega)),ih _ (by simp;omega),cb];rfl
  grind
theorem ap9{m:Sy.bn}(hm:SafeS m.2.1 m.2.2.2.2):CL m v=some (mb v 0 m.2.2.2.2):=
 ab2 m v hm m.2.2.2.2 [] rfl [] ax (c8 _) (by have:=hm.cmds;show _<2^64;omega)
theorem Hc(v:zn):∀(r:List Sy.aS) (k:Nat),(mb v k r).length=(Xq v r).length
 |[],k=>rfl
 |c::r,k=>by
  unfold mb Xq;rw [tw];by_cases a:ev v c.2.1=1
  .rw [du a,du (by simpa using a),ei,ei,Hc v r];rfl
  .rw [df a,df (by simpa using a),Hc v r];rfl
theorem acG{v:zn}{i:Int}:∀{r:List Sy.aS} {k:Nat},i∈mb v k r->∃(j:Nat) (c:Sy.aS),i=((k+j:Nat):Int)/\r[j]? =some c/\ev v c.2.1=1
 |[],k,h=>by simp [mb] at h
 |c::r,k,h=>by
  unfold mb at h;have a:i∈mb v (k+1) r->∃(j:Nat) (d:Sy.aS),i=((k+j:Nat))/\(c::r)[j]? =some d/\ev v d.2.1=1:=λh=>by obtain ⟨j,d,g,f,e⟩:=acG h;exact ⟨j+1,d,by omega,by simpa using f,e⟩
  by_cases b:ev v c.2.1=1
  .rw [du b] at h;rcases List.mem_cons.1 h with rfl|h
   .exact ⟨0,c,rfl,rfl,b⟩
   .exact a h
  grind
theorem Sr(v:zn)(cmds:List Sy.aS):∀(r pre:List Sy.aS),cmds=pre++r->(mb v pre.length r).map (eW cmds v)=goes v r
 |[],pre,h=>rfl
 |c::r,pre,h=>by
  have ih:=Sr v cmds r (pre++[c]) (by rw [h];simp);rw [show (pre++[c]).length=pre.length+1 by simp] at ih;unfold mb goes Xq;rw [tw];by_cases a:ev v c.2.1=1
  .rw [du a,du (by simpa using a),eT,eT,ih];unfold eW;rw [show ((pre.length:Int)).toNat=pre.length from rfl,show cmds[pre.length]? =some c by rw [h];simp];rfl
  .rw [df a,df (by simpa using a),ih];rfl
theorem akf{w:zn}{cmds:List Sy.aS}(h:w∈goes v cmds):w.length=v.length:=by obtain ⟨c,_,rfl⟩:=List.mem_map.1 h;exact KC v c
theorem ajA(v:zn)(cmds:List Sy.aS):(goes v cmds).length<=cmds.length:=by grind [goes,Xq,List.length_map,List.length_filter_le]
theorem ahH{cmds:List Sy.aS}{i:Int}(h:i∈mb v 0 cmds):0<=i/\i<cmds.length:=by obtain ⟨j,c,rfl,a,_⟩:=acG h;grind
theorem yw{S:yx}{cmds:List Sy.aS}(b:km S v):∀w∈(bO S cmds v).1,km S w:=by
 intro w a;unfold bO LY at a;split at a
 .grind
 .cases ha:(goes v cmds).all (fits S) <;> rw [ha] at a
  .cases a
  .rcases jR.1 a with h|h
   .cases h
   .exact ⟨by rw [akf h];exact b.len,List.all_eq_true.1 ha w h⟩
theorem EN{S:yx}{cmds:List Sy.aS}(v:zn):(bO S cmds v).1.length<=cmds.length+1:=by grind [bO,LY,goes,fits,vE,ajA]
end Sp
namespace Sp
theorem ajP{S:yx}{C:List Sy.aS}(hm:SafeS S C)(c:km S v){l:x3}{at_:Option (List (aE×Bool))}(f:Seen l at_)(k:x3->Option (List (aE×Bool))->Option (x3×Int))(hk:∀l a,k l a=some (l,0)):
  (bif ((List.length l:Int)==0) then ((bw v).bind λd=>(nh d l at_).bind λb=>k b.1 b.2) else some (l,0))=some (if l=[] then [v] else l,0):=by
 by_cases h:l=[]
 .subst h;rw [show ((List.length ([]):Int)==0)=true from rfl,cp,OA v (c.short hm),ah];obtain ⟨i,g,_⟩:=add_eq (c.i64 hm) (c.short hm) (c.ne hm) (by simp) f;rw [g,ah,hk];rfl
 .have e:((List.length l)==0)=false:=by simp_all
  grind
theorem Aq(m:Sy.bn)(v:zn)(hm:SafeS m.2.1 m.2.2.2.2)(b:km m.2.1 v)(L:zn)(p:∀i∈L,0<=i/\i<m.2.2.2.2.length)(g:L.length<=300):
  ∀(r pre:zn),L=pre++r->∀(c:Int) (l:x3) (at_:Option (List (aE×Bool))) (M:Nat),Seen l at_->l.length<=pre.length->r.length<M->
   ao (wI v (m.1,m.2.1,m.2.2.1,m.2.2.2.1,m.2.2.2.2,v) L) M ((pre.length:Int),c,l,at_)=
    some (if (r.map (eW m.2.2.2.2 v)).all (fits m.2.1)=true then (if cV l (r.map (eW m.2.2.2.2 v))=[] then [v] else cV l (r.map (eW m.2.2.2.2 v)),0) else ([],6))
 |[],pre,h,c,l,at_,M,hs,hl,hM=>by
  obtain ⟨k,rfl⟩:∃k,M=k+1:=⟨M-1,by omega⟩;rw [au];simp only [wI,Sy.pS h];exact ajP hm b hs (λl _=>some (l,0)) (λ_ _=>rfl)
 |i::r,pre,h,c,l,at_,M,hs,hl,hM=>by
  obtain ⟨k,rfl⟩:∃k,M=k+1:=⟨M-1,by omega⟩;rw [au];have o:pre.length+r.length+1=L.length:=by rw [h];simp;omega
  obtain ⟨e,d⟩:=p i (by rw [h];simp);simp only [wI,Sy.pL h,cp,Sy.jv h,ah,ko];rw [show (m.1,m.2.1,m.2.2.1,m.2.2.2.1,m.2.2.2.2)=m from rfl,anB hm b.len i];unfold Ma;rw [df (by omega),ah];unfold fin;rw [eT,qp];obtain ⟨x,_,t⟩:=oP m.2.2.2.2 i e d;have f:(eW m.2.2.2.2 v i).length=m.2.1.length:=by unfold eW;rw [t,<-b.len];exact KC v x
  cases s:fits m.2.1 (eW m.2.2.2.2 v i)
  .grind
  .have a:km m.2.1 (eW m.2.2.2.2 v i):=⟨f,s⟩;obtain ⟨j,w,u⟩:=add_eq (a.i64 hm) (a.short hm) (a.ne hm) (by omega) hs;have q:=yJ l (eW m.2.2.2.2 v i);have n:=Aq m v hm b L p g r (pre++[i]) (by rw [h];simp) c (ga l (eW m.2.2.2.2 v i)) j k u (by simp;omega) (by simp at hM;omega);rw [show ((pre++[i]).length)=((pre.length+1:Nat)) by simp] at n;rw [cp,show ((0:Int) != 0)=false from rfl,ca];simp only [w,ah,Pa.cz (show pre.length<4611686018427387904 by omega)];rw [n,mi];rfl
theorem amQ{m:Sy.bn}(hm:SafeS m.2.1 m.2.2.2.2)(h:km m.2.1 v):ET m v=some (bO m.2.1 m.2.2.2.2 v):=by
 have b:(mb v 0 m.2.2.2.2).length<=300:=by rw [Hc];have:=qQ (λc:Sy.aS=>decide (ev v c.2.1=1)) m.2.2.2.2;have:=hm.cmds;unfold Xq;omega
 have f:=Aq m v hm h (mb v 0 m.2.2.2.2) (λi hi=>ahH hi) b (mb v 0 m.2.2.2.2) [] rfl 0 [] none ax ajg (c8 _) (by show _<2^64;omega);have a:(mb v 0 m.2.2.2.2).map (eW m.2.2.2.2 v)=goes v m.2.2.2.2:=Sr v m.2.2.2.2 m.2.2.2.2 [] rfl;rw [a] at f;unfold ET I0;rw [ah];rw [show (m.1,m.2.1,m.2.2.1,m.2.2.2.1,m.2.2.2.2)=m from rfl,ap9 hm,ah];rw [show ((([]:zn).length):Int)=0 from rfl] at f;rw [f];unfold bO LY;cases ha:(goes v m.2.2.2.2).all (fits m.2.1)
 .grind
 .rw [du rfl,cp];by_cases d:goes v m.2.2.2.2=[]
  .rw [du d,du (by rw [d];rfl)]
  .rw [df d,df];intro e;cases g:goes v m.2.2.2.2 with
   |nil=>exact d g
   |cons x r=>
    have:x∈cV [] (x::r):=jR.2 (.inr (by simp));grind
end Sp
variable {k : Nat} {q : Int}
namespace Pd
open Sp
theorem acy{l:zn}{u:Nat}(a:u<18446744073709551616)(hl:l.length<100000000000):Rm l (u:Int) 10=some (l++aP (Lib.decDigits u)):=by
 unfold Rm;rw [show ((10:Int)==10)=true from rfl,cy (by omega),cy (by omega),mi,mi,mi,
  Sy.aN (Sy.cO (by omega) (by omega)),lk]
theorem ap5{x:Int}(b:0<=x)(a:x<18446744073709551616):u64.wrap x=x:=by rw [IntKind.wrap_u64];omega
theorem anp{l:zn}{i:Int}(c: -9223372036854775808<=i)(b:i<=9223372036854775807)(hl:l.length<10000000000):lC l i 10=some (l++aP (Lib.itoa i)):=by
 unfold lC jx;simp only [aV];by_cases hi:i<0
 .rw [cy hi,cp,Sy.aN (Sy.cO (by simp;omega) (by simp;omega))];obtain ⟨u,rfl⟩:∃u:Nat,i= -(u):=⟨i.natAbs,by omega⟩;have a:u64.wrap (0-u64.wrap (-(u)))=(u):=by grind [IntKind.wrap_u64]
  unfold il;rw [a,acy (by omega) (by simp;omega),ah,ah,show Lib.itoa (-(u))=45::Lib.decDigits u from by simp_all [Lib.itoa]];simp [aP]
 .rw [c9 hi,ca];obtain ⟨u,rfl⟩:∃u:Nat,i=(u):=⟨i.toNat,by omega⟩;unfold il;rw [ap5 (by omega) (by omega),acy (by omega) (by omega),ah,ah,show Lib.itoa (u)=Lib.decDigits u from by simp_all [Lib.itoa]]
def keyOf(v:zn):aE:=v.flatMap λn=>32::Lib.itoa n
theorem Yg(v:zn):keyOf v++[32]=32::eU v:=by
 induction v with
 |nil=>rfl
 |cons x r ih=>
  grind [keyOf,eU,List.append_assoc]
theorem key_inj{a b:zn}(h:keyOf a=keyOf b):a=b:=by grind [keyOf,Yg,NW,List.cons.inj]
theorem ano(a b:zn):keyOf (a++b)=keyOf a++keyOf b:=by simp [keyOf]
theorem amP(h:uL v):(keyOf v).length<=21*v.length:=by have a:=congrArg List.length (Yg v);grind [W4]
def tQ(l:x3)(at_:Option (List (aE×Bool))):Prop:=(at_=none->l=[])/\∀v,dV at_ (keyOf v) false=l.contains v
theorem Ve:tQ [] none:=⟨λ_=>rfl,λa=>rfl⟩
theorem amK{x:zn}{l:x3}{a:List (aE×Bool)}(f:l.length<1000000000)(d:tQ l (some a)):
  ∃at',(bif (!(dV (some a) (strOf (aP (keyOf x))) false)) then ((some a).bind λb=>aM (aH (List.length l+List.length ([x]:x3)) 24)<|some ((l++([x]:x3)),(some (lB b (strOf (aP (keyOf x))) true)))) else some (l,some a))=some (ga l x,at')/\tQ (ga l x) at':=by
 have k1:aH (List.length l+List.length ([x])) 24=true:=Sy.cO (by simp;omega) (by simp;omega);rw [JA,d.2 x];unfold ga;cases g:l.contains x
 .simp only [Sy.aN k1,e9];refine ⟨_,rfl,(λh=>by cases h),λu=>?_⟩;have c:=d.2 u;unfold dV at c ⊢;simp at c ⊢;rw [Ey,c];have e:(keyOf u==keyOf x)=(u==x):=by grind [beq_eq_false_iff_ne,key_inj]
  grind
 grind
theorem Pn{x:zn}(hx:uL x)(hl:x.length<100000000){l:x3}{c:List (aE×Bool)}(b:l.length<1000000000)(d:tQ l (some c)):
  ∀(r pre:zn),x=pre++r->∀M,r.length<M->∃a,ao (rV x l (some c)) M (aP (keyOf pre),(pre.length:Int))=some (ga l x,a)/\tQ (ga l x) a
 |[],pre,h,M,hM=>by
  obtain ⟨m,rfl⟩:∃m,M=m+1:=⟨M-1,by omega⟩;rw [au];simp only [rV,Sy.pS h];have e:pre=x:=by rw [h];simp
  rw [e];exact amK b d
 |n::r,pre,h,M,hM=>by
  obtain ⟨m,rfl⟩:∃m,M=m+1:=⟨M-1,by omega⟩;rw [au];have hn:=hx n (by rw [h];simp);have hp:uL pre:=λn hn=>hx n (by grind);have hk:=amP hp;obtain ⟨a,g,f⟩:=Pn hx hl b d r (pre++[n]) (by rw [h];simp) m (by simp at hM;omega);have i:aP (keyOf (pre++[n]))=(aP (keyOf pre)++[32])++aP (Lib.itoa n):=by rw [ano,M8];simp [keyOf,qS,List.flatMap_nil,ma,cb];rfl
  simp [rV,Sy.jv h];grind [Sy.aN,Sy.cO,Fi,anp,List.length_append,ah,Pa.cz]
structure Row(x:zn):Prop where
 i64:uL x
 short:x.length<100000000
theorem add_eq{x:zn}(hx:Row x){l:x3}{at_:Option (List (aE×Bool))}(a:l.length<1000000000)(b:tQ l at_):
  ∃at',sa x l at_=some (ga l x,at')/\tQ (ga l x) at':=by
 cases at_ with
 |none=>
  exact Pn hx.i64 hx.short a ⟨(λh=>by cases h),λu=>b.2 u⟩ x [] rfl ax (by have:=hx.short;show _<2^64;omega)
 |some c=>
  exact Pn hx.i64 hx.short a b x [] rfl ax (by have:=hx.short;show _<2^64;omega)
abbrev Au:=List (List Ex)×x3×zn×x3
structure sW(a:Au)(k:Nat):Prop where
 lits:a.1.length=k
 next:a.2.1.length=k
 dq:k<=5000
 row:∀l∈a.1,l.length<=5000/\∀e∈l,e.sz<1000000
 init:a.2.2.1.length<=5000/\∀q∈a.2.2.1,0<=q/\q<k
 nxt:∀l∈a.2.1,l.length<=5000/\∀q∈l,0<=q/\q<k
def ZI(a:Au)(q:Int):List Ex:=(a.1[q.toNat]?).getD []
def sk(a:Au)(q:Int):zn:=(a.2.1[q.toNat]?).getD []
def nH(a:Au)(q:Int)(v:zn):Bool:=(ZI a q).all λe=>ev v e==1
theorem UD(s:List Ex)(v:zn)(d:s.length<=5000)(b:∀e∈s,e.sz<1000000):∀(r pre:List Ex),s=pre++r->∀M,r.length<M->
  ∃i:Int,ao (dE s v) M (pre.length:Int)=some i/\decide (0<=i)= !(r.all λe=>ev v e==1)
 |[],pre,h,M,hM=>by
  obtain ⟨m,rfl⟩:∃m,M=m+1:=⟨M-1,by omega⟩;rw [au];simp only [dE,Sy.pS h];exact ⟨_,rfl,rfl⟩
 |e::r,pre,h,M,hM=>by
  obtain ⟨m,rfl⟩:∃m,M=m+1:=⟨M-1,by omega⟩;rw [au];have a:pre.length+r.length+1=s.length:=by rw [h];simp;omega
  have c:=b e (by rw [h];simp);obtain ⟨i,g,f⟩:=UD s v d b r (pre++[e]) (by rw [h];simp) m (by simp at hM;omega);simp [dE,Sy.jv h,ah,y4,Rs e (by omega) v,Pa.cz (show pre.length<4611686018427387904 by omega)];grind
theorem SD{l:List α}(hl:l.length=k)(h:0<=q/\q<k):∃x,idx l q=some x/\l[q.toNat]? =some x/\x∈l:=by simp_all [idx]
theorem acC{a:Au}(ha:sW a k){q:Int}(b:0<=q/\q<k)(v:zn):Dx a q v=some (nH a q v):=by obtain ⟨s,j,h,e⟩:=SD ha.lits b;obtain ⟨d,c⟩:=ha.row s e;obtain ⟨i,g,f⟩:=UD s v d c s [] rfl ax (by show _<2^64;omega);unfold Dx fG gI nH ZI;grind
def dD(a:Au)(v:zn)(qs:zn):x3:=(qs.filter λq=>nH a q v).map λq=>v++[q]
theorem Kd{a:Au}{qs:zn}:(dD a v qs).length<=qs.length:=by grind [dD,List.length_map,List.length_filter_le]
theorem Rk{a:Au}{v qs:zn}{q:Int}:dD a v (q::qs)=if nH a q v then (v++[q])::dD a v qs else dD a v qs:=by grind [dD]
theorem ake(a:uL v)(hl:v.length<1000000)(hk:k<=5000)(b:0<=q/\q<k):Row (v++[q]):=
 ⟨λn hn=>by
  rcases List.mem_append.1 hn with h|h
  .exact a n h
  grind,by simp;omega⟩
theorem Ov{l a b:x3}:cV l (a++b)=cV (cV l a) b:=by simp [cV]
theorem abJ{a:Au}(ha:sW a k){v:zn}(g:uL v)(hl:v.length<1000000){q:Int}(i:0<=q/\q<k){l:x3}{at_:Option (List (aE×Bool))}(j:l.length<100000000)(h:tQ l at_){R:Type}(d go:x3->Option (List (aE×Bool))->Option R):
  ∃c,(bif nH a q v then ((bw v).bind λe=>aM (aH (List.length e+List.length ([q]:zn)) 8)<|(sa (e++([q]:zn)) l at_).bind λb=>ai (!true) λf=>bif f then d b.1 b.2 else go b.1 b.2) else go l at_)=
   go (if nH a q v then ga l (v++[q]) else l) c/\tQ (if nH a q v then ga l (v++[q]) else l) c:=by
 cases o:nH a q v
 .grind
 .obtain ⟨c,n,m⟩:=add_eq (ake g hl ha.dq i) (by omega) h;refine ⟨c,?_,m⟩;rw [cp,OA v (by omega),ah,Sy.aN (Sy.cO (by simp;omega) (by simp;omega)),n,ah];rfl
theorem Vg{a:Au}{k:Nat}(ha:sW a k){v:zn}(e:uL v)(hl:v.length<1000000)(qs:zn)(c:qs.length<=5000)(f:∀q∈qs,0<=q/\q<k):∀(r pre:zn),qs=pre++r->∀(l:x3) (at_:Option (List (aE×Bool))) (M:Nat),tQ l at_->l.length<=pre.length->r.length<M->
  ao (sN (qs,a.1,a.2.1,a.2.2.1,a.2.2.2,v)) M ((pre.length:Int),l,at_)=some (cV l (dD a v r))
 |[],pre,h,l,at_,M,hs,hll,hM=>by
  obtain ⟨m,rfl⟩:∃m,M=m+1:=⟨M-1,by omega⟩;rw [au];simp only [sN,Sy.pS h];rfl
 |q::r,pre,h,l,at_,M,hs,hll,hM=>by
  obtain ⟨m,rfl⟩:∃m,M=m+1:=⟨M-1,by omega⟩;rw [au];have g:pre.length+r.length+1=qs.length:=by rw [h];simp;omega
  have b:=f q (by rw [h];simp);simp only [sN,Sy.pL h,Sy.jv h,ah];rw [show (a.1,a.2.1,a.2.2.1,a.2.2.2)=a from rfl,acC ha b,ah,Pa.cz (by omega)];obtain ⟨d,n,j⟩:=abJ ha e hl b (by omega) hs (λl _=>some l) (λl o=>ao (sN (qs,a.1,a.2.1,a.2.2.1,a.2.2.2,v)) m (((pre.length+1:Nat)),l,o));rw [n,Rk];have i:(if nH a q v then ga l (v++[q]) else l).length<=pre.length+1:=by grind [yJ]
  have ih:=Vg ha e hl qs c f r (pre++[q]) (by rw [h];simp) _ d m j (by simp;omega) (by simp at hM;omega);rw [show ((pre++[q]).length)=((pre.length+1:Nat)) by simp] at ih;rw [ih];cases nH a q v <;> rfl
theorem anQ{m:Sy.bn}(hm:SafeS m.2.1 m.2.2.2.2)(hi:km m.2.1 m.2.2.1){a:Au}{k:Nat}(ha:sW a k):Az m a=some (cV [] (dD a m.2.2.1 a.2.2.1)):=by unfold Az Ax;rw [ah];have b:=hi.len;have c:=hm.dq;exact Vg ha (hi.i64 hm) (by omega) a.2.2.1 ha.init.1 ha.init.2 a.2.2.1 [] rfl [] none ax Ve (c8 _) (by have:=ha.init.1;show _<2^64;omega)
theorem acb{a:Au}{k:Nat}(ha:sW a k){v:zn}(g:uL v)(hl:v.length<1000000)(t:Int)(b:x3×(Option (List (aE×Bool)))×Int->Option (x3×Int))(qs:zn)(e:qs.length<=5000)(i:∀q∈qs,0<=q/\q<k):
  ∀(r pre:zn),qs=pre++r->∀(l:x3) (at_:Option (List (aE×Bool))) (M:Nat),tQ l at_->l.length<=10000000+pre.length->r.length<M->
  ∃c,ao (sK t b (qs,a.1,a.2.1,a.2.2.1,a.2.2.2,v)) M ((pre.length:Int),l,at_)=b (cV l (dD a v r),c,IntKind.i64.wrap (t+1))/\tQ (cV l (dD a v r)) c
 |[],pre,h,l,at_,M,hs,hll,hM=>by
  obtain ⟨m,rfl⟩:∃m,M=m+1:=⟨M-1,by omega⟩;rw [au];simp only [sK,Sy.pS h];exact ⟨at_,rfl,hs⟩
 |q::r,pre,h,l,at_,M,hs,hll,hM=>by
  obtain ⟨m,rfl⟩:∃m,M=m+1:=⟨M-1,by omega⟩;rw [au];have j:pre.length+r.length+1=qs.length:=by rw [h];simp;omega
  have d:=i q (by rw [h];simp);simp only [sK,Sy.pL h,Sy.jv h,ah];rw [show (a.1,a.2.1,a.2.2.1,a.2.2.2)=a from rfl,acC ha d,ah,Pa.cz (by omega)];obtain ⟨c,s,p⟩:=abJ ha g hl d (by omega) hs (λl f=>b (l,f,IntKind.i64.wrap (t+1))) (λl f=>ao (sK t b (qs,a.1,a.2.1,a.2.2.1,a.2.2.2,v)) m (((pre.length+1:Nat)),l,f));rw [s,Rk];have n:(if nH a q v then ga l (v++[q]) else l).length<=10000000+(pre.length+1):=by grind [yJ]
  have ih:=acb ha g hl t b qs e i r (pre++[q]) (by rw [h];simp) _ c m p (by simp;omega) (by simp at hM;omega);rw [show ((pre++[q]).length)=((pre.length+1:Nat)) by simp] at ih;cases o:nH a q v <;> rw [o] at ih <;> exact ih
def oA(a:Au)(qs:zn)(ws:x3):x3:=ws.flatMap λw=>dD a w qs
theorem KI{a:Au}{qs:zn}(h:qs.length<=5000):∀ws:x3,(oA a qs ws).length<=5000*ws.length
 |[]=>by simp [oA]
 |w::ws=>by have:=KI (a:=a) h ws;grind [Kd,oA,List.length_append,List.length_cons]
theorem Aq{a:Au}{k:Nat}(ha:sW a k){r11:zn×Int}{b:x3×Int}(i:0<=r11.2/\r11.2<k)(g:∀w∈b.1,uL w/\w.length<1000000)(hn:b.1.length<=1000):
  ∀(r pre:x3),b.1=pre++r->∀(l:x3) (at_:Option (List (aE×Bool))) (M:Nat),tQ l at_->l.length<=5000*pre.length->r.length<M->
   ao (s9 a r11 b) M (l,at_,(pre.length:Int))=some (cV l (oA a (sk a r11.2) r),0)
 |[],pre,h,l,at_,M,hs,hll,hM=>by
  obtain ⟨m,rfl⟩:∃m,M=m+1:=⟨M-1,by omega⟩;rw [au];simp only [s9,Sy.pS h];rfl
 |w::r,pre,h,l,at_,M,hs,hll,hM=>by
  obtain ⟨m,rfl⟩:∃m,M=m+1:=⟨M-1,by omega⟩;rw [au];have j:pre.length+r.length+1=b.1.length:=by rw [h];simp;omega
  obtain ⟨qs,t,u,s⟩:=SD ha.next i;have c:=ha.nxt qs s;have p:sk a r11.2=qs:=by grind [sk]
  obtain ⟨e,d⟩:=g w (by rw [h];simp);simp [s9,Sy.jv h,ah,t,Ax];obtain ⟨f,n,q⟩:=acb ha e d (pre.length) (ao (s9 a r11 b) m) qs c.1 c.2 qs [] rfl l at_ ax hs (by omega) (by show _<2^64;omega);rw [show ((([]:zn).length):Int)=0 from rfl] at n;rw [n,Pa.cz (by omega)];have hd:=vE (dD a w qs) l;have o:=Kd (a:=a) (v:=w) (qs:=qs);have ih:=Aq ha i g hn r (pre++[w]) (by rw [h];simp) _ f m q (by simp;omega) (by simp at hM;omega);grind [oA,Ov]
def Ez(m:Sy.bn)(a:Au)(v:zn)(q:Int):x3×Int:=
 if (bO m.2.1 m.2.2.2.2 v).2=0 then (cV [] (oA a (sk a q) (bO m.2.1 m.2.2.2.2 v).1),0) else ([],(bO m.2.1 m.2.2.2.2 v).2)
theorem acS{n:Nat}:kg 0 (n:Int) (n:Int) (n+1)=true:=by grind [kg]
theorem YS(b:v.length<1000000):wO (v++[q])=some (v,q):=by
 unfold wO;have a:IntKind.i64.wrap ((List.length (v++[q]))-1)=(v.length):=by grind [bR]
 rw [a,show (v++[q]).length=v.length+1 by simp,Sy.aN (by rw [acS];simp)];have c:idx (v++[q]) (v.length)=some q:=by unfold idx;grind
 simp_all [aT]
theorem akl{m:Sy.bn}(hm:SafeS m.2.1 m.2.2.2.2){v:zn}(b:km m.2.1 v){a:Au}{k:Nat}(ha:sW a k){q:Int}(f:0<=q/\q<k):vJ m a (v++[q])=some (Ez m a v q):=by
 have g:=b.len;have h:=hm.dq;have d:=EN (S:=m.2.1) (cmds:=m.2.2.2.2) v;have i:=hm.cmds;unfold vJ Ez;rw [YS (by omega),ah,amQ hm b,ah];by_cases c:(bO m.2.1 m.2.2.2.2 v).2=0
 .rw [du c,show ((bO m.2.1 m.2.2.2.2 v).2 != 0)=false by simpa using c,ca];have:=Aq ha (r11:=(v,q)) f (λw e=>by have hi:=yw b w e;have:=hi.len;exact ⟨hi.i64 hm,by omega⟩) (by omega) (bO m.2.1 m.2.2.2.2 v).1 [] rfl [] none ax Ve (pF _) (by show _<2^64;omega)
  exact this
 grind
def St(m:Sy.bn)(k:Nat)(x:zn):Prop:= ∃v q,x=v++[q]/\km m.2.1 v/\0<=q/\q<(k:Int)
def bP(m:Sy.bn)(a:Au)(x:zn):x3×Int:=Ez m a x.dropLast (x.getLastD 0)
theorem Cm(m:Sy.bn)(a:Au)(v:zn)(q:Int):bP m a (v++[q])=Ez m a v q:=by unfold bP;grind
theorem akx{m:Sy.bn}(hm:SafeS m.2.1 m.2.2.2.2){a:Au}{k:Nat}(ha:sW a k){x:zn}(hx:St m k x):vJ m a x=some (bP m a x):=by obtain ⟨v,q,rfl,b,d,c⟩:=hx;grind [Cm,akl]
theorem Eo{a:Au}{qs y:zn}(h:y∈dD a v qs):∃q,q∈qs/\nH a q v=true/\y=v++[q]:=by unfold dD at h;grind
theorem Vj{a:Au}{k:Nat}(ha:sW a k){q:Int}(b:0<=q/\q<k):(sk a q).length<=5000/\∀p∈sk a q,0<=p/\p<(k:Int):=by obtain ⟨qs,e,d,c⟩:=SD ha.next b;unfold sk;rw [d];exact ha.nxt qs c
theorem akI{m:Sy.bn}{a:Au}(ha:sW a k){x:zn}(hx:St m k x):∀y∈(bP m a x).1,St m k y:=by
 obtain ⟨v,q,rfl,e,g,f⟩:=hx;rw [Cm];intro y b;unfold Ez at b;split at b
 .rcases jR.1 b with h|h
  .cases h
  .obtain ⟨w,d,c⟩:=List.mem_flatMap.1 h;obtain ⟨p,hp,_,rfl⟩:=Eo c;have:=(Vj ha ⟨g,f⟩).2 p hp;exact ⟨w,p,rfl,yw e w d,this.1,this.2⟩
 .cases b
theorem wg{m:Sy.bn}(hm:SafeS m.2.1 m.2.2.2.2){a:Au}{k:Nat}(ha:sW a k){x:zn}(hx:St m k x):(bP m a x).1.length<=2000000:=by
 obtain ⟨v,q,rfl,d,c,b⟩:=hx;rw [Cm];unfold Ez;split
 .have h:=vE (oA a (sk a q) (bO m.2.1 m.2.2.2.2 v).1) [];have g:=KI (a:=a) (Vj ha ⟨c,b⟩).1 (bO m.2.1 m.2.2.2.2 v).1;have f:=EN (S:=m.2.1) (cmds:=m.2.2.2.2) v;have e:=hm.cmds;grind
 .simp
end Pd
end
end Go.Proofs.YtcgihjbfppkcfaaGreatDoor
