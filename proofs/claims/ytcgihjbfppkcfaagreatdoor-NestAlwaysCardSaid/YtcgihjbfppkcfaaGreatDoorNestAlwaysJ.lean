/-
  Own texts for the statement NestAlways, cut down to what it needs: TrPa, TrSys, TrPb, TrGen, TrRKey, TrRRead, TrRLine, TrRType, TrRSys, TrRSys2, TrRSys3, ExprLex, TrRSys4, SysT, TrToks, StA, TrEval, StB1, StN, PdX. (cut and joined by a program)
-/
import Derived.Test.YtcgihjbfppkcfaaGreatDoorNestAlwaysI
set_option linter.unusedVariables false
set_option linter.unusedSimpArgs false
set_option linter.unusedSectionVars false
namespace Go.Proofs.YtcgihjbfppkcfaaGreatDoor
open IntKind (u64)
noncomputable section
variable {d : Int}
def wW:List aE:=[[116,114,117,101],[102,97,108,115,101],[88],[70],[71],[85],[82],[118,97,114],[112,114,111,99]]
def apj:List aE:=[[],[],[],[43],[45],[42],[45],[61,61],[33,61],[60],[60,61],[62],[62,61],[116,114,117,101],[102,97,108,115,101],[33],[38],[124],[45,62],[60,45,62],[88],[70],[71],[85],[82]]
def bQ(op:Int):aE:=apj.getD op.toNat []
namespace Pa
abbrev Tok:=Int×aE×Int×Int
abbrev Out:=Except (Int×Int) (Ex×List Tok)
def key(s:aE):Bool:=wW.contains s
def x6(t:Tok):Bool:=t.1==3||(t.1==1&&key t.2.1)
def ops:Nat->zn
 |1=>[19]
 |2=>[18]
 |3=>[17]
 |4=>[16]
 |5=>[23,24]
 |6=>[15,20,21,22]
 |7=>[7,8,9,10,11,12]
 |8=>[3,4]
 |9=>[5]
 |10=>[6]
 |11=>[13,14]
 |_=>[]
def Db(l:zn)(t:Tok):zf:=bif x6 t then l.find? (λo=>bQ o==t.2.1) else none
def dq(s:Nat)(t:Tok):zf:=Db (ops s) t
def kd:Nat->Nat
 |6=>0
 |10=>0
 |1=>1
 |2=>1
 |5=>1
 |7=>1
 |3=>2
 |4=>2
 |8=>2
 |9=>2
 |11=>3
 |_=>4
def ye(s:Nat):Bool:=s==1||s==2||s==5||s==6||s==10
def dn(s:Nat)(d:Int):Int:=bif ye s then d+1 else d
def pB(s:Nat)(d:Int):Bool:=ye s&&decide (320<=d)
def nx(s:Nat):Nat:=bif s==7 then 8 else s
def at_(names:List aE)(v:aE):zg:=names.findIdx? (λx=>v==x)
def open_(t:Tok):Bool:=t.1==3&&t.2.1==[40]
def close_(t:Tok):Bool:=t.1==3&&t.2.1==[41]
def B7(t:Tok):Bool:=t.1==1&& !key t.2.1
def an6(k:Int)(a:Int)(r:Out):Out:=r.map λp=>(.mk k 0 a [p.1],p.2)
def apc(k:Int)(a:Int)(x:Ex)(r:Out):Out:=r.map λp=>(.mk k 0 a [x,p.1],p.2)
inductive Bm where
 |line (s:Nat)
 |loop (s:Nat) (a:Ex)
open Bm
inductive P(names:List aE):Bm->Int->List Tok->Out->Prop
 |sK {s d t ts}:pB s d=true->P names (line s) d (t::ts) (.error (9,t.2.2.2))
 |pre {s d t ts k r}:kd s=0->pB s d=false->dq s t=some k->P names (line s) (dn s d) ts r->P names (line s) d (t::ts) (an6 k t.2.2.2 r)
 |other {s d t ts r}:kd s=0->pB s d=false->dq s t=none->P names (line (s+1)) (dn s d) (t::ts) r->P names (line s) d (t::ts) r
 |rErr {s d ts e}:kd s=1->pB s d=false->P names (line (s+1)) (dn s d) ts (.error e)->P names (line s) d ts (.error e)
 |rOne {s d ts a t ts'}:kd s=1->pB s d=false->P names (line (s+1)) (dn s d) ts (.ok (a,t::ts'))->dq s t=none->P names (line s) d ts (.ok (a,t::ts'))
 |rTwo {s d ts a t ts' k r}:kd s=1->pB s d=false->P names (line (s+1)) (dn s d) ts (.ok (a,t::ts'))->dq s t=some k->P names (line (nx s)) (dn s d) ts' r->P names (line s) d ts (apc k t.2.2.2 a r)
 |lErr {s d ts e}:kd s=2->P names (line (s+1)) d ts (.error e)->P names (line s) d ts (.error e)
 |lGo {s d ts a ts' r}:kd s=2->P names (line (s+1)) d ts (.ok (a,ts'))->P names (loop s a) d ts' r->P names (line s) d ts r
 |lpEnd {s a d t ts}:dq s t=none->P names (loop s a) d (t::ts) (.ok (a,t::ts))
 |lpErr {s a d t ts k e}:dq s t=some k->P names (line (s+1)) d ts (.error e)->P names (loop s a) d (t::ts) (.error e)
 |lpGo {s a d t ts k b ts' r}:dq s t=some k->P names (line (s+1)) d ts (.ok (b,ts'))->P names (loop s (.mk k 0 t.2.2.2 [a,b])) d ts' r->P names (loop s a) d (t::ts) r
 |oWord {s d t ts k}:kd s=3->dq s t=some k->P names (line s) d (t::ts) (.ok (.mk k 0 t.2.2.2 [],ts))
 |oNum {s d t ts}:kd s=3->dq s t=none->(t.1==2)=true->P names (line s) d (t::ts) (.ok (.mk 1 t.2.2.1 t.2.2.2 [],ts))
 |oVar {s d t ts i}:kd s=3->dq s t=none->(t.1==2)=false->B7 t=true->at_ names t.2.1=some i->P names (line s) d (t::ts) (.ok (.mk 2 (i:Int) t.2.2.2 [],ts))
 |oName {s d t ts}:kd s=3->dq s t=none->(t.1==2)=false->B7 t=true->at_ names t.2.1=none->P names (line s) d (t::ts) (.error (3,t.2.2.2))
 |oOpen {s d t ts a c ts'}:kd s=3->dq s t=none->(t.1==2)=false->B7 t=false->open_ t=true->P names (line 1) d ts (.ok (a,c::ts'))->close_ c=true->P names (line s) d (t::ts) (.ok (a,ts'))
 |oErr {s d t ts e}:kd s=3->dq s t=none->(t.1==2)=false->B7 t=false->open_ t=true->P names (line 1) d ts (.error e)->P names (line s) d (t::ts) (.error e)
 |oClose {s d t ts a c ts'}:kd s=3->dq s t=none->(t.1==2)=false->B7 t=false->open_ t=true->P names (line 1) d ts (.ok (a,c::ts'))->close_ c=false->P names (line s) d (t::ts) (.error (2,c.2.2.2))
 |oForm {s d t ts}:kd s=3->dq s t=none->(t.1==2)=false->B7 t=false->open_ t=false->P names (line s) d (t::ts) (.error (2,t.2.2.2))
theorem oT{s:Nat}(h:pB s d=true):kd s=0\/kd s=1:=by unfold pB ye at h;simp at h;rcases h.1 with (((rfl|rfl)|rfl)|rfl)|rfl <;> simp [kd]
theorem P.det{names:List aE}{j:Bm}{n:List Tok}{r l:Out}(h:P names j d n r)(b:P names j d n l):r=l:=by
 induction h generalizing l with
 |sK a=>have:=oT a;cases b <;> simp_all
 |pre a c f e ih=>cases b <;> simp_all <;> (rename_i g;rw [ih g])
 |other a c f e ih=>
  cases b with
  |other _ _ _ h=>exact ih h
  |_=>simp_all
 |rErr a c f ih=>
  cases b with
  |rErr _ _ h=>exact ih h
  |rOne _ _ h=>cases ih h
  |rTwo _ _ h=>cases ih h
  |_=>simp_all
 |rOne a c f e ih=>
  cases b with
  |rErr _ _ h=>cases ih h
  |rOne _ _ h=>exact ih h
  |rTwo _ _ h g=>cases ih h;simp_all
  |_=>simp_all
 |rTwo a c f e g ih i=>
  cases b with
  |rErr _ _ h=>cases ih h
  |rOne _ _ h=>cases ih h;simp_all
  |rTwo _ _ h k m=>cases ih h;rw [e] at k;cases k;rw [i m]
  |_=>simp_all
 |lErr a c ih=>
  cases b with
  |lErr _ h=>exact ih h
  |lGo _ h=>cases ih h
  |sK h=>have:=oT h;simp_all
  |_=>simp_all
 |lGo a c f ih i=>
  cases b with
  |lErr _ h=>cases ih h
  |lGo _ h e=>cases ih h;exact i e
  |sK h=>have:=oT h;simp_all
  |_=>simp_all
 |lpEnd a=>cases b <;> simp_all
 |lpErr a c ih=>
  cases b with
  |lpErr _ h=>exact ih h
  |lpGo _ h=>cases ih h
  |_=>simp_all
 |lpGo a c f ih i=>
  cases b with
  |lpErr _ h=>cases ih h
  |lpGo g h e=>cases ih h;rw [a] at g;cases g;exact i e
  |_=>simp_all
 |oOpen a c f e g k m ih=>
  cases b with
  |oOpen _ _ _ _ _ h _=>cases ih h;rfl
  |oErr _ _ _ _ _ h=>cases ih h
  |oClose _ _ _ _ _ h o=>cases ih h;simp_all
  |sK h=>have:=oT h;simp_all
  |_=>simp_all
 |oErr a c f e g k ih=>
  cases b with
  |oOpen _ _ _ _ _ h _=>cases ih h
  |oErr _ _ _ _ _ h=>exact ih h
  |oClose _ _ _ _ _ h o=>cases ih h
  |sK h=>have:=oT h;simp_all
  |_=>simp_all
 |oClose a c f e g k m ih=>
  cases b with
  |oOpen _ _ _ _ _ h _=>cases ih h;simp_all
  |oErr _ _ _ _ _ h=>cases ih h
  |oClose _ _ _ _ _ h o=>cases ih h;rfl
  |sK h=>have:=oT h;simp_all
  |_=>simp_all
 |oWord a c=>cases b <;> first|(rename_i h;have:=oT h;simp_all;done)|simp_all
 |oNum a c f=>cases b <;> first|grind [oT]|simp_all
 |oVar a c f e g=>cases b <;> first|grind [oT]|simp_all
 |oName a c f e g=>cases b <;> first|grind [oT]|simp_all
 |oForm a c f e g=>cases b <;> first|grind [oT]|simp_all
def Ends:List Tok->Prop
 |[]=>False
 |t::ts=>Ends ts\/(ts=[]/\t.1=4)
theorem Ends.tail{t:Tok}{a:List Tok}(h:Ends (t::a))(b:t.1≠4):Ends a:=by
 rcases h with h|⟨_,h⟩
 .exact h
 .exact absurd h b
theorem Ends.ne{a:List Tok}(h:Ends a):∃t r,a=t::r:=by
 cases a with
 |nil=>exact h.elim
 |cons t r=>exact ⟨t,r,rfl⟩
theorem apb{t:Tok}(h:x6 t=true):t.1≠4:=by grind [x6]
theorem amB{l:zn}{t:Tok}{k:Int}(h:Db l t=some k):x6 t=true:=by grind [Db,x6]
theorem aoh{l:zn}{t:Tok}{k:Int}(h:Db l t=some k):t.1≠4:=apb (amB h)
theorem Ep{s:Nat}{t:Tok}{k:Int}(h:dq s t=some k):t.1≠4:=aoh h
def shorter:Bm->Nat->Nat->Prop
 |line _,a,b=>a<b
 |loop _ _,a,b=>a<=b
theorem P.ends{names:List aE}{j:Bm}{m:List Tok}{r:Out}(h:P names j d m r):Ends m->∀p,r= .ok p->Ends p.2/\shorter j p.2.length m.length:=by
 induction h with
 |sK=>intro _ p h;cases h
 | @pre s d t m k r c f g l ih=>
  intro b p h;cases r with
  |error e=>cases h
  |ok q=>
   obtain ⟨n,o⟩:=ih (b.tail (Ep g)) q rfl;cases h;grind [shorter,List.length_cons]
 |other c f g l ih=>intro b p h;exact ih b p h
 |rErr=>intro _ p h;cases h
 |rOne c f g l ih=>intro b p h;exact ih b p h
 | @rTwo s d m a t ts' k r c f g l u ih i=>
  intro b p h;cases r with
  |error e=>cases h
  |ok q=>
   obtain ⟨n,o⟩:=ih b _ rfl;obtain ⟨w,v⟩:=i (n.tail (Ep l)) q rfl;cases h;grind [shorter,List.length_cons]
 |lErr=>intro _ p h;cases h
 |lGo c f g ih i=>
  grind [shorter]
 |lpEnd c=>intro b p h;cases h;exact ⟨b,c8 _⟩
 |lpErr=>intro _ p h;cases h
 |lpGo c f g ih i=>
  intro b p h;obtain ⟨n,o⟩:=ih (b.tail (Ep c)) _ rfl;grind [shorter,List.length_cons]
 |oWord c f=>intro b p h;cases h;exact ⟨b.tail (Ep f),mE _⟩
 |oNum c f g=>intro b p h;cases h;exact ⟨b.tail (by grind),mE _⟩
 |oVar c f g l u=>intro b p h;cases h;exact ⟨b.tail (by simp_all [B7,an]),mE _⟩
 |oName=>intro _ p h;cases h
 |oOpen c f g l u y x ih=>
  intro b p h;cases h;obtain ⟨n,o⟩:=ih (b.tail (by simp_all [open_,an])) _ rfl;refine ⟨n.tail (by simp_all [close_,an]),?_⟩;grind [shorter,List.length_cons]
 |oErr=>intro _ p h;cases h
 |oClose=>intro _ p h;cases h
 |oForm=>intro _ p h;cases h
theorem P.err{names:List aE}{j:Bm}{b:List Tok}{r:Out}(h:P names j d b r):∀e,r= .error e->e.1=9\/e.1=2\/e.1=3:=by
 induction h with
 |sK=>grind
 | @pre s d t b k r i g f c ih=>
  intro e h;cases r with
  |error e'=>cases h;exact ih _ rfl
  |ok q=>cases h
 |other i g f c ih=>exact ih
 |rErr _ _ _ ih=>exact ih
 |rOne=>intro e h;cases h
 | @rTwo s d b a t ts' k r i g f c h4 ih ih2=>
  intro e h;cases r with
  |error e'=>cases h;exact ih2 _ rfl
  |ok q=>cases h
 |lErr _ _ ih=>exact ih
 |lGo _ _ _ _ ih=>exact ih
 |lpEnd=>intro e h;cases h
 |lpErr _ _ ih=>exact ih
 |lpGo _ _ _ _ ih=>exact ih
 |oWord=>intro e h;cases h
 |oNum=>intro e h;cases h
 |oVar=>intro e h;cases h
 |oName=>grind
 |oOpen=>intro e h;cases h
 |oErr _ _ _ _ _ _ ih=>exact ih
 |oClose=>grind
 |oForm=>grind
end Pa
namespace Sy
open Pa
abbrev aS:=Int×Ex×List (Int×Ex)
abbrev bn:=List aE×yr×zn×List aE×List aS
abbrev gW:=Int×Int
def ED(names:List aE)(ts:List Tok):Out:=
 open Classical in if h :∃r, P names (.line 1) 0 ts r then Classical.choose h else .error (2, 0)
theorem aji{names:List aE}{a:List Tok}{r:Out}(h:P names (.line 1) 0 a r):ED names a=r:=by unfold ED;rw [qX ⟨r,h⟩];exact (Classical.choose_spec (⟨r,h⟩)).det h
theorem ai5{names:List aE}{a:List Tok}{p:Ex×List Tok}(h:ED names a= .ok p):P names (.line 1) 0 a (.ok p):=by
 unfold ED at h;split at h
 .grind
 .cases h
def x9(k:Int)(x:aE)(t:Tok):Bool:=(t.1==k)&&(t.2.1==x)
def Ra:List Tok->Int
 |[]=>0
 |t::_=>t.2.2.2
def tl(k:Int)(x:aE):List Tok->Bool
 |[]=>false
 |t::_=>x9 k x t
def bY(x:aE)(ts:List Tok):Except gW (List Tok):=match ts with
 |[]=> .error (2,0)
 |t::r=>bif x9 3 x t then .ok r else .error (2,t.2.2.2)
def fB(full:Bool)(names procs:List aE)(ts:List Tok):Except gW (aE×List Tok):=match ts with
 |[]=> .error (2,0)
 |t::r=>bif t.1 != 1 then .error (2,t.2.2.2) else bif key t.2.1||names.contains t.2.1||procs.contains t.2.1 then .error (3,t.2.2.2) else bif full then .error (9,t.2.2.2) else .ok (t.2.1,r)
def rQ(neg:Bool)(ts:List Tok):Except gW (Int×List Tok):=match ts with
 |[]=> .error (2,0)
 |t::r=>bif t.1 != 2 then .error (2,t.2.2.2) else .ok (bif neg then IntKind.i64.wrap (0-t.2.2.1) else t.2.2.1,r)
def fP(ts:List Tok):Except gW (Int×List Tok):=bif tl 3 [45] ts then rQ true ts.tail else rQ false ts
def mw(lo hi:Int):Bool:= !(decide (hi<lo))&& !(decide (lo< -1073741824))&& !(decide (1073741824<hi))&& !(decide (65535<IntKind.i64.wrap (hi-lo)))
def pX(m:bn)(ts:List Tok):Except gW (bn×List Tok):=
 match fB (decide (16<=(m.1.length:Int))) m.1 m.2.2.2.1 ts with
 | .error e=> .error e
 | .ok (name,ts1)=>match fP ts1 with
  | .error e=> .error e
  | .ok (lo,ts2)=>match fP ts2 with
   | .error e=> .error e
   | .ok (hi,ts3)=>match fP ts3 with
    | .error e=> .error e
    | .ok (first,ts4)=>match bY [59] ts4 with
     | .error e=> .error e
     | .ok ts5=>bif !(mw lo hi)||decide (first<lo)||decide (hi<first) then .error (5,Ra ts1) else .ok ((m.1++[name],m.2.1++[(lo,hi)],m.2.2.1++[first],m.2.2.2.1,m.2.2.2.2),ts5)
def ek(want:Int)(names:List aE)(ts:List Tok):Except gW (Ex×List Tok):=
 match ED names ts with
 | .error e=> .error e
 | .ok (x,r)=>bif (rt x).2.1 != 0 then .error ((rt x).2.1,(rt x).2.2) else bif (rt x).1 != want then .error (4,x.at_) else .ok (x,r)
def eR(names:List aE)(v:aE):Int:=match at_ names v with
 |some i=>(i:Int)
 |none=> -1
def BM(acc:List (Int×Ex))(i:Int):Bool:=acc.any (λs=>s.1==i)
def fD(names:List aE):Nat->List (Int×Ex)->List Tok->Except gW (List (Int×Ex)×List Tok)
 |0,_,_=> .error (2,0)
 |f+1,acc,ts=>match ts with
  |[]=> .error (2,0)
  |t::r=>bif t.1 != 1 then .error (2,t.2.2.2) else bif decide (eR names t.2.1<0)||BM acc (eR names t.2.1) then .error (3,t.2.2.2) else
   match bY [61] r with
   | .error e=> .error e
   | .ok r1=>match ek 1 names r1 with
    | .error e=> .error e
    | .ok (x,r2)=>bif tl 3 [44] r2 then fD names f (acc++[(eR names t.2.1,x)]) r2.tail else .ok (acc++[(eR names t.2.1,x)],r2)
def mY(m:bn)(ts:List Tok):Except gW (bn×List Tok):=
 bif decide (256<=(m.2.2.2.2.length:Int)) then .error (9,Ra ts) else
 match ek 2 m.1 ts with
 | .error e=> .error e
 | .ok (g,r1)=>match bY [58] r1 with
  | .error e=> .error e
  | .ok r2=>match fD m.1 (r2.length+1) [] r2 with
   | .error e=> .error e
   | .ok (sets,r3)=>match bY [59] r3 with
    | .error e=> .error e
    | .ok r4=> .ok ((m.1,m.2.1,m.2.2.1,m.2.2.2.1,m.2.2.2.2++[(IntKind.i64.wrap ((m.2.2.2.1.length:Int)-1),g,sets)]),r4)
def ln:Nat->bn->List Tok->Except gW (bn×List Tok)
 |0,_,_=> .error (2,0)
 |f+1,m,ts=>bif tl 3 [125] ts then .ok (m,ts.tail) else match mY m ts with
  | .error e=> .error e
  | .ok (m',r)=>ln f m' r
def uX(m:bn)(ts:List Tok):Except gW (bn×List Tok):=
 match fB false m.1 m.2.2.2.1 ts with
 | .error e=> .error e
 | .ok (name,r1)=>match bY [123] r1 with
  | .error e=> .error e
  | .ok r2=>ln (r2.length+1) (m.1,m.2.1,m.2.2.1,m.2.2.2.1++[name],m.2.2.2.2) r2
def o7:Nat->bn->List Tok->Except gW bn
 |0,_,_=> .error (2,0)
 |f+1,m,ts=>match ts with
  |[]=> .error (2,0)
  |t::r=>bif t.1==4 then (bif m.1.isEmpty then .error (2,t.2.2.2) else .ok m)
   else bif x9 1 [118,97,114] t then (match pX m r with
    | .error e=> .error e
    | .ok (m',r')=>o7 f m' r')
   else bif x9 1 [112,114,111,99] t then (match uX m r with
    | .error e=> .error e
    | .ok (m',r')=>o7 f m' r')
   else .error (2,t.2.2.2)
def sys(l:List Tok):Except gW bn:=o7 (l.length+1) ([],[],[],[],[]) l
def N6:Except gW bn->bn×Int×Int
 | .ok m=>(m,0,0)
 | .error e=>(([],[],[],[],[]),e.1,e.2)
def iB(ts ts':List Tok):Prop:=Pa.Ends ts'/\ts'.length<ts.length
theorem Yi{k:Int}{x:aE}{t:Tok}(h:x9 k x t=true)(hk:k≠4):t.1≠4:=by simp_all [x9,an]
theorem lU{x:aE}{a r:List Tok}(c:Pa.Ends a)(h:bY x a= .ok r):iB a r:=by
 obtain ⟨t,d,rfl⟩:=c.ne;simp [bY] at h;cases b:x9 3 x t
 .rw [b] at h;cases h
 .rw [b] at h;cases h;exact ⟨c.tail (Yi b (by decide)),mE _⟩
theorem Pj{full:Bool}{names a:List aE}{c:List Tok}{p:aE×List Tok}(d:Pa.Ends c)(h:fB full names a c= .ok p):
  iB c p.2/\key p.1=false/\names.contains p.1=false/\a.contains p.1=false/\full=false:=by
 obtain ⟨t,f,rfl⟩:=d.ne;simp only [fB] at h;cases e:(t.1 != 1)
 .rw [e] at h;cases b:(key t.2.1||names.contains t.2.1||a.contains t.2.1)
  .rw [b] at h;cases full
   .cases h;simp only [n9] at b;have  :=by simpa using e
    exact ⟨⟨d.tail (by omega),mE _⟩,b.1.1,b.1.2,b.2,rfl⟩
   .cases h
  grind
 grind
theorem Yl{b:Bool}{a:List Tok}{p:Int×List Tok}(c:Pa.Ends a)(h:rQ b a= .ok p):iB a p.2:=by
 obtain ⟨t,e,rfl⟩:=c.ne;simp [rQ] at h;cases d:(t.1 != 2)
 .rw [d] at h;cases h;have  :=by simpa using d
  exact ⟨c.tail (by omega),mE _⟩
 grind
theorem om{k:Int}{x:aE}{a:List Tok}(b:Pa.Ends a)(hk:k≠4)(h:tl k x a=true):Pa.Ends a.tail/\a.tail.length+1=a.length:=by obtain ⟨t,c,rfl⟩:=b.ne;exact ⟨b.tail (Yi h hk),rfl⟩
theorem Rs{a:List Tok}{p:Int×List Tok}(c:Pa.Ends a)(h:fP a= .ok p):iB a p.2:=by
 unfold fP at h;cases b:tl 3 [45] a
 .grind [Yl]
 .rw [b] at h;obtain ⟨e,g⟩:=om c (by decide) b;obtain ⟨d,f⟩:=Yl e h;exact ⟨d,by omega⟩
theorem sZ{a:Int}{names:List aE}{b:List Tok}{p:Ex×List Tok}(g:Pa.Ends b)(h:ek a names b= .ok p):
  iB b p.2/\P names (.line 1) 0 b (.ok p)/\(rt p.1).2.1=0/\(rt p.1).1=a:=by
 unfold ek at h;cases c:ED names b with
 |error e=>rw [c] at h;cases h
 |ok q=>
  obtain ⟨x,r⟩:=q;rw [c] at h;simp only at h;cases f:((rt x).2.1 != 0)
  .rw [f] at h;cases d:((rt x).1 != a)
   .rw [d] at h;cases h;have hp:=ai5 c;exact ⟨hp.ends g _ rfl,hp,by simpa using f,by simpa using d⟩
   grind
  grind
theorem iB.trans{a b c:List Tok}(h:iB a b)(k:iB b c):iB a c:=⟨k.1,Nat.lt_trans k.2 h.2⟩
theorem Zs{names:List aE}:∀(f:Nat) (acc:List (Int×Ex)) (a:List Tok) (p:List (Int×Ex)×List Tok),Pa.Ends a->fD names f acc a= .ok p->iB a p.2:=by
 intro f
 induction f with
 |zero=>grind [fD]
 |succ f ih=>
  intro acc a p l h;obtain ⟨t,r,rfl⟩:=l.ne;simp [fD] at h;cases j:(t.1 != 1)
  case true=>rw [j] at h;cases h
  rw [j] at h;cases n:(decide (eR names t.2.1<0)||BM acc (eR names t.2.1))
  case true=>rw [n] at h;cases h
  rw [n] at h;have ht  :=by simpa using j
  have d:=l.tail (by omega);cases i:bY [61] r with
  |error e=>rw [i] at h;cases h
  |ok r1=>
   rw [i] at h;simp only at h;have k:=lU d i;cases g:ek 1 names r1 with
   |error e=>rw [g] at h;cases h
   |ok q=>
    obtain ⟨x,r2⟩:=q;rw [g] at h;simp only at h;have b:iB r1 r2:=(sZ k.1 g).1;have c:iB (t::r) r2:=⟨b.1,by have:=k.2;have:=b.2;grind⟩;cases m:tl 3 [44] r2
    .grind
    .rw [m] at h;obtain ⟨o,s⟩:=om b.1 (by decide) m;have:=ih _ _ _ o h;exact ⟨this.1,by have:=this.2;have:=c.2;omega⟩
theorem acy{m:bn}{c:List Tok}{p:bn×List Tok}(C:Pa.Ends c)(h:pX m c= .ok p):iB c p.2/\
  ∃a lo hi first,p.1=(m.1++[a],m.2.1++[(lo,hi)],m.2.2.1++[first],m.2.2.2.1,m.2.2.2.2)/\mw lo hi=true/\lo<=first/\first<=hi/\m.1.length<16/\m.1.contains a=false:=by
 unfold pX at h;cases r:fB (decide (16<=(m.1.length:Int))) m.1 m.2.2.2.1 c with
 |error e=>rw [r] at h;cases h
 |ok B=>
  obtain ⟨a,i⟩:=B;rw [r] at h;simp only at h;obtain ⟨v,_,j,_,b⟩:=Pj C r;cases q:fP i with
  |error e=>rw [q] at h;cases h
  |ok A=>
   obtain ⟨lo,g⟩:=A;rw [q] at h;simp only at h;have u:=Rs v.1 q;cases o:fP g with
   |error e=>rw [o] at h;cases h
   |ok z=>
    obtain ⟨hi,f⟩:=z;rw [o] at h;simp only at h;have t:=Rs u.1 o;cases n:fP f with
    |error e=>rw [n] at h;cases h
    |ok y=>
     obtain ⟨first,d⟩:=y;rw [n] at h;simp only at h;have s:=Rs t.1 n;cases l:bY [59] d with
     |error e=>rw [l] at h;cases h
     |ok w=>
      rw [l] at h;have x:=lU s.1 l;cases k:(!(mw lo hi)||decide (first<lo)||decide (hi<first))
      .rw [k] at h;cases h;simp at k;simp at b;exact ⟨(((v.trans u).trans t).trans s).trans x,a,lo,hi,first,rfl,k.1.1,by omega,by omega,by omega,j⟩
      grind
theorem SD{m:bn}{a:List Tok}{p:bn×List Tok}(s:Pa.Ends a)(h:mY m a= .ok p):iB a p.2/\
  ∃g r1 r2 sets b,m.2.2.2.2.length<256/\ek 2 m.1 a= .ok (g,r1)/\Pa.Ends r2/\fD m.1 (r2.length+1) [] r2= .ok (sets,b)/\
   p.1=(m.1,m.2.1,m.2.2.1,m.2.2.2.1,m.2.2.2.2++[(IntKind.i64.wrap ((m.2.2.2.1.length:Int)-1),g,sets)])/\bY [58] r1= .ok r2/\bY [59] b= .ok p.2:=by
 unfold mY at h;cases k:decide (256<=(m.2.2.2.2.length:Int))
 case true=>rw [k] at h;cases h
 rw [k] at h;simp at k;cases j:ek 2 m.1 a with
 |error e=>rw [j] at h;cases h
 |ok r=>
  obtain ⟨g,r1⟩:=r;rw [j] at h;simp only at h;have n:=(sZ s j).1;cases f:bY [58] r1 with
  |error e=>rw [f] at h;cases h
  |ok r2=>
   rw [f] at h;simp only at h;have i:=lU n.1 f;cases d:fD m.1 (r2.length+1) [] r2 with
   |error e=>rw [d] at h;cases h
   |ok q=>
    obtain ⟨sets,b⟩:=q;rw [d] at h;simp only at h;have l:=Zs _ _ _ _ i.1 d;cases c:bY [59] b with
    |error e=>rw [c] at h;cases h
    |ok t=>
     rw [c] at h;cases h;have o:=lU l.1 c;exact ⟨((n.trans i).trans l).trans o,g,r1,r2,sets,b,by omega,rfl,i.1,d,rfl,f,c⟩
end Sy
variable {s : Nat}
namespace Pa
open Bm
def Jg:Bm->Nat
 |line _=>0
 |loop _ a=>a.sz
theorem YN(k n a:Int):(Ex.mk k n a []).sz=1:=by simp [Ex.sz,EL]
theorem aoP(k n a:Int)(x:Ex):(Ex.mk k n a [x]).sz=x.sz+1:=by simp [Ex.sz,EL]
theorem afL(k n a:Int)(x y:Ex):(Ex.mk k n a [x,y]).sz=x.sz+y.sz+1:=by simp [Ex.sz,EL]
theorem P.size{names:List aE}{j:Bm}{l:List Tok}{r:Out}(h:P names j d l r):∀p,r= .ok p->p.1.sz+p.2.length<=l.length+Jg j:=by
 induction h with
 |sK=>intro p h;cases h
 | @pre s d t l k r b c f i ih=>
  intro p h;cases r with
  |error e=>cases h
  |ok q=>cases h;grind [Jg,aoP,List.length_cons]
 |other b c f i ih=>intro p h;exact ih p h
 |rErr=>intro p h;cases h
 |rOne b c f i ih=>intro p h;exact ih p h
 | @rTwo s d l a t ts' k r b c f i m ih g=>
  intro p h;cases r with
  |error e=>cases h
  |ok q=>cases h;grind [Jg,afL,List.length_cons]
 |lErr=>intro p h;cases h
 |lGo b c f ih g=>grind [Jg]
 |lpEnd b=>grind [Jg]
 |lpErr=>intro p h;cases h
 |lpGo b c f ih g=>grind [Jg,afL,List.length_cons]
 |oWord b c=>grind [Jg,YN,List.length_cons]
 |oNum b c f=>grind [Jg,YN,List.length_cons]
 |oVar b c f i m=>grind [Jg,YN,List.length_cons]
 |oName=>intro p h;cases h
 |oOpen b c f i m o n ih=>grind [Jg,List.length_cons]
 |oErr=>intro p h;cases h
 |oClose=>intro p h;cases h
 |oForm=>intro p h;cases h
theorem P.suf{names:List aE}{j:Bm}{l:List Tok}{r:Out}(h:P names j d l r):∀p,r= .ok p->p.2 <:+ l:=by
 induction h with
 |sK=>intro p h;cases h
 | @pre s d t l k r b c f i ih=>
  intro p h;cases r with
  |error e=>cases h
  |ok q=>cases h;grind
 |other b c f i ih=>exact ih
 |rErr=>intro p h;cases h
 |rOne b c f i ih=>exact ih
 | @rTwo s d l a t ts' k r b c f i m ih g=>
  intro p h;cases r with
  |error e=>cases h
  |ok q=>cases h;grind [List.suffix_cons,trans]
 |lErr=>intro p h;cases h
 |lGo b c f ih g=>grind
 |lpEnd b=>grind
 |lpErr=>intro p h;cases h
 |lpGo b c f ih g=>grind
 |oWord b c=>grind
 |oNum b c f=>grind
 |oVar b c f i m=>grind
 |oName=>intro p h;cases h
 |oOpen b c f i m o n ih=>intro p h;cases h;exact ((qZ _ _).trans (ih _ rfl)).trans (qZ _ _)
 |oErr=>intro p h;cases h
 |oClose=>intro p h;cases h
 |oForm=>intro p h;cases h
def Bu(t:Tok):Prop:=t.1=2->0<=t.2.2.1/\t.2.2.1<=1073741824
theorem Hv{t:Tok}{k:Int}(h:dq s t=some k):k∈ops s:=by grind [dq,Db,x6,List.mem_of_find?_eq_some]
theorem amq(hk:kd s=0){k:Int}(h:k∈ops s)(a:Int):xT k 0 1 (ra k) a=true:=by
 have:s=6\/s=10:=by unfold kd at hk;grind
 rcases this with rfl|rfl
 .simp [ops,oi,qy,or_false] at h;rcases h with rfl|rfl|rfl|rfl <;> rfl
 .simp [ops,oi,qy,or_false] at h;subst h;rfl
theorem acw(hk:kd s=1\/kd s=2){k:Int}(h:k∈ops s)(a:Int):xT k 0 2 (ra k) a=true:=by
 have:s=1\/s=2\/s=3\/s=4\/s=5\/s=7\/s=8\/s=9:=by unfold kd at hk;grind
 rcases this with rfl|rfl|rfl|rfl|rfl|rfl|rfl|rfl <;> simp [ops,oi,qy,or_false] at h
 .subst h;rfl
 .subst h;rfl
 .subst h;rfl
 .subst h;rfl
 .rcases h with rfl|rfl <;> rfl
 .rcases h with rfl|rfl|rfl|rfl|rfl|rfl <;> rfl
 .rcases h with rfl|rfl <;> rfl
 .subst h;rfl
theorem aiy(hk:kd s=3){k:Int}(h:k∈ops s)(a:Int):xT k 0 0 (ra k) a=true:=by
 have:s=11:=by unfold kd at hk;grind
 subst this;simp [ops,oi,qy,or_false] at h;rcases h with rfl|rfl <;> rfl
theorem Ui{b k n a:Int}(h:xT k n 0 (ra k) b=true):jy b (.mk k n a [])=true:=by simp [jy,Cr];grind
theorem amI{b k a:Int}{x:Ex}(h:xT k 0 1 (ra k) b=true)(hx:jy b x=true):jy b (.mk k 0 a [x])=true:=by simp [jy,Cr,ei];grind
theorem abf{b k a:Int}{x y:Ex}(h:xT k 0 2 (ra k) b=true)(hx:jy b x=true)(c:jy b y=true):jy b (.mk k 0 a [x,y])=true:=by simp [jy,Cr,ei];grind
def aqS(vars:Int):Bm->Bool
 |line _=>true
 |loop _ a=>jy vars a
def okJ:Bm->Prop
 |line _=>True
 |loop s _=>kd s=2
theorem uU{names:List aE}{v:aE}{i:Nat}(h:at_ names v=some i):i<names.length:=by grind [at_,List.findIdx?_eq_some_iff_getElem]
theorem P.may{names:List aE}{j:Bm}{o:List Tok}{r:Out}(h:P names j d o r):okJ j->(∀t∈o,Bu t)->aqS names.length j=true->∀p,r= .ok p->jy names.length p.1=true:=by
 induction h with
 |sK=>grind
 | @pre s d t o k r g m n w ih=>
  intro _ f _ p h;cases r with
  |error e=>cases h
  |ok q=>cases h;grind [amI,amq,Hv]
 |other g m n w ih=>intro _ f v p h;exact ih trivial f rfl p h
 |rErr=>grind
 |rOne g m n w ih=>intro _ f v p h;exact ih trivial f rfl _ h
 | @rTwo s d o a t ts' k r g m n w h4 ih l=>
  intro _ f _ p h;cases r with
  |error e=>cases h
  |ok q=>
   have x:=ih trivial f rfl _ rfl;have u:=n.suf _ rfl;have B:=l trivial (λt ht=>f t (u.mem (b7 _ ht))) rfl q rfl;cases h;grind [abf,acw,Hv]
 |lErr=>grind
 |lGo g m n ih l=>
  intro _ f _ p h;have x:=ih trivial f rfl _ rfl;have u:=m.suf _ rfl;exact l g (λt ht=>f t (u.mem ht)) x p h
 |lpEnd g=>intro _ f v p h;cases h;exact v
 |lpErr=>grind
 | @lpGo s a d t o k b ts' r g m n ih l=>
  intro y f v p h;have x:=ih trivial (λt ht=>f t (b7 _ ht)) rfl _ rfl;have u:=m.suf _ rfl;exact l y (λt ht=>f t (b7 _ (u.mem ht))) (abf (a:=t.2.2.2) (acw (.inr y) (Hv g) _) v x) p h
 |oWord g m=>grind [Ui,aiy,Hv]
 | @oNum s d t o g m n=>
  intro _ f _ p h;obtain ⟨n0,A⟩:=f t (cx ..) (beq_iff_eq.1 n);grind [Ui,xT,ra,decide,decide_eq_false]
 | @oVar s d t o i g m n w h4=>
  have z:=uU h4;grind [Ui,xT,ra,decide,decide_eq_false]
 |oName=>grind
 | @oOpen s d t o a c ts' g m n w h4 h5 h6 ih=>intro _ f _ p h;cases h;exact ih trivial (λt ht=>f t (b7 _ ht)) rfl (a,c::ts') rfl
 |oErr=>grind
 |oClose=>grind
 |oForm=>grind
end Pa
namespace Pa
def isLet(c:UInt8):Bool:=(decide (97<=c)&&decide (c<=122))||(decide (65<=c)&&decide (c<=90))||c==95
def iT(t:Tok):Prop:=(t.1=1/\∃c s,t.2.1=c::s/\isLet c=true)\/t.1=2\/(t.1=3/\∀c s,t.2.1=c::s->isLet c=false)\/t.1=4
theorem rn{l:List Tok}{a:Nat}{t:Tok}{c:List Tok}(h:l.drop a=t::c):idx l (a:Int)=some t/\l.drop (a+1)=c/\a<l.length/\t∈l:=by
 have b:a<l.length:=by grind [Nat.lt_or_ge,List.drop_of_length_le]
 rw [pA b] at h;grind [List.cons.injEq,idx,List.getElem?_eq_getElem,List.getElem_mem]
theorem cz{a:Nat}(h:a<4611686018427387904):IntKind.i64.wrap ((a:Int)+1)=((a+1:Nat):Int):=by grind [bR]
end Pa
namespace Sy
open Pa
theorem pC{α:Type}{l pre r:List α}{x:α}(h:l=pre++x::r):decide ((pre.length:Int)<(List.length l:Int))=true:=by subst h;simp;omega
theorem pN{α:Type}{l pre:List α}(h:l=pre++[]):decide ((pre.length:Int)<(List.length l:Int))=false:=by subst h;simp
theorem js{α:Type}{l pre r:List α}{x:α}(h:l=pre++x::r):idx l (pre.length:Int)=some x:=by subst h;simp [idx]
theorem cO{k b:Nat}(h:k*b<=140737488355328)(a:k<=9223372036854775807):aH k b=true:=by simp_all [aH,an]
theorem aN{ρ:Type}{c:Bool}(h:c=true)(k:Option ρ):aM c k=k:=by subst h;rfl
end Sy
theorem abB(a:aE):jl a=some (wW.contains a):=by
 unfold jl xN wW;simp only [List.contains_cons,List.contains_nil];cases (a==[116,114,117,101])
 case true=>rfl
 cases (a==[102,97,108,115,101])
 case true=>rfl
 cases (a==[88])
 case true=>rfl
 cases (a==[70])
 case true=>rfl
 cases (a==[71])
 case true=>rfl
 cases (a==[85])
 case true=>rfl
 cases (a==[82])
 case true=>rfl
 cases (a==[118,97,114])
 case true=>rfl
 cases (a==[112,114,111,99]) <;> rfl
namespace Pa
open Bm
def I0(w:Bool)(x:aE):Bool:=match x with
 |[]=>false
 |c::_=>isLet c==w&&wW.contains x==w
theorem W4{t:Tok}(h:iT t){x:aE}(hx:I0 true x=true):(x6 t&&(x==t.2.1))=((t.1==1)&&(t.2.1==x)):=by
 obtain ⟨k,y,n,p⟩:=t;simp [x6,key];by_cases a:y=x
 .subst a;rcases h with ⟨rfl,c,s,b,d⟩|rfl|⟨rfl,e⟩|rfl
  .simp_all [I0,an]
  .simp
  .cases y with
   |nil=>cases hx
   |cons c s=>
    simp [I0,an] at hx;grind
  .simp
 grind
theorem an2{t:Tok}(h:iT t){x:aE}(hx:I0 false x=true):(x6 t&&(x==t.2.1))=((t.1==3)&&(t.2.1==x)):=by
 obtain ⟨k,y,n,p⟩:=t;simp [x6];by_cases a:y=x
 .subst a;rcases h with ⟨rfl,c,s,b,d⟩|rfl|⟨rfl,e⟩|rfl
  .simp_all [I0,an]
  .simp
  .simp
  .simp
 grind
def ka(t:Tok):Bool:=(t.1 != 2)&&(t.1 != 4)
theorem bG{t:Tok}(h:iT t){x:aE}{w:Bool}(hx:I0 w x=true):(x6 t&&(x==t.2.1))=(ka t&&(t.2.1==x)):=by
 by_cases b:t.2.1=x
 .rcases h with ⟨i,c,s,a,f⟩|e|⟨g,d⟩|d
  .rw [b] at a;simp_all [I0,x6,key,ka]
  .simp [x6,ka,e]
  .grind [x6,ka]
  grind [x6,ka]
 grind
theorem pb(t:Tok):Db [] t=none:=by grind [Db,x6]
theorem mf(o:Int)(l:zn)(t:Tok):Db (o::l) t=bif (x6 t&&(bQ o==t.2.1)) then some o else Db l t:=by unfold Db;grind
def opt(o:zf):Int:=o.getD 0
theorem aqA{t:Tok}(h:iT t):cV t 1=some (opt (dq 1 t)):=by have e:=bG h (x:=bQ 19) (w:=false) rfl;simp [dq,ops,mf,pb,e];show (bif ka t then (bif (t.2.1==bQ 19) then some 19 else some 0) else some 0)=_;cases ka t <;> cases (t.2.1==bQ 19) <;> rfl
theorem aqy{t:Tok}(h:iT t):cV t 2=some (opt (dq 2 t)):=by have e:=bG h (x:=bQ 18) (w:=false) rfl;simp [dq,ops,mf,pb,e];show (bif ka t then (bif (t.2.1==bQ 18) then some 18 else some 0) else some 0)=_;cases ka t <;> cases (t.2.1==bQ 18) <;> rfl
theorem aqC{t:Tok}(h:iT t):cV t 3=some (opt (dq 3 t)):=by have e:=bG h (x:=bQ 17) (w:=false) rfl;simp [dq,ops,mf,pb,e];show (bif ka t then (bif (t.2.1==bQ 17) then some 17 else some 0) else some 0)=_;cases ka t <;> cases (t.2.1==bQ 17) <;> rfl
theorem aqH{t:Tok}(h:iT t):cV t 4=some (opt (dq 4 t)):=by have e:=bG h (x:=bQ 16) (w:=false) rfl;simp [dq,ops,mf,pb,e];show (bif ka t then (bif (t.2.1==bQ 16) then some 16 else some 0) else some 0)=_;cases ka t <;> cases (t.2.1==bQ 16) <;> rfl
theorem aqR{t:Tok}(h:iT t):cV t 5=some (opt (dq 5 t)):=by have e:=bG h (x:=bQ 23) (w:=true) rfl;have a:=bG h (x:=bQ 24) (w:=true) rfl;simp [dq,ops,mf,pb,e,a];show (bif ka t then (bif (t.2.1==bQ 23) then some 23 else (bif (t.2.1==bQ 24) then some 24 else some 0)) else some 0)=_;cases ka t <;> cases (t.2.1==bQ 23) <;> cases (t.2.1==bQ 24) <;> rfl
theorem aqI{t:Tok}(h:iT t):cV t 8=some (opt (dq 8 t)):=by have e:=bG h (x:=bQ 3) (w:=false) rfl;have a:=bG h (x:=bQ 4) (w:=false) rfl;simp [dq,ops,mf,pb,e,a];show (bif ka t then (bif (t.2.1==bQ 3) then some 3 else (bif (t.2.1==bQ 4) then some 4 else some 0)) else some 0)=_;cases ka t <;> cases (t.2.1==bQ 3) <;> cases (t.2.1==bQ 4) <;> rfl
theorem aqF{t:Tok}(h:iT t):cV t 9=some (opt (dq 9 t)):=by have e:=bG h (x:=bQ 5) (w:=false) rfl;simp [dq,ops,mf,pb,e];show (bif ka t then (bif (t.2.1==bQ 5) then some 5 else some 0) else some 0)=_;cases ka t <;> cases (t.2.1==bQ 5) <;> rfl
theorem aqx{t:Tok}(h:iT t):cV t 7=some (opt (dq 7 t)):=by
 have n:=bG h (x:=bQ 7) (w:=false) rfl;have l:=bG h (x:=bQ 8) (w:=false) rfl;have e3:=bG h (x:=bQ 9) (w:=false) rfl;have e4:=bG h (x:=bQ 10) (w:=false) rfl;have k:=bG h (x:=bQ 11) (w:=false) rfl;have j:=bG h (x:=bQ 12) (w:=false) rfl;simp [dq,ops,mf,pb,n,l,e3,e4,k,j];obtain ⟨m,hm⟩:∃m,ay=m+7:=⟨18446744073709551609,rfl⟩;refine Eq.trans (b:=bif ka t then ao (bI t) (m+7) 0 else some 0) rfl ?_;have i:ao (bI t) (m+7) 0=bif (t.2.1==bQ 7) then some 7 else ao (bI t) (m+6) 1:=rfl
 have g:ao (bI t) (m+6) 1=bif (t.2.1==bQ 8) then some 8 else ao (bI t) (m+5) 2:=rfl
 have f:ao (bI t) (m+5) 2=bif (t.2.1==bQ 9) then some 9 else ao (bI t) (m+4) 3:=rfl
 have e:ao (bI t) (m+4) 3=bif (t.2.1==bQ 10) then some 10 else ao (bI t) (m+3) 4:=rfl
 have d:ao (bI t) (m+3) 4=bif (t.2.1==bQ 11) then some 11 else ao (bI t) (m+2) 5:=rfl
 have c:ao (bI t) (m+2) 5=bif (t.2.1==bQ 12) then some 12 else ao (bI t) (m+1) 6:=rfl
 have a:ao (bI t) (m+1) 6=some 0:=rfl;rw [i,g,f,e,d,c,a];cases ka t
 .rfl
 cases (t.2.1==bQ 7)
 case true=>rfl
 cases (t.2.1==bQ 8)
 case true=>rfl
 cases (t.2.1==bQ 9)
 case true=>rfl
 cases (t.2.1==bQ 10)
 case true=>rfl
 cases (t.2.1==bQ 11)
 case true=>rfl
 cases (t.2.1==bQ 12) <;> rfl
theorem alZ{t:Tok}(h:iT t){s:Nat}(c:1<=s)(a:s<=9)(b:s≠6):cV t (s:Int)=some (opt (dq s t)):=by
 have:s=1\/s=2\/s=3\/s=4\/s=5\/s=7\/s=8\/s=9:=by omega
 rcases this with rfl|rfl|rfl|rfl|rfl|rfl|rfl|rfl
 .exact aqA h
 .exact aqy h
 .exact aqC h
 .exact aqH h
 .exact aqR h
 .exact aqx h
 .exact aqI h
 .exact aqF h
theorem OU{t:Tok}{k:Int}(h:dq s t=some k):(k==0)=false:=by
 have key:∀l:zn,(l.all λo=>o != 0)=true->Db l t=some k->(k==0)=false:=λl hl h=>by grind [Db,x6,List.mem_of_find?_eq_some,List.all_eq_true]
 refine key (ops s) ?_ h
 match s with
 |0=>rfl
 |1=>rfl
 |2=>rfl
 |3=>rfl
 |4=>rfl
 |5=>rfl
 |6=>rfl
 |7=>rfl
 |8=>rfl
 |9=>rfl
 |10=>rfl
 |11=>rfl
 |n+12=>rfl
abbrev R4:=Ex×Int×Int×Int
abbrev LF:=(Int×Int×List Tok×Int×List aE×Int×Int)->Option R4
def RR(l:List Tok)(r:Out)(m:Option R4):Prop:=match r with
 | .ok (x,ts)=>∃a:Nat,l.drop a=ts/\m=some (x,(a:Int),0,0)
 | .error (b,p)=>∃x a,m=some (x,a,b,p)
theorem Hj{names:List aE}{j:Bm}{a:List Tok}{b p:Int}(h:P names j d a (.error (b,p))):(b != 0)=true:=by rcases h.err _ rfl with h|h|h <;> (grind)
theorem Mp{l:List Tok}{a:Nat}{t:Tok}(h:idx l (a:Int)=some t)(b:Int)(names:List aE)(p:Int):bE b l (a:Int) names 0 p=some (.mk 0 0 0 [],b,t.2.2.2):=by grind [bE]
def nr(names:List aE)(v:aE)(i:Nat):zg:=((names.drop i).findIdx? (λx=>v==x)).map (· +i)
theorem NI(names:List aE)(v:aE):nr names v 0=at_ names v:=by unfold nr at_;simp
theorem ajZ{l:List Tok}{a:Nat}{t:Tok}{names:List aE}(hn:names.length<4611686018427387904)(ha:a<4611686018427387904)(ht:idx l (a:Int)=some t):
  ∀(m i M:Nat),names.length-i<=m->i<=names.length->m<M->
   ao (ed l (a:Int) names 0 0 t) M (i:Int)=
    match nr names t.2.1 i with
    |some j=>some (.mk 2 (j:Int) t.2.2.2 [],((a+1:Nat):Int),0,0)
    |none=>some (.mk 0 0 0 [],(a:Int),3,t.2.2.2):=by
 intro m
 induction m with
 |zero=>
  intro i M d c b;obtain ⟨M,rfl⟩:∃k,M=k+1:=⟨M-1,by omega⟩;have hi:i=names.length:=by omega
  simp_all [au,nr,ed,Mp]
 |succ m ih=>
  intro i M d c b;obtain ⟨M,rfl⟩:∃k,M=k+1:=⟨M-1,by omega⟩;rw [au];by_cases hi:i<names.length
  .have hd  :=pA hi;have hx:idx names (i)=some names[i]:=by simp [idx]
   simp only [ed,cy (show ((i):Int)<(List.length names) by omega),hx,ah,cz ha,cz (show i<4611686018427387904 by omega)];have e:nr names t.2.1 i=bif (names[i]==t.2.1) then some i else nr names t.2.1 (i+1):=by
    unfold nr;rw [hd,List.findIdx?_cons];have:(t.2.1==names[i])=(names[i]==t.2.1):=by grind
    rw [this];cases (names[i]==t.2.1)
    .simp;congr 1;grind
    .simp
   rw [e];cases (names[i]==t.2.1)
   .exact ih (i+1) M (by omega) (by omega) (by omega)
   .rfl
  .have hi:i=names.length:=by omega
   simp_all [nr,ed,Mp]
def SR(names:List aE)(l:List Tok)(k:LF)(s:Nat)(d:Int)(a:Nat):Prop:= ∃r,P names (line s) d (l.drop a) r/\RR l r (k ((s:Int),d,l,(a:Int),names,0,0))
theorem XT{names:List aE}(hn:names.length<4611686018427387904){l:List Tok}(hl:l.length<4611686018427387904)(htok:∀t∈l,iT t){k:LF}{d:Int}{a:Nat}(E:Ends (l.drop a))
  (hk:Ends (l.drop (a+1))->SR names l k 1 d (a+1)):∃r,P names (line 11) d (l.drop a) r/\RR l r (dO k d l (a:Int) names 0 0):=by
 obtain ⟨t,Q,s⟩:=E.ne;obtain ⟨hx,i,J,v⟩:=rn s;have u:=htok t v;have ha:a<4611686018427387904:=by omega
 have N:=W4 u (x:=bQ 13) rfl;have O:=W4 u (x:=bQ 14) rfl;have o:dq 11 t=bif ((t.1==1)&&(t.2.1==bQ 13)) then some 13 else bif ((t.1==1)&&(t.2.1==bQ 14)) then some 14 else none:=by simp only [dq,ops,mf,pb,N,O]
 rw [s];unfold dO;simp only [hx,ah,aV,abB,cz ha];cases n:(t.1==2)
 case true=>
  have M:(t.1==1)=false:=by have:=beq_iff_eq.1 n;rw [this];rfl
  exact ⟨_,.oNum rfl (by rw [o,M];rfl) n,a+1,i,rfl⟩
 simp only [ca];cases z:((t.1==1)&&(t.2.1==bQ 13))
 case true=>
  rw [show ((t.1==1)&&(t.2.1==[116,114,117,101]))=true from z];exact ⟨_,.oWord rfl (by rw [o,z];rfl),a+1,i,rfl⟩
 rw [show ((t.1==1)&&(t.2.1==[116,114,117,101]))=false from z];simp only [ca];cases B:((t.1==1)&&(t.2.1==bQ 14))
 case true=>
  rw [show ((t.1==1)&&(t.2.1==[102,97,108,115,101]))=true from B];exact ⟨_,.oWord rfl (by rw [o,z,B];rfl),a+1,i,rfl⟩
 rw [show ((t.1==1)&&(t.2.1==[102,97,108,115,101]))=false from B];simp only [ca];have f:dq 11 t=none:=by rw [o,z,B];rfl
 cases hN:((t.1==1)&& !(wW.contains t.2.1))
 case true=>
  have e:B7 t=true:=hN;simp only [cp];have:=ajZ hn ha hx names.length 0 ay (by omega) (by omega) (by show names.length<2^64;omega);rw [show ((0:Nat):Int)=0 from rfl,NI] at this;rw [this];cases hat:at_ names t.2.1 with
  |some j=>exact ⟨_,.oVar rfl f n e hat,a+1,i,rfl⟩
  |none=>exact ⟨_,.oName rfl f n e hat,_,_,rfl⟩
 have e:B7 t=false:=hN;simp only [ca];cases A:(((t.1 != 3)||(t.2.1 != [40])):Bool)
 case true=>
  have g:open_ t=false:=by
   unfold open_;simp only [fi,bne_iff_ne] at A;rcases A with h|h
   .rw [beq_eq_false_iff_ne.2 h];rfl
   .rw [beq_eq_false_iff_ne.2 h,w5]
  simp only [cp,Mp hx,ah];exact ⟨_,.oForm rfl f n e g,_,_,rfl⟩
 have G  :=by simp at A;exact A
 have g:open_ t=true:=by unfold open_;rw [G.1,G.2];rfl
 have w  :=by rw [s] at E;exact E.tail (by rw [G.1];decide)
 obtain ⟨r,m,hm⟩:=hk (by rw [i];exact w);rw [i] at m
 match r,m,hm with
 | .error (b,p),m,⟨x,a',hm⟩=>
  have hb:=Hj m;rw [show ((1:Nat):Int)=1 from rfl] at hm;rw [hm,ah];simp [hb];exact ⟨_,.oErr rfl f n e g m,_,_,rfl⟩
 | .ok (x,ts'),m,⟨a',ha',hm⟩=>
  rw [show ((1:Nat):Int)=1 from rfl] at hm;obtain ⟨D,po⟩:=m.ends w _ rfl;obtain ⟨c,I,L⟩:=D.ne;subst L;obtain ⟨q,F,H,C⟩:=rn ha';rw [hm,ah];simp [q,cz (show a'<4611686018427387904 by omega)];by_cases y:c.1=3
  .have e3:(c.1 != 3)=false:=by rw [y];rfl
   simp [e3,ko,dy,ah];cases K:(c.2.1 != [41])
   .have:close_ c=true:=by grind [close_,bne_eq_false_iff_eq]
    exact ⟨_,.oOpen rfl f n e g m this,a'+1,F,rfl⟩
   .have:close_ c=false:=by simp_all [close_,bne_iff_ne]
    simp [Mp q];exact ⟨_,.oClose rfl f n e g m this,_,_,rfl⟩
  .have e3  :=bne_iff_ne.2 y;have:close_ c=false:=by grind [close_,beq_eq_false_iff_ne]
   simp [e3,Mp q];exact ⟨_,.oClose rfl f n e g m this,_,_,rfl⟩
end Pa
namespace Pa
open Bm
theorem Qd(e:Ex):Ex.mk e.op e.n e.at_ e.l=e:=by cases e;rfl
theorem abX(m:Option R4):(m.bind λr=>some (r.1,r.2.1,r.2.2.1,r.2.2.2))=m:=by cases m <;> rfl
theorem RR.one{l:List Tok}{r:Out}{m:Option R4}(h:RR l r m)(c pl:Int):RR l (an6 c pl r) (m.bind λr=>some (.mk c 0 pl [r.1],r.2.1,r.2.2.1,r.2.2.2)):=by
 match r,h with
 | .ok (x,ts),⟨a,h1,h2⟩=>subst h2;exact ⟨a,h1,rfl⟩
 | .error (b,p),⟨x,a,h2⟩=>subst h2;exact ⟨_,_,rfl⟩
theorem RR.two{l:List Tok}{r:Out}{m:Option R4}(h:RR l r m)(c pl:Int)(y:Ex):RR l (apc c pl y r) (m.bind λr=>some (.mk c 0 pl [y,r.1],r.2.1,r.2.2.1,r.2.2.2)):=by
 match r,h with
 | .ok (x,ts),⟨a,h1,h2⟩=>subst h2;exact ⟨a,h1,rfl⟩
 | .error (b,p),⟨x,a,h2⟩=>subst h2;exact ⟨_,_,rfl⟩
theorem ahz{s:Nat}(a:1<=s)(h:s<=10):lA (s:Int)=some (ye s):=by
 have:s=1\/s=2\/s=3\/s=4\/s=5\/s=6\/s=7\/s=8\/s=9\/s=10:=by omega
 rcases this with rfl|rfl|rfl|rfl|rfl|rfl|rfl|rfl|rfl|rfl <;> rfl
theorem aqL{k:LF}{s:Nat}(c:1<=s)(h:s<=10){d:Int}(f:0<=d)(e:d<=320)(l:List Tok)(a:Int)(names:List aE):
  di k (s:Int) d l a names 0 0=jz k (s:Int) l a names 0 0 (ye s) (dn s d):=by
 unfold di;simp [ahz c h];have b:IntKind.i64.wrap (d+1)=d+1:=bR (by omega);unfold dn;rw [b];cases ye s <;> rfl
theorem amf(s:Nat)(d:Int):(ye s&&decide (320<dn s d))=pB s d:=by unfold pB dn;grind
theorem ap2{s:Nat}{d:Int}(b:0<=d)(a:d<=320)(hd:pB s d=false):0<=dn s d/\dn s d<=320:=by unfold pB at hd;unfold dn;grind
section
variable {names : List aE} {l : List Tok} {k : LF} {N : Nat}
variable (hn : names.length < 4611686018427387904) (hl : l.length < 4611686018427387904) (htok :∀t ∈ l, iT t)
variable (hk :∀(s : Nat) (d : Int) (a : Nat), 1 <= s -> s <= 10 -> 0 <= d -> d <= 320 -> Ends (l.drop a) -> 12 * (l.drop a).length + (11 - s) < N -> SR names l k s d a)
include hn hl htok hk
theorem pre6{d:Int}{a:Nat}{t:Tok}{i:List Tok}(c:l.drop a=t::i)(w:Ends (t::i))(z:0<=dn 6 d)(y:dn 6 d<=320)(hd:pB 6 d=false)(hN:12*(l.drop a).length+5<N+1):
  ∃r,P names (line 6) d (t::i) r/\RR l r (da k l (a:Int) names 0 0 (dn 6 d) t (bif ((t.1==3)&&(t.2.1==[33])) then 15 else 0)):=by
 obtain ⟨hx,f,B,h⟩:=rn c;have e:=htok t h;have G:=an2 e (x:=bQ 15) rfl;have F:=W4 e (x:=bQ 20) rfl;have E:=W4 e (x:=bQ 21) rfl;have D:=W4 e (x:=bQ 22) rfl;have m:dq 6 t=bif ((t.1==3)&&(t.2.1==bQ 15)) then some 15 else bif ((t.1==1)&&(t.2.1==bQ 20)) then some 20 else bif ((t.1==1)&&(t.2.1==bQ 21)) then some 21 else bif ((t.1==1)&&(t.2.1==bQ 22)) then some 22 else none:=by grind [dq,ops,mf,pb]
 have C:da k l (a) names 0 0 (dn 6 d) t (bif ((t.1==3)&&(t.2.1==[33])) then 15 else 0)=jB k l (a) names 0 0 (dn 6 d) t (opt (dq 6 t)):=by
  rw [m];unfold da oy ov;rw [show bQ 15=[33] from rfl,show bQ 20=[88] from rfl,show bQ 21=[70] from rfl,show bQ 22=[71] from rfl];by_cases u:t.1=1
  .rw [u];by_cases q:t.2.1=[88]
   .rw [q];rfl
   .by_cases s:t.2.1=[70]
    .rw [s];rfl
    .by_cases p:t.2.1=[71]
     .rw [p];rfl
     .rw [beq_eq_false_iff_ne.2 q,beq_eq_false_iff_ne.2 s,beq_eq_false_iff_ne.2 p];rfl
  .rw [beq_eq_false_iff_ne.2 u];cases ((t.1==3)&&(t.2.1==[33])) <;> rfl
 rw [C];unfold jB;have v:(l.drop a).length=i.length+1:=by rw [c];rfl
 cases j:dq 6 t with
 |none=>
  obtain ⟨r,g,hm⟩:=hk 7 (dn 6 d) a (by omega) (by omega) z y (by rw [c];exact w) (by omega);rw [c] at g;refine ⟨r,.other rfl hd j g,?_⟩;show RR l r ((k (7,dn 6 d,l,(a),names,0,0)).bind λb=>some (b.1,b.2.1,b.2.2.1,b.2.2.2));grind [abX]
 |some A=>
  have n:=OU j;have o  :=w.tail (Ep j);obtain ⟨r,g,hm⟩:=hk 6 (dn 6 d) (a+1) (by omega) (by omega) z y (by rw [f];exact o) (by rw [f];omega);rw [f] at g;refine ⟨_,.pre rfl hd j g,?_⟩;simp [opt,qF,n,cz (show a<4611686018427387904 by omega)];exact hm.one A t.2.2.2
theorem aqj{d:Int}{a:Nat}{t:Tok}{m:List Tok}(f:l.drop a=t::m)(q:Ends (t::m))(u:0<=dn 10 d)(s:dn 10 d<=320)(hd:pB 10 d=false)(hN:12*(l.drop a).length+1<N+1):
  ∃r,P names (line 10) d (t::m) r/\RR l r (bif ((t.1 != 3)||(t.2.1 != [45])) then ((dO k (dn 10 d) l (a:Int) names 0 0).bind λe=>some (e.1,e.2.1,e.2.2.1,e.2.2.2))
   else ((k (10,dn 10 d,l,(IntKind.i64.wrap ((a:Int)+1)),names,0,0)).bind λb=>some ((Ex.mk 6 0 t.2.2.2 ([b.1]:List Ex)),b.2.1,b.2.2.1,b.2.2.2))):=by
 obtain ⟨hx,g,v,j⟩:=rn f;have n:=htok t j;have w:=an2 n (x:=bQ 6) rfl;have c:dq 10 t=bif ((t.1==3)&&(t.2.1==bQ 6)) then some 6 else none:=by grind [dq,ops,mf,pb]
 have p:(l.drop a).length=m.length+1:=by rw [f];rfl
 have hb:((t.1 != 3)||(t.2.1 != [45]))= !((t.1==3)&&(t.2.1==bQ 6)):=by show ((!(t.1==3))||(!(t.2.1==[45])))=_;rw [show bQ 6=[45] from rfl,Bool.not_and]
 rw [hb];cases o:((t.1==3)&&(t.2.1==bQ 6))
 .rw [o] at c;simp [abX];obtain ⟨r,i,hm⟩:=XT hn hl htok (by rw [f];exact q) (λh=>hk 1 (dn 10 d) (a+1) (by omega) (by omega) u s h (by rw [g];omega));rw [f] at i;exact ⟨r,.other rfl hd c i,hm⟩
 .rw [o] at c;have h  :=q.tail (Ep c);simp [cz (show a<4611686018427387904 by omega)];obtain ⟨r,i,hm⟩:=hk 10 (dn 10 d) (a+1) (by omega) (by omega) u s (by rw [g];exact h) (by rw [g];omega);rw [g] at i;exact ⟨_,.pre rfl hd c i,hm.one 6 t.2.2.2⟩
theorem ah5{s:Nat}(q:1<=s)(K:s<=9)(L:s≠6)(C:kd s=2){D:Int}(Q:0<=D)(O:D<=320)(G:((((s:Int)==1)||((s:Int)==2))||((s:Int)==5))=false)(F:((s:Int)==7)=false):
  ∀(n a M:Nat) (x:Ex),(l.drop a).length<=n->n<M->Ends (l.drop a)->12*(l.drop a).length<=N->
   ∃r,P names (loop s x) D (l.drop a) r/\RR l r (ao (cZ k (s:Int) l names D) M ((a:Int),0,0,x.op,x.n,x.at_,x.l)):=by
 intro n
 induction n with
 |zero=>
  intro a M x q S o _;obtain ⟨t,A,c⟩:=o.ne;rw [c] at q;simp at q
 |succ n ih=>
  intro a M x J R o hN;obtain ⟨M,rfl⟩:∃m,M=m+1:=⟨M-1,by omega⟩;obtain ⟨t,A,c⟩:=o.ne;obtain ⟨hx,e,I,h⟩:=rn c;have v:=htok t h;have B:(l.drop a).length=A.length+1:=by rw [c];rfl
  rw [au];simp [cZ,hx,ah,alZ v q K L,aV,G,ca];cases g:dq s t with
  |none=>
   refine ⟨.ok (x,l.drop a),by rw [c];exact .lpEnd g,a,rfl,?_⟩;simp [opt,Option.getD_none,qe,cp,Qd]
  |some E=>
   have w:=OU g;have i  :=by rw [c] at o;exact o.tail (Ep g)
   have u:IntKind.i64.wrap ((s)+1)=((s+1:Nat)):=by grind [bR]
   simp only [opt,qF,w,cz (show a<4611686018427387904 by omega),u];obtain ⟨r,d,hm⟩:=hk (s+1) D (a+1) (by omega) (by omega) Q O (by rw [e];exact i) (by rw [e];omega);rw [e] at d
   match r,d,hm with
   | .error (b,p),d,⟨y,a',hm⟩=>
    have hb:=Hj d;have z:(b==0)=false:=by simpa using hb
    rw [hm,ah];obtain ⟨M,rfl⟩:∃m,M=m+1:=⟨M-1,by omega⟩;rw [au];simp [cZ,z];rw [c];exact ⟨_,.lpErr g d,_,_,rfl⟩
   | .ok (y,ts'),d,⟨a',ha',hm⟩=>
    obtain ⟨j,po⟩:=d.ends i _ rfl;simp [shorter] at po j;obtain ⟨r2,f,H⟩:=ih a' M (.mk E 0 t.2.2.2 [x,y]) (by rw [ha'];omega) (by omega) (by rw [ha'];exact j) (by rw [ha'];omega);rw [ha'] at f;refine ⟨r2,by rw [c];exact .lpGo g d f,?_⟩;grind [Qd]
theorem ahG{s:Nat}(T:1<=s)(S:s<=10){d:Int}(h0:0<=d)(Z:d<=320){a:Nat}(u:Ends (l.drop a))(hN:12*(l.drop a).length+(11-s)<N+1):
  ∃r,P names (line s) d (l.drop a) r/\RR l r (di k (s:Int) d l (a:Int) names 0 0):=by
 obtain ⟨t,ts,c⟩:=u.ne;obtain ⟨hx,hd1,hlt,W⟩:=rn c;rw [aqL T S h0 Z];unfold jz;simp only [aV,amf];cases hd:pB s d
 case true=>
  rw [c];simp only [cp,Mp hx,ah];exact ⟨_,.sK hd,_,_,rfl⟩
 obtain ⟨j,i⟩:=ap2 h0 Z hd;simp only [ca,hx,ah];rw [c] at u;by_cases R:s=6
 .subst R;have:=pre6 hn hl htok hk c u j i hd (by omega);rw [c];obtain ⟨r,f,hm⟩:=this;refine ⟨r,f,?_⟩;show RR l r (bif ((t.1==3)&&(t.2.1==[33])) then da k l (a:Int) names 0 0 (dn 6 d) t 15 else da k l (a:Int) names 0 0 (dn 6 d) t 0);cases hb:((t.1==3)&&(t.2.1==[33])) <;> rw [hb] at hm <;> exact hm
 by_cases v:s=10
 .subst v;obtain ⟨r,f,hm⟩:=aqj hn hl htok hk c u j i hd (by omega);rw [c];exact ⟨r,f,hm⟩
 have b6:((s:Int)==6)=false:=beq_eq_false_iff_ne.2 (by omega);have U:((s:Int)==10)=false:=beq_eq_false_iff_ne.2 (by omega);have w:IntKind.i64.wrap ((s:Int)+1)=((s+1:Nat):Int):=by rw [bR (by omega)];omega
 simp only [b6,U,ca,w];obtain ⟨r,f,hm⟩:=hk (s+1) (dn s d) a (by omega) (by omega) j i (by rw [c];exact u) (by omega);have Y:(l.drop a).length=ts.length+1:=by rw [c];rfl
 have B:kd s=1\/kd s=2:=by
  have:s=1\/s=2\/s=3\/s=4\/s=5\/s=7\/s=8\/s=9:=by omega
  rcases this with rfl|rfl|rfl|rfl|rfl|rfl|rfl|rfl <;> simp [kd]
 match r,f,hm with
 | .error (b,p),f,⟨y,a',hm⟩=>
  have hb:=Hj f;have M:(b==0)=false:=by simpa using hb
  rw [hm,ah];obtain ⟨m,O⟩:∃m,ay=m+1:=⟨18446744073709551615,rfl⟩;rw [O,au];simp only [cZ,M,ca];rcases B with h|h
  .exact ⟨_,.rErr h hd f,_,_,rfl⟩
  .refine ⟨.error (b,p),.lErr h (d:=d) ?_,_,_,rfl⟩;have:dn s d=d:=by
    have:s=3\/s=4\/s=8\/s=9:=by
     have:s=1\/s=2\/s=3\/s=4\/s=5\/s=7\/s=8\/s=9:=by omega
     rcases this with rfl|rfl|rfl|rfl|rfl|rfl|rfl|rfl <;> simp [kd] at h <;> simp
    rcases this with rfl|rfl|rfl|rfl <;> rfl
   rw [this] at f;exact f
 | .ok (x,ts'),f,⟨a',ha',hm⟩=>
  rw [c] at f;obtain ⟨o,po⟩:=f.ends u _ rfl;simp only [shorter,ei] at po o;rw [hm,ah];rcases B with h|h
  .-- once
   obtain ⟨t2,D,F⟩:=o.ne;subst F;obtain ⟨E,g,X,q⟩:=rn ha';have z:=htok t2 q;obtain ⟨m,O⟩:∃m,ay=m+1:=⟨18446744073709551615,rfl⟩;rw [O,au,c];simp only [cZ,qe,cp,E,ah,alZ z T (by omega) R,aV];cases A:dq s t2 with
   |none=>
    refine ⟨_,.rOne h hd f A,a',ha',?_⟩;simp only [opt,Option.getD_none,qe,cp,Qd]
   |some V=>
    have J:=OU A;have C:Ends D:=o.tail (Ep A);simp only [opt,qF,J,ca,cz (show a'<4611686018427387904 by omega),w,Qd];simp only [ei] at po;have L:s=1\/s=2\/s=5\/s=7:=by
     have:s=1\/s=2\/s=3\/s=4\/s=5\/s=7\/s=8\/s=9:=by omega
     rcases this with rfl|rfl|rfl|rfl|rfl|rfl|rfl|rfl <;> simp [kd] at h <;> simp
    by_cases Q:s=7
    .subst Q;obtain ⟨r2,e,n⟩:=hk 8 (dn 7 d) (a'+1) (by omega) (by omega) j i (by rw [g];exact C) (by rw [g];omega);rw [g] at e;exact ⟨_,.rTwo h hd f A e,n.two V t2.2.2.2 x⟩
    .obtain ⟨r2,e,n⟩:=hk s (dn s d) (a'+1) (by omega) (by omega) j i (by rw [g];exact C) (by rw [g];omega);rw [g] at e;have H:nx s=s:=by unfold nx;rw [beq_eq_false_iff_ne.2 Q];rfl
     refine ⟨_,.rTwo h hd f A (by rw [H];exact e),?_⟩;have hb:((((s:Int)==1)||((s:Int)==2))||((s:Int)==5))=true:=by
      rcases L with rfl|rfl|rfl|rfl
      .rfl
      .rfl
      .rfl
      .exact absurd rfl Q
     rw [hb];exact n.two V t2.2.2.2 x
  .-- from the left
   have L:s=3\/s=4\/s=8\/s=9:=by
    have:s=1\/s=2\/s=3\/s=4\/s=5\/s=7\/s=8\/s=9:=by omega
    rcases this with rfl|rfl|rfl|rfl|rfl|rfl|rfl|rfl <;> simp [kd] at h <;> simp
   have K:dn s d=d:=by rcases L with rfl|rfl|rfl|rfl <;> rfl
   have hq:((((s:Int)==1)||((s:Int)==2))||((s:Int)==5))=false:=by grind
   have G:((s:Int)==7)=false:=by grind
   have I:(l.drop a').length<=l.length:=by simp
   obtain ⟨r2,e,n⟩:=ah5 hn hl htok hk T (by omega) R h j i hq G l.length a' ay x I (by show l.length<2^64;omega) (by rw [ha'];exact o) (by rw [ha'];omega);rw [ha'] at e;rw [c];rw [K] at f e;exact ⟨r2,.lGo h f e,n⟩
end
theorem ajb{names:List aE}{l:List Tok}(hn:names.length<4611686018427387904)(hl:l.length<4611686018427387904)(htok:∀t∈l,iT t):
  ∀(N:Nat) (s:Nat) (d:Int) (a:Nat),1<=s->s<=10->0<=d->d<=320->Ends (l.drop a)->12*(l.drop a).length+(11-s)<N->
   SR names l (ao (λk (s:(Int×Int×(List (Int×aE×Int×Int))×Int×(List aE)×Int×Int))=>di k s.1 s.2.1 s.2.2.1 s.2.2.2.1 s.2.2.2.2.1 s.2.2.2.2.2.1 s.2.2.2.2.2.2) N) s d a:=by
 intro N
 induction N with
 |zero=>grind
 |succ N ih=>
  intro s d a f b g e c hN;exact ahG hn hl htok ih f b g e c hN
theorem afw{names:List aE}{l:List Tok}(hn:names.length<4611686018427387904)(hl:l.length<1152921504606846976)(htok:∀t∈l,iT t){a:Nat}(f:Ends (l.drop a)):
  ∃r,P names (line 1) 0 (l.drop a) r/\match r with
   | .ok (x,ts)=>∃d:Nat,l.drop d=ts/\fa l (a:Int) names=some (x,(d:Int),0,0)
   | .error (b,p)=>fa l (a:Int) names=some (.mk 0 0 0 [],0,b,p):=by
 have e:(l.drop a).length<=l.length:=by simp
 obtain ⟨r,c,hm⟩:=ajb hn (by omega) htok ay 1 0 a (by omega) (by omega) (by omega) (by omega) f (by show _<2^64;omega);unfold fa ic
 match r,c,hm with
 | .ok (x,ts),c,⟨d,ha',hm⟩=>
  grind
 | .error (b,p),c,⟨x,d,hm⟩=>
  have hb:=Hj c;grind
end Pa
theorem Ht(k:Ex->Option (Int×Int×Int))(e:Ex)(hk:∀x∈e.l,k x=some (rt x))(hl:e.l.length<1152921504606846976):
  ∀(r pre:List Ex),e.l=pre++r->∀(M:Nat) (i b t:Int),0<=i/\i<=pre.length->0<=b/\b<=pre.length->0<=t/\t<=pre.length->r.length<M->
   ao (kO k e) M (i,b,t,(pre.length:Int))=some (rK e.op e.at_ (e.l.length:Int) r i b t)
 |[],pre,h,M,i,b,t,hi,hb,ht,hM=>by
  obtain ⟨m,rfl⟩:∃m,M=m+1:=⟨M-1,by omega⟩;rw [au];have a:pre.length<1152921504606846976:=by grind
  have f:IntKind.i64.wrap (b+t)=b+t:=bR (by omega);simp [kO,aV,rK,LY];grind
 |x::r,pre,h,M,i,b,t,hi,hb,ht,hM=>by
  obtain ⟨m,rfl⟩:∃m,M=m+1:=⟨M-1,by omega⟩;rw [au];have hx  :=hk x (by rw [h];simp);have a:pre.length<1152921504606846976:=by grind
  have ih:=λi b t hi hb ht=>Ht k e hk hl r (pre++[x]) (by rw [h];simp) m i b t hi hb ht (by simp at hM;omega);have hp:((pre++[x]).length)=((pre.length+1:Nat)):=by simp
  rw [hp] at ih;have c:IntKind.i64.wrap (i+1)=i+1:=bR (by omega);have d:IntKind.i64.wrap (b+1)=b+1:=bR (by omega);have wt:IntKind.i64.wrap (t+1)=t+1:=bR (by omega);simp only [kO,oY,vO,pd h,yi h,ah,hx,vJ (show pre.length<4611686018427387904 by omega),rK,c,d,wt];cases (rt x).2.1 != 0
  .cases (rt x).1==1 <;> cases (rt x).1==2 <;> cases (rt x).1==3 <;> simp <;> exact ih _ _ _ (by omega) (by omega) (by omega)
  .rfl
theorem aeM:∀(N:Nat) (e:Ex),e.sz<=N->e.sz<1152921504606846976->ao (λk s=>iX k s) N e=some (rt e):=by
 intro N
 induction N with
 |zero=>grind [Gg]
 |succ N ih=>
  intro e h hb;rw [au];have hl:=ahr e;rw [rt_eq];exact Ht (ao (λk s=>iX k s) N) e (λx hx=>ih x (by have:=HW hx;omega) (by have:=HW hx;omega)) (by omega) e.l [] rfl ay 0 0 0 (by simp) (by simp) (by simp) (by show e.l.length<2^64;omega)
theorem aiA(e:Ex)(h:e.sz<1152921504606846976):iA e=some (rt e):=aeM ay e (by show e.sz<=2^64;omega) h
namespace Sy
open Pa
theorem type_s2(e:Ex):ir e=iX iA e:=rfl
theorem adz(e:Ex)(h:e.sz<1152921504606846976):ir e=some (rt e):=by have hl:=ahr e;rw [rt_eq];exact Ht iA e (λx hx=>aiA x (by have:=HW hx;omega)) (by omega) e.l [] rfl ay 0 0 0 (by simp) (by simp) (by simp) (by show e.l.length<2^64;omega)
theorem B6{names:List aE}{v:aE}(hn:names.length<4611686018427387904):∀(m i M:Nat),names.length-i<=m->i<=names.length->m<M->
  ao (fF names v) M (i:Int)=some (match nr names v i with|some j=>(j:Int)|none=> -1):=by
 intro m
 induction m with
 |zero=>
  intro i M c b a;obtain ⟨M,rfl⟩:∃k,M=k+1:=⟨M-1,by omega⟩;have hi:i=names.length:=by omega
  simp_all [au,nr,fF,List.length]
 |succ m ih=>
  intro i M c b a;obtain ⟨M,rfl⟩:∃k,M=k+1:=⟨M-1,by omega⟩;rw [au];by_cases hi:i<names.length
  .have hd  :=pA hi;have hx:idx names (i)=some names[i]:=by simp [idx]
   simp only [fF,cy (show ((i):Int)<(List.length names) by omega),hx,ah,cz (show i<4611686018427387904 by omega)];have e:nr names v i=bif (names[i]==v) then some i else nr names v (i+1):=by
    unfold nr;rw [hd,List.findIdx?_cons];have:(v==names[i])=(names[i]==v):=by grind
    rw [this];cases (names[i]==v)
    .simp;congr 1;grind
    .simp
   rw [e];cases (names[i]==v)
   .exact ih (i+1) M (by omega) (by omega) (by omega)
   .rfl
  .have hi:i=names.length:=by omega
   simp_all [nr,fF,List.length]
theorem OM{names:List aE}(hn:names.length<4611686018427387904)(v:aE):cM names v=some (eR names v):=by have:=B6 (v:=v) hn names.length 0 ay (by omega) (by omega) (by show names.length<2^64;omega);rw [show ((0:Nat))=0 from rfl,NI] at this;grind [cM,eR,at_]
theorem amW{names:List aE}{v:aE}:at_ names v=none↔names.contains v=false:=by grind [at_,List.findIdx?_eq_none_iff,List.contains_iff_mem]
theorem Jz(names:List aE)(v:aE):decide (0<=eR names v)=names.contains v:=by grind [eR,at_,amW]
def bP(st:Except gW (List Tok))(f:List Tok->Except gW (List Tok)):Except gW (List Tok):=match st with
 | .ok ts=>f ts
 | .error e=> .error e
def rest{α:Type}:Except gW (α×List Tok)->Except gW (List Tok)
 | .ok p=> .ok p.2
 | .error e=> .error e
def bz{α:Type}(st:Except gW (List Tok))(f:List Tok->Except gW (α×List Tok)):Except gW (List Tok):=bP st λts=>rest (f ts)
def St(l:List Tok)(st:Except gW (List Tok))(a b p:Int):Prop:=match st with
 | .ok ts=>∃k:Nat,a=(k:Int)/\l.drop k=ts/\Pa.Ends ts/\b=0/\p=0
 | .error e=>(∃t,idx l a=some t)/\(e.1==0)=false/\b=e.1/\p=e.2
def CO(k:Int)(x:aE):Except gW (List Tok)->Bool
 | .ok ts=>tl k x ts
 | .error _=>false
def Rh{α:Type}(st:Except gW (List Tok))(f:List Tok->Except gW (α×List Tok))(x:α):Prop:= ∀ts y r,st= .ok ts->f ts= .ok (y,r)->x=y
section
variable {l : List Tok} (hl : l.length < 1099511627776) (htok :∀t ∈ l, iT t) (hnum :∀t ∈ l, Bu t)
variable {st : Except gW (List Tok)} {a b p : Int} (N : List aE) (S_ : List (Int × Int)) (I : zn) (Q : List aE) (C : List aS)
theorem St.at{st:Except gW (List Tok)}{a b p:Int}(h:St l st a b p):∃t,idx l a=some t:=by
 cases st with
 |ok d=>
  obtain ⟨k,rfl,hd,c,_⟩:=h;obtain ⟨t,r,rfl⟩:=c.ne;exact ⟨t,(rn hd).1⟩
 |error e=>exact h.1
theorem St.ok{c:List Tok}(h:St l (.ok c) a b p):∃(k:Nat) (t:Tok) (r:List Tok),a=(k:Int)/\c=t::r/\l.drop k=t::r/\Pa.Ends (t::r)/\b=0/\p=0/\idx l a=some t/\t∈l/\l.drop (k+1)=r/\k<l.length:=by obtain ⟨k,rfl,hd,d,hb,hp⟩:=h;obtain ⟨t,r,rfl⟩:=d.ne;obtain ⟨i,g,f,e⟩:=rn hd;grind
theorem Pw(c q x:Int):aJ c q l x N S_ I Q C 0 0=some (c,q):=rfl
theorem DG{b:Int}(hb:(b==0)=false)(c q x p:Int):aJ c q l x N S_ I Q C b p=some (b,p):=by grind [aJ]
theorem HB(h:St l st a b p)(k:Int)(x:aE):bU k x l a N S_ I Q C b p=some (CO k x st):=by
 cases st with
 |ok d=>
  obtain ⟨f,t,r,rfl,rfl,hd,c,rfl,rfl,hx,_⟩:=h.ok;unfold bU;simp [aV,qe,dy,hx,ah,CO,tl,x9];cases (t.1==k)
  .rfl
  .simp [dy,ah]
 |error e=>
  obtain ⟨_,c,rfl,rfl⟩:=h;unfold bU;simp [aV,c,l6,s6,CO]
theorem ace(h:St l st a b p):∃q,br l a N S_ I Q C b p=some q/\∀c,st= .ok c->q=Ra c:=by
 obtain ⟨t,ht⟩:=h.at
 refine ⟨t.2.2.2,by grind [br],λc d=>?_⟩;subst d;obtain ⟨e,t',r,rfl,rfl,hd,f,rfl,rfl,hx,_⟩:=h.ok;rw [hx] at ht;cases ht;rfl
include hl in
theorem Cg(h:St l st a b p)(x:aE):∃a' b' p',bM x l a N S_ I Q C b p=some (a',b',p')/\St l (bP st (bY x)) a' b' p':=by
 have hi:=HB N S_ I Q C h 3 x;unfold bM;rw [hi,ah];cases st with
 |ok g=>
  obtain ⟨k,t,r,rfl,rfl,hd,c,rfl,rfl,hx,hm,d,hk⟩:=h.ok;simp [CO,tl,bP,bY];cases f:x9 3 x t
  .simp [br,hx,ah];exact ⟨_,_,_,rfl,⟨t,hx⟩,rfl,rfl,rfl⟩
  .simp only [cz (show k<4611686018427387904 by omega)];exact ⟨_,_,_,rfl,k+1,rfl,d,c.tail (Yi f (by decide)),rfl,rfl⟩
 |error e=>
  obtain ⟨⟨t,hx⟩,c,rfl,rfl⟩:=h;simp [br,hx,DG N S_ I Q C c];exact ⟨_,_,_,rfl,⟨t,hx⟩,c,rfl,rfl⟩
include hl in
theorem abc(h:St l st a b p)(hN:N.length<1099511627776)(hQ:Q.length<1099511627776)(full:Bool):∃s a' b' p',gq full l a N S_ I Q C b p=some (s,a',b',p')/\St l (bz st (fB full N Q)) a' b' p'/\Rh st (fB full N Q) s:=by
 obtain ⟨t,ht⟩:=h.at
 have G:=OM (names:=N) (by omega) t.2.1;have F:=OM (names:=Q) (by omega) t.2.1;unfold gq;simp only [ht,ah,abB,aV];cases st with
 |ok m=>
  obtain ⟨k,t',r,rfl,rfl,hd,i,rfl,rfl,hx,hm,B,hk⟩:=h.ok;rw [hx] at ht;cases ht;simp only [bz,bP];have d:fB full N Q (t::r)=(bif t.1 != 1 then .error (2,t.2.2.2) else bif key t.2.1||N.contains t.2.1||Q.contains t.2.1 then .error (3,t.2.2.2) else bif full then .error (9,t.2.2.2) else .ok (t.2.1,r)):=rfl;cases v:(t.1 != 1)
  case true=>
   rw [v] at d;simp only [cp] at d;simp only [cp,Pw,ah,d,rest];exact ⟨_,_,_,_,rfl,⟨⟨t,hx⟩,rfl,rfl,rfl⟩,λm y w j f=>by cases j;rw [d] at f;cases f⟩
  rw [v] at d;simp only [ca] at d ⊢;have J:(key t.2.1||N.contains t.2.1||Q.contains t.2.1)=(wW.contains t.2.1||decide (0<=eR N t.2.1)||decide (0<=eR Q t.2.1)):=by rw [Jz,Jz];rfl
  rw [J] at d;have fin:∀c:Bool,(wW.contains t.2.1||decide (0<=eR N t.2.1)||decide (0<=eR Q t.2.1))=c->
    ∃s a' b' p',(bif c then ((aJ 3 t.2.2.2 l (k:Int) N S_ I Q C 0 0).bind λo=>some (t.2.1,(k:Int),o.1,o.2)) else (bif full then ((aJ 9 t.2.2.2 l (k:Int) N S_ I Q C 0 0).bind λn=>some (t.2.1,(k:Int),n.1,n.2)) else (bif ((0:Int)==0) then some (t.2.1,(IntKind.i64.wrap ((k:Int)+1)),0,0) else some (t.2.1,(k:Int),0,0))))=some (s,a',b',p')/\
     St l (rest (fB full N Q (t::r))) a' b' p'/\Rh (.ok (t::r)) (fB full N Q) s:=by
   intro c D;rw [D] at d;cases c
   .cases full
    .simp only [ca] at d;refine ⟨_,_,_,_,rfl,?_,λm y w j f=>by cases j;rw [d] at f;cases f;rfl⟩;rw [d,cz (show k<4611686018427387904 by omega)];have:t.1=1:=by simpa using v
     exact ⟨k+1,rfl,B,i.tail (by omega),rfl,rfl⟩
    .simp only [ca,cp] at d;exact ⟨_,_,_,_,rfl,by rw [d];exact ⟨⟨t,hx⟩,rfl,rfl,rfl⟩,λm y w j f=>by cases j;rw [d] at f;cases f⟩
   .simp only [cp] at d;exact ⟨_,_,_,_,rfl,by rw [d];exact ⟨⟨t,hx⟩,rfl,rfl,rfl⟩,λm y w j f=>by cases j;rw [d] at f;cases f⟩
  have:=fin _ rfl;cases u:wW.contains t.2.1
  .simp only [ko,dy,G,ah,mm,u] at this ⊢;cases q:decide (0<=eR N t.2.1)
   .simp only [F,q] at this ⊢;exact this
   .simp [q] at this ⊢;exact this
  .simp only [wi,u] at this ⊢;exact this
 |error e=>
  obtain ⟨_,i,rfl,rfl⟩:=h;simp only [bz,bP];have V:∀s,Rh (.error e) (fB full N Q) s:=λs m y r h=>by cases h
  have hS:St l (.error e) a e.1 e.2:=⟨⟨t,ht⟩,i,rfl,rfl⟩;have A:∀g:Bool,∃z,∀k:Int->Option (aE×Int×Int×Int),bF g default (cM N t.2.1) k=k z:=λg=>by
   cases g
   .exact ⟨default,λk=>rfl⟩
   .exact ⟨eR N t.2.1,λk=>by rw [dy,G];rfl⟩
  have x:∀g:Bool,∃z,∀k:Int->Option (aE×Int×Int×Int),bF g default (cM Q t.2.1) k=k z:=λg=>by
   cases g
   .exact ⟨default,λk=>rfl⟩
   .exact ⟨eR Q t.2.1,λk=>by rw [dy,F];rfl⟩
  cases v:(t.1 != 1)
  case true=>
   simp [DG N S_ I Q C i,ah];grind
  obtain ⟨E,L⟩:=A (!(wW.contains t.2.1));rw [L];obtain ⟨H,K⟩:=x (!(wW.contains t.2.1||decide (0<=E)));rw [K];cases (wW.contains t.2.1||decide (0<=E)||decide (0<=H))
  .cases full
   .simp [i];grind
   .simp [DG N S_ I Q C i,ah];grind
  .simp [DG N S_ I Q C i,ah];grind
include hl in
theorem Uj(c:Bool)(h:St l st a b p):∃n a' b' p',jV l N S_ I Q C b p c a=some (n,a',b',p')/\St l (bz st (rQ c)) a' b' p'/\Rh st (rQ c) n:=by
 obtain ⟨t,ht⟩:=h.at
 unfold jV;rw [ht,ah];cases st with
 |ok f=>
  obtain ⟨k,t',r,rfl,rfl,hd,g,rfl,rfl,hx,hm,d,hk⟩:=h.ok;rw [hx] at ht;cases ht;simp [bz,bP,rQ,Rh];cases s:(t.1 != 2)
  .simp [jT,cz (show k<4611686018427387904 by omega)];have q  :=by simpa using s
   have j  :=g.tail (by omega);cases c
   .exact ⟨_,_,_,_,rfl,⟨k+1,rfl,d,j,rfl,rfl⟩,λf y i o m=>by grind⟩
   .exact ⟨_,_,_,_,rfl,⟨k+1,rfl,d,j,rfl,rfl⟩,λf y i o m=>by grind⟩
  .exact ⟨_,_,_,_,rfl,⟨⟨t,hx⟩,rfl,rfl,rfl⟩,λf y i o m=>by grind⟩
 |error e=>
  obtain ⟨_,g,rfl,rfl⟩:=h;have hb:(e.1 != 0)=true:=by grind
  simp only [DG N S_ I Q C g,ah,jT,aV,hb];have hS:St l (.error e) a e.1 e.2:=⟨⟨t,ht⟩,g,rfl,rfl⟩;cases (t.1 != 2) <;> exact ⟨_,_,_,_,rfl,hS,λf y r h=>by cases h⟩
include hl in
theorem Xw(h:St l st a b p):∃n d c p',dP l a N S_ I Q C b p=some (n,d,c,p')/\St l (bz st fP) d c p'/\Rh st fP n:=by
 unfold dP;rw [HB N S_ I Q C h 3 [45],ah];cases st with
 |ok m=>
  simp [CO];cases v:tl 3 [45] m
  .obtain ⟨n,d,c,p',g,q,j⟩:=Uj hl N S_ I Q C false h;have e:fP m=rQ false m:=by grind [fP]
   exact ⟨n,d,c,p',g,by grind [bz,bP],λf y r i x=>j f y r i (by grind)⟩
  .obtain ⟨k,t,r,rfl,rfl,hd,u,rfl,rfl,hx,hm,o,hk⟩:=h.ok;have w  :=(om u (by decide) v).1;have hS:St l (.ok r) (IntKind.i64.wrap ((k)+1)) 0 0:=by rw [cz (by omega)];exact ⟨k+1,rfl,o,w,rfl,rfl⟩
   obtain ⟨n,d,c,p',g,q,j⟩:=Uj hl N S_ I Q C true hS;have e:fP (t::r)=rQ true r:=by grind [fP]
   exact ⟨n,d,c,p',g,by grind [bz,bP],λf y s i x=>j r y s rfl (by grind)⟩
 |error e=>
  obtain ⟨n,d,c,p',g,q,j⟩:=Uj hl N S_ I Q C false h;exact ⟨n,d,c,p',g,q,λf y r i=>by cases i⟩
include hl htok hnum in
theorem ab3(h:St l st a b p)(hN:N.length<1099511627776)(c:Int):∃x a' b' p',cC c l a N S_ I Q C b p=some (x,a',b',p')/\St l (bz st (ek c N)) a' b' p'/\Rh st (ek c N) x:=by
 unfold cC;cases st with
 |ok i=>
  obtain ⟨k,t,r0,rfl,rfl,hd,n,rfl,rfl,hx,hm,A,hk⟩:=h.ok;obtain ⟨r,g,j⟩:=afw (names:=N) (by omega) (by omega) htok (by rw [hd];exact n);rw [hd] at g;have d:=aji g
  match r,g,j,d with
  | .error (b,p),g,j,d=>
   have hb:=Hj g;have q:(b==0)=false:=by simpa using hb
   rw [j,ah];simp [hb,bz,bP,ek,d];exact ⟨_,_,_,_,rfl,⟨⟨t,hx⟩,q,rfl,rfl⟩,λi y m z s=>by grind [ek]⟩
  | .ok (x,ts'),g,⟨k',hk',j⟩,d=>
   have o:=g.size _ rfl;simp only [Jg] at o;have v:(t::r0).length<=l.length:=by rw [<-hd];simp
   have f:=(g.ends n _ rfl).1;rw [j,ah];simp [adz x (by omega),ah,bz,bP,ek,d,Rh];have hat:∃t',idx l (k')=some t':=by obtain ⟨t',m,w⟩:=f.ne;simp only at w;rw [w] at hk';exact ⟨t',(rn hk').1⟩
   cases D:((rt x).2.1 != 0)
   case true=>
    have u:((rt x).2.1==0)=false:=by simpa using D
    exact ⟨_,_,_,_,rfl,⟨hat,u,rfl,rfl⟩,λi y m z s=>by grind⟩
   cases z:((rt x).1 != c)
   case true=>
    exact ⟨_,_,_,_,rfl,⟨hat,rfl,rfl,rfl⟩,λi y m B s=>by grind⟩
   exact ⟨_,_,_,_,rfl,⟨k',rfl,hk',f,rfl,rfl⟩,λi y m B s=>by grind⟩
 |error e=>
  obtain ⟨ht,n,rfl,rfl⟩:=h;have hb:(e.1 != 0)=true:=by grind
  simp only [hb,bz];exact ⟨_,_,_,_,rfl,⟨ht,n,rfl,rfl⟩,λi y r h=>by cases h⟩
end
end Sy
namespace Sy
open Pa
theorem ajz(lo hi:Int):mL ([(lo,hi)]:yr)=some (mw lo hi):=by
 have e:mL ([(lo,hi)])=ao (oq [(lo,hi)]) ay 0:=rfl;rw [e];obtain ⟨m,hm⟩:∃m,ay=m+2:=⟨18446744073709551614,rfl⟩;rw [hm,show m+2=(m+1)+1 from rfl,au];have a:idx ([(lo,hi)]) 0=some (lo,hi):=rfl;simp [oq,a,ah,aV];unfold mw;cases decide (hi<lo)
 case true=>rfl
 simp [ko,dy,ah,mm];cases decide (lo< -1073741824)
 case true=>rfl
 simp [ko,dy,ah,mm];cases decide (1073741824<hi)
 case true=>rfl
 simp [ko,dy,ah,mm];cases decide (65535<IntKind.i64.wrap (hi-lo))
 .rfl
 .rfl
section
variable {l : List Tok} (hl : l.length < 1099511627776) (htok :∀t ∈ l, iT t) (hnum :∀t ∈ l, Bu t)
variable {st : Except gW (List Tok)} {a b p : Int} (N : List aE) (S_ : List (Int × Int)) (I : zn) (Q : List aE) (C : List aS)
variable (hN : N.length < 1099511627776) (hS : S_.length < 1099511627776) (hI : I.length < 1099511627776) (hQ : Q.length < 1099511627776) (hC : C.length < 1099511627776)
include hl hN hS hI hQ in
theorem apD(h:St l st a b p):∃a' F E G b' p',gL l a N S_ I Q C b p=some (a',F,E,G,b',p')/\St l (bz st (pX (N,S_,I,Q,C))) a' b' p'/\
  (∀f m r,st= .ok f->pX (N,S_,I,Q,C) f= .ok (m,r)->m=(F,E,G,Q,C)):=by
 obtain ⟨d,a1,b1,p1,n,R,Z⟩:=abc hl N S_ I Q C h hN hQ (decide (16<=(List.length N:Int)));obtain ⟨q,e0,v0⟩:=ace N S_ I Q C R;obtain ⟨lo,a2,b2,p2,e2,s2,Y⟩:=Xw hl N S_ I Q C R;obtain ⟨hi,a3,b3,p3,e3,s3,X⟩:=Xw hl N S_ I Q C s2;obtain ⟨g,a4,b4,p4,e4,s4,W⟩:=Xw hl N S_ I Q C s3;obtain ⟨P,U,S,e5,o⟩:=Cg hl N S_ I Q C s4 [59];have k1:aH (List.length N+List.length ([d]:List aE)) 16=true:=cO (by simp;omega) (by simp;omega);have k2:aH (List.length S_+List.length ([(lo,hi)]:yr)) 16=true:=cO (by simp;omega) (by simp;omega);have k3:aH (List.length I+List.length ([g]:zn)) 8=true:=cO (by simp;omega) (by simp;omega);have hK:∀v u,jd N S_ I (d,a1,b1,p1) (lo,a2,b2,p2) (hi,a3,b3,p3) (g,a4,b4,p4) (P,U,S) v u=some (P,N++[d],S_++[(lo,hi)],I++[g],v,u):=λv u=>by unfold jd;rw [aN k1,aN k2,aN k3]
 unfold gL;simp only [n,ah,e0,e2,e3,e4,e5,ajz,aV,hK]
 -- where it is wrong
 have O:∀e:gW,bP (bz (bz (bz (bz st (fB (decide (16<=(List.length N:Int))) N Q)) fP) fP) fP) (bY [59])= .error e->
   (bz st (pX (N,S_,I,Q,C)))= .error e:=by
  intro e c;cases st with
  |error e'=>simp only [bz,bP] at c ⊢; exact c
  |ok f=>
   simp only [bz,bP,pX] at c ⊢;cases k:fB (decide (16<=(List.length N:Int))) N Q f with
   |error n=>rw [k] at c;simp only [rest] at c ⊢; exact c
   |ok M=>
    rw [k] at c;simp only [rest] at c ⊢;cases j:fP M.2 with
    |error n=>rw [j] at c;simp only [] at c ⊢; exact c
    |ok L=>
     rw [j] at c;simp only [] at c ⊢;cases z:fP L.2 with
     |error n=>rw [z] at c;simp only [] at c ⊢; exact c
     |ok K=>
      rw [z] at c;simp only [] at c ⊢;cases H:fP K.2 with
      |error n=>rw [H] at c;simp only [] at c ⊢; exact c
      |ok q4=>
       rw [H] at c;simp only [] at c ⊢;rw [c]
 cases kL:bP (bz (bz (bz (bz st (fB (decide (16<=(List.length N:Int))) N Q)) fP) fP) fP) (bY [59]) with
 |error e=>
  have hb:=O e kL;rw [kL] at o;have t:=DG (l:=l) N S_ I Q C (b:=U) (by rw [o.2.2.1];exact o.2.1) 5 q P S;rw [hb];have V:∀F E G,∀f m r,st= .ok f->pX (N,S_,I,Q,C) f= .ok (m,r)->m=(F,E,G,Q,C):=λF E G f m r k j=>by subst k;simp only [bz,bP,j,rest] at hb;cases hb
  cases (!(mw lo hi)||decide (g<lo)||decide (hi<g))
  .simp only [ca];exact ⟨_,_,_,_,_,_,rfl,o,V _ _ _⟩
  .simp only [cp,t,ah];exact ⟨_,_,_,_,_,_,rfl,o,V _ _ _⟩
 |ok w=>
  rw [kL] at o;cases st with
  |error e'=>simp only [bz,bP] at kL;cases kL
  |ok f=>
   simp only [bz,bP] at kL;cases k:fB (decide (16<=(List.length N:Int))) N Q f with
   |error n=>rw [k] at kL;cases kL
   |ok M=>
    obtain ⟨s,i⟩:=M;rw [k] at kL;simp only [rest] at kL;have en:d=s:=Z _ _ _ rfl k;have t1:bz (.ok f) (fB (decide (16<=(List.length N:Int))) N Q)= .ok i:=by simp only [bz,bP,k,rest]
    have eq:q=Ra i:=v0 _ t1;cases j:fP i with
    |error n=>rw [j] at kL;cases kL
    |ok L=>
     obtain ⟨lo',y⟩:=L;rw [j] at kL;simp only at kL;have e2'  :=Y _ _ _ t1 j;have t2:bz (bz (.ok f) (fB (decide (16<=(List.length N:Int))) N Q)) fP= .ok y:=by rw [t1];simp [bz,bP,j,rest]
     cases z:fP y with
     |error n=>rw [z] at kL;cases kL
     |ok K=>
      obtain ⟨hi',x⟩:=K;have e3'  :=X _ _ _ t2 z;have t3:bz (bz (bz (.ok f) (fB (decide (16<=(List.length N:Int))) N Q)) fP) fP= .ok x:=by grind [bz,bP,rest]
      cases H:fP x with
      |error n=>grind
      |ok q4=>
       have e4'  :=W _ _ _ t3 H;have hv:pX (N,S_,I,Q,C) f=(bif !(mw lo hi)||decide (g<lo)||decide (hi<g) then .error (5,Ra i) else .ok ((N++[d],S_++[(lo,hi)],I++[g],Q,C),w)):=by grind [pX]
       simp [bz,bP,hv];obtain ⟨T,D,B,A,rfl,rfl⟩:=o;cases hq:(!(mw lo hi)||decide (g<lo)||decide (hi<g))
       .exact ⟨_,_,_,_,_,_,rfl,⟨T,D,B,A,rfl,rfl⟩,λJ m r h5 h6=>by grind⟩
       .refine ⟨_,_,_,_,_,_,rfl,?_,λJ m r h5 h6=>by grind⟩;have hat:=St.at (st:= .ok w) ⟨T,D,B,A,rfl,rfl⟩;exact ⟨hat,rfl,rfl,eq⟩
end
end Sy
namespace Sy
open Pa
section
variable {l : List Tok} (hl : l.length < 1099511627776) (htok :∀t ∈ l, iT t) (hnum :∀t ∈ l, Bu t)
variable {st : Except gW (List Tok)} {a b p : Int} (N : List aE) (S_ : List (Int × Int)) (I : zn) (Q : List aE) (C : List aS)
variable (hN : N.length < 1099511627776) (hQ : Q.length < 1099511627776) (hC : C.length < 1099511627776)
theorem P0(acc:List (Int×Ex))(f:acc.length<4611686018427387904)(again)(e:Tok)(i:Int)(a b p:Int):∀(r pre:List (Int×Ex)),acc=pre++r->∀(M:Nat) (c:Bool),r.length<M->
  ao (cD l N S_ I Q C a b p acc again e i) M (c,(pre.length:Int))=cD l N S_ I Q C a b p acc again e i (λ_=>none) (c||BM r i,(acc.length:Int))
 |[],pre,h,M,c,hM=>by
  obtain ⟨m,rfl⟩:∃m,M=m+1:=⟨M-1,by omega⟩;simp_all [au,cD,BM,List.any_nil]
 |x::r,pre,h,M,c,hM=>by
  obtain ⟨m,rfl⟩:∃m,M=m+1:=⟨M-1,by omega⟩;rw [au];have d:pre.length<4611686018427387904:=by grind
  have ih:=λc=>P0 acc f again e i a b p r (pre++[x]) (by rw [h];simp) m c (by simp at hM;omega);rw [show ((pre++[x]).length)=((pre.length+1:Nat)) by simp] at ih;have j:∀k:(Int×Ex)->Option (Int×List aS×Int×Int),bF (!c) (0,Ex.mk 0 0 0 []) (some x) k=k (bif c then (0,Ex.mk 0 0 0 []) else x):=λk=>by cases c <;> rfl
  refine Eq.trans (b:=bif decide ((pre.length:Int)<(List.length acc)) then (bF (!c) (0,(Ex.mk 0 0 0 [])) (idx acc (pre.length)) λg=>ao (cD l N S_ I Q C a b p acc again e i) m (c||(g.1==i),IntKind.i64.wrap ((pre.length)+1))) else none) ?_ ?_
  .simp only [cD,pC h,cp,aV]
  .rw [pC h,cp,js h,j,cz d,ih];grind [BM]
include hl hC in
theorem Uk(f:Ex×Int×Int×Int)(acc:List (Int×Ex))(c:Bool)(M:Nat)(h:St l st a b p)(hm:(c&&(b==0))=false):
  ∃e d p',ao (cY l N S_ I Q C f) (M+1) (a,b,p,acc,c)=some (e,C++[(IntKind.i64.wrap ((Q.length:Int)-1),f.1,acc)],d,p')/\St l (bP st (bY [59])) e d p':=by
 obtain ⟨e,d,p',g,i⟩:=Cg hl N S_ I Q C h [59];rw [au];simp only [cY,aV,g,ah];have k1:∀x:aS,aH (List.length C+List.length ([x])) 80=true:=λx=>cO (by simp;omega) (by simp;omega);rw [aN (k1 _)];grind
include hl htok hnum hN in
theorem ap6(acc:List (Int×Ex))(g:acc.length<1099511627776)(again)(i:Int)(h:St l st a b p):
  ∃x a' b' p',fL l N S_ I Q C acc again i b p a=again (a',b',p',acc++[(i,x)],CO 3 [44] (bz (bP st (bY [61])) (ek 1 N)))/\
   St l (match bz (bP st (bY [61])) (ek 1 N) with|.ok c=>(bif tl 3 [44] c then .ok c.tail else .ok c)|.error e=> .error e) a' b' p'/\Rh (bP st (bY [61])) (ek 1 N) x:=by
 obtain ⟨y,v,p1,s,m⟩:=Cg hl N S_ I Q C h [61];obtain ⟨x,w,u,p2,q,d,j⟩:=ab3 hl htok hnum N S_ I Q C m hN 1;have e3:=HB N S_ I Q C d 3 [44];have k1:aH (List.length acc+List.length ([(i,x)])) 56=true:=cO (by simp;omega) (by simp;omega);unfold fL;simp only [s,ah,q,aN k1,e3];cases kL:bz (bP st (bY [61])) (ek 1 N) with
 |error e=>
  simp [CO];grind
 |ok c=>
  rw [kL] at d;simp [CO];cases o:tl 3 [44] c
  .grind
  .obtain ⟨k,t,r,rfl,rfl,hd,n,rfl,rfl,hx,hm,f,hk⟩:=d.ok;refine ⟨x,_,_,_,rfl,?_,j⟩;rw [cz (by omega)];exact ⟨k+1,rfl,f,(om n (by decide) o).1,rfl,rfl⟩
include hl htok hnum hN hC in
theorem am2(A:Ex×Int×Int×Int):∀(n:Nat) (w:List Tok) (acc:List (Int×Ex)) (a:Int) (M f:Nat),w.length<=n->n+2<=M->w.length<f->acc.length+w.length<1099511627776->St l (.ok w) a 0 0->
  ∃a' C' b' p',ao (cY l N S_ I Q C A) M (a,0,0,acc,true)=some (a',C',b',p')/\St l (bP (rest (fD N f acc w)) (bY [59])) a' b' p'/\
   (∀sets r,fD N f acc w= .ok (sets,r)->C'=C++[(IntKind.i64.wrap ((Q.length:Int)-1),A.1,sets)]):=by
 intro n
 induction n with
 |zero=>
  intro w acc a M f V _ _ _ O;obtain ⟨k,t,r,_,rfl,_⟩:=O.ok;simp at V
 |succ n ih=>
  intro w acc a M f V h2 h3 h4 O;obtain ⟨M,rfl⟩:∃m,M=m+1:=⟨M-1,by omega⟩;obtain ⟨f,rfl⟩:∃m,f=m+1:=⟨f-1,by omega⟩;obtain ⟨k,t,r,rfl,rfl,hd,he,_,_,hx,hm,R,hk⟩:=O.ok;rw [au];generalize U:ao (cY l N S_ I Q C A) M=i;simp only [cY,aV,qe,si,cp,hx,ah,OM (show N.length<4611686018427387904 by omega)];have D:=P0 (l:=l) N S_ I Q C acc (by omega) i t (eR N t.2.1) (k:Int) 0 0 acc [] rfl ay false (by show acc.length<2^64;omega);rw [show (([]:List (Int×Ex)).length:Int)=0 from rfl,mm] at D;rw [D];simp only [cD,c9 (show ¬((acc.length:Int)<(List.length acc:Int)) by omega),ca,aV,Pw,ah]
  -- the state behind the name
  have step:∀(st1:Except gW (List Tok)) (c b p:Int),St l st1 c b p->(st1= .ok r\/∃e,st1= .error e)->
    fD N (f+1) acc (t::r)=(match st1 with
     | .error e=> .error e
     | .ok r0=>match bY [61] r0 with
      | .error e=> .error e
      | .ok r1=>match ek 1 N r1 with
       | .error e=> .error e
       | .ok (x,r2)=>bif tl 3 [44] r2 then fD N f (acc++[(eR N t.2.1,x)]) r2.tail else .ok (acc++[(eR N t.2.1,x)],r2))->
    ∃a' C' b' p',fL l N S_ I Q C acc i (eR N t.2.1) b p c=some (a',C',b',p')/\St l (bP (rest (fD N (f+1) acc (t::r))) (bY [59])) a' b' p'/\
     (∀sets K,fD N (f+1) acc (t::r)= .ok (sets,K)->C'=C++[(IntKind.i64.wrap ((Q.length:Int)-1),A.1,sets)]):=by
   intro st1 c b p j po g;obtain ⟨x,a1,b1,p1,e1,o,Z⟩:=ap6 hl htok hnum N S_ I Q C hN acc (by omega) i (eR N t.2.1) j;rw [e1,<-U];have hM1:1<=M:=by omega
   obtain ⟨M',rfl⟩:∃m,M=m+1:=⟨M-1,by omega⟩;cases d:bz (bP st1 (bY [61])) (ek 1 N) with
   |error e=>
    rw [d] at o;simp only [CO] at o ⊢;obtain ⟨X,W,p2,H,B⟩:=Uk hl N S_ I Q C hC A (acc++[(eR N t.2.1,x)]) false M' o rfl;have E:fD N (f+1) acc (t::r)= .error e:=by
     rw [g];cases st1 with
     |error e'=>simp only [bz,bP] at d ⊢; cases d;rfl
     |ok r0=>
      simp only [bz,bP] at d ⊢;cases u:bY [61] r0 with
      |error e'=>rw [u] at d;simp only at d ⊢; cases d;rfl
      |ok r1=>
       rw [u] at d;simp only at d ⊢;cases s:ek 1 N r1 with
       |error e'=>rw [s] at d;simp only [rest] at d ⊢; cases d;rfl
       |ok q=>rw [s] at d;simp only [rest] at d;cases d
    rw [E];exact ⟨_,_,_,_,H,B,λsets K h=>by cases h⟩
   |ok r2=>
    rw [d] at o;simp only [CO] at o ⊢;obtain ⟨r0,r1,J,v,z,y⟩:∃r0 r1 J,st1= .ok r0/\bY [61] r0= .ok r1/\ek 1 N r1= .ok (J,r2):=by
     cases st1 with
     |error e'=>simp only [bz,bP] at d;cases d
     |ok r0=>
      simp only [bz,bP] at d;cases u:bY [61] r0 with
      |error e'=>rw [u] at d;cases d
      |ok r1=>
       rw [u] at d;simp only at d;cases s:ek 1 N r1 with
       |error e'=>rw [s] at d;cases d
       |ok q=>rw [s] at d;simp only [rest] at d;cases d;exact ⟨r0,r1,q.1,rfl,u,s⟩
    have L:x=J:=Z r1 J r2 (by rw [v];simp only [bP,z]) y;subst L;rw [v] at g;simp only [z,y] at g;have F:r0=r:=by rcases po with h|⟨e,h⟩ <;> rw [v] at h <;> cases h;rfl
    subst F;have P:Pa.Ends r0:=by
     rw [v] at j;exact (j.ok).choose_spec.choose_spec.choose_spec.2.2.2.1 |> λh=>by have:=(j.ok).choose_spec.choose_spec.choose_spec.2.1;rw [this];exact h
    have u:=lU P z;have s:=(sZ u.1 y).1;have q2':r2.length<r1.length:=s.2;have q1':r1.length<r0.length:=u.2;cases S:tl 3 [44] r2
    .rw [S] at o g;simp only [ca] at o g;obtain ⟨X,W,p2,H,B⟩:=Uk hl N S_ I Q C hC A (acc++[(eR N t.2.1,x)]) false M' o rfl;rw [g];exact ⟨_,_,_,_,H,B,λsets K h=>by cases h;rfl⟩
    .rw [S] at o g;simp only [cp] at o g;obtain ⟨t1,t2⟩:=om s.1 (by decide) S;have t2':r2.tail.length+1=r2.length:=t2;have G:(acc++[(eR N t.2.1,x)]).length=acc.length+1:=by simp
     simp only [ei] at V h3 h4;have T:b1=0/\p1=0:=by obtain ⟨_,_,_,_,h5,h6⟩:=o;exact ⟨h5,h6⟩
     obtain ⟨rfl,rfl⟩:=T;obtain ⟨X,C2,W,p2,H,B,Y⟩:=ih r2.tail (acc++[(eR N t.2.1,x)]) a1 (M'+1) f (by omega) (by omega) (by omega) (by rw [G];omega) o;rw [g];exact ⟨_,_,_,_,H,B,Y⟩
  cases c1:(t.1 != 1)
  case true=>
   simp only [cp,jw,show ((2:Int)==0)=false from rfl,ca];refine step (.error (2,t.2.2.2)) (k) 2 t.2.2.2 ⟨⟨t,hx⟩,rfl,rfl,rfl⟩ (.inr ⟨_,rfl⟩) ?_;simp [fD,c1,cp]
  cases c2:(decide (eR N t.2.1<0)||BM acc (eR N t.2.1))
  case true=>
   refine step (.error (3,t.2.2.2)) (k) 3 t.2.2.2 ⟨⟨t,hx⟩,rfl,rfl,rfl⟩ (.inr ⟨_,rfl⟩) ?_;simp [fD,c1,ca,c2,cp]
  simp [jw,cz (show k<4611686018427387904 by omega)];have ht1  :=by simpa using c1
  refine step (.ok r) ((k+1:Nat)) 0 0 ⟨k+1,rfl,R,he.tail (by omega),rfl,rfl⟩ (.inl rfl) ?_;simp [fD,ca];grind
include hl htok hnum hN hC in
theorem af8(h:St l st a b p):∃a' C' b' p',fK l a N S_ I Q C b p=some (a',C',b',p')/\
  St l (bP (bP (bz st (ek 2 N)) (bY [58])) (λr2=>bP (rest (fD N (r2.length+1) [] r2)) (bY [59]))) a' b' p'/\
  (∀d g r1 r2 sets i,st= .ok d->ek 2 N d= .ok (g,r1)->bY [58] r1= .ok r2->fD N (r2.length+1) [] r2= .ok (sets,i)->C'=C++[(IntKind.i64.wrap ((Q.length:Int)-1),g,sets)]):=by
 obtain ⟨x,o,n,p1,z,r,q⟩:=ab3 hl htok hnum N S_ I Q C h hN 2;obtain ⟨H,B,p2,y,c⟩:=Cg hl N S_ I Q C r [58];unfold fK;simp [z,ah,y];cases m:bP (bz st (ek 2 N)) (bY [58]) with
 |error e=>
  rw [m] at c;have hb:(false)=(B==0):=by rw [c.2.2.1];exact c.2.1.symm
  obtain ⟨D,A,t,e3,f⟩:=Uk hl N S_ I Q C hC (x,o,n,p1) [] true 18446744073709551615 c (by rw [<-hb];rfl);rw [show ay=18446744073709551615+1 from rfl,e3];grind [bz,bP,rest]
 |ok r2=>
  rw [m] at c;obtain ⟨k,rfl,hd,u,rfl,rfl⟩:=c;have j:r2.length<=l.length:=by rw [<-hd];simp
  obtain ⟨D,J,A,t,e3,f,E⟩:=am2 hl htok hnum N S_ I Q C hN hC (x,o,n,p1) r2.length r2 [] (k) ay (r2.length+1) (c8 _) (by show _<=2^64;omega) (by omega) (by simp;omega) ⟨k,rfl,hd,u,rfl,rfl⟩;refine ⟨_,_,_,_,e3,f,λd g r1 s sets i w v G F=>?_⟩;subst w;have hx  :=q d g r1 rfl v;grind [bz,bP,rest]
include hl htok hnum hN hC in
theorem aox(h:St l st a b p):∃g i f p',gY l a N S_ I Q C b p=some (g,i,f,p')/\St l (bz st (mY (N,S_,I,Q,C))) g f p'/\
  (∀c m r,st= .ok c->mY (N,S_,I,Q,C) c= .ok (m,r)->m=(N,S_,I,Q,i)):=by
 unfold gY;have key:∀(st1:Except gW (List Tok)) (o p1:Int),St l st1 a o p1->((∃e,st1= .error e/\bz st (mY (N,S_,I,Q,C))= .error e)\/(st1=st/\decide (256<=(C.length:Int))=false))->
   ∃g i f p',fK l a N S_ I Q C o p1=some (g,i,f,p')/\St l (bz st (mY (N,S_,I,Q,C))) g f p'/\
    (∀c m r,st= .ok c->mY (N,S_,I,Q,C) c= .ok (m,r)->m=(N,S_,I,Q,i)):=by
  intro st1 o p1 v j;obtain ⟨g,i,f,p',y,s,A⟩:=af8 hl htok hnum N S_ I Q C hN hC v;refine ⟨g,i,f,p',y,?_,?_⟩
  .rcases j with ⟨e,rfl,n⟩|⟨rfl,hd⟩
   .rw [n];exact s
   .have:bz st1 (mY (N,S_,I,Q,C))=bP (bP (bz st1 (ek 2 N)) (bY [58])) (λr2=>bP (rest (fD N (r2.length+1) [] r2)) (bY [59])):=by
     cases st1 with
     |error e=>rfl
     |ok c=>
      simp [bz,bP,mY,hd];cases ek 2 N c with
      |error e=>rfl
      |ok q=>
       simp [rest];cases bY [58] q.2 with
       |error e=>rfl
       |ok r2=>
        simp only;cases fD N (r2.length+1) [] r2 with
        |error e=>rfl
        |ok u=>
         simp only;cases bY [59] u.2 <;> rfl
    rw [this];exact s
  .intro c m r D x;rcases j with ⟨e,rfl,n⟩|⟨rfl,hd⟩
   .grind [bz,bP,rest]
   .simp [mY,hd] at x;grind
 cases hd:decide (256<=(List.length C:Int))
 .simp [aV];grind
 .simp only [aV];obtain ⟨q,z,B⟩:=ace N S_ I Q C h;rw [z,ah];cases st with
  |ok c=>
   obtain ⟨k,t,r,rfl,rfl,w,n,rfl,rfl,hx,_⟩:=h.ok;refine key (.error (9,q)) 9 q ⟨⟨t,hx⟩,rfl,rfl,rfl⟩ (.inl ⟨_,rfl,?_⟩);simp_all [bz,bP,mY,rest]
  |error e=>
   have n:=h.2.1;have d:=h;obtain ⟨_,_,rfl,rfl⟩:=d;rw [DG N S_ I Q C n,ah];exact key (.error e) e.1 e.2 h (.inl ⟨e,rfl,rfl⟩)
end
end Sy
variable {α ρ : Type}
namespace Lx
theorem dY(xs:List α)(k:Nat):idx xs (k:Int)=xs[k]? :=by simp [idx]
theorem dZ{α:Type}{xs:List α}{k:Nat}(h:k<xs.length):idx xs (k:Int)=some xs[k]:=by rw [dY,b9 h]
theorem au{σ:Type}(F:(σ->Option ρ)->σ->Option ρ)(n:Nat)(s:σ):ao F (n+1) s=F (ao F n) s:=rfl
theorem n3(k:Option ρ):aM true k=k:=rfl
theorem HD(c:Bool)(k:Option ρ):IJ false c k=k:=rfl
theorem E4(k:Option ρ)(g:Bool):IJ g true k=k:=by cases g <;> rfl
theorem rm(d:α)(m:Option α)(k:α->Option ρ):bF true d m k=m.bind k:=rfl
theorem Ld(d:α)(m:Option α)(k:α->Option ρ):bF false d m k=k d:=rfl
theorem jY(x:α)(k:α->Option ρ):(some x).bind k=k x:=rfl
theorem lN(x:α)(k:α->Option ρ):ai x k=k x:=rfl
theorem s9{i:Int}{n:Nat}(b:0<=i)(a:i<n):oR i n=true:=nj.2 ⟨b,a⟩
theorem EB{i j:Int}{n:Nat}(c:0<=i)(b:i<=j)(a:j<=n):cR i j n=true:=vu.2 ⟨⟨c,b⟩,a⟩
theorem BO{k b:Nat}(h:k*b<=140737488355328)(a:k<=9223372036854775807):aH k b=true:=by simp_all [aH,an]
theorem Ix(l:aE)(k:Nat)(h:k<l.length):mn l (k:Int)=(l[k].toNat:Int):=by simp [mn,h]
theorem amt(l:aE)(i j:Nat):cut l (i:Int) (j:Int)=(l.drop i).take (j-i):=rfl
theorem uZ{p:Prop}[Decidable p](h:p):decide p=true:=cy h
theorem Bq{p:Prop}[Decidable p](h:¬p):decide p=false:=c9 h
theorem yd:ay=18446744073709551616:=rfl
abbrev Tok:=Int×aE×Int×Int
def ji(c:UInt8):Bool:=c==32||c==9||c==10||c==13
def gH(c:UInt8):Bool:=(decide (97<=c)&&decide (c<=122))||(decide (65<=c)&&decide (c<=90))||c==95
def isDigit(c:UInt8):Bool:=decide (48<=c)&&decide (c<=57)
def fk(c:UInt8):Bool:=gH c||isDigit c
def E6(c:UInt8):Bool:=c != 10
theorem EW(c d:UInt8):((c.toNat:Int)==(d.toNat:Int))=(c==d):=by grind [UInt8.toNat_inj]
theorem S1(c d:UInt8):decide ((c.toNat:Int)<=(d.toNat:Int))=decide (c<=d):=by simp_all [s7]
theorem sW{p:UInt8->Bool}:∀(l:aE) (k:Nat),(∀i (h:i<l.length),i<k->p l[i]=true)->k<=l.length->(∀h:k<l.length,p l[k]=false)->l.takeWhile p=l.take k
  |[],k,_,hk,_=>by simp
  |c::l,0,_,_,h2=>by
    simp_all
  |c::l,k+1,h1,hk,h2=>by
    have a:=h1 0 (by simp) (by omega);simp at a;rw [List.takeWhile_cons,du a,q5,sW l k (λi h b=>by
      grind) (by simpa using hk) (λh=>by
      grind)]
theorem run_gen{p:UInt8->Bool}{f:Int->zc}(j:∀c:UInt8,f (c.toNat:Int)=some (p c)){text:aE}(d:text.length<9223372036854775807)
    {F:(Int->Option aE)->Int->Option aE}
    (l:∀again t1,F again t1=bif (decide (t1<(List.length text:Int))) then (aM (oR t1 (List.length text))<|(f (mn text t1)).bind λg=>bif (!g) then (aM (cR 0 t1 (List.length text))<|some (cut text 0 t1)) else (again (IntKind.i64.wrap (t1+1)))) else (some text)):
    ao F ay 0=some (text.takeWhile p):=by
  have key:∀N k,k<=text.length->text.length-k<N->(∀i (h:i<text.length),i<k->p text[i]=true)->ao F N ((k:Nat):Int)=some (text.takeWhile p):=by
    intro N
    induction N with
    |zero=>intro k _ h;omega
    |succ N ih=>
      intro k hk hN hp;rw [au,l];by_cases b:k<text.length
      . rw [uZ (by omega),cp,s9 (by omega) (by omega),n3,Ix _ _ b,j,jY];cases a:p text[k]
        . simp only [ko,cp];rw [EB (by omega) (by omega) (by omega),n3,sW text k hp hk (λ_=>a)];simp [cut]
        . simp only [qc,ca];rw [bR (by omega)];exact ih (k+1) (by omega) (by omega) (λi h hi=>by
            rcases qE i k with e|e
            . exact hp i h e
            . have:i=k:=by omega
              subst this;exact a)
      . rw [Bq (by omega),ca,sW text k hp hk (λh=>absurd h b),gx (by omega)]
  exact key ay 0 (by omega) (by rw [yd];omega) (λi _ h=>by omega)
def yc(c:UInt8):Int:=(c.toNat:Int)-48
def gb(n:Int)(s:aE):Int:=s.foldl (λn c=>10*n+yc c) n
def sK(n:Int):Bool:=decide (1073741824<n)
theorem Qc{c:UInt8}(h:isDigit c=true):0<=yc c/\yc c<=9:=by simp [isDigit,s7] at h;unfold yc;grind
theorem Dr:∀(s:aE) (n:Int),0<=n->s.all isDigit=true->n<=gb n s
  |[],n,_,_=>qV _
  |c::s,n,hn,h=>by simp only [qp,an] at h;have hd:=Qc h.1;have:=Dr s (10*n+yc c) (by omega) h.2;grind [gb,yc]
def cW:List aE:=[[60,45,62],[45,62],[61,61],[33,61],[60,61],[62,61],[60],[62],[61],[43],[45],[42],[40],[41],[123],[125],[59],[44],[58],[38],[124],[33]]
def fC(s:aE):aE:=(cW.find? (λg=>g.isPrefixOf s)).getD []
inductive Step where
  |skip (k:Nat)
  |err (e:Int)
  |tok (k:Int) (t:aE) (n:Int)
def step:aE->Step
  |[]=> .skip 0
  |c::s=>
    if ji c then .skip 1
    else if c==35 then .skip ((c::s).takeWhile E6).length
    else if gH c then (if 32<((c::s).takeWhile fk).length then .err 9 else .tok 1 ((c::s).takeWhile fk) 0)
    else if isDigit c then (if sK (gb 0 ((c::s).takeWhile isDigit)) then .err 9 else .tok 2 ((c::s).takeWhile isDigit) (gb 0 ((c::s).takeWhile isDigit)))
    else if fC (c::s)==[] then .err 2 else .tok 3 (fC (c::s)) 0
def oL:Nat->Nat->aE->Except (Int×Int) (List Tok)
  |0,_,_=> .ok []
  |_+1,at_,[]=> .ok [(4,[],0,(at_:Int))]
  |f+1,at_,c::s=>
    match step (c::s) with
    | .skip k=>oL f (at_+k) ((c::s).drop k)
    | .err e=> .error (e,at_)
    | .tok k t n=>match oL f (at_+t.length) ((c::s).drop t.length) with
      | .ok l=> .ok ((k,t,n,(at_:Int))::l)
      | .error e=> .error e
def res:Except (Int×Int) (List Tok)->List Tok×Int×Int
  | .ok l=>(l,0,0)
  | .error e=>([],e.1,e.2)
def tokens(s:aE):List Tok×Int×Int:=if 65536<s.length then ([],9,0) else res (oL (s.length+1) 0 s)
theorem Jt(p:UInt8->Bool):∀s:aE,(s.takeWhile p).all p=true
  |[]=>rfl
  |c::s=>by
    rw [List.takeWhile_cons];split
    . simp_all
    . rfl
theorem uV(p:UInt8->Bool)(s:aE):(s.takeWhile p).length<=s.length:=(tj p).length_le
theorem nh{p:UInt8->Bool}{c:UInt8}{s:aE}(h:p c=true):1<=((c::s).takeWhile p).length:=by simp_all
theorem vB{c:UInt8}(h:gH c=true):fk c=true:=by simp [fk,h]
theorem Vu:∀g∈cW,1<=g.length:=by decide
theorem HU{s:aE}(h:(fC s==[])=false):fC s∈cW/\fC s <+: s/\cW.find? (λg=>g.isPrefixOf s)=some (fC s):=by
  unfold fC at*;cases a:cW.find? (λg=>g.isPrefixOf s) with
  |none=>rw [a] at h;simp at h
  |some g=>
    grind
theorem step_take{c:UInt8}{s:aE}(hb:ji c=false)(e:(c==35)=false){k:Int}{t:aE}{n:Int}(h:step (c::s)= .tok k t n):1<=t.length/\t <+: (c::s):=by
  simp only [step,hb,e,e9] at h;cases a:gH c
  . simp only [a,e9] at h;cases b:isDigit c
    . simp only [b,e9] at h;cases d:(fC (c::s)==[])
      . grind [HU,Vu]
      . simp [d] at h
    . simp [b,q9] at h;split at h
      . cases h
      . grind [nh,List.takeWhile_prefix]
  . simp [a,q9] at h;split at h
    . cases h
    . grind [nh,vB,List.takeWhile_prefix]
def Lh(out:List Tok):Except (Int×Int) (List Tok)->List Tok×Int×Int
  | .ok l=>(out++l,0,0)
  | .error e=>([],e.1,e.2)
theorem VQ{s:aE}{k:Nat}{c:UInt8}{r:aE}(h:s.drop k=c::r):∃hk:k<s.length,s[k]=c:=by grind [Nat.lt_or_ge,List.drop_of_length_le,List.drop_eq_getElem_cons,List.cons.inj]
theorem aoM{c:UInt8}{s:aE}{e:Int}(h:step (c::s)= .err e):e≠0:=by grind [step]
theorem LQ{σ:Type}{F:(σ->Option ρ)->σ->Option ρ}(p:UInt8->Bool)(s:aE)(st:Nat->σ)(r:Nat->Option ρ)
    (go:∀again k (h:k<s.length),p s[k]=true->(∀i (hi:i<s.length),i<k->p s[i]=true)->F again (st k)=again (st (k+1)))
    (a:∀again k (h:k<s.length),p s[k]=false->F again (st k)=r k)
    (last:∀again,F again (st s.length)=r s.length) (N:Nat) (hN:s.length<N):ao F N (st 0)=r (s.takeWhile p).length:=by
  have key:∀N k,k<=s.length->s.length-k<N->(∀i (h:i<s.length),i<k->p s[i]=true)->ao F N (st k)=r (s.takeWhile p).length:=by
    intro N
    induction N with
    |zero=>omega
    |succ N ih=>
      intro k hk hN hp;rw [au];by_cases c:k<s.length
      . cases b:p s[k]
        . rw [a _ k c b,sW s k hp hk (λ_=>b),dk,j0 hk]
        grind
      . have:k=s.length:=by omega
        subst this;rw [last,sW s s.length hp (c8 _) (λh=>absurd h c),dk,Nat.min_self]
  grind
def kindOf(c:UInt8):Int:=if ji c then 0 else if gH c then 1 else if isDigit c then 2 else 3
theorem aat(c:UInt8):ji c=(((c==9||c==10)||c==13)||c==32):=by grind [ji]
theorem Hn(c:UInt8):fT (c.toNat:Int)=some (kindOf c):=by unfold fT;simp [lN];have e:=EW c 32;have d:=EW c 9;have b:=EW c 10;have a:=EW c 13;have k1:=S1 97 c;have i:=S1 c 122;have h:=S1 65 c;have g:=S1 c 90;have f:=EW c 95;have d1:=S1 48 c;have d2:=S1 c 57;rw [show ((32:Int)=((32:UInt8).toNat)) from rfl,show ((9:Int)=((9:UInt8).toNat)) from rfl,show ((10:Int)=((10:UInt8).toNat)) from rfl,show ((13:Int)=((13:UInt8).toNat)) from rfl,e,d,b,a,<-aat];unfold kindOf;have k:((decide (97<=c)&&decide (c<=122))||(decide (65<=c)&&decide (c<=90))||c==95)=gH c:=rfl;have j:(decide (48<=c)&&decide (c<=57))=isDigit c:=rfl;grind
def dj(n:Int)(s:aE):Int:=s.foldl (λn c=>if n<=1073741824 then 10*n+yc c else n) n
theorem Zp:∀(s:aE) (n:Int),1073741824<n->dj n s=n
  |[],_,_=>rfl
  |c::s,n,h=>by show dj (if n<=1073741824 then 10*n+yc c else n) s=n;rw [de (by omega)];exact Zp s n h
theorem acS:∀(s:aE) (n:Int),0<=n->s.all isDigit=true->(sK (gb n s)=false->dj n s=gb n s)/\(sK (gb n s)=true->1073741824<dj n s)
  |[],n,_,_=>⟨λ_=>rfl,λh=>qM (show decide (1073741824<n)=true from h)⟩
  |c::s,n,hn,h=>by
    simp only [qp,an] at h;have hd:=Qc h.1;have ih:=acS s (10*n+yc c) (by omega) h.2;have b:gb n (c::s)=gb (10*n+yc c) s:=rfl;have a:dj n (c::s)=dj (if n<=1073741824 then 10*n+yc c else n) s:=rfl;by_cases hb:n<=1073741824
    . grind
    . grind [Dr,yc,sK,Zp]
theorem Kp:∀(s:aE) (n:Int),0<=n->n<=10737418249->s.all isDigit=true->0<=dj n s/\dj n s<=10737418249
  |[],n,h,h',_=>⟨h,h'⟩
  |c::s,n,h,h',hd=>by
    simp only [qp,an] at hd;have a:=Qc hd.1;show 0<=dj (if n<=1073741824 then 10*n+yc c else n) s/\dj (if n<=1073741824 then 10*n+yc c else n) s<=10737418249;split
    . exact Kp s _ (by omega) (by omega) hd.2
    . exact Kp s _ h h' hd.2
theorem aj5(s:aE)(k:Nat)(h:k<s.length):dj 0 (s.take (k+1))=if dj 0 (s.take k)<=1073741824 then 10*dj 0 (s.take k)+yc s[k] else dj 0 (s.take k):=by grind [dj,List.take_succ_eq_append_getElem]
theorem Gi(p:UInt8->Bool)(s:aE):s.take (s.takeWhile p).length=s.takeWhile p:=
  (List.prefix_iff_eq_take.1 (tj p)).symm
section
variable {text s : aE} {at_ : Nat} (hd : text.drop at_ = s) (hat : at_ <= text.length)
include hd hat
theorem LL:text.length=at_+s.length:=by grind
theorem Ci(k:Nat)(h:k<s.length):mn text ((at_+k:Nat):Int)=(s[k].toNat:Int):=by
  have hl:=LL hd hat
  rw [Ix text (at_+k) (by omega)];grind
omit hat in
theorem Yx(k:Nat):cut text (at_:Int) ((at_+k:Nat):Int)=s.take k:=by rw [amt,hd];congr 1;omega
theorem apV(hl:text.length<=65536)(out:List Tok)(again7):
    ao (gz text out again7) ay (at_:Int)=again7 (out,((at_+(s.takeWhile E6).length:Nat):Int)):=by
  have b:=LL hd hat
  refine LQ E6 s (λk=>((at_+k:Nat):Int)) (λk=>again7 (out,((at_+k:Nat)))) ?_ ?_ ?_ ay (by rw [yd];omega)
  . intro a k h hp _;unfold gz;simp only [lN];rw [uZ (by omega),s9 (by omega) (by omega),Ci hd hat k h,E4];have:((s[k].toNat:Int) != 10)=E6 s[k]:=by have:=EW s[k] 10;unfold E6 bne;grind
    rw [this,hp,si,cp,bR (by omega)];rfl
  . intro a k h hp;unfold gz;simp only [lN];rw [uZ (by omega),s9 (by omega) (by omega),Ci hd hat k h,E4];have:((s[k].toNat) != 10)=E6 s[k]:=by have:=EW s[k] 10;unfold E6 bne;grind
    grind
  simp_all [gz,lN,HD,s6]
end
theorem NA(c:UInt8):((kindOf c==1)||(kindOf c==2))=fk c:=by
  cases hb:ji c
  . grind [kindOf,fk,gH,isDigit]
  . have:fk c=false:=by simp [ji,fi,n4] at hb;rcases hb with ((rfl|rfl)|rfl)|rfl <;> decide
    simp_all [kindOf]
theorem aqa{text s:aE}{at_:Nat}(hd:text.drop at_=s)(hat:at_<=text.length)(hl:text.length<=65536)(out:List Tok)(again7)(d:out.length<=65536):
    ao (eM text out (at_:Int) again7) ay (at_:Int)=if 32<(s.takeWhile fk).length then some ([],9,(at_:Int)) else again7 (out++[(1,s.takeWhile fk,0,(at_:Int))],((at_+(s.takeWhile fk).length:Nat):Int)):=by
  have e:=LL hd hat
  have f:(if 32<(s.takeWhile fk).length then some ([],9,(at_:Int)) else again7 (out++[(1,s.takeWhile fk,0,(at_:Int))],((at_+(s.takeWhile fk).length:Nat))))
     =(λk=>if 32<k then some ([],9,(at_:Int)) else again7 (out++[(1,s.take k,0,(at_:Int))],((at_+k:Nat)))) (s.takeWhile fk).length:=by
    simp [Gi]
  rw [f];have tail:∀k,k<=s.length->(bif (decide (32<(IntKind.i64.wrap (((at_+k:Nat))-(at_))))) then (
some ([],9,(at_:Int)))
else (
aM (cR (at_) ((at_+k:Nat)) (List.length text))<|
aM (aH (List.length out+List.length ([(1,(cut text (at_:Int) ((at_+k:Nat):Int)),0,(at_:Int))])) 40)<|
again7 ((out++([(1,(cut text (at_:Int) ((at_+k:Nat):Int)),0,(at_:Int))])),((at_+k:Nat)))))=(if 32<k then some ([],9,(at_:Int)) else again7 (out++[(1,s.take k,0,(at_:Int))],((at_+k:Nat)))):=by
    intro k hk;rw [bR (by omega)];by_cases c:32<k
    . grind
    . rw [Bq (by omega),ca,de c,EB (by omega) (by omega) (by omega),n3,BO (by simp;omega) (by simp;omega),n3,Yx hd]
  refine LQ (F:=eM text out (at_) again7) fk s (λk=>((at_+k:Nat))) (λk=>if 32<k then some ([],9,(at_)) else again7 (out++[(1,s.take k,0,(at_:Int))],((at_+k:Nat)))) ?_ ?_ ?_ ay (by rw [yd];omega)
  . intro a k h hp _;unfold eM;simp only [lN];have ke:=NA s[k];rw [hp] at ke;rw [uZ (by omega),s9 (by omega) (by omega),Ci hd hat k h];simp [Hn,rm,jY,mi];cases b:(kindOf s[k]==1)
    . rw [b] at ke;simp only [ko,rm,jY] at ke ⊢;rw [ke,cp,bR (by omega)];rfl
    . rw [bR (by omega)];rfl
  . intro a k h hp;unfold eM;simp only [lN];have ke:=NA s[k];rw [hp] at ke;simp only [n9] at ke;rw [uZ (by omega),s9 (by omega) (by omega),Ci hd hat k h];simp [Hn,rm,jY,mi,ke.1,ke.2,ko,Bool.or_self];exact tail k (by omega)
  simp_all [eM,lN,HD,Ld,ca]
theorem adF(c:UInt8)(h:gH c=false):(kindOf c==2)=isDigit c:=by
  unfold kindOf;rw [h];cases hb:ji c
  . cases isDigit c <;> rfl
  . have:isDigit c=false:=by simp [ji,fi,n4] at hb;rcases hb with ((rfl|rfl)|rfl)|rfl <;> decide
    rw [this];rfl
theorem ZT{c:UInt8}(h:gH c=true):isDigit c=false:=by
  simp [gH,fi,an,gj,s7] at h;cases hd:isDigit c
  . rfl
  . simp [isDigit,an,gj,s7] at hd;have d:(57:UInt8).toNat=57:=rfl;have b:(97:UInt8).toNat=97:=rfl;have a:(65:UInt8).toNat=65:=rfl;rcases h with (h|h)|h
    . omega
    . omega
    simp_all
theorem IX(c:UInt8):(kindOf c==2)=isDigit c:=by grind [gH,adF,kindOf,ZT,ji]
theorem aqh{text s:aE}{at_:Nat}(hd:text.drop at_=s)(hat:at_<=text.length)(hl:text.length<=65536)(out:List Tok)(again7)(j:out.length<=65536):
    ao (eN text out (at_:Int) again7) ay ((at_:Int),0)=if sK (gb 0 (s.takeWhile isDigit)) then some ([],9,(at_:Int)) else again7 (out++[(2,s.takeWhile isDigit,gb 0 (s.takeWhile isDigit),(at_:Int))],((at_+(s.takeWhile isDigit).length:Nat):Int)):=by
  have l:=LL hd hat
  have a:=acS (s.takeWhile isDigit) 0 (qV _) (Jt _ _);have o:(if sK (gb 0 (s.takeWhile isDigit)) then some ([],9,(at_:Int)) else again7 (out++[(2,s.takeWhile isDigit,gb 0 (s.takeWhile isDigit),(at_:Int))],((at_+(s.takeWhile isDigit).length:Nat):Int)))
     =(λk=>if 1073741824<dj 0 (s.take k) then some ([],9,(at_:Int)) else again7 (out++[(2,s.take k,dj 0 (s.take k),(at_:Int))],((at_+k:Nat):Int))) (s.takeWhile isDigit).length:=by
    simp only [Gi];cases hb:sK (gb 0 (s.takeWhile isDigit))
    . have n:=a.1 hb;rw [n];have:¬ 1073741824<gb 0 (s.takeWhile isDigit):=by simpa [sK] using hb
      rw [de this];rfl
    . rw [du (a.2 hb)];rfl
  rw [o];have tail:∀k,k<=s.length->(bif (decide (1073741824<dj 0 (s.take k))) then (
some ([],9,(at_:Int)))
else (
aM (cR (at_:Int) ((at_+k:Nat):Int) (List.length text))<|
aM (aH (List.length out+List.length ([(2,(cut text (at_:Int) ((at_+k:Nat):Int)),dj 0 (s.take k),(at_:Int))])) 40)<|
again7 ((out++([(2,(cut text (at_:Int) ((at_+k:Nat):Int)),dj 0 (s.take k),(at_:Int))])),((at_+k:Nat)))))=(if 1073741824<dj 0 (s.take k) then some ([],9,(at_:Int)) else again7 (out++[(2,s.take k,dj 0 (s.take k),(at_:Int))],((at_+k:Nat)))):=by
    intro k hk;by_cases e:1073741824<dj 0 (s.take k)
    . rw [uZ (by omega),cp,du e]
    . rw [Bq (by omega),ca,de e,EB (by omega) (by omega) (by omega),n3,BO (by simp;omega) (by simp;omega),n3,Yx hd]
  refine LQ (F:=eN text out (at_) again7) isDigit s (λk=>(((at_+k:Nat)),dj 0 (s.take k))) (λk=>if 1073741824<dj 0 (s.take k) then some ([],9,(at_)) else again7 (out++[(2,s.take k,dj 0 (s.take k),(at_:Int))],((at_+k:Nat)))) ?_ ?_ ?_ ay (by rw [yd];omega)
  . intro b k h hp d;unfold eN;simp only [lN];have ke:=IX s[k];rw [hp] at ke;have g:=Qc hp;have hb:=Kp (s.take k) 0 (qV _) (by omega) (by rw [qo];intro c m;obtain ⟨i,hi,rfl⟩:=List.mem_iff_getElem.1 m;rw [List.getElem_take];exact d i (by simp at hi;omega) (by simp at hi;omega))
    rw [uZ (by omega),s9 (by omega) (by omega),Ci hd hat k h];simp [E4,Hn,rm,jY,mi,ke,cp];rw [aj5 s k h,bR (by omega)];unfold yc at g ⊢;by_cases f:dj 0 (s.take k)<=1073741824
    . rw [uZ f,cp,n3,du f,bR (x:=10*_) (by omega),bR (x:=(s[k].toNat)) (by omega),bR (x:=10*_+_) (by omega),bR (by omega)];congr 2;omega
    . rw [Bq f,ca,de f];rfl
  . intro b k h hp;unfold eN;simp only [lN];have ke:=IX s[k];rw [hp] at ke;rw [uZ (by omega),s9 (by omega) (by omega),Ci hd hat k h];simp [Hn,rm,jY,ke];exact tail k (by omega)
  . unfold eN;simp [lN];rw [Bq (by omega)];simp [HD,Ld,s6];grind
theorem aaV:ru=some cW:=rfl
theorem apF{text:aE}{out:List Tok}{a:Int}{again7}{again122}{g:aE}{j:Int}(d:(g==[])=false)
    (c:out.length<=65536) (hi:0<=a/\a<=65536) (b:g.length<=65536):
    bT text out a again7 cW again122 (g,j)=again7 (out++[(3,g,0,a)],a+g.length):=by
  unfold bT;simp [lN,w5];grind [BO,n3,bR]
theorem aqc{text s:aE}{at_:Nat}(hd:text.drop at_=s)(hat:at_<=text.length)(hl:text.length<=65536)(out:List Tok)(again7)(d:out.length<=65536):
    ao (bT text out (at_:Int) again7 cW) ay ([],0)=if fC s==[] then some ([],2,(at_:Int)) else again7 (out++[(3,fC s,0,(at_:Int))],((at_+(fC s).length:Nat):Int)):=by
  have q:=LL hd hat
  have p:cW.length=22:=rfl;have key:∀N k,k<=cW.length->cW.length-k+1<N->(∀i (h:i<cW.length),i<k->cW[i].isPrefixOf s=false)->
      ao (bT text out (at_:Int) again7 cW) N ([],((k:Nat):Int))=if fC s==[] then some ([],2,(at_:Int)) else again7 (out++[(3,fC s,0,(at_:Int))],((at_+(fC s).length:Nat):Int)):=by
    intro N
    induction N with
    |zero=>intro k _ h;omega
    |succ N ih=>
      intro k hk hN hp;rw [au];by_cases a:k<cW.length
      . have b:cW[k]∈cW:=eF a;have n:∀g∈cW,g.length<=3/\(g==[])=false:=by decide
        have e:=n _ b;have body:bT text out (at_:Int) again7 cW (ao (bT text out (at_:Int) again7 cW) N) ([],((k:Nat):Int))=ao (bT text out (at_:Int) again7 cW) N ((if cW[k].isPrefixOf s then cW[k] else []),((k+1:Nat):Int)):=by
          generalize ao (bT text out (at_:Int) again7 cW) N=o;unfold bT;simp only [lN];rw [uZ (by omega)];simp only [show (([]:aE)==[])=true from rfl,si,cp];rw [dZ a];simp only [jY];rw [bR (x:=(text.length:Int)-(at_:Int)) (by omega),bR (x:=((k:Nat):Int)+1) (by omega)];by_cases l:cW[k].length<=s.length
          . rw [uZ (by omega)];simp only [rm,jY,mi];rw [bR (by omega),EB (by omega) (by omega) (by omega),E4];have v:(at_:Int)+(cW[k].length:Int)=((at_+cW[k].length:Nat):Int):=by omega
            rw [v,Yx hd];have e3:(s.take cW[k].length==cW[k])=cW[k].isPrefixOf s:=by
              rw [qB,List.isPrefixOf_iff_prefix,n4];constructor
              . intro h;rw [<-h];exact List.take_prefix ..
              . intro h;exact (List.prefix_iff_eq_take.1 h).symm
            rw [e3];cases cW[k].isPrefixOf s
            . rfl
            . rfl
          . rw [Bq (by omega)];have:cW[k].isPrefixOf s=false:=by rw [qk,Ne,List.isPrefixOf_iff_prefix];intro h;exact l h.length_le
            rw [this];rfl
        rw [body];cases c:cW[k].isPrefixOf s
        . exact ih (k+1) (by omega) (by omega) (λi h hi=>by
            rcases qE i k with r|r
            . exact hp i h r
            . have:i=k:=by omega
              subst this;exact c)
        . have f:fC s=cW[k]:=by
            unfold fC;have:cW.find? (λg=>g.isPrefixOf s)=some cW[k]:=by rw [List.find?_eq_some_iff_getElem];exact ⟨c,k,a,rfl,λj t=>by simp [hp j (by omega) t]⟩
            rw [this];rfl
          rw [f];obtain ⟨N,rfl⟩:∃m,N=m+1:=⟨N-1,by omega⟩;rw [au];simp only [q9,e.2,e9];rw [apF e.2 d (by omega) (by omega)];rfl
      . have:fC s=[]:=by
          unfold fC;have:cW.find? (λg=>g.isPrefixOf s)=none:=by rw [List.find?_eq_none];intro g u;obtain ⟨i,hi,rfl⟩:=List.mem_iff_getElem.1 u;grind
          rw [this];rfl
        grind [ao,bT,cW,lN,Bq]
  grind [ay,yd]
theorem alh(text:aE)(d:text.length<=65536):∀(N f at_:Nat) (out:List Tok),at_<=text.length->text.length-at_<N->text.length-at_<f->out.length<=at_->
    ao (jD text) N (out,(at_:Int))=some (Lh out (oL f at_ (text.drop at_))):=by
  intro N
  induction N with
  |zero=>intro f at_ out _ h;omega
  |succ N ih=>
    intro f at_ out hat hN E x;obtain ⟨f,rfl⟩:∃g,f=g+1:=⟨f-1,by omega⟩;rw [au];generalize ao (jD text) N=a at ih ⊢;unfold jD;dsimp only;cases hd:text.drop at_ with
    |nil=>
      have n:at_=text.length:=by have:=congrArg List.length hd;simp at this;omega
      subst n;rw [Bq (by omega)];simp only [ca];rw [BO (by simp;omega) (by simp;omega),n3];rfl
    |cons c r=>
      obtain ⟨u,m⟩:=VQ hd;have B:(c::r).length=text.length-at_:=by rw [<-hd];simp
      have j:mn text (at_:Int)=(c.toNat:Int):=by rw [Ix _ _ u,m]
      have next:∀(k:Nat) (b:List Tok),1<=k->k<=(c::r).length->b.length<=at_+k->
          a (b,((at_+k:Nat):Int))=some (Lh b (oL f (at_+k) ((c::r).drop k))):=by
        intro k b A z q;rw [ih f (at_+k) b (by omega) (by omega) (by omega) q];have D:text.drop (at_+k)=(c::r).drop k:=by rw [<-hd,qA]
        rw [D]
      rw [uZ (by omega)];simp only [cp,s9 (show (0:Int)<=(at_:Int) by omega) (show (at_:Int)<(text.length:Int) by omega),n3,j,Hn,jY];have w:((c.toNat:Int)==35)=(c==35):=by rw [show ((35:Int)=((35:UInt8).toNat:Int)) from rfl];exact EW c 35
      rw [w];cases hb:ji c
      . have l:(kindOf c==0)=false:=by unfold kindOf;rw [hb];cases gH c <;> cases isDigit c <;> rfl
        simp only [l,ca];cases C:(c==35)
        . simp only [ca];simp only [oL,step,hb,C,e9,qw];cases e:gH c
          . have i:(kindOf c==1)=false:=by unfold kindOf;rw [hb,e];cases isDigit c <;> rfl
            simp only [i,ca,e9,qw];rw [IX];cases o:isDigit c
            . simp only [ca,e9,qw];rw [aaV,jY,aqc hd hat d out a (by omega)];cases t:(fC (c::r)==[])
              . simp only [e9,qw];obtain ⟨A,z,_⟩:=HU t;have q:=Vu _ A;have v:=z.length_le;rw [next _ _ q v (by simp;omega)];cases oL f (at_+(fC (c::r)).length) ((c::r).drop (fC (c::r)).length) <;> simp [Lh]
              . rfl
            . simp;rw [aqh hd hat d out a (by omega)];cases y:sK (gb 0 ((c::r).takeWhile isDigit))
              . simp only [e9,qw];have q:=nh (s:=r) o;have v:=uV isDigit (c::r);rw [next _ _ q v (by simp;omega)];cases oL f (at_+((c::r).takeWhile isDigit).length) ((c::r).drop ((c::r).takeWhile isDigit).length) <;> simp [Lh]
              . rfl
          . have i:(kindOf c==1)=true:=by unfold kindOf;rw [hb,e];rfl
            simp [i,cp];rw [aqa hd hat d out a (by omega)];by_cases p:32<((c::r).takeWhile fk).length
            . rw [du p,du p];rfl
            . grind [nh,vB,uV,fk,oL,Lh]
        . rw [apV hd hat d out a];grind [E6,nh,uV,step,oL]
      . have l:(kindOf c==0)=true:=by grind [kindOf]
        grind [bR,step,oL]
theorem LA(text:aE):gh text=some (tokens text):=by
  unfold gh tokens;by_cases h:65536<text.length
  . grind
  . rw [Bq (by omega),ca,de h];have:=alh text (by omega) ay (text.length+1) 0 [] (by omega) (by rw [yd];omega) (by omega) (by simp);simp only [p5] at this;have a:((0:Nat):Int)=0:=rfl;rw [a] at this;rw [this];cases oL (text.length+1) 0 text <;> rfl
abbrev Res:=Except (Int×Int) (List Tok)
theorem step_skip{c:UInt8}{s:aE}{k:Nat}(h:step (c::s)= .skip k):1<=k/\k<=(c::s).length:=by
  cases hb:ji c
  . cases a:(c==35)
    . simp [step,e9] at h;grind
    . simp [step,hb,a,e9,qw,q9,Step.skip.injEq] at h;subst h;have  :=by simpa using a
      subst this;exact ⟨nh (by decide),uV _ _⟩
  simp_all [step,q9]
theorem Yk{c:UInt8}{s:aE}{k:Int}{t:aE}{n:Int}(h:step (c::s)= .tok k t n):ji c=false/\(c==35)=false/\1<=t.length/\t <+: (c::s):=by
  cases hb:ji c
  . cases a:(c==35)
    . obtain ⟨d,b⟩:=step_take hb a h;grind
    simp_all [step,qw]
  simp_all [step]
def lex(s:aE):Res:=oL (s.length+1) 0 s
theorem aeC{s:aE}(h:s.length<=65536):tokens s=res (lex s):=by simp_all [tokens,lex,de]
theorem adH:∀g∈cW,fC g=g/\∃c s,g=c::s/\ji c=false/\(c==35)=false/\gH c=false/\isDigit c=false:=by
  have a:∀g∈cW,fC g=g/\(match g with|[]=>false|c::_=> !ji c&& !(c==35)&& !gH c&& !isDigit c)=true:=by decide
  grind
end Lx
namespace Sy
open Pa
theorem ajk:∀(f:Nat) (m:bn) (a:List Tok) (p:bn×List Tok),Pa.Ends a->ln f m a= .ok p->iB a p.2:=by
 intro f
 induction f with
 |zero=>grind [ln]
 |succ f ih=>
  intro m a p g h;simp [ln] at h;cases c:tl 3 [125] a
  .rw [c] at h;cases b:mY m a with
   |error e=>rw [b] at h;cases h
   |ok q=>
    obtain ⟨i,r⟩:=q;rw [b] at h;have d  :=(SD g b).1;exact d.trans (ih i r p d.1 h)
  .rw [c] at h;cases h;obtain ⟨b,j⟩:=om g (by decide) c;exact ⟨b,by grind⟩
abbrev R8:=Int×List aE×yr×zn×List aE×List aS×Int×Int
abbrev RP:=bn×Int×Int
section
variable {l : List Tok} (hl : l.length < 1000000000) (htok :∀t ∈ l, iT t) (hnum :∀t ∈ l, Bu t)
variable {st : Except gW (List Tok)} {a b p : Int} (N : List aE) (S_ : List (Int × Int)) (I : zn) (Q : List aE)
variable (hN : N.length < 1000000000) (hQ : Q.length < 1000000000)
theorem LC{C:List aS}(g f:Int)(c:R8->Option RP)(nm:aE×Int×Int×Int)(hl:l.length<1099511627776)(M:Nat)(h:St l st a b p)(en:Bool)(hb:((b==0)&& !en)=false):
  ∃e d p',ao (gS (l,g,f) Q c N S_ I nm) (M+1) (a,C,b,p,en)=c (e,N,S_,I,Q++[nm.1],C,d,p')/\St l (bP st (bY [125])) e d p':=by
 obtain ⟨e,d,p',e3,i⟩:=Cg hl N S_ I (Q++[nm.1]) C h [125];rw [au];simp [gS,aV,e3];grind
include hl htok hnum hN hQ in
theorem am9(z y:Int)(b:R8->Option RP)(nm:aE×Int×Int×Int):∀(n:Nat) (c:List Tok) (C:List aS) (a:Int) (M f:Nat),c.length<=n->n+2<=M->c.length<f->C.length+c.length<1099511627776-1->St l (.ok c) a 0 0->
  ∃a' C' b' p',ao (gS (l,z,y) Q b N S_ I nm) M (a,C,0,0,tl 3 [125] c)=b (a',N,S_,I,Q++[nm.1],C',b',p')/\
   St l (rest (ln f (N,S_,I,Q++[nm.1],C) c)) a' b' p'/\(∀m r,ln f (N,S_,I,Q++[nm.1],C) c= .ok (m,r)->m=(N,S_,I,Q++[nm.1],C')/\C'.length+r.length<C.length+c.length):=by
 have O:(Q++[nm.1]).length<1099511627776:=by simp;omega
 intro n
 induction n with
 |zero=>
  intro c C a M f F _ _ _ o;obtain ⟨k,t,r,_,rfl,_⟩:=o.ok;simp at F
 |succ n ih=>
  intro c C a M f F Y X W o;obtain ⟨M,rfl⟩:∃m,M=m+1:=⟨M-1,by omega⟩;obtain ⟨f,rfl⟩:∃m,f=m+1:=⟨f-1,by omega⟩;have D:Pa.Ends c:=by obtain ⟨_,_,_,h,_⟩:=o;exact h
  cases B:tl 3 [125] c
  .-- a command
   have i:ln (f+1) (N,S_,I,Q++[nm.1],C) c=(match mY (N,S_,I,Q++[nm.1],C) c with|.error e=> .error e|.ok (A,r)=>ln f A r):=by
    simp only [ln,B,ca]
    all_goals (cases mY (N,S_,I,Q++[nm.1],C) c <;> rfl)
   obtain ⟨S,v,H,p1,e3,d,U⟩:=aox (by omega) htok hnum N S_ I (Q++[nm.1]) C (by omega) (by omega) o;have e4:=HB N S_ I (Q++[nm.1]) v d 3 [125];rw [au];simp only [gS,aV,qe,ko,si,cp,e3,ah,e4];cases w:mY (N,S_,I,Q++[nm.1],C) c with
   |error e=>
    have s:bz (.ok c) (mY (N,S_,I,Q++[nm.1],C))= .error e:=by simp only [bz,bP,w,rest]
    rw [s] at d;simp only [s,CO];obtain ⟨M',rfl⟩:∃m,M=m+1:=⟨M-1,by omega⟩;have j:(H==0)=false:=by rw [d.2.2.1];exact d.2.1
    obtain ⟨J,G,p2,u,p⟩:=LC N S_ I Q z y b nm (by omega) M' d false (by rw [j];rfl);rw [i,w];exact ⟨_,_,_,_,u,p,λm r h=>by cases h⟩
   |ok q=>
    obtain ⟨A,r⟩:=q;have s:bz (.ok c) (mY (N,S_,I,Q++[nm.1],C))= .ok r:=by grind [bz,bP,rest]
    rw [s] at d;simp [CO];obtain ⟨L,g,r1,r2,sets,V,_,_,_,_,hp,_⟩:=SD D w;have x:v=C++[(IntKind.i64.wrap (((Q++[nm.1]).length)-1),g,sets)]:=by grind
    have E:v.length=C.length+1:=by rw [x];simp
    have K:r.length<c.length:=L.2;have j:H=0/\p1=0:=by obtain ⟨_,_,_,_,R,P⟩:=d;exact ⟨R,P⟩
    obtain ⟨rfl,rfl⟩:=j;obtain ⟨J,Z,G,p2,u,p,T⟩:=ih r v S M f (by omega) (by omega) (by omega) (by omega) d;grind
  .have i:ln (f+1) (N,S_,I,Q++[nm.1],C) c= .ok ((N,S_,I,Q++[nm.1],C),c.tail):=by simp [ln,B,cp]
   obtain ⟨J,G,p2,u,p⟩:=LC N S_ I Q z y b nm (by omega) M o true (by simp);rw [i];refine ⟨_,_,_,_,u,?_,λm r h=>by cases h;exact ⟨rfl,by grind [om]⟩⟩;have:bP (.ok c) (bY [125])=rest (.ok ((N,S_,I,Q++[nm.1],C),c.tail)):=by obtain ⟨t,r,rfl⟩:=D.ne;grind [bP,bY,rest,List.tail_cons,tl]
   rw [<-this];exact p
def Big(m:bn)(ts:List Tok):Prop:=m.1.length+ts.length<1000000000/\m.2.1.length+ts.length<1000000000/\m.2.2.1.length+ts.length<1000000000/\m.2.2.2.1.length+ts.length<1000000000/\m.2.2.2.2.length+ts.length<1000000000
theorem Ro{e3 e4:Int}(e d:Int)(m:bn)(h:St l (.error (e3,e4)) a b p)(M:Nat):ao (eZ (l,e,d)) (M+1) (a,m.1,m.2.1,m.2.2.1,m.2.2.2.1,m.2.2.2.2,b,p)=some (([],[],[],[],[]),e3,e4):=by
 obtain ⟨⟨t,hx⟩,c,rfl,rfl⟩:=h;rw [au];have hb:(b != 0)=true:=by grind
 simp [eZ,aV,c,l6,j3,br,aJ,hb];grind
include hl htok hnum in
theorem aiq(w v:Int):∀(n:Nat) (y:List Tok) (m:bn) (a:Int) (M f:Nat),y.length<=n->n+2<=M->y.length<f->Big m y->St l (.ok y) a 0 0->
  ao (eZ (l,w,v)) M (a,m.1,m.2.1,m.2.2.1,m.2.2.2.1,m.2.2.2.2,0,0)=some (N6 (o7 f m y)):=by
 intro n
 induction n with
 |zero=>
  intro y m a M f h1 _ _ _ K;obtain ⟨k,t,r,_,rfl,_⟩:=K.ok;simp at h1
 |succ n ih=>
  intro y m a M f h1 h2 h3 hB K;obtain ⟨M,rfl⟩:∃m,M=m+1:=⟨M-1,by omega⟩;obtain ⟨f,rfl⟩:∃m,f=m+1:=⟨f-1,by omega⟩;obtain ⟨k,t,r,rfl,rfl,hd,he,_,_,hx,hm,hd1,hk⟩:=K.ok;obtain ⟨N,S_,I,Q,C⟩:=m;obtain ⟨B1,B2,B3,B4,B5⟩:=hB;simp only [ei] at B1 B2 B3 B4 B5 h1 h3;have iv:=HB N S_ I Q C K 1 [118,97,114];have ip:=HB N S_ I Q C K 1 [112,114,111,99];rw [au];generalize c:ao (eZ (l,w,v)) M=g;simp only [eZ,aV,qe,dy,hx,ah,mi];have o:o7 (f+1) (N,S_,I,Q,C) (t::r)=(bif t.1==4 then (bif N.isEmpty then .error (2,t.2.2.2) else .ok (N,S_,I,Q,C))
   else bif x9 1 [118,97,114] t then (match pX (N,S_,I,Q,C) r with
    | .error e=> .error e
    | .ok (B,d)=>o7 f B d)
   else bif x9 1 [112,114,111,99] t then (match uX (N,S_,I,Q,C) r with
    | .error e=> .error e
    | .ok (B,d)=>o7 f B d)
   else .error (2,t.2.2.2)):=by
   simp only [o7]
   all_goals (cases pX (N,S_,I,Q,C) r <;> cases uX (N,S_,I,Q,C) r <;> rfl)
  cases F:(t.1==4)
  case true=>
   have E:(t.1 != 4)=false:=by simp only [bne,F,qc]
   rw [o,F];simp only [E,ca,cp];have hne:((List.length N:Int)==0)=N.isEmpty:=by cases N with
    |nil=>rfl
    |cons x r=>simp only [ei,List.isEmpty_cons];exact beq_eq_false_iff_ne.2 (by omega)
   rw [hne];cases N.isEmpty
   .simp only [ca,j3,bne_self_eq_false,N6]
   .simp only [cp,br,hx,ah,Pw,j3,N6];rfl
  have E:(t.1 != 4)=true:=by simp only [bne,F,ko]
  simp only [CO,tl] at iv ip;simp only [E,cp,iv,ip,ah];have D:Pa.Ends r:=he.tail (by simpa using F);have J:St l (.ok r) ((k+1:Nat):Int) 0 0:=⟨k+1,rfl,hd1,D,rfl,rfl⟩;have wk:IntKind.i64.wrap ((k:Int)+1)=((k+1:Nat):Int):=cz (by omega);obtain ⟨M',u⟩:∃m,M=m+1:=⟨M-1,by omega⟩;cases cv:x9 1 [118,97,114] t
  .cases S:x9 1 [112,114,111,99] t
   .-- neither
    rw [o,F,cv,S];simp only [ca,ko,si,cp,br,hx,ah,Pw,kb,show ((2:Int)==0)=false from rfl,j2,jZ,aV];rw [<-c,u];exact Ro (e3:=2) (e4:=t.2.2.2) w v (N,S_,I,Q,C) ⟨⟨t,hx⟩,rfl,rfl,rfl⟩ M'
   .-- a process
    rw [o,F,cv,S];simp only [ca,qc,ko,w5,cp,kb,qe,j2,jZ,wk,aV];obtain ⟨nm,U,T,p1,e3,z,V⟩:=abc (by omega) N S_ I Q C J (by omega) (by omega) false;have k1:aH (List.length Q+List.length ([nm]:List aE)) 16=true:=cO (by simp;omega) (by simp;omega);obtain ⟨a2,b2,p2,e4,j⟩:=Cg (by omega) N S_ I (Q++[nm]) C z [123];have e5:=HB N S_ I (Q++[nm]) C j 3 [125];simp only [e3,ah,aN k1,e4,e5];cases b:bP (bz (.ok r) (fB false N Q)) (bY [123]) with
    |error e=>
     rw [b] at j;have hb1:(b2==0)=false:=by rw [j.2.2.1];exact j.2.1
     obtain ⟨a3,b3,p3,e6,i⟩:=LC N S_ I Q (C:=C) w v g (nm,U,T,p1) (by omega) 18446744073709551615 j false (by rw [hb1];rfl);simp only [CO];rw [show ay=18446744073709551615+1 from rfl,e6];have hp:uX (N,S_,I,Q,C) r= .error e:=by
      simp only [uX];simp only [bz,bP] at b;cases A:fB false N Q r with
      |error e'=>rw [A] at b;simp only [rest] at b ⊢; cases b;rfl
      |ok q=>
       rw [A] at b;simp only [rest] at b ⊢;rw [b]
     rw [hp];simp only [bP] at i;obtain ⟨ee1,ee2⟩:=e;rw [<-c,u];exact Ro w v (N,S_,I,Q++[nm],C) i M'
    |ok r2=>
     rw [b] at j;obtain ⟨r1,O,L⟩:∃r1,fB false N Q r= .ok (nm,r1)/\bY [123] r1= .ok r2:=by
      simp only [bz,bP] at b;cases A:fB false N Q r with
      |error e'=>rw [A] at b;cases b
      |ok q=>
       obtain ⟨X,r1⟩:=q;rw [A] at b;simp only [rest] at b;have:=V r X r1 rfl A;subst this;exact ⟨r1,rfl,b⟩
     have hb:b2=0/\p2=0:=by obtain ⟨_,_,_,_,R,P⟩:=j;exact ⟨R,P⟩
     obtain ⟨rfl,rfl⟩:=hb;have H:=(Pj D O).1;have G:=lU H.1 L;have l1:r1.length<r.length:=H.2;have l2:r2.length<r1.length:=G.2;have hp:uX (N,S_,I,Q,C) r=ln (r2.length+1) (N,S_,I,Q++[nm],C) r2:=by simp only [uX,O,L]
     have hle:r2.length<=l.length:=by obtain ⟨k2,_,h,_⟩:=j;rw [<-h];simp
     obtain ⟨a3,C3,b3,p3,e6,i,v3⟩:=am9 hl htok hnum N S_ I Q (by omega) (by omega) w v g (nm,U,T,p1) r2.length r2 C a2 ay (r2.length+1) (c8 _) (by show _<=2^64;omega) (by omega) (by omega) j;simp only [CO];rw [e6,hp];cases s:ln (r2.length+1) (N,S_,I,Q++[nm],C) r2 with
     |error e=>
      rw [s] at i;simp only [rest] at i;obtain ⟨ee1,ee2⟩:=e;rw [<-c,u];exact Ro w v (N,S_,I,Q++[nm],C3) i M'
     |ok q=>
      obtain ⟨B,d⟩:=q;rw [s] at i;simp only [rest] at i;obtain ⟨p,hlen⟩:=v3 B d s;have W:=ajk _ _ _ _ G.1 s;have l3:d.length<r2.length:=W.2;have hb:b3=0/\p3=0:=by obtain ⟨_,_,_,_,R,P⟩:=i;exact ⟨R,P⟩
      obtain ⟨rfl,rfl⟩:=hb;simp only;rw [<-c,p];have hQl:(Q++[nm]).length=Q.length+1:=by simp
      exact ih d (N,S_,I,Q++[nm],C3) a3 M f (by omega) (by omega) (by omega) ⟨by simp only;omega,by simp only;omega,by simp only;omega,by simp only;omega,by simp only;omega⟩ i
  .-- a variable
   have S:x9 1 [112,114,111,99] t=false:=by unfold x9 at cv ⊢;simp only [an,n4] at cv;rw [cv.2];simp
   rw [o,F,cv];simp only [ca,qc,s6,cp,kb,qe,j2,S,wk,aV];obtain ⟨U,N',S',I',T,p1,e3,z,V⟩:=apD (by omega) N S_ I Q C (by omega) (by omega) (by omega) (by omega) J;simp only [e3,ah,jZ,ca];cases b:pX (N,S_,I,Q,C) r with
   |error e=>
    simp [bz,bP,b] at z;rw [<-c,u];exact Ro w v (N',S',I',Q,C) z M'
   |ok q=>
    obtain ⟨B,d⟩:=q;simp [bz,bP,b] at z;have p:=V r B d rfl b;obtain ⟨sh,name,lo,hi,first,hp,_⟩:=acy D b;have l1:d.length<r.length:=sh.2;have hb:T=0/\p1=0:=by obtain ⟨_,_,_,_,R,P⟩:=z;exact ⟨R,P⟩
    obtain ⟨rfl,rfl⟩:=hb;rw [p] at hp;simp at hp;obtain ⟨hp1,Z,Y⟩:=hp;have A:N'.length=N.length+1:=by rw [hp1];simp
    have q2:S'.length=S_.length+1:=by rw [Z];simp
    have q3:I'.length=I.length+1:=by rw [Y];simp
    rw [<-c,p];exact ih d (N',S',I',Q,C) U M f (by omega) (by omega) (by omega) ⟨by simp only;omega,by simp only;omega,by simp only;omega,by simp only;omega,by simp only;omega⟩ z
end
theorem ait{text:aE}{l:List Tok}(ht:gh text=some (l,0,0))(hl:l.length<500000000)(htok:∀t∈l,iT t)(hnum:∀t∈l,Bu t)(a:Pa.Ends l):
  fm text=some (N6 (sys l)):=by
 unfold fm;rw [ht,ah];simp;exact aiq (by omega) htok hnum 0 0 l.length l ([],[],[],[],[]) 0 ay (l.length+1) (c8 _) (by show _<=2^64;omega) (by omega) ⟨by simp;omega,by simp;omega,by simp;omega,by simp;omega,by simp;omega⟩ ⟨0,rfl,rfl,a,rfl,rfl⟩
end Sy
namespace Sy
open Pa
theorem adJ(s:aE)(h:s.all Lx.isDigit=true):0<=Lx.gb 0 s:=Lx.Dr s 0 (qV _) h
theorem ahd{c:UInt8}{s:aE}{k:Int}{t:aE}{n:Int}(h:Lx.step (c::s)= .tok k t n)(pl:Int):iT (k,t,n,pl)/\Bu (k,t,n,pl)/\k≠4:=by
 obtain ⟨hb,g,_,_⟩:=Lx.Yk h;simp only [Lx.step,hb,g,e9] at h;cases a:Lx.gH c
 .simp only [a,e9,qw] at h;cases b:Lx.isDigit c
  .simp only [b,e9] at h;cases d:(Lx.fC (c::s)==[])
   .simp [d,qw] at h;obtain ⟨rfl,rfl,rfl⟩:=h;obtain ⟨i,m,_⟩:=Lx.HU d;obtain ⟨_,p,l,f,_,_,hl,_⟩:=Lx.adH _ i;refine ⟨.inr (.inr (.inl ⟨rfl,λo j e=>?_⟩)),(λh=>by cases h),by decide⟩;rw [f] at e;cases e;exact hl
   .simp [d] at h
  .simp only [b,q9] at h;split at h
   .cases h
   .obtain ⟨rfl,rfl,rfl⟩:=h;refine ⟨.inr (.inl rfl),λ_=>⟨adJ _ (Lx.Jt _ _),?_⟩,by decide⟩;simp_all [Lx.sK]
 .simp [a,q9] at h;split at h
  .cases h
  .obtain ⟨rfl,rfl,rfl⟩:=h;refine ⟨.inl ⟨rfl,c,s.takeWhile Lx.fk,?_,a⟩,(λh=>by cases h),by decide⟩;simp_all [Lx.vB]
structure Good(n:Nat)(l:List Tok):Prop where
 ok:∀t∈l,iT t
 num:∀t∈l,Bu t
 ends:Pa.Ends l
 len:l.length<=n
theorem ahR{t:Tok}{l:List Tok}(h:Pa.Ends l):Pa.Ends (t::l):= .inl h
theorem ahf:∀(f a:Nat) (s:aE) (l:List Tok),s.length<f->Lx.oL f a s= .ok l->Good (s.length+1) l:=by
 intro f
 induction f with
 |zero=>omega
 |succ f ih=>
  intro a s l p h;cases s with
  |nil=>
   cases h;exact ⟨(λt ht=>by rw [List.mem_singleton.1 ht];exact .inr (.inr (.inr rfl))),(λt ht=>by rw [List.mem_singleton.1 ht];intro h;cases h),.inr ⟨rfl,rfl⟩,by simp⟩
  |cons c s=>
   simp [Lx.oL] at h;cases b:Lx.step (c::s) with
   |skip k=>
    rw [b] at h;obtain ⟨j,i⟩:=Lx.step_skip b;have:=ih _ _ _ (by grind) h;exact ⟨this.ok,this.num,this.ends,by have:=this.len;grind⟩
   |err e=>rw [b] at h;cases h
   |tok k g n=>
    rw [b] at h;simp only at h;obtain ⟨_,_,j,i⟩:=Lx.Yk b;obtain ⟨o,m,_⟩:=ahd b (a);cases d:Lx.oL f (a+g.length) ((c::s).drop g.length) with
    |error e=>rw [d] at h;cases h
    |ok l'=>
     rw [d] at h;cases h;have:=ih _ _ _ (by grind) d;refine ⟨λt ht=>?_,λt ht=>?_,ahR this.ends,by have:=this.len;grind⟩
     .rcases List.mem_cons.1 ht with rfl|ht
      .exact o
      .exact this.ok t ht
     .rcases List.mem_cons.1 ht with rfl|ht
      .exact m
      .exact this.num t ht
theorem Z1{s:aE}{l:List Tok}(h:Lx.lex s= .ok l):Good (s.length+1) l:=ahf _ _ _ _ (mE _) h
theorem ZQ:∀(f a:Nat) (s:aE) (e:Int×Int),Lx.oL f a s= .error e->e.1≠0:=by
 intro f
 induction f with
 |zero=>grind [Lx.oL]
 |succ f ih=>
  intro a s e h;cases s with
  |nil=>simp [Lx.oL] at h
  |cons c s=>
   grind [Lx.oL,Lx.step,Lx.aoM]
def Ph(text:aE):Except gW bn:=if 65536<text.length then .error (9,0) else match Lx.lex text with
 | .ok l=>sys l
 | .error e=> .error e
structure Wj(n:Nat)(s:Int×Ex):Prop where
 var:0<=s.1/\s.1<n
 may:jy (n:Int) s.2=true
 typ:(rt s.2).2.1=0/\(rt s.2).1=1
 sz:s.2.sz<=65537
structure Wu(n:Nat)(c:aS):Prop where
 may:jy (n:Int) c.2.1=true
 typ:(rt c.2.1).2.1=0/\(rt c.2.1).1=2
 sz:c.2.1.sz<=65537
 sets:∀s∈c.2.2,Wj n s
 one:1<=c.2.2.length
 len:c.2.2.length<=65537
 once:c.2.2.Pairwise (λa b=>a.1≠b.1)
structure L9(f:Int×Int):Prop where
 le:f.1<=f.2
 lo: -1073741824<=f.1
 hi:f.2<=1073741824
 wide:f.2-f.1<=65535
structure Part(m:bn):Prop where
 names:m.1.length<=16
 schema:m.2.1.length=m.1.length
 init:m.2.2.1.length=m.1.length
 fields:∀f∈m.2.1,L9 f
 first:∀(i:Nat) (f:Int×Int) (v:Int),m.2.1[i]? =some f->m.2.2.1[i]? =some v->f.1<=v/\v<=f.2
 cmds:m.2.2.2.2.length<=256
 cmd:∀c∈m.2.2.2.2,Wu m.1.length c
structure Wf(m:bn):Prop extends Part m where
 some_:1<=m.1.length
theorem amL{op n len a v w:Int}(h:xT op n len a v=true)(b:v<=w):xT op n len a w=true:=by simp [xT,Bool.and_eq_false_imp] at h ⊢;grind
theorem abh{v w:Int}(c:v<=w):∀(N:Nat) (e:Ex),e.sz<=N->jy v e=true->jy w e=true:=by
 intro N
 induction N with
 |zero=>grind [Gg]
 |succ N ih=>
  intro e h hm;have d:=(LB hm).2.2.2.2;rw [acV] at hm ⊢;simp at hm ⊢;refine ⟨amL hm.1 c,?_⟩;have:∀l:List Ex,(∀x∈l,x∈e.l)->Cr w l=true:=λl=>by
   induction l with
   |nil=>grind [Cr]
   |cons x r a=>
    intro hx;simp [Cr,an];exact ⟨ih x (by have:=HW (hx x (by simp));omega) (d x (hx x (by simp))),a (λy b=>hx y (b7 _ b))⟩
  grind
theorem Wu.le{n k:Nat}{c:aS}(h:Wu n c)(hk:n<=k):Wu k c:=
 ⟨abh (by omega) _ _ (c8 _) h.may,h.typ,h.sz,λs a=>⟨⟨(h.sets s a).var.1,by have:=(h.sets s a).var.2;omega⟩,abh (by omega) _ _ (c8 _) (h.sets s a).may,(h.sets s a).typ,(h.sets s a).sz⟩,h.one,h.len,h.once⟩
theorem agx{lo hi:Int}(h:mw lo hi=true):L9 (lo,hi):=by simp [mw,an,nA,q6] at h;obtain ⟨⟨⟨d,c⟩,b⟩,a⟩:=h;rw [bR (by omega)] at a;exact ⟨by omega,by omega,by omega,by omega⟩
def tn(ts:List Tok):Prop:=(∀t∈ts,Bu t)/\Pa.Ends ts/\ts.length<=65537
theorem tn.of{b a:List Tok}(h:tn b)(c:iB b a)(d:a <:+ b):tn a:=⟨λt ht=>h.1 t (d.mem ht),c.1,by have:=c.2;have:=h.2.2;omega⟩
theorem vL{x:aE}{a r:List Tok}(h:bY x a= .ok r):r <:+ a:=by
 cases a with
 |nil=>simp [bY] at h
 |cons t b=>
  grind [bY,x9,List.suffix_cons]
theorem UR{full:Bool}{names a:List aE}{b:List Tok}{p:aE×List Tok}(h:fB full names a b= .ok p):p.2 <:+ b:=by
 cases b with
 |nil=>simp [fB] at h
 |cons t c=>
  simp [fB] at h;grind
theorem UQ{b:Bool}{a:List Tok}{p:Int×List Tok}(h:rQ b a= .ok p):p.2 <:+ a:=by
 cases a with
 |nil=>simp [rQ] at h
 |cons t c=>
  grind [rQ,List.suffix_cons]
theorem NW{a:List Tok}{p:Int×List Tok}(h:fP a= .ok p):p.2 <:+ a:=by
 unfold fP at h;cases b:tl 3 [45] a
 .grind [UQ]
 .rw [b] at h;exact (UQ h).trans (vt _)
theorem Kj{a:Int}{names:List aE}{b:List Tok}{p:Ex×List Tok}(c:Pa.Ends b)(h:ek a names b= .ok p):p.2 <:+ b:=(sZ c h).2.1.suf _ rfl
theorem afX{names:List aE}:∀(f:Nat) (acc:List (Int×Ex)) (a:List Tok) (p:List (Int×Ex)×List Tok),Pa.Ends a->fD names f acc a= .ok p->p.2 <:+ a:=by
 intro f
 induction f with
 |zero=>grind [fD]
 |succ f ih=>
  intro acc a p k h;obtain ⟨t,r,rfl⟩:=k.ne;simp [fD] at h;cases g:(t.1 != 1)
  case true=>rw [g] at h;cases h
  rw [g] at h;cases m:(decide (eR names t.2.1<0)||BM acc (eR names t.2.1))
  case true=>rw [m] at h;cases h
  rw [m] at h;have ht  :=by simpa using g
  have d:=k.tail (by omega);cases c:bY [61] r with
  |error e=>rw [c] at h;cases h
  |ok r1=>
   rw [c] at h;simp only at h;have j:=lU d c;cases b:ek 1 names r1 with
   |error e=>rw [b] at h;cases h
   |ok q=>
    obtain ⟨x,r2⟩:=q;rw [b] at h;simp only at h;have n  :=(sZ j.1 b).1;have i:r2 <:+ t::r:=((Kj j.1 b).trans (vL c)).trans (qZ _ _);cases l:tl 3 [44] r2
    .grind
    .rw [l] at h;exact ((ih _ _ _ (om n.1 (by decide) l).1 h).trans (vt _)).trans i
theorem UY{a:Int}{names:List aE}{d:List Tok}{x:Ex}{r:List Tok}(c:tn d)(h:ek a names d= .ok (x,r)):
  jy (names.length:Int) x=true/\((rt x).2.1=0/\(rt x).1=a)/\x.sz<=65537:=by
 obtain ⟨g,hp,f,e⟩:=sZ c.2.1 h;have b:=hp.size _ rfl;simp [Jg] at b;exact ⟨hp.may trivial c.1 rfl _ rfl,⟨f,e⟩,by have:=c.2.2;omega⟩
theorem anJ{names:List aE}{v:aE}(h:¬eR names v<0):0<=eR names v/\eR names v<names.length:=by
 unfold eR at h ⊢;cases ha:at_ names v with
 |none=>rw [ha] at h;simp at h
 |some i=>have:=uU ha;simp only;omega
theorem aei{names:List aE}:∀(f:Nat) (acc:List (Int×Ex)) (k:List Tok) (p:List (Int×Ex)×List Tok),tn k->fD names f acc k= .ok p->
  (∀s∈acc,Wj names.length s)->acc.Pairwise (λa b=>a.1≠b.1)->acc.length+k.length<=65537->(∀s∈p.1,Wj names.length s)/\p.1.Pairwise (λa b=>a.1≠b.1)/\p.1.length<=65537/\1<=p.1.length:=by
 intro f
 induction f with
 |zero=>grind [fD]
 |succ f ih=>
  intro acc k p y h i F d;obtain ⟨t,r,rfl⟩:=y.2.1.ne;have G:=y.2.1;simp [fD] at h;cases z:(t.1 != 1)
  case true=>rw [z] at h;cases h
  rw [z] at h;cases o:(decide (eR names t.2.1<0)||BM acc (eR names t.2.1))
  case true=>rw [o] at h;cases h
  rw [o] at h;have ht  :=by simpa using z
  have g:=G.tail (by omega);simp only [n9,q6] at o;cases n:bY [61] r with
  |error e=>rw [n] at h;cases h
  |ok r1=>
   rw [n] at h;simp only at h;have l:=lU g n;have E:=l.2;have v:tn r:=⟨λt' A=>y.1 t' (b7 _ A),g,by grind⟩;have j  :=v.of l (vL n);cases m:ek 1 names r1 with
   |error e=>rw [m] at h;cases h
   |ok q=>
    obtain ⟨x,r2⟩:=q;have u:iB r1 r2:=(sZ l.1 m).1;have D:=u.2;have w  :=j.of u (Kj l.1 m);obtain ⟨L,K,J⟩:=UY j m;have hi:=anJ o.1;have C:∀s∈acc++[(eR names t.2.1,x)],Wj names.length s:=λs c=>by
     rcases List.mem_append.1 c with c|c
     .exact i s c
     .rw [List.mem_singleton.1 c];exact ⟨hi,L,K,J⟩
    have B:(acc++[(eR names t.2.1,x)]).Pairwise (λa b=>a.1≠b.1):=by grind [List.mem_singleton,BM,eR,List.any_eq_true]
    simp at d;cases I:tl 3 [44] r2
    .grind
    .obtain ⟨M,N⟩:=om u.1 (by decide) I;have H:tn r2.tail:=⟨λt' A=>w.1 t' ((vt _).mem A),M,by omega⟩;grind
theorem afC{m:bn}{f:List Tok}{p:bn×List Tok}(d:tn f)(hm:Part m)(h:mY m f= .ok p):Part p.1/\tn p.2/\p.2.length<f.length:=by
 obtain ⟨D,g,r1,r2,sets,E,v,q,z,o,hp,u,t⟩:=SD d.2.1 h;have j  :=(sZ d.2.1 q).1;have n  :=d.of j (Kj d.2.1 q);have e:=lU j.1 u;have a  :=n.of e (vL u);have i  :=Zs _ _ _ _ e.1 o;have l  :=a.of i (afX _ _ _ _ e.1 o);have r:=lU i.1 t;have k  :=l.of r (vL t);obtain ⟨C,B,A⟩:=UY d q;obtain ⟨t1,t2,x,w⟩:=aei _ _ _ _ a o (λs y=>by cases y) List.Pairwise.nil (by have:=a.2.2;simpa using this);refine ⟨?_,k,by have:=j.2;have:=e.2;have:=i.2;have:=r.2;omega⟩;rw [hp];refine ⟨hm.names,hm.schema,hm.init,hm.fields,hm.first,by simp;omega,λc b=>?_⟩;rcases List.mem_append.1 b with b|b
 .exact hm.cmd c b
 .rw [List.mem_singleton.1 b];exact ⟨C,B,A,t1,w,x,t2⟩
theorem aef:∀(f:Nat) (m:bn) (a:List Tok) (p:bn×List Tok),tn a->Part m->ln f m a= .ok p->Part p.1/\tn p.2:=by
 intro f
 induction f with
 |zero=>grind [ln]
 |succ f ih=>
  intro m a p c hm h;simp [ln] at h;cases d:tl 3 [125] a
  .rw [d] at h;cases b:mY m a with
   |error e=>rw [b] at h;cases h
   |ok q=>
    obtain ⟨g,r⟩:=q;rw [b] at h;obtain ⟨j,i,_⟩:=afC c hm b;exact ih g r p i j h
  .rw [d] at h;cases h;obtain ⟨b,k⟩:=om c.2.1 (by decide) d;exact ⟨hm,λt ht=>c.1 t ((vt _).mem ht),b,by have:=c.2.2;grind⟩
theorem aex{m:bn}{d:List Tok}{p:bn×List Tok}(i:tn d)(hm:Part m)(h:uX m d= .ok p):Part p.1/\tn p.2:=by
 unfold uX at h;cases c:fB false m.1 m.2.2.2.1 d with
 |error e=>rw [c] at h;cases h
 |ok k=>
  obtain ⟨a,r1⟩:=k;rw [c] at h;simp only at h;have g  :=(Pj i.2.1 c).1;have f  :=i.of g (UR c);cases b:bY [123] r1 with
  |error e=>rw [b] at h;cases h
  |ok r2=>
   rw [b] at h;have j:=lU g.1 b;exact aef _ (m.1,m.2.1,m.2.2.1,m.2.2.2.1++[a],m.2.2.2.2) _ _ (f.of j (vL b)) ⟨hm.names,hm.schema,hm.init,hm.fields,hm.first,hm.cmds,hm.cmd⟩ h
theorem ak6{m:bn}{f:List Tok}{p:bn×List Tok}(h:pX m f= .ok p):p.2 <:+ f:=by
 unfold pX at h;cases k:fB (decide (16<=(m.1.length:Int))) m.1 m.2.2.2.1 f with
 |error e=>rw [k] at h;cases h
 |ok t=>
  obtain ⟨l,d⟩:=t;rw [k] at h;simp only at h;have y  :=UR k;cases j:fP d with
  |error e=>rw [j] at h;cases h
  |ok s=>
   obtain ⟨lo,c⟩:=s;rw [j] at h;simp only at h;have x  :=NW j;cases i:fP c with
   |error e=>rw [i] at h;cases h
   |ok r=>
    obtain ⟨hi,b⟩:=r;rw [i] at h;simp only at h;have w  :=NW i;cases g:fP b with
    |error e=>rw [g] at h;cases h
    |ok q=>
     obtain ⟨first,a⟩:=q;rw [g] at h;simp only at h;have v  :=NW g;cases n:bY [59] a with
     |error e=>rw [n] at h;cases h
     |ok o=>
      have u:=vL n;grind
theorem ahF{m:bn}{e:List Tok}{p:bn×List Tok}(k:tn e)(hm:Part m)(h:pX m e= .ok p):Part p.1/\tn p.2/\1<=p.1.1.length:=by
 obtain ⟨l,g,lo,hi,first,hp,s,u,t,r,_⟩:=acy k.2.1 h;refine ⟨?_,k.of l (ak6 h),by rw [hp];simp⟩;rw [hp];have n:=hm.schema;have d:=hm.init;refine ⟨by simp;omega,by simp [n],by simp [d],λf a=>?_,λi f v a j=>?_,hm.cmds,λc q=>(hm.cmd c q).le (by simp)⟩
 .rcases List.mem_append.1 a with a|a
  .exact hm.fields f a
  grind [List.mem_singleton,agx]
 .rcases qE i m.2.1.length with b|o
  .rw [eb b] at a;rw [eb (by omega)] at j;exact hm.first i f v a j
  grind
theorem aak:∀(f:Nat) (m:bn) (b:List Tok) (p:bn),tn b->Part m->o7 f m b= .ok p->Wf p:=by
 intro f
 induction f with
 |zero=>grind [o7]
 |succ f ih=>
  intro m b p a hm h;obtain ⟨t,r,rfl⟩:=a.2.1.ne;have j:=a.2.1;simp [o7] at h;cases g:(t.1==4)
  .rw [g] at h;have k:tn r:=⟨λt' l=>a.1 t' (b7 _ l),j.tail (by simpa using g),by have:=a.2.2;grind⟩;cases cv:x9 1 [118,97,114] t
   .rw [cv] at h;cases i:x9 1 [112,114,111,99] t
    .rw [i] at h;cases h
    .rw [i] at h;cases d:uX m r with
     |error e=>rw [d] at h;cases h
     |ok q=>
      grind [aex]
   .rw [cv] at h;cases d:pX m r with
    |error e=>rw [d] at h;cases h
    |ok q=>
     grind [ahF]
  .rw [g] at h;cases c:m.1.isEmpty
   .rw [c] at h;cases h;refine ⟨hm,?_⟩;grind
   grind
theorem agq{text:aE}{m:bn}(h:Ph text= .ok m):Wf m:=by
 unfold Ph at h;split at h
 .cases h
 .cases hx:Lx.lex text with
  |error e=>rw [hx] at h;cases h
  |ok l=>
   rw [hx] at h;have a:=Z1 hx;exact aak _ _ _ _ ⟨a.num,a.ends,by have:=a.len;omega⟩ ⟨by simp,rfl,rfl,(λf b=>by cases b),(λi f v b=>by simp at b),by simp,(λc d=>by cases d)⟩ h
end Sy
namespace Sy
open Pa
theorem aiG(text:aE):fm text=some (N6 (Ph text)):=by
 unfold Ph;by_cases h:65536<text.length
 .rw [du h];unfold fm;rw [Lx.LA];unfold Lx.tokens;rw [du h];rfl
 .rw [de h];have ht:gh text=some (Lx.res (Lx.lex text)):=by grind [Lx.LA,Lx.aeC]
  cases hl:Lx.lex text with
  |ok l=>
   rw [hl] at ht;have a:=Z1 hl;exact ait ht (by have:=a.len;omega) a.ok a.num a.ends
  |error e=>
   rw [hl] at ht;have b  :=bne_iff_ne.2 (ZQ _ _ _ _ hl);unfold fm;rw [ht,ah];simp [Lx.res,b,cp,N6]
end Sy
variable {v : zn}
namespace Sp
theorem amN(d:Nat)(h:d<10):Lx.yc (UInt8.ofNat (48+d))=d/\Lx.isDigit (UInt8.ofNat (48+d))=true:=by
 have:d=0\/d=1\/d=2\/d=3\/d=4\/d=5\/d=6\/d=7\/d=8\/d=9:=by omega
 rcases this with rfl|rfl|rfl|rfl|rfl|rfl|rfl|rfl|rfl|rfl <;> exact ⟨rfl,rfl⟩
theorem N7:∀(N n:Nat),n<=N->Lx.gb 0 (Lib.decDigits n)=n/\(Lib.decDigits n).all Lx.isDigit=true/\Lib.decDigits n≠[]:=by
 intro N
 induction N with
 |zero=>
  intro n h;obtain rfl:n=0:=by omega
  rw [Lib.decDigits,qX (by omega)];exact ⟨rfl,rfl,by simp⟩
 |succ N ih=>
  intro n h;rw [Lib.decDigits];grind [amN,Bool.and_self,Lx.yc,UInt8.ofNat,Lx.gb]
theorem anP{m n:Nat}(h:Lib.decDigits m=Lib.decDigits n):m=n:=by have b:=(N7 m m (c8 _)).1;have a:=(N7 n n (c8 _)).1;grind
theorem OA{c:UInt8}(h:Lx.isDigit c=true):c≠45/\c≠32:=by constructor <;> (intro e;subst e;cases h)
theorem SA(n:Nat):∀c∈Lib.decDigits n,Lx.isDigit c=true:=λc a=>List.all_eq_true.1 (N7 n n (c8 _)).2.1 c a
theorem ajr{x y:Int}(h:Lib.itoa x=Lib.itoa y):x=y:=by
 have a:∀(m n:Nat),Lib.decDigits m≠45::Lib.decDigits n:=λm n e=>by have:=SA m 45 (by rw [e];simp);exact (OA this).1 rfl
 grind [Lib.itoa,anP,List.cons.inj,absurd]
theorem UJ(x:Int):∀c∈Lib.itoa x,c≠32:=by
 intro c a;unfold Lib.itoa at a;split at a
 .rcases List.mem_cons.1 a with rfl|a
  .decide
  .exact (OA (SA _ c a)).2
 .exact (OA (SA _ c a)).2
theorem FC:∀(k u:Nat),u<10^(k+1)->Lib.nDigits u<=k+1
 |0,u,h=>by grind [Lib.nDigits_small]
 |k+1,u,h=>by
  by_cases a:u<10
  .grind [Lib.nDigits_small]
  .rw [Lib.nDigits_big a];have:=FC k (u/10) (by grind);omega
theorem UE{n:Int}(b: -9223372036854775808<=n)(a:n<=9223372036854775807):(Lib.itoa n).length<=20:=by
 unfold Lib.itoa;split
 .rw [ei,Lib.decDigits_length];have:=FC 18 n.natAbs (by omega);omega
 .rw [Lib.decDigits_length];have:=FC 18 n.toNat (by omega);omega
def eU(v:zn):aE:=v.flatMap λn=>Lib.itoa n++[32]
theorem amc{a b r s:aE}(ha:∀c∈a,c≠32)(hb:∀c∈b,c≠32)(h:a++32::r=b++32::s):a=b/\r=s:=by
 induction a generalizing b with
 |nil=>
  cases b with
  |nil=>grind
  |cons c b=>grind
 |cons c a ih=>
  cases b with
  |nil=>grind
  |cons d b=>
   grind
theorem Oy:∀{a b:zn},eU a=eU b->a=b
 |[],[],_=>rfl
 |[],y::b,h=>by
  simp_all [eU,congrArg]
 |x::a,[],h=>by
  simp_all [eU,congrArg]
 |x::a,y::b,h=>by simp [eU,qS,cb] at h;obtain ⟨d,c⟩:=amc (UJ x) (UJ y) h;rw [ajr d,Oy c]
theorem text_cat(a b:zn):eU (a++b)=eU a++eU b:=by simp [eU]
theorem Jv(s:aE):strOf (aP s)=s:=by
 induction s with
 |nil=>rfl
 |cons c s ih=>
  simp_all [strOf,aP,eT]
theorem NQ(a b:aE):aP (a++b)=aP a++aP b:=by simp [aP]
theorem FL(s:aE):(aP s).length=s.length:=by simp [aP]
def uC(v:zn):Prop:= ∀n∈v,-9223372036854775808<=n/\n<=9223372036854775807
theorem WJ(h:uC v):(eU v).length<=21*v.length:=by
 induction v with
 |nil=>simp [eU]
 |cons n v ih=>
  have a:=h n (by simp);have:=UE a.1 a.2;have:=ih (λm hm=>h m (b7 _ hm));grind [eU,List.length_append,List.length_cons,List.length_nil]
theorem copy_eq(f:Bool)(l:zn):iI f l=some true:=by cases f <;> rfl
theorem apQ{s:aE}{l:zn}(f:Bool)(h:l.length+s.length<=140737488355328):gJ s f l=some ((s.length:Int),true,l++aP s):=by grind [gJ,copy_eq,ah,Sy.aN,Sy.cO]
theorem aqi{l:zn}(c:Int)(f:Bool)(h:l.length+1<=140737488355328):iK c f l=some (true,l++[c]):=by grind [iK,copy_eq,ah,Sy.aN,Sy.cO]
theorem ahM(f:Bool){s:aE}(h:aP s≠[]):j4 f (aP s)=some s:=by
 have e  :=Jv s;cases hb:aP s with
 |nil=>exact absurd hb h
 |cons c l=>
  rw [hb] at e;unfold j4;rw [show idx (c::l) 0=some c from rfl,ah,Sy.aN (by simp),e]
theorem an4{x:Int}(h:Xx x=true):Wi x=some (Lib.itoa x):=Sy.aN h _
theorem Ur(v:zn)(b:uC v)(hl:v.length<1000000000)(a:v≠[]):∀(r pre:zn),v=pre++r->∀(M:Nat) (f:Bool),r.length<M->
  ao (xO v) M (f,aP (eU pre),(pre.length:Int))=some (eU v)
 |[],pre,h,M,f,hM=>by
  obtain ⟨m,rfl⟩:∃m,M=m+1:=⟨M-1,by omega⟩;rw [au];have e  :=by simpa using h.symm
  subst e;simp only [xO,c9 (show ¬((pre.length:Int)<(List.length pre)) by omega),ca];rw [ahM,ah];cases pre with
  |nil=>exact absurd rfl a
  |cons x r=>
   have:(aP (eU (x::r))).length≠0:=by rw [FL];simp [eU]
   grind
 |x::r,pre,h,M,f,hM=>by
  obtain ⟨m,rfl⟩:∃m,M=m+1:=⟨M-1,by omega⟩;rw [au];have hx:=b x (by rw [h];simp);have hi  :=Zt.2 hx;have hp:uC pre:=λn hn=>b n (by grind);have hb:=WJ hp;have c:=UE hx.1 hx.2;have ih:=Ur v b hl a r (pre++[x]) (by rw [h];simp) m true (by simp at hM;omega);have d:aP (eU (pre++[x]))=(aP (eU pre)++aP (Lib.itoa x))++[32]:=by simp [eU,qS,NQ,cb];rfl
  simp [xO,Sy.js h,ah,an4 hi];grind [apQ,FL,ah,aqi,List.length_append,Pa.cz]
theorem ann(b:uC v)(hl:v.length<1000000000)(a:v≠[]):Lm v=some (eU v):=
 Ur v b hl a v [] rfl ay false (by show v.length<2^64;omega)
def fX(l:x3)(v:zn):x3:=if l.contains v then l else l++[v]
def cU(acc l:x3):x3:=l.foldl fX acc
def Seen(l:x3)(at_:Option (List (aE×Bool))):Prop:=(at_=none->l=[])/\∀v,dW at_ (eU v) false=l.contains v
theorem akt:Seen [] none:=⟨λ_=>rfl,λa=>rfl⟩
theorem Ei(l:List (aE×Bool))(k a:aE):(oh (lz l k true) a).getD false=((a==k)||(oh l a).getD false):=by
 induction l with
 |nil=>
  grind [lz,oh]
 |cons p l ih=>
  simp [lz];cases b:(k==p.1)
  .simp [ca,oh];grind
  .simp [cp,oh];grind
theorem add_eq{l:x3}{at_:Option (List (aE×Bool))}(f:uC v)(hl:v.length<1000000000)(c:v≠[])(g:l.length<1000000000)(b:Seen l at_):
  ∃at',ng v l at_=some (fX l v,at')/\Seen (fX l v) at':=by
 have k1:aH (List.length l+List.length ([v])) 24=true:=Sy.cO (by simp;omega) (by simp;omega);have key:∀a:List (aE×Bool),Seen l (some a)->∃at',vf v l (some a)=some (fX l v,at')/\Seen (fX l v) at':=λa b=>by
  unfold vf;rw [ann f hl c,ah,b.2 v];unfold fX;cases i:l.contains v
  .simp only [Sy.aN k1,e9];refine ⟨_,rfl,(λh=>by cases h),λu=>?_⟩;have d:=b.2 u;unfold dW at d ⊢;simp at d ⊢;rw [Ei,d];have e:(eU u==eU v)=(u==v):=by grind [beq_eq_false_iff_ne,Oy]
   grind
  grind
 cases at_ with
 |none=>
  refine key [] ⟨(λh=>by cases h),λu=>?_⟩;exact b.2 u
 |some a=>
  exact key a b
theorem yS(l:x3)(v:zn):(fX l v).length<=l.length+1:=by grind [fX]
theorem Ov{l:x3}{u:zn}:u∈fX l v↔u∈l\/u=v:=by unfold fX;grind
theorem ae3{l:x3}(h:l.Nodup)(v:zn):(fX l v).Nodup:=by
 unfold fX;split
 .exact h
 next c=>rw [List.nodup_append];refine ⟨h,by simp,λa ha b hb=>?_⟩;rw [List.mem_singleton.1 hb];intro e;subst e;exact c (by simpa using ha)
theorem vA:∀(m l:x3),(cU l m).length<=l.length+m.length
 |[],l=>by simp [cU]
 |v::m,l=>by have:=vA m (fX l v);grind [yS,cU,List.length_cons]
theorem jP{u:zn}:∀{m l:x3},u∈cU l m↔u∈l\/u∈m
 |[],l=>by simp [cU]
 |v::m,l=>by have:=jP (u:=u) (m:=m) (l:=fX l v);grind [cU,Ov]
theorem Qx:∀{m l:x3},l.Nodup->(cU l m).Nodup
 |[],l,h=>h
 |v::m,l,h=>by have:=Qx (m:=m) (ae3 h v);simpa only [cU,List.foldl_cons] using this
theorem Z4:∀(m l:x3),l <+: cU l m
 |[],l=>qY _
 |v::m,l=>by have a:=Z4 m (fX l v);grind [fX,List.prefix_refl,List.prefix_append,cU]
end Sp
theorem aiX(b:Bool):xB b=some (tr b):=by cases b <;> rfl
theorem K3(k:Ex×zn->zf)(e:Ex)(v:zn)(d:Int×Int×Int->zf)(a b t:Int)(h:¬t<(List.length (aT e.l 0 (min (List.length e.l:Int) 2)):Int)):
  dX k e v d (a,b,t)=some (Nf e.op e.n v a b):=by
 simp [dX,c9 h,aV,C4,Cw,Dw,CL,Dh,aiX,Nf];cases r:(decide (e.n<0)||decide ((List.length v)<=e.n))
 .have q:idx v e.n=some (v.getD e.n.toNat 0):=by simp_all [idx,b9]
  rw [q];generalize (e.op==1)=p;generalize (e.op==2)=o;generalize (e.op==3)=m;generalize (e.op==5)=i;generalize (e.op==6)=g;generalize (e.op==4)=j;generalize (e.op==8)=b8;generalize (e.op==7)=f;generalize (e.op==19)=c;cases p
  case true=>rfl
  cases o
  case true=>rfl
  cases m
  case true=>rfl
  cases i
  case true=>rfl
  cases g
  case true=>rfl
  cases j
  case true=>rfl
  cases b8
  case true=>rfl
  cases f
  case true=>rfl
  cases c
  case true=>rfl
  grind
 .generalize (e.op==1)=p;generalize (e.op==2)=o;generalize (e.op==3)=m;generalize (e.op==5)=i;generalize (e.op==6)=g;generalize (e.op==4)=j;generalize (e.op==8)=b8;generalize (e.op==7)=f;generalize (e.op==19)=c;cases p
  case true=>rfl
  cases o
  case true=>rfl
  cases m
  case true=>rfl
  cases i
  case true=>rfl
  cases g
  case true=>rfl
  cases j
  case true=>rfl
  cases b8
  case true=>rfl
  cases f
  case true=>rfl
  cases c
  case true=>rfl
  grind
theorem ao2(k:Ex×zn->zf)(e:Ex)(v:zn)(hk:∀x∈e.l,k (x,v)=some (ev v x)):uG k e v=some (ev v e):=by
 unfold uG;have d:cR 0 (min (List.length e.l) 2) (List.length e.l)=true:=vu.2 ⟨⟨qV _,by omega⟩,by omega⟩;rw [d,aeo];show ao (dX k e v) ay (0,0,0)=_;rw [show ay=18446744073709551613+1+1+1 from rfl];generalize 18446744073709551613=N;rw [au];obtain ⟨op,n,a,l⟩:=e
 match l,hk with
 |[],_=>exact K3 k (.mk op n a []) v _ 0 0 0 (by show ¬(0:Int)<((List.length (aT ([]:List Ex) 0 _):Nat));simp [aT])
 |[x],hk=>
  have hx:=hk x (by simp [Ex.l]);have hl:aT [x] 0 (min (List.length [x]) 2)=[x]:=rfl;have b:dX k (.mk op n a [x]) v (ao (dX k (.mk op n a [x]) v) (N+1+1)) (0,0,0)=ao (dX k (.mk op n a [x]) v) (N+1+1) (ev v x,0,1):=by show (k (x,v)).bind _=_;rw [hx];rfl
  rw [b,au];exact K3 k (.mk op n a [x]) v _ (ev v x) 0 1 (by show ¬(1:Int)<(List.length (aT [x] 0 (min (List.length [x]:Int) 2)));rw [hl];simp)
 |x::y::r,hk=>
  have hx:=hk x (by simp [Ex.l]);have c:=hk y (by simp [Ex.l]);have hm:min (List.length (x::y::r):Int) 2=2:=by grind
  have hl:aT (x::y::r) 0 2=[x,y]:=rfl;have b:dX k (.mk op n a (x::y::r)) v (ao (dX k (.mk op n a (x::y::r)) v) (N+1+1)) (0,0,0)=ao (dX k (.mk op n a (x::y::r)) v) (N+1+1) (ev v x,0,1):=by show (bif decide ((0:Int)<(List.length (aT (x::y::r) 0 (min (List.length (x::y::r):Int) 2)))) then (idx (aT (x::y::r) 0 (min (List.length (x::y::r)) 2)) 0).bind _ else _)=_;rw [hm,hl];show (k (x,v)).bind _=_;rw [hx];rfl
  have f:dX k (.mk op n a (x::y::r)) v (ao (dX k (.mk op n a (x::y::r)) v) (N+1)) (ev v x,0,1)=ao (dX k (.mk op n a (x::y::r)) v) (N+1) (ev v x,ev v y,2):=by show (bif decide ((1:Int)<(List.length (aT (x::y::r) 0 (min (List.length (x::y::r):Int) 2)))) then (idx (aT (x::y::r) 0 (min (List.length (x::y::r)) 2)) 1).bind _ else _)=_;rw [hm,hl];show (k (y,v)).bind _=_;rw [c];rfl
  rw [b,au,f,au];exact K3 k (.mk op n a (x::y::r)) v _ (ev v x) (ev v y) 2 (by grind [List.length,aT,min])
theorem agt:∀(N:Nat) (e:Ex) (v:zn),e.sz<=N->ao (λk (s:Ex×zn)=>uG k s.1 s.2) N (e,v)=some (ev v e):=by
 intro N
 induction N with
 |zero=>grind [Gg]
 |succ N ih=>
  intro e v h;exact ao2 _ e v (λx hx=>ih x v (by have:=HW hx;omega))
theorem SU(e:Ex)(h:e.sz<4611686018427387904)(v:zn):px e v=some (ev v e):=agt ay e v (by show e.sz<=2^64;omega)
namespace Sp
def fits:yr->zn->Bool
 |s::S,n::w=>(decide (s.1<=n)&&decide (n<=s.2))&&fits S w
 |_,_=>true
def KI(v w:zn)(s:Int×Ex):zn:=w.set s.1.toNat (ev v s.2)
def aeO(v:zn)(c:Sy.aS):zn:=c.2.2.foldl (KI v) v
theorem O4(v w:zn)(s:Int×Ex):(KI v w s).length=w.length:=by simp [KI]
theorem Vd(v:zn):∀(l:List (Int×Ex)) (w:zn),(l.foldl (KI v) w).length=w.length
 |[],w=>rfl
 |s::l,w=>by rw [List.foldl_cons,Vd v l,O4]
theorem Ki(v:zn)(c:Sy.aS):(aeO v c).length=v.length:=Vd _ _ _
def fin(S:yr)(w:zn):zn×Int:=bif fits S w then (w,0) else ([],6)
def mg(v:zn):Nat->List Sy.aS->zn
 |_,[]=>[]
 |k,c::r=>if ev v c.2.1=1 then (k:Int)::mg v (k+1) r else mg v (k+1) r
def Xe(v:zn)(l:List Sy.aS):List Sy.aS:=l.filter λc=>decide (ev v c.2.1=1)
def eW(cmds:List Sy.aS)(v:zn)(i:Int):zn:=match cmds[i.toNat]? with|some c=>aeO v c|none=>v
def Mi(S:yr)(cmds:List Sy.aS)(v:zn)(k:Int):zn×Int:=
 if k<0\/(cmds.length:Int)<=k then ([],10) else fin S (eW cmds v k)
def goes(v:zn)(cmds:List Sy.aS):x3:=(Xe v cmds).map (aeO v)
def L7(S:yr)(v:zn)(ws:x3):x3×Int:=
 if ws=[] then ([v],0) else bif ws.all (fits S) then (cU [] ws,0) else ([],6)
def bN(S:yr)(cmds:List Sy.aS)(v:zn):x3×Int:=L7 S v (goes v cmds)
structure SafeS(S:yr)(C:List Sy.aS):Prop where
 pos:1<=S.length
 dz:S.length<=16
 field:∀f∈S,Sy.L9 f
 cmds:C.length<=300
 guard:∀c∈C,c.2.1.sz<1000000
 sets:∀c∈C,c.2.2.length<=65537/\∀s∈c.2.2,0<=s.1/\s.1<S.length/\s.2.sz<1000000
structure ki(S:yr)(v:zn):Prop where
 len:v.length=S.length
 fit:fits S v=true
theorem Xv:∀{S:yr} {v:zn},v.length=S.length->(∀f∈S,Sy.L9 f)->fits S v=true->uC v
 |[],[],_,_,_=>λn hn=>by cases hn
 |[],_::_,h,_,_=>by simp at h
 |_::_,[],h,_,_=>by simp at h
 |s::S,x::w,h,hS,a=>by
  simp [fits,an,gj] at a;have b:=hS s (by simp);intro n hn;rcases List.mem_cons.1 hn with rfl|hn
  .have:=b.lo;have:=b.hi;omega
  .exact Xv (by simpa using h) (λf a=>hS f (b7 _ a)) a.2 n hn
theorem ki.i64{S:yr}{cmds:List Sy.aS}(h:ki S v)(a:SafeS S cmds):uC v:=Xv h.len a.field h.fit
theorem ki.ne{S:yr}{cmds:List Sy.aS}(h:ki S v)(a:SafeS S cmds):v≠[]:=λe=>by have:=h.len;have:=a.pos;grind
theorem ki.short{S:yr}{cmds:List Sy.aS}(h:ki S v)(a:SafeS S cmds):v.length<1000000000:=by have:=h.len;have:=a.dz;omega
theorem aok(s:Int×Int)(n:Int):kF s n=some (decide (s.1<=n)&&decide (n<=s.2)):=rfl
theorem ab2(S:yr)(w:zn):∀(r pre:zn) (rs ps:yr),w=pre++r->S=ps++rs->ps.length=pre.length->rs.length=r.length->w.length<1000->
  ∀M,r.length<M->ao (rM S w) M (pre.length:Int)=some (bif fits rs r then 0 else 5)
 |[],pre,rs,ps,h,hS,hl,hr,hw,M,hM=>by
  obtain ⟨m,rfl⟩:∃m,M=m+1:=⟨M-1,by omega⟩;rw [au];simp only [rM,Sy.pN h];have  :=ej hr;subst this;rfl
 |x::r,pre,[],ps,h,hS,hl,hr,hw,M,hM=>by simp at hr
 |x::r,pre,s::rs,ps,h,hS,hl,hr,hw,M,hM=>by
  obtain ⟨m,rfl⟩:∃m,M=m+1:=⟨M-1,by omega⟩;rw [au];have b:idx S (pre.length)=some s:=by grind [Sy.js]
  have a:pre.length+r.length+1=w.length:=by rw [h];simp;omega
  have ih:=ab2 S w r (pre++[x]) rs (ps++[s]) (by rw [h];simp) (by rw [hS];simp) (by simp;omega) (by simpa using hr) hw m (by simp at hM;omega);simp [rM,Sy.js h,aok,Pa.cz (show pre.length<4611686018427387904 by omega),fits];grind
theorem aqb(S:yr)(w:zn)(hl:w.length=S.length)(a:w.length<1000):sH S w=some (bif fits S w then 0 else 5):=by unfold sH;rw [show ((List.length w:Int) != (List.length S))=false by rw [hl];simp,ca];exact ab2 S w w [] S [] rfl rfl rfl hl.symm a ay (by show w.length<2^64;omega)
theorem pa(l:List α)(i:Int)(b:0<=i)(a:i<l.length):∃x,idx l i=some x/\l[i.toNat]? =some x:=by simp_all [idx]
theorem UK(m:Sy.bn)(v:zn)(e:Sy.aS)(hn:v.length=m.2.1.length)(c:v.length<1000)(d:e.2.2.length<=65537)(a:∀s∈e.2.2,0<=s.1/\s.1<m.2.1.length/\s.2.sz<1000000):
  ∀(r pre:List (Int×Ex)),e.2.2=pre++r->∀(w:zn) (M:Nat),w.length=v.length->r.length<M->
   ao (w7 m v e) M (w,(pre.length:Int))=some (fin m.2.1 (r.foldl (KI v) w))
 |[],pre,h,w,M,hw,hM=>by
  obtain ⟨k,rfl⟩:∃k,M=k+1:=⟨M-1,by omega⟩;rw [au];simp [w7,fin];grind [aqb,ah,fits]
 |s::r,pre,h,w,M,hw,hM=>by
  obtain ⟨k,rfl⟩:∃k,M=k+1:=⟨M-1,by omega⟩;rw [au];obtain ⟨f,i,g⟩:=a s (by rw [h];simp);have b:pre.length+r.length+1=e.2.2.length:=by rw [h];simp;omega
  obtain ⟨x,hx,_⟩:=pa w s.1 f (by omega);have ih:=UK m v e hn c d a r (pre++[s]) (by rw [h];simp) (KI v w s) k (by rw [O4,hw]) (by simp at hM;omega);rw [show ((pre++[s]).length)=((pre.length+1:Nat)) by simp] at ih;simp only [w7,Sy.pC h,Sy.js h,ah];rw [SU s.2 (by omega) v];simp [hx,Pa.cz (show pre.length<4611686018427387904 by omega)];exact ih
theorem OR(v:zn)(h:v.length<1000000000):bw v=some v:=by grind [bw,Sy.aN,Sy.cO]
theorem amZ{m:Sy.bn}(hm:SafeS m.2.1 m.2.2.2.2)(hn:v.length=m.2.1.length)(k:Int):Ez m v k=some (Mi m.2.1 m.2.2.2.2 v k):=by
 have d:v.length<1000:=by have:=hm.dz;omega
 unfold Ez;simp [aV];unfold Mi;by_cases hk:k<0\/(m.2.2.2.2.length)<=k
 .grind
 .rw [de hk];rw [show (decide (k<0)||decide ((List.length m.2.2.2.2)<=k))=false by grind,ca];obtain ⟨c,e,b⟩:=pa m.2.2.2.2 k (by omega) (by omega);rw [OR v (by omega),ah,e,ah];have a  :=gr b;have:=UK m v c hn d (hm.sets c a).1 (hm.sets c a).2 c.2.2 [] rfl v ay rfl (by have:=(hm.sets c a).1;show _<2^64;omega);rw [show (0:Int)=((([]:List (Int×Ex)).length:Nat)) from rfl,this];unfold eW;rw [b];rfl
theorem acQ(m:Sy.bn)(v:zn)(hm:SafeS m.2.1 m.2.2.2.2):∀(r pre:List Sy.aS),m.2.2.2.2=pre++r->∀(out:zn) (M:Nat),out.length<=pre.length->r.length<M->
  ao (rI m v) M (out,(pre.length:Int))=some (out++mg v pre.length r)
 |[],pre,h,out,M,a,hM=>by
  obtain ⟨k,rfl⟩:∃k,M=k+1:=⟨M-1,by omega⟩;simp_all [au,rI,mg]
 |c::r,pre,h,out,M,a,hM=>by
  obtain ⟨k,rfl⟩:∃k,M=k+1:=⟨M-1,by omega⟩;rw [au];have b:pre.length+r.length+1=m.2.2.2.2.length:=by rw [h];simp;omega
  have f:=hm.cmds;have e:=hm.guard c (by rw [h];simp);simp only [rI,Sy.pC h,Sy.js h,ah];rw [SU c.2.1 (by omega) v,ah];have ih:=λout a=>acQ m v hm r (pre++[c]) (by rw [h];simp) out k a (by simp at hM;omega);rw [show ((pre++[c]).length:Int)=((pre.length+1:Nat)) by simp,show (pre++[c]).length=pre.length+1 by simp] at ih;simp only [Pa.cz (show pre.length<4611686018427387904 by omega),mg];by_cases d:ev v c.2.1=1
  .rw [du d,show (ev v c.2.1==1)=true by simpa using d,cp,Sy.aN (Sy.cO (by simp;omega) (by simp;omega)),ih _ (by simp;omega),cb];rfl
  grind
theorem apP{m:Sy.bn}(hm:SafeS m.2.1 m.2.2.2.2):CN m v=some (mg v 0 m.2.2.2.2):=
 acQ m v hm m.2.2.2.2 [] rfl [] ay (c8 _) (by have:=hm.cmds;show _<2^64;omega)
theorem G3(v:zn):∀(r:List Sy.aS) (k:Nat),(mg v k r).length=(Xe v r).length
 |[],k=>rfl
 |c::r,k=>by
  unfold mg Xe;rw [tw];by_cases a:ev v c.2.1=1
  .rw [du a,du (by simpa using a),ei,ei,G3 v r];rfl
  .rw [de a,de (by simpa using a),G3 v r];rfl
theorem abk{v:zn}{i:Int}:∀{r:List Sy.aS} {k:Nat},i∈mg v k r->∃(j:Nat) (c:Sy.aS),i=((k+j:Nat):Int)/\r[j]? =some c/\ev v c.2.1=1
 |[],k,h=>by simp [mg] at h
 |c::r,k,h=>by
  unfold mg at h;have a:i∈mg v (k+1) r->∃(j:Nat) (d:Sy.aS),i=((k+j:Nat))/\(c::r)[j]? =some d/\ev v d.2.1=1:=λh=>by obtain ⟨j,d,g,f,e⟩:=abk h;exact ⟨j+1,d,by omega,by simpa using f,e⟩
  by_cases b:ev v c.2.1=1
  .rw [du b] at h;rcases List.mem_cons.1 h with rfl|h
   .exact ⟨0,c,rfl,rfl,b⟩
   .exact a h
  grind
theorem S8(v:zn)(cmds:List Sy.aS):∀(r pre:List Sy.aS),cmds=pre++r->(mg v pre.length r).map (eW cmds v)=goes v r
 |[],pre,h=>rfl
 |c::r,pre,h=>by
  have ih:=S8 v cmds r (pre++[c]) (by rw [h];simp);rw [show (pre++[c]).length=pre.length+1 by simp] at ih;unfold mg goes Xe;rw [tw];by_cases a:ev v c.2.1=1
  .rw [du a,du (by simpa using a),eT,eT,ih];unfold eW;rw [show ((pre.length:Int)).toNat=pre.length from rfl,show cmds[pre.length]? =some c by rw [h];simp];rfl
  .rw [de a,de (by simpa using a),ih];rfl
theorem ajX{w:zn}{cmds:List Sy.aS}(h:w∈goes v cmds):w.length=v.length:=by obtain ⟨c,_,rfl⟩:=List.mem_map.1 h;exact Ki v c
theorem ak9(v:zn)(cmds:List Sy.aS):(goes v cmds).length<=cmds.length:=by grind [goes,Xe,List.length_map,List.length_filter_le]
theorem afN{cmds:List Sy.aS}{i:Int}(h:i∈mg v 0 cmds):0<=i/\i<cmds.length:=by obtain ⟨j,c,rfl,a,_⟩:=abk h;grind
theorem yR{S:yr}{cmds:List Sy.aS}(b:ki S v):∀w∈(bN S cmds v).1,ki S w:=by
 intro w a;unfold bN L7 at a;split at a
 .grind
 .cases ha:(goes v cmds).all (fits S) <;> rw [ha] at a
  .cases a
  .rcases jP.1 a with h|h
   .cases h
   .exact ⟨by rw [ajX h];exact b.len,List.all_eq_true.1 ha w h⟩
theorem Ej{S:yr}{cmds:List Sy.aS}(v:zn):(bN S cmds v).1.length<=cmds.length+1:=by grind [bN,L7,goes,fits,vA,ak9]
end Sp
namespace Sp
theorem akO{S:yr}{C:List Sy.aS}(hm:SafeS S C)(c:ki S v){l:x3}{at_:Option (List (aE×Bool))}(f:Seen l at_)(k:x3->Option (List (aE×Bool))->Option (x3×Int))(hk:∀l a,k l a=some (l,0)):
  (bif ((List.length l:Int)==0) then ((bw v).bind λd=>(ng d l at_).bind λb=>k b.1 b.2) else some (l,0))=some (if l=[] then [v] else l,0):=by
 by_cases h:l=[]
 .subst h;rw [show ((List.length ([]):Int)==0)=true from rfl,cp,OR v (c.short hm),ah];obtain ⟨i,g,_⟩:=add_eq (c.i64 hm) (c.short hm) (c.ne hm) (by simp) f;rw [g,ah,hk];rfl
 .have e:((List.length l)==0)=false:=by simp_all
  grind
theorem Ai(m:Sy.bn)(v:zn)(hm:SafeS m.2.1 m.2.2.2.2)(b:ki m.2.1 v)(L:zn)(p:∀i∈L,0<=i/\i<m.2.2.2.2.length)(g:L.length<=300):
  ∀(r pre:zn),L=pre++r->∀(c:Int) (l:x3) (at_:Option (List (aE×Bool))) (M:Nat),Seen l at_->l.length<=pre.length->r.length<M->
   ao (xt v (m.1,m.2.1,m.2.2.1,m.2.2.2.1,m.2.2.2.2,v) L) M ((pre.length:Int),c,l,at_)=
    some (if (r.map (eW m.2.2.2.2 v)).all (fits m.2.1)=true then (if cU l (r.map (eW m.2.2.2.2 v))=[] then [v] else cU l (r.map (eW m.2.2.2.2 v)),0) else ([],6))
 |[],pre,h,c,l,at_,M,hs,hl,hM=>by
  obtain ⟨k,rfl⟩:∃k,M=k+1:=⟨M-1,by omega⟩;rw [au];simp only [xt,Sy.pN h];exact akO hm b hs (λl _=>some (l,0)) (λ_ _=>rfl)
 |i::r,pre,h,c,l,at_,M,hs,hl,hM=>by
  obtain ⟨k,rfl⟩:∃k,M=k+1:=⟨M-1,by omega⟩;rw [au];have o:pre.length+r.length+1=L.length:=by rw [h];simp;omega
  obtain ⟨e,d⟩:=p i (by rw [h];simp);simp only [xt,Sy.pC h,cp,Sy.js h,ah,ko];rw [show (m.1,m.2.1,m.2.2.1,m.2.2.2.1,m.2.2.2.2)=m from rfl,amZ hm b.len i];unfold Mi;rw [de (by omega),ah];unfold fin;rw [eT,qp];obtain ⟨x,_,t⟩:=pa m.2.2.2.2 i e d;have f:(eW m.2.2.2.2 v i).length=m.2.1.length:=by unfold eW;rw [t,<-b.len];exact Ki v x
  cases s:fits m.2.1 (eW m.2.2.2.2 v i)
  .grind
  .have a:ki m.2.1 (eW m.2.2.2.2 v i):=⟨f,s⟩;obtain ⟨j,w,u⟩:=add_eq (a.i64 hm) (a.short hm) (a.ne hm) (by omega) hs;have q:=yS l (eW m.2.2.2.2 v i);have n:=Ai m v hm b L p g r (pre++[i]) (by rw [h];simp) c (fX l (eW m.2.2.2.2 v i)) j k u (by simp;omega) (by simp at hM;omega);rw [show ((pre++[i]).length)=((pre.length+1:Nat)) by simp] at n;rw [cp,show ((0:Int) != 0)=false from rfl,ca];simp only [w,ah,Pa.cz (show pre.length<4611686018427387904 by omega)];rw [n,mi];rfl
theorem amr{m:Sy.bn}(hm:SafeS m.2.1 m.2.2.2.2)(h:ki m.2.1 v):ER m v=some (bN m.2.1 m.2.2.2.2 v):=by
 have b:(mg v 0 m.2.2.2.2).length<=300:=by rw [G3];have:=qQ (λc:Sy.aS=>decide (ev v c.2.1=1)) m.2.2.2.2;have:=hm.cmds;unfold Xe;omega
 have f:=Ai m v hm h (mg v 0 m.2.2.2.2) (λi hi=>afN hi) b (mg v 0 m.2.2.2.2) [] rfl 0 [] none ay akt (c8 _) (by show _<2^64;omega);have a:(mg v 0 m.2.2.2.2).map (eW m.2.2.2.2 v)=goes v m.2.2.2.2:=S8 v m.2.2.2.2 m.2.2.2.2 [] rfl;rw [a] at f;unfold ER Jc;rw [ah];rw [show (m.1,m.2.1,m.2.2.1,m.2.2.2.1,m.2.2.2.2)=m from rfl,apP hm,ah];rw [show ((([]:zn).length):Int)=0 from rfl] at f;rw [f];unfold bN L7;cases ha:(goes v m.2.2.2.2).all (fits m.2.1)
 .grind
 .rw [du rfl,cp];by_cases d:goes v m.2.2.2.2=[]
  .rw [du d,du (by rw [d];rfl)]
  .rw [de d,de];intro e;cases g:goes v m.2.2.2.2 with
   |nil=>exact d g
   |cons x r=>
    have:x∈cU [] (x::r):=jP.2 (.inr (by simp));grind
end Sp
variable {k : Nat} {q : Int}
namespace Pd
open Sp
theorem abR{l:zn}{u:Nat}(a:u<18446744073709551616)(hl:l.length<100000000000):Qz l (u:Int) 10=some (l++aP (Lib.decDigits u)):=by
 unfold Qz;rw [show ((10:Int)==10)=true from rfl,cy (by omega),cy (by omega),mi,mi,mi,
  Sy.aN (Sy.cO (by omega) (by omega)),lk]
theorem apR{x:Int}(b:0<=x)(a:x<18446744073709551616):u64.wrap x=x:=by rw [IntKind.wrap_u64];omega
theorem amy{l:zn}{i:Int}(c: -9223372036854775808<=i)(b:i<=9223372036854775807)(hl:l.length<10000000000):lq l i 10=some (l++aP (Lib.itoa i)):=by
 unfold lq jA;simp only [aV];by_cases hi:i<0
 .rw [cy hi,cp,Sy.aN (Sy.cO (by simp;omega) (by simp;omega))];obtain ⟨u,rfl⟩:∃u:Nat,i= -(u):=⟨i.natAbs,by omega⟩;have a:u64.wrap (0-u64.wrap (-(u)))=(u):=by grind [IntKind.wrap_u64]
  unfold im;rw [a,abR (by omega) (by simp;omega),ah,ah,show Lib.itoa (-(u))=45::Lib.decDigits u from by simp_all [Lib.itoa]];simp [aP]
 .rw [c9 hi,ca];obtain ⟨u,rfl⟩:∃u:Nat,i=(u):=⟨i.toNat,by omega⟩;unfold im;rw [apR (by omega) (by omega),abR (by omega) (by omega),ah,ah,show Lib.itoa (u)=Lib.decDigits u from by simp_all [Lib.itoa]]
def keyOf(v:zn):aE:=v.flatMap λn=>32::Lib.itoa n
theorem ZW(v:zn):keyOf v++[32]=32::eU v:=by
 induction v with
 |nil=>rfl
 |cons x r ih=>
  grind [keyOf,eU,List.append_assoc]
theorem key_inj{a b:zn}(h:keyOf a=keyOf b):a=b:=by grind [keyOf,ZW,Oy,List.cons.inj]
theorem anA(a b:zn):keyOf (a++b)=keyOf a++keyOf b:=by simp [keyOf]
theorem anb(h:uC v):(keyOf v).length<=21*v.length:=by have a:=congrArg List.length (ZW v);grind [WJ]
def tB(l:x3)(at_:Option (List (aE×Bool))):Prop:=(at_=none->l=[])/\∀v,dW at_ (keyOf v) false=l.contains v
theorem UU:tB [] none:=⟨λ_=>rfl,λa=>rfl⟩
theorem amp{x:zn}{l:x3}{a:List (aE×Bool)}(f:l.length<1000000000)(d:tB l (some a)):
  ∃at',(bif (!(dW (some a) (strOf (aP (keyOf x))) false)) then ((some a).bind λb=>aM (aH (List.length l+List.length ([x]:x3)) 24)<|some ((l++([x]:x3)),(some (lz b (strOf (aP (keyOf x))) true)))) else some (l,some a))=some (fX l x,at')/\tB (fX l x) at':=by
 have k1:aH (List.length l+List.length ([x])) 24=true:=Sy.cO (by simp;omega) (by simp;omega);rw [Jv,d.2 x];unfold fX;cases g:l.contains x
 .simp only [Sy.aN k1,e9];refine ⟨_,rfl,(λh=>by cases h),λu=>?_⟩;have c:=d.2 u;unfold dW at c ⊢;simp at c ⊢;rw [Ei,c];have e:(keyOf u==keyOf x)=(u==x):=by grind [beq_eq_false_iff_ne,key_inj]
  grind
 grind
theorem Oj{x:zn}(hx:uC x)(hl:x.length<100000000){l:x3}{c:List (aE×Bool)}(b:l.length<1000000000)(d:tB l (some c)):
  ∀(r pre:zn),x=pre++r->∀M,r.length<M->∃a,ao (rV x l (some c)) M (aP (keyOf pre),(pre.length:Int))=some (fX l x,a)/\tB (fX l x) a
 |[],pre,h,M,hM=>by
  obtain ⟨m,rfl⟩:∃m,M=m+1:=⟨M-1,by omega⟩;rw [au];simp only [rV,Sy.pN h];have e:pre=x:=by rw [h];simp
  rw [e];exact amp b d
 |n::r,pre,h,M,hM=>by
  obtain ⟨m,rfl⟩:∃m,M=m+1:=⟨M-1,by omega⟩;rw [au];have hn:=hx n (by rw [h];simp);have hp:uC pre:=λn hn=>hx n (by grind);have hk:=anb hp;obtain ⟨a,g,f⟩:=Oj hx hl b d r (pre++[n]) (by rw [h];simp) m (by simp at hM;omega);have i:aP (keyOf (pre++[n]))=(aP (keyOf pre)++[32])++aP (Lib.itoa n):=by rw [anA,NQ];simp [keyOf,qS,List.flatMap_nil,ma,cb];rfl
  simp [rV,Sy.js h];grind [Sy.aN,Sy.cO,FL,amy,List.length_append,ah,Pa.cz]
structure Row(x:zn):Prop where
 i64:uC x
 short:x.length<100000000
theorem add_eq{x:zn}(hx:Row x){l:x3}{at_:Option (List (aE×Bool))}(a:l.length<1000000000)(b:tB l at_):
  ∃at',sb x l at_=some (fX l x,at')/\tB (fX l x) at':=by
 cases at_ with
 |none=>
  exact Oj hx.i64 hx.short a ⟨(λh=>by cases h),λu=>b.2 u⟩ x [] rfl ay (by have:=hx.short;show _<2^64;omega)
 |some c=>
  exact Oj hx.i64 hx.short a b x [] rfl ay (by have:=hx.short;show _<2^64;omega)
abbrev Au:=List (List Ex)×x3×zn×x3
structure sI(a:Au)(k:Nat):Prop where
 lits:a.1.length=k
 next:a.2.1.length=k
 dz:k<=5000
 row:∀l∈a.1,l.length<=5000/\∀e∈l,e.sz<1000000
 init:a.2.2.1.length<=5000/\∀q∈a.2.2.1,0<=q/\q<k
 nxt:∀l∈a.2.1,l.length<=5000/\∀q∈l,0<=q/\q<k
def ZR(a:Au)(q:Int):List Ex:=(a.1[q.toNat]?).getD []
def sy(a:Au)(q:Int):zn:=(a.2.1[q.toNat]?).getD []
def ny(a:Au)(q:Int)(v:zn):Bool:=(ZR a q).all λe=>ev v e==1
theorem Vm(s:List Ex)(v:zn)(d:s.length<=5000)(b:∀e∈s,e.sz<1000000):∀(r pre:List Ex),s=pre++r->∀M,r.length<M->
  ∃i:Int,ao (dD s v) M (pre.length:Int)=some i/\decide (0<=i)= !(r.all λe=>ev v e==1)
 |[],pre,h,M,hM=>by
  obtain ⟨m,rfl⟩:∃m,M=m+1:=⟨M-1,by omega⟩;rw [au];simp only [dD,Sy.pN h];exact ⟨_,rfl,rfl⟩
 |e::r,pre,h,M,hM=>by
  obtain ⟨m,rfl⟩:∃m,M=m+1:=⟨M-1,by omega⟩;rw [au];have a:pre.length+r.length+1=s.length:=by rw [h];simp;omega
  have c:=b e (by rw [h];simp);obtain ⟨i,g,f⟩:=Vm s v d b r (pre++[e]) (by rw [h];simp) m (by simp at hM;omega);simp [dD,Sy.js h,ah,yZ,SU e (by omega) v,Pa.cz (show pre.length<4611686018427387904 by omega)];grind
theorem RX{l:List α}(hl:l.length=k)(h:0<=q/\q<k):∃x,idx l q=some x/\l[q.toNat]? =some x/\x∈l:=by simp_all [idx]
theorem abp{a:Au}(ha:sI a k){q:Int}(b:0<=q/\q<k)(v:zn):Ck a q v=some (ny a q v):=by obtain ⟨s,j,h,e⟩:=RX ha.lits b;obtain ⟨d,c⟩:=ha.row s e;obtain ⟨i,g,f⟩:=Vm s v d c s [] rfl ay (by show _<2^64;omega);unfold Ck fG gC ny ZR;grind
def dE(a:Au)(v:zn)(qs:zn):x3:=(qs.filter λq=>ny a q v).map λq=>v++[q]
theorem LI{a:Au}{qs:zn}:(dE a v qs).length<=qs.length:=by grind [dE,List.length_map,List.length_filter_le]
theorem Qb{a:Au}{v qs:zn}{q:Int}:dE a v (q::qs)=if ny a q v then (v++[q])::dE a v qs else dE a v qs:=by grind [dE]
theorem ajJ(a:uC v)(hl:v.length<1000000)(hk:k<=5000)(b:0<=q/\q<k):Row (v++[q]):=
 ⟨λn hn=>by
  rcases List.mem_append.1 hn with h|h
  .exact a n h
  grind,by simp;omega⟩
theorem Od{l a b:x3}:cU l (a++b)=cU (cU l a) b:=by simp [cU]
theorem acG{a:Au}(ha:sI a k){v:zn}(g:uC v)(hl:v.length<1000000){q:Int}(i:0<=q/\q<k){l:x3}{at_:Option (List (aE×Bool))}(j:l.length<100000000)(h:tB l at_){R:Type}(d go:x3->Option (List (aE×Bool))->Option R):
  ∃c,(bif ny a q v then ((bw v).bind λe=>aM (aH (List.length e+List.length ([q]:zn)) 8)<|(sb (e++([q]:zn)) l at_).bind λb=>ai (!true) λf=>bif f then d b.1 b.2 else go b.1 b.2) else go l at_)=
   go (if ny a q v then fX l (v++[q]) else l) c/\tB (if ny a q v then fX l (v++[q]) else l) c:=by
 cases o:ny a q v
 .grind
 .obtain ⟨c,n,m⟩:=add_eq (ajJ g hl ha.dz i) (by omega) h;refine ⟨c,?_,m⟩;rw [cp,OR v (by omega),ah,Sy.aN (Sy.cO (by simp;omega) (by simp;omega)),n,ah];rfl
theorem Vn{a:Au}{k:Nat}(ha:sI a k){v:zn}(e:uC v)(hl:v.length<1000000)(qs:zn)(c:qs.length<=5000)(f:∀q∈qs,0<=q/\q<k):∀(r pre:zn),qs=pre++r->∀(l:x3) (at_:Option (List (aE×Bool))) (M:Nat),tB l at_->l.length<=pre.length->r.length<M->
  ao (sV (qs,a.1,a.2.1,a.2.2.1,a.2.2.2,v)) M ((pre.length:Int),l,at_)=some (cU l (dE a v r))
 |[],pre,h,l,at_,M,hs,hll,hM=>by
  obtain ⟨m,rfl⟩:∃m,M=m+1:=⟨M-1,by omega⟩;rw [au];simp only [sV,Sy.pN h];rfl
 |q::r,pre,h,l,at_,M,hs,hll,hM=>by
  obtain ⟨m,rfl⟩:∃m,M=m+1:=⟨M-1,by omega⟩;rw [au];have g:pre.length+r.length+1=qs.length:=by rw [h];simp;omega
  have b:=f q (by rw [h];simp);simp only [sV,Sy.pC h,Sy.js h,ah];rw [show (a.1,a.2.1,a.2.2.1,a.2.2.2)=a from rfl,abp ha b,ah,Pa.cz (by omega)];obtain ⟨d,n,j⟩:=acG ha e hl b (by omega) hs (λl _=>some l) (λl o=>ao (sV (qs,a.1,a.2.1,a.2.2.1,a.2.2.2,v)) m (((pre.length+1:Nat)),l,o));rw [n,Qb];have i:(if ny a q v then fX l (v++[q]) else l).length<=pre.length+1:=by grind [yS]
  have ih:=Vn ha e hl qs c f r (pre++[q]) (by rw [h];simp) _ d m j (by simp;omega) (by simp at hM;omega);rw [show ((pre++[q]).length)=((pre.length+1:Nat)) by simp] at ih;rw [ih];cases ny a q v <;> rfl
theorem anO{m:Sy.bn}(hm:SafeS m.2.1 m.2.2.2.2)(hi:ki m.2.1 m.2.2.1){a:Au}{k:Nat}(ha:sI a k):Ap m a=some (cU [] (dE a m.2.2.1 a.2.2.1)):=by unfold Ap Am;rw [ah];have b:=hi.len;have c:=hm.dz;exact Vn ha (hi.i64 hm) (by omega) a.2.2.1 ha.init.1 ha.init.2 a.2.2.1 [] rfl [] none ay UU (c8 _) (by have:=ha.init.1;show _<2^64;omega)
theorem abt{a:Au}{k:Nat}(ha:sI a k){v:zn}(g:uC v)(hl:v.length<1000000)(t:Int)(b:x3×(Option (List (aE×Bool)))×Int->Option (x3×Int))(qs:zn)(e:qs.length<=5000)(i:∀q∈qs,0<=q/\q<k):
  ∀(r pre:zn),qs=pre++r->∀(l:x3) (at_:Option (List (aE×Bool))) (M:Nat),tB l at_->l.length<=10000000+pre.length->r.length<M->
  ∃c,ao (sD t b (qs,a.1,a.2.1,a.2.2.1,a.2.2.2,v)) M ((pre.length:Int),l,at_)=b (cU l (dE a v r),c,IntKind.i64.wrap (t+1))/\tB (cU l (dE a v r)) c
 |[],pre,h,l,at_,M,hs,hll,hM=>by
  obtain ⟨m,rfl⟩:∃m,M=m+1:=⟨M-1,by omega⟩;rw [au];simp only [sD,Sy.pN h];exact ⟨at_,rfl,hs⟩
 |q::r,pre,h,l,at_,M,hs,hll,hM=>by
  obtain ⟨m,rfl⟩:∃m,M=m+1:=⟨M-1,by omega⟩;rw [au];have j:pre.length+r.length+1=qs.length:=by rw [h];simp;omega
  have d:=i q (by rw [h];simp);simp only [sD,Sy.pC h,Sy.js h,ah];rw [show (a.1,a.2.1,a.2.2.1,a.2.2.2)=a from rfl,abp ha d,ah,Pa.cz (by omega)];obtain ⟨c,s,p⟩:=acG ha g hl d (by omega) hs (λl f=>b (l,f,IntKind.i64.wrap (t+1))) (λl f=>ao (sD t b (qs,a.1,a.2.1,a.2.2.1,a.2.2.2,v)) m (((pre.length+1:Nat)),l,f));rw [s,Qb];have n:(if ny a q v then fX l (v++[q]) else l).length<=10000000+(pre.length+1):=by grind [yS]
  have ih:=abt ha g hl t b qs e i r (pre++[q]) (by rw [h];simp) _ c m p (by simp;omega) (by simp at hM;omega);rw [show ((pre++[q]).length)=((pre.length+1:Nat)) by simp] at ih;cases o:ny a q v <;> rw [o] at ih <;> exact ih
def oF(a:Au)(qs:zn)(ws:x3):x3:=ws.flatMap λw=>dE a w qs
theorem KT{a:Au}{qs:zn}(h:qs.length<=5000):∀ws:x3,(oF a qs ws).length<=5000*ws.length
 |[]=>by simp [oF]
 |w::ws=>by have:=KT (a:=a) h ws;grind [LI,oF,List.length_append,List.length_cons]
theorem Ai{a:Au}{k:Nat}(ha:sI a k){r11:zn×Int}{b:x3×Int}(i:0<=r11.2/\r11.2<k)(g:∀w∈b.1,uC w/\w.length<1000000)(hn:b.1.length<=1000):
  ∀(r pre:x3),b.1=pre++r->∀(l:x3) (at_:Option (List (aE×Bool))) (M:Nat),tB l at_->l.length<=5000*pre.length->r.length<M->
   ao (sw a r11 b) M (l,at_,(pre.length:Int))=some (cU l (oF a (sy a r11.2) r),0)
 |[],pre,h,l,at_,M,hs,hll,hM=>by
  obtain ⟨m,rfl⟩:∃m,M=m+1:=⟨M-1,by omega⟩;rw [au];simp only [sw,Sy.pN h];rfl
 |w::r,pre,h,l,at_,M,hs,hll,hM=>by
  obtain ⟨m,rfl⟩:∃m,M=m+1:=⟨M-1,by omega⟩;rw [au];have j:pre.length+r.length+1=b.1.length:=by rw [h];simp;omega
  obtain ⟨qs,t,u,s⟩:=RX ha.next i;have c:=ha.nxt qs s;have p:sy a r11.2=qs:=by grind [sy]
  obtain ⟨e,d⟩:=g w (by rw [h];simp);simp [sw,Sy.js h,ah,t,Am];obtain ⟨f,n,q⟩:=abt ha e d (pre.length) (ao (sw a r11 b) m) qs c.1 c.2 qs [] rfl l at_ ay hs (by omega) (by show _<2^64;omega);rw [show ((([]:zn).length):Int)=0 from rfl] at n;rw [n,Pa.cz (by omega)];have hd:=vA (dE a w qs) l;have o:=LI (a:=a) (v:=w) (qs:=qs);have ih:=Ai ha i g hn r (pre++[w]) (by rw [h];simp) _ f m q (by simp;omega) (by simp at hM;omega);grind [oF,Od]
def EX(m:Sy.bn)(a:Au)(v:zn)(q:Int):x3×Int:=
 if (bN m.2.1 m.2.2.2.2 v).2=0 then (cU [] (oF a (sy a q) (bN m.2.1 m.2.2.2.2 v).1),0) else ([],(bN m.2.1 m.2.2.2.2 v).2)
theorem abH{n:Nat}:kf 0 (n:Int) (n:Int) (n+1)=true:=by grind [kf]
theorem Zc(b:v.length<1000000):wS (v++[q])=some (v,q):=by
 unfold wS;have a:IntKind.i64.wrap ((List.length (v++[q]))-1)=(v.length):=by grind [bR]
 rw [a,show (v++[q]).length=v.length+1 by simp,Sy.aN (by rw [abH];simp)];have c:idx (v++[q]) (v.length)=some q:=by unfold idx;grind
 simp_all [aT]
theorem aiu{m:Sy.bn}(hm:SafeS m.2.1 m.2.2.2.2){v:zn}(b:ki m.2.1 v){a:Au}{k:Nat}(ha:sI a k){q:Int}(f:0<=q/\q<k):vP m a (v++[q])=some (EX m a v q):=by
 have g:=b.len;have h:=hm.dz;have d:=Ej (S:=m.2.1) (cmds:=m.2.2.2.2) v;have i:=hm.cmds;unfold vP EX;rw [Zc (by omega),ah,amr hm b,ah];by_cases c:(bN m.2.1 m.2.2.2.2 v).2=0
 .rw [du c,show ((bN m.2.1 m.2.2.2.2 v).2 != 0)=false by simpa using c,ca];have:=Ai ha (r11:=(v,q)) f (λw e=>by have hi:=yR b w e;have:=hi.len;exact ⟨hi.i64 hm,by omega⟩) (by omega) (bN m.2.1 m.2.2.2.2 v).1 [] rfl [] none ay UU (pF _) (by show _<2^64;omega)
  exact this
 grind
def St(m:Sy.bn)(k:Nat)(x:zn):Prop:= ∃v q,x=v++[q]/\ki m.2.1 v/\0<=q/\q<(k:Int)
def bO(m:Sy.bn)(a:Au)(x:zn):x3×Int:=EX m a x.dropLast (x.getLastD 0)
theorem CA(m:Sy.bn)(a:Au)(v:zn)(q:Int):bO m a (v++[q])=EX m a v q:=by unfold bO;grind
theorem aix{m:Sy.bn}(hm:SafeS m.2.1 m.2.2.2.2){a:Au}{k:Nat}(ha:sI a k){x:zn}(hx:St m k x):vP m a x=some (bO m a x):=by obtain ⟨v,q,rfl,b,d,c⟩:=hx;grind [CA,aiu]
theorem Eu{a:Au}{qs y:zn}(h:y∈dE a v qs):∃q,q∈qs/\ny a q v=true/\y=v++[q]:=by unfold dE at h;grind
theorem UT{a:Au}{k:Nat}(ha:sI a k){q:Int}(b:0<=q/\q<k):(sy a q).length<=5000/\∀p∈sy a q,0<=p/\p<(k:Int):=by obtain ⟨qs,e,d,c⟩:=RX ha.next b;unfold sy;rw [d];exact ha.nxt qs c
theorem ajc{m:Sy.bn}{a:Au}(ha:sI a k){x:zn}(hx:St m k x):∀y∈(bO m a x).1,St m k y:=by
 obtain ⟨v,q,rfl,e,g,f⟩:=hx;rw [CA];intro y b;unfold EX at b;split at b
 .rcases jP.1 b with h|h
  .cases h
  .obtain ⟨w,d,c⟩:=List.mem_flatMap.1 h;obtain ⟨p,hp,_,rfl⟩:=Eu c;have:=(UT ha ⟨g,f⟩).2 p hp;exact ⟨w,p,rfl,yR e w d,this.1,this.2⟩
 .cases b
theorem vS{m:Sy.bn}(hm:SafeS m.2.1 m.2.2.2.2){a:Au}{k:Nat}(ha:sI a k){x:zn}(hx:St m k x):(bO m a x).1.length<=2000000:=by
 obtain ⟨v,q,rfl,d,c,b⟩:=hx;rw [CA];unfold EX;split
 .have h:=vA (oF a (sy a q) (bN m.2.1 m.2.2.2.2 v).1) [];have g:=KT (a:=a) (UT ha ⟨c,b⟩).1 (bN m.2.1 m.2.2.2.2 v).1;have f:=Ej (S:=m.2.1) (cmds:=m.2.2.2.2) v;have e:=hm.cmds;grind
 .simp
end Pd
end
end Go.Proofs.YtcgihjbfppkcfaaGreatDoor
