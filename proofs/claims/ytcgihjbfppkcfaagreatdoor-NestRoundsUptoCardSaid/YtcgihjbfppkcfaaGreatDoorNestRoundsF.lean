/-
  Own texts for the statement NestRounds, cut down to what it needs: Model. (cut and joined by a program)
-/
import Derived.Test.YtcgihjbfppkcfaaGreatDoorNestRoundsE
set_option linter.unusedVariables false
set_option linter.unusedSimpArgs false
namespace Go.Proofs.YtcgihjbfppkcfaaGreatDoor
open IntKind (i64 u32 u64 u8)
abbrev Q1:=(zj)
abbrev Q2:=((Int×(List (w5×Int))×Int×Int×Q1)×(Int×(List (w5×Int))×Int×Int×Q1)×(Int×(List (w5×Int))×Int×Int×Q1))
abbrev Q3:=(Int×w5×Int×((Int×(List Q1)×Q1)×Q1)×((List (Int×(List Q1)×Q1))×(Int×(List Q1)×Q1)×Q1)×((List (Int×(List Q1)×Q1))×Q1)×Q2×(Int×Int×Int×(Q1×Q1×Q1)))
abbrev Q4:=(w5)
abbrev Q5:=(List (Int×Ex×(List (Int×Ex))))
abbrev Q6:=(Int×(List Q1)×Q1)
abbrev Q7:=(List (Int×aE×Int×Int))
abbrev Q8:=(Int×Q4×Int×Int×(List Q1)×Q1×Q1×(List Q6)×Int×(List Q1)×Q1×Q1×(List Q6)×Q1×Int×(List (Q4×Int))×Int×Int×Q1×Int×(List (Q4×Int))×Int×Int×Q1×Int×(List (Q4×Int))×Int×Int×Q1×Int×Int×Int×Q1×Q1×Q1)
abbrev Q9:=((List (List Ex))×(List Q1)×Q1×(List Q1))
abbrev iS:=((List aE)×Q4×Q1×(List aE)×Q5)
abbrev cD:=(List (Q4×Int))
abbrev fD:=(Ex×Int×Int×Int)
abbrev bp:=(List aE)
abbrev tW:=(Int×Int×Int×(Q1×Q1×Q1))
abbrev GH:=(Option (List (Int×Bool)))
abbrev Ai:=(Int×Int×Q7×Int×bp×Int×Int)
abbrev x5:=(Option (List (aE×Bool)))
abbrev Q18:=(Except (Int×Q1) (Bool×Int×Q4×Int×Int×(List Q1)×Q1×Q1×(List Q6)×Int×(List Q1)×Q1×Q1×(List Q6)×Q1×Int×cD×Int×Int×Q1×Int×cD×Int×Int×Q1×Int×cD×Int×Int×Q1×Int×Int×Int×Q1×Q1×Q1))
abbrev kW:=(Int×Int×Int)
abbrev tD:=(Int×aE×Int×Int)
abbrev lu:=((List Q1)×Int)
abbrev u5:=(Int×Q5×Int×Int)
abbrev Ab:=((List Q6)×Q6×Q1)
abbrev fR:=(Q1×Int)
abbrev Aa:=(List (Q1×(List Q1)))
abbrev y4:=((List Q1)×(List Q1))
abbrev jk:=(Int×Int)
abbrev W8:=(Int×Int×Int×(List (Int×Ex))×Bool)
abbrev F8:=(Int×Int×Int×Int)
abbrev w7:=(Q7×Int×Int)
abbrev Pe:=(Int×cD×Int×Int×Q1)
abbrev Q32:=(Int×Q4×Int×Int×(List Q1)×Q1×Q1×(List Q6)×Int×(List Q1)×Q1×Q1×(List Q6)×Q1×Int×cD×Int×Int×Q1×Int×cD×Int×Int×Q1×Int×cD×Int×Int×Q1×Int×Int×Int×Q1×Q1×Q1×Aa)
abbrev K7:=(Int×cD×Q1×GH)
abbrev Q34:=(Int×Int×Int×Int×Int×Int)
abbrev Sg:=(List (Int×Ex))
abbrev H3:=(iS×Int×Int)
abbrev Q37:=(Int×bp×Q4×Q1×bp×Q5×Int×Int)
abbrev Lg:=(List (List Ex))
abbrev Q39:=(Int×Int×Int×Int×Int×Int×Int×Int)
abbrev xl:=(Ex×Int)
abbrev Q41:=(Int×Q1×Int×cD×Int×Int×Q1×GH)
abbrev Eu:=(Int×Bool)
abbrev Fe:=(Bool×Int)
abbrev Ni:=((List Q6)×Q1)
abbrev Q45:=(Int×Int×cD×Int×Int×Q1×GH)
abbrev DJ:=(Int×Q1)
abbrev Q47:=(Int×Q1×(List Q6))
abbrev F5:=(Q3×Int)
abbrev Q49:=(Q3×Bool×Int)
abbrev Q50:=(Q1×Lg×(List Q1)×Q1×(List Q1)×Q1)
abbrev Q51:=(Ab×Bool×Int)
abbrev Q52:=(Int×Ex×Sg)
abbrev Q53:=(Int×(List Q6))
abbrev Q54:=((List Q1)×x5)
abbrev d8{a b c d e f g h i:Type}(x:a×b×c×d×e×f×g×h×i):i:=x.2.2.2.2.2.2.2.2
noncomputable section
def vI:zj:=[1,10,100,1000,10000,100000,1000000,10000000,100000000,1000000000,10000000000,100000000000,1000000000000,10000000000000,100000000000000,1000000000000000,10000000000000000,100000000000000000,1000000000000000000,10000000000000000000]
def YA(n:Int):Option aE:=aN (ZL n) (some (Lib.itoa n))
def Ua(l:zj)(u b:Int):Option Q1:=aN ((b==10)&&(decide (0<=u)&&decide (u<=18446744073709551615))&&aH (List.length l+24) 1) (some (l++aQ (Lib.decDigits (Int.toNat u))))
def VE{α:Type}(b:Nat)(s:List α)(k:Int)(y:List α):Option (List α):=match y with
 |[]=>none
 |y0::ys=>aN (Ca k (List.length s)&&aH (List.length s+List.length (y0::ys)) b) (some (na s k (y0::ys)))
def aiP(d:Int)(c:Int)(b:Int)(a:Int):Bool:=d==b&&c==a
def gm(c:Int):zb:=
ai (c==9) λt=>
ai (c==10) λs=>
ai (t||s) λr=>
ai (c==13) λq=>
ai (r||q) λp=>
ai (c==32) λo=>
ai (p||o) λn=>
bif n then (
some 0) else (
ai (decide (97<=c)) λm=>
ai (decide (c<=122)) λl=>
ai (m&&l) λk=>
ai (decide (65<=c)) λj=>
ai (decide (c<=90)) λi=>
ai (j&&i) λh=>
ai (k||h) λg=>
ai (c==95) λf=>
ai (g||f) λe=>
bif e then (
some 1) else (
ai (decide (48<=c)) λd=>
ai (decide (c<=57)) λb=>
ai (d&&b) λa=>
bif a then (
some 2) else (
some 3)))
def sL:Option bp:=
some ([[60,45,62],[45,62],[61,61],[33,61],[60,61],[62,61],[60],[62],[61],[43],[45],[42],[40],[41],[123],[125],[59],[44],[58],[38],[124],[33]]:List aE)
def gP(text:aE)(d:Q7)(c:(Q7×Int)->Option w7)(b:Int->Option w7)(a:Int):Option w7:=
ai (decide (a<(text.length:Int))) λe=>
KG e (um a (List.length text))<|
ai ((mS text a) != 10) λg=>
ai (e&&g) λf=>
bif f then (
b (i64.wrap (a+1))) else (
c (d,a))
def eV(text:aE)(f:Q7)(b:Int)(e:(Q7×Int)->Option w7)(d:Int->Option w7)(a:Int):Option w7:=
ai (decide (a<(text.length:Int))) λc=>
KG c (um a (List.length text))<|
bC c default (gm (mS text a)) λi=>
ai (i==1) λg=>
KG (c&& !g) (um a (List.length text))<|
bC (c&& !g) default (gm (mS text a)) λh=>
ai (h==2) λl=>
ai (g||l) λk=>
ai (c&&k) λj=>
bif j then (
d (i64.wrap (a+1))) else (
bif decide (32<(i64.wrap (a-b))) then some ([],9,b) else aN (cZ b a (List.length text))<|
aN (aH (List.length f+List.length ([(1,(cut text b a),0,b)]:List tD)) 40)<|
e ((f++([(1,(cut text b a),0,b)]:List tD)),a))
def eU(text:aE)(f:Q7)(d:Int)(e:(Q7×Int)->Option w7)(b:jk->Option w7):Int×Int->Option w7:=λ⟨a,c⟩=>
ai (decide (a<(text.length:Int))) λg=>
KG g (um a (List.length text))<|
bC g default (gm (mS text a)) λh=>
ai (h==2) λj=>
ai (g&&j) λi=>
bif i then (
bif decide (c<=1073741824) then aN (um a (List.length text))<|
b ((i64.wrap (a+1)),(i64.wrap ((i64.wrap ((i64.wrap (10*c))+(i64.wrap (mS text a))))-48))) else b ((i64.wrap (a+1)),c)) else (
bif decide (1073741824<c) then some ([],9,d) else aN (cZ d a (List.length text))<|
aN (aH (List.length f+List.length ([(2,(cut text d a),c,d)]:List tD)) 40)<|
e ((f++([(2,(cut text d a),c,d)]:List tD)),a))
def bT(text:aE)(h:Q7)(d:Int)(g:(Q7×Int)->Option w7)(f:bp)(c:(aE×Int)->Option w7):aE×Int->Option w7:=λ⟨b,a⟩=>
ai (decide (a<(f.length:Int))) λq=>
ai (b==[]) λp=>
ai (q&&p) λo=>
bif o then (
(idx f a).bind λl=>
ai (decide ((l.length:Int)<=(i64.wrap ((text.length:Int)-d)))) λe=>
bC e [] (idx f a) λi=>
KG e (cZ d (i64.wrap (d+(i.length:Int))) (List.length text))<|
bC e [] (idx f a) λk=>
ai ((cut text d (i64.wrap (d+(i.length:Int))))==k) λn=>
ai (e&&n) λm=>
bif m then (
(idx f a).bind λj=>
c (j,(i64.wrap (a+1)))) else (
c (b,(i64.wrap (a+1))))) else (
bif b==[] then some ([],2,d) else aN (aH (List.length h+List.length ([(3,b,0,d)]:List tD)) 40)<|
g ((h++([(3,b,0,d)]:List tD)),(i64.wrap (d+(b.length:Int)))))
def jZ(text:aE)(a:(Q7×Int)->Option w7):Q7×Int->Option w7:=λ⟨c,b⟩=>
bif decide (b<(text.length:Int)) then aN (um b (List.length text))<|
(gm (mS text b)).bind λd=>
bif d==0 then a (c,(i64.wrap (b+1))) else aN (um b (List.length text))<|
bif (mS text b)==35 then aj (gP text c a) au b else bif d==1 then aj (eV text c b a) au b else bif d==2 then aj (eU text c b a) au (b,0) else (sL).bind λe=>
aj (bT text c b a e) au ([],0) else aN (aH (List.length c+List.length ([(4,[],0,(text.length:Int))]:List tD)) 40)<|
some ((c++([(4,[],0,(text.length:Int))]:List tD)),0,0)
def gF(text:aE):Option w7:=
bif decide (65536<(text.length:Int)) then some ([],9,0) else aj (jZ text) au ([],0)
def bU(kind:Int)(text:aE)(l:Q7)(at_:Int)(e:bp)(b:Q4)(j:Q1)(d:bp)(m:Q5)(g:Int)(c:Int):x3:=
ai (g==0) λk=>
bC k (0,[],0,0) (idx l at_) λn=>
ai (n.1==kind) λo=>
ai (k&&o) λa=>
bC a (0,[],0,0) (idx l at_) λf=>
ai (f.2.1==text) λi=>
ai (a&&i) λh=>
some h
def xO(a:Bool):x3:=
bif a then (
some true) else (
some false)
def jK(a:aE):x3:=
ai (λ(c:Bool)=>xO c) λb=>
bif a==[116,114,117,101] then b (a==[116,114,117,101]) else bif a==[102,97,108,115,101] then b (a==[102,97,108,115,101]) else bif a==[88] then b (a==[88]) else bif a==[70] then b (a==[70]) else bif a==[71] then b (a==[71]) else bif a==[85] then b (a==[85]) else bif a==[82] then b (a==[82]) else bif a==[118,97,114] then b (a==[118,97,114]) else b (a==[112,114,111,99])
def aJ(g:Int)(c:Int)(k:Q7)(i:Int)(f:bp)(d:Q4)(h:Q1)(e:bp)(j:Q5)(b:Int)(a:Int):Option jk:=
bif b==0 then some (g,c) else some (b,a)
def fI(l:bp)(b:aE)(a:Int->zb)(c:Int):zb:=
bif decide (c<(l.length:Int)) then (idx l c).bind λd=>
bif d==b then some c else a (i64.wrap (c+1)) else some (-1)
def cQ(l:bp)(a:aE):zb:=
aj (fI l a) au 0
def gQ(full:Bool)(l:Q7)(at_:Int)(d:bp)(b:Q4)(g:Q1)(c:bp)(aT:Q5)(e:Int)(a:Int):Option (aE×Int×Int×Int):=
(idx l at_).bind λf=>
(jK f.2.1).bind λk=>
bif f.1 != 1 then (aJ 2 f.2.2.2 l at_ d b g c aT e a).bind λj=>
some (f.2.1,at_,j.1,j.2) else bC (!k) default (cQ d f.2.1) λo=>
ai (decide (0<=o)) λr=>
ai (k||r) λm=>
bC (!m) default (cQ c f.2.1) λn=>
ai (decide (0<=n)) λq=>
ai (m||q) λp=>
bif p then (
(aJ 3 f.2.2.2 l at_ d b g c aT e a).bind λi=>
some (f.2.1,at_,i.1,i.2)) else (
bif full then (
(aJ 9 f.2.2.2 l at_ d b g c aT e a).bind λh=>
some (f.2.1,at_,h.1,h.2)) else (
bif e==0 then some (f.2.1,(i64.wrap (at_+1)),e,a) else some (f.2.1,at_,e,a)))
def bq(l:Q7)(at_:Int)(d:bp)(a:Q4)(e:Q1)(c:bp)(g:Q5)(f:Int)(b:Int):zb:=
(idx l at_).bind λh=>
some h.2.2.2
def bN(text:aE)(l:Q7)(at_:Int)(d:bp)(b:Q4)(e:Q1)(c:bp)(aT:Q5)(f:Int)(a:Int):Option kW:=
(bU 3 text l at_ d b e c aT f a).bind λi=>
bif !i then (bq l at_ d b e c aT f a).bind λh=>
(aJ 2 h l at_ d b e c aT f a).bind λg=>
some (at_,g.1,g.2) else some ((i64.wrap (at_+1)),f,a)
def ml(a:Int):x3:=
ai (a==1) λj=>
ai (a==2) λi=>
ai (j||i) λh=>
ai (a==5) λg=>
ai (h||g) λf=>
ai (a==6) λe=>
ai (f||e) λd=>
ai (a==10) λc=>
ai (d||c) λb=>
some b
def bF(e:Int)(l:Q7)(at_:Int)(c:bp)(a:Int)(b:Int):Option (Ex×Int×Int):=
bif a==0 then (idx l at_).bind λd=>
some ((Ex.mk 0 0 0 []),e,d.2.2.2) else some ((Ex.mk 0 0 0 []),a,b)
def eA(l:Q7)(at_:Int)(names:bp)(f:Int)(a:Int)(e:tD)(b:Int->Option fD)(c:Int):Option fD:=
bif decide (c<(names.length:Int)) then (idx names c).bind λg=>
bif g==e.2.1 then some ((Ex.mk 2 c e.2.2.2 []),(i64.wrap (at_+1)),f,a) else b (i64.wrap (c+1)) else (bF 3 l at_ names f a).bind λd=>
some (d.1,at_,d.2.1,d.2.2)
def dY(A:Ai->Option fD)(g:Int)(l:Q7)(at_:Int)(names:bp)(d:Int)(c:Int):Option fD:=
(idx l at_).bind λb=>
bif b.1==2 then some ((Ex.mk 1 b.2.2.1 b.2.2.2 []),(i64.wrap (at_+1)),d,c) else ai (b.1==1) λz=>
ai (b.2.1==[116,114,117,101]) λy=>
ai (z&&y) λx=>
bif x then (
some ((Ex.mk 13 0 b.2.2.2 []),(i64.wrap (at_+1)),d,c)) else (
ai (b.1==1) λw=>
ai (b.2.1==[102,97,108,115,101]) λv=>
ai (w&&v) λu=>
bif u then (
some ((Ex.mk 14 0 b.2.2.2 []),(i64.wrap (at_+1)),d,c)) else (
(jK b.2.1).bind λi=>
ai (b.1==1) λt=>
ai (!i) λs=>
ai (t&&s) λr=>
bif r then (
aj (eA l at_ names d c b) au 0) else (
ai (b.1 != 3) λq=>
ai (b.2.1 != [40]) λp=>
ai (q||p) λo=>
bif o then (
(bF 2 l at_ names d c).bind λf=>
some (f.1,at_,f.2.1,f.2.2)) else (
(A (1,g,l,(i64.wrap (at_+1)),names,d,c)).bind λa=>
bif a.2.2.1 != 0 then some ((Ex.mk 0 0 0 []),a.2.1,a.2.2.1,a.2.2.2) else (idx l a.2.1).bind λk=>
ai (k.1 != 3) λh=>
bC (!h) (0,[],0,0) (idx l a.2.1) λj=>
ai (j.2.1 != [41]) λn=>
ai (h||n) λm=>
bif m then (
(bF 2 l a.2.1 names a.2.2.1 a.2.2.2).bind λe=>
some (e.1,a.2.1,e.2.1,e.2.2)) else (
some (a.1,(i64.wrap (a.2.1+1)),a.2.2.1,a.2.2.2))))))
def bL(t:tD)(a:Int->zb)(b:Int):zb:=
bif decide (b<6) then (idx ([[61,61],[33,61],[60],[60,61],[62],[62,61]]:List aE) b).bind λc=>
bif t.2.1==c then some (i64.wrap (7+b)) else a (i64.wrap (b+1)) else some 0
def cV(t:tD)(a:Int):zb:=
ai (t.1 != 2) λd=>
ai (t.1 != 4) λc=>
ai (d&&c) λb=>
bif b then (
bif a==1 then bif t.2.1==[60,45,62] then some 19 else some 0 else bif a==2 then bif t.2.1==[45,62] then some 18 else some 0 else bif a==3 then bif t.2.1==[124] then some 17 else some 0 else bif a==4 then bif t.2.1==[38] then some 16 else some 0 else bif a==5 then bif t.2.1==[85] then some 23 else bif t.2.1==[82] then some 24 else some 0 else bif a==7 then aj (bL t) au 0 else bif a==8 then bif t.2.1==[43] then some 3 else bif t.2.1==[45] then some 4 else some 0 else bif a==9 then bif t.2.1==[42] then some 5 else some 0 else some 0) else (
some 0)
def jS(h:Ai->Option fD)(l:Q7)(at_:Int)(names:bp)(f:Int)(b:Int)(a:Int)(g:tD)(e:Int):Option fD:=
bif e==0 then (h (7,a,l,at_,names,f,b)).bind λd=>
some (d.1,d.2.1,d.2.2.1,d.2.2.2) else (h (6,a,l,(i64.wrap (at_+1)),names,f,b)).bind λc=>
some ((Ex.mk e 0 g.2.2.2 ([c.1]:List Ex)),c.2.1,c.2.2.1,c.2.2.2)
def py(k:Ai->Option fD)(l:Q7)(at_:Int)(names:bp)(g:Int)(c:Int)(a:Int)(d:tD)(f:Int):Option fD:=
ai (λ(e:Int)=>jS k l at_ names g c a d e) λb=>
ai (d.1==1) λj=>
ai (d.2.1==[71]) λi=>
ai (j&&i) λh=>
bif h then (
b 22) else (
b f)
def pw(k:Ai->Option fD)(l:Q7)(at_:Int)(names:bp)(g:Int)(c:Int)(a:Int)(d:tD)(f:Int):Option fD:=
ai (λ(e:Int)=>py k l at_ names g c a d e) λb=>
ai (d.1==1) λj=>
ai (d.2.1==[70]) λi=>
ai (j&&i) λh=>
bif h then (
b 21) else (
b f)
def da(k:Ai->Option fD)(l:Q7)(at_:Int)(names:bp)(g:Int)(c:Int)(a:Int)(d:tD)(f:Int):Option fD:=
ai (λ(e:Int)=>pw k l at_ names g c a d e) λb=>
ai (d.1==1) λj=>
ai (d.2.1==[88]) λi=>
ai (j&&i) λh=>
bif h then (
b 20) else (
b f)
def df(u:Ai->Option fD)(a:Int)(l:Q7)(names:bp)(m:Int)(o:(Int×Int×Int×Int×Int×Int×(List Ex))->Option fD):Int×Int×Int×Int×Int×Int×(List Ex)->Option fD:=λ⟨h,g,n,f,e,d,c⟩=>
bif g==0 then (idx l h).bind λk=>
(cV k a).bind λj=>
bif j==0 then some ((Ex.mk f e d c),h,g,n) else ai (a==1) λt=>
ai (a==2) λs=>
ai (t||s) λr=>
ai (a==5) λq=>
ai (r||q) λp=>
bif p then (
(u (a,m,l,(i64.wrap (h+1)),names,g,n)).bind λi=>
some ((Ex.mk j 0 k.2.2.2 ([(Ex.mk f e d c),i.1]:List Ex)),i.2.1,i.2.2.1,i.2.2.2)) else (
(u ((i64.wrap (a+1)),m,l,(i64.wrap (h+1)),names,g,n)).bind λb=>
bif a==7 then some ((Ex.mk j 0 k.2.2.2 ([(Ex.mk f e d c),b.1]:List Ex)),b.2.1,b.2.2.1,b.2.2.2) else o (b.2.1,b.2.2.1,b.2.2.2,j,0,k.2.2.2,([(Ex.mk f e d c),b.1]:List Ex))) else some ((Ex.mk f e d c),h,g,n)
def jU(p:Ai->Option fD)(a:Int)(l:Q7)(at_:Int)(names:bp)(h:Int)(d:Int)(r:Bool)(b:Int):Option fD:=
ai (decide (320<b)) λw=>
ai (r&&w) λv=>
bif v then (
(bF 9 l at_ names h d).bind λj=>
some (j.1,at_,j.2.1,j.2.2)) else (
(idx l at_).bind λg=>
bif a==6 then ai (λ(q:Int)=>da p l at_ names h d b g q) λi=>
ai (g.1==3) λu=>
ai (g.2.1==[33]) λt=>
ai (u&&t) λs=>
bif s then (
i 15) else (
i 0) else bif a==10 then ai (g.1 != 3) λo=>
ai (g.2.1 != [45]) λm=>
ai (o||m) λk=>
bif k then (
(dY p b l at_ names h d).bind λf=>
some (f.1,f.2.1,f.2.2.1,f.2.2.2)) else (
(p (10,b,l,(i64.wrap (at_+1)),names,h,d)).bind λe=>
some ((Ex.mk 6 0 g.2.2.2 ([e.1]:List Ex)),e.2.1,e.2.2.1,e.2.2.2)) else (p ((i64.wrap (a+1)),b,l,at_,names,h,d)).bind λc=>
aj (df p a l names b) au (c.2.1,c.2.2.1,c.2.2.2,c.1.op,c.1.n,c.1.at_,c.1.l))
def dv(h:Ai->Option fD)(a:Int)(d:Int)(l:Q7)(at_:Int)(names:bp)(e:Int)(b:Int):Option fD:=
bif e != 0 then some ((Ex.mk 0 0 0 []),at_,e,b) else (ml a).bind λg=>
ai (λ(f:Int)=>jU h a l at_ names e b g f) λc=>
bif g then (
c (i64.wrap (d+1))) else (
c d)
def iD(a:Int)(c:Int)(l:Q7)(at_:Int)(names:bp)(d:Int)(b:Int):Option fD:=
 aj (λk (s:Ai)=>dv k s.1 s.2.1 s.2.2.1 s.2.2.2.1 s.2.2.2.2.1 s.2.2.2.2.2.1 s.2.2.2.2.2.2) au (a,c,l,at_,names,d,b)
def fy(l:Q7)(at_:Int)(names:bp):Option fD:=
(iD 1 0 l at_ names 0 0).bind λa=>
bif a.2.2.1 != 0 then some ((Ex.mk 0 0 0 []),0,a.2.2.1,a.2.2.2) else some (a.1,a.2.1,0,0)
def w6(a:Int)(e:Int)(c:F8->Option kW)(f:kW)(d:Int)(b:Int):Option kW:=
bif f.1==3 then c (d,b,(i64.wrap (a+1)),(i64.wrap (e+1))) else c (d,b,a,(i64.wrap (e+1)))
def ru(a:Int)(b:Int)(h:Int)(c:F8->Option kW)(f:kW)(d:Int):Option kW:=
ai (λ(g:Int)=>w6 b h c f d g) λe=>
bif f.1==2 then e (i64.wrap (a+1)) else e a
def lj(F:Ex->Option kW)(e:Ex)(f:F8->Option kW):Int×Int×Int×Int->Option kW:=λ⟨a,b,c,h⟩=>
bif decide (h<(List.length e.l:Int)) then (idx e.l h).bind λj=>
(F j).bind λd=>
bif d.2.1 != 0 then some (0,d.2.1,d.2.2) else ai (λ(i:Int)=>ru b c h f d i) λg=>
bif d.1==1 then g (i64.wrap (a+1)) else g a else ai (decide (e.op<=6)) λE=>
ai (a==(List.length e.l:Int)) λD=>
ai (E&&D) λC=>
bif C then (
some (1,0,0)) else (
ai (decide (7<=e.op)) λB=>
ai (decide (e.op<=12)) λA=>
ai (B&&A) λz=>
ai (a==(List.length e.l:Int)) λy=>
ai (z&&y) λx=>
ai (e.op==13) λw=>
ai (x||w) λv=>
ai (e.op==14) λu=>
ai (v||u) λt=>
bif t then (
some (2,0,0)) else (
ai (decide (15<=e.op)) λs=>
ai (decide (e.op<=19)) λr=>
ai (s&&r) λq=>
ai (b==(List.length e.l:Int)) λp=>
ai (q&&p) λo=>
bif o then (
some (2,0,0)) else (
ai (decide (15<=e.op)) λn=>
ai ((i64.wrap (b+c))==(List.length e.l:Int)) λm=>
ai (n&&m) λk=>
bif k then (
some (3,0,0)) else (
some (0,4,e.at_)))))
def jj(a:Ex->Option kW)(e:Ex):Option kW:=
aj (lj a e) au (0,0,0,0)
def dO(e:Ex):Option kW:=
 aj (λk (s:Ex)=>jj k s) au e
def EA(a:Int)(e:Int)(c:F8->Option kW)(f:kW)(d:Int)(b:Int):Option kW:=
bif f.1==3 then c (d,b,(i64.wrap (a+1)),(i64.wrap (e+1))) else c (d,b,a,(i64.wrap (e+1)))
def tK(a:Int)(b:Int)(h:Int)(c:F8->Option kW)(f:kW)(d:Int):Option kW:=
ai (λ(g:Int)=>EA b h c f d g) λe=>
bif f.1==2 then e (i64.wrap (a+1)) else e a
def EJ(e:Ex)(f:F8->Option kW):Int×Int×Int×Int->Option kW:=λ⟨a,b,c,h⟩=>
bif decide (h<(List.length e.l:Int)) then (idx e.l h).bind λj=>
(dO j).bind λd=>
bif d.2.1 != 0 then some (0,d.2.1,d.2.2) else ai (λ(i:Int)=>tK b c h f d i) λg=>
bif d.1==1 then g (i64.wrap (a+1)) else g a else ai (decide (e.op<=6)) λE=>
ai (a==(List.length e.l:Int)) λD=>
ai (E&&D) λC=>
bif C then (
some (1,0,0)) else (
ai (decide (7<=e.op)) λB=>
ai (decide (e.op<=12)) λA=>
ai (B&&A) λz=>
ai (a==(List.length e.l:Int)) λy=>
ai (z&&y) λx=>
ai (e.op==13) λw=>
ai (x||w) λv=>
ai (e.op==14) λu=>
ai (v||u) λt=>
bif t then (
some (2,0,0)) else (
ai (decide (15<=e.op)) λs=>
ai (decide (e.op<=19)) λr=>
ai (s&&r) λq=>
ai (b==(List.length e.l:Int)) λp=>
ai (q&&p) λo=>
bif o then (
some (2,0,0)) else (
ai (decide (15<=e.op)) λn=>
ai ((i64.wrap (b+c))==(List.length e.l:Int)) λm=>
ai (n&&m) λk=>
bif k then (
some (3,0,0)) else (
some (0,4,e.at_)))))
def iO(e:Ex):Option kW:=
aj (EJ e) au (0,0,0,0)
def wz(a:fD)(c:Int)(b:Int):Option fD:=
some (a.1,a.2.1,c,b)
def cE(j:Int)(l:Q7)(at_:Int)(c:bp)(b:Q4)(h:Q1)(d:bp)(aT:Q5)(f:Int)(a:Int):Option fD:=
bif f != 0 then some ((Ex.mk 0 0 0 []),at_,f,a) else (fy l at_ c).bind λe=>
bif e.2.2.1 != 0 then (aJ e.2.2.1 e.2.2.2 l at_ c b h d aT f a).bind λo=>
some ((Ex.mk 0 0 0 []),at_,o.1,o.2) else (iO e.1).bind λi=>
ai (λ(k:Int×Int)=>wz e k.1 k.2) λg=>
bif i.2.1 != 0 then (aJ i.2.1 i.2.2 l at_ c b h d aT f a).bind λn=>
g (n.1,n.2) else bif i.1 != j then (aJ 4 e.1.at_ l at_ c b h d aT f a).bind λm=>
g (m.1,m.2) else g (f,a)
def gb(l:Q7)(e:bp)(b:Q4)(f:Q1)(d:bp)(aT:Q5)(j:Sg)(c:W8->Option u5)(i:Int)(n:Int)(m:Int)(k:Int):Option u5:=
(bN [61] l k e b f d aT n m).bind λh=>
(cE 1 l h.1 e b f d aT h.2.1 h.2.2).bind λa=>
aN (aH (List.length j+List.length ([(i,a.1)]:List (Int×Ex))) 56)<|
(bU 3 [44] l a.2.1 e b f d aT a.2.2.1 a.2.2.2).bind λg=>
bif g then (
c ((i64.wrap (a.2.1+1)),a.2.2.1,a.2.2.2,(j++([(i,a.1)]:List (Int×Ex))),g)) else (
c (a.2.1,a.2.2.1,a.2.2.2,(j++([(i,a.1)]:List (Int×Ex))),g))
def jW(l:Q7)(e:bp)(b:Q4)(h:Q1)(d:bp)(aT:Q5)(g:Int)(k:Sg)(a:W8->Option u5)(j:Int)(f:Int)(m:Int):Option u5:=
ai (λ(i:Int)=>gb l e b h d aT k a j f m i) λc=>
bif f==0 then c (i64.wrap (g+1)) else c g
def cF(l:Q7)(d:bp)(b:Q4)(h:Q1)(c:bp)(aT:Q5)(r:Int)(q:Int)(p:Int)(m:Sg)(g:W8->Option u5)(o:tD)(k:Int)(f:Fe->Option u5):Bool×Int->Option u5:=λ⟨a,n⟩=>
bif decide (n<(m.length:Int)) then bC (!a) (0,(Ex.mk 0 0 0 [])) (idx m n) λv=>
ai (v.1==k) λx=>
ai (a||x) λw=>
f (w,(i64.wrap (n+1))) else ai (λ(s:Int×Int)=>jW l d b h c aT r m g k s.1 s.2) λe=>
bif o.1 != 1 then (aJ 2 o.2.2.2 l r d b h c aT q p).bind λj=>
e (j.1,j.2) else ai (decide (k<0)) λu=>
ai (u||a) λt=>
bif t then (
(aJ 3 o.2.2.2 l r d b h c aT q p).bind λi=>
e (i.1,i.2)) else (
e (q,p))
def db(l:Q7)(b:bp)(c:Q4)(g:Q1)(a:bp)(aT:Q5)(k:fD)(e:W8->Option u5):Int×Int×Int×Sg×Bool->Option u5:=λ⟨j,i,n,h,f⟩=>
ai (i==0) λq=>
ai (f&&q) λp=>
bif p then (
(idx l j).bind λm=>
(cQ b m.2.1).bind λo=>
aj (cF l b c g a aT j i n h e m o) au (false,0)) else (
(bN [59] l j b c g a aT i n).bind λd=>
aN (aH (List.length aT+List.length ([((i64.wrap ((a.length:Int)-1)),k.1,h)]:List Q52)) 80)<|
some (d.1,(aT++([((i64.wrap ((a.length:Int)-1)),k.1,h)]:List Q52)),d.2.1,d.2.2))
def gf(l:Q7)(at_:Int)(c:bp)(a:Q4)(d:Q1)(b:bp)(aT:Q5)(h:Int)(g:Int):Option u5:=
(cE 2 l at_ c a d b aT h g).bind λe=>
(bN [58] l e.2.1 c a d b aT e.2.2.1 e.2.2.2).bind λf=>
aj (db l c a d b aT e) au (f.1,f.2.1,f.2.2,[],true)
def iC(l:Q7)(at_:Int)(d:bp)(a:Q4)(f:Q1)(c:bp)(aT:Q5)(i:Int)(b:Int):Option u5:=
ai (λ(g:Int×Int)=>gf l at_ d a f c aT g.1 g.2) λe=>
bif decide (256<=(aT.length:Int)) then (bq l at_ d a f c aT i b).bind λj=>
(aJ 9 j l at_ d a f c aT i b).bind λh=>
e (h.1,h.2) else e (i,b)
def kl(e:Bool)(c:Int)(d:tD)(a:Int)(b:Int):Option F8:=
bif a != 0 then some (0,c,a,b) else bif e then (
some ((i64.wrap (0-d.2.2.1)),(i64.wrap (c+1)),a,b)) else (
some (d.2.2.1,(i64.wrap (c+1)),a,b))
def kj(l:Q7)(g:bp)(b:Q4)(k:Q1)(f:bp)(aT:Q5)(j:Int)(a:Int)(m:Bool)(e:Int):Option F8:=
(idx l e).bind λd=>
ai (λ(h:Int×Int)=>kl m e d h.1 h.2) λc=>
bif d.1 != 2 then (aJ 2 d.2.2.2 l e g b k f aT j a).bind λi=>
c (i.1,i.2) else c (j,a)
def dZ(l:Q7)(at_:Int)(d:bp)(a:Q4)(f:Q1)(c:bp)(aT:Q5)(g:Int)(b:Int):Option F8:=
(bU 3 [45] l at_ d a f c aT g b).bind λi=>
ai (λ(h:Int)=>kj l d a f c aT g b i h) λe=>
bif i then (
e (i64.wrap (at_+1))) else (
e at_)
def o9(s:Q4)(b:Int->x3)(a:Int):x3:=
bif decide (a<(s.length:Int)) then (idx s a).bind λk=>
(idx s a).bind λj=>
ai (decide (j.2<k.1)) λe=>
bC (!e) (0,0) (idx s a) λi=>
ai (decide (i.1<(-1073741824))) λo=>
ai (e||o) λd=>
bC (!d) (0,0) (idx s a) λh=>
ai (decide (1073741824<h.2)) λn=>
ai (d||n) λc=>
bC (!c) (0,0) (idx s a) λg=>
bC (!c) (0,0) (idx s a) λf=>
ai (decide (65535<(i64.wrap (g.2-f.1)))) λm=>
ai (c||m) λl=>
bif l then (
some false) else (
b (i64.wrap (a+1))) else some true
def nz(s:Q4):x3:=
ai (decide ((s.length:Int)<1)) λc=>
ai (decide (17<(s.length:Int))) λb=>
ai (c||b) λa=>
bif a then (
some false) else (
aj (o9 s) au 0)
def jz(b:bp)(a:Q4)(c:Q1)(g:(aE×Int×Int×Int))(f:F8)(e:F8)(d:F8)(h:kW)(j:Int)(i:Int):Option (Int×bp×Q4×Q1×Int×Int):=
aN (aH (List.length b+List.length ([g.1]:List aE)) 16)<|
aN (aH (List.length a+List.length ([(f.1,e.1)]:List jk)) 16)<|
aN (aH (List.length c+List.length ([d.1]:zj)) 8)<|
some (h.1,(b++([g.1]:List aE)),(a++([(f.1,e.1)]:List jk)),(c++([d.1]:zj)),j,i)
def gZ(l:Q7)(at_:Int)(b:bp)(a:Q4)(d:Q1)(c:bp)(aT:Q5)(q:Int)(k:Int):Option (Int×bp×Q4×Q1×Int×Int):=
(gQ (decide (16<=(b.length:Int))) l at_ b a d c aT q k).bind λe=>
(bq l e.2.1 b a d c aT e.2.2.1 e.2.2.2).bind λp=>
(dZ l e.2.1 b a d c aT e.2.2.1 e.2.2.2).bind λi=>
(dZ l i.2.1 b a d c aT i.2.2.1 i.2.2.2).bind λh=>
(dZ l h.2.1 b a d c aT h.2.2.1 h.2.2.2).bind λg=>
(bN [59] l g.2.1 b a d c aT g.2.2.1 g.2.2.2).bind λf=>
(nz ([(i.1,h.1)]:List jk)).bind λo=>
ai (λ(m:Int×Int)=>jz b a d e i h g f m.1 m.2) λj=>
ai (!o) λv=>
ai (decide (g.1<i.1)) λu=>
ai (v||u) λt=>
ai (decide (h.1<g.1)) λs=>
ai (t||s) λr=>
bif r then (
(aJ 5 p l f.1 b a d c aT f.2.1 f.2.2).bind λn=>
j (n.1,n.2)) else (
j (f.2.1,f.2.2))
def iu(m:w7)(g:bp)(e:Q37->Option H3)(k:bp)(j:Q4)(i:Q1)(f:(aE×Int×Int×Int))(b:(Int×Q5×Int×Int×Bool)->Option H3):Int×Q5×Int×Int×Bool->Option H3:=λ⟨p,n,d,l,h⟩=>
ai (d==0) λs=>
ai (!h) λr=>
ai (s&&r) λq=>
bif q then (
(iC m.1 p k j i (g++([f.1]:List aE)) n d l).bind λa=>
(bU 3 [125] m.1 a.1 k j i (g++([f.1]:List aE)) a.2.1 a.2.2.1 a.2.2.2).bind λo=>
b (a.1,a.2.1,a.2.2.1,a.2.2.2,o)) else (
(bN [125] m.1 p k j i (g++([f.1]:List aE)) n d l).bind λc=>
e (c.1,k,j,i,(g++([f.1]:List aE)),n,c.2.1,c.2.2))
def kC(i:w7)(d:bp)(e:Q5)(a:Q37->Option H3)(n:Bool)(l:Int)(h:bp)(g:Q4)(f:Q1)(k:Int)(j:Int):Option H3:=
bif n then (
(gQ false i.1 l h g f d e k j).bind λb=>
aN (aH (List.length d+List.length ([b.1]:List aE)) 16)<|
(bN [123] i.1 b.2.1 h g f (d++([b.1]:List aE)) e b.2.2.1 b.2.2.2).bind λc=>
(bU 3 [125] i.1 c.1 h g f (d++([b.1]:List aE)) e c.2.1 c.2.2).bind λm=>
aj (iu i d a h g f b) au (c.1,e,c.2.1,c.2.2,m)) else (
a (l,h,g,f,d,e,k,j))
def kr(e:w7)(j:bp)(i:Q4)(h:Q1)(g:bp)(f:Q5)(d:Q37->Option H3)(o:Bool)(n:Bool)(m:Int)(l:Int)(k:Int):Option H3:=
ai (λ(a:Int×bp×Q4×Q1×Int×Int)=>kC e g f d n a.1 a.2.1 a.2.2.1 a.2.2.2.1 a.2.2.2.2.1 a.2.2.2.2.2) λc=>
bif o then (
(gZ e.1 k j i h g f m l).bind λb=>
c (b.1,b.2.1,b.2.2.1,b.2.2.2.1,b.2.2.2.2.1,b.2.2.2.2.2)) else (
c (k,j,i,h,m,l))
def ky(h:w7)(e:Int)(m:bp)(l:Q4)(k:Q1)(j:bp)(i:Q5)(b:Q37->Option H3)(g:Bool)(f:Bool)(d:Int)(n:Int):Option H3:=
ai (λ(c:Int)=>kr h m l k j i b g f d n c) λa=>
bif d==0 then a (i64.wrap (e+1)) else a e
def ku(g:bp)(f:Q4)(e:Q1)(d:bp)(c:Q5)(a:Int)(b:Int):Option H3:=
bif a != 0 then some (([],[],[],[],[]),a,b) else some ((g,f,e,d,c),0,0)
def fw(c:w7)(l:Q37->Option H3):Int×bp×Q4×Q1×bp×Q5×Int×Int->Option H3:=λ⟨i,a,g,f,e,d,b,h⟩=>
ai (b==0) λu=>
bC u (0,[],0,0) (idx c.1 i) λy=>
ai (y.1 != 4) λA=>
ai (u&&A) λz=>
bif z then (
(bU 1 [118,97,114] c.1 i a g f e d b h).bind λr=>
(bU 1 [112,114,111,99] c.1 i a g f e d b h).bind λq=>
ai (λ(n:Int×Int)=>ky c i a g f e d l r q n.1 n.2) λk=>
ai (!r) λx=>
ai (!q) λw=>
ai (x&&w) λv=>
bif v then (
(bq c.1 i a g f e d b h).bind λt=>
(aJ 2 t c.1 i a g f e d b h).bind λp=>
k (p.1,p.2)) else (
k (b,h))) else (
ai (λ(m:Int×Int)=>ku a g f e d m.1 m.2) λj=>
bif (a.length:Int)==0 then (bq c.1 i a g f e d b h).bind λs=>
(aJ 2 s c.1 i a g f e d b h).bind λo=>
j (o.1,o.2) else j (b,h))
def fE(text:aE):Option H3:=
(gF text).bind λa=>
bif a.2.1 != 0 then some (([],[],[],[],[]),a.2.1,a.2.2) else aj (fw a) au (0,[],[],[],[],[],0,0)
def mX(text:aE):Option (iS×Bool):=
bif decide (600<(text.length:Int)) then some (([],[],[],[],[]),false) else (fE text).bind λa=>
some (a.1,(a.2.1==0))
def tf(f:jk):x3:=
ai (decide (f.1<(-1073741824))) λi=>
ai (decide (1073741824<f.2)) λh=>
ai (i||h) λg=>
ai (!g) λe=>
ai (decide (f.1<=f.2)) λd=>
ai (e&&d) λc=>
ai (decide ((i64.wrap (f.2-f.1))<65536)) λb=>
ai (c&&b) λa=>
some a
def sF(s:Q4)(b:(zi×Int)->Option zi):zi×Int->Option zi:=λ⟨c,a⟩=>
bif decide (a<(s.length:Int)) then (idx s a).bind λe=>
(tf e).bind λd=>
(idx c a).bind λf=>
b ((List.set c (Int.toNat a) d),(i64.wrap (a+1))) else some c
def rL(s:Q4):Option zi:=
aN (decide (0<=(s.length:Int)))<|
aN (aH (Int.toNat (s.length:Int)) 1)<|
aj (sF s) au ((List.replicate (Int.toNat (s.length:Int)) false),0)
def fS(s:zi)(c:Bool)(a:Int->zb)(b:Int):zb:=
bif decide (b<(s.length:Int)) then (idx s b).bind λd=>
bif c==d then some b else a (i64.wrap (b+1)) else some (-1)
def po(s:zi)(a:Bool):zb:=
aj (fS s a) au 0
def jc(s:zi)(a:Bool):x3:=
(po s a).bind λb=>
some (decide (0<=b))
def tX(s:Q4):x3:=
ai (decide (1<=(s.length:Int))) λg=>
ai (decide ((s.length:Int)<=17)) λf=>
ai (g&&f) λb=>
bC b default (rL s) λe=>
bC b default (jc e false) λa=>
ai (!a) λd=>
ai (b&&d) λc=>
some c
def cL(s:Q4):Option Q4:=
aN (aH (List.length s) 16)<|
some s
def vC(m:iS)(a:Q9):Option (Q4×Int):=
(tX ([(0,(max 0 (i64.wrap ((a.1.length:Int)-1))))]:List jk)).bind λc=>
bif !c then some ([],9) else (cL m.2.1).bind λb=>
aN (aH (List.length b+List.length ([(0,(max 0 (i64.wrap ((a.1.length:Int)-1))))]:List jk)) 16)<|
some ((b++([(0,(max 0 (i64.wrap ((a.1.length:Int)-1))))]:List jk)),0)
def ct:Option zk:=
some ([154,155,156,157,158]:zk)
def oQ(most:Int):Option (Q6×Int):=
ai (decide (most<0)) λc=>
ai (decide (1048576<most)) λb=>
ai (c||b) λa=>
bif a then (
some ((0,[],[]),1)) else (
aN (decide (0<=8))<|
aN (aH (Int.toNat 8) 8)<|
some ((most,[],(List.replicate (Int.toNat 8) 0)),0))
def KV(most:Int):Option ((Q6×Q1)×Int):=
(oQ most).bind λa=>
some ((a.1,[]),a.2)
def jM(b:Unit)(t:Q3)(o:Q34):Option F5:=
(KV o.2.1).bind λa=>
some ((t.1,t.2.1,t.2.2.1,a.1,t.2.2.2.2.1,t.2.2.2.2.2.1,t.2.2.2.2.2.2.1,t.2.2.2.2.2.2.2),a.2)
def HN(s:Q4)(most:Int)(e:(Q6×Int))(a:((List Q6)×Int)->Option (Ab×Int)):(List Q6)×Int->Option (Ab×Int):=λ⟨b,c⟩=>
bif decide (c<(i64.wrap (Int.tdiv (i64.wrap ((i64.wrap ((s.length:Int)+2))-1)) 2))) then (oQ most).bind λd=>
aN (aH (List.length b+List.length ([d.1]:List Q6)) 56)<|
a ((b++([d.1]:List Q6)),(i64.wrap (c+1))) else some ((b,e.1,[]),0)
def Jz(s:Q4)(most:Int):Option (Ab×Int):=
(oQ most).bind λa=>
bif a.2 != 0 then some (([],(0,[],[]),[]),a.2) else aj (HN s most a) au ([],0)
def iP(b:Unit)(t:Q3)(o:Q34):Option F5:=
(Jz t.2.1 o.2.1).bind λa=>
some ((t.1,t.2.1,t.2.2.1,t.2.2.2.1,a.1,t.2.2.2.2.2.1,t.2.2.2.2.2.2.1,t.2.2.2.2.2.2.2),a.2)
def LP(most:Int):Option (Q6×Int):=
(oQ most).bind λa=>
some (a.1,a.2)
def sA(a:Int->zb)(n:Int):zb:=
bif decide (n<2) then some 0 else (a (i64.wrap (Int.tdiv (i64.wrap (n+1)) 2))).bind λc=>
(a (i64.wrap (n-(i64.wrap (Int.tdiv (i64.wrap (n+1)) 2))))).bind λb=>
some (i64.wrap ((i64.wrap (1+c))+b))
def wU(n:Int):zb:=
 aj (λk (s:Int)=>sA k s) au n
def G0(f:Q4)(d:(Q6×Int))(e:Int)(a:((List Q6)×Int)->Option (Ni×Int)):(List Q6)×Int->Option (Ni×Int):=λ⟨b,c⟩=>
bif decide (c<(max 1 e)) then aN (aH (List.length b+List.length ([d.1]:List Q6)) 56)<|
a ((b++([d.1]:List Q6)),(i64.wrap (c+1))) else some ((b,[]),0)
def KZ(s:Q4)(most:Int):Option (Ni×Int):=
(LP most).bind λa=>
bif a.2 != 0 then some (([],[]),a.2) else (wU (s.length:Int)).bind λb=>
aj (G0 s a b) au ([],0)
def iT(b:Unit)(t:Q3)(o:Q34):Option F5:=
(KZ t.2.1 o.2.1).bind λa=>
some ((t.1,t.2.1,t.2.2.1,t.2.2.2.1,t.2.2.2.2.1,a.1,t.2.2.2.2.2.2.1,t.2.2.2.2.2.2.2),a.2)
def EL(a:jk->zb):Int×Int->zb:=λ⟨b,c⟩=>
bif decide (0<b) then a ((iI .u64 b 1),(i64.wrap (c+1))) else some c
def BT(n:Int):zb:=
aj EL au (n,0)
def kf(f:jk):zb:=
(BT (u64.wrap (i64.wrap (f.2-f.1)))).bind λa=>
some a
def ur(s:Q4)(b:fR->Option Q1):Q1×Int->Option Q1:=λ⟨c,a⟩=>
bif decide (a<(s.length:Int)) then (idx s a).bind λe=>
(kf e).bind λd=>
(idx c a).bind λf=>
b ((List.set c (Int.toNat a) d),(i64.wrap (a+1))) else some c
def oA(s:Q4):Option Q1:=
aN (decide (0<=(s.length:Int)))<|
aN (aH (Int.toNat (s.length:Int)) 8)<|
aj (ur s) au ((List.replicate (Int.toNat (s.length:Int)) 0),0)
def AS(f:Q4)(d:Q1)(a:jk->zb):Int×Int->zb:=λ⟨e,b⟩=>
bif decide (b<(d.length:Int)) then (idx d b).bind λc=>
a ((i64.wrap (e+c)),(i64.wrap (b+1))) else some e
def A6(s:Q4):zb:=
(oA s).bind λa=>
aj (AS s a) au (0,0)
def pW(s:Q4):zb:=
(A6 s).bind λa=>
some (max 1 (i64.wrap (Int.tdiv (i64.wrap (a+7)) 8)))
def Ob(wide:Int):Option (Pe×Int):=
ai (decide (wide<1)) λc=>
ai (decide (64<wide)) λb=>
ai (c||b) λa=>
bif a then (
some ((0,[],0,0,[]),1)) else (
some ((wide,[],(-1),0,[]),0))
def js(u:Unit)(t:Q3)(b:(Int×cD×Int×Int×Q1×Int×cD×Int×Int×Q1×Int×cD×Int×Int×Q1×Int)->Option F5):Int×cD×Int×Int×Q1×Int×cD×Int×Int×Q1×Int×cD×Int×Int×Q1×Int->Option F5:=λ⟨r,q,p,o,n,m,l,k,j,i,h,g,f,e,d,c⟩=>
bif decide (c<3) then (pW t.2.1).bind λs=>
(Ob s).bind λa=>
bif c==0 then b (a.1.1,a.1.2.1,a.1.2.2.1,a.1.2.2.2.1,a.1.2.2.2.2,m,l,k,j,i,h,g,f,e,d,(i64.wrap (c+1))) else bif c==1 then b (r,q,p,o,n,a.1.1,a.1.2.1,a.1.2.2.1,a.1.2.2.2.1,a.1.2.2.2.2,h,g,f,e,d,(i64.wrap (c+1))) else bif c==2 then b (r,q,p,o,n,m,l,k,j,i,a.1.1,a.1.2.1,a.1.2.2.1,a.1.2.2.2.1,a.1.2.2.2.2,(i64.wrap (c+1))) else none else some ((t.1,t.2.1,t.2.2.1,t.2.2.2.1,t.2.2.2.2.1,t.2.2.2.2.2.1,((r,q,p,o,n),(m,l,k,j,i),(h,g,f,e,d)),t.2.2.2.2.2.2.2),0)
def gT(x:Unit)(t:Q3)(o:Q34):Option F5:=
ai (decide (o.2.1<0)) λc=>
ai (decide (1048576<o.2.1)) λb=>
ai (c||b) λa=>
bif a then (
some (t,1)) else (
aj (js x t) au (t.2.2.2.2.2.2.1.1.1,t.2.2.2.2.2.2.1.1.2.1,t.2.2.2.2.2.2.1.1.2.2.1,t.2.2.2.2.2.2.1.1.2.2.2.1,t.2.2.2.2.2.2.1.1.2.2.2.2,t.2.2.2.2.2.2.1.2.1.1,t.2.2.2.2.2.2.1.2.1.2.1,t.2.2.2.2.2.2.1.2.1.2.2.1,t.2.2.2.2.2.2.1.2.1.2.2.2.1,t.2.2.2.2.2.2.1.2.1.2.2.2.2,t.2.2.2.2.2.2.1.2.2.1,t.2.2.2.2.2.2.1.2.2.2.1,t.2.2.2.2.2.2.1.2.2.2.2.1,t.2.2.2.2.2.2.1.2.2.2.2.2.1,t.2.2.2.2.2.2.1.2.2.2.2.2.2,0))
def vE(m:Int)(k:Int)(seed:Int)(a:(Q1×Q1×Q1×Int)->Option (tW×Int)):Q1×Q1×Q1×Int->Option (tW×Int):=λ⟨e,d,c,b⟩=>
bif decide (b<3) then aN (decide (0<=(i64.wrap (Int.tdiv (i64.wrap (m+7)) 8))))<|
aN (aH (Int.toNat (i64.wrap (Int.tdiv (i64.wrap (m+7)) 8))) 1)<|
bif b==0 then a ((List.replicate (Int.toNat (i64.wrap (Int.tdiv (i64.wrap (m+7)) 8))) 0),d,c,(i64.wrap (b+1))) else bif b==1 then a (e,(List.replicate (Int.toNat (i64.wrap (Int.tdiv (i64.wrap (m+7)) 8))) 0),c,(i64.wrap (b+1))) else bif b==2 then a (e,d,(List.replicate (Int.toNat (i64.wrap (Int.tdiv (i64.wrap (m+7)) 8))) 0),(i64.wrap (b+1))) else none else some ((m,k,seed,(e,d,c)),0)
def Jj(m:Int)(k:Int)(seed:Int):Option (tW×Int):=
ai (decide (m<1)) λg=>
ai (decide (4194304<m)) λf=>
ai (g||f) λe=>
ai (decide (k<1)) λd=>
ai (e||d) λc=>
ai (decide (16<k)) λb=>
ai (c||b) λa=>
bif a then (
some ((0,0,0,([],[],[])),1)) else (
aj (vE m k seed) au ([],[],[],0))
def lN(e:Unit)(t:Q3)(o:Q34):Option F5:=
ai (decide (o.2.1<0)) λd=>
ai (decide (1048576<o.2.1)) λc=>
ai (d||c) λb=>
bif b then (
some (t,1)) else (
(Jj o.2.2.2.2.1 o.2.2.2.2.2 o.2.2.2.1).bind λa=>
some ((t.1,t.2.1,t.2.2.1,t.2.2.2.1,t.2.2.2.2.1,t.2.2.2.2.2.1,t.2.2.2.2.2.2.1,a.1),a.2))
def gh(s:Q4)(o:Q34):Option F5:=
(tX s).bind λk=>
ai (!k) λp=>
ai (decide (o.1<0)) λn=>
ai (p||n) λh=>
bC (!h) default (ct) λj=>
ai (decide ((j.length:Int)<=o.1)) λm=>
ai (h||m) λl=>
bif l then (
some ((0,[],0,((0,[],[]),[]),([],(0,[],[]),[]),([],[]),((0,[],0,0,[]),(0,[],0,0,[]),(0,[],0,0,[])),(0,0,0,([],[],[]))),1)) else (
(ct).bind λi=>
(idx i o.1).bind λe=>
(cL s).bind λa=>
bif Nat.beq e 154 then (jM () (o.1,a,o.2.1,((0,[],[]),[]),([],(0,[],[]),[]),([],[]),((0,[],0,0,[]),(0,[],0,0,[]),(0,[],0,0,[])),(0,0,0,([],[],[]))) o).bind λg=>
bif g.2 != 0 then some ((0,[],0,((0,[],[]),[]),([],(0,[],[]),[]),([],[]),((0,[],0,0,[]),(0,[],0,0,[]),(0,[],0,0,[])),(0,0,0,([],[],[]))),g.2) else some (g.1,0) else bif Nat.beq e 155 then (iP () (o.1,a,o.2.1,((0,[],[]),[]),([],(0,[],[]),[]),([],[]),((0,[],0,0,[]),(0,[],0,0,[]),(0,[],0,0,[])),(0,0,0,([],[],[]))) o).bind λf=>
bif f.2 != 0 then some ((0,[],0,((0,[],[]),[]),([],(0,[],[]),[]),([],[]),((0,[],0,0,[]),(0,[],0,0,[]),(0,[],0,0,[])),(0,0,0,([],[],[]))),f.2) else some (f.1,0) else bif Nat.beq e 156 then (iT () (o.1,a,o.2.1,((0,[],[]),[]),([],(0,[],[]),[]),([],[]),((0,[],0,0,[]),(0,[],0,0,[]),(0,[],0,0,[])),(0,0,0,([],[],[]))) o).bind λd=>
bif d.2 != 0 then some ((0,[],0,((0,[],[]),[]),([],(0,[],[]),[]),([],[]),((0,[],0,0,[]),(0,[],0,0,[]),(0,[],0,0,[])),(0,0,0,([],[],[]))),d.2) else some (d.1,0) else bif Nat.beq e 157 then (gT () (o.1,a,o.2.1,((0,[],[]),[]),([],(0,[],[]),[]),([],[]),((0,[],0,0,[]),(0,[],0,0,[]),(0,[],0,0,[])),(0,0,0,([],[],[]))) o).bind λc=>
bif c.2 != 0 then some ((0,[],0,((0,[],[]),[]),([],(0,[],[]),[]),([],[]),((0,[],0,0,[]),(0,[],0,0,[]),(0,[],0,0,[])),(0,0,0,([],[],[]))),c.2) else some (c.1,0) else bif Nat.beq e 158 then (lN () (o.1,a,o.2.1,((0,[],[]),[]),([],(0,[],[]),[]),([],[]),((0,[],0,0,[]),(0,[],0,0,[]),(0,[],0,0,[])),(0,0,0,([],[],[]))) o).bind λb=>
bif b.2 != 0 then some ((0,[],0,((0,[],[]),[]),([],(0,[],[]),[]),([],[]),((0,[],0,0,[]),(0,[],0,0,[]),(0,[],0,0,[])),(0,0,0,([],[],[]))),b.2) else some (b.1,0) else none)
def BQ(a:Q9)(b:Q1)(some_:Q1):Option Q50:=
some (some_,a.1,a.2.1,a.2.2.1,a.2.2.2,b)
def yk(a:Bool):zb:=
bif a then (
some 1) else (
some 0)
def EO(d:Int)(c:Int)(a:Bool):zb:=
(yk ((decide (d<=c)) != a)).bind λb=>
some b
def Eb(d:Int)(c:Int)(a:Bool):zb:=
(yk ((decide (d<c)) != a)).bind λb=>
some b
def EI(d:Int)(c:Int)(a:Bool):zb:=
(yk ((d==c) != a)).bind λb=>
some b
def DT(e:Ex)(a:Int)(b:Int)(d:(Int×Int×Bool)->zb)(c:(Int×Int×Bool)->zb):zb:=
bif e.op==12 then c (a,b,true) else bif e.op==9 then c (a,b,false) else bif e.op==11 then d (a,b,true) else bif e.op==10 then d (a,b,false) else bif e.op==13 then some 1 else bif e.op==15 then some (i64.wrap (1-a)) else bif e.op==16 then some (i64.wrap (a*b)) else bif e.op==17 then some (max a b) else bif e.op==18 then some (max (i64.wrap (1-a)) b) else some 0
def EZ(e:Int)(d:Int)(b:(Int×Int×Bool)->zb)(a:Unit->zb)(c:Bool):zb:=
bif c then (
b (e,d,false)) else (
a ())
def ez(x:(Ex×Q1)->zb)(e:Ex)(q:Q1)(b:kW->zb):Int×Int×Int->zb:=λ⟨a,c,d⟩=>
bif decide (d<(List.length (aV e.l 0 (min (List.length e.l:Int) 2)):Int)) then (idx (aV e.l 0 (min (List.length e.l:Int) 2)) d).bind λt=>
(x (t,q)).bind λk=>
bif d==0 then b (k,c,(i64.wrap (d+1))) else bif d==1 then b (a,k,(i64.wrap (d+1))) else none else ai (λ(j:Int×Int×Bool)=>EO j.1 j.2.1 j.2.2) λp=>
ai (λ(i:Int×Int×Bool)=>Eb i.1 i.2.1 i.2.2) λo=>
ai (λ(h:Int×Int×Bool)=>EI h.1 h.2.1 h.2.2) λg=>
bif e.op==1 then some e.n else bif e.op==2 then ai (decide (e.n<0)) λCs=>
ai (decide ((q.length:Int)<=e.n)) λv=>
ai (Cs||v) λu=>
bif u then (
some 0) else (
(idx q e.n).bind λs=>
some s) else bif e.op==3 then some (i64.wrap (a+c)) else bif e.op==5 then some (i64.wrap (a*c)) else bif e.op==6 then some (i64.wrap (0-a)) else bif e.op==4 then some (i64.wrap (a-c)) else bif e.op==8 then g (a,c,true) else ai (λ(w:Unit)=>DT e a c p o) λm=>
ai (λ(r:Bool)=>EZ a c g m r) λf=>
bif e.op==7 then f (e.op==7) else f (e.op==19)
def vD(b:(Ex×Q1)->zb)(e:Ex)(a:Q1):zb:=
aN (cZ 0 (min (List.length e.l:Int) 2) (List.length e.l))<|
aj (ez b e a) au (0,0,0)
def rz(e:Ex)(a:Q1):zb:=
 aj (λk (s:(Ex×Q1))=>vD k s.1 s.2) au (e,a)
def A5(e:Ex)(x:Q1):x3:=
(rz e x).bind λa=>
some (a != 1)
def dH(s:(List Ex))(c:Q1)(a:Int->zb)(b:Int):zb:=
bif decide (b<(s.length:Int)) then (idx s b).bind λe=>
(A5 e c).bind λd=>
bif d then (
some b) else (
a (i64.wrap (b+1))) else some (-1)
def gV(s:(List Ex))(c:Q1):zb:=
aj (dH s c) au 0
def fW(s:(List Ex))(c:Q1):x3:=
(gV s c).bind λa=>
some (decide (0<=a))
def Fp(a:Q9)(q:Int)(c:Q1):x3:=
(idx a.1 q).bind λd=>
(fW d c).bind λb=>
some (!b)
def bu(s:Q1):Option Q1:=
aN (aH (List.length s) 8)<|
some s
def iL(b:Int)(a:Q1)(d:Int):Option Q1:=
(Ua a d b).bind λc=>
some c
def jX(dst:Q1)(i:Int)(c:Int):Option Q1:=
ai (λ(b:Q1×Int)=>iL c b.1 b.2) λa=>
bif decide (i<0) then aN (aH (List.length dst+List.length ([45]:zj)) 1)<|
a ((dst++([45]:zj)),(u64.wrap (0-(u64.wrap i)))) else a (dst,(u64.wrap i))
def lY(dst:Q1)(i:Int)(a:Int):Option Q1:=
(jX dst i a).bind λb=>
some b
def sZ(x:Q1)(l:(List Q1))(g:x5)(a:fR->Option Q54):Q1×Int->Option Q54:=λ⟨b,c⟩=>
bif decide (c<(x.length:Int)) then (idx x c).bind λf=>
aN (aH (List.length b+List.length ([32]:zj)) 1)<|
(lY (b++([32]:zj)) f 10).bind λd=>
a (d,(i64.wrap (c+1))) else bif !(ew g (strOf b) false) then (g).bind λe=>
aN (aH (List.length l+List.length ([x]:List Q1)) 24)<|
some ((l++([x]:List Q1)),(some (mo e (strOf b) true))) else some (l,g)
def Ut(x:Q1)(l:(List Q1))(a:x5):Option Q54:=
aj (sZ x l a) au ([],0)
def tT(x:Q1)(l:(List Q1))(at_:x5):Option Q54:=
ai (λ(b:x5)=>Ut x l b) λa=>
bif (Option.isNone at_) then a (some []:x5) else a at_
def tE(a:Q50)(b:(Int×(List Q1)×x5)->Option (List Q1)):Int×(List Q1)×x5->Option (List Q1):=λ⟨c,e,h⟩=>
bif decide (c<(a.1.length:Int)) then (idx a.1 c).bind λf=>
(Fp (a.2.1,a.2.2.1,a.2.2.2.1,a.2.2.2.2.1) f a.2.2.2.2.2).bind λi=>
bif i then (
(bu a.2.2.2.2.2).bind λg=>
aN (aH (List.length g+List.length ([f]:zj)) 8)<|
(tT (g++([f]:zj)) e h).bind λd=>
ai (!true) λj=>
bif j then (
some d.1) else (
b ((i64.wrap (c+1)),d.1,d.2))) else (
b ((i64.wrap (c+1)),e,h)) else some e
def Bx(m:iS)(a:Q9):Option (List Q1):=
(BQ a m.2.2.1 a.2.2.1).bind λb=>
aj (tE b) au (0,[],none)
def lq(f:jk)(n:Int):x3:=
ai (decide (f.1<=n)) λc=>
ai (decide (n<=f.2)) λb=>
ai (c&&b) λa=>
some a
def tM(s:Q4)(e:Q1)(a:Int->zb)(b:Int):zb:=
bif decide (b<(e.length:Int)) then (idx e b).bind λf=>
(idx s b).bind λd=>
(lq d f).bind λc=>
bif !c then some 5 else a (i64.wrap (b+1)) else some 0
def fC(s:Q4)(a:Q1):zb:=
bif (a.length:Int) != (s.length:Int) then some 1 else aj (tM s a) au 0
def dJ(t:Q3):zc:=
(ct).bind λb=>
(idx b t.1).bind λa=>
some a
def vN(b:Q1):Option Q1:=
aN (aH (List.length b) 1)<|
some b
def V9(w1:fR):Option fR:=
(vN w1.1).bind λa=>
some (a,w1.2)
def Gh(N:Int)(a:Q1):Option fR:=
some (a,(i64.wrap (N+1)))
def yN(one:Bool)(N:Int)(b:Q1):Option fR:=
ai (λ(c:Q1)=>Gh N c) λa=>
bif one then (
(idx b (i64.wrap (Int.tdiv N 8))).bind λd=>
aN (decide (0<=(Int.tmod N 8)))<|
(idx b (i64.wrap (Int.tdiv N 8))).bind λe=>
a (List.set b (Int.toNat (i64.wrap (Int.tdiv N 8))) (uY .u8 d (iI .u8 128 (Int.tmod N 8))))) else (
a b)
def yn(one:Bool)(B:Q1)(N:Int):Option fR:=
ai (λ(b:Q1)=>yN one N b) λa=>
bif (Int.tmod N 8)==0 then aN (aH (List.length B+List.length ([0]:zj)) 1)<|
a (B++([0]:zj)) else a B
def HH(n:Int)(a:(Q1×Int×Int)->Option (fR×Int)):Q1×Int×Int->Option (fR×Int):=λ⟨e,d,b⟩=>
bif decide (0<=b) then aN (decide (0<=b))<|
(yn ((rh .u64 (iI .u64 n b) 1)==1) e d).bind λc=>
a (c.1,c.2,(i64.wrap (b-1))) else some ((e,d),0)
def JI(w1:fR)(n:Int)(wide:Int):Option (fR×Int):=
ai (decide (wide<0)) λe=>
ai (decide (64<wide)) λd=>
ai (e||d) λc=>
bif c then (
some (w1,1)) else (
(BT n).bind λb=>
bif decide (wide<b) then some (w1,5) else (V9 w1).bind λa=>
aj (HH n) au (a.1,a.2,(i64.wrap (wide-1))))
def wA(s:Q4)(k:Q1)(e:Q1)(b:(Q1×Int×Int)->Option fR):Q1×Int×Int->Option fR:=λ⟨f,j,a⟩=>
bif decide (a<(e.length:Int)) then (idx e a).bind λi=>
(idx k a).bind λh=>
(idx s a).bind λg=>
(JI (f,j) (u64.wrap (i64.wrap (h-g.1))) i).bind λd=>
b (d.1.1,d.1.2,(i64.wrap (a+1))) else (pW s).bind λc=>
aN (decide (0<=c))<|
aN (aH (Int.toNat c) 1)<|
some ((yj (List.replicate (Int.toNat c) 0) f),0)
def lE(s:Q4)(b:Q1):Option fR:=
(fC s b).bind λc=>
bif c != 0 then some ([],c) else (oA s).bind λa=>
aj (wA s b a) au ([],0,0)
def eR(t:Q3)(a:Q1):Option Q1:=
(lE t.2.1 a).bind λb=>
some b.1
def Ph(x:Int):zb:=
some (Fo .u64 x (iI .u64 x 29))
def PD(x:Int):zb:=
some (u64.wrap (x*13787848793156543929))
def Pf(x:Int):zb:=
some (Fo .u64 x (iI .u64 x 32))
def HR(b:Q1)(a:jk->zb):Int×Int->zb:=λ⟨h,c⟩=>
bif decide (c<(b.length:Int)) then (idx b c).bind λg=>
a ((u64.wrap ((Fo .u64 h (u64.wrap g))*1099511628211)),(i64.wrap (c+1))) else (Ph h).bind λf=>
(PD f).bind λe=>
(Pf e).bind λd=>
some d
def DL(b:Q1)(seed:Int):zb:=
aj (HR b) au ((Fo .u64 seed 11400714819323198485),0)
def wW(h:Int)(n:Int):zb:=
bif decide (n<1) then some 0 else aN ((u64.wrap n) != 0)<|
some (i64.wrap (Int.tmod h (u64.wrap n)))
def vG(a:Q1)(b:Q1):x3:=
some ((strOf a)==(strOf b))
def gu(e:Q6)(key:Q1)(b:Int->zb)(a:Int):zb:=
(idx e.2.2 a).bind λd=>
ai (d==0) λc=>
bC (!c) [] (idx e.2.1 (i64.wrap (d-1))) λg=>
bC (!c) default (vG g key) λf=>
ai (c||f) λh=>
bif h then (
some a) else (
aN ((e.2.2.length:Int) != 0)<|
b (Int.tmod (i64.wrap (a+1)) (e.2.2.length:Int)))
def fO(b:Q6)(key:Q1):zb:=
(DL key 0).bind λc=>
(wW c (b.2.2.length:Int)).bind λa=>
aj (gu b key) au a
def yd(b:Q6)(key:Q1):Option Eu:=
bif (b.2.2.length:Int)==0 then some (0,false) else (fO b key).bind λc=>
(idx b.2.2 c).bind λa=>
some ((max (i64.wrap (a-1)) 0),(decide (0<a)))
def dP(t:Q6)(key:Q1):Option Eu:=
(yd t key).bind λa=>
some (a.1,a.2)
def xf(e:Q6)(key:Q1)(b:Int->zb)(a:Int):zb:=
(idx e.2.2 a).bind λd=>
ai (d==0) λc=>
bC (!c) [] (idx e.2.1 (i64.wrap (d-1))) λg=>
bC (!c) default (vG g key) λf=>
ai (c||f) λh=>
bif h then (
some a) else (
aN ((e.2.2.length:Int) != 0)<|
b (Int.tmod (i64.wrap (a+1)) (e.2.2.length:Int)))
def oK(b:Q6)(key:Q1):zb:=
(DL key 0).bind λc=>
(wW c (b.2.2.length:Int)).bind λa=>
aj (xf b key) au a
def nG(e:Int)(g:(List Q1))(c:((List Q1)×Q1×Int)->Option ((List Q1)×Q1)):(List Q1)×Q1×Int->Option ((List Q1)×Q1):=λ⟨a,b,d⟩=>
bif decide (d<(g.length:Int)) then (idx a d).bind λh=>
(oK (e,a,b) h).bind λf=>
(idx ((e,a,b).2.2) f).bind λi=>
c ((e,a,b).2.1,(List.set ((e,a,b).2.2) (Int.toNat f) (i64.wrap (d+1))),(i64.wrap (d+1))) else some (a,b)
def sa(n:Int)(c:Int)(a:(List Q1))(b:Q1):Option ((List Q1)×Q1):=
aN (decide (0<=n))<|
aN (aH (Int.toNat n) 8)<|
aj (nG c a) au (a,(List.replicate (Int.toNat n) 0),0)
def RJ(t:Q6)(a:(List Q1))(b:Q1):Option (Q6×Int×Bool×Int):=
some ((t.1,a,b),(t.2.1.length:Int),true,0)
def cj(t:Q6)(key:Q1):Option (Q6×Int×Bool×Int):=
(dP t key).bind λg=>
bif g.2 then (
some (t,g.1,false,0)) else (
bif decide (t.1<=(t.2.1.length:Int)) then some (t,0,false,7) else aN (kE 0 (t.2.1.length:Int) (t.2.1.length:Int) (List.length t.2.1)&&((t.2.1.length:Int)==(t.2.1.length:Int)))<|
(vN key).bind λb=>
aN (aH (List.length (aV t.2.1 0 (t.2.1.length:Int))+List.length ([b]:List Q1)) 24)<|
ai (λ(c:(List Q1)×Q1)=>RJ t c.1 c.2) λa=>
bif decide ((max (t.2.2.length:Int) 8)<(i64.wrap (2*(i64.wrap ((t.2.1.length:Int)+1))))) then (sa (i64.wrap (2*(max (t.2.2.length:Int) 8))) t.1 ((aV t.2.1 0 (t.2.1.length:Int))++([b]:List Q1)) t.2.2).bind λf=>
a (f.1,f.2) else (bu t.2.2).bind λe=>
(fO t key).bind λd=>
(idx e d).bind λh=>
a (((aV t.2.1 0 (t.2.1.length:Int))++([b]:List Q1)),(List.set e (Int.toNat d) (i64.wrap ((t.2.1.length:Int)+1)))))
def A9(s:(Q6×Q1))(key:Q1):Option ((Q6×Q1)×Bool×Int):=
(cj s.1 key).bind λa=>
bif !a.2.2.1 then some (s,false,a.2.2.2) else aN (kE 0 (s.2.length:Int) (s.2.length:Int) (List.length s.2)&&((s.2.length:Int)==(s.2.length:Int)))<|
aN (aH (List.length (aV s.2 0 (s.2.length:Int))+List.length ([0]:zj)) 1)<|
some ((a.1,((aV s.2 0 (s.2.length:Int))++([0]:zj))),true,0)
def kJ(d:Unit)(t:Q3)(b:Q1):Option Q49:=
(eR t b).bind λc=>
(A9 t.2.2.2.1 c).bind λa=>
some ((t.1,t.2.1,t.2.2.1,a.1,t.2.2.2.2.1,t.2.2.2.2.2.1,t.2.2.2.2.2.2.1,t.2.2.2.2.2.2.2),a.2.1,a.2.2)
def vS(s:Q4)(a:Q1):Option (Q4×Q1):=
some (s,a)
def AL(f:Int)(d:fR->Option Q1)(e:Int)(c:fR->Option Q1):Q1×Int->Option Q1:=λ⟨a,b⟩=>
bif decide (b<4) then aN (decide (0<=(i64.wrap (8*b))))<|
aN (aH (List.length a+List.length ([(u8.wrap (iI .i64 e (i64.wrap (8*b))))]:zj)) 1)<|
c ((a++([(u8.wrap (iI .i64 e (i64.wrap (8*b))))]:zj)),(i64.wrap (b+1))) else d (a,(i64.wrap (f+1)))
def AB(a:Q1)(b:fR->Option Q1):Q1×Int->Option Q1:=λ⟨c,d⟩=>
bif decide (d<(a.length:Int)) then (idx a d).bind λe=>
aj (AL d b e) au (c,0) else some c
def vP(row:Q1)(a:Q1):Option Q1:=
aj (AB a) au (row,0)
def p7(c:Ab)(m:Q4)(d:(Q4×Q1))(b:(Int×Int×Q1)->zb):Int×Int×Q1->zb:=λ⟨a,l,e⟩=>
bif decide ((i64.wrap (a*2))<(d.1.length:Int)) then aN (cZ (i64.wrap (a*2)) (min (d.1.length:Int) (i64.wrap ((i64.wrap (a+1))*2))) (List.length d.1))<|
aN (cZ (i64.wrap (a*2)) (min (d.1.length:Int) (i64.wrap ((i64.wrap (a+1))*2))) (List.length d.2))<|
(lE (aV d.1 (i64.wrap (a*2)) (min (d.1.length:Int) (i64.wrap ((i64.wrap (a+1))*2)))) (aV d.2 (i64.wrap (a*2)) (min (d.1.length:Int) (i64.wrap ((i64.wrap (a+1))*2))))).bind λj=>
(idx c.1 a).bind λk=>
(dP k j.1).bind λi=>
bif !i.2 then bif !false then some (-1) else b ((i64.wrap (a+1)),(-1),e) else (vP e ([i.1]:zj)).bind λh=>
bif !true then (dP c.2.1 h).bind λg=>
bif !g.2 then some (-1) else some g.1 else b ((i64.wrap (a+1)),l,h) else (dP c.2.1 e).bind λf=>
bif !f.2 then some (-1) else some f.1
def tY(c:Ab)(s:Q4)(a:Q1):zb:=
(vS s a).bind λb=>
aj (p7 c s b) au (0,0,[])
def x6(t:Q6):zb:=
some (t.2.1.length:Int)
def BN(c:Ab):zb:=
(x6 c.2.1).bind λa=>
some a
def dB(s:(List Q6)):Option (List Q6):=
aN (aH (List.length s) 56)<|
some s
def mI(c:Ab)(n:Q4)(b:(Q4×Q1))(e:(Int×(List Q6)×Q1)->Option Q51):Int×(List Q6)×Q1->Option Q51:=λ⟨a,d,j⟩=>
bif decide ((i64.wrap (a*2))<(b.1.length:Int)) then aN (cZ (i64.wrap (a*2)) (min (b.1.length:Int) (i64.wrap ((i64.wrap (a+1))*2))) (List.length b.1))<|
aN (cZ (i64.wrap (a*2)) (min (b.1.length:Int) (i64.wrap ((i64.wrap (a+1))*2))) (List.length b.2))<|
(lE (aV b.1 (i64.wrap (a*2)) (min (b.1.length:Int) (i64.wrap ((i64.wrap (a+1))*2)))) (aV b.2 (i64.wrap (a*2)) (min (b.1.length:Int) (i64.wrap ((i64.wrap (a+1))*2))))).bind λk=>
(idx d a).bind λl=>
(cj l k.1).bind λf=>
(vP j ([f.2.1]:zj)).bind λg=>
(idx d a).bind λm=>
bif !true then (cj c.2.1 g).bind λi=>
aN (kE 0 (c.2.2.length:Int) (c.2.2.length:Int) (List.length c.2.2)&&((c.2.2.length:Int)==(c.2.2.length:Int)))<|
aN (aH (List.length (aV c.2.2 0 (c.2.2.length:Int))+List.length ([0]:zj)) 1)<|
some (((List.set d (Int.toNat a) f.1),i.1,((aV c.2.2 0 (c.2.2.length:Int))++([0]:zj))),true,0) else e ((i64.wrap (a+1)),(List.set d (Int.toNat a) f.1),g) else (cj c.2.1 j).bind λh=>
aN (kE 0 (c.2.2.length:Int) (c.2.2.length:Int) (List.length c.2.2)&&((c.2.2.length:Int)==(c.2.2.length:Int)))<|
aN (aH (List.length (aV c.2.2 0 (c.2.2.length:Int))+List.length ([0]:zj)) 1)<|
some ((d,h.1,((aV c.2.2 0 (c.2.2.length:Int))++([0]:zj))),true,0)
def Bc(c:Ab)(s:Q4)(a:Q1):Option Q51:=
(fC s a).bind λb=>
bif b != 0 then some (c,false,b) else (tY c s a).bind λg=>
bif decide (0<=g) then some (c,false,0) else (BN c).bind λf=>
bif decide (c.2.1.1<=f) then some (c,false,7) else (dB c.1).bind λe=>
(vS s a).bind λd=>
aj (mI c s d) au (0,e,[])
def kc(c:Unit)(t:Q3)(b:Q1):Option Q49:=
(Bc t.2.2.2.2.1 t.2.1 b).bind λa=>
some ((t.1,t.2.1,t.2.2.1,t.2.2.2.1,a.1,t.2.2.2.2.2.1,t.2.2.2.2.2.2.1,t.2.2.2.2.2.2.2),a.2.1,a.2.2)
def yu(s:Q4)(f:Q1)(b:fR->Option Q1):Q1×Int->Option Q1:=λ⟨a,c⟩=>
bif decide (c<(f.length:Int)) then (idx f c).bind λe=>
(idx s c).bind λd=>
aN (aH (List.length a+List.length ([(u32.wrap (i64.wrap (e-d.1)))]:zj)) 4)<|
b ((a++([(u32.wrap (i64.wrap (e-d.1)))]:zj)),(i64.wrap (c+1))) else some a
def yI(s:Q4)(a:Q1):Option Q1:=
aj (yu s a) au ([],0)
abbrev aqB{r:Type}(i x c d e f g h l m:Int)(k:Int->Int->Int->Int->Int->Int->Int->Int->Option r):Option r:=bif i==0 then k x d e f g h l m else bif i==1 then k c x e f g h l m else bif i==2 then k c d x f g h l m else bif i==3 then k c d e x g h l m else bif i==4 then k c d e f x h l m else bif i==5 then k c d e f g x l m else bif i==6 then k c d e f g h x m else bif i==7 then k c d e f g h l x else none
def acH(a:Int)(b:Int)(j:(Int×Int×Int×Int×Int×Int×Int×Int×Int)->Option Q39):Int×Int×Int×Int×Int×Int×Int×Int×Int->Option Q39:=λ⟨t,s,r,q,p,o,n,k,i⟩=>
bif decide (i<4) then aN (decide (0<=(i64.wrap (8*i))))<|
aN (decide (0<=(i64.wrap (8*i))))<|
aqB i (u8.wrap (iI .u32 a (i64.wrap (8*i)))) t s r q p o n k λc d e f g h l m=>
aqB (i64.wrap (4+i)) (u8.wrap (iI .u32 b (i64.wrap (8*i)))) c d e f g h l m λc d e f g h l m=>
j (c,d,e,f,g,h,l,m,(i64.wrap (i+1))) else some (t,s,r,q,p,o,n,k)
def KE(a:Int)(b:Int):Option Q39:=
aj (acH a b) au (0,0,0,0,0,0,0,0,0)
def uI(p:Q39):Option Q1:=
some ([p.1,p.2.1,p.2.2.1,p.2.2.2.1,p.2.2.2.2.1,p.2.2.2.2.2.1,p.2.2.2.2.2.2.1,p.2.2.2.2.2.2.2]:zj)
def C9(p:Q6)(a:Int)(b:Int):Option Eu:=
(KE a b).bind λd=>
(uI d).bind λr11=>
(dP p r11).bind λc=>
some (c.1,c.2)
def pX(row:Int)(a:Int)(c:Int)(b:(List Q6)):Option xa:=
(idx b row).bind λe3=>
(C9 e3 a c).bind λr11=>
bif !r11.2 then some (.error row) else some (.ok (u32.wrap r11.1))
def mU(f:Q47->Option xa)(row:Int)(l:Q1)(a:(List Q6)):Option xa:=
bif (l.length:Int)==1 then (idx l 0).bind λe4=>
some (.ok e4) else aN (cZ 0 (i64.wrap (Int.tdiv (i64.wrap ((l.length:Int)+1)) 2)) (List.length l))<|
Dq (f ((i64.wrap (row+1)),(aV l 0 (i64.wrap (Int.tdiv (i64.wrap ((l.length:Int)+1)) 2))),a)) λe=>
aN (cZ (i64.wrap (Int.tdiv (i64.wrap ((l.length:Int)+1)) 2)) ((List.length l):Int) (List.length l))<|
(wU (i64.wrap (Int.tdiv (i64.wrap ((l.length:Int)+1)) 2))).bind λd=>
Dq (f ((i64.wrap ((i64.wrap (row+1))+d)),(aV l (i64.wrap (Int.tdiv (i64.wrap ((l.length:Int)+1)) 2)) ((List.length l):Int)),a)) λc=>
Dq (pX row e c a) λb=>
some (.ok b)
def uP(row:Int)(l:Q1)(a:(List Q6)):Option xa:=
 aj (λk (s:Q47)=>mU k s.1 s.2.1 s.2.2) au (row,l,a)
def od(l:Q1)(a:(List Q6)):Option xa:=
bif (l.length:Int)==1 then (idx l 0).bind λd=>
Dq (pX 0 d 0 a) λc=>
some (.ok c) else Dq (uP 0 l a) λb=>
some (.ok b)
def xi(t:Ni)(s:Q4)(d:Q1):Option Eu:=
(yI s d).bind λb=>
gD (od b t.1) (λc=>
some (0,false)) λa=>
some ((i64.wrap a),true)
def KU(p:Q6):zb:=
(x6 p).bind λa=>
some a
def Gp(t:Ni):zb:=
bif (t.1.length:Int)==0 then some 0 else (idx t.1 0).bind λb=>
(KU b).bind λa=>
some a
def fa(s:(List Q6)):Option (List Q6):=
aN (aH (List.length s) 56)<|
some s
def xH(p:Q6)(a:Int)(b:Int):Option (Q6×Int×Bool×Int):=
(KE a b).bind λe=>
(uI e).bind λd=>
(cj p d).bind λc=>
some (c.1,c.2.1,c.2.2.1,c.2.2.2)
def mT(row:Int)(a:Int)(e:Int)(b:(List Q6)):Option Q53:=
(idx b row).bind λe4=>
(xH e4 a e).bind λc=>
(idx b row).bind λd=>
some ((u32.wrap c.2.1),(List.set b (Int.toNat row) c.1))
def j8(e:Q47->Option Q53)(row:Int)(l:Q1)(a:(List Q6)):Option Q53:=
bif (l.length:Int)==1 then (idx l 0).bind λf=>
some (f,a) else aN (cZ 0 (i64.wrap (Int.tdiv (i64.wrap ((l.length:Int)+1)) 2)) (List.length l))<|
(e ((i64.wrap (row+1)),(aV l 0 (i64.wrap (Int.tdiv (i64.wrap ((l.length:Int)+1)) 2))),a)).bind λr11=>
aN (cZ (i64.wrap (Int.tdiv (i64.wrap ((l.length:Int)+1)) 2)) ((List.length l):Int) (List.length l))<|
(wU (i64.wrap (Int.tdiv (i64.wrap ((l.length:Int)+1)) 2))).bind λd=>
(e ((i64.wrap ((i64.wrap (row+1))+d)),(aV l (i64.wrap (Int.tdiv (i64.wrap ((l.length:Int)+1)) 2)) ((List.length l):Int)),r11.2)).bind λc=>
(mT row r11.1 c.1 c.2).bind λb=>
some (b.1,b.2)
def vf(row:Int)(l:Q1)(a:(List Q6)):Option Q53:=
 aj (λk (s:Q47)=>j8 k s.1 s.2.1 s.2.2) au (row,l,a)
def oI(l:Q1)(a:(List Q6)):Option Q53:=
bif (l.length:Int)==1 then (idx l 0).bind λd=>
(mT 0 d 0 a).bind λc=>
some (c.1,c.2) else (vf 0 l a).bind λb=>
some (b.1,b.2)
def Bn(t:Ni)(s:Q4)(b:Q1):Option (Ni×Bool×Int):=
(fC s b).bind λa=>
bif a != 0 then some (t,false,a) else (xi t s b).bind λg=>
bif g.2 then (
some (t,false,0)) else (
(idx t.1 0).bind λh=>
(Gp t).bind λf=>
bif decide (h.1<=f) then some (t,false,7) else (fa t.1).bind λe=>
(yI s b).bind λd=>
(oI d e).bind λc=>
aN (kE 0 (t.2.length:Int) (t.2.length:Int) (List.length t.2)&&((t.2.length:Int)==(t.2.length:Int)))<|
aN (aH (List.length (aV t.2 0 (t.2.length:Int))+List.length ([0]:zj)) 1)<|
some ((c.2,((aV t.2 0 (t.2.length:Int))++([0]:zj))),true,0))
def ka(c:Unit)(t:Q3)(b:Q1):Option Q49:=
(Bn t.2.2.2.2.2.1 t.2.1 b).bind λa=>
some ((t.1,t.2.1,t.2.2.1,t.2.2.2.1,t.2.2.2.2.1,a.1,t.2.2.2.2.2.2.1,t.2.2.2.2.2.2.2),a.2.1,a.2.2)
def uB(x:Int):x3:=
some (x != x)
def mL(x:Int)(y:Int):zb:=
(uB x).bind λb=>
(uB y).bind λa=>
bif b then (
bif a then (
some 0) else (
some (-1))) else (
bif a then (
some 1) else (
bif decide (x<y) then some (-1) else bif decide (y<x) then some 1 else some 0))
def BC(e:jk)(by_:Int):zb:=
(mL e.1 by_).bind λa=>
some a
def cn(x:Q4)(target:Int)(a:jk->Option Eu):Int×Int->Option Eu:=λ⟨b,d⟩=>
bif decide (b<d) then (idx x (i64.wrap (iI .u64 (u64.wrap (i64.wrap (b+d))) 1))).bind λi=>
(BC i target).bind λr11=>
bif decide (r11<0) then a ((i64.wrap ((i64.wrap (iI .u64 (u64.wrap (i64.wrap (b+d))) 1))+1)),d) else a (b,(i64.wrap (iI .u64 (u64.wrap (i64.wrap (b+d))) 1))) else ai (decide (b<(x.length:Int))) λc=>
bC c (0,0) (idx x b) λf=>
bC c default (BC f target) λe=>
ai (e==0) λh=>
ai (c&&h) λg=>
some (b,g)
def bD(x:Q4)(target:Int):Option Eu:=
aj (cn x target) au (0,(x.length:Int))
def Bo(d:Pe)(at_:Int)(by_:Int):zb:=
bif at_==(-1) then some (-1) else (idx d.2.1 at_).bind λe=>
(bD e.1 by_).bind λa=>
bif !a.2 then some (-1) else (idx d.2.1 at_).bind λc=>
(idx c.1 a.1).bind λb=>
some b.2
def uJ(d:Pe)(c:Q1)(a:jk->x3):Int×Int->x3:=λ⟨b,e⟩=>
bif decide (e<(c.length:Int)) then (idx c e).bind λg=>
(Bo d b g).bind λf=>
a (f,(i64.wrap (e+1))) else ai ((c.length:Int)==d.1) λl=>
ai (decide (0<d.1)) λk=>
ai (l&&k) λj=>
ai (b != (-1)) λi=>
ai (j&&i) λh=>
some h
def pL(d:Pe)(a:Q1):x3:=
aj (uJ d a) au (d.2.2.1,0)
def Jh(d:Pe):zb:=
some d.2.2.2.1
def dM(s:cD):Option cD:=
aN (aH (List.length s) 32)<|
some s
def iq(e:Q4)(f:Q4)(a:Int->x3)(d:Int):x3:=
bif decide (d<(e.length:Int)) then (idx e d).bind λc=>
(idx f d).bind λb=>
bif !(aiP c.1 c.2 b.1 b.2) then some false else a (i64.wrap (d+1)) else some true
def fT(b:Q4)(a:Q4):x3:=
bif (b.length:Int) != (a.length:Int) then some false else aj (iq b a) au 0
def iJ(d:Q4)(b:cD)(c:GH)(a:Int->Option Eu)(e:Int):Option Eu:=
bif decide (e<(b.length:Int)) then (idx b e).bind λk=>
ai (decide (0<k.2)) λj=>
ai (ew c e false) λi=>
ai (j||i) λf=>
bC f default (fT k.1 d) λg=>
ai (f&&g) λh=>
bif h then (
some (e,true)) else (
a (i64.wrap (e+1))) else some ((-1),false)
def Ci(b:Q4)(d:Int)(c:cD)(e:Int)(f:Int)(g:Q1)(a:GH):Option Eu:=
aj (iJ b c a) au 0
def kS(h:Q1):zb:=
some (h.length:Int)
def ij(h:Q1)(i:Int)(j:Int):Option Q1:=
(idx h j).bind λa=>
(idx h i).bind λc=>
(idx h i).bind λd=>
(idx (List.set h (Int.toNat i) a) j).bind λb=>
some (List.set (List.set h (Int.toNat i) a) (Int.toNat j) c)
def ie(h:Q1)(i:Int)(j:Int):x3:=
(idx h i).bind λb=>
(idx h j).bind λa=>
some (decide (b<a))
def oX(i0:Int)(e:Q1)(f:Int)(a:fR->Option (Bool×Q1))(b:Int):Option (Bool×Q1):=
(ie e b f).bind λd=>
bif !d then some ((decide (i0<f)),e) else (ij e f b).bind λc=>
a (c,b)
def il(i0:Int)(n:Int)(b:fR->Option (Bool×Q1)):Q1×Int->Option (Bool×Q1):=λ⟨g,a⟩=>
ai (decide (n<=(i64.wrap ((i64.wrap (2*a))+1)))) λb8=>
ai (decide ((i64.wrap ((i64.wrap (2*a))+1))<0)) λj=>
ai (b8||j) λi=>
bif i then (
some ((decide (i0<a)),g)) else (
ai (λ(e:Int)=>oX i0 g a b e) λc=>
ai (decide ((i64.wrap ((i64.wrap ((i64.wrap (2*a))+1))+1))<n)) λd=>
bC d default (ie g (i64.wrap ((i64.wrap ((i64.wrap (2*a))+1))+1)) (i64.wrap ((i64.wrap (2*a))+1))) λf=>
ai (d&&f) λh=>
bif h then (
c (i64.wrap ((i64.wrap ((i64.wrap (2*a))+1))+1))) else (
c (i64.wrap ((i64.wrap (2*a))+1))))
def sN(i0:Int)(n:Int)(h:Q1):Option (Bool×Q1):=
aj (il i0 n) au (h,i0)
def yS(h:Q1):Option DJ:=
(idx h (i64.wrap ((h.length:Int)-1))).bind λa=>
aN (cZ 0 (i64.wrap ((h.length:Int)-1)) (List.length h))<|
some (a,(aV h 0 (i64.wrap ((h.length:Int)-1))))
def oL(h:Q1):Option DJ:=
(kS h).bind λr1=>
(ij h 0 (i64.wrap (r1-1))).bind λc=>
(sN 0 (i64.wrap (r1-1)) c).bind λb=>
(yS b.2).bind λa=>
some (a.1,a.2)
def uC(e:Int)(a:cD)(f:Int)(g:Int)(b:Q1)(d:GH):Option (Int×cD×Q1):=
bif (b.length:Int)==0 then aN (aH (List.length a+List.length ([([],0)]:List (Q4×Int))) 32)<|
some ((i64.wrap ((List.length (a++([([],0)]:List (Q4×Int))):Int)-1)),(a++([([],0)]:List (Q4×Int))),b) else (oL b).bind λc=>
some (c.1,a,c.2)
def mQ(a:Q4)(e:(Int×cD×Q1))(g:(List Eu))(b:(cD×Int)->Option K7):cD×Int->Option K7:=λ⟨c,d⟩=>
bif decide (d<(a.length:Int)) then (idx a d).bind λf=>
(idx c f.2).bind λi=>
(idx c f.2).bind λh=>
b ((List.set c (Int.toNat f.2) (h.1,(i64.wrap (i.2+1)))),(i64.wrap (d+1))) else some (e.1,c,e.2.2,(some (mo g e.1 true)))
def sn(b:Q4)(f:Int)(d:cD)(g:Int)(h:Int)(e:Q1)(a:GH):Option K7:=
(Ci b f d g h e a).bind λr11=>
bif r11.2 then (
some (r11.1,d,e,a)) else (
(uC f d g h e a).bind λc=>
(idx c.2.1 c.1).bind λj=>
(a).bind λi=>
aj (mQ b c i) au ((List.set c.2.1 (Int.toNat c.1) (b,0)),0))
def LZ(d:Pe)(at_:Int)(by_:Int):zb:=
bif at_==(-1) then some (-1) else (idx d.2.1 at_).bind λe=>
(bD e.1 by_).bind λa=>
bif !a.2 then some (-1) else (idx d.2.1 at_).bind λc=>
(idx c.1 a.1).bind λb=>
some b.2
def xV(e:jk)(by_:Int):zb:=
(mL e.1 by_).bind λa=>
some a
def lC(x:Q4)(target:Int)(a:jk->Option Eu):Int×Int->Option Eu:=λ⟨b,d⟩=>
bif decide (b<d) then (idx x (i64.wrap (iI .u64 (u64.wrap (i64.wrap (b+d))) 1))).bind λi=>
(xV i target).bind λr11=>
bif decide (r11<0) then a ((i64.wrap ((i64.wrap (iI .u64 (u64.wrap (i64.wrap (b+d))) 1))+1)),d) else a (b,(i64.wrap (iI .u64 (u64.wrap (i64.wrap (b+d))) 1))) else ai (decide (b<(x.length:Int))) λc=>
bC c (0,0) (idx x b) λf=>
bC c default (xV f target) λe=>
ai (e==0) λh=>
ai (c&&h) λg=>
some (b,g)
def cq(x:Q4)(target:Int):Option Eu:=
aj (lC x target) au (0,(x.length:Int))
def fQ(s:Q4):Option Q4:=
aN (aH (List.length s) 16)<|
some s
def yq(d:Int)(e:Int)(f:Int)(c:K7)(b:Q4):Option K7:=
(sn b d c.2.1 e f c.2.2.1 c.2.2.2).bind λa=>
some (a.1,a.2.1,a.2.2.1,a.2.2.2)
def yx(r:Q41->Option K7)(at_:Int)(b:Q1)(c:Int)(f:cD)(d:Int)(e:Int)(g:Q1)(j:GH)(a:Q4):Option K7:=
(idx b 0).bind λl=>
(idx b 0).bind λp=>
aN (cZ 1 ((List.length b):Int) (List.length b))<|
(LZ (c,f,d,e,g) at_ p).bind λo=>
(r (o,(aV b 1 ((List.length b):Int)),c,(c,f,d,e,g).2.1,d,e,(c,f,d,e,g).2.2.2.2,j)).bind λk=>
(cq a l).bind λh=>
ai (λ(m:Q4)=>yq c d e k m) λi=>
bif h.2 then (
(idx a h.1).bind λq=>
i (List.set a (Int.toNat h.1) (l,k.1))) else (
(VE 16 a h.1 ([(l,k.1)]:List jk)).bind λn=>
i n)
def mF(m:Q41->Option K7)(at_:Int)(d:Q1)(f:Int)(b:cD)(g:Int)(h:Int)(i:Q1)(a:GH):Option K7:=
bif (d.length:Int)==0 then (sn [] f b g h i a).bind λc=>
some (c.1,c.2.1,c.2.2.1,c.2.2.2) else ai (λ(j:Q4)=>yx m at_ d f b g h i a j) λe=>
bif at_ != (-1) then (idx b at_).bind λl=>
(fQ l.1).bind λk=>
e k else e []
def yO(at_:Int)(b:Q1)(c:Int)(e:cD)(d:Int)(f:Int)(g:Q1)(a:GH):Option K7:=
 aj (λk (s:Q41)=>mF k s.1 s.2.1 s.2.2.1 s.2.2.2.1 s.2.2.2.2.1 s.2.2.2.2.2.1 s.2.2.2.2.2.2.1 s.2.2.2.2.2.2.2) au (at_,b,c,e,d,f,g,a)
def wm(x:Int)(h:Q1):Option Q1:=
aN (aH (List.length h+List.length ([x]:zj)) 8)<|
some (h++([x]:zj))
def nQ(a:fR->Option Q1):Q1×Int->Option Q1:=λ⟨d,b⟩=>
ai ((i64.wrap (Int.tdiv (i64.wrap (b-1)) 2))==b) λg=>
bC (!g) default (ie d b (i64.wrap (Int.tdiv (i64.wrap (b-1)) 2))) λh=>
ai (!h) λf=>
ai (g||f) λe=>
bif e then (
some d) else (
(ij d (i64.wrap (Int.tdiv (i64.wrap (b-1)) 2)) b).bind λc=>
a (c,(i64.wrap (Int.tdiv (i64.wrap (b-1)) 2))))
def rF(j:Int)(h:Q1):Option Q1:=
aj nQ au (h,j)
def nu(x:Int)(h:Q1):Option Q1:=
(wm x h).bind λc=>
(kS c).bind λb=>
(rF (i64.wrap (b-1)) c).bind λa=>
some a
def pG(o:Q45->Option (cD×Q1))(i:Int)(h:Int)(j:Int)(k:Int)(b:GH)(f:(Q4×Int))(a:(cD×Q1×Int)->Option (cD×Q1)):cD×Q1×Int->Option (cD×Q1):=λ⟨d,g,c⟩=>
bif decide (c<(f.1.length:Int)) then (idx f.1 c).bind λm=>
(o (m.2,h,d,j,k,g,b)).bind λe=>
a (e.1,e.2,(i64.wrap (c+1))) else (idx d i).bind λn=>
(nu i g).bind λl=>
some ((List.set d (Int.toNat i) ([],0)),l)
def rV(l:Q45->Option (cD×Q1))(i:Int)(e:Int)(a:cD)(f:Int)(g:Int)(c:Q1)(d:GH):Option (cD×Q1):=
(idx a i).bind λh=>
(idx a i).bind λb=>
(idx (List.set a (Int.toNat i) (b.1,(i64.wrap (h.2-1)))) i).bind λk=>
bif decide (0<k.2) then some ((List.set a (Int.toNat i) (b.1,(i64.wrap (h.2-1)))),c) else (idx (List.set a (Int.toNat i) (b.1,(i64.wrap (h.2-1)))) i).bind λj=>
aj (pG l i e f g d j) au ((List.set a (Int.toNat i) (b.1,(i64.wrap (h.2-1)))),c,0)
def uz(i:Int)(b:Int)(d:cD)(c:Int)(e:Int)(f:Q1)(a:GH):Option (cD×Q1):=
 aj (λk (s:Q45)=>rV k s.1 s.2.1 s.2.2.1 s.2.2.2.1 s.2.2.2.2.1 s.2.2.2.2.2.1 s.2.2.2.2.2.2) au (i,b,d,c,e,f,a)
def B8(d:Pe)(a:K7)(b:cD)(c:Q1):Option (Pe×Bool×Int):=
some ((d.1,b,a.1,(i64.wrap (d.2.2.2.1+1)),c),true,0)
def fU(d:Pe)(b:Q1):Option (Pe×Bool×Int):=
ai ((b.length:Int) != d.1) λn=>
ai (d.1==0) λm=>
ai (n||m) λl=>
bif l then (
some (d,false,1)) else (
(pL d b).bind λk=>
bif k then (
some (d,false,0)) else (
(dM d.2.1).bind λj=>
(bu d.2.2.2.2).bind λi=>
(yO d.2.2.1 b d.1 j d.2.2.1 d.2.2.2.1 i (some []:GH)).bind λa=>
(idx a.2.1 a.1).bind λh=>
(idx a.2.1 a.1).bind λg=>
ai (λ(e:cD×Q1)=>B8 d a e.1 e.2) λc=>
bif d.2.2.1 != (-1) then (uz d.2.2.1 d.1 (List.set a.2.1 (Int.toNat a.1) (g.1,(i64.wrap (h.2+1)))) a.1 d.2.2.2.1 a.2.2.1 a.2.2.2).bind λf=>
c (f.1,f.2) else c ((List.set a.2.1 (Int.toNat a.1) (g.1,(i64.wrap (h.2+1)))),a.2.2.1)))
def kQ(f:Unit)(t:Q3)(b:Q1):Option Q49:=
(eR t b).bind λa=>
(pL t.2.2.2.2.2.2.1.1 a).bind λe=>
bif e then (
some (t,false,0)) else (
(Jh t.2.2.2.2.2.2.1.1).bind λd=>
bif decide (t.2.2.1<=d) then some (t,false,7) else (fU t.2.2.2.2.2.2.1.1 a).bind λc=>
some ((t.1,t.2.1,t.2.2.1,t.2.2.2.1,t.2.2.2.2.1,t.2.2.2.2.2.1,(c.1,t.2.2.2.2.2.2.1.2.1,t.2.2.2.2.2.2.1.2.2),t.2.2.2.2.2.2.2),true,0))
def Cf(b:Q1)(seed:Int)(k:Int)(n:Int)(c:fR->Option Q1):Q1×Int->Option Q1:=λ⟨a,e⟩=>
bif decide (e<(max k 0)) then (DL b (u64.wrap (seed+(u64.wrap e)))).bind λf=>
(wW f n).bind λd=>
aN (aH (List.length a+List.length ([d]:zj)) 8)<|
c ((a++([d]:zj)),(i64.wrap (e+1))) else some a
def oh(b:Q1)(seed:Int)(k:Int)(n:Int):Option Q1:=
aj (Cf b seed k n) au ([],0)
def Ff(b:tW)(j:Bool)(i:Q1)(a:Fe->x3):Bool×Int->x3:=λ⟨e,c⟩=>
bif decide (c<(i.length:Int)) then (idx i c).bind λd=>
(idx b.2.2.2.1 (i64.wrap (Int.tdiv d 8))).bind λf=>
aN (decide (0<=(Int.tmod d 8)))<|
ai ((rh .u8 f (lD .u8 1 (Int.tmod d 8))) != 0) λh=>
ai (e&&h) λg=>
a (g,(i64.wrap (c+1))) else some e
def M9(b:tW)(key:Q1)(c:Bool):x3:=
(oh key b.2.2.1 b.2.1 b.1).bind λa=>
aj (Ff b c a) au (c,0)
def Qm(b:tW)(key:Q1):x3:=
(M9 b key true).bind λa=>
some a
def vO(b:tW)(key:Q1):x3:=
(Qm b key).bind λa=>
some a
def cu(s:Q1):Option Q1:=
aN (aH (List.length s) 1)<|
some s
def jG(f:Q1)(a:fR->Option Q1):Q1×Int->Option Q1:=λ⟨d,c⟩=>
bif decide (c<(f.length:Int)) then (idx f c).bind λb=>
(idx d (i64.wrap (Int.tdiv b 8))).bind λe=>
aN (decide (0<=(Int.tmod b 8)))<|
a ((List.set d (Int.toNat (i64.wrap (Int.tdiv b 8))) (uY .u8 e (lD .u8 1 (Int.tmod b 8)))),(i64.wrap (c+1))) else some d
def yh(b:tW)(key:Q1):Option Q1:=
(oh key b.2.2.1 b.2.1 b.1).bind λa=>
aj (jG a) au (b.2.2.2.1,0)
def Qa(b:tW)(key:Q1):Option tW:=
(cu b.2.2.2.1).bind λc=>
(yh (b.1,b.2.1,b.2.2.1,(c,b.2.2.2.2.1,b.2.2.2.2.2)) key).bind λa=>
some (b.1,b.2.1,b.2.2.1,(a,b.2.2.2.2.1,b.2.2.2.2.2))
def Bi(b:tW)(key:Q1):Option (tW×Bool):=
(vO b key).bind λc=>
bif c then (
some (b,false)) else (
(Qa b key).bind λa=>
some (a,true))
def kR(d:Unit)(t:Q3)(b:Q1):Option Q49:=
(eR t b).bind λc=>
(Bi t.2.2.2.2.2.2.2 c).bind λa=>
some ((t.1,t.2.1,t.2.2.1,t.2.2.2.1,t.2.2.2.2.1,t.2.2.2.2.2.1,t.2.2.2.2.2.2.1,a.1),a.2,0)
def dD(t:Q3)(a:Q1):Option Q49:=
(fC t.2.1 a).bind λh=>
bif h != 0 then some (t,false,h) else (dJ t).bind λb=>
bif Nat.beq b 154 then (kJ () t a).bind λg=>
some (g.1,g.2.1,g.2.2) else bif Nat.beq b 155 then (kc () t a).bind λf=>
some (f.1,f.2.1,f.2.2) else bif Nat.beq b 156 then (ka () t a).bind λe=>
some (e.1,e.2.1,e.2.2) else bif Nat.beq b 157 then (kQ () t a).bind λd=>
some (d.1,d.2.1,d.2.2) else bif Nat.beq b 158 then (kR () t a).bind λc=>
some (c.1,c.2.1,c.2.2) else none
def Kz(a:Q49):Option Q18:=
some (.ok (a.2.1,a.1.1,a.1.2.1,a.1.2.2.1,a.1.2.2.2.1.1.1,a.1.2.2.2.1.1.2.1,a.1.2.2.2.1.1.2.2,a.1.2.2.2.1.2,a.1.2.2.2.2.1.1,a.1.2.2.2.2.1.2.1.1,a.1.2.2.2.2.1.2.1.2.1,a.1.2.2.2.2.1.2.1.2.2,a.1.2.2.2.2.1.2.2,a.1.2.2.2.2.2.1.1,a.1.2.2.2.2.2.1.2,a.1.2.2.2.2.2.2.1.1.1,a.1.2.2.2.2.2.2.1.1.2.1,a.1.2.2.2.2.2.2.1.1.2.2.1,a.1.2.2.2.2.2.2.1.1.2.2.2.1,a.1.2.2.2.2.2.2.1.1.2.2.2.2,a.1.2.2.2.2.2.2.1.2.1.1,a.1.2.2.2.2.2.2.1.2.1.2.1,a.1.2.2.2.2.2.2.1.2.1.2.2.1,a.1.2.2.2.2.2.2.1.2.1.2.2.2.1,a.1.2.2.2.2.2.2.1.2.1.2.2.2.2,a.1.2.2.2.2.2.2.1.2.2.1,a.1.2.2.2.2.2.2.1.2.2.2.1,a.1.2.2.2.2.2.2.1.2.2.2.2.1,a.1.2.2.2.2.2.2.1.2.2.2.2.2.1,a.1.2.2.2.2.2.2.1.2.2.2.2.2.2,a.1.2.2.2.2.2.2.2.1,a.1.2.2.2.2.2.2.2.2.1,a.1.2.2.2.2.2.2.2.2.2.1,a.1.2.2.2.2.2.2.2.2.2.2.1,a.1.2.2.2.2.2.2.2.2.2.2.2.1,a.1.2.2.2.2.2.2.2.2.2.2.2.2))
def jJ(x:Q1)(J:bp)(u:Q4)(P:Q1)(I:bp)(U:Q5)(O:Lg)(N:(List Q1))(v:Q1)(V:(List Q1))(E:Int)(a:Q4)(Q:Int)(s:Int)(F:(List Q1))(y:Q1)(H:Q1)(Part:(List Q6))(r:Int)(k:(List Q1))(d:Q1)(o:Q1)(q:(List Q6))(n:Q1)(w:Int)(C:cD)(A:Int)(D:Int)(G:Q1)(c:Int)(h:cD)(f:Int)(j:Int)(m:Q1)(b:Int)(g:cD)(e:Int)(i:Int)(l:Q1)(M:Int)(K:Int)(z:Int)(B:Q1)(S:Q1)(R:Q1)(L:Int):Option Q18:=
(dD (E,a,Q,((s,F,y),H),(Part,(r,k,d),o),(q,n),((w,C,A,D,G),(c,h,f,j,m),(b,g,e,i,l)),(M,K,z,(B,S,R))) x).bind λp=>
ai (λ(T:Unit)=>Kz p) λt=>
bif p.2.2 != 0 then some (.error (p.2.2,[])) else t ()
def xK(x:Q1):Option fR:=
aN (kE 0 (i64.wrap ((x.length:Int)-1)) (i64.wrap ((x.length:Int)-1)) (List.length x)&&((i64.wrap ((x.length:Int)-1))==(i64.wrap ((x.length:Int)-1))))<|
(idx x (i64.wrap ((x.length:Int)-1))).bind λa=>
some ((aV x 0 (i64.wrap ((x.length:Int)-1))),a)
def JO(m:iS)(a:Q1):Option (bp×Q4×Q1×bp×Q5×Q1):=
some (m.1,m.2.1,m.2.2.1,m.2.2.2.1,m.2.2.2.2,a)
def sY(m:iS)(d:Q1)(a:fR->Option Q1):Q1×Int->Option Q1:=λ⟨b,c⟩=>
bif decide (c<(m.2.2.2.2.length:Int)) then (idx m.2.2.2.2 c).bind λf=>
(rz f.2.1 d).bind λe=>
bif e==1 then aN (aH (List.length b+List.length ([c]:zj)) 8)<|
a ((b++([c]:zj)),(i64.wrap (c+1))) else a (b,(i64.wrap (c+1))) else some b
def Fi(m:iS)(a:Q1):Option Q1:=
aj (sY m a) au ([],0)
def tn(s:Q4)(e:Q1)(a:Int->zb)(b:Int):zb:=
bif decide (b<(e.length:Int)) then (idx e b).bind λf=>
(idx s b).bind λd=>
(lq d f).bind λc=>
bif !c then some 5 else a (i64.wrap (b+1)) else some 0
def tP(s:Q4)(a:Q1):zb:=
bif (a.length:Int) != (s.length:Int) then some 1 else aj (tn s a) au 0
def xS(m:iS)(f:Q1)(e:Q52)(a:fR->Option fR):Q1×Int->Option fR:=λ⟨b,c⟩=>
bif decide (c<(e.2.2.length:Int)) then (idx e.2.2 c).bind λd=>
(rz d.2 f).bind λh=>
(idx b d.1).bind λi=>
a ((List.set b (Int.toNat d.1) h),(i64.wrap (c+1))) else (tP m.2.1 b).bind λg=>
bif g != 0 then some ([],6) else some (b,0)
def GB(m:iS)(a:Q1)(k:Int):Option fR:=
ai (decide (k<0)) λf=>
ai (decide ((m.2.2.2.2.length:Int)<=k)) λe=>
ai (f||e) λd=>
bif d then (
some ([],10)) else (
(bu a).bind λb=>
(idx m.2.2.2.2 k).bind λc=>
aj (xS m a c) au (b,0))
def je(a:Bool)(b:Q1):x3:=
bif !a then some true else bif !a then none else some a
def gY(s:aE)(b:Bool)(a:Q1):Option (Int×Bool×Q1):=
(je b a).bind λr1=>
aN (aH (List.length a+List.length s) 1)<|
some ((s.length:Int),r1,(a++aQ s))
def iZ(c:Int)(b:Bool)(a:Q1):Option (Bool×Q1):=
(je b a).bind λr1=>
aN (aH (List.length a+List.length ([c]:zj)) 1)<|
some (r1,(a++([c]:zj)))
def kB(b:Bool)(a:Q1):Option aE:=
(idx a 0).bind λc=>
aN (decide ((0:Int)=0)&&decide ((a.length:Int)=(a.length:Int)))<|
some (strOf a)
def xJ(h:Q1)(a:(Bool×Q1×Int)->Option aE):Bool×Q1×Int->Option aE:=λ⟨j,i,b⟩=>
bif decide (b<(h.length:Int)) then (idx h b).bind λg=>
(YA g).bind λf=>
(gY f j i).bind λd=>
(iZ 32 d.2.1 d.2.2).bind λc=>
a (c.1,c.2,(i64.wrap (b+1))) else (kB j i).bind λe=>
some e
def Nv(a:Q1):Option aE:=
aj (xJ a) au (false,[],0)
def wK(c:Q1)(l:(List Q1))(a:x5):Option Q54:=
(Nv c).bind λb=>
bif !(ew a b false) then (a).bind λd=>
aN (aH (List.length l+List.length ([c]:List Q1)) 24)<|
some ((l++([c]:List Q1)),(some (mo d b true))) else some (l,a)
def n8(c:Q1)(l:(List Q1))(at_:x5):Option Q54:=
ai (λ(b:x5)=>wK c l b) λa=>
bif (Option.isNone at_) then a (some []:x5) else a at_
def yy(h:Q1)(c:(bp×Q4×Q1×bp×Q5×Q1))(i:Q1)(a:(Int×Int×(List Q1)×x5)->Option lu):Int×Int×(List Q1)×x5->Option lu:=λ⟨e,o,d,g⟩=>
bif decide (e<(i.length:Int)) then (idx i e).bind λn=>
(GB (c.1,c.2.1,c.2.2.1,c.2.2.2.1,c.2.2.2.2.1) c.2.2.2.2.2 n).bind λf=>
bif f.2 != 0 then bif !false then some ([],f.2) else a ((i64.wrap (e+1)),f.2,d,g) else (n8 f.1 d g).bind λb=>
bif !true then bif (b.1.length:Int)==0 then (bu h).bind λm=>
(n8 m b.1 b.2).bind λl=>
some (l.1,0) else some (b.1,0) else a ((i64.wrap (e+1)),o,b.1,b.2) else bif (d.length:Int)==0 then (bu h).bind λk=>
(n8 k d g).bind λj=>
some (j.1,0) else some (d,0)
def Gn(m:iS)(b:Q1):Option lu:=
(JO m b).bind λa=>
(Fi (a.1,a.2.1,a.2.2.1,a.2.2.2.1,a.2.2.2.2.1) a.2.2.2.2.2).bind λc=>
aj (yy b a c) au (0,0,[],none)
def tB(i:Int)(c:((List Q1)×x5×Int)->Option lu)(a:Q50)(b:(Int×(List Q1)×x5)->Option lu):Int×(List Q1)×x5->Option lu:=λ⟨e,h,g⟩=>
bif decide (e<(a.1.length:Int)) then (idx a.1 e).bind λf=>
(Fp (a.2.1,a.2.2.1,a.2.2.2.1,a.2.2.2.2.1) f a.2.2.2.2.2).bind λk=>
bif k then (
(bu a.2.2.2.2.2).bind λj=>
aN (aH (List.length j+List.length ([f]:zj)) 8)<|
(tT (j++([f]:zj)) h g).bind λd=>
ai (!true) λl=>
bif l then (
c (d.1,d.2,(i64.wrap (i+1)))) else (
b ((i64.wrap (e+1)),d.1,d.2))) else (
b ((i64.wrap (e+1)),h,g)) else c (h,g,(i64.wrap (i+1)))
def tZ(a:Q9)(r11:fR)(d:lu)(b:((List Q1)×x5×Int)->Option lu):(List Q1)×x5×Int->Option lu:=λ⟨e,i,c⟩=>
bif decide (c<(d.1.length:Int)) then (idx d.1 c).bind λh=>
(idx a.2.1 r11.2).bind λg=>
(BQ a h g).bind λf=>
aj (tB c b f) au (0,e,i) else some (e,0)
def xg(m:iS)(a:Q9)(x:Q1):Option lu:=
(xK x).bind λr11=>
(Gn m r11.1).bind λb=>
bif b.2 != 0 then some ([],b.2) else aj (tZ a r11 b) au ([],none,0)
def vR(stack:Aa)(x:Q1)(a:lu):Option (Except DJ Aa):=
aN (aH (List.length stack+List.length ([(x,a.1)]:List (Q1×(List Q1)))) 48)<|
some (.ok (stack++([(x,a.1)]:List (Q1×(List Q1)))))
def vQ(stack:Aa)(x:Q1)(d:bp)(a:Q4)(h:Q1)(c:bp)(aT:Q5)(g:Lg)(f:(List Q1))(b:Q1)(j:(List Q1)):Option (Except DJ Aa):=
(xg (d,a,h,c,aT) (g,f,b,j) x).bind λi=>
ai (λ(k:Unit)=>vR stack x i) λe=>
bif i.2 != 0 then aN (kE 0 (i64.wrap ((x.length:Int)-1)) (i64.wrap ((x.length:Int)-1)) (List.length x)&&((i64.wrap ((x.length:Int)-1))==(i64.wrap ((x.length:Int)-1))))<|
some (.error (i.2,(aV x 0 (i64.wrap ((x.length:Int)-1))))) else e ()
def fH(stack:Aa)(x:Q1)(e:bp)(a:Q4)(w:Q1)(d:bp)(aT:Q5)(v:Lg)(u:(List Q1))(b:Q1)(M:(List Q1))(I:Int)(c:Q4)(O:Int)(A:Int)(J:(List Q1))(C:Q1)(L:Q1)(F:(List Q6))(z:Int)(p:(List Q1))(i:Q1)(t:Q1)(y:(List Q6))(s:Q1)(B:Int)(G:cD)(E:Int)(H:Int)(K:Q1)(h:Int)(m:cD)(k:Int)(o:Int)(r:Q1)(g:Int)(l:cD)(j:Int)(n:Int)(q:Q1)(R:Int)(S:Int)(D:Int)(T:Q1)(Q:Q1)(P:Q1)(most:Int):Option (Except DJ Aa):=
ai (λ(N:Unit)=>vQ stack x e a w d aT v u b M) λf=>
bif decide (most<=(stack.length:Int)) then some (.error (8,[])) else f ()
def gO(s:Q1)(c:Int)(a:Int->zb)(b:Int):zb:=
bif decide (b<(s.length:Int)) then (idx s b).bind λd=>
bif c==d then some b else a (i64.wrap (b+1)) else some (-1)
def rT(s:Q1)(a:Int):zb:=
aj (gO s a) au 0
def nM(s:Q1)(a:Int):x3:=
(rT s a).bind λb=>
some (decide (0<=b))
def x7(a:Q9)(x:Q1):x3:=
(xK x).bind λd=>
(idx a.2.2.2 0).bind λc=>
(nM c d.2).bind λb=>
some b
def uX(a:Aa):Option Unit:=
some ()
def gN(e:Q1)(f:Q1)(a:Int->x3)(b:Int):x3:=
bif decide (b<(e.length:Int)) then (idx e b).bind λd=>
(idx f b).bind λc=>
bif d != c then some false else a (i64.wrap (b+1)) else some true
def l8(b:Q1)(a:Q1):x3:=
bif (b.length:Int) != (a.length:Int) then some false else aj (gN b a) au 0
def uA(stack:Aa)(b:lu->Option (List Q1)):(List Q1)×Int->Option (List Q1):=λ⟨a,d⟩=>
bif decide (d<(stack.length:Int)) then (idx stack d).bind λc=>
aN (aH (List.length a+List.length ([c.1]:List Q1)) 24)<|
b ((a++([c.1]:List Q1)),(i64.wrap (d+1))) else some a
def Bh(stack:Aa):Option (List Q1):=
aj (uA stack) au ([],0)
def jY(stack:Aa)(y:Q1)(x:Q1)(a:Aa):Option (Except y4 Unit):=
(l8 y x).bind λr2=>
bif r2 then (
aN (cZ 0 (i64.wrap ((a.length:Int)-1)) (List.length a))<|
(Bh (aV a 0 (i64.wrap ((a.length:Int)-1)))).bind λc=>
(Bh stack).bind λb=>
some (.error (c,b))) else (
some (.ok ()))
def EX(a:Int):zb:=
bif a==0 then some 1 else bif a==1 then some 2 else some 0
def GQ(i:Int)(b:Int)(e:Int)(d:(List Q1))(c:Q1)(a:Q1)(f:Bool):x3:=
(idx a i).bind λe3=>
some ((rh .u8 e3 b) != 0)
def VY(s:(Q6×Q1))(key:Q1)(b:Int)(h:Int)(e:(List Q1))(d:Q1)(f:Q1)(c:Bool):Option Eu:=
(EX b).bind λi=>
bif i==0 then some (1,c) else (dP s.1 key).bind λa=>
bif !a.2 then some (10,c) else (GQ a.1 i h e d f c).bind λg=>
some (0,g)
def KJ(s:(Q6×Q1))(key:Q1)(a:Int):Option Fe:=
(VY s key a s.1.1 s.1.2.1 s.1.2.2 s.2 false).bind λb=>
some (b.2,b.1)
def oP(e:Unit)(t:Q3)(c:Q1)(b:Int):Option Fe:=
(eR t c).bind λd=>
(KJ t.2.2.2.1 d b).bind λa=>
some (a.1,a.2)
def Dt(c:Ab)(s:Q4)(b:Q1)(a:Int):Option jk:=
(fC s b).bind λh=>
bif h != 0 then some (0,h) else ai (decide (a<0)) λg=>
ai (decide (1<a)) λf=>
ai (g||f) λe=>
bif e then (
some (0,1)) else (
(tY c s b).bind λd=>
bif decide (d<0) then some (0,10) else some (d,0))
def Jr(c:Ab)(s:Q4)(b:Q1)(a:Int):Option Fe:=
(Dt c s b a).bind λd=>
bif d.2 != 0 then some (false,d.2) else (idx c.2.2 d.1).bind λe=>
aN (decide (0<=a))<|
some (((rh .u8 (iI .u8 e a) 1)==1),0)
def nb(d:Unit)(t:Q3)(b:Q1)(a:Int):Option Fe:=
(Jr t.2.2.2.2.1 t.2.1 b a).bind λc=>
some (c.1,c.2)
def DC(t:Ni)(s:Q4)(f:Q1)(a:Int):Option jk:=
(fC s f).bind λg=>
bif g != 0 then some (0,g) else ai (a != 0) λe=>
ai (a != 1) λd=>
ai (e&&d) λc=>
bif c then (
some (0,1)) else (
(xi t s f).bind λb=>
bif !b.2 then some (0,10) else some (b.1,0))
def JA(t:Ni)(s:Q4)(d:Q1)(a:Int):Option Fe:=
(DC t s d a).bind λb=>
bif b.2 != 0 then some (false,b.2) else (idx t.2 b.1).bind λc=>
aN (decide (0<=a))<|
some (((rh .u8 c (lD .u8 1 a)) != 0),0)
def mZ(d:Unit)(t:Q3)(b:Q1)(a:Int):Option Fe:=
(JA t.2.2.2.2.2.1 t.2.1 b a).bind λc=>
some (c.1,c.2)
def sf(t:Q3)(b:Q1)(a:Int):zb:=
ai (decide (a<0)) λg=>
ai (decide (1<a)) λf=>
ai (g||f) λe=>
bif e then (
some 1) else (
(eR t b).bind λd=>
(pL t.2.2.2.2.2.2.1.1 d).bind λc=>
bif !c then some 10 else some 0)
def oJ(j:Unit)(t:Q3)(b:Q1)(a:Int):Option Fe:=
(sf t b a).bind λi=>
bif i != 0 then some (false,i) else bif (i64.wrap (1+a))==0 then (eR t b).bind λh=>
(pL t.2.2.2.2.2.2.1.1 h).bind λg=>
some (g,0) else bif (i64.wrap (1+a))==1 then (eR t b).bind λf=>
(pL t.2.2.2.2.2.2.1.2.1 f).bind λe=>
some (e,0) else bif (i64.wrap (1+a))==2 then (eR t b).bind λd=>
(pL t.2.2.2.2.2.2.1.2.2 d).bind λc=>
some (c,0) else none
def Ee(b:tW)(key:Q1)(a:Int):zb:=
ai (decide (a<0)) λf=>
ai (decide (1<a)) λe=>
ai (f||e) λd=>
bif d then (
some 1) else (
(vO b key).bind λc=>
bif !c then some 10 else some 0)
def oO(b:tW)(row:Int)(p:Bool)(o:Q1)(a:Fe->x3):Bool×Int->x3:=λ⟨e,d⟩=>
bif decide (d<(o.length:Int)) then (idx o d).bind λc=>
bif row==0 then (idx b.2.2.2.1 (i64.wrap (Int.tdiv c 8))).bind λh=>
aN (decide (0<=(Int.tmod c 8)))<|
ai ((rh .u8 h (lD .u8 1 (Int.tmod c 8))) != 0) λn=>
ai (e&&n) λm=>
a (m,(i64.wrap (d+1))) else bif row==1 then (idx b.2.2.2.2.1 (i64.wrap (Int.tdiv c 8))).bind λg=>
aN (decide (0<=(Int.tmod c 8)))<|
ai ((rh .u8 g (lD .u8 1 (Int.tmod c 8))) != 0) λl=>
ai (e&&l) λk=>
a (k,(i64.wrap (d+1))) else bif row==2 then (idx b.2.2.2.2.2 (i64.wrap (Int.tdiv c 8))).bind λf=>
aN (decide (0<=(Int.tmod c 8)))<|
ai ((rh .u8 f (lD .u8 1 (Int.tmod c 8))) != 0) λj=>
ai (e&&j) λi=>
a (i,(i64.wrap (d+1))) else none else some e
def Fh(b:tW)(key:Q1)(row:Int)(c:Bool):x3:=
(oh key b.2.2.1 b.2.1 b.1).bind λa=>
aj (oO b row c a) au (c,0)
def Bf(b:tW)(key:Q1)(row:Int):x3:=
(Fh b key row true).bind λa=>
some a
def Jy(b:tW)(key:Q1)(a:Int):Option Fe:=
(Ee b key a).bind λd=>
bif d != 0 then some (false,d) else (Bf b key (i64.wrap (1+a))).bind λc=>
some (c,0)
def oG(e:Unit)(t:Q3)(c:Q1)(b:Int):Option Fe:=
(eR t c).bind λd=>
(Jy t.2.2.2.2.2.2.2 d b).bind λa=>
some (a.1,a.2)
def dR(t:Q3)(b:Q1)(a:Int):Option Fe:=
(fC t.2.1 b).bind λi=>
bif i != 0 then some (false,i) else (dJ t).bind λc=>
bif Nat.beq c 154 then (oP () t b a).bind λh=>
some (h.1,h.2) else bif Nat.beq c 155 then (nb () t b a).bind λg=>
some (g.1,g.2) else bif Nat.beq c 156 then (mZ () t b a).bind λf=>
some (f.1,f.2) else bif Nat.beq c 157 then (oJ () t b a).bind λe=>
some (e.1,e.2) else bif Nat.beq c 158 then (oG () t b a).bind λd=>
some (d.1,d.2) else none
def Hw(i:Int)(b:Int)(m:Int)(k:(List Q1))(j:Q1)(e:Q1)(f:Int)(c:(List Q1))(a:Q1)(d:Q1):Option Q1:=
(cu e).bind λg=>
(idx g i).bind λh=>
(idx g i).bind λl=>
some (List.set g (Int.toNat i) (uY .u8 h b))
def J0(s:(Q6×Q1))(key:Q1)(g:Int)(l:Int)(i:(List Q1))(h:Q1)(j:Q1)(d:Int)(b:(List Q1))(a:Q1)(c:Q1):Option (Int×Int×(List Q1)×Q1×Q1):=
(EX g).bind λf=>
bif f==0 then some (1,d,b,a,c) else (dP s.1 key).bind λe=>
bif !e.2 then some (10,d,b,a,c) else (Hw e.1 f l i h j d b a c).bind λk=>
some (0,d,b,a,k)
def Ku(s:(Q6×Q1))(key:Q1)(b:Int):Option ((Q6×Q1)×Int):=
(J0 s key b s.1.1 s.1.2.1 s.1.2.2 s.2 s.1.1 s.1.2.1 s.1.2.2 s.2).bind λa=>
some (((a.2.1,a.2.2.1,a.2.2.2.1),a.2.2.2.2),a.1)
def oM(e:Unit)(t:Q3)(c:Q1)(b:Int):Option F5:=
(eR t c).bind λd=>
(Ku t.2.2.2.1 d b).bind λa=>
some ((t.1,t.2.1,t.2.2.1,a.1,t.2.2.2.2.1,t.2.2.2.2.2.1,t.2.2.2.2.2.2.1,t.2.2.2.2.2.2.2),a.2)
def Kv(c:Ab)(s:Q4)(e:Q1)(b:Int):Option (Ab×Int):=
(Dt c s e b).bind λa=>
bif a.2 != 0 then some (c,a.2) else (cu c.2.2).bind λd=>
(idx d a.1).bind λf=>
aN (decide (0<=b))<|
(idx d a.1).bind λg=>
some ((c.1,c.2.1,(List.set d (Int.toNat a.1) (uY .u8 f (lD .u8 1 b)))),0)
def nj(d:Unit)(t:Q3)(c:Q1)(b:Int):Option F5:=
(Kv t.2.2.2.2.1 t.2.1 c b).bind λa=>
some ((t.1,t.2.1,t.2.2.1,t.2.2.2.1,a.1,t.2.2.2.2.2.1,t.2.2.2.2.2.2.1,t.2.2.2.2.2.2.2),a.2)
def Jm(t:Ni)(s:Q4)(f:Q1)(b:Int):Option (Ni×Int):=
(DC t s f b).bind λa=>
bif a.2 != 0 then some (t,a.2) else (cu t.2).bind λc=>
(idx c a.1).bind λd=>
aN (decide (0<=b))<|
(idx c a.1).bind λe=>
some ((t.1,(List.set c (Int.toNat a.1) (uY .u8 d (lD .u8 1 b)))),0)
def nc(d:Unit)(t:Q3)(c:Q1)(b:Int):Option F5:=
(Jm t.2.2.2.2.2.1 t.2.1 c b).bind λa=>
some ((t.1,t.2.1,t.2.2.1,t.2.2.2.1,t.2.2.2.2.1,a.1,t.2.2.2.2.2.2.1,t.2.2.2.2.2.2.2),a.2)
def ot(j:Unit)(t:Q3)(b:Q1)(a:Int):Option F5:=
(sf t b a).bind λf=>
bif f != 0 then some (t,f) else bif (i64.wrap (1+a))==0 then (eR t b).bind λi=>
(fU t.2.2.2.2.2.2.1.1 i).bind λe=>
bif (i64.wrap (1+a))==0 then some ((t.1,t.2.1,t.2.2.1,t.2.2.2.1,t.2.2.2.2.1,t.2.2.2.2.2.1,(e.1,t.2.2.2.2.2.2.1.2.1,t.2.2.2.2.2.2.1.2.2),t.2.2.2.2.2.2.2),0) else bif (i64.wrap (1+a))==1 then some ((t.1,t.2.1,t.2.2.1,t.2.2.2.1,t.2.2.2.2.1,t.2.2.2.2.2.1,(t.2.2.2.2.2.2.1.1,e.1,t.2.2.2.2.2.2.1.2.2),t.2.2.2.2.2.2.2),0) else bif (i64.wrap (1+a))==2 then some ((t.1,t.2.1,t.2.2.1,t.2.2.2.1,t.2.2.2.2.1,t.2.2.2.2.2.1,(t.2.2.2.2.2.2.1.1,t.2.2.2.2.2.2.1.2.1,e.1),t.2.2.2.2.2.2.2),0) else none else bif (i64.wrap (1+a))==1 then (eR t b).bind λh=>
(fU t.2.2.2.2.2.2.1.2.1 h).bind λd=>
bif (i64.wrap (1+a))==0 then some ((t.1,t.2.1,t.2.2.1,t.2.2.2.1,t.2.2.2.2.1,t.2.2.2.2.2.1,(d.1,t.2.2.2.2.2.2.1.2.1,t.2.2.2.2.2.2.1.2.2),t.2.2.2.2.2.2.2),0) else bif (i64.wrap (1+a))==1 then some ((t.1,t.2.1,t.2.2.1,t.2.2.2.1,t.2.2.2.2.1,t.2.2.2.2.2.1,(t.2.2.2.2.2.2.1.1,d.1,t.2.2.2.2.2.2.1.2.2),t.2.2.2.2.2.2.2),0) else bif (i64.wrap (1+a))==2 then some ((t.1,t.2.1,t.2.2.1,t.2.2.2.1,t.2.2.2.2.1,t.2.2.2.2.2.1,(t.2.2.2.2.2.2.1.1,t.2.2.2.2.2.2.1.2.1,d.1),t.2.2.2.2.2.2.2),0) else none else bif (i64.wrap (1+a))==2 then (eR t b).bind λg=>
(fU t.2.2.2.2.2.2.1.2.2 g).bind λc=>
bif (i64.wrap (1+a))==0 then some ((t.1,t.2.1,t.2.2.1,t.2.2.2.1,t.2.2.2.2.1,t.2.2.2.2.2.1,(c.1,t.2.2.2.2.2.2.1.2.1,t.2.2.2.2.2.2.1.2.2),t.2.2.2.2.2.2.2),0) else bif (i64.wrap (1+a))==1 then some ((t.1,t.2.1,t.2.2.1,t.2.2.2.1,t.2.2.2.2.1,t.2.2.2.2.2.1,(t.2.2.2.2.2.2.1.1,c.1,t.2.2.2.2.2.2.1.2.2),t.2.2.2.2.2.2.2),0) else bif (i64.wrap (1+a))==2 then some ((t.1,t.2.1,t.2.2.1,t.2.2.2.1,t.2.2.2.2.1,t.2.2.2.2.2.1,(t.2.2.2.2.2.2.1.1,t.2.2.2.2.2.2.1.2.1,c.1),t.2.2.2.2.2.2.2),0) else none else none
def F9(f:Q1)(a:fR->Option Q1):Q1×Int->Option Q1:=λ⟨d,c⟩=>
bif decide (c<(f.length:Int)) then (idx f c).bind λb=>
(idx d (i64.wrap (Int.tdiv b 8))).bind λe=>
aN (decide (0<=(Int.tmod b 8)))<|
a ((List.set d (Int.toNat (i64.wrap (Int.tdiv b 8))) (uY .u8 e (lD .u8 1 (Int.tmod b 8)))),(i64.wrap (c+1))) else some d
def D9(b:tW)(key:Q1):Option Q1:=
(oh key b.2.2.1 b.2.1 b.1).bind λa=>
aj (F9 a) au (b.2.2.2.2.1,0)
def Gv(f:Q1)(a:fR->Option Q1):Q1×Int->Option Q1:=λ⟨d,c⟩=>
bif decide (c<(f.length:Int)) then (idx f c).bind λb=>
(idx d (i64.wrap (Int.tdiv b 8))).bind λe=>
aN (decide (0<=(Int.tmod b 8)))<|
a ((List.set d (Int.toNat (i64.wrap (Int.tdiv b 8))) (uY .u8 e (lD .u8 1 (Int.tmod b 8)))),(i64.wrap (c+1))) else some d
def EH(b:tW)(key:Q1):Option Q1:=
(oh key b.2.2.1 b.2.1 b.1).bind λa=>
aj (Gv a) au (b.2.2.2.2.2,0)
def Be(b:tW)(key:Q1)(row:Int):Option tW:=
bif row==0 then (cu b.2.2.2.1).bind λg=>
(yh (b.1,b.2.1,b.2.2.1,(g,b.2.2.2.2.1,b.2.2.2.2.2)) key).bind λf=>
some (b.1,b.2.1,b.2.2.1,(f,b.2.2.2.2.1,b.2.2.2.2.2)) else bif row==1 then (cu b.2.2.2.2.1).bind λe=>
(D9 (b.1,b.2.1,b.2.2.1,(b.2.2.2.1,e,b.2.2.2.2.2)) key).bind λd=>
some (b.1,b.2.1,b.2.2.1,(b.2.2.2.1,d,b.2.2.2.2.2)) else bif row==2 then (cu b.2.2.2.2.2).bind λc=>
(EH (b.1,b.2.1,b.2.2.1,(b.2.2.2.1,b.2.2.2.2.1,c)) key).bind λa=>
some (b.1,b.2.1,b.2.2.1,(b.2.2.2.1,b.2.2.2.2.1,a)) else none
def Km(b:tW)(key:Q1)(a:Int):Option (tW×Int):=
(Ee b key a).bind λc=>
bif c != 0 then some (b,c) else (Be b key (i64.wrap (1+a))).bind λd=>
some (d,0)
def oR(e:Unit)(t:Q3)(c:Q1)(b:Int):Option F5:=
(eR t c).bind λd=>
(Km t.2.2.2.2.2.2.2 d b).bind λa=>
some ((t.1,t.2.1,t.2.2.1,t.2.2.2.1,t.2.2.2.2.1,t.2.2.2.2.2.1,t.2.2.2.2.2.2.1,a.1),a.2)
def gA(t:Q3)(b:Q1)(a:Int):Option F5:=
(fC t.2.1 b).bind λi=>
bif i != 0 then some (t,i) else (dJ t).bind λc=>
bif Nat.beq c 154 then (oM () t b a).bind λh=>
some (h.1,h.2) else bif Nat.beq c 155 then (nj () t b a).bind λg=>
some (g.1,g.2) else bif Nat.beq c 156 then (nc () t b a).bind λf=>
some (f.1,f.2) else bif Nat.beq c 157 then (ot () t b a).bind λe=>
some (e.1,e.2) else bif Nat.beq c 158 then (oR () t b a).bind λd=>
some (d.1,d.2) else none
def pH(x:Q1)(v:bp)(g:Q4)(L:Q1)(t:bp)(aT:Q5)(H:Lg)(F:(List Q1))(o:Q1)(T:(List Q1))(I:Int)(c:Q4)(Q:Int)(y:Int)(J:(List Q1))(A:Q1)(O:Q1)(Part:(List Q6))(w:Int)(n:(List Q1))(f:Q1)(s:Q1)(u:(List Q6))(r:Q1)(z:Int)(E:cD)(D:Int)(G:Int)(N:Q1)(e:Int)(k:cD)(i:Int)(m:Int)(q:Q1)(d:Int)(j:cD)(h:Int)(l:Int)(p:Q1)(M:Int)(K:Int)(C:Int)(B:Q1)(S:Q1)(R:Q1)(most:Int):Option Q18:=
Dq (jJ x v g L t aT H F o T I c Q y J A O Part w n f s u r z E D G N e k i m q d j h l p M K C B S R most) λa=>
(dR (a.2.1,a.2.2.1,a.2.2.2.1,((a.2.2.2.2.1,a.2.2.2.2.2.1,a.2.2.2.2.2.2.1),a.2.2.2.2.2.2.2.1),(a.2.2.2.2.2.2.2.2.1,((d8 a).2.1,(d8 a).2.2.1,(d8 a).2.2.2.1),(d8 a).2.2.2.2.1),((d8 a).2.2.2.2.2.1,(d8 a).2.2.2.2.2.2.1),(((d8 a).2.2.2.2.2.2.2.1,(d8 (d8 a)).1,(d8 (d8 a)).2.1,(d8 (d8 a)).2.2.1,(d8 (d8 a)).2.2.2.1),((d8 (d8 a)).2.2.2.2.1,(d8 (d8 a)).2.2.2.2.2.1,(d8 (d8 a)).2.2.2.2.2.2.1,(d8 (d8 a)).2.2.2.2.2.2.2.1,(d8 (d8 (d8 a))).1),((d8 (d8 (d8 a))).2.1,(d8 (d8 (d8 a))).2.2.1,(d8 (d8 (d8 a))).2.2.2.1,(d8 (d8 (d8 a))).2.2.2.2.1,(d8 (d8 (d8 a))).2.2.2.2.2.1)),(d8 (d8 (d8 a))).2.2.2.2.2.2) x 1).bind λP=>
bif P.1 then (
some (.ok (false,a.2.1,a.2.2.1,a.2.2.2.1,a.2.2.2.2.1,a.2.2.2.2.2.1,a.2.2.2.2.2.2.1,a.2.2.2.2.2.2.2.1,a.2.2.2.2.2.2.2.2.1,(d8 a).2.1,(d8 a).2.2.1,(d8 a).2.2.2.1,(d8 a).2.2.2.2.1,(d8 a).2.2.2.2.2.1,(d8 a).2.2.2.2.2.2.1,(d8 a).2.2.2.2.2.2.2.1,(d8 (d8 a)).1,(d8 (d8 a)).2.1,(d8 (d8 a)).2.2.1,(d8 (d8 a)).2.2.2.1,(d8 (d8 a)).2.2.2.2.1,(d8 (d8 a)).2.2.2.2.2.1,(d8 (d8 a)).2.2.2.2.2.2.1,(d8 (d8 a)).2.2.2.2.2.2.2.1,(d8 (d8 (d8 a))).1,(d8 (d8 (d8 a))).2.1,(d8 (d8 (d8 a))).2.2.1,(d8 (d8 (d8 a))).2.2.2.1,(d8 (d8 (d8 a))).2.2.2.2.1,(d8 (d8 (d8 a))).2.2.2.2.2.1,(d8 (d8 (d8 a))).2.2.2.2.2.2.1,(d8 (d8 (d8 a))).2.2.2.2.2.2.2.1,(d8 (d8 (d8 (d8 a)))).1,(d8 (d8 (d8 (d8 a)))).2.1,(d8 (d8 (d8 (d8 a)))).2.2.1,(d8 (d8 (d8 (d8 a)))).2.2.2))) else (
(gA (a.2.1,a.2.2.1,a.2.2.2.1,((a.2.2.2.2.1,a.2.2.2.2.2.1,a.2.2.2.2.2.2.1),a.2.2.2.2.2.2.2.1),(a.2.2.2.2.2.2.2.2.1,((d8 a).2.1,(d8 a).2.2.1,(d8 a).2.2.2.1),(d8 a).2.2.2.2.1),((d8 a).2.2.2.2.2.1,(d8 a).2.2.2.2.2.2.1),(((d8 a).2.2.2.2.2.2.2.1,(d8 (d8 a)).1,(d8 (d8 a)).2.1,(d8 (d8 a)).2.2.1,(d8 (d8 a)).2.2.2.1),((d8 (d8 a)).2.2.2.2.1,(d8 (d8 a)).2.2.2.2.2.1,(d8 (d8 a)).2.2.2.2.2.2.1,(d8 (d8 a)).2.2.2.2.2.2.2.1,(d8 (d8 (d8 a))).1),((d8 (d8 (d8 a))).2.1,(d8 (d8 (d8 a))).2.2.1,(d8 (d8 (d8 a))).2.2.2.1,(d8 (d8 (d8 a))).2.2.2.2.1,(d8 (d8 (d8 a))).2.2.2.2.2.1)),(d8 (d8 (d8 a))).2.2.2.2.2.2) x 1).bind λb=>
some (.ok (true,b.1.1,b.1.2.1,b.1.2.2.1,b.1.2.2.2.1.1.1,b.1.2.2.2.1.1.2.1,b.1.2.2.2.1.1.2.2,b.1.2.2.2.1.2,b.1.2.2.2.2.1.1,b.1.2.2.2.2.1.2.1.1,b.1.2.2.2.2.1.2.1.2.1,b.1.2.2.2.2.1.2.1.2.2,b.1.2.2.2.2.1.2.2,b.1.2.2.2.2.2.1.1,b.1.2.2.2.2.2.1.2,b.1.2.2.2.2.2.2.1.1.1,b.1.2.2.2.2.2.2.1.1.2.1,b.1.2.2.2.2.2.2.1.1.2.2.1,b.1.2.2.2.2.2.2.1.1.2.2.2.1,b.1.2.2.2.2.2.2.1.1.2.2.2.2,b.1.2.2.2.2.2.2.1.2.1.1,b.1.2.2.2.2.2.2.1.2.1.2.1,b.1.2.2.2.2.2.2.1.2.1.2.2.1,b.1.2.2.2.2.2.2.1.2.1.2.2.2.1,b.1.2.2.2.2.2.2.1.2.1.2.2.2.2,b.1.2.2.2.2.2.2.1.2.2.1,b.1.2.2.2.2.2.2.1.2.2.2.1,b.1.2.2.2.2.2.2.1.2.2.2.2.1,b.1.2.2.2.2.2.2.1.2.2.2.2.2.1,b.1.2.2.2.2.2.2.1.2.2.2.2.2.2,b.1.2.2.2.2.2.2.2.1,b.1.2.2.2.2.2.2.2.2.1,b.1.2.2.2.2.2.2.2.2.2.1,b.1.2.2.2.2.2.2.2.2.2.2.1,b.1.2.2.2.2.2.2.2.2.2.2.2.1,b.1.2.2.2.2.2.2.2.2.2.2.2.2)))
def kD(A:bp)(f:Q4)(D:Q1)(z:bp)(aT:Q5)(C:Lg)(B:(List Q1))(g:Q1)(a0:(List Q1))(most:Int)(c:Q1)(a1:Aa)(e:Q32->Option (Except (DJ ⊕ y4) Q8)):Int×Q4×Int×Int×(List Q1)×Q1×Q1×(List Q6)×Int×(List Q1)×Q1×Q1×(List Q6)×Q1×Int×cD×Int×Int×Q1×Int×cD×Int×Int×Q1×Int×cD×Int×Int×Q1×Int×Int×Int×Q1×Q1×Q1×Aa->Option (Except (DJ ⊕ y4) Q8):=λ⟨V,U,T,S,R,Q,P,O,N,M,L,K,J,I,H,G,F,E,y,x,w,v,u,t,s,r,q,p,o,n,m,l,k,j,i,b⟩=>
bif decide (0<(b.length:Int)) then (idx b (i64.wrap ((b.length:Int)-1))).bind λd=>
bif (d.2.length:Int)==0 then (uX b).bind λa3=>
aN (cZ 0 (i64.wrap ((b.length:Int)-1)) (List.length b))<|
e (V,U,T,S,R,Q,P,O,N,M,L,K,J,I,H,G,F,E,y,x,w,v,u,t,s,r,q,p,o,n,m,l,k,j,i,(aV b 0 (i64.wrap ((b.length:Int)-1)))) else (idx d.2 0).bind λh=>
aN (cZ 1 ((List.length d.2):Int) (List.length d.2))<|
gD (jY (List.set b (Int.toNat (i64.wrap ((b.length:Int)-1))) (d.1,(aV d.2 1 ((List.length d.2):Int)))) h c a1) (λZ=>some (.error (.inr Z))) λa2=>
gD (pH h A f D z aT C B g a0 V U T S R Q P O N M L K J I H G F E y x w v u t s r q p o n m l k j i most) (λY=>some (.error (.inl Y))) λa=>
bif a.1 then (
gD (fH (List.set b (Int.toNat (i64.wrap ((b.length:Int)-1))) (d.1,(aV d.2 1 ((List.length d.2):Int)))) h A f D z aT C B g a0 a.2.1 a.2.2.1 a.2.2.2.1 a.2.2.2.2.1 a.2.2.2.2.2.1 a.2.2.2.2.2.2.1 a.2.2.2.2.2.2.2.1 a.2.2.2.2.2.2.2.2.1 (d8 a).2.1 (d8 a).2.2.1 (d8 a).2.2.2.1 (d8 a).2.2.2.2.1 (d8 a).2.2.2.2.2.1 (d8 a).2.2.2.2.2.2.1 (d8 a).2.2.2.2.2.2.2.1 (d8 (d8 a)).1 (d8 (d8 a)).2.1 (d8 (d8 a)).2.2.1 (d8 (d8 a)).2.2.2.1 (d8 (d8 a)).2.2.2.2.1 (d8 (d8 a)).2.2.2.2.2.1 (d8 (d8 a)).2.2.2.2.2.2.1 (d8 (d8 a)).2.2.2.2.2.2.2.1 (d8 (d8 (d8 a))).1 (d8 (d8 (d8 a))).2.1 (d8 (d8 (d8 a))).2.2.1 (d8 (d8 (d8 a))).2.2.2.1 (d8 (d8 (d8 a))).2.2.2.2.1 (d8 (d8 (d8 a))).2.2.2.2.2.1 (d8 (d8 (d8 a))).2.2.2.2.2.2.1 (d8 (d8 (d8 a))).2.2.2.2.2.2.2.1 (d8 (d8 (d8 (d8 a)))).1 (d8 (d8 (d8 (d8 a)))).2.1 (d8 (d8 (d8 (d8 a)))).2.2.1 (d8 (d8 (d8 (d8 a)))).2.2.2 most) (λX=>some (.error (.inl X))) λW=>
e (a.2.1,a.2.2.1,a.2.2.2.1,a.2.2.2.2.1,a.2.2.2.2.2.1,a.2.2.2.2.2.2.1,a.2.2.2.2.2.2.2.1,a.2.2.2.2.2.2.2.2.1,(d8 a).2.1,(d8 a).2.2.1,(d8 a).2.2.2.1,(d8 a).2.2.2.2.1,(d8 a).2.2.2.2.2.1,(d8 a).2.2.2.2.2.2.1,(d8 a).2.2.2.2.2.2.2.1,(d8 (d8 a)).1,(d8 (d8 a)).2.1,(d8 (d8 a)).2.2.1,(d8 (d8 a)).2.2.2.1,(d8 (d8 a)).2.2.2.2.1,(d8 (d8 a)).2.2.2.2.2.1,(d8 (d8 a)).2.2.2.2.2.2.1,(d8 (d8 a)).2.2.2.2.2.2.2.1,(d8 (d8 (d8 a))).1,(d8 (d8 (d8 a))).2.1,(d8 (d8 (d8 a))).2.2.1,(d8 (d8 (d8 a))).2.2.2.1,(d8 (d8 (d8 a))).2.2.2.2.1,(d8 (d8 (d8 a))).2.2.2.2.2.1,(d8 (d8 (d8 a))).2.2.2.2.2.2.1,(d8 (d8 (d8 a))).2.2.2.2.2.2.2.1,(d8 (d8 (d8 (d8 a)))).1,(d8 (d8 (d8 (d8 a)))).2.1,(d8 (d8 (d8 (d8 a)))).2.2.1,(d8 (d8 (d8 (d8 a)))).2.2.2,W)) else (
e (a.2.1,a.2.2.1,a.2.2.2.1,a.2.2.2.2.1,a.2.2.2.2.2.1,a.2.2.2.2.2.2.1,a.2.2.2.2.2.2.2.1,a.2.2.2.2.2.2.2.2.1,(d8 a).2.1,(d8 a).2.2.1,(d8 a).2.2.2.1,(d8 a).2.2.2.2.1,(d8 a).2.2.2.2.2.1,(d8 a).2.2.2.2.2.2.1,(d8 a).2.2.2.2.2.2.2.1,(d8 (d8 a)).1,(d8 (d8 a)).2.1,(d8 (d8 a)).2.2.1,(d8 (d8 a)).2.2.2.1,(d8 (d8 a)).2.2.2.2.1,(d8 (d8 a)).2.2.2.2.2.1,(d8 (d8 a)).2.2.2.2.2.2.1,(d8 (d8 a)).2.2.2.2.2.2.2.1,(d8 (d8 (d8 a))).1,(d8 (d8 (d8 a))).2.1,(d8 (d8 (d8 a))).2.2.1,(d8 (d8 (d8 a))).2.2.2.1,(d8 (d8 (d8 a))).2.2.2.2.1,(d8 (d8 (d8 a))).2.2.2.2.2.1,(d8 (d8 (d8 a))).2.2.2.2.2.2.1,(d8 (d8 (d8 a))).2.2.2.2.2.2.2.1,(d8 (d8 (d8 (d8 a)))).1,(d8 (d8 (d8 (d8 a)))).2.1,(d8 (d8 (d8 (d8 a)))).2.2.1,(d8 (d8 (d8 (d8 a)))).2.2.2,(List.set b (Int.toNat (i64.wrap ((b.length:Int)-1))) (d.1,(aV d.2 1 ((List.length d.2):Int)))))) else some (.ok (V,U,T,S,R,Q,P,O,N,M,L,K,J,I,H,G,F,E,y,x,w,v,u,t,s,r,q,p,o,n,m,l,k,j,i))
def nC(x:Q1)(u:bp)(f:Q4)(J:Q1)(s:bp)(aT:Q5)(G:Lg)(E:(List Q1))(n:Q1)(R:(List Q1))(H:Int)(a:Q4)(O:Int)(w:Int)(I:(List Q1))(z:Q1)(N:Q1)(Part:(List Q6))(v:Int)(m:(List Q1))(e:Q1)(r:Q1)(t:(List Q6))(q:Q1)(y:Int)(D:cD)(C:Int)(F:Int)(L:Q1)(d:Int)(j:cD)(h:Int)(l:Int)(p:Q1)(b:Int)(i:cD)(g:Int)(k:Int)(o:Q1)(M:Int)(K:Int)(A:Int)(B:Q1)(Q:Q1)(P:Q1)(most:Int)(c:Q1)(U:Aa):Option (Except (DJ ⊕ y4) Q8):=
gD (fH [] x u f J s aT G E n R H a O w I z N Part v m e r t q y D C F L d j h l p b i g k o M K A B Q P most) (λT=>some (.error (.inl T))) λS=>
aj (kD u f J s aT G E n R most c U) au (H,a,O,w,I,z,N,Part,v,m,e,r,t,q,y,D,C,F,L,d,j,h,l,p,b,i,g,k,o,M,K,A,B,Q,P,S)
def mg(c:Aa)(N:bp)(v:Q4)(Q:Q1)(L:bp)(aT:Q5)(E:Lg)(C:(List Q1))(n:Q1)(U:(List Q1))(F:Int)(b:Q4)(R:Int)(u:Int)(G:(List Q1))(x:Q1)(I:Q1)(Part:(List Q6))(t:Int)(m:(List Q1))(f:Q1)(r:Q1)(s:(List Q6))(q:Q1)(w:Int)(A:cD)(z:Int)(D:Int)(H:Q1)(e:Int)(j:cD)(h:Int)(l:Int)(p:Q1)(d:Int)(i:cD)(g:Int)(k:Int)(o:Q1)(M:Int)(K:Int)(y:Int)(B:Q1)(T:Q1)(S:Q1)(most:Int):Option (Except (DJ ⊕ y4) Q8):=
(idx c (i64.wrap ((c.length:Int)-1))).bind λJ=>
(x7 (E,C,n,U) J.1).bind λV=>
bif !V then some (.ok (F,b,R,u,G,x,I,Part,t,m,f,r,s,q,w,A,z,D,H,e,j,h,l,p,d,i,g,k,o,M,K,y,B,T,S)) else gD (nC J.1 N v Q L aT E C n U F b R u G x I Part t m f r s q w A z D H e j h l p d i g k o M K y B T S most J.1 c) (λW=>abe W (λP=>some (.error (.inl P))) (λO=>some (.error (.inr O)))) λa=>
some (.ok (a.1,a.2.1,a.2.2.1,a.2.2.2.1,a.2.2.2.2.1,a.2.2.2.2.2.1,a.2.2.2.2.2.2.1,a.2.2.2.2.2.2.2.1,a.2.2.2.2.2.2.2.2.1,(d8 a).2.1,(d8 a).2.2.1,(d8 a).2.2.2.1,(d8 a).2.2.2.2.1,(d8 a).2.2.2.2.2.1,(d8 a).2.2.2.2.2.2.1,(d8 a).2.2.2.2.2.2.2.1,(d8 (d8 a)).1,(d8 (d8 a)).2.1,(d8 (d8 a)).2.2.1,(d8 (d8 a)).2.2.2.1,(d8 (d8 a)).2.2.2.2.1,(d8 (d8 a)).2.2.2.2.2.1,(d8 (d8 a)).2.2.2.2.2.2.1,(d8 (d8 a)).2.2.2.2.2.2.2.1,(d8 (d8 (d8 a))).1,(d8 (d8 (d8 a))).2.1,(d8 (d8 (d8 a))).2.2.1,(d8 (d8 (d8 a))).2.2.2.1,(d8 (d8 (d8 a))).2.2.2.2.1,(d8 (d8 (d8 a))).2.2.2.2.2.1,(d8 (d8 (d8 a))).2.2.2.2.2.2.1,(d8 (d8 (d8 a))).2.2.2.2.2.2.2.1,(d8 (d8 (d8 (d8 a)))).1,(d8 (d8 (d8 (d8 a)))).2.1,(d8 (d8 (d8 (d8 a)))).2.2))
def u4(b:Aa)(a:Q1):Option Unit:=
some ()
def ny(i:bp)(f:Q4)(F:Q1)(h:bp)(aT:Q5)(E:Lg)(D:(List Q1))(g:Q1)(Y:(List Q1))(most:Int)(e:Q32->Option (Except (DJ ⊕ y4) Q8)):Int×Q4×Int×Int×(List Q1)×Q1×Q1×(List Q6)×Int×(List Q1)×Q1×Q1×(List Q6)×Q1×Int×cD×Int×Int×Q1×Int×cD×Int×Int×Q1×Int×cD×Int×Int×Q1×Int×Int×Int×Q1×Q1×Q1×Aa->Option (Except (DJ ⊕ y4) Q8):=λ⟨X,W,V,U,T,S,R,Q,P,O,N,M,L,K,J,I,C,B,A,z,y,x,w,v,u,t,s,r,q,p,o,n,m,l,k,c⟩=>
bif decide (0<(c.length:Int)) then (idx c (i64.wrap ((c.length:Int)-1))).bind λd=>
bif (d.2.length:Int)==0 then gD (mg c i f F h aT E D g Y X W V U T S R Q P O N M L K J I C B A z y x w v u t s r q p o n m l k most) (λa2=>abe a2 (λH=>some (.error (.inl H))) (λG=>some (.error (.inr G)))) λb=>
aN (cZ 0 (i64.wrap ((c.length:Int)-1)) (List.length c))<|
e (b.1,b.2.1,b.2.2.1,b.2.2.2.1,b.2.2.2.2.1,b.2.2.2.2.2.1,b.2.2.2.2.2.2.1,b.2.2.2.2.2.2.2.1,b.2.2.2.2.2.2.2.2.1,(d8 b).2.1,(d8 b).2.2.1,(d8 b).2.2.2.1,(d8 b).2.2.2.2.1,(d8 b).2.2.2.2.2.1,(d8 b).2.2.2.2.2.2.1,(d8 b).2.2.2.2.2.2.2.1,(d8 (d8 b)).1,(d8 (d8 b)).2.1,(d8 (d8 b)).2.2.1,(d8 (d8 b)).2.2.2.1,(d8 (d8 b)).2.2.2.2.1,(d8 (d8 b)).2.2.2.2.2.1,(d8 (d8 b)).2.2.2.2.2.2.1,(d8 (d8 b)).2.2.2.2.2.2.2.1,(d8 (d8 (d8 b))).1,(d8 (d8 (d8 b))).2.1,(d8 (d8 (d8 b))).2.2.1,(d8 (d8 (d8 b))).2.2.2.1,(d8 (d8 (d8 b))).2.2.2.2.1,(d8 (d8 (d8 b))).2.2.2.2.2.1,(d8 (d8 (d8 b))).2.2.2.2.2.2.1,(d8 (d8 (d8 b))).2.2.2.2.2.2.2.1,(d8 (d8 (d8 (d8 b)))).1,(d8 (d8 (d8 (d8 b)))).2.1,(d8 (d8 (d8 (d8 b)))).2.2,(aV c 0 (i64.wrap ((c.length:Int)-1)))) else (idx d.2 0).bind λj=>
aN (cZ 1 ((List.length d.2):Int) (List.length d.2))<|
(u4 (List.set c (Int.toNat (i64.wrap ((c.length:Int)-1))) (d.1,(aV d.2 1 ((List.length d.2):Int)))) j).bind λa3=>
gD (jJ j i f F h aT E D g Y X W V U T S R Q P O N M L K J I C B A z y x w v u t s r q p o n m l k most) (λa1=>some (.error (.inl a1))) λa=>
bif a.1 then (
gD (fH (List.set c (Int.toNat (i64.wrap ((c.length:Int)-1))) (d.1,(aV d.2 1 ((List.length d.2):Int)))) j i f F h aT E D g Y a.2.1 a.2.2.1 a.2.2.2.1 a.2.2.2.2.1 a.2.2.2.2.2.1 a.2.2.2.2.2.2.1 a.2.2.2.2.2.2.2.1 a.2.2.2.2.2.2.2.2.1 (d8 a).2.1 (d8 a).2.2.1 (d8 a).2.2.2.1 (d8 a).2.2.2.2.1 (d8 a).2.2.2.2.2.1 (d8 a).2.2.2.2.2.2.1 (d8 a).2.2.2.2.2.2.2.1 (d8 (d8 a)).1 (d8 (d8 a)).2.1 (d8 (d8 a)).2.2.1 (d8 (d8 a)).2.2.2.1 (d8 (d8 a)).2.2.2.2.1 (d8 (d8 a)).2.2.2.2.2.1 (d8 (d8 a)).2.2.2.2.2.2.1 (d8 (d8 a)).2.2.2.2.2.2.2.1 (d8 (d8 (d8 a))).1 (d8 (d8 (d8 a))).2.1 (d8 (d8 (d8 a))).2.2.1 (d8 (d8 (d8 a))).2.2.2.1 (d8 (d8 (d8 a))).2.2.2.2.1 (d8 (d8 (d8 a))).2.2.2.2.2.1 (d8 (d8 (d8 a))).2.2.2.2.2.2.1 (d8 (d8 (d8 a))).2.2.2.2.2.2.2.1 (d8 (d8 (d8 (d8 a)))).1 (d8 (d8 (d8 (d8 a)))).2.1 (d8 (d8 (d8 (d8 a)))).2.2.1 (d8 (d8 (d8 (d8 a)))).2.2.2 most) (λa0=>some (.error (.inl a0))) λZ=>
e (a.2.1,a.2.2.1,a.2.2.2.1,a.2.2.2.2.1,a.2.2.2.2.2.1,a.2.2.2.2.2.2.1,a.2.2.2.2.2.2.2.1,a.2.2.2.2.2.2.2.2.1,(d8 a).2.1,(d8 a).2.2.1,(d8 a).2.2.2.1,(d8 a).2.2.2.2.1,(d8 a).2.2.2.2.2.1,(d8 a).2.2.2.2.2.2.1,(d8 a).2.2.2.2.2.2.2.1,(d8 (d8 a)).1,(d8 (d8 a)).2.1,(d8 (d8 a)).2.2.1,(d8 (d8 a)).2.2.2.1,(d8 (d8 a)).2.2.2.2.1,(d8 (d8 a)).2.2.2.2.2.1,(d8 (d8 a)).2.2.2.2.2.2.1,(d8 (d8 a)).2.2.2.2.2.2.2.1,(d8 (d8 (d8 a))).1,(d8 (d8 (d8 a))).2.1,(d8 (d8 (d8 a))).2.2.1,(d8 (d8 (d8 a))).2.2.2.1,(d8 (d8 (d8 a))).2.2.2.2.1,(d8 (d8 (d8 a))).2.2.2.2.2.1,(d8 (d8 (d8 a))).2.2.2.2.2.2.1,(d8 (d8 (d8 a))).2.2.2.2.2.2.2.1,(d8 (d8 (d8 (d8 a)))).1,(d8 (d8 (d8 (d8 a)))).2.1,(d8 (d8 (d8 (d8 a)))).2.2.1,(d8 (d8 (d8 (d8 a)))).2.2.2,Z)) else (
e (a.2.1,a.2.2.1,a.2.2.2.1,a.2.2.2.2.1,a.2.2.2.2.2.1,a.2.2.2.2.2.2.1,a.2.2.2.2.2.2.2.1,a.2.2.2.2.2.2.2.2.1,(d8 a).2.1,(d8 a).2.2.1,(d8 a).2.2.2.1,(d8 a).2.2.2.2.1,(d8 a).2.2.2.2.2.1,(d8 a).2.2.2.2.2.2.1,(d8 a).2.2.2.2.2.2.2.1,(d8 (d8 a)).1,(d8 (d8 a)).2.1,(d8 (d8 a)).2.2.1,(d8 (d8 a)).2.2.2.1,(d8 (d8 a)).2.2.2.2.1,(d8 (d8 a)).2.2.2.2.2.1,(d8 (d8 a)).2.2.2.2.2.2.1,(d8 (d8 a)).2.2.2.2.2.2.2.1,(d8 (d8 (d8 a))).1,(d8 (d8 (d8 a))).2.1,(d8 (d8 (d8 a))).2.2.1,(d8 (d8 (d8 a))).2.2.2.1,(d8 (d8 (d8 a))).2.2.2.2.1,(d8 (d8 (d8 a))).2.2.2.2.2.1,(d8 (d8 (d8 a))).2.2.2.2.2.2.1,(d8 (d8 (d8 a))).2.2.2.2.2.2.2.1,(d8 (d8 (d8 (d8 a)))).1,(d8 (d8 (d8 (d8 a)))).2.1,(d8 (d8 (d8 (d8 a)))).2.2.1,(d8 (d8 (d8 (d8 a)))).2.2.2,(List.set c (Int.toNat (i64.wrap ((c.length:Int)-1))) (d.1,(aV d.2 1 ((List.length d.2):Int)))))) else some (.ok (X,W,V,U,T,S,R,Q,P,O,N,M,L,K,J,I,C,B,A,z,y,x,w,v,u,t,s,r,q,p,o,n,m,l,k))
def wv(x:Q1)(t:bp)(e:Q4)(I:Q1)(r:bp)(aT:Q5)(F:Lg)(D:(List Q1))(m:Q1)(Q:(List Q1))(G:Int)(a:Q4)(N:Int)(v:Int)(H:(List Q1))(y:Q1)(L:Q1)(Part:(List Q6))(u:Int)(l:(List Q1))(d:Q1)(q:Q1)(s:(List Q6))(p:Q1)(w:Int)(C:cD)(A:Int)(E:Int)(J:Q1)(c:Int)(i:cD)(g:Int)(k:Int)(o:Q1)(b:Int)(h:cD)(f:Int)(j:Int)(n:Q1)(M:Int)(K:Int)(z:Int)(B:Q1)(P:Q1)(O:Q1)(most:Int):Option (Except (DJ ⊕ y4) Q8):=
gD (fH [] x t e I r aT F D m Q G a N v H y L Part u l d q s p w C A E J c i g k o b h f j n M K z B P O most) (λS=>some (.error (.inl S))) λR=>
aj (ny t e I r aT F D m Q most) au (G,a,N,v,H,y,L,Part,u,l,d,q,s,p,w,C,A,E,J,c,i,g,k,o,b,h,f,j,n,M,K,z,B,P,O,R)
def mw(h:bp)(e:Q4)(B:Q1)(g:bp)(aT:Q5)(A:Lg)(z:(List Q1))(f:Q1)(a0:(List Q1))(most:Int)(E:(List Q1))(c:(Int×Q4×Int×Int×(List Q1)×Q1×Q1×(List Q6)×Int×(List Q1)×Q1×Q1×(List Q6)×Q1×Int×cD×Int×Int×Q1×Int×cD×Int×Int×Q1×Int×cD×Int×Int×Q1×Int×Int×Int×Q1×Q1×Q1×Int)->Option (Except (DJ ⊕ y4) Q8)):Int×Q4×Int×Int×(List Q1)×Q1×Q1×(List Q6)×Int×(List Q1)×Q1×Q1×(List Q6)×Q1×Int×cD×Int×Int×Q1×Int×cD×Int×Int×Q1×Int×cD×Int×Int×Q1×Int×Int×Int×Q1×Q1×Q1×Int->Option (Except (DJ ⊕ y4) Q8):=λ⟨Z,Y,X,W,V,U,T,S,R,Q,P,O,N,M,L,K,J,I,H,y,x,w,v,u,t,s,r,q,p,o,n,m,l,k,j,d⟩=>
bif decide (d<(E.length:Int)) then (idx E d).bind λi=>
gD (jJ i h e B g aT A z f a0 Z Y X W V U T S R Q P O N M L K J I H y x w v u t s r q p o n m l k j most) (λG=>some (.error (.inl G))) λa=>
bif a.1 then (
gD (wv i h e B g aT A z f a0 a.2.1 a.2.2.1 a.2.2.2.1 a.2.2.2.2.1 a.2.2.2.2.2.1 a.2.2.2.2.2.2.1 a.2.2.2.2.2.2.2.1 a.2.2.2.2.2.2.2.2.1 (d8 a).2.1 (d8 a).2.2.1 (d8 a).2.2.2.1 (d8 a).2.2.2.2.1 (d8 a).2.2.2.2.2.1 (d8 a).2.2.2.2.2.2.1 (d8 a).2.2.2.2.2.2.2.1 (d8 (d8 a)).1 (d8 (d8 a)).2.1 (d8 (d8 a)).2.2.1 (d8 (d8 a)).2.2.2.1 (d8 (d8 a)).2.2.2.2.1 (d8 (d8 a)).2.2.2.2.2.1 (d8 (d8 a)).2.2.2.2.2.2.1 (d8 (d8 a)).2.2.2.2.2.2.2.1 (d8 (d8 (d8 a))).1 (d8 (d8 (d8 a))).2.1 (d8 (d8 (d8 a))).2.2.1 (d8 (d8 (d8 a))).2.2.2.1 (d8 (d8 (d8 a))).2.2.2.2.1 (d8 (d8 (d8 a))).2.2.2.2.2.1 (d8 (d8 (d8 a))).2.2.2.2.2.2.1 (d8 (d8 (d8 a))).2.2.2.2.2.2.2.1 (d8 (d8 (d8 (d8 a)))).1 (d8 (d8 (d8 (d8 a)))).2.1 (d8 (d8 (d8 (d8 a)))).2.2.1 (d8 (d8 (d8 (d8 a)))).2.2.2 most) (λF=>abe F (λD=>some (.error (.inl D))) (λC=>some (.error (.inr C)))) λb=>
c (b.1,b.2.1,b.2.2.1,b.2.2.2.1,b.2.2.2.2.1,b.2.2.2.2.2.1,b.2.2.2.2.2.2.1,b.2.2.2.2.2.2.2.1,b.2.2.2.2.2.2.2.2.1,(d8 b).2.1,(d8 b).2.2.1,(d8 b).2.2.2.1,(d8 b).2.2.2.2.1,(d8 b).2.2.2.2.2.1,(d8 b).2.2.2.2.2.2.1,(d8 b).2.2.2.2.2.2.2.1,(d8 (d8 b)).1,(d8 (d8 b)).2.1,(d8 (d8 b)).2.2.1,(d8 (d8 b)).2.2.2.1,(d8 (d8 b)).2.2.2.2.1,(d8 (d8 b)).2.2.2.2.2.1,(d8 (d8 b)).2.2.2.2.2.2.1,(d8 (d8 b)).2.2.2.2.2.2.2.1,(d8 (d8 (d8 b))).1,(d8 (d8 (d8 b))).2.1,(d8 (d8 (d8 b))).2.2.1,(d8 (d8 (d8 b))).2.2.2.1,(d8 (d8 (d8 b))).2.2.2.2.1,(d8 (d8 (d8 b))).2.2.2.2.2.1,(d8 (d8 (d8 b))).2.2.2.2.2.2.1,(d8 (d8 (d8 b))).2.2.2.2.2.2.2.1,(d8 (d8 (d8 (d8 b)))).1,(d8 (d8 (d8 (d8 b)))).2.1,(d8 (d8 (d8 (d8 b)))).2.2,(i64.wrap (d+1)))) else (
c (a.2.1,a.2.2.1,a.2.2.2.1,a.2.2.2.2.1,a.2.2.2.2.2.1,a.2.2.2.2.2.2.1,a.2.2.2.2.2.2.2.1,a.2.2.2.2.2.2.2.2.1,(d8 a).2.1,(d8 a).2.2.1,(d8 a).2.2.2.1,(d8 a).2.2.2.2.1,(d8 a).2.2.2.2.2.1,(d8 a).2.2.2.2.2.2.1,(d8 a).2.2.2.2.2.2.2.1,(d8 (d8 a)).1,(d8 (d8 a)).2.1,(d8 (d8 a)).2.2.1,(d8 (d8 a)).2.2.2.1,(d8 (d8 a)).2.2.2.2.1,(d8 (d8 a)).2.2.2.2.2.1,(d8 (d8 a)).2.2.2.2.2.2.1,(d8 (d8 a)).2.2.2.2.2.2.2.1,(d8 (d8 (d8 a))).1,(d8 (d8 (d8 a))).2.1,(d8 (d8 (d8 a))).2.2.1,(d8 (d8 (d8 a))).2.2.2.1,(d8 (d8 (d8 a))).2.2.2.2.1,(d8 (d8 (d8 a))).2.2.2.2.2.1,(d8 (d8 (d8 a))).2.2.2.2.2.2.1,(d8 (d8 (d8 a))).2.2.2.2.2.2.2.1,(d8 (d8 (d8 (d8 a)))).1,(d8 (d8 (d8 (d8 a)))).2.1,(d8 (d8 (d8 (d8 a)))).2.2.1,(d8 (d8 (d8 (d8 a)))).2.2.2,(i64.wrap (d+1)))) else some (.ok (Z,Y,X,W,V,U,T,S,R,Q,P,O,N,M,L,K,J,I,H,y,x,w,v,u,t,s,r,q,p,o,n,m,l,k,j))
def pK(e:bp)(a:Q4)(v:Q1)(d:bp)(aT:Q5)(u:Lg)(t:(List Q1))(b:Q1)(L:(List Q1))(G:Int)(c:Q4)(O:Int)(y:Int)(H:(List Q1))(A:Q1)(J:Q1)(Part:(List Q6))(x:Int)(o:(List Q1))(h:Q1)(s:Q1)(w:(List Q6))(r:Q1)(z:Int)(E:cD)(D:Int)(F:Int)(I:Q1)(g:Int)(l:cD)(j:Int)(n:Int)(q:Q1)(f:Int)(k:cD)(i:Int)(m:Int)(p:Q1)(M:Int)(K:Int)(C:Int)(B:Q1)(Q:Q1)(P:Q1)(most:Int):Option (Except (DJ ⊕ y4) Q8):=
(Bx (e,a,v,d,aT) (u,t,b,L)).bind λN=>
aj (mw e a v d aT u t b L most N) au (G,c,O,y,H,A,J,Part,x,o,h,s,w,r,z,E,D,F,I,g,l,j,n,q,f,k,i,m,p,M,K,C,B,Q,P,0)
def jP(m:iS)(a:Q9)(o:Q34):Option (Bool×y4×Int×Q1):=
(vC m a).bind λd=>
bif d.2 != 0 then some (false,([],[]),d.2,[]) else (gh d.1 o).bind λb=>
ai (b.2 != 0) λCs=>
ai (decide (o.2.2.1<1)) λj=>
ai (Cs||j) λi=>
ai (decide (1048576<o.2.2.1)) λh=>
ai (i||h) λg=>
bif g then (
some (false,([],[]),1,[])) else (
gD (pK m.1 m.2.1 m.2.2.1 m.2.2.2.1 m.2.2.2.2 a.1 a.2.1 a.2.2.1 a.2.2.2 b.1.1 b.1.2.1 b.1.2.2.1 b.1.2.2.2.1.1.1 b.1.2.2.2.1.1.2.1 b.1.2.2.2.1.1.2.2 b.1.2.2.2.1.2 b.1.2.2.2.2.1.1 b.1.2.2.2.2.1.2.1.1 b.1.2.2.2.2.1.2.1.2.1 b.1.2.2.2.2.1.2.1.2.2 b.1.2.2.2.2.1.2.2 b.1.2.2.2.2.2.1.1 b.1.2.2.2.2.2.1.2 b.1.2.2.2.2.2.2.1.1.1 b.1.2.2.2.2.2.2.1.1.2.1 b.1.2.2.2.2.2.2.1.1.2.2.1 b.1.2.2.2.2.2.2.1.1.2.2.2.1 b.1.2.2.2.2.2.2.1.1.2.2.2.2 b.1.2.2.2.2.2.2.1.2.1.1 b.1.2.2.2.2.2.2.1.2.1.2.1 b.1.2.2.2.2.2.2.1.2.1.2.2.1 b.1.2.2.2.2.2.2.1.2.1.2.2.2.1 b.1.2.2.2.2.2.2.1.2.1.2.2.2.2 b.1.2.2.2.2.2.2.1.2.2.1 b.1.2.2.2.2.2.2.1.2.2.2.1 b.1.2.2.2.2.2.2.1.2.2.2.2.1 b.1.2.2.2.2.2.2.1.2.2.2.2.2.1 b.1.2.2.2.2.2.2.1.2.2.2.2.2.2 b.1.2.2.2.2.2.2.2.1 b.1.2.2.2.2.2.2.2.2.1 b.1.2.2.2.2.2.2.2.2.2.1 b.1.2.2.2.2.2.2.2.2.2.2.1 b.1.2.2.2.2.2.2.2.2.2.2.2.1 b.1.2.2.2.2.2.2.2.2.2.2.2.2 o.2.2.1) (λf=>abe f (λc=>
some (false,([],[]),c.1,c.2)) (λe=>
some (true,e,0,[]))) λk=>
some (false,([],[]),0,[]))
def LJ(s:Q4)(d:Q1)(a:Int->zb)(c:Int):zb:=
bif decide (c<(d.length:Int)) then (idx d c).bind λh=>
(idx s c).bind λg=>
ai (decide (h<g.1)) λb=>
bC (!b) 0 (idx d c) λf=>
bC (!b) (0,0) (idx s c) λe=>
ai (decide (e.2<f)) λj=>
ai (b||j) λi=>
bif i then (
some 5) else (
a (i64.wrap (c+1))) else some 0
def EK(s:Q4)(a:Q1):zb:=
bif (a.length:Int) != (s.length:Int) then some 1 else aj (LJ s a) au 0
def Ei(m:iS)(a:Q1):x3:=
(EK m.2.1 a).bind λb=>
some (b==0)
def DE(m:iS)(a:Q9)(x:Q1):x3:=
bif decide ((i64.wrap ((x.length:Int)-1))<0) then some false else aN (cZ 0 (i64.wrap ((x.length:Int)-1)) (List.length x))<|
(Ei m (aV x 0 (i64.wrap ((x.length:Int)-1)))).bind λb=>
bC b 0 (idx x (i64.wrap ((x.length:Int)-1))) λe=>
ai (decide (0<=e)) λh=>
ai (b&&h) λc=>
bC c 0 (idx x (i64.wrap ((x.length:Int)-1))) λd=>
ai (decide (d<(a.1.length:Int))) λg=>
ai (c&&g) λf=>
some f
def bd(a:Bool):zb:=
bif a then (
some 1) else (
some 0)
def ld(e:Ex)(A:Q1)(a:Int)(b8:Int):zb:=
bif e.op==1 then some e.n else bif e.op==2 then ai (decide (0<=e.n)) λz=>
ai (decide (e.n<(A.length:Int))) λy=>
ai (z&&y) λx=>
bif x then (
(idx A e.n).bind λo=>
some o) else (
some 0) else bif e.op==3 then some (i64.wrap (a+b8)) else bif e.op==4 then some (i64.wrap (a-b8)) else bif e.op==5 then some (i64.wrap (a*b8)) else bif e.op==6 then some (i64.wrap (0-a)) else bif e.op==7 then (bd (a==b8)).bind λm=>
some m else bif e.op==8 then (bd (a != b8)).bind λl=>
some l else bif e.op==9 then (bd (decide (a<b8))).bind λk=>
some k else bif e.op==10 then (bd (decide (a<=b8))).bind λj=>
some j else bif e.op==11 then (bd (decide (b8<a))).bind λi=>
some i else bif e.op==12 then (bd (decide (b8<=a))).bind λh=>
some h else bif e.op==13 then some 1 else bif e.op==15 then (bd (a==0)).bind λg=>
some g else bif e.op==16 then ai (a==1) λw=>
ai (b8==1) λv=>
ai (w&&v) λu=>
(bd u).bind λf=>
some f else bif e.op==17 then ai (a==1) λCs=>
ai (b8==1) λt=>
ai (Cs||t) λs=>
(bd s).bind λd=>
some d else bif e.op==18 then ai (a==0) λr=>
ai (b8==1) λq=>
ai (r||q) λp=>
(bd p).bind λc=>
some c else bif e.op==19 then (bd (a==b8)).bind λb=>
some b else some 0
def IL(g:(Ex×Q1)->zb)(e:Ex)(f:Q1)(h:Int):zb:=
ai (λ(b:Int)=>ld e f h b) λa=>
bif decide (1<(List.length e.l:Int)) then (idx e.l 1).bind λd=>
(g (d,f)).bind λc=>
a c else a 0
def mf(g:(Ex×Q1)->zb)(e:Ex)(f:Q1):zb:=
ai (λ(b:Int)=>IL g e f b) λa=>
bif decide (0<(List.length e.l:Int)) then (idx e.l 0).bind λd=>
(g (d,f)).bind λc=>
a c else a 0
def eS(e:Ex)(a:Q1):zb:=
 aj (λk (s:(Ex×Q1))=>mf k s.1 s.2) au (e,a)
def la(a:Q9)(q:Int)(g:Q1)(b:Int->x3)(d:Int):x3:=
(idx a.1 q).bind λh=>
bif decide (d<(h.length:Int)) then (idx a.1 q).bind λf=>
(idx f d).bind λe=>
(eS e g).bind λc=>
bif c != 1 then some false else b (i64.wrap (d+1)) else some true
def tN(a:Q9)(q:Int)(b:Q1):x3:=
aj (la a q b) au 0
def dQ(a:Q1)(b:Q1)(c:Int->x3)(d:Int):x3:=
bif decide (d<(a.length:Int)) then (idx a d).bind λf=>
(idx b d).bind λe=>
bif f != e then some false else c (i64.wrap (d+1)) else some true
def gR(a:Q1)(b:Q1):x3:=
bif (a.length:Int) != (b.length:Int) then some false else aj (dQ a b) au 0
def jd(l:(List Q1))(d:Q1)(a:Int->zb)(b:Int):zb:=
bif decide (b<(l.length:Int)) then (idx l b).bind λe=>
(gR e d).bind λc=>
bif c then (
some b) else (
a (i64.wrap (b+1))) else some (-1)
def dm(l:(List Q1))(a:Q1):zb:=
aj (jd l a) au 0
def j3(a:Q9)(c:Q1)(some_:Q1)(b:lu->Option (List Q1)):(List Q1)×Int->Option (List Q1):=λ⟨g,d⟩=>
bif decide (d<(some_.length:Int)) then (idx some_ d).bind λe=>
aN (aH (List.length ([]:zj)+List.length c) 8)<|
aN (aH (List.length (([]:zj)++c)+List.length ([e]:zj)) 8)<|
(idx some_ d).bind λi=>
(tN a i c).bind λf=>
bC f default (dm g ((([]:zj)++c)++([e]:zj))) λh=>
ai (decide (h<0)) λk=>
ai (f&&k) λj=>
bif j then (
aN (aH (List.length g+List.length ([((([]:zj)++c)++([e]:zj))]:List Q1)) 24)<|
b ((g++([((([]:zj)++c)++([e]:zj))]:List Q1)),(i64.wrap (d+1)))) else (
b (g,(i64.wrap (d+1)))) else some g
def mz(l:(List Q1))(a:Q9)(b:Q1)(some_:Q1):Option (List Q1):=
aj (j3 a b some_) au (l,0)
def kO(m:iS)(a:Q9):Option (List Q1):=
(mz [] a m.2.2.1 a.2.2.1).bind λb=>
some b
def Hb(l:(List Q1))(d:Q1)(a:Int->zb)(b:Int):zb:=
bif decide (b<(l.length:Int)) then (idx l b).bind λe=>
(gR e d).bind λc=>
bif c then (
some b) else (
a (i64.wrap (b+1))) else some (-1)
def sE(l:(List Q1))(a:Q1):zb:=
aj (Hb l a) au 0
def jH(m:iS)(d:Q1)(a:fR->Option Q1):Q1×Int->Option Q1:=λ⟨b,c⟩=>
bif decide (c<(m.2.2.2.2.length:Int)) then (idx m.2.2.2.2 c).bind λf=>
(eS f.2.1 d).bind λe=>
bif e==1 then aN (aH (List.length b+List.length ([c]:zj)) 8)<|
a ((b++([c]:zj)),(i64.wrap (c+1))) else a (b,(i64.wrap (c+1))) else some b
def pO(m:iS)(a:Q1):Option Q1:=
aj (jH m a) au ([],0)
def iW(m:iS)(c:Q1)(b:Int->Option fR)(a:Int):Option fR:=
bif decide (a<(c.length:Int)) then (idx c a).bind λh=>
(idx m.2.1 a).bind λg=>
ai (decide (h<g.1)) λd=>
bC (!d) 0 (idx c a) λf=>
bC (!d) (0,0) (idx m.2.1 a) λe=>
ai (decide (e.2<f)) λj=>
ai (d||j) λi=>
bif i then (
some ([],6)) else (
b (i64.wrap (a+1))) else some (c,0)
def lg(m:iS)(e:Q1)(k:Int)(a:fR->Option fR):Q1×Int->Option fR:=λ⟨b,c⟩=>
(idx m.2.2.2.2 k).bind λh=>
bif decide (c<(h.2.2.length:Int)) then (idx m.2.2.2.2 k).bind λg=>
(idx g.2.2 c).bind λd=>
(eS d.2 e).bind λf=>
(idx b d.1).bind λi=>
a ((List.set b (Int.toNat d.1) f),(i64.wrap (c+1))) else aj (iW m b) au 0
def og(m:iS)(a:Q1)(k:Int):Option fR:=
ai (decide (k<0)) λd=>
ai (decide ((m.2.2.2.2.length:Int)<=k)) λc=>
ai (d||c) λb=>
bif b then (
some ([],10)) else (
aN (aH (List.length ([]:zj)+List.length a) 8)<|
aj (lg m a k) au ((([]:zj)++a),0))
def lf(m:iS)(e:Q1)(h:Q1)(b:lu->Option lu):(List Q1)×Int->Option lu:=λ⟨a,d⟩=>
bif decide (d<(h.length:Int)) then (idx h d).bind λg=>
(og m e g).bind λc=>
bif c.2 != 0 then some ([],c.2) else (dm a c.1).bind λf=>
bif decide (f<0) then aN (aH (List.length a+List.length ([c.1]:List Q1)) 24)<|
b ((a++([c.1]:List Q1)),(i64.wrap (d+1))) else b (a,(i64.wrap (d+1))) else some (a,0)
def oz(m:iS)(a:Q1):Option lu:=
(pO m a).bind λb=>
bif (b.length:Int)==0 then aN (aH (List.length ([]:zj)+List.length a) 8)<|
some (([(([]:zj)++a)]:List Q1),0) else aj (lf m a b) au ([],0)
def kU(a:Q9)(x:Q1)(e:lu)(c:lu->Option lu):(List Q1)×Int->Option lu:=λ⟨b,d⟩=>
bif decide (d<(e.1.length:Int)) then (idx e.1 d).bind λi=>
(idx x (i64.wrap ((x.length:Int)-1))).bind λh=>
(idx a.2.1 h).bind λg=>
(mz b a i g).bind λf=>
c (f,(i64.wrap (d+1))) else some (b,0)
def kN(m:iS)(a:Q9)(x:Q1):Option lu:=
aN (cZ 0 (i64.wrap ((x.length:Int)-1)) (List.length x))<|
(oz m (aV x 0 (i64.wrap ((x.length:Int)-1)))).bind λb=>
bif b.2 != 0 then some ([],b.2) else aj (kU a x b) au ([],0)
def vd(m:iS)(a:Q9)(x:Q1)(y:Q1):x3:=
(kN m a x).bind λf=>
ai (f.2==0) λb=>
bC b default (sE f.1 y) λc=>
ai (decide (0<=c)) λe=>
ai (b&&e) λd=>
some d
def GP(a:Q9)(x:Q1)(b:Int->x3)(c:Int):x3:=
(idx a.2.2.2 0).bind λg=>
bif decide (c<(g.length:Int)) then (idx a.2.2.2 0).bind λf=>
(idx f c).bind λe=>
(idx x (i64.wrap ((x.length:Int)-1))).bind λd=>
bif e==d then some true else b (i64.wrap (c+1)) else some false
def Af(a:Q9)(x:Q1):x3:=
aj (GP a x) au 0
def Hq(a:Q9)(c:y4)(j:Bool)(d:Fe->x3):Bool×Int->x3:=λ⟨b,e⟩=>
bif decide (e<(c.2.length:Int)) then (idx c.2 e).bind λg=>
(Af a g).bind λf=>
ai (b||f) λi=>
d (i,(i64.wrap (e+1))) else ai (j&&b) λh=>
some h
def HS(m:iS)(a:Q9)(c:y4)(b:Int->x3)(d:Int):x3:=
bif decide (d<(List.length ((([]:List Q1)++c.1)++c.2):Int)) then (idx ((([]:List Q1)++c.1)++c.2) (i64.wrap (d-1))).bind λj=>
(idx ((([]:List Q1)++c.1)++c.2) d).bind λi=>
(vd m a j i).bind λf=>
bif !f then some false else b (i64.wrap (d+1)) else (idx ((([]:List Q1)++c.1)++c.2) (i64.wrap ((List.length ((([]:List Q1)++c.1)++c.2):Int)-1))).bind λh=>
(idx c.2 0).bind λg=>
(vd m a h g).bind λe=>
aj (Hq a c e) au (false,0)
def HK(m:iS)(a:Q9)(c:y4)(b:Int->x3)(d:Int):x3:=
bif decide (d<(List.length ((([]:List Q1)++c.1)++c.2):Int)) then (idx ((([]:List Q1)++c.1)++c.2) d).bind λi=>
(DE m a i).bind λg=>
bif !g then some false else b (i64.wrap (d+1)) else (idx ((([]:List Q1)++c.1)++c.2) 0).bind λh=>
(kO m a).bind λf=>
(sE f h).bind λe=>
bif decide (e<0) then some false else aj (HS m a c) au 1
def yZ(m:iS)(a:Q9)(c:y4):x3:=
aN (aH (List.length ([]:List Q1)+List.length c.1) 24)<|
aN (aH (List.length (([]:List Q1)++c.1)+List.length c.2) 24)<|
bif (c.2.length:Int)==0 then some false else aj (HK m a c) au 0
def sK:x3:=
(mX [118,97,114,32,120,32,48,32,49,32,48,59]).bind λc=>
(jP c.1 (([[]]:List (List Ex)),([([0]:zj)]:List Q1),([0]:zj),([([0]:zj)]:List Q1)) (0,9,9,0,0,0)).bind λb=>
(jP c.1 (([[]]:List (List Ex)),([([0]:zj)]:List Q1),([0]:zj),([[]]:List Q1)) (0,9,9,0,0,0)).bind λa=>
(jP c.1 (([[]]:List (List Ex)),([([0]:zj)]:List Q1),([0]:zj),([([0]:zj)]:List Q1)) (0,0,9,0,0,0)).bind λo=>
(jP c.1 (([[]]:List (List Ex)),([([0]:zj)]:List Q1),([0]:zj),([([0]:zj)]:List Q1)) (0,9,0,0,0,0)).bind λn=>
ai (c.2&&b.1) λt=>
ai (b.2.2.1==0) λs=>
ai (t&&s) λd=>
bC d default (yZ c.1 (([[]]:List (List Ex)),([([0]:zj)]:List Q1),([0]:zj),([([0]:zj)]:List Q1)) b.2.1) λm=>
ai (d&&m) λr=>
ai (!a.1) λq=>
ai (r&&q) λp=>
ai (a.2.2.1==0) λl=>
ai (p&&l) λk=>
ai ((a.2.1.2.length:Int)==0) λj=>
ai (k&&j) λi=>
ai (o.2.2.1==7) λh=>
ai (i&&h) λg=>
ai (n.2.2.1==1) λf=>
ai (g&&f) λe=>
some e
def bV(i:xl->zb)(e:Ex)(most:Int)(a:jk->zb):Int×Int->zb:=λ⟨f,c⟩=>
ai (decide (c<(List.length e.l:Int))) λj=>
ai (decide (1<most)) λh=>
ai (j&&h) λg=>
bif g then (
(idx e.l c).bind λd=>
(i (d,(i64.wrap (most-1)))).bind λb=>
bif decide (f<(i64.wrap (1+b))) then a ((i64.wrap (1+b)),(i64.wrap (c+1))) else a (f,(i64.wrap (c+1)))) else (
some f)
def jx(a:xl->zb)(e:Ex)(most:Int):zb:=
aj (bV a e most) au (1,0)
def kM(e:Ex)(most:Int):zb:=
 aj (λk (s:xl)=>jx k s.1 s.2) au (e,most)
def cU(i:xl->zb)(e:Ex)(most:Int)(a:jk->zb):Int×Int->zb:=λ⟨c,d⟩=>
ai (decide (d<(List.length e.l:Int))) λj=>
ai (decide (c<most)) λh=>
ai (j&&h) λg=>
bif g then (
(idx e.l d).bind λf=>
(i (f,most)).bind λb=>
a ((i64.wrap (c+b)),(i64.wrap (d+1)))) else (
some c)
def jo(a:xl->zb)(e:Ex)(most:Int):zb:=
aj (cU a e most) au (1,0)
def kP(e:Ex)(most:Int):zb:=
 aj (λk (s:xl)=>jo k s.1 s.2) au (e,most)
def cB(e:Ex):x3:=
(kM e 45).bind λf=>
(kP e 300).bind λd=>
ai (decide (f<45)) λc=>
ai (decide (d<300)) λb=>
ai (c&&b) λa=>
some a
def lZ(a:Q9)(g:Int)(e:Int)(c:jk->x3)(k:(List Ex))(b:Int->x3)(d:Int):x3:=
(idx a.1 e).bind λj=>
bif decide (d<(j.length:Int)) then (idx a.1 e).bind λi=>
(idx i d).bind λh=>
(cB h).bind λf=>
bif !f then some false else b (i64.wrap (d+1)) else c ((i64.wrap (g+(k.length:Int))),(i64.wrap (e+1)))
def ji(a:Q9)(most:Int)(b:jk->x3):Int×Int->x3:=λ⟨c,d⟩=>
ai (decide (d<(a.1.length:Int))) λm=>
ai (decide (c<4000)) λl=>
ai (m&&l) λk=>
bif k then (
(idx a.1 d).bind λe=>
aj (lZ a c d b e) au 0) else (
ai (decide (c<4000)) λj=>
ai (decide ((a.1.length:Int)<=most)) λi=>
ai (j&&i) λh=>
ai (decide ((a.2.1.length:Int)<=most)) λg=>
ai (h&&g) λf=>
some f)
def jy(a:Q9)(most:Int)(b:jk->x3):Int×Int->x3:=λ⟨c,d⟩=>
ai (decide (d<(a.2.2.2.length:Int))) λh=>
ai (decide (c<4000)) λg=>
ai (h&&g) λf=>
bif f then (
(idx a.2.2.2 d).bind λe=>
b ((i64.wrap (c+(e.length:Int))),(i64.wrap (d+1)))) else (
aj (ji a most) au (c,0))
def mn(a:Q9)(most:Int)(b:jk->x3):Int×Int->x3:=λ⟨c,d⟩=>
ai (decide (d<(a.2.1.length:Int))) λh=>
ai (decide (c<4000)) λg=>
ai (h&&g) λf=>
bif f then (
(idx a.2.1 d).bind λe=>
b ((i64.wrap (c+(e.length:Int))),(i64.wrap (d+1)))) else (
aj (jy a most) au (c,0))
def pJ(a:Q9)(most:Int):x3:=
aj (mn a most) au ((i64.wrap ((a.2.2.1.length:Int)+(a.2.2.2.length:Int))),0)
def nV(l:Q1)(n:Int)(a:Int->x3)(b:Int):x3:=
bif decide (b<(l.length:Int)) then (idx l b).bind λg=>
ai (decide (g<0)) λf=>
bC (!f) 0 (idx l b) λc=>
ai (decide (n<=c)) λe=>
ai (f||e) λd=>
bif d then (
some false) else (
a (i64.wrap (b+1))) else some true
def eY(l:Q1)(n:Int):x3:=
aj (nV l n) au 0
def lO(e:Ex):x3:=
(dO e).bind λc=>
ai (c.2.1==0) λb8=>
ai (c.1==2) λb=>
ai (b8&&b) λa=>
some a
def kA(a:Q9)(d:Int)(c:Int->x3)(b:Int->x3)(e:Int):x3:=
(idx a.1 d).bind λi=>
bif decide (e<(i.length:Int)) then (idx a.1 d).bind λh=>
(idx h e).bind λg=>
(lO g).bind λf=>
bif !f then some false else b (i64.wrap (e+1)) else c (i64.wrap (d+1))
def iw(a:Q9)(b:Int->x3)(c:Int):x3:=
bif decide (c<(a.2.2.2.length:Int)) then (idx a.2.2.2 c).bind λe=>
(eY e (a.1.length:Int)).bind λd=>
bif !d then some false else b (i64.wrap (c+1)) else some true
def kF(a:Q9)(b:Int->x3)(c:Int):x3:=
bif decide (c<(a.1.length:Int)) then (idx a.2.1 c).bind λe=>
(eY e (a.1.length:Int)).bind λd=>
bif !d then some false else aj (kA a c b) au 0 else aj (iw a) au 0
def nF(a:Q9):x3:=
(eY a.2.2.1 (a.1.length:Int)).bind λd=>
ai (!d) λb8=>
ai ((a.2.1.length:Int) != (a.1.length:Int)) λc=>
ai (b8||c) λb=>
bif b then (
some false) else (
aj (kF a) au 0)
def jD(h:xl->x3)(e:Ex)(d:Int)(b:Int)(a:Int->x3)(c:Int):x3:=
bif decide (c<b) then (idx e.l c).bind λg=>
(h (g,d)).bind λf=>
bif !f then some false else a (i64.wrap (c+1)) else some true
def lT(x:xl->x3)(e:Ex)(b:Int)(a:Int):x3:=
ai (decide (e.op<1)) λz=>
ai (decide (24<e.op)) λy=>
ai (z||y) λw=>
ai ((List.length e.l:Int) != a) λv=>
ai (w||v) λu=>
bif u then (
some false) else (
ai (e.op==1) λt=>
ai (decide (e.n<0)) λs=>
ai (decide (1073741824<e.n)) λr=>
ai (s||r) λq=>
ai (t&&q) λp=>
ai (e.op==2) λo=>
ai (decide (e.n<0)) λm=>
ai (decide (b<=e.n)) λk=>
ai (m||k) λj=>
ai (o&&j) λi=>
ai (p||i) λh=>
ai (decide (2<e.op)) λg=>
ai (e.n != 0) λf=>
ai (g&&f) λd=>
ai (h||d) λc=>
bif c then (
some false) else (
aj (jD x e b a) au 0))
def yo(a:Int->x3)(b:Bool):x3:=
bif b then (
a 1) else (
a 2)
def rY(e:Ex)(b:Int->x3)(c:Bool):x3:=
bif c then (
b 0) else (
ai (λ(d:Bool)=>yo b d) λa=>
bif e.op==6 then a (e.op==6) else bif e.op==15 then a (e.op==15) else bif e.op==20 then a (e.op==20) else bif e.op==21 then a (e.op==21) else a (e.op==22))
def ig(g:xl->x3)(e:Ex)(b:Int):x3:=
ai (λ(f:Int)=>lT g e b f) λc=>
ai (λ(d:Bool)=>rY e c d) λa=>
bif e.op==1 then a (e.op==1) else bif e.op==2 then a (e.op==2) else bif e.op==13 then a (e.op==13) else a (e.op==14)
def pC(e:Ex)(a:Int):x3:=
 aj (λk (s:xl)=>ig k s.1 s.2) au (e,a)
def lV(a:Q9)(e:Int)(g:Int)(c:Int->x3)(b:Int->x3)(d:Int):x3:=
(idx a.1 g).bind λj=>
bif decide (d<(j.length:Int)) then (idx a.1 g).bind λi=>
(idx i d).bind λh=>
(pC h e).bind λf=>
bif !f then some false else b (i64.wrap (d+1)) else c (i64.wrap (g+1))
def lU(a:Q9)(c:Int)(b:Int->x3)(d:Int):x3:=
bif decide (d<(a.1.length:Int)) then aj (lV a c d b) au 0 else some true
def vu(a:Q9)(b:Int):x3:=
aj (lU a b) au 0
def l6(m:iS)(a:Q9):x3:=
(pJ a 40).bind λf=>
bif !f then some false else (nF a).bind λr11=>
(vu a (m.1.length:Int)).bind λb=>
ai (r11&&b) λe=>
ai ((a.2.2.2.length:Int)==1) λd=>
ai (e&&d) λc=>
some c
def fM(m:iS)(most:Int)(a:jk->x3):Int×Int->x3:=λ⟨c,b⟩=>
ai (decide (b<(m.2.1.length:Int))) λh=>
ai (decide (c<=most)) λg=>
ai (h&&g) λf=>
bif f then (
(idx m.2.1 b).bind λe=>
(idx m.2.1 b).bind λd=>
a ((i64.wrap (c*(i64.wrap ((i64.wrap (e.2-d.1))+1)))),(i64.wrap (b+1)))) else (
some (decide (c<=most)))
def pj(m:iS)(most:Int):x3:=
aj (fM m most) au (1,0)
def lX(text:aE)(a:Q9):Option (iS×Bool):=
(mX text).bind λb=>
bC b.2 default (l6 b.1 a) λe=>
ai (b.2&&e) λh=>
ai (decide ((a.1.length:Int)<=12)) λg=>
ai (h&&g) λc=>
bC c default (pj b.1 200) λd=>
ai (c&&d) λf=>
some (b.1,f)
def ir(h:Int)(d:lu->Option lu)(e:lu)(a:lu->Option lu):(List Q1)×Int->Option lu:=λ⟨b,c⟩=>
bif decide (c<(e.1.length:Int)) then (idx e.1 c).bind λi=>
(dm b i).bind λg=>
bif decide (g<0) then (idx e.1 c).bind λf=>
aN (aH (List.length b+List.length ([f]:List Q1)) 24)<|
a ((b++([f]:List Q1)),(i64.wrap (c+1))) else a (b,(i64.wrap (c+1))) else d (b,(i64.wrap (h+1)))
def ik(m:iS)(a:Q9)(most:Int)(c:lu->Option lu):(List Q1)×Int->Option lu:=λ⟨b,e⟩=>
bif decide (e<(b.length:Int)) then bif decide (most<(b.length:Int)) then some ([],7) else (idx b e).bind λf=>
(kN m a f).bind λd=>
bif d.2 != 0 then some ([],d.2) else aj (ir e c d) au (b,0) else bif decide (most<(b.length:Int)) then some ([],7) else some (b,0)
def nE(m:iS)(a:Q9)(most:Int):Option lu:=
(kO m a).bind λr11=>
aj (ik m a most) au (r11,0)
def ia(i:Bool)(e:lu)(b:(Bool×y4×Int×Q1))(a:Int->x3)(c:Int):x3:=
bif decide (c<(b.2.1.2.length:Int)) then (idx b.2.1.2 c).bind λf=>
(dm e.1 f).bind λd=>
bif decide (d<0) then some false else a (i64.wrap (c+1)) else ai (decide (0<(b.2.1.2.length:Int))) λh=>
ai (i&&h) λg=>
some g
def ic(g:Bool)(d:lu)(b:(Bool×y4×Int×Q1))(a:Int->x3)(c:Int):x3:=
bif decide (c<(b.2.1.1.length:Int)) then (idx b.2.1.1 c).bind λf=>
(dm d.1 f).bind λe=>
bif decide (e<0) then some false else a (i64.wrap (c+1)) else aj (ia g d b) au 0
def jw(a:(aE×Q9×Int×Int)):x3:=
(sK).bind λd=>
(lX a.1 a.2.1).bind λr11=>
bif !r11.2 then some d else (nE r11.1 a.2.1 80).bind λc=>
bif c.2 != 0 then some d else (jP r11.1 a.2.1 ((Int.tmod (i64.wrap a.2.2.1) 5),100,100,a.2.2.2,1000,2)).bind λb=>
ai (b.2.2.1 != 0) λi=>
ai (!b.1) λh=>
ai (i||h) λg=>
bif g then (
ai (b.2.2.1==0) λf=>
ai (d&&f) λe=>
some e) else (
aj (ic d c b) au 0)
end
end Go.Proofs.YtcgihjbfppkcfaaGreatDoor
