/-
  Own texts for the statement NestArgs, cut down to what it needs: Model. (cut and joined by a program)
-/
import Derived.Test.YtcgihjbfppkcfaaGreatDoorNestArgsE
set_option linter.unusedVariables false
set_option linter.unusedSimpArgs false
namespace Go.Proofs.YtcgihjbfppkcfaaGreatDoor
open IntKind (i64 u32 u64 u8)
abbrev Q1:=(zl)
abbrev Q2:=((Int×(List (xb×Int))×Int×Int×Q1)×(Int×(List (xb×Int))×Int×Int×Q1)×(Int×(List (xb×Int))×Int×Int×Q1))
abbrev Q3:=(Int×xb×Int×((Int×(List Q1)×Q1)×Q1)×((List (Int×(List Q1)×Q1))×(Int×(List Q1)×Q1)×Q1)×((List (Int×(List Q1)×Q1))×Q1)×Q2×(Int×Int×Int×(Q1×Q1×Q1)))
abbrev Q4:=(xb)
abbrev Q5:=(List (Int×Ex×(List (Int×Ex))))
abbrev Q6:=(Int×(List Q1)×Q1)
abbrev Q7:=(List (Int×aE×Int×Int))
abbrev Q8:=(Int×Q4×Int×Int×(List Q1)×Q1×Q1×(List Q6)×Int×(List Q1)×Q1×Q1×(List Q6)×Q1×Int×(List (Q4×Int))×Int×Int×Q1×Int×(List (Q4×Int))×Int×Int×Q1×Int×(List (Q4×Int))×Int×Int×Q1×Int×Int×Int×Q1×Q1×Q1)
abbrev Q9:=((List (List Ex))×(List Q1)×Q1×(List Q1))
abbrev il:=((List aE)×Q4×Q1×(List aE)×Q5)
abbrev cF:=(List (Q4×Int))
abbrev fG:=(Ex×Int×Int×Int)
abbrev bq:=(List aE)
abbrev tU:=(Int×Int×Int×(Q1×Q1×Q1))
abbrev GQ:=(Option (List (Int×Bool)))
abbrev Aw:=(Int×Int×Q7×Int×bq×Int×Int)
abbrev Ad:=(Option (List (aE×Bool)))
abbrev Q18:=(Except (Int×Q1) (Bool×Int×Q4×Int×Int×(List Q1)×Q1×Q1×(List Q6)×Int×(List Q1)×Q1×Q1×(List Q6)×Q1×Int×cF×Int×Int×Q1×Int×cF×Int×Int×Q1×Int×cF×Int×Int×Q1×Int×Int×Int×Q1×Q1×Q1))
abbrev kl:=((List Q1)×Int)
abbrev lL:=(Int×Int×Int)
abbrev uk:=(Int×aE×Int×Int)
abbrev eK:=(zk)
abbrev vq:=(Int×Q5×Int×Int)
abbrev Ao:=((List Q6)×Q6×Q1)
abbrev fL:=(Q1×Int)
abbrev Ax:=(List (Q1×(List Q1)))
abbrev jq:=(Int×Int)
abbrev X9:=(Int×Int×Int×(List (Int×Ex))×Bool)
abbrev CQ:=((List Q1)×(List Q1))
abbrev GY:=(Int×Int×Int×Int)
abbrev Vn:=(Int×Int×Int×Int×Int×Int)
abbrev xo:=(Q7×Int×Int)
abbrev Qn:=(Int×cF×Int×Int×Q1)
abbrev Q34:=(Int×Q4×Int×Int×(List Q1)×Q1×Q1×(List Q6)×Int×(List Q1)×Q1×Q1×(List Q6)×Q1×Int×cF×Int×Int×Q1×Int×cF×Int×Int×Q1×Int×cF×Int×Int×Q1×Int×Int×Int×Q1×Q1×Q1×Ax)
abbrev LN:=(Int×cF×Q1×GQ)
abbrev Xd:=((List Q1)×(List Q1)×Int)
abbrev Ux:=(List (Int×Ex))
abbrev JD:=(il×Int×Int)
abbrev Q39:=(Int×bq×Q4×Q1×bq×Q5×Int×Int)
abbrev L6:=(List (List Ex))
abbrev Q41:=(Int×Int×Int×Int×Int×Int×Int×Int)
abbrev xp:=(Ex×Int)
abbrev Q43:=(Int×Q1×Int×cF×Int×Int×Q1×GQ)
abbrev Ee:=(Int×Bool)
abbrev FM:=(Bool×Int)
abbrev Oq:=((List Q6)×Q1)
abbrev Q47:=(Int×Int×cF×Int×Int×Q1×GQ)
abbrev Fw:=(Int×Q1)
abbrev Q49:=(Int×Q1×(List Q6))
abbrev GB:=(Q3×Int)
abbrev Q51:=(eK×Bool×Int)
abbrev Q52:=(Q3×Bool×Int)
abbrev Q53:=(Q1×L6×(List Q1)×Q1×(List Q1)×Q1)
abbrev Q54:=(Ao×Bool×Int)
abbrev Q55:=(Int×Ex×Ux)
abbrev Q56:=(Int×(List Q6))
abbrev Q57:=((List Q1)×Ad)
abbrev Q58:=(Bool×Int×Int)
abbrev d8{a b c d e f g h i:Type}(x:a×b×c×d×e×f×g×h×i):i:=x.2.2.2.2.2.2.2.2
noncomputable section
def vY:zl:=[1,10,100,1000,10000,100000,1000000,10000000,100000000,1000000000,10000000000,100000000000,1000000000000,10000000000000,100000000000000,1000000000000000,10000000000000000,100000000000000000,1000000000000000000,10000000000000000000]
def Zp(n:Int):Option aE:=aN (abp n) (some (Lib.itoa n))
def UT(l:zl)(u b:Int):Option Q1:=aN ((b==10)&&(decide (0<=u)&&decide (u<=18446744073709551615))&&aH (List.length l+24) 1) (some (l++aQ (Lib.decDigits (Int.toNat u))))
def W6{α:Type}(b:Nat)(s:List α)(k:Int)(y:List α):Option (List α):=match y with
 |[]=>none
 |y0::ys=>aN (Cu k (List.length s)&&aH (List.length s+List.length (y0::ys)) b) (some (nC s k (y0::ys)))
def ai4(d:Int)(c:Int)(b:Int)(a:Int):Bool:=d==b&&c==a
def gA(c:Int):zd:=
ai (c==9) λt=>
ai (c==10) λs=>
ai (t||s) λr=>
ai (c==13) λq=>
ai (r||q) λp=>
ai (c==32) λo=>
ai (p||o) λn=>
bif n then (
some 0) else (
ai (decide (97<=c)) λm=>
ai (decide (c<=122)) λl=>
ai (m&&l) λk=>
ai (decide (65<=c)) λj=>
ai (decide (c<=90)) λi=>
ai (j&&i) λh=>
ai (k||h) λg=>
ai (c==95) λf=>
ai (g||f) λe=>
bif e then (
some 1) else (
ai (decide (48<=c)) λd=>
ai (decide (c<=57)) λb=>
ai (d&&b) λa=>
bif a then (
some 2) else (
some 3)))
def tv:Option bq:=
some ([[60,45,62],[45,62],[61,61],[33,61],[60,61],[62,61],[60],[62],[61],[43],[45],[42],[40],[41],[123],[125],[59],[44],[58],[38],[124],[33]]:List aE)
def gQ(text:aE)(d:Q7)(c:(Q7×Int)->Option xo)(b:Int->Option xo)(a:Int):Option xo:=
ai (decide (a<(text.length:Int))) λe=>
Kh e (ue a (List.length text))<|
ai ((ny text a) != 10) λg=>
ai (e&&g) λf=>
bif f then (
b (i64.wrap (a+1))) else (
c (d,a))
def eY(text:aE)(f:Q7)(b:Int)(e:(Q7×Int)->Option xo)(d:Int->Option xo)(a:Int):Option xo:=
ai (decide (a<(text.length:Int))) λc=>
Kh c (ue a (List.length text))<|
bp c default (gA (ny text a)) λi=>
ai (i==1) λg=>
Kh (c&& !g) (ue a (List.length text))<|
bp (c&& !g) default (gA (ny text a)) λh=>
ai (h==2) λl=>
ai (g||l) λk=>
ai (c&&k) λj=>
bif j then (
d (i64.wrap (a+1))) else (
bif decide (32<(i64.wrap (a-b))) then some ([],9,b) else aN (df b a (List.length text))<|
aN (aH (List.length f+List.length ([(1,(cut text b a),0,b)]:List uk)) 40)<|
e ((f++([(1,(cut text b a),0,b)]:List uk)),a))
def eX(text:aE)(f:Q7)(d:Int)(e:(Q7×Int)->Option xo)(b:jq->Option xo):Int×Int->Option xo:=λ⟨a,c⟩=>
ai (decide (a<(text.length:Int))) λg=>
Kh g (ue a (List.length text))<|
bp g default (gA (ny text a)) λh=>
ai (h==2) λj=>
ai (g&&j) λi=>
bif i then (
bif decide (c<=1073741824) then aN (ue a (List.length text))<|
b ((i64.wrap (a+1)),(i64.wrap ((i64.wrap ((i64.wrap (10*c))+(i64.wrap (ny text a))))-48))) else b ((i64.wrap (a+1)),c)) else (
bif decide (1073741824<c) then some ([],9,d) else aN (df d a (List.length text))<|
aN (aH (List.length f+List.length ([(2,(cut text d a),c,d)]:List uk)) 40)<|
e ((f++([(2,(cut text d a),c,d)]:List uk)),a))
def bU(text:aE)(h:Q7)(d:Int)(g:(Q7×Int)->Option xo)(f:bq)(c:(aE×Int)->Option xo):aE×Int->Option xo:=λ⟨b,a⟩=>
ai (decide (a<(f.length:Int))) λq=>
ai (b==[]) λp=>
ai (q&&p) λo=>
bif o then (
(idx f a).bind λl=>
ai (decide ((l.length:Int)<=(i64.wrap ((text.length:Int)-d)))) λe=>
bp e [] (idx f a) λi=>
Kh e (df d (i64.wrap (d+(i.length:Int))) (List.length text))<|
bp e [] (idx f a) λk=>
ai ((cut text d (i64.wrap (d+(i.length:Int))))==k) λn=>
ai (e&&n) λm=>
bif m then (
(idx f a).bind λj=>
c (j,(i64.wrap (a+1)))) else (
c (b,(i64.wrap (a+1))))) else (
bif b==[] then some ([],2,d) else aN (aH (List.length h+List.length ([(3,b,0,d)]:List uk)) 40)<|
g ((h++([(3,b,0,d)]:List uk)),(i64.wrap (d+(b.length:Int)))))
def ka(text:aE)(a:(Q7×Int)->Option xo):Q7×Int->Option xo:=λ⟨c,b⟩=>
bif decide (b<(text.length:Int)) then aN (ue b (List.length text))<|
(gA (ny text b)).bind λd=>
bif d==0 then a (c,(i64.wrap (b+1))) else aN (ue b (List.length text))<|
bif (ny text b)==35 then aj (gQ text c a) an b else bif d==1 then aj (eY text c b a) an b else bif d==2 then aj (eX text c b a) an (b,0) else (tv).bind λe=>
aj (bU text c b a e) an ([],0) else aN (aH (List.length c+List.length ([(4,[],0,(text.length:Int))]:List uk)) 40)<|
some ((c++([(4,[],0,(text.length:Int))]:List uk)),0,0)
def gI(text:aE):Option xo:=
bif decide (65536<(text.length:Int)) then some ([],9,0) else aj (ka text) an ([],0)
def bV(kind:Int)(text:aE)(l:Q7)(at_:Int)(e:bq)(b:Q4)(j:Q1)(d:bq)(m:Q5)(g:Int)(c:Int):za:=
ai (g==0) λk=>
bp k (0,[],0,0) (idx l at_) λn=>
ai (n.1==kind) λo=>
ai (k&&o) λa=>
bp a (0,[],0,0) (idx l at_) λf=>
ai (f.2.1==text) λi=>
ai (a&&i) λh=>
some h
def yi(a:Bool):za:=
bif a then (
some true) else (
some false)
def jS(a:aE):za:=
ai (λ(c:Bool)=>yi c) λb=>
bif a==[116,114,117,101] then b (a==[116,114,117,101]) else bif a==[102,97,108,115,101] then b (a==[102,97,108,115,101]) else bif a==[88] then b (a==[88]) else bif a==[70] then b (a==[70]) else bif a==[71] then b (a==[71]) else bif a==[85] then b (a==[85]) else bif a==[82] then b (a==[82]) else bif a==[118,97,114] then b (a==[118,97,114]) else b (a==[112,114,111,99])
def aJ(g:Int)(c:Int)(k:Q7)(i:Int)(f:bq)(d:Q4)(h:Q1)(e:bq)(j:Q5)(b:Int)(a:Int):Option jq:=
bif b==0 then some (g,c) else some (b,a)
def fQ(l:bq)(b:aE)(a:Int->zd)(c:Int):zd:=
bif decide (c<(l.length:Int)) then (idx l c).bind λd=>
bif d==b then some c else a (i64.wrap (c+1)) else some (-1)
def cR(l:bq)(a:aE):zd:=
aj (fQ l a) an 0
def gU(full:Bool)(l:Q7)(at_:Int)(d:bq)(b:Q4)(g:Q1)(c:bq)(aT:Q5)(e:Int)(a:Int):Option (aE×Int×Int×Int):=
(idx l at_).bind λf=>
(jS f.2.1).bind λk=>
bif f.1 != 1 then (aJ 2 f.2.2.2 l at_ d b g c aT e a).bind λj=>
some (f.2.1,at_,j.1,j.2) else bp (!k) default (cR d f.2.1) λo=>
ai (decide (0<=o)) λr=>
ai (k||r) λm=>
bp (!m) default (cR c f.2.1) λn=>
ai (decide (0<=n)) λq=>
ai (m||q) λp=>
bif p then (
(aJ 3 f.2.2.2 l at_ d b g c aT e a).bind λi=>
some (f.2.1,at_,i.1,i.2)) else (
bif full then (
(aJ 9 f.2.2.2 l at_ d b g c aT e a).bind λh=>
some (f.2.1,at_,h.1,h.2)) else (
bif e==0 then some (f.2.1,(i64.wrap (at_+1)),e,a) else some (f.2.1,at_,e,a)))
def bu(l:Q7)(at_:Int)(d:bq)(a:Q4)(e:Q1)(c:bq)(g:Q5)(f:Int)(b:Int):zd:=
(idx l at_).bind λh=>
some h.2.2.2
def bO(text:aE)(l:Q7)(at_:Int)(d:bq)(b:Q4)(e:Q1)(c:bq)(aT:Q5)(f:Int)(a:Int):Option lL:=
(bV 3 text l at_ d b e c aT f a).bind λi=>
bif !i then (bu l at_ d b e c aT f a).bind λh=>
(aJ 2 h l at_ d b e c aT f a).bind λg=>
some (at_,g.1,g.2) else some ((i64.wrap (at_+1)),f,a)
def mh(a:Int):za:=
ai (a==1) λj=>
ai (a==2) λi=>
ai (j||i) λh=>
ai (a==5) λg=>
ai (h||g) λf=>
ai (a==6) λe=>
ai (f||e) λd=>
ai (a==10) λc=>
ai (d||c) λb=>
some b
def bH(e:Int)(l:Q7)(at_:Int)(c:bq)(a:Int)(b:Int):Option (Ex×Int×Int):=
bif a==0 then (idx l at_).bind λd=>
some ((Ex.mk 0 0 0 []),e,d.2.2.2) else some ((Ex.mk 0 0 0 []),a,b)
def eI(l:Q7)(at_:Int)(names:bq)(f:Int)(a:Int)(e:uk)(b:Int->Option fG)(c:Int):Option fG:=
bif decide (c<(names.length:Int)) then (idx names c).bind λg=>
bif g==e.2.1 then some ((Ex.mk 2 c e.2.2.2 []),(i64.wrap (at_+1)),f,a) else b (i64.wrap (c+1)) else (bH 3 l at_ names f a).bind λd=>
some (d.1,at_,d.2.1,d.2.2)
def ed(A:Aw->Option fG)(g:Int)(l:Q7)(at_:Int)(names:bq)(d:Int)(c:Int):Option fG:=
(idx l at_).bind λb=>
bif b.1==2 then some ((Ex.mk 1 b.2.2.1 b.2.2.2 []),(i64.wrap (at_+1)),d,c) else ai (b.1==1) λz=>
ai (b.2.1==[116,114,117,101]) λy=>
ai (z&&y) λx=>
bif x then (
some ((Ex.mk 13 0 b.2.2.2 []),(i64.wrap (at_+1)),d,c)) else (
ai (b.1==1) λw=>
ai (b.2.1==[102,97,108,115,101]) λv=>
ai (w&&v) λu=>
bif u then (
some ((Ex.mk 14 0 b.2.2.2 []),(i64.wrap (at_+1)),d,c)) else (
(jS b.2.1).bind λi=>
ai (b.1==1) λt=>
ai (!i) λs=>
ai (t&&s) λr=>
bif r then (
aj (eI l at_ names d c b) an 0) else (
ai (b.1 != 3) λq=>
ai (b.2.1 != [40]) λp=>
ai (q||p) λo=>
bif o then (
(bH 2 l at_ names d c).bind λf=>
some (f.1,at_,f.2.1,f.2.2)) else (
(A (1,g,l,(i64.wrap (at_+1)),names,d,c)).bind λa=>
bif a.2.2.1 != 0 then some ((Ex.mk 0 0 0 []),a.2.1,a.2.2.1,a.2.2.2) else (idx l a.2.1).bind λk=>
ai (k.1 != 3) λh=>
bp (!h) (0,[],0,0) (idx l a.2.1) λj=>
ai (j.2.1 != [41]) λn=>
ai (h||n) λm=>
bif m then (
(bH 2 l a.2.1 names a.2.2.1 a.2.2.2).bind λe=>
some (e.1,a.2.1,e.2.1,e.2.2)) else (
some (a.1,(i64.wrap (a.2.1+1)),a.2.2.1,a.2.2.2))))))
def bM(t:uk)(a:Int->zd)(b:Int):zd:=
bif decide (b<6) then (idx ([[61,61],[33,61],[60],[60,61],[62],[62,61]]:List aE) b).bind λc=>
bif t.2.1==c then some (i64.wrap (7+b)) else a (i64.wrap (b+1)) else some 0
def cY(t:uk)(a:Int):zd:=
ai (t.1 != 2) λd=>
ai (t.1 != 4) λc=>
ai (d&&c) λb=>
bif b then (
bif a==1 then bif t.2.1==[60,45,62] then some 19 else some 0 else bif a==2 then bif t.2.1==[45,62] then some 18 else some 0 else bif a==3 then bif t.2.1==[124] then some 17 else some 0 else bif a==4 then bif t.2.1==[38] then some 16 else some 0 else bif a==5 then bif t.2.1==[85] then some 23 else bif t.2.1==[82] then some 24 else some 0 else bif a==7 then aj (bM t) an 0 else bif a==8 then bif t.2.1==[43] then some 3 else bif t.2.1==[45] then some 4 else some 0 else bif a==9 then bif t.2.1==[42] then some 5 else some 0 else some 0) else (
some 0)
def j2(h:Aw->Option fG)(l:Q7)(at_:Int)(names:bq)(f:Int)(b:Int)(a:Int)(g:uk)(e:Int):Option fG:=
bif e==0 then (h (7,a,l,at_,names,f,b)).bind λd=>
some (d.1,d.2.1,d.2.2.1,d.2.2.2) else (h (6,a,l,(i64.wrap (at_+1)),names,f,b)).bind λc=>
some ((Ex.mk e 0 g.2.2.2 ([c.1]:List Ex)),c.2.1,c.2.2.1,c.2.2.2)
def pN(k:Aw->Option fG)(l:Q7)(at_:Int)(names:bq)(g:Int)(c:Int)(a:Int)(d:uk)(f:Int):Option fG:=
ai (λ(e:Int)=>j2 k l at_ names g c a d e) λb=>
ai (d.1==1) λj=>
ai (d.2.1==[71]) λi=>
ai (j&&i) λh=>
bif h then (
b 22) else (
b f)
def pK(k:Aw->Option fG)(l:Q7)(at_:Int)(names:bq)(g:Int)(c:Int)(a:Int)(d:uk)(f:Int):Option fG:=
ai (λ(e:Int)=>pN k l at_ names g c a d e) λb=>
ai (d.1==1) λj=>
ai (d.2.1==[70]) λi=>
ai (j&&i) λh=>
bif h then (
b 21) else (
b f)
def dh(k:Aw->Option fG)(l:Q7)(at_:Int)(names:bq)(g:Int)(c:Int)(a:Int)(d:uk)(f:Int):Option fG:=
ai (λ(e:Int)=>pK k l at_ names g c a d e) λb=>
ai (d.1==1) λj=>
ai (d.2.1==[88]) λi=>
ai (j&&i) λh=>
bif h then (
b 20) else (
b f)
def dj(u:Aw->Option fG)(a:Int)(l:Q7)(names:bq)(m:Int)(o:(Int×Int×Int×Int×Int×Int×(List Ex))->Option fG):Int×Int×Int×Int×Int×Int×(List Ex)->Option fG:=λ⟨h,g,n,f,e,d,c⟩=>
bif g==0 then (idx l h).bind λk=>
(cY k a).bind λj=>
bif j==0 then some ((Ex.mk f e d c),h,g,n) else ai (a==1) λt=>
ai (a==2) λs=>
ai (t||s) λr=>
ai (a==5) λq=>
ai (r||q) λp=>
bif p then (
(u (a,m,l,(i64.wrap (h+1)),names,g,n)).bind λi=>
some ((Ex.mk j 0 k.2.2.2 ([(Ex.mk f e d c),i.1]:List Ex)),i.2.1,i.2.2.1,i.2.2.2)) else (
(u ((i64.wrap (a+1)),m,l,(i64.wrap (h+1)),names,g,n)).bind λb=>
bif a==7 then some ((Ex.mk j 0 k.2.2.2 ([(Ex.mk f e d c),b.1]:List Ex)),b.2.1,b.2.2.1,b.2.2.2) else o (b.2.1,b.2.2.1,b.2.2.2,j,0,k.2.2.2,([(Ex.mk f e d c),b.1]:List Ex))) else some ((Ex.mk f e d c),h,g,n)
def j7(p:Aw->Option fG)(a:Int)(l:Q7)(at_:Int)(names:bq)(h:Int)(d:Int)(r:Bool)(b:Int):Option fG:=
ai (decide (320<b)) λw=>
ai (r&&w) λv=>
bif v then (
(bH 9 l at_ names h d).bind λj=>
some (j.1,at_,j.2.1,j.2.2)) else (
(idx l at_).bind λg=>
bif a==6 then ai (λ(q:Int)=>dh p l at_ names h d b g q) λi=>
ai (g.1==3) λu=>
ai (g.2.1==[33]) λt=>
ai (u&&t) λs=>
bif s then (
i 15) else (
i 0) else bif a==10 then ai (g.1 != 3) λo=>
ai (g.2.1 != [45]) λm=>
ai (o||m) λk=>
bif k then (
(ed p b l at_ names h d).bind λf=>
some (f.1,f.2.1,f.2.2.1,f.2.2.2)) else (
(p (10,b,l,(i64.wrap (at_+1)),names,h,d)).bind λe=>
some ((Ex.mk 6 0 g.2.2.2 ([e.1]:List Ex)),e.2.1,e.2.2.1,e.2.2.2)) else (p ((i64.wrap (a+1)),b,l,at_,names,h,d)).bind λc=>
aj (dj p a l names b) an (c.2.1,c.2.2.1,c.2.2.2,c.1.op,c.1.n,c.1.at_,c.1.l))
def dz(h:Aw->Option fG)(a:Int)(d:Int)(l:Q7)(at_:Int)(names:bq)(e:Int)(b:Int):Option fG:=
bif e != 0 then some ((Ex.mk 0 0 0 []),at_,e,b) else (mh a).bind λg=>
ai (λ(f:Int)=>j7 h a l at_ names e b g f) λc=>
bif g then (
c (i64.wrap (d+1))) else (
c d)
def iI(a:Int)(c:Int)(l:Q7)(at_:Int)(names:bq)(d:Int)(b:Int):Option fG:=
 aj (λk (s:Aw)=>dz k s.1 s.2.1 s.2.2.1 s.2.2.2.1 s.2.2.2.2.1 s.2.2.2.2.2.1 s.2.2.2.2.2.2) an (a,c,l,at_,names,d,b)
def fD(l:Q7)(at_:Int)(names:bq):Option fG:=
(iI 1 0 l at_ names 0 0).bind λa=>
bif a.2.2.1 != 0 then some ((Ex.mk 0 0 0 []),0,a.2.2.1,a.2.2.2) else some (a.1,a.2.1,0,0)
def xt(a:Int)(e:Int)(c:GY->Option lL)(f:lL)(d:Int)(b:Int):Option lL:=
bif f.1==3 then c (d,b,(i64.wrap (a+1)),(i64.wrap (e+1))) else c (d,b,a,(i64.wrap (e+1)))
def rN(a:Int)(b:Int)(h:Int)(c:GY->Option lL)(f:lL)(d:Int):Option lL:=
ai (λ(g:Int)=>xt b h c f d g) λe=>
bif f.1==2 then e (i64.wrap (a+1)) else e a
def lx(F:Ex->Option lL)(e:Ex)(f:GY->Option lL):Int×Int×Int×Int->Option lL:=λ⟨a,b,c,h⟩=>
bif decide (h<(List.length e.l:Int)) then (idx e.l h).bind λj=>
(F j).bind λd=>
bif d.2.1 != 0 then some (0,d.2.1,d.2.2) else ai (λ(i:Int)=>rN b c h f d i) λg=>
bif d.1==1 then g (i64.wrap (a+1)) else g a else ai (decide (e.op<=6)) λE=>
ai (a==(List.length e.l:Int)) λD=>
ai (E&&D) λC=>
bif C then (
some (1,0,0)) else (
ai (decide (7<=e.op)) λB=>
ai (decide (e.op<=12)) λA=>
ai (B&&A) λz=>
ai (a==(List.length e.l:Int)) λy=>
ai (z&&y) λx=>
ai (e.op==13) λw=>
ai (x||w) λv=>
ai (e.op==14) λu=>
ai (v||u) λt=>
bif t then (
some (2,0,0)) else (
ai (decide (15<=e.op)) λs=>
ai (decide (e.op<=19)) λr=>
ai (s&&r) λq=>
ai (b==(List.length e.l:Int)) λp=>
ai (q&&p) λo=>
bif o then (
some (2,0,0)) else (
ai (decide (15<=e.op)) λn=>
ai ((i64.wrap (b+c))==(List.length e.l:Int)) λm=>
ai (n&&m) λk=>
bif k then (
some (3,0,0)) else (
some (0,4,e.at_)))))
def ju(a:Ex->Option lL)(e:Ex):Option lL:=
aj (lx a e) an (0,0,0,0)
def dR(e:Ex):Option lL:=
 aj (λk (s:Ex)=>ju k s) an e
def Fo(a:Int)(e:Int)(c:GY->Option lL)(f:lL)(d:Int)(b:Int):Option lL:=
bif f.1==3 then c (d,b,(i64.wrap (a+1)),(i64.wrap (e+1))) else c (d,b,a,(i64.wrap (e+1)))
def uA(a:Int)(b:Int)(h:Int)(c:GY->Option lL)(f:lL)(d:Int):Option lL:=
ai (λ(g:Int)=>Fo b h c f d g) λe=>
bif f.1==2 then e (i64.wrap (a+1)) else e a
def F0(e:Ex)(f:GY->Option lL):Int×Int×Int×Int->Option lL:=λ⟨a,b,c,h⟩=>
bif decide (h<(List.length e.l:Int)) then (idx e.l h).bind λj=>
(dR j).bind λd=>
bif d.2.1 != 0 then some (0,d.2.1,d.2.2) else ai (λ(i:Int)=>uA b c h f d i) λg=>
bif d.1==1 then g (i64.wrap (a+1)) else g a else ai (decide (e.op<=6)) λE=>
ai (a==(List.length e.l:Int)) λD=>
ai (E&&D) λC=>
bif C then (
some (1,0,0)) else (
ai (decide (7<=e.op)) λB=>
ai (decide (e.op<=12)) λA=>
ai (B&&A) λz=>
ai (a==(List.length e.l:Int)) λy=>
ai (z&&y) λx=>
ai (e.op==13) λw=>
ai (x||w) λv=>
ai (e.op==14) λu=>
ai (v||u) λt=>
bif t then (
some (2,0,0)) else (
ai (decide (15<=e.op)) λs=>
ai (decide (e.op<=19)) λr=>
ai (s&&r) λq=>
ai (b==(List.length e.l:Int)) λp=>
ai (q&&p) λo=>
bif o then (
some (2,0,0)) else (
ai (decide (15<=e.op)) λn=>
ai ((i64.wrap (b+c))==(List.length e.l:Int)) λm=>
ai (n&&m) λk=>
bif k then (
some (3,0,0)) else (
some (0,4,e.at_)))))
def jd(e:Ex):Option lL:=
aj (F0 e) an (0,0,0,0)
def xf(a:fG)(c:Int)(b:Int):Option fG:=
some (a.1,a.2.1,c,b)
def cH(j:Int)(l:Q7)(at_:Int)(c:bq)(b:Q4)(h:Q1)(d:bq)(aT:Q5)(f:Int)(a:Int):Option fG:=
bif f != 0 then some ((Ex.mk 0 0 0 []),at_,f,a) else (fD l at_ c).bind λe=>
bif e.2.2.1 != 0 then (aJ e.2.2.1 e.2.2.2 l at_ c b h d aT f a).bind λo=>
some ((Ex.mk 0 0 0 []),at_,o.1,o.2) else (jd e.1).bind λi=>
ai (λ(k:Int×Int)=>xf e k.1 k.2) λg=>
bif i.2.1 != 0 then (aJ i.2.1 i.2.2 l at_ c b h d aT f a).bind λn=>
g (n.1,n.2) else bif i.1 != j then (aJ 4 e.1.at_ l at_ c b h d aT f a).bind λm=>
g (m.1,m.2) else g (f,a)
def gm(l:Q7)(e:bq)(b:Q4)(f:Q1)(d:bq)(aT:Q5)(j:Ux)(c:X9->Option vq)(i:Int)(n:Int)(m:Int)(k:Int):Option vq:=
(bO [61] l k e b f d aT n m).bind λh=>
(cH 1 l h.1 e b f d aT h.2.1 h.2.2).bind λa=>
aN (aH (List.length j+List.length ([(i,a.1)]:List (Int×Ex))) 56)<|
(bV 3 [44] l a.2.1 e b f d aT a.2.2.1 a.2.2.2).bind λg=>
bif g then (
c ((i64.wrap (a.2.1+1)),a.2.2.1,a.2.2.2,(j++([(i,a.1)]:List (Int×Ex))),g)) else (
c (a.2.1,a.2.2.1,a.2.2.2,(j++([(i,a.1)]:List (Int×Ex))),g))
def jY(l:Q7)(e:bq)(b:Q4)(h:Q1)(d:bq)(aT:Q5)(g:Int)(k:Ux)(a:X9->Option vq)(j:Int)(f:Int)(m:Int):Option vq:=
ai (λ(i:Int)=>gm l e b h d aT k a j f m i) λc=>
bif f==0 then c (i64.wrap (g+1)) else c g
def cG(l:Q7)(d:bq)(b:Q4)(h:Q1)(c:bq)(aT:Q5)(r:Int)(q:Int)(p:Int)(m:Ux)(g:X9->Option vq)(o:uk)(k:Int)(f:FM->Option vq):Bool×Int->Option vq:=λ⟨a,n⟩=>
bif decide (n<(m.length:Int)) then bp (!a) (0,(Ex.mk 0 0 0 [])) (idx m n) λv=>
ai (v.1==k) λx=>
ai (a||x) λw=>
f (w,(i64.wrap (n+1))) else ai (λ(s:Int×Int)=>jY l d b h c aT r m g k s.1 s.2) λe=>
bif o.1 != 1 then (aJ 2 o.2.2.2 l r d b h c aT q p).bind λj=>
e (j.1,j.2) else ai (decide (k<0)) λu=>
ai (u||a) λt=>
bif t then (
(aJ 3 o.2.2.2 l r d b h c aT q p).bind λi=>
e (i.1,i.2)) else (
e (q,p))
def di(l:Q7)(b:bq)(c:Q4)(g:Q1)(a:bq)(aT:Q5)(k:fG)(e:X9->Option vq):Int×Int×Int×Ux×Bool->Option vq:=λ⟨j,i,n,h,f⟩=>
ai (i==0) λq=>
ai (f&&q) λp=>
bif p then (
(idx l j).bind λm=>
(cR b m.2.1).bind λo=>
aj (cG l b c g a aT j i n h e m o) an (false,0)) else (
(bO [59] l j b c g a aT i n).bind λd=>
aN (aH (List.length aT+List.length ([((i64.wrap ((a.length:Int)-1)),k.1,h)]:List Q55)) 80)<|
some (d.1,(aT++([((i64.wrap ((a.length:Int)-1)),k.1,h)]:List Q55)),d.2.1,d.2.2))
def gu(l:Q7)(at_:Int)(c:bq)(a:Q4)(d:Q1)(b:bq)(aT:Q5)(h:Int)(g:Int):Option vq:=
(cH 2 l at_ c a d b aT h g).bind λe=>
(bO [58] l e.2.1 c a d b aT e.2.2.1 e.2.2.2).bind λf=>
aj (di l c a d b aT e) an (f.1,f.2.1,f.2.2,[],true)
def iL(l:Q7)(at_:Int)(d:bq)(a:Q4)(f:Q1)(c:bq)(aT:Q5)(i:Int)(b:Int):Option vq:=
ai (λ(g:Int×Int)=>gu l at_ d a f c aT g.1 g.2) λe=>
bif decide (256<=(aT.length:Int)) then (bu l at_ d a f c aT i b).bind λj=>
(aJ 9 j l at_ d a f c aT i b).bind λh=>
e (h.1,h.2) else e (i,b)
def kB(e:Bool)(c:Int)(d:uk)(a:Int)(b:Int):Option GY:=
bif a != 0 then some (0,c,a,b) else bif e then (
some ((i64.wrap (0-d.2.2.1)),(i64.wrap (c+1)),a,b)) else (
some (d.2.2.1,(i64.wrap (c+1)),a,b))
def ky(l:Q7)(g:bq)(b:Q4)(k:Q1)(f:bq)(aT:Q5)(j:Int)(a:Int)(m:Bool)(e:Int):Option GY:=
(idx l e).bind λd=>
ai (λ(h:Int×Int)=>kB m e d h.1 h.2) λc=>
bif d.1 != 2 then (aJ 2 d.2.2.2 l e g b k f aT j a).bind λi=>
c (i.1,i.2) else c (j,a)
def ek(l:Q7)(at_:Int)(d:bq)(a:Q4)(f:Q1)(c:bq)(aT:Q5)(g:Int)(b:Int):Option GY:=
(bV 3 [45] l at_ d a f c aT g b).bind λi=>
ai (λ(h:Int)=>ky l d a f c aT g b i h) λe=>
bif i then (
e (i64.wrap (at_+1))) else (
e at_)
def pE(s:Q4)(b:Int->za)(a:Int):za:=
bif decide (a<(s.length:Int)) then (idx s a).bind λk=>
(idx s a).bind λj=>
ai (decide (j.2<k.1)) λe=>
bp (!e) (0,0) (idx s a) λi=>
ai (decide (i.1<(-1073741824))) λo=>
ai (e||o) λd=>
bp (!d) (0,0) (idx s a) λh=>
ai (decide (1073741824<h.2)) λn=>
ai (d||n) λc=>
bp (!c) (0,0) (idx s a) λg=>
bp (!c) (0,0) (idx s a) λf=>
ai (decide (65535<(i64.wrap (g.2-f.1)))) λm=>
ai (c||m) λl=>
bif l then (
some false) else (
b (i64.wrap (a+1))) else some true
def nQ(s:Q4):za:=
ai (decide ((s.length:Int)<1)) λc=>
ai (decide (17<(s.length:Int))) λb=>
ai (c||b) λa=>
bif a then (
some false) else (
aj (pE s) an 0)
def jL(b:bq)(a:Q4)(c:Q1)(g:(aE×Int×Int×Int))(f:GY)(e:GY)(d:GY)(h:lL)(j:Int)(i:Int):Option (Int×bq×Q4×Q1×Int×Int):=
aN (aH (List.length b+List.length ([g.1]:List aE)) 16)<|
aN (aH (List.length a+List.length ([(f.1,e.1)]:List jq)) 16)<|
aN (aH (List.length c+List.length ([d.1]:zl)) 8)<|
some (h.1,(b++([g.1]:List aE)),(a++([(f.1,e.1)]:List jq)),(c++([d.1]:zl)),j,i)
def ij(l:Q7)(at_:Int)(b:bq)(a:Q4)(d:Q1)(c:bq)(aT:Q5)(q:Int)(k:Int):Option (Int×bq×Q4×Q1×Int×Int):=
(gU (decide (16<=(b.length:Int))) l at_ b a d c aT q k).bind λe=>
(bu l e.2.1 b a d c aT e.2.2.1 e.2.2.2).bind λp=>
(ek l e.2.1 b a d c aT e.2.2.1 e.2.2.2).bind λi=>
(ek l i.2.1 b a d c aT i.2.2.1 i.2.2.2).bind λh=>
(ek l h.2.1 b a d c aT h.2.2.1 h.2.2.2).bind λg=>
(bO [59] l g.2.1 b a d c aT g.2.2.1 g.2.2.2).bind λf=>
(nQ ([(i.1,h.1)]:List jq)).bind λo=>
ai (λ(m:Int×Int)=>jL b a d e i h g f m.1 m.2) λj=>
ai (!o) λv=>
ai (decide (g.1<i.1)) λu=>
ai (v||u) λt=>
ai (decide (h.1<g.1)) λs=>
ai (t||s) λr=>
bif r then (
(aJ 5 p l f.1 b a d c aT f.2.1 f.2.2).bind λn=>
j (n.1,n.2)) else (
j (f.2.1,f.2.2))
def iw(m:xo)(g:bq)(e:Q39->Option JD)(k:bq)(j:Q4)(i:Q1)(f:(aE×Int×Int×Int))(b:(Int×Q5×Int×Int×Bool)->Option JD):Int×Q5×Int×Int×Bool->Option JD:=λ⟨p,n,d,l,h⟩=>
ai (d==0) λs=>
ai (!h) λr=>
ai (s&&r) λq=>
bif q then (
(iL m.1 p k j i (g++([f.1]:List aE)) n d l).bind λa=>
(bV 3 [125] m.1 a.1 k j i (g++([f.1]:List aE)) a.2.1 a.2.2.1 a.2.2.2).bind λo=>
b (a.1,a.2.1,a.2.2.1,a.2.2.2,o)) else (
(bO [125] m.1 p k j i (g++([f.1]:List aE)) n d l).bind λc=>
e (c.1,k,j,i,(g++([f.1]:List aE)),n,c.2.1,c.2.2))
def kO(i:xo)(d:bq)(e:Q5)(a:Q39->Option JD)(n:Bool)(l:Int)(h:bq)(g:Q4)(f:Q1)(k:Int)(j:Int):Option JD:=
bif n then (
(gU false i.1 l h g f d e k j).bind λb=>
aN (aH (List.length d+List.length ([b.1]:List aE)) 16)<|
(bO [123] i.1 b.2.1 h g f (d++([b.1]:List aE)) e b.2.2.1 b.2.2.2).bind λc=>
(bV 3 [125] i.1 c.1 h g f (d++([b.1]:List aE)) e c.2.1 c.2.2).bind λm=>
aj (iw i d a h g f b) an (c.1,e,c.2.1,c.2.2,m)) else (
a (l,h,g,f,d,e,k,j))
def kI(e:xo)(j:bq)(i:Q4)(h:Q1)(g:bq)(f:Q5)(d:Q39->Option JD)(o:Bool)(n:Bool)(m:Int)(l:Int)(k:Int):Option JD:=
ai (λ(a:Int×bq×Q4×Q1×Int×Int)=>kO e g f d n a.1 a.2.1 a.2.2.1 a.2.2.2.1 a.2.2.2.2.1 a.2.2.2.2.2) λc=>
bif o then (
(ij e.1 k j i h g f m l).bind λb=>
c (b.1,b.2.1,b.2.2.1,b.2.2.2.1,b.2.2.2.2.1,b.2.2.2.2.2)) else (
c (k,j,i,h,m,l))
def kK(h:xo)(e:Int)(m:bq)(l:Q4)(k:Q1)(j:bq)(i:Q5)(b:Q39->Option JD)(g:Bool)(f:Bool)(d:Int)(n:Int):Option JD:=
ai (λ(c:Int)=>kI h m l k j i b g f d n c) λa=>
bif d==0 then a (i64.wrap (e+1)) else a e
def kJ(g:bq)(f:Q4)(e:Q1)(d:bq)(c:Q5)(a:Int)(b:Int):Option JD:=
bif a != 0 then some (([],[],[],[],[]),a,b) else some ((g,f,e,d,c),0,0)
def fC(c:xo)(l:Q39->Option JD):Int×bq×Q4×Q1×bq×Q5×Int×Int->Option JD:=λ⟨i,a,g,f,e,d,b,h⟩=>
ai (b==0) λu=>
bp u (0,[],0,0) (idx c.1 i) λy=>
ai (y.1 != 4) λA=>
ai (u&&A) λz=>
bif z then (
(bV 1 [118,97,114] c.1 i a g f e d b h).bind λr=>
(bV 1 [112,114,111,99] c.1 i a g f e d b h).bind λq=>
ai (λ(n:Int×Int)=>kK c i a g f e d l r q n.1 n.2) λk=>
ai (!r) λx=>
ai (!q) λw=>
ai (x&&w) λv=>
bif v then (
(bu c.1 i a g f e d b h).bind λt=>
(aJ 2 t c.1 i a g f e d b h).bind λp=>
k (p.1,p.2)) else (
k (b,h))) else (
ai (λ(m:Int×Int)=>kJ a g f e d m.1 m.2) λj=>
bif (a.length:Int)==0 then (bu c.1 i a g f e d b h).bind λs=>
(aJ 2 s c.1 i a g f e d b h).bind λo=>
j (o.1,o.2) else j (b,h))
def fM(text:aE):Option JD:=
(gI text).bind λa=>
bif a.2.1 != 0 then some (([],[],[],[],[]),a.2.1,a.2.2) else aj (fC a) an (0,[],[],[],[],[],0,0)
def nb(text:aE):Option (il×Bool):=
bif decide (600<(text.length:Int)) then some (([],[],[],[],[]),false) else (fM text).bind λa=>
some (a.1,(a.2.1==0))
def tH(f:jq):za:=
ai (decide (f.1<(-1073741824))) λi=>
ai (decide (1073741824<f.2)) λh=>
ai (i||h) λg=>
ai (!g) λe=>
ai (decide (f.1<=f.2)) λd=>
ai (e&&d) λc=>
ai (decide ((i64.wrap (f.2-f.1))<65536)) λb=>
ai (c&&b) λa=>
some a
def s9(s:Q4)(b:(eK×Int)->Option eK):eK×Int->Option eK:=λ⟨c,a⟩=>
bif decide (a<(s.length:Int)) then (idx s a).bind λe=>
(tH e).bind λd=>
(idx c a).bind λf=>
b ((List.set c (Int.toNat a) d),(i64.wrap (a+1))) else some c
def sb(s:Q4):Option eK:=
aN (decide (0<=(s.length:Int)))<|
aN (aH (Int.toNat (s.length:Int)) 1)<|
aj (s9 s) an ((List.replicate (Int.toNat (s.length:Int)) false),0)
def fU(s:eK)(c:Bool)(a:Int->zd)(b:Int):zd:=
bif decide (b<(s.length:Int)) then (idx s b).bind λd=>
bif c==d then some b else a (i64.wrap (b+1)) else some (-1)
def ph(s:eK)(a:Bool):zd:=
aj (fU s a) an 0
def jg(s:eK)(a:Bool):za:=
(ph s a).bind λb=>
some (decide (0<=b))
def tY(s:Q4):za:=
ai (decide (1<=(s.length:Int))) λg=>
ai (decide ((s.length:Int)<=17)) λf=>
ai (g&&f) λb=>
bp b default (sb s) λe=>
bp b default (jg e false) λa=>
ai (!a) λd=>
ai (b&&d) λc=>
some c
def cQ(s:Q4):Option Q4:=
aN (aH (List.length s) 16)<|
some s
def vZ(m:il)(a:Q9):Option (Q4×Int):=
(tY ([(0,(max 0 (i64.wrap ((a.1.length:Int)-1))))]:List jq)).bind λc=>
bif !c then some ([],9) else (cQ m.2.1).bind λb=>
aN (aH (List.length b+List.length ([(0,(max 0 (i64.wrap ((a.1.length:Int)-1))))]:List jq)) 16)<|
some ((b++([(0,(max 0 (i64.wrap ((a.1.length:Int)-1))))]:List jq)),0)
def ck:Option zm:=
some ([154,155,156,157,158]:zm)
def o7(most:Int):Option (Q6×Int):=
ai (decide (most<0)) λc=>
ai (decide (1048576<most)) λb=>
ai (c||b) λa=>
bif a then (
some ((0,[],[]),1)) else (
aN (decide (0<=8))<|
aN (aH (Int.toNat 8) 8)<|
some ((most,[],(List.replicate (Int.toNat 8) 0)),0))
def Kd(most:Int):Option ((Q6×Q1)×Int):=
(o7 most).bind λa=>
some ((a.1,[]),a.2)
def jP(b:Unit)(t:Q3)(o:Vn):Option GB:=
(Kd o.2.1).bind λa=>
some ((t.1,t.2.1,t.2.2.1,a.1,t.2.2.2.2.1,t.2.2.2.2.2.1,t.2.2.2.2.2.2.1,t.2.2.2.2.2.2.2),a.2)
def HR(s:Q4)(most:Int)(e:(Q6×Int))(a:((List Q6)×Int)->Option (Ao×Int)):(List Q6)×Int->Option (Ao×Int):=λ⟨b,c⟩=>
bif decide (c<(i64.wrap (Int.tdiv (i64.wrap ((i64.wrap ((s.length:Int)+2))-1)) 2))) then (o7 most).bind λd=>
aN (aH (List.length b+List.length ([d.1]:List Q6)) 56)<|
a ((b++([d.1]:List Q6)),(i64.wrap (c+1))) else some ((b,e.1,[]),0)
def Lz(s:Q4)(most:Int):Option (Ao×Int):=
(o7 most).bind λa=>
bif a.2 != 0 then some (([],(0,[],[]),[]),a.2) else aj (HR s most a) an ([],0)
def jb(b:Unit)(t:Q3)(o:Vn):Option GB:=
(Lz t.2.1 o.2.1).bind λa=>
some ((t.1,t.2.1,t.2.2.1,t.2.2.2.1,a.1,t.2.2.2.2.2.1,t.2.2.2.2.2.2.1,t.2.2.2.2.2.2.2),a.2)
def Oe(most:Int):Option (Q6×Int):=
(o7 most).bind λa=>
some (a.1,a.2)
def sT(a:Int->zd)(n:Int):zd:=
bif decide (n<2) then some 0 else (a (i64.wrap (Int.tdiv (i64.wrap (n+1)) 2))).bind λc=>
(a (i64.wrap (n-(i64.wrap (Int.tdiv (i64.wrap (n+1)) 2))))).bind λb=>
some (i64.wrap ((i64.wrap (1+c))+b))
def xP(n:Int):zd:=
 aj (λk (s:Int)=>sT k s) an n
def HV(f:Q4)(d:(Q6×Int))(e:Int)(a:((List Q6)×Int)->Option (Oq×Int)):(List Q6)×Int->Option (Oq×Int):=λ⟨b,c⟩=>
bif decide (c<(max 1 e)) then aN (aH (List.length b+List.length ([d.1]:List Q6)) 56)<|
a ((b++([d.1]:List Q6)),(i64.wrap (c+1))) else some ((b,[]),0)
def JU(s:Q4)(most:Int):Option (Oq×Int):=
(Oe most).bind λa=>
bif a.2 != 0 then some (([],[]),a.2) else (xP (s.length:Int)).bind λb=>
aj (HV s a b) an ([],0)
def iV(b:Unit)(t:Q3)(o:Vn):Option GB:=
(JU t.2.1 o.2.1).bind λa=>
some ((t.1,t.2.1,t.2.2.1,t.2.2.2.1,t.2.2.2.2.1,a.1,t.2.2.2.2.2.2.1,t.2.2.2.2.2.2.2),a.2)
def Eu(a:jq->zd):Int×Int->zd:=λ⟨b,c⟩=>
bif decide (0<b) then a ((iP .u64 b 1),(i64.wrap (c+1))) else some c
def BV(n:Int):zd:=
aj Eu an (n,0)
def kx(f:jq):zd:=
(BV (u64.wrap (i64.wrap (f.2-f.1)))).bind λa=>
some a
def uL(s:Q4)(b:fL->Option Q1):Q1×Int->Option Q1:=λ⟨c,a⟩=>
bif decide (a<(s.length:Int)) then (idx s a).bind λe=>
(kx e).bind λd=>
(idx c a).bind λf=>
b ((List.set c (Int.toNat a) d),(i64.wrap (a+1))) else some c
def oO(s:Q4):Option Q1:=
aN (decide (0<=(s.length:Int)))<|
aN (aH (Int.toNat (s.length:Int)) 8)<|
aj (uL s) an ((List.replicate (Int.toNat (s.length:Int)) 0),0)
def AX(f:Q4)(d:Q1)(a:jq->zd):Int×Int->zd:=λ⟨e,b⟩=>
bif decide (b<(d.length:Int)) then (idx d b).bind λc=>
a ((i64.wrap (e+c)),(i64.wrap (b+1))) else some e
def BA(s:Q4):zd:=
(oO s).bind λa=>
aj (AX s a) an (0,0)
def rC(s:Q4):zd:=
(BA s).bind λa=>
some (max 1 (i64.wrap (Int.tdiv (i64.wrap (a+7)) 8)))
def OM(wide:Int):Option (Qn×Int):=
ai (decide (wide<1)) λc=>
ai (decide (64<wide)) λb=>
ai (c||b) λa=>
bif a then (
some ((0,[],0,0,[]),1)) else (
some ((wide,[],(-1),0,[]),0))
def jG(u:Unit)(t:Q3)(b:(Int×cF×Int×Int×Q1×Int×cF×Int×Int×Q1×Int×cF×Int×Int×Q1×Int)->Option GB):Int×cF×Int×Int×Q1×Int×cF×Int×Int×Q1×Int×cF×Int×Int×Q1×Int->Option GB:=λ⟨r,q,p,o,n,m,l,k,j,i,h,g,f,e,d,c⟩=>
bif decide (c<3) then (rC t.2.1).bind λs=>
(OM s).bind λa=>
bif c==0 then b (a.1.1,a.1.2.1,a.1.2.2.1,a.1.2.2.2.1,a.1.2.2.2.2,m,l,k,j,i,h,g,f,e,d,(i64.wrap (c+1))) else bif c==1 then b (r,q,p,o,n,a.1.1,a.1.2.1,a.1.2.2.1,a.1.2.2.2.1,a.1.2.2.2.2,h,g,f,e,d,(i64.wrap (c+1))) else bif c==2 then b (r,q,p,o,n,m,l,k,j,i,a.1.1,a.1.2.1,a.1.2.2.1,a.1.2.2.2.1,a.1.2.2.2.2,(i64.wrap (c+1))) else none else some ((t.1,t.2.1,t.2.2.1,t.2.2.2.1,t.2.2.2.2.1,t.2.2.2.2.2.1,((r,q,p,o,n),(m,l,k,j,i),(h,g,f,e,d)),t.2.2.2.2.2.2.2),0)
def ic(x:Unit)(t:Q3)(o:Vn):Option GB:=
ai (decide (o.2.1<0)) λc=>
ai (decide (1048576<o.2.1)) λb=>
ai (c||b) λa=>
bif a then (
some (t,1)) else (
aj (jG x t) an (t.2.2.2.2.2.2.1.1.1,t.2.2.2.2.2.2.1.1.2.1,t.2.2.2.2.2.2.1.1.2.2.1,t.2.2.2.2.2.2.1.1.2.2.2.1,t.2.2.2.2.2.2.1.1.2.2.2.2,t.2.2.2.2.2.2.1.2.1.1,t.2.2.2.2.2.2.1.2.1.2.1,t.2.2.2.2.2.2.1.2.1.2.2.1,t.2.2.2.2.2.2.1.2.1.2.2.2.1,t.2.2.2.2.2.2.1.2.1.2.2.2.2,t.2.2.2.2.2.2.1.2.2.1,t.2.2.2.2.2.2.1.2.2.2.1,t.2.2.2.2.2.2.1.2.2.2.2.1,t.2.2.2.2.2.2.1.2.2.2.2.2.1,t.2.2.2.2.2.2.1.2.2.2.2.2.2,0))
def wo(m:Int)(k:Int)(seed:Int)(a:(Q1×Q1×Q1×Int)->Option (tU×Int)):Q1×Q1×Q1×Int->Option (tU×Int):=λ⟨e,d,c,b⟩=>
bif decide (b<3) then aN (decide (0<=(i64.wrap (Int.tdiv (i64.wrap (m+7)) 8))))<|
aN (aH (Int.toNat (i64.wrap (Int.tdiv (i64.wrap (m+7)) 8))) 1)<|
bif b==0 then a ((List.replicate (Int.toNat (i64.wrap (Int.tdiv (i64.wrap (m+7)) 8))) 0),d,c,(i64.wrap (b+1))) else bif b==1 then a (e,(List.replicate (Int.toNat (i64.wrap (Int.tdiv (i64.wrap (m+7)) 8))) 0),c,(i64.wrap (b+1))) else bif b==2 then a (e,d,(List.replicate (Int.toNat (i64.wrap (Int.tdiv (i64.wrap (m+7)) 8))) 0),(i64.wrap (b+1))) else none else some ((m,k,seed,(e,d,c)),0)
def Fv(m:Int)(k:Int)(seed:Int):Option (tU×Int):=
ai (decide (m<1)) λg=>
ai (decide (4194304<m)) λf=>
ai (g||f) λe=>
ai (decide (k<1)) λd=>
ai (e||d) λc=>
ai (decide (16<k)) λb=>
ai (c||b) λa=>
bif a then (
some ((0,0,0,([],[],[])),1)) else (
aj (wo m k seed) an ([],[],[],0))
def jR(e:Unit)(t:Q3)(o:Vn):Option GB:=
ai (decide (o.2.1<0)) λd=>
ai (decide (1048576<o.2.1)) λc=>
ai (d||c) λb=>
bif b then (
some (t,1)) else (
(Fv o.2.2.2.2.1 o.2.2.2.2.2 o.2.2.2.1).bind λa=>
some ((t.1,t.2.1,t.2.2.1,t.2.2.2.1,t.2.2.2.2.1,t.2.2.2.2.2.1,t.2.2.2.2.2.2.1,a.1),a.2))
def dw(s:Q4)(o:Vn):Option GB:=
(tY s).bind λk=>
ai (!k) λp=>
ai (decide (o.1<0)) λn=>
ai (p||n) λh=>
bp (!h) default (ck) λj=>
ai (decide ((j.length:Int)<=o.1)) λm=>
ai (h||m) λl=>
bif l then (
some ((0,[],0,((0,[],[]),[]),([],(0,[],[]),[]),([],[]),((0,[],0,0,[]),(0,[],0,0,[]),(0,[],0,0,[])),(0,0,0,([],[],[]))),1)) else (
(ck).bind λi=>
(idx i o.1).bind λe=>
(cQ s).bind λa=>
bif Nat.beq e 154 then (jP () (o.1,a,o.2.1,((0,[],[]),[]),([],(0,[],[]),[]),([],[]),((0,[],0,0,[]),(0,[],0,0,[]),(0,[],0,0,[])),(0,0,0,([],[],[]))) o).bind λg=>
bif g.2 != 0 then some ((0,[],0,((0,[],[]),[]),([],(0,[],[]),[]),([],[]),((0,[],0,0,[]),(0,[],0,0,[]),(0,[],0,0,[])),(0,0,0,([],[],[]))),g.2) else some (g.1,0) else bif Nat.beq e 155 then (jb () (o.1,a,o.2.1,((0,[],[]),[]),([],(0,[],[]),[]),([],[]),((0,[],0,0,[]),(0,[],0,0,[]),(0,[],0,0,[])),(0,0,0,([],[],[]))) o).bind λf=>
bif f.2 != 0 then some ((0,[],0,((0,[],[]),[]),([],(0,[],[]),[]),([],[]),((0,[],0,0,[]),(0,[],0,0,[]),(0,[],0,0,[])),(0,0,0,([],[],[]))),f.2) else some (f.1,0) else bif Nat.beq e 156 then (iV () (o.1,a,o.2.1,((0,[],[]),[]),([],(0,[],[]),[]),([],[]),((0,[],0,0,[]),(0,[],0,0,[]),(0,[],0,0,[])),(0,0,0,([],[],[]))) o).bind λd=>
bif d.2 != 0 then some ((0,[],0,((0,[],[]),[]),([],(0,[],[]),[]),([],[]),((0,[],0,0,[]),(0,[],0,0,[]),(0,[],0,0,[])),(0,0,0,([],[],[]))),d.2) else some (d.1,0) else bif Nat.beq e 157 then (ic () (o.1,a,o.2.1,((0,[],[]),[]),([],(0,[],[]),[]),([],[]),((0,[],0,0,[]),(0,[],0,0,[]),(0,[],0,0,[])),(0,0,0,([],[],[]))) o).bind λc=>
bif c.2 != 0 then some ((0,[],0,((0,[],[]),[]),([],(0,[],[]),[]),([],[]),((0,[],0,0,[]),(0,[],0,0,[]),(0,[],0,0,[])),(0,0,0,([],[],[]))),c.2) else some (c.1,0) else bif Nat.beq e 158 then (jR () (o.1,a,o.2.1,((0,[],[]),[]),([],(0,[],[]),[]),([],[]),((0,[],0,0,[]),(0,[],0,0,[]),(0,[],0,0,[])),(0,0,0,([],[],[]))) o).bind λb=>
bif b.2 != 0 then some ((0,[],0,((0,[],[]),[]),([],(0,[],[]),[]),([],[]),((0,[],0,0,[]),(0,[],0,0,[]),(0,[],0,0,[])),(0,0,0,([],[],[]))),b.2) else some (b.1,0) else none)
def Ce(a:Q9)(b:Q1)(some_:Q1):Option Q53:=
some (some_,a.1,a.2.1,a.2.2.1,a.2.2.2,b)
def Aj(a:Bool):zd:=
bif a then (
some 1) else (
some 0)
def EC(d:Int)(c:Int)(a:Bool):zd:=
(Aj ((decide (d<=c)) != a)).bind λb=>
some b
def FF(d:Int)(c:Int)(a:Bool):zd:=
(Aj ((decide (d<c)) != a)).bind λb=>
some b
def E6(d:Int)(c:Int)(a:Bool):zd:=
(Aj ((d==c) != a)).bind λb=>
some b
def FD(e:Ex)(a:Int)(b:Int)(d:(Int×Int×Bool)->zd)(c:(Int×Int×Bool)->zd):zd:=
bif e.op==12 then c (a,b,true) else bif e.op==9 then c (a,b,false) else bif e.op==11 then d (a,b,true) else bif e.op==10 then d (a,b,false) else bif e.op==13 then some 1 else bif e.op==15 then some (i64.wrap (1-a)) else bif e.op==16 then some (i64.wrap (a*b)) else bif e.op==17 then some (max a b) else bif e.op==18 then some (max (i64.wrap (1-a)) b) else some 0
def FL(e:Int)(d:Int)(b:(Int×Int×Bool)->zd)(a:Unit->zd)(c:Bool):zd:=
bif c then (
b (e,d,false)) else (
a ())
def eD(x:(Ex×Q1)->zd)(e:Ex)(q:Q1)(b:lL->zd):Int×Int×Int->zd:=λ⟨a,c,d⟩=>
bif decide (d<(List.length (aV e.l 0 (min (List.length e.l:Int) 2)):Int)) then (idx (aV e.l 0 (min (List.length e.l:Int) 2)) d).bind λt=>
(x (t,q)).bind λk=>
bif d==0 then b (k,c,(i64.wrap (d+1))) else bif d==1 then b (a,k,(i64.wrap (d+1))) else none else ai (λ(j:Int×Int×Bool)=>EC j.1 j.2.1 j.2.2) λp=>
ai (λ(i:Int×Int×Bool)=>FF i.1 i.2.1 i.2.2) λo=>
ai (λ(h:Int×Int×Bool)=>E6 h.1 h.2.1 h.2.2) λg=>
bif e.op==1 then some e.n else bif e.op==2 then ai (decide (e.n<0)) λAr=>
ai (decide ((q.length:Int)<=e.n)) λv=>
ai (Ar||v) λu=>
bif u then (
some 0) else (
(idx q e.n).bind λs=>
some s) else bif e.op==3 then some (i64.wrap (a+c)) else bif e.op==5 then some (i64.wrap (a*c)) else bif e.op==6 then some (i64.wrap (0-a)) else bif e.op==4 then some (i64.wrap (a-c)) else bif e.op==8 then g (a,c,true) else ai (λ(w:Unit)=>FD e a c p o) λm=>
ai (λ(r:Bool)=>FL a c g m r) λf=>
bif e.op==7 then f (e.op==7) else f (e.op==19)
def wj(b:(Ex×Q1)->zd)(e:Ex)(a:Q1):zd:=
aN (df 0 (min (List.length e.l:Int) 2) (List.length e.l))<|
aj (eD b e a) an (0,0,0)
def rS(e:Ex)(a:Q1):zd:=
 aj (λk (s:(Ex×Q1))=>wj k s.1 s.2) an (e,a)
def Bu(e:Ex)(x:Q1):za:=
(rS e x).bind λa=>
some (a != 1)
def dK(s:(List Ex))(c:Q1)(a:Int->zd)(b:Int):zd:=
bif decide (b<(s.length:Int)) then (idx s b).bind λe=>
(Bu e c).bind λd=>
bif d then (
some b) else (
a (i64.wrap (b+1))) else some (-1)
def gZ(s:(List Ex))(c:Q1):zd:=
aj (dK s c) an 0
def gb(s:(List Ex))(c:Q1):za:=
(gZ s c).bind λa=>
some (decide (0<=a))
def Ei(a:Q9)(q:Int)(c:Q1):za:=
(idx a.1 q).bind λd=>
(gb d c).bind λb=>
some (!b)
def bz(s:Q1):Option Q1:=
aN (aH (List.length s) 8)<|
some s
def iR(b:Int)(a:Q1)(d:Int):Option Q1:=
(UT a d b).bind λc=>
some c
def j4(dst:Q1)(i:Int)(c:Int):Option Q1:=
ai (λ(b:Q1×Int)=>iR c b.1 b.2) λa=>
bif decide (i<0) then aN (aH (List.length dst+List.length ([45]:zl)) 1)<|
a ((dst++([45]:zl)),(u64.wrap (0-(u64.wrap i)))) else a (dst,(u64.wrap i))
def mD(dst:Q1)(i:Int)(a:Int):Option Q1:=
(j4 dst i a).bind λb=>
some b
def tC(x:Q1)(l:(List Q1))(g:Ad)(a:fL->Option Q57):Q1×Int->Option Q57:=λ⟨b,c⟩=>
bif decide (c<(x.length:Int)) then (idx x c).bind λf=>
aN (aH (List.length b+List.length ([32]:zl)) 1)<|
(mD (b++([32]:zl)) f 10).bind λd=>
a (d,(i64.wrap (c+1))) else bif !(eA g (strOf b) false) then (g).bind λe=>
aN (aH (List.length l+List.length ([x]:List Q1)) 24)<|
some ((l++([x]:List Q1)),(some (mn e (strOf b) true))) else some (l,g)
def SQ(x:Q1)(l:(List Q1))(a:Ad):Option Q57:=
aj (tC x l a) an ([],0)
def uw(x:Q1)(l:(List Q1))(at_:Ad):Option Q57:=
ai (λ(b:Ad)=>SQ x l b) λa=>
bif (Option.isNone at_) then a (some []:Ad) else a at_
def uD(a:Q53)(b:(Int×(List Q1)×Ad)->Option (List Q1)):Int×(List Q1)×Ad->Option (List Q1):=λ⟨c,e,h⟩=>
bif decide (c<(a.1.length:Int)) then (idx a.1 c).bind λf=>
(Ei (a.2.1,a.2.2.1,a.2.2.2.1,a.2.2.2.2.1) f a.2.2.2.2.2).bind λi=>
bif i then (
(bz a.2.2.2.2.2).bind λg=>
aN (aH (List.length g+List.length ([f]:zl)) 8)<|
(uw (g++([f]:zl)) e h).bind λd=>
ai (!true) λj=>
bif j then (
some d.1) else (
b ((i64.wrap (c+1)),d.1,d.2))) else (
b ((i64.wrap (c+1)),e,h)) else some e
def Cb(m:il)(a:Q9):Option (List Q1):=
(Ce a m.2.2.1 a.2.2.1).bind λb=>
aj (uD b) an (0,[],none)
def lu(f:jq)(n:Int):za:=
ai (decide (f.1<=n)) λc=>
ai (decide (n<=f.2)) λb=>
ai (c&&b) λa=>
some a
def ui(s:Q4)(e:Q1)(a:Int->zd)(b:Int):zd:=
bif decide (b<(e.length:Int)) then (idx e b).bind λf=>
(idx s b).bind λd=>
(lu d f).bind λc=>
bif !c then some 5 else a (i64.wrap (b+1)) else some 0
def fI(s:Q4)(a:Q1):zd:=
bif (a.length:Int) != (s.length:Int) then some 1 else aj (ui s a) an 0
def dN(t:Q3):ze:=
(ck).bind λb=>
(idx b t.1).bind λa=>
some a
def vX(b:Q1):Option Q1:=
aN (aH (List.length b) 1)<|
some b
def Wn(w1:fL):Option fL:=
(vX w1.1).bind λa=>
some (a,w1.2)
def GN(N:Int)(a:Q1):Option fL:=
some (a,(i64.wrap (N+1)))
def yL(one:Bool)(N:Int)(b:Q1):Option fL:=
ai (λ(c:Q1)=>GN N c) λa=>
bif one then (
(idx b (i64.wrap (Int.tdiv N 8))).bind λd=>
aN (decide (0<=(Int.tmod N 8)))<|
(idx b (i64.wrap (Int.tdiv N 8))).bind λe=>
a (List.set b (Int.toNat (i64.wrap (Int.tdiv N 8))) (vt .u8 d (iP .u8 128 (Int.tmod N 8))))) else (
a b)
def yA(one:Bool)(B:Q1)(N:Int):Option fL:=
ai (λ(b:Q1)=>yL one N b) λa=>
bif (Int.tmod N 8)==0 then aN (aH (List.length B+List.length ([0]:zl)) 1)<|
a (B++([0]:zl)) else a B
def Ig(n:Int)(a:(Q1×Int×Int)->Option (fL×Int)):Q1×Int×Int->Option (fL×Int):=λ⟨e,d,b⟩=>
bif decide (0<=b) then aN (decide (0<=b))<|
(yA ((rM .u64 (iP .u64 n b) 1)==1) e d).bind λc=>
a (c.1,c.2,(i64.wrap (b-1))) else some ((e,d),0)
def Ll(w1:fL)(n:Int)(wide:Int):Option (fL×Int):=
ai (decide (wide<0)) λe=>
ai (decide (64<wide)) λd=>
ai (e||d) λc=>
bif c then (
some (w1,1)) else (
(BV n).bind λb=>
bif decide (wide<b) then some (w1,5) else (Wn w1).bind λa=>
aj (Ig n) an (a.1,a.2,(i64.wrap (wide-1))))
def wO(s:Q4)(k:Q1)(e:Q1)(b:(Q1×Int×Int)->Option fL):Q1×Int×Int->Option fL:=λ⟨f,j,a⟩=>
bif decide (a<(e.length:Int)) then (idx e a).bind λi=>
(idx k a).bind λh=>
(idx s a).bind λg=>
(Ll (f,j) (u64.wrap (i64.wrap (h-g.1))) i).bind λd=>
b (d.1.1,d.1.2,(i64.wrap (a+1))) else (rC s).bind λc=>
aN (decide (0<=c))<|
aN (aH (Int.toNat c) 1)<|
some ((y5 (List.replicate (Int.toNat c) 0) f),0)
def lQ(s:Q4)(b:Q1):Option fL:=
(fI s b).bind λc=>
bif c != 0 then some ([],c) else (oO s).bind λa=>
aj (wO s b a) an ([],0,0)
def eV(t:Q3)(a:Q1):Option Q1:=
(lQ t.2.1 a).bind λb=>
some b.1
def Ql(x:Int):zd:=
some (Ek .u64 x (iP .u64 x 29))
def Qh(x:Int):zd:=
some (u64.wrap (x*13787848793156543929))
def PX(x:Int):zd:=
some (Ek .u64 x (iP .u64 x 32))
def H5(b:Q1)(a:jq->zd):Int×Int->zd:=λ⟨h,c⟩=>
bif decide (c<(b.length:Int)) then (idx b c).bind λg=>
a ((u64.wrap ((Ek .u64 h (u64.wrap g))*1099511628211)),(i64.wrap (c+1))) else (Ql h).bind λf=>
(Qh f).bind λe=>
(PX e).bind λd=>
some d
def Fh(b:Q1)(seed:Int):zd:=
aj (H5 b) an ((Ek .u64 seed 11400714819323198485),0)
def xm(h:Int)(n:Int):zd:=
bif decide (n<1) then some 0 else aN ((u64.wrap n) != 0)<|
some (i64.wrap (Int.tmod h (u64.wrap n)))
def we(a:Q1)(b:Q1):za:=
some ((strOf a)==(strOf b))
def gz(e:Q6)(key:Q1)(b:Int->zd)(a:Int):zd:=
(idx e.2.2 a).bind λd=>
ai (d==0) λc=>
bp (!c) [] (idx e.2.1 (i64.wrap (d-1))) λg=>
bp (!c) default (we g key) λf=>
ai (c||f) λh=>
bif h then (
some a) else (
aN ((e.2.2.length:Int) != 0)<|
b (Int.tmod (i64.wrap (a+1)) (e.2.2.length:Int)))
def fR(b:Q6)(key:Q1):zd:=
(Fh key 0).bind λc=>
(xm c (b.2.2.length:Int)).bind λa=>
aj (gz b key) an a
def yB(b:Q6)(key:Q1):Option Ee:=
bif (b.2.2.length:Int)==0 then some (0,false) else (fR b key).bind λc=>
(idx b.2.2 c).bind λa=>
some ((max (i64.wrap (a-1)) 0),(decide (0<a)))
def dT(t:Q6)(key:Q1):Option Ee:=
(yB t key).bind λa=>
some (a.1,a.2)
def xB(e:Q6)(key:Q1)(b:Int->zd)(a:Int):zd:=
(idx e.2.2 a).bind λd=>
ai (d==0) λc=>
bp (!c) [] (idx e.2.1 (i64.wrap (d-1))) λg=>
bp (!c) default (we g key) λf=>
ai (c||f) λh=>
bif h then (
some a) else (
aN ((e.2.2.length:Int) != 0)<|
b (Int.tmod (i64.wrap (a+1)) (e.2.2.length:Int)))
def oB(b:Q6)(key:Q1):zd:=
(Fh key 0).bind λc=>
(xm c (b.2.2.length:Int)).bind λa=>
aj (xB b key) an a
def nM(e:Int)(g:(List Q1))(c:((List Q1)×Q1×Int)->Option ((List Q1)×Q1)):(List Q1)×Q1×Int->Option ((List Q1)×Q1):=λ⟨a,b,d⟩=>
bif decide (d<(g.length:Int)) then (idx a d).bind λh=>
(oB (e,a,b) h).bind λf=>
(idx ((e,a,b).2.2) f).bind λi=>
c ((e,a,b).2.1,(List.set ((e,a,b).2.2) (Int.toNat f) (i64.wrap (d+1))),(i64.wrap (d+1))) else some (a,b)
def rY(n:Int)(c:Int)(a:(List Q1))(b:Q1):Option ((List Q1)×Q1):=
aN (decide (0<=n))<|
aN (aH (Int.toNat n) 8)<|
aj (nM c a) an (a,(List.replicate (Int.toNat n) 0),0)
def Vb(t:Q6)(a:(List Q1))(b:Q1):Option (Q6×Int×Bool×Int):=
some ((t.1,a,b),(t.2.1.length:Int),true,0)
def cm(t:Q6)(key:Q1):Option (Q6×Int×Bool×Int):=
(dT t key).bind λg=>
bif g.2 then (
some (t,g.1,false,0)) else (
bif decide (t.1<=(t.2.1.length:Int)) then some (t,0,false,7) else aN (kS 0 (t.2.1.length:Int) (t.2.1.length:Int) (List.length t.2.1)&&((t.2.1.length:Int)==(t.2.1.length:Int)))<|
(vX key).bind λb=>
aN (aH (List.length (aV t.2.1 0 (t.2.1.length:Int))+List.length ([b]:List Q1)) 24)<|
ai (λ(c:(List Q1)×Q1)=>Vb t c.1 c.2) λa=>
bif decide ((max (t.2.2.length:Int) 8)<(i64.wrap (2*(i64.wrap ((t.2.1.length:Int)+1))))) then (rY (i64.wrap (2*(max (t.2.2.length:Int) 8))) t.1 ((aV t.2.1 0 (t.2.1.length:Int))++([b]:List Q1)) t.2.2).bind λf=>
a (f.1,f.2) else (bz t.2.2).bind λe=>
(fR t key).bind λd=>
(idx e d).bind λh=>
a (((aV t.2.1 0 (t.2.1.length:Int))++([b]:List Q1)),(List.set e (Int.toNat d) (i64.wrap ((t.2.1.length:Int)+1)))))
def BG(s:(Q6×Q1))(key:Q1):Option ((Q6×Q1)×Bool×Int):=
(cm s.1 key).bind λa=>
bif !a.2.2.1 then some (s,false,a.2.2.2) else aN (kS 0 (s.2.length:Int) (s.2.length:Int) (List.length s.2)&&((s.2.length:Int)==(s.2.length:Int)))<|
aN (aH (List.length (aV s.2 0 (s.2.length:Int))+List.length ([0]:zl)) 1)<|
some ((a.1,((aV s.2 0 (s.2.length:Int))++([0]:zl))),true,0)
def lf(d:Unit)(t:Q3)(b:Q1):Option Q52:=
(eV t b).bind λc=>
(BG t.2.2.2.1 c).bind λa=>
some ((t.1,t.2.1,t.2.2.1,a.1,t.2.2.2.2.1,t.2.2.2.2.2.1,t.2.2.2.2.2.2.1,t.2.2.2.2.2.2.2),a.2.1,a.2.2)
def wy(s:Q4)(a:Q1):Option (Q4×Q1):=
some (s,a)
def AZ(f:Int)(d:fL->Option Q1)(e:Int)(c:fL->Option Q1):Q1×Int->Option Q1:=λ⟨a,b⟩=>
bif decide (b<4) then aN (decide (0<=(i64.wrap (8*b))))<|
aN (aH (List.length a+List.length ([(u8.wrap (iP .i64 e (i64.wrap (8*b))))]:zl)) 1)<|
c ((a++([(u8.wrap (iP .i64 e (i64.wrap (8*b))))]:zl)),(i64.wrap (b+1))) else d (a,(i64.wrap (f+1)))
def AU(a:Q1)(b:fL->Option Q1):Q1×Int->Option Q1:=λ⟨c,d⟩=>
bif decide (d<(a.length:Int)) then (idx a d).bind λe=>
aj (AZ d b e) an (c,0) else some c
def wz(row:Q1)(a:Q1):Option Q1:=
aj (AU a) an (row,0)
def rP(c:Ao)(m:Q4)(d:(Q4×Q1))(b:(Int×Int×Q1)->zd):Int×Int×Q1->zd:=λ⟨a,l,e⟩=>
bif decide ((i64.wrap (a*2))<(d.1.length:Int)) then aN (df (i64.wrap (a*2)) (min (d.1.length:Int) (i64.wrap ((i64.wrap (a+1))*2))) (List.length d.1))<|
aN (df (i64.wrap (a*2)) (min (d.1.length:Int) (i64.wrap ((i64.wrap (a+1))*2))) (List.length d.2))<|
(lQ (aV d.1 (i64.wrap (a*2)) (min (d.1.length:Int) (i64.wrap ((i64.wrap (a+1))*2)))) (aV d.2 (i64.wrap (a*2)) (min (d.1.length:Int) (i64.wrap ((i64.wrap (a+1))*2))))).bind λj=>
(idx c.1 a).bind λk=>
(dT k j.1).bind λi=>
bif !i.2 then bif !false then some (-1) else b ((i64.wrap (a+1)),(-1),e) else (wz e ([i.1]:zl)).bind λh=>
bif !true then (dT c.2.1 h).bind λg=>
bif !g.2 then some (-1) else some g.1 else b ((i64.wrap (a+1)),l,h) else (dT c.2.1 e).bind λf=>
bif !f.2 then some (-1) else some f.1
def uR(c:Ao)(s:Q4)(a:Q1):zd:=
(wy s a).bind λb=>
aj (rP c s b) an (0,0,[])
def yH(t:Q6):zd:=
some (t.2.1.length:Int)
def BS(c:Ao):zd:=
(yH c.2.1).bind λa=>
some a
def dC(s:(List Q6)):Option (List Q6):=
aN (aH (List.length s) 56)<|
some s
def mR(c:Ao)(n:Q4)(b:(Q4×Q1))(e:(Int×(List Q6)×Q1)->Option Q54):Int×(List Q6)×Q1->Option Q54:=λ⟨a,d,j⟩=>
bif decide ((i64.wrap (a*2))<(b.1.length:Int)) then aN (df (i64.wrap (a*2)) (min (b.1.length:Int) (i64.wrap ((i64.wrap (a+1))*2))) (List.length b.1))<|
aN (df (i64.wrap (a*2)) (min (b.1.length:Int) (i64.wrap ((i64.wrap (a+1))*2))) (List.length b.2))<|
(lQ (aV b.1 (i64.wrap (a*2)) (min (b.1.length:Int) (i64.wrap ((i64.wrap (a+1))*2)))) (aV b.2 (i64.wrap (a*2)) (min (b.1.length:Int) (i64.wrap ((i64.wrap (a+1))*2))))).bind λk=>
(idx d a).bind λl=>
(cm l k.1).bind λf=>
(wz j ([f.2.1]:zl)).bind λg=>
(idx d a).bind λm=>
bif !true then (cm c.2.1 g).bind λi=>
aN (kS 0 (c.2.2.length:Int) (c.2.2.length:Int) (List.length c.2.2)&&((c.2.2.length:Int)==(c.2.2.length:Int)))<|
aN (aH (List.length (aV c.2.2 0 (c.2.2.length:Int))+List.length ([0]:zl)) 1)<|
some (((List.set d (Int.toNat a) f.1),i.1,((aV c.2.2 0 (c.2.2.length:Int))++([0]:zl))),true,0) else e ((i64.wrap (a+1)),(List.set d (Int.toNat a) f.1),g) else (cm c.2.1 j).bind λh=>
aN (kS 0 (c.2.2.length:Int) (c.2.2.length:Int) (List.length c.2.2)&&((c.2.2.length:Int)==(c.2.2.length:Int)))<|
aN (aH (List.length (aV c.2.2 0 (c.2.2.length:Int))+List.length ([0]:zl)) 1)<|
some ((d,h.1,((aV c.2.2 0 (c.2.2.length:Int))++([0]:zl))),true,0)
def Bw(c:Ao)(s:Q4)(a:Q1):Option Q54:=
(fI s a).bind λb=>
bif b != 0 then some (c,false,b) else (uR c s a).bind λg=>
bif decide (0<=g) then some (c,false,0) else (BS c).bind λf=>
bif decide (c.2.1.1<=f) then some (c,false,7) else (dC c.1).bind λe=>
(wy s a).bind λd=>
aj (mR c s d) an (0,e,[])
def kj(c:Unit)(t:Q3)(b:Q1):Option Q52:=
(Bw t.2.2.2.2.1 t.2.1 b).bind λa=>
some ((t.1,t.2.1,t.2.2.1,t.2.2.2.1,a.1,t.2.2.2.2.2.1,t.2.2.2.2.2.2.1,t.2.2.2.2.2.2.2),a.2.1,a.2.2)
def yC(s:Q4)(f:Q1)(b:fL->Option Q1):Q1×Int->Option Q1:=λ⟨a,c⟩=>
bif decide (c<(f.length:Int)) then (idx f c).bind λe=>
(idx s c).bind λd=>
aN (aH (List.length a+List.length ([(u32.wrap (i64.wrap (e-d.1)))]:zl)) 4)<|
b ((a++([(u32.wrap (i64.wrap (e-d.1)))]:zl)),(i64.wrap (c+1))) else some a
def Aa(s:Q4)(a:Q1):Option Q1:=
aj (yC s a) an ([],0)
abbrev arI{r:Type}(i x c d e f g h l m:Int)(k:Int->Int->Int->Int->Int->Int->Int->Int->Option r):Option r:=bif i==0 then k x d e f g h l m else bif i==1 then k c x e f g h l m else bif i==2 then k c d x f g h l m else bif i==3 then k c d e x g h l m else bif i==4 then k c d e f x h l m else bif i==5 then k c d e f g x l m else bif i==6 then k c d e f g h x m else bif i==7 then k c d e f g h l x else none
def adz(a:Int)(b:Int)(j:(Int×Int×Int×Int×Int×Int×Int×Int×Int)->Option Q41):Int×Int×Int×Int×Int×Int×Int×Int×Int->Option Q41:=λ⟨t,s,r,q,p,o,n,k,i⟩=>
bif decide (i<4) then aN (decide (0<=(i64.wrap (8*i))))<|
aN (decide (0<=(i64.wrap (8*i))))<|
arI i (u8.wrap (iP .u32 a (i64.wrap (8*i)))) t s r q p o n k λc d e f g h l m=>
arI (i64.wrap (4+i)) (u8.wrap (iP .u32 b (i64.wrap (8*i)))) c d e f g h l m λc d e f g h l m=>
j (c,d,e,f,g,h,l,m,(i64.wrap (i+1))) else some (t,s,r,q,p,o,n,k)
def KX(a:Int)(b:Int):Option Q41:=
aj (adz a b) an (0,0,0,0,0,0,0,0,0)
def uW(p:Q41):Option Q1:=
some ([p.1,p.2.1,p.2.2.1,p.2.2.2.1,p.2.2.2.2.1,p.2.2.2.2.2.1,p.2.2.2.2.2.2.1,p.2.2.2.2.2.2.2]:zl)
def CZ(p:Q6)(a:Int)(b:Int):Option Ee:=
(KX a b).bind λd=>
(uW d).bind λr11=>
(dT p r11).bind λc=>
some (c.1,c.2)
def rD(row:Int)(a:Int)(c:Int)(b:(List Q6)):Option xc:=
(idx b row).bind λe3=>
(CZ e3 a c).bind λr11=>
bif !r11.2 then some (.error row) else some (.ok (u32.wrap r11.1))
def nB(f:Q49->Option xc)(row:Int)(l:Q1)(a:(List Q6)):Option xc:=
bif (l.length:Int)==1 then (idx l 0).bind λe4=>
some (.ok e4) else aN (df 0 (i64.wrap (Int.tdiv (i64.wrap ((l.length:Int)+1)) 2)) (List.length l))<|
C4 (f ((i64.wrap (row+1)),(aV l 0 (i64.wrap (Int.tdiv (i64.wrap ((l.length:Int)+1)) 2))),a)) λe=>
aN (df (i64.wrap (Int.tdiv (i64.wrap ((l.length:Int)+1)) 2)) ((List.length l):Int) (List.length l))<|
(xP (i64.wrap (Int.tdiv (i64.wrap ((l.length:Int)+1)) 2))).bind λd=>
C4 (f ((i64.wrap ((i64.wrap (row+1))+d)),(aV l (i64.wrap (Int.tdiv (i64.wrap ((l.length:Int)+1)) 2)) ((List.length l):Int)),a)) λc=>
C4 (rD row e c a) λb=>
some (.ok b)
def vh(row:Int)(l:Q1)(a:(List Q6)):Option xc:=
 aj (λk (s:Q49)=>nB k s.1 s.2.1 s.2.2) an (row,l,a)
def pa(l:Q1)(a:(List Q6)):Option xc:=
bif (l.length:Int)==1 then (idx l 0).bind λd=>
C4 (rD 0 d 0 a) λc=>
some (.ok c) else C4 (vh 0 l a) λb=>
some (.ok b)
def xN(t:Oq)(s:Q4)(d:Q1):Option Ee:=
(Aa s d).bind λb=>
gN (pa b t.1) (λc=>
some (0,false)) λa=>
some ((i64.wrap a),true)
def JZ(p:Q6):zd:=
(yH p).bind λa=>
some a
def GV(t:Oq):zd:=
bif (t.1.length:Int)==0 then some 0 else (idx t.1 0).bind λb=>
(JZ b).bind λa=>
some a
def fe(s:(List Q6)):Option (List Q6):=
aN (aH (List.length s) 56)<|
some s
def Af(p:Q6)(a:Int)(b:Int):Option (Q6×Int×Bool×Int):=
(KX a b).bind λe=>
(uW e).bind λd=>
(cm p d).bind λc=>
some (c.1,c.2.1,c.2.2.1,c.2.2.2)
def nu(row:Int)(a:Int)(e:Int)(b:(List Q6)):Option Q56:=
(idx b row).bind λe4=>
(Af e4 a e).bind λc=>
(idx b row).bind λd=>
some ((u32.wrap c.2.1),(List.set b (Int.toNat row) c.1))
def kg(e:Q49->Option Q56)(row:Int)(l:Q1)(a:(List Q6)):Option Q56:=
bif (l.length:Int)==1 then (idx l 0).bind λf=>
some (f,a) else aN (df 0 (i64.wrap (Int.tdiv (i64.wrap ((l.length:Int)+1)) 2)) (List.length l))<|
(e ((i64.wrap (row+1)),(aV l 0 (i64.wrap (Int.tdiv (i64.wrap ((l.length:Int)+1)) 2))),a)).bind λr11=>
aN (df (i64.wrap (Int.tdiv (i64.wrap ((l.length:Int)+1)) 2)) ((List.length l):Int) (List.length l))<|
(xP (i64.wrap (Int.tdiv (i64.wrap ((l.length:Int)+1)) 2))).bind λd=>
(e ((i64.wrap ((i64.wrap (row+1))+d)),(aV l (i64.wrap (Int.tdiv (i64.wrap ((l.length:Int)+1)) 2)) ((List.length l):Int)),r11.2)).bind λc=>
(nu row r11.1 c.1 c.2).bind λb=>
some (b.1,b.2)
def vL(row:Int)(l:Q1)(a:(List Q6)):Option Q56:=
 aj (λk (s:Q49)=>kg k s.1 s.2.1 s.2.2) an (row,l,a)
def o6(l:Q1)(a:(List Q6)):Option Q56:=
bif (l.length:Int)==1 then (idx l 0).bind λd=>
(nu 0 d 0 a).bind λc=>
some (c.1,c.2) else (vL 0 l a).bind λb=>
some (b.1,b.2)
def BH(t:Oq)(s:Q4)(b:Q1):Option (Oq×Bool×Int):=
(fI s b).bind λa=>
bif a != 0 then some (t,false,a) else (xN t s b).bind λg=>
bif g.2 then (
some (t,false,0)) else (
(idx t.1 0).bind λh=>
(GV t).bind λf=>
bif decide (h.1<=f) then some (t,false,7) else (fe t.1).bind λe=>
(Aa s b).bind λd=>
(o6 d e).bind λc=>
aN (kS 0 (t.2.length:Int) (t.2.length:Int) (List.length t.2)&&((t.2.length:Int)==(t.2.length:Int)))<|
aN (aH (List.length (aV t.2 0 (t.2.length:Int))+List.length ([0]:zl)) 1)<|
some ((c.2,((aV t.2 0 (t.2.length:Int))++([0]:zl))),true,0))
def kf(c:Unit)(t:Q3)(b:Q1):Option Q52:=
(BH t.2.2.2.2.2.1 t.2.1 b).bind λa=>
some ((t.1,t.2.1,t.2.2.1,t.2.2.2.1,t.2.2.2.2.1,a.1,t.2.2.2.2.2.2.1,t.2.2.2.2.2.2.2),a.2.1,a.2.2)
def u4(x:Int):za:=
some (x != x)
def nz(x:Int)(y:Int):zd:=
(u4 x).bind λb=>
(u4 y).bind λa=>
bif b then (
bif a then (
some 0) else (
some (-1))) else (
bif a then (
some 1) else (
bif decide (x<y) then some (-1) else bif decide (y<x) then some 1 else some 0))
def BM(e:jq)(by_:Int):zd:=
(nz e.1 by_).bind λa=>
some a
def ct(x:Q4)(target:Int)(a:jq->Option Ee):Int×Int->Option Ee:=λ⟨b,d⟩=>
bif decide (b<d) then (idx x (i64.wrap (iP .u64 (u64.wrap (i64.wrap (b+d))) 1))).bind λi=>
(BM i target).bind λr11=>
bif decide (r11<0) then a ((i64.wrap ((i64.wrap (iP .u64 (u64.wrap (i64.wrap (b+d))) 1))+1)),d) else a (b,(i64.wrap (iP .u64 (u64.wrap (i64.wrap (b+d))) 1))) else ai (decide (b<(x.length:Int))) λc=>
bp c (0,0) (idx x b) λf=>
bp c default (BM f target) λe=>
ai (e==0) λh=>
ai (c&&h) λg=>
some (b,g)
def bE(x:Q4)(target:Int):Option Ee:=
aj (ct x target) an (0,(x.length:Int))
def BZ(d:Qn)(at_:Int)(by_:Int):zd:=
bif at_==(-1) then some (-1) else (idx d.2.1 at_).bind λe=>
(bE e.1 by_).bind λa=>
bif !a.2 then some (-1) else (idx d.2.1 at_).bind λc=>
(idx c.1 a.1).bind λb=>
some b.2
def uZ(d:Qn)(c:Q1)(a:jq->za):Int×Int->za:=λ⟨b,e⟩=>
bif decide (e<(c.length:Int)) then (idx c e).bind λg=>
(BZ d b g).bind λf=>
a (f,(i64.wrap (e+1))) else ai ((c.length:Int)==d.1) λl=>
ai (decide (0<d.1)) λk=>
ai (l&&k) λj=>
ai (b != (-1)) λi=>
ai (j&&i) λh=>
some h
def rb(d:Qn)(a:Q1):za:=
aj (uZ d a) an (d.2.2.1,0)
def Lu(d:Qn):zd:=
some d.2.2.2.1
def dS(s:cF):Option cF:=
aN (aH (List.length s) 32)<|
some s
def iE(e:Q4)(f:Q4)(a:Int->za)(d:Int):za:=
bif decide (d<(e.length:Int)) then (idx e d).bind λc=>
(idx f d).bind λb=>
bif !(ai4 c.1 c.2 b.1 b.2) then some false else a (i64.wrap (d+1)) else some true
def ga(b:Q4)(a:Q4):za:=
bif (b.length:Int) != (a.length:Int) then some false else aj (iE b a) an 0
def iO(d:Q4)(b:cF)(c:GQ)(a:Int->Option Ee)(e:Int):Option Ee:=
bif decide (e<(b.length:Int)) then (idx b e).bind λk=>
ai (decide (0<k.2)) λj=>
ai (eA c e false) λi=>
ai (j||i) λf=>
bp f default (ga k.1 d) λg=>
ai (f&&g) λh=>
bif h then (
some (e,true)) else (
a (i64.wrap (e+1))) else some ((-1),false)
def Cv(b:Q4)(d:Int)(c:cF)(e:Int)(f:Int)(g:Q1)(a:GQ):Option Ee:=
aj (iO b c a) an 0
def la(h:Q1):zd:=
some (h.length:Int)
def iq(h:Q1)(i:Int)(j:Int):Option Q1:=
(idx h j).bind λa=>
(idx h i).bind λc=>
(idx h i).bind λd=>
(idx (List.set h (Int.toNat i) a) j).bind λb=>
some (List.set (List.set h (Int.toNat i) a) (Int.toNat j) c)
def ir(h:Q1)(i:Int)(j:Int):za:=
(idx h i).bind λb=>
(idx h j).bind λa=>
some (decide (b<a))
def pI(i0:Int)(e:Q1)(f:Int)(a:fL->Option (Bool×Q1))(b:Int):Option (Bool×Q1):=
(ir e b f).bind λd=>
bif !d then some ((decide (i0<f)),e) else (iq e f b).bind λc=>
a (c,b)
def ix(i0:Int)(n:Int)(b:fL->Option (Bool×Q1)):Q1×Int->Option (Bool×Q1):=λ⟨g,a⟩=>
ai (decide (n<=(i64.wrap ((i64.wrap (2*a))+1)))) λb8=>
ai (decide ((i64.wrap ((i64.wrap (2*a))+1))<0)) λj=>
ai (b8||j) λi=>
bif i then (
some ((decide (i0<a)),g)) else (
ai (λ(e:Int)=>pI i0 g a b e) λc=>
ai (decide ((i64.wrap ((i64.wrap ((i64.wrap (2*a))+1))+1))<n)) λd=>
bp d default (ir g (i64.wrap ((i64.wrap ((i64.wrap (2*a))+1))+1)) (i64.wrap ((i64.wrap (2*a))+1))) λf=>
ai (d&&f) λh=>
bif h then (
c (i64.wrap ((i64.wrap ((i64.wrap (2*a))+1))+1))) else (
c (i64.wrap ((i64.wrap (2*a))+1))))
def tf(i0:Int)(n:Int)(h:Q1):Option (Bool×Q1):=
aj (ix i0 n) an (h,i0)
def x9(h:Q1):Option Fw:=
(idx h (i64.wrap ((h.length:Int)-1))).bind λa=>
aN (df 0 (i64.wrap ((h.length:Int)-1)) (List.length h))<|
some (a,(aV h 0 (i64.wrap ((h.length:Int)-1))))
def oM(h:Q1):Option Fw:=
(la h).bind λr1=>
(iq h 0 (i64.wrap (r1-1))).bind λc=>
(tf 0 (i64.wrap (r1-1)) c).bind λb=>
(x9 b.2).bind λa=>
some (a.1,a.2)
def vf(e:Int)(a:cF)(f:Int)(g:Int)(b:Q1)(d:GQ):Option (Int×cF×Q1):=
bif (b.length:Int)==0 then aN (aH (List.length a+List.length ([([],0)]:List (Q4×Int))) 32)<|
some ((i64.wrap ((List.length (a++([([],0)]:List (Q4×Int))):Int)-1)),(a++([([],0)]:List (Q4×Int))),b) else (oM b).bind λc=>
some (c.1,a,c.2)
def mY(a:Q4)(e:(Int×cF×Q1))(g:(List Ee))(b:(cF×Int)->Option LN):cF×Int->Option LN:=λ⟨c,d⟩=>
bif decide (d<(a.length:Int)) then (idx a d).bind λf=>
(idx c f.2).bind λi=>
(idx c f.2).bind λh=>
b ((List.set c (Int.toNat f.2) (h.1,(i64.wrap (i.2+1)))),(i64.wrap (d+1))) else some (e.1,c,e.2.2,(some (mn g e.1 true)))
def sI(b:Q4)(f:Int)(d:cF)(g:Int)(h:Int)(e:Q1)(a:GQ):Option LN:=
(Cv b f d g h e a).bind λr11=>
bif r11.2 then (
some (r11.1,d,e,a)) else (
(vf f d g h e a).bind λc=>
(idx c.2.1 c.1).bind λj=>
(a).bind λi=>
aj (mY b c i) an ((List.set c.2.1 (Int.toNat c.1) (b,0)),0))
def ND(d:Qn)(at_:Int)(by_:Int):zd:=
bif at_==(-1) then some (-1) else (idx d.2.1 at_).bind λe=>
(bE e.1 by_).bind λa=>
bif !a.2 then some (-1) else (idx d.2.1 at_).bind λc=>
(idx c.1 a.1).bind λb=>
some b.2
def yP(e:jq)(by_:Int):zd:=
(nz e.1 by_).bind λa=>
some a
def lP(x:Q4)(target:Int)(a:jq->Option Ee):Int×Int->Option Ee:=λ⟨b,d⟩=>
bif decide (b<d) then (idx x (i64.wrap (iP .u64 (u64.wrap (i64.wrap (b+d))) 1))).bind λi=>
(yP i target).bind λr11=>
bif decide (r11<0) then a ((i64.wrap ((i64.wrap (iP .u64 (u64.wrap (i64.wrap (b+d))) 1))+1)),d) else a (b,(i64.wrap (iP .u64 (u64.wrap (i64.wrap (b+d))) 1))) else ai (decide (b<(x.length:Int))) λc=>
bp c (0,0) (idx x b) λf=>
bp c default (yP f target) λe=>
ai (e==0) λh=>
ai (c&&h) λg=>
some (b,g)
def cu(x:Q4)(target:Int):Option Ee:=
aj (lP x target) an (0,(x.length:Int))
def fV(s:Q4):Option Q4:=
aN (aH (List.length s) 16)<|
some s
def yX(d:Int)(e:Int)(f:Int)(c:LN)(b:Q4):Option LN:=
(sI b d c.2.1 e f c.2.2.1 c.2.2.2).bind λa=>
some (a.1,a.2.1,a.2.2.1,a.2.2.2)
def yS(r:Q43->Option LN)(at_:Int)(b:Q1)(c:Int)(f:cF)(d:Int)(e:Int)(g:Q1)(j:GQ)(a:Q4):Option LN:=
(idx b 0).bind λl=>
(idx b 0).bind λp=>
aN (df 1 ((List.length b):Int) (List.length b))<|
(ND (c,f,d,e,g) at_ p).bind λo=>
(r (o,(aV b 1 ((List.length b):Int)),c,(c,f,d,e,g).2.1,d,e,(c,f,d,e,g).2.2.2.2,j)).bind λk=>
(cu a l).bind λh=>
ai (λ(m:Q4)=>yX c d e k m) λi=>
bif h.2 then (
(idx a h.1).bind λq=>
i (List.set a (Int.toNat h.1) (l,k.1))) else (
(W6 16 a h.1 ([(l,k.1)]:List jq)).bind λn=>
i n)
def mU(m:Q43->Option LN)(at_:Int)(d:Q1)(f:Int)(b:cF)(g:Int)(h:Int)(i:Q1)(a:GQ):Option LN:=
bif (d.length:Int)==0 then (sI [] f b g h i a).bind λc=>
some (c.1,c.2.1,c.2.2.1,c.2.2.2) else ai (λ(j:Q4)=>yS m at_ d f b g h i a j) λe=>
bif at_ != (-1) then (idx b at_).bind λl=>
(fV l.1).bind λk=>
e k else e []
def ym(at_:Int)(b:Q1)(c:Int)(e:cF)(d:Int)(f:Int)(g:Q1)(a:GQ):Option LN:=
 aj (λk (s:Q43)=>mU k s.1 s.2.1 s.2.2.1 s.2.2.2.1 s.2.2.2.2.1 s.2.2.2.2.2.1 s.2.2.2.2.2.2.1 s.2.2.2.2.2.2.2) an (at_,b,c,e,d,f,g,a)
def wK(x:Int)(h:Q1):Option Q1:=
aN (aH (List.length h+List.length ([x]:zl)) 8)<|
some (h++([x]:zl))
def nV(a:fL->Option Q1):Q1×Int->Option Q1:=λ⟨d,b⟩=>
ai ((i64.wrap (Int.tdiv (i64.wrap (b-1)) 2))==b) λg=>
bp (!g) default (ir d b (i64.wrap (Int.tdiv (i64.wrap (b-1)) 2))) λh=>
ai (!h) λf=>
ai (g||f) λe=>
bif e then (
some d) else (
(iq d (i64.wrap (Int.tdiv (i64.wrap (b-1)) 2)) b).bind λc=>
a (c,(i64.wrap (Int.tdiv (i64.wrap (b-1)) 2))))
def rW(j:Int)(h:Q1):Option Q1:=
aj nV an (h,j)
def nK(x:Int)(h:Q1):Option Q1:=
(wK x h).bind λc=>
(la c).bind λb=>
(rW (i64.wrap (b-1)) c).bind λa=>
some a
def pR(o:Q47->Option (cF×Q1))(i:Int)(h:Int)(j:Int)(k:Int)(b:GQ)(f:(Q4×Int))(a:(cF×Q1×Int)->Option (cF×Q1)):cF×Q1×Int->Option (cF×Q1):=λ⟨d,g,c⟩=>
bif decide (c<(f.1.length:Int)) then (idx f.1 c).bind λm=>
(o (m.2,h,d,j,k,g,b)).bind λe=>
a (e.1,e.2,(i64.wrap (c+1))) else (idx d i).bind λn=>
(nK i g).bind λl=>
some ((List.set d (Int.toNat i) ([],0)),l)
def sd(l:Q47->Option (cF×Q1))(i:Int)(e:Int)(a:cF)(f:Int)(g:Int)(c:Q1)(d:GQ):Option (cF×Q1):=
(idx a i).bind λh=>
(idx a i).bind λb=>
(idx (List.set a (Int.toNat i) (b.1,(i64.wrap (h.2-1)))) i).bind λk=>
bif decide (0<k.2) then some ((List.set a (Int.toNat i) (b.1,(i64.wrap (h.2-1)))),c) else (idx (List.set a (Int.toNat i) (b.1,(i64.wrap (h.2-1)))) i).bind λj=>
aj (pR l i e f g d j) an ((List.set a (Int.toNat i) (b.1,(i64.wrap (h.2-1)))),c,0)
def vl(i:Int)(b:Int)(d:cF)(c:Int)(e:Int)(f:Q1)(a:GQ):Option (cF×Q1):=
 aj (λk (s:Q47)=>sd k s.1 s.2.1 s.2.2.1 s.2.2.2.1 s.2.2.2.2.1 s.2.2.2.2.2.1 s.2.2.2.2.2.2) an (i,b,d,c,e,f,a)
def Cr(d:Qn)(a:LN)(b:cF)(c:Q1):Option (Qn×Bool×Int):=
some ((d.1,b,a.1,(i64.wrap (d.2.2.2.1+1)),c),true,0)
def fZ(d:Qn)(b:Q1):Option (Qn×Bool×Int):=
ai ((b.length:Int) != d.1) λn=>
ai (d.1==0) λm=>
ai (n||m) λl=>
bif l then (
some (d,false,1)) else (
(rb d b).bind λk=>
bif k then (
some (d,false,0)) else (
(dS d.2.1).bind λj=>
(bz d.2.2.2.2).bind λi=>
(ym d.2.2.1 b d.1 j d.2.2.1 d.2.2.2.1 i (some []:GQ)).bind λa=>
(idx a.2.1 a.1).bind λh=>
(idx a.2.1 a.1).bind λg=>
ai (λ(e:cF×Q1)=>Cr d a e.1 e.2) λc=>
bif d.2.2.1 != (-1) then (vl d.2.2.1 d.1 (List.set a.2.1 (Int.toNat a.1) (g.1,(i64.wrap (h.2+1)))) a.1 d.2.2.2.1 a.2.2.1 a.2.2.2).bind λf=>
c (f.1,f.2) else c ((List.set a.2.1 (Int.toNat a.1) (g.1,(i64.wrap (h.2+1)))),a.2.2.1)))
def kU(f:Unit)(t:Q3)(b:Q1):Option Q52:=
(eV t b).bind λa=>
(rb t.2.2.2.2.2.2.1.1 a).bind λe=>
bif e then (
some (t,false,0)) else (
(Lu t.2.2.2.2.2.2.1.1).bind λd=>
bif decide (t.2.2.1<=d) then some (t,false,7) else (fZ t.2.2.2.2.2.2.1.1 a).bind λc=>
some ((t.1,t.2.1,t.2.2.1,t.2.2.2.1,t.2.2.2.2.1,t.2.2.2.2.2.1,(c.1,t.2.2.2.2.2.2.1.2.1,t.2.2.2.2.2.2.1.2.2),t.2.2.2.2.2.2.2),true,0))
def CF(b:Q1)(seed:Int)(k:Int)(n:Int)(c:fL->Option Q1):Q1×Int->Option Q1:=λ⟨a,e⟩=>
bif decide (e<(max k 0)) then (Fh b (u64.wrap (seed+(u64.wrap e)))).bind λf=>
(xm f n).bind λd=>
aN (aH (List.length a+List.length ([d]:zl)) 8)<|
c ((a++([d]:zl)),(i64.wrap (e+1))) else some a
def pd(b:Q1)(seed:Int)(k:Int)(n:Int):Option Q1:=
aj (CF b seed k n) an ([],0)
def EW(b:tU)(j:Bool)(i:Q1)(a:FM->za):Bool×Int->za:=λ⟨e,c⟩=>
bif decide (c<(i.length:Int)) then (idx i c).bind λd=>
(idx b.2.2.2.1 (i64.wrap (Int.tdiv d 8))).bind λf=>
aN (decide (0<=(Int.tmod d 8)))<|
ai ((rM .u8 f (lM .u8 1 (Int.tmod d 8))) != 0) λh=>
ai (e&&h) λg=>
a (g,(i64.wrap (c+1))) else some e
def MJ(b:tU)(key:Q1)(c:Bool):za:=
(pd key b.2.2.1 b.2.1 b.1).bind λa=>
aj (EW b c a) an (c,0)
def RQ(b:tU)(key:Q1):za:=
(MJ b key true).bind λa=>
some a
def wg(b:tU)(key:Q1):za:=
(RQ b key).bind λa=>
some a
def cz(s:Q1):Option Q1:=
aN (aH (List.length s) 1)<|
some s
def jE(f:Q1)(a:fL->Option Q1):Q1×Int->Option Q1:=λ⟨d,c⟩=>
bif decide (c<(f.length:Int)) then (idx f c).bind λb=>
(idx d (i64.wrap (Int.tdiv b 8))).bind λe=>
aN (decide (0<=(Int.tmod b 8)))<|
a ((List.set d (Int.toNat (i64.wrap (Int.tdiv b 8))) (vt .u8 e (lM .u8 1 (Int.tmod b 8)))),(i64.wrap (c+1))) else some d
def yl(b:tU)(key:Q1):Option Q1:=
(pd key b.2.2.1 b.2.1 b.1).bind λa=>
aj (jE a) an (b.2.2.2.1,0)
def Ss(b:tU)(key:Q1):Option tU:=
(cz b.2.2.2.1).bind λc=>
(yl (b.1,b.2.1,b.2.2.1,(c,b.2.2.2.2.1,b.2.2.2.2.2)) key).bind λa=>
some (b.1,b.2.1,b.2.2.1,(a,b.2.2.2.2.1,b.2.2.2.2.2))
def BE(b:tU)(key:Q1):Option (tU×Bool):=
(wg b key).bind λc=>
bif c then (
some (b,false)) else (
(Ss b key).bind λa=>
some (a,true))
def kW(d:Unit)(t:Q3)(b:Q1):Option Q52:=
(eV t b).bind λc=>
(BE t.2.2.2.2.2.2.2 c).bind λa=>
some ((t.1,t.2.1,t.2.2.1,t.2.2.2.1,t.2.2.2.2.1,t.2.2.2.2.2.1,t.2.2.2.2.2.2.1,a.1),a.2,0)
def dD(t:Q3)(a:Q1):Option Q52:=
(fI t.2.1 a).bind λh=>
bif h != 0 then some (t,false,h) else (dN t).bind λb=>
bif Nat.beq b 154 then (lf () t a).bind λg=>
some (g.1,g.2.1,g.2.2) else bif Nat.beq b 155 then (kj () t a).bind λf=>
some (f.1,f.2.1,f.2.2) else bif Nat.beq b 156 then (kf () t a).bind λe=>
some (e.1,e.2.1,e.2.2) else bif Nat.beq b 157 then (kU () t a).bind λd=>
some (d.1,d.2.1,d.2.2) else bif Nat.beq b 158 then (kW () t a).bind λc=>
some (c.1,c.2.1,c.2.2) else none
def J0(a:Q52):Option Q18:=
some (.ok (a.2.1,a.1.1,a.1.2.1,a.1.2.2.1,a.1.2.2.2.1.1.1,a.1.2.2.2.1.1.2.1,a.1.2.2.2.1.1.2.2,a.1.2.2.2.1.2,a.1.2.2.2.2.1.1,a.1.2.2.2.2.1.2.1.1,a.1.2.2.2.2.1.2.1.2.1,a.1.2.2.2.2.1.2.1.2.2,a.1.2.2.2.2.1.2.2,a.1.2.2.2.2.2.1.1,a.1.2.2.2.2.2.1.2,a.1.2.2.2.2.2.2.1.1.1,a.1.2.2.2.2.2.2.1.1.2.1,a.1.2.2.2.2.2.2.1.1.2.2.1,a.1.2.2.2.2.2.2.1.1.2.2.2.1,a.1.2.2.2.2.2.2.1.1.2.2.2.2,a.1.2.2.2.2.2.2.1.2.1.1,a.1.2.2.2.2.2.2.1.2.1.2.1,a.1.2.2.2.2.2.2.1.2.1.2.2.1,a.1.2.2.2.2.2.2.1.2.1.2.2.2.1,a.1.2.2.2.2.2.2.1.2.1.2.2.2.2,a.1.2.2.2.2.2.2.1.2.2.1,a.1.2.2.2.2.2.2.1.2.2.2.1,a.1.2.2.2.2.2.2.1.2.2.2.2.1,a.1.2.2.2.2.2.2.1.2.2.2.2.2.1,a.1.2.2.2.2.2.2.1.2.2.2.2.2.2,a.1.2.2.2.2.2.2.2.1,a.1.2.2.2.2.2.2.2.2.1,a.1.2.2.2.2.2.2.2.2.2.1,a.1.2.2.2.2.2.2.2.2.2.2.1,a.1.2.2.2.2.2.2.2.2.2.2.2.1,a.1.2.2.2.2.2.2.2.2.2.2.2.2))
def jO(x:Q1)(J:bq)(u:Q4)(P:Q1)(I:bq)(U:Q5)(O:L6)(N:(List Q1))(v:Q1)(V:(List Q1))(E:Int)(a:Q4)(Q:Int)(s:Int)(F:(List Q1))(y:Q1)(H:Q1)(Part:(List Q6))(r:Int)(k:(List Q1))(d:Q1)(o:Q1)(q:(List Q6))(n:Q1)(w:Int)(C:cF)(A:Int)(D:Int)(G:Q1)(c:Int)(h:cF)(f:Int)(j:Int)(m:Q1)(b:Int)(g:cF)(e:Int)(i:Int)(l:Q1)(M:Int)(K:Int)(z:Int)(B:Q1)(S:Q1)(R:Q1)(L:Int):Option Q18:=
(dD (E,a,Q,((s,F,y),H),(Part,(r,k,d),o),(q,n),((w,C,A,D,G),(c,h,f,j,m),(b,g,e,i,l)),(M,K,z,(B,S,R))) x).bind λp=>
ai (λ(T:Unit)=>J0 p) λt=>
bif p.2.2 != 0 then some (.error (p.2.2,[])) else t ()
def yz(x:Q1):Option fL:=
aN (kS 0 (i64.wrap ((x.length:Int)-1)) (i64.wrap ((x.length:Int)-1)) (List.length x)&&((i64.wrap ((x.length:Int)-1))==(i64.wrap ((x.length:Int)-1))))<|
(idx x (i64.wrap ((x.length:Int)-1))).bind λa=>
some ((aV x 0 (i64.wrap ((x.length:Int)-1))),a)
def Kg(m:il)(a:Q1):Option (bq×Q4×Q1×bq×Q5×Q1):=
some (m.1,m.2.1,m.2.2.1,m.2.2.2.1,m.2.2.2.2,a)
def tM(m:il)(d:Q1)(a:fL->Option Q1):Q1×Int->Option Q1:=λ⟨b,c⟩=>
bif decide (c<(m.2.2.2.2.length:Int)) then (idx m.2.2.2.2 c).bind λf=>
(rS f.2.1 d).bind λe=>
bif e==1 then aN (aH (List.length b+List.length ([c]:zl)) 8)<|
a ((b++([c]:zl)),(i64.wrap (c+1))) else a (b,(i64.wrap (c+1))) else some b
def ED(m:il)(a:Q1):Option Q1:=
aj (tM m a) an ([],0)
def tL(s:Q4)(e:Q1)(a:Int->zd)(b:Int):zd:=
bif decide (b<(e.length:Int)) then (idx e b).bind λf=>
(idx s b).bind λd=>
(lu d f).bind λc=>
bif !c then some 5 else a (i64.wrap (b+1)) else some 0
def uK(s:Q4)(a:Q1):zd:=
bif (a.length:Int) != (s.length:Int) then some 1 else aj (tL s a) an 0
def yp(m:il)(f:Q1)(e:Q55)(a:fL->Option fL):Q1×Int->Option fL:=λ⟨b,c⟩=>
bif decide (c<(e.2.2.length:Int)) then (idx e.2.2 c).bind λd=>
(rS d.2 f).bind λh=>
(idx b d.1).bind λi=>
a ((List.set b (Int.toNat d.1) h),(i64.wrap (c+1))) else (uK m.2.1 b).bind λg=>
bif g != 0 then some ([],6) else some (b,0)
def Hk(m:il)(a:Q1)(k:Int):Option fL:=
ai (decide (k<0)) λf=>
ai (decide ((m.2.2.2.2.length:Int)<=k)) λe=>
ai (f||e) λd=>
bif d then (
some ([],10)) else (
(bz a).bind λb=>
(idx m.2.2.2.2 k).bind λc=>
aj (yp m a c) an (b,0))
def ji(a:Bool)(b:Q1):za:=
bif !a then some true else bif !a then none else some a
def ig(s:aE)(b:Bool)(a:Q1):Option (Int×Bool×Q1):=
(ji b a).bind λr1=>
aN (aH (List.length a+List.length s) 1)<|
some ((s.length:Int),r1,(a++aQ s))
def jh(c:Int)(b:Bool)(a:Q1):Option (Bool×Q1):=
(ji b a).bind λr1=>
aN (aH (List.length a+List.length ([c]:zl)) 1)<|
some (r1,(a++([c]:zl)))
def kF(b:Bool)(a:Q1):Option aE:=
(idx a 0).bind λc=>
aN (decide ((0:Int)=0)&&decide ((a.length:Int)=(a.length:Int)))<|
some (strOf a)
def yb(h:Q1)(a:(Bool×Q1×Int)->Option aE):Bool×Q1×Int->Option aE:=λ⟨j,i,b⟩=>
bif decide (b<(h.length:Int)) then (idx h b).bind λg=>
(Zp g).bind λf=>
(ig f j i).bind λd=>
(jh 32 d.2.1 d.2.2).bind λc=>
a (c.1,c.2,(i64.wrap (b+1))) else (kF j i).bind λe=>
some e
def MH(a:Q1):Option aE:=
aj (yb a) an (false,[],0)
def w6(c:Q1)(l:(List Q1))(a:Ad):Option Q57:=
(MH c).bind λb=>
bif !(eA a b false) then (a).bind λd=>
aN (aH (List.length l+List.length ([c]:List Q1)) 24)<|
some ((l++([c]:List Q1)),(some (mn d b true))) else some (l,a)
def ov(c:Q1)(l:(List Q1))(at_:Ad):Option Q57:=
ai (λ(b:Ad)=>w6 c l b) λa=>
bif (Option.isNone at_) then a (some []:Ad) else a at_
def yc(h:Q1)(c:(bq×Q4×Q1×bq×Q5×Q1))(i:Q1)(a:(Int×Int×(List Q1)×Ad)->Option kl):Int×Int×(List Q1)×Ad->Option kl:=λ⟨e,o,d,g⟩=>
bif decide (e<(i.length:Int)) then (idx i e).bind λn=>
(Hk (c.1,c.2.1,c.2.2.1,c.2.2.2.1,c.2.2.2.2.1) c.2.2.2.2.2 n).bind λf=>
bif f.2 != 0 then bif !false then some ([],f.2) else a ((i64.wrap (e+1)),f.2,d,g) else (ov f.1 d g).bind λb=>
bif !true then bif (b.1.length:Int)==0 then (bz h).bind λm=>
(ov m b.1 b.2).bind λl=>
some (l.1,0) else some (b.1,0) else a ((i64.wrap (e+1)),o,b.1,b.2) else bif (d.length:Int)==0 then (bz h).bind λk=>
(ov k d g).bind λj=>
some (j.1,0) else some (d,0)
def GH(m:il)(b:Q1):Option kl:=
(Kg m b).bind λa=>
(ED (a.1,a.2.1,a.2.2.1,a.2.2.2.1,a.2.2.2.2.1) a.2.2.2.2.2).bind λc=>
aj (yc b a c) an (0,0,[],none)
def tX(i:Int)(c:((List Q1)×Ad×Int)->Option kl)(a:Q53)(b:(Int×(List Q1)×Ad)->Option kl):Int×(List Q1)×Ad->Option kl:=λ⟨e,h,g⟩=>
bif decide (e<(a.1.length:Int)) then (idx a.1 e).bind λf=>
(Ei (a.2.1,a.2.2.1,a.2.2.2.1,a.2.2.2.2.1) f a.2.2.2.2.2).bind λk=>
bif k then (
(bz a.2.2.2.2.2).bind λj=>
aN (aH (List.length j+List.length ([f]:zl)) 8)<|
(uw (j++([f]:zl)) h g).bind λd=>
ai (!true) λl=>
bif l then (
c (d.1,d.2,(i64.wrap (i+1)))) else (
b ((i64.wrap (e+1)),d.1,d.2))) else (
b ((i64.wrap (e+1)),h,g)) else c (h,g,(i64.wrap (i+1)))
def ur(a:Q9)(r11:fL)(d:kl)(b:((List Q1)×Ad×Int)->Option kl):(List Q1)×Ad×Int->Option kl:=λ⟨e,i,c⟩=>
bif decide (c<(d.1.length:Int)) then (idx d.1 c).bind λh=>
(idx a.2.1 r11.2).bind λg=>
(Ce a h g).bind λf=>
aj (tX c b f) an (0,e,i) else some (e,0)
def xF(m:il)(a:Q9)(x:Q1):Option kl:=
(yz x).bind λr11=>
(GH m r11.1).bind λb=>
bif b.2 != 0 then some ([],b.2) else aj (ur a r11 b) an ([],none,0)
def v8(stack:Ax)(x:Q1)(a:kl):Option (Except Fw Ax):=
aN (aH (List.length stack+List.length ([(x,a.1)]:List (Q1×(List Q1)))) 48)<|
some (.ok (stack++([(x,a.1)]:List (Q1×(List Q1)))))
def wv(stack:Ax)(x:Q1)(d:bq)(a:Q4)(h:Q1)(c:bq)(aT:Q5)(g:L6)(f:(List Q1))(b:Q1)(j:(List Q1)):Option (Except Fw Ax):=
(xF (d,a,h,c,aT) (g,f,b,j) x).bind λi=>
ai (λ(k:Unit)=>v8 stack x i) λe=>
bif i.2 != 0 then aN (kS 0 (i64.wrap ((x.length:Int)-1)) (i64.wrap ((x.length:Int)-1)) (List.length x)&&((i64.wrap ((x.length:Int)-1))==(i64.wrap ((x.length:Int)-1))))<|
some (.error (i.2,(aV x 0 (i64.wrap ((x.length:Int)-1))))) else e ()
def fO(stack:Ax)(x:Q1)(e:bq)(a:Q4)(w:Q1)(d:bq)(aT:Q5)(v:L6)(u:(List Q1))(b:Q1)(M:(List Q1))(I:Int)(c:Q4)(O:Int)(A:Int)(J:(List Q1))(C:Q1)(L:Q1)(F:(List Q6))(z:Int)(p:(List Q1))(i:Q1)(t:Q1)(y:(List Q6))(s:Q1)(B:Int)(G:cF)(E:Int)(H:Int)(K:Q1)(h:Int)(m:cF)(k:Int)(o:Int)(r:Q1)(g:Int)(l:cF)(j:Int)(n:Int)(q:Q1)(R:Int)(S:Int)(D:Int)(T:Q1)(Q:Q1)(P:Q1)(most:Int):Option (Except Fw Ax):=
ai (λ(N:Unit)=>wv stack x e a w d aT v u b M) λf=>
bif decide (most<=(stack.length:Int)) then some (.error (8,[])) else f ()
def gS(s:Q1)(c:Int)(a:Int->zd)(b:Int):zd:=
bif decide (b<(s.length:Int)) then (idx s b).bind λd=>
bif c==d then some b else a (i64.wrap (b+1)) else some (-1)
def sE(s:Q1)(a:Int):zd:=
aj (gS s a) an 0
def ob(s:Q1)(a:Int):za:=
(sE s a).bind λb=>
some (decide (0<=b))
def yO(a:Q9)(x:Q1):za:=
(yz x).bind λd=>
(idx a.2.2.2 0).bind λc=>
(ob c d.2).bind λb=>
some b
def vx(a:Ax):Option Unit:=
some ()
def gR(e:Q1)(f:Q1)(a:Int->za)(b:Int):za:=
bif decide (b<(e.length:Int)) then (idx e b).bind λd=>
(idx f b).bind λc=>
bif d != c then some false else a (i64.wrap (b+1)) else some true
def mF(b:Q1)(a:Q1):za:=
bif (b.length:Int) != (a.length:Int) then some false else aj (gR b a) an 0
def uV(stack:Ax)(b:kl->Option (List Q1)):(List Q1)×Int->Option (List Q1):=λ⟨a,d⟩=>
bif decide (d<(stack.length:Int)) then (idx stack d).bind λc=>
aN (aH (List.length a+List.length ([c.1]:List Q1)) 24)<|
b ((a++([c.1]:List Q1)),(i64.wrap (d+1))) else some a
def BK(stack:Ax):Option (List Q1):=
aj (uV stack) an ([],0)
def kb(stack:Ax)(y:Q1)(x:Q1)(a:Ax):Option (Except CQ Unit):=
(mF y x).bind λr2=>
bif r2 then (
aN (df 0 (i64.wrap ((a.length:Int)-1)) (List.length a))<|
(BK (aV a 0 (i64.wrap ((a.length:Int)-1)))).bind λc=>
(BK stack).bind λb=>
some (.error (c,b))) else (
some (.ok ()))
def EZ(a:Int):zd:=
bif a==0 then some 1 else bif a==1 then some 2 else some 0
def HO(i:Int)(b:Int)(e:Int)(d:(List Q1))(c:Q1)(a:Q1)(f:Bool):za:=
(idx a i).bind λe3=>
some ((rM .u8 e3 b) != 0)
def Wt(s:(Q6×Q1))(key:Q1)(b:Int)(h:Int)(e:(List Q1))(d:Q1)(f:Q1)(c:Bool):Option Ee:=
(EZ b).bind λi=>
bif i==0 then some (1,c) else (dT s.1 key).bind λa=>
bif !a.2 then some (10,c) else (HO a.1 i h e d f c).bind λg=>
some (0,g)
def J3(s:(Q6×Q1))(key:Q1)(a:Int):Option FM:=
(Wt s key a s.1.1 s.1.2.1 s.1.2.2 s.2 false).bind λb=>
some (b.2,b.1)
def oF(e:Unit)(t:Q3)(c:Q1)(b:Int):Option FM:=
(eV t c).bind λd=>
(J3 t.2.2.2.1 d b).bind λa=>
some (a.1,a.2)
def DW(c:Ao)(s:Q4)(b:Q1)(a:Int):Option jq:=
(fI s b).bind λh=>
bif h != 0 then some (0,h) else ai (decide (a<0)) λg=>
ai (decide (1<a)) λf=>
ai (g||f) λe=>
bif e then (
some (0,1)) else (
(uR c s b).bind λd=>
bif decide (d<0) then some (0,10) else some (d,0))
def KD(c:Ao)(s:Q4)(b:Q1)(a:Int):Option FM:=
(DW c s b a).bind λd=>
bif d.2 != 0 then some (false,d.2) else (idx c.2.2 d.1).bind λe=>
aN (decide (0<=a))<|
some (((rM .u8 (iP .u8 e a) 1)==1),0)
def nF(d:Unit)(t:Q3)(b:Q1)(a:Int):Option FM:=
(KD t.2.2.2.2.1 t.2.1 b a).bind λc=>
some (c.1,c.2)
def D7(t:Oq)(s:Q4)(f:Q1)(a:Int):Option jq:=
(fI s f).bind λg=>
bif g != 0 then some (0,g) else ai (a != 0) λe=>
ai (a != 1) λd=>
ai (e&&d) λc=>
bif c then (
some (0,1)) else (
(xN t s f).bind λb=>
bif !b.2 then some (0,10) else some (b.1,0))
def Ki(t:Oq)(s:Q4)(d:Q1)(a:Int):Option FM:=
(D7 t s d a).bind λb=>
bif b.2 != 0 then some (false,b.2) else (idx t.2 b.1).bind λc=>
aN (decide (0<=a))<|
some (((rM .u8 c (lM .u8 1 a)) != 0),0)
def ng(d:Unit)(t:Q3)(b:Q1)(a:Int):Option FM:=
(Ki t.2.2.2.2.2.1 t.2.1 b a).bind λc=>
some (c.1,c.2)
def sJ(t:Q3)(b:Q1)(a:Int):zd:=
ai (decide (a<0)) λg=>
ai (decide (1<a)) λf=>
ai (g||f) λe=>
bif e then (
some 1) else (
(eV t b).bind λd=>
(rb t.2.2.2.2.2.2.1.1 d).bind λc=>
bif !c then some 10 else some 0)
def oI(j:Unit)(t:Q3)(b:Q1)(a:Int):Option FM:=
(sJ t b a).bind λi=>
bif i != 0 then some (false,i) else bif (i64.wrap (1+a))==0 then (eV t b).bind λh=>
(rb t.2.2.2.2.2.2.1.1 h).bind λg=>
some (g,0) else bif (i64.wrap (1+a))==1 then (eV t b).bind λf=>
(rb t.2.2.2.2.2.2.1.2.1 f).bind λe=>
some (e,0) else bif (i64.wrap (1+a))==2 then (eV t b).bind λd=>
(rb t.2.2.2.2.2.2.1.2.2 d).bind λc=>
some (c,0) else none
def Eo(b:tU)(key:Q1)(a:Int):zd:=
ai (decide (a<0)) λf=>
ai (decide (1<a)) λe=>
ai (f||e) λd=>
bif d then (
some 1) else (
(wg b key).bind λc=>
bif !c then some 10 else some 0)
def oG(b:tU)(row:Int)(p:Bool)(o:Q1)(a:FM->za):Bool×Int->za:=λ⟨e,d⟩=>
bif decide (d<(o.length:Int)) then (idx o d).bind λc=>
bif row==0 then (idx b.2.2.2.1 (i64.wrap (Int.tdiv c 8))).bind λh=>
aN (decide (0<=(Int.tmod c 8)))<|
ai ((rM .u8 h (lM .u8 1 (Int.tmod c 8))) != 0) λn=>
ai (e&&n) λm=>
a (m,(i64.wrap (d+1))) else bif row==1 then (idx b.2.2.2.2.1 (i64.wrap (Int.tdiv c 8))).bind λg=>
aN (decide (0<=(Int.tmod c 8)))<|
ai ((rM .u8 g (lM .u8 1 (Int.tmod c 8))) != 0) λl=>
ai (e&&l) λk=>
a (k,(i64.wrap (d+1))) else bif row==2 then (idx b.2.2.2.2.2 (i64.wrap (Int.tdiv c 8))).bind λf=>
aN (decide (0<=(Int.tmod c 8)))<|
ai ((rM .u8 f (lM .u8 1 (Int.tmod c 8))) != 0) λj=>
ai (e&&j) λi=>
a (i,(i64.wrap (d+1))) else none else some e
def Em(b:tU)(key:Q1)(row:Int)(c:Bool):za:=
(pd key b.2.2.1 b.2.1 b.1).bind λa=>
aj (oG b row c a) an (c,0)
def Bv(b:tU)(key:Q1)(row:Int):za:=
(Em b key row true).bind λa=>
some a
def Lt(b:tU)(key:Q1)(a:Int):Option FM:=
(Eo b key a).bind λd=>
bif d != 0 then some (false,d) else (Bv b key (i64.wrap (1+a))).bind λc=>
some (c,0)
def oK(e:Unit)(t:Q3)(c:Q1)(b:Int):Option FM:=
(eV t c).bind λd=>
(Lt t.2.2.2.2.2.2.2 d b).bind λa=>
some (a.1,a.2)
def dP(t:Q3)(b:Q1)(a:Int):Option FM:=
(fI t.2.1 b).bind λi=>
bif i != 0 then some (false,i) else (dN t).bind λc=>
bif Nat.beq c 154 then (oF () t b a).bind λh=>
some (h.1,h.2) else bif Nat.beq c 155 then (nF () t b a).bind λg=>
some (g.1,g.2) else bif Nat.beq c 156 then (ng () t b a).bind λf=>
some (f.1,f.2) else bif Nat.beq c 157 then (oI () t b a).bind λe=>
some (e.1,e.2) else bif Nat.beq c 158 then (oK () t b a).bind λd=>
some (d.1,d.2) else none
def H7(i:Int)(b:Int)(m:Int)(k:(List Q1))(j:Q1)(e:Q1)(f:Int)(c:(List Q1))(a:Q1)(d:Q1):Option Q1:=
(cz e).bind λg=>
(idx g i).bind λh=>
(idx g i).bind λl=>
some (List.set g (Int.toNat i) (vt .u8 h b))
def Lh(s:(Q6×Q1))(key:Q1)(g:Int)(l:Int)(i:(List Q1))(h:Q1)(j:Q1)(d:Int)(b:(List Q1))(a:Q1)(c:Q1):Option (Int×Int×(List Q1)×Q1×Q1):=
(EZ g).bind λf=>
bif f==0 then some (1,d,b,a,c) else (dT s.1 key).bind λe=>
bif !e.2 then some (10,d,b,a,c) else (H7 e.1 f l i h j d b a c).bind λk=>
some (0,d,b,a,k)
def LD(s:(Q6×Q1))(key:Q1)(b:Int):Option ((Q6×Q1)×Int):=
(Lh s key b s.1.1 s.1.2.1 s.1.2.2 s.2 s.1.1 s.1.2.1 s.1.2.2 s.2).bind λa=>
some (((a.2.1,a.2.2.1,a.2.2.2.1),a.2.2.2.2),a.1)
def oP(e:Unit)(t:Q3)(c:Q1)(b:Int):Option GB:=
(eV t c).bind λd=>
(LD t.2.2.2.1 d b).bind λa=>
some ((t.1,t.2.1,t.2.2.1,a.1,t.2.2.2.2.1,t.2.2.2.2.2.1,t.2.2.2.2.2.2.1,t.2.2.2.2.2.2.2),a.2)
def KV(c:Ao)(s:Q4)(e:Q1)(b:Int):Option (Ao×Int):=
(DW c s e b).bind λa=>
bif a.2 != 0 then some (c,a.2) else (cz c.2.2).bind λd=>
(idx d a.1).bind λf=>
aN (decide (0<=b))<|
(idx d a.1).bind λg=>
some ((c.1,c.2.1,(List.set d (Int.toNat a.1) (vt .u8 f (lM .u8 1 b)))),0)
def mZ(d:Unit)(t:Q3)(c:Q1)(b:Int):Option GB:=
(KV t.2.2.2.2.1 t.2.1 c b).bind λa=>
some ((t.1,t.2.1,t.2.2.1,t.2.2.2.1,a.1,t.2.2.2.2.2.1,t.2.2.2.2.2.2.1,t.2.2.2.2.2.2.2),a.2)
def Lo(t:Oq)(s:Q4)(f:Q1)(b:Int):Option (Oq×Int):=
(D7 t s f b).bind λa=>
bif a.2 != 0 then some (t,a.2) else (cz t.2).bind λc=>
(idx c a.1).bind λd=>
aN (decide (0<=b))<|
(idx c a.1).bind λe=>
some ((t.1,(List.set c (Int.toNat a.1) (vt .u8 d (lM .u8 1 b)))),0)
def nE(d:Unit)(t:Q3)(c:Q1)(b:Int):Option GB:=
(Lo t.2.2.2.2.2.1 t.2.1 c b).bind λa=>
some ((t.1,t.2.1,t.2.2.1,t.2.2.2.1,t.2.2.2.2.1,a.1,t.2.2.2.2.2.2.1,t.2.2.2.2.2.2.2),a.2)
def oL(j:Unit)(t:Q3)(b:Q1)(a:Int):Option GB:=
(sJ t b a).bind λf=>
bif f != 0 then some (t,f) else bif (i64.wrap (1+a))==0 then (eV t b).bind λi=>
(fZ t.2.2.2.2.2.2.1.1 i).bind λe=>
bif (i64.wrap (1+a))==0 then some ((t.1,t.2.1,t.2.2.1,t.2.2.2.1,t.2.2.2.2.1,t.2.2.2.2.2.1,(e.1,t.2.2.2.2.2.2.1.2.1,t.2.2.2.2.2.2.1.2.2),t.2.2.2.2.2.2.2),0) else bif (i64.wrap (1+a))==1 then some ((t.1,t.2.1,t.2.2.1,t.2.2.2.1,t.2.2.2.2.1,t.2.2.2.2.2.1,(t.2.2.2.2.2.2.1.1,e.1,t.2.2.2.2.2.2.1.2.2),t.2.2.2.2.2.2.2),0) else bif (i64.wrap (1+a))==2 then some ((t.1,t.2.1,t.2.2.1,t.2.2.2.1,t.2.2.2.2.1,t.2.2.2.2.2.1,(t.2.2.2.2.2.2.1.1,t.2.2.2.2.2.2.1.2.1,e.1),t.2.2.2.2.2.2.2),0) else none else bif (i64.wrap (1+a))==1 then (eV t b).bind λh=>
(fZ t.2.2.2.2.2.2.1.2.1 h).bind λd=>
bif (i64.wrap (1+a))==0 then some ((t.1,t.2.1,t.2.2.1,t.2.2.2.1,t.2.2.2.2.1,t.2.2.2.2.2.1,(d.1,t.2.2.2.2.2.2.1.2.1,t.2.2.2.2.2.2.1.2.2),t.2.2.2.2.2.2.2),0) else bif (i64.wrap (1+a))==1 then some ((t.1,t.2.1,t.2.2.1,t.2.2.2.1,t.2.2.2.2.1,t.2.2.2.2.2.1,(t.2.2.2.2.2.2.1.1,d.1,t.2.2.2.2.2.2.1.2.2),t.2.2.2.2.2.2.2),0) else bif (i64.wrap (1+a))==2 then some ((t.1,t.2.1,t.2.2.1,t.2.2.2.1,t.2.2.2.2.1,t.2.2.2.2.2.1,(t.2.2.2.2.2.2.1.1,t.2.2.2.2.2.2.1.2.1,d.1),t.2.2.2.2.2.2.2),0) else none else bif (i64.wrap (1+a))==2 then (eV t b).bind λg=>
(fZ t.2.2.2.2.2.2.1.2.2 g).bind λc=>
bif (i64.wrap (1+a))==0 then some ((t.1,t.2.1,t.2.2.1,t.2.2.2.1,t.2.2.2.2.1,t.2.2.2.2.2.1,(c.1,t.2.2.2.2.2.2.1.2.1,t.2.2.2.2.2.2.1.2.2),t.2.2.2.2.2.2.2),0) else bif (i64.wrap (1+a))==1 then some ((t.1,t.2.1,t.2.2.1,t.2.2.2.1,t.2.2.2.2.1,t.2.2.2.2.2.1,(t.2.2.2.2.2.2.1.1,c.1,t.2.2.2.2.2.2.1.2.2),t.2.2.2.2.2.2.2),0) else bif (i64.wrap (1+a))==2 then some ((t.1,t.2.1,t.2.2.1,t.2.2.2.1,t.2.2.2.2.1,t.2.2.2.2.2.1,(t.2.2.2.2.2.2.1.1,t.2.2.2.2.2.2.1.2.1,c.1),t.2.2.2.2.2.2.2),0) else none else none
def GR(f:Q1)(a:fL->Option Q1):Q1×Int->Option Q1:=λ⟨d,c⟩=>
bif decide (c<(f.length:Int)) then (idx f c).bind λb=>
(idx d (i64.wrap (Int.tdiv b 8))).bind λe=>
aN (decide (0<=(Int.tmod b 8)))<|
a ((List.set d (Int.toNat (i64.wrap (Int.tdiv b 8))) (vt .u8 e (lM .u8 1 (Int.tmod b 8)))),(i64.wrap (c+1))) else some d
def Ew(b:tU)(key:Q1):Option Q1:=
(pd key b.2.2.1 b.2.1 b.1).bind λa=>
aj (GR a) an (b.2.2.2.2.1,0)
def GO(f:Q1)(a:fL->Option Q1):Q1×Int->Option Q1:=λ⟨d,c⟩=>
bif decide (c<(f.length:Int)) then (idx f c).bind λb=>
(idx d (i64.wrap (Int.tdiv b 8))).bind λe=>
aN (decide (0<=(Int.tmod b 8)))<|
a ((List.set d (Int.toNat (i64.wrap (Int.tdiv b 8))) (vt .u8 e (lM .u8 1 (Int.tmod b 8)))),(i64.wrap (c+1))) else some d
def Eb(b:tU)(key:Q1):Option Q1:=
(pd key b.2.2.1 b.2.1 b.1).bind λa=>
aj (GO a) an (b.2.2.2.2.2,0)
def BI(b:tU)(key:Q1)(row:Int):Option tU:=
bif row==0 then (cz b.2.2.2.1).bind λg=>
(yl (b.1,b.2.1,b.2.2.1,(g,b.2.2.2.2.1,b.2.2.2.2.2)) key).bind λf=>
some (b.1,b.2.1,b.2.2.1,(f,b.2.2.2.2.1,b.2.2.2.2.2)) else bif row==1 then (cz b.2.2.2.2.1).bind λe=>
(Ew (b.1,b.2.1,b.2.2.1,(b.2.2.2.1,e,b.2.2.2.2.2)) key).bind λd=>
some (b.1,b.2.1,b.2.2.1,(b.2.2.2.1,d,b.2.2.2.2.2)) else bif row==2 then (cz b.2.2.2.2.2).bind λc=>
(Eb (b.1,b.2.1,b.2.2.1,(b.2.2.2.1,b.2.2.2.2.1,c)) key).bind λa=>
some (b.1,b.2.1,b.2.2.1,(b.2.2.2.1,b.2.2.2.2.1,a)) else none
def J5(b:tU)(key:Q1)(a:Int):Option (tU×Int):=
(Eo b key a).bind λc=>
bif c != 0 then some (b,c) else (BI b key (i64.wrap (1+a))).bind λd=>
some (d,0)
def oS(e:Unit)(t:Q3)(c:Q1)(b:Int):Option GB:=
(eV t c).bind λd=>
(J5 t.2.2.2.2.2.2.2 d b).bind λa=>
some ((t.1,t.2.1,t.2.2.1,t.2.2.2.1,t.2.2.2.2.1,t.2.2.2.2.2.1,t.2.2.2.2.2.2.1,a.1),a.2)
def gB(t:Q3)(b:Q1)(a:Int):Option GB:=
(fI t.2.1 b).bind λi=>
bif i != 0 then some (t,i) else (dN t).bind λc=>
bif Nat.beq c 154 then (oP () t b a).bind λh=>
some (h.1,h.2) else bif Nat.beq c 155 then (mZ () t b a).bind λg=>
some (g.1,g.2) else bif Nat.beq c 156 then (nE () t b a).bind λf=>
some (f.1,f.2) else bif Nat.beq c 157 then (oL () t b a).bind λe=>
some (e.1,e.2) else bif Nat.beq c 158 then (oS () t b a).bind λd=>
some (d.1,d.2) else none
def pV(x:Q1)(v:bq)(g:Q4)(L:Q1)(t:bq)(aT:Q5)(H:L6)(F:(List Q1))(o:Q1)(T:(List Q1))(I:Int)(c:Q4)(Q:Int)(y:Int)(J:(List Q1))(A:Q1)(O:Q1)(Part:(List Q6))(w:Int)(n:(List Q1))(f:Q1)(s:Q1)(u:(List Q6))(r:Q1)(z:Int)(E:cF)(D:Int)(G:Int)(N:Q1)(e:Int)(k:cF)(i:Int)(m:Int)(q:Q1)(d:Int)(j:cF)(h:Int)(l:Int)(p:Q1)(M:Int)(K:Int)(C:Int)(B:Q1)(S:Q1)(R:Q1)(most:Int):Option Q18:=
C4 (jO x v g L t aT H F o T I c Q y J A O Part w n f s u r z E D G N e k i m q d j h l p M K C B S R most) λa=>
(dP (a.2.1,a.2.2.1,a.2.2.2.1,((a.2.2.2.2.1,a.2.2.2.2.2.1,a.2.2.2.2.2.2.1),a.2.2.2.2.2.2.2.1),(a.2.2.2.2.2.2.2.2.1,((d8 a).2.1,(d8 a).2.2.1,(d8 a).2.2.2.1),(d8 a).2.2.2.2.1),((d8 a).2.2.2.2.2.1,(d8 a).2.2.2.2.2.2.1),(((d8 a).2.2.2.2.2.2.2.1,(d8 (d8 a)).1,(d8 (d8 a)).2.1,(d8 (d8 a)).2.2.1,(d8 (d8 a)).2.2.2.1),((d8 (d8 a)).2.2.2.2.1,(d8 (d8 a)).2.2.2.2.2.1,(d8 (d8 a)).2.2.2.2.2.2.1,(d8 (d8 a)).2.2.2.2.2.2.2.1,(d8 (d8 (d8 a))).1),((d8 (d8 (d8 a))).2.1,(d8 (d8 (d8 a))).2.2.1,(d8 (d8 (d8 a))).2.2.2.1,(d8 (d8 (d8 a))).2.2.2.2.1,(d8 (d8 (d8 a))).2.2.2.2.2.1)),(d8 (d8 (d8 a))).2.2.2.2.2.2) x 1).bind λP=>
bif P.1 then (
some (.ok (false,a.2.1,a.2.2.1,a.2.2.2.1,a.2.2.2.2.1,a.2.2.2.2.2.1,a.2.2.2.2.2.2.1,a.2.2.2.2.2.2.2.1,a.2.2.2.2.2.2.2.2.1,(d8 a).2.1,(d8 a).2.2.1,(d8 a).2.2.2.1,(d8 a).2.2.2.2.1,(d8 a).2.2.2.2.2.1,(d8 a).2.2.2.2.2.2.1,(d8 a).2.2.2.2.2.2.2.1,(d8 (d8 a)).1,(d8 (d8 a)).2.1,(d8 (d8 a)).2.2.1,(d8 (d8 a)).2.2.2.1,(d8 (d8 a)).2.2.2.2.1,(d8 (d8 a)).2.2.2.2.2.1,(d8 (d8 a)).2.2.2.2.2.2.1,(d8 (d8 a)).2.2.2.2.2.2.2.1,(d8 (d8 (d8 a))).1,(d8 (d8 (d8 a))).2.1,(d8 (d8 (d8 a))).2.2.1,(d8 (d8 (d8 a))).2.2.2.1,(d8 (d8 (d8 a))).2.2.2.2.1,(d8 (d8 (d8 a))).2.2.2.2.2.1,(d8 (d8 (d8 a))).2.2.2.2.2.2.1,(d8 (d8 (d8 a))).2.2.2.2.2.2.2.1,(d8 (d8 (d8 (d8 a)))).1,(d8 (d8 (d8 (d8 a)))).2.1,(d8 (d8 (d8 (d8 a)))).2.2.1,(d8 (d8 (d8 (d8 a)))).2.2.2))) else (
(gB (a.2.1,a.2.2.1,a.2.2.2.1,((a.2.2.2.2.1,a.2.2.2.2.2.1,a.2.2.2.2.2.2.1),a.2.2.2.2.2.2.2.1),(a.2.2.2.2.2.2.2.2.1,((d8 a).2.1,(d8 a).2.2.1,(d8 a).2.2.2.1),(d8 a).2.2.2.2.1),((d8 a).2.2.2.2.2.1,(d8 a).2.2.2.2.2.2.1),(((d8 a).2.2.2.2.2.2.2.1,(d8 (d8 a)).1,(d8 (d8 a)).2.1,(d8 (d8 a)).2.2.1,(d8 (d8 a)).2.2.2.1),((d8 (d8 a)).2.2.2.2.1,(d8 (d8 a)).2.2.2.2.2.1,(d8 (d8 a)).2.2.2.2.2.2.1,(d8 (d8 a)).2.2.2.2.2.2.2.1,(d8 (d8 (d8 a))).1),((d8 (d8 (d8 a))).2.1,(d8 (d8 (d8 a))).2.2.1,(d8 (d8 (d8 a))).2.2.2.1,(d8 (d8 (d8 a))).2.2.2.2.1,(d8 (d8 (d8 a))).2.2.2.2.2.1)),(d8 (d8 (d8 a))).2.2.2.2.2.2) x 1).bind λb=>
some (.ok (true,b.1.1,b.1.2.1,b.1.2.2.1,b.1.2.2.2.1.1.1,b.1.2.2.2.1.1.2.1,b.1.2.2.2.1.1.2.2,b.1.2.2.2.1.2,b.1.2.2.2.2.1.1,b.1.2.2.2.2.1.2.1.1,b.1.2.2.2.2.1.2.1.2.1,b.1.2.2.2.2.1.2.1.2.2,b.1.2.2.2.2.1.2.2,b.1.2.2.2.2.2.1.1,b.1.2.2.2.2.2.1.2,b.1.2.2.2.2.2.2.1.1.1,b.1.2.2.2.2.2.2.1.1.2.1,b.1.2.2.2.2.2.2.1.1.2.2.1,b.1.2.2.2.2.2.2.1.1.2.2.2.1,b.1.2.2.2.2.2.2.1.1.2.2.2.2,b.1.2.2.2.2.2.2.1.2.1.1,b.1.2.2.2.2.2.2.1.2.1.2.1,b.1.2.2.2.2.2.2.1.2.1.2.2.1,b.1.2.2.2.2.2.2.1.2.1.2.2.2.1,b.1.2.2.2.2.2.2.1.2.1.2.2.2.2,b.1.2.2.2.2.2.2.1.2.2.1,b.1.2.2.2.2.2.2.1.2.2.2.1,b.1.2.2.2.2.2.2.1.2.2.2.2.1,b.1.2.2.2.2.2.2.1.2.2.2.2.2.1,b.1.2.2.2.2.2.2.1.2.2.2.2.2.2,b.1.2.2.2.2.2.2.2.1,b.1.2.2.2.2.2.2.2.2.1,b.1.2.2.2.2.2.2.2.2.2.1,b.1.2.2.2.2.2.2.2.2.2.2.1,b.1.2.2.2.2.2.2.2.2.2.2.2.1,b.1.2.2.2.2.2.2.2.2.2.2.2.2)))
def kH(A:bq)(f:Q4)(D:Q1)(z:bq)(aT:Q5)(C:L6)(B:(List Q1))(g:Q1)(a0:(List Q1))(most:Int)(c:Q1)(a1:Ax)(e:Q34->Option (Except (Fw ⊕ CQ) Q8)):Int×Q4×Int×Int×(List Q1)×Q1×Q1×(List Q6)×Int×(List Q1)×Q1×Q1×(List Q6)×Q1×Int×cF×Int×Int×Q1×Int×cF×Int×Int×Q1×Int×cF×Int×Int×Q1×Int×Int×Int×Q1×Q1×Q1×Ax->Option (Except (Fw ⊕ CQ) Q8):=λ⟨V,U,T,S,R,Q,P,O,N,M,L,K,J,I,H,G,F,E,y,x,w,v,u,t,s,r,q,p,o,n,m,l,k,j,i,b⟩=>
bif decide (0<(b.length:Int)) then (idx b (i64.wrap ((b.length:Int)-1))).bind λd=>
bif (d.2.length:Int)==0 then (vx b).bind λa3=>
aN (df 0 (i64.wrap ((b.length:Int)-1)) (List.length b))<|
e (V,U,T,S,R,Q,P,O,N,M,L,K,J,I,H,G,F,E,y,x,w,v,u,t,s,r,q,p,o,n,m,l,k,j,i,(aV b 0 (i64.wrap ((b.length:Int)-1)))) else (idx d.2 0).bind λh=>
aN (df 1 ((List.length d.2):Int) (List.length d.2))<|
gN (kb (List.set b (Int.toNat (i64.wrap ((b.length:Int)-1))) (d.1,(aV d.2 1 ((List.length d.2):Int)))) h c a1) (λZ=>some (.error (.inr Z))) λa2=>
gN (pV h A f D z aT C B g a0 V U T S R Q P O N M L K J I H G F E y x w v u t s r q p o n m l k j i most) (λY=>some (.error (.inl Y))) λa=>
bif a.1 then (
gN (fO (List.set b (Int.toNat (i64.wrap ((b.length:Int)-1))) (d.1,(aV d.2 1 ((List.length d.2):Int)))) h A f D z aT C B g a0 a.2.1 a.2.2.1 a.2.2.2.1 a.2.2.2.2.1 a.2.2.2.2.2.1 a.2.2.2.2.2.2.1 a.2.2.2.2.2.2.2.1 a.2.2.2.2.2.2.2.2.1 (d8 a).2.1 (d8 a).2.2.1 (d8 a).2.2.2.1 (d8 a).2.2.2.2.1 (d8 a).2.2.2.2.2.1 (d8 a).2.2.2.2.2.2.1 (d8 a).2.2.2.2.2.2.2.1 (d8 (d8 a)).1 (d8 (d8 a)).2.1 (d8 (d8 a)).2.2.1 (d8 (d8 a)).2.2.2.1 (d8 (d8 a)).2.2.2.2.1 (d8 (d8 a)).2.2.2.2.2.1 (d8 (d8 a)).2.2.2.2.2.2.1 (d8 (d8 a)).2.2.2.2.2.2.2.1 (d8 (d8 (d8 a))).1 (d8 (d8 (d8 a))).2.1 (d8 (d8 (d8 a))).2.2.1 (d8 (d8 (d8 a))).2.2.2.1 (d8 (d8 (d8 a))).2.2.2.2.1 (d8 (d8 (d8 a))).2.2.2.2.2.1 (d8 (d8 (d8 a))).2.2.2.2.2.2.1 (d8 (d8 (d8 a))).2.2.2.2.2.2.2.1 (d8 (d8 (d8 (d8 a)))).1 (d8 (d8 (d8 (d8 a)))).2.1 (d8 (d8 (d8 (d8 a)))).2.2.1 (d8 (d8 (d8 (d8 a)))).2.2.2 most) (λX=>some (.error (.inl X))) λW=>
e (a.2.1,a.2.2.1,a.2.2.2.1,a.2.2.2.2.1,a.2.2.2.2.2.1,a.2.2.2.2.2.2.1,a.2.2.2.2.2.2.2.1,a.2.2.2.2.2.2.2.2.1,(d8 a).2.1,(d8 a).2.2.1,(d8 a).2.2.2.1,(d8 a).2.2.2.2.1,(d8 a).2.2.2.2.2.1,(d8 a).2.2.2.2.2.2.1,(d8 a).2.2.2.2.2.2.2.1,(d8 (d8 a)).1,(d8 (d8 a)).2.1,(d8 (d8 a)).2.2.1,(d8 (d8 a)).2.2.2.1,(d8 (d8 a)).2.2.2.2.1,(d8 (d8 a)).2.2.2.2.2.1,(d8 (d8 a)).2.2.2.2.2.2.1,(d8 (d8 a)).2.2.2.2.2.2.2.1,(d8 (d8 (d8 a))).1,(d8 (d8 (d8 a))).2.1,(d8 (d8 (d8 a))).2.2.1,(d8 (d8 (d8 a))).2.2.2.1,(d8 (d8 (d8 a))).2.2.2.2.1,(d8 (d8 (d8 a))).2.2.2.2.2.1,(d8 (d8 (d8 a))).2.2.2.2.2.2.1,(d8 (d8 (d8 a))).2.2.2.2.2.2.2.1,(d8 (d8 (d8 (d8 a)))).1,(d8 (d8 (d8 (d8 a)))).2.1,(d8 (d8 (d8 (d8 a)))).2.2.1,(d8 (d8 (d8 (d8 a)))).2.2.2,W)) else (
e (a.2.1,a.2.2.1,a.2.2.2.1,a.2.2.2.2.1,a.2.2.2.2.2.1,a.2.2.2.2.2.2.1,a.2.2.2.2.2.2.2.1,a.2.2.2.2.2.2.2.2.1,(d8 a).2.1,(d8 a).2.2.1,(d8 a).2.2.2.1,(d8 a).2.2.2.2.1,(d8 a).2.2.2.2.2.1,(d8 a).2.2.2.2.2.2.1,(d8 a).2.2.2.2.2.2.2.1,(d8 (d8 a)).1,(d8 (d8 a)).2.1,(d8 (d8 a)).2.2.1,(d8 (d8 a)).2.2.2.1,(d8 (d8 a)).2.2.2.2.1,(d8 (d8 a)).2.2.2.2.2.1,(d8 (d8 a)).2.2.2.2.2.2.1,(d8 (d8 a)).2.2.2.2.2.2.2.1,(d8 (d8 (d8 a))).1,(d8 (d8 (d8 a))).2.1,(d8 (d8 (d8 a))).2.2.1,(d8 (d8 (d8 a))).2.2.2.1,(d8 (d8 (d8 a))).2.2.2.2.1,(d8 (d8 (d8 a))).2.2.2.2.2.1,(d8 (d8 (d8 a))).2.2.2.2.2.2.1,(d8 (d8 (d8 a))).2.2.2.2.2.2.2.1,(d8 (d8 (d8 (d8 a)))).1,(d8 (d8 (d8 (d8 a)))).2.1,(d8 (d8 (d8 (d8 a)))).2.2.1,(d8 (d8 (d8 (d8 a)))).2.2.2,(List.set b (Int.toNat (i64.wrap ((b.length:Int)-1))) (d.1,(aV d.2 1 ((List.length d.2):Int)))))) else some (.ok (V,U,T,S,R,Q,P,O,N,M,L,K,J,I,H,G,F,E,y,x,w,v,u,t,s,r,q,p,o,n,m,l,k,j,i))
def nR(x:Q1)(u:bq)(f:Q4)(J:Q1)(s:bq)(aT:Q5)(G:L6)(E:(List Q1))(n:Q1)(R:(List Q1))(H:Int)(a:Q4)(O:Int)(w:Int)(I:(List Q1))(z:Q1)(N:Q1)(Part:(List Q6))(v:Int)(m:(List Q1))(e:Q1)(r:Q1)(t:(List Q6))(q:Q1)(y:Int)(D:cF)(C:Int)(F:Int)(L:Q1)(d:Int)(j:cF)(h:Int)(l:Int)(p:Q1)(b:Int)(i:cF)(g:Int)(k:Int)(o:Q1)(M:Int)(K:Int)(A:Int)(B:Q1)(Q:Q1)(P:Q1)(most:Int)(c:Q1)(U:Ax):Option (Except (Fw ⊕ CQ) Q8):=
gN (fO [] x u f J s aT G E n R H a O w I z N Part v m e r t q y D C F L d j h l p b i g k o M K A B Q P most) (λT=>some (.error (.inl T))) λS=>
aj (kH u f J s aT G E n R most c U) an (H,a,O,w,I,z,N,Part,v,m,e,r,t,q,y,D,C,F,L,d,j,h,l,p,b,i,g,k,o,M,K,A,B,Q,P,S)
def me(c:Ax)(N:bq)(v:Q4)(Q:Q1)(L:bq)(aT:Q5)(E:L6)(C:(List Q1))(n:Q1)(U:(List Q1))(F:Int)(b:Q4)(R:Int)(u:Int)(G:(List Q1))(x:Q1)(I:Q1)(Part:(List Q6))(t:Int)(m:(List Q1))(f:Q1)(r:Q1)(s:(List Q6))(q:Q1)(w:Int)(A:cF)(z:Int)(D:Int)(H:Q1)(e:Int)(j:cF)(h:Int)(l:Int)(p:Q1)(d:Int)(i:cF)(g:Int)(k:Int)(o:Q1)(M:Int)(K:Int)(y:Int)(B:Q1)(T:Q1)(S:Q1)(most:Int):Option (Except (Fw ⊕ CQ) Q8):=
(idx c (i64.wrap ((c.length:Int)-1))).bind λJ=>
(yO (E,C,n,U) J.1).bind λV=>
bif !V then some (.ok (F,b,R,u,G,x,I,Part,t,m,f,r,s,q,w,A,z,D,H,e,j,h,l,p,d,i,g,k,o,M,K,y,B,T,S)) else gN (nR J.1 N v Q L aT E C n U F b R u G x I Part t m f r s q w A z D H e j h l p d i g k o M K y B T S most J.1 c) (λW=>aca W (λP=>some (.error (.inl P))) (λO=>some (.error (.inr O)))) λa=>
some (.ok (a.1,a.2.1,a.2.2.1,a.2.2.2.1,a.2.2.2.2.1,a.2.2.2.2.2.1,a.2.2.2.2.2.2.1,a.2.2.2.2.2.2.2.1,a.2.2.2.2.2.2.2.2.1,(d8 a).2.1,(d8 a).2.2.1,(d8 a).2.2.2.1,(d8 a).2.2.2.2.1,(d8 a).2.2.2.2.2.1,(d8 a).2.2.2.2.2.2.1,(d8 a).2.2.2.2.2.2.2.1,(d8 (d8 a)).1,(d8 (d8 a)).2.1,(d8 (d8 a)).2.2.1,(d8 (d8 a)).2.2.2.1,(d8 (d8 a)).2.2.2.2.1,(d8 (d8 a)).2.2.2.2.2.1,(d8 (d8 a)).2.2.2.2.2.2.1,(d8 (d8 a)).2.2.2.2.2.2.2.1,(d8 (d8 (d8 a))).1,(d8 (d8 (d8 a))).2.1,(d8 (d8 (d8 a))).2.2.1,(d8 (d8 (d8 a))).2.2.2.1,(d8 (d8 (d8 a))).2.2.2.2.1,(d8 (d8 (d8 a))).2.2.2.2.2.1,(d8 (d8 (d8 a))).2.2.2.2.2.2.1,(d8 (d8 (d8 a))).2.2.2.2.2.2.2.1,(d8 (d8 (d8 (d8 a)))).1,(d8 (d8 (d8 (d8 a)))).2.1,(d8 (d8 (d8 (d8 a)))).2.2))
def vn(b:Ax)(a:Q1):Option Unit:=
some ()
def nG(i:bq)(f:Q4)(F:Q1)(h:bq)(aT:Q5)(E:L6)(D:(List Q1))(g:Q1)(Y:(List Q1))(most:Int)(e:Q34->Option (Except (Fw ⊕ CQ) Q8)):Int×Q4×Int×Int×(List Q1)×Q1×Q1×(List Q6)×Int×(List Q1)×Q1×Q1×(List Q6)×Q1×Int×cF×Int×Int×Q1×Int×cF×Int×Int×Q1×Int×cF×Int×Int×Q1×Int×Int×Int×Q1×Q1×Q1×Ax->Option (Except (Fw ⊕ CQ) Q8):=λ⟨X,W,V,U,T,S,R,Q,P,O,N,M,L,K,J,I,C,B,A,z,y,x,w,v,u,t,s,r,q,p,o,n,m,l,k,c⟩=>
bif decide (0<(c.length:Int)) then (idx c (i64.wrap ((c.length:Int)-1))).bind λd=>
bif (d.2.length:Int)==0 then gN (me c i f F h aT E D g Y X W V U T S R Q P O N M L K J I C B A z y x w v u t s r q p o n m l k most) (λa2=>aca a2 (λH=>some (.error (.inl H))) (λG=>some (.error (.inr G)))) λb=>
aN (df 0 (i64.wrap ((c.length:Int)-1)) (List.length c))<|
e (b.1,b.2.1,b.2.2.1,b.2.2.2.1,b.2.2.2.2.1,b.2.2.2.2.2.1,b.2.2.2.2.2.2.1,b.2.2.2.2.2.2.2.1,b.2.2.2.2.2.2.2.2.1,(d8 b).2.1,(d8 b).2.2.1,(d8 b).2.2.2.1,(d8 b).2.2.2.2.1,(d8 b).2.2.2.2.2.1,(d8 b).2.2.2.2.2.2.1,(d8 b).2.2.2.2.2.2.2.1,(d8 (d8 b)).1,(d8 (d8 b)).2.1,(d8 (d8 b)).2.2.1,(d8 (d8 b)).2.2.2.1,(d8 (d8 b)).2.2.2.2.1,(d8 (d8 b)).2.2.2.2.2.1,(d8 (d8 b)).2.2.2.2.2.2.1,(d8 (d8 b)).2.2.2.2.2.2.2.1,(d8 (d8 (d8 b))).1,(d8 (d8 (d8 b))).2.1,(d8 (d8 (d8 b))).2.2.1,(d8 (d8 (d8 b))).2.2.2.1,(d8 (d8 (d8 b))).2.2.2.2.1,(d8 (d8 (d8 b))).2.2.2.2.2.1,(d8 (d8 (d8 b))).2.2.2.2.2.2.1,(d8 (d8 (d8 b))).2.2.2.2.2.2.2.1,(d8 (d8 (d8 (d8 b)))).1,(d8 (d8 (d8 (d8 b)))).2.1,(d8 (d8 (d8 (d8 b)))).2.2,(aV c 0 (i64.wrap ((c.length:Int)-1)))) else (idx d.2 0).bind λj=>
aN (df 1 ((List.length d.2):Int) (List.length d.2))<|
(vn (List.set c (Int.toNat (i64.wrap ((c.length:Int)-1))) (d.1,(aV d.2 1 ((List.length d.2):Int)))) j).bind λa3=>
gN (jO j i f F h aT E D g Y X W V U T S R Q P O N M L K J I C B A z y x w v u t s r q p o n m l k most) (λa1=>some (.error (.inl a1))) λa=>
bif a.1 then (
gN (fO (List.set c (Int.toNat (i64.wrap ((c.length:Int)-1))) (d.1,(aV d.2 1 ((List.length d.2):Int)))) j i f F h aT E D g Y a.2.1 a.2.2.1 a.2.2.2.1 a.2.2.2.2.1 a.2.2.2.2.2.1 a.2.2.2.2.2.2.1 a.2.2.2.2.2.2.2.1 a.2.2.2.2.2.2.2.2.1 (d8 a).2.1 (d8 a).2.2.1 (d8 a).2.2.2.1 (d8 a).2.2.2.2.1 (d8 a).2.2.2.2.2.1 (d8 a).2.2.2.2.2.2.1 (d8 a).2.2.2.2.2.2.2.1 (d8 (d8 a)).1 (d8 (d8 a)).2.1 (d8 (d8 a)).2.2.1 (d8 (d8 a)).2.2.2.1 (d8 (d8 a)).2.2.2.2.1 (d8 (d8 a)).2.2.2.2.2.1 (d8 (d8 a)).2.2.2.2.2.2.1 (d8 (d8 a)).2.2.2.2.2.2.2.1 (d8 (d8 (d8 a))).1 (d8 (d8 (d8 a))).2.1 (d8 (d8 (d8 a))).2.2.1 (d8 (d8 (d8 a))).2.2.2.1 (d8 (d8 (d8 a))).2.2.2.2.1 (d8 (d8 (d8 a))).2.2.2.2.2.1 (d8 (d8 (d8 a))).2.2.2.2.2.2.1 (d8 (d8 (d8 a))).2.2.2.2.2.2.2.1 (d8 (d8 (d8 (d8 a)))).1 (d8 (d8 (d8 (d8 a)))).2.1 (d8 (d8 (d8 (d8 a)))).2.2.1 (d8 (d8 (d8 (d8 a)))).2.2.2 most) (λa0=>some (.error (.inl a0))) λZ=>
e (a.2.1,a.2.2.1,a.2.2.2.1,a.2.2.2.2.1,a.2.2.2.2.2.1,a.2.2.2.2.2.2.1,a.2.2.2.2.2.2.2.1,a.2.2.2.2.2.2.2.2.1,(d8 a).2.1,(d8 a).2.2.1,(d8 a).2.2.2.1,(d8 a).2.2.2.2.1,(d8 a).2.2.2.2.2.1,(d8 a).2.2.2.2.2.2.1,(d8 a).2.2.2.2.2.2.2.1,(d8 (d8 a)).1,(d8 (d8 a)).2.1,(d8 (d8 a)).2.2.1,(d8 (d8 a)).2.2.2.1,(d8 (d8 a)).2.2.2.2.1,(d8 (d8 a)).2.2.2.2.2.1,(d8 (d8 a)).2.2.2.2.2.2.1,(d8 (d8 a)).2.2.2.2.2.2.2.1,(d8 (d8 (d8 a))).1,(d8 (d8 (d8 a))).2.1,(d8 (d8 (d8 a))).2.2.1,(d8 (d8 (d8 a))).2.2.2.1,(d8 (d8 (d8 a))).2.2.2.2.1,(d8 (d8 (d8 a))).2.2.2.2.2.1,(d8 (d8 (d8 a))).2.2.2.2.2.2.1,(d8 (d8 (d8 a))).2.2.2.2.2.2.2.1,(d8 (d8 (d8 (d8 a)))).1,(d8 (d8 (d8 (d8 a)))).2.1,(d8 (d8 (d8 (d8 a)))).2.2.1,(d8 (d8 (d8 (d8 a)))).2.2.2,Z)) else (
e (a.2.1,a.2.2.1,a.2.2.2.1,a.2.2.2.2.1,a.2.2.2.2.2.1,a.2.2.2.2.2.2.1,a.2.2.2.2.2.2.2.1,a.2.2.2.2.2.2.2.2.1,(d8 a).2.1,(d8 a).2.2.1,(d8 a).2.2.2.1,(d8 a).2.2.2.2.1,(d8 a).2.2.2.2.2.1,(d8 a).2.2.2.2.2.2.1,(d8 a).2.2.2.2.2.2.2.1,(d8 (d8 a)).1,(d8 (d8 a)).2.1,(d8 (d8 a)).2.2.1,(d8 (d8 a)).2.2.2.1,(d8 (d8 a)).2.2.2.2.1,(d8 (d8 a)).2.2.2.2.2.1,(d8 (d8 a)).2.2.2.2.2.2.1,(d8 (d8 a)).2.2.2.2.2.2.2.1,(d8 (d8 (d8 a))).1,(d8 (d8 (d8 a))).2.1,(d8 (d8 (d8 a))).2.2.1,(d8 (d8 (d8 a))).2.2.2.1,(d8 (d8 (d8 a))).2.2.2.2.1,(d8 (d8 (d8 a))).2.2.2.2.2.1,(d8 (d8 (d8 a))).2.2.2.2.2.2.1,(d8 (d8 (d8 a))).2.2.2.2.2.2.2.1,(d8 (d8 (d8 (d8 a)))).1,(d8 (d8 (d8 (d8 a)))).2.1,(d8 (d8 (d8 (d8 a)))).2.2.1,(d8 (d8 (d8 (d8 a)))).2.2.2,(List.set c (Int.toNat (i64.wrap ((c.length:Int)-1))) (d.1,(aV d.2 1 ((List.length d.2):Int)))))) else some (.ok (X,W,V,U,T,S,R,Q,P,O,N,M,L,K,J,I,C,B,A,z,y,x,w,v,u,t,s,r,q,p,o,n,m,l,k))
def xk(x:Q1)(t:bq)(e:Q4)(I:Q1)(r:bq)(aT:Q5)(F:L6)(D:(List Q1))(m:Q1)(Q:(List Q1))(G:Int)(a:Q4)(N:Int)(v:Int)(H:(List Q1))(y:Q1)(L:Q1)(Part:(List Q6))(u:Int)(l:(List Q1))(d:Q1)(q:Q1)(s:(List Q6))(p:Q1)(w:Int)(C:cF)(A:Int)(E:Int)(J:Q1)(c:Int)(i:cF)(g:Int)(k:Int)(o:Q1)(b:Int)(h:cF)(f:Int)(j:Int)(n:Q1)(M:Int)(K:Int)(z:Int)(B:Q1)(P:Q1)(O:Q1)(most:Int):Option (Except (Fw ⊕ CQ) Q8):=
gN (fO [] x t e I r aT F D m Q G a N v H y L Part u l d q s p w C A E J c i g k o b h f j n M K z B P O most) (λS=>some (.error (.inl S))) λR=>
aj (nG t e I r aT F D m Q most) an (G,a,N,v,H,y,L,Part,u,l,d,q,s,p,w,C,A,E,J,c,i,g,k,o,b,h,f,j,n,M,K,z,B,P,O,R)
def ml(h:bq)(e:Q4)(B:Q1)(g:bq)(aT:Q5)(A:L6)(z:(List Q1))(f:Q1)(a0:(List Q1))(most:Int)(E:(List Q1))(c:(Int×Q4×Int×Int×(List Q1)×Q1×Q1×(List Q6)×Int×(List Q1)×Q1×Q1×(List Q6)×Q1×Int×cF×Int×Int×Q1×Int×cF×Int×Int×Q1×Int×cF×Int×Int×Q1×Int×Int×Int×Q1×Q1×Q1×Int)->Option (Except (Fw ⊕ CQ) Q8)):Int×Q4×Int×Int×(List Q1)×Q1×Q1×(List Q6)×Int×(List Q1)×Q1×Q1×(List Q6)×Q1×Int×cF×Int×Int×Q1×Int×cF×Int×Int×Q1×Int×cF×Int×Int×Q1×Int×Int×Int×Q1×Q1×Q1×Int->Option (Except (Fw ⊕ CQ) Q8):=λ⟨Z,Y,X,W,V,U,T,S,R,Q,P,O,N,M,L,K,J,I,H,y,x,w,v,u,t,s,r,q,p,o,n,m,l,k,j,d⟩=>
bif decide (d<(E.length:Int)) then (idx E d).bind λi=>
gN (jO i h e B g aT A z f a0 Z Y X W V U T S R Q P O N M L K J I H y x w v u t s r q p o n m l k j most) (λG=>some (.error (.inl G))) λa=>
bif a.1 then (
gN (xk i h e B g aT A z f a0 a.2.1 a.2.2.1 a.2.2.2.1 a.2.2.2.2.1 a.2.2.2.2.2.1 a.2.2.2.2.2.2.1 a.2.2.2.2.2.2.2.1 a.2.2.2.2.2.2.2.2.1 (d8 a).2.1 (d8 a).2.2.1 (d8 a).2.2.2.1 (d8 a).2.2.2.2.1 (d8 a).2.2.2.2.2.1 (d8 a).2.2.2.2.2.2.1 (d8 a).2.2.2.2.2.2.2.1 (d8 (d8 a)).1 (d8 (d8 a)).2.1 (d8 (d8 a)).2.2.1 (d8 (d8 a)).2.2.2.1 (d8 (d8 a)).2.2.2.2.1 (d8 (d8 a)).2.2.2.2.2.1 (d8 (d8 a)).2.2.2.2.2.2.1 (d8 (d8 a)).2.2.2.2.2.2.2.1 (d8 (d8 (d8 a))).1 (d8 (d8 (d8 a))).2.1 (d8 (d8 (d8 a))).2.2.1 (d8 (d8 (d8 a))).2.2.2.1 (d8 (d8 (d8 a))).2.2.2.2.1 (d8 (d8 (d8 a))).2.2.2.2.2.1 (d8 (d8 (d8 a))).2.2.2.2.2.2.1 (d8 (d8 (d8 a))).2.2.2.2.2.2.2.1 (d8 (d8 (d8 (d8 a)))).1 (d8 (d8 (d8 (d8 a)))).2.1 (d8 (d8 (d8 (d8 a)))).2.2.1 (d8 (d8 (d8 (d8 a)))).2.2.2 most) (λF=>aca F (λD=>some (.error (.inl D))) (λC=>some (.error (.inr C)))) λb=>
c (b.1,b.2.1,b.2.2.1,b.2.2.2.1,b.2.2.2.2.1,b.2.2.2.2.2.1,b.2.2.2.2.2.2.1,b.2.2.2.2.2.2.2.1,b.2.2.2.2.2.2.2.2.1,(d8 b).2.1,(d8 b).2.2.1,(d8 b).2.2.2.1,(d8 b).2.2.2.2.1,(d8 b).2.2.2.2.2.1,(d8 b).2.2.2.2.2.2.1,(d8 b).2.2.2.2.2.2.2.1,(d8 (d8 b)).1,(d8 (d8 b)).2.1,(d8 (d8 b)).2.2.1,(d8 (d8 b)).2.2.2.1,(d8 (d8 b)).2.2.2.2.1,(d8 (d8 b)).2.2.2.2.2.1,(d8 (d8 b)).2.2.2.2.2.2.1,(d8 (d8 b)).2.2.2.2.2.2.2.1,(d8 (d8 (d8 b))).1,(d8 (d8 (d8 b))).2.1,(d8 (d8 (d8 b))).2.2.1,(d8 (d8 (d8 b))).2.2.2.1,(d8 (d8 (d8 b))).2.2.2.2.1,(d8 (d8 (d8 b))).2.2.2.2.2.1,(d8 (d8 (d8 b))).2.2.2.2.2.2.1,(d8 (d8 (d8 b))).2.2.2.2.2.2.2.1,(d8 (d8 (d8 (d8 b)))).1,(d8 (d8 (d8 (d8 b)))).2.1,(d8 (d8 (d8 (d8 b)))).2.2,(i64.wrap (d+1)))) else (
c (a.2.1,a.2.2.1,a.2.2.2.1,a.2.2.2.2.1,a.2.2.2.2.2.1,a.2.2.2.2.2.2.1,a.2.2.2.2.2.2.2.1,a.2.2.2.2.2.2.2.2.1,(d8 a).2.1,(d8 a).2.2.1,(d8 a).2.2.2.1,(d8 a).2.2.2.2.1,(d8 a).2.2.2.2.2.1,(d8 a).2.2.2.2.2.2.1,(d8 a).2.2.2.2.2.2.2.1,(d8 (d8 a)).1,(d8 (d8 a)).2.1,(d8 (d8 a)).2.2.1,(d8 (d8 a)).2.2.2.1,(d8 (d8 a)).2.2.2.2.1,(d8 (d8 a)).2.2.2.2.2.1,(d8 (d8 a)).2.2.2.2.2.2.1,(d8 (d8 a)).2.2.2.2.2.2.2.1,(d8 (d8 (d8 a))).1,(d8 (d8 (d8 a))).2.1,(d8 (d8 (d8 a))).2.2.1,(d8 (d8 (d8 a))).2.2.2.1,(d8 (d8 (d8 a))).2.2.2.2.1,(d8 (d8 (d8 a))).2.2.2.2.2.1,(d8 (d8 (d8 a))).2.2.2.2.2.2.1,(d8 (d8 (d8 a))).2.2.2.2.2.2.2.1,(d8 (d8 (d8 (d8 a)))).1,(d8 (d8 (d8 (d8 a)))).2.1,(d8 (d8 (d8 (d8 a)))).2.2.1,(d8 (d8 (d8 (d8 a)))).2.2.2,(i64.wrap (d+1)))) else some (.ok (Z,Y,X,W,V,U,T,S,R,Q,P,O,N,M,L,K,J,I,H,y,x,w,v,u,t,s,r,q,p,o,n,m,l,k,j))
def pW(e:bq)(a:Q4)(v:Q1)(d:bq)(aT:Q5)(u:L6)(t:(List Q1))(b:Q1)(L:(List Q1))(G:Int)(c:Q4)(O:Int)(y:Int)(H:(List Q1))(A:Q1)(J:Q1)(Part:(List Q6))(x:Int)(o:(List Q1))(h:Q1)(s:Q1)(w:(List Q6))(r:Q1)(z:Int)(E:cF)(D:Int)(F:Int)(I:Q1)(g:Int)(l:cF)(j:Int)(n:Int)(q:Q1)(f:Int)(k:cF)(i:Int)(m:Int)(p:Q1)(M:Int)(K:Int)(C:Int)(B:Q1)(Q:Q1)(P:Q1)(most:Int):Option (Except (Fw ⊕ CQ) Q8):=
(Cb (e,a,v,d,aT) (u,t,b,L)).bind λN=>
aj (ml e a v d aT u t b L most N) an (G,c,O,y,H,A,J,Part,x,o,h,s,w,r,z,E,D,F,I,g,l,j,n,q,f,k,i,m,p,M,K,C,B,Q,P,0)
def fJ(m:il)(a:Q9)(o:Vn):Option (Bool×CQ×Int×Q1):=
(vZ m a).bind λd=>
bif d.2 != 0 then some (false,([],[]),d.2,[]) else (dw d.1 o).bind λb=>
ai (b.2 != 0) λAr=>
ai (decide (o.2.2.1<1)) λj=>
ai (Ar||j) λi=>
ai (decide (1048576<o.2.2.1)) λh=>
ai (i||h) λg=>
bif g then (
some (false,([],[]),1,[])) else (
gN (pW m.1 m.2.1 m.2.2.1 m.2.2.2.1 m.2.2.2.2 a.1 a.2.1 a.2.2.1 a.2.2.2 b.1.1 b.1.2.1 b.1.2.2.1 b.1.2.2.2.1.1.1 b.1.2.2.2.1.1.2.1 b.1.2.2.2.1.1.2.2 b.1.2.2.2.1.2 b.1.2.2.2.2.1.1 b.1.2.2.2.2.1.2.1.1 b.1.2.2.2.2.1.2.1.2.1 b.1.2.2.2.2.1.2.1.2.2 b.1.2.2.2.2.1.2.2 b.1.2.2.2.2.2.1.1 b.1.2.2.2.2.2.1.2 b.1.2.2.2.2.2.2.1.1.1 b.1.2.2.2.2.2.2.1.1.2.1 b.1.2.2.2.2.2.2.1.1.2.2.1 b.1.2.2.2.2.2.2.1.1.2.2.2.1 b.1.2.2.2.2.2.2.1.1.2.2.2.2 b.1.2.2.2.2.2.2.1.2.1.1 b.1.2.2.2.2.2.2.1.2.1.2.1 b.1.2.2.2.2.2.2.1.2.1.2.2.1 b.1.2.2.2.2.2.2.1.2.1.2.2.2.1 b.1.2.2.2.2.2.2.1.2.1.2.2.2.2 b.1.2.2.2.2.2.2.1.2.2.1 b.1.2.2.2.2.2.2.1.2.2.2.1 b.1.2.2.2.2.2.2.1.2.2.2.2.1 b.1.2.2.2.2.2.2.1.2.2.2.2.2.1 b.1.2.2.2.2.2.2.1.2.2.2.2.2.2 b.1.2.2.2.2.2.2.2.1 b.1.2.2.2.2.2.2.2.2.1 b.1.2.2.2.2.2.2.2.2.2.1 b.1.2.2.2.2.2.2.2.2.2.2.1 b.1.2.2.2.2.2.2.2.2.2.2.2.1 b.1.2.2.2.2.2.2.2.2.2.2.2.2 o.2.2.1) (λf=>aca f (λc=>
some (false,([],[]),c.1,c.2)) (λe=>
some (true,e,0,[]))) λk=>
some (false,([],[]),0,[]))
def Md(s:Q4)(d:Q1)(a:Int->zd)(c:Int):zd:=
bif decide (c<(d.length:Int)) then (idx d c).bind λh=>
(idx s c).bind λg=>
ai (decide (h<g.1)) λb=>
bp (!b) 0 (idx d c) λf=>
bp (!b) (0,0) (idx s c) λe=>
ai (decide (e.2<f)) λj=>
ai (b||j) λi=>
bif i then (
some 5) else (
a (i64.wrap (c+1))) else some 0
def Eg(s:Q4)(a:Q1):zd:=
bif (a.length:Int) != (s.length:Int) then some 1 else aj (Md s a) an 0
def EF(m:il)(a:Q1):za:=
(Eg m.2.1 a).bind λb=>
some (b==0)
def EJ(m:il)(a:Q9)(x:Q1):za:=
bif decide ((i64.wrap ((x.length:Int)-1))<0) then some false else aN (df 0 (i64.wrap ((x.length:Int)-1)) (List.length x))<|
(EF m (aV x 0 (i64.wrap ((x.length:Int)-1)))).bind λb=>
bp b 0 (idx x (i64.wrap ((x.length:Int)-1))) λe=>
ai (decide (0<=e)) λh=>
ai (b&&h) λc=>
bp c 0 (idx x (i64.wrap ((x.length:Int)-1))) λd=>
ai (decide (d<(a.1.length:Int))) λg=>
ai (c&&g) λf=>
some f
def bd(a:Bool):zd:=
bif a then (
some 1) else (
some 0)
def lD(e:Ex)(A:Q1)(a:Int)(b8:Int):zd:=
bif e.op==1 then some e.n else bif e.op==2 then ai (decide (0<=e.n)) λz=>
ai (decide (e.n<(A.length:Int))) λy=>
ai (z&&y) λx=>
bif x then (
(idx A e.n).bind λo=>
some o) else (
some 0) else bif e.op==3 then some (i64.wrap (a+b8)) else bif e.op==4 then some (i64.wrap (a-b8)) else bif e.op==5 then some (i64.wrap (a*b8)) else bif e.op==6 then some (i64.wrap (0-a)) else bif e.op==7 then (bd (a==b8)).bind λm=>
some m else bif e.op==8 then (bd (a != b8)).bind λl=>
some l else bif e.op==9 then (bd (decide (a<b8))).bind λk=>
some k else bif e.op==10 then (bd (decide (a<=b8))).bind λj=>
some j else bif e.op==11 then (bd (decide (b8<a))).bind λi=>
some i else bif e.op==12 then (bd (decide (b8<=a))).bind λh=>
some h else bif e.op==13 then some 1 else bif e.op==15 then (bd (a==0)).bind λg=>
some g else bif e.op==16 then ai (a==1) λw=>
ai (b8==1) λv=>
ai (w&&v) λu=>
(bd u).bind λf=>
some f else bif e.op==17 then ai (a==1) λAr=>
ai (b8==1) λt=>
ai (Ar||t) λs=>
(bd s).bind λd=>
some d else bif e.op==18 then ai (a==0) λr=>
ai (b8==1) λq=>
ai (r||q) λp=>
(bd p).bind λc=>
some c else bif e.op==19 then (bd (a==b8)).bind λb=>
some b else some 0
def IX(g:(Ex×Q1)->zd)(e:Ex)(f:Q1)(h:Int):zd:=
ai (λ(b:Int)=>lD e f h b) λa=>
bif decide (1<(List.length e.l:Int)) then (idx e.l 1).bind λd=>
(g (d,f)).bind λc=>
a c else a 0
def mw(g:(Ex×Q1)->zd)(e:Ex)(f:Q1):zd:=
ai (λ(b:Int)=>IX g e f b) λa=>
bif decide (0<(List.length e.l:Int)) then (idx e.l 0).bind λd=>
(g (d,f)).bind λc=>
a c else a 0
def eW(e:Ex)(a:Q1):zd:=
 aj (λk (s:(Ex×Q1))=>mw k s.1 s.2) an (e,a)
def lj(a:Q9)(q:Int)(g:Q1)(b:Int->za)(d:Int):za:=
(idx a.1 q).bind λh=>
bif decide (d<(h.length:Int)) then (idx a.1 q).bind λf=>
(idx f d).bind λe=>
(eW e g).bind λc=>
bif c != 1 then some false else b (i64.wrap (d+1)) else some true
def uh(a:Q9)(q:Int)(b:Q1):za:=
aj (lj a q b) an 0
def dO(a:Q1)(b:Q1)(c:Int->za)(d:Int):za:=
bif decide (d<(a.length:Int)) then (idx a d).bind λf=>
(idx b d).bind λe=>
bif f != e then some false else c (i64.wrap (d+1)) else some true
def hZ(a:Q1)(b:Q1):za:=
bif (a.length:Int) != (b.length:Int) then some false else aj (dO a b) an 0
def jj(l:(List Q1))(d:Q1)(a:Int->zd)(b:Int):zd:=
bif decide (b<(l.length:Int)) then (idx l b).bind λe=>
(hZ e d).bind λc=>
bif c then (
some b) else (
a (i64.wrap (b+1))) else some (-1)
def fB(l:(List Q1))(a:Q1):zd:=
aj (jj l a) an 0
def j8(a:Q9)(c:Q1)(some_:Q1)(b:kl->Option (List Q1)):(List Q1)×Int->Option (List Q1):=λ⟨g,d⟩=>
bif decide (d<(some_.length:Int)) then (idx some_ d).bind λe=>
aN (aH (List.length ([]:zl)+List.length c) 8)<|
aN (aH (List.length (([]:zl)++c)+List.length ([e]:zl)) 8)<|
(idx some_ d).bind λi=>
(uh a i c).bind λf=>
bp f default (fB g ((([]:zl)++c)++([e]:zl))) λh=>
ai (decide (h<0)) λk=>
ai (f&&k) λj=>
bif j then (
aN (aH (List.length g+List.length ([((([]:zl)++c)++([e]:zl))]:List Q1)) 24)<|
b ((g++([((([]:zl)++c)++([e]:zl))]:List Q1)),(i64.wrap (d+1)))) else (
b (g,(i64.wrap (d+1)))) else some g
def mG(l:(List Q1))(a:Q9)(b:Q1)(some_:Q1):Option (List Q1):=
aj (j8 a b some_) an (l,0)
def ld(m:il)(a:Q9):Option (List Q1):=
(mG [] a m.2.2.1 a.2.2.1).bind λb=>
some b
def HS(l:(List Q1))(d:Q1)(a:Int->zd)(b:Int):zd:=
bif decide (b<(l.length:Int)) then (idx l b).bind λe=>
(hZ e d).bind λc=>
bif c then (
some b) else (
a (i64.wrap (b+1))) else some (-1)
def sZ(l:(List Q1))(a:Q1):zd:=
aj (HS l a) an 0
def jA(m:il)(d:Q1)(a:fL->Option Q1):Q1×Int->Option Q1:=λ⟨b,c⟩=>
bif decide (c<(m.2.2.2.2.length:Int)) then (idx m.2.2.2.2 c).bind λf=>
(eW f.2.1 d).bind λe=>
bif e==1 then aN (aH (List.length b+List.length ([c]:zl)) 8)<|
a ((b++([c]:zl)),(i64.wrap (c+1))) else a (b,(i64.wrap (c+1))) else some b
def rB(m:il)(a:Q1):Option Q1:=
aj (jA m a) an ([],0)
def iX(m:il)(c:Q1)(b:Int->Option fL)(a:Int):Option fL:=
bif decide (a<(c.length:Int)) then (idx c a).bind λh=>
(idx m.2.1 a).bind λg=>
ai (decide (h<g.1)) λd=>
bp (!d) 0 (idx c a) λf=>
bp (!d) (0,0) (idx m.2.1 a) λe=>
ai (decide (e.2<f)) λj=>
ai (d||j) λi=>
bif i then (
some ([],6)) else (
b (i64.wrap (a+1))) else some (c,0)
def lB(m:il)(e:Q1)(k:Int)(a:fL->Option fL):Q1×Int->Option fL:=λ⟨b,c⟩=>
(idx m.2.2.2.2 k).bind λh=>
bif decide (c<(h.2.2.length:Int)) then (idx m.2.2.2.2 k).bind λg=>
(idx g.2.2 c).bind λd=>
(eW d.2 e).bind λf=>
(idx b d.1).bind λi=>
a ((List.set b (Int.toNat d.1) f),(i64.wrap (c+1))) else aj (iX m b) an 0
def oQ(m:il)(a:Q1)(k:Int):Option fL:=
ai (decide (k<0)) λd=>
ai (decide ((m.2.2.2.2.length:Int)<=k)) λc=>
ai (d||c) λb=>
bif b then (
some ([],10)) else (
aN (aH (List.length ([]:zl)+List.length a) 8)<|
aj (lB m a k) an ((([]:zl)++a),0))
def ll(m:il)(e:Q1)(h:Q1)(b:kl->Option kl):(List Q1)×Int->Option kl:=λ⟨a,d⟩=>
bif decide (d<(h.length:Int)) then (idx h d).bind λg=>
(oQ m e g).bind λc=>
bif c.2 != 0 then some ([],c.2) else (fB a c.1).bind λf=>
bif decide (f<0) then aN (aH (List.length a+List.length ([c.1]:List Q1)) 24)<|
b ((a++([c.1]:List Q1)),(i64.wrap (d+1))) else b (a,(i64.wrap (d+1))) else some (a,0)
def oX(m:il)(a:Q1):Option kl:=
(rB m a).bind λb=>
bif (b.length:Int)==0 then aN (aH (List.length ([]:zl)+List.length a) 8)<|
some (([(([]:zl)++a)]:List Q1),0) else aj (ll m a b) an ([],0)
def lv(a:Q9)(x:Q1)(e:kl)(c:kl->Option kl):(List Q1)×Int->Option kl:=λ⟨b,d⟩=>
bif decide (d<(e.1.length:Int)) then (idx e.1 d).bind λi=>
(idx x (i64.wrap ((x.length:Int)-1))).bind λh=>
(idx a.2.1 h).bind λg=>
(mG b a i g).bind λf=>
c (f,(i64.wrap (d+1))) else some (b,0)
def iZ(m:il)(a:Q9)(x:Q1):Option kl:=
aN (df 0 (i64.wrap ((x.length:Int)-1)) (List.length x))<|
(oX m (aV x 0 (i64.wrap ((x.length:Int)-1)))).bind λb=>
bif b.2 != 0 then some ([],b.2) else aj (lv a x b) an ([],0)
def vS(m:il)(a:Q9)(x:Q1)(y:Q1):za:=
(iZ m a x).bind λf=>
ai (f.2==0) λb=>
bp b default (sZ f.1 y) λc=>
ai (decide (0<=c)) λe=>
ai (b&&e) λd=>
some d
def kL(a:Q9)(x:Q1)(b:Int->za)(c:Int):za:=
(idx a.2.2.2 0).bind λg=>
bif decide (c<(g.length:Int)) then (idx a.2.2.2 0).bind λf=>
(idx f c).bind λe=>
(idx x (i64.wrap ((x.length:Int)-1))).bind λd=>
bif e==d then some true else b (i64.wrap (c+1)) else some false
def kq(a:Q9)(x:Q1):za:=
aj (kL a x) an 0
def H6(a:Q9)(c:CQ)(j:Bool)(d:FM->za):Bool×Int->za:=λ⟨b,e⟩=>
bif decide (e<(c.2.length:Int)) then (idx c.2 e).bind λg=>
(kq a g).bind λf=>
ai (b||f) λi=>
d (i,(i64.wrap (e+1))) else ai (j&&b) λh=>
some h
def Hy(m:il)(a:Q9)(c:CQ)(b:Int->za)(d:Int):za:=
bif decide (d<(List.length ((([]:List Q1)++c.1)++c.2):Int)) then (idx ((([]:List Q1)++c.1)++c.2) (i64.wrap (d-1))).bind λj=>
(idx ((([]:List Q1)++c.1)++c.2) d).bind λi=>
(vS m a j i).bind λf=>
bif !f then some false else b (i64.wrap (d+1)) else (idx ((([]:List Q1)++c.1)++c.2) (i64.wrap ((List.length ((([]:List Q1)++c.1)++c.2):Int)-1))).bind λh=>
(idx c.2 0).bind λg=>
(vS m a h g).bind λe=>
aj (H6 a c e) an (false,0)
def Ij(m:il)(a:Q9)(c:CQ)(b:Int->za)(d:Int):za:=
bif decide (d<(List.length ((([]:List Q1)++c.1)++c.2):Int)) then (idx ((([]:List Q1)++c.1)++c.2) d).bind λi=>
(EJ m a i).bind λg=>
bif !g then some false else b (i64.wrap (d+1)) else (idx ((([]:List Q1)++c.1)++c.2) 0).bind λh=>
(ld m a).bind λf=>
(sZ f h).bind λe=>
bif decide (e<0) then some false else aj (Hy m a c) an 1
def AA(m:il)(a:Q9)(c:CQ):za:=
aN (aH (List.length ([]:List Q1)+List.length c.1) 24)<|
aN (aH (List.length (([]:List Q1)++c.1)+List.length c.2) 24)<|
bif (c.2.length:Int)==0 then some false else aj (Ij m a c) an 0
def sX:za:=
(nb [118,97,114,32,120,32,48,32,49,32,48,59]).bind λc=>
(fJ c.1 (([[]]:List (List Ex)),([([0]:zl)]:List Q1),([0]:zl),([([0]:zl)]:List Q1)) (0,9,9,0,0,0)).bind λb=>
(fJ c.1 (([[]]:List (List Ex)),([([0]:zl)]:List Q1),([0]:zl),([[]]:List Q1)) (0,9,9,0,0,0)).bind λa=>
(fJ c.1 (([[]]:List (List Ex)),([([0]:zl)]:List Q1),([0]:zl),([([0]:zl)]:List Q1)) (0,0,9,0,0,0)).bind λo=>
(fJ c.1 (([[]]:List (List Ex)),([([0]:zl)]:List Q1),([0]:zl),([([0]:zl)]:List Q1)) (0,9,0,0,0,0)).bind λn=>
ai (c.2&&b.1) λt=>
ai (b.2.2.1==0) λs=>
ai (t&&s) λd=>
bp d default (AA c.1 (([[]]:List (List Ex)),([([0]:zl)]:List Q1),([0]:zl),([([0]:zl)]:List Q1)) b.2.1) λm=>
ai (d&&m) λr=>
ai (!a.1) λq=>
ai (r&&q) λp=>
ai (a.2.2.1==0) λl=>
ai (p&&l) λk=>
ai ((a.2.1.2.length:Int)==0) λj=>
ai (k&&j) λi=>
ai (o.2.2.1==7) λh=>
ai (i&&h) λg=>
ai (n.2.2.1==1) λf=>
ai (g&&f) λe=>
some e
def bW(i:xp->zd)(e:Ex)(most:Int)(a:jq->zd):Int×Int->zd:=λ⟨f,c⟩=>
ai (decide (c<(List.length e.l:Int))) λj=>
ai (decide (1<most)) λh=>
ai (j&&h) λg=>
bif g then (
(idx e.l c).bind λd=>
(i (d,(i64.wrap (most-1)))).bind λb=>
bif decide (f<(i64.wrap (1+b))) then a ((i64.wrap (1+b)),(i64.wrap (c+1))) else a (f,(i64.wrap (c+1)))) else (
some f)
def jM(a:xp->zd)(e:Ex)(most:Int):zd:=
aj (bW a e most) an (1,0)
def lg(e:Ex)(most:Int):zd:=
 aj (λk (s:xp)=>jM k s.1 s.2) an (e,most)
def cW(i:xp->zd)(e:Ex)(most:Int)(a:jq->zd):Int×Int->zd:=λ⟨c,d⟩=>
ai (decide (d<(List.length e.l:Int))) λj=>
ai (decide (c<most)) λh=>
ai (j&&h) λg=>
bif g then (
(idx e.l d).bind λf=>
(i (f,most)).bind λb=>
a ((i64.wrap (c+b)),(i64.wrap (d+1)))) else (
some c)
def jx(a:xp->zd)(e:Ex)(most:Int):zd:=
aj (cW a e most) an (1,0)
def kV(e:Ex)(most:Int):zd:=
 aj (λk (s:xp)=>jx k s.1 s.2) an (e,most)
def cE(e:Ex):za:=
(lg e 45).bind λf=>
(kV e 300).bind λd=>
ai (decide (f<45)) λc=>
ai (decide (d<300)) λb=>
ai (c&&b) λa=>
some a
def mC(a:Q9)(g:Int)(e:Int)(c:jq->za)(k:(List Ex))(b:Int->za)(d:Int):za:=
(idx a.1 e).bind λj=>
bif decide (d<(j.length:Int)) then (idx a.1 e).bind λi=>
(idx i d).bind λh=>
(cE h).bind λf=>
bif !f then some false else b (i64.wrap (d+1)) else c ((i64.wrap (g+(k.length:Int))),(i64.wrap (e+1)))
def jC(a:Q9)(most:Int)(b:jq->za):Int×Int->za:=λ⟨c,d⟩=>
ai (decide (d<(a.1.length:Int))) λm=>
ai (decide (c<4000)) λl=>
ai (m&&l) λk=>
bif k then (
(idx a.1 d).bind λe=>
aj (mC a c d b e) an 0) else (
ai (decide (c<4000)) λj=>
ai (decide ((a.1.length:Int)<=most)) λi=>
ai (j&&i) λh=>
ai (decide ((a.2.1.length:Int)<=most)) λg=>
ai (h&&g) λf=>
some f)
def jz(a:Q9)(most:Int)(b:jq->za):Int×Int->za:=λ⟨c,d⟩=>
ai (decide (d<(a.2.2.2.length:Int))) λh=>
ai (decide (c<4000)) λg=>
ai (h&&g) λf=>
bif f then (
(idx a.2.2.2 d).bind λe=>
b ((i64.wrap (c+(e.length:Int))),(i64.wrap (d+1)))) else (
aj (jC a most) an (c,0))
def mB(a:Q9)(most:Int)(b:jq->za):Int×Int->za:=λ⟨c,d⟩=>
ai (decide (d<(a.2.1.length:Int))) λh=>
ai (decide (c<4000)) λg=>
ai (h&&g) λf=>
bif f then (
(idx a.2.1 d).bind λe=>
b ((i64.wrap (c+(e.length:Int))),(i64.wrap (d+1)))) else (
aj (jz a most) an (c,0))
def pU(a:Q9)(most:Int):za:=
aj (mB a most) an ((i64.wrap ((a.2.2.1.length:Int)+(a.2.2.2.length:Int))),0)
def nX(l:Q1)(n:Int)(a:Int->za)(b:Int):za:=
bif decide (b<(l.length:Int)) then (idx l b).bind λg=>
ai (decide (g<0)) λf=>
bp (!f) 0 (idx l b) λc=>
ai (decide (n<=c)) λe=>
ai (f||e) λd=>
bif d then (
some false) else (
a (i64.wrap (b+1))) else some true
def fg(l:Q1)(n:Int):za:=
aj (nX l n) an 0
def lZ(e:Ex):za:=
(dR e).bind λc=>
ai (c.2.1==0) λb8=>
ai (c.1==2) λb=>
ai (b8&&b) λa=>
some a
def kN(a:Q9)(d:Int)(c:Int->za)(b:Int->za)(e:Int):za:=
(idx a.1 d).bind λi=>
bif decide (e<(i.length:Int)) then (idx a.1 d).bind λh=>
(idx h e).bind λg=>
(lZ g).bind λf=>
bif !f then some false else b (i64.wrap (e+1)) else c (i64.wrap (d+1))
def iB(a:Q9)(b:Int->za)(c:Int):za:=
bif decide (c<(a.2.2.2.length:Int)) then (idx a.2.2.2 c).bind λe=>
(fg e (a.1.length:Int)).bind λd=>
bif !d then some false else b (i64.wrap (c+1)) else some true
def kM(a:Q9)(b:Int->za)(c:Int):za:=
bif decide (c<(a.1.length:Int)) then (idx a.2.1 c).bind λe=>
(fg e (a.1.length:Int)).bind λd=>
bif !d then some false else aj (kN a c b) an 0 else aj (iB a) an 0
def nH(a:Q9):za:=
(fg a.2.2.1 (a.1.length:Int)).bind λd=>
ai (!d) λb8=>
ai ((a.2.1.length:Int) != (a.1.length:Int)) λc=>
ai (b8||c) λb=>
bif b then (
some false) else (
aj (kM a) an 0)
def jD(h:xp->za)(e:Ex)(d:Int)(b:Int)(a:Int->za)(c:Int):za:=
bif decide (c<b) then (idx e.l c).bind λg=>
(h (g,d)).bind λf=>
bif !f then some false else a (i64.wrap (c+1)) else some true
def mA(x:xp->za)(e:Ex)(b:Int)(a:Int):za:=
ai (decide (e.op<1)) λz=>
ai (decide (24<e.op)) λy=>
ai (z||y) λw=>
ai ((List.length e.l:Int) != a) λv=>
ai (w||v) λu=>
bif u then (
some false) else (
ai (e.op==1) λt=>
ai (decide (e.n<0)) λs=>
ai (decide (1073741824<e.n)) λr=>
ai (s||r) λq=>
ai (t&&q) λp=>
ai (e.op==2) λo=>
ai (decide (e.n<0)) λm=>
ai (decide (b<=e.n)) λk=>
ai (m||k) λj=>
ai (o&&j) λi=>
ai (p||i) λh=>
ai (decide (2<e.op)) λg=>
ai (e.n != 0) λf=>
ai (g&&f) λd=>
ai (h||d) λc=>
bif c then (
some false) else (
aj (jD x e b a) an 0))
def yn(a:Int->za)(b:Bool):za:=
bif b then (
a 1) else (
a 2)
def sa(e:Ex)(b:Int->za)(c:Bool):za:=
bif c then (
b 0) else (
ai (λ(d:Bool)=>yn b d) λa=>
bif e.op==6 then a (e.op==6) else bif e.op==15 then a (e.op==15) else bif e.op==20 then a (e.op==20) else bif e.op==21 then a (e.op==21) else a (e.op==22))
def im(g:xp->za)(e:Ex)(b:Int):za:=
ai (λ(f:Int)=>mA g e b f) λc=>
ai (λ(d:Bool)=>sa e c d) λa=>
bif e.op==1 then a (e.op==1) else bif e.op==2 then a (e.op==2) else bif e.op==13 then a (e.op==13) else a (e.op==14)
def pP(e:Ex)(a:Int):za:=
 aj (λk (s:xp)=>im k s.1 s.2) an (e,a)
def mI(a:Q9)(e:Int)(g:Int)(c:Int->za)(b:Int->za)(d:Int):za:=
(idx a.1 g).bind λj=>
bif decide (d<(j.length:Int)) then (idx a.1 g).bind λi=>
(idx i d).bind λh=>
(pP h e).bind λf=>
bif !f then some false else b (i64.wrap (d+1)) else c (i64.wrap (g+1))
def mb(a:Q9)(c:Int)(b:Int->za)(d:Int):za:=
bif decide (d<(a.1.length:Int)) then aj (mI a c d b) an 0 else some true
def vG(a:Q9)(b:Int):za:=
aj (mb a b) an 0
def mo(m:il)(a:Q9):za:=
(pU a 40).bind λf=>
bif !f then some false else (nH a).bind λr11=>
(vG a (m.1.length:Int)).bind λb=>
ai (r11&&b) λe=>
ai ((a.2.2.2.length:Int)==1) λd=>
ai (e&&d) λc=>
some c
def cn(m:il)(most:Int)(a:jq->za):Int×Int->za:=λ⟨c,b⟩=>
ai (decide (b<(m.2.1.length:Int))) λh=>
ai (decide (c<=most)) λg=>
ai (h&&g) λf=>
bif f then (
(idx m.2.1 b).bind λe=>
(idx m.2.1 b).bind λd=>
a ((i64.wrap (c*(i64.wrap ((i64.wrap (e.2-d.1))+1)))),(i64.wrap (b+1)))) else (
some (decide (c<=most)))
def fE(m:il)(most:Int):za:=
aj (cn m most) an (1,0)
def gM(text:aE)(a:Q9):Option (il×Bool):=
(nb text).bind λb=>
bp b.2 default (mo b.1 a) λe=>
ai (b.2&&e) λh=>
ai (decide ((a.1.length:Int)<=12)) λg=>
ai (h&&g) λc=>
bp c default (fE b.1 200) λd=>
ai (c&&d) λf=>
some (b.1,f)
def iy(h:Int)(d:kl->Option kl)(e:kl)(a:kl->Option kl):(List Q1)×Int->Option kl:=λ⟨b,c⟩=>
bif decide (c<(e.1.length:Int)) then (idx e.1 c).bind λi=>
(fB b i).bind λg=>
bif decide (g<0) then (idx e.1 c).bind λf=>
aN (aH (List.length b+List.length ([f]:List Q1)) 24)<|
a ((b++([f]:List Q1)),(i64.wrap (c+1))) else a (b,(i64.wrap (c+1))) else d (b,(i64.wrap (h+1)))
def iF(m:il)(a:Q9)(most:Int)(c:kl->Option kl):(List Q1)×Int->Option kl:=λ⟨b,e⟩=>
bif decide (e<(b.length:Int)) then bif decide (most<(b.length:Int)) then some ([],7) else (idx b e).bind λf=>
(iZ m a f).bind λd=>
bif d.2 != 0 then some ([],d.2) else aj (iy e c d) an (b,0) else bif decide (most<(b.length:Int)) then some ([],7) else some (b,0)
def nN(m:il)(a:Q9)(most:Int):Option kl:=
(ld m a).bind λr11=>
aj (iF m a most) an (r11,0)
def kR(h:kl)(b:(List Q1))(i:Int)(d:kl->Option Xd)(g:kl)(c:fL->Option Xd):Q1×Int->Option Xd:=λ⟨a,e⟩=>
bif decide (e<(g.1.length:Int)) then (idx g.1 e).bind λj=>
(fB h.1 j).bind λf=>
aN (aH (List.length a+List.length ([f]:zl)) 8)<|
c ((a++([f]:zl)),(i64.wrap (e+1))) else aN (aH (List.length b+List.length ([a]:List Q1)) 24)<|
d ((b++([a]:List Q1)),(i64.wrap (i+1)))
def iC(m:il)(a:Q9)(d:kl)(c:kl->Option Xd):(List Q1)×Int->Option Xd:=λ⟨b,e⟩=>
bif decide (e<(d.1.length:Int)) then (idx d.1 e).bind λg=>
(iZ m a g).bind λf=>
aj (kR d b e c f) an ([],0) else some (d.1,b,0)
def nS(m:il)(a:Q9)(most:Int):Option Xd:=
(nN m a most).bind λb=>
bif b.2 != 0 then some ([],[],b.2) else aj (iC m a b) an ([],0)
def rv(e:(List Q1))(sets:(List eK))(j:eK)(n:Int)(b:Int)(f:Q51->Option eK)(a:Q51->Option eK):eK×Bool×Int->Option eK:=λ⟨d,c,g⟩=>
(idx e b).bind λt=>
ai (decide (g<(t.length:Int))) λm=>
bp m false (idx j b) λs=>
ai (m&&s) λl=>
bp l false (idx d b) λr=>
ai (!r) λx=>
ai (l&&x) λw=>
bif w then (
(idx e b).bind λq=>
(idx q g).bind λi=>
(idx j i).bind λh=>
bp h [] (idx sets n) λp=>
bp h false (idx p i) λk=>
bp (h&& !k) false (idx d i) λo=>
ai (k||o) λv=>
ai (h&&v) λu=>
bif u then (
(idx d b).bind λy=>
a ((List.set d (Int.toNat b) true),true,(i64.wrap (g+1)))) else (
a (d,c,(i64.wrap (g+1))))) else (
f (d,c,(i64.wrap (b+1))))
def rk(b:(List Q1))(sets:(List eK))(g:eK)(h:Int)(d:(eK×Bool)->Option eK)(c:Q51->Option eK):eK×Bool×Int->Option eK:=λ⟨e,a,f⟩=>
bif decide (f<(b.length:Int)) then aj (rv b sets g h f c) an (e,a,0) else d (e,a)
def rF(j:Int)(e:Q51->Option eK)(i:eK)(a:Q51->Option eK):eK×Bool×Int->Option eK:=λ⟨d,c,b⟩=>
bif decide (b<(d.length:Int)) then (idx d b).bind λf=>
bp f false (idx i b) λk=>
ai (!k) λh=>
ai (f&&h) λg=>
bif g then (
(idx d b).bind λl=>
a ((List.set d (Int.toNat b) false),true,(i64.wrap (b+1)))) else (
a (d,c,(i64.wrap (b+1)))) else e (d,c,(i64.wrap (j+1)))
def rL(e:(List Q1))(sets:(List eK))(g:eK)(c:Bool)(h:Int)(b:Q51->Option eK)(a:(eK×Bool)->Option eK):eK×Bool->Option eK:=λ⟨f,d⟩=>
bif d then (
aj (rk e sets g h a) an (f,false,0)) else (
aj (rF h b f) an (g,c,0))
def rK(a:(List Q1))(sets:(List eK))(d:(eK×Bool)->Option eK)(c:Q51->Option eK):eK×Bool×Int->Option eK:=λ⟨e,b,f⟩=>
bif decide (f<(sets.length:Int)) then aN (decide (0<=(a.length:Int)))<|
aN (aH (Int.toNat (a.length:Int)) 1)<|
aj (rL a sets e b f c) an ((List.replicate (Int.toNat (a.length:Int)) false),true) else d (e,b)
def xu(c:(List Q1))(sets:(List eK))(a:(eK×Bool)->Option eK):eK×Bool->Option eK:=λ⟨d,b⟩=>
bif b then (
aj (rK c sets a) an (d,false,0)) else (
some d)
def oD(a:(List Q1))(b:eK)(sets:(List eK)):Option eK:=
aN (aH (List.length ([]:zk)+List.length b) 1)<|
aj (xu a sets) an ((([]:zk)++b),true)
def gT(e:Xd)(c:eK)(a:Int->Option Q58)(b:Int):Option Q58:=
bif decide (b<(c.length:Int)) then (idx c b).bind λd=>
bif d then (
some (true,(e.1.length:Int),0)) else (
a (i64.wrap (b+1))) else some (false,(e.1.length:Int),0)
def n8(a:Q9)(g:Xd)(d:(eK×eK×Int)->Option Q58):eK×eK×Int->Option Q58:=λ⟨b,e,c⟩=>
bif decide (c<(g.1.length:Int)) then (idx g.1 c).bind λi=>
(kq a i).bind λf=>
aN (aH (List.length b+List.length ([f]:zk)) 1)<|
(idx e c).bind λj=>
d ((b++([f]:zk)),(List.set e (Int.toNat c) true),(i64.wrap (c+1))) else (oD g.2.1 e ([b]:List eK)).bind λh=>
aj (gT g h) an 0
def mg(m:il)(a:Q9)(most:Int):Option Q58:=
(nS m a most).bind λb=>
bif b.2.2 != 0 then some (false,0,b.2.2) else aN (decide (0<=(b.1.length:Int)))<|
aN (aH (Int.toNat (b.1.length:Int)) 1)<|
aj (n8 a b) an ([],(List.replicate (Int.toNat (b.1.length:Int)) false),0)
def oE(o:Vn):za:=
ai (decide (o.1<0)) λu=>
ai (decide (4<o.1)) λt=>
ai (u||t) λs=>
ai (decide (o.2.1<0)) λr=>
ai (s||r) λq=>
ai (decide (1048576<o.2.1)) λp=>
ai (q||p) λn=>
ai (decide (o.2.2.1<1)) λm=>
ai (n||m) λl=>
ai (decide (1048576<o.2.2.1)) λk=>
ai (l||k) λj=>
bif j then (
some false) else (
ai (decide (o.1<4)) λi=>
ai (decide (1<=o.2.2.2.2.1)) λh=>
ai (decide (o.2.2.2.2.1<=4194304)) λg=>
ai (h&&g) λf=>
ai (decide (1<=o.2.2.2.2.2)) λe=>
ai (f&&e) λd=>
ai (decide (o.2.2.2.2.2<=16)) λc=>
ai (d&&c) λb=>
ai (i||b) λa=>
some a)
def kP(text:aE)(a:Q9)(o:Vn):za:=
(sX).bind λd=>
(gM text a).bind λc=>
ai (!c.2) λy=>
ai (decide (300<(text.length:Int))) λx=>
ai (y||x) λw=>
ai (decide (2000<o.2.2.2.2.1)) λv=>
ai (decide (o.2.2.2.2.1<=4194304)) λu=>
ai (v&&u) λt=>
ai (w||t) λs=>
bif s then (
some d) else (
(mg c.1 a 80).bind λf=>
bif f.2.2==7 then some d else (fJ c.1 a o).bind λb=>
(oE o).bind λe=>
bif e then (
ai (b.2.2.1 != 1) λr=>
ai (d&&r) λq=>
some q) else (
ai (b.2.2.1==1) λp=>
ai (d&&p) λAr=>
ai (!b.1) λn=>
ai (Ar&&n) λm=>
ai ((b.2.1.1.length:Int)==0) λl=>
ai (m&&l) λk=>
ai ((b.2.1.2.length:Int)==0) λj=>
ai (k&&j) λi=>
ai ((b.2.2.2.length:Int)==0) λh=>
ai (i&&h) λg=>
some g))
end
end Go.Proofs.YtcgihjbfppkcfaaGreatDoor
