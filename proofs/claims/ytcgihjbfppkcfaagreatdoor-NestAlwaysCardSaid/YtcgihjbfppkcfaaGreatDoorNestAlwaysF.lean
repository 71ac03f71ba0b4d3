/-
  Own texts for the statement NestAlways, cut down to what it needs: Model. (cut and joined by a program)
-/
import Derived.Test.YtcgihjbfppkcfaaGreatDoorNestAlwaysE
set_option linter.unusedVariables false
set_option linter.unusedSimpArgs false
namespace Go.Proofs.YtcgihjbfppkcfaaGreatDoor
open IntKind (i64 u32 u64 u8)
abbrev Q1:=(zn)
abbrev Q2:=((Int×(List (yr×Int))×Int×Int×Q1)×(Int×(List (yr×Int))×Int×Int×Q1)×(Int×(List (yr×Int))×Int×Int×Q1))
abbrev Q3:=(Int×yr×Int×((Int×(List Q1)×Q1)×Q1)×((List (Int×(List Q1)×Q1))×(Int×(List Q1)×Q1)×Q1)×((List (Int×(List Q1)×Q1))×Q1)×Q2×(Int×Int×Int×(Q1×Q1×Q1)))
abbrev Q4:=(yr)
abbrev Q5:=(List (Int×Ex×(List (Int×Ex))))
abbrev Q6:=(Int×(List Q1)×Q1)
abbrev Q7:=(List (Int×aE×Int×Int))
abbrev Q8:=(Int×Q4×Int×Int×(List Q1)×Q1×Q1×(List Q6)×Int×(List Q1)×Q1×Q1×(List Q6)×Q1×Int×(List (Q4×Int))×Int×Int×Q1×Int×(List (Q4×Int))×Int×Int×Q1×Int×(List (Q4×Int))×Int×Int×Q1×Int×Int×Int×Q1×Q1×Q1)
abbrev Q9:=((List aE)×Q4×Q1×(List aE)×Q5)
abbrev cB:=(List (Q4×Int))
abbrev p7:=((List (List Ex))×(List Q1)×Q1×(List Q1))
abbrev fj:=(Ex×Int×Int×Int)
abbrev bp:=(List aE)
abbrev sB:=(Int×Int×Int×(Q1×Q1×Q1))
abbrev Eg:=(Option (List (Int×Bool)))
abbrev ya:=(Int×Int×Q7×Int×bp×Int×Int)
abbrev xE:=(Option (List (aE×Bool)))
abbrev Q18:=(Except (Int×Q1) (Bool×Int×Q4×Int×Int×(List Q1)×Q1×Q1×(List Q6)×Int×(List Q1)×Q1×Q1×(List Q6)×Q1×Int×cB×Int×Int×Q1×Int×cB×Int×Int×Q1×Int×cB×Int×Int×Q1×Int×Int×Int×Q1×Q1×Q1))
abbrev kR:=(Int×Int×Int)
abbrev s8:=(Int×aE×Int×Int)
abbrev tV:=(Int×Q5×Int×Int)
abbrev x4:=((List Q6)×Q6×Q1)
abbrev fv:=(Q1×Int)
abbrev x7:=(List (Q1×(List Q1)))
abbrev pn:=((List Q1)×Int)
abbrev Vk:=(Int×Int×Int×(List (Int×Ex))×Bool)
abbrev Bf:=((List Q1)×(List Q1))
abbrev EU:=(Int×Int×Int×Int)
abbrev wa:=(Q7×Int×Int)
abbrev NC:=(Int×cB×Int×Int×Q1)
abbrev Q31:=(Int×Q4×Int×Int×(List Q1)×Q1×Q1×(List Q6)×Int×(List Q1)×Q1×Q1×(List Q6)×Q1×Int×cB×Int×Int×Q1×Int×cB×Int×Int×Q1×Int×cB×Int×Int×Q1×Int×Int×Int×Q1×Q1×Q1×x7)
abbrev Ji:=(Int×cB×Q1×Eg)
abbrev pj:=(Int×Int)
abbrev W8:=(Int×Int×Int×Int×Int×Int)
abbrev Rm:=(List (Int×Ex))
abbrev Q36:=(Int×bp×Q4×Q1×bp×Q5×Int×Int)
abbrev GO:=(Q9×Int×Int)
abbrev Jw:=(List (List Ex))
abbrev Q39:=(Int×Int×Int×Int×Int×Int×Int×Int)
abbrev Q40:=(Int×Q1×Int×cB×Int×Int×Q1×Eg)
abbrev C5:=(Int×Bool)
abbrev CZ:=(Bool×Int)
abbrev J1:=((List Q6)×Q1)
abbrev Q44:=(Int×Int×cB×Int×Int×Q1×Eg)
abbrev Cu:=(Int×Q1)
abbrev Q46:=(Int×Q1×(List Q6))
abbrev Q47:=((List Q1)×Int×Q1)
abbrev Ew:=(Q3×Int)
abbrev ZY:=(Q3×Bool×Int)
abbrev Q50:=(Q1×Jw×(List Q1)×Q1×(List Q1)×Q1)
abbrev Q51:=(x4×Bool×Int)
abbrev Q52:=(Int×Ex×Rm)
abbrev Q53:=(Int×(List Q6))
abbrev Q54:=((List Q1)×xE)
abbrev d8{a b c d e f g h i:Type}(x:a×b×c×d×e×f×g×h×i):i:=x.2.2.2.2.2.2.2.2
noncomputable section
def uL:zn:=[1,10,100,1000,10000,100000,1000000,10000000,100000000,1000000000,10000000000,100000000000,1000000000000,10000000000000,100000000000000,1000000000000000,10000000000000000,100000000000000000,1000000000000000000,10000000000000000000]
def Wi(n:Int):Option aE:=aM (Xx n) (some (Lib.itoa n))
def Qz(l:zn)(u b:Int):Option Q1:=aM ((b==10)&&(decide (0<=u)&&decide (u<=18446744073709551615))&&aH (List.length l+24) 1) (some (l++aP (Lib.decDigits (Int.toNat u))))
def Ug{α:Type}(b:Nat)(s:List α)(k:Int)(y:List α):Option (List α):=match y with
 |[]=>none
 |y0::ys=>aM (AZ k (List.length s)&&aH (List.length s+List.length (y0::ys)) b) (some (me s k (y0::ys)))
def ahk(x0:Int)(c:Int)(b:Int)(a:Int):Bool:=x0==b&&c==a
def fT(c:Int):zf:=
ai (c==9) λt=>
ai (c==10) λs=>
ai (t||s) λr=>
ai (c==13) λq=>
ai (r||q) λp=>
ai (c==32) λo=>
ai (p||o) λn=>
bif n then (
some 0) else (
ai (decide (97<=c)) λm=>
ai (decide (c<=122)) λl=>
ai (m&&l) λk=>
ai (decide (65<=c)) λj=>
ai (decide (c<=90)) λi=>
ai (j&&i) λh=>
ai (k||h) λg=>
ai (c==95) λf=>
ai (g||f) λe=>
bif e then (
some 1) else (
ai (decide (48<=c)) λd=>
ai (decide (c<=57)) λb=>
ai (d&&b) λa=>
bif a then (
some 2) else (
some 3)))
def ru:Option bp:=
some ([[60,45,62],[45,62],[61,61],[33,61],[60,61],[62,61],[60],[62],[61],[43],[45],[42],[40],[41],[123],[125],[59],[44],[58],[38],[124],[33]]:List aE)
def gz(text:aE)(d:Q7)(c:(Q7×Int)->Option wa)(b:Int->Option wa)(a:Int):Option wa:=
ai (decide (a<(text.length:Int))) λe=>
IJ e (oR a (List.length text))<|
ai ((mn text a) != 10) λg=>
ai (e&&g) λf=>
bif f then (
b (i64.wrap (a+1))) else (
c (d,a))
def eM(text:aE)(f:Q7)(b:Int)(e:(Q7×Int)->Option wa)(d:Int->Option wa)(a:Int):Option wa:=
ai (decide (a<(text.length:Int))) λc=>
IJ c (oR a (List.length text))<|
bF c default (fT (mn text a)) λi=>
ai (i==1) λg=>
IJ (c&& !g) (oR a (List.length text))<|
bF (c&& !g) default (fT (mn text a)) λh=>
ai (h==2) λl=>
ai (g||l) λk=>
ai (c&&k) λj=>
bif j then (
d (i64.wrap (a+1))) else (
bif decide (32<(i64.wrap (a-b))) then some ([],9,b) else aM (cR b a (List.length text))<|
aM (aH (List.length f+List.length ([(1,(cut text b a),0,b)]:List s8)) 40)<|
e ((f++([(1,(cut text b a),0,b)]:List s8)),a))
def eN(text:aE)(f:Q7)(d:Int)(e:(Q7×Int)->Option wa)(b:pj->Option wa):Int×Int->Option wa:=λ⟨a,c⟩=>
ai (decide (a<(text.length:Int))) λg=>
IJ g (oR a (List.length text))<|
bF g default (fT (mn text a)) λh=>
ai (h==2) λj=>
ai (g&&j) λi=>
bif i then (
bif decide (c<=1073741824) then aM (oR a (List.length text))<|
b ((i64.wrap (a+1)),(i64.wrap ((i64.wrap ((i64.wrap (10*c))+(i64.wrap (mn text a))))-48))) else b ((i64.wrap (a+1)),c)) else (
bif decide (1073741824<c) then some ([],9,d) else aM (cR d a (List.length text))<|
aM (aH (List.length f+List.length ([(2,(cut text d a),c,d)]:List s8)) 40)<|
e ((f++([(2,(cut text d a),c,d)]:List s8)),a))
def bT(text:aE)(h:Q7)(d:Int)(g:(Q7×Int)->Option wa)(f:bp)(c:(aE×Int)->Option wa):aE×Int->Option wa:=λ⟨b,a⟩=>
ai (decide (a<(f.length:Int))) λq=>
ai (b==[]) λp=>
ai (q&&p) λo=>
bif o then (
(idx f a).bind λl=>
ai (decide ((l.length:Int)<=(i64.wrap ((text.length:Int)-d)))) λe=>
bF e [] (idx f a) λi=>
IJ e (cR d (i64.wrap (d+(i.length:Int))) (List.length text))<|
bF e [] (idx f a) λk=>
ai ((cut text d (i64.wrap (d+(i.length:Int))))==k) λn=>
ai (e&&n) λm=>
bif m then (
(idx f a).bind λj=>
c (j,(i64.wrap (a+1)))) else (
c (b,(i64.wrap (a+1))))) else (
bif b==[] then some ([],2,d) else aM (aH (List.length h+List.length ([(3,b,0,d)]:List s8)) 40)<|
g ((h++([(3,b,0,d)]:List s8)),(i64.wrap (d+(b.length:Int)))))
def jD(text:aE)(a:(Q7×Int)->Option wa):Q7×Int->Option wa:=λ⟨c,b⟩=>
bif decide (b<(text.length:Int)) then aM (oR b (List.length text))<|
(fT (mn text b)).bind λd=>
bif d==0 then a (c,(i64.wrap (b+1))) else aM (oR b (List.length text))<|
bif (mn text b)==35 then ao (gz text c a) ay b else bif d==1 then ao (eM text c b a) ay b else bif d==2 then ao (eN text c b a) ay (b,0) else (ru).bind λe=>
ao (bT text c b a e) ay ([],0) else aM (aH (List.length c+List.length ([(4,[],0,(text.length:Int))]:List s8)) 40)<|
some ((c++([(4,[],0,(text.length:Int))]:List s8)),0,0)
def gh(text:aE):Option wa:=
bif decide (65536<(text.length:Int)) then some ([],9,0) else ao (jD text) ay ([],0)
def bU(kind:Int)(text:aE)(l:Q7)(at_:Int)(e:bp)(b:Q4)(j:Q1)(d:bp)(m:Q5)(g:Int)(c:Int):zc:=
ai (g==0) λk=>
bF k (0,[],0,0) (idx l at_) λn=>
ai (n.1==kind) λo=>
ai (k&&o) λa=>
bF a (0,[],0,0) (idx l at_) λf=>
ai (f.2.1==text) λi=>
ai (a&&i) λh=>
some h
def xN(a:Bool):zc:=
bif a then (
some true) else (
some false)
def jl(a:aE):zc:=
ai (λ(c:Bool)=>xN c) λb=>
bif a==[116,114,117,101] then b (a==[116,114,117,101]) else bif a==[102,97,108,115,101] then b (a==[102,97,108,115,101]) else bif a==[88] then b (a==[88]) else bif a==[70] then b (a==[70]) else bif a==[71] then b (a==[71]) else bif a==[85] then b (a==[85]) else bif a==[82] then b (a==[82]) else bif a==[118,97,114] then b (a==[118,97,114]) else b (a==[112,114,111,99])
def aJ(g:Int)(c:Int)(k:Q7)(i:Int)(f:bp)(d:Q4)(h:Q1)(e:bp)(j:Q5)(b:Int)(a:Int):Option pj:=
bif b==0 then some (g,c) else some (b,a)
def fF(l:bp)(b:aE)(a:Int->zf)(c:Int):zf:=
bif decide (c<(l.length:Int)) then (idx l c).bind λd=>
bif d==b then some c else a (i64.wrap (c+1)) else some (-1)
def cM(l:bp)(a:aE):zf:=
ao (fF l a) ay 0
def gq(full:Bool)(l:Q7)(at_:Int)(d:bp)(b:Q4)(g:Q1)(c:bp)(aS:Q5)(e:Int)(a:Int):Option (aE×Int×Int×Int):=
(idx l at_).bind λf=>
(jl f.2.1).bind λk=>
bif f.1 != 1 then (aJ 2 f.2.2.2 l at_ d b g c aS e a).bind λj=>
some (f.2.1,at_,j.1,j.2) else bF (!k) default (cM d f.2.1) λo=>
ai (decide (0<=o)) λr=>
ai (k||r) λm=>
bF (!m) default (cM c f.2.1) λn=>
ai (decide (0<=n)) λq=>
ai (m||q) λp=>
bif p then (
(aJ 3 f.2.2.2 l at_ d b g c aS e a).bind λi=>
some (f.2.1,at_,i.1,i.2)) else (
bif full then (
(aJ 9 f.2.2.2 l at_ d b g c aS e a).bind λh=>
some (f.2.1,at_,h.1,h.2)) else (
bif e==0 then some (f.2.1,(i64.wrap (at_+1)),e,a) else some (f.2.1,at_,e,a)))
def br(l:Q7)(at_:Int)(d:bp)(a:Q4)(e:Q1)(c:bp)(g:Q5)(f:Int)(b:Int):zf:=
(idx l at_).bind λh=>
some h.2.2.2
def bM(text:aE)(l:Q7)(at_:Int)(d:bp)(b:Q4)(e:Q1)(c:bp)(aS:Q5)(f:Int)(a:Int):Option kR:=
(bU 3 text l at_ d b e c aS f a).bind λi=>
bif !i then (br l at_ d b e c aS f a).bind λh=>
(aJ 2 h l at_ d b e c aS f a).bind λg=>
some (at_,g.1,g.2) else some ((i64.wrap (at_+1)),f,a)
def lA(a:Int):zc:=
ai (a==1) λj=>
ai (a==2) λi=>
ai (j||i) λh=>
ai (a==5) λg=>
ai (h||g) λf=>
ai (a==6) λe=>
ai (f||e) λd=>
ai (a==10) λc=>
ai (d||c) λb=>
some b
def bE(e:Int)(l:Q7)(at_:Int)(c:bp)(a:Int)(b:Int):Option (Ex×Int×Int):=
bif a==0 then (idx l at_).bind λd=>
some ((Ex.mk 0 0 0 []),e,d.2.2.2) else some ((Ex.mk 0 0 0 []),a,b)
def ed(l:Q7)(at_:Int)(names:bp)(f:Int)(a:Int)(e:s8)(b:Int->Option fj)(c:Int):Option fj:=
bif decide (c<(names.length:Int)) then (idx names c).bind λg=>
bif g==e.2.1 then some ((Ex.mk 2 c e.2.2.2 []),(i64.wrap (at_+1)),f,a) else b (i64.wrap (c+1)) else (bE 3 l at_ names f a).bind λd=>
some (d.1,at_,d.2.1,d.2.2)
def dO(A:ya->Option fj)(g:Int)(l:Q7)(at_:Int)(names:bp)(d:Int)(c:Int):Option fj:=
(idx l at_).bind λb=>
bif b.1==2 then some ((Ex.mk 1 b.2.2.1 b.2.2.2 []),(i64.wrap (at_+1)),d,c) else ai (b.1==1) λz=>
ai (b.2.1==[116,114,117,101]) λy=>
ai (z&&y) λx=>
bif x then (
some ((Ex.mk 13 0 b.2.2.2 []),(i64.wrap (at_+1)),d,c)) else (
ai (b.1==1) λw=>
ai (b.2.1==[102,97,108,115,101]) λv=>
ai (w&&v) λu=>
bif u then (
some ((Ex.mk 14 0 b.2.2.2 []),(i64.wrap (at_+1)),d,c)) else (
(jl b.2.1).bind λi=>
ai (b.1==1) λt=>
ai (!i) λs=>
ai (t&&s) λr=>
bif r then (
ao (ed l at_ names d c b) ay 0) else (
ai (b.1 != 3) λq=>
ai (b.2.1 != [40]) λp=>
ai (q||p) λo=>
bif o then (
(bE 2 l at_ names d c).bind λf=>
some (f.1,at_,f.2.1,f.2.2)) else (
(A (1,g,l,(i64.wrap (at_+1)),names,d,c)).bind λa=>
bif a.2.2.1 != 0 then some ((Ex.mk 0 0 0 []),a.2.1,a.2.2.1,a.2.2.2) else (idx l a.2.1).bind λk=>
ai (k.1 != 3) λh=>
bF (!h) (0,[],0,0) (idx l a.2.1) λj=>
ai (j.2.1 != [41]) λn=>
ai (h||n) λm=>
bif m then (
(bE 2 l a.2.1 names a.2.2.1 a.2.2.2).bind λe=>
some (e.1,a.2.1,e.2.1,e.2.2)) else (
some (a.1,(i64.wrap (a.2.1+1)),a.2.2.1,a.2.2.2))))))
def bI(t:s8)(a:Int->zf)(b:Int):zf:=
bif decide (b<6) then (idx ([[61,61],[33,61],[60],[60,61],[62],[62,61]]:List aE) b).bind λc=>
bif t.2.1==c then some (i64.wrap (7+b)) else a (i64.wrap (b+1)) else some 0
def cV(t:s8)(a:Int):zf:=
ai (t.1 != 2) λd=>
ai (t.1 != 4) λc=>
ai (d&&c) λb=>
bif b then (
bif a==1 then bif t.2.1==[60,45,62] then some 19 else some 0 else bif a==2 then bif t.2.1==[45,62] then some 18 else some 0 else bif a==3 then bif t.2.1==[124] then some 17 else some 0 else bif a==4 then bif t.2.1==[38] then some 16 else some 0 else bif a==5 then bif t.2.1==[85] then some 23 else bif t.2.1==[82] then some 24 else some 0 else bif a==7 then ao (bI t) ay 0 else bif a==8 then bif t.2.1==[43] then some 3 else bif t.2.1==[45] then some 4 else some 0 else bif a==9 then bif t.2.1==[42] then some 5 else some 0 else some 0) else (
some 0)
def jB(h:ya->Option fj)(l:Q7)(at_:Int)(names:bp)(f:Int)(b:Int)(a:Int)(g:s8)(e:Int):Option fj:=
bif e==0 then (h (7,a,l,at_,names,f,b)).bind λd=>
some (d.1,d.2.1,d.2.2.1,d.2.2.2) else (h (6,a,l,(i64.wrap (at_+1)),names,f,b)).bind λc=>
some ((Ex.mk e 0 g.2.2.2 ([c.1]:List Ex)),c.2.1,c.2.2.1,c.2.2.2)
def ov(k:ya->Option fj)(l:Q7)(at_:Int)(names:bp)(g:Int)(c:Int)(a:Int)(d:s8)(f:Int):Option fj:=
ai (λ(e:Int)=>jB k l at_ names g c a d e) λb=>
ai (d.1==1) λj=>
ai (d.2.1==[71]) λi=>
ai (j&&i) λh=>
bif h then (
b 22) else (
b f)
def oy(k:ya->Option fj)(l:Q7)(at_:Int)(names:bp)(g:Int)(c:Int)(a:Int)(d:s8)(f:Int):Option fj:=
ai (λ(e:Int)=>ov k l at_ names g c a d e) λb=>
ai (d.1==1) λj=>
ai (d.2.1==[70]) λi=>
ai (j&&i) λh=>
bif h then (
b 21) else (
b f)
def da(k:ya->Option fj)(l:Q7)(at_:Int)(names:bp)(g:Int)(c:Int)(a:Int)(d:s8)(f:Int):Option fj:=
ai (λ(e:Int)=>oy k l at_ names g c a d e) λb=>
ai (d.1==1) λj=>
ai (d.2.1==[88]) λi=>
ai (j&&i) λh=>
bif h then (
b 20) else (
b f)
def cZ(u:ya->Option fj)(a:Int)(l:Q7)(names:bp)(m:Int)(o:(Int×Int×Int×Int×Int×Int×(List Ex))->Option fj):Int×Int×Int×Int×Int×Int×(List Ex)->Option fj:=λ⟨h,g,n,f,e,d,c⟩=>
bif g==0 then (idx l h).bind λk=>
(cV k a).bind λj=>
bif j==0 then some ((Ex.mk f e d c),h,g,n) else ai (a==1) λt=>
ai (a==2) λs=>
ai (t||s) λr=>
ai (a==5) λq=>
ai (r||q) λp=>
bif p then (
(u (a,m,l,(i64.wrap (h+1)),names,g,n)).bind λi=>
some ((Ex.mk j 0 k.2.2.2 ([(Ex.mk f e d c),i.1]:List Ex)),i.2.1,i.2.2.1,i.2.2.2)) else (
(u ((i64.wrap (a+1)),m,l,(i64.wrap (h+1)),names,g,n)).bind λb=>
bif a==7 then some ((Ex.mk j 0 k.2.2.2 ([(Ex.mk f e d c),b.1]:List Ex)),b.2.1,b.2.2.1,b.2.2.2) else o (b.2.1,b.2.2.1,b.2.2.2,j,0,k.2.2.2,([(Ex.mk f e d c),b.1]:List Ex))) else some ((Ex.mk f e d c),h,g,n)
def jz(p:ya->Option fj)(a:Int)(l:Q7)(at_:Int)(names:bp)(h:Int)(d:Int)(r:Bool)(b:Int):Option fj:=
ai (decide (320<b)) λw=>
ai (r&&w) λv=>
bif v then (
(bE 9 l at_ names h d).bind λj=>
some (j.1,at_,j.2.1,j.2.2)) else (
(idx l at_).bind λg=>
bif a==6 then ai (λ(q:Int)=>da p l at_ names h d b g q) λi=>
ai (g.1==3) λu=>
ai (g.2.1==[33]) λt=>
ai (u&&t) λs=>
bif s then (
i 15) else (
i 0) else bif a==10 then ai (g.1 != 3) λo=>
ai (g.2.1 != [45]) λm=>
ai (o||m) λk=>
bif k then (
(dO p b l at_ names h d).bind λf=>
some (f.1,f.2.1,f.2.2.1,f.2.2.2)) else (
(p (10,b,l,(i64.wrap (at_+1)),names,h,d)).bind λe=>
some ((Ex.mk 6 0 g.2.2.2 ([e.1]:List Ex)),e.2.1,e.2.2.1,e.2.2.2)) else (p ((i64.wrap (a+1)),b,l,at_,names,h,d)).bind λc=>
ao (cZ p a l names b) ay (c.2.1,c.2.2.1,c.2.2.2,c.1.op,c.1.n,c.1.at_,c.1.l))
def di(h:ya->Option fj)(a:Int)(d:Int)(l:Q7)(at_:Int)(names:bp)(e:Int)(b:Int):Option fj:=
bif e != 0 then some ((Ex.mk 0 0 0 []),at_,e,b) else (lA a).bind λg=>
ai (λ(f:Int)=>jz h a l at_ names e b g f) λc=>
bif g then (
c (i64.wrap (d+1))) else (
c d)
def ic(a:Int)(c:Int)(l:Q7)(at_:Int)(names:bp)(d:Int)(b:Int):Option fj:=
 ao (λk (s:ya)=>di k s.1 s.2.1 s.2.2.1 s.2.2.2.1 s.2.2.2.2.1 s.2.2.2.2.2.1 s.2.2.2.2.2.2) ay (a,c,l,at_,names,d,b)
def fa(l:Q7)(at_:Int)(names:bp):Option fj:=
(ic 1 0 l at_ names 0 0).bind λa=>
bif a.2.2.1 != 0 then some ((Ex.mk 0 0 0 []),0,a.2.2.1,a.2.2.2) else some (a.1,a.2.1,0,0)
def vO(a:Int)(e:Int)(c:EU->Option kR)(f:kR)(d:Int)(b:Int):Option kR:=
bif f.1==3 then c (d,b,(i64.wrap (a+1)),(i64.wrap (e+1))) else c (d,b,a,(i64.wrap (e+1)))
def oY(a:Int)(b:Int)(h:Int)(c:EU->Option kR)(f:kR)(d:Int):Option kR:=
ai (λ(g:Int)=>vO b h c f d g) λe=>
bif f.1==2 then e (i64.wrap (a+1)) else e a
def kO(F:Ex->Option kR)(e:Ex)(f:EU->Option kR):Int×Int×Int×Int->Option kR:=λ⟨a,b,c,h⟩=>
bif decide (h<(List.length e.l:Int)) then (idx e.l h).bind λj=>
(F j).bind λd=>
bif d.2.1 != 0 then some (0,d.2.1,d.2.2) else ai (λ(i:Int)=>oY b c h f d i) λg=>
bif d.1==1 then g (i64.wrap (a+1)) else g a else ai (decide (e.op<=6)) λE=>
ai (a==(List.length e.l:Int)) λD=>
ai (E&&D) λC=>
bif C then (
some (1,0,0)) else (
ai (decide (7<=e.op)) λB=>
ai (decide (e.op<=12)) λA=>
ai (B&&A) λz=>
ai (a==(List.length e.l:Int)) λy=>
ai (z&&y) λx=>
ai (e.op==13) λw=>
ai (x||w) λv=>
ai (e.op==14) λu=>
ai (v||u) λt=>
bif t then (
some (2,0,0)) else (
ai (decide (15<=e.op)) λs=>
ai (decide (e.op<=19)) λr=>
ai (s&&r) λq=>
ai (b==(List.length e.l:Int)) λp=>
ai (q&&p) λo=>
bif o then (
some (2,0,0)) else (
ai (decide (15<=e.op)) λn=>
ai ((i64.wrap (b+c))==(List.length e.l:Int)) λm=>
ai (n&&m) λk=>
bif k then (
some (3,0,0)) else (
some (0,4,e.at_)))))
def iX(a:Ex->Option kR)(e:Ex):Option kR:=
ao (kO a e) ay (0,0,0,0)
def iA(e:Ex):Option kR:=
 ao (λk (s:Ex)=>iX k s) ay e
def CQ(a:Int)(e:Int)(c:EU->Option kR)(f:kR)(d:Int)(b:Int):Option kR:=
bif f.1==3 then c (d,b,(i64.wrap (a+1)),(i64.wrap (e+1))) else c (d,b,a,(i64.wrap (e+1)))
def sP(a:Int)(b:Int)(h:Int)(c:EU->Option kR)(f:kR)(d:Int):Option kR:=
ai (λ(g:Int)=>CQ b h c f d g) λe=>
bif f.1==2 then e (i64.wrap (a+1)) else e a
def Dt(e:Ex)(f:EU->Option kR):Int×Int×Int×Int->Option kR:=λ⟨a,b,c,h⟩=>
bif decide (h<(List.length e.l:Int)) then (idx e.l h).bind λj=>
(iA j).bind λd=>
bif d.2.1 != 0 then some (0,d.2.1,d.2.2) else ai (λ(i:Int)=>sP b c h f d i) λg=>
bif d.1==1 then g (i64.wrap (a+1)) else g a else ai (decide (e.op<=6)) λE=>
ai (a==(List.length e.l:Int)) λD=>
ai (E&&D) λC=>
bif C then (
some (1,0,0)) else (
ai (decide (7<=e.op)) λB=>
ai (decide (e.op<=12)) λA=>
ai (B&&A) λz=>
ai (a==(List.length e.l:Int)) λy=>
ai (z&&y) λx=>
ai (e.op==13) λw=>
ai (x||w) λv=>
ai (e.op==14) λu=>
ai (v||u) λt=>
bif t then (
some (2,0,0)) else (
ai (decide (15<=e.op)) λs=>
ai (decide (e.op<=19)) λr=>
ai (s&&r) λq=>
ai (b==(List.length e.l:Int)) λp=>
ai (q&&p) λo=>
bif o then (
some (2,0,0)) else (
ai (decide (15<=e.op)) λn=>
ai ((i64.wrap (b+c))==(List.length e.l:Int)) λm=>
ai (n&&m) λk=>
bif k then (
some (3,0,0)) else (
some (0,4,e.at_)))))
def ir(e:Ex):Option kR:=
ao (Dt e) ay (0,0,0,0)
def vo(a:fj)(c:Int)(b:Int):Option fj:=
some (a.1,a.2.1,c,b)
def cC(j:Int)(l:Q7)(at_:Int)(c:bp)(b:Q4)(h:Q1)(d:bp)(aS:Q5)(f:Int)(a:Int):Option fj:=
bif f != 0 then some ((Ex.mk 0 0 0 []),at_,f,a) else (fa l at_ c).bind λe=>
bif e.2.2.1 != 0 then (aJ e.2.2.1 e.2.2.2 l at_ c b h d aS f a).bind λo=>
some ((Ex.mk 0 0 0 []),at_,o.1,o.2) else (ir e.1).bind λi=>
ai (λ(k:Int×Int)=>vo e k.1 k.2) λg=>
bif i.2.1 != 0 then (aJ i.2.1 i.2.2 l at_ c b h d aS f a).bind λn=>
g (n.1,n.2) else bif i.1 != j then (aJ 4 e.1.at_ l at_ c b h d aS f a).bind λm=>
g (m.1,m.2) else g (f,a)
def fL(l:Q7)(e:bp)(b:Q4)(f:Q1)(d:bp)(aS:Q5)(j:Rm)(c:Vk->Option tV)(i:Int)(n:Int)(m:Int)(k:Int):Option tV:=
(bM [61] l k e b f d aS n m).bind λh=>
(cC 1 l h.1 e b f d aS h.2.1 h.2.2).bind λa=>
aM (aH (List.length j+List.length ([(i,a.1)]:List (Int×Ex))) 56)<|
(bU 3 [44] l a.2.1 e b f d aS a.2.2.1 a.2.2.2).bind λg=>
bif g then (
c ((i64.wrap (a.2.1+1)),a.2.2.1,a.2.2.2,(j++([(i,a.1)]:List (Int×Ex))),g)) else (
c (a.2.1,a.2.2.1,a.2.2.2,(j++([(i,a.1)]:List (Int×Ex))),g))
def jw(l:Q7)(e:bp)(b:Q4)(h:Q1)(d:bp)(aS:Q5)(g:Int)(k:Rm)(a:Vk->Option tV)(j:Int)(f:Int)(m:Int):Option tV:=
ai (λ(i:Int)=>fL l e b h d aS k a j f m i) λc=>
bif f==0 then c (i64.wrap (g+1)) else c g
def cD(l:Q7)(d:bp)(b:Q4)(h:Q1)(c:bp)(aS:Q5)(r:Int)(q:Int)(p:Int)(m:Rm)(g:Vk->Option tV)(o:s8)(k:Int)(f:CZ->Option tV):Bool×Int->Option tV:=λ⟨a,n⟩=>
bif decide (n<(m.length:Int)) then bF (!a) (0,(Ex.mk 0 0 0 [])) (idx m n) λv=>
ai (v.1==k) λx=>
ai (a||x) λw=>
f (w,(i64.wrap (n+1))) else ai (λ(s:Int×Int)=>jw l d b h c aS r m g k s.1 s.2) λe=>
bif o.1 != 1 then (aJ 2 o.2.2.2 l r d b h c aS q p).bind λj=>
e (j.1,j.2) else ai (decide (k<0)) λu=>
ai (u||a) λt=>
bif t then (
(aJ 3 o.2.2.2 l r d b h c aS q p).bind λi=>
e (i.1,i.2)) else (
e (q,p))
def cY(l:Q7)(b:bp)(c:Q4)(g:Q1)(a:bp)(aS:Q5)(k:fj)(e:Vk->Option tV):Int×Int×Int×Rm×Bool->Option tV:=λ⟨j,i,n,h,f⟩=>
ai (i==0) λq=>
ai (f&&q) λp=>
bif p then (
(idx l j).bind λm=>
(cM b m.2.1).bind λo=>
ao (cD l b c g a aS j i n h e m o) ay (false,0)) else (
(bM [59] l j b c g a aS i n).bind λd=>
aM (aH (List.length aS+List.length ([((i64.wrap ((a.length:Int)-1)),k.1,h)]:List Q52)) 80)<|
some (d.1,(aS++([((i64.wrap ((a.length:Int)-1)),k.1,h)]:List Q52)),d.2.1,d.2.2))
def fK(l:Q7)(at_:Int)(c:bp)(a:Q4)(d:Q1)(b:bp)(aS:Q5)(h:Int)(g:Int):Option tV:=
(cC 2 l at_ c a d b aS h g).bind λe=>
(bM [58] l e.2.1 c a d b aS e.2.2.1 e.2.2.2).bind λf=>
ao (cY l c a d b aS e) ay (f.1,f.2.1,f.2.2,[],true)
def gY(l:Q7)(at_:Int)(d:bp)(a:Q4)(f:Q1)(c:bp)(aS:Q5)(i:Int)(b:Int):Option tV:=
ai (λ(g:Int×Int)=>fK l at_ d a f c aS g.1 g.2) λe=>
bif decide (256<=(aS.length:Int)) then (br l at_ d a f c aS i b).bind λj=>
(aJ 9 j l at_ d a f c aS i b).bind λh=>
e (h.1,h.2) else e (i,b)
def jT(e:Bool)(c:Int)(d:s8)(a:Int)(b:Int):Option EU:=
bif a != 0 then some (0,c,a,b) else bif e then (
some ((i64.wrap (0-d.2.2.1)),(i64.wrap (c+1)),a,b)) else (
some (d.2.2.1,(i64.wrap (c+1)),a,b))
def jV(l:Q7)(g:bp)(b:Q4)(k:Q1)(f:bp)(aS:Q5)(j:Int)(a:Int)(m:Bool)(e:Int):Option EU:=
(idx l e).bind λd=>
ai (λ(h:Int×Int)=>jT m e d h.1 h.2) λc=>
bif d.1 != 2 then (aJ 2 d.2.2.2 l e g b k f aS j a).bind λi=>
c (i.1,i.2) else c (j,a)
def dP(l:Q7)(at_:Int)(d:bp)(a:Q4)(f:Q1)(c:bp)(aS:Q5)(g:Int)(b:Int):Option EU:=
(bU 3 [45] l at_ d a f c aS g b).bind λi=>
ai (λ(h:Int)=>jV l d a f c aS g b i h) λe=>
bif i then (
e (i64.wrap (at_+1))) else (
e at_)
def oq(s:Q4)(b:Int->zc)(a:Int):zc:=
bif decide (a<(s.length:Int)) then (idx s a).bind λk=>
(idx s a).bind λj=>
ai (decide (j.2<k.1)) λe=>
bF (!e) (0,0) (idx s a) λi=>
ai (decide (i.1<(-1073741824))) λo=>
ai (e||o) λd=>
bF (!d) (0,0) (idx s a) λh=>
ai (decide (1073741824<h.2)) λn=>
ai (d||n) λc=>
bF (!c) (0,0) (idx s a) λg=>
bF (!c) (0,0) (idx s a) λf=>
ai (decide (65535<(i64.wrap (g.2-f.1)))) λm=>
ai (c||m) λl=>
bif l then (
some false) else (
b (i64.wrap (a+1))) else some true
def mL(s:Q4):zc:=
ai (decide ((s.length:Int)<1)) λc=>
ai (decide (17<(s.length:Int))) λb=>
ai (c||b) λa=>
bif a then (
some false) else (
ao (oq s) ay 0)
def jd(b:bp)(a:Q4)(c:Q1)(g:(aE×Int×Int×Int))(f:EU)(e:EU)(d:EU)(h:kR)(j:Int)(i:Int):Option (Int×bp×Q4×Q1×Int×Int):=
aM (aH (List.length b+List.length ([g.1]:List aE)) 16)<|
aM (aH (List.length a+List.length ([(f.1,e.1)]:List pj)) 16)<|
aM (aH (List.length c+List.length ([d.1]:zn)) 8)<|
some (h.1,(b++([g.1]:List aE)),(a++([(f.1,e.1)]:List pj)),(c++([d.1]:zn)),j,i)
def gL(l:Q7)(at_:Int)(b:bp)(a:Q4)(d:Q1)(c:bp)(aS:Q5)(q:Int)(k:Int):Option (Int×bp×Q4×Q1×Int×Int):=
(gq (decide (16<=(b.length:Int))) l at_ b a d c aS q k).bind λe=>
(br l e.2.1 b a d c aS e.2.2.1 e.2.2.2).bind λp=>
(dP l e.2.1 b a d c aS e.2.2.1 e.2.2.2).bind λi=>
(dP l i.2.1 b a d c aS i.2.2.1 i.2.2.2).bind λh=>
(dP l h.2.1 b a d c aS h.2.2.1 h.2.2.2).bind λg=>
(bM [59] l g.2.1 b a d c aS g.2.2.1 g.2.2.2).bind λf=>
(mL ([(i.1,h.1)]:List pj)).bind λo=>
ai (λ(m:Int×Int)=>jd b a d e i h g f m.1 m.2) λj=>
ai (!o) λv=>
ai (decide (g.1<i.1)) λu=>
ai (v||u) λt=>
ai (decide (h.1<g.1)) λs=>
ai (t||s) λr=>
bif r then (
(aJ 5 p l f.1 b a d c aS f.2.1 f.2.2).bind λn=>
j (n.1,n.2)) else (
j (f.2.1,f.2.2))
def gS(m:wa)(g:bp)(e:Q36->Option GO)(k:bp)(j:Q4)(i:Q1)(f:(aE×Int×Int×Int))(b:(Int×Q5×Int×Int×Bool)->Option GO):Int×Q5×Int×Int×Bool->Option GO:=λ⟨p,n,d,l,h⟩=>
ai (d==0) λs=>
ai (!h) λr=>
ai (s&&r) λq=>
bif q then (
(gY m.1 p k j i (g++([f.1]:List aE)) n d l).bind λa=>
(bU 3 [125] m.1 a.1 k j i (g++([f.1]:List aE)) a.2.1 a.2.2.1 a.2.2.2).bind λo=>
b (a.1,a.2.1,a.2.2.1,a.2.2.2,o)) else (
(bM [125] m.1 p k j i (g++([f.1]:List aE)) n d l).bind λc=>
e (c.1,k,j,i,(g++([f.1]:List aE)),n,c.2.1,c.2.2))
def jZ(i:wa)(d:bp)(e:Q5)(a:Q36->Option GO)(n:Bool)(l:Int)(h:bp)(g:Q4)(f:Q1)(k:Int)(j:Int):Option GO:=
bif n then (
(gq false i.1 l h g f d e k j).bind λb=>
aM (aH (List.length d+List.length ([b.1]:List aE)) 16)<|
(bM [123] i.1 b.2.1 h g f (d++([b.1]:List aE)) e b.2.2.1 b.2.2.2).bind λc=>
(bU 3 [125] i.1 c.1 h g f (d++([b.1]:List aE)) e c.2.1 c.2.2).bind λm=>
ao (gS i d a h g f b) ay (c.1,e,c.2.1,c.2.2,m)) else (
a (l,h,g,f,d,e,k,j))
def j2(e:wa)(j:bp)(i:Q4)(h:Q1)(g:bp)(f:Q5)(d:Q36->Option GO)(o:Bool)(n:Bool)(m:Int)(l:Int)(k:Int):Option GO:=
ai (λ(a:Int×bp×Q4×Q1×Int×Int)=>jZ e g f d n a.1 a.2.1 a.2.2.1 a.2.2.2.1 a.2.2.2.2.1 a.2.2.2.2.2) λc=>
bif o then (
(gL e.1 k j i h g f m l).bind λb=>
c (b.1,b.2.1,b.2.2.1,b.2.2.2.1,b.2.2.2.2.1,b.2.2.2.2.2)) else (
c (k,j,i,h,m,l))
def kb(h:wa)(e:Int)(m:bp)(l:Q4)(k:Q1)(j:bp)(i:Q5)(b:Q36->Option GO)(g:Bool)(f:Bool)(d:Int)(n:Int):Option GO:=
ai (λ(c:Int)=>j2 h m l k j i b g f d n c) λa=>
bif d==0 then a (i64.wrap (e+1)) else a e
def j3(g:bp)(f:Q4)(e:Q1)(d:bp)(c:Q5)(a:Int)(b:Int):Option GO:=
bif a != 0 then some (([],[],[],[],[]),a,b) else some ((g,f,e,d,c),0,0)
def eZ(c:wa)(l:Q36->Option GO):Int×bp×Q4×Q1×bp×Q5×Int×Int->Option GO:=λ⟨i,a,g,f,e,d,b,h⟩=>
ai (b==0) λu=>
bF u (0,[],0,0) (idx c.1 i) λy=>
ai (y.1 != 4) λA=>
ai (u&&A) λz=>
bif z then (
(bU 1 [118,97,114] c.1 i a g f e d b h).bind λr=>
(bU 1 [112,114,111,99] c.1 i a g f e d b h).bind λq=>
ai (λ(n:Int×Int)=>kb c i a g f e d l r q n.1 n.2) λk=>
ai (!r) λx=>
ai (!q) λw=>
ai (x&&w) λv=>
bif v then (
(br c.1 i a g f e d b h).bind λt=>
(aJ 2 t c.1 i a g f e d b h).bind λp=>
k (p.1,p.2)) else (
k (b,h))) else (
ai (λ(m:Int×Int)=>j3 a g f e d m.1 m.2) λj=>
bif (a.length:Int)==0 then (br c.1 i a g f e d b h).bind λs=>
(aJ 2 s c.1 i a g f e d b h).bind λo=>
j (o.1,o.2) else j (b,h))
def fm(text:aE):Option GO:=
(gh text).bind λa=>
bif a.2.1 != 0 then some (([],[],[],[],[]),a.2.1,a.2.2) else ao (eZ a) ay (0,[],[],[],[],[],0,0)
def mC(text:aE):Option (Q9×Bool):=
bif decide (600<(text.length:Int)) then some (([],[],[],[],[]),false) else (fm text).bind λa=>
some (a.1,(a.2.1==0))
def rU(f:pj):zc:=
ai (decide (f.1<(-1073741824))) λi=>
ai (decide (1073741824<f.2)) λh=>
ai (i||h) λg=>
ai (!g) λe=>
ai (decide (f.1<=f.2)) λd=>
ai (e&&d) λc=>
ai (decide ((i64.wrap (f.2-f.1))<65536)) λb=>
ai (c&&b) λa=>
some a
def ry(s:Q4)(b:(zm×Int)->Option zm):zm×Int->Option zm:=λ⟨c,a⟩=>
bif decide (a<(s.length:Int)) then (idx s a).bind λe=>
(rU e).bind λd=>
(idx c a).bind λf=>
b ((List.set c (Int.toNat a) d),(i64.wrap (a+1))) else some c
def pD(s:Q4):Option zm:=
aM (decide (0<=(s.length:Int)))<|
aM (aH (Int.toNat (s.length:Int)) 1)<|
ao (ry s) ay ((List.replicate (Int.toNat (s.length:Int)) false),0)
def fz(s:zm)(c:Bool)(a:Int->zf)(b:Int):zf:=
bif decide (b<(s.length:Int)) then (idx s b).bind λd=>
bif c==d then some b else a (i64.wrap (b+1)) else some (-1)
def ot(s:zm)(a:Bool):zf:=
ao (fz s a) ay 0
def iH(s:zm)(a:Bool):zc:=
(ot s a).bind λb=>
some (decide (0<=b))
def sC(s:Q4):zc:=
ai (decide (1<=(s.length:Int))) λg=>
ai (decide ((s.length:Int)<=17)) λf=>
ai (g&&f) λb=>
bF b default (pD s) λe=>
bF b default (iH e false) λa=>
ai (!a) λd=>
ai (b&&d) λc=>
some c
def cL(s:Q4):Option Q4:=
aM (aH (List.length s) 16)<|
some s
def uQ(m:Q9)(a:p7):Option (Q4×Int):=
(sC ([(0,(max 0 (i64.wrap ((a.1.length:Int)-1))))]:List pj)).bind λc=>
bif !c then some ([],9) else (cL m.2.1).bind λb=>
aM (aH (List.length b+List.length ([(0,(max 0 (i64.wrap ((a.1.length:Int)-1))))]:List pj)) 16)<|
some ((b++([(0,(max 0 (i64.wrap ((a.1.length:Int)-1))))]:List pj)),0)
def ct:Option zo:=
some ([154,155,156,157,158]:zo)
def np(most:Int):Option (Q6×Int):=
ai (decide (most<0)) λc=>
ai (decide (1048576<most)) λb=>
ai (c||b) λa=>
bif a then (
some ((0,[],[]),1)) else (
aM (decide (0<=8))<|
aM (aH (Int.toNat 8) 8)<|
some ((most,[],(List.replicate (Int.toNat 8) 0)),0))
def II(most:Int):Option ((Q6×Q1)×Int):=
(np most).bind λa=>
some ((a.1,[]),a.2)
def jh(b:Unit)(t:Q3)(o:W8):Option Ew:=
(II o.2.1).bind λa=>
some ((t.1,t.2.1,t.2.2.1,a.1,t.2.2.2.2.1,t.2.2.2.2.2.1,t.2.2.2.2.2.2.1,t.2.2.2.2.2.2.2),a.2)
def Fa(s:Q4)(most:Int)(e:(Q6×Int))(a:((List Q6)×Int)->Option (x4×Int)):(List Q6)×Int->Option (x4×Int):=λ⟨b,c⟩=>
bif decide (c<(i64.wrap (Int.tdiv (i64.wrap ((i64.wrap ((s.length:Int)+2))-1)) 2))) then (np most).bind λd=>
aM (aH (List.length b+List.length ([d.1]:List Q6)) 56)<|
a ((b++([d.1]:List Q6)),(i64.wrap (c+1))) else some ((b,e.1,[]),0)
def Hr(s:Q4)(most:Int):Option (x4×Int):=
(np most).bind λa=>
bif a.2 != 0 then some (([],(0,[],[]),[]),a.2) else ao (Fa s most a) ay ([],0)
def iz(b:Unit)(t:Q3)(o:W8):Option Ew:=
(Hr t.2.1 o.2.1).bind λa=>
some ((t.1,t.2.1,t.2.2.1,t.2.2.2.1,a.1,t.2.2.2.2.2.1,t.2.2.2.2.2.2.1,t.2.2.2.2.2.2.2),a.2)
def JQ(most:Int):Option (Q6×Int):=
(np most).bind λa=>
some (a.1,a.2)
def rq(a:Int->zf)(n:Int):zf:=
bif decide (n<2) then some 0 else (a (i64.wrap (Int.tdiv (i64.wrap (n+1)) 2))).bind λc=>
(a (i64.wrap (n-(i64.wrap (Int.tdiv (i64.wrap (n+1)) 2))))).bind λb=>
some (i64.wrap ((i64.wrap (1+c))+b))
def vI(n:Int):zf:=
 ao (λk (s:Int)=>rq k s) ay n
def FB(f:Q4)(d:(Q6×Int))(e:Int)(a:((List Q6)×Int)->Option (J1×Int)):(List Q6)×Int->Option (J1×Int):=λ⟨b,c⟩=>
bif decide (c<(max 1 e)) then aM (aH (List.length b+List.length ([d.1]:List Q6)) 56)<|
a ((b++([d.1]:List Q6)),(i64.wrap (c+1))) else some ((b,[]),0)
def Ho(s:Q4)(most:Int):Option (J1×Int):=
(JQ most).bind λa=>
bif a.2 != 0 then some (([],[]),a.2) else (vI (s.length:Int)).bind λb=>
ao (FB s a b) ay ([],0)
def iC(b:Unit)(t:Q3)(o:W8):Option Ew:=
(Ho t.2.1 o.2.1).bind λa=>
some ((t.1,t.2.1,t.2.2.1,t.2.2.2.1,t.2.2.2.2.1,a.1,t.2.2.2.2.2.2.1,t.2.2.2.2.2.2.2),a.2)
def Cp(a:pj->zf):Int×Int->zf:=λ⟨b,c⟩=>
bif decide (0<b) then a ((ij .u64 b 1),(i64.wrap (c+1))) else some c
def Ah(n:Int):zf:=
ao Cp ay (n,0)
def jS(f:pj):zf:=
(Ah (u64.wrap (i64.wrap (f.2-f.1)))).bind λa=>
some a
def sJ(s:Q4)(b:fv->Option Q1):Q1×Int->Option Q1:=λ⟨c,a⟩=>
bif decide (a<(s.length:Int)) then (idx s a).bind λe=>
(jS e).bind λd=>
(idx c a).bind λf=>
b ((List.set c (Int.toNat a) d),(i64.wrap (a+1))) else some c
def nV(s:Q4):Option Q1:=
aM (decide (0<=(s.length:Int)))<|
aM (aH (Int.toNat (s.length:Int)) 8)<|
ao (sJ s) ay ((List.replicate (Int.toNat (s.length:Int)) 0),0)
def yl(f:Q4)(d:Q1)(a:pj->zf):Int×Int->zf:=λ⟨e,b⟩=>
bif decide (b<(d.length:Int)) then (idx d b).bind λc=>
a ((i64.wrap (e+c)),(i64.wrap (b+1))) else some e
def Ab(s:Q4):zf:=
(nV s).bind λa=>
ao (yl s a) ay (0,0)
def o6(s:Q4):zf:=
(Ab s).bind λa=>
some (max 1 (i64.wrap (Int.tdiv (i64.wrap (a+7)) 8)))
def Mb(wide:Int):Option (NC×Int):=
ai (decide (wide<1)) λc=>
ai (decide (64<wide)) λb=>
ai (c||b) λa=>
bif a then (
some ((0,[],0,0,[]),1)) else (
some ((wide,[],(-1),0,[]),0))
def iP(u:Unit)(t:Q3)(b:(Int×cB×Int×Int×Q1×Int×cB×Int×Int×Q1×Int×cB×Int×Int×Q1×Int)->Option Ew):Int×cB×Int×Int×Q1×Int×cB×Int×Int×Q1×Int×cB×Int×Int×Q1×Int->Option Ew:=λ⟨r,q,p,o,n,m,l,k,j,i,h,g,f,e,d,c⟩=>
bif decide (c<3) then (o6 t.2.1).bind λs=>
(Mb s).bind λa=>
bif c==0 then b (a.1.1,a.1.2.1,a.1.2.2.1,a.1.2.2.2.1,a.1.2.2.2.2,m,l,k,j,i,h,g,f,e,d,(i64.wrap (c+1))) else bif c==1 then b (r,q,p,o,n,a.1.1,a.1.2.1,a.1.2.2.1,a.1.2.2.2.1,a.1.2.2.2.2,h,g,f,e,d,(i64.wrap (c+1))) else bif c==2 then b (r,q,p,o,n,m,l,k,j,i,a.1.1,a.1.2.1,a.1.2.2.1,a.1.2.2.2.1,a.1.2.2.2.2,(i64.wrap (c+1))) else none else some ((t.1,t.2.1,t.2.2.1,t.2.2.2.1,t.2.2.2.2.1,t.2.2.2.2.2.1,((r,q,p,o,n),(m,l,k,j,i),(h,g,f,e,d)),t.2.2.2.2.2.2.2),0)
def gI(x:Unit)(t:Q3)(o:W8):Option Ew:=
ai (decide (o.2.1<0)) λc=>
ai (decide (1048576<o.2.1)) λb=>
ai (c||b) λa=>
bif a then (
some (t,1)) else (
ao (iP x t) ay (t.2.2.2.2.2.2.1.1.1,t.2.2.2.2.2.2.1.1.2.1,t.2.2.2.2.2.2.1.1.2.2.1,t.2.2.2.2.2.2.1.1.2.2.2.1,t.2.2.2.2.2.2.1.1.2.2.2.2,t.2.2.2.2.2.2.1.2.1.1,t.2.2.2.2.2.2.1.2.1.2.1,t.2.2.2.2.2.2.1.2.1.2.2.1,t.2.2.2.2.2.2.1.2.1.2.2.2.1,t.2.2.2.2.2.2.1.2.1.2.2.2.2,t.2.2.2.2.2.2.1.2.2.1,t.2.2.2.2.2.2.1.2.2.2.1,t.2.2.2.2.2.2.1.2.2.2.2.1,t.2.2.2.2.2.2.1.2.2.2.2.2.1,t.2.2.2.2.2.2.1.2.2.2.2.2.2,0))
def aay(m:Int)(k:Int)(seed:Int)(a:(Q1×Q1×Q1×Int)->Option (sB×Int)):Q1×Q1×Q1×Int->Option (sB×Int):=λ⟨e,d,c,b⟩=>
bif decide (b<3) then aM (decide (0<=(i64.wrap (Int.tdiv (i64.wrap (m+7)) 8))))<|
aM (aH (Int.toNat (i64.wrap (Int.tdiv (i64.wrap (m+7)) 8))) 1)<|
bif b==0 then a ((List.replicate (Int.toNat (i64.wrap (Int.tdiv (i64.wrap (m+7)) 8))) 0),d,c,(i64.wrap (b+1))) else bif b==1 then a (e,(List.replicate (Int.toNat (i64.wrap (Int.tdiv (i64.wrap (m+7)) 8))) 0),c,(i64.wrap (b+1))) else bif b==2 then a (e,d,(List.replicate (Int.toNat (i64.wrap (Int.tdiv (i64.wrap (m+7)) 8))) 0),(i64.wrap (b+1))) else none else some ((m,k,seed,(e,d,c)),0)
def Z5(m:Int)(k:Int)(seed:Int):Option (sB×Int):=
ai (decide (m<1)) λg=>
ai (decide (4194304<m)) λf=>
ai (g||f) λe=>
ai (decide (k<1)) λd=>
ai (e||d) λc=>
ai (decide (16<k)) λb=>
ai (c||b) λa=>
bif a then (
some ((0,0,0,([],[],[])),1)) else (
ao (aay m k seed) ay ([],[],[],0))
def oD(e:Unit)(t:Q3)(o:W8):Option Ew:=
ai (decide (o.2.1<0)) λd=>
ai (decide (1048576<o.2.1)) λc=>
ai (d||c) λb=>
bif b then (
some (t,1)) else (
(Z5 o.2.2.2.2.1 o.2.2.2.2.2 o.2.2.2.1).bind λa=>
some ((t.1,t.2.1,t.2.2.1,t.2.2.2.1,t.2.2.2.2.1,t.2.2.2.2.2.1,t.2.2.2.2.2.2.1,a.1),a.2))
def jn(s:Q4)(o:W8):Option Ew:=
(sC s).bind λk=>
ai (!k) λp=>
ai (decide (o.1<0)) λn=>
ai (p||n) λh=>
bF (!h) default (ct) λj=>
ai (decide ((j.length:Int)<=o.1)) λm=>
ai (h||m) λl=>
bif l then (
some ((0,[],0,((0,[],[]),[]),([],(0,[],[]),[]),([],[]),((0,[],0,0,[]),(0,[],0,0,[]),(0,[],0,0,[])),(0,0,0,([],[],[]))),1)) else (
(ct).bind λi=>
(idx i o.1).bind λe=>
(cL s).bind λa=>
bif Nat.beq e 154 then (jh () (o.1,a,o.2.1,((0,[],[]),[]),([],(0,[],[]),[]),([],[]),((0,[],0,0,[]),(0,[],0,0,[]),(0,[],0,0,[])),(0,0,0,([],[],[]))) o).bind λg=>
bif g.2 != 0 then some ((0,[],0,((0,[],[]),[]),([],(0,[],[]),[]),([],[]),((0,[],0,0,[]),(0,[],0,0,[]),(0,[],0,0,[])),(0,0,0,([],[],[]))),g.2) else some (g.1,0) else bif Nat.beq e 155 then (iz () (o.1,a,o.2.1,((0,[],[]),[]),([],(0,[],[]),[]),([],[]),((0,[],0,0,[]),(0,[],0,0,[]),(0,[],0,0,[])),(0,0,0,([],[],[]))) o).bind λf=>
bif f.2 != 0 then some ((0,[],0,((0,[],[]),[]),([],(0,[],[]),[]),([],[]),((0,[],0,0,[]),(0,[],0,0,[]),(0,[],0,0,[])),(0,0,0,([],[],[]))),f.2) else some (f.1,0) else bif Nat.beq e 156 then (iC () (o.1,a,o.2.1,((0,[],[]),[]),([],(0,[],[]),[]),([],[]),((0,[],0,0,[]),(0,[],0,0,[]),(0,[],0,0,[])),(0,0,0,([],[],[]))) o).bind λd=>
bif d.2 != 0 then some ((0,[],0,((0,[],[]),[]),([],(0,[],[]),[]),([],[]),((0,[],0,0,[]),(0,[],0,0,[]),(0,[],0,0,[])),(0,0,0,([],[],[]))),d.2) else some (d.1,0) else bif Nat.beq e 157 then (gI () (o.1,a,o.2.1,((0,[],[]),[]),([],(0,[],[]),[]),([],[]),((0,[],0,0,[]),(0,[],0,0,[]),(0,[],0,0,[])),(0,0,0,([],[],[]))) o).bind λc=>
bif c.2 != 0 then some ((0,[],0,((0,[],[]),[]),([],(0,[],[]),[]),([],[]),((0,[],0,0,[]),(0,[],0,0,[]),(0,[],0,0,[])),(0,0,0,([],[],[]))),c.2) else some (c.1,0) else bif Nat.beq e 158 then (oD () (o.1,a,o.2.1,((0,[],[]),[]),([],(0,[],[]),[]),([],[]),((0,[],0,0,[]),(0,[],0,0,[]),(0,[],0,0,[])),(0,0,0,([],[],[]))) o).bind λb=>
bif b.2 != 0 then some ((0,[],0,((0,[],[]),[]),([],(0,[],[]),[]),([],[]),((0,[],0,0,[]),(0,[],0,0,[]),(0,[],0,0,[])),(0,0,0,([],[],[]))),b.2) else some (b.1,0) else none)
def Am(a:p7)(b:Q1)(some_:Q1):Option Q50:=
some (some_,a.1,a.2.1,a.2.2.1,a.2.2.2,b)
def xB(a:Bool):zf:=
bif a then (
some 1) else (
some 0)
def C4(d:Int)(c:Int)(a:Bool):zf:=
(xB ((decide (d<=c)) != a)).bind λb=>
some b
def Cw(d:Int)(c:Int)(a:Bool):zf:=
(xB ((decide (d<c)) != a)).bind λb=>
some b
def Dw(d:Int)(c:Int)(a:Bool):zf:=
(xB ((d==c) != a)).bind λb=>
some b
def CL(e:Ex)(a:Int)(b:Int)(d:(Int×Int×Bool)->zf)(c:(Int×Int×Bool)->zf):zf:=
bif e.op==12 then c (a,b,true) else bif e.op==9 then c (a,b,false) else bif e.op==11 then d (a,b,true) else bif e.op==10 then d (a,b,false) else bif e.op==13 then some 1 else bif e.op==15 then some (i64.wrap (1-a)) else bif e.op==16 then some (i64.wrap (a*b)) else bif e.op==17 then some (max a b) else bif e.op==18 then some (max (i64.wrap (1-a)) b) else some 0
def Dh(e:Int)(d:Int)(b:(Int×Int×Bool)->zf)(a:Unit->zf)(c:Bool):zf:=
bif c then (
b (e,d,false)) else (
a ())
def dX(x:(Ex×Q1)->zf)(e:Ex)(q:Q1)(b:kR->zf):Int×Int×Int->zf:=λ⟨a,c,d⟩=>
bif decide (d<(List.length (aT e.l 0 (min (List.length e.l:Int) 2)):Int)) then (idx (aT e.l 0 (min (List.length e.l:Int) 2)) d).bind λt=>
(x (t,q)).bind λk=>
bif d==0 then b (k,c,(i64.wrap (d+1))) else bif d==1 then b (a,k,(i64.wrap (d+1))) else none else ai (λ(j:Int×Int×Bool)=>C4 j.1 j.2.1 j.2.2) λp=>
ai (λ(i:Int×Int×Bool)=>Cw i.1 i.2.1 i.2.2) λo=>
ai (λ(h:Int×Int×Bool)=>Dw h.1 h.2.1 h.2.2) λg=>
bif e.op==1 then some e.n else bif e.op==2 then ai (decide (e.n<0)) λBk=>
ai (decide ((q.length:Int)<=e.n)) λv=>
ai (Bk||v) λu=>
bif u then (
some 0) else (
(idx q e.n).bind λs=>
some s) else bif e.op==3 then some (i64.wrap (a+c)) else bif e.op==5 then some (i64.wrap (a*c)) else bif e.op==6 then some (i64.wrap (0-a)) else bif e.op==4 then some (i64.wrap (a-c)) else bif e.op==8 then g (a,c,true) else ai (λ(w:Unit)=>CL e a c p o) λm=>
ai (λ(r:Bool)=>Dh a c g m r) λf=>
bif e.op==7 then f (e.op==7) else f (e.op==19)
def uG(b:(Ex×Q1)->zf)(e:Ex)(a:Q1):zf:=
aM (cR 0 (min (List.length e.l:Int) 2) (List.length e.l))<|
ao (dX b e a) ay (0,0,0)
def px(e:Ex)(a:Q1):zf:=
 ao (λk (s:(Ex×Q1))=>uG k s.1 s.2) ay (e,a)
def yZ(e:Ex)(x:Q1):zc:=
(px e x).bind λa=>
some (a != 1)
def dD(s:(List Ex))(c:Q1)(a:Int->zf)(b:Int):zf:=
bif decide (b<(s.length:Int)) then (idx s b).bind λe=>
(yZ e c).bind λd=>
bif d then (
some b) else (
a (i64.wrap (b+1))) else some (-1)
def gC(s:(List Ex))(c:Q1):zf:=
ao (dD s c) ay 0
def fG(s:(List Ex))(c:Q1):zc:=
(gC s c).bind λa=>
some (decide (0<=a))
def Ck(a:p7)(q:Int)(c:Q1):zc:=
(idx a.1 q).bind λd=>
(fG d c).bind λb=>
some (!b)
def bw(s:Q1):Option Q1:=
aM (aH (List.length s) 8)<|
some s
def im(b:Int)(a:Q1)(d:Int):Option Q1:=
(Qz a d b).bind λc=>
some c
def jA(dst:Q1)(i:Int)(c:Int):Option Q1:=
ai (λ(b:Q1×Int)=>im c b.1 b.2) λa=>
bif decide (i<0) then aM (aH (List.length dst+List.length ([45]:zn)) 1)<|
a ((dst++([45]:zn)),(u64.wrap (0-(u64.wrap i)))) else a (dst,(u64.wrap i))
def lq(dst:Q1)(i:Int)(a:Int):Option Q1:=
(jA dst i a).bind λb=>
some b
def rV(x:Q1)(l:(List Q1))(g:xE)(a:fv->Option Q54):Q1×Int->Option Q54:=λ⟨b,c⟩=>
bif decide (c<(x.length:Int)) then (idx x c).bind λf=>
aM (aH (List.length b+List.length ([32]:zn)) 1)<|
(lq (b++([32]:zn)) f 10).bind λd=>
a (d,(i64.wrap (c+1))) else bif !(dW g (strOf b) false) then (g).bind λe=>
aM (aH (List.length l+List.length ([x]:List Q1)) 24)<|
some ((l++([x]:List Q1)),(some (lz e (strOf b) true))) else some (l,g)
def PY(x:Q1)(l:(List Q1))(a:xE):Option Q54:=
ao (rV x l a) ay ([],0)
def sb(x:Q1)(l:(List Q1))(at_:xE):Option Q54:=
ai (λ(b:xE)=>PY x l b) λa=>
bif (Option.isNone at_) then a (some []:xE) else a at_
def sV(a:Q50)(b:(Int×(List Q1)×xE)->Option (List Q1)):Int×(List Q1)×xE->Option (List Q1):=λ⟨c,e,h⟩=>
bif decide (c<(a.1.length:Int)) then (idx a.1 c).bind λf=>
(Ck (a.2.1,a.2.2.1,a.2.2.2.1,a.2.2.2.2.1) f a.2.2.2.2.2).bind λi=>
bif i then (
(bw a.2.2.2.2.2).bind λg=>
aM (aH (List.length g+List.length ([f]:zn)) 8)<|
(sb (g++([f]:zn)) e h).bind λd=>
ai (!true) λj=>
bif j then (
some d.1) else (
b ((i64.wrap (c+1)),d.1,d.2))) else (
b ((i64.wrap (c+1)),e,h)) else some e
def Ap(m:Q9)(a:p7):Option (List Q1):=
(Am a m.2.2.1 a.2.2.1).bind λb=>
ao (sV b) ay (0,[],none)
def kF(f:pj)(n:Int):zc:=
ai (decide (f.1<=n)) λc=>
ai (decide (n<=f.2)) λb=>
ai (c&&b) λa=>
some a
def sn(s:Q4)(e:Q1)(a:Int->zf)(b:Int):zf:=
bif decide (b<(e.length:Int)) then (idx e b).bind λf=>
(idx s b).bind λd=>
(kF d f).bind λc=>
bif !c then some 5 else a (i64.wrap (b+1)) else some 0
def fe(s:Q4)(a:Q1):zf:=
bif (a.length:Int) != (s.length:Int) then some 1 else ao (sn s a) ay 0
def dF(t:Q3):zg:=
(ct).bind λb=>
(idx b t.1).bind λa=>
some a
def uR(b:Q1):Option Q1:=
aM (aH (List.length b) 1)<|
some b
def RW(w1:fv):Option fv:=
(uR w1.1).bind λa=>
some (a,w1.2)
def El(N:Int)(a:Q1):Option fv:=
some (a,(i64.wrap (N+1)))
def xA(one:Bool)(N:Int)(b:Q1):Option fv:=
ai (λ(c:Q1)=>El N c) λa=>
bif one then (
(idx b (i64.wrap (Int.tdiv N 8))).bind λd=>
aM (decide (0<=(Int.tmod N 8)))<|
(idx b (i64.wrap (Int.tdiv N 8))).bind λe=>
a (List.set b (Int.toNat (i64.wrap (Int.tdiv N 8))) (tT .u8 d (ij .u8 128 (Int.tmod N 8))))) else (
a b)
def wJ(one:Bool)(B:Q1)(N:Int):Option fv:=
ai (λ(b:Q1)=>xA one N b) λa=>
bif (Int.tmod N 8)==0 then aM (aH (List.length B+List.length ([0]:zn)) 1)<|
a (B++([0]:zn)) else a B
def FU(n:Int)(a:(Q1×Int×Int)->Option (fv×Int)):Q1×Int×Int->Option (fv×Int):=λ⟨e,d,b⟩=>
bif decide (0<=b) then aM (decide (0<=b))<|
(wJ ((pc .u64 (ij .u64 n b) 1)==1) e d).bind λc=>
a (c.1,c.2,(i64.wrap (b-1))) else some ((e,d),0)
def Hs(w1:fv)(n:Int)(wide:Int):Option (fv×Int):=
ai (decide (wide<0)) λe=>
ai (decide (64<wide)) λd=>
ai (e||d) λc=>
bif c then (
some (w1,1)) else (
(Ah n).bind λb=>
bif decide (wide<b) then some (w1,5) else (RW w1).bind λa=>
ao (FU n) ay (a.1,a.2,(i64.wrap (wide-1))))
def vC(s:Q4)(k:Q1)(e:Q1)(b:(Q1×Int×Int)->Option fv):Q1×Int×Int->Option fv:=λ⟨f,j,a⟩=>
bif decide (a<(e.length:Int)) then (idx e a).bind λi=>
(idx k a).bind λh=>
(idx s a).bind λg=>
(Hs (f,j) (u64.wrap (i64.wrap (h-g.1))) i).bind λd=>
b (d.1.1,d.1.2,(i64.wrap (a+1))) else (o6 s).bind λc=>
aM (decide (0<=c))<|
aM (aH (Int.toNat c) 1)<|
some ((xl (List.replicate (Int.toNat c) 0) f),0)
def kZ(s:Q4)(b:Q1):Option fv:=
(fe s b).bind λc=>
bif c != 0 then some ([],c) else (nV s).bind λa=>
ao (vC s b a) ay ([],0,0)
def eI(t:Q3)(a:Q1):Option Q1:=
(kZ t.2.1 a).bind λb=>
some b.1
def No(x:Int):zf:=
some (C7 .u64 x (ij .u64 x 29))
def Nx(x:Int):zf:=
some (u64.wrap (x*13787848793156543929))
def NH(x:Int):zf:=
some (C7 .u64 x (ij .u64 x 32))
def FK(b:Q1)(a:pj->zf):Int×Int->zf:=λ⟨h,c⟩=>
bif decide (c<(b.length:Int)) then (idx b c).bind λg=>
a ((u64.wrap ((C7 .u64 h (u64.wrap g))*1099511628211)),(i64.wrap (c+1))) else (No h).bind λf=>
(Nx f).bind λe=>
(NH e).bind λd=>
some d
def Cn(b:Q1)(seed:Int):zf:=
ao (FK b) ay ((C7 .u64 seed 11400714819323198485),0)
def vU(h:Int)(n:Int):zf:=
bif decide (n<1) then some 0 else aM ((u64.wrap n) != 0)<|
some (i64.wrap (Int.tmod h (u64.wrap n)))
def uD(a:Q1)(b:Q1):zc:=
some ((strOf a)==(strOf b))
def fS(e:Q6)(key:Q1)(b:Int->zf)(a:Int):zf:=
(idx e.2.2 a).bind λd=>
ai (d==0) λc=>
bF (!c) [] (idx e.2.1 (i64.wrap (d-1))) λg=>
bF (!c) default (uD g key) λf=>
ai (c||f) λh=>
bif h then (
some a) else (
aM ((e.2.2.length:Int) != 0)<|
b (Int.tmod (i64.wrap (a+1)) (e.2.2.length:Int)))
def fE(b:Q6)(key:Q1):zf:=
(Cn key 0).bind λc=>
(vU c (b.2.2.length:Int)).bind λa=>
ao (fS b key) ay a
def xC(b:Q6)(key:Q1):Option C5:=
bif (b.2.2.length:Int)==0 then some (0,false) else (fE b key).bind λc=>
(idx b.2.2 c).bind λa=>
some ((max (i64.wrap (a-1)) 0),(decide (0<a)))
def dH(t:Q6)(key:Q1):Option C5:=
(xC t key).bind λa=>
some (a.1,a.2)
def vG(e:Q6)(key:Q1)(b:Int->zf)(a:Int):zf:=
(idx e.2.2 a).bind λd=>
ai (d==0) λc=>
bF (!c) [] (idx e.2.1 (i64.wrap (d-1))) λg=>
bF (!c) default (uD g key) λf=>
ai (c||f) λh=>
bif h then (
some a) else (
aM ((e.2.2.length:Int) != 0)<|
b (Int.tmod (i64.wrap (a+1)) (e.2.2.length:Int)))
def nX(b:Q6)(key:Q1):zf:=
(Cn key 0).bind λc=>
(vU c (b.2.2.length:Int)).bind λa=>
ao (vG b key) ay a
def mO(e:Int)(g:(List Q1))(c:((List Q1)×Q1×Int)->Option ((List Q1)×Q1)):(List Q1)×Q1×Int->Option ((List Q1)×Q1):=λ⟨a,b,d⟩=>
bif decide (d<(g.length:Int)) then (idx a d).bind λh=>
(nX (e,a,b) h).bind λf=>
(idx ((e,a,b).2.2) f).bind λi=>
c ((e,a,b).2.1,(List.set ((e,a,b).2.2) (Int.toNat f) (i64.wrap (d+1))),(i64.wrap (d+1))) else some (a,b)
def pI(n:Int)(c:Int)(a:(List Q1))(b:Q1):Option ((List Q1)×Q1):=
aM (decide (0<=n))<|
aM (aH (Int.toNat n) 8)<|
ao (mO c a) ay (a,(List.replicate (Int.toNat n) 0),0)
def Qn(t:Q6)(a:(List Q1))(b:Q1):Option (Q6×Int×Bool×Int):=
some ((t.1,a,b),(t.2.1.length:Int),true,0)
def cg(t:Q6)(key:Q1):Option (Q6×Int×Bool×Int):=
(dH t key).bind λg=>
bif g.2 then (
some (t,g.1,false,0)) else (
bif decide (t.1<=(t.2.1.length:Int)) then some (t,0,false,7) else aM (kf 0 (t.2.1.length:Int) (t.2.1.length:Int) (List.length t.2.1)&&((t.2.1.length:Int)==(t.2.1.length:Int)))<|
(uR key).bind λb=>
aM (aH (List.length (aT t.2.1 0 (t.2.1.length:Int))+List.length ([b]:List Q1)) 24)<|
ai (λ(c:(List Q1)×Q1)=>Qn t c.1 c.2) λa=>
bif decide ((max (t.2.2.length:Int) 8)<(i64.wrap (2*(i64.wrap ((t.2.1.length:Int)+1))))) then (pI (i64.wrap (2*(max (t.2.2.length:Int) 8))) t.1 ((aT t.2.1 0 (t.2.1.length:Int))++([b]:List Q1)) t.2.2).bind λf=>
a (f.1,f.2) else (bw t.2.2).bind λe=>
(fE t key).bind λd=>
(idx e d).bind λh=>
a (((aT t.2.1 0 (t.2.1.length:Int))++([b]:List Q1)),(List.set e (Int.toNat d) (i64.wrap ((t.2.1.length:Int)+1)))))
def Ae(s:(Q6×Q1))(key:Q1):Option ((Q6×Q1)×Bool×Int):=
(cg s.1 key).bind λa=>
bif !a.2.2.1 then some (s,false,a.2.2.2) else aM (kf 0 (s.2.length:Int) (s.2.length:Int) (List.length s.2)&&((s.2.length:Int)==(s.2.length:Int)))<|
aM (aH (List.length (aT s.2 0 (s.2.length:Int))+List.length ([0]:zn)) 1)<|
some ((a.1,((aT s.2 0 (s.2.length:Int))++([0]:zn))),true,0)
def ku(d:Unit)(t:Q3)(b:Q1):Option ZY:=
(eI t b).bind λc=>
(Ae t.2.2.2.1 c).bind λa=>
some ((t.1,t.2.1,t.2.2.1,a.1,t.2.2.2.2.1,t.2.2.2.2.2.1,t.2.2.2.2.2.2.1,t.2.2.2.2.2.2.2),a.2.1,a.2.2)
def uK(s:Q4)(a:Q1):Option (Q4×Q1):=
some (s,a)
def yn(f:Int)(d:fv->Option Q1)(e:Int)(c:fv->Option Q1):Q1×Int->Option Q1:=λ⟨a,b⟩=>
bif decide (b<4) then aM (decide (0<=(i64.wrap (8*b))))<|
aM (aH (List.length a+List.length ([(u8.wrap (ij .i64 e (i64.wrap (8*b))))]:zn)) 1)<|
c ((a++([(u8.wrap (ij .i64 e (i64.wrap (8*b))))]:zn)),(i64.wrap (b+1))) else d (a,(i64.wrap (f+1)))
def yJ(a:Q1)(b:fv->Option Q1):Q1×Int->Option Q1:=λ⟨c,d⟩=>
bif decide (d<(a.length:Int)) then (idx a d).bind λe=>
ao (yn d b e) ay (c,0) else some c
def uF(row:Q1)(a:Q1):Option Q1:=
ao (yJ a) ay (row,0)
def oS(c:x4)(m:Q4)(d:(Q4×Q1))(b:(Int×Int×Q1)->zf):Int×Int×Q1->zf:=λ⟨a,l,e⟩=>
bif decide ((i64.wrap (a*2))<(d.1.length:Int)) then aM (cR (i64.wrap (a*2)) (min (d.1.length:Int) (i64.wrap ((i64.wrap (a+1))*2))) (List.length d.1))<|
aM (cR (i64.wrap (a*2)) (min (d.1.length:Int) (i64.wrap ((i64.wrap (a+1))*2))) (List.length d.2))<|
(kZ (aT d.1 (i64.wrap (a*2)) (min (d.1.length:Int) (i64.wrap ((i64.wrap (a+1))*2)))) (aT d.2 (i64.wrap (a*2)) (min (d.1.length:Int) (i64.wrap ((i64.wrap (a+1))*2))))).bind λj=>
(idx c.1 a).bind λk=>
(dH k j.1).bind λi=>
bif !i.2 then bif !false then some (-1) else b ((i64.wrap (a+1)),(-1),e) else (uF e ([i.1]:zn)).bind λh=>
bif !true then (dH c.2.1 h).bind λg=>
bif !g.2 then some (-1) else some g.1 else b ((i64.wrap (a+1)),l,h) else (dH c.2.1 e).bind λf=>
bif !f.2 then some (-1) else some f.1
def te(c:x4)(s:Q4)(a:Q1):zf:=
(uK s a).bind λb=>
ao (oS c s b) ay (0,0,[])
def wQ(t:Q6):zf:=
some (t.2.1.length:Int)
def Aq(c:x4):zf:=
(wQ c.2.1).bind λa=>
some a
def dx(s:(List Q6)):Option (List Q6):=
aM (aH (List.length s) 56)<|
some s
def lK(c:x4)(n:Q4)(b:(Q4×Q1))(e:(Int×(List Q6)×Q1)->Option Q51):Int×(List Q6)×Q1->Option Q51:=λ⟨a,d,j⟩=>
bif decide ((i64.wrap (a*2))<(b.1.length:Int)) then aM (cR (i64.wrap (a*2)) (min (b.1.length:Int) (i64.wrap ((i64.wrap (a+1))*2))) (List.length b.1))<|
aM (cR (i64.wrap (a*2)) (min (b.1.length:Int) (i64.wrap ((i64.wrap (a+1))*2))) (List.length b.2))<|
(kZ (aT b.1 (i64.wrap (a*2)) (min (b.1.length:Int) (i64.wrap ((i64.wrap (a+1))*2)))) (aT b.2 (i64.wrap (a*2)) (min (b.1.length:Int) (i64.wrap ((i64.wrap (a+1))*2))))).bind λk=>
(idx d a).bind λl=>
(cg l k.1).bind λf=>
(uF j ([f.2.1]:zn)).bind λg=>
(idx d a).bind λm=>
bif !true then (cg c.2.1 g).bind λi=>
aM (kf 0 (c.2.2.length:Int) (c.2.2.length:Int) (List.length c.2.2)&&((c.2.2.length:Int)==(c.2.2.length:Int)))<|
aM (aH (List.length (aT c.2.2 0 (c.2.2.length:Int))+List.length ([0]:zn)) 1)<|
some (((List.set d (Int.toNat a) f.1),i.1,((aT c.2.2 0 (c.2.2.length:Int))++([0]:zn))),true,0) else e ((i64.wrap (a+1)),(List.set d (Int.toNat a) f.1),g) else (cg c.2.1 j).bind λh=>
aM (kf 0 (c.2.2.length:Int) (c.2.2.length:Int) (List.length c.2.2)&&((c.2.2.length:Int)==(c.2.2.length:Int)))<|
aM (aH (List.length (aT c.2.2 0 (c.2.2.length:Int))+List.length ([0]:zn)) 1)<|
some ((d,h.1,((aT c.2.2 0 (c.2.2.length:Int))++([0]:zn))),true,0)
def yU(c:x4)(s:Q4)(a:Q1):Option Q51:=
(fe s a).bind λb=>
bif b != 0 then some (c,false,b) else (te c s a).bind λg=>
bif decide (0<=g) then some (c,false,0) else (Aq c).bind λf=>
bif decide (c.2.1.1<=f) then some (c,false,7) else (dx c.1).bind λe=>
(uK s a).bind λd=>
ao (lK c s d) ay (0,e,[])
def jH(c:Unit)(t:Q3)(b:Q1):Option ZY:=
(yU t.2.2.2.2.1 t.2.1 b).bind λa=>
some ((t.1,t.2.1,t.2.2.1,t.2.2.2.1,a.1,t.2.2.2.2.2.1,t.2.2.2.2.2.2.1,t.2.2.2.2.2.2.2),a.2.1,a.2.2)
def xD(s:Q4)(f:Q1)(b:fv->Option Q1):Q1×Int->Option Q1:=λ⟨a,c⟩=>
bif decide (c<(f.length:Int)) then (idx f c).bind λe=>
(idx s c).bind λd=>
aM (aH (List.length a+List.length ([(u32.wrap (i64.wrap (e-d.1)))]:zn)) 4)<|
b ((a++([(u32.wrap (i64.wrap (e-d.1)))]:zn)),(i64.wrap (c+1))) else some a
def xL(s:Q4)(a:Q1):Option Q1:=
ao (xD s a) ay ([],0)
abbrev aoC{r:Type}(i x c d e f g h l m:Int)(k:Int->Int->Int->Int->Int->Int->Int->Int->Option r):Option r:=bif i==0 then k x d e f g h l m else bif i==1 then k c x e f g h l m else bif i==2 then k c d x f g h l m else bif i==3 then k c d e x g h l m else bif i==4 then k c d e f x h l m else bif i==5 then k c d e f g x l m else bif i==6 then k c d e f g h x m else bif i==7 then k c d e f g h l x else none
def aaF(a:Int)(b:Int)(j:(Int×Int×Int×Int×Int×Int×Int×Int×Int)->Option Q39):Int×Int×Int×Int×Int×Int×Int×Int×Int->Option Q39:=λ⟨t,s,r,q,p,o,n,k,i⟩=>
bif decide (i<4) then aM (decide (0<=(i64.wrap (8*i))))<|
aM (decide (0<=(i64.wrap (8*i))))<|
aoC i (u8.wrap (ij .u32 a (i64.wrap (8*i)))) t s r q p o n k λc d e f g h l m=>
aoC (i64.wrap (4+i)) (u8.wrap (ij .u32 b (i64.wrap (8*i)))) c d e f g h l m λc d e f g h l m=>
j (c,d,e,f,g,h,l,m,(i64.wrap (i+1))) else some (t,s,r,q,p,o,n,k)
def HM(a:Int)(b:Int):Option Q39:=
ao (aaF a b) ay (0,0,0,0,0,0,0,0,0)
def tM(p:Q39):Option Q1:=
some ([p.1,p.2.1,p.2.2.1,p.2.2.2.1,p.2.2.2.2.1,p.2.2.2.2.2.1,p.2.2.2.2.2.2.1,p.2.2.2.2.2.2.2]:zn)
def B0(p:Q6)(a:Int)(b:Int):Option C5:=
(HM a b).bind λd=>
(tM d).bind λr11=>
(dH p r11).bind λc=>
some (c.1,c.2)
def oP(row:Int)(a:Int)(c:Int)(b:(List Q6)):Option y2:=
(idx b row).bind λe3=>
(B0 e3 a c).bind λr11=>
bif !r11.2 then some (.error row) else some (.ok (u32.wrap r11.1))
def lW(f:Q46->Option y2)(row:Int)(l:Q1)(a:(List Q6)):Option y2:=
bif (l.length:Int)==1 then (idx l 0).bind λe4=>
some (.ok e4) else aM (cR 0 (i64.wrap (Int.tdiv (i64.wrap ((l.length:Int)+1)) 2)) (List.length l))<|
BG (f ((i64.wrap (row+1)),(aT l 0 (i64.wrap (Int.tdiv (i64.wrap ((l.length:Int)+1)) 2))),a)) λe=>
aM (cR (i64.wrap (Int.tdiv (i64.wrap ((l.length:Int)+1)) 2)) ((List.length l):Int) (List.length l))<|
(vI (i64.wrap (Int.tdiv (i64.wrap ((l.length:Int)+1)) 2))).bind λd=>
BG (f ((i64.wrap ((i64.wrap (row+1))+d)),(aT l (i64.wrap (Int.tdiv (i64.wrap ((l.length:Int)+1)) 2)) ((List.length l):Int)),a)) λc=>
BG (oP row e c a) λb=>
some (.ok b)
def tH(row:Int)(l:Q1)(a:(List Q6)):Option y2:=
 ao (λk (s:Q46)=>lW k s.1 s.2.1 s.2.2) ay (row,l,a)
def nu(l:Q1)(a:(List Q6)):Option y2:=
bif (l.length:Int)==1 then (idx l 0).bind λd=>
BG (oP 0 d 0 a) λc=>
some (.ok c) else BG (tH 0 l a) λb=>
some (.ok b)
def vN(t:J1)(s:Q4)(d:Q1):Option C5:=
(xL s d).bind λb=>
gi (nu b t.1) (λc=>
some (0,false)) λa=>
some ((i64.wrap a),true)
def HQ(p:Q6):zf:=
(wQ p).bind λa=>
some a
def EE(t:J1):zf:=
bif (t.1.length:Int)==0 then some 0 else (idx t.1 0).bind λb=>
(HQ b).bind λa=>
some a
def eO(s:(List Q6)):Option (List Q6):=
aM (aH (List.length s) 56)<|
some s
def wR(p:Q6)(a:Int)(b:Int):Option (Q6×Int×Bool×Int):=
(HM a b).bind λe=>
(tM e).bind λd=>
(cg p d).bind λc=>
some (c.1,c.2.1,c.2.2.1,c.2.2.2)
def lP(row:Int)(a:Int)(e:Int)(b:(List Q6)):Option Q53:=
(idx b row).bind λe4=>
(wR e4 a e).bind λc=>
(idx b row).bind λd=>
some ((u32.wrap c.2.1),(List.set b (Int.toNat row) c.1))
def jM(e:Q46->Option Q53)(row:Int)(l:Q1)(a:(List Q6)):Option Q53:=
bif (l.length:Int)==1 then (idx l 0).bind λf=>
some (f,a) else aM (cR 0 (i64.wrap (Int.tdiv (i64.wrap ((l.length:Int)+1)) 2)) (List.length l))<|
(e ((i64.wrap (row+1)),(aT l 0 (i64.wrap (Int.tdiv (i64.wrap ((l.length:Int)+1)) 2))),a)).bind λr11=>
aM (cR (i64.wrap (Int.tdiv (i64.wrap ((l.length:Int)+1)) 2)) ((List.length l):Int) (List.length l))<|
(vI (i64.wrap (Int.tdiv (i64.wrap ((l.length:Int)+1)) 2))).bind λd=>
(e ((i64.wrap ((i64.wrap (row+1))+d)),(aT l (i64.wrap (Int.tdiv (i64.wrap ((l.length:Int)+1)) 2)) ((List.length l):Int)),r11.2)).bind λc=>
(lP row r11.1 c.1 c.2).bind λb=>
some (b.1,b.2)
def uk(row:Int)(l:Q1)(a:(List Q6)):Option Q53:=
 ao (λk (s:Q46)=>jM k s.1 s.2.1 s.2.2) ay (row,l,a)
def nP(l:Q1)(a:(List Q6)):Option Q53:=
bif (l.length:Int)==1 then (idx l 0).bind λd=>
(lP 0 d 0 a).bind λc=>
some (c.1,c.2) else (uk 0 l a).bind λb=>
some (b.1,b.2)
def y5(t:J1)(s:Q4)(b:Q1):Option (J1×Bool×Int):=
(fe s b).bind λa=>
bif a != 0 then some (t,false,a) else (vN t s b).bind λg=>
bif g.2 then (
some (t,false,0)) else (
(idx t.1 0).bind λh=>
(EE t).bind λf=>
bif decide (h.1<=f) then some (t,false,7) else (eO t.1).bind λe=>
(xL s b).bind λd=>
(nP d e).bind λc=>
aM (kf 0 (t.2.length:Int) (t.2.length:Int) (List.length t.2)&&((t.2.length:Int)==(t.2.length:Int)))<|
aM (aH (List.length (aT t.2 0 (t.2.length:Int))+List.length ([0]:zn)) 1)<|
some ((c.2,((aT t.2 0 (t.2.length:Int))++([0]:zn))),true,0))
def jI(c:Unit)(t:Q3)(b:Q1):Option ZY:=
(y5 t.2.2.2.2.2.1 t.2.1 b).bind λa=>
some ((t.1,t.2.1,t.2.2.1,t.2.2.2.1,t.2.2.2.2.1,a.1,t.2.2.2.2.2.2.1,t.2.2.2.2.2.2.2),a.2.1,a.2.2)
def tI(x:Int):zc:=
some (x != x)
def mF(x:Int)(y:Int):zf:=
(tI x).bind λb=>
(tI y).bind λa=>
bif b then (
bif a then (
some 0) else (
some (-1))) else (
bif a then (
some 1) else (
bif decide (x<y) then some (-1) else bif decide (y<x) then some 1 else some 0))
def As(e:pj)(by_:Int):zf:=
(mF e.1 by_).bind λa=>
some a
def cn(x:Q4)(target:Int)(a:pj->Option C5):Int×Int->Option C5:=λ⟨b,d⟩=>
bif decide (b<d) then (idx x (i64.wrap (ij .u64 (u64.wrap (i64.wrap (b+d))) 1))).bind λi=>
(As i target).bind λr11=>
bif decide (r11<0) then a ((i64.wrap ((i64.wrap (ij .u64 (u64.wrap (i64.wrap (b+d))) 1))+1)),d) else a (b,(i64.wrap (ij .u64 (u64.wrap (i64.wrap (b+d))) 1))) else ai (decide (b<(x.length:Int))) λc=>
bF c (0,0) (idx x b) λf=>
bF c default (As f target) λe=>
ai (e==0) λh=>
ai (c&&h) λg=>
some (b,g)
def bC(x:Q4)(target:Int):Option C5:=
ao (cn x target) ay (0,(x.length:Int))
def Ag(d:NC)(at_:Int)(by_:Int):zf:=
bif at_==(-1) then some (-1) else (idx d.2.1 at_).bind λe=>
(bC e.1 by_).bind λa=>
bif !a.2 then some (-1) else (idx d.2.1 at_).bind λc=>
(idx c.1 a.1).bind λb=>
some b.2
def tz(d:NC)(c:Q1)(a:pj->zc):Int×Int->zc:=λ⟨b,e⟩=>
bif decide (e<(c.length:Int)) then (idx c e).bind λg=>
(Ag d b g).bind λf=>
a (f,(i64.wrap (e+1))) else ai ((c.length:Int)==d.1) λl=>
ai (decide (0<d.1)) λk=>
ai (l&&k) λj=>
ai (b != (-1)) λi=>
ai (j&&i) λh=>
some h
def oO(d:NC)(a:Q1):zc:=
ao (tz d a) ay (d.2.2.1,0)
def H7(d:NC):zf:=
some d.2.2.2.1
def dJ(s:cB):Option cB:=
aM (aH (List.length s) 32)<|
some s
def gT(e:Q4)(f:Q4)(a:Int->zc)(d:Int):zc:=
bif decide (d<(e.length:Int)) then (idx e d).bind λc=>
(idx f d).bind λb=>
bif !(ahk c.1 c.2 b.1 b.2) then some false else a (i64.wrap (d+1)) else some true
def fA(b:Q4)(a:Q4):zc:=
bif (b.length:Int) != (a.length:Int) then some false else ao (gT b a) ay 0
def ik(d:Q4)(b:cB)(c:Eg)(a:Int->Option C5)(e:Int):Option C5:=
bif decide (e<(b.length:Int)) then (idx b e).bind λk=>
ai (decide (0<k.2)) λj=>
ai (dW c e false) λi=>
ai (j||i) λf=>
bF f default (fA k.1 d) λg=>
ai (f&&g) λh=>
bif h then (
some (e,true)) else (
a (i64.wrap (e+1))) else some ((-1),false)
def AT(b:Q4)(d:Int)(c:cB)(e:Int)(f:Int)(g:Q1)(a:Eg):Option C5:=
ao (ik b c a) ay 0
def kx(h:Q1):zf:=
some (h.length:Int)
def gQ(h:Q1)(i:Int)(j:Int):Option Q1:=
(idx h j).bind λa=>
(idx h i).bind λc=>
(idx h i).bind λd=>
(idx (List.set h (Int.toNat i) a) j).bind λb=>
some (List.set (List.set h (Int.toNat i) a) (Int.toNat j) c)
def gO(h:Q1)(i:Int)(j:Int):zc:=
(idx h i).bind λb=>
(idx h j).bind λa=>
some (decide (b<a))
def nY(g:Int)(e:Q1)(f:Int)(a:fv->Option (Bool×Q1))(b:Int):Option (Bool×Q1):=
(gO e b f).bind λd=>
bif !d then some ((decide (g<f)),e) else (gQ e f b).bind λc=>
a (c,b)
def gR(k:Int)(n:Int)(b:fv->Option (Bool×Q1)):Q1×Int->Option (Bool×Q1):=λ⟨g,a⟩=>
ai (decide (n<=(i64.wrap ((i64.wrap (2*a))+1)))) λb8=>
ai (decide ((i64.wrap ((i64.wrap (2*a))+1))<0)) λj=>
ai (b8||j) λi=>
bif i then (
some ((decide (k<a)),g)) else (
ai (λ(e:Int)=>nY k g a b e) λc=>
ai (decide ((i64.wrap ((i64.wrap ((i64.wrap (2*a))+1))+1))<n)) λd=>
bF d default (gO g (i64.wrap ((i64.wrap ((i64.wrap (2*a))+1))+1)) (i64.wrap ((i64.wrap (2*a))+1))) λf=>
ai (d&&f) λh=>
bif h then (
c (i64.wrap ((i64.wrap ((i64.wrap (2*a))+1))+1))) else (
c (i64.wrap ((i64.wrap (2*a))+1))))
def rE(a:Int)(n:Int)(h:Q1):Option (Bool×Q1):=
ao (gR a n) ay (h,a)
def wO(h:Q1):Option Cu:=
(idx h (i64.wrap ((h.length:Int)-1))).bind λa=>
aM (cR 0 (i64.wrap ((h.length:Int)-1)) (List.length h))<|
some (a,(aT h 0 (i64.wrap ((h.length:Int)-1))))
def nS(h:Q1):Option Cu:=
(kx h).bind λr1=>
(gQ h 0 (i64.wrap (r1-1))).bind λc=>
(rE 0 (i64.wrap (r1-1)) c).bind λb=>
(wO b.2).bind λa=>
some (a.1,a.2)
def tL(e:Int)(a:cB)(f:Int)(g:Int)(b:Q1)(d:Eg):Option (Int×cB×Q1):=
bif (b.length:Int)==0 then aM (aH (List.length a+List.length ([([],0)]:List (Q4×Int))) 32)<|
some ((i64.wrap ((List.length (a++([([],0)]:List (Q4×Int))):Int)-1)),(a++([([],0)]:List (Q4×Int))),b) else (nS b).bind λc=>
some (c.1,a,c.2)
def lV(a:Q4)(e:(Int×cB×Q1))(g:(List C5))(b:(cB×Int)->Option Ji):cB×Int->Option Ji:=λ⟨c,d⟩=>
bif decide (d<(a.length:Int)) then (idx a d).bind λf=>
(idx c f.2).bind λi=>
(idx c f.2).bind λh=>
b ((List.set c (Int.toNat f.2) (h.1,(i64.wrap (i.2+1)))),(i64.wrap (d+1))) else some (e.1,c,e.2.2,(some (lz g e.1 true)))
def rb(b:Q4)(f:Int)(d:cB)(g:Int)(h:Int)(e:Q1)(a:Eg):Option Ji:=
(AT b f d g h e a).bind λr11=>
bif r11.2 then (
some (r11.1,d,e,a)) else (
(tL f d g h e a).bind λc=>
(idx c.2.1 c.1).bind λj=>
(a).bind λi=>
ao (lV b c i) ay ((List.set c.2.1 (Int.toNat c.1) (b,0)),0))
def K4(d:NC)(at_:Int)(by_:Int):zf:=
bif at_==(-1) then some (-1) else (idx d.2.1 at_).bind λe=>
(bC e.1 by_).bind λa=>
bif !a.2 then some (-1) else (idx d.2.1 at_).bind λc=>
(idx c.1 a.1).bind λb=>
some b.2
def xd(e:pj)(by_:Int):zf:=
(mF e.1 by_).bind λa=>
some a
def kY(x:Q4)(target:Int)(a:pj->Option C5):Int×Int->Option C5:=λ⟨b,d⟩=>
bif decide (b<d) then (idx x (i64.wrap (ij .u64 (u64.wrap (i64.wrap (b+d))) 1))).bind λi=>
(xd i target).bind λr11=>
bif decide (r11<0) then a ((i64.wrap ((i64.wrap (ij .u64 (u64.wrap (i64.wrap (b+d))) 1))+1)),d) else a (b,(i64.wrap (ij .u64 (u64.wrap (i64.wrap (b+d))) 1))) else ai (decide (b<(x.length:Int))) λc=>
bF c (0,0) (idx x b) λf=>
bF c default (xd f target) λe=>
ai (e==0) λh=>
ai (c&&h) λg=>
some (b,g)
def cm(x:Q4)(target:Int):Option C5:=
ao (kY x target) ay (0,(x.length:Int))
def fy(s:Q4):Option Q4:=
aM (aH (List.length s) 16)<|
some s
def wL(d:Int)(e:Int)(f:Int)(c:Ji)(b:Q4):Option Ji:=
(rb b d c.2.1 e f c.2.2.1 c.2.2.2).bind λa=>
some (a.1,a.2.1,a.2.2.1,a.2.2.2)
def xg(r:Q40->Option Ji)(at_:Int)(b:Q1)(c:Int)(f:cB)(d:Int)(e:Int)(g:Q1)(j:Eg)(a:Q4):Option Ji:=
(idx b 0).bind λl=>
(idx b 0).bind λp=>
aM (cR 1 ((List.length b):Int) (List.length b))<|
(K4 (c,f,d,e,g) at_ p).bind λo=>
(r (o,(aT b 1 ((List.length b):Int)),c,(c,f,d,e,g).2.1,d,e,(c,f,d,e,g).2.2.2.2,j)).bind λk=>
(cm a l).bind λh=>
ai (λ(m:Q4)=>wL c d e k m) λi=>
bif h.2 then (
(idx a h.1).bind λq=>
i (List.set a (Int.toNat h.1) (l,k.1))) else (
(Ug 16 a h.1 ([(l,k.1)]:List pj)).bind λn=>
i n)
def lM(m:Q40->Option Ji)(at_:Int)(d:Q1)(f:Int)(b:cB)(g:Int)(h:Int)(i:Q1)(a:Eg):Option Ji:=
bif (d.length:Int)==0 then (rb [] f b g h i a).bind λc=>
some (c.1,c.2.1,c.2.2.1,c.2.2.2) else ai (λ(j:Q4)=>xg m at_ d f b g h i a j) λe=>
bif at_ != (-1) then (idx b at_).bind λl=>
(fy l.1).bind λk=>
e k else e []
def wK(at_:Int)(b:Q1)(c:Int)(e:cB)(d:Int)(f:Int)(g:Q1)(a:Eg):Option Ji:=
 ao (λk (s:Q40)=>lM k s.1 s.2.1 s.2.2.1 s.2.2.2.1 s.2.2.2.2.1 s.2.2.2.2.2.1 s.2.2.2.2.2.2.1 s.2.2.2.2.2.2.2) ay (at_,b,c,e,d,f,g,a)
def vd(x:Int)(h:Q1):Option Q1:=
aM (aH (List.length h+List.length ([x]:zn)) 8)<|
some (h++([x]:zn))
def mZ(a:fv->Option Q1):Q1×Int->Option Q1:=λ⟨d,b⟩=>
ai ((i64.wrap (Int.tdiv (i64.wrap (b-1)) 2))==b) λg=>
bF (!g) default (gO d b (i64.wrap (Int.tdiv (i64.wrap (b-1)) 2))) λh=>
ai (!h) λf=>
ai (g||f) λe=>
bif e then (
some d) else (
(gQ d (i64.wrap (Int.tdiv (i64.wrap (b-1)) 2)) b).bind λc=>
a (c,(i64.wrap (Int.tdiv (i64.wrap (b-1)) 2))))
def pR(j:Int)(h:Q1):Option Q1:=
ao mZ ay (h,j)
def mP(x:Int)(h:Q1):Option Q1:=
(vd x h).bind λc=>
(kx c).bind λb=>
(pR (i64.wrap (b-1)) c).bind λa=>
some a
def oG(o:Q44->Option (cB×Q1))(i:Int)(h:Int)(j:Int)(k:Int)(b:Eg)(f:(Q4×Int))(a:(cB×Q1×Int)->Option (cB×Q1)):cB×Q1×Int->Option (cB×Q1):=λ⟨d,g,c⟩=>
bif decide (c<(f.1.length:Int)) then (idx f.1 c).bind λm=>
(o (m.2,h,d,j,k,g,b)).bind λe=>
a (e.1,e.2,(i64.wrap (c+1))) else (idx d i).bind λn=>
(mP i g).bind λl=>
some ((List.set d (Int.toNat i) ([],0)),l)
def pW(l:Q44->Option (cB×Q1))(i:Int)(e:Int)(a:cB)(f:Int)(g:Int)(c:Q1)(d:Eg):Option (cB×Q1):=
(idx a i).bind λh=>
(idx a i).bind λb=>
(idx (List.set a (Int.toNat i) (b.1,(i64.wrap (h.2-1)))) i).bind λk=>
bif decide (0<k.2) then some ((List.set a (Int.toNat i) (b.1,(i64.wrap (h.2-1)))),c) else (idx (List.set a (Int.toNat i) (b.1,(i64.wrap (h.2-1)))) i).bind λj=>
ao (oG l i e f g d j) ay ((List.set a (Int.toNat i) (b.1,(i64.wrap (h.2-1)))),c,0)
def tC(i:Int)(b:Int)(d:cB)(c:Int)(e:Int)(f:Q1)(a:Eg):Option (cB×Q1):=
 ao (λk (s:Q44)=>pW k s.1 s.2.1 s.2.2.1 s.2.2.2.1 s.2.2.2.2.1 s.2.2.2.2.2.1 s.2.2.2.2.2.2) ay (i,b,d,c,e,f,a)
def A0(d:NC)(a:Ji)(b:cB)(c:Q1):Option (NC×Bool×Int):=
some ((d.1,b,a.1,(i64.wrap (d.2.2.2.1+1)),c),true,0)
def fw(d:NC)(b:Q1):Option (NC×Bool×Int):=
ai ((b.length:Int) != d.1) λn=>
ai (d.1==0) λm=>
ai (n||m) λl=>
bif l then (
some (d,false,1)) else (
(oO d b).bind λk=>
bif k then (
some (d,false,0)) else (
(dJ d.2.1).bind λj=>
(bw d.2.2.2.2).bind λi=>
(wK d.2.2.1 b d.1 j d.2.2.1 d.2.2.2.1 i (some []:Eg)).bind λa=>
(idx a.2.1 a.1).bind λh=>
(idx a.2.1 a.1).bind λg=>
ai (λ(e:cB×Q1)=>A0 d a e.1 e.2) λc=>
bif d.2.2.1 != (-1) then (tC d.2.2.1 d.1 (List.set a.2.1 (Int.toNat a.1) (g.1,(i64.wrap (h.2+1)))) a.1 d.2.2.2.1 a.2.2.1 a.2.2.2).bind λf=>
c (f.1,f.2) else c ((List.set a.2.1 (Int.toNat a.1) (g.1,(i64.wrap (h.2+1)))),a.2.2.1)))
def kq(f:Unit)(t:Q3)(b:Q1):Option ZY:=
(eI t b).bind λa=>
(oO t.2.2.2.2.2.2.1.1 a).bind λe=>
bif e then (
some (t,false,0)) else (
(H7 t.2.2.2.2.2.2.1.1).bind λd=>
bif decide (t.2.2.1<=d) then some (t,false,7) else (fw t.2.2.2.2.2.2.1.1 a).bind λc=>
some ((t.1,t.2.1,t.2.2.1,t.2.2.2.1,t.2.2.2.2.1,t.2.2.2.2.2.1,(c.1,t.2.2.2.2.2.2.1.2.1,t.2.2.2.2.2.2.1.2.2),t.2.2.2.2.2.2.2),true,0))
def AO(b:Q1)(seed:Int)(k:Int)(n:Int)(c:fv->Option Q1):Q1×Int->Option Q1:=λ⟨a,e⟩=>
bif decide (e<(max k 0)) then (Cn b (u64.wrap (seed+(u64.wrap e)))).bind λf=>
(vU f n).bind λd=>
aM (aH (List.length a+List.length ([d]:zn)) 8)<|
c ((a++([d]:zn)),(i64.wrap (e+1))) else some a
def nG(b:Q1)(seed:Int)(k:Int)(n:Int):Option Q1:=
ao (AO b seed k n) ay ([],0)
def DI(b:sB)(j:Bool)(i:Q1)(a:CZ->zc):Bool×Int->zc:=λ⟨e,c⟩=>
bif decide (c<(i.length:Int)) then (idx i c).bind λd=>
(idx b.2.2.2.1 (i64.wrap (Int.tdiv d 8))).bind λf=>
aM (decide (0<=(Int.tmod d 8)))<|
ai ((pc .u8 f (kV .u8 1 (Int.tmod d 8))) != 0) λh=>
ai (e&&h) λg=>
a (g,(i64.wrap (c+1))) else some e
def Kd(b:sB)(key:Q1)(c:Bool):zc:=
(nG key b.2.2.1 b.2.1 b.1).bind λa=>
ao (DI b c a) ay (c,0)
def NX(b:sB)(key:Q1):zc:=
(Kd b key true).bind λa=>
some a
def uI(b:sB)(key:Q1):zc:=
(NX b key).bind λa=>
some a
def cr(s:Q1):Option Q1:=
aM (aH (List.length s) 1)<|
some s
def nH(f:Q1)(a:fv->Option Q1):Q1×Int->Option Q1:=λ⟨d,c⟩=>
bif decide (c<(f.length:Int)) then (idx f c).bind λb=>
(idx d (i64.wrap (Int.tdiv b 8))).bind λe=>
aM (decide (0<=(Int.tmod b 8)))<|
a ((List.set d (Int.toNat (i64.wrap (Int.tdiv b 8))) (tT .u8 e (kV .u8 1 (Int.tmod b 8)))),(i64.wrap (c+1))) else some d
def wV(b:sB)(key:Q1):Option Q1:=
(nG key b.2.2.1 b.2.1 b.1).bind λa=>
ao (nH a) ay (b.2.2.2.1,0)
def Pk(b:sB)(key:Q1):Option sB:=
(cr b.2.2.2.1).bind λc=>
(wV (b.1,b.2.1,b.2.2.1,(c,b.2.2.2.2.1,b.2.2.2.2.2)) key).bind λa=>
some (b.1,b.2.1,b.2.2.1,(a,b.2.2.2.2.1,b.2.2.2.2.2))
def yX(b:sB)(key:Q1):Option (sB×Bool):=
(uI b key).bind λc=>
bif c then (
some (b,false)) else (
(Pk b key).bind λa=>
some (a,true))
def km(d:Unit)(t:Q3)(b:Q1):Option ZY:=
(eI t b).bind λc=>
(yX t.2.2.2.2.2.2.2 c).bind λa=>
some ((t.1,t.2.1,t.2.2.1,t.2.2.2.1,t.2.2.2.2.1,t.2.2.2.2.2.1,t.2.2.2.2.2.2.1,a.1),a.2,0)
def dv(t:Q3)(a:Q1):Option ZY:=
(fe t.2.1 a).bind λh=>
bif h != 0 then some (t,false,h) else (dF t).bind λb=>
bif Nat.beq b 154 then (ku () t a).bind λg=>
some (g.1,g.2.1,g.2.2) else bif Nat.beq b 155 then (jH () t a).bind λf=>
some (f.1,f.2.1,f.2.2) else bif Nat.beq b 156 then (jI () t a).bind λe=>
some (e.1,e.2.1,e.2.2) else bif Nat.beq b 157 then (kq () t a).bind λd=>
some (d.1,d.2.1,d.2.2) else bif Nat.beq b 158 then (km () t a).bind λc=>
some (c.1,c.2.1,c.2.2) else none
def IK(a:ZY):Option Q18:=
some (.ok (a.2.1,a.1.1,a.1.2.1,a.1.2.2.1,a.1.2.2.2.1.1.1,a.1.2.2.2.1.1.2.1,a.1.2.2.2.1.1.2.2,a.1.2.2.2.1.2,a.1.2.2.2.2.1.1,a.1.2.2.2.2.1.2.1.1,a.1.2.2.2.2.1.2.1.2.1,a.1.2.2.2.2.1.2.1.2.2,a.1.2.2.2.2.1.2.2,a.1.2.2.2.2.2.1.1,a.1.2.2.2.2.2.1.2,a.1.2.2.2.2.2.2.1.1.1,a.1.2.2.2.2.2.2.1.1.2.1,a.1.2.2.2.2.2.2.1.1.2.2.1,a.1.2.2.2.2.2.2.1.1.2.2.2.1,a.1.2.2.2.2.2.2.1.1.2.2.2.2,a.1.2.2.2.2.2.2.1.2.1.1,a.1.2.2.2.2.2.2.1.2.1.2.1,a.1.2.2.2.2.2.2.1.2.1.2.2.1,a.1.2.2.2.2.2.2.1.2.1.2.2.2.1,a.1.2.2.2.2.2.2.1.2.1.2.2.2.2,a.1.2.2.2.2.2.2.1.2.2.1,a.1.2.2.2.2.2.2.1.2.2.2.1,a.1.2.2.2.2.2.2.1.2.2.2.2.1,a.1.2.2.2.2.2.2.1.2.2.2.2.2.1,a.1.2.2.2.2.2.2.1.2.2.2.2.2.2,a.1.2.2.2.2.2.2.2.1,a.1.2.2.2.2.2.2.2.2.1,a.1.2.2.2.2.2.2.2.2.2.1,a.1.2.2.2.2.2.2.2.2.2.2.1,a.1.2.2.2.2.2.2.2.2.2.2.2.1,a.1.2.2.2.2.2.2.2.2.2.2.2.2))
def jk(x:Q1)(J:bp)(u:Q4)(P:Q1)(I:bp)(U:Q5)(O:Jw)(N:(List Q1))(v:Q1)(V:(List Q1))(E:Int)(a:Q4)(Q:Int)(s:Int)(F:(List Q1))(y:Q1)(H:Q1)(Part:(List Q6))(r:Int)(k:(List Q1))(d:Q1)(o:Q1)(q:(List Q6))(n:Q1)(w:Int)(C:cB)(A:Int)(D:Int)(G:Q1)(c:Int)(h:cB)(f:Int)(j:Int)(m:Q1)(b:Int)(g:cB)(e:Int)(i:Int)(l:Q1)(M:Int)(K:Int)(z:Int)(B:Q1)(S:Q1)(R:Q1)(L:Int):Option Q18:=
(dv (E,a,Q,((s,F,y),H),(Part,(r,k,d),o),(q,n),((w,C,A,D,G),(c,h,f,j,m),(b,g,e,i,l)),(M,K,z,(B,S,R))) x).bind λp=>
ai (λ(T:Unit)=>IK p) λt=>
bif p.2.2 != 0 then some (.error (p.2.2,[])) else t ()
def wS(x:Q1):Option fv:=
aM (kf 0 (i64.wrap ((x.length:Int)-1)) (i64.wrap ((x.length:Int)-1)) (List.length x)&&((i64.wrap ((x.length:Int)-1))==(i64.wrap ((x.length:Int)-1))))<|
(idx x (i64.wrap ((x.length:Int)-1))).bind λa=>
some ((aT x 0 (i64.wrap ((x.length:Int)-1))),a)
def Jc(m:Q9)(a:Q1):Option (bp×Q4×Q1×bp×Q5×Q1):=
some (m.1,m.2.1,m.2.2.1,m.2.2.2.1,m.2.2.2.2,a)
def rI(m:Q9)(d:Q1)(a:fv->Option Q1):Q1×Int->Option Q1:=λ⟨b,c⟩=>
bif decide (c<(m.2.2.2.2.length:Int)) then (idx m.2.2.2.2 c).bind λf=>
(px f.2.1 d).bind λe=>
bif e==1 then aM (aH (List.length b+List.length ([c]:zn)) 8)<|
a ((b++([c]:zn)),(i64.wrap (c+1))) else a (b,(i64.wrap (c+1))) else some b
def CN(m:Q9)(a:Q1):Option Q1:=
ao (rI m a) ay ([],0)
def rM(s:Q4)(e:Q1)(a:Int->zf)(b:Int):zf:=
bif decide (b<(e.length:Int)) then (idx e b).bind λf=>
(idx s b).bind λd=>
(kF d f).bind λc=>
bif !c then some 5 else a (i64.wrap (b+1)) else some 0
def sH(s:Q4)(a:Q1):zf:=
bif (a.length:Int) != (s.length:Int) then some 1 else ao (rM s a) ay 0
def w7(m:Q9)(f:Q1)(e:Q52)(a:fv->Option fv):Q1×Int->Option fv:=λ⟨b,c⟩=>
bif decide (c<(e.2.2.length:Int)) then (idx e.2.2 c).bind λd=>
(px d.2 f).bind λh=>
(idx b d.1).bind λi=>
a ((List.set b (Int.toNat d.1) h),(i64.wrap (c+1))) else (sH m.2.1 b).bind λg=>
bif g != 0 then some ([],6) else some (b,0)
def Ez(m:Q9)(a:Q1)(k:Int):Option fv:=
ai (decide (k<0)) λf=>
ai (decide ((m.2.2.2.2.length:Int)<=k)) λe=>
ai (f||e) λd=>
bif d then (
some ([],10)) else (
(bw a).bind λb=>
(idx m.2.2.2.2 k).bind λc=>
ao (w7 m a c) ay (b,0))
def iI(a:Bool)(b:Q1):zc:=
bif !a then some true else bif !a then none else some a
def gJ(s:aE)(b:Bool)(a:Q1):Option (Int×Bool×Q1):=
(iI b a).bind λr1=>
aM (aH (List.length a+List.length s) 1)<|
some ((s.length:Int),r1,(a++aP s))
def iK(c:Int)(b:Bool)(a:Q1):Option (Bool×Q1):=
(iI b a).bind λr1=>
aM (aH (List.length a+List.length ([c]:zn)) 1)<|
some (r1,(a++([c]:zn)))
def j4(b:Bool)(a:Q1):Option aE:=
(idx a 0).bind λc=>
aM (decide ((0:Int)=0)&&decide ((a.length:Int)=(a.length:Int)))<|
some (strOf a)
def xO(h:Q1)(a:(Bool×Q1×Int)->Option aE):Bool×Q1×Int->Option aE:=λ⟨j,i,b⟩=>
bif decide (b<(h.length:Int)) then (idx h b).bind λg=>
(Wi g).bind λf=>
(gJ f j i).bind λd=>
(iK 32 d.2.1 d.2.2).bind λc=>
a (c.1,c.2,(i64.wrap (b+1))) else (j4 j i).bind λe=>
some e
def Lm(a:Q1):Option aE:=
ao (xO a) ay (false,[],0)
def vf(c:Q1)(l:(List Q1))(a:xE):Option Q54:=
(Lm c).bind λb=>
bif !(dW a b false) then (a).bind λd=>
aM (aH (List.length l+List.length ([c]:List Q1)) 24)<|
some ((l++([c]:List Q1)),(some (lz d b true))) else some (l,a)
def ng(c:Q1)(l:(List Q1))(at_:xE):Option Q54:=
ai (λ(b:xE)=>vf c l b) λa=>
bif (Option.isNone at_) then a (some []:xE) else a at_
def xt(h:Q1)(c:(bp×Q4×Q1×bp×Q5×Q1))(i:Q1)(a:(Int×Int×(List Q1)×xE)->Option pn):Int×Int×(List Q1)×xE->Option pn:=λ⟨e,o,d,g⟩=>
bif decide (e<(i.length:Int)) then (idx i e).bind λn=>
(Ez (c.1,c.2.1,c.2.2.1,c.2.2.2.1,c.2.2.2.2.1) c.2.2.2.2.2 n).bind λf=>
bif f.2 != 0 then bif !false then some ([],f.2) else a ((i64.wrap (e+1)),f.2,d,g) else (ng f.1 d g).bind λb=>
bif !true then bif (b.1.length:Int)==0 then (bw h).bind λm=>
(ng m b.1 b.2).bind λl=>
some (l.1,0) else some (b.1,0) else a ((i64.wrap (e+1)),o,b.1,b.2) else bif (d.length:Int)==0 then (bw h).bind λk=>
(ng k d g).bind λj=>
some (j.1,0) else some (d,0)
def ER(m:Q9)(b:Q1):Option pn:=
(Jc m b).bind λa=>
(CN (a.1,a.2.1,a.2.2.1,a.2.2.2.1,a.2.2.2.2.1) a.2.2.2.2.2).bind λc=>
ao (xt b a c) ay (0,0,[],none)
def sD(i:Int)(c:((List Q1)×xE×Int)->Option pn)(a:Q50)(b:(Int×(List Q1)×xE)->Option pn):Int×(List Q1)×xE->Option pn:=λ⟨e,h,g⟩=>
bif decide (e<(a.1.length:Int)) then (idx a.1 e).bind λf=>
(Ck (a.2.1,a.2.2.1,a.2.2.2.1,a.2.2.2.2.1) f a.2.2.2.2.2).bind λk=>
bif k then (
(bw a.2.2.2.2.2).bind λj=>
aM (aH (List.length j+List.length ([f]:zn)) 8)<|
(sb (j++([f]:zn)) h g).bind λd=>
ai (!true) λl=>
bif l then (
c (d.1,d.2,(i64.wrap (i+1)))) else (
b ((i64.wrap (e+1)),d.1,d.2))) else (
b ((i64.wrap (e+1)),h,g)) else c (h,g,(i64.wrap (i+1)))
def sw(a:p7)(r11:fv)(d:pn)(b:((List Q1)×xE×Int)->Option pn):(List Q1)×xE×Int->Option pn:=λ⟨e,i,c⟩=>
bif decide (c<(d.1.length:Int)) then (idx d.1 c).bind λh=>
(idx a.2.1 r11.2).bind λg=>
(Am a h g).bind λf=>
ao (sD c b f) ay (0,e,i) else some (e,0)
def vP(m:Q9)(a:p7)(x:Q1):Option pn:=
(wS x).bind λr11=>
(ER m r11.1).bind λb=>
bif b.2 != 0 then some ([],b.2) else ao (sw a r11 b) ay ([],none,0)
def uP(stack:x7)(x:Q1)(a:pn):Option (Except Cu x7):=
aM (aH (List.length stack+List.length ([(x,a.1)]:List (Q1×(List Q1)))) 48)<|
some (.ok (stack++([(x,a.1)]:List (Q1×(List Q1)))))
def uE(stack:x7)(x:Q1)(d:bp)(a:Q4)(h:Q1)(c:bp)(aS:Q5)(g:Jw)(f:(List Q1))(b:Q1)(j:(List Q1)):Option (Except Cu x7):=
(vP (d,a,h,c,aS) (g,f,b,j) x).bind λi=>
ai (λ(k:Unit)=>uP stack x i) λe=>
bif i.2 != 0 then aM (kf 0 (i64.wrap ((x.length:Int)-1)) (i64.wrap ((x.length:Int)-1)) (List.length x)&&((i64.wrap ((x.length:Int)-1))==(i64.wrap ((x.length:Int)-1))))<|
some (.error (i.2,(aT x 0 (i64.wrap ((x.length:Int)-1))))) else e ()
def fp(stack:x7)(x:Q1)(e:bp)(a:Q4)(w:Q1)(d:bp)(aS:Q5)(v:Jw)(u:(List Q1))(b:Q1)(M:(List Q1))(I:Int)(c:Q4)(O:Int)(A:Int)(J:(List Q1))(C:Q1)(L:Q1)(F:(List Q6))(z:Int)(p:(List Q1))(i:Q1)(t:Q1)(y:(List Q6))(s:Q1)(B:Int)(G:cB)(E:Int)(H:Int)(K:Q1)(h:Int)(m:cB)(k:Int)(o:Int)(r:Q1)(g:Int)(l:cB)(j:Int)(n:Int)(q:Q1)(R:Int)(S:Int)(D:Int)(T:Q1)(Q:Q1)(P:Q1)(most:Int):Option (Except Cu x7):=
ai (λ(N:Unit)=>uE stack x e a w d aS v u b M) λf=>
bif decide (most<=(stack.length:Int)) then some (.error (8,[])) else f ()
def gw(s:Q1)(c:Int)(a:Int->zf)(b:Int):zf:=
bif decide (b<(s.length:Int)) then (idx s b).bind λd=>
bif c==d then some b else a (i64.wrap (b+1)) else some (-1)
def pE(s:Q1)(a:Int):zf:=
ao (gw s a) ay 0
def mV(s:Q1)(a:Int):zc:=
(pE s a).bind λb=>
some (decide (0<=b))
def xq(a:p7)(x:Q1):zc:=
(wS x).bind λd=>
(idx a.2.2.2 0).bind λc=>
(mV c d.2).bind λb=>
some b
def tZ(a:x7):Option Unit:=
some ()
def gm(e:Q1)(f:Q1)(a:Int->zc)(b:Int):zc:=
bif decide (b<(e.length:Int)) then (idx e b).bind λd=>
(idx f b).bind λc=>
bif d != c then some false else a (i64.wrap (b+1)) else some true
def lu(b:Q1)(a:Q1):zc:=
bif (b.length:Int) != (a.length:Int) then some false else ao (gm b a) ay 0
def tK(stack:x7)(b:pn->Option (List Q1)):(List Q1)×Int->Option (List Q1):=λ⟨a,d⟩=>
bif decide (d<(stack.length:Int)) then (idx stack d).bind λc=>
aM (aH (List.length a+List.length ([c.1]:List Q1)) 24)<|
b ((a++([c.1]:List Q1)),(i64.wrap (d+1))) else some a
def y9(stack:x7):Option (List Q1):=
ao (tK stack) ay ([],0)
def jF(stack:x7)(y:Q1)(x:Q1)(a:x7):Option (Except Bf Unit):=
(lu y x).bind λr2=>
bif r2 then (
aM (cR 0 (i64.wrap ((a.length:Int)-1)) (List.length a))<|
(y9 (aT a 0 (i64.wrap ((a.length:Int)-1)))).bind λc=>
(y9 stack).bind λb=>
some (.error (c,b))) else (
some (.ok ()))
def CT(a:Int):zf:=
bif a==0 then some 1 else bif a==1 then some 2 else some 0
def FO(i:Int)(b:Int)(e:Int)(d:(List Q1))(c:Q1)(a:Q1)(f:Bool):zc:=
(idx a i).bind λe3=>
some ((pc .u8 e3 b) != 0)
def Sc(s:(Q6×Q1))(key:Q1)(b:Int)(h:Int)(e:(List Q1))(d:Q1)(f:Q1)(c:Bool):Option C5:=
(CT b).bind λi=>
bif i==0 then some (1,c) else (dH s.1 key).bind λa=>
bif !a.2 then some (10,c) else (FO a.1 i h e d f c).bind λg=>
some (0,g)
def HK(s:(Q6×Q1))(key:Q1)(a:Int):Option CZ:=
(Sc s key a s.1.1 s.1.2.1 s.1.2.2 s.2 false).bind λb=>
some (b.2,b.1)
def nF(e:Unit)(t:Q3)(c:Q1)(b:Int):Option CZ:=
(eI t c).bind λd=>
(HK t.2.2.2.1 d b).bind λa=>
some (a.1,a.2)
def Cb(c:x4)(s:Q4)(b:Q1)(a:Int):Option pj:=
(fe s b).bind λh=>
bif h != 0 then some (0,h) else ai (decide (a<0)) λg=>
ai (decide (1<a)) λf=>
ai (g||f) λe=>
bif e then (
some (0,1)) else (
(te c s b).bind λd=>
bif decide (d<0) then some (0,10) else some (d,0))
def Io(c:x4)(s:Q4)(b:Q1)(a:Int):Option CZ:=
(Cb c s b a).bind λd=>
bif d.2 != 0 then some (false,d.2) else (idx c.2.2 d.1).bind λe=>
aM (decide (0<=a))<|
some (((pc .u8 (ij .u8 e a) 1)==1),0)
def mD(d:Unit)(t:Q3)(b:Q1)(a:Int):Option CZ:=
(Io t.2.2.2.2.1 t.2.1 b a).bind λc=>
some (c.1,c.2)
def Ce(t:J1)(s:Q4)(f:Q1)(a:Int):Option pj:=
(fe s f).bind λg=>
bif g != 0 then some (0,g) else ai (a != 0) λe=>
ai (a != 1) λd=>
ai (e&&d) λc=>
bif c then (
some (0,1)) else (
(vN t s f).bind λb=>
bif !b.2 then some (0,10) else some (b.1,0))
def Ja(t:J1)(s:Q4)(d:Q1)(a:Int):Option CZ:=
(Ce t s d a).bind λb=>
bif b.2 != 0 then some (false,b.2) else (idx t.2 b.1).bind λc=>
aM (decide (0<=a))<|
some (((pc .u8 c (kV .u8 1 a)) != 0),0)
def mB(d:Unit)(t:Q3)(b:Q1)(a:Int):Option CZ:=
(Ja t.2.2.2.2.2.1 t.2.1 b a).bind λc=>
some (c.1,c.2)
def p9(t:Q3)(b:Q1)(a:Int):zf:=
ai (decide (a<0)) λg=>
ai (decide (1<a)) λf=>
ai (g||f) λe=>
bif e then (
some 1) else (
(eI t b).bind λd=>
(oO t.2.2.2.2.2.2.1.1 d).bind λc=>
bif !c then some 10 else some 0)
def nR(j:Unit)(t:Q3)(b:Q1)(a:Int):Option CZ:=
(p9 t b a).bind λi=>
bif i != 0 then some (false,i) else bif (i64.wrap (1+a))==0 then (eI t b).bind λh=>
(oO t.2.2.2.2.2.2.1.1 h).bind λg=>
some (g,0) else bif (i64.wrap (1+a))==1 then (eI t b).bind λf=>
(oO t.2.2.2.2.2.2.1.2.1 f).bind λe=>
some (e,0) else bif (i64.wrap (1+a))==2 then (eI t b).bind λd=>
(oO t.2.2.2.2.2.2.1.2.2 d).bind λc=>
some (c,0) else none
def Oa(b:sB)(key:Q1)(a:Int):zf:=
ai (decide (a<0)) λf=>
ai (decide (1<a)) λe=>
ai (f||e) λd=>
bif d then (
some 1) else (
(uI b key).bind λc=>
bif !c then some 10 else some 0)
def QU(b:sB)(row:Int)(p:Bool)(o:Q1)(a:CZ->zc):Bool×Int->zc:=λ⟨e,d⟩=>
bif decide (d<(o.length:Int)) then (idx o d).bind λc=>
bif row==0 then (idx b.2.2.2.1 (i64.wrap (Int.tdiv c 8))).bind λh=>
aM (decide (0<=(Int.tmod c 8)))<|
ai ((pc .u8 h (kV .u8 1 (Int.tmod c 8))) != 0) λn=>
ai (e&&n) λm=>
a (m,(i64.wrap (d+1))) else bif row==1 then (idx b.2.2.2.2.1 (i64.wrap (Int.tdiv c 8))).bind λg=>
aM (decide (0<=(Int.tmod c 8)))<|
ai ((pc .u8 g (kV .u8 1 (Int.tmod c 8))) != 0) λl=>
ai (e&&l) λk=>
a (k,(i64.wrap (d+1))) else bif row==2 then (idx b.2.2.2.2.2 (i64.wrap (Int.tdiv c 8))).bind λf=>
aM (decide (0<=(Int.tmod c 8)))<|
ai ((pc .u8 f (kV .u8 1 (Int.tmod c 8))) != 0) λj=>
ai (e&&j) λi=>
a (i,(i64.wrap (d+1))) else none else some e
def LG(b:sB)(key:Q1)(row:Int)(c:Bool):zc:=
(nG key b.2.2.1 b.2.1 b.1).bind λa=>
ao (QU b row c a) ay (c,0)
def M6(b:sB)(key:Q1)(row:Int):zc:=
(LG b key row true).bind λa=>
some a
def ZA(b:sB)(key:Q1)(a:Int):Option CZ:=
(Oa b key a).bind λd=>
bif d != 0 then some (false,d) else (M6 b key (i64.wrap (1+a))).bind λc=>
some (c,0)
def rO(e:Unit)(t:Q3)(c:Q1)(b:Int):Option CZ:=
(eI t c).bind λd=>
(ZA t.2.2.2.2.2.2.2 d b).bind λa=>
some (a.1,a.2)
def eK(t:Q3)(b:Q1)(a:Int):Option CZ:=
(fe t.2.1 b).bind λi=>
bif i != 0 then some (false,i) else (dF t).bind λc=>
bif Nat.beq c 154 then (nF () t b a).bind λh=>
some (h.1,h.2) else bif Nat.beq c 155 then (mD () t b a).bind λg=>
some (g.1,g.2) else bif Nat.beq c 156 then (mB () t b a).bind λf=>
some (f.1,f.2) else bif Nat.beq c 157 then (nR () t b a).bind λe=>
some (e.1,e.2) else bif Nat.beq c 158 then (rO () t b a).bind λd=>
some (d.1,d.2) else none
def Ft(i:Int)(b:Int)(m:Int)(k:(List Q1))(j:Q1)(e:Q1)(f:Int)(c:(List Q1))(a:Q1)(d:Q1):Option Q1:=
(cr e).bind λg=>
(idx g i).bind λh=>
(idx g i).bind λl=>
some (List.set g (Int.toNat i) (tT .u8 h b))
def IY(s:(Q6×Q1))(key:Q1)(g:Int)(l:Int)(i:(List Q1))(h:Q1)(j:Q1)(d:Int)(b:(List Q1))(a:Q1)(c:Q1):Option (Int×Int×(List Q1)×Q1×Q1):=
(CT g).bind λf=>
bif f==0 then some (1,d,b,a,c) else (dH s.1 key).bind λe=>
bif !e.2 then some (10,d,b,a,c) else (Ft e.1 f l i h j d b a c).bind λk=>
some (0,d,b,a,k)
def Hw(s:(Q6×Q1))(key:Q1)(b:Int):Option ((Q6×Q1)×Int):=
(IY s key b s.1.1 s.1.2.1 s.1.2.2 s.2 s.1.1 s.1.2.1 s.1.2.2 s.2).bind λa=>
some (((a.2.1,a.2.2.1,a.2.2.2.1),a.2.2.2.2),a.1)
def nn(e:Unit)(t:Q3)(c:Q1)(b:Int):Option Ew:=
(eI t c).bind λd=>
(Hw t.2.2.2.1 d b).bind λa=>
some ((t.1,t.2.1,t.2.2.1,a.1,t.2.2.2.2.1,t.2.2.2.2.2.1,t.2.2.2.2.2.2.1,t.2.2.2.2.2.2.2),a.2)
def HY(c:x4)(s:Q4)(e:Q1)(b:Int):Option (x4×Int):=
(Cb c s e b).bind λa=>
bif a.2 != 0 then some (c,a.2) else (cr c.2.2).bind λd=>
(idx d a.1).bind λf=>
aM (decide (0<=b))<|
(idx d a.1).bind λg=>
some ((c.1,c.2.1,(List.set d (Int.toNat a.1) (tT .u8 f (kV .u8 1 b)))),0)
def l8(d:Unit)(t:Q3)(c:Q1)(b:Int):Option Ew:=
(HY t.2.2.2.2.1 t.2.1 c b).bind λa=>
some ((t.1,t.2.1,t.2.2.1,t.2.2.2.1,a.1,t.2.2.2.2.2.1,t.2.2.2.2.2.2.1,t.2.2.2.2.2.2.2),a.2)
def IC(t:J1)(s:Q4)(f:Q1)(b:Int):Option (J1×Int):=
(Ce t s f b).bind λa=>
bif a.2 != 0 then some (t,a.2) else (cr t.2).bind λc=>
(idx c a.1).bind λd=>
aM (decide (0<=b))<|
(idx c a.1).bind λe=>
some ((t.1,(List.set c (Int.toNat a.1) (tT .u8 d (kV .u8 1 b)))),0)
def lR(d:Unit)(t:Q3)(c:Q1)(b:Int):Option Ew:=
(IC t.2.2.2.2.2.1 t.2.1 c b).bind λa=>
some ((t.1,t.2.1,t.2.2.1,t.2.2.2.1,t.2.2.2.2.1,a.1,t.2.2.2.2.2.2.1,t.2.2.2.2.2.2.2),a.2)
def nU(j:Unit)(t:Q3)(b:Q1)(a:Int):Option Ew:=
(p9 t b a).bind λf=>
bif f != 0 then some (t,f) else bif (i64.wrap (1+a))==0 then (eI t b).bind λi=>
(fw t.2.2.2.2.2.2.1.1 i).bind λe=>
bif (i64.wrap (1+a))==0 then some ((t.1,t.2.1,t.2.2.1,t.2.2.2.1,t.2.2.2.2.1,t.2.2.2.2.2.1,(e.1,t.2.2.2.2.2.2.1.2.1,t.2.2.2.2.2.2.1.2.2),t.2.2.2.2.2.2.2),0) else bif (i64.wrap (1+a))==1 then some ((t.1,t.2.1,t.2.2.1,t.2.2.2.1,t.2.2.2.2.1,t.2.2.2.2.2.1,(t.2.2.2.2.2.2.1.1,e.1,t.2.2.2.2.2.2.1.2.2),t.2.2.2.2.2.2.2),0) else bif (i64.wrap (1+a))==2 then some ((t.1,t.2.1,t.2.2.1,t.2.2.2.1,t.2.2.2.2.1,t.2.2.2.2.2.1,(t.2.2.2.2.2.2.1.1,t.2.2.2.2.2.2.1.2.1,e.1),t.2.2.2.2.2.2.2),0) else none else bif (i64.wrap (1+a))==1 then (eI t b).bind λh=>
(fw t.2.2.2.2.2.2.1.2.1 h).bind λd=>
bif (i64.wrap (1+a))==0 then some ((t.1,t.2.1,t.2.2.1,t.2.2.2.1,t.2.2.2.2.1,t.2.2.2.2.2.1,(d.1,t.2.2.2.2.2.2.1.2.1,t.2.2.2.2.2.2.1.2.2),t.2.2.2.2.2.2.2),0) else bif (i64.wrap (1+a))==1 then some ((t.1,t.2.1,t.2.2.1,t.2.2.2.1,t.2.2.2.2.1,t.2.2.2.2.2.1,(t.2.2.2.2.2.2.1.1,d.1,t.2.2.2.2.2.2.1.2.2),t.2.2.2.2.2.2.2),0) else bif (i64.wrap (1+a))==2 then some ((t.1,t.2.1,t.2.2.1,t.2.2.2.1,t.2.2.2.2.1,t.2.2.2.2.2.1,(t.2.2.2.2.2.2.1.1,t.2.2.2.2.2.2.1.2.1,d.1),t.2.2.2.2.2.2.2),0) else none else bif (i64.wrap (1+a))==2 then (eI t b).bind λg=>
(fw t.2.2.2.2.2.2.1.2.2 g).bind λc=>
bif (i64.wrap (1+a))==0 then some ((t.1,t.2.1,t.2.2.1,t.2.2.2.1,t.2.2.2.2.1,t.2.2.2.2.2.1,(c.1,t.2.2.2.2.2.2.1.2.1,t.2.2.2.2.2.2.1.2.2),t.2.2.2.2.2.2.2),0) else bif (i64.wrap (1+a))==1 then some ((t.1,t.2.1,t.2.2.1,t.2.2.2.1,t.2.2.2.2.1,t.2.2.2.2.2.1,(t.2.2.2.2.2.2.1.1,c.1,t.2.2.2.2.2.2.1.2.2),t.2.2.2.2.2.2.2),0) else bif (i64.wrap (1+a))==2 then some ((t.1,t.2.1,t.2.2.1,t.2.2.2.1,t.2.2.2.2.1,t.2.2.2.2.2.1,(t.2.2.2.2.2.2.1.1,t.2.2.2.2.2.2.1.2.1,c.1),t.2.2.2.2.2.2.2),0) else none else none
def PN(f:Q1)(a:fv->Option Q1):Q1×Int->Option Q1:=λ⟨d,c⟩=>
bif decide (c<(f.length:Int)) then (idx f c).bind λb=>
(idx d (i64.wrap (Int.tdiv b 8))).bind λe=>
aM (decide (0<=(Int.tmod b 8)))<|
a ((List.set d (Int.toNat (i64.wrap (Int.tdiv b 8))) (tT .u8 e (kV .u8 1 (Int.tmod b 8)))),(i64.wrap (c+1))) else some d
def Ln(b:sB)(key:Q1):Option Q1:=
(nG key b.2.2.1 b.2.1 b.1).bind λa=>
ao (PN a) ay (b.2.2.2.2.1,0)
def P8(f:Q1)(a:fv->Option Q1):Q1×Int->Option Q1:=λ⟨d,c⟩=>
bif decide (c<(f.length:Int)) then (idx f c).bind λb=>
(idx d (i64.wrap (Int.tdiv b 8))).bind λe=>
aM (decide (0<=(Int.tmod b 8)))<|
a ((List.set d (Int.toNat (i64.wrap (Int.tdiv b 8))) (tT .u8 e (kV .u8 1 (Int.tmod b 8)))),(i64.wrap (c+1))) else some d
def LP(b:sB)(key:Q1):Option Q1:=
(nG key b.2.2.1 b.2.1 b.1).bind λa=>
ao (P8 a) ay (b.2.2.2.2.2,0)
def Nc(b:sB)(key:Q1)(row:Int):Option sB:=
bif row==0 then (cr b.2.2.2.1).bind λg=>
(wV (b.1,b.2.1,b.2.2.1,(g,b.2.2.2.2.1,b.2.2.2.2.2)) key).bind λf=>
some (b.1,b.2.1,b.2.2.1,(f,b.2.2.2.2.1,b.2.2.2.2.2)) else bif row==1 then (cr b.2.2.2.2.1).bind λe=>
(Ln (b.1,b.2.1,b.2.2.1,(b.2.2.2.1,e,b.2.2.2.2.2)) key).bind λd=>
some (b.1,b.2.1,b.2.2.1,(b.2.2.2.1,d,b.2.2.2.2.2)) else bif row==2 then (cr b.2.2.2.2.2).bind λc=>
(LP (b.1,b.2.1,b.2.2.1,(b.2.2.2.1,b.2.2.2.2.1,c)) key).bind λa=>
some (b.1,b.2.1,b.2.2.1,(b.2.2.2.1,b.2.2.2.2.1,a)) else none
def Yv(b:sB)(key:Q1)(a:Int):Option (sB×Int):=
(Oa b key a).bind λc=>
bif c != 0 then some (b,c) else (Nc b key (i64.wrap (1+a))).bind λd=>
some (d,0)
def rT(e:Unit)(t:Q3)(c:Q1)(b:Int):Option Ew:=
(eI t c).bind λd=>
(Yv t.2.2.2.2.2.2.2 d b).bind λa=>
some ((t.1,t.2.1,t.2.2.1,t.2.2.2.1,t.2.2.2.2.1,t.2.2.2.2.2.1,t.2.2.2.2.2.2.1,a.1),a.2)
def gN(t:Q3)(b:Q1)(a:Int):Option Ew:=
(fe t.2.1 b).bind λi=>
bif i != 0 then some (t,i) else (dF t).bind λc=>
bif Nat.beq c 154 then (nn () t b a).bind λh=>
some (h.1,h.2) else bif Nat.beq c 155 then (l8 () t b a).bind λg=>
some (g.1,g.2) else bif Nat.beq c 156 then (lR () t b a).bind λf=>
some (f.1,f.2) else bif Nat.beq c 157 then (nU () t b a).bind λe=>
some (e.1,e.2) else bif Nat.beq c 158 then (rT () t b a).bind λd=>
some (d.1,d.2) else none
def oA(x:Q1)(v:bp)(g:Q4)(L:Q1)(t:bp)(aS:Q5)(H:Jw)(F:(List Q1))(o:Q1)(T:(List Q1))(I:Int)(c:Q4)(Q:Int)(y:Int)(J:(List Q1))(A:Q1)(O:Q1)(Part:(List Q6))(w:Int)(n:(List Q1))(f:Q1)(s:Q1)(u:(List Q6))(r:Q1)(z:Int)(E:cB)(D:Int)(G:Int)(N:Q1)(e:Int)(k:cB)(i:Int)(m:Int)(q:Q1)(d:Int)(j:cB)(h:Int)(l:Int)(p:Q1)(M:Int)(K:Int)(C:Int)(B:Q1)(S:Q1)(R:Q1)(most:Int):Option Q18:=
BG (jk x v g L t aS H F o T I c Q y J A O Part w n f s u r z E D G N e k i m q d j h l p M K C B S R most) λa=>
(eK (a.2.1,a.2.2.1,a.2.2.2.1,((a.2.2.2.2.1,a.2.2.2.2.2.1,a.2.2.2.2.2.2.1),a.2.2.2.2.2.2.2.1),(a.2.2.2.2.2.2.2.2.1,((d8 a).2.1,(d8 a).2.2.1,(d8 a).2.2.2.1),(d8 a).2.2.2.2.1),((d8 a).2.2.2.2.2.1,(d8 a).2.2.2.2.2.2.1),(((d8 a).2.2.2.2.2.2.2.1,(d8 (d8 a)).1,(d8 (d8 a)).2.1,(d8 (d8 a)).2.2.1,(d8 (d8 a)).2.2.2.1),((d8 (d8 a)).2.2.2.2.1,(d8 (d8 a)).2.2.2.2.2.1,(d8 (d8 a)).2.2.2.2.2.2.1,(d8 (d8 a)).2.2.2.2.2.2.2.1,(d8 (d8 (d8 a))).1),((d8 (d8 (d8 a))).2.1,(d8 (d8 (d8 a))).2.2.1,(d8 (d8 (d8 a))).2.2.2.1,(d8 (d8 (d8 a))).2.2.2.2.1,(d8 (d8 (d8 a))).2.2.2.2.2.1)),(d8 (d8 (d8 a))).2.2.2.2.2.2) x 1).bind λP=>
bif P.1 then (
some (.ok (false,a.2.1,a.2.2.1,a.2.2.2.1,a.2.2.2.2.1,a.2.2.2.2.2.1,a.2.2.2.2.2.2.1,a.2.2.2.2.2.2.2.1,a.2.2.2.2.2.2.2.2.1,(d8 a).2.1,(d8 a).2.2.1,(d8 a).2.2.2.1,(d8 a).2.2.2.2.1,(d8 a).2.2.2.2.2.1,(d8 a).2.2.2.2.2.2.1,(d8 a).2.2.2.2.2.2.2.1,(d8 (d8 a)).1,(d8 (d8 a)).2.1,(d8 (d8 a)).2.2.1,(d8 (d8 a)).2.2.2.1,(d8 (d8 a)).2.2.2.2.1,(d8 (d8 a)).2.2.2.2.2.1,(d8 (d8 a)).2.2.2.2.2.2.1,(d8 (d8 a)).2.2.2.2.2.2.2.1,(d8 (d8 (d8 a))).1,(d8 (d8 (d8 a))).2.1,(d8 (d8 (d8 a))).2.2.1,(d8 (d8 (d8 a))).2.2.2.1,(d8 (d8 (d8 a))).2.2.2.2.1,(d8 (d8 (d8 a))).2.2.2.2.2.1,(d8 (d8 (d8 a))).2.2.2.2.2.2.1,(d8 (d8 (d8 a))).2.2.2.2.2.2.2.1,(d8 (d8 (d8 (d8 a)))).1,(d8 (d8 (d8 (d8 a)))).2.1,(d8 (d8 (d8 (d8 a)))).2.2.1,(d8 (d8 (d8 (d8 a)))).2.2.2))) else (
(gN (a.2.1,a.2.2.1,a.2.2.2.1,((a.2.2.2.2.1,a.2.2.2.2.2.1,a.2.2.2.2.2.2.1),a.2.2.2.2.2.2.2.1),(a.2.2.2.2.2.2.2.2.1,((d8 a).2.1,(d8 a).2.2.1,(d8 a).2.2.2.1),(d8 a).2.2.2.2.1),((d8 a).2.2.2.2.2.1,(d8 a).2.2.2.2.2.2.1),(((d8 a).2.2.2.2.2.2.2.1,(d8 (d8 a)).1,(d8 (d8 a)).2.1,(d8 (d8 a)).2.2.1,(d8 (d8 a)).2.2.2.1),((d8 (d8 a)).2.2.2.2.1,(d8 (d8 a)).2.2.2.2.2.1,(d8 (d8 a)).2.2.2.2.2.2.1,(d8 (d8 a)).2.2.2.2.2.2.2.1,(d8 (d8 (d8 a))).1),((d8 (d8 (d8 a))).2.1,(d8 (d8 (d8 a))).2.2.1,(d8 (d8 (d8 a))).2.2.2.1,(d8 (d8 (d8 a))).2.2.2.2.1,(d8 (d8 (d8 a))).2.2.2.2.2.1)),(d8 (d8 (d8 a))).2.2.2.2.2.2) x 1).bind λb=>
some (.ok (true,b.1.1,b.1.2.1,b.1.2.2.1,b.1.2.2.2.1.1.1,b.1.2.2.2.1.1.2.1,b.1.2.2.2.1.1.2.2,b.1.2.2.2.1.2,b.1.2.2.2.2.1.1,b.1.2.2.2.2.1.2.1.1,b.1.2.2.2.2.1.2.1.2.1,b.1.2.2.2.2.1.2.1.2.2,b.1.2.2.2.2.1.2.2,b.1.2.2.2.2.2.1.1,b.1.2.2.2.2.2.1.2,b.1.2.2.2.2.2.2.1.1.1,b.1.2.2.2.2.2.2.1.1.2.1,b.1.2.2.2.2.2.2.1.1.2.2.1,b.1.2.2.2.2.2.2.1.1.2.2.2.1,b.1.2.2.2.2.2.2.1.1.2.2.2.2,b.1.2.2.2.2.2.2.1.2.1.1,b.1.2.2.2.2.2.2.1.2.1.2.1,b.1.2.2.2.2.2.2.1.2.1.2.2.1,b.1.2.2.2.2.2.2.1.2.1.2.2.2.1,b.1.2.2.2.2.2.2.1.2.1.2.2.2.2,b.1.2.2.2.2.2.2.1.2.2.1,b.1.2.2.2.2.2.2.1.2.2.2.1,b.1.2.2.2.2.2.2.1.2.2.2.2.1,b.1.2.2.2.2.2.2.1.2.2.2.2.2.1,b.1.2.2.2.2.2.2.1.2.2.2.2.2.2,b.1.2.2.2.2.2.2.2.1,b.1.2.2.2.2.2.2.2.2.1,b.1.2.2.2.2.2.2.2.2.2.1,b.1.2.2.2.2.2.2.2.2.2.2.1,b.1.2.2.2.2.2.2.2.2.2.2.2.1,b.1.2.2.2.2.2.2.2.2.2.2.2.2)))
def j8(A:bp)(f:Q4)(D:Q1)(z:bp)(aS:Q5)(C:Jw)(B:(List Q1))(g:Q1)(a0:(List Q1))(most:Int)(c:Q1)(a1:x7)(e:Q31->Option (Except (Cu ⊕ Bf) Q8)):Int×Q4×Int×Int×(List Q1)×Q1×Q1×(List Q6)×Int×(List Q1)×Q1×Q1×(List Q6)×Q1×Int×cB×Int×Int×Q1×Int×cB×Int×Int×Q1×Int×cB×Int×Int×Q1×Int×Int×Int×Q1×Q1×Q1×x7->Option (Except (Cu ⊕ Bf) Q8):=λ⟨V,U,T,S,R,Q,P,O,N,M,L,K,J,I,H,G,F,E,y,x,w,v,u,t,s,r,q,p,o,n,m,l,k,j,i,b⟩=>
bif decide (0<(b.length:Int)) then (idx b (i64.wrap ((b.length:Int)-1))).bind λd=>
bif (d.2.length:Int)==0 then (tZ b).bind λa3=>
aM (cR 0 (i64.wrap ((b.length:Int)-1)) (List.length b))<|
e (V,U,T,S,R,Q,P,O,N,M,L,K,J,I,H,G,F,E,y,x,w,v,u,t,s,r,q,p,o,n,m,l,k,j,i,(aT b 0 (i64.wrap ((b.length:Int)-1)))) else (idx d.2 0).bind λh=>
aM (cR 1 ((List.length d.2):Int) (List.length d.2))<|
gi (jF (List.set b (Int.toNat (i64.wrap ((b.length:Int)-1))) (d.1,(aT d.2 1 ((List.length d.2):Int)))) h c a1) (λZ=>some (.error (.inr Z))) λa2=>
gi (oA h A f D z aS C B g a0 V U T S R Q P O N M L K J I H G F E y x w v u t s r q p o n m l k j i most) (λY=>some (.error (.inl Y))) λa=>
bif a.1 then (
gi (fp (List.set b (Int.toNat (i64.wrap ((b.length:Int)-1))) (d.1,(aT d.2 1 ((List.length d.2):Int)))) h A f D z aS C B g a0 a.2.1 a.2.2.1 a.2.2.2.1 a.2.2.2.2.1 a.2.2.2.2.2.1 a.2.2.2.2.2.2.1 a.2.2.2.2.2.2.2.1 a.2.2.2.2.2.2.2.2.1 (d8 a).2.1 (d8 a).2.2.1 (d8 a).2.2.2.1 (d8 a).2.2.2.2.1 (d8 a).2.2.2.2.2.1 (d8 a).2.2.2.2.2.2.1 (d8 a).2.2.2.2.2.2.2.1 (d8 (d8 a)).1 (d8 (d8 a)).2.1 (d8 (d8 a)).2.2.1 (d8 (d8 a)).2.2.2.1 (d8 (d8 a)).2.2.2.2.1 (d8 (d8 a)).2.2.2.2.2.1 (d8 (d8 a)).2.2.2.2.2.2.1 (d8 (d8 a)).2.2.2.2.2.2.2.1 (d8 (d8 (d8 a))).1 (d8 (d8 (d8 a))).2.1 (d8 (d8 (d8 a))).2.2.1 (d8 (d8 (d8 a))).2.2.2.1 (d8 (d8 (d8 a))).2.2.2.2.1 (d8 (d8 (d8 a))).2.2.2.2.2.1 (d8 (d8 (d8 a))).2.2.2.2.2.2.1 (d8 (d8 (d8 a))).2.2.2.2.2.2.2.1 (d8 (d8 (d8 (d8 a)))).1 (d8 (d8 (d8 (d8 a)))).2.1 (d8 (d8 (d8 (d8 a)))).2.2.1 (d8 (d8 (d8 (d8 a)))).2.2.2 most) (λX=>some (.error (.inl X))) λW=>
e (a.2.1,a.2.2.1,a.2.2.2.1,a.2.2.2.2.1,a.2.2.2.2.2.1,a.2.2.2.2.2.2.1,a.2.2.2.2.2.2.2.1,a.2.2.2.2.2.2.2.2.1,(d8 a).2.1,(d8 a).2.2.1,(d8 a).2.2.2.1,(d8 a).2.2.2.2.1,(d8 a).2.2.2.2.2.1,(d8 a).2.2.2.2.2.2.1,(d8 a).2.2.2.2.2.2.2.1,(d8 (d8 a)).1,(d8 (d8 a)).2.1,(d8 (d8 a)).2.2.1,(d8 (d8 a)).2.2.2.1,(d8 (d8 a)).2.2.2.2.1,(d8 (d8 a)).2.2.2.2.2.1,(d8 (d8 a)).2.2.2.2.2.2.1,(d8 (d8 a)).2.2.2.2.2.2.2.1,(d8 (d8 (d8 a))).1,(d8 (d8 (d8 a))).2.1,(d8 (d8 (d8 a))).2.2.1,(d8 (d8 (d8 a))).2.2.2.1,(d8 (d8 (d8 a))).2.2.2.2.1,(d8 (d8 (d8 a))).2.2.2.2.2.1,(d8 (d8 (d8 a))).2.2.2.2.2.2.1,(d8 (d8 (d8 a))).2.2.2.2.2.2.2.1,(d8 (d8 (d8 (d8 a)))).1,(d8 (d8 (d8 (d8 a)))).2.1,(d8 (d8 (d8 (d8 a)))).2.2.1,(d8 (d8 (d8 (d8 a)))).2.2.2,W)) else (
e (a.2.1,a.2.2.1,a.2.2.2.1,a.2.2.2.2.1,a.2.2.2.2.2.1,a.2.2.2.2.2.2.1,a.2.2.2.2.2.2.2.1,a.2.2.2.2.2.2.2.2.1,(d8 a).2.1,(d8 a).2.2.1,(d8 a).2.2.2.1,(d8 a).2.2.2.2.1,(d8 a).2.2.2.2.2.1,(d8 a).2.2.2.2.2.2.1,(d8 a).2.2.2.2.2.2.2.1,(d8 (d8 a)).1,(d8 (d8 a)).2.1,(d8 (d8 a)).2.2.1,(d8 (d8 a)).2.2.2.1,(d8 (d8 a)).2.2.2.2.1,(d8 (d8 a)).2.2.2.2.2.1,(d8 (d8 a)).2.2.2.2.2.2.1,(d8 (d8 a)).2.2.2.2.2.2.2.1,(d8 (d8 (d8 a))).1,(d8 (d8 (d8 a))).2.1,(d8 (d8 (d8 a))).2.2.1,(d8 (d8 (d8 a))).2.2.2.1,(d8 (d8 (d8 a))).2.2.2.2.1,(d8 (d8 (d8 a))).2.2.2.2.2.1,(d8 (d8 (d8 a))).2.2.2.2.2.2.1,(d8 (d8 (d8 a))).2.2.2.2.2.2.2.1,(d8 (d8 (d8 (d8 a)))).1,(d8 (d8 (d8 (d8 a)))).2.1,(d8 (d8 (d8 (d8 a)))).2.2.1,(d8 (d8 (d8 (d8 a)))).2.2.2,(List.set b (Int.toNat (i64.wrap ((b.length:Int)-1))) (d.1,(aT d.2 1 ((List.length d.2):Int)))))) else some (.ok (V,U,T,S,R,Q,P,O,N,M,L,K,J,I,H,G,F,E,y,x,w,v,u,t,s,r,q,p,o,n,m,l,k,j,i))
def mI(x:Q1)(u:bp)(f:Q4)(J:Q1)(s:bp)(aS:Q5)(G:Jw)(E:(List Q1))(n:Q1)(R:(List Q1))(H:Int)(a:Q4)(O:Int)(w:Int)(I:(List Q1))(z:Q1)(N:Q1)(Part:(List Q6))(v:Int)(m:(List Q1))(e:Q1)(r:Q1)(t:(List Q6))(q:Q1)(y:Int)(D:cB)(C:Int)(F:Int)(L:Q1)(d:Int)(j:cB)(h:Int)(l:Int)(p:Q1)(b:Int)(i:cB)(g:Int)(k:Int)(o:Q1)(M:Int)(K:Int)(A:Int)(B:Q1)(Q:Q1)(P:Q1)(most:Int)(c:Q1)(U:x7):Option (Except (Cu ⊕ Bf) Q8):=
gi (fp [] x u f J s aS G E n R H a O w I z N Part v m e r t q y D C F L d j h l p b i g k o M K A B Q P most) (λT=>some (.error (.inl T))) λS=>
ao (j8 u f J s aS G E n R most c U) ay (H,a,O,w,I,z,N,Part,v,m,e,r,t,q,y,D,C,F,L,d,j,h,l,p,b,i,g,k,o,M,K,A,B,Q,P,S)
def lB(c:x7)(N:bp)(v:Q4)(Q:Q1)(L:bp)(aS:Q5)(E:Jw)(C:(List Q1))(n:Q1)(U:(List Q1))(F:Int)(b:Q4)(R:Int)(u:Int)(G:(List Q1))(x:Q1)(I:Q1)(Part:(List Q6))(t:Int)(m:(List Q1))(f:Q1)(r:Q1)(s:(List Q6))(q:Q1)(w:Int)(A:cB)(z:Int)(D:Int)(H:Q1)(e:Int)(j:cB)(h:Int)(l:Int)(p:Q1)(d:Int)(i:cB)(g:Int)(k:Int)(o:Q1)(M:Int)(K:Int)(y:Int)(B:Q1)(T:Q1)(S:Q1)(most:Int):Option (Except (Cu ⊕ Bf) Q8):=
(idx c (i64.wrap ((c.length:Int)-1))).bind λJ=>
(xq (E,C,n,U) J.1).bind λV=>
bif !V then some (.ok (F,b,R,u,G,x,I,Part,t,m,f,r,s,q,w,A,z,D,H,e,j,h,l,p,d,i,g,k,o,M,K,y,B,T,S)) else gi (mI J.1 N v Q L aS E C n U F b R u G x I Part t m f r s q w A z D H e j h l p d i g k o M K y B T S most J.1 c) (λW=>YU W (λP=>some (.error (.inl P))) (λO=>some (.error (.inr O)))) λa=>
some (.ok (a.1,a.2.1,a.2.2.1,a.2.2.2.1,a.2.2.2.2.1,a.2.2.2.2.2.1,a.2.2.2.2.2.2.1,a.2.2.2.2.2.2.2.1,a.2.2.2.2.2.2.2.2.1,(d8 a).2.1,(d8 a).2.2.1,(d8 a).2.2.2.1,(d8 a).2.2.2.2.1,(d8 a).2.2.2.2.2.1,(d8 a).2.2.2.2.2.2.1,(d8 a).2.2.2.2.2.2.2.1,(d8 (d8 a)).1,(d8 (d8 a)).2.1,(d8 (d8 a)).2.2.1,(d8 (d8 a)).2.2.2.1,(d8 (d8 a)).2.2.2.2.1,(d8 (d8 a)).2.2.2.2.2.1,(d8 (d8 a)).2.2.2.2.2.2.1,(d8 (d8 a)).2.2.2.2.2.2.2.1,(d8 (d8 (d8 a))).1,(d8 (d8 (d8 a))).2.1,(d8 (d8 (d8 a))).2.2.1,(d8 (d8 (d8 a))).2.2.2.1,(d8 (d8 (d8 a))).2.2.2.2.1,(d8 (d8 (d8 a))).2.2.2.2.2.1,(d8 (d8 (d8 a))).2.2.2.2.2.2.1,(d8 (d8 (d8 a))).2.2.2.2.2.2.2.1,(d8 (d8 (d8 (d8 a)))).1,(d8 (d8 (d8 (d8 a)))).2.1,(d8 (d8 (d8 (d8 a)))).2.2))
def ue(b:x7)(a:Q1):Option Unit:=
some ()
def mH(i:bp)(f:Q4)(F:Q1)(h:bp)(aS:Q5)(E:Jw)(D:(List Q1))(g:Q1)(Y:(List Q1))(most:Int)(e:Q31->Option (Except (Cu ⊕ Bf) Q8)):Int×Q4×Int×Int×(List Q1)×Q1×Q1×(List Q6)×Int×(List Q1)×Q1×Q1×(List Q6)×Q1×Int×cB×Int×Int×Q1×Int×cB×Int×Int×Q1×Int×cB×Int×Int×Q1×Int×Int×Int×Q1×Q1×Q1×x7->Option (Except (Cu ⊕ Bf) Q8):=λ⟨X,W,V,U,T,S,R,Q,P,O,N,M,L,K,J,I,C,B,A,z,y,x,w,v,u,t,s,r,q,p,o,n,m,l,k,c⟩=>
bif decide (0<(c.length:Int)) then (idx c (i64.wrap ((c.length:Int)-1))).bind λd=>
bif (d.2.length:Int)==0 then gi (lB c i f F h aS E D g Y X W V U T S R Q P O N M L K J I C B A z y x w v u t s r q p o n m l k most) (λa2=>YU a2 (λH=>some (.error (.inl H))) (λG=>some (.error (.inr G)))) λb=>
aM (cR 0 (i64.wrap ((c.length:Int)-1)) (List.length c))<|
e (b.1,b.2.1,b.2.2.1,b.2.2.2.1,b.2.2.2.2.1,b.2.2.2.2.2.1,b.2.2.2.2.2.2.1,b.2.2.2.2.2.2.2.1,b.2.2.2.2.2.2.2.2.1,(d8 b).2.1,(d8 b).2.2.1,(d8 b).2.2.2.1,(d8 b).2.2.2.2.1,(d8 b).2.2.2.2.2.1,(d8 b).2.2.2.2.2.2.1,(d8 b).2.2.2.2.2.2.2.1,(d8 (d8 b)).1,(d8 (d8 b)).2.1,(d8 (d8 b)).2.2.1,(d8 (d8 b)).2.2.2.1,(d8 (d8 b)).2.2.2.2.1,(d8 (d8 b)).2.2.2.2.2.1,(d8 (d8 b)).2.2.2.2.2.2.1,(d8 (d8 b)).2.2.2.2.2.2.2.1,(d8 (d8 (d8 b))).1,(d8 (d8 (d8 b))).2.1,(d8 (d8 (d8 b))).2.2.1,(d8 (d8 (d8 b))).2.2.2.1,(d8 (d8 (d8 b))).2.2.2.2.1,(d8 (d8 (d8 b))).2.2.2.2.2.1,(d8 (d8 (d8 b))).2.2.2.2.2.2.1,(d8 (d8 (d8 b))).2.2.2.2.2.2.2.1,(d8 (d8 (d8 (d8 b)))).1,(d8 (d8 (d8 (d8 b)))).2.1,(d8 (d8 (d8 (d8 b)))).2.2,(aT c 0 (i64.wrap ((c.length:Int)-1)))) else (idx d.2 0).bind λj=>
aM (cR 1 ((List.length d.2):Int) (List.length d.2))<|
(ue (List.set c (Int.toNat (i64.wrap ((c.length:Int)-1))) (d.1,(aT d.2 1 ((List.length d.2):Int)))) j).bind λa3=>
gi (jk j i f F h aS E D g Y X W V U T S R Q P O N M L K J I C B A z y x w v u t s r q p o n m l k most) (λa1=>some (.error (.inl a1))) λa=>
bif a.1 then (
gi (fp (List.set c (Int.toNat (i64.wrap ((c.length:Int)-1))) (d.1,(aT d.2 1 ((List.length d.2):Int)))) j i f F h aS E D g Y a.2.1 a.2.2.1 a.2.2.2.1 a.2.2.2.2.1 a.2.2.2.2.2.1 a.2.2.2.2.2.2.1 a.2.2.2.2.2.2.2.1 a.2.2.2.2.2.2.2.2.1 (d8 a).2.1 (d8 a).2.2.1 (d8 a).2.2.2.1 (d8 a).2.2.2.2.1 (d8 a).2.2.2.2.2.1 (d8 a).2.2.2.2.2.2.1 (d8 a).2.2.2.2.2.2.2.1 (d8 (d8 a)).1 (d8 (d8 a)).2.1 (d8 (d8 a)).2.2.1 (d8 (d8 a)).2.2.2.1 (d8 (d8 a)).2.2.2.2.1 (d8 (d8 a)).2.2.2.2.2.1 (d8 (d8 a)).2.2.2.2.2.2.1 (d8 (d8 a)).2.2.2.2.2.2.2.1 (d8 (d8 (d8 a))).1 (d8 (d8 (d8 a))).2.1 (d8 (d8 (d8 a))).2.2.1 (d8 (d8 (d8 a))).2.2.2.1 (d8 (d8 (d8 a))).2.2.2.2.1 (d8 (d8 (d8 a))).2.2.2.2.2.1 (d8 (d8 (d8 a))).2.2.2.2.2.2.1 (d8 (d8 (d8 a))).2.2.2.2.2.2.2.1 (d8 (d8 (d8 (d8 a)))).1 (d8 (d8 (d8 (d8 a)))).2.1 (d8 (d8 (d8 (d8 a)))).2.2.1 (d8 (d8 (d8 (d8 a)))).2.2.2 most) (λa0=>some (.error (.inl a0))) λZ=>
e (a.2.1,a.2.2.1,a.2.2.2.1,a.2.2.2.2.1,a.2.2.2.2.2.1,a.2.2.2.2.2.2.1,a.2.2.2.2.2.2.2.1,a.2.2.2.2.2.2.2.2.1,(d8 a).2.1,(d8 a).2.2.1,(d8 a).2.2.2.1,(d8 a).2.2.2.2.1,(d8 a).2.2.2.2.2.1,(d8 a).2.2.2.2.2.2.1,(d8 a).2.2.2.2.2.2.2.1,(d8 (d8 a)).1,(d8 (d8 a)).2.1,(d8 (d8 a)).2.2.1,(d8 (d8 a)).2.2.2.1,(d8 (d8 a)).2.2.2.2.1,(d8 (d8 a)).2.2.2.2.2.1,(d8 (d8 a)).2.2.2.2.2.2.1,(d8 (d8 a)).2.2.2.2.2.2.2.1,(d8 (d8 (d8 a))).1,(d8 (d8 (d8 a))).2.1,(d8 (d8 (d8 a))).2.2.1,(d8 (d8 (d8 a))).2.2.2.1,(d8 (d8 (d8 a))).2.2.2.2.1,(d8 (d8 (d8 a))).2.2.2.2.2.1,(d8 (d8 (d8 a))).2.2.2.2.2.2.1,(d8 (d8 (d8 a))).2.2.2.2.2.2.2.1,(d8 (d8 (d8 (d8 a)))).1,(d8 (d8 (d8 (d8 a)))).2.1,(d8 (d8 (d8 (d8 a)))).2.2.1,(d8 (d8 (d8 (d8 a)))).2.2.2,Z)) else (
e (a.2.1,a.2.2.1,a.2.2.2.1,a.2.2.2.2.1,a.2.2.2.2.2.1,a.2.2.2.2.2.2.1,a.2.2.2.2.2.2.2.1,a.2.2.2.2.2.2.2.2.1,(d8 a).2.1,(d8 a).2.2.1,(d8 a).2.2.2.1,(d8 a).2.2.2.2.1,(d8 a).2.2.2.2.2.1,(d8 a).2.2.2.2.2.2.1,(d8 a).2.2.2.2.2.2.2.1,(d8 (d8 a)).1,(d8 (d8 a)).2.1,(d8 (d8 a)).2.2.1,(d8 (d8 a)).2.2.2.1,(d8 (d8 a)).2.2.2.2.1,(d8 (d8 a)).2.2.2.2.2.1,(d8 (d8 a)).2.2.2.2.2.2.1,(d8 (d8 a)).2.2.2.2.2.2.2.1,(d8 (d8 (d8 a))).1,(d8 (d8 (d8 a))).2.1,(d8 (d8 (d8 a))).2.2.1,(d8 (d8 (d8 a))).2.2.2.1,(d8 (d8 (d8 a))).2.2.2.2.1,(d8 (d8 (d8 a))).2.2.2.2.2.1,(d8 (d8 (d8 a))).2.2.2.2.2.2.1,(d8 (d8 (d8 a))).2.2.2.2.2.2.2.1,(d8 (d8 (d8 (d8 a)))).1,(d8 (d8 (d8 (d8 a)))).2.1,(d8 (d8 (d8 (d8 a)))).2.2.1,(d8 (d8 (d8 (d8 a)))).2.2.2,(List.set c (Int.toNat (i64.wrap ((c.length:Int)-1))) (d.1,(aT d.2 1 ((List.length d.2):Int)))))) else some (.ok (X,W,V,U,T,S,R,Q,P,O,N,M,L,K,J,I,C,B,A,z,y,x,w,v,u,t,s,r,q,p,o,n,m,l,k))
def vg(x:Q1)(t:bp)(e:Q4)(I:Q1)(r:bp)(aS:Q5)(F:Jw)(D:(List Q1))(m:Q1)(Q:(List Q1))(G:Int)(a:Q4)(N:Int)(v:Int)(H:(List Q1))(y:Q1)(L:Q1)(Part:(List Q6))(u:Int)(l:(List Q1))(d:Q1)(q:Q1)(s:(List Q6))(p:Q1)(w:Int)(C:cB)(A:Int)(E:Int)(J:Q1)(c:Int)(i:cB)(g:Int)(k:Int)(o:Q1)(b:Int)(h:cB)(f:Int)(j:Int)(n:Q1)(M:Int)(K:Int)(z:Int)(B:Q1)(P:Q1)(O:Q1)(most:Int):Option (Except (Cu ⊕ Bf) Q8):=
gi (fp [] x t e I r aS F D m Q G a N v H y L Part u l d q s p w C A E J c i g k o b h f j n M K z B P O most) (λS=>some (.error (.inl S))) λR=>
ao (mH t e I r aS F D m Q most) ay (G,a,N,v,H,y,L,Part,u,l,d,q,s,p,w,C,A,E,J,c,i,g,k,o,b,h,f,j,n,M,K,z,B,P,O,R)
def lD(h:bp)(e:Q4)(B:Q1)(g:bp)(aS:Q5)(A:Jw)(z:(List Q1))(f:Q1)(a0:(List Q1))(most:Int)(E:(List Q1))(c:(Int×Q4×Int×Int×(List Q1)×Q1×Q1×(List Q6)×Int×(List Q1)×Q1×Q1×(List Q6)×Q1×Int×cB×Int×Int×Q1×Int×cB×Int×Int×Q1×Int×cB×Int×Int×Q1×Int×Int×Int×Q1×Q1×Q1×Int)->Option (Except (Cu ⊕ Bf) Q8)):Int×Q4×Int×Int×(List Q1)×Q1×Q1×(List Q6)×Int×(List Q1)×Q1×Q1×(List Q6)×Q1×Int×cB×Int×Int×Q1×Int×cB×Int×Int×Q1×Int×cB×Int×Int×Q1×Int×Int×Int×Q1×Q1×Q1×Int->Option (Except (Cu ⊕ Bf) Q8):=λ⟨Z,Y,X,W,V,U,T,S,R,Q,P,O,N,M,L,K,J,I,H,y,x,w,v,u,t,s,r,q,p,o,n,m,l,k,j,d⟩=>
bif decide (d<(E.length:Int)) then (idx E d).bind λi=>
gi (jk i h e B g aS A z f a0 Z Y X W V U T S R Q P O N M L K J I H y x w v u t s r q p o n m l k j most) (λG=>some (.error (.inl G))) λa=>
bif a.1 then (
gi (vg i h e B g aS A z f a0 a.2.1 a.2.2.1 a.2.2.2.1 a.2.2.2.2.1 a.2.2.2.2.2.1 a.2.2.2.2.2.2.1 a.2.2.2.2.2.2.2.1 a.2.2.2.2.2.2.2.2.1 (d8 a).2.1 (d8 a).2.2.1 (d8 a).2.2.2.1 (d8 a).2.2.2.2.1 (d8 a).2.2.2.2.2.1 (d8 a).2.2.2.2.2.2.1 (d8 a).2.2.2.2.2.2.2.1 (d8 (d8 a)).1 (d8 (d8 a)).2.1 (d8 (d8 a)).2.2.1 (d8 (d8 a)).2.2.2.1 (d8 (d8 a)).2.2.2.2.1 (d8 (d8 a)).2.2.2.2.2.1 (d8 (d8 a)).2.2.2.2.2.2.1 (d8 (d8 a)).2.2.2.2.2.2.2.1 (d8 (d8 (d8 a))).1 (d8 (d8 (d8 a))).2.1 (d8 (d8 (d8 a))).2.2.1 (d8 (d8 (d8 a))).2.2.2.1 (d8 (d8 (d8 a))).2.2.2.2.1 (d8 (d8 (d8 a))).2.2.2.2.2.1 (d8 (d8 (d8 a))).2.2.2.2.2.2.1 (d8 (d8 (d8 a))).2.2.2.2.2.2.2.1 (d8 (d8 (d8 (d8 a)))).1 (d8 (d8 (d8 (d8 a)))).2.1 (d8 (d8 (d8 (d8 a)))).2.2.1 (d8 (d8 (d8 (d8 a)))).2.2.2 most) (λF=>YU F (λD=>some (.error (.inl D))) (λC=>some (.error (.inr C)))) λb=>
c (b.1,b.2.1,b.2.2.1,b.2.2.2.1,b.2.2.2.2.1,b.2.2.2.2.2.1,b.2.2.2.2.2.2.1,b.2.2.2.2.2.2.2.1,b.2.2.2.2.2.2.2.2.1,(d8 b).2.1,(d8 b).2.2.1,(d8 b).2.2.2.1,(d8 b).2.2.2.2.1,(d8 b).2.2.2.2.2.1,(d8 b).2.2.2.2.2.2.1,(d8 b).2.2.2.2.2.2.2.1,(d8 (d8 b)).1,(d8 (d8 b)).2.1,(d8 (d8 b)).2.2.1,(d8 (d8 b)).2.2.2.1,(d8 (d8 b)).2.2.2.2.1,(d8 (d8 b)).2.2.2.2.2.1,(d8 (d8 b)).2.2.2.2.2.2.1,(d8 (d8 b)).2.2.2.2.2.2.2.1,(d8 (d8 (d8 b))).1,(d8 (d8 (d8 b))).2.1,(d8 (d8 (d8 b))).2.2.1,(d8 (d8 (d8 b))).2.2.2.1,(d8 (d8 (d8 b))).2.2.2.2.1,(d8 (d8 (d8 b))).2.2.2.2.2.1,(d8 (d8 (d8 b))).2.2.2.2.2.2.1,(d8 (d8 (d8 b))).2.2.2.2.2.2.2.1,(d8 (d8 (d8 (d8 b)))).1,(d8 (d8 (d8 (d8 b)))).2.1,(d8 (d8 (d8 (d8 b)))).2.2,(i64.wrap (d+1)))) else (
c (a.2.1,a.2.2.1,a.2.2.2.1,a.2.2.2.2.1,a.2.2.2.2.2.1,a.2.2.2.2.2.2.1,a.2.2.2.2.2.2.2.1,a.2.2.2.2.2.2.2.2.1,(d8 a).2.1,(d8 a).2.2.1,(d8 a).2.2.2.1,(d8 a).2.2.2.2.1,(d8 a).2.2.2.2.2.1,(d8 a).2.2.2.2.2.2.1,(d8 a).2.2.2.2.2.2.2.1,(d8 (d8 a)).1,(d8 (d8 a)).2.1,(d8 (d8 a)).2.2.1,(d8 (d8 a)).2.2.2.1,(d8 (d8 a)).2.2.2.2.1,(d8 (d8 a)).2.2.2.2.2.1,(d8 (d8 a)).2.2.2.2.2.2.1,(d8 (d8 a)).2.2.2.2.2.2.2.1,(d8 (d8 (d8 a))).1,(d8 (d8 (d8 a))).2.1,(d8 (d8 (d8 a))).2.2.1,(d8 (d8 (d8 a))).2.2.2.1,(d8 (d8 (d8 a))).2.2.2.2.1,(d8 (d8 (d8 a))).2.2.2.2.2.1,(d8 (d8 (d8 a))).2.2.2.2.2.2.1,(d8 (d8 (d8 a))).2.2.2.2.2.2.2.1,(d8 (d8 (d8 (d8 a)))).1,(d8 (d8 (d8 (d8 a)))).2.1,(d8 (d8 (d8 (d8 a)))).2.2.1,(d8 (d8 (d8 (d8 a)))).2.2.2,(i64.wrap (d+1)))) else some (.ok (Z,Y,X,W,V,U,T,S,R,Q,P,O,N,M,L,K,J,I,H,y,x,w,v,u,t,s,r,q,p,o,n,m,l,k,j))
def oE(e:bp)(a:Q4)(v:Q1)(d:bp)(aS:Q5)(u:Jw)(t:(List Q1))(b:Q1)(L:(List Q1))(G:Int)(c:Q4)(O:Int)(y:Int)(H:(List Q1))(A:Q1)(J:Q1)(Part:(List Q6))(x:Int)(o:(List Q1))(h:Q1)(s:Q1)(w:(List Q6))(r:Q1)(z:Int)(E:cB)(D:Int)(F:Int)(I:Q1)(g:Int)(l:cB)(j:Int)(n:Int)(q:Q1)(f:Int)(k:cB)(i:Int)(m:Int)(p:Q1)(M:Int)(K:Int)(C:Int)(B:Q1)(Q:Q1)(P:Q1)(most:Int):Option (Except (Cu ⊕ Bf) Q8):=
(Ap (e,a,v,d,aS) (u,t,b,L)).bind λN=>
ao (lD e a v d aS u t b L most N) ay (G,c,O,y,H,A,J,Part,x,o,h,s,w,r,z,E,D,F,I,g,l,j,n,q,f,k,i,m,p,M,K,C,B,Q,P,0)
def gK(m:Q9)(a:p7)(o:W8):Option (Bool×Bf×Int×Q1):=
(uQ m a).bind λd=>
bif d.2 != 0 then some (false,([],[]),d.2,[]) else (jn d.1 o).bind λb=>
ai (b.2 != 0) λBk=>
ai (decide (o.2.2.1<1)) λj=>
ai (Bk||j) λi=>
ai (decide (1048576<o.2.2.1)) λh=>
ai (i||h) λg=>
bif g then (
some (false,([],[]),1,[])) else (
gi (oE m.1 m.2.1 m.2.2.1 m.2.2.2.1 m.2.2.2.2 a.1 a.2.1 a.2.2.1 a.2.2.2 b.1.1 b.1.2.1 b.1.2.2.1 b.1.2.2.2.1.1.1 b.1.2.2.2.1.1.2.1 b.1.2.2.2.1.1.2.2 b.1.2.2.2.1.2 b.1.2.2.2.2.1.1 b.1.2.2.2.2.1.2.1.1 b.1.2.2.2.2.1.2.1.2.1 b.1.2.2.2.2.1.2.1.2.2 b.1.2.2.2.2.1.2.2 b.1.2.2.2.2.2.1.1 b.1.2.2.2.2.2.1.2 b.1.2.2.2.2.2.2.1.1.1 b.1.2.2.2.2.2.2.1.1.2.1 b.1.2.2.2.2.2.2.1.1.2.2.1 b.1.2.2.2.2.2.2.1.1.2.2.2.1 b.1.2.2.2.2.2.2.1.1.2.2.2.2 b.1.2.2.2.2.2.2.1.2.1.1 b.1.2.2.2.2.2.2.1.2.1.2.1 b.1.2.2.2.2.2.2.1.2.1.2.2.1 b.1.2.2.2.2.2.2.1.2.1.2.2.2.1 b.1.2.2.2.2.2.2.1.2.1.2.2.2.2 b.1.2.2.2.2.2.2.1.2.2.1 b.1.2.2.2.2.2.2.1.2.2.2.1 b.1.2.2.2.2.2.2.1.2.2.2.2.1 b.1.2.2.2.2.2.2.1.2.2.2.2.2.1 b.1.2.2.2.2.2.2.1.2.2.2.2.2.2 b.1.2.2.2.2.2.2.2.1 b.1.2.2.2.2.2.2.2.2.1 b.1.2.2.2.2.2.2.2.2.2.1 b.1.2.2.2.2.2.2.2.2.2.2.1 b.1.2.2.2.2.2.2.2.2.2.2.2.1 b.1.2.2.2.2.2.2.2.2.2.2.2.2 o.2.2.1) (λf=>YU f (λc=>
some (false,([],[]),c.1,c.2)) (λe=>
some (true,e,0,[]))) λk=>
some (false,([],[]),0,[]))
def dU(s:Q4)(d:Q1)(a:Int->zf)(c:Int):zf:=
bif decide (c<(d.length:Int)) then (idx d c).bind λh=>
(idx s c).bind λg=>
ai (decide (h<g.1)) λb=>
bF (!b) 0 (idx d c) λf=>
bF (!b) (0,0) (idx s c) λe=>
ai (decide (e.2<f)) λj=>
ai (b||j) λi=>
bif i then (
some 5) else (
a (i64.wrap (c+1))) else some 0
def lS(s:Q4)(a:Q1):zf:=
bif (a.length:Int) != (s.length:Int) then some 1 else ao (dU s a) ay 0
def pG(m:Q9)(a:Q1):zc:=
(lS m.2.1 a).bind λb=>
some (b==0)
def pz(m:Q9)(a:p7)(x:Q1):zc:=
bif decide ((i64.wrap ((x.length:Int)-1))<0) then some false else aM (cR 0 (i64.wrap ((x.length:Int)-1)) (List.length x))<|
(pG m (aT x 0 (i64.wrap ((x.length:Int)-1)))).bind λb=>
bF b 0 (idx x (i64.wrap ((x.length:Int)-1))) λe=>
ai (decide (0<=e)) λh=>
ai (b&&h) λc=>
bF c 0 (idx x (i64.wrap ((x.length:Int)-1))) λd=>
ai (decide (d<(a.1.length:Int))) λg=>
ai (c&&g) λf=>
some f
def bd(a:Bool):zf:=
bif a then (
some 1) else (
some 0)
def kP(e:Ex)(A:Q1)(a:Int)(b8:Int):zf:=
bif e.op==1 then some e.n else bif e.op==2 then ai (decide (0<=e.n)) λz=>
ai (decide (e.n<(A.length:Int))) λy=>
ai (z&&y) λx=>
bif x then (
(idx A e.n).bind λo=>
some o) else (
some 0) else bif e.op==3 then some (i64.wrap (a+b8)) else bif e.op==4 then some (i64.wrap (a-b8)) else bif e.op==5 then some (i64.wrap (a*b8)) else bif e.op==6 then some (i64.wrap (0-a)) else bif e.op==7 then (bd (a==b8)).bind λm=>
some m else bif e.op==8 then (bd (a != b8)).bind λl=>
some l else bif e.op==9 then (bd (decide (a<b8))).bind λk=>
some k else bif e.op==10 then (bd (decide (a<=b8))).bind λj=>
some j else bif e.op==11 then (bd (decide (b8<a))).bind λi=>
some i else bif e.op==12 then (bd (decide (b8<=a))).bind λh=>
some h else bif e.op==13 then some 1 else bif e.op==15 then (bd (a==0)).bind λg=>
some g else bif e.op==16 then ai (a==1) λw=>
ai (b8==1) λv=>
ai (w&&v) λu=>
(bd u).bind λf=>
some f else bif e.op==17 then ai (a==1) λBk=>
ai (b8==1) λt=>
ai (Bk||t) λs=>
(bd s).bind λd=>
some d else bif e.op==18 then ai (a==0) λr=>
ai (b8==1) λq=>
ai (r||q) λp=>
(bd p).bind λc=>
some c else bif e.op==19 then (bd (a==b8)).bind λb=>
some b else some 0
def GF(g:(Ex×Q1)->zf)(e:Ex)(f:Q1)(h:Int):zf:=
ai (λ(b:Int)=>kP e f h b) λa=>
bif decide (1<(List.length e.l:Int)) then (idx e.l 1).bind λd=>
(g (d,f)).bind λc=>
a c else a 0
def lC(g:(Ex×Q1)->zf)(e:Ex)(f:Q1):zf:=
ai (λ(b:Int)=>GF g e f b) λa=>
bif decide (0<(List.length e.l:Int)) then (idx e.l 0).bind λd=>
(g (d,f)).bind λc=>
a c else a 0
def eC(e:Ex)(a:Q1):zf:=
 ao (λk (s:(Ex×Q1))=>lC k s.1 s.2) ay (e,a)
def kQ(a:p7)(q:Int)(g:Q1)(b:Int->zc)(d:Int):zc:=
(idx a.1 q).bind λh=>
bif decide (d<(h.length:Int)) then (idx a.1 q).bind λf=>
(idx f d).bind λe=>
(eC e g).bind λc=>
bif c != 1 then some false else b (i64.wrap (d+1)) else some true
def sS(a:p7)(q:Int)(b:Q1):zc:=
ao (kQ a q b) ay 0
def dK(a:Q1)(b:Q1)(c:Int->zc)(d:Int):zc:=
bif decide (d<(a.length:Int)) then (idx a d).bind λf=>
(idx b d).bind λe=>
bif f != e then some false else c (i64.wrap (d+1)) else some true
def gF(a:Q1)(b:Q1):zc:=
bif (a.length:Int) != (b.length:Int) then some false else ao (dK a b) ay 0
def iJ(l:(List Q1))(d:Q1)(a:Int->zf)(b:Int):zf:=
bif decide (b<(l.length:Int)) then (idx l b).bind λe=>
(gF e d).bind λc=>
bif c then (
some b) else (
a (i64.wrap (b+1))) else some (-1)
def dM(l:(List Q1))(a:Q1):zf:=
ao (iJ l a) ay 0
def jE(a:p7)(c:Q1)(some_:Q1)(b:pn->Option (List Q1)):(List Q1)×Int->Option (List Q1):=λ⟨g,d⟩=>
bif decide (d<(some_.length:Int)) then (idx some_ d).bind λe=>
aM (aH (List.length ([]:zn)+List.length c) 8)<|
aM (aH (List.length (([]:zn)++c)+List.length ([e]:zn)) 8)<|
(idx some_ d).bind λi=>
(sS a i c).bind λf=>
bF f default (dM g ((([]:zn)++c)++([e]:zn))) λh=>
ai (decide (h<0)) λk=>
ai (f&&k) λj=>
bif j then (
aM (aH (List.length g+List.length ([((([]:zn)++c)++([e]:zn))]:List Q1)) 24)<|
b ((g++([((([]:zn)++c)++([e]:zn))]:List Q1)),(i64.wrap (d+1)))) else (
b (g,(i64.wrap (d+1)))) else some g
def lr(l:(List Q1))(a:p7)(b:Q1)(some_:Q1):Option (List Q1):=
ao (jE a b some_) ay (l,0)
def nt(m:Q9)(a:p7):Option (List Q1):=
(lr [] a m.2.2.1 a.2.2.1).bind λb=>
some b
def F4(l:(List Q1))(d:Q1)(a:Int->zf)(b:Int):zf:=
bif decide (b<(l.length:Int)) then (idx l b).bind λe=>
(gF e d).bind λc=>
bif c then (
some b) else (
a (i64.wrap (b+1))) else some (-1)
def jJ(l:(List Q1))(a:Q1):zf:=
ao (F4 l a) ay 0
def iV(m:Q9)(d:Q1)(a:fv->Option Q1):Q1×Int->Option Q1:=λ⟨b,c⟩=>
bif decide (c<(m.2.2.2.2.length:Int)) then (idx m.2.2.2.2 c).bind λf=>
(eC f.2.1 d).bind λe=>
bif e==1 then aM (aH (List.length b+List.length ([c]:zn)) 8)<|
a ((b++([c]:zn)),(i64.wrap (c+1))) else a (b,(i64.wrap (c+1))) else some b
def ph(m:Q9)(a:Q1):Option Q1:=
ao (iV m a) ay ([],0)
def iy(m:Q9)(c:Q1)(b:Int->Option fv)(a:Int):Option fv:=
bif decide (a<(c.length:Int)) then (idx c a).bind λh=>
(idx m.2.1 a).bind λg=>
ai (decide (h<g.1)) λd=>
bF (!d) 0 (idx c a) λf=>
bF (!d) (0,0) (idx m.2.1 a) λe=>
ai (decide (e.2<f)) λj=>
ai (d||j) λi=>
bif i then (
some ([],6)) else (
b (i64.wrap (a+1))) else some (c,0)
def kI(m:Q9)(e:Q1)(k:Int)(a:fv->Option fv):Q1×Int->Option fv:=λ⟨b,c⟩=>
(idx m.2.2.2.2 k).bind λh=>
bif decide (c<(h.2.2.length:Int)) then (idx m.2.2.2.2 k).bind λg=>
(idx g.2.2 c).bind λd=>
(eC d.2 e).bind λf=>
(idx b d.1).bind λi=>
a ((List.set b (Int.toNat d.1) f),(i64.wrap (c+1))) else ao (iy m b) ay 0
def nO(m:Q9)(a:Q1)(k:Int):Option fv:=
ai (decide (k<0)) λd=>
ai (decide ((m.2.2.2.2.length:Int)<=k)) λc=>
ai (d||c) λb=>
bif b then (
some ([],10)) else (
aM (aH (List.length ([]:zn)+List.length a) 8)<|
ao (kI m a k) ay ((([]:zn)++a),0))
def kS(m:Q9)(e:Q1)(h:Q1)(b:pn->Option pn):(List Q1)×Int->Option pn:=λ⟨a,d⟩=>
bif decide (d<(h.length:Int)) then (idx h d).bind λg=>
(nO m e g).bind λc=>
bif c.2 != 0 then some ([],c.2) else (dM a c.1).bind λf=>
bif decide (f<0) then aM (aH (List.length a+List.length ([c.1]:List Q1)) 24)<|
b ((a++([c.1]:List Q1)),(i64.wrap (d+1))) else b (a,(i64.wrap (d+1))) else some (a,0)
def kA(m:Q9)(a:Q1):Option pn:=
(ph m a).bind λb=>
bif (b.length:Int)==0 then aM (aH (List.length ([]:zn)+List.length a) 8)<|
some (([(([]:zn)++a)]:List Q1),0) else ao (kS m a b) ay ([],0)
def kK(a:p7)(x:Q1)(e:pn)(c:pn->Option pn):(List Q1)×Int->Option pn:=λ⟨b,d⟩=>
bif decide (d<(e.1.length:Int)) then (idx e.1 d).bind λi=>
(idx x (i64.wrap ((x.length:Int)-1))).bind λh=>
(idx a.2.1 h).bind λg=>
(lr b a i g).bind λf=>
c (f,(i64.wrap (d+1))) else some (b,0)
def nT(m:Q9)(a:p7)(x:Q1):Option pn:=
aM (cR 0 (i64.wrap ((x.length:Int)-1)) (List.length x))<|
(kA m (aT x 0 (i64.wrap ((x.length:Int)-1)))).bind λb=>
bif b.2 != 0 then some ([],b.2) else ao (kK a x b) ay ([],0)
def lg(m:Q9)(a:p7)(x:Q1)(y:Q1):zc:=
(nT m a x).bind λf=>
ai (f.2==0) λb=>
bF b default (jJ f.1 y) λc=>
ai (decide (0<=c)) λe=>
ai (b&&e) λd=>
some d
def uH(a:p7)(x:Q1)(b:Int->zc)(c:Int):zc:=
(idx a.2.2.2 0).bind λg=>
bif decide (c<(g.length:Int)) then (idx a.2.2.2 0).bind λf=>
(idx f c).bind λe=>
(idx x (i64.wrap ((x.length:Int)-1))).bind λd=>
bif e==d then some true else b (i64.wrap (c+1)) else some false
def mJ(a:p7)(x:Q1):zc:=
ao (uH a x) ay 0
def kg(a:p7)(c:Bf)(j:Bool)(d:CZ->zc):Bool×Int->zc:=λ⟨b,e⟩=>
bif decide (e<(c.2.length:Int)) then (idx c.2 e).bind λg=>
(mJ a g).bind λf=>
ai (b||f) λi=>
d (i,(i64.wrap (e+1))) else ai (j&&b) λh=>
some h
def j9(m:Q9)(a:p7)(c:Bf)(b:Int->zc)(d:Int):zc:=
bif decide (d<(List.length ((([]:List Q1)++c.1)++c.2):Int)) then (idx ((([]:List Q1)++c.1)++c.2) (i64.wrap (d-1))).bind λj=>
(idx ((([]:List Q1)++c.1)++c.2) d).bind λi=>
(lg m a j i).bind λf=>
bif !f then some false else b (i64.wrap (d+1)) else (idx ((([]:List Q1)++c.1)++c.2) (i64.wrap ((List.length ((([]:List Q1)++c.1)++c.2):Int)-1))).bind λh=>
(idx c.2 0).bind λg=>
(lg m a h g).bind λe=>
ao (kg a c e) ay (false,0)
def kh(m:Q9)(a:p7)(c:Bf)(b:Int->zc)(d:Int):zc:=
bif decide (d<(List.length ((([]:List Q1)++c.1)++c.2):Int)) then (idx ((([]:List Q1)++c.1)++c.2) d).bind λi=>
(pz m a i).bind λg=>
bif !g then some false else b (i64.wrap (d+1)) else (idx ((([]:List Q1)++c.1)++c.2) 0).bind λh=>
(nt m a).bind λf=>
(jJ f h).bind λe=>
bif decide (e<0) then some false else ao (j9 m a c) ay 1
def gP(m:Q9)(a:p7)(c:Bf):zc:=
aM (aH (List.length ([]:List Q1)+List.length c.1) 24)<|
aM (aH (List.length (([]:List Q1)++c.1)+List.length c.2) 24)<|
bif (c.2.length:Int)==0 then some false else ao (kh m a c) ay 0
def rz:zc:=
(mC [118,97,114,32,120,32,48,32,49,32,48,59]).bind λc=>
(gK c.1 (([[]]:List (List Ex)),([([0]:zn)]:List Q1),([0]:zn),([([0]:zn)]:List Q1)) (0,9,9,0,0,0)).bind λb=>
(gK c.1 (([[]]:List (List Ex)),([([0]:zn)]:List Q1),([0]:zn),([[]]:List Q1)) (0,9,9,0,0,0)).bind λa=>
(gK c.1 (([[]]:List (List Ex)),([([0]:zn)]:List Q1),([0]:zn),([([0]:zn)]:List Q1)) (0,0,9,0,0,0)).bind λo=>
(gK c.1 (([[]]:List (List Ex)),([([0]:zn)]:List Q1),([0]:zn),([([0]:zn)]:List Q1)) (0,9,0,0,0,0)).bind λn=>
ai (c.2&&b.1) λt=>
ai (b.2.2.1==0) λs=>
ai (t&&s) λd=>
bF d default (gP c.1 (([[]]:List (List Ex)),([([0]:zn)]:List Q1),([0]:zn),([([0]:zn)]:List Q1)) b.2.1) λm=>
ai (d&&m) λr=>
ai (!a.1) λq=>
ai (r&&q) λp=>
ai (a.2.2.1==0) λl=>
ai (p&&l) λk=>
ai ((a.2.1.2.length:Int)==0) λj=>
ai (k&&j) λi=>
ai (o.2.2.1==7) λh=>
ai (i&&h) λg=>
ai (n.2.2.1==1) λf=>
ai (g&&f) λe=>
some e
def j7(h:Int)(d:pn->Option Q47)(e:pn)(a:pn->Option Q47):(List Q1)×Int->Option Q47:=λ⟨b,c⟩=>
bif decide (c<(e.1.length:Int)) then (idx e.1 c).bind λi=>
(dM b i).bind λg=>
bif decide (g<0) then (idx e.1 c).bind λf=>
aM (aH (List.length b+List.length ([f]:List Q1)) 24)<|
a ((b++([f]:List Q1)),(i64.wrap (c+1))) else a (b,(i64.wrap (c+1))) else d (b,(i64.wrap (h+1)))
def gX(m:Q9)(most:Int)(b:pn->Option Q47):(List Q1)×Int->Option Q47:=λ⟨a,c⟩=>
bif decide (c<(a.length:Int)) then bif decide (most<(a.length:Int)) then some ([],7,[]) else (idx a c).bind λf=>
(kA m f).bind λd=>
bif d.2 != 0 then (idx a c).bind λe=>
some ([],d.2,e) else ao (j7 c b d) ay (a,0) else some (a,0,[])
def jL(m:Q9)(most:Int):Option Q47:=
aM (aH (List.length ([]:zn)+List.length m.2.2.1) 8)<|
ao (gX m most) ay (([(([]:zn)++m.2.2.1)]:List Q1),0)
def iS(text:aE)(kind:Int):zc:=
(rz).bind λu=>
(mC text).bind λd=>
(jL d.1 60).bind λa=>
ai (!d.2) λt=>
ai (a.2.1 != 0) λs=>
ai (t||s) λr=>
bif r then (
some u) else (
(gK d.1 (([[]]:List (List Ex)),([([0]:zn)]:List Q1),([0]:zn),([([0]:zn)]:List Q1)) ((Int.tmod (i64.wrap kind) 4),(a.1.length:Int),(a.1.length:Int),0,0,0)).bind λc=>
(gK d.1 (([[]]:List (List Ex)),([([0]:zn)]:List Q1),([0]:zn),([[]]:List Q1)) ((Int.tmod (i64.wrap kind) 4),(a.1.length:Int),(a.1.length:Int),0,0,0)).bind λb=>
ai (u&&c.1) λq=>
ai (c.2.2.1==0) λp=>
ai (q&&p) λe=>
bF e default (gP d.1 (([[]]:List (List Ex)),([([0]:zn)]:List Q1),([0]:zn),([([0]:zn)]:List Q1)) c.2.1) λm=>
ai (e&&m) λo=>
ai (!b.1) λn=>
ai (o&&n) λl=>
ai (b.2.2.1==0) λk=>
ai (l&&k) λj=>
ai ((b.2.1.1.length:Int)==0) λi=>
ai (j&&i) λh=>
ai ((b.2.1.2.length:Int)==0) λg=>
ai (h&&g) λf=>
some f)
end
end Go.Proofs.YtcgihjbfppkcfaaGreatDoor
