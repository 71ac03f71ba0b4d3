/-
  Own texts for the statement ModelJoins, cut down to what it needs: Model, Den. (cut and joined by a program)
-/
import Derived.Test.YtdhgpnejphlfpaaDoorModelJoinsA
import Derived.Test.YtdhgpnejphlfpaaDoorModelJoinsB
import Derived.Test.YtdhgpnejphlfpaaDoorModelJoinsC
import Derived.Test.YtdhgpnejphlfpaaDoorModelJoinsD
import Derived.Test.YtdhgpnejphlfpaaDoorProg
namespace Go.Proofs.YtdhgpnejphlfpaaDoor
abbrev Q1 := ((List (Int × Str × Int × Int)) × Int × (List Str) × Int × Int × Int)
abbrev Q2 := (Ex × Int × Int × Int × Int)
abbrev Q3 := ((List Str) × (List (Int × Int)) × (List Int) × (List Str) × (List (Int × Ex × (List (Int × Ex)))))
abbrev Q4 := (List (Int × Str × Int × Int))
abbrev Q5 := (Int × Ex × (List (Int × Ex)))
abbrev Q6 := (List Str)
abbrev Q7 := (Int × Int)
abbrev Q8 := (List Int)
abbrev Q9 := (Int × Int × Int × Int × Int × Int × Int × (List Ex))
abbrev Q10 := (Int × Ex)
abbrev Q11 := (Int × Int × Int)
abbrev Q12 := (Q3 × Int × Int)
abbrev Q13 := (Int × Str × Int × Int)
abbrev Q14 := (Except Q7 (Int × (List Q5)))
abbrev Q15 := (List Q10)
abbrev Q16 := (Ex × Int × Int × Int)
abbrev Q17 := (Except Q7 (Ex × Int))
abbrev Q18 := (Int × Q6 × (List Q7) × Q8 × Q6 × (List Q5))
abbrev Q19 := (Except Q7 (Q10 × Int))
abbrev Q20 := (Bool × Bool × Bool × Int)
abbrev Q21 := (Ex × Int)
abbrev Q22 := (Int × Bool)
abbrev Q23 := (Except Q7 (Int × Q6 × (List Q5)))
noncomputable section
def sH : List Str := [[116, 114, 117, 101], [102, 97, 108, 115, 101], [88], [70], [71], [85], [82], [118, 97, 114], [112, 114, 111, 99]]
def kP : List Str := [[], [], [], [43], [45], [42], [45], [61, 61], [33, 61], [60], [60, 61], [62], [62, 61], [116, 114, 117, 101], [102, 97, 108, 115, 101], [33], [38], [124], [45, 62], [60, 45, 62], [88], [70], [71], [85], [82]]
def xG (x0 : Int) (x1 : Int) (y0 : Int) (y1 : Int) : Bool := x0 == y0 && x1 == y1
def wO (c : Int) : Option Bool :=
ah (c == 32) fun b3 =>
ah (c == 9) fun b5 =>
ah (b3 || b5) fun b7 =>
ah (c == 10) fun b9 =>
ah (b7 || b9) fun b11 =>
ah (c == 13) fun b13 =>
ah (b11 || b13) fun b15 =>
some b15
def pG (c : Int) : Option Bool :=
some (c != 10)
def He (text : Str) (again5 : Int → Option Str) (t4 : Int) : Option Str :=
bif (decide (t4 < (List.length text : Int))) then (
chk (inB t4 (List.length text)) <|
(pG (gK text t4)).bind fun r8 =>
bif (!r8) then (
chk (mo 0 t4 (List.length text)) <|
some (cut text 0 t4))
else (
again5 (IntKind.i64.wrap (t4 + 1))))
else (
some text)
def A3 (text : Str) : Option Str :=
an (He text) ar 0
def qd (c : Int) : Option Bool :=
ah (decide (97 ≤ c)) fun b3 =>
ah (decide (c ≤ 122)) fun b5 =>
ah (b3 && b5) fun b7 =>
ah (decide (65 ≤ c)) fun b9 =>
ah (decide (c ≤ 90)) fun b11 =>
ah (b9 && b11) fun b13 =>
ah (b7 || b13) fun b15 =>
ah (c == 95) fun b17 =>
ah (b15 || b17) fun b19 =>
some b19
def oY (c : Int) : Option Bool :=
ah (decide (48 ≤ c)) fun b3 =>
ah (decide (c ≤ 57)) fun b5 =>
ah (b3 && b5) fun b7 =>
some b7
def pT (c : Int) : Option Bool :=
(qd c).bind fun r3 =>
az (!r3) default (oY c) fun r6 =>
ah (r3 || r6) fun b12 =>
some b12
def B3 (text : Str) (again5 : Int → Option Str) (t4 : Int) : Option Str :=
bif (decide (t4 < (List.length text : Int))) then (
chk (inB t4 (List.length text)) <|
(pT (gK text t4)).bind fun r8 =>
bif (!r8) then (
chk (mo 0 t4 (List.length text)) <|
some (cut text 0 t4))
else (
again5 (IntKind.i64.wrap (t4 + 1))))
else (
some text)
def vl (text : Str) : Option Str :=
an (B3 text) ar 0
def B4 (text : Str) (again5 : Int → Option Str) (t4 : Int) : Option Str :=
bif (decide (t4 < (List.length text : Int))) then (
chk (inB t4 (List.length text)) <|
(oY (gK text t4)).bind fun r8 =>
bif (!r8) then (
chk (mo 0 t4 (List.length text)) <|
some (cut text 0 t4))
else (
again5 (IntKind.i64.wrap (t4 + 1))))
else (
some text)
def uZ (text : Str) : Option Str :=
an (B4 text) ar 0
def nz (s : Str) (again9 : (Int × Nat) → Option Q22) : Int × Nat → Option Q22 := fun ⟨n7, p8⟩ =>
bif decide (p8 < List.length s) then (
bif (decide (1073741824 < (IntKind.i64.wrap ((IntKind.i64.wrap (10 * n7)) + (IntKind.i64.wrap (IntKind.i32.wrap ((lS s p8) - 48))))))) then (
some (0, false))
else (
again9 ((IntKind.i64.wrap ((IntKind.i64.wrap (10 * n7)) + (IntKind.i64.wrap (IntKind.i32.wrap ((lS s p8) - 48))))), (ij s p8))))
else (
some (n7, true))
def wi (s : Str) : Option Q22 :=
an (nz s) ar (0, 0)
def vM : Option Q6 :=
some ([[60, 45, 62], [45, 62], [61, 61], [33, 61], [60, 61], [62, 61], [60], [62], [61], [43], [45], [42], [40], [41], [123], [125], [59], [44], [58], [38], [124], [33]] : List Str)
def cu (s : Str) (prefix_ : Str) : Option Bool :=
ah (decide ((List.length prefix_ : Int) ≤ (List.length s : Int))) fun b3 =>
w8 b3 (mo 0 (List.length prefix_ : Int) (List.length s)) <|
ah ((cut s 0 (List.length prefix_ : Int)) == prefix_) fun b6 =>
ah (b3 && b6) fun b8 =>
some b8
def lL (s : Str) (prefix_ : Str) : Option Bool :=
(cu s prefix_).bind fun r3 =>
some r3
def x9 (text : Str) (r3 : Q6) (again10 : Int → Option Str) (t9 : Int) : Option Str :=
bif (decide (t9 < (List.length r3 : Int))) then (
(idx r3 t9).bind fun e12 =>
(lL text e12).bind fun r14 =>
bif r14 then (
some e12)
else (
again10 (IntKind.i64.wrap (t9 + 1))))
else (
some [])
def vw (text : Str) : Option Str :=
(vM).bind fun r3 =>
an (x9 text r3) ar 0
def sC (text : Str) : Option (Q13 × Int) :=
chk (inB 0 (List.length text)) <|
(qd (gK text 0)).bind fun r7 =>
bif r7 then (
(vl text).bind fun r11 =>
bif (decide (32 < (List.length r11 : Int))) then (
some ((0, [], 0, 0), 9))
else (
some ((1, r11, 0, 0), 0)))
else (
(oY (gK text 0)).bind fun r17 =>
bif r17 then (
(uZ text).bind fun r21 =>
(wi r21).bind fun r24 =>
bif (!r24.2) then (
some ((0, [], 0, 0), 9))
else (
some ((2, r21, r24.1, 0), 0)))
else (
(vw text).bind fun r30 =>
bif (r30 == []) then (
some ((0, [], 0, 0), 2))
else (
some ((3, r30, 0, 0), 0))))
def l8 (text : Str) (again13 : (Q4 × Int) → Option (Q4 × Int × Int)) : Q4 × Int → Option (Q4 × Int × Int) := fun ⟨out9, at12⟩ =>
ah (decide (at12 < (List.length text : Int))) fun b14 =>
w8 b14 (inB at12 (List.length text)) <|
az b14 default (wO (gK text at12)) fun r17 =>
ah (b14 && r17) fun b23 =>
bif b23 then (
again13 (out9, (IntKind.i64.wrap (at12 + 1))))
else (
ah (decide (at12 < (List.length text : Int))) fun b26 =>
w8 b26 (inB at12 (List.length text)) <|
ah ((gK text at12) == 35) fun b29 =>
ah (b26 && b29) fun b31 =>
bif b31 then (
chk (mo at12 ((List.length text) : Int) (List.length text)) <|
(A3 (cut text at12 ((List.length text) : Int))).bind fun r35 =>
again13 (out9, (IntKind.i64.wrap (at12 + (List.length r35 : Int)))))
else (
bif (decide (at12 < (List.length text : Int))) then (
chk (mo at12 ((List.length text) : Int) (List.length text)) <|
(sC (cut text at12 ((List.length text) : Int))).bind fun r40 =>
bif (r40.2 != 0) then (
some ([], r40.2, at12))
else (
chk (aM (List.length out9 + List.length ([(r40.1.1, r40.1.2.1, r40.1.2.2.1, at12)] : List Q13)) 40) <|
again13 ((out9 ++ ([(r40.1.1, r40.1.2.1, r40.1.2.2.1, at12)] : List Q13)), (IntKind.i64.wrap (at12 + (List.length r40.1.2.1 : Int))))))
else (
chk (aM (List.length out9 + List.length ([(4, [], 0, at12)] : List Q13)) 40) <|
some ((out9 ++ ([(4, [], 0, at12)] : List Q13)), 0, 0))))
def qf (text : Str) : Option (Q4 × Int × Int) :=
bif (decide (65536 < (List.length text : Int))) then (
some ([], 9, 0))
else (
an (l8 text) ar ([], 0))
def bV (l : Q4) (at_ : Int) (_Names : Q6) (_Schema : (List Q7)) (_Init : Q8) (_Procs : Q6) (_Cmd : (List Q5)) : Option Q13 :=
(idx l at_).bind fun e7 =>
some e7
def dA (kind : Int) (text : Str) (l : Q4) (at_ : Int) (Names : Q6) (Schema : (List Q7)) (Init : Q8) (Procs : Q6) (Cmd : (List Q5)) : Option Bool :=
(bV l at_ Names Schema Init Procs Cmd).bind fun r3 =>
ah (r3.1 == kind) fun b6 =>
az b6 default (bV l at_ Names Schema Init Procs Cmd) fun r8 =>
ah (r8.2.1 == text) fun b14 =>
ah (b6 && b14) fun b16 =>
some b16
def aR (e : Int) (l : Q4) (at_ : Int) (Names : Q6) (Schema : (List Q7)) (Init : Q8) (Procs : Q6) (Cmd : (List Q5)) : Option (Except Q7 Empty) :=
(bV l at_ Names Schema Init Procs Cmd).bind fun r2 =>
some (.error (e, r2.2.2.2))
def cG (s : Q6) (v3 : Str) (again5 : Int → Option Int) (t4 : Int) : Option Int :=
bif (decide (t4 < (List.length s : Int))) then (
(idx s t4).bind fun e7 =>
bif (v3 == e7) then (
some t4)
else (
again5 (IntKind.i64.wrap (t4 + 1))))
else (
some (-1))
def gh (s : Q6) (v3 : Str) : Option Int :=
an (cG s v3) ar 0
def dp (s : Q6) (v3 : Str) : Option Bool :=
(gh s v3).bind fun r3 =>
some (decide (0 ≤ r3))
def l9 (name : Str) : Option Bool :=
(dp sH name).bind fun r3 =>
some r3
def bX (s : Q6) (v3 : Str) (again5 : Int → Option Int) (t4 : Int) : Option Int :=
bif (decide (t4 < (List.length s : Int))) then (
(idx s t4).bind fun e7 =>
bif (v3 == e7) then (
some t4)
else (
again5 (IntKind.i64.wrap (t4 + 1))))
else (
some (-1))
def aP (s : Q6) (v3 : Str) : Option Int :=
an (bX s v3) ar 0
def cf (s : Q6) (v3 : Str) : Option Bool :=
(aP s v3).bind fun r3 =>
some (decide (0 ≤ r3))
def jE (name : Str) (_l : Q4) (_at_ : Int) (Names : Q6) (_Schema : (List Q7)) (_Init : Q8) (Procs : Q6) (_Cmd : (List Q5)) : Option Bool :=
(cf Names name).bind fun r3 =>
az (!r3) default (cf Procs name) fun r6 =>
ah (r3 || r6) fun b12 =>
some b12
def oU (at_ : Int) (r4 : Q13) : Option (Except Q7 (Str × Int)) :=
some (.ok (r4.2.1, (IntKind.i64.wrap (at_ + 1))))
def ew (full : Bool) (l : Q4) (at_ : Int) (Names : Q6) (Schema : (List Q7)) (Init : Q8) (Procs : Q6) (Cmd : (List Q5)) : Option (Except Q7 (Str × Int)) :=
(bV l at_ Names Schema Init Procs Cmd).bind fun r4 =>
ah (fun (_s13 : Unit) => oU at_ r4) fun kk12 =>
bif (r4.1 != 1) then (
bU (aR 2 l at_ Names Schema Init Procs Cmd) fun r15 =>
r15.elim)
else (
(l9 r4.2.1).bind fun r21 =>
az (!r21) default (jE r4.2.1 l at_ Names Schema Init Procs Cmd) fun r24 =>
ah (r21 || r24) fun b30 =>
bif b30 then (
bU (aR 3 l at_ Names Schema Init Procs Cmd) fun r33 =>
r33.elim)
else (
bif full then (
bU (aR 9 l at_ Names Schema Init Procs Cmd) fun r40 =>
r40.elim)
else (
kk12 ())))
def nI (r4 : Bool) (c8 : Int) (r9 : Q13) : Option (Except Q7 Q7) :=
bif r4 then (
some (.ok ((IntKind.i64.wrap (0 - r9.2.2.1)), (IntKind.i64.wrap (c8 + 1)))))
else (
some (.ok (r9.2.2.1, (IntKind.i64.wrap (c8 + 1)))))
def jK (l : Q4) (Names : Q6) (Schema : (List Q7)) (Init : Q8) (Procs : Q6) (Cmd : (List Q5)) (r4 : Bool) (c8 : Int) : Option (Except Q7 Q7) :=
(bV l c8 Names Schema Init Procs Cmd).bind fun r9 =>
ah (fun (_s19 : Unit) => nI r4 c8 r9) fun kk18 =>
bif (r9.1 != 2) then (
bU (aR 2 l c8 Names Schema Init Procs Cmd) fun r21 =>
r21.elim)
else (
kk18 ())
def cI (l : Q4) (at_ : Int) (Names : Q6) (Schema : (List Q7)) (Init : Q8) (Procs : Q6) (Cmd : (List Q5)) : Option (Except Q7 Q7) :=
(dA 3 [45] l at_ Names Schema Init Procs Cmd).bind fun r4 =>
ah (fun (s28 : Int) => jK l Names Schema Init Procs Cmd r4 s28) fun kk27 =>
bif r4 then (
kk27 (IntKind.i64.wrap (at_ + 1)))
else (
kk27 at_)
def po (at_ : Int) : Option (Except Q7 Int) :=
some (.ok (IntKind.i64.wrap (at_ + 1)))
def ba (text : Str) (l : Q4) (at_ : Int) (Names : Q6) (Schema : (List Q7)) (Init : Q8) (Procs : Q6) (Cmd : (List Q5)) : Option (Except Q7 Int) :=
ah (fun (_s6 : Unit) => po at_) fun kk5 =>
(dA 3 text l at_ Names Schema Init Procs Cmd).bind fun r7 =>
bif (!r7) then (
bU (aR 2 l at_ Names Schema Init Procs Cmd) fun r11 =>
r11.elim)
else (
kk5 ())
def kl (f : Q7) : Option Bool :=
ah (decide (f.1 < (-1073741824))) fun b5 =>
ah (decide (1073741824 < f.2)) fun b7 =>
ah (b5 || b7) fun b9 =>
ah (!b9) fun b11 =>
ah (decide (f.1 ≤ f.2)) fun b13 =>
ah (b11 && b13) fun b15 =>
ah (decide ((IntKind.i64.wrap (f.2 - f.1)) < 65536)) fun b17 =>
ah (b15 && b17) fun b19 =>
some b19
def fv (s : (List Q7)) (again12 : ((List Bool) × Int) → Option (List Bool)) : (List Bool) × Int → Option (List Bool) := fun ⟨l10, t11⟩ =>
bif (decide (t11 < (List.length s : Int))) then (
(idx s t11).bind fun e14 =>
(kl e14).bind fun r19 =>
(idx l10 t11).bind fun _e22 =>
again12 ((List.set l10 (Int.toNat t11) r19), (IntKind.i64.wrap (t11 + 1))))
else (
some l10)
def kb (s : (List Q7)) : Option (List Bool) :=
chk (decide (0 ≤ (List.length s : Int))) <|
chk (aM (Int.toNat (List.length s : Int)) 1) <|
an (fv s) ar ((List.replicate (Int.toNat (List.length s : Int)) false), 0)
def dZ (s : (List Bool)) (v3 : Bool) (again5 : Int → Option Int) (t4 : Int) : Option Int :=
bif (decide (t4 < (List.length s : Int))) then (
(idx s t4).bind fun e7 =>
bif (v3 == e7) then (
some t4)
else (
again5 (IntKind.i64.wrap (t4 + 1))))
else (
some (-1))
def iH (s : (List Bool)) (v3 : Bool) : Option Int :=
an (dZ s v3) ar 0
def gE (s : (List Bool)) (v3 : Bool) : Option Bool :=
(iH s v3).bind fun r3 =>
some (decide (0 ≤ r3))
def kj (s : (List Q7)) : Option Bool :=
ah (decide (1 ≤ (List.length s : Int))) fun b3 =>
ah (decide ((List.length s : Int) ≤ 17)) fun b5 =>
ah (b3 && b5) fun b7 =>
az b7 default (kb s) fun r9 =>
az b7 default (gE r9 false) fun r18 =>
ah (!r18) fun b24 =>
ah (b7 && b24) fun b26 =>
some b26
def nc (f : Q7) (n : Int) : Option Bool :=
ah (decide (f.1 ≤ n)) fun b5 =>
ah (decide (n ≤ f.2)) fun b7 =>
ah (b5 && b7) fun b9 =>
some b9
def np (s : (List Q7)) (v3 : Q8) (again6 : Int → Option Int) (t5 : Int) : Option Int :=
bif (decide (t5 < (List.length v3 : Int))) then (
(idx v3 t5).bind fun e8 =>
(idx s t5).bind fun e10 =>
(nc e10 e8).bind fun r12 =>
bif (!r12) then (
some 5)
else (
again6 (IntKind.i64.wrap (t5 + 1))))
else (
some 0)
def ng (s : (List Q7)) (v3 : Q8) : Option Int :=
bif ((List.length v3 : Int) != (List.length s : Int)) then (
some 1)
else (
an (np s v3) ar 0)
def fy (Names : Q6) (Schema : (List Q7)) (Init : Q8) (r13 : (Str × Int)) (r22 : Q7) (r28 : Q7) (r34 : Q7) (r42 : Int) : Option (Except Q7 (Int × Q6 × (List Q7) × Q8)) :=
chk (aM (List.length Names + List.length ([r13.1] : List Str)) 16) <|
(idx ([(r22.1, r28.1)] : List Q7) 0).bind fun e58 =>
chk (aM (List.length Schema + List.length ([e58] : List Q7)) 16) <|
chk (aM (List.length Init + List.length ([r34.1] : List Int)) 8) <|
some (.ok (r42, (Names ++ ([r13.1] : List Str)), (Schema ++ ([e58] : List Q7)), (Init ++ ([r34.1] : List Int))))
def eX (l : Q4) (at_ : Int) (Names : Q6) (Schema : (List Q7)) (Init : Q8) (Procs : Q6) (Cmd : (List Q5)) : Option (Except Q7 (Int × Q6 × (List Q7) × Q8)) :=
bU (ew (decide (16 ≤ (List.length Names : Int))) l at_ Names Schema Init Procs Cmd) fun r13 =>
(bV l r13.2 Names Schema Init Procs Cmd).bind fun r19 =>
bU (cI l r13.2 Names Schema Init Procs Cmd) fun r22 =>
bU (cI l r22.2 Names Schema Init Procs Cmd) fun r28 =>
bU (cI l r28.2 Names Schema Init Procs Cmd) fun r34 =>
bU (ba [59] l r34.2 Names Schema Init Procs Cmd) fun r42 =>
ah (fun (_s75 : Unit) => fy Names Schema Init r13 r22 r28 r34 r42) fun kk74 =>
(kj ([(r22.1, r28.1)] : List Q7)).bind fun r76 =>
ah (!r76) fun b79 =>
az (!b79) default (ng ([(r22.1, r28.1)] : List Q7) ([r34.1] : List Int)) fun r83 =>
ah (r83 != 0) fun b89 =>
ah (b79 || b89) fun b91 =>
bif b91 then (
some (.error (5, r19.2.2.2)))
else (
kk74 ())
def aB (e : Int) (l : Q4) (at_ : Int) (_names : Q6) (_deep : Int) (bad : Int) (place : Int) : Option (Ex × Int × Int) :=
bif (bad == 0) then (
(idx l at_).bind fun e12 =>
some ((Ex.mk 0 0 0 []), e, e12.2.2.2))
else (
some ((Ex.mk 0 0 0 []), bad, place))
def ao (l : Q4) (at_ : Int) (_names : Q6) (_deep : Int) (_bad : Int) (_place : Int) : Option Q13 :=
(idx l at_).bind fun e7 =>
some e7
def fz (ops : Q8) (r4 : Q13) (again29 : Int → Option Q22) (t28 : Int) : Option Q22 :=
bif (decide (t28 < (List.length ops : Int))) then (
(idx ops t28).bind fun e31 =>
(idx kP e31).bind fun e35 =>
bif (e35 == r4.2.1) then (
some (e31, true))
else (
again29 (IntKind.i64.wrap (t28 + 1))))
else (
some (0, false))
def aw (ops : Q8) (l : Q4) (at_ : Int) (names : Q6) (deep : Int) (bad : Int) (place : Int) : Option Q22 :=
(ao l at_ names deep bad place).bind fun r4 =>
ah (r4.1 != 3) fun b10 =>
ah (r4.1 == 1) fun b12 =>
az (b10 && b12) default (l9 r4.2.1) fun r14 =>
ah (b12 && r14) fun b20 =>
ah (!b20) fun b22 =>
ah (b10 && b22) fun b24 =>
bif b24 then (
some (0, false))
else (
an (fz ops r4) ar 0)
def dT (ab : Q1 → Option Q2) (l : Q4) (at_ : Int) (names : Q6) (deep : Int) (bad : Int) (place : Int) : Option Q2 :=
bif (bad != 0) then (
some ((Ex.mk 0 0 0 []), at_, deep, bad, place))
else (
(ao l at_ names deep bad place).bind fun r13 =>
(aw ([13, 14] : List Int) l at_ names deep bad place).bind fun r21 =>
bif r21.2 then (
some ((Ex.mk r21.1 0 r13.2.2.2 []), (IntKind.i64.wrap (at_ + 1)), deep, bad, place))
else (
bif (r13.1 == 2) then (
some ((Ex.mk 1 r13.2.2.1 r13.2.2.2 []), (IntKind.i64.wrap (at_ + 1)), deep, bad, place))
else (
ah (r13.1 == 1) fun b30 =>
az b30 default (l9 r13.2.1) fun r32 =>
ah (!r32) fun b38 =>
ah (b30 && b38) fun b40 =>
bif b40 then (
(aP names r13.2.1).bind fun r45 =>
bif (decide (r45 < 0)) then (
(aB 3 l at_ names deep bad place).bind fun r49 =>
some (r49.1, at_, deep, r49.2.1, r49.2.2))
else (
some ((Ex.mk 2 r45 r13.2.2.2 []), (IntKind.i64.wrap (at_ + 1)), deep, bad, place)))
else (
ah (r13.1 == 3) fun b57 =>
ah (r13.2.1 == [40]) fun b59 =>
ah (b57 && b59) fun b61 =>
bif b61 then (
(ab (l, (IntKind.i64.wrap (at_ + 1)), names, deep, bad, place)).bind fun r65 =>
ah (r65.2.2.2.1 == 0) fun b73 =>
az b73 default (ao l r65.2.1 names r65.2.2.1 r65.2.2.2.1 r65.2.2.2.2) fun r75 =>
ah (r75.1 != 3) fun b81 =>
az (b73 && !b81) default (ao l r65.2.1 names r65.2.2.1 r65.2.2.2.1 r65.2.2.2.2) fun r83 =>
ah (r83.2.1 != [41]) fun b89 =>
ah (b81 || b89) fun b91 =>
ah (b73 && b91) fun b93 =>
bif b93 then (
(aB 2 l r65.2.1 names r65.2.2.1 r65.2.2.2.1 r65.2.2.2.2).bind fun r96 =>
some (r96.1, r65.2.1, r65.2.2.1, r96.2.1, r96.2.2))
else (
bif (r65.2.2.2.1 == 0) then (
some (r65.1, (IntKind.i64.wrap (r65.2.1 + 1)), r65.2.2.1, r65.2.2.2.1, r65.2.2.2.2))
else (
some (r65.1, r65.2.1, r65.2.2.1, r65.2.2.2.1, r65.2.2.2.2))))
else (
(aB 2 l at_ names deep bad place).bind fun r106 =>
some (r106.1, at_, deep, r106.2.1, r106.2.2))))))
def j2 (ab : Q1 → Option Q2) (bg : Q1 → Option Q2) (ops : Q8) (l : Q4) (at_ : Int) (names : Q6) (deep : Int) (bad : Int) (place : Int) : Option Q2 :=
(aw ops l at_ names deep bad place).bind fun r11 =>
bif (!r11.2) then (
(dT ab l at_ names deep bad place).bind fun r15 =>
some (r15.1, r15.2.1, r15.2.2.1, r15.2.2.2.1, r15.2.2.2.2))
else (
(ao l at_ names deep bad place).bind fun r21 =>
(bg (l, (IntKind.i64.wrap (at_ + 1)), names, deep, bad, place)).bind fun r30 =>
some ((Ex.mk r11.1 0 r21.2.2.2 ([r30.1] : List Ex)), r30.2.1, r30.2.2.1, r30.2.2.2.1, r30.2.2.2.2))
def dV (ab : Q1 → Option Q2) (bg : Q1 → Option Q2) (l : Q4) (at_ : Int) (names : Q6) (deep : Int) (bad : Int) (place : Int) : Option Q2 :=
(j2 ab bg ([6] : List Int) l at_ names deep bad place).bind fun r13 =>
some (r13.1, r13.2.1, r13.2.2.1, r13.2.2.2.1, r13.2.2.2.2)
def jf (ab : Q1 → Option Q2) (bg : Q1 → Option Q2) (l : Q4) (at_ : Int) (names : Q6) (deep : Int) (bad : Int) (place : Int) : Option Q2 :=
bif (decide (320 ≤ deep)) then (
(aB 9 l at_ names deep bad place).bind fun r12 =>
some (r12.1, at_, deep, r12.2.1, r12.2.2))
else (
(dV ab bg l at_ names (IntKind.i64.wrap (deep + 1)) bad place).bind fun r19 =>
some (r19.1, r19.2.1, (IntKind.i64.wrap (r19.2.2.1 - 1)), r19.2.2.2.1, r19.2.2.2.2))
def kc (ab : Q1 → Option Q2) (l : Q4) (at_ : Int) (names : Q6) (deep : Int) (bad : Int) (place : Int) : Option Q2 :=
 an (fun k (s : Q1) => jf ab k s.1 s.2.1 s.2.2.1 s.2.2.2.1 s.2.2.2.2.1 s.2.2.2.2.2) ar (l, at_, names, deep, bad, place)
def bE (ab : Q1 → Option Q2) (l : Q4) (at_ : Int) (names : Q6) (deep : Int) (bad : Int) (place : Int) : Option Q2 :=
(kc ab l at_ names deep bad place).bind fun r11 =>
some (r11.1, r11.2.1, r11.2.2.1, r11.2.2.2.1, r11.2.2.2.2)
def tz (ab : Q1 → Option Q2) (ops : Q8) (l : Q4) (names : Q6) (again30 : Q9 → Option Q2) : Int × Int × Int × Int × Int × Int × Int × (List Ex) → Option Q2 := fun ⟨c20, c21, c22, c23, c24, c25, c26, c27⟩ =>
bif (c22 == 0) then (
(aw ops l c20 names c21 c22 c23).bind fun r32 =>
bif (!r32.2) then (
some ((Ex.mk c24 c25 c26 c27), c20, c21, c22, c23))
else (
(ao l c20 names c21 c22 c23).bind fun r37 =>
(bE ab l (IntKind.i64.wrap (c20 + 1)) names c21 c22 c23).bind fun r44 =>
again30 (r44.2.1, r44.2.2.1, r44.2.2.2.1, r44.2.2.2.2, r32.1, 0, r37.2.2.2, ([(Ex.mk c24 c25 c26 c27), r44.1] : List Ex))))
else (
some ((Ex.mk c24 c25 c26 c27), c20, c21, c22, c23))
def kW (ab : Q1 → Option Q2) (ops : Q8) (l : Q4) (at_ : Int) (names : Q6) (deep : Int) (bad : Int) (place : Int) : Option Q2 :=
(bE ab l at_ names deep bad place).bind fun r11 =>
an (tz ab ops l names) ar (r11.2.1, r11.2.2.1, r11.2.2.2.1, r11.2.2.2.2, r11.1.op, r11.1.n, r11.1.at_, r11.1.l)
def bL (ab : Q1 → Option Q2) (l : Q4) (at_ : Int) (names : Q6) (deep : Int) (bad : Int) (place : Int) : Option Q2 :=
(kW ab ([5] : List Int) l at_ names deep bad place).bind fun r13 =>
some (r13.1, r13.2.1, r13.2.2.1, r13.2.2.2.1, r13.2.2.2.2)
def ue (ab : Q1 → Option Q2) (ops : Q8) (l : Q4) (names : Q6) (again30 : Q9 → Option Q2) : Int × Int × Int × Int × Int × Int × Int × (List Ex) → Option Q2 := fun ⟨c20, c21, c22, c23, c24, c25, c26, c27⟩ =>
bif (c22 == 0) then (
(aw ops l c20 names c21 c22 c23).bind fun r32 =>
bif (!r32.2) then (
some ((Ex.mk c24 c25 c26 c27), c20, c21, c22, c23))
else (
(ao l c20 names c21 c22 c23).bind fun r37 =>
(bL ab l (IntKind.i64.wrap (c20 + 1)) names c21 c22 c23).bind fun r44 =>
again30 (r44.2.1, r44.2.2.1, r44.2.2.2.1, r44.2.2.2.2, r32.1, 0, r37.2.2.2, ([(Ex.mk c24 c25 c26 c27), r44.1] : List Ex))))
else (
some ((Ex.mk c24 c25 c26 c27), c20, c21, c22, c23))
def kG (ab : Q1 → Option Q2) (ops : Q8) (l : Q4) (at_ : Int) (names : Q6) (deep : Int) (bad : Int) (place : Int) : Option Q2 :=
(bL ab l at_ names deep bad place).bind fun r11 =>
an (ue ab ops l names) ar (r11.2.1, r11.2.2.1, r11.2.2.2.1, r11.2.2.2.2, r11.1.op, r11.1.n, r11.1.at_, r11.1.l)
def bJ (ab : Q1 → Option Q2) (l : Q4) (at_ : Int) (names : Q6) (deep : Int) (bad : Int) (place : Int) : Option Q2 :=
(kG ab ([3, 4] : List Int) l at_ names deep bad place).bind fun r13 =>
some (r13.1, r13.2.1, r13.2.2.1, r13.2.2.2.1, r13.2.2.2.2)
def dR (ab : Q1 → Option Q2) (l : Q4) (at_ : Int) (names : Q6) (deep : Int) (bad : Int) (place : Int) : Option Q2 :=
(bJ ab l at_ names deep bad place).bind fun r11 =>
(aw ([7, 8, 9, 10, 11, 12] : List Int) l r11.2.1 names r11.2.2.1 r11.2.2.2.1 r11.2.2.2.2).bind fun r21 =>
ah (r11.2.2.2.1 != 0) fun b24 =>
ah (!r21.2) fun b26 =>
ah (b24 || b26) fun b28 =>
bif b28 then (
some (r11.1, r11.2.1, r11.2.2.1, r11.2.2.2.1, r11.2.2.2.2))
else (
(ao l r11.2.1 names r11.2.2.1 r11.2.2.2.1 r11.2.2.2.2).bind fun r32 =>
(bJ ab l (IntKind.i64.wrap (r11.2.1 + 1)) names r11.2.2.1 r11.2.2.2.1 r11.2.2.2.2).bind fun r39 =>
some ((Ex.mk r21.1 0 r32.2.2.2 ([r11.1, r39.1] : List Ex)), r39.2.1, r39.2.2.1, r39.2.2.2.1, r39.2.2.2.2))
def j4 (ab : Q1 → Option Q2) (bd : Q1 → Option Q2) (ops : Q8) (l : Q4) (at_ : Int) (names : Q6) (deep : Int) (bad : Int) (place : Int) : Option Q2 :=
(aw ops l at_ names deep bad place).bind fun r11 =>
bif (!r11.2) then (
(dR ab l at_ names deep bad place).bind fun r15 =>
some (r15.1, r15.2.1, r15.2.2.1, r15.2.2.2.1, r15.2.2.2.2))
else (
(ao l at_ names deep bad place).bind fun r21 =>
(bd (l, (IntKind.i64.wrap (at_ + 1)), names, deep, bad, place)).bind fun r30 =>
some ((Ex.mk r11.1 0 r21.2.2.2 ([r30.1] : List Ex)), r30.2.1, r30.2.2.1, r30.2.2.2.1, r30.2.2.2.2))
def dU (ab : Q1 → Option Q2) (bd : Q1 → Option Q2) (l : Q4) (at_ : Int) (names : Q6) (deep : Int) (bad : Int) (place : Int) : Option Q2 :=
(j4 ab bd ([15, 20, 21, 22] : List Int) l at_ names deep bad place).bind fun r13 =>
some (r13.1, r13.2.1, r13.2.2.1, r13.2.2.2.1, r13.2.2.2.2)
def jg (ab : Q1 → Option Q2) (bd : Q1 → Option Q2) (l : Q4) (at_ : Int) (names : Q6) (deep : Int) (bad : Int) (place : Int) : Option Q2 :=
bif (decide (320 ≤ deep)) then (
(aB 9 l at_ names deep bad place).bind fun r12 =>
some (r12.1, at_, deep, r12.2.1, r12.2.2))
else (
(dU ab bd l at_ names (IntKind.i64.wrap (deep + 1)) bad place).bind fun r19 =>
some (r19.1, r19.2.1, (IntKind.i64.wrap (r19.2.2.1 - 1)), r19.2.2.2.1, r19.2.2.2.2))
def ka (ab : Q1 → Option Q2) (l : Q4) (at_ : Int) (names : Q6) (deep : Int) (bad : Int) (place : Int) : Option Q2 :=
 an (fun k (s : Q1) => jg ab k s.1 s.2.1 s.2.2.1 s.2.2.2.1 s.2.2.2.2.1 s.2.2.2.2.2) ar (l, at_, names, deep, bad, place)
def cU (ab : Q1 → Option Q2) (l : Q4) (at_ : Int) (names : Q6) (deep : Int) (bad : Int) (place : Int) : Option Q2 :=
(ka ab l at_ names deep bad place).bind fun r11 =>
some (r11.1, r11.2.1, r11.2.2.1, r11.2.2.2.1, r11.2.2.2.2)
def kR (ab : Q1 → Option Q2) (bf : Q1 → Option Q2) (ops : Q8) (l : Q4) (at_ : Int) (names : Q6) (deep : Int) (bad : Int) (place : Int) : Option Q2 :=
(cU ab l at_ names deep bad place).bind fun r11 =>
(aw ops l r11.2.1 names r11.2.2.1 r11.2.2.2.1 r11.2.2.2.2).bind fun r19 =>
ah (r11.2.2.2.1 != 0) fun b22 =>
ah (!r19.2) fun b24 =>
ah (b22 || b24) fun b26 =>
bif b26 then (
some (r11.1, r11.2.1, r11.2.2.1, r11.2.2.2.1, r11.2.2.2.2))
else (
(ao l r11.2.1 names r11.2.2.1 r11.2.2.2.1 r11.2.2.2.2).bind fun r30 =>
(bf (l, (IntKind.i64.wrap (r11.2.1 + 1)), names, r11.2.2.1, r11.2.2.2.1, r11.2.2.2.2)).bind fun r37 =>
some ((Ex.mk r19.1 0 r30.2.2.2 ([r11.1, r37.1] : List Ex)), r37.2.1, r37.2.2.1, r37.2.2.2.1, r37.2.2.2.2))
def dv (ab : Q1 → Option Q2) (bf : Q1 → Option Q2) (l : Q4) (at_ : Int) (names : Q6) (deep : Int) (bad : Int) (place : Int) : Option Q2 :=
(kR ab bf ([23, 24] : List Int) l at_ names deep bad place).bind fun r13 =>
some (r13.1, r13.2.1, r13.2.2.1, r13.2.2.2.1, r13.2.2.2.2)
def jc (ab : Q1 → Option Q2) (bf : Q1 → Option Q2) (l : Q4) (at_ : Int) (names : Q6) (deep : Int) (bad : Int) (place : Int) : Option Q2 :=
bif (decide (320 ≤ deep)) then (
(aB 9 l at_ names deep bad place).bind fun r12 =>
some (r12.1, at_, deep, r12.2.1, r12.2.2))
else (
(dv ab bf l at_ names (IntKind.i64.wrap (deep + 1)) bad place).bind fun r19 =>
some (r19.1, r19.2.1, (IntKind.i64.wrap (r19.2.2.1 - 1)), r19.2.2.2.1, r19.2.2.2.2))
def jZ (ab : Q1 → Option Q2) (l : Q4) (at_ : Int) (names : Q6) (deep : Int) (bad : Int) (place : Int) : Option Q2 :=
 an (fun k (s : Q1) => jc ab k s.1 s.2.1 s.2.2.1 s.2.2.2.1 s.2.2.2.2.1 s.2.2.2.2.2) ar (l, at_, names, deep, bad, place)
def bm (ab : Q1 → Option Q2) (l : Q4) (at_ : Int) (names : Q6) (deep : Int) (bad : Int) (place : Int) : Option Q2 :=
(jZ ab l at_ names deep bad place).bind fun r11 =>
some (r11.1, r11.2.1, r11.2.2.1, r11.2.2.2.1, r11.2.2.2.2)
def tA (ab : Q1 → Option Q2) (ops : Q8) (l : Q4) (names : Q6) (again30 : Q9 → Option Q2) : Int × Int × Int × Int × Int × Int × Int × (List Ex) → Option Q2 := fun ⟨c20, c21, c22, c23, c24, c25, c26, c27⟩ =>
bif (c22 == 0) then (
(aw ops l c20 names c21 c22 c23).bind fun r32 =>
bif (!r32.2) then (
some ((Ex.mk c24 c25 c26 c27), c20, c21, c22, c23))
else (
(ao l c20 names c21 c22 c23).bind fun r37 =>
(bm ab l (IntKind.i64.wrap (c20 + 1)) names c21 c22 c23).bind fun r44 =>
again30 (r44.2.1, r44.2.2.1, r44.2.2.2.1, r44.2.2.2.2, r32.1, 0, r37.2.2.2, ([(Ex.mk c24 c25 c26 c27), r44.1] : List Ex))))
else (
some ((Ex.mk c24 c25 c26 c27), c20, c21, c22, c23))
def kC (ab : Q1 → Option Q2) (ops : Q8) (l : Q4) (at_ : Int) (names : Q6) (deep : Int) (bad : Int) (place : Int) : Option Q2 :=
(bm ab l at_ names deep bad place).bind fun r11 =>
an (tA ab ops l names) ar (r11.2.1, r11.2.2.1, r11.2.2.2.1, r11.2.2.2.2, r11.1.op, r11.1.n, r11.1.at_, r11.1.l)
def cd (ab : Q1 → Option Q2) (l : Q4) (at_ : Int) (names : Q6) (deep : Int) (bad : Int) (place : Int) : Option Q2 :=
(kC ab ([16] : List Int) l at_ names deep bad place).bind fun r13 =>
some (r13.1, r13.2.1, r13.2.2.1, r13.2.2.2.1, r13.2.2.2.2)
def um (ab : Q1 → Option Q2) (ops : Q8) (l : Q4) (names : Q6) (again30 : Q9 → Option Q2) : Int × Int × Int × Int × Int × Int × Int × (List Ex) → Option Q2 := fun ⟨c20, c21, c22, c23, c24, c25, c26, c27⟩ =>
bif (c22 == 0) then (
(aw ops l c20 names c21 c22 c23).bind fun r32 =>
bif (!r32.2) then (
some ((Ex.mk c24 c25 c26 c27), c20, c21, c22, c23))
else (
(ao l c20 names c21 c22 c23).bind fun r37 =>
(cd ab l (IntKind.i64.wrap (c20 + 1)) names c21 c22 c23).bind fun r44 =>
again30 (r44.2.1, r44.2.2.1, r44.2.2.2.1, r44.2.2.2.2, r32.1, 0, r37.2.2.2, ([(Ex.mk c24 c25 c26 c27), r44.1] : List Ex))))
else (
some ((Ex.mk c24 c25 c26 c27), c20, c21, c22, c23))
def lK (ab : Q1 → Option Q2) (ops : Q8) (l : Q4) (at_ : Int) (names : Q6) (deep : Int) (bad : Int) (place : Int) : Option Q2 :=
(cd ab l at_ names deep bad place).bind fun r11 =>
an (um ab ops l names) ar (r11.2.1, r11.2.2.1, r11.2.2.2.1, r11.2.2.2.2, r11.1.op, r11.1.n, r11.1.at_, r11.1.l)
def dM (ab : Q1 → Option Q2) (l : Q4) (at_ : Int) (names : Q6) (deep : Int) (bad : Int) (place : Int) : Option Q2 :=
(lK ab ([17] : List Int) l at_ names deep bad place).bind fun r13 =>
some (r13.1, r13.2.1, r13.2.2.1, r13.2.2.2.1, r13.2.2.2.2)
def kz (ab : Q1 → Option Q2) (bh : Q1 → Option Q2) (ops : Q8) (l : Q4) (at_ : Int) (names : Q6) (deep : Int) (bad : Int) (place : Int) : Option Q2 :=
(dM ab l at_ names deep bad place).bind fun r11 =>
(aw ops l r11.2.1 names r11.2.2.1 r11.2.2.2.1 r11.2.2.2.2).bind fun r19 =>
ah (r11.2.2.2.1 != 0) fun b22 =>
ah (!r19.2) fun b24 =>
ah (b22 || b24) fun b26 =>
bif b26 then (
some (r11.1, r11.2.1, r11.2.2.1, r11.2.2.2.1, r11.2.2.2.2))
else (
(ao l r11.2.1 names r11.2.2.1 r11.2.2.2.1 r11.2.2.2.2).bind fun r30 =>
(bh (l, (IntKind.i64.wrap (r11.2.1 + 1)), names, r11.2.2.1, r11.2.2.2.1, r11.2.2.2.2)).bind fun r37 =>
some ((Ex.mk r19.1 0 r30.2.2.2 ([r11.1, r37.1] : List Ex)), r37.2.1, r37.2.2.1, r37.2.2.2.1, r37.2.2.2.2))
def dW (ab : Q1 → Option Q2) (bh : Q1 → Option Q2) (l : Q4) (at_ : Int) (names : Q6) (deep : Int) (bad : Int) (place : Int) : Option Q2 :=
(kz ab bh ([18] : List Int) l at_ names deep bad place).bind fun r13 =>
some (r13.1, r13.2.1, r13.2.2.1, r13.2.2.2.1, r13.2.2.2.2)
def jd (ab : Q1 → Option Q2) (bh : Q1 → Option Q2) (l : Q4) (at_ : Int) (names : Q6) (deep : Int) (bad : Int) (place : Int) : Option Q2 :=
bif (decide (320 ≤ deep)) then (
(aB 9 l at_ names deep bad place).bind fun r12 =>
some (r12.1, at_, deep, r12.2.1, r12.2.2))
else (
(dW ab bh l at_ names (IntKind.i64.wrap (deep + 1)) bad place).bind fun r19 =>
some (r19.1, r19.2.1, (IntKind.i64.wrap (r19.2.2.1 - 1)), r19.2.2.2.1, r19.2.2.2.2))
def j6 (ab : Q1 → Option Q2) (l : Q4) (at_ : Int) (names : Q6) (deep : Int) (bad : Int) (place : Int) : Option Q2 :=
 an (fun k (s : Q1) => jd ab k s.1 s.2.1 s.2.2.1 s.2.2.2.1 s.2.2.2.2.1 s.2.2.2.2.2) ar (l, at_, names, deep, bad, place)
def cS (ab : Q1 → Option Q2) (l : Q4) (at_ : Int) (names : Q6) (deep : Int) (bad : Int) (place : Int) : Option Q2 :=
(j6 ab l at_ names deep bad place).bind fun r11 =>
some (r11.1, r11.2.1, r11.2.2.1, r11.2.2.2.1, r11.2.2.2.2)
def lg (ab : Q1 → Option Q2) (ops : Q8) (l : Q4) (at_ : Int) (names : Q6) (deep : Int) (bad : Int) (place : Int) : Option Q2 :=
(cS ab l at_ names deep bad place).bind fun r11 =>
(aw ops l r11.2.1 names r11.2.2.1 r11.2.2.2.1 r11.2.2.2.2).bind fun r19 =>
ah (r11.2.2.2.1 != 0) fun b22 =>
ah (!r19.2) fun b24 =>
ah (b22 || b24) fun b26 =>
bif b26 then (
some (r11.1, r11.2.1, r11.2.2.1, r11.2.2.2.1, r11.2.2.2.2))
else (
(ao l r11.2.1 names r11.2.2.1 r11.2.2.2.1 r11.2.2.2.2).bind fun r30 =>
(ab (l, (IntKind.i64.wrap (r11.2.1 + 1)), names, r11.2.2.1, r11.2.2.2.1, r11.2.2.2.2)).bind fun r37 =>
some ((Ex.mk r19.1 0 r30.2.2.2 ([r11.1, r37.1] : List Ex)), r37.2.1, r37.2.2.1, r37.2.2.2.1, r37.2.2.2.2))
def dS (ab : Q1 → Option Q2) (l : Q4) (at_ : Int) (names : Q6) (deep : Int) (bad : Int) (place : Int) : Option Q2 :=
(lg ab ([19] : List Int) l at_ names deep bad place).bind fun r13 =>
some (r13.1, r13.2.1, r13.2.2.1, r13.2.2.2.1, r13.2.2.2.2)
def fQ (ab : Q1 → Option Q2) (l : Q4) (at_ : Int) (names : Q6) (deep : Int) (bad : Int) (place : Int) : Option Q2 :=
bif (decide (320 ≤ deep)) then (
(aB 9 l at_ names deep bad place).bind fun r12 =>
some (r12.1, at_, deep, r12.2.1, r12.2.2))
else (
(dS ab l at_ names (IntKind.i64.wrap (deep + 1)) bad place).bind fun r19 =>
some (r19.1, r19.2.1, (IntKind.i64.wrap (r19.2.2.1 - 1)), r19.2.2.2.1, r19.2.2.2.2))
def gT (l : Q4) (at_ : Int) (names : Q6) (deep : Int) (bad : Int) (place : Int) : Option Q2 :=
 an (fun k (s : Q1) => fQ k s.1 s.2.1 s.2.2.1 s.2.2.2.1 s.2.2.2.2.1 s.2.2.2.2.2) ar (l, at_, names, deep, bad, place)
def jS (l : Q4) (at_ : Int) (names : Q6) : Option Q16 :=
(gT l at_ names 0 0 0).bind fun r13 =>
bif (r13.2.2.2.1 != 0) then (
some ((Ex.mk 0 0 0 []), 0, r13.2.2.2.1, r13.2.2.2.2))
else (
some (r13.1, r13.2.1, 0, 0))
def rA (e : Ex) (times10 : Bool) (t45 : Bool) : Option Q11 :=
bif t45 then (
some (2, 0, 0))
else (
ah (decide (15 ≤ e.op)) fun b47 =>
ah (b47 && times10) fun b49 =>
bif b49 then (
some (3, 0, 0))
else (
some (0, 4, e.at_)))
def jq (iK : Ex → Option Q11) (e : Ex) (again12 : Q20 → Option Q11) : Bool × Bool × Bool × Int → Option Q11 := fun ⟨ints8, bools9, times10, t11⟩ =>
bif (decide (t11 < (List.length e.l : Int))) then (
(idx e.l t11).bind fun e14 =>
(iK e14).bind fun r23 =>
bif (r23.2.1 != 0) then (
some (0, r23.2.1, r23.2.2))
else (
ah (r23.1 == 1) fun b27 =>
ah (ints8 && b27) fun b29 =>
ah (r23.1 == 2) fun b31 =>
ah (bools9 && b31) fun b33 =>
ah (r23.1 != 1) fun b35 =>
ah (times10 && b35) fun b37 =>
again12 (b29, b33, b37, (IntKind.i64.wrap (t11 + 1)))))
else (
ah (decide (e.op ≤ 6)) fun b39 =>
ah (b39 && ints8) fun b41 =>
bif b41 then (
some (1, 0, 0))
else (
ah (fun (s55 : Bool) => rA e times10 s55) fun kk54 =>
ah (decide (6 < e.op)) fun b56 =>
ah (decide (e.op ≤ 12)) fun b58 =>
ah (b56 && b58) fun b60 =>
ah (b60 && ints8) fun b62 =>
bif b62 then (
kk54 b62)
else (
bif (e.op == 13) then (
kk54 (e.op == 13))
else (
bif (e.op == 14) then (
kk54 (e.op == 14))
else (
ah (decide (15 ≤ e.op)) fun b67 =>
ah (decide (e.op ≤ 19)) fun b69 =>
ah (b67 && b69) fun b71 =>
ah (b71 && bools9) fun b73 =>
kk54 b73)))))
def lT (iK : Ex → Option Q11) (e : Ex) : Option Q11 :=
an (jq iK e) ar (true, true, true, 0)
def mH (e : Ex) : Option Q11 :=
 an (fun k (s : Ex) => lT k s) ar e
def su (e : Ex) (times10 : Bool) (t45 : Bool) : Option Q11 :=
bif t45 then (
some (2, 0, 0))
else (
ah (decide (15 ≤ e.op)) fun b47 =>
ah (b47 && times10) fun b49 =>
bif b49 then (
some (3, 0, 0))
else (
some (0, 4, e.at_)))
def Af (e : Ex) (again12 : Q20 → Option Q11) : Bool × Bool × Bool × Int → Option Q11 := fun ⟨ints8, bools9, times10, t11⟩ =>
bif (decide (t11 < (List.length e.l : Int))) then (
(idx e.l t11).bind fun e14 =>
(mH e14).bind fun r23 =>
bif (r23.2.1 != 0) then (
some (0, r23.2.1, r23.2.2))
else (
ah (r23.1 == 1) fun b27 =>
ah (ints8 && b27) fun b29 =>
ah (r23.1 == 2) fun b31 =>
ah (bools9 && b31) fun b33 =>
ah (r23.1 != 1) fun b35 =>
ah (times10 && b35) fun b37 =>
again12 (b29, b33, b37, (IntKind.i64.wrap (t11 + 1)))))
else (
ah (decide (e.op ≤ 6)) fun b39 =>
ah (b39 && ints8) fun b41 =>
bif b41 then (
some (1, 0, 0))
else (
ah (fun (s55 : Bool) => su e times10 s55) fun kk54 =>
ah (decide (6 < e.op)) fun b56 =>
ah (decide (e.op ≤ 12)) fun b58 =>
ah (b56 && b58) fun b60 =>
ah (b60 && ints8) fun b62 =>
bif b62 then (
kk54 b62)
else (
bif (e.op == 13) then (
kk54 (e.op == 13))
else (
bif (e.op == 14) then (
kk54 (e.op == 14))
else (
ah (decide (15 ≤ e.op)) fun b67 =>
ah (decide (e.op ≤ 19)) fun b69 =>
ah (b67 && b69) fun b71 =>
ah (b71 && bools9) fun b73 =>
kk54 b73)))))
def kV (e : Ex) : Option Q11 :=
an (Af e) ar (true, true, true, 0)
def kF (r10 : Q16) : Option Q17 :=
some (.ok (r10.1, r10.2.1))
def kQ (want : Int) (_at_ : Int) (r10 : Q16) (r19 : Q11) : Option Q17 :=
ah (fun (_s27 : Unit) => kF r10) fun kk26 =>
bif (r19.1 != want) then (
some (.error (4, r10.1.at_)))
else (
kk26 ())
def kH (want : Int) (at_ : Int) (r10 : Q16) : Option Q17 :=
(kV r10.1).bind fun r19 =>
ah (fun (_s30 : Unit) => kQ want at_ r10 r19) fun kk29 =>
bif (r19.2.1 != 0) then (
some (.error r19.2))
else (
kk29 ())
def bH (want : Int) (l : Q4) (at_ : Int) (Names : Q6) (_Schema : (List Q7)) (_Init : Q8) (_Procs : Q6) (_Cmd : (List Q5)) : Option Q17 :=
(
(jS l at_ Names).bind fun r10 =>
ah (fun (_s33 : Unit) => kH want at_ r10) fun kk32 =>
bif (r10.2.2.1 != 0) then (
some (.error r10.2.2))
else (
kk32 ()))
def eD (s : Q10) (x : Int) : Option Bool :=
some (s.1 == x)
def bu (s : Q15) (c : Int) (again5 : Int → Option Int) (t4 : Int) : Option Int :=
bif (decide (t4 < (List.length s : Int))) then (
(idx s t4).bind fun e7 =>
(eD (e7.1, e7.2) c).bind fun r13 =>
bif r13 then (
some t4)
else (
again5 (IntKind.i64.wrap (t4 + 1))))
else (
some (-1))
def dC (s : Q15) (c : Int) : Option Int :=
an (bu s c) ar 0
def br (s : Q15) (c : Int) : Option Bool :=
(dC s c).bind fun r3 =>
some (decide (0 ≤ r3))
def dL (l : Q4) (at_ : Int) (Names : Q6) (Schema : (List Q7)) (Init : Q8) (Procs : Q6) (Cmd : (List Q5)) (r17 : Int) : Option Q19 :=
bU (ba [61] l (IntKind.i64.wrap (at_ + 1)) Names Schema Init Procs Cmd) fun r25 =>
bU (bH 1 l r25 Names Schema Init Procs Cmd) fun r33 =>
some (.ok ((r17, r33.1), r33.2))
def jr (ahead : Q15) (l : Q4) (at_ : Int) (Names : Q6) (Schema : (List Q7)) (Init : Q8) (Procs : Q6) (Cmd : (List Q5)) (r8 : Q13) : Option Q19 :=
(
(aP Names r8.2.1).bind fun r17 =>
ah (fun (_s43 : Unit) => dL l at_ Names Schema Init Procs Cmd r17) fun kk42 =>
ah (decide (r17 < 0)) fun b44 =>
az (!b44) default (br ahead r17) fun r46 =>
ah (b44 || r46) fun b52 =>
bif b52 then (
bU (aR 3 l at_ Names Schema Init Procs Cmd) fun r55 =>
r55.elim)
else (
kk42 ()))
def cJ (ahead : Q15) (l : Q4) (at_ : Int) (Names : Q6) (Schema : (List Q7)) (Init : Q8) (Procs : Q6) (Cmd : (List Q5)) : Option Q19 :=
(bV l at_ Names Schema Init Procs Cmd).bind fun r8 =>
ah (fun (_s106 : Unit) => jr ahead l at_ Names Schema Init Procs Cmd r8) fun kk105 =>
bif (r8.1 != 1) then (
bU (aR 2 l at_ Names Schema Init Procs Cmd) fun r108 =>
r108.elim)
else (
kk105 ())
def jj (l : Q4) (Names : Q6) (Schema : (List Q7)) (Init : Q8) (Procs : Q6) (Cmd : (List Q5)) (r10 : Q21) (again32 : (Int × Q15) → Option Q14) : Int × Q15 → Option Q14 := fun ⟨c28, l29⟩ =>
bU (cJ l29 l c28 Names Schema Init Procs Cmd) fun r35 =>
chk (aM (List.length l29 + List.length ([(r35.1.1, r35.1.2)] : List Q10)) 56) <|
(dA 3 [59] l r35.2 Names Schema Init Procs Cmd).bind fun r50 =>
bif r50 then (
chk (aM (List.length Cmd + List.length ([((IntKind.i64.wrap ((List.length Procs : Int) - 1)), r10.1, (l29 ++ ([(r35.1.1, r35.1.2)] : List Q10)))] : List Q5)) 80) <|
some (.ok ((IntKind.i64.wrap (r35.2 + 1)), (Cmd ++ ([((IntKind.i64.wrap ((List.length Procs : Int) - 1)), r10.1, (l29 ++ ([(r35.1.1, r35.1.2)] : List Q10)))] : List Q5)))))
else (
bU (ba [44] l r35.2 Names Schema Init Procs Cmd) fun r64 =>
again32 (r64, (l29 ++ ([(r35.1.1, r35.1.2)] : List Q10))))
def mB (l : Q4) (at_ : Int) (Names : Q6) (Schema : (List Q7)) (Init : Q8) (Procs : Q6) (Cmd : (List Q5)) : Option Q14 :=
(
bU (bH 2 l at_ Names Schema Init Procs Cmd) fun r10 =>
bU (ba [58] l r10.2 Names Schema Init Procs Cmd) fun r21 =>
an (jj l Names Schema Init Procs Cmd r10) ar (r21, []))
def fD (l : Q4) (at_ : Int) (Names : Q6) (Schema : (List Q7)) (Init : Q8) (Procs : Q6) (Cmd : (List Q5)) : Option Q14 :=
ah (fun (_s131 : Unit) => mB l at_ Names Schema Init Procs Cmd) fun kk130 =>
bif (decide (256 ≤ (List.length Cmd : Int))) then (
bU (aR 9 l at_ Names Schema Init Procs Cmd) fun r133 =>
r133.elim)
else (
kk130 ())
def jb (l : Q4) (Names : Q6) (Schema : (List Q7)) (Init : Q8) (Procs : Q6) (r12 : (Str × Int)) (again36 : (Int × (List Q5)) → Option Q23) : Int × (List Q5) → Option Q23 := fun ⟨c32, c33⟩ =>
(dA 3 [125] l c32 Names Schema Init (Procs ++ ([r12.1] : List Str)) c33).bind fun r37 =>
bif (!r37) then (
bU (fD l c32 Names Schema Init (Procs ++ ([r12.1] : List Str)) c33) fun r41 =>
again36 (r41.1, r41.2))
else (
some (.ok ((IntKind.i64.wrap (c32 + 1)), (Procs ++ ([r12.1] : List Str)), c33)))
def fI (l : Q4) (at_ : Int) (Names : Q6) (Schema : (List Q7)) (Init : Q8) (Procs : Q6) (Cmd : (List Q5)) : Option Q23 :=
bU (ew false l at_ Names Schema Init Procs Cmd) fun r12 =>
chk (aM (List.length Procs + List.length ([r12.1] : List Str)) 16) <|
bU (ba [123] l r12.2 Names Schema Init (Procs ++ ([r12.1] : List Str)) Cmd) fun r25 =>
an (jb l Names Schema Init Procs r12) ar (r25, Cmd)
def iV (l : Q4) (again39 : Q18 → Option (Except Q7 Q18)) : Int × Q6 × (List Q7) × Q8 × Q6 × (List Q5) → Option (Except Q7 Q18) := fun ⟨c23, c24, c27, c30, c33, c36⟩ =>
(bV l c23 c24 c27 c30 c33 c36).bind fun r40 =>
bif (r40.1 != 4) then (
(dA 1 [118, 97, 114] l c23 c24 c27 c30 c33 c36).bind fun r44 =>
bif r44 then (
bU (eX l (IntKind.i64.wrap (c23 + 1)) c24 c27 c30 c33 c36) fun r49 =>
again39 (r49.1, r49.2.1, r49.2.2.1, r49.2.2.2, c33, c36))
else (
(dA 1 [112, 114, 111, 99] l c23 c24 c27 c30 c33 c36).bind fun r61 =>
bif (!r61) then (
bU (aR 2 l c23 c24 c27 c30 c33 c36) fun r65 =>
r65.elim)
else (
bU (fI l (IntKind.i64.wrap (c23 + 1)) c24 c27 c30 c33 c36) fun r72 =>
again39 (r72.1, c24, c27, c30, r72.2.1, r72.2.2))))
else (
bif ((List.length c24 : Int) == 0) then (
bU (aR 2 l c23 c24 c27 c30 c33 c36) fun r83 =>
r83.elim)
else (
some (.ok (c23, c24, c27, c30, c33, c36))))
def oq (l : Q4) (at_ : Int) (Names : Q6) (Schema : (List Q7)) (Init : Q8) (Procs : Q6) (Cmd : (List Q5)) : Option (Except Q7 Q18) :=
an (iV l) ar (at_, Names, Schema, Init, Procs, Cmd)
def cM (text : Str) : Option Q12 :=
(qf text).bind fun r21 =>
bif (r21.2.1 != 0) then (
some (([], [], [], [], []), r21.2.1, r21.2.2))
else (
Hy (oq r21.1 0 [] [] [] [] []) (fun p34 =>
some (([], [], [], [], []), p34.1, p34.2)) fun r32 =>
some (r32.2, 0, 0))
def n4 (s1 : Q6) (s2 : Q6) (again6 : Int → Option Bool) (t5 : Int) : Option Bool :=
bif (decide (t5 < (List.length s1 : Int))) then (
(idx s1 t5).bind fun e10 =>
(idx s2 t5).bind fun e12 =>
bif (e10 != e12) then (
some false)
else (
again6 (IntKind.i64.wrap (t5 + 1))))
else (
some true)
def fW (s1 : Q6) (s2 : Q6) : Option Bool :=
bif ((List.length s1 : Int) != (List.length s2 : Int)) then (
some false)
else (
an (n4 s1 s2) ar 0)
def lu (s1 : (List Q7)) (s2 : (List Q7)) (again6 : Int → Option Bool) (t5 : Int) : Option Bool :=
bif (decide (t5 < (List.length s1 : Int))) then (
(idx s1 t5).bind fun e10 =>
(idx s2 t5).bind fun e12 =>
bif (!(xG e10.1 e10.2 e12.1 e12.2)) then (
some false)
else (
again6 (IntKind.i64.wrap (t5 + 1))))
else (
some true)
def gO (s1 : (List Q7)) (s2 : (List Q7)) : Option Bool :=
bif ((List.length s1 : Int) != (List.length s2 : Int)) then (
some false)
else (
an (lu s1 s2) ar 0)
def sc (s1 : Q8) (s2 : Q8) (again6 : Int → Option Bool) (t5 : Int) : Option Bool :=
bif (decide (t5 < (List.length s1 : Int))) then (
(idx s1 t5).bind fun e10 =>
(idx s2 t5).bind fun e12 =>
bif (e10 != e12) then (
some false)
else (
again6 (IntKind.i64.wrap (t5 + 1))))
else (
some true)
def nL (s1 : Q8) (s2 : Q8) : Option Bool :=
bif ((List.length s1 : Int) != (List.length s2 : Int)) then (
some false)
else (
an (sc s1 s2) ar 0)
def fj (fk : (Ex × Ex) → Option Bool) (s1 : (List Ex)) (s2 : (List Ex)) (again6 : Int → Option Bool) (t5 : Int) : Option Bool :=
bif (decide (t5 < (List.length s1 : Int))) then (
(idx s1 t5).bind fun e8 =>
(idx s2 t5).bind fun e17 =>
(fk (e8, e17)).bind fun r26 =>
bif (!r26) then (
some false)
else (
again6 (IntKind.i64.wrap (t5 + 1))))
else (
some true)
def cV (fk : (Ex × Ex) → Option Bool) (s1 : (List Ex)) (s2 : (List Ex)) : Option Bool :=
bif ((List.length s1 : Int) != (List.length s2 : Int)) then (
some false)
else (
an (fj fk s1 s2) ar 0)
def ye (fk : (Ex × Ex) → Option Bool) (a : Ex) (b : Ex) : Option Bool :=
ah (a.op == b.op) fun b7 =>
ah (a.n == b.n) fun b9 =>
ah (b7 && b9) fun b11 =>
az b11 default (cV fk a.l b.l) fun r13 =>
ah (b11 && r13) fun b19 =>
some b19
def oZ (a : Ex) (b : Ex) : Option Bool :=
 an (fun k (s : (Ex × Ex)) => ye k s.1 s.2) ar (a, b)
def pR (x : Q10) (y : Q10) : Option Bool :=
ah (x.1 == y.1) fun b7 =>
az b7 default (oZ x.2 y.2) fun r9 =>
ah (b7 && r9) fun b15 =>
some b15
def gr (s1 : Q15) (s2 : Q15) (again6 : Int → Option Bool) (t5 : Int) : Option Bool :=
bif (decide (t5 < (List.length s1 : Int))) then (
(idx s1 t5).bind fun e8 =>
(idx s2 t5).bind fun e17 =>
(pR (e8.1, e8.2) (e17.1, e17.2)).bind fun r26 =>
bif (!r26) then (
some false)
else (
again6 (IntKind.i64.wrap (t5 + 1))))
else (
some true)
def bZ (s1 : Q15) (s2 : Q15) : Option Bool :=
bif ((List.length s1 : Int) != (List.length s2 : Int)) then (
some false)
else (
an (gr s1 s2) ar 0)
def pB (x : Q5) (y : Q5) : Option Bool :=
ah (x.1 == y.1) fun b7 =>
az b7 default (oZ x.2.1 y.2.1) fun r9 =>
ah (b7 && r9) fun b15 =>
az b15 default (bZ x.2.2 y.2.2) fun r17 =>
ah (b15 && r17) fun b23 =>
some b23
def gm (s1 : (List Q5)) (s2 : (List Q5)) (again6 : Int → Option Bool) (t5 : Int) : Option Bool :=
bif (decide (t5 < (List.length s1 : Int))) then (
(idx s1 t5).bind fun e8 =>
(idx s2 t5).bind fun e19 =>
(pB (e8.1, e8.2.1, e8.2.2) (e19.1, e19.2.1, e19.2.2)).bind fun r30 =>
bif (!r30) then (
some false)
else (
again6 (IntKind.i64.wrap (t5 + 1))))
else (
some true)
def dw (s1 : (List Q5)) (s2 : (List Q5)) : Option Bool :=
bif ((List.length s1 : Int) != (List.length s2 : Int)) then (
some false)
else (
an (gm s1 s2) ar 0)
def uC (a : Q3) (b : Q3) : Option Bool :=
(fW a.1 b.1).bind fun r10 =>
az r10 default (gO a.2.1 b.2.1) fun r13 =>
ah (r10 && r13) fun b19 =>
az b19 default (nL a.2.2.1 b.2.2.1) fun r21 =>
ah (b19 && r21) fun b27 =>
az b27 default (fW a.2.2.2.1 b.2.2.2.1) fun r29 =>
ah (b27 && r29) fun b35 =>
az b35 default (dw a.2.2.2.2 b.2.2.2.2) fun r37 =>
ah (b35 && r37) fun b43 =>
some b43
def gU : Option Bool :=
(cM [118, 97, 114, 32, 120, 32, 48, 32, 51, 32, 48, 59, 32, 112, 114, 111, 99, 32, 80, 32, 123, 32, 120, 32, 60, 32, 51, 32, 58, 32, 120, 32, 61, 32, 120, 32, 43, 32, 49, 59, 32, 125]).bind fun r3 =>
(cM [118, 97, 114, 32, 120, 32, 48, 32, 51, 32, 52, 59]).bind fun r19 =>
(cM [118, 97, 114, 32, 120, 32, 48, 32, 51, 32, 48, 59, 32, 112, 114, 111, 99, 32, 80, 32, 123, 32, 120, 32, 58, 32, 120, 32, 61, 32, 49, 59, 32, 125]).bind fun r35 =>
(cM [112, 114, 111, 99, 32, 80, 32, 123, 125]).bind fun r51 =>
(cM [118, 97, 114, 32, 120, 32, 48, 32, 51, 32, 48, 59, 32, 112, 114, 111, 99, 32, 120, 32, 123, 125]).bind fun r67 =>
ah ((List.length r3.1.2.2.2.2 : Int) != 1) fun b83 =>
az (!b83) (0, (Ex.mk 0 0 0 []), []) (idx r3.1.2.2.2.2 0) fun e85 =>
ah ((List.length e85.2.2 : Int) != 1) fun b93 =>
ah (b83 || b93) fun b95 =>
bif b95 then (
some false)
else (
ah (r3.2.1 == 0) fun b98 =>
ah ((List.length r3.1.1 : Int) == 1) fun b100 =>
ah (b98 && b100) fun b102 =>
az b102 (0, 0) (idx r3.1.2.1 0) fun e104 =>
ah (xG e104.1 e104.2 0 3) fun b106 =>
ah (b102 && b106) fun b108 =>
az b108 0 (idx r3.1.2.2.1 0) fun e110 =>
ah (e110 == 0) fun b112 =>
ah (b108 && b112) fun b114 =>
ah ((List.length r3.1.2.2.2.1 : Int) == 1) fun b116 =>
ah (b114 && b116) fun b118 =>
az b118 (0, (Ex.mk 0 0 0 []), []) (idx r3.1.2.2.2.2 0) fun e120 =>
ah (e120.2.1.op == 9) fun b128 =>
ah (b118 && b128) fun b130 =>
az b130 (0, (Ex.mk 0 0 0 []), []) (idx r3.1.2.2.2.2 0) fun e132 =>
az b130 (0, (Ex.mk 0 0 0 [])) (idx e132.2.2 0) fun e140 =>
ah (e140.2.op == 3) fun b146 =>
ah (b130 && b146) fun b148 =>
ah (r19.2.1 == 5) fun b150 =>
ah (b148 && b150) fun b152 =>
ah (r19.2.2 == 6) fun b154 =>
ah (b152 && b154) fun b156 =>
ah (r35.2.1 == 4) fun b158 =>
ah (b156 && b158) fun b160 =>
ah (r35.2.2 == 22) fun b162 =>
ah (b160 && b162) fun b164 =>
ah (r51.2.1 == 2) fun b166 =>
ah (b164 && b166) fun b168 =>
ah (r51.2.2 == 9) fun b170 =>
ah (b168 && b170) fun b172 =>
ah (r67.2.1 == 3) fun b174 =>
ah (b172 && b174) fun b176 =>
ah (r67.2.2 == 18) fun b178 =>
ah (b176 && b178) fun b180 =>
az b180 default (uC r3.1 r3.1) fun r182 =>
ah (b180 && r182) fun b188 =>
az b188 default (uC r3.1 ([], [], [], [], [])) fun r190 =>
ah (!r190) fun b196 =>
ah (b188 && b196) fun b198 =>
some b198)
def eS (l : Q6) (name : Str) (again5 : Int → Option Bool) (i4 : Int) : Option Bool :=
bif (decide (i4 < (List.length l : Int))) then (
(idx l i4).bind fun e7 =>
bif (e7 == name) then (
some true)
else (
again5 (IntKind.i64.wrap (i4 + 1))))
else (
some false)
def bD (l : Q6) (name : Str) : Option Bool :=
an (eS l name) ar 0
def ej (aS : Q21 → Option Ex) (e : Ex) (by_ : Int) (c13 : Int) (again19 : ((List Ex) × Int) → Option Ex) : (List Ex) × Int → Option Ex := fun ⟨l15, i18⟩ =>
bif (decide (i18 < (List.length e.l : Int))) then (
(idx e.l i18).bind fun e23 =>
(aS (e23, by_)).bind fun r29 =>
chk (aM (List.length l15 + List.length ([r29] : List Ex)) 48) <|
again19 ((l15 ++ ([r29] : List Ex)), (IntKind.i64.wrap (i18 + 1))))
else (
some (Ex.mk e.op c13 0 l15))
def kX (aS : Q21 → Option Ex) (e : Ex) (by_ : Int) (c13 : Int) : Option Ex :=
an (ej aS e by_ c13) ar ([], 0)
def ct (aS : Q21 → Option Ex) (e : Ex) (by_ : Int) : Option Ex :=
ah (fun (s43 : Int) => kX aS e by_ s43) fun kk42 =>
bif (e.op == 2) then (
kk42 (IntKind.i64.wrap (e.n + by_)))
else (
kk42 e.n)
def cn (e : Ex) (by_ : Int) : Option Ex :=
 an (fun k (s : Q21) => ct k s.1 s.2) ar (e, by_)
def iS (a : Q6) (b : Q6) (again6 : Int → Option Bool) (i5 : Int) : Option Bool :=
bif (decide (i5 < (List.length a : Int))) then (
(idx a i5).bind fun e10 =>
(idx b i5).bind fun e12 =>
bif (e10 != e12) then (
some false)
else (
again6 (IntKind.i64.wrap (i5 + 1))))
else (
some true)
def dc (a : Q6) (b : Q6) : Option Bool :=
bif ((List.length a : Int) != (List.length b : Int)) then (
some false)
else (
an (iS a b) ar 0)
def jG (a : Q8) (b : Q8) (again6 : Int → Option Bool) (i5 : Int) : Option Bool :=
bif (decide (i5 < (List.length a : Int))) then (
(idx a i5).bind fun e10 =>
(idx b i5).bind fun e12 =>
bif (e10 != e12) then (
some false)
else (
again6 (IntKind.i64.wrap (i5 + 1))))
else (
some true)
def gu (a : Q8) (b : Q8) : Option Bool :=
bif ((List.length a : Int) != (List.length b : Int)) then (
some false)
else (
an (jG a b) ar 0)
def fN (cT : (Ex × Ex) → Option Bool) (a : Ex) (b : Ex) (again20 : Int → Option Bool) (i19 : Int) : Option Bool :=
bif (decide (i19 < (List.length a.l : Int))) then (
(idx a.l i19).bind fun e24 =>
(idx b.l i19).bind fun e30 =>
(cT (e24, e30)).bind fun r36 =>
bif (!r36) then (
some false)
else (
again20 (IntKind.i64.wrap (i19 + 1))))
else (
some true)
def dD (cT : (Ex × Ex) → Option Bool) (a : Ex) (b : Ex) : Option Bool :=
ah (a.op != b.op) fun b7 =>
ah (a.n != b.n) fun b9 =>
ah (b7 || b9) fun b11 =>
ah ((List.length a.l : Int) != (List.length b.l : Int)) fun b13 =>
ah (b11 || b13) fun b15 =>
bif b15 then (
some false)
else (
an (fN cT a b) ar 0)
def dX (a : Ex) (b : Ex) : Option Bool :=
 an (fun k (s : (Ex × Ex)) => dD k s.1 s.2) ar (a, b)
def fT (a : Q3) (b : Q3) (i47 : Int) (again48 : Int → Option Bool) (again118 : Int → Option Bool) (k117 : Int) : Option Bool :=
(idx a.2.2.2.2 i47).bind fun e119 =>
bif (decide (k117 < (List.length e119.2.2 : Int))) then (
(idx a.2.2.2.2 i47).bind fun e130 =>
(idx e130.2.2 k117).bind fun e138 =>
(idx b.2.2.2.2 i47).bind fun e144 =>
(idx e144.2.2 k117).bind fun e152 =>
(dX e138.2 e152.2).bind fun r158 =>
ah (!r158) fun b163 =>
az (!b163) (0, (Ex.mk 0 0 0 []), []) (idx a.2.2.2.2 i47) fun e165 =>
az (!b163) (0, (Ex.mk 0 0 0 [])) (idx e165.2.2 k117) fun e173 =>
az (!b163) (0, (Ex.mk 0 0 0 []), []) (idx b.2.2.2.2 i47) fun e179 =>
az (!b163) (0, (Ex.mk 0 0 0 [])) (idx e179.2.2 k117) fun e187 =>
ah (e173.1 != e187.1) fun b193 =>
ah (b163 || b193) fun b195 =>
bif b195 then (
some false)
else (
again118 (IntKind.i64.wrap (k117 + 1))))
else (
again48 (IntKind.i64.wrap (i47 + 1)))
def fR (a : Q3) (b : Q3) (again48 : Int → Option Bool) (i47 : Int) : Option Bool :=
bif (decide (i47 < (List.length a.2.2.2.2 : Int))) then (
(idx a.2.2.2.2 i47).bind fun e52 =>
(idx b.2.2.2.2 i47).bind fun e60 =>
(dX e52.2.1 e60.2.1).bind fun r68 =>
ah (!r68) fun b73 =>
az (!b73) (0, (Ex.mk 0 0 0 []), []) (idx a.2.2.2.2 i47) fun e75 =>
az (!b73) (0, (Ex.mk 0 0 0 []), []) (idx b.2.2.2.2 i47) fun e83 =>
ah (e75.1 != e83.1) fun b91 =>
ah (b73 || b91) fun b93 =>
az (!b93) (0, (Ex.mk 0 0 0 []), []) (idx a.2.2.2.2 i47) fun e95 =>
az (!b93) (0, (Ex.mk 0 0 0 []), []) (idx b.2.2.2.2 i47) fun e103 =>
ah ((List.length e95.2.2 : Int) != (List.length e103.2.2 : Int)) fun b111 =>
ah (b93 || b111) fun b113 =>
bif b113 then (
some false)
else (
an (fT a b i47 again48) ar 0))
else (
some true)
def fO (a : Q3) (b : Q3) (again37 : Int → Option Bool) (i36 : Int) : Option Bool :=
bif (decide (i36 < (List.length a.2.1 : Int))) then (
(idx a.2.1 i36).bind fun e41 =>
(idx b.2.1 i36).bind fun e43 =>
bif (!(xG e41.1 e41.2 e43.1 e43.2)) then (
some false)
else (
again37 (IntKind.i64.wrap (i36 + 1))))
else (
an (fR a b) ar 0)
def fE (a : Q3) (b : Q3) : Option Bool :=
(dc a.1 b.1).bind fun r7 =>
(dc a.2.2.2.1 b.2.2.2.1).bind fun r10 =>
(gu a.2.2.1 b.2.2.1).bind fun r13 =>
ah (!r7) fun b16 =>
ah (!r10) fun b18 =>
ah (b16 || b18) fun b20 =>
ah (!r13) fun b22 =>
ah (b20 || b22) fun b24 =>
ah ((List.length a.2.1 : Int) != (List.length b.2.1 : Int)) fun b26 =>
ah (b24 || b26) fun b28 =>
ah ((List.length a.2.2.2.2 : Int) != (List.length b.2.2.2.2 : Int)) fun b30 =>
ah (b28 || b30) fun b32 =>
bif b32 then (
some false)
else (
an (fO a b) ar 0)
def dN (r13 : Q12) (r29 : Q12) (c170 : (List Q5)) (i173 : Int) (again174 : ((List Q5) × Int) → Option Bool) (e178 : Q5) (r194 : Ex) (again207 : (Q15 × Int) → Option Bool) : Q15 × Int → Option Bool := fun ⟨l203, k206⟩ =>
(idx r29.1.2.2.2.2 i173).bind fun e208 =>
bif (decide (k206 < (List.length e208.2.2 : Int))) then (
(idx r29.1.2.2.2.2 i173).bind fun e219 =>
(idx e219.2.2 k206).bind fun e227 =>
(idx r29.1.2.2.2.2 i173).bind fun e233 =>
(idx e233.2.2 k206).bind fun e241 =>
(cn e241.2 (List.length r13.1.1 : Int)).bind fun r247 =>
chk (aM (List.length l203 + List.length ([((IntKind.i64.wrap (e227.1 + (List.length r13.1.1 : Int))), r247)] : List Q10)) 56) <|
again207 ((l203 ++ ([((IntKind.i64.wrap (e227.1 + (List.length r13.1.1 : Int))), r247)] : List Q10)), (IntKind.i64.wrap (k206 + 1))))
else (
chk (aM (List.length c170 + List.length ([((IntKind.i64.wrap (e178.1 + (List.length r13.1.2.2.2.1 : Int))), r194, l203)] : List Q5)) 80) <|
again174 ((c170 ++ ([((IntKind.i64.wrap (e178.1 + (List.length r13.1.2.2.2.1 : Int))), r194, l203)] : List Q5)), (IntKind.i64.wrap (i173 + 1))))
def bl (r3 : Bool) (r13 : Q12) (r29 : Q12) (r102 : Q12) (again174 : ((List Q5) × Int) → Option Bool) : (List Q5) × Int → Option Bool := fun ⟨c170, i173⟩ =>
bif (decide (i173 < (List.length r29.1.2.2.2.2 : Int))) then (
(idx r29.1.2.2.2.2 i173).bind fun e178 =>
(idx r29.1.2.2.2.2 i173).bind fun e186 =>
(cn e186.2.1 (List.length r13.1.1 : Int)).bind fun r194 =>
an (dN r13 r29 c170 i173 again174 e178 r194) ar ([], 0))
else (
ah (r102.2.1 == 0) fun b266 =>
ah (r3 && b266) fun b268 =>
az b268 default (fE r102.1 (((([] : List Str) ++ r13.1.1) ++ r29.1.1), ((([] : List Q7) ++ r13.1.2.1) ++ r29.1.2.1), ((([] : List Int) ++ r13.1.2.2.1) ++ r29.1.2.2.1), ((([] : List Str) ++ r13.1.2.2.2.1) ++ r29.1.2.2.2.1), c170)) fun r270 =>
ah (b268 && r270) fun b276 =>
some b276)
def aW (a : Str) (b : Str) (r3 : Bool) (r13 : Q12) (r29 : Q12) (again80 : Int → Option Bool) (i79 : Int) : Option Bool :=
bif (decide (i79 < (List.length r29.1.2.2.2.1 : Int))) then (
(idx r29.1.2.2.2.1 i79).bind fun e84 =>
(bD r13.1.1 e84).bind fun r86 =>
az (!r86) [] (idx r29.1.2.2.2.1 i79) fun e89 =>
az (!r86) default (bD r13.1.2.2.2.1 e89) fun r91 =>
ah (r86 || r91) fun b97 =>
bif b97 then (
some r3)
else (
again80 (IntKind.i64.wrap (i79 + 1))))
else (
chk (yK a [10]) <|
chk (yK (a ++ [10]) b) <|
(cM ((a ++ [10]) ++ b)).bind fun r102 =>
chk (aM (List.length ([] : List Str) + List.length r13.1.1) 16) <|
chk (aM (List.length (([] : List Str) ++ r13.1.1) + List.length r29.1.1) 16) <|
chk (aM (List.length ([] : List Q7) + List.length r13.1.2.1) 16) <|
chk (aM (List.length (([] : List Q7) ++ r13.1.2.1) + List.length r29.1.2.1) 16) <|
chk (aM (List.length ([] : List Int) + List.length r13.1.2.2.1) 8) <|
chk (aM (List.length (([] : List Int) ++ r13.1.2.2.1) + List.length r29.1.2.2.1) 8) <|
chk (aM (List.length ([] : List Str) + List.length r13.1.2.2.2.1) 16) <|
chk (aM (List.length (([] : List Str) ++ r13.1.2.2.2.1) + List.length r29.1.2.2.2.1) 16) <|
chk (aM (List.length ([] : List Q5) + List.length r13.1.2.2.2.2) 80) <|
an (bl r3 r13 r29 r102) ar ((([] : List Q5) ++ r13.1.2.2.2.2), 0))
def cP (a : Str) (b : Str) (r3 : Bool) (r13 : Q12) (r29 : Q12) (again58 : Int → Option Bool) (i57 : Int) : Option Bool :=
bif (decide (i57 < (List.length r29.1.1 : Int))) then (
(idx r29.1.1 i57).bind fun e62 =>
(bD r13.1.1 e62).bind fun r64 =>
az (!r64) [] (idx r29.1.1 i57) fun e67 =>
az (!r64) default (bD r13.1.2.2.2.1 e67) fun r69 =>
ah (r64 || r69) fun b75 =>
bif b75 then (
some r3)
else (
again58 (IntKind.i64.wrap (i57 + 1))))
else (
an (aW a b r3 r13 r29) ar 0)
def eC (a : Str) (b : Str) : Option Bool :=
(gU).bind fun r3 =>
ah (decide (400 < (List.length a : Int))) fun b6 =>
ah (decide (400 < (List.length b : Int))) fun b8 =>
ah (b6 || b8) fun b10 =>
bif b10 then (
some r3)
else (
(cM a).bind fun r13 =>
(cM b).bind fun r29 =>
ah (r13.2.1 != 0) fun b45 =>
ah (r29.2.1 != 0) fun b47 =>
ah (b45 || b47) fun b49 =>
ah (decide (16 < (IntKind.i64.wrap ((List.length r13.1.1 : Int) + (List.length r29.1.1 : Int))))) fun b51 =>
ah (b49 || b51) fun b53 =>
bif b53 then (
some r3)
else (
an (cP a b r3 r13 r29) ar 0))
end
end Go.Proofs.YtdhgpnejphlfpaaDoor
namespace Go.Proofs.YtdhgpnejphlfpaaDoor
open Go.Proofs
noncomputable section
set_option maxRecDepth 100000
def X0 : Cx := ⟨Tryd.prog, [(2, (.i .i64)), (3, (.i .i64)), (4, .bo), (5, (.i .u8)), (6, (.i .u8)), (7, (.p (.i .i64) (.p (.i .i64) (.p .bo (.i .u8))))), (8, (.p (.i .i64) (.p (.i .i64) (.p .bo (.i .u8))))), (9, .s), (10, .s), (11, .s), (12, (.i .u64)), (13, (.p .s (.i .u64))), (14, (.p .s (.i .u64))), (21, (.i .i32)), (23, (.l (.p (.i .i64) (.p .s (.p (.i .i64) (.i .i64)))))), (26, (.l .s)), (27, (.p (.i .i64) (.p .s (.p (.i .i64) (.i .i64))))), (28, (.p (.i .i64) (.p .s (.p (.i .i64) (.i .i64))))), (29, (.l (.p (.i .i64) (.i .i64)))), (30, (.l (.i .i64))), (31, (.l (.p (.i .i64) (.p .ex (.l (.p (.i .i64) .ex)))))), (32, (.p (.l .s) (.p (.l (.p (.i .i64) (.i .i64))) (.p (.l (.i .i64)) (.p (.l .s) (.l (.p (.i .i64) (.p .ex (.l (.p (.i .i64) .ex)))))))))), (33, (.p (.l .s) (.p (.l (.p (.i .i64) (.i .i64))) (.p (.l (.i .i64)) (.p (.l .s) (.l (.p (.i .i64) (.p .ex (.l (.p (.i .i64) .ex)))))))))), (34, (.i .i64)), (43, (.p (.i .i64) (.i .i64))), (44, (.p (.i .i64) (.i .i64))), (46, (.i .u16)), (49, (.l .ex)), (50, (.p (.i .i64) (.p (.i .i64) (.p (.i .i64) (.l .ex))))), (51, .ex), (52, (.l (.p (.i .i64) .ex))), (53, (.p (.i .i64) (.p .ex (.l (.p (.i .i64) .ex))))), (54, (.p (.i .i64) (.p .ex (.l (.p (.i .i64) .ex))))), (56, (.p (.i .i64) .ex)), (57, (.p (.i .i64) .ex)), (64, (.p (.i .i64) (.i .i64))), (65, (.p (.i .i64) (.i .i64))), (68, (.p (.l (.p (.i .i64) (.p .s (.p (.i .i64) (.i .i64))))) (.p (.i .i64) (.p (.l .s) (.p (.l (.p (.i .i64) (.i .i64))) (.p (.l (.i .i64)) (.p (.l .s) (.l (.p (.i .i64) (.p .ex (.l (.p (.i .i64) .ex)))))))))))), (69, (.p (.l (.p (.i .i64) (.p .s (.p (.i .i64) (.i .i64))))) (.p (.i .i64) (.p (.l .s) (.p (.l (.p (.i .i64) (.i .i64))) (.p (.l (.i .i64)) (.p (.l .s) (.l (.p (.i .i64) (.p .ex (.l (.p (.i .i64) .ex)))))))))))), (97, (.l .bo)), (100, (.p (.i .i64) (.i .i64))), (104, (.p .s (.p .s (.p .s (.p .s (.p .s (.p .s (.p .s (.p .s .s))))))))), (114, (.p (.l (.p (.i .i64) (.p .s (.p (.i .i64) (.i .i64))))) (.p (.i .i64) (.p (.l .s) (.p (.i .i64) (.p (.i .i64) (.i .i64))))))), (115, (.p (.l (.p (.i .i64) (.p .s (.p (.i .i64) (.i .i64))))) (.p (.i .i64) (.p (.l .s) (.p (.i .i64) (.p (.i .i64) (.i .i64))))))), (124, (.p .s (.p .s (.p .s (.p .s (.p .s (.p .s (.p .s (.p .s (.p .s (.p .s (.p .s (.p .s (.p .s (.p .s (.p .s (.p .s (.p .s (.p .s (.p .s (.p .s (.p .s (.p .s (.p .s (.p .s .s))))))))))))))))))))))))), (129, .un), (130, .un), (131, .un), (132, (.i .u32)), (133, (.i .u8)), (134, (.i .u8)), (137, (.i .i32)), (138, (.i .i32))], [(0, 0, ⟨.l .s, sH⟩), (1, 0, ⟨.l .s, kP⟩)], [], (fun _ h => nomatch h), ar⟩
def cq (x : Ex) : Ex := Ex.mk x.op x.n x.at_ x.l
theorem aJ : cq = id := funext fun x => by cases x; rfl
abbrev TK0 := Q1 → Option Q2
def fw (k : TK0) : Ent := ⟨77, [(.bx 115 0 true [(.own (.p (.i .i64) (.p .s (.p (.i .i64) (.i .i64)))) 28 false), (.int .i64), (.own .s 9 false), (.int .i64), (.int .i64), (.int .i64)]), (.fn 98 [] [])], (.dat .ex [some 103]), [(true, 0, (.bx 115 0 true [.same, (.int .i64), .same, (.int .i64), (.int .i64), (.int .i64)]))], fun s => k (s.1, s.2.1, s.2.2.1, s.2.2.2.1, s.2.2.2.2.1, s.2.2.2.2.2)⟩
abbrev OK0 (k : TK0) : Prop := (fw k).Ok X0.P X0.Γ
abbrev TK1 := Q1 → Option Q2
def fg (k : TK1) : Ent := ⟨77, [(.bx 115 0 true [(.own (.p (.i .i64) (.p .s (.p (.i .i64) (.i .i64)))) 28 false), (.int .i64), (.own .s 9 false), (.int .i64), (.int .i64), (.int .i64)]), (.fn 92 [] [])], (.dat .ex [some 103]), [(true, 0, (.bx 115 0 true [.same, (.int .i64), .same, (.int .i64), (.int .i64), (.int .i64)]))], fun s => k (s.1, s.2.1, s.2.2.1, s.2.2.2.1, s.2.2.2.2.1, s.2.2.2.2.2)⟩
abbrev OK1 (k : TK1) : Prop := (fg k).Ok X0.P X0.Γ
abbrev TK2 := Q1 → Option Q2
def fm (k : TK2) : Ent := ⟨77, [(.bx 115 0 true [(.own (.p (.i .i64) (.p .s (.p (.i .i64) (.i .i64)))) 28 false), (.int .i64), (.own .s 9 false), (.int .i64), (.int .i64), (.int .i64)]), (.fn 90 [] [])], (.dat .ex [some 103]), [(true, 0, (.bx 115 0 true [.same, (.int .i64), .same, (.int .i64), (.int .i64), (.int .i64)]))], fun s => k (s.1, s.2.1, s.2.2.1, s.2.2.2.1, s.2.2.2.2.1, s.2.2.2.2.2)⟩
abbrev OK2 (k : TK2) : Prop := (fm k).Ok X0.P X0.Γ
abbrev TK3 := Q1 → Option Q2
def fp (k : TK3) : Ent := ⟨77, [(.bx 115 0 true [(.own (.p (.i .i64) (.p .s (.p (.i .i64) (.i .i64)))) 28 false), (.int .i64), (.own .s 9 false), (.int .i64), (.int .i64), (.int .i64)]), (.fn 85 [] [])], (.dat .ex [some 103]), [(true, 0, (.bx 115 0 true [.same, (.int .i64), .same, (.int .i64), (.int .i64), (.int .i64)]))], fun s => k (s.1, s.2.1, s.2.2.1, s.2.2.2.1, s.2.2.2.2.1, s.2.2.2.2.2)⟩
abbrev OK3 (k : TK3) : Prop := (fp k).Ok X0.P X0.Γ
abbrev TK4 := Q1 → Option Q2
def fq (k : TK4) : Ent := ⟨77, [(.bx 115 0 true [(.own (.p (.i .i64) (.p .s (.p (.i .i64) (.i .i64)))) 28 false), (.int .i64), (.own .s 9 false), (.int .i64), (.int .i64), (.int .i64)]), (.fn 78 [] [])], (.dat .ex [some 103]), [(true, 0, (.bx 115 0 true [.same, (.int .i64), .same, (.int .i64), (.int .i64), (.int .i64)]))], fun s => k (s.1, s.2.1, s.2.2.1, s.2.2.2.1, s.2.2.2.2.1, s.2.2.2.2.2)⟩
abbrev OK4 (k : TK4) : Prop := (fq k).Ok X0.P X0.Γ
abbrev TK5 := Ex → Option Q11
def nj (k : TK5) : Ent := ⟨73, [(.dat .ex [none])], (.tup [(.int .i64), (.int .i64), (.int .i64)]), [], fun s => k s⟩
abbrev OK5 (k : TK5) : Prop := (nj k).Ok X0.P X0.Γ
abbrev TK6 := (Ex × Ex) → Option Bool
def nM (k : TK6) : Ent := ⟨26, [(.dat .ex [none]), (.dat .ex [none])], .bool, [], fun s => k (s.1, s.2)⟩
abbrev OK6 (k : TK6) : Prop := (nM k).Ok X0.P X0.Γ
abbrev TK7 := Q21 → Option Ex
def eI (k : TK7) : Ent := ⟨19, [(.dat .ex [none]), (.int .i64)], (.dat .ex [some 103]), [], fun s => k (s.1, s.2)⟩
abbrev OK7 (k : TK7) : Prop := (eI k).Ok X0.P X0.Γ
abbrev TK8 := (Ex × Ex) → Option Bool
def fP (k : TK8) : Ent := ⟨35, [(.dat .ex [none]), (.dat .ex [none])], .bool, [], fun s => k (s.1, s.2)⟩
abbrev OK8 (k : TK8) : Prop := (fP k).Ok X0.P X0.Γ
def Fh : Ent := ⟨37, [(.int .u8)], .bool, [], fun s => wO s⟩
theorem AM : (Fh).Ok X0.P X0.Γ :=
 aD .o Tryd.call37 Tryd.func37 ok0 ok0 ok0 fun _ => by kernel_rfl
def z5 : Ent := ⟨39, [(.int .u8)], .bool, [], fun s => pG s⟩
theorem vS : (z5).Ok X0.P X0.Γ :=
 aD .o Tryd.call39 Tryd.func39 ok0 ok0 ok0 fun _ => by kernel_rfl
def I0 : Ent := ⟨38, [.str, (.fn 39 [] [])], .str, [], fun s => A3 s⟩
theorem DF : (I0).Ok X0.P X0.Γ :=
 aD (.l ⟨[(false, 8, (.int .i64))], []⟩ .o) Tryd.call38 Tryd.func38 (ok1 vS ok0) ok0 ok0 fun _ => by kernel_rfl
def Dv : Ent := ⟨48, [(.int .u8)], .bool, [], fun s => qd s⟩
theorem se : (Dv).Ok X0.P X0.Γ :=
 aD .o Tryd.call48 Tryd.func48 ok0 ok0 ok0 fun _ => by kernel_rfl
def E5 : Ent := ⟨50, [(.int .u8)], .bool, [], fun s => oY s⟩
theorem n8 : (E5).Ok X0.P X0.Γ :=
 aD .o Tryd.call50 Tryd.func50 ok0 ok0 ok0 fun _ => by kernel_rfl
def Ek : Ent := ⟨49, [(.int .u8)], .bool, [], fun s => pT s⟩
theorem Ai : (Ek).Ok X0.P X0.Γ :=
 aD .o Tryd.call49 Tryd.func49 (ok1 se (ok1 n8 ok0)) ok0 ok0 fun _ => by kernel_rfl
def EA : Ent := ⟨38, [.str, (.fn 49 [] [])], .str, [], fun s => vl s⟩
theorem zY : (EA).Ok X0.P X0.Γ :=
 aD (.l ⟨[(false, 8, (.int .i64))], []⟩ .o) Tryd.call38 Tryd.func38 (ok1 Ai ok0) ok0 ok0 fun _ => by kernel_rfl
def C8 : Ent := ⟨38, [.str, (.fn 50 [] [])], .str, [], fun s => uZ s⟩
theorem zg : (C8).Ok X0.P X0.Γ :=
 aD (.l ⟨[(false, 8, (.int .i64))], []⟩ .o) Tryd.call38 Tryd.func38 (ok1 n8 ok0) ok0 ok0 fun _ => by kernel_rfl
def Ff : Ent := ⟨51, [.str], (.tup [(.int .i64), .bool]), [], fun s => wi s⟩
def oc (again9 : (Int × Str × Nat) → Option Q22) : Int × Str × Nat → Option Q22 := fun ⟨n7, s, p8⟩ =>
bif decide (p8 < List.length s) then (
bif (decide (1073741824 < (IntKind.i64.wrap ((IntKind.i64.wrap (10 * n7)) + (IntKind.i64.wrap (IntKind.i32.wrap ((lS s p8) - 48))))))) then (
some (0, false))
else (
again9 ((IntKind.i64.wrap ((IntKind.i64.wrap (10 * n7)) + (IntKind.i64.wrap (IntKind.i32.wrap ((lS s p8) - 48))))), s, (ij s p8))))
else (
some (n7, true))
theorem yi (s : Str) : ∀ (N : Nat) (n : Int) (p : Nat), an oc N (n, s, p) = an (nz s) N (n, p)
 | 0, _, _ => rfl
 | N + 1, n, p => by
  rw [au, au]
  simp only [oc, nz, yi s N]
theorem Ay : (Ff).Ok X0.P X0.Γ :=
 aD (.l ⟨[(false, 4, (.int .i64)), (true, 8, .it)], []⟩ .o) Tryd.call51 Tryd.func51 ok0 ok0 ok0 fun s => (show _ = an oc ar (0, s, 0) from by kernel_rfl).trans (yi s ar 0 0)
def Fg : Ent := ⟨59, [], (.own .s 9 true), [], fun _ => vM⟩
theorem AX : (Fg).Ok X0.P X0.Γ :=
 aD .o Tryd.call59 Tryd.func59 ok0 ok0 ok0 fun _ => by kernel_rfl
def mg : Ent := ⟨69, [.str, .str], .bool, [], fun s => cu s.1 s.2⟩
theorem lv : (mg).Ok X0.P X0.Γ :=
 aD .o Tryd.call69 Tryd.func69 ok0 ok0 ok0 fun _ => by kernel_rfl
def vG : Ent := ⟨60, [.str, .str], .bool, [], fun s => lL s.1 s.2⟩
theorem s8 : (vG).Ok X0.P X0.Γ :=
 aD .o Tryd.call60 Tryd.func60 (ok1 lv ok0) ok0 ok0 fun _ => by kernel_rfl
def Hk : Ent := ⟨52, [.str], .str, [], fun s => vw s⟩
theorem B6 : (Hk).Ok X0.P X0.Γ :=
 aD (.l ⟨[(false, 7, (.int .i64))], []⟩ .o) Tryd.call52 Tryd.func52 (ok1 AX (ok1 s8 ok0)) ok0 ok0 fun _ => by kernel_rfl
def E6 : Ent := ⟨40, [.str], (.tup [(.dat (.p (.i .i64) (.p .s (.p (.i .i64) (.i .i64)))) []), (.int .i64)]), [], fun s => sC s⟩
theorem AY : (E6).Ok X0.P X0.Γ :=
 aD .o Tryd.call40 Tryd.func40 (ok1 se (ok1 zY (ok1 n8 (ok1 zg (ok1 Ay (ok1 B6 ok0)))))) ok0 ok0 fun _ => by kernel_rfl
def CP : Ent := ⟨22, [.str], (.tup [(.own (.p (.i .i64) (.p .s (.p (.i .i64) (.i .i64)))) 28 true), (.int .i64), (.int .i64)]), [], fun s => qf s⟩
theorem Am : (CP).Ok X0.P X0.Γ :=
 aD (.n 0 (.j ⟨[(false, 5, (.own (.p (.i .i64) (.p .s (.p (.i .i64) (.i .i64)))) 28 true)), (false, 6, (.int .i64))], []⟩ .o .o)) Tryd.call22 Tryd.func22 (ok1 AM (ok1 DF (ok1 AY ok0))) ok0 ok0 fun _ => by kernel_rfl
def xP : Ent := ⟨43, [(.bx 69 0 false [(.own (.p (.i .i64) (.p .s (.p (.i .i64) (.i .i64)))) 28 false), (.int .i64), (.own .s 9 false), (.own (.p (.i .i64) (.i .i64)) 44 false), (.own (.i .i64) 3 false), (.own .s 9 false), (.own (.p (.i .i64) (.p .ex (.l (.p (.i .i64) .ex)))) 54 false)])], (.dat (.p (.i .i64) (.p .s (.p (.i .i64) (.i .i64)))) []), [], fun s => bV s.1 s.2.1 s.2.2.1 s.2.2.2.1 s.2.2.2.2.1 s.2.2.2.2.2.1 s.2.2.2.2.2.2⟩
theorem cR : (xP).Ok X0.P X0.Γ :=
 aD (.r [2] .o) Tryd.call43 Tryd.func43 ok0 ok0 ok0 fun _ => by kernel_rfl
def z7 : Ent := ⟨44, [(.bx 69 0 false [(.own (.p (.i .i64) (.p .s (.p (.i .i64) (.i .i64)))) 28 false), (.int .i64), (.own .s 9 false), (.own (.p (.i .i64) (.i .i64)) 44 false), (.own (.i .i64) 3 false), (.own .s 9 false), (.own (.p (.i .i64) (.p .ex (.l (.p (.i .i64) .ex)))) 54 false)]), (.int .i64), .str], .bool, [], fun s => dA s.2.2.2.2.2.2.2.1 s.2.2.2.2.2.2.2.2 s.1 s.2.1 s.2.2.1 s.2.2.2.1 s.2.2.2.2.1 s.2.2.2.2.2.1 s.2.2.2.2.2.2.1⟩
theorem fC : (z7).Ok X0.P X0.Γ :=
 aD .o Tryd.call44 Tryd.func44 (ok1 cR ok0) ok0 ok0 fun _ => by kernel_rfl
def xM : bc := ⟨45, [(.bx 69 0 false [(.own (.p (.i .i64) (.p .s (.p (.i .i64) (.i .i64)))) 28 false), (.int .i64), (.own .s 9 false), (.own (.p (.i .i64) (.i .i64)) 44 false), (.own (.i .i64) 3 false), (.own .s 9 false), (.own (.p (.i .i64) (.p .ex (.l (.p (.i .i64) .ex)))) 54 false)]), (.int .i64)], (.ifc 65 (.agg [(.int .i64), (.int .i64)])), true, (.tup []), [], fun s => aR s.2.2.2.2.2.2.2 s.1 s.2.1 s.2.2.1 s.2.2.2.1 s.2.2.2.2.1 s.2.2.2.2.2.1 s.2.2.2.2.2.2.1⟩
theorem dB : (xM).Ok X0.P X0.Γ :=
 tq .o Tryd.call45 Tryd.func45 (ok1 cR ok0) ok0 ok0 fun _ => by kernel_rfl
def oM : Ent := ⟨74, [(.sli .s), .str], (.int .i64), [], fun s => gh s.1 s.2⟩
theorem m6 : (oM).Ok X0.P X0.Γ :=
 aD (.l ⟨[(false, 8, (.int .i64))], []⟩ .o) Tryd.call74 Tryd.func74 ok0 ok0 ok0 fun _ => by kernel_rfl
def mZ : Ent := ⟨70, [(.sli .s), .str], .bool, [], fun s => dp s.1 s.2⟩
theorem lO : (mZ).Ok X0.P X0.Γ :=
 aD .o Tryd.call70 Tryd.func70 (ok1 m6 ok0) ok0 ok0 fun _ => by kernel_rfl
def Hb : Ent := ⟨61, [.str], .bool, [], fun s => l9 s⟩
theorem px : (Hb).Ok X0.P X0.Γ :=
 aD .o Tryd.call61 Tryd.func61 (ok1 lO ok0) ok0 ok0 fun _ => by kernel_rfl
def m7 : Ent := ⟨74, [(.own .s 9 false), .str], (.int .i64), [], fun s => aP s.1 s.2⟩
theorem dI : (m7).Ok X0.P X0.Γ :=
 aD (.l ⟨[(false, 8, (.int .i64))], []⟩ .o) Tryd.call74 Tryd.func74 ok0 ok0 ok0 fun _ => by kernel_rfl
def lN : Ent := ⟨70, [(.own .s 9 false), .str], .bool, [], fun s => cf s.1 s.2⟩
theorem km : (lN).Ok X0.P X0.Γ :=
 aD .o Tryd.call70 Tryd.func70 (ok1 dI ok0) ok0 ok0 fun _ => by kernel_rfl
def wa : Ent := ⟨62, [(.bx 69 0 false [(.own (.p (.i .i64) (.p .s (.p (.i .i64) (.i .i64)))) 28 false), (.int .i64), (.own .s 9 false), (.own (.p (.i .i64) (.i .i64)) 44 false), (.own (.i .i64) 3 false), (.own .s 9 false), (.own (.p (.i .i64) (.p .ex (.l (.p (.i .i64) .ex)))) 54 false)]), .str], .bool, [], fun s => jE s.2.2.2.2.2.2.2 s.1 s.2.1 s.2.2.1 s.2.2.2.1 s.2.2.2.2.1 s.2.2.2.2.2.1 s.2.2.2.2.2.2.1⟩
theorem tI : (wa).Ok X0.P X0.Γ :=
 aD .o Tryd.call62 Tryd.func62 (ok1 km ok0) ok0 ok0 fun _ => by kernel_rfl
def xO : bc := ⟨53, [(.bx 69 0 true [(.own (.p (.i .i64) (.p .s (.p (.i .i64) (.i .i64)))) 28 false), (.int .i64), (.own .s 9 false), (.own (.p (.i .i64) (.i .i64)) 44 false), (.own (.i .i64) 3 false), (.own .s 9 false), (.own (.p (.i .i64) (.p .ex (.l (.p (.i .i64) .ex)))) 54 false)]), .bool], (.ifc 65 (.agg [(.int .i64), (.int .i64)])), false, .str, [(true, 0, (.bx 69 0 true [.same, (.int .i64), .same, .same, .same, .same, .same]))], fun s => ew s.2.2.2.2.2.2.2 s.1 s.2.1 s.2.2.1 s.2.2.2.1 s.2.2.2.2.1 s.2.2.2.2.2.1 s.2.2.2.2.2.2.1⟩
theorem nq : (xO).Ok X0.P X0.Γ :=
 tq (.s (.s (.j ⟨[], []⟩ .o .o))) Tryd.call53 Tryd.func53 (ok1 cR (ok1 px (ok1 tI ok0))) (ok1 dB ok0) ok0 fun _ => by kernel_rfl
def vD : bc := ⟨54, [(.bx 69 0 true [(.own (.p (.i .i64) (.p .s (.p (.i .i64) (.i .i64)))) 28 false), (.int .i64), (.own .s 9 false), (.own (.p (.i .i64) (.i .i64)) 44 false), (.own (.i .i64) 3 false), (.own .s 9 false), (.own (.p (.i .i64) (.p .ex (.l (.p (.i .i64) .ex)))) 54 false)])], (.ifc 65 (.agg [(.int .i64), (.int .i64)])), false, (.int .i64), [(true, 0, (.bx 69 0 true [.same, (.int .i64), .same, .same, .same, .same, .same]))], fun s => cI s.1 s.2.1 s.2.2.1 s.2.2.2.1 s.2.2.2.2.1 s.2.2.2.2.2.1 s.2.2.2.2.2.2⟩
theorem sV : (vD).Ok X0.P X0.Γ :=
 tq (.s (.s (.j ⟨[(true, 0, (.bx 69 0 true [.same, (.int .i64), .same, .same, .same, .same, .same]))], []⟩ .o (.s (.j ⟨[], []⟩ .o .o))))) Tryd.call54 Tryd.func54 (ok1 fC (ok1 cR ok0)) (ok1 dB ok0) ok0 fun _ => by kernel_rfl
def xT : bc := ⟨55, [(.bx 69 0 true [(.own (.p (.i .i64) (.p .s (.p (.i .i64) (.i .i64)))) 28 false), (.int .i64), (.own .s 9 false), (.own (.p (.i .i64) (.i .i64)) 44 false), (.own (.i .i64) 3 false), (.own .s 9 false), (.own (.p (.i .i64) (.p .ex (.l (.p (.i .i64) .ex)))) 54 false)]), .str], (.ifc 65 (.agg [(.int .i64), (.int .i64)])), false, (.tup []), [(true, 0, (.bx 69 0 true [.same, (.int .i64), .same, .same, .same, .same, .same]))], fun s => ba s.2.2.2.2.2.2.2 s.1 s.2.1 s.2.2.1 s.2.2.2.1 s.2.2.2.2.1 s.2.2.2.2.2.1 s.2.2.2.2.2.2.1⟩
theorem gA : (xT).Ok X0.P X0.Γ :=
 tq (.j ⟨[], []⟩ .o .o) Tryd.call55 Tryd.func55 (ok1 fC ok0) (ok1 dB ok0) ok0 fun _ => by kernel_rfl
def xN : Ent := ⟨65, [(.dat (.p (.i .i64) (.i .i64)) [])], .bool, [], fun s => kl s⟩
theorem ur : (xN).Ok X0.P X0.Γ :=
 aD .o Tryd.call65 Tryd.func65 ok0 ok0 ok0 fun _ => by kernel_rfl
def tW : Ent := ⟨64, [(.own (.p (.i .i64) (.i .i64)) 44 false), (.fn 65 [] [])], (.own .bo 4 true), [], fun s => kb s⟩
theorem rC : (tW).Ok X0.P X0.Γ :=
 aD (.l ⟨[(true, 5, (.own .bo 4 true)), (false, 13, (.int .i64))], []⟩ .o) Tryd.call64 Tryd.func64 (ok1 ur ok0) ok0 ok0 fun _ => by kernel_rfl
def qD : Ent := ⟨71, [(.sli .bo), .bool], (.int .i64), [], fun s => iH s.1 s.2⟩
theorem ph : (qD).Ok X0.P X0.Γ :=
 aD (.l ⟨[(false, 8, (.int .i64))], []⟩ .o) Tryd.call71 Tryd.func71 ok0 ok0 ok0 fun _ => by kernel_rfl
def pg : Ent := ⟨63, [(.sli .bo), .bool], .bool, [], fun s => gE s.1 s.2⟩
theorem nJ : (pg).Ok X0.P X0.Γ :=
 aD .o Tryd.call63 Tryd.func63 (ok1 ph ok0) ok0 ok0 fun _ => by kernel_rfl
def xW : Ent := ⟨56, [(.own (.p (.i .i64) (.i .i64)) 44 false)], .bool, [], fun s => kj s⟩
theorem u9 : (xW).Ok X0.P X0.Γ :=
 aD .o Tryd.call56 Tryd.func56 (ok1 rC (ok1 nJ ok0)) ok0 ok0 fun _ => by kernel_rfl
def xL : Ent := ⟨66, [(.dat (.p (.i .i64) (.i .i64)) []), (.int .i64)], .bool, [], fun s => nc s.1 s.2⟩
theorem uH : (xL).Ok X0.P X0.Γ :=
 aD .o Tryd.call66 Tryd.func66 ok0 ok0 ok0 fun _ => by kernel_rfl
def AF : Ent := ⟨57, [(.own (.p (.i .i64) (.i .i64)) 44 false), (.sli (.i .i64))], (.int .i64), [], fun s => ng s.1 s.2⟩
theorem xX : (AF).Ok X0.P X0.Γ :=
 aD (.c .o (.l ⟨[(false, 14, (.int .i64))], []⟩ .o)) Tryd.call57 Tryd.func57 (ok1 uH ok0) ok0 ok0 fun _ => by kernel_rfl
def tB : bc := ⟨41, [(.bx 69 0 true [(.own (.p (.i .i64) (.p .s (.p (.i .i64) (.i .i64)))) 28 false), (.int .i64), (.own .s 9 true), (.own (.p (.i .i64) (.i .i64)) 44 true), (.own (.i .i64) 3 true), (.own .s 9 false), (.own (.p (.i .i64) (.p .ex (.l (.p (.i .i64) .ex)))) 54 false)])], (.ifc 65 (.agg [(.int .i64), (.int .i64)])), false, (.tup []), [(true, 0, (.bx 69 0 true [.same, (.int .i64), (.own .s 9 true), (.own (.p (.i .i64) (.i .i64)) 44 true), (.own (.i .i64) 3 true), .same, .same]))], fun s => eX s.1 s.2.1 s.2.2.1 s.2.2.2.1 s.2.2.2.2.1 s.2.2.2.2.2.1 s.2.2.2.2.2.2⟩
theorem qE : (tB).Ok X0.P X0.Γ :=
 tq (.s (.s (.s (.s (.s (.j ⟨[], []⟩ .o (.r [0] .o))))))) Tryd.call41 Tryd.func41 (ok1 cR (ok1 u9 (ok1 xX ok0))) (ok1 nq (ok1 sV (ok1 gA ok0))) ok0 fun _ => by kernel_rfl
def vC : Ent := ⟨80, [(.bx 115 0 true [(.own (.p (.i .i64) (.p .s (.p (.i .i64) (.i .i64)))) 28 false), (.int .i64), (.own .s 9 false), (.int .i64), (.int .i64), (.int .i64)]), (.int .i64)], (.dat .ex [some 103]), [(true, 0, (.bx 115 0 true [.same, .same, .same, .same, (.int .i64), (.int .i64)]))], fun s => aB s.2.2.2.2.2.2 s.1 s.2.1 s.2.2.1 s.2.2.2.1 s.2.2.2.2.1 s.2.2.2.2.2.1⟩
theorem da : (vC).Ok X0.P X0.Γ :=
 aD (.c (.r [0] .o) .o) Tryd.call80 Tryd.func80 ok0 ok0 ok0 fun _ => by kernel_rfl
def vB : Ent := ⟨84, [(.bx 115 0 false [(.own (.p (.i .i64) (.p .s (.p (.i .i64) (.i .i64)))) 28 false), (.int .i64), (.own .s 9 false), (.int .i64), (.int .i64), (.int .i64)])], (.dat (.p (.i .i64) (.p .s (.p (.i .i64) (.i .i64)))) []), [], fun s => ao s.1 s.2.1 s.2.2.1 s.2.2.2.1 s.2.2.2.2.1 s.2.2.2.2.2⟩
theorem aQ : (vB).Ok X0.P X0.Γ :=
 aD (.r [2] .o) Tryd.call84 Tryd.func84 ok0 ok0 ok0 fun _ => by kernel_rfl
def xU : Ent := ⟨83, [(.bx 115 0 false [(.own (.p (.i .i64) (.p .s (.p (.i .i64) (.i .i64)))) 28 false), (.int .i64), (.own .s 9 false), (.int .i64), (.int .i64), (.int .i64)]), (.sli (.i .i64))], (.tup [(.int .i64), .bool]), [], fun s => aw s.2.2.2.2.2.2 s.1 s.2.1 s.2.2.1 s.2.2.2.1 s.2.2.2.2.1 s.2.2.2.2.2.1⟩
theorem bn : (xU).Ok X0.P X0.Γ :=
 aD (.c .o (.l ⟨[(false, 27, (.int .i64))], []⟩ .o)) Tryd.call83 Tryd.func83 (ok1 aQ (ok1 px ok0)) ok0 ok0 fun _ => by kernel_rfl
def wh (k4 : TK4) : Ent := ⟨99, [(.bx 115 0 true [(.own (.p (.i .i64) (.p .s (.p (.i .i64) (.i .i64)))) 28 false), (.int .i64), (.own .s 9 false), (.int .i64), (.int .i64), (.int .i64)])], (.dat .ex [some 103]), [(true, 0, (.bx 115 0 true [.same, (.int .i64), .same, (.int .i64), (.int .i64), (.int .i64)]))], fun s => dT k4 s.1 s.2.1 s.2.2.1 s.2.2.2.1 s.2.2.2.2.1 s.2.2.2.2.2⟩
def kT (eta : Ex → Ex) (_du : Sh → (R : Type) → Option R → Option R) (ab : Q1 → Option Q2) (l : Q4) (at_ : Int) (names : Q6) (deep : Int) (bad : Int) (place : Int) : Option Q2 :=
bif (bad != 0) then (
some ((Ex.mk 0 0 0 []), at_, deep, bad, place))
else (
(ao l at_ names deep bad place).bind fun r13 =>
(aw ([13, 14] : List Int) l at_ names deep bad place).bind fun r21 =>
bif r21.2 then (
some ((Ex.mk r21.1 0 r13.2.2.2 []), (IntKind.i64.wrap (at_ + 1)), deep, bad, place))
else (
bif (r13.1 == 2) then (
some ((Ex.mk 1 r13.2.2.1 r13.2.2.2 []), (IntKind.i64.wrap (at_ + 1)), deep, bad, place))
else (
ah (r13.1 == 1) fun b30 =>
az b30 default (l9 r13.2.1) fun r32 =>
ah (!r32) fun b38 =>
ah (b30 && b38) fun b40 =>
bif b40 then (
(aP names r13.2.1).bind fun r45 =>
bif (decide (r45 < 0)) then (
(aB 3 l at_ names deep bad place).bind fun r49 =>
some ((eta r49.1), at_, deep, r49.2.1, r49.2.2))
else (
some ((Ex.mk 2 r45 r13.2.2.2 []), (IntKind.i64.wrap (at_ + 1)), deep, bad, place)))
else (
ah (r13.1 == 3) fun b57 =>
ah (r13.2.1 == [40]) fun b59 =>
ah (b57 && b59) fun b61 =>
bif b61 then (
(ab (l, (IntKind.i64.wrap (at_ + 1)), names, deep, bad, place)).bind fun r65 =>
ah (r65.2.2.2.1 == 0) fun b73 =>
az b73 default (ao l r65.2.1 names r65.2.2.1 r65.2.2.2.1 r65.2.2.2.2) fun r75 =>
ah (r75.1 != 3) fun b81 =>
az (b73 && !b81) default (ao l r65.2.1 names r65.2.2.1 r65.2.2.2.1 r65.2.2.2.2) fun r83 =>
ah (r83.2.1 != [41]) fun b89 =>
ah (b81 || b89) fun b91 =>
ah (b73 && b91) fun b93 =>
bif b93 then (
(aB 2 l r65.2.1 names r65.2.2.1 r65.2.2.2.1 r65.2.2.2.2).bind fun r96 =>
some ((eta r96.1), r65.2.1, r65.2.2.1, r96.2.1, r96.2.2))
else (
bif (r65.2.2.2.1 == 0) then (
some ((eta r65.1), (IntKind.i64.wrap (r65.2.1 + 1)), r65.2.2.1, r65.2.2.2.1, r65.2.2.2.2))
else (
some ((eta r65.1), r65.2.1, r65.2.2.1, r65.2.2.2.1, r65.2.2.2.2))))
else (
(aB 2 l at_ names deep bad place).bind fun r106 =>
some ((eta r106.1), at_, deep, r106.2.1, r106.2.2))))))
theorem tQ (k4 : TK4) (i4 : OK4 k4) : (wh k4).Ok X0.P X0.Γ :=
 aD (.c .o (.c .o (.c .o (.c (.r [0] .o) .o)))) Tryd.call99 Tryd.func99 (ok1 aQ (ok1 bn (ok1 px (ok1 dI (ok1 da (ok1 i4 ok0)))))) ok0 ok0 fun s => (show _ = kT cq duE k4 s.1 s.2.1 s.2.2.1 s.2.2.2.1 s.2.2.2.2.1 s.2.2.2.2.2 from by kernel_rfl).trans ((congrArg (fun eta => kT eta duE k4 s.1 s.2.1 s.2.2.1 s.2.2.2.1 s.2.2.2.2.1 s.2.2.2.2.2) aJ).trans ((congrArg (fun du => kT id du k4 s.1 s.2.1 s.2.2.1 s.2.2.2.1 s.2.2.2.2.1 s.2.2.2.2.2) aT).trans (by kernel_rfl)))
def tD (k4 : TK4) (k0 : TK0) : Ent := ⟨93, [(.bx 115 0 true [(.own (.p (.i .i64) (.p .s (.p (.i .i64) (.i .i64)))) 28 false), (.int .i64), (.own .s 9 false), (.int .i64), (.int .i64), (.int .i64)]), (.fn 98 [] []), (.fn 99 [] []), (.sli (.i .i64))], (.dat .ex [some 103]), [(true, 0, (.bx 115 0 true [.same, (.int .i64), .same, (.int .i64), (.int .i64), (.int .i64)]))], fun s => j2 k4 k0 s.2.2.2.2.2.2 s.1 s.2.1 s.2.2.1 s.2.2.2.1 s.2.2.2.2.1 s.2.2.2.2.2.1⟩
def je (eta : Ex → Ex) (_du : Sh → (R : Type) → Option R → Option R) (ab : Q1 → Option Q2) (bg : Q1 → Option Q2) (ops : Q8) (l : Q4) (at_ : Int) (names : Q6) (deep : Int) (bad : Int) (place : Int) : Option Q2 :=
(aw ops l at_ names deep bad place).bind fun r11 =>
bif (!r11.2) then (
(dT ab l at_ names deep bad place).bind fun r15 =>
some ((eta r15.1), r15.2.1, r15.2.2.1, r15.2.2.2.1, r15.2.2.2.2))
else (
(ao l at_ names deep bad place).bind fun r21 =>
(bg (l, (IntKind.i64.wrap (at_ + 1)), names, deep, bad, place)).bind fun r30 =>
some ((Ex.mk r11.1 0 r21.2.2.2 ([(eta r30.1)] : List Ex)), r30.2.1, r30.2.2.1, r30.2.2.2.1, r30.2.2.2.2))
theorem rG (k4 : TK4) (i4 : OK4 k4) (k0 : TK0) (i0 : OK0 k0) : (tD k4 k0).Ok X0.P X0.Γ :=
 aD (.c .o (.r [0, 8] .o)) Tryd.call93 Tryd.func93 (ok1 bn (ok1 (tQ k4 i4) (ok1 aQ (ok1 i0 ok0)))) ok0 ok0 fun s => (show _ = je cq duE k4 k0 s.2.2.2.2.2.2 s.1 s.2.1 s.2.2.1 s.2.2.2.1 s.2.2.2.2.1 s.2.2.2.2.2.1 from by kernel_rfl).trans ((congrArg (fun eta => je eta duE k4 k0 s.2.2.2.2.2.2 s.1 s.2.1 s.2.2.1 s.2.2.2.1 s.2.2.2.2.1 s.2.2.2.2.2.1) aJ).trans ((congrArg (fun du => je id du k4 k0 s.2.2.2.2.2.2 s.1 s.2.1 s.2.2.1 s.2.2.2.1 s.2.2.2.2.1 s.2.2.2.2.2.1) aT).trans (by kernel_rfl)))
def vN (k4 : TK4) (k0 : TK0) : Ent := ⟨98, [(.bx 115 0 true [(.own (.p (.i .i64) (.p .s (.p (.i .i64) (.i .i64)))) 28 false), (.int .i64), (.own .s 9 false), (.int .i64), (.int .i64), (.int .i64)])], (.dat .ex [some 103]), [(true, 0, (.bx 115 0 true [.same, (.int .i64), .same, (.int .i64), (.int .i64), (.int .i64)]))], fun s => dV k4 k0 s.1 s.2.1 s.2.2.1 s.2.2.2.1 s.2.2.2.2.1 s.2.2.2.2.2⟩
def kr (eta : Ex → Ex) (_du : Sh → (R : Type) → Option R → Option R) (ab : Q1 → Option Q2) (bg : Q1 → Option Q2) (l : Q4) (at_ : Int) (names : Q6) (deep : Int) (bad : Int) (place : Int) : Option Q2 :=
(j2 ab bg ([6] : List Int) l at_ names deep bad place).bind fun r13 =>
some ((eta r13.1), r13.2.1, r13.2.2.1, r13.2.2.2.1, r13.2.2.2.2)
theorem ub (k4 : TK4) (i4 : OK4 k4) (k0 : TK0) (i0 : OK0 k0) : (vN k4 k0).Ok X0.P X0.Γ :=
 aD .o Tryd.call98 Tryd.func98 (ok1 (rG k4 i4 k0 i0) ok0) ok0 ok0 fun s => (show _ = kr cq duE k4 k0 s.1 s.2.1 s.2.2.1 s.2.2.2.1 s.2.2.2.2.1 s.2.2.2.2.2 from by kernel_rfl).trans ((congrArg (fun eta => kr eta duE k4 k0 s.1 s.2.1 s.2.2.1 s.2.2.2.1 s.2.2.2.2.1 s.2.2.2.2.2) aJ).trans ((congrArg (fun du => kr id du k4 k0 s.1 s.2.1 s.2.2.1 s.2.2.2.1 s.2.2.2.2.1 s.2.2.2.2.2) aT).trans (by kernel_rfl)))
def mN (k4 : TK4) : Ent := ⟨77, [(.bx 115 0 true [(.own (.p (.i .i64) (.p .s (.p (.i .i64) (.i .i64)))) 28 false), (.int .i64), (.own .s 9 false), (.int .i64), (.int .i64), (.int .i64)]), (.fn 98 [] [])], (.dat .ex [some 103]), [(true, 0, (.bx 115 0 true [.same, (.int .i64), .same, (.int .i64), (.int .i64), (.int .i64)]))], fun s => kc k4 s.1 s.2.1 s.2.2.1 s.2.2.2.1 s.2.2.2.2.1 s.2.2.2.2.2⟩
def ic (eta : Ex → Ex) (_du : Sh → (R : Type) → Option R → Option R) (ab : Q1 → Option Q2) (bg : Q1 → Option Q2) (l : Q4) (at_ : Int) (names : Q6) (deep : Int) (bad : Int) (place : Int) : Option Q2 :=
bif (decide (320 ≤ deep)) then (
(aB 9 l at_ names deep bad place).bind fun r12 =>
some ((eta r12.1), at_, deep, r12.2.1, r12.2.2))
else (
(dV ab bg l at_ names (IntKind.i64.wrap (deep + 1)) bad place).bind fun r19 =>
some ((eta r19.1), r19.2.1, (IntKind.i64.wrap (r19.2.2.1 - 1)), r19.2.2.2.1, r19.2.2.2.2))
def mG (k4 : TK4) : TK0 → TK0 := fun k0 s => jf k4 k0 s.1 s.2.1 s.2.2.1 s.2.2.2.1 s.2.2.2.2.1 s.2.2.2.2.2
theorem pw (k4 : TK4) (i4 : OK4 k4) (k0 : TK0) (i0 : OK0 k0) : (fw (mG k4 k0)).Ok X0.P X0.Γ :=
 aD .o Tryd.call77 Tryd.func77 (ok1 da (ok1 (ub k4 i4 k0 i0) ok0)) ok0 ok0 fun s => (show _ = ic cq duE k4 k0 s.1 s.2.1 s.2.2.1 s.2.2.2.1 s.2.2.2.2.1 s.2.2.2.2.2 from by kernel_rfl).trans ((congrArg (fun eta => ic eta duE k4 k0 s.1 s.2.1 s.2.2.1 s.2.2.2.1 s.2.2.2.2.1 s.2.2.2.2.2) aJ).trans ((congrArg (fun du => ic id du k4 k0 s.1 s.2.1 s.2.2.1 s.2.2.2.1 s.2.2.2.2.1 s.2.2.2.2.2) aT).trans (by kernel_rfl)))
theorem qG (k4 : TK4) (i4 : OK4 k4) : (mN k4).Ok X0.P X0.Γ := (show mN k4 = fw (an (mG k4) ar) by kernel_rfl) ▸ jX (X := X0) (E := fw) ⟨Tryd.call77, fun _ _ h => nomatch h⟩ (pw k4 i4) ar
def sR (k4 : TK4) : Ent := ⟨97, [(.bx 115 0 true [(.own (.p (.i .i64) (.p .s (.p (.i .i64) (.i .i64)))) 28 false), (.int .i64), (.own .s 9 false), (.int .i64), (.int .i64), (.int .i64)])], (.dat .ex [some 103]), [(true, 0, (.bx 115 0 true [.same, (.int .i64), .same, (.int .i64), (.int .i64), (.int .i64)]))], fun s => bE k4 s.1 s.2.1 s.2.2.1 s.2.2.2.1 s.2.2.2.2.1 s.2.2.2.2.2⟩
def iQ (eta : Ex → Ex) (_du : Sh → (R : Type) → Option R → Option R) (ab : Q1 → Option Q2) (l : Q4) (at_ : Int) (names : Q6) (deep : Int) (bad : Int) (place : Int) : Option Q2 :=
(kc ab l at_ names deep bad place).bind fun r11 =>
some ((eta r11.1), r11.2.1, r11.2.2.1, r11.2.2.2.1, r11.2.2.2.2)
theorem qh (k4 : TK4) (i4 : OK4 k4) : (sR k4).Ok X0.P X0.Γ :=
 aD .o Tryd.call97 Tryd.func97 (ok1 (qG k4 i4) ok0) ok0 ok0 fun s => (show _ = iQ cq duE k4 s.1 s.2.1 s.2.2.1 s.2.2.2.1 s.2.2.2.2.1 s.2.2.2.2.2 from by kernel_rfl).trans ((congrArg (fun eta => iQ eta duE k4 s.1 s.2.1 s.2.2.1 s.2.2.2.1 s.2.2.2.2.1 s.2.2.2.2.2) aJ).trans ((congrArg (fun du => iQ id du k4 s.1 s.2.1 s.2.2.1 s.2.2.2.1 s.2.2.2.2.1 s.2.2.2.2.2) aT).trans (by kernel_rfl)))
def uA (k4 : TK4) : Ent := ⟨87, [(.bx 115 0 true [(.own (.p (.i .i64) (.p .s (.p (.i .i64) (.i .i64)))) 28 false), (.int .i64), (.own .s 9 false), (.int .i64), (.int .i64), (.int .i64)]), (.fn 97 [] []), (.sli (.i .i64))], (.dat .ex [some 103]), [(true, 0, (.bx 115 0 true [.same, (.int .i64), .same, (.int .i64), (.int .i64), (.int .i64)]))], fun s => kW k4 s.2.2.2.2.2.2 s.1 s.2.1 s.2.2.1 s.2.2.2.1 s.2.2.2.2.1 s.2.2.2.2.2.1⟩
def rN (eta : Ex → Ex) (_du : Sh → (R : Type) → Option R → Option R) (ab : Q1 → Option Q2) (ops : Q8) (l : Q4) (names : Q6) (again30 : Q9 → Option Q2) : Int × Int × Int × Int × Int × Int × Int × (List Ex) → Option Q2 := fun ⟨c20, c21, c22, c23, c24, c25, c26, c27⟩ =>
bif (c22 == 0) then (
(aw ops l c20 names c21 c22 c23).bind fun r32 =>
bif (!r32.2) then (
some ((Ex.mk c24 c25 c26 c27), c20, c21, c22, c23))
else (
(ao l c20 names c21 c22 c23).bind fun r37 =>
(bE ab l (IntKind.i64.wrap (c20 + 1)) names c21 c22 c23).bind fun r44 =>
again30 (r44.2.1, r44.2.2.1, r44.2.2.2.1, r44.2.2.2.2, r32.1, 0, r37.2.2.2, ([(Ex.mk c24 c25 c26 c27), (eta r44.1)] : List Ex))))
else (
some ((Ex.mk c24 c25 c26 c27), c20, c21, c22, c23))
def jI (eta : Ex → Ex) (du : Sh → (R : Type) → Option R → Option R) (ab : Q1 → Option Q2) (ops : Q8) (l : Q4) (at_ : Int) (names : Q6) (deep : Int) (bad : Int) (place : Int) : Option Q2 :=
(bE ab l at_ names deep bad place).bind fun r11 =>
an (rN eta du ab ops l names) ar (r11.2.1, r11.2.2.1, r11.2.2.2.1, r11.2.2.2.2, r11.1.op, r11.1.n, r11.1.at_, r11.1.l)
theorem rM (k4 : TK4) (i4 : OK4 k4) : (uA k4).Ok X0.P X0.Γ :=
 aD (.l ⟨[(true, 0, (.bx 115 0 true [.same, (.int .i64), .same, (.int .i64), (.int .i64), (.int .i64)])), (true, 6, (.bx 51 0 true [.same, .same, .same, .same])), (true, 7, (.bx 51 0 true [(.int .i64), (.int .i64), (.int .i64), (.own .ex 51 true)]))], []⟩ .o) Tryd.call87 Tryd.func87 (ok1 (qh k4 i4) (ok1 bn (ok1 aQ ok0))) ok0 ok0 fun s => (show _ = jI cq duE k4 s.2.2.2.2.2.2 s.1 s.2.1 s.2.2.1 s.2.2.2.1 s.2.2.2.2.1 s.2.2.2.2.2.1 from by kernel_rfl).trans ((congrArg (fun eta => jI eta duE k4 s.2.2.2.2.2.2 s.1 s.2.1 s.2.2.1 s.2.2.2.1 s.2.2.2.2.1 s.2.2.2.2.2.1) aJ).trans ((congrArg (fun du => jI id du k4 s.2.2.2.2.2.2 s.1 s.2.1 s.2.2.1 s.2.2.2.1 s.2.2.2.2.1 s.2.2.2.2.2.1) aT).trans (by kernel_rfl)))
def vF (k4 : TK4) : Ent := ⟨96, [(.bx 115 0 true [(.own (.p (.i .i64) (.p .s (.p (.i .i64) (.i .i64)))) 28 false), (.int .i64), (.own .s 9 false), (.int .i64), (.int .i64), (.int .i64)])], (.dat .ex [some 103]), [(true, 0, (.bx 115 0 true [.same, (.int .i64), .same, (.int .i64), (.int .i64), (.int .i64)]))], fun s => bL k4 s.1 s.2.1 s.2.2.1 s.2.2.2.1 s.2.2.2.2.1 s.2.2.2.2.2⟩
def j5 (eta : Ex → Ex) (_du : Sh → (R : Type) → Option R → Option R) (ab : Q1 → Option Q2) (l : Q4) (at_ : Int) (names : Q6) (deep : Int) (bad : Int) (place : Int) : Option Q2 :=
(kW ab ([5] : List Int) l at_ names deep bad place).bind fun r13 =>
some ((eta r13.1), r13.2.1, r13.2.2.1, r13.2.2.2.1, r13.2.2.2.2)
theorem sZ (k4 : TK4) (i4 : OK4 k4) : (vF k4).Ok X0.P X0.Γ :=
 aD .o Tryd.call96 Tryd.func96 (ok1 (rM k4 i4) ok0) ok0 ok0 fun s => (show _ = j5 cq duE k4 s.1 s.2.1 s.2.2.1 s.2.2.2.1 s.2.2.2.2.1 s.2.2.2.2.2 from by kernel_rfl).trans ((congrArg (fun eta => j5 eta duE k4 s.1 s.2.1 s.2.2.1 s.2.2.2.1 s.2.2.2.2.1 s.2.2.2.2.2) aJ).trans ((congrArg (fun du => j5 id du k4 s.1 s.2.1 s.2.2.1 s.2.2.2.1 s.2.2.2.2.1 s.2.2.2.2.2) aT).trans (by kernel_rfl)))
def uk (k4 : TK4) : Ent := ⟨87, [(.bx 115 0 true [(.own (.p (.i .i64) (.p .s (.p (.i .i64) (.i .i64)))) 28 false), (.int .i64), (.own .s 9 false), (.int .i64), (.int .i64), (.int .i64)]), (.fn 96 [] []), (.sli (.i .i64))], (.dat .ex [some 103]), [(true, 0, (.bx 115 0 true [.same, (.int .i64), .same, (.int .i64), (.int .i64), (.int .i64)]))], fun s => kG k4 s.2.2.2.2.2.2 s.1 s.2.1 s.2.2.1 s.2.2.2.1 s.2.2.2.2.1 s.2.2.2.2.2.1⟩
def rK (eta : Ex → Ex) (_du : Sh → (R : Type) → Option R → Option R) (ab : Q1 → Option Q2) (ops : Q8) (l : Q4) (names : Q6) (again30 : Q9 → Option Q2) : Int × Int × Int × Int × Int × Int × Int × (List Ex) → Option Q2 := fun ⟨c20, c21, c22, c23, c24, c25, c26, c27⟩ =>
bif (c22 == 0) then (
(aw ops l c20 names c21 c22 c23).bind fun r32 =>
bif (!r32.2) then (
some ((Ex.mk c24 c25 c26 c27), c20, c21, c22, c23))
else (
(ao l c20 names c21 c22 c23).bind fun r37 =>
(bL ab l (IntKind.i64.wrap (c20 + 1)) names c21 c22 c23).bind fun r44 =>
again30 (r44.2.1, r44.2.2.1, r44.2.2.2.1, r44.2.2.2.2, r32.1, 0, r37.2.2.2, ([(Ex.mk c24 c25 c26 c27), (eta r44.1)] : List Ex))))
else (
some ((Ex.mk c24 c25 c26 c27), c20, c21, c22, c23))
def js (eta : Ex → Ex) (du : Sh → (R : Type) → Option R → Option R) (ab : Q1 → Option Q2) (ops : Q8) (l : Q4) (at_ : Int) (names : Q6) (deep : Int) (bad : Int) (place : Int) : Option Q2 :=
(bL ab l at_ names deep bad place).bind fun r11 =>
an (rK eta du ab ops l names) ar (r11.2.1, r11.2.2.1, r11.2.2.2.1, r11.2.2.2.2, r11.1.op, r11.1.n, r11.1.at_, r11.1.l)
theorem rU (k4 : TK4) (i4 : OK4 k4) : (uk k4).Ok X0.P X0.Γ :=
 aD (.l ⟨[(true, 0, (.bx 115 0 true [.same, (.int .i64), .same, (.int .i64), (.int .i64), (.int .i64)])), (true, 6, (.bx 51 0 true [.same, .same, .same, .same])), (true, 7, (.bx 51 0 true [(.int .i64), (.int .i64), (.int .i64), (.own .ex 51 true)]))], []⟩ .o) Tryd.call87 Tryd.func87 (ok1 (sZ k4 i4) (ok1 bn (ok1 aQ ok0))) ok0 ok0 fun s => (show _ = js cq duE k4 s.2.2.2.2.2.2 s.1 s.2.1 s.2.2.1 s.2.2.2.1 s.2.2.2.2.1 s.2.2.2.2.2.1 from by kernel_rfl).trans ((congrArg (fun eta => js eta duE k4 s.2.2.2.2.2.2 s.1 s.2.1 s.2.2.1 s.2.2.2.1 s.2.2.2.2.1 s.2.2.2.2.2.1) aJ).trans ((congrArg (fun du => js id du k4 s.2.2.2.2.2.2 s.1 s.2.1 s.2.2.1 s.2.2.2.1 s.2.2.2.2.1 s.2.2.2.2.2.1) aT).trans (by kernel_rfl)))
def v7 (k4 : TK4) : Ent := ⟨95, [(.bx 115 0 true [(.own (.p (.i .i64) (.p .s (.p (.i .i64) (.i .i64)))) 28 false), (.int .i64), (.own .s 9 false), (.int .i64), (.int .i64), (.int .i64)])], (.dat .ex [some 103]), [(true, 0, (.bx 115 0 true [.same, (.int .i64), .same, (.int .i64), (.int .i64), (.int .i64)]))], fun s => bJ k4 s.1 s.2.1 s.2.2.1 s.2.2.2.1 s.2.2.2.2.1 s.2.2.2.2.2⟩
def kN (eta : Ex → Ex) (_du : Sh → (R : Type) → Option R → Option R) (ab : Q1 → Option Q2) (l : Q4) (at_ : Int) (names : Q6) (deep : Int) (bad : Int) (place : Int) : Option Q2 :=
(kG ab ([3, 4] : List Int) l at_ names deep bad place).bind fun r13 =>
some ((eta r13.1), r13.2.1, r13.2.2.1, r13.2.2.2.1, r13.2.2.2.2)
theorem tU (k4 : TK4) (i4 : OK4 k4) : (v7 k4).Ok X0.P X0.Γ :=
 aD .o Tryd.call95 Tryd.func95 (ok1 (rU k4 i4) ok0) ok0 ok0 fun s => (show _ = kN cq duE k4 s.1 s.2.1 s.2.2.1 s.2.2.2.1 s.2.2.2.2.1 s.2.2.2.2.2 from by kernel_rfl).trans ((congrArg (fun eta => kN eta duE k4 s.1 s.2.1 s.2.2.1 s.2.2.2.1 s.2.2.2.2.1 s.2.2.2.2.2) aJ).trans ((congrArg (fun du => kN id du k4 s.1 s.2.1 s.2.2.1 s.2.2.2.1 s.2.2.2.2.1 s.2.2.2.2.2) aT).trans (by kernel_rfl)))
def vI (k4 : TK4) : Ent := ⟨94, [(.bx 115 0 true [(.own (.p (.i .i64) (.p .s (.p (.i .i64) (.i .i64)))) 28 false), (.int .i64), (.own .s 9 false), (.int .i64), (.int .i64), (.int .i64)])], (.dat .ex [some 103]), [(true, 0, (.bx 115 0 true [.same, (.int .i64), .same, (.int .i64), (.int .i64), (.int .i64)]))], fun s => dR k4 s.1 s.2.1 s.2.2.1 s.2.2.2.1 s.2.2.2.2.1 s.2.2.2.2.2⟩
def kx (eta : Ex → Ex) (_du : Sh → (R : Type) → Option R → Option R) (ab : Q1 → Option Q2) (l : Q4) (at_ : Int) (names : Q6) (deep : Int) (bad : Int) (place : Int) : Option Q2 :=
(bJ ab l at_ names deep bad place).bind fun r11 =>
(aw ([7, 8, 9, 10, 11, 12] : List Int) l r11.2.1 names r11.2.2.1 r11.2.2.2.1 r11.2.2.2.2).bind fun r21 =>
ah (r11.2.2.2.1 != 0) fun b24 =>
ah (!r21.2) fun b26 =>
ah (b24 || b26) fun b28 =>
bif b28 then (
some ((eta r11.1), r11.2.1, r11.2.2.1, r11.2.2.2.1, r11.2.2.2.2))
else (
(ao l r11.2.1 names r11.2.2.1 r11.2.2.2.1 r11.2.2.2.2).bind fun r32 =>
(bJ ab l (IntKind.i64.wrap (r11.2.1 + 1)) names r11.2.2.1 r11.2.2.2.1 r11.2.2.2.2).bind fun r39 =>
some ((Ex.mk r21.1 0 r32.2.2.2 ([(eta r11.1), (eta r39.1)] : List Ex)), r39.2.1, r39.2.2.1, r39.2.2.2.1, r39.2.2.2.2))
theorem tJ (k4 : TK4) (i4 : OK4 k4) : (vI k4).Ok X0.P X0.Γ :=
 aD .o Tryd.call94 Tryd.func94 (ok1 (tU k4 i4) (ok1 bn (ok1 aQ ok0))) ok0 ok0 fun s => (show _ = kx cq duE k4 s.1 s.2.1 s.2.2.1 s.2.2.2.1 s.2.2.2.2.1 s.2.2.2.2.2 from by kernel_rfl).trans ((congrArg (fun eta => kx eta duE k4 s.1 s.2.1 s.2.2.1 s.2.2.2.1 s.2.2.2.2.1 s.2.2.2.2.2) aJ).trans ((congrArg (fun du => kx id du k4 s.1 s.2.1 s.2.2.1 s.2.2.2.1 s.2.2.2.2.1 s.2.2.2.2.2) aT).trans (by kernel_rfl)))
def tL (k4 : TK4) (k1 : TK1) : Ent := ⟨93, [(.bx 115 0 true [(.own (.p (.i .i64) (.p .s (.p (.i .i64) (.i .i64)))) 28 false), (.int .i64), (.own .s 9 false), (.int .i64), (.int .i64), (.int .i64)]), (.fn 92 [] []), (.fn 94 [] []), (.sli (.i .i64))], (.dat .ex [some 103]), [(true, 0, (.bx 115 0 true [.same, (.int .i64), .same, (.int .i64), (.int .i64), (.int .i64)]))], fun s => j4 k4 k1 s.2.2.2.2.2.2 s.1 s.2.1 s.2.2.1 s.2.2.2.1 s.2.2.2.2.1 s.2.2.2.2.2.1⟩
def jk (eta : Ex → Ex) (_du : Sh → (R : Type) → Option R → Option R) (ab : Q1 → Option Q2) (bd : Q1 → Option Q2) (ops : Q8) (l : Q4) (at_ : Int) (names : Q6) (deep : Int) (bad : Int) (place : Int) : Option Q2 :=
(aw ops l at_ names deep bad place).bind fun r11 =>
bif (!r11.2) then (
(dR ab l at_ names deep bad place).bind fun r15 =>
some ((eta r15.1), r15.2.1, r15.2.2.1, r15.2.2.2.1, r15.2.2.2.2))
else (
(ao l at_ names deep bad place).bind fun r21 =>
(bd (l, (IntKind.i64.wrap (at_ + 1)), names, deep, bad, place)).bind fun r30 =>
some ((Ex.mk r11.1 0 r21.2.2.2 ([(eta r30.1)] : List Ex)), r30.2.1, r30.2.2.1, r30.2.2.2.1, r30.2.2.2.2))
theorem qP (k4 : TK4) (i4 : OK4 k4) (k1 : TK1) (i1 : OK1 k1) : (tL k4 k1).Ok X0.P X0.Γ :=
 aD (.c .o (.r [0, 8] .o)) Tryd.call93 Tryd.func93 (ok1 bn (ok1 (tJ k4 i4) (ok1 aQ (ok1 i1 ok0)))) ok0 ok0 fun s => (show _ = jk cq duE k4 k1 s.2.2.2.2.2.2 s.1 s.2.1 s.2.2.1 s.2.2.2.1 s.2.2.2.2.1 s.2.2.2.2.2.1 from by kernel_rfl).trans ((congrArg (fun eta => jk eta duE k4 k1 s.2.2.2.2.2.2 s.1 s.2.1 s.2.2.1 s.2.2.2.1 s.2.2.2.2.1 s.2.2.2.2.2.1) aJ).trans ((congrArg (fun du => jk id du k4 k1 s.2.2.2.2.2.2 s.1 s.2.1 s.2.2.1 s.2.2.2.1 s.2.2.2.2.1 s.2.2.2.2.2.1) aT).trans (by kernel_rfl)))
def wM (k4 : TK4) (k1 : TK1) : Ent := ⟨92, [(.bx 115 0 true [(.own (.p (.i .i64) (.p .s (.p (.i .i64) (.i .i64)))) 28 false), (.int .i64), (.own .s 9 false), (.int .i64), (.int .i64), (.int .i64)])], (.dat .ex [some 103]), [(true, 0, (.bx 115 0 true [.same, (.int .i64), .same, (.int .i64), (.int .i64), (.int .i64)]))], fun s => dU k4 k1 s.1 s.2.1 s.2.2.1 s.2.2.2.1 s.2.2.2.2.1 s.2.2.2.2.2⟩
def lq (eta : Ex → Ex) (_du : Sh → (R : Type) → Option R → Option R) (ab : Q1 → Option Q2) (bd : Q1 → Option Q2) (l : Q4) (at_ : Int) (names : Q6) (deep : Int) (bad : Int) (place : Int) : Option Q2 :=
(j4 ab bd ([15, 20, 21, 22] : List Int) l at_ names deep bad place).bind fun r13 =>
some ((eta r13.1), r13.2.1, r13.2.2.1, r13.2.2.2.1, r13.2.2.2.2)
theorem tE (k4 : TK4) (i4 : OK4 k4) (k1 : TK1) (i1 : OK1 k1) : (wM k4 k1).Ok X0.P X0.Γ :=
 aD .o Tryd.call92 Tryd.func92 (ok1 (qP k4 i4 k1 i1) ok0) ok0 ok0 fun s => (show _ = lq cq duE k4 k1 s.1 s.2.1 s.2.2.1 s.2.2.2.1 s.2.2.2.2.1 s.2.2.2.2.2 from by kernel_rfl).trans ((congrArg (fun eta => lq eta duE k4 k1 s.1 s.2.1 s.2.2.1 s.2.2.2.1 s.2.2.2.2.1 s.2.2.2.2.2) aJ).trans ((congrArg (fun du => lq id du k4 k1 s.1 s.2.1 s.2.2.1 s.2.2.2.1 s.2.2.2.2.1 s.2.2.2.2.2) aT).trans (by kernel_rfl)))
def mU (k4 : TK4) : Ent := ⟨77, [(.bx 115 0 true [(.own (.p (.i .i64) (.p .s (.p (.i .i64) (.i .i64)))) 28 false), (.int .i64), (.own .s 9 false), (.int .i64), (.int .i64), (.int .i64)]), (.fn 92 [] [])], (.dat .ex [some 103]), [(true, 0, (.bx 115 0 true [.same, (.int .i64), .same, (.int .i64), (.int .i64), (.int .i64)]))], fun s => ka k4 s.1 s.2.1 s.2.2.1 s.2.2.2.1 s.2.2.2.2.1 s.2.2.2.2.2⟩
def hZ (eta : Ex → Ex) (_du : Sh → (R : Type) → Option R → Option R) (ab : Q1 → Option Q2) (bd : Q1 → Option Q2) (l : Q4) (at_ : Int) (names : Q6) (deep : Int) (bad : Int) (place : Int) : Option Q2 :=
bif (decide (320 ≤ deep)) then (
(aB 9 l at_ names deep bad place).bind fun r12 =>
some ((eta r12.1), at_, deep, r12.2.1, r12.2.2))
else (
(dU ab bd l at_ names (IntKind.i64.wrap (deep + 1)) bad place).bind fun r19 =>
some ((eta r19.1), r19.2.1, (IntKind.i64.wrap (r19.2.2.1 - 1)), r19.2.2.2.1, r19.2.2.2.2))
def mF (k4 : TK4) : TK1 → TK1 := fun k1 s => jg k4 k1 s.1 s.2.1 s.2.2.1 s.2.2.2.1 s.2.2.2.2.1 s.2.2.2.2.2
theorem pN (k4 : TK4) (i4 : OK4 k4) (k1 : TK1) (i1 : OK1 k1) : (fg (mF k4 k1)).Ok X0.P X0.Γ :=
 aD .o Tryd.call77 Tryd.func77 (ok1 da (ok1 (tE k4 i4 k1 i1) ok0)) ok0 ok0 fun s => (show _ = hZ cq duE k4 k1 s.1 s.2.1 s.2.2.1 s.2.2.2.1 s.2.2.2.2.1 s.2.2.2.2.2 from by kernel_rfl).trans ((congrArg (fun eta => hZ eta duE k4 k1 s.1 s.2.1 s.2.2.1 s.2.2.2.1 s.2.2.2.2.1 s.2.2.2.2.2) aJ).trans ((congrArg (fun du => hZ id du k4 k1 s.1 s.2.1 s.2.2.1 s.2.2.2.1 s.2.2.2.2.1 s.2.2.2.2.2) aT).trans (by kernel_rfl)))
theorem ru (k4 : TK4) (i4 : OK4 k4) : (mU k4).Ok X0.P X0.Γ := (show mU k4 = fg (an (mF k4) ar) by kernel_rfl) ▸ jX (X := X0) (E := fg) ⟨Tryd.call77, fun _ _ h => nomatch h⟩ (pN k4 i4) ar
def sT (k4 : TK4) : Ent := ⟨91, [(.bx 115 0 true [(.own (.p (.i .i64) (.p .s (.p (.i .i64) (.i .i64)))) 28 false), (.int .i64), (.own .s 9 false), (.int .i64), (.int .i64), (.int .i64)])], (.dat .ex [some 103]), [(true, 0, (.bx 115 0 true [.same, (.int .i64), .same, (.int .i64), (.int .i64), (.int .i64)]))], fun s => cU k4 s.1 s.2.1 s.2.2.1 s.2.2.2.1 s.2.2.2.2.1 s.2.2.2.2.2⟩
def iG (eta : Ex → Ex) (_du : Sh → (R : Type) → Option R → Option R) (ab : Q1 → Option Q2) (l : Q4) (at_ : Int) (names : Q6) (deep : Int) (bad : Int) (place : Int) : Option Q2 :=
(ka ab l at_ names deep bad place).bind fun r11 =>
some ((eta r11.1), r11.2.1, r11.2.2.1, r11.2.2.2.1, r11.2.2.2.2)
theorem qp (k4 : TK4) (i4 : OK4 k4) : (sT k4).Ok X0.P X0.Γ :=
 aD .o Tryd.call91 Tryd.func91 (ok1 (ru k4 i4) ok0) ok0 ok0 fun s => (show _ = iG cq duE k4 s.1 s.2.1 s.2.2.1 s.2.2.2.1 s.2.2.2.2.1 s.2.2.2.2.2 from by kernel_rfl).trans ((congrArg (fun eta => iG eta duE k4 s.1 s.2.1 s.2.2.1 s.2.2.2.1 s.2.2.2.2.1 s.2.2.2.2.2) aJ).trans ((congrArg (fun du => iG id du k4 s.1 s.2.1 s.2.2.1 s.2.2.2.1 s.2.2.2.2.1 s.2.2.2.2.2) aT).trans (by kernel_rfl)))
def u5 (k4 : TK4) (k2 : TK2) : Ent := ⟨81, [(.bx 115 0 true [(.own (.p (.i .i64) (.p .s (.p (.i .i64) (.i .i64)))) 28 false), (.int .i64), (.own .s 9 false), (.int .i64), (.int .i64), (.int .i64)]), (.fn 91 [] []), (.fn 90 [] []), (.sli (.i .i64))], (.dat .ex [some 103]), [(true, 0, (.bx 115 0 true [.same, (.int .i64), .same, (.int .i64), (.int .i64), (.int .i64)]))], fun s => kR k4 k2 s.2.2.2.2.2.2 s.1 s.2.1 s.2.2.1 s.2.2.2.1 s.2.2.2.2.1 s.2.2.2.2.2.1⟩
def jN (eta : Ex → Ex) (_du : Sh → (R : Type) → Option R → Option R) (ab : Q1 → Option Q2) (bf : Q1 → Option Q2) (ops : Q8) (l : Q4) (at_ : Int) (names : Q6) (deep : Int) (bad : Int) (place : Int) : Option Q2 :=
(cU ab l at_ names deep bad place).bind fun r11 =>
(aw ops l r11.2.1 names r11.2.2.1 r11.2.2.2.1 r11.2.2.2.2).bind fun r19 =>
ah (r11.2.2.2.1 != 0) fun b22 =>
ah (!r19.2) fun b24 =>
ah (b22 || b24) fun b26 =>
bif b26 then (
some ((eta r11.1), r11.2.1, r11.2.2.1, r11.2.2.2.1, r11.2.2.2.2))
else (
(ao l r11.2.1 names r11.2.2.1 r11.2.2.2.1 r11.2.2.2.2).bind fun r30 =>
(bf (l, (IntKind.i64.wrap (r11.2.1 + 1)), names, r11.2.2.1, r11.2.2.2.1, r11.2.2.2.2)).bind fun r37 =>
some ((Ex.mk r19.1 0 r30.2.2.2 ([(eta r11.1), (eta r37.1)] : List Ex)), r37.2.1, r37.2.2.1, r37.2.2.2.1, r37.2.2.2.2))
theorem sb (k4 : TK4) (i4 : OK4 k4) (k2 : TK2) (i2 : OK2 k2) : (u5 k4 k2).Ok X0.P X0.Γ :=
 aD .o Tryd.call81 Tryd.func81 (ok1 (qp k4 i4) (ok1 bn (ok1 aQ (ok1 i2 ok0)))) ok0 ok0 fun s => (show _ = jN cq duE k4 k2 s.2.2.2.2.2.2 s.1 s.2.1 s.2.2.1 s.2.2.2.1 s.2.2.2.2.1 s.2.2.2.2.2.1 from by kernel_rfl).trans ((congrArg (fun eta => jN eta duE k4 k2 s.2.2.2.2.2.2 s.1 s.2.1 s.2.2.1 s.2.2.2.1 s.2.2.2.2.1 s.2.2.2.2.2.1) aJ).trans ((congrArg (fun du => jN id du k4 k2 s.2.2.2.2.2.2 s.1 s.2.1 s.2.2.1 s.2.2.2.1 s.2.2.2.2.1 s.2.2.2.2.2.1) aT).trans (by kernel_rfl)))
def uL (k4 : TK4) (k2 : TK2) : Ent := ⟨90, [(.bx 115 0 true [(.own (.p (.i .i64) (.p .s (.p (.i .i64) (.i .i64)))) 28 false), (.int .i64), (.own .s 9 false), (.int .i64), (.int .i64), (.int .i64)])], (.dat .ex [some 103]), [(true, 0, (.bx 115 0 true [.same, (.int .i64), .same, (.int .i64), (.int .i64), (.int .i64)]))], fun s => dv k4 k2 s.1 s.2.1 s.2.2.1 s.2.2.2.1 s.2.2.2.2.1 s.2.2.2.2.2⟩
def jx (eta : Ex → Ex) (_du : Sh → (R : Type) → Option R → Option R) (ab : Q1 → Option Q2) (bf : Q1 → Option Q2) (l : Q4) (at_ : Int) (names : Q6) (deep : Int) (bad : Int) (place : Int) : Option Q2 :=
(kR ab bf ([23, 24] : List Int) l at_ names deep bad place).bind fun r13 =>
some ((eta r13.1), r13.2.1, r13.2.2.1, r13.2.2.2.1, r13.2.2.2.2)
theorem rT (k4 : TK4) (i4 : OK4 k4) (k2 : TK2) (i2 : OK2 k2) : (uL k4 k2).Ok X0.P X0.Γ :=
 aD .o Tryd.call90 Tryd.func90 (ok1 (sb k4 i4 k2 i2) ok0) ok0 ok0 fun s => (show _ = jx cq duE k4 k2 s.1 s.2.1 s.2.2.1 s.2.2.2.1 s.2.2.2.2.1 s.2.2.2.2.2 from by kernel_rfl).trans ((congrArg (fun eta => jx eta duE k4 k2 s.1 s.2.1 s.2.2.1 s.2.2.2.1 s.2.2.2.2.1 s.2.2.2.2.2) aJ).trans ((congrArg (fun du => jx id du k4 k2 s.1 s.2.1 s.2.2.1 s.2.2.2.1 s.2.2.2.2.1 s.2.2.2.2.2) aT).trans (by kernel_rfl)))
def mS (k4 : TK4) : Ent := ⟨77, [(.bx 115 0 true [(.own (.p (.i .i64) (.p .s (.p (.i .i64) (.i .i64)))) 28 false), (.int .i64), (.own .s 9 false), (.int .i64), (.int .i64), (.int .i64)]), (.fn 90 [] [])], (.dat .ex [some 103]), [(true, 0, (.bx 115 0 true [.same, (.int .i64), .same, (.int .i64), (.int .i64), (.int .i64)]))], fun s => jZ k4 s.1 s.2.1 s.2.2.1 s.2.2.2.1 s.2.2.2.2.1 s.2.2.2.2.2⟩
def gY (eta : Ex → Ex) (_du : Sh → (R : Type) → Option R → Option R) (ab : Q1 → Option Q2) (bf : Q1 → Option Q2) (l : Q4) (at_ : Int) (names : Q6) (deep : Int) (bad : Int) (place : Int) : Option Q2 :=
bif (decide (320 ≤ deep)) then (
(aB 9 l at_ names deep bad place).bind fun r12 =>
some ((eta r12.1), at_, deep, r12.2.1, r12.2.2))
else (
(dv ab bf l at_ names (IntKind.i64.wrap (deep + 1)) bad place).bind fun r19 =>
some ((eta r19.1), r19.2.1, (IntKind.i64.wrap (r19.2.2.1 - 1)), r19.2.2.2.1, r19.2.2.2.2))
def my (k4 : TK4) : TK2 → TK2 := fun k2 s => jc k4 k2 s.1 s.2.1 s.2.2.1 s.2.2.2.1 s.2.2.2.2.1 s.2.2.2.2.2
theorem pF (k4 : TK4) (i4 : OK4 k4) (k2 : TK2) (i2 : OK2 k2) : (fm (my k4 k2)).Ok X0.P X0.Γ :=
 aD .o Tryd.call77 Tryd.func77 (ok1 da (ok1 (rT k4 i4 k2 i2) ok0)) ok0 ok0 fun s => (show _ = gY cq duE k4 k2 s.1 s.2.1 s.2.2.1 s.2.2.2.1 s.2.2.2.2.1 s.2.2.2.2.2 from by kernel_rfl).trans ((congrArg (fun eta => gY eta duE k4 k2 s.1 s.2.1 s.2.2.1 s.2.2.2.1 s.2.2.2.2.1 s.2.2.2.2.2) aJ).trans ((congrArg (fun du => gY id du k4 k2 s.1 s.2.1 s.2.2.1 s.2.2.2.1 s.2.2.2.2.1 s.2.2.2.2.2) aT).trans (by kernel_rfl)))
theorem rf (k4 : TK4) (i4 : OK4 k4) : (mS k4).Ok X0.P X0.Γ := (show mS k4 = fm (an (my k4) ar) by kernel_rfl) ▸ jX (X := X0) (E := fm) ⟨Tryd.call77, fun _ _ h => nomatch h⟩ (pF k4 i4) ar
def qK (k4 : TK4) : Ent := ⟨89, [(.bx 115 0 true [(.own (.p (.i .i64) (.p .s (.p (.i .i64) (.i .i64)))) 28 false), (.int .i64), (.own .s 9 false), (.int .i64), (.int .i64), (.int .i64)])], (.dat .ex [some 103]), [(true, 0, (.bx 115 0 true [.same, (.int .i64), .same, (.int .i64), (.int .i64), (.int .i64)]))], fun s => bm k4 s.1 s.2.1 s.2.2.1 s.2.2.2.1 s.2.2.2.2.1 s.2.2.2.2.2⟩
def gQ (eta : Ex → Ex) (_du : Sh → (R : Type) → Option R → Option R) (ab : Q1 → Option Q2) (l : Q4) (at_ : Int) (names : Q6) (deep : Int) (bad : Int) (place : Int) : Option Q2 :=
(jZ ab l at_ names deep bad place).bind fun r11 =>
some ((eta r11.1), r11.2.1, r11.2.2.1, r11.2.2.2.1, r11.2.2.2.2)
theorem o6 (k4 : TK4) (i4 : OK4 k4) : (qK k4).Ok X0.P X0.Γ :=
 aD .o Tryd.call89 Tryd.func89 (ok1 (rf k4 i4) ok0) ok0 ok0 fun s => (show _ = gQ cq duE k4 s.1 s.2.1 s.2.2.1 s.2.2.2.1 s.2.2.2.2.1 s.2.2.2.2.2 from by kernel_rfl).trans ((congrArg (fun eta => gQ eta duE k4 s.1 s.2.1 s.2.2.1 s.2.2.2.1 s.2.2.2.2.1 s.2.2.2.2.2) aJ).trans ((congrArg (fun du => gQ id du k4 s.1 s.2.1 s.2.2.1 s.2.2.2.1 s.2.2.2.2.1 s.2.2.2.2.2) aT).trans (by kernel_rfl)))
def vu (k4 : TK4) : Ent := ⟨87, [(.bx 115 0 true [(.own (.p (.i .i64) (.p .s (.p (.i .i64) (.i .i64)))) 28 false), (.int .i64), (.own .s 9 false), (.int .i64), (.int .i64), (.int .i64)]), (.fn 89 [] []), (.sli (.i .i64))], (.dat .ex [some 103]), [(true, 0, (.bx 115 0 true [.same, (.int .i64), .same, (.int .i64), (.int .i64), (.int .i64)]))], fun s => kC k4 s.2.2.2.2.2.2 s.1 s.2.1 s.2.2.1 s.2.2.2.1 s.2.2.2.2.1 s.2.2.2.2.2.1⟩
def rJ (eta : Ex → Ex) (_du : Sh → (R : Type) → Option R → Option R) (ab : Q1 → Option Q2) (ops : Q8) (l : Q4) (names : Q6) (again30 : Q9 → Option Q2) : Int × Int × Int × Int × Int × Int × Int × (List Ex) → Option Q2 := fun ⟨c20, c21, c22, c23, c24, c25, c26, c27⟩ =>
bif (c22 == 0) then (
(aw ops l c20 names c21 c22 c23).bind fun r32 =>
bif (!r32.2) then (
some ((Ex.mk c24 c25 c26 c27), c20, c21, c22, c23))
else (
(ao l c20 names c21 c22 c23).bind fun r37 =>
(bm ab l (IntKind.i64.wrap (c20 + 1)) names c21 c22 c23).bind fun r44 =>
again30 (r44.2.1, r44.2.2.1, r44.2.2.2.1, r44.2.2.2.2, r32.1, 0, r37.2.2.2, ([(Ex.mk c24 c25 c26 c27), (eta r44.1)] : List Ex))))
else (
some ((Ex.mk c24 c25 c26 c27), c20, c21, c22, c23))
def jw (eta : Ex → Ex) (du : Sh → (R : Type) → Option R → Option R) (ab : Q1 → Option Q2) (ops : Q8) (l : Q4) (at_ : Int) (names : Q6) (deep : Int) (bad : Int) (place : Int) : Option Q2 :=
(bm ab l at_ names deep bad place).bind fun r11 =>
an (rJ eta du ab ops l names) ar (r11.2.1, r11.2.2.1, r11.2.2.2.1, r11.2.2.2.2, r11.1.op, r11.1.n, r11.1.at_, r11.1.l)
theorem rO (k4 : TK4) (i4 : OK4 k4) : (vu k4).Ok X0.P X0.Γ :=
 aD (.l ⟨[(true, 0, (.bx 115 0 true [.same, (.int .i64), .same, (.int .i64), (.int .i64), (.int .i64)])), (true, 6, (.bx 51 0 true [.same, .same, .same, .same])), (true, 7, (.bx 51 0 true [(.int .i64), (.int .i64), (.int .i64), (.own .ex 51 true)]))], []⟩ .o) Tryd.call87 Tryd.func87 (ok1 (o6 k4 i4) (ok1 bn (ok1 aQ ok0))) ok0 ok0 fun s => (show _ = jw cq duE k4 s.2.2.2.2.2.2 s.1 s.2.1 s.2.2.1 s.2.2.2.1 s.2.2.2.2.1 s.2.2.2.2.2.1 from by kernel_rfl).trans ((congrArg (fun eta => jw eta duE k4 s.2.2.2.2.2.2 s.1 s.2.1 s.2.2.1 s.2.2.2.1 s.2.2.2.2.1 s.2.2.2.2.2.1) aJ).trans ((congrArg (fun du => jw id du k4 s.2.2.2.2.2.2 s.1 s.2.1 s.2.2.1 s.2.2.2.1 s.2.2.2.2.1 s.2.2.2.2.2.1) aT).trans (by kernel_rfl)))
def vT (k4 : TK4) : Ent := ⟨88, [(.bx 115 0 true [(.own (.p (.i .i64) (.p .s (.p (.i .i64) (.i .i64)))) 28 false), (.int .i64), (.own .s 9 false), (.int .i64), (.int .i64), (.int .i64)])], (.dat .ex [some 103]), [(true, 0, (.bx 115 0 true [.same, (.int .i64), .same, (.int .i64), (.int .i64), (.int .i64)]))], fun s => cd k4 s.1 s.2.1 s.2.2.1 s.2.2.2.1 s.2.2.2.2.1 s.2.2.2.2.2⟩
def ll (eta : Ex → Ex) (_du : Sh → (R : Type) → Option R → Option R) (ab : Q1 → Option Q2) (l : Q4) (at_ : Int) (names : Q6) (deep : Int) (bad : Int) (place : Int) : Option Q2 :=
(kC ab ([16] : List Int) l at_ names deep bad place).bind fun r13 =>
some ((eta r13.1), r13.2.1, r13.2.2.1, r13.2.2.2.1, r13.2.2.2.2)
theorem tw (k4 : TK4) (i4 : OK4 k4) : (vT k4).Ok X0.P X0.Γ :=
 aD .o Tryd.call88 Tryd.func88 (ok1 (rO k4 i4) ok0) ok0 ok0 fun s => (show _ = ll cq duE k4 s.1 s.2.1 s.2.2.1 s.2.2.2.1 s.2.2.2.2.1 s.2.2.2.2.2 from by kernel_rfl).trans ((congrArg (fun eta => ll eta duE k4 s.1 s.2.1 s.2.2.1 s.2.2.2.1 s.2.2.2.2.1 s.2.2.2.2.2) aJ).trans ((congrArg (fun du => ll id du k4 s.1 s.2.1 s.2.2.1 s.2.2.2.1 s.2.2.2.2.1 s.2.2.2.2.2) aT).trans (by kernel_rfl)))
def vz (k4 : TK4) : Ent := ⟨87, [(.bx 115 0 true [(.own (.p (.i .i64) (.p .s (.p (.i .i64) (.i .i64)))) 28 false), (.int .i64), (.own .s 9 false), (.int .i64), (.int .i64), (.int .i64)]), (.fn 88 [] []), (.sli (.i .i64))], (.dat .ex [some 103]), [(true, 0, (.bx 115 0 true [.same, (.int .i64), .same, (.int .i64), (.int .i64), (.int .i64)]))], fun s => lK k4 s.2.2.2.2.2.2 s.1 s.2.1 s.2.2.1 s.2.2.2.1 s.2.2.2.2.1 s.2.2.2.2.2.1⟩
def sY (eta : Ex → Ex) (_du : Sh → (R : Type) → Option R → Option R) (ab : Q1 → Option Q2) (ops : Q8) (l : Q4) (names : Q6) (again30 : Q9 → Option Q2) : Int × Int × Int × Int × Int × Int × Int × (List Ex) → Option Q2 := fun ⟨c20, c21, c22, c23, c24, c25, c26, c27⟩ =>
bif (c22 == 0) then (
(aw ops l c20 names c21 c22 c23).bind fun r32 =>
bif (!r32.2) then (
some ((Ex.mk c24 c25 c26 c27), c20, c21, c22, c23))
else (
(ao l c20 names c21 c22 c23).bind fun r37 =>
(cd ab l (IntKind.i64.wrap (c20 + 1)) names c21 c22 c23).bind fun r44 =>
again30 (r44.2.1, r44.2.2.1, r44.2.2.2.1, r44.2.2.2.2, r32.1, 0, r37.2.2.2, ([(Ex.mk c24 c25 c26 c27), (eta r44.1)] : List Ex))))
else (
some ((Ex.mk c24 c25 c26 c27), c20, c21, c22, c23))
def j7 (eta : Ex → Ex) (du : Sh → (R : Type) → Option R → Option R) (ab : Q1 → Option Q2) (ops : Q8) (l : Q4) (at_ : Int) (names : Q6) (deep : Int) (bad : Int) (place : Int) : Option Q2 :=
(cd ab l at_ names deep bad place).bind fun r11 =>
an (sY eta du ab ops l names) ar (r11.2.1, r11.2.2.1, r11.2.2.2.1, r11.2.2.2.2, r11.1.op, r11.1.n, r11.1.at_, r11.1.l)
theorem tn (k4 : TK4) (i4 : OK4 k4) : (vz k4).Ok X0.P X0.Γ :=
 aD (.l ⟨[(true, 0, (.bx 115 0 true [.same, (.int .i64), .same, (.int .i64), (.int .i64), (.int .i64)])), (true, 6, (.bx 51 0 true [.same, .same, .same, .same])), (true, 7, (.bx 51 0 true [(.int .i64), (.int .i64), (.int .i64), (.own .ex 51 true)]))], []⟩ .o) Tryd.call87 Tryd.func87 (ok1 (tw k4 i4) (ok1 bn (ok1 aQ ok0))) ok0 ok0 fun s => (show _ = j7 cq duE k4 s.2.2.2.2.2.2 s.1 s.2.1 s.2.2.1 s.2.2.2.1 s.2.2.2.2.1 s.2.2.2.2.2.1 from by kernel_rfl).trans ((congrArg (fun eta => j7 eta duE k4 s.2.2.2.2.2.2 s.1 s.2.1 s.2.2.1 s.2.2.2.1 s.2.2.2.2.1 s.2.2.2.2.2.1) aJ).trans ((congrArg (fun du => j7 id du k4 s.2.2.2.2.2.2 s.1 s.2.1 s.2.2.1 s.2.2.2.1 s.2.2.2.2.1 s.2.2.2.2.2.1) aT).trans (by kernel_rfl)))
def xQ (k4 : TK4) : Ent := ⟨86, [(.bx 115 0 true [(.own (.p (.i .i64) (.p .s (.p (.i .i64) (.i .i64)))) 28 false), (.int .i64), (.own .s 9 false), (.int .i64), (.int .i64), (.int .i64)])], (.dat .ex [some 103]), [(true, 0, (.bx 115 0 true [.same, (.int .i64), .same, (.int .i64), (.int .i64), (.int .i64)]))], fun s => dM k4 s.1 s.2.1 s.2.2.1 s.2.2.2.1 s.2.2.2.2.1 s.2.2.2.2.2⟩
def lP (eta : Ex → Ex) (_du : Sh → (R : Type) → Option R → Option R) (ab : Q1 → Option Q2) (l : Q4) (at_ : Int) (names : Q6) (deep : Int) (bad : Int) (place : Int) : Option Q2 :=
(lK ab ([17] : List Int) l at_ names deep bad place).bind fun r13 =>
some ((eta r13.1), r13.2.1, r13.2.2.1, r13.2.2.2.1, r13.2.2.2.2)
theorem uO (k4 : TK4) (i4 : OK4 k4) : (xQ k4).Ok X0.P X0.Γ :=
 aD .o Tryd.call86 Tryd.func86 (ok1 (tn k4 i4) ok0) ok0 ok0 fun s => (show _ = lP cq duE k4 s.1 s.2.1 s.2.2.1 s.2.2.2.1 s.2.2.2.2.1 s.2.2.2.2.2 from by kernel_rfl).trans ((congrArg (fun eta => lP eta duE k4 s.1 s.2.1 s.2.2.1 s.2.2.2.1 s.2.2.2.2.1 s.2.2.2.2.2) aJ).trans ((congrArg (fun du => lP id du k4 s.1 s.2.1 s.2.2.1 s.2.2.2.1 s.2.2.2.2.1 s.2.2.2.2.2) aT).trans (by kernel_rfl)))
def vq (k4 : TK4) (k3 : TK3) : Ent := ⟨81, [(.bx 115 0 true [(.own (.p (.i .i64) (.p .s (.p (.i .i64) (.i .i64)))) 28 false), (.int .i64), (.own .s 9 false), (.int .i64), (.int .i64), (.int .i64)]), (.fn 86 [] []), (.fn 85 [] []), (.sli (.i .i64))], (.dat .ex [some 103]), [(true, 0, (.bx 115 0 true [.same, (.int .i64), .same, (.int .i64), (.int .i64), (.int .i64)]))], fun s => kz k4 k3 s.2.2.2.2.2.2 s.1 s.2.1 s.2.2.1 s.2.2.2.1 s.2.2.2.2.1 s.2.2.2.2.2.1⟩
def jA (eta : Ex → Ex) (_du : Sh → (R : Type) → Option R → Option R) (ab : Q1 → Option Q2) (bh : Q1 → Option Q2) (ops : Q8) (l : Q4) (at_ : Int) (names : Q6) (deep : Int) (bad : Int) (place : Int) : Option Q2 :=
(dM ab l at_ names deep bad place).bind fun r11 =>
(aw ops l r11.2.1 names r11.2.2.1 r11.2.2.2.1 r11.2.2.2.2).bind fun r19 =>
ah (r11.2.2.2.1 != 0) fun b22 =>
ah (!r19.2) fun b24 =>
ah (b22 || b24) fun b26 =>
bif b26 then (
some ((eta r11.1), r11.2.1, r11.2.2.1, r11.2.2.2.1, r11.2.2.2.2))
else (
(ao l r11.2.1 names r11.2.2.1 r11.2.2.2.1 r11.2.2.2.2).bind fun r30 =>
(bh (l, (IntKind.i64.wrap (r11.2.1 + 1)), names, r11.2.2.1, r11.2.2.2.1, r11.2.2.2.2)).bind fun r37 =>
some ((Ex.mk r19.1 0 r30.2.2.2 ([(eta r11.1), (eta r37.1)] : List Ex)), r37.2.1, r37.2.2.1, r37.2.2.2.1, r37.2.2.2.2))
theorem rV (k4 : TK4) (i4 : OK4 k4) (k3 : TK3) (i3 : OK3 k3) : (vq k4 k3).Ok X0.P X0.Γ :=
 aD .o Tryd.call81 Tryd.func81 (ok1 (uO k4 i4) (ok1 bn (ok1 aQ (ok1 i3 ok0)))) ok0 ok0 fun s => (show _ = jA cq duE k4 k3 s.2.2.2.2.2.2 s.1 s.2.1 s.2.2.1 s.2.2.2.1 s.2.2.2.2.1 s.2.2.2.2.2.1 from by kernel_rfl).trans ((congrArg (fun eta => jA eta duE k4 k3 s.2.2.2.2.2.2 s.1 s.2.1 s.2.2.1 s.2.2.2.1 s.2.2.2.2.1 s.2.2.2.2.2.1) aJ).trans ((congrArg (fun du => jA id du k4 k3 s.2.2.2.2.2.2 s.1 s.2.1 s.2.2.1 s.2.2.2.1 s.2.2.2.2.1 s.2.2.2.2.2.1) aT).trans (by kernel_rfl)))
def wD (k4 : TK4) (k3 : TK3) : Ent := ⟨85, [(.bx 115 0 true [(.own (.p (.i .i64) (.p .s (.p (.i .i64) (.i .i64)))) 28 false), (.int .i64), (.own .s 9 false), (.int .i64), (.int .i64), (.int .i64)])], (.dat .ex [some 103]), [(true, 0, (.bx 115 0 true [.same, (.int .i64), .same, (.int .i64), (.int .i64), (.int .i64)]))], fun s => dW k4 k3 s.1 s.2.1 s.2.2.1 s.2.2.2.1 s.2.2.2.2.1 s.2.2.2.2.2⟩
def kY (eta : Ex → Ex) (_du : Sh → (R : Type) → Option R → Option R) (ab : Q1 → Option Q2) (bh : Q1 → Option Q2) (l : Q4) (at_ : Int) (names : Q6) (deep : Int) (bad : Int) (place : Int) : Option Q2 :=
(kz ab bh ([18] : List Int) l at_ names deep bad place).bind fun r13 =>
some ((eta r13.1), r13.2.1, r13.2.2.1, r13.2.2.2.1, r13.2.2.2.2)
theorem tM (k4 : TK4) (i4 : OK4 k4) (k3 : TK3) (i3 : OK3 k3) : (wD k4 k3).Ok X0.P X0.Γ :=
 aD .o Tryd.call85 Tryd.func85 (ok1 (rV k4 i4 k3 i3) ok0) ok0 ok0 fun s => (show _ = kY cq duE k4 k3 s.1 s.2.1 s.2.2.1 s.2.2.2.1 s.2.2.2.2.1 s.2.2.2.2.2 from by kernel_rfl).trans ((congrArg (fun eta => kY eta duE k4 k3 s.1 s.2.1 s.2.2.1 s.2.2.2.1 s.2.2.2.2.1 s.2.2.2.2.2) aJ).trans ((congrArg (fun du => kY id du k4 k3 s.1 s.2.1 s.2.2.1 s.2.2.2.1 s.2.2.2.2.1 s.2.2.2.2.2) aT).trans (by kernel_rfl)))
def mT (k4 : TK4) : Ent := ⟨77, [(.bx 115 0 true [(.own (.p (.i .i64) (.p .s (.p (.i .i64) (.i .i64)))) 28 false), (.int .i64), (.own .s 9 false), (.int .i64), (.int .i64), (.int .i64)]), (.fn 85 [] [])], (.dat .ex [some 103]), [(true, 0, (.bx 115 0 true [.same, (.int .i64), .same, (.int .i64), (.int .i64), (.int .i64)]))], fun s => j6 k4 s.1 s.2.1 s.2.2.1 s.2.2.2.1 s.2.2.2.2.1 s.2.2.2.2.2⟩
def gX (eta : Ex → Ex) (_du : Sh → (R : Type) → Option R → Option R) (ab : Q1 → Option Q2) (bh : Q1 → Option Q2) (l : Q4) (at_ : Int) (names : Q6) (deep : Int) (bad : Int) (place : Int) : Option Q2 :=
bif (decide (320 ≤ deep)) then (
(aB 9 l at_ names deep bad place).bind fun r12 =>
some ((eta r12.1), at_, deep, r12.2.1, r12.2.2))
else (
(dW ab bh l at_ names (IntKind.i64.wrap (deep + 1)) bad place).bind fun r19 =>
some ((eta r19.1), r19.2.1, (IntKind.i64.wrap (r19.2.2.1 - 1)), r19.2.2.2.1, r19.2.2.2.2))
def mQ (k4 : TK4) : TK3 → TK3 := fun k3 s => jd k4 k3 s.1 s.2.1 s.2.2.1 s.2.2.2.1 s.2.2.2.2.1 s.2.2.2.2.2
theorem pH (k4 : TK4) (i4 : OK4 k4) (k3 : TK3) (i3 : OK3 k3) : (fp (mQ k4 k3)).Ok X0.P X0.Γ :=
 aD .o Tryd.call77 Tryd.func77 (ok1 da (ok1 (tM k4 i4 k3 i3) ok0)) ok0 ok0 fun s => (show _ = gX cq duE k4 k3 s.1 s.2.1 s.2.2.1 s.2.2.2.1 s.2.2.2.2.1 s.2.2.2.2.2 from by kernel_rfl).trans ((congrArg (fun eta => gX eta duE k4 k3 s.1 s.2.1 s.2.2.1 s.2.2.2.1 s.2.2.2.2.1 s.2.2.2.2.2) aJ).trans ((congrArg (fun du => gX id du k4 k3 s.1 s.2.1 s.2.2.1 s.2.2.2.1 s.2.2.2.2.1 s.2.2.2.2.2) aT).trans (by kernel_rfl)))
theorem rm (k4 : TK4) (i4 : OK4 k4) : (mT k4).Ok X0.P X0.Γ := (show mT k4 = fp (an (mQ k4) ar) by kernel_rfl) ▸ jX (X := X0) (E := fp) ⟨Tryd.call77, fun _ _ h => nomatch h⟩ (pH k4 i4) ar
def te (k4 : TK4) : Ent := ⟨82, [(.bx 115 0 true [(.own (.p (.i .i64) (.p .s (.p (.i .i64) (.i .i64)))) 28 false), (.int .i64), (.own .s 9 false), (.int .i64), (.int .i64), (.int .i64)])], (.dat .ex [some 103]), [(true, 0, (.bx 115 0 true [.same, (.int .i64), .same, (.int .i64), (.int .i64), (.int .i64)]))], fun s => cS k4 s.1 s.2.1 s.2.2.1 s.2.2.2.1 s.2.2.2.2.1 s.2.2.2.2.2⟩
def iR (eta : Ex → Ex) (_du : Sh → (R : Type) → Option R → Option R) (ab : Q1 → Option Q2) (l : Q4) (at_ : Int) (names : Q6) (deep : Int) (bad : Int) (place : Int) : Option Q2 :=
(j6 ab l at_ names deep bad place).bind fun r11 =>
some ((eta r11.1), r11.2.1, r11.2.2.1, r11.2.2.2.1, r11.2.2.2.2)
theorem p7 (k4 : TK4) (i4 : OK4 k4) : (te k4).Ok X0.P X0.Γ :=
 aD .o Tryd.call82 Tryd.func82 (ok1 (rm k4 i4) ok0) ok0 ok0 fun s => (show _ = iR cq duE k4 s.1 s.2.1 s.2.2.1 s.2.2.2.1 s.2.2.2.2.1 s.2.2.2.2.2 from by kernel_rfl).trans ((congrArg (fun eta => iR eta duE k4 s.1 s.2.1 s.2.2.1 s.2.2.2.1 s.2.2.2.2.1 s.2.2.2.2.2) aJ).trans ((congrArg (fun du => iR id du k4 s.1 s.2.1 s.2.2.1 s.2.2.2.1 s.2.2.2.2.1 s.2.2.2.2.2) aT).trans (by kernel_rfl)))
def uT (k4 : TK4) : Ent := ⟨81, [(.bx 115 0 true [(.own (.p (.i .i64) (.p .s (.p (.i .i64) (.i .i64)))) 28 false), (.int .i64), (.own .s 9 false), (.int .i64), (.int .i64), (.int .i64)]), (.fn 82 [] []), (.fn 78 [] []), (.sli (.i .i64))], (.dat .ex [some 103]), [(true, 0, (.bx 115 0 true [.same, (.int .i64), .same, (.int .i64), (.int .i64), (.int .i64)]))], fun s => lg k4 s.2.2.2.2.2.2 s.1 s.2.1 s.2.2.1 s.2.2.2.1 s.2.2.2.2.1 s.2.2.2.2.2.1⟩
def jy (eta : Ex → Ex) (_du : Sh → (R : Type) → Option R → Option R) (ab : Q1 → Option Q2) (ops : Q8) (l : Q4) (at_ : Int) (names : Q6) (deep : Int) (bad : Int) (place : Int) : Option Q2 :=
(cS ab l at_ names deep bad place).bind fun r11 =>
(aw ops l r11.2.1 names r11.2.2.1 r11.2.2.2.1 r11.2.2.2.2).bind fun r19 =>
ah (r11.2.2.2.1 != 0) fun b22 =>
ah (!r19.2) fun b24 =>
ah (b22 || b24) fun b26 =>
bif b26 then (
some ((eta r11.1), r11.2.1, r11.2.2.1, r11.2.2.2.1, r11.2.2.2.2))
else (
(ao l r11.2.1 names r11.2.2.1 r11.2.2.2.1 r11.2.2.2.2).bind fun r30 =>
(ab (l, (IntKind.i64.wrap (r11.2.1 + 1)), names, r11.2.2.1, r11.2.2.2.1, r11.2.2.2.2)).bind fun r37 =>
some ((Ex.mk r19.1 0 r30.2.2.2 ([(eta r11.1), (eta r37.1)] : List Ex)), r37.2.1, r37.2.2.1, r37.2.2.2.1, r37.2.2.2.2))
theorem rX (k4 : TK4) (i4 : OK4 k4) : (uT k4).Ok X0.P X0.Γ :=
 aD .o Tryd.call81 Tryd.func81 (ok1 (p7 k4 i4) (ok1 bn (ok1 aQ (ok1 i4 ok0)))) ok0 ok0 fun s => (show _ = jy cq duE k4 s.2.2.2.2.2.2 s.1 s.2.1 s.2.2.1 s.2.2.2.1 s.2.2.2.2.1 s.2.2.2.2.2.1 from by kernel_rfl).trans ((congrArg (fun eta => jy eta duE k4 s.2.2.2.2.2.2 s.1 s.2.1 s.2.2.1 s.2.2.2.1 s.2.2.2.2.1 s.2.2.2.2.2.1) aJ).trans ((congrArg (fun du => jy id du k4 s.2.2.2.2.2.2 s.1 s.2.1 s.2.2.1 s.2.2.2.1 s.2.2.2.2.1 s.2.2.2.2.2.1) aT).trans (by kernel_rfl)))
def w7 (k4 : TK4) : Ent := ⟨78, [(.bx 115 0 true [(.own (.p (.i .i64) (.p .s (.p (.i .i64) (.i .i64)))) 28 false), (.int .i64), (.own .s 9 false), (.int .i64), (.int .i64), (.int .i64)])], (.dat .ex [some 103]), [(true, 0, (.bx 115 0 true [.same, (.int .i64), .same, (.int .i64), (.int .i64), (.int .i64)]))], fun s => dS k4 s.1 s.2.1 s.2.2.1 s.2.2.2.1 s.2.2.2.2.1 s.2.2.2.2.2⟩
def kL (eta : Ex → Ex) (_du : Sh → (R : Type) → Option R → Option R) (ab : Q1 → Option Q2) (l : Q4) (at_ : Int) (names : Q6) (deep : Int) (bad : Int) (place : Int) : Option Q2 :=
(lg ab ([19] : List Int) l at_ names deep bad place).bind fun r13 =>
some ((eta r13.1), r13.2.1, r13.2.2.1, r13.2.2.2.1, r13.2.2.2.2)
theorem tH (k4 : TK4) (i4 : OK4 k4) : (w7 k4).Ok X0.P X0.Γ :=
 aD .o Tryd.call78 Tryd.func78 (ok1 (rX k4 i4) ok0) ok0 ok0 fun s => (show _ = kL cq duE k4 s.1 s.2.1 s.2.2.1 s.2.2.2.1 s.2.2.2.2.1 s.2.2.2.2.2 from by kernel_rfl).trans ((congrArg (fun eta => kL eta duE k4 s.1 s.2.1 s.2.2.1 s.2.2.2.1 s.2.2.2.2.1 s.2.2.2.2.2) aJ).trans ((congrArg (fun du => kL id du k4 s.1 s.2.1 s.2.2.1 s.2.2.2.1 s.2.2.2.2.1 s.2.2.2.2.2) aT).trans (by kernel_rfl)))
def mM : Ent := ⟨77, [(.bx 115 0 true [(.own (.p (.i .i64) (.p .s (.p (.i .i64) (.i .i64)))) 28 false), (.int .i64), (.own .s 9 false), (.int .i64), (.int .i64), (.int .i64)]), (.fn 78 [] [])], (.dat .ex [some 103]), [(true, 0, (.bx 115 0 true [.same, (.int .i64), .same, (.int .i64), (.int .i64), (.int .i64)]))], fun s => gT s.1 s.2.1 s.2.2.1 s.2.2.2.1 s.2.2.2.2.1 s.2.2.2.2.2⟩
def hU (eta : Ex → Ex) (_du : Sh → (R : Type) → Option R → Option R) (ab : Q1 → Option Q2) (l : Q4) (at_ : Int) (names : Q6) (deep : Int) (bad : Int) (place : Int) : Option Q2 :=
bif (decide (320 ≤ deep)) then (
(aB 9 l at_ names deep bad place).bind fun r12 =>
some ((eta r12.1), at_, deep, r12.2.1, r12.2.2))
else (
(dS ab l at_ names (IntKind.i64.wrap (deep + 1)) bad place).bind fun r19 =>
some ((eta r19.1), r19.2.1, (IntKind.i64.wrap (r19.2.2.1 - 1)), r19.2.2.2.1, r19.2.2.2.2))
def mz : TK4 → TK4 := fun k4 s => fQ k4 s.1 s.2.1 s.2.2.1 s.2.2.2.1 s.2.2.2.2.1 s.2.2.2.2.2
theorem pq (k4 : TK4) (i4 : OK4 k4) : (fq (mz k4)).Ok X0.P X0.Γ :=
 aD .o Tryd.call77 Tryd.func77 (ok1 da (ok1 (tH k4 i4) ok0)) ok0 ok0 fun s => (show _ = hU cq duE k4 s.1 s.2.1 s.2.2.1 s.2.2.2.1 s.2.2.2.2.1 s.2.2.2.2.2 from by kernel_rfl).trans ((congrArg (fun eta => hU eta duE k4 s.1 s.2.1 s.2.2.1 s.2.2.2.1 s.2.2.2.2.1 s.2.2.2.2.2) aJ).trans ((congrArg (fun du => hU id du k4 s.1 s.2.1 s.2.2.1 s.2.2.2.1 s.2.2.2.2.1 s.2.2.2.2.2) aT).trans (by kernel_rfl)))
theorem qO : (mM).Ok X0.P X0.Γ := (show mM = fq (an (mz) ar) by kernel_rfl) ▸ jX (X := X0) (E := fq) ⟨Tryd.call77, fun _ _ h => nomatch h⟩ (pq) ar
def Ag : Ent := ⟨72, [(.own (.p (.i .i64) (.p .s (.p (.i .i64) (.i .i64)))) 28 false), (.int .i64), (.own .s 9 false)], (.tup [(.dat .ex [some 103]), (.int .i64), (.int .i64), (.int .i64)]), [], fun s => jS s.1 s.2.1 s.2.2⟩
def ni (eta : Ex → Ex) (_du : Sh → (R : Type) → Option R → Option R) (l : Q4) (at_ : Int) (names : Q6) : Option Q16 :=
(gT l at_ names 0 0 0).bind fun r13 =>
bif (r13.2.2.2.1 != 0) then (
some ((Ex.mk 0 0 0 []), 0, r13.2.2.2.1, r13.2.2.2.2))
else (
some ((eta r13.1), r13.2.1, 0, 0))
theorem wu : (Ag).Ok X0.P X0.Γ :=
 aD (.c (.r [6] .o) (.r [6] .o)) Tryd.call72 Tryd.func72 (ok1 qO ok0) ok0 ok0 fun s => (show _ = ni cq duE s.1 s.2.1 s.2.2 from by kernel_rfl).trans ((congrArg (fun eta => ni eta duE s.1 s.2.1 s.2.2) aJ).trans ((congrArg (fun du => ni id du s.1 s.2.1 s.2.2) aT).trans (by kernel_rfl)))
def x8 : Ent := ⟨73, [(.dat .ex [none])], (.tup [(.int .i64), (.int .i64), (.int .i64)]), [], fun s => mH s⟩
def Bc (eta : Ex → Ex) (_du : Sh → (R : Type) → Option R → Option R) (iK : Ex → Option Q11) (e : Ex) (again12 : Q20 → Option Q11) : Bool × Bool × Bool × Int → Option Q11 := fun ⟨ints8, bools9, times10, t11⟩ =>
bif (decide (t11 < (List.length e.l : Int))) then (
(idx e.l t11).bind fun e14 =>
(iK (eta e14)).bind fun r23 =>
bif (r23.2.1 != 0) then (
some (0, r23.2.1, r23.2.2))
else (
ah (r23.1 == 1) fun b27 =>
ah (ints8 && b27) fun b29 =>
ah (r23.1 == 2) fun b31 =>
ah (bools9 && b31) fun b33 =>
ah (r23.1 != 1) fun b35 =>
ah (times10 && b35) fun b37 =>
again12 (b29, b33, b37, (IntKind.i64.wrap (t11 + 1)))))
else (
ah (decide (e.op ≤ 6)) fun b39 =>
ah (b39 && ints8) fun b41 =>
bif b41 then (
some (1, 0, 0))
else (
ah (fun (s55 : Bool) => rA e times10 s55) fun kk54 =>
ah (decide (6 < e.op)) fun b56 =>
ah (decide (e.op ≤ 12)) fun b58 =>
ah (b56 && b58) fun b60 =>
ah (b60 && ints8) fun b62 =>
bif b62 then (
kk54 b62)
else (
bif (e.op == 13) then (
kk54 (e.op == 13))
else (
bif (e.op == 14) then (
kk54 (e.op == 14))
else (
ah (decide (15 ≤ e.op)) fun b67 =>
ah (decide (e.op ≤ 19)) fun b69 =>
ah (b67 && b69) fun b71 =>
ah (b71 && bools9) fun b73 =>
kk54 b73)))))
def pC (eta : Ex → Ex) (du : Sh → (R : Type) → Option R → Option R) (iK : Ex → Option Q11) (e : Ex) : Option Q11 :=
an (Bc eta du iK e) ar (true, true, true, 0)
def yd : TK5 → TK5 := fun k5 s => lT k5 s
theorem yS (k5 : TK5) (i5 : OK5 k5) : (nj (yd k5)).Ok X0.P X0.Γ :=
 aD (.l ⟨[(false, 5, .bool), (false, 6, .bool), (false, 7, .bool), (false, 16, (.int .i64))], []⟩ (.c .o (.c .o (.j ⟨[(false, 53, .bool)], []⟩ .o .o)))) Tryd.call73 Tryd.func73 (ok1 i5 ok0) ok0 ok0 fun s => (show _ = pC cq duE k5 s from by kernel_rfl).trans ((congrArg (fun eta => pC eta duE k5 s) aJ).trans ((congrArg (fun du => pC id du k5 s) aT).trans (by kernel_rfl)))
theorem A9 : (x8).Ok X0.P X0.Γ := (show x8 = nj (an (yd) ar) by kernel_rfl) ▸ jX (X := X0) (E := nj) ⟨Tryd.call73, fun _ _ h => nomatch h⟩ (yS) ar
def Ba : Ent := ⟨73, [(.dat .ex [some 102])], (.tup [(.int .i64), (.int .i64), (.int .i64)]), [], fun s => kV s⟩
def xR (eta : Ex → Ex) (_du : Sh → (R : Type) → Option R → Option R) (e : Ex) (again12 : Q20 → Option Q11) : Bool × Bool × Bool × Int → Option Q11 := fun ⟨ints8, bools9, times10, t11⟩ =>
bif (decide (t11 < (List.length e.l : Int))) then (
(idx e.l t11).bind fun e14 =>
(mH (eta e14)).bind fun r23 =>
bif (r23.2.1 != 0) then (
some (0, r23.2.1, r23.2.2))
else (
ah (r23.1 == 1) fun b27 =>
ah (ints8 && b27) fun b29 =>
ah (r23.1 == 2) fun b31 =>
ah (bools9 && b31) fun b33 =>
ah (r23.1 != 1) fun b35 =>
ah (times10 && b35) fun b37 =>
again12 (b29, b33, b37, (IntKind.i64.wrap (t11 + 1)))))
else (
ah (decide (e.op ≤ 6)) fun b39 =>
ah (b39 && ints8) fun b41 =>
bif b41 then (
some (1, 0, 0))
else (
ah (fun (s55 : Bool) => su e times10 s55) fun kk54 =>
ah (decide (6 < e.op)) fun b56 =>
ah (decide (e.op ≤ 12)) fun b58 =>
ah (b56 && b58) fun b60 =>
ah (b60 && ints8) fun b62 =>
bif b62 then (
kk54 b62)
else (
bif (e.op == 13) then (
kk54 (e.op == 13))
else (
bif (e.op == 14) then (
kk54 (e.op == 14))
else (
ah (decide (15 ≤ e.op)) fun b67 =>
ah (decide (e.op ≤ 19)) fun b69 =>
ah (b67 && b69) fun b71 =>
ah (b71 && bools9) fun b73 =>
kk54 b73)))))
def oC (eta : Ex → Ex) (du : Sh → (R : Type) → Option R → Option R) (e : Ex) : Option Q11 :=
an (xR eta du e) ar (true, true, true, 0)
theorem xS : (Ba).Ok X0.P X0.Γ :=
 aD (.l ⟨[(false, 5, .bool), (false, 6, .bool), (false, 7, .bool), (false, 16, (.int .i64))], []⟩ (.c .o (.c .o (.j ⟨[(false, 53, .bool)], []⟩ .o .o)))) Tryd.call73 Tryd.func73 (ok1 A9 ok0) ok0 ok0 fun s => (show _ = oC cq duE s from by kernel_rfl).trans ((congrArg (fun eta => oC eta duE s) aJ).trans ((congrArg (fun du => oC id du s) aT).trans (by kernel_rfl)))
def rW : bc := ⟨67, [(.bx 69 0 true [(.own (.p (.i .i64) (.p .s (.p (.i .i64) (.i .i64)))) 28 false), (.int .i64), (.own .s 9 false), (.own (.p (.i .i64) (.i .i64)) 44 false), (.own (.i .i64) 3 false), (.own .s 9 false), (.own (.p (.i .i64) (.p .ex (.l (.p (.i .i64) .ex)))) 54 false)]), (.int .i64)], (.ifc 65 (.agg [(.int .i64), (.int .i64)])), false, (.dat .ex [some 103]), [(true, 0, (.bx 69 0 true [.same, (.int .i64), .same, .same, .same, .same, .same]))], fun s => bH s.2.2.2.2.2.2.2 s.1 s.2.1 s.2.2.1 s.2.2.2.1 s.2.2.2.2.1 s.2.2.2.2.2.1 s.2.2.2.2.2.2.1⟩
def pP (eta : Ex → Ex) (_du : Sh → (R : Type) → Option R → Option R) (r10 : Q16) : Option Q17 :=
some (.ok ((eta r10.1), r10.2.1))
def pz (eta : Ex → Ex) (du : Sh → (R : Type) → Option R → Option R) (want : Int) (_at_ : Int) (r10 : Q16) (r19 : Q11) : Option Q17 :=
ah (fun (_s27 : Unit) => pP eta du r10) fun kk26 =>
bif (r19.1 != want) then (
some (.error (4, r10.1.at_)))
else (
kk26 ())
def pA (eta : Ex → Ex) (du : Sh → (R : Type) → Option R → Option R) (want : Int) (at_ : Int) (r10 : Q16) : Option Q17 :=
(kV (eta r10.1)).bind fun r19 =>
ah (fun (_s30 : Unit) => pz eta du want at_ r10 r19) fun kk29 =>
bif (r19.2.1 != 0) then (
some (.error r19.2))
else (
kk29 ())
def g8 (eta : Ex → Ex) (du : Sh → (R : Type) → Option R → Option R) (want : Int) (l : Q4) (at_ : Int) (Names : Q6) (_Schema : (List Q7)) (_Init : Q8) (_Procs : Q6) (_Cmd : (List Q5)) : Option Q17 :=
du (.b .l .l) _ (
(jS l at_ Names).bind fun r10 =>
ah (fun (_s33 : Unit) => pA eta du want at_ r10) fun kk32 =>
bif (r10.2.2.1 != 0) then (
some (.error r10.2.2))
else (
kk32 ()))
theorem jT : (rW).Ok X0.P X0.Γ :=
 tq (.r [0] (.j ⟨[], []⟩ .o (.s (.j ⟨[], []⟩ .o (.j ⟨[], []⟩ .o .o))))) Tryd.call67 Tryd.func67 (ok1 wu (ok1 xS ok0)) ok0 ok0 fun s => (show _ = g8 cq duE s.2.2.2.2.2.2.2 s.1 s.2.1 s.2.2.1 s.2.2.2.1 s.2.2.2.2.1 s.2.2.2.2.2.1 s.2.2.2.2.2.2.1 from by kernel_rfl).trans ((congrArg (fun eta => g8 eta duE s.2.2.2.2.2.2.2 s.1 s.2.1 s.2.2.1 s.2.2.2.1 s.2.2.2.2.1 s.2.2.2.2.2.1 s.2.2.2.2.2.2.1) aJ).trans ((congrArg (fun du => g8 id du s.2.2.2.2.2.2.2 s.1 s.2.1 s.2.2.1 s.2.2.2.1 s.2.2.2.2.1 s.2.2.2.2.2.1 s.2.2.2.2.2.2.1) aT).trans (by kernel_rfl)))
def pr : Ent := ⟨76, [(.dat (.p (.i .i64) .ex) [none]), (.bx 3 0 false [(.int .i64)])], .bool, [], fun s => eD s.1 s.2⟩
theorem nW : (pr).Ok X0.P X0.Γ :=
 aD .o Tryd.call76 Tryd.func76 ok0 ok0 ok0 fun _ => by kernel_rfl
def ko : Ent := ⟨79, [(.own (.p (.i .i64) .ex) 57 false), (.fn 76 [] [(.bx 3 0 false [(.int .i64)])])], (.int .i64), [], fun s => dC s.1 s.2⟩
def jB (eta : Ex → Ex) (_du : Sh → (R : Type) → Option R → Option R) (s : Q15) (c : Int) (again5 : Int → Option Int) (t4 : Int) : Option Int :=
bif (decide (t4 < (List.length s : Int))) then (
(idx s t4).bind fun e7 =>
(eD (e7.1, (eta e7.2)) c).bind fun r13 =>
bif r13 then (
some t4)
else (
again5 (IntKind.i64.wrap (t4 + 1))))
else (
some (-1))
def dm (eta : Ex → Ex) (du : Sh → (R : Type) → Option R → Option R) (s : Q15) (c : Int) : Option Int :=
an (jB eta du s c) ar 0
theorem ju : (ko).Ok X0.P X0.Γ :=
 aD (.l ⟨[(false, 8, (.int .i64))], []⟩ .o) Tryd.call79 Tryd.func79 (ok1 nW ok0) ok0 ok0 fun s => (show _ = dm cq duE s.1 s.2 from by kernel_rfl).trans ((congrArg (fun eta => dm eta duE s.1 s.2) aJ).trans ((congrArg (fun du => dm id du s.1 s.2) aT).trans (by kernel_rfl)))
def jD : Ent := ⟨75, [(.own (.p (.i .i64) .ex) 57 false), (.fn 76 [] [(.bx 3 0 false [(.int .i64)])])], .bool, [], fun s => br s.1 s.2⟩
theorem iT : (jD).Ok X0.P X0.Γ :=
 aD .o Tryd.call75 Tryd.func75 (ok1 ju ok0) ok0 ok0 fun _ => by kernel_rfl
def pQ : bc := ⟨68, [(.bx 69 0 true [(.own (.p (.i .i64) (.p .s (.p (.i .i64) (.i .i64)))) 28 false), (.int .i64), (.own .s 9 false), (.own (.p (.i .i64) (.i .i64)) 44 false), (.own (.i .i64) 3 false), (.own .s 9 false), (.own (.p (.i .i64) (.p .ex (.l (.p (.i .i64) .ex)))) 54 false)]), (.own (.p (.i .i64) .ex) 57 false)], (.ifc 65 (.agg [(.int .i64), (.int .i64)])), false, (.dat (.p (.i .i64) .ex) [some 103]), [(true, 0, (.bx 69 0 true [.same, (.int .i64), .same, .same, .same, .same, .same]))], fun s => cJ s.2.2.2.2.2.2.2 s.1 s.2.1 s.2.2.1 s.2.2.2.1 s.2.2.2.2.1 s.2.2.2.2.2.1 s.2.2.2.2.2.2.1⟩
def nX (eta : Ex → Ex) (_du : Sh → (R : Type) → Option R → Option R) (l : Q4) (at_ : Int) (Names : Q6) (Schema : (List Q7)) (Init : Q8) (Procs : Q6) (Cmd : (List Q5)) (r17 : Int) : Option Q19 :=
bU (ba [61] l (IntKind.i64.wrap (at_ + 1)) Names Schema Init Procs Cmd) fun r25 =>
bU (bH 1 l r25 Names Schema Init Procs Cmd) fun r33 =>
some (.ok ((r17, (eta r33.1)), r33.2))
def n3 (eta : Ex → Ex) (du : Sh → (R : Type) → Option R → Option R) (ahead : Q15) (l : Q4) (at_ : Int) (Names : Q6) (Schema : (List Q7)) (Init : Q8) (Procs : Q6) (Cmd : (List Q5)) (r8 : Q13) : Option Q19 :=
du (.b .l .l) _ (
(aP Names r8.2.1).bind fun r17 =>
ah (fun (_s43 : Unit) => nX eta du l at_ Names Schema Init Procs Cmd r17) fun kk42 =>
ah (decide (r17 < 0)) fun b44 =>
az (!b44) default (br ahead r17) fun r46 =>
ah (b44 || r46) fun b52 =>
bif b52 then (
bU (aR 3 l at_ Names Schema Init Procs Cmd) fun r55 =>
r55.elim)
else (
kk42 ()))
def fZ (eta : Ex → Ex) (du : Sh → (R : Type) → Option R → Option R) (ahead : Q15) (l : Q4) (at_ : Int) (Names : Q6) (Schema : (List Q7)) (Init : Q8) (Procs : Q6) (Cmd : (List Q5)) : Option Q19 :=
(bV l at_ Names Schema Init Procs Cmd).bind fun r8 =>
ah (fun (_s106 : Unit) => n3 eta du ahead l at_ Names Schema Init Procs Cmd r8) fun kk105 =>
bif (r8.1 != 1) then (
bU (aR 2 l at_ Names Schema Init Procs Cmd) fun r108 =>
r108.elim)
else (
kk105 ())
theorem nU : (pQ).Ok X0.P X0.Γ :=
 tq (.s (.s (.j ⟨[], []⟩ .o (.r [0] (.j ⟨[], []⟩ .o (.r [0, 4] .o)))))) Tryd.call68 Tryd.func68 (ok1 cR (ok1 dI (ok1 iT ok0))) (ok1 gA (ok1 jT (ok1 dB ok0))) ok0 fun s => (show _ = fZ cq duE s.2.2.2.2.2.2.2 s.1 s.2.1 s.2.2.1 s.2.2.2.1 s.2.2.2.2.1 s.2.2.2.2.2.1 s.2.2.2.2.2.2.1 from by kernel_rfl).trans ((congrArg (fun eta => fZ eta duE s.2.2.2.2.2.2.2 s.1 s.2.1 s.2.2.1 s.2.2.2.1 s.2.2.2.2.1 s.2.2.2.2.2.1 s.2.2.2.2.2.2.1) aJ).trans ((congrArg (fun du => fZ id du s.2.2.2.2.2.2.2 s.1 s.2.1 s.2.2.1 s.2.2.2.1 s.2.2.2.2.1 s.2.2.2.2.2.1 s.2.2.2.2.2.2.1) aT).trans (by kernel_rfl)))
def uu : bc := ⟨58, [(.bx 69 0 true [(.own (.p (.i .i64) (.p .s (.p (.i .i64) (.i .i64)))) 28 false), (.int .i64), (.own .s 9 false), (.own (.p (.i .i64) (.i .i64)) 44 false), (.own (.i .i64) 3 false), (.own .s 9 false), (.own (.p (.i .i64) (.p .ex (.l (.p (.i .i64) .ex)))) 54 true)])], (.ifc 65 (.agg [(.int .i64), (.int .i64)])), false, (.tup []), [(true, 0, (.bx 69 0 true [.same, (.int .i64), .same, .same, .same, .same, (.own (.p (.i .i64) (.p .ex (.l (.p (.i .i64) .ex)))) 54 true)]))], fun s => fD s.1 s.2.1 s.2.2.1 s.2.2.2.1 s.2.2.2.2.1 s.2.2.2.2.2.1 s.2.2.2.2.2.2⟩
def rZ (eta : Ex → Ex) (_du : Sh → (R : Type) → Option R → Option R) (l : Q4) (Names : Q6) (Schema : (List Q7)) (Init : Q8) (Procs : Q6) (Cmd : (List Q5)) (r10 : Q21) (again32 : (Int × Q15) → Option Q14) : Int × Q15 → Option Q14 := fun ⟨c28, l29⟩ =>
bU (cJ l29 l c28 Names Schema Init Procs Cmd) fun r35 =>
chk (aM (List.length l29 + List.length ([(r35.1.1, (eta r35.1.2))] : List Q10)) 56) <|
(dA 3 [59] l r35.2 Names Schema Init Procs Cmd).bind fun r50 =>
bif r50 then (
chk (aM (List.length Cmd + List.length ([((IntKind.i64.wrap ((List.length Procs : Int) - 1)), (eta r10.1), (l29 ++ ([(r35.1.1, (eta r35.1.2))] : List Q10)))] : List Q5)) 80) <|
some (.ok ((IntKind.i64.wrap (r35.2 + 1)), (Cmd ++ ([((IntKind.i64.wrap ((List.length Procs : Int) - 1)), (eta r10.1), (l29 ++ ([(r35.1.1, (eta r35.1.2))] : List Q10)))] : List Q5)))))
else (
bU (ba [44] l r35.2 Names Schema Init Procs Cmd) fun r64 =>
again32 (r64, (l29 ++ ([(r35.1.1, (eta r35.1.2))] : List Q10))))
def rR (eta : Ex → Ex) (du : Sh → (R : Type) → Option R → Option R) (l : Q4) (at_ : Int) (Names : Q6) (Schema : (List Q7)) (Init : Q8) (Procs : Q6) (Cmd : (List Q5)) : Option Q14 :=
du (.b .l .l) _ (
bU (bH 2 l at_ Names Schema Init Procs Cmd) fun r10 =>
bU (ba [58] l r10.2 Names Schema Init Procs Cmd) fun r21 =>
an (rZ eta du l Names Schema Init Procs Cmd r10) ar (r21, []))
def jv (eta : Ex → Ex) (du : Sh → (R : Type) → Option R → Option R) (l : Q4) (at_ : Int) (Names : Q6) (Schema : (List Q7)) (Init : Q8) (Procs : Q6) (Cmd : (List Q5)) : Option Q14 :=
ah (fun (_s131 : Unit) => rR eta du l at_ Names Schema Init Procs Cmd) fun kk130 =>
bif (decide (256 ≤ (List.length Cmd : Int))) then (
bU (aR 9 l at_ Names Schema Init Procs Cmd) fun r133 =>
r133.elim)
else (
kk130 ())
theorem rY : (uu).Ok X0.P X0.Γ :=
 tq (.j ⟨[], []⟩ .o (.r [0] (.l ⟨[(true, 0, (.bx 69 0 true [.same, (.int .i64), .same, .same, .same, .same, .same])), (true, 2, (.bx 54 0 true [.same, .same, .same, .same, .same, (.own (.p (.i .i64) .ex) 57 true)]))], []⟩ (.r [0, 2] (.c (.r [0, 2] .o) .o))))) Tryd.call58 Tryd.func58 (ok1 fC ok0) (ok1 jT (ok1 gA (ok1 nU (ok1 dB ok0)))) ok0 fun s => (show _ = jv cq duE s.1 s.2.1 s.2.2.1 s.2.2.2.1 s.2.2.2.2.1 s.2.2.2.2.2.1 s.2.2.2.2.2.2 from by kernel_rfl).trans ((congrArg (fun eta => jv eta duE s.1 s.2.1 s.2.2.1 s.2.2.2.1 s.2.2.2.2.1 s.2.2.2.2.2.1 s.2.2.2.2.2.2) aJ).trans ((congrArg (fun du => jv id du s.1 s.2.1 s.2.2.1 s.2.2.2.1 s.2.2.2.2.1 s.2.2.2.2.2.1 s.2.2.2.2.2.2) aT).trans (by kernel_rfl)))
def vc : bc := ⟨42, [(.bx 69 0 true [(.own (.p (.i .i64) (.p .s (.p (.i .i64) (.i .i64)))) 28 false), (.int .i64), (.own .s 9 false), (.own (.p (.i .i64) (.i .i64)) 44 false), (.own (.i .i64) 3 false), (.own .s 9 true), (.own (.p (.i .i64) (.p .ex (.l (.p (.i .i64) .ex)))) 54 true)])], (.ifc 65 (.agg [(.int .i64), (.int .i64)])), false, (.tup []), [(true, 0, (.bx 69 0 true [.same, (.int .i64), .same, .same, .same, (.own .s 9 true), (.own (.p (.i .i64) (.p .ex (.l (.p (.i .i64) .ex)))) 54 true)]))], fun s => fI s.1 s.2.1 s.2.2.1 s.2.2.2.1 s.2.2.2.2.1 s.2.2.2.2.2.1 s.2.2.2.2.2.2⟩
theorem rQ : (vc).Ok X0.P X0.Γ :=
 tq (.r [0] (.l ⟨[(true, 0, (.bx 69 0 true [.same, (.int .i64), .same, .same, .same, .same, (.own (.p (.i .i64) (.p .ex (.l (.p (.i .i64) .ex)))) 54 true)]))], []⟩ .o)) Tryd.call42 Tryd.func42 (ok1 fC ok0) (ok1 nq (ok1 gA (ok1 rY ok0))) ok0 fun _ => by kernel_rfl
def yq : bc := ⟨24, [(.bx 69 0 true [(.own (.p (.i .i64) (.p .s (.p (.i .i64) (.i .i64)))) 28 false), (.int .i64), (.own .s 9 true), (.own (.p (.i .i64) (.i .i64)) 44 true), (.own (.i .i64) 3 true), (.own .s 9 true), (.own (.p (.i .i64) (.p .ex (.l (.p (.i .i64) .ex)))) 54 true)])], (.ifc 65 (.agg [(.int .i64), (.int .i64)])), false, (.tup []), [(true, 0, (.bx 69 0 true [.same, (.int .i64), (.own .s 9 true), (.own (.p (.i .i64) (.i .i64)) 44 true), (.own (.i .i64) 3 true), (.own .s 9 true), (.own (.p (.i .i64) (.p .ex (.l (.p (.i .i64) .ex)))) 54 true)]))], fun s => oq s.1 s.2.1 s.2.2.1 s.2.2.2.1 s.2.2.2.2.1 s.2.2.2.2.2.1 s.2.2.2.2.2.2⟩
theorem vE : (yq).Ok X0.P X0.Γ :=
 tq (.l ⟨[(true, 0, (.bx 69 0 true [.same, (.int .i64), (.own .s 9 true), (.own (.p (.i .i64) (.i .i64)) 44 true), (.own (.i .i64) 3 true), (.own .s 9 true), (.own (.p (.i .i64) (.p .ex (.l (.p (.i .i64) .ex)))) 54 true)]))], []⟩ .o) Tryd.call24 Tryd.func24 (ok1 cR (ok1 fC ok0)) (ok1 qE (ok1 dB (ok1 rQ ok0))) ok0 fun _ => by kernel_rfl
def B2 : Ent := ⟨11, [.str], (.tup [(.dat (.p (.l .s) (.p (.l (.p (.i .i64) (.i .i64))) (.p (.l (.i .i64)) (.p (.l .s) (.l (.p (.i .i64) (.p .ex (.l (.p (.i .i64) .ex))))))))) [some 19, some 89, some 7, some 19, some 109]), (.int .i64), (.int .i64)]), [], fun s => cM s⟩
theorem Kf : (⟨23, Tryd.f23⟩ : Clo).Ok X0.P := ⟨Tryd.call23, Tryd.func23⟩
theorem rD : (B2).Ok X0.P X0.Γ :=
 aD .o Tryd.call11 Tryd.func11 (ok1 Am ok0) (ok1 vE ok0) (ok1 Kf ok0) fun _ => by kernel_rfl
def og : Ent := ⟨29, [(.sli .s), (.sli .s)], .bool, [], fun s => fW s.1 s.2⟩
theorem m8 : (og).Ok X0.P X0.Γ :=
 aD (.c .o (.l ⟨[(false, 13, (.int .i64))], []⟩ .o)) Tryd.call29 Tryd.func29 ok0 ok0 ok0 fun _ => by kernel_rfl
def lI : Ent := ⟨30, [(.sli (.p (.i .i64) (.i .i64))), (.sli (.p (.i .i64) (.i .i64)))], .bool, [], fun s => gO s.1 s.2⟩
theorem kq : (lI).Ok X0.P X0.Γ :=
 aD (.c .o (.l ⟨[(false, 13, (.int .i64))], []⟩ .o)) Tryd.call30 Tryd.func30 ok0 ok0 ok0 fun _ => by kernel_rfl
def sS : Ent := ⟨31, [(.sli (.i .i64)), (.sli (.i .i64))], .bool, [], fun s => nL s.1 s.2⟩
theorem qg : (sS).Ok X0.P X0.Γ :=
 aD (.c .o (.l ⟨[(false, 13, (.int .i64))], []⟩ .o)) Tryd.call31 Tryd.func31 ok0 ok0 ok0 fun _ => by kernel_rfl
def fG (k6 : TK6) : Ent := ⟨46, [(.sli .ex), (.sli .ex), (.fn 26 [] [])], .bool, [], fun s => cV k6 s.1 s.2⟩
def eW (eta : Ex → Ex) (_du : Sh → (R : Type) → Option R → Option R) (fk : (Ex × Ex) → Option Bool) (s1 : (List Ex)) (s2 : (List Ex)) (again6 : Int → Option Bool) (t5 : Int) : Option Bool :=
bif (decide (t5 < (List.length s1 : Int))) then (
(idx s1 t5).bind fun e8 =>
(idx s2 t5).bind fun e17 =>
(fk ((eta e8), (eta e17))).bind fun r26 =>
bif (!r26) then (
some false)
else (
again6 (IntKind.i64.wrap (t5 + 1))))
else (
some true)
def bG (eta : Ex → Ex) (du : Sh → (R : Type) → Option R → Option R) (fk : (Ex × Ex) → Option Bool) (s1 : (List Ex)) (s2 : (List Ex)) : Option Bool :=
bif ((List.length s1 : Int) != (List.length s2 : Int)) then (
some false)
else (
an (eW eta du fk s1 s2) ar 0)
theorem eU (k6 : TK6) (i6 : OK6 k6) : (fG k6).Ok X0.P X0.Γ :=
 aD (.c .o (.l ⟨[(false, 17, (.int .i64))], []⟩ .o)) Tryd.call46 Tryd.func46 (ok1 i6 ok0) ok0 ok0 fun s => (show _ = bG cq duE k6 s.1 s.2 from by kernel_rfl).trans ((congrArg (fun eta => bG eta duE k6 s.1 s.2) aJ).trans ((congrArg (fun du => bG id du k6 s.1 s.2) aT).trans (by kernel_rfl)))
def x4 : Ent := ⟨26, [(.dat .ex [none]), (.dat .ex [none])], .bool, [], fun s => oZ s.1 s.2⟩
def yl : TK6 → TK6 := fun k6 s => ye k6 s.1 s.2
theorem yp (k6 : TK6) (i6 : OK6 k6) : (nM (yl k6)).Ok X0.P X0.Γ :=
 aD .o Tryd.call26 Tryd.func26 (ok1 (eU k6 i6) ok0) ok0 ok0 fun _ => by kernel_rfl
theorem tS : (x4).Ok X0.P X0.Γ := (show x4 = nM (an (yl) ar) by kernel_rfl) ▸ jX (X := X0) (E := nM) ⟨Tryd.call26, fun _ _ h => nomatch h⟩ (yp) ar
def zP : Ent := ⟨25, [(.dat (.p (.i .i64) .ex) [none]), (.dat (.p (.i .i64) .ex) [none])], .bool, [], fun s => pR s.1 s.2⟩
def nd (eta : Ex → Ex) (_du : Sh → (R : Type) → Option R → Option R) (x : Q10) (y : Q10) : Option Bool :=
ah (x.1 == y.1) fun b7 =>
az b7 default (oZ (eta x.2) (eta y.2)) fun r9 =>
ah (b7 && r9) fun b15 =>
some b15
theorem wF : (zP).Ok X0.P X0.Γ :=
 aD .o Tryd.call25 Tryd.func25 (ok1 tS ok0) ok0 ok0 fun s => (show _ = nd cq duE s.1 s.2 from by kernel_rfl).trans ((congrArg (fun eta => nd eta duE s.1 s.2) aJ).trans ((congrArg (fun du => nd id du s.1 s.2) aT).trans (by kernel_rfl)))
def gH : Ent := ⟨28, [(.sli (.p (.i .i64) .ex)), (.sli (.p (.i .i64) .ex)), (.fn 25 [] [])], .bool, [], fun s => bZ s.1 s.2⟩
def fL (eta : Ex → Ex) (_du : Sh → (R : Type) → Option R → Option R) (s1 : Q15) (s2 : Q15) (again6 : Int → Option Bool) (t5 : Int) : Option Bool :=
bif (decide (t5 < (List.length s1 : Int))) then (
(idx s1 t5).bind fun e8 =>
(idx s2 t5).bind fun e17 =>
(pR (e8.1, (eta e8.2)) (e17.1, (eta e17.2))).bind fun r26 =>
bif (!r26) then (
some false)
else (
again6 (IntKind.i64.wrap (t5 + 1))))
else (
some true)
def bP (eta : Ex → Ex) (du : Sh → (R : Type) → Option R → Option R) (s1 : Q15) (s2 : Q15) : Option Bool :=
bif ((List.length s1 : Int) != (List.length s2 : Int)) then (
some false)
else (
an (fL eta du s1 s2) ar 0)
theorem fK : (gH).Ok X0.P X0.Γ :=
 aD (.c .o (.l ⟨[(false, 17, (.int .i64))], []⟩ .o)) Tryd.call28 Tryd.func28 (ok1 wF ok0) ok0 ok0 fun s => (show _ = bP cq duE s.1 s.2 from by kernel_rfl).trans ((congrArg (fun eta => bP eta duE s.1 s.2) aJ).trans ((congrArg (fun du => bP id du s.1 s.2) aT).trans (by kernel_rfl)))
def zd : Ent := ⟨27, [(.dat (.p (.i .i64) (.p .ex (.l (.p (.i .i64) .ex)))) [none, none]), (.dat (.p (.i .i64) (.p .ex (.l (.p (.i .i64) .ex)))) [none, none]), (.bx 71 0 false [(.fn 25 [] [])])], .bool, [], fun s => pB s.1 s.2⟩
def nE (eta : Ex → Ex) (_du : Sh → (R : Type) → Option R → Option R) (x : Q5) (y : Q5) : Option Bool :=
ah (x.1 == y.1) fun b7 =>
az b7 default (oZ (eta x.2.1) (eta y.2.1)) fun r9 =>
ah (b7 && r9) fun b15 =>
az b15 default (bZ x.2.2 y.2.2) fun r17 =>
ah (b15 && r17) fun b23 =>
some b23
theorem wG : (zd).Ok X0.P X0.Γ :=
 aD .o Tryd.call27 Tryd.func27 (ok1 tS (ok1 fK ok0)) ok0 ok0 fun s => (show _ = nE cq duE s.1 s.2 from by kernel_rfl).trans ((congrArg (fun eta => nE eta duE s.1 s.2) aJ).trans ((congrArg (fun du => nE id du s.1 s.2) aT).trans (by kernel_rfl)))
def gD : Ent := ⟨32, [(.sli (.p (.i .i64) (.p .ex (.l (.p (.i .i64) .ex))))), (.sli (.p (.i .i64) (.p .ex (.l (.p (.i .i64) .ex))))), (.fn 27 [] [(.bx 71 0 false [(.fn 25 [] [])])])], .bool, [], fun s => dw s.1 s.2⟩
def fJ (eta : Ex → Ex) (_du : Sh → (R : Type) → Option R → Option R) (s1 : (List Q5)) (s2 : (List Q5)) (again6 : Int → Option Bool) (t5 : Int) : Option Bool :=
bif (decide (t5 < (List.length s1 : Int))) then (
(idx s1 t5).bind fun e8 =>
(idx s2 t5).bind fun e19 =>
(pB (e8.1, (eta e8.2.1), e8.2.2) (e19.1, (eta e19.2.1), e19.2.2)).bind fun r30 =>
bif (!r30) then (
some false)
else (
again6 (IntKind.i64.wrap (t5 + 1))))
else (
some true)
def bR (eta : Ex → Ex) (du : Sh → (R : Type) → Option R → Option R) (s1 : (List Q5)) (s2 : (List Q5)) : Option Bool :=
bif ((List.length s1 : Int) != (List.length s2 : Int)) then (
some false)
else (
an (fJ eta du s1 s2) ar 0)
theorem fM : (gD).Ok X0.P X0.Γ :=
 aD (.c .o (.l ⟨[(false, 17, (.int .i64))], []⟩ .o)) Tryd.call32 Tryd.func32 (ok1 wG ok0) ok0 ok0 fun s => (show _ = bR cq duE s.1 s.2 from by kernel_rfl).trans ((congrArg (fun eta => bR eta duE s.1 s.2) aJ).trans ((congrArg (fun du => bR id du s.1 s.2) aT).trans (by kernel_rfl)))
def Dc : Ent := ⟨12, [(.dat (.p (.l .s) (.p (.l (.p (.i .i64) (.i .i64))) (.p (.l (.i .i64)) (.p (.l .s) (.l (.p (.i .i64) (.p .ex (.l (.p (.i .i64) .ex))))))))) [none, none, none, none, none]), (.dat (.p (.l .s) (.p (.l (.p (.i .i64) (.i .i64))) (.p (.l (.i .i64)) (.p (.l .s) (.l (.p (.i .i64) (.p .ex (.l (.p (.i .i64) .ex))))))))) [none, none, none, none, none])], .bool, [], fun s => uC s.1 s.2⟩
theorem Ac : (Dc).Ok X0.P X0.Γ :=
 aD .o Tryd.call12 Tryd.func12 (ok1 m8 (ok1 kq (ok1 qg (ok1 fM ok0)))) ok0 ok0 fun _ => by kernel_rfl
def uf : Ent := ⟨9, [], .bool, [], fun _ => gU⟩
theorem q9 : (uf).Ok X0.P X0.Γ :=
 aD .o Tryd.call9 Tryd.func9 (ok1 rD (ok1 Ac ok0)) ok0 ok0 fun _ => by kernel_rfl
def s7 : Ent := ⟨18, [(.own .s 9 false), .str], .bool, [], fun s => bD s.1 s.2⟩
theorem p6 : (s7).Ok X0.P X0.Γ :=
 aD (.l ⟨[(false, 5, (.int .i64))], []⟩ .o) Tryd.call18 Tryd.func18 ok0 ok0 ok0 fun _ => by kernel_rfl
def lG : Ent := ⟨19, [(.dat .ex [none]), (.int .i64)], (.dat .ex [some 103]), [], fun s => cn s.1 s.2⟩
def pE (eta : Ex → Ex) (_du : Sh → (R : Type) → Option R → Option R) (aS : Q21 → Option Ex) (e : Ex) (by_ : Int) (c13 : Int) (again19 : ((List Ex) × Int) → Option Ex) : (List Ex) × Int → Option Ex := fun ⟨l15, i18⟩ =>
bif (decide (i18 < (List.length e.l : Int))) then (
(idx e.l i18).bind fun e23 =>
(aS ((eta e23), by_)).bind fun r29 =>
chk (aM (List.length l15 + List.length ([(eta r29)] : List Ex)) 48) <|
again19 ((l15 ++ ([(eta r29)] : List Ex)), (IntKind.i64.wrap (i18 + 1))))
else (
some (Ex.mk e.op c13 0 l15))
def pI (eta : Ex → Ex) (du : Sh → (R : Type) → Option R → Option R) (aS : Q21 → Option Ex) (e : Ex) (by_ : Int) (c13 : Int) : Option Ex :=
an (pE eta du aS e by_ c13) ar ([], 0)
def gC (eta : Ex → Ex) (du : Sh → (R : Type) → Option R → Option R) (aS : Q21 → Option Ex) (e : Ex) (by_ : Int) : Option Ex :=
ah (fun (s43 : Int) => pI eta du aS e by_ s43) fun kk42 =>
bif (e.op == 2) then (
kk42 (IntKind.i64.wrap (e.n + by_)))
else (
kk42 e.n)
def lE : TK7 → TK7 := fun k7 s => ct k7 s.1 s.2
theorem oK (k7 : TK7) (i7 : OK7 k7) : (eI (lE k7)).Ok X0.P X0.Γ :=
 aD (.s (.s (.j ⟨[(true, 5, (.bx 51 0 true [.same, (.int .i64), .same, .same]))], []⟩ .o (.l ⟨[(true, 4, (.bx 51 0 true [.same, .same, .same, .same])), (true, 5, (.bx 51 0 true [.same, .same, .same, (.own .ex 51 true)])), (false, 6, (.int .i64))], []⟩ (.c (.r [5] .o) .o))))) Tryd.call19 Tryd.func19 (ok1 i7 ok0) ok0 ok0 fun s => (show _ = gC cq duE k7 s.1 s.2 from by kernel_rfl).trans ((congrArg (fun eta => gC eta duE k7 s.1 s.2) aJ).trans ((congrArg (fun du => gC id du k7 s.1 s.2) aT).trans (by kernel_rfl)))
theorem pJ : (lG).Ok X0.P X0.Γ := (show lG = eI (an (lE) ar) by kernel_rfl) ▸ jX (X := X0) (E := eI) ⟨Tryd.call19, fun _ _ h => nomatch h⟩ (oK) ar
def tO : Ent := ⟨33, [(.sli .s), (.sli .s)], .bool, [], fun s => dc s.1 s.2⟩
theorem rh : (tO).Ok X0.P X0.Γ :=
 aD (.c .o (.l ⟨[(false, 5, (.int .i64))], []⟩ .o)) Tryd.call33 Tryd.func33 ok0 ok0 ok0 fun _ => by kernel_rfl
def vA : Ent := ⟨34, [(.sli (.i .i64)), (.sli (.i .i64))], .bool, [], fun s => gu s.1 s.2⟩
theorem tg : (vA).Ok X0.P X0.Γ :=
 aD (.c .o (.l ⟨[(false, 5, (.int .i64))], []⟩ .o)) Tryd.call34 Tryd.func34 ok0 ok0 ok0 fun _ => by kernel_rfl
def nu : Ent := ⟨35, [(.dat .ex [none]), (.dat .ex [none])], .bool, [], fun s => dX s.1 s.2⟩
def rS (eta : Ex → Ex) (_du : Sh → (R : Type) → Option R → Option R) (cT : (Ex × Ex) → Option Bool) (a : Ex) (b : Ex) (again20 : Int → Option Bool) (i19 : Int) : Option Bool :=
bif (decide (i19 < (List.length a.l : Int))) then (
(idx a.l i19).bind fun e24 =>
(idx b.l i19).bind fun e30 =>
(cT ((eta e24), (eta e30))).bind fun r36 =>
bif (!r36) then (
some false)
else (
again20 (IntKind.i64.wrap (i19 + 1))))
else (
some true)
def iO (eta : Ex → Ex) (du : Sh → (R : Type) → Option R → Option R) (cT : (Ex × Ex) → Option Bool) (a : Ex) (b : Ex) : Option Bool :=
ah (a.op != b.op) fun b7 =>
ah (a.n != b.n) fun b9 =>
ah (b7 || b9) fun b11 =>
ah ((List.length a.l : Int) != (List.length b.l : Int)) fun b13 =>
ah (b11 || b13) fun b15 =>
bif b15 then (
some false)
else (
an (rS eta du cT a b) ar 0)
def nr : TK8 → TK8 := fun k8 s => dD k8 s.1 s.2
theorem qm (k8 : TK8) (i8 : OK8 k8) : (fP (nr k8)).Ok X0.P X0.Γ :=
 aD (.c .o (.l ⟨[(false, 5, (.int .i64))], []⟩ .o)) Tryd.call35 Tryd.func35 (ok1 i8 ok0) ok0 ok0 fun s => (show _ = iO cq duE k8 s.1 s.2 from by kernel_rfl).trans ((congrArg (fun eta => iO eta duE k8 s.1 s.2) aJ).trans ((congrArg (fun du => iO id du k8 s.1 s.2) aT).trans (by kernel_rfl)))
theorem sa : (nu).Ok X0.P X0.Γ := (show nu = fP (an (nr) ar) by kernel_rfl) ▸ jX (X := X0) (E := fP) ⟨Tryd.call35, fun _ _ h => nomatch h⟩ (qm) ar
def vk : Ent := ⟨13, [(.dat (.p (.l .s) (.p (.l (.p (.i .i64) (.i .i64))) (.p (.l (.i .i64)) (.p (.l .s) (.l (.p (.i .i64) (.p .ex (.l (.p (.i .i64) .ex))))))))) [none, none, none, none, none]), (.dat (.p (.l .s) (.p (.l (.p (.i .i64) (.i .i64))) (.p (.l (.i .i64)) (.p (.l .s) (.l (.p (.i .i64) (.p .ex (.l (.p (.i .i64) .ex))))))))) [none, none, none, none, none])], .bool, [], fun s => fE s.1 s.2⟩
def rI (eta : Ex → Ex) (_du : Sh → (R : Type) → Option R → Option R) (a : Q3) (b : Q3) (i47 : Int) (again48 : Int → Option Bool) (again118 : Int → Option Bool) (k117 : Int) : Option Bool :=
(idx a.2.2.2.2 i47).bind fun e119 =>
bif (decide (k117 < (List.length e119.2.2 : Int))) then (
(idx a.2.2.2.2 i47).bind fun e130 =>
(idx e130.2.2 k117).bind fun e138 =>
(idx b.2.2.2.2 i47).bind fun e144 =>
(idx e144.2.2 k117).bind fun e152 =>
(dX (eta e138.2) (eta e152.2)).bind fun r158 =>
ah (!r158) fun b163 =>
az (!b163) (0, (Ex.mk 0 0 0 []), []) (idx a.2.2.2.2 i47) fun e165 =>
az (!b163) (0, (Ex.mk 0 0 0 [])) (idx e165.2.2 k117) fun e173 =>
az (!b163) (0, (Ex.mk 0 0 0 []), []) (idx b.2.2.2.2 i47) fun e179 =>
az (!b163) (0, (Ex.mk 0 0 0 [])) (idx e179.2.2 k117) fun e187 =>
ah (e173.1 != e187.1) fun b193 =>
ah (b163 || b193) fun b195 =>
bif b195 then (
some false)
else (
again118 (IntKind.i64.wrap (k117 + 1))))
else (
again48 (IntKind.i64.wrap (i47 + 1)))
def sd (eta : Ex → Ex) (du : Sh → (R : Type) → Option R → Option R) (a : Q3) (b : Q3) (again48 : Int → Option Bool) (i47 : Int) : Option Bool :=
bif (decide (i47 < (List.length a.2.2.2.2 : Int))) then (
(idx a.2.2.2.2 i47).bind fun e52 =>
(idx b.2.2.2.2 i47).bind fun e60 =>
(dX (eta e52.2.1) (eta e60.2.1)).bind fun r68 =>
ah (!r68) fun b73 =>
az (!b73) (0, (Ex.mk 0 0 0 []), []) (idx a.2.2.2.2 i47) fun e75 =>
az (!b73) (0, (Ex.mk 0 0 0 []), []) (idx b.2.2.2.2 i47) fun e83 =>
ah (e75.1 != e83.1) fun b91 =>
ah (b73 || b91) fun b93 =>
az (!b93) (0, (Ex.mk 0 0 0 []), []) (idx a.2.2.2.2 i47) fun e95 =>
az (!b93) (0, (Ex.mk 0 0 0 []), []) (idx b.2.2.2.2 i47) fun e103 =>
ah ((List.length e95.2.2 : Int) != (List.length e103.2.2 : Int)) fun b111 =>
ah (b93 || b111) fun b113 =>
bif b113 then (
some false)
else (
an (rI eta du a b i47 again48) ar 0))
else (
some true)
def rP (eta : Ex → Ex) (du : Sh → (R : Type) → Option R → Option R) (a : Q3) (b : Q3) (again37 : Int → Option Bool) (i36 : Int) : Option Bool :=
bif (decide (i36 < (List.length a.2.1 : Int))) then (
(idx a.2.1 i36).bind fun e41 =>
(idx b.2.1 i36).bind fun e43 =>
bif (!(xG e41.1 e41.2 e43.1 e43.2)) then (
some false)
else (
again37 (IntKind.i64.wrap (i36 + 1))))
else (
an (sd eta du a b) ar 0)
def jH (eta : Ex → Ex) (du : Sh → (R : Type) → Option R → Option R) (a : Q3) (b : Q3) : Option Bool :=
(dc a.1 b.1).bind fun r7 =>
(dc a.2.2.2.1 b.2.2.2.1).bind fun r10 =>
(gu a.2.2.1 b.2.2.1).bind fun r13 =>
ah (!r7) fun b16 =>
ah (!r10) fun b18 =>
ah (b16 || b18) fun b20 =>
ah (!r13) fun b22 =>
ah (b20 || b22) fun b24 =>
ah ((List.length a.2.1 : Int) != (List.length b.2.1 : Int)) fun b26 =>
ah (b24 || b26) fun b28 =>
ah ((List.length a.2.2.2.2 : Int) != (List.length b.2.2.2.2 : Int)) fun b30 =>
ah (b28 || b30) fun b32 =>
bif b32 then (
some false)
else (
an (rP eta du a b) ar 0)
theorem rL : (vk).Ok X0.P X0.Γ :=
 aD (.c .o (.l ⟨[(false, 8, (.int .i64))], []⟩ (.c .o (.l ⟨[(false, 9, (.int .i64))], []⟩ (.c (.r [] (.r [] (.c .o (.l ⟨[(false, 11, (.int .i64))], []⟩ .o)))) .o))))) Tryd.call13 Tryd.func13 (ok1 rh (ok1 tg (ok1 sa ok0))) ok0 ok0 fun s => (show _ = jH cq duE s.1 s.2 from by kernel_rfl).trans ((congrArg (fun eta => jH eta duE s.1 s.2) aJ).trans ((congrArg (fun du => jH id du s.1 s.2) aT).trans (by kernel_rfl)))
end
end Go.Proofs.YtdhgpnejphlfpaaDoor
