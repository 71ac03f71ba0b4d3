/-
  Own texts for the statement ProdNothing, cut down to what it needs: Model, KLay, KIto, KApp, KApu, Den. (cut and joined by a program)
-/
import Derived.Test.YtkckoolfgnkpcaaDoorProdNothingA
import Derived.Test.YtkckoolfgnkpcaaDoorProdNothingB
import Derived.Test.YtkckoolfgnkpcaaDoorProdNothingC
import Derived.Test.YtkckoolfgnkpcaaDoorProdNothingD
import Derived.Shelf.Strconv.Itoa3
import Derived.Ground.NamesProg
import Derived.Test.YtkckoolfgnkpcaaDoorProg
import Derived.Lib.ItoaLen
namespace Go.Proofs.YtkckoolfgnkpcaaDoor
abbrev Q1 := ((List Str) × (List (Int × Int)) × (List Int) × (List Str) × (List (Int × Ex × (List (Int × Ex)))))
abbrev Q2 := (List Int)
abbrev Q3 := (List (Int × Str × Int × Int))
abbrev Q4 := (List (Int × Ex × (List (Int × Ex))))
abbrev Q5 := (Ex × Int × Int × Int)
abbrev Q6 := (Int × Int × Q3 × Int × (List Str) × Int × Int)
abbrev Q7 := (List (Int × Int))
abbrev Q8 := (Option (List (Str × Bool)))
abbrev Q9 := (List Str)
abbrev Q10 := (Int × Int × Int)
abbrev Q11 := (Int × Str × Int × Int)
abbrev Q12 := ((List Q2) × Int)
abbrev Q13 := ((List (List Ex)) × (List Q2) × Q2 × (List Q2))
abbrev Q14 := (Int × Q4 × Int × Int)
abbrev Q15 := (Int × Int × Int × (List (Int × Ex)) × Bool)
abbrev Q16 := (Int × Int × Int × Int)
abbrev Q17 := (Q3 × Int × Int)
abbrev Q18 := ((List Q2) × Int × Q2)
abbrev Q19 := (Q2 × Int)
abbrev Q20 := (List (List Ex))
abbrev Q21 := (List (Int × Ex))
abbrev Q22 := (Int × Q9 × Q7 × Q2 × Q9 × Q4 × Int × Int)
abbrev Q23 := (Q1 × Int × Int)
abbrev Q24 := (Int × Int)
abbrev Q25 := ((List Q2) × Q8 × Int)
abbrev Q26 := (Q2 × Q20 × (List Q2) × Q2 × (List Q2) × Q2)
abbrev Q27 := (Int × Ex × Q21)
abbrev Q28 := ((List Q2) × Q8)
abbrev Q29 := (Q20 × (List Q2) × Q20 × (List Q2) × Q20 × (List Q2) × Int)
noncomputable section
def kV : List Int := [1, 10, 100, 1000, 10000, 100000, 1000000, 10000000, 100000000, 1000000000, 10000000000, 100000000000, 1000000000000, 10000000000000, 100000000000000, 1000000000000000, 10000000000000000, 100000000000000000, 1000000000000000000, 10000000000000000000]
def Ar (n : Int) : Option Str := chk (zh n) (some (Lib.itoa n))
def xw (l : List Int) (u b : Int) : Option Q2 := chk ((b == 10) && (decide (0 ≤ u) && decide (u ≤ 18446744073709551615)) && aw (List.length l + 24) 1) (some (l ++ bytesOf (Lib.decDigits (Int.toNat u))))
def Od (x0 : Int) (x1 : Int) (y0 : Int) (y1 : Int) : Bool := x0 == y0 && x1 == y1
def dh (c : Int) : Option Int := ab (c == 9) fun b3 => ab (c == 10) fun b5 => ab (b3 || b5) fun b7 => ab (c == 13) fun b9 => ab (b7 || b9) fun b11 => ab (c == 32) fun b13 => ab (b11 || b13) fun b15 => bif b15 then ( some 0) else ( ab (decide (97 ≤ c)) fun b18 => ab (decide (c ≤ 122)) fun b20 => ab (b18 && b20) fun b22 => ab (decide (65 ≤ c)) fun b24 => ab (decide (c ≤ 90)) fun b26 => ab (b24 && b26) fun b28 => ab (b22 || b28) fun b30 => ab (c == 95) fun b32 => ab (b30 || b32) fun b34 => bif b34 then ( some 1) else ( ab (decide (48 ≤ c)) fun b37 => ab (decide (c ≤ 57)) fun b39 => ab (b37 && b39) fun b41 => bif b41 then ( some 2) else ( some 3)))
def jN : Option Q9 := some ([[60, 45, 62], [45, 62], [61, 61], [33, 61], [60, 61], [62, 61], [60], [62], [61], [43], [45], [42], [40], [41], [123], [125], [59], [44], [58], [38], [124], [33]] : List Str)
def dC (text : Str) (out9 : Q3) (again13 : (Q3 × Int) → Option Q17) (again24 : Int → Option Q17) (i23 : Int) : Option Q17 := ab (decide (i23 < (List.length text : Int))) fun b25 => sI b25 (inB i23 (List.length text)) <| ab ((iw text i23) != 10) fun b28 => ab (b25 && b28) fun b30 => bif b30 then ( again24 (IntKind.i64.wrap (i23 + 1))) else ( again13 (out9, i23))
def cr (text : Str) (out9 : Q3) (i12 : Int) (again13 : (Q3 × Int) → Option Q17) (again36 : Int → Option Q17) (i35 : Int) : Option Q17 := ab (decide (i35 < (List.length text : Int))) fun b37 => sI b37 (inB i35 (List.length text)) <| bm b37 default (dh (iw text i35)) fun r40 => ab (r40 == 1) fun b46 => sI (b37 && !b46) (inB i35 (List.length text)) <| bm (b37 && !b46) default (dh (iw text i35)) fun r49 => ab (r49 == 2) fun b55 => ab (b46 || b55) fun b57 => ab (b37 && b57) fun b59 => bif b59 then ( again36 (IntKind.i64.wrap (i35 + 1))) else ( bif (decide (32 < (IntKind.i64.wrap (i35 - i12)))) then ( some ([], 9, i12)) else ( chk (kJ i12 i35 (List.length text)) <| chk (aw (List.length out9 + List.length ([(1, (cut text i12 i35), 0, i12)] : List Q11)) 40) <| again13 ((out9 ++ ([(1, (cut text i12 i35), 0, i12)] : List Q11)), i35)))
def ct (text : Str) (out9 : Q3) (i12 : Int) (again13 : (Q3 × Int) → Option Q17) (again74 : Q24 → Option Q17) : Int × Int → Option Q17 := fun ⟨i72, n73⟩ => ab (decide (i72 < (List.length text : Int))) fun b75 => sI b75 (inB i72 (List.length text)) <| bm b75 default (dh (iw text i72)) fun r78 => ab (r78 == 2) fun b84 => ab (b75 && b84) fun b86 => bif b86 then ( bif (decide (n73 ≤ 1073741824)) then ( chk (inB i72 (List.length text)) <| again74 ((IntKind.i64.wrap (i72 + 1)), (IntKind.i64.wrap ((IntKind.i64.wrap ((IntKind.i64.wrap (10 * n73)) + (IntKind.i64.wrap (iw text i72)))) - 48)))) else ( again74 ((IntKind.i64.wrap (i72 + 1)), n73))) else ( bif (decide (1073741824 < n73)) then ( some ([], 9, i12)) else ( chk (kJ i12 i72 (List.length text)) <| chk (aw (List.length out9 + List.length ([(2, (cut text i12 i72), n73, i12)] : List Q11)) 40) <| again13 ((out9 ++ ([(2, (cut text i12 i72), n73, i12)] : List Q11)), i72)))
def aQ (text : Str) (out9 : Q3) (i12 : Int) (again13 : (Q3 × Int) → Option Q17) (r99 : Q9) (again107 : (Str × Int) → Option Q17) : Str × Int → Option Q17 := fun ⟨s105, j106⟩ => ab (decide (j106 < (List.length r99 : Int))) fun b108 => ab (s105 == []) fun b110 => ab (b108 && b110) fun b112 => bif b112 then ( (idx r99 j106).bind fun e117 => ab (decide ((List.length e117 : Int) ≤ (IntKind.i64.wrap ((List.length text : Int) - i12)))) fun b119 => bm b119 [] (idx r99 j106) fun e121 => sI b119 (kJ i12 (IntKind.i64.wrap (i12 + (List.length e121 : Int))) (List.length text)) <| bm b119 [] (idx r99 j106) fun e124 => ab ((cut text i12 (IntKind.i64.wrap (i12 + (List.length e121 : Int)))) == e124) fun b126 => ab (b119 && b126) fun b128 => bif b128 then ( (idx r99 j106).bind fun e131 => again107 (e131, (IntKind.i64.wrap (j106 + 1)))) else ( again107 (s105, (IntKind.i64.wrap (j106 + 1))))) else ( bif (s105 == []) then ( some ([], 2, i12)) else ( chk (aw (List.length out9 + List.length ([(3, s105, 0, i12)] : List Q11)) 40) <| again13 ((out9 ++ ([(3, s105, 0, i12)] : List Q11)), (IntKind.i64.wrap (i12 + (List.length s105 : Int))))))
def eX (text : Str) (again13 : (Q3 × Int) → Option Q17) : Q3 × Int → Option Q17 := fun ⟨out9, i12⟩ => bif (decide (i12 < (List.length text : Int))) then ( chk (inB i12 (List.length text)) <| (dh (iw text i12)).bind fun r16 => bif (r16 == 0) then ( again13 (out9, (IntKind.i64.wrap (i12 + 1)))) else ( chk (inB i12 (List.length text)) <| bif ((iw text i12) == 35) then ( ao (dC text out9 again13) au i12) else ( bif (r16 == 1) then ( ao (cr text out9 i12 again13) au i12) else ( bif (r16 == 2) then ( ao (ct text out9 i12 again13) au (i12, 0)) else ( (jN).bind fun r99 => ao (aQ text out9 i12 again13 r99) au ([], 0)))))) else ( chk (aw (List.length out9 + List.length ([(4, [], 0, (List.length text : Int))] : List Q11)) 40) <| some ((out9 ++ ([(4, [], 0, (List.length text : Int))] : List Q11)), 0, 0))
def dp (text : Str) : Option Q17 := bif (decide (65536 < (List.length text : Int))) then ( some ([], 9, 0)) else ( ao (eX text) au ([], 0))
def aV (kind : Int) (text : Str) (l : Q3) (at_ : Int) (_Names : Q9) (_Schema : Q7) (_Init : Q2) (_Procs : Q9) (_Cmd : Q4) (bad : Int) (_place : Int) : Option Bool := ab (bad == 0) fun b5 => bm b5 (0, [], 0, 0) (idx l at_) fun e7 => ab (e7.1 == kind) fun b9 => ab (b5 && b9) fun b11 => bm b11 (0, [], 0, 0) (idx l at_) fun e13 => ab (e13.2.1 == text) fun b15 => ab (b11 && b15) fun b17 => some b17
def mG (t4 : Bool) : Option Bool := bif t4 then ( some true) else ( some false)
def eO (name : Str) : Option Bool := ab (fun (s7 : Bool) => mG s7) fun kk6 => bif (name == [116, 114, 117, 101]) then ( kk6 (name == [116, 114, 117, 101])) else ( bif (name == [102, 97, 108, 115, 101]) then ( kk6 (name == [102, 97, 108, 115, 101])) else ( bif (name == [88]) then ( kk6 (name == [88])) else ( bif (name == [70]) then ( kk6 (name == [70])) else ( bif (name == [71]) then ( kk6 (name == [71])) else ( bif (name == [85]) then ( kk6 (name == [85])) else ( bif (name == [82]) then ( kk6 (name == [82])) else ( bif (name == [118, 97, 114]) then ( kk6 (name == [118, 97, 114])) else ( kk6 (name == [112, 114, 111, 99])))))))))
def aq (bad : Int) (place : Int) (_l : Q3) (_at_ : Int) (_Names : Q9) (_Schema : Q7) (_Init : Q2) (_Procs : Q9) (_Cmd : Q4) (bad19 : Int) (place20 : Int) : Option Q24 := bif (bad19 == 0) then ( some (bad, place)) else ( some (bad19, place20))
def cU (l : Q9) (name : Str) (again5 : Int → Option Int) (i4 : Int) : Option Int := bif (decide (i4 < (List.length l : Int))) then ( (idx l i4).bind fun e7 => bif (e7 == name) then ( some i4) else ( again5 (IntKind.i64.wrap (i4 + 1)))) else ( some (-1))
def bz (l : Q9) (name : Str) : Option Int := ao (cU l name) au 0
def dD (full : Bool) (l : Q3) (at_ : Int) (Names : Q9) (Schema : Q7) (Init : Q2) (Procs : Q9) (Cmd : Q4) (bad : Int) (place : Int) : Option (Str × Int × Int × Int) := (idx l at_).bind fun e8 => (eO e8.2.1).bind fun r13 => bif (e8.1 != 1) then ( (aq 2 e8.2.2.2 l at_ Names Schema Init Procs Cmd bad place).bind fun r17 => some (e8.2.1, at_, r17.1, r17.2)) else ( bm (!r13) default (bz Names e8.2.1) fun r22 => ab (decide (0 ≤ r22)) fun b28 => ab (r13 || b28) fun b30 => bm (!b30) default (bz Procs e8.2.1) fun r32 => ab (decide (0 ≤ r32)) fun b38 => ab (b30 || b38) fun b40 => bif b40 then ( (aq 3 e8.2.2.2 l at_ Names Schema Init Procs Cmd bad place).bind fun r43 => some (e8.2.1, at_, r43.1, r43.2)) else ( bif full then ( (aq 9 e8.2.2.2 l at_ Names Schema Init Procs Cmd bad place).bind fun r47 => some (e8.2.1, at_, r47.1, r47.2)) else ( bif (bad == 0) then ( some (e8.2.1, (IntKind.i64.wrap (at_ + 1)), bad, place)) else ( some (e8.2.1, at_, bad, place)))))
def aB (l : Q3) (at_ : Int) (_Names : Q9) (_Schema : Q7) (_Init : Q2) (_Procs : Q9) (_Cmd : Q4) (_bad : Int) (_place : Int) : Option Int := (idx l at_).bind fun e5 => some e5.2.2.2
def aP (text : Str) (l : Q3) (at_ : Int) (Names : Q9) (Schema : Q7) (Init : Q2) (Procs : Q9) (Cmd : Q4) (bad : Int) (place : Int) : Option Q10 := (aV 3 text l at_ Names Schema Init Procs Cmd bad place).bind fun r5 => bif (!r5) then ( (aB l at_ Names Schema Init Procs Cmd bad place).bind fun r9 => (aq 2 r9 l at_ Names Schema Init Procs Cmd bad place).bind fun r12 => some (at_, r12.1, r12.2)) else ( some ((IntKind.i64.wrap (at_ + 1)), bad, place))
def gz (strength : Int) : Option Bool := ab (strength == 1) fun b3 => ab (strength == 2) fun b5 => ab (b3 || b5) fun b7 => ab (strength == 5) fun b9 => ab (b7 || b9) fun b11 => ab (strength == 6) fun b13 => ab (b11 || b13) fun b15 => ab (strength == 10) fun b17 => ab (b15 || b17) fun b19 => some b19
def aK (bad : Int) (l : Q3) (at_ : Int) (_names : Q9) (bad7 : Int) (place : Int) : Option (Ex × Int × Int) := bif (bad7 == 0) then ( (idx l at_).bind fun e13 => some ((Ex.mk 0 0 0 []), bad, e13.2.2.2)) else ( some ((Ex.mk 0 0 0 []), bad7, place))
def cg (l : Q3) (at_ : Int) (names : Q9) (bad : Int) (place : Int) (e12 : Q11) (again50 : Int → Option Q5) (i49 : Int) : Option Q5 := bif (decide (i49 < (List.length names : Int))) then ( (idx names i49).bind fun e54 => bif (e54 == e12.2.1) then ( some ((Ex.mk 2 i49 e12.2.2.2 []), (IntKind.i64.wrap (at_ + 1)), bad, place)) else ( again50 (IntKind.i64.wrap (i49 + 1)))) else ( (aK 3 l at_ names bad place).bind fun r59 => some (r59.1, at_, r59.2.1, r59.2.2))
def cd (ah : Q6 → Option Q5) (deep : Int) (l : Q3) (at_ : Int) (names : Q9) (bad : Int) (place : Int) : Option Q5 := (idx l at_).bind fun e12 => bif (e12.1 == 2) then ( some ((Ex.mk 1 e12.2.2.1 e12.2.2.2 []), (IntKind.i64.wrap (at_ + 1)), bad, place)) else ( ab (e12.1 == 1) fun b20 => ab (e12.2.1 == [116, 114, 117, 101]) fun b22 => ab (b20 && b22) fun b24 => bif b24 then ( some ((Ex.mk 13 0 e12.2.2.2 []), (IntKind.i64.wrap (at_ + 1)), bad, place)) else ( ab (e12.1 == 1) fun b29 => ab (e12.2.1 == [102, 97, 108, 115, 101]) fun b31 => ab (b29 && b31) fun b33 => bif b33 then ( some ((Ex.mk 14 0 e12.2.2.2 []), (IntKind.i64.wrap (at_ + 1)), bad, place)) else ( (eO e12.2.1).bind fun r38 => ab (e12.1 == 1) fun b41 => ab (!r38) fun b43 => ab (b41 && b43) fun b45 => bif b45 then ( ao (cg l at_ names bad place e12) au 0) else ( ab (e12.1 != 3) fun b65 => ab (e12.2.1 != [40]) fun b67 => ab (b65 || b67) fun b69 => bif b69 then ( (aK 2 l at_ names bad place).bind fun r72 => some (r72.1, at_, r72.2.1, r72.2.2)) else ( (ah (1, deep, l, (IntKind.i64.wrap (at_ + 1)), names, bad, place)).bind fun r79 => bif (r79.2.2.1 != 0) then ( some ((Ex.mk 0 0 0 []), r79.2.1, r79.2.2.1, r79.2.2.2)) else ( (idx l r79.2.1).bind fun e91 => ab (e91.1 != 3) fun b93 => bm (!b93) (0, [], 0, 0) (idx l r79.2.1) fun e95 => ab (e95.2.1 != [41]) fun b97 => ab (b93 || b97) fun b99 => bif b99 then ( (aK 2 l r79.2.1 names r79.2.2.1 r79.2.2.2).bind fun r102 => some (r102.1, r79.2.1, r102.2.1, r102.2.2)) else ( some (r79.1, (IntKind.i64.wrap (r79.2.1 + 1)), r79.2.2.1, r79.2.2.2))))))))
def aC (t : Q11) (again28 : Int → Option Int) (i27 : Int) : Option Int := bif (decide (i27 < 6)) then ( (idx ([[61, 61], [33, 61], [60], [60, 61], [62], [62, 61]] : List Str) i27).bind fun e30 => bif (t.2.1 == e30) then ( some (IntKind.i64.wrap (7 + i27))) else ( again28 (IntKind.i64.wrap (i27 + 1)))) else ( some 0)
def br (t : Q11) (strength : Int) : Option Int := ab (t.1 != 2) fun b5 => ab (t.1 != 4) fun b7 => ab (b5 && b7) fun b9 => bif b9 then ( bif (strength == 1) then ( bif (t.2.1 == [60, 45, 62]) then ( some 19) else ( some 0)) else ( bif (strength == 2) then ( bif (t.2.1 == [45, 62]) then ( some 18) else ( some 0)) else ( bif (strength == 3) then ( bif (t.2.1 == [124]) then ( some 17) else ( some 0)) else ( bif (strength == 4) then ( bif (t.2.1 == [38]) then ( some 16) else ( some 0)) else ( bif (strength == 5) then ( bif (t.2.1 == [85]) then ( some 23) else ( bif (t.2.1 == [82]) then ( some 24) else ( some 0))) else ( bif (strength == 7) then ( ao (aC t) au 0) else ( bif (strength == 8) then ( bif (t.2.1 == [43]) then ( some 3) else ( bif (t.2.1 == [45]) then ( some 4) else ( some 0))) else ( bif (strength == 9) then ( bif (t.2.1 == [42]) then ( some 5) else ( some 0)) else ( some 0))))))))) else ( some 0)
def eS (ah : Q6 → Option Q5) (l : Q3) (at_ : Int) (names : Q9) (bad : Int) (place : Int) (deep16 : Int) (e30 : Q11) (k43 : Int) : Option Q5 := bif (k43 == 0) then ( (ah (7, deep16, l, at_, names, bad, place)).bind fun r45 => some (r45.1, r45.2.1, r45.2.2.1, r45.2.2.2)) else ( (ah (6, deep16, l, (IntKind.i64.wrap (at_ + 1)), names, bad, place)).bind fun r52 => some ((Ex.mk k43 0 e30.2.2.2 ([r52.1] : List Ex)), r52.2.1, r52.2.2.1, r52.2.2.2))
def iK (ah : Q6 → Option Q5) (l : Q3) (at_ : Int) (names : Q9) (bad : Int) (place : Int) (deep16 : Int) (e30 : Q11) (k41 : Int) : Option Q5 := ab (fun (s64 : Int) => eS ah l at_ names bad place deep16 e30 s64) fun kk63 => ab (e30.1 == 1) fun b65 => ab (e30.2.1 == [71]) fun b67 => ab (b65 && b67) fun b69 => bif b69 then ( kk63 22) else ( kk63 k41)
def iL (ah : Q6 → Option Q5) (l : Q3) (at_ : Int) (names : Q9) (bad : Int) (place : Int) (deep16 : Int) (e30 : Q11) (k39 : Int) : Option Q5 := ab (fun (s73 : Int) => iK ah l at_ names bad place deep16 e30 s73) fun kk72 => ab (e30.1 == 1) fun b74 => ab (e30.2.1 == [70]) fun b76 => ab (b74 && b76) fun b78 => bif b78 then ( kk72 21) else ( kk72 k39)
def bG (ah : Q6 → Option Q5) (l : Q3) (at_ : Int) (names : Q9) (bad : Int) (place : Int) (deep16 : Int) (e30 : Q11) (k37 : Int) : Option Q5 := ab (fun (s82 : Int) => iL ah l at_ names bad place deep16 e30 s82) fun kk81 => ab (e30.1 == 1) fun b83 => ab (e30.2.1 == [88]) fun b85 => ab (b83 && b85) fun b87 => bif b87 then ( kk81 20) else ( kk81 k37)
def bH (ah : Q6 → Option Q5) (strength : Int) (l : Q3) (names : Q9) (deep16 : Int) (again143 : (Int × Int × Int × Int × Int × Int × (List Ex)) → Option Q5) : Int × Int × Int × Int × Int × Int × (List Ex) → Option Q5 := fun ⟨c134, c135, c136, c137, c138, c139, c140⟩ => bif (c135 == 0) then ( (idx l c134).bind fun e147 => (br e147 strength).bind fun r152 => bif (r152 == 0) then ( some ((Ex.mk c137 c138 c139 c140), c134, c135, c136)) else ( ab (strength == 1) fun b158 => ab (strength == 2) fun b160 => ab (b158 || b160) fun b162 => ab (strength == 5) fun b164 => ab (b162 || b164) fun b166 => bif b166 then ( (ah (strength, deep16, l, (IntKind.i64.wrap (c134 + 1)), names, c135, c136)).bind fun r169 => some ((Ex.mk r152 0 e147.2.2.2 ([(Ex.mk c137 c138 c139 c140), r169.1] : List Ex)), r169.2.1, r169.2.2.1, r169.2.2.2)) else ( (ah ((IntKind.i64.wrap (strength + 1)), deep16, l, (IntKind.i64.wrap (c134 + 1)), names, c135, c136)).bind fun r180 => bif (strength == 7) then ( some ((Ex.mk r152 0 e147.2.2.2 ([(Ex.mk c137 c138 c139 c140), r180.1] : List Ex)), r180.2.1, r180.2.2.1, r180.2.2.2)) else ( again143 (r180.2.1, r180.2.2.1, r180.2.2.2, r152, 0, e147.2.2.2, ([(Ex.mk c137 c138 c139 c140), r180.1] : List Ex)))))) else ( some ((Ex.mk c137 c138 c139 c140), c134, c135, c136))
def eR (ah : Q6 → Option Q5) (strength : Int) (l : Q3) (at_ : Int) (names : Q9) (bad : Int) (place : Int) (r12 : Bool) (deep16 : Int) : Option Q5 := ab (decide (320 < deep16)) fun b17 => ab (r12 && b17) fun b19 => bif b19 then ( (aK 9 l at_ names bad place).bind fun r22 => some (r22.1, at_, r22.2.1, r22.2.2)) else ( (idx l at_).bind fun e30 => bif (strength == 6) then ( ab (fun (s91 : Int) => bG ah l at_ names bad place deep16 e30 s91) fun kk90 => ab (e30.1 == 3) fun b92 => ab (e30.2.1 == [33]) fun b94 => ab (b92 && b94) fun b96 => bif b96 then ( kk90 15) else ( kk90 0)) else ( bif (strength == 10) then ( ab (e30.1 != 3) fun b100 => ab (e30.2.1 != [45]) fun b102 => ab (b100 || b102) fun b104 => bif b104 then ( (cd ah deep16 l at_ names bad place).bind fun r107 => some (r107.1, r107.2.1, r107.2.2.1, r107.2.2.2)) else ( (ah (10, deep16, l, (IntKind.i64.wrap (at_ + 1)), names, bad, place)).bind fun r114 => some ((Ex.mk 6 0 e30.2.2.2 ([r114.1] : List Ex)), r114.2.1, r114.2.2.1, r114.2.2.2))) else ( (ah ((IntKind.i64.wrap (strength + 1)), deep16, l, at_, names, bad, place)).bind fun r125 => ao (bH ah strength l names deep16) au (r125.2.1, r125.2.2.1, r125.2.2.2, r125.1.op, r125.1.n, r125.1.at_, r125.1.l))))
def bL (ah : Q6 → Option Q5) (strength : Int) (deep : Int) (l : Q3) (at_ : Int) (names : Q9) (bad : Int) (place : Int) : Option Q5 := bif (bad != 0) then ( some ((Ex.mk 0 0 0 []), at_, bad, place)) else ( (gz strength).bind fun r12 => ab (fun (s195 : Int) => eR ah strength l at_ names bad place r12 s195) fun kk194 => bif r12 then ( kk194 (IntKind.i64.wrap (deep + 1))) else ( kk194 deep))
def dO (strength : Int) (deep : Int) (l : Q3) (at_ : Int) (names : Q9) (bad : Int) (place : Int) : Option Q5 :=
 ao (fun k (s : Q6) => bL k s.1 s.2.1 s.2.2.1 s.2.2.2.1 s.2.2.2.2.1 s.2.2.2.2.2.1 s.2.2.2.2.2.2) au (strength, deep, l, at_, names, bad, place)
def cN (l : Q3) (at_ : Int) (names : Q9) : Option Q5 := (dO 1 0 l at_ names 0 0).bind fun r14 => bif (r14.2.2.1 != 0) then ( some ((Ex.mk 0 0 0 []), 0, r14.2.2.1, r14.2.2.2)) else ( some (r14.1, r14.2.1, 0, 0))
def lI (times10 : Int) (i11 : Int) (again12 : Q16 → Option Q10) (r20 : Q10) (ints25 : Int) (bools27 : Int) : Option Q10 := bif (r20.1 == 3) then ( again12 (ints25, bools27, (IntKind.i64.wrap (times10 + 1)), (IntKind.i64.wrap (i11 + 1)))) else ( again12 (ints25, bools27, times10, (IntKind.i64.wrap (i11 + 1))))
def jd (bools9 : Int) (times10 : Int) (i11 : Int) (again12 : Q16 → Option Q10) (r20 : Q10) (ints25 : Int) : Option Q10 := ab (fun (s30 : Int) => lI times10 i11 again12 r20 ints25 s30) fun kk29 => bif (r20.1 == 2) then ( kk29 (IntKind.i64.wrap (bools9 + 1))) else ( kk29 bools9)
def cZ (cz : Ex → Option Q10) (e : Ex) (again12 : Q16 → Option Q10) : Int × Int × Int × Int → Option Q10 := fun ⟨ints8, bools9, times10, i11⟩ => bif (decide (i11 < (List.length e.l : Int))) then ( (idx e.l i11).bind fun e14 => (cz e14).bind fun r20 => bif (r20.2.1 != 0) then ( some (0, r20.2.1, r20.2.2)) else ( ab (fun (s33 : Int) => jd bools9 times10 i11 again12 r20 s33) fun kk32 => bif (r20.1 == 1) then ( kk32 (IntKind.i64.wrap (ints8 + 1))) else ( kk32 ints8))) else ( ab (decide (e.op ≤ 6)) fun b35 => ab (ints8 == (List.length e.l : Int)) fun b37 => ab (b35 && b37) fun b39 => bif b39 then ( some (1, 0, 0)) else ( ab (decide (7 ≤ e.op)) fun b42 => ab (decide (e.op ≤ 12)) fun b44 => ab (b42 && b44) fun b46 => ab (ints8 == (List.length e.l : Int)) fun b48 => ab (b46 && b48) fun b50 => ab (e.op == 13) fun b52 => ab (b50 || b52) fun b54 => ab (e.op == 14) fun b56 => ab (b54 || b56) fun b58 => bif b58 then ( some (2, 0, 0)) else ( ab (decide (15 ≤ e.op)) fun b61 => ab (decide (e.op ≤ 19)) fun b63 => ab (b61 && b63) fun b65 => ab (bools9 == (List.length e.l : Int)) fun b67 => ab (b65 && b67) fun b69 => bif b69 then ( some (2, 0, 0)) else ( ab (decide (15 ≤ e.op)) fun b72 => ab ((IntKind.i64.wrap (bools9 + times10)) == (List.length e.l : Int)) fun b74 => ab (b72 && b74) fun b76 => bif b76 then ( some (3, 0, 0)) else ( some (0, 4, e.at_))))))
def eD (cz : Ex → Option Q10) (e : Ex) : Option Q10 := ao (cZ cz e) au (0, 0, 0, 0)
def dW (e : Ex) : Option Q10 :=
 ao (fun k (s : Ex) => eD k s) au e
def qg (times10 : Int) (i11 : Int) (again12 : Q16 → Option Q10) (r20 : Q10) (ints25 : Int) (bools27 : Int) : Option Q10 := bif (r20.1 == 3) then ( again12 (ints25, bools27, (IntKind.i64.wrap (times10 + 1)), (IntKind.i64.wrap (i11 + 1)))) else ( again12 (ints25, bools27, times10, (IntKind.i64.wrap (i11 + 1))))
def kr (bools9 : Int) (times10 : Int) (i11 : Int) (again12 : Q16 → Option Q10) (r20 : Q10) (ints25 : Int) : Option Q10 := ab (fun (s30 : Int) => qg times10 i11 again12 r20 ints25 s30) fun kk29 => bif (r20.1 == 2) then ( kk29 (IntKind.i64.wrap (bools9 + 1))) else ( kk29 bools9)
def pI (e : Ex) (again12 : Q16 → Option Q10) : Int × Int × Int × Int → Option Q10 := fun ⟨ints8, bools9, times10, i11⟩ => bif (decide (i11 < (List.length e.l : Int))) then ( (idx e.l i11).bind fun e14 => (dW e14).bind fun r20 => bif (r20.2.1 != 0) then ( some (0, r20.2.1, r20.2.2)) else ( ab (fun (s33 : Int) => kr bools9 times10 i11 again12 r20 s33) fun kk32 => bif (r20.1 == 1) then ( kk32 (IntKind.i64.wrap (ints8 + 1))) else ( kk32 ints8))) else ( ab (decide (e.op ≤ 6)) fun b35 => ab (ints8 == (List.length e.l : Int)) fun b37 => ab (b35 && b37) fun b39 => bif b39 then ( some (1, 0, 0)) else ( ab (decide (7 ≤ e.op)) fun b42 => ab (decide (e.op ≤ 12)) fun b44 => ab (b42 && b44) fun b46 => ab (ints8 == (List.length e.l : Int)) fun b48 => ab (b46 && b48) fun b50 => ab (e.op == 13) fun b52 => ab (b50 || b52) fun b54 => ab (e.op == 14) fun b56 => ab (b54 || b56) fun b58 => bif b58 then ( some (2, 0, 0)) else ( ab (decide (15 ≤ e.op)) fun b61 => ab (decide (e.op ≤ 19)) fun b63 => ab (b61 && b63) fun b65 => ab (bools9 == (List.length e.l : Int)) fun b67 => ab (b65 && b67) fun b69 => bif b69 then ( some (2, 0, 0)) else ( ab (decide (15 ≤ e.op)) fun b72 => ab ((IntKind.i64.wrap (bools9 + times10)) == (List.length e.l : Int)) fun b74 => ab (b72 && b74) fun b76 => bif b76 then ( some (3, 0, 0)) else ( some (0, 4, e.at_))))))
def dV (e : Ex) : Option Q10 := ao (pI e) au (0, 0, 0, 0)
def gO (r14 : Q5) (c32 : Int) (c33 : Int) : Option Q5 := some (r14.1, r14.2.1, c32, c33)
def bh (want : Int) (l : Q3) (at_ : Int) (Names : Q9) (Schema : Q7) (Init : Q2) (Procs : Q9) (Cmd : Q4) (bad : Int) (place : Int) : Option Q5 := bif (bad != 0) then ( some ((Ex.mk 0 0 0 []), at_, bad, place)) else ( ( (cN l at_ Names).bind fun r14 => bif (r14.2.2.1 != 0) then ( (aq r14.2.2.1 r14.2.2.2 l at_ Names Schema Init Procs Cmd bad place).bind fun r24 => some ((Ex.mk 0 0 0 []), at_, r24.1, r24.2)) else ( (dV r14.1).bind fun r28 => ab (fun (s37 : Int × Int) => gO r14 s37.1 s37.2) fun kk36 => bif (r28.2.1 != 0) then ( (aq r28.2.1 r28.2.2 l at_ Names Schema Init Procs Cmd bad place).bind fun r39 => kk36 (r39.1, r39.2)) else ( bif (r28.1 != want) then ( (aq 4 r14.1.at_ l at_ Names Schema Init Procs Cmd bad place).bind fun r43 => kk36 (r43.1, r43.2)) else ( kk36 (bad, place))))))
def db (l : Q3) (Names : Q9) (Schema : Q7) (Init : Q2) (Procs : Q9) (Cmd : Q4) (l28 : Q21) (again32 : Q15 → Option Q14) (r47 : Int) (c66 : Int) (c67 : Int) (c69 : Int) : Option Q14 := (aP [61] l c69 Names Schema Init Procs Cmd c66 c67).bind fun r70 => (bh 1 l r70.1 Names Schema Init Procs Cmd r70.2.1 r70.2.2).bind fun r73 => chk (aw (List.length l28 + List.length ([(r47, r73.1)] : List (Int × Ex))) 56) <| (aV 3 [44] l r73.2.1 Names Schema Init Procs Cmd r73.2.2.1 r73.2.2.2).bind fun r88 => bif r88 then ( again32 ((IntKind.i64.wrap (r73.2.1 + 1)), r73.2.2.1, r73.2.2.2, (l28 ++ ([(r47, r73.1)] : List (Int × Ex))), r88)) else ( again32 (r73.2.1, r73.2.2.1, r73.2.2.2, (l28 ++ ([(r47, r73.1)] : List (Int × Ex))), r88))
def c7 (l : Q3) (Names : Q9) (Schema : Q7) (Init : Q2) (Procs : Q9) (Cmd : Q4) (c25 : Int) (l28 : Q21) (again32 : Q15 → Option Q14) (r47 : Int) (c66 : Int) (c67 : Int) : Option Q14 := ab (fun (s94 : Int) => db l Names Schema Init Procs Cmd l28 again32 r47 c66 c67 s94) fun kk93 => bif (c66 == 0) then ( kk93 (IntKind.i64.wrap (c25 + 1))) else ( kk93 c25)
def bg (l : Q3) (Names : Q9) (Schema : Q7) (Init : Q2) (Procs : Q9) (Cmd : Q4) (c25 : Int) (c26 : Int) (c27 : Int) (l28 : Q21) (again32 : Q15 → Option Q14) (e40 : Q11) (r47 : Int) (again53 : (Bool × Int) → Option Q14) : Bool × Int → Option Q14 := fun ⟨twice51, k52⟩ => bif (decide (k52 < (List.length l28 : Int))) then ( bm (!twice51) (0, (Ex.mk 0 0 0 [])) (idx l28 k52) fun e55 => ab (e55.1 == r47) fun b61 => ab (twice51 || b61) fun b63 => again53 (b63, (IntKind.i64.wrap (k52 + 1)))) else ( ab (fun (s98 : Int × Int) => c7 l Names Schema Init Procs Cmd c25 l28 again32 r47 s98.1 s98.2) fun kk97 => bif (e40.1 != 1) then ( (aq 2 e40.2.2.2 l c25 Names Schema Init Procs Cmd c26 c27).bind fun r100 => kk97 (r100.1, r100.2)) else ( ab (decide (r47 < 0)) fun b103 => ab (b103 || twice51) fun b105 => bif b105 then ( (aq 3 e40.2.2.2 l c25 Names Schema Init Procs Cmd c26 c27).bind fun r108 => kk97 (r108.1, r108.2)) else ( kk97 (c26, c27))))
def bI (l : Q3) (Names : Q9) (Schema : Q7) (Init : Q2) (Procs : Q9) (Cmd : Q4) (r15 : Q5) (again32 : Q15 → Option Q14) : Int × Int × Int × Q21 × Bool → Option Q14 := fun ⟨c25, c26, c27, l28, more31⟩ => ab (c26 == 0) fun b33 => ab (more31 && b33) fun b35 => bif b35 then ( (idx l c25).bind fun e40 => (bz Names e40.2.1).bind fun r47 => ao (bg l Names Schema Init Procs Cmd c25 c26 c27 l28 again32 e40 r47) au (false, 0)) else ( (aP [59] l c25 Names Schema Init Procs Cmd c26 c27).bind fun r111 => chk (aw (List.length Cmd + List.length ([((IntKind.i64.wrap ((List.length Procs : Int) - 1)), r15.1, l28)] : List Q27)) 80) <| some (r111.1, (Cmd ++ ([((IntKind.i64.wrap ((List.length Procs : Int) - 1)), r15.1, l28)] : List Q27)), r111.2.1, r111.2.2))
def da (l : Q3) (at_ : Int) (Names : Q9) (Schema : Q7) (Init : Q2) (Procs : Q9) (Cmd : Q4) (c10 : Int) (c11 : Int) : Option Q14 := (bh 2 l at_ Names Schema Init Procs Cmd c10 c11).bind fun r15 => (aP [58] l r15.2.1 Names Schema Init Procs Cmd r15.2.2.1 r15.2.2.2).bind fun r21 => ao (bI l Names Schema Init Procs Cmd r15) au (r21.1, r21.2.1, r21.2.2, [], true)
def dQ (l : Q3) (at_ : Int) (Names : Q9) (Schema : Q7) (Init : Q2) (Procs : Q9) (Cmd : Q4) (bad : Int) (place : Int) : Option Q14 := ab (fun (s124 : Int × Int) => da l at_ Names Schema Init Procs Cmd s124.1 s124.2) fun kk123 => bif (decide (256 ≤ (List.length Cmd : Int))) then ( (aB l at_ Names Schema Init Procs Cmd bad place).bind fun r126 => (aq 9 r126 l at_ Names Schema Init Procs Cmd bad place).bind fun r129 => kk123 (r129.1, r129.2)) else ( kk123 (bad, place))
def dv (r6 : Bool) (c10 : Int) (e13 : Q11) (c19 : Int) (c20 : Int) : Option Q16 := bif (c19 != 0) then ( some (0, c10, c19, c20)) else ( bif r6 then ( some ((IntKind.i64.wrap (0 - e13.2.2.1)), (IntKind.i64.wrap (c10 + 1)), c19, c20)) else ( some (e13.2.2.1, (IntKind.i64.wrap (c10 + 1)), c19, c20)))
def fe (l : Q3) (Names : Q9) (Schema : Q7) (Init : Q2) (Procs : Q9) (Cmd : Q4) (bad : Int) (place : Int) (r6 : Bool) (c10 : Int) : Option Q16 := (idx l c10).bind fun e13 => ab (fun (s25 : Int × Int) => dv r6 c10 e13 s25.1 s25.2) fun kk24 => bif (e13.1 != 2) then ( (aq 2 e13.2.2.2 l c10 Names Schema Init Procs Cmd bad place).bind fun r27 => kk24 (r27.1, r27.2)) else ( kk24 (bad, place))
def ca (l : Q3) (at_ : Int) (Names : Q9) (Schema : Q7) (Init : Q2) (Procs : Q9) (Cmd : Q4) (bad : Int) (place : Int) : Option Q16 := (aV 3 [45] l at_ Names Schema Init Procs Cmd bad place).bind fun r6 => ab (fun (s31 : Int) => fe l Names Schema Init Procs Cmd bad place r6 s31) fun kk30 => bif r6 then ( kk30 (IntKind.i64.wrap (at_ + 1))) else ( kk30 at_)
def iB (s : Q7) (again12 : Int → Option Bool) (i11 : Int) : Option Bool := bif (decide (i11 < (List.length s : Int))) then ( (idx s i11).bind fun e16 => (idx s i11).bind fun e18 => ab (decide (e18.2 < e16.1)) fun b20 => bm (!b20) (0, 0) (idx s i11) fun e22 => ab (decide (e22.1 < (-1073741824))) fun b24 => ab (b20 || b24) fun b26 => bm (!b26) (0, 0) (idx s i11) fun e28 => ab (decide (1073741824 < e28.2)) fun b30 => ab (b26 || b30) fun b32 => bm (!b32) (0, 0) (idx s i11) fun e34 => bm (!b32) (0, 0) (idx s i11) fun e36 => ab (decide (65535 < (IntKind.i64.wrap (e34.2 - e36.1)))) fun b38 => ab (b32 || b38) fun b40 => bif b40 then ( some false) else ( again12 (IntKind.i64.wrap (i11 + 1)))) else ( some true)
def gQ (s : Q7) : Option Bool := ab (decide ((List.length s : Int) < 1)) fun b3 => ab (decide (17 < (List.length s : Int))) fun b5 => ab (b3 || b5) fun b7 => bif b7 then ( some false) else ( ao (iB s) au 0)
def eI (Names : Q9) (Schema : Q7) (Init : Q2) (r15 : (Str × Int × Int × Int)) (r21 : Q16) (r24 : Q16) (r27 : Q16) (r30 : Q10) (c42 : Int) (c43 : Int) : Option (Int × Q9 × Q7 × Q2 × Int × Int) := chk (aw (List.length Names + List.length ([r15.1] : List Str)) 16) <| chk (aw (List.length Schema + List.length ([(r21.1, r24.1)] : List Q24)) 16) <| chk (aw (List.length Init + List.length ([r27.1] : List Int)) 8) <| some (r30.1, (Names ++ ([r15.1] : List Str)), (Schema ++ ([(r21.1, r24.1)] : List Q24)), (Init ++ ([r27.1] : List Int)), c42, c43)
def dG (l : Q3) (at_ : Int) (Names : Q9) (Schema : Q7) (Init : Q2) (Procs : Q9) (Cmd : Q4) (bad : Int) (place : Int) : Option (Int × Q9 × Q7 × Q2 × Int × Int) := (dD (decide (16 ≤ (List.length Names : Int))) l at_ Names Schema Init Procs Cmd bad place).bind fun r15 => (aB l r15.2.1 Names Schema Init Procs Cmd r15.2.2.1 r15.2.2.2).bind fun r18 => (ca l r15.2.1 Names Schema Init Procs Cmd r15.2.2.1 r15.2.2.2).bind fun r21 => (ca l r21.2.1 Names Schema Init Procs Cmd r21.2.2.1 r21.2.2.2).bind fun r24 => (ca l r24.2.1 Names Schema Init Procs Cmd r24.2.2.1 r24.2.2.2).bind fun r27 => (aP [59] l r27.2.1 Names Schema Init Procs Cmd r27.2.2.1 r27.2.2.2).bind fun r30 => (gQ ([(r21.1, r24.1)] : List Q24)).bind fun r38 => ab (fun (s68 : Int × Int) => eI Names Schema Init r15 r21 r24 r27 r30 s68.1 s68.2) fun kk67 => ab (!r38) fun b69 => ab (decide (r27.1 < r21.1)) fun b71 => ab (b69 || b71) fun b73 => ab (decide (r24.1 < r27.1)) fun b75 => ab (b73 || b75) fun b77 => bif b77 then ( (aq 5 r18 l r30.1 Names Schema Init Procs Cmd r30.2.1 r30.2.2).bind fun r80 => kk67 (r80.1, r80.2)) else ( kk67 (r30.2.1, r30.2.2))
def dL (r17 : Q17) (l38 : Q9) (again46 : Q22 → Option Q23) (c69 : Q9) (c72 : Q7) (c75 : Q2) (r81 : (Str × Int × Int × Int)) (again105 : (Int × Q4 × Int × Int × Bool) → Option Q23) : Int × Q4 × Int × Int × Bool → Option Q23 := fun ⟨c98, c99, c102, c103, end104⟩ => ab (c102 == 0) fun b106 => ab (!end104) fun b108 => ab (b106 && b108) fun b110 => bif b110 then ( (dQ r17.1 c98 c69 c72 c75 (l38 ++ ([r81.1] : List Str)) c99 c102 c103).bind fun r113 => (aV 3 [125] r17.1 r113.1 c69 c72 c75 (l38 ++ ([r81.1] : List Str)) r113.2.1 r113.2.2.1 r113.2.2.2).bind fun r118 => again105 (r113.1, r113.2.1, r113.2.2.1, r113.2.2.2, r118)) else ( (aP [125] r17.1 c98 c69 c72 c75 (l38 ++ ([r81.1] : List Str)) c99 c102 c103).bind fun r121 => again46 (r121.1, c69, c72, c75, (l38 ++ ([r81.1] : List Str)), c99, r121.2.1, r121.2.2))
def fq (r17 : Q17) (l38 : Q9) (l41 : Q4) (again46 : Q22 → Option Q23) (r59 : Bool) (c68 : Int) (c69 : Q9) (c72 : Q7) (c75 : Q2) (c78 : Int) (c79 : Int) : Option Q23 := bif r59 then ( (dD false r17.1 c68 c69 c72 c75 l38 l41 c78 c79).bind fun r81 => chk (aw (List.length l38 + List.length ([r81.1] : List Str)) 16) <| (aP [123] r17.1 r81.2.1 c69 c72 c75 (l38 ++ ([r81.1] : List Str)) l41 r81.2.2.1 r81.2.2.2).bind fun r91 => (aV 3 [125] r17.1 r91.1 c69 c72 c75 (l38 ++ ([r81.1] : List Str)) l41 r91.2.1 r91.2.2).bind fun r94 => ao (dL r17 l38 again46 c69 c72 c75 r81) au (r91.1, l41, r91.2.1, r91.2.2, r94)) else ( again46 (c68, c69, c72, c75, l38, l41, c78, c79))
def fv (r17 : Q17) (l29 : Q9) (l32 : Q7) (l35 : Q2) (l38 : Q9) (l41 : Q4) (again46 : Q22 → Option Q23) (r56 : Bool) (r59 : Bool) (c63 : Int) (c64 : Int) (c66 : Int) : Option Q23 := ab (fun (s125 : Int × Q9 × Q7 × Q2 × Int × Int) => fq r17 l38 l41 again46 r59 s125.1 s125.2.1 s125.2.2.1 s125.2.2.2.1 s125.2.2.2.2.1 s125.2.2.2.2.2) fun kk124 => bif r56 then ( (dG r17.1 c66 l29 l32 l35 l38 l41 c63 c64).bind fun r127 => kk124 (r127.1, r127.2.1, r127.2.2.1, r127.2.2.2.1, r127.2.2.2.2.1, r127.2.2.2.2.2)) else ( kk124 (c66, l29, l32, l35, c63, c64))
def fp (r17 : Q17) (c28 : Int) (l29 : Q9) (l32 : Q7) (l35 : Q2) (l38 : Q9) (l41 : Q4) (again46 : Q22 → Option Q23) (r56 : Bool) (r59 : Bool) (c63 : Int) (c64 : Int) : Option Q23 := ab (fun (s137 : Int) => fv r17 l29 l32 l35 l38 l41 again46 r56 r59 c63 c64 s137) fun kk136 => bif (c63 == 0) then ( kk136 (IntKind.i64.wrap (c28 + 1))) else ( kk136 c28)
def fA (l29 : Q9) (l32 : Q7) (l35 : Q2) (l38 : Q9) (l41 : Q4) (c156 : Int) (c157 : Int) : Option Q23 := bif (c156 != 0) then ( some (([], [], [], [], []), c156, c157)) else ( some ((l29, l32, l35, l38, l41), 0, 0))
def cO (r17 : Q17) (again46 : Q22 → Option Q23) : Int × Q9 × Q7 × Q2 × Q9 × Q4 × Int × Int → Option Q23 := fun ⟨c28, l29, l32, l35, l38, l41, c44, c45⟩ => ab (c44 == 0) fun b47 => bm b47 (0, [], 0, 0) (idx r17.1 c28) fun e49 => ab (e49.1 != 4) fun b51 => ab (b47 && b51) fun b53 => bif b53 then ( (aV 1 [118, 97, 114] r17.1 c28 l29 l32 l35 l38 l41 c44 c45).bind fun r56 => (aV 1 [112, 114, 111, 99] r17.1 c28 l29 l32 l35 l38 l41 c44 c45).bind fun r59 => ab (fun (s141 : Int × Int) => fp r17 c28 l29 l32 l35 l38 l41 again46 r56 r59 s141.1 s141.2) fun kk140 => ab (!r56) fun b142 => ab (!r59) fun b144 => ab (b142 && b144) fun b146 => bif b146 then ( (aB r17.1 c28 l29 l32 l35 l38 l41 c44 c45).bind fun r149 => (aq 2 r149 r17.1 c28 l29 l32 l35 l38 l41 c44 c45).bind fun r152 => kk140 (r152.1, r152.2)) else ( kk140 (c44, c45))) else ( ab (fun (s164 : Int × Int) => fA l29 l32 l35 l38 l41 s164.1 s164.2) fun kk163 => bif ((List.length l29 : Int) == 0) then ( (aB r17.1 c28 l29 l32 l35 l38 l41 c44 c45).bind fun r166 => (aq 2 r166 r17.1 c28 l29 l32 l35 l38 l41 c44 c45).bind fun r169 => kk163 (r169.1, r169.2)) else ( kk163 (c44, c45)))
def cR (text : Str) : Option Q23 := (dp text).bind fun r17 => bif (r17.2.1 != 0) then ( some (([], [], [], [], []), r17.2.1, r17.2.2)) else ( ao (cO r17) au (0, [], [], [], [], [], 0, 0))
def fk (text : Str) : Option (Q1 × Bool) := bif (decide (600 < (List.length text : Int))) then ( some (([], [], [], [], []), false)) else ( (cR text).bind fun r18 => some (r18.1, (r18.2.1 == 0)))
def qY (f : Q24) : Option Bool := ab (decide (f.1 < (-1073741824))) fun b5 => ab (decide (1073741824 < f.2)) fun b7 => ab (b5 || b7) fun b9 => ab (!b9) fun b11 => ab (decide (f.1 ≤ f.2)) fun b13 => ab (b11 && b13) fun b15 => ab (decide ((IntKind.i64.wrap (f.2 - f.1)) < 65536)) fun b17 => ab (b15 && b17) fun b19 => some b19
def tz (s : Q7) (again12 : ((List Bool) × Int) → Option (List Bool)) : (List Bool) × Int → Option (List Bool) := fun ⟨l10, t11⟩ => bif (decide (t11 < (List.length s : Int))) then ( (idx s t11).bind fun e14 => (qY e14).bind fun r19 => (idx l10 t11).bind fun _e22 => again12 ((List.set l10 (Int.toNat t11) r19), (IntKind.i64.wrap (t11 + 1)))) else ( some l10)
def pJ (s : Q7) : Option (List Bool) := chk (decide (0 ≤ (List.length s : Int))) <| chk (aw (Int.toNat (List.length s : Int)) 1) <| ao (tz s) au ((List.replicate (Int.toNat (List.length s : Int)) false), 0)
def pq (s : (List Bool)) (v3 : Bool) (again5 : Int → Option Int) (t4 : Int) : Option Int := bif (decide (t4 < (List.length s : Int))) then ( (idx s t4).bind fun e7 => bif (v3 == e7) then ( some t4) else ( again5 (IntKind.i64.wrap (t4 + 1)))) else ( some (-1))
def kY (s : (List Bool)) (v3 : Bool) : Option Int := ao (pq s v3) au 0
def jR (s : (List Bool)) (v3 : Bool) : Option Bool := (kY s v3).bind fun r3 => some (decide (0 ≤ r3))
def pK (s : Q7) : Option Bool := ab (decide (1 ≤ (List.length s : Int))) fun b3 => ab (decide ((List.length s : Int) ≤ 17)) fun b5 => ab (b3 && b5) fun b7 => bm b7 default (pJ s) fun r9 => bm b7 default (jR r9 false) fun r18 => ab (!r18) fun b24 => ab (b7 && b24) fun b26 => some b26
def dT (s : Q7) : Option Q7 := v7 s ( some []) ( chk (aw (List.length ([] : List Q24) + List.length s) 16) <| some (([] : List Q24) ++ s))
def vN (m : Q1) (a : Q13) : Option (Q7 × Int) := (pK ([(0, (max 0 (IntKind.i64.wrap ((List.length a.1 : Int) - 1))))] : List Q24)).bind fun r16 => bif (!r16) then ( some ([], 9)) else ( ( (dT m.2.1).bind fun r22 => chk (aw (List.length r22 + List.length ([(0, (max 0 (IntKind.i64.wrap ((List.length a.1 : Int) - 1))))] : List Q24)) 16) <| some ((r22 ++ ([(0, (max 0 (IntKind.i64.wrap ((List.length a.1 : Int) - 1))))] : List Q24)), 0)))
def nY (a : Q13) (v9 : Q2) (some_ : Q2) : Option Q26 := some (some_, a.1, a.2.1, a.2.2.1, a.2.2.2, v9)
def ml (is_ : Bool) : Option Int := bif is_ then ( some 1) else ( some 0)
def pR (a36 : Int) (b37 : Int) (turn38 : Bool) : Option Int := (ml ((decide (a36 ≤ b37)) != turn38)).bind fun r39 => some r39
def qw (a45 : Int) (b46 : Int) (turn47 : Bool) : Option Int := (ml ((decide (a45 < b46)) != turn47)).bind fun r48 => some r48
def qd (a54 : Int) (b55 : Int) (turn56 : Bool) : Option Int := (ml ((a54 == b55) != turn56)).bind fun r57 => some r57
def pV (e : Ex) (c12 : Int) (c13 : Int) (kk42 : (Int × Int × Bool) → Option Int) (kk51 : (Int × Int × Bool) → Option Int) : Option Int := bif (e.op == 12) then ( kk51 (c12, c13, true)) else ( bif (e.op == 9) then ( kk51 (c12, c13, false)) else ( bif (e.op == 11) then ( kk42 (c12, c13, true)) else ( bif (e.op == 10) then ( kk42 (c12, c13, false)) else ( bif (e.op == 13) then ( some 1) else ( bif (e.op == 15) then ( some (IntKind.i64.wrap (1 - c12))) else ( bif (e.op == 16) then ( some (IntKind.i64.wrap (c12 * c13))) else ( bif (e.op == 17) then ( some (max c12 c13)) else ( bif (e.op == 18) then ( some (max (IntKind.i64.wrap (1 - c12)) c13)) else ( some 0)))))))))
def qu (c12 : Int) (c13 : Int) (kk60 : (Int × Int × Bool) → Option Int) (kk88 : Unit → Option Int) (t91 : Bool) : Option Int := bif t91 then ( kk60 (c12, c13, false)) else ( kk88 ())
def bU (iC : (Ex × Q2) → Option Int) (e : Ex) (v3 : Q2) (again15 : Q10 → Option Int) : Int × Int × Int → Option Int := fun ⟨c12, c13, t14⟩ => bif (decide (t14 < (List.length (dm e.l 0 (min (List.length e.l : Int) 2)) : Int))) then ( (idx (dm e.l 0 (min (List.length e.l : Int) 2)) t14).bind fun e17 => (iC (e17, v3)).bind fun r26 => bif (t14 == 0) then ( again15 (r26, c13, (IntKind.i64.wrap (t14 + 1)))) else ( bif (t14 == 1) then ( again15 (c12, r26, (IntKind.i64.wrap (t14 + 1)))) else ( none))) else ( ab (fun (s43 : Int × Int × Bool) => pR s43.1 s43.2.1 s43.2.2) fun kk42 => ab (fun (s52 : Int × Int × Bool) => qw s52.1 s52.2.1 s52.2.2) fun kk51 => ab (fun (s61 : Int × Int × Bool) => qd s61.1 s61.2.1 s61.2.2) fun kk60 => bif (e.op == 1) then ( some e.n) else ( bif (e.op == 2) then ( ab (decide (e.n < 0)) fun b64 => ab (decide ((List.length v3 : Int) ≤ e.n)) fun b66 => ab (b64 || b66) fun b68 => bif b68 then ( some 0) else ( (idx v3 e.n).bind fun e71 => some e71)) else ( bif (e.op == 3) then ( some (IntKind.i64.wrap (c12 + c13))) else ( bif (e.op == 5) then ( some (IntKind.i64.wrap (c12 * c13))) else ( bif (e.op == 6) then ( some (IntKind.i64.wrap (0 - c12))) else ( bif (e.op == 4) then ( some (IntKind.i64.wrap (c12 - c13))) else ( bif (e.op == 8) then ( kk60 (c12, c13, true)) else ( ab (fun (_s89 : Unit) => pV e c12 c13 kk42 kk51) fun kk88 => ab (fun (s94 : Bool) => qu c12 c13 kk60 kk88 s94) fun kk93 => bif (e.op == 7) then ( kk93 (e.op == 7)) else ( kk93 (e.op == 19))))))))))
def lb (iC : (Ex × Q2) → Option Int) (e : Ex) (v3 : Q2) : Option Int := chk (kJ 0 (min (List.length e.l : Int) 2) (List.length e.l)) <| ao (bU iC e v3) au (0, 0, 0)
def ji (e : Ex) (v3 : Q2) : Option Int :=
 ao (fun k (s : (Ex × Q2)) => lb k s.1 s.2) au (e, v3)
def nR (e : Ex) (x : Q2) : Option Bool := (ji e x).bind fun r5 => some (r5 != 1)
def bT (s : (List Ex)) (c : Q2) (again5 : Int → Option Int) (t4 : Int) : Option Int := bif (decide (t4 < (List.length s : Int))) then ( (idx s t4).bind fun e7 => (nR e7 c).bind fun r13 => bif r13 then ( some t4) else ( again5 (IntKind.i64.wrap (t4 + 1)))) else ( some (-1))
def dE (s : (List Ex)) (c : Q2) : Option Int := ao (bT s c) au 0
def cY (s : (List Ex)) (c : Q2) : Option Bool := (dE s c).bind fun r3 => some (decide (0 ≤ r3))
def qh (a : Q13) (q : Int) (v9 : Q2) : Option Bool := (idx a.1 q).bind fun e7 => (cY e7 v9).bind fun r15 => some (!r15)
def bd (s : Q2) : Option Q2 := v7 s ( some []) ( chk (aw (List.length ([] : List Int) + List.length s) 8) <| some (([] : List Int) ++ s))
def dU (base : Int) (dst6 : Q2) (u9 : Int) : Option Q2 := (xw dst6 u9 base).bind fun r10 => some r10
def eV (dst : Q2) (i : Int) (base : Int) : Option Q2 := ab (fun (s14 : Q2 × Int) => dU base s14.1 s14.2) fun kk13 => bif (decide (i < 0)) then ( chk (aw (List.length dst + List.length ([45] : List Int)) 1) <| kk13 ((dst ++ ([45] : List Int)), (IntKind.u64.wrap (0 - (IntKind.u64.wrap i))))) else ( kk13 (dst, (IntKind.u64.wrap i)))
def gb (dst : Q2) (i : Int) (base : Int) : Option Q2 := (eV dst i base).bind fun r5 => some r5
def jU (x : Q2) (l : (List Q2)) (c9 : Q8) (again16 : Q19 → Option Q28) : Q2 × Int → Option Q28 := fun ⟨b12, t15⟩ => bif (decide (t15 < (List.length x : Int))) then ( (idx x t15).bind fun e18 => chk (aw (List.length b12 + List.length ([32] : List Int)) 1) <| (gb (b12 ++ ([32] : List Int)) e18 10).bind fun r26 => again16 (r26, (IntKind.i64.wrap (t15 + 1)))) else ( bif (!(iP c9 (strOf b12) false)) then ( (c9).bind fun m36 => chk (aw (List.length l + List.length ([x] : List Q2)) 24) <| some ((l ++ ([x] : List Q2)), (some (kM m36 (strOf b12) true)))) else ( some (l, c9)))
def qK (x : Q2) (l : (List Q2)) (c9 : Q8) : Option Q28 := ao (jU x l c9) au ([], 0)
def fG (x : Q2) (l : (List Q2)) (at_ : Q8) : Option Q28 := ab (fun (s47 : Q8) => qK x l s47) fun kk46 => bif ((Option.isNone at_)) then ( kk46 (some [] : Q8)) else ( kk46 at_)
def kj (r12 : Q26) (again33 : (Int × (List Q2) × Q8) → Option (List Q2)) : Int × (List Q2) × Q8 → Option (List Q2) := fun ⟨t27, l28, c31⟩ => bif (decide (t27 < (List.length r12.1 : Int))) then ( (idx r12.1 t27).bind fun e35 => (qh (r12.2.1, r12.2.2.1, r12.2.2.2.1, r12.2.2.2.2.1) e35 r12.2.2.2.2.2).bind fun r37 => bif r37 then ( (bd r12.2.2.2.2.2).bind fun r40 => chk (aw (List.length r40 + List.length ([e35] : List Int)) 8) <| (fG (r40 ++ ([e35] : List Int)) l28 c31).bind fun r51 => ab (!true) fun b57 => bif b57 then ( some r51.1) else ( again33 ((IntKind.i64.wrap (t27 + 1)), r51.1, r51.2))) else ( again33 ((IntKind.i64.wrap (t27 + 1)), l28, c31))) else ( some l28)
def j8 (m : Q1) (a : Q13) : Option (List Q2) := (nY a m.2.2.1 a.2.2.1).bind fun r12 => ao (kj r12) au (0, [], none)
def mu (x : Q2) : Option Q19 := chk (nQ 0 (IntKind.i64.wrap ((List.length x : Int) - 1)) (IntKind.i64.wrap ((List.length x : Int) - 1)) (List.length x)) <| (idx x (IntKind.i64.wrap ((List.length x : Int) - 1))).bind fun e12 => some ((dm x 0 (IntKind.i64.wrap ((List.length x : Int) - 1))), e12)
def sw (m : Q1) (v11 : Q2) : Option (Q9 × Q7 × Q2 × Q9 × Q4 × Q2) := some (m.1, m.2.1, m.2.2.1, m.2.2.2.1, m.2.2.2.2, v11)
def jQ (m : Q1) (v11 : Q2) (again13 : Q19 → Option Q2) : Q2 × Int → Option Q2 := fun ⟨out9, t12⟩ => bif (decide (t12 < (List.length m.2.2.2.2 : Int))) then ( (idx m.2.2.2.2 t12).bind fun e15 => (ji e15.2.1 v11).bind fun r26 => bif (r26 == 1) then ( chk (aw (List.length out9 + List.length ([t12] : List Int)) 8) <| again13 ((out9 ++ ([t12] : List Int)), (IntKind.i64.wrap (t12 + 1)))) else ( again13 (out9, (IntKind.i64.wrap (t12 + 1))))) else ( some out9)
def pS (m : Q1) (v11 : Q2) : Option Q2 := ao (jQ m v11) au ([], 0)
def mP (f : Q24) (n : Int) : Option Bool := ab (decide (f.1 ≤ n)) fun b5 => ab (decide (n ≤ f.2)) fun b7 => ab (b5 && b7) fun b9 => some b9
def jV (s : Q7) (v3 : Q2) (again6 : Int → Option Int) (t5 : Int) : Option Int := bif (decide (t5 < (List.length v3 : Int))) then ( (idx v3 t5).bind fun e8 => (idx s t5).bind fun e10 => (mP e10 e8).bind fun r12 => bif (!r12) then ( some 5) else ( again6 (IntKind.i64.wrap (t5 + 1)))) else ( some 0)
def ki (s : Q7) (v3 : Q2) : Option Int := bif ((List.length v3 : Int) != (List.length s : Int)) then ( some 1) else ( ao (jV s v3) au 0)
def mT (m : Q1) (v11 : Q2) (e21 : Q27) (again32 : Q19 → Option Q19) : Q2 × Int → Option Q19 := fun ⟨l30, t31⟩ => bif (decide (t31 < (List.length e21.2.2 : Int))) then ( (idx e21.2.2 t31).bind fun e34 => (ji e34.2 v11).bind fun r45 => (idx l30 e34.1).bind fun _e48 => again32 ((List.set l30 (Int.toNat e34.1) r45), (IntKind.i64.wrap (t31 + 1)))) else ( (ki m.2.1 l30).bind fun r51 => bif (r51 != 0) then ( some ([], 6)) else ( some (l30, 0)))
def qT (m : Q1) (v11 : Q2) (k : Int) : Option Q19 := ab (decide (k < 0)) fun b9 => ab (decide ((List.length m.2.2.2.2 : Int) ≤ k)) fun b11 => ab (b9 || b11) fun b13 => bif b13 then ( some ([], 10)) else ( (bd v11).bind fun r16 => (idx m.2.2.2.2 k).bind fun e21 => ao (mT m v11 e21) au (r16, 0))
def ed (addr : Bool) (_buf : Q2) : Option Bool := bif (!addr) then ( some true) else ( bif (!addr) then ( none) else ( some addr))
def dJ (s : Str) (addr : Bool) (buf : Q2) : Option (Int × Bool × Q2) := (ed addr buf).bind fun r1 => chk (aw (List.length buf + List.length s) 1) <| some ((List.length s : Int), r1, (buf ++ bytesOf s))
def ek (c : Int) (addr : Bool) (buf : Q2) : Option (Bool × Q2) := (ed addr buf).bind fun r1 => chk (aw (List.length buf + List.length ([c] : List Int)) 1) <| some (r1, (buf ++ ([c] : List Int)))
def fy (_addr : Bool) (buf : Q2) : Option Str := (idx buf 0).bind fun _e7 => chk (decide ((0 : Int) = 0) && decide ((List.length buf : Int) = (List.length buf : Int))) <| some (strOf buf)
def mz (v1 : Q2) (again11 : (Bool × Q2 × Int) → Option Str) : Bool × Q2 × Int → Option Str := fun ⟨c6, l7, t10⟩ => bif (decide (t10 < (List.length v1 : Int))) then ( (idx v1 t10).bind fun e13 => (Ar e13).bind fun r15 => (dJ r15 c6 l7).bind fun r16 => (ek 32 r16.2.1 r16.2.2).bind fun r21 => again11 (r21.1, r21.2, (IntKind.i64.wrap (t10 + 1)))) else ( (fy c6 l7).bind fun r26 => some r26)
def uG (v1 : Q2) : Option Str := ao (mz v1) au (false, [], 0)
def lr (v2 : Q2) (l : (List Q2)) (c10 : Q8) : Option Q28 := (uG v2).bind fun r12 => bif (!(iP c10 r12 false)) then ( (c10).bind fun m16 => chk (aw (List.length l + List.length ([v2] : List Q2)) 24) <| some ((l ++ ([v2] : List Q2)), (some (kM m16 r12 true)))) else ( some (l, c10))
def fR (v2 : Q2) (l : (List Q2)) (at_ : Q8) : Option Q28 := ab (fun (s27 : Q8) => lr v2 l s27) fun kk26 => bif ((Option.isNone at_)) then ( kk26 (some [] : Q8)) else ( kk26 at_)
def mw (v11 : Q2) (r15 : (Q9 × Q7 × Q2 × Q9 × Q4 × Q2)) (r26 : Q2) (again39 : (Int × Int × (List Q2) × Q8) → Option Q12) : Int × Int × (List Q2) × Q8 → Option Q12 := fun ⟨t32, c33, l34, c37⟩ => bif (decide (t32 < (List.length r26 : Int))) then ( (idx r26 t32).bind fun e41 => (qT (r15.1, r15.2.1, r15.2.2.1, r15.2.2.2.1, r15.2.2.2.2.1) r15.2.2.2.2.2 e41).bind fun r43 => bif (r43.2 != 0) then ( bif (!false) then ( some ([], r43.2)) else ( again39 ((IntKind.i64.wrap (t32 + 1)), r43.2, l34, c37))) else ( (fR r43.1 l34 c37).bind fun r52 => bif (!true) then ( bif ((List.length r52.1 : Int) == 0) then ( (bd v11).bind fun r60 => (fR r60 r52.1 r52.2).bind fun r65 => some (r65.1, 0)) else ( some (r52.1, 0))) else ( again39 ((IntKind.i64.wrap (t32 + 1)), c33, r52.1, r52.2)))) else ( bif ((List.length l34 : Int) == 0) then ( (bd v11).bind fun r76 => (fR r76 l34 c37).bind fun r81 => some (r81.1, 0)) else ( some (l34, 0)))
def qZ (m : Q1) (v11 : Q2) : Option Q12 := (sw m v11).bind fun r15 => (pS (r15.1, r15.2.1, r15.2.2.1, r15.2.2.2.1, r15.2.2.2.2.1) r15.2.2.2.2.2).bind fun r26 => ao (mw v11 r15 r26) au (0, 0, [], none)
def j7 (t30 : Int) (again31 : Q25 → Option Q12) (r47 : Q26) (again66 : (Int × (List Q2) × Q8) → Option Q12) : Int × (List Q2) × Q8 → Option Q12 := fun ⟨q60, c61, c64⟩ => bif (decide (q60 < (List.length r47.1 : Int))) then ( (idx r47.1 q60).bind fun e68 => (qh (r47.2.1, r47.2.2.1, r47.2.2.2.1, r47.2.2.2.2.1) e68 r47.2.2.2.2.2).bind fun r70 => bif r70 then ( (bd r47.2.2.2.2.2).bind fun r73 => chk (aw (List.length r73 + List.length ([e68] : List Int)) 8) <| (fG (r73 ++ ([e68] : List Int)) c61 c64).bind fun r84 => ab (!true) fun b90 => bif b90 then ( again31 (r84.1, r84.2, (IntKind.i64.wrap (t30 + 1)))) else ( again66 ((IntKind.i64.wrap (q60 + 1)), r84.1, r84.2))) else ( again66 ((IntKind.i64.wrap (q60 + 1)), c61, c64))) else ( again31 (c61, c64, (IntKind.i64.wrap (t30 + 1))))
def j3 (a : Q13) (r11 : Q19) (r16 : Q12) (again31 : Q25 → Option Q12) : (List Q2) × Q8 × Int → Option Q12 := fun ⟨l25, c28, t30⟩ => bif (decide (t30 < (List.length r16.1 : Int))) then ( (idx r16.1 t30).bind fun e33 => (idx a.2.1 r11.2).bind fun e41 => (nY a e33 e41).bind fun r47 => ao (j7 t30 again31 r47) au (0, l25, c28)) else ( some (l25, 0))
def lG (m : Q1) (a : Q13) (x : Q2) : Option Q12 := (mu x).bind fun r11 => (qZ m r11.1).bind fun r16 => bif (r16.2 != 0) then ( some ([], r16.2)) else ( ao (j3 a r11 r16) au ([], none, 0))
def ln (i46 : Int) (again47 : Q25 → Option Q12) (r63 : Q12) (again76 : Q25 → Option Q12) : (List Q2) × Q8 × Int → Option Q12 := fun ⟨c70, c73, t75⟩ => bif (decide (t75 < (List.length r63.1 : Int))) then ( (idx r63.1 t75).bind fun e78 => (fG e78 c70 c73).bind fun r84 => again76 (r84.1, r84.2, (IntKind.i64.wrap (t75 + 1)))) else ( again47 (c70, c73, (IntKind.i64.wrap (i46 + 1))))
def jz (m : Q1) (a : Q13) (most : Int) (again47 : Q25 → Option Q12) : (List Q2) × Q8 × Int → Option Q12 := fun ⟨c41, c44, i46⟩ => ab (decide (i46 < (List.length c41 : Int))) fun b48 => ab (decide ((List.length c41 : Int) ≤ most)) fun b50 => ab (b48 && b50) fun b52 => bif b52 then ( (idx c41 i46).bind fun e57 => (lG m a e57).bind fun r63 => bif (r63.2 != 0) then ( some ([], r63.2)) else ( ao (ln i46 again47 r63) au (c41, c44, 0))) else ( bif (decide (most < (List.length c41 : Int))) then ( some ([], 7)) else ( some (c41, 0)))
def lg (m : Q1) (a : Q13) (most : Int) (r13 : (List Q2)) (again26 : Q25 → Option Q12) : (List Q2) × Q8 × Int → Option Q12 := fun ⟨l20, c23, t25⟩ => bif (decide (t25 < (List.length r13 : Int))) then ( (idx r13 t25).bind fun e28 => (fG e28 l20 c23).bind fun r34 => again26 (r34.1, r34.2, (IntKind.i64.wrap (t25 + 1)))) else ( ao (jz m a most) au (l20, c23, 0))
def cV (m : Q1) (a : Q13) (most : Int) : Option Q12 := (j8 m a).bind fun r13 => ao (lg m a most r13) au ([], none, 0)
def gn (a : Q2) (b : Q2) (again6 : Int → Option Bool) (i5 : Int) : Option Bool := bif (decide (i5 < (List.length a : Int))) then ( (idx a i5).bind fun e10 => (idx b i5).bind fun e12 => bif (e10 != e12) then ( some false) else ( again6 (IntKind.i64.wrap (i5 + 1)))) else ( some true)
def fV (a : Q2) (b : Q2) : Option Bool := bif ((List.length a : Int) != (List.length b : Int)) then ( some false) else ( ao (gn a b) au 0)
def fI (a : (List Q2)) (b : (List Q2)) (again6 : Int → Option Bool) (i5 : Int) : Option Bool := bif (decide (i5 < (List.length a : Int))) then ( (idx a i5).bind fun e10 => (idx b i5).bind fun e16 => (fV e10 e16).bind fun r22 => bif (!r22) then ( some false) else ( again6 (IntKind.i64.wrap (i5 + 1)))) else ( some true)
def cq (a : (List Q2)) (b : (List Q2)) : Option Bool := bif ((List.length a : Int) != (List.length b : Int)) then ( some false) else ( ao (fI a b) au 0)
def qI (s : Q2) (v3 : Int) (again5 : Int → Option Int) (t4 : Int) : Option Int := bif (decide (t4 < (List.length s : Int))) then ( (idx s t4).bind fun e7 => bif (v3 == e7) then ( some t4) else ( again5 (IntKind.i64.wrap (t4 + 1)))) else ( some (-1))
def mX (s : Q2) (v3 : Int) : Option Int := ao (qI s v3) au 0
def kF (s : Q2) (v3 : Int) : Option Bool := (mX s v3).bind fun r3 => some (decide (0 ≤ r3))
def xL (a : Q13) (x : Q2) : Option Bool := (mu x).bind fun r5 => (idx a.2.2.2 0).bind fun e10 => (kF e10 r5.2).bind fun r16 => some r16
def gS : Option Bool := (fk [118, 97, 114, 32, 120, 32, 48, 32, 49, 32, 48, 59, 32, 112, 114, 111, 99, 32, 80, 32, 123, 32, 116, 114, 117, 101, 32, 58, 32, 120, 32, 61, 32, 49, 32, 45, 32, 120, 59, 32, 125]).bind fun r3 => (vN r3.1 (([([(Ex.mk 9 0 0 ([(Ex.mk 2 0 0 []), (Ex.mk 1 2 0 [])] : List Ex))] : List Ex)] : List (List Ex)), ([([0] : List Int)] : List Q2), ([0] : List Int), ([([0] : List Int)] : List Q2))).bind fun r41 => (cV r3.1 (([([(Ex.mk 9 0 0 ([(Ex.mk 2 0 0 []), (Ex.mk 1 2 0 [])] : List Ex))] : List Ex)] : List (List Ex)), ([([0] : List Int)] : List Q2), ([0] : List Int), ([([0] : List Int)] : List Q2)) 9).bind fun r46 => (lG r3.1 (([([(Ex.mk 9 0 0 ([(Ex.mk 2 0 0 []), (Ex.mk 1 2 0 [])] : List Ex))] : List Ex)] : List (List Ex)), ([([0] : List Int)] : List Q2), ([0] : List Int), ([([0] : List Int)] : List Q2)) ([1, 0] : List Int)).bind fun r53 => (cV r3.1 (([([(Ex.mk 9 0 0 ([(Ex.mk 2 0 0 []), (Ex.mk 1 2 0 [])] : List Ex))] : List Ex)] : List (List Ex)), ([([0] : List Int)] : List Q2), ([0] : List Int), ([([0] : List Int)] : List Q2)) 1).bind fun r58 => ab (r41.2 == 0) fun b63 => ab (r3.2 && b63) fun b65 => ab ((List.length r41.1 : Int) == 2) fun b67 => ab (b65 && b67) fun b69 => bm b69 (0, 0) (idx r41.1 1) fun e71 => ab (Od e71.1 e71.2 0 0) fun b73 => ab (b69 && b73) fun b75 => ab (r46.2 == 0) fun b77 => ab (b75 && b77) fun b79 => bm b79 default (cq r46.1 ([([0, 0] : List Int), ([1, 0] : List Int)] : List Q2)) fun r87 => ab (b79 && r87) fun b93 => ab (r53.2 == 0) fun b95 => ab (b93 && b95) fun b97 => bm b97 default (cq r53.1 ([([0, 0] : List Int)] : List Q2)) fun r103 => ab (b97 && r103) fun b109 => ab (r58.2 == 7) fun b111 => ab (b109 && b111) fun b113 => bm b113 default (j8 r3.1 (([([(Ex.mk 9 0 0 ([(Ex.mk 2 0 0 []), (Ex.mk 1 2 0 [])] : List Ex))] : List Ex)] : List (List Ex)), ([([0] : List Int)] : List Q2), ([0] : List Int), ([([0] : List Int)] : List Q2))) fun r115 => bm b113 default (cq r115 ([([0, 0] : List Int)] : List Q2)) fun r128 => ab (b113 && r128) fun b134 => bm b134 default (xL (([([(Ex.mk 9 0 0 ([(Ex.mk 2 0 0 []), (Ex.mk 1 2 0 [])] : List Ex))] : List Ex)] : List (List Ex)), ([([0] : List Int)] : List Q2), ([0] : List Int), ([([0] : List Int)] : List Q2)) ([1, 0] : List Int)) fun r138 => ab (b134 && r138) fun b144 => some b144
def az (is_ : Bool) : Option Int := bif is_ then ( some 1) else ( some 0)
def fN (e : Ex) (v3 : Q2) (a6 : Int) (b8 : Int) : Option Int := bif (e.op == 1) then ( some e.n) else ( bif (e.op == 2) then ( ab (decide (0 ≤ e.n)) fun b11 => ab (decide (e.n < (List.length v3 : Int))) fun b13 => ab (b11 && b13) fun b15 => bif b15 then ( (idx v3 e.n).bind fun e18 => some e18) else ( some 0)) else ( bif (e.op == 3) then ( some (IntKind.i64.wrap (a6 + b8))) else ( bif (e.op == 4) then ( some (IntKind.i64.wrap (a6 - b8))) else ( bif (e.op == 5) then ( some (IntKind.i64.wrap (a6 * b8))) else ( bif (e.op == 6) then ( some (IntKind.i64.wrap (0 - a6))) else ( bif (e.op == 7) then ( (az (a6 == b8)).bind fun r25 => some r25) else ( bif (e.op == 8) then ( (az (a6 != b8)).bind fun r29 => some r29) else ( bif (e.op == 9) then ( (az (decide (a6 < b8))).bind fun r33 => some r33) else ( bif (e.op == 10) then ( (az (decide (a6 ≤ b8))).bind fun r37 => some r37) else ( bif (e.op == 11) then ( (az (decide (b8 < a6))).bind fun r41 => some r41) else ( bif (e.op == 12) then ( (az (decide (b8 ≤ a6))).bind fun r45 => some r45) else ( bif (e.op == 13) then ( some 1) else ( bif (e.op == 15) then ( (az (a6 == 0)).bind fun r50 => some r50) else ( bif (e.op == 16) then ( ab (a6 == 1) fun b54 => ab (b8 == 1) fun b56 => ab (b54 && b56) fun b58 => (az b58).bind fun r60 => some r60) else ( bif (e.op == 17) then ( ab (a6 == 1) fun b64 => ab (b8 == 1) fun b66 => ab (b64 || b66) fun b68 => (az b68).bind fun r70 => some r70) else ( bif (e.op == 18) then ( ab (a6 == 0) fun b74 => ab (b8 == 1) fun b76 => ab (b74 || b76) fun b78 => (az b78).bind fun r80 => some r80) else ( bif (e.op == 19) then ( (az (a6 == b8)).bind fun r84 => some r84) else ( some 0))))))))))))))))))
def rT (bJ : (Ex × Q2) → Option Int) (e : Ex) (v3 : Q2) (a6 : Int) : Option Int := ab (fun (s88 : Int) => fN e v3 a6 s88) fun kk87 => bif (decide (1 < (List.length e.l : Int))) then ( (idx e.l 1).bind fun e90 => (bJ (e90, v3)).bind fun r96 => kk87 r96) else ( kk87 0)
def gw (bJ : (Ex × Q2) → Option Int) (e : Ex) (v3 : Q2) : Option Int := ab (fun (s100 : Int) => rT bJ e v3 s100) fun kk99 => bif (decide (0 < (List.length e.l : Int))) then ( (idx e.l 0).bind fun e102 => (bJ (e102, v3)).bind fun r108 => kk99 r108) else ( kk99 0)
def dX (e : Ex) (v3 : Q2) : Option Int :=
 ao (fun k (s : (Ex × Q2)) => gw k s.1 s.2) au (e, v3)
def eC (m : Q1) (v11 : Q2) (again13 : Q19 → Option Q2) : Q2 × Int → Option Q2 := fun ⟨out9, i12⟩ => bif (decide (i12 < (List.length m.2.2.2.2 : Int))) then ( (idx m.2.2.2.2 i12).bind fun e15 => (dX e15.2.1 v11).bind fun r23 => bif (r23 == 1) then ( chk (aw (List.length out9 + List.length ([i12] : List Int)) 8) <| again13 ((out9 ++ ([i12] : List Int)), (IntKind.i64.wrap (i12 + 1)))) else ( again13 (out9, (IntKind.i64.wrap (i12 + 1))))) else ( some out9)
def ja (m : Q1) (v11 : Q2) : Option Q2 := ao (eC m v11) au ([], 0)
def ea (m : Q1) (l23 : Q2) (again62 : Int → Option Q19) (i61 : Int) : Option Q19 := bif (decide (i61 < (List.length l23 : Int))) then ( (idx l23 i61).bind fun e66 => (idx m.2.1 i61).bind fun e68 => ab (decide (e66 < e68.1)) fun b70 => bm (!b70) 0 (idx l23 i61) fun e72 => bm (!b70) (0, 0) (idx m.2.1 i61) fun e74 => ab (decide (e74.2 < e72)) fun b76 => ab (b70 || b76) fun b78 => bif b78 then ( some ([], 6)) else ( again62 (IntKind.i64.wrap (i61 + 1)))) else ( some (l23, 0))
def fM (m : Q1) (v11 : Q2) (k : Int) (again25 : Q19 → Option Q19) : Q2 × Int → Option Q19 := fun ⟨l23, i24⟩ => (idx m.2.2.2.2 k).bind fun e26 => bif (decide (i24 < (List.length e26.2.2 : Int))) then ( (idx m.2.2.2.2 k).bind fun e35 => (idx e35.2.2 i24).bind fun e43 => (dX e43.2 v11).bind fun r54 => (idx l23 e43.1).bind fun _e57 => again25 ((List.set l23 (Int.toNat e43.1) r54), (IntKind.i64.wrap (i24 + 1)))) else ( ao (ea m l23) au 0)
def il (m : Q1) (v11 : Q2) (k : Int) : Option Q19 := ab (decide (k < 0)) fun b9 => ab (decide ((List.length m.2.2.2.2 : Int) ≤ k)) fun b11 => ab (b9 || b11) fun b13 => bif b13 then ( some ([], 10)) else ( chk (aw (List.length ([] : List Int) + List.length v11) 8) <| ao (fM m v11 k) au ((([] : List Int) ++ v11), 0))
def eo (l : (List Q2)) (v3 : Q2) (again5 : Int → Option Int) (i4 : Int) : Option Int := bif (decide (i4 < (List.length l : Int))) then ( (idx l i4).bind fun e7 => (fV e7 v3).bind fun r13 => bif r13 then ( some i4) else ( again5 (IntKind.i64.wrap (i4 + 1)))) else ( some (-1))
def cP (l : (List Q2)) (v3 : Q2) : Option Int := ao (eo l v3) au 0
def fJ (m : Q1) (v11 : Q2) (r9 : Q2) (again30 : Q12 → Option Q12) : (List Q2) × Int → Option Q12 := fun ⟨out26, i29⟩ => bif (decide (i29 < (List.length r9 : Int))) then ( (idx r9 i29).bind fun e34 => (il m v11 e34).bind fun r36 => bif (r36.2 != 0) then ( some ([], r36.2)) else ( (cP out26 r36.1).bind fun r42 => bif (decide (r42 < 0)) then ( chk (aw (List.length out26 + List.length ([r36.1] : List Q2)) 24) <| again30 ((out26 ++ ([r36.1] : List Q2)), (IntKind.i64.wrap (i29 + 1)))) else ( again30 (out26, (IntKind.i64.wrap (i29 + 1)))))) else ( some (out26, 0))
def iA (m : Q1) (v11 : Q2) : Option Q12 := (ja m v11).bind fun r9 => bif ((List.length r9 : Int) == 0) then ( chk (aw (List.length ([] : List Int) + List.length v11) 8) <| some (([(([] : List Int) ++ v11)] : List Q2), 0)) else ( ao (fJ m v11 r9) au ([], 0))
def fz (i23 : Int) (again24 : Q12 → Option Q18) (r35 : Q12) (again54 : Q12 → Option Q18) : (List Q2) × Int → Option Q18 := fun ⟨l50, k53⟩ => bif (decide (k53 < (List.length r35.1 : Int))) then ( (idx r35.1 k53).bind fun e56 => (cP l50 e56).bind fun r62 => bif (decide (r62 < 0)) then ( (idx r35.1 k53).bind fun e66 => chk (aw (List.length l50 + List.length ([e66] : List Q2)) 24) <| again54 ((l50 ++ ([e66] : List Q2)), (IntKind.i64.wrap (k53 + 1)))) else ( again54 (l50, (IntKind.i64.wrap (k53 + 1))))) else ( again24 (l50, (IntKind.i64.wrap (i23 + 1))))
def dM (m : Q1) (most : Int) (again24 : Q12 → Option Q18) : (List Q2) × Int → Option Q18 := fun ⟨l20, i23⟩ => bif (decide (i23 < (List.length l20 : Int))) then ( bif (decide (most < (List.length l20 : Int))) then ( some ([], 7, [])) else ( (idx l20 i23).bind fun e29 => (iA m e29).bind fun r35 => bif (r35.2 != 0) then ( (idx l20 i23).bind fun e43 => some ([], r35.2, e43)) else ( ao (fz i23 again24 r35) au (l20, 0)))) else ( some (l20, 0, []))
def dK (m : Q1) (most : Int) : Option Q18 := chk (aw (List.length ([] : List Int) + List.length m.2.2.1) 8) <| ao (dM m most) au (([(([] : List Int) ++ m.2.2.1)] : List Q2), 0)
def dz (n : Int) (r22 : Q18) (r144 : Q12) (i173 : Int) (again174 : Int → Option Bool) (again178 : Int → Option Bool) (q177 : Int) : Option Bool := bif (decide (q177 < (IntKind.i64.wrap (1 + (Int.tmod (IntKind.i64.wrap n) 4))))) then ( (idx r22.1 i173).bind fun e182 => chk (aw (List.length ([] : List Int) + List.length e182) 8) <| chk (aw (List.length (([] : List Int) ++ e182) + List.length ([q177] : List Int)) 8) <| (cP r144.1 ((([] : List Int) ++ e182) ++ ([q177] : List Int))).bind fun r198 => bif (decide (r198 < 0)) then ( some false) else ( again178 (IntKind.i64.wrap (q177 + 1)))) else ( again174 (IntKind.i64.wrap (i173 + 1)))
def cj (n : Int) (r3 : Bool) (r6 : (Q1 × Bool)) (r22 : Q18) (each42 : Q2) (l67 : Q20) (l70 : (List Q2)) (r139 : Q12) (r144 : Q12) (again174 : Int → Option Bool) (i173 : Int) : Option Bool := bif (decide (i173 < (List.length r22.1 : Int))) then ( ao (dz n r22 r144 i173 again174) au 0) else ( bm r3 default (j8 r6.1 (l67, l70, each42, ([each42] : List Q2))) fun r202 => bm r3 default (cq r202 r139.1) fun r211 => ab (r3 && r211) fun b217 => some b217)
def ck (n : Int) (r3 : Bool) (r6 : (Q1 × Bool)) (r22 : Q18) (each42 : Q2) (again74 : Q29 → Option Bool) : Q20 × (List Q2) × Q20 × (List Q2) × Q20 × (List Q2) × Int → Option Bool := fun ⟨l55, l58, l61, l64, l67, l70, q73⟩ => bif (decide (q73 < (IntKind.i64.wrap (1 + (Int.tmod (IntKind.i64.wrap n) 4))))) then ( chk (aw (List.length l55 + List.length ([([(Ex.mk 14 0 0 [])] : List Ex)] : List (List Ex))) 24) <| chk (aw (List.length l58 + List.length ([each42] : List Q2)) 24) <| chk (aw (List.length l61 + List.length ([[]] : List (List Ex))) 24) <| chk (aw (List.length l64 + List.length ([[]] : List Q2)) 24) <| chk (aw (List.length l67 + List.length ([([(Ex.mk 13 0 0 [])] : List Ex)] : List (List Ex))) 24) <| chk (aw (List.length l70 + List.length ([each42] : List Q2)) 24) <| again74 ((l55 ++ ([([(Ex.mk 14 0 0 [])] : List Ex)] : List (List Ex))), (l58 ++ ([each42] : List Q2)), (l61 ++ ([[]] : List (List Ex))), (l64 ++ ([[]] : List Q2)), (l67 ++ ([([(Ex.mk 13 0 0 [])] : List Ex)] : List (List Ex))), (l70 ++ ([each42] : List Q2)), (IntKind.i64.wrap (q73 + 1)))) else ( (cV r6.1 (l55, l58, each42, ([each42] : List Q2)) 1000).bind fun r134 => (cV r6.1 (l61, l64, each42, ([[]] : List Q2)) 1000).bind fun r139 => (cV r6.1 (l67, l70, each42, ([each42] : List Q2)) 1000).bind fun r144 => ab (r134.2 != 0) fun b149 => ab (r139.2 != 0) fun b151 => ab (b149 || b151) fun b153 => ab (r144.2 != 0) fun b155 => ab (b153 || b155) fun b157 => ab ((List.length r134.1 : Int) != 0) fun b159 => ab (b157 || b159) fun b161 => ab ((List.length r139.1 : Int) != (IntKind.i64.wrap (1 + (Int.tmod (IntKind.i64.wrap n) 4)))) fun b163 => ab (b161 || b163) fun b165 => ab ((List.length r144.1 : Int) != (IntKind.i64.wrap ((IntKind.i64.wrap (1 + (Int.tmod (IntKind.i64.wrap n) 4))) * (List.length r22.1 : Int)))) fun b167 => ab (b165 || b167) fun b169 => bif b169 then ( some false) else ( ao (cj n r3 r6 r22 each42 l67 l70 r139 r144) au 0))
def dB (n : Int) (r3 : Bool) (r6 : (Q1 × Bool)) (r22 : Q18) (again46 : Q19 → Option Bool) : Q2 × Int → Option Bool := fun ⟨each42, q45⟩ => bif (decide (q45 < (IntKind.i64.wrap (1 + (Int.tmod (IntKind.i64.wrap n) 4))))) then ( chk (aw (List.length each42 + List.length ([q45] : List Int)) 8) <| again46 ((each42 ++ ([q45] : List Int)), (IntKind.i64.wrap (q45 + 1)))) else ( ao (ck n r3 r6 r22 each42) au ([], [], [], [], [], [], 0))
def ec (text : Str) (n : Int) : Option Bool := (gS).bind fun r3 => (fk text).bind fun r6 => (dK r6.1 60).bind fun r22 => ab (!r6.2) fun b28 => ab (r22.2.1 != 0) fun b30 => ab (b28 || b30) fun b32 => bif b32 then ( some r3) else ( ao (dB n r3 r6 r22) au ([], 0))
end
end Go.Proofs.YtkckoolfgnkpcaaDoor
namespace Go.Proofs
open Go.Shelf
def Tryd.uz : Go.Shelf.Ren := ⟨fun | 171 => 70 | 243 => 80 | 246 => 91 | 283 => 74 | 284 => 75 | 285 => 76 | 286 => 77 | 129 => 86 | 317 => 85 | 318 => 87 | 319 => 88 | 320 => 89 | 337 => 92 | 338 => 93 | n => n, fun | 3 => 3 | 9 => 9 | 2 => 2 | 4 => 4 | 171 => 145 | 0 => 0 | 53 => 126 | 37 => 84 | 5 => 5 | 173 => 148 | 212 => 155 | 51 => 156 | 20 => 20 | 213 => 157 | 46 => 158 | 232 => 164 | 233 => 165 | n => n, fun | 17 => 0 | 18 => 1 | 19 => 2 | n => n⟩
theorem Tryd.J5 : Go.Proofs.LaysM.n171 Tryd.prog Tryd.uz := {
 mixed := by kernel_rfl
 f129 := Tryd.func86.trans (congrArg some (by kernel_rfl))
 f171 := Tryd.func70.trans (congrArg some (by kernel_rfl))
 f243 := Tryd.func80.trans (congrArg some (by kernel_rfl))
 f246 := Tryd.func91.trans (congrArg some (by kernel_rfl))
 f283 := Tryd.func74.trans (congrArg some (by kernel_rfl))
 f284 := Tryd.func75.trans (congrArg some (by kernel_rfl))
 f285 := Tryd.func76.trans (congrArg some (by kernel_rfl))
 f286 := Tryd.func77.trans (congrArg some (by kernel_rfl))
 f317 := Tryd.func85.trans (congrArg some (by kernel_rfl))
 f318 := Tryd.func87.trans (congrArg some (by kernel_rfl))
 f319 := Tryd.func88.trans (congrArg some (by kernel_rfl))
 f320 := Tryd.func89.trans (congrArg some (by kernel_rfl))
 f337 := Tryd.func92.trans (congrArg some (by kernel_rfl))
 f338 := Tryd.func93.trans (congrArg some (by kernel_rfl))
 t0 := Tryd.underlying0
 a0 := Tryd.isAgg0
 z0 := Tryd.sizeOf0
 v0 := Tryd.zeroValue0
 t2 := Tryd.underlying2
 a2 := Tryd.isAgg2
 z2 := Tryd.sizeOf2
 v2 := Tryd.zeroValue2
 t3 := Tryd.underlying3
 a3 := Tryd.isAgg3
 z3 := Tryd.sizeOf3
 v3 := Tryd.zeroValue3
 t4 := Tryd.underlying4
 a4 := Tryd.isAgg4
 z4 := Tryd.sizeOf4
 v4 := Tryd.zeroValue4
 t5 := Tryd.underlying5
 a5 := Tryd.isAgg5
 z5 := Tryd.sizeOf5
 v5 := Tryd.zeroValue5
 t9 := Tryd.underlying9
 a9 := Tryd.isAgg9
 z9 := Tryd.sizeOf9
 v9 := Tryd.zeroValue9
 t20 := Tryd.underlying20
 a20 := Tryd.isAgg20
 z20 := Tryd.sizeOf20
 v20 := Tryd.zeroValue20
 t37 := Tryd.underlying84
 a37 := Tryd.isAgg84
 z37 := Tryd.sizeOf84
 v37 := Tryd.zeroValue84
 t46 := Tryd.underlying158
 a46 := Tryd.isAgg158
 z46 := Tryd.sizeOf158
 v46 := Tryd.zeroValue158
 t51 := Tryd.underlying156
 a51 := Tryd.isAgg156
 z51 := Tryd.sizeOf156
 v51 := Tryd.zeroValue156
 t53 := Tryd.underlying126
 a53 := Tryd.isAgg126
 z53 := Tryd.sizeOf126
 v53 := Tryd.zeroValue126
 t171 := Tryd.underlying145
 a171 := Tryd.isAgg145
 z171 := Tryd.sizeOf145
 v171 := Tryd.zeroValue145
 t173 := Tryd.underlying148
 a173 := Tryd.isAgg148
 z173 := Tryd.sizeOf148
 v173 := Tryd.zeroValue148
 t212 := Tryd.underlying155
 a212 := Tryd.isAgg155
 z212 := Tryd.sizeOf155
 v212 := Tryd.zeroValue155
 t213 := Tryd.underlying157
 a213 := Tryd.isAgg157
 z213 := Tryd.sizeOf157
 t232 := Tryd.underlying164
 a232 := Tryd.isAgg164
 z232 := Tryd.sizeOf164
 v232 := Tryd.zeroValue164
 t233 := Tryd.underlying165
 a233 := Tryd.isAgg165
 z233 := Tryd.sizeOf165
 v233 := Tryd.zeroValue165
 g17 := by kernel_rfl
 g18 := by kernel_rfl
 g19 := by kernel_rfl
 i0 := by kernel_rfl
 i2 := by kernel_rfl
 i3 := by kernel_rfl
 i4 := by kernel_rfl
 i5 := by kernel_rfl
 i9 := by kernel_rfl
 i20 := by kernel_rfl
 i37 := by kernel_rfl
 i46 := by kernel_rfl
 i51 := by kernel_rfl
 i53 := by kernel_rfl
 i171 := by kernel_rfl
 i173 := by kernel_rfl
 i212 := by kernel_rfl
 i232 := by kernel_rfl
 i233 := by kernel_rfl
 m17 := by kernel_rfl
 m18 := by kernel_rfl
 m19 := by kernel_rfl }
end Go.Proofs
namespace Go.Proofs.YtkckoolfgnkpcaaDoor
open Go.Proofs Go.Shelf Go.Lib
theorem IZ {P : Program} {Γg : Ctx} {ρ : Go.Shelf.Ren} (L : Go.Proofs.LaysM.n171 P ρ) (hE : Enters P (ρ.f 171)) {G : Nat} {tab : List Int} (hg : P.globalNamed "internal/strconv.uint64pow10" = some G) (hΓ : gl G (tab.map (Value.int .u64)) ∈ Γg) (ht : Lib.pow10Tab = tab)
  (m : Int → Option Str) (hm : ∀ n r, m n = some r → zh n = true ∧ r = Lib.itoa n) : (⟨ρ.f 171, [.int .i64], .str, [], fun s => m s⟩ : Ent).Ok P Γg := by
 refine ⟨hE, fun s r hr vs N I X Φ w hS hs hΦ => ?_⟩
 obtain ⟨v2, vs2, D3, D4, I3, I4, X3, X4, N2, rfl, ⟨x, rfl, rfl, rfl, rfl, rfl⟩, ⟨rfl, rfl, rfl, rfl, rfl⟩, hD, rfl, rfl⟩ := hS
 obtain ⟨hn, rfl⟩ := hm s r hr
 have hx : x = s := by
  have hD : [(⟨.i .i64, s⟩ : Dyn)] = [⟨.i .i64, x⟩] := hD
  simp only [List.cons.injEq, and_true] at hD
  cases hD
  rfl
 subst hx
 obtain ⟨h0, h1⟩ := BY.1 hn
 have hs : Sat Φ w := hs
 obtain ⟨i, hi⟩ := List.getElem?_of_mem (hΦ _ hΓ)
 obtain ⟨_, t, fr, hb⟩ := hs.gl0 hi
 have htab : Lib.TabIs P w "internal/strconv.uint64pow10" .u64 Lib.pow10Tab := by
  unfold Lib.TabIs World.var?
  rw [hg, ht]
  simp [hb]
 refine Calls.mono (Any.strconv_Itoa L x h0 h1 w htab) ?_
 rintro e w' ⟨rfl, k, os, rfl⟩
 refine ⟨[], [], [⟨.s, Lib.itoa x⟩], [], [], [], [], [], ⟨_, rfl, rfl, rfl, rfl, rfl⟩, ⟨rfl, rfl, rfl, rfl⟩, rfl, ?_⟩
 refine Sat.ext (Γ := Φ) hs ⟨rfl, rfl, rfl, ?_, fun b hb => ?_⟩
 ·simp [Sort.grow, World.drewN]
 ·simp [Sort.grow, World.drewN, Array.getElem?_append, hb]
end Go.Proofs.YtkckoolfgnkpcaaDoor
namespace Go.Proofs.YtkckoolfgnkpcaaDoor
open Go.Proofs Go.Shelf Go.Lib Go.Sort
section
variable {P : Program} {E : Env} {w : World} {dst : Option Tmp} {ty : TypeId} {pos : String} {af : Array Edge} {gd : Option (Nat × Bool)} {g : Bool}
theorem vO {x y : Operand} {p : Addr} {len m bytes : Nat} {z : Value} {t e : TypeId} {k : IntKind} {h : Int} (ht : P.underlying t = some (.array len e)) (hti : TI P e m bytes z) (h0 : 0 ≤ h) (h2 : h ≤ len)
  (hx : Opd E g x (.pointer (some p))) (hy : Opd E g y (.int k h)) :
  Run P E g ⟨dst, .slice t x none (some y) none, ty, pos, af, gd⟩ w (.slice (some p) h.toNat len) :=
 fun n' a hf hg => by
  obtain ⟨i', hii, hs, _, _⟩ := hti.out
  simp [execOp, hx n' a hf hg, hy n' a hf hg, Instr.sliceAt, run_underlying ht, Instr.sureAddr, Instr.sliceBounds, run_sliceBound, sizeOf, typeInfo, hii, Addr.add, h0, h2]
end
theorem GM {M : Nat → Prop} {w : World} {b u v' : Nat} {dk : Array UInt8} {cs : Array Value} {e : TypeId} {fr : Nat × Nat} (hM : ¬ M b) (hb : w.heap[b]? = some (.cells cs e fr)) (h24 : nDigits u ≤ 24) (hcs : cs.size = 24)
  (hc : ∀ j, j < nDigits u → cs[j]? = some (Value.int .u8 ((dk[j]!).toNat : Int))) (hk : FmtInv (nDigits u) u 0 v' dk) :
  SRd (RI .u8) M w (.slice (some ⟨b, 0, none⟩) (nDigits u) 24) (bytesOf (decDigits u)) := by
 have hl : (bytesOf (decDigits u)).length = nDigits u := by simp [bytesOf, decDigits_length]
 refine .inr ⟨b, 0, 24, cs, e, fr, by rw [hl], hM, hb, by omega, by show 0 + 24 * 1 ≤ _; omega, ?_⟩
 rw [hl]
 refine ⟨?_, fun i hi => ?_⟩
 ·rw [hl]
  show (List.take (nDigits u * 1) (List.drop 0 cs.toList)).length = nDigits u * 1
  simp only [List.length_take, List.length_drop, Array.length_toList]
  omega
 ·rw [hl] at hi
  have h1 := hc i hi
  show ((List.drop (i * 1) (List.take (nDigits u * 1) (List.drop 0 cs.toList))).take 1) = [Value.int .u8 _]
  have h2 : (List.take (nDigits u * 1) (List.drop 0 cs.toList))[i]? = some (Value.int .u8 ((dk[i]!).toNat : Int)) := by
   rw [List.getElem?_take, if_pos (by omega), List.drop_zero]
   simpa using h1
  obtain ⟨h3, h4⟩ := List.getElem?_eq_some_iff.1 h2
  rw [Nat.mul_one, List.drop_eq_getElem_cons h3, h4]
  have h5 := row_is_numeral hk i (by rw [decDigits_length]; exact hi)
  simp only [bytesOf, List.getElem_map, h5]
  rfl
theorem Nh {P : Program} {Γ : Ctx} {w : World} {G : Nat} {tab : List Int} (hg : P.globalNamed "internal/strconv.uint64pow10" = some G) (hΓ : gl G (tab.map (Value.int .u64)) ∈ Γ) (ht : Lib.pow10Tab = tab) (hs : Sat Γ w) :
  Lib.TabIs P w "internal/strconv.uint64pow10" .u64 Lib.pow10Tab := by
 obtain ⟨i, hi⟩ := List.getElem?_of_mem hΓ
 obtain ⟨_, t, fr, hb⟩ := hs.gl0 hi
 unfold Lib.TabIs World.var?
 rw [hg, ht]
 simp [hb]
set_option maxRecDepth 10000 in
theorem G8 {P : Program} {ρ : Go.Shelf.Ren} (L : Go.Proofs.LaysM.n288 P ρ) {G : Nat} {tab : List Int} (hg : P.globalNamed "internal/strconv.uint64pow10" = some G) (ht : Lib.pow10Tab = tab)
  {Φ : Ctx} (hΓ : gl G (tab.map (Value.int .u64)) ∈ Φ) {u : Nat} (hu : u < 18446744073709551616) {v : SLV} {l : List Int} {R : List Nat} {w : World} (hs : Sat (osl (RI .u8) (ρ.t 5) (sl v) l R :: Φ) w) (hroom : aw (l.length + 24) 1 = true) :
  jD P (ρ.f 288) [sl v, .int .u64 (u : Int), .int .i64 10] w fun v' w' => ∃ (p : SLV) (R' : List Nat), v' = sl p ∧ Sat (osl (RI .u8) (ρ.t 5) (sl p) (l ++ bytesOf (decDigits u)) R' :: Φ) w' := by
 have e283 : Enters P (ρ.f 283) := enters_of L.f283 (by kernel_rfl) rfl
 have e284 : Enters P (ρ.f 284) := enters_of L.f284 (by kernel_rfl) rfl
 have e285 : Enters P (ρ.f 285) := enters_of L.f285 (by kernel_rfl) rfl
 have ti5 : TI P (ρ.t 5) 1 1 (.int .u8 0) := by
  have := L.i5
  unfold TI
  cases hi : P.info? (ρ.t 5) with
  | none => rw [hi] at this; cases this
  | some i => rw [hi] at this; simp only [Option.map_some, Option.some.injEq, Prod.mk.injEq] at this ⊢; exact ⟨this.2.1, this.2.2, this.1⟩
 have ti171 : TI P (ρ.t 171) 24 24 (.agg zeros24) := by
  have := L.i171
  unfold TI
  cases hi : P.info? (ρ.t 171) with
  | none => rw [hi] at this; cases this
  | some i => rw [hi] at this; simp only [Option.map_some, Option.some.injEq, Prod.mk.injEq] at this ⊢; exact ⟨this.2.1, this.2.2, this.1⟩
 simp only [aw, Bool.and_eq_true] at hroom
 have hr1 := Nat.le_of_ble_eq_true hroom.1
 have room : ∀ k, k ≤ 20 → aw (l.length + k) 1 = true := fun k hk => by
  simp only [aw, Bool.and_eq_true]
  exact ⟨Nat.ble_eq_true_of_le (by omega), Nat.ble_eq_true_of_le (by omega)⟩
 have hd := nDigits_le20 u hu
 refine p9 L.f288 rfl rfl rfl ?_
 refine fF ?_
 refine fH ?_
 refine gP (mA Opd.c) rfl rfl rfl rfl <| jE ?_
 refine dZ ?_
 refine fF ?_
 refine fF ?_
 refine fH ?_
 refine gP (iG (Opd.t rfl)) rfl rfl rfl rfl <| gP (DV (Opd.t rfl) Opd.c) rfl rfl rfl rfl <| jE ?_
 refine dZ ?_
 refine rR (Opd.t rfl) (fun _ => ?_) (fun h => by cases h)
 refine fF ?_
 refine fF ?_
 refine fH ?_
 refine gP (iG (Opd.t rfl)) rfl rfl rfl rfl <| gP (DU (Opd.t rfl) Opd.c) rfl rfl rfl rfl <| jE ?_
 refine dZ ?_
 refine rR (Opd.t rfl) (fun h => ?_) (fun h => ?_)
 · -- small
  have hu100 : u < 100 := by have := of_decide_eq_true h; omega
  refine fF ?_
  refine fH ?_
  have hw : IntKind.i64.wrap (u : Int) = (u : Int) := w64 (by omega)
  refine gP (iG (Opd.t rfl)) rfl rfl rfl rfl <| gP (iG (Opd.t rfl)) rfl rfl rfl rfl <| gP (CI L.t53 L.t3 (Opd.t rfl)) rfl rfl rfl rfl <| ?_
  rw [hw]
  refine yq (first := []) (cap := []) (vs := [.int .i64 (u : Int)]) (args := [.int .i64 (u : Int)]) (xs := [.tmp 15]) (S := fun v' w' => v' = S (decDigits u) ∧ w' = w) e283 Opd.f (fS.cons (Opd.t rfl) fS.nil) rfl rfl ?_ ?_
  ·refine Calls.mono (Any.internal_strconv_small { L with } u hu100 w) ?_
   rintro e w' ⟨rfl, rfl⟩
   exact ⟨rfl, rfl⟩
  ·rintro v' w' ⟨rfl, rfl⟩
   refine E5 hs 0 rfl L.t37 L.t9 ti5 (Opd.t rfl) (Opd.t rfl) (room _ (by rw [decDigits_length]; exact hd)) rfl ?_
   intro p R' w' hs'
   refine gP (mA (Opd.t rfl)) rfl rfl rfl rfl <| jE ?_
   refine dZ ?_
   refine uk ?_
   repeat refine vP ?_
   refine KR rfl (jn.t rfl) ?_
   exact ⟨p, R', rfl, hs'⟩
 · -- large
  have hu100 : 100 ≤ u := by have := of_decide_eq_false h; omega
  refine yL ?_
  refine dZ ?_
  refine fF ?_
  refine fH ?_
  refine IJ (zs := zeros24.toList) hs ti171 (by simp [Value.cells]) rfl ?_
  intro b w1 hs1
  refine jE ?_
  refine dZ ?_
  refine fF ?_
  refine fH ?_
  refine gP (iG (Opd.t rfl)) rfl rfl rfl rfl <| ?_
  refine yq (first := []) (cap := []) (vs := [.int .u64 (u : Int)]) (args := [.int .u64 (u : Int)]) (xs := [.tmp 18]) (S := fun v' w' => v' = .int .i64 (nDigits u : Int) ∧ w' = w1) e284 Opd.f (fS.cons (Opd.t rfl) fS.nil) rfl rfl ?_ ?_
  ·refine Calls.mono (Any.internal_strconv_numDigits { L with } u (by omega) hu w1 (Nh hg (List.mem_cons_of_mem _ (List.mem_cons_of_mem _ hΓ)) ht hs1)) ?_
   rintro e w' ⟨rfl, rfl⟩
   exact ⟨rfl, rfl⟩
  rintro v' w2 ⟨rfl, hw2⟩
  obtain rfl : w1 = w2 := hw2.symm
  refine gP (mA (Opd.t rfl)) rfl rfl rfl rfl <| jE ?_
  refine dZ ?_
  refine fF ?_
  refine fH ?_
  refine gP (iG (Opd.t rfl)) rfl rfl rfl rfl <| gP (vO L.t171 ti5 (by omega) (by omega) (Opd.t rfl) (Opd.t rfl)) rfl rfl rfl rfl <| gP (iG (Opd.t rfl)) rfl rfl rfl rfl <| ?_
  rw [Int.toNat_natCast]
  refine yq (first := []) (cap := []) (vs := [.slice (some ⟨b, 0, none⟩) (nDigits u) 24, .int .u64 (u : Int)]) (args := [.slice (some ⟨b, 0, none⟩) (nDigits u) 24, .int .u64 (u : Int)]) (xs := [.tmp 21, .tmp 22])
   (S := fun _ w' => Sat (imm (RSl (RI .u8)) [.slice (some ⟨b, 0, none⟩) (nDigits u) 24] (bytesOf (decDigits u)) :: osl (RI .u8) (ρ.t 5) (sl v) l R :: Φ) w') e285 Opd.f ?_ rfl rfl ?_ ?_
  ·exact fS.cons (Opd.t rfl) (fS.cons (Opd.t rfl) fS.nil)
  ·have hbx := hs1.box (i := 0) rfl
   have hblk : w1.heap[b]? = some (.cells zeros24.toList.toArray (ρ.t 171) (0, 0)) := hbx
   have hH : Holds (fun (b : UInt8) => Value.int .u8 (b.toNat : Int)) w1 b 0 (Array.replicate (nDigits u) (0 : UInt8)) := fun j hj => by
    have hj' : j < nDigits u := by simpa using hj
    refine ⟨?_, ?_⟩
    ·simp only [World.cell?, hblk, Nat.zero_add]
     rw [getElem!_pos _ j hj]
     simpa using zeros24_at j (by omega)
    ·simp [World.frozen?, hblk]
   have key := Any.internal_strconv_formatBase10 (P := P) (ρ := ρ) { L with } b 0 24 u (Array.replicate (nDigits u) (0 : UInt8)) w1 hH (by rw [Array.size_replicate]; exact lt_pow_nDigits u) hu (by rw [Array.size_replicate]; omega)
   rw [Array.size_replicate] at key
   refine Calls.mono key ?_
   rintro e w' ⟨rfl, n, v', dk, rfl, hk⟩
   have hp : ∀ k, ((putRow (fun (b : UInt8) => Value.int .u8 (b.toNat : Int)) w1 b 0 dk).drewN n).heap[k]? = if k = b then some (.cells (putCells (fun (b : UInt8) => Value.int .u8 (b.toNat : Int)) 0 dk zeros24.toList.toArray) (ρ.t 171) (0, 0)) else w1.heap[k]? := fun k => by
    simp only [World.drewN, putRow, mapBlock, Array.getElem?_modify]
    by_cases hk : k = b
    ·subst hk
     simp [hblk, onCells]
    ·rw [if_neg hk, if_neg (fun e => hk e.symm)]
   refine hs1.upd (i := 0) (new := imm (RSl (RI .u8)) [.slice (some ⟨b, 0, none⟩) (nDigits u) 24] (bytesOf (decDigits u))) rfl ⟨rfl, rfl, rfl, ?_, fun k hk1 hk2 => ?_⟩ (fun b hb => by cases hb) (fun M' hm hfree => ?_)
   ·simp [World.drewN, putRow, mapBlock]
   ·rw [hp, if_neg (by simpa [box] using hk2)]
   ·refine SRd.rsl (GM (hfree b (by simp [box]) (by simp [imm])) (by rw [hp, if_pos rfl]) (by omega) (by simp [putCells, zeros24]) (fun j hj => ?_) hk)
    have h1 := hk.size
    have h2 : zeros24[j]? = some (Value.int .u8 0) := zeros24_at j (by omega)
    simp only [putCells, Array.getElem?_mapIdx]
    rw [show zeros24.toList.toArray = zeros24 by simp, h2]
    simp only [Option.map_some, Nat.zero_le, true_and, Nat.sub_zero]
    rw [if_pos (by omega)]
  ·intro v' w2 hs2
   refine jE ?_
   refine dZ ?_
   refine fF ?_
   refine fH ?_
   refine gP (iG (Opd.t rfl)) rfl rfl rfl rfl <| gP (iG (Opd.t rfl)) rfl rfl rfl rfl <| gP (vO L.t171 ti5 (by omega) (by omega) (Opd.t rfl) (Opd.t rfl)) rfl rfl rfl rfl <| ?_
   rw [Int.toNat_natCast]
   refine HX hs2 1 rfl L.t37 ti5 rfl rfl (Opd.t rfl) (Opd.t rfl) (hs2.sl (i := 0) rfl) (room _ (by simp [bytesOf, decDigits_length]; exact hd)) rfl ?_
   intro p R' w3 hs3
   refine gP (mA (Opd.t rfl)) rfl rfl rfl rfl <| jE ?_
   refine dZ ?_
   refine uk ?_
   repeat refine vP ?_
   refine KR rfl (jn.t rfl) ?_
   exact ⟨p, R', rfl, Sat.pf (A := [imm (RSl (RI .u8)) [.slice (some ⟨b, 0, none⟩) (nDigits u) 24] (bytesOf (decDigits u))]) hs3⟩
theorem Jd {P : Program} {Γg : Ctx} {ρ : Go.Shelf.Ren} (L : Go.Proofs.LaysM.n288 P ρ) (hE : Enters P (ρ.f 288)) {G : Nat} {tab : List Int} (hg : P.globalNamed "internal/strconv.uint64pow10" = some G) (hΓ : gl G (tab.map (Value.int .u64)) ∈ Γg) (ht : Lib.pow10Tab = tab)
  (m : List Int → Int → Int → Option (List Int)) (hm : ∀ l u b r, m l u b = some r → b = 10 ∧ 0 ≤ u ∧ u ≤ 18446744073709551615 ∧ aw (l.length + 24) 1 = true ∧ r = l ++ bytesOf (decDigits u.toNat)) :
  (⟨ρ.f 288, [.own (.i .u8) (ρ.t 5) true, .int .u64, .int .i64], .own (.i .u8) (ρ.t 5) true, [], fun s => m s.1 s.2.1 s.2.2⟩ : Ent).Ok P Γg := by
 refine ⟨hE, fun s r hr vs N I X Φ w hS hs hΦ => ?_⟩
 obtain ⟨v1, vs1, D1, D2, I1, I2, X1, X2, N1, rfl, ⟨a, l, rfl, _, rfl, rfl, rfl, rfl, _⟩, ⟨v2, vs2, D3, D4, I3, I4, X3, X4, N2, rfl, ⟨u, rfl, rfl, rfl, rfl, rfl⟩, ⟨v3, vs3, D5, D6, I5, I6, X5, X6, N3, rfl, ⟨b, rfl, rfl, rfl, rfl, rfl⟩, ⟨rfl, rfl, rfl, rfl, rfl⟩, rfl, rfl, rfl⟩, rfl, rfl, rfl⟩, hD, rfl, rfl⟩ := hS
 obtain ⟨s1, s2, s3⟩ := s
 obtain ⟨hb, h0, h1, hroom, rfl⟩ := hm s1 s2 s3 r hr
 have hD : [(⟨.l (.i .u8), s1⟩ : Dyn), ⟨.i .u64, s2⟩, ⟨.i .i64, s3⟩] = [⟨.l (.i .u8), l⟩, ⟨.i .u64, u⟩, ⟨.i .i64, b⟩] := hD
 simp only [List.cons.injEq, and_true] at hD
 obtain ⟨hD1, hD2, hD3⟩ := hD
 have q1 : s1 = l := by cases hD1; rfl
 have q2 : s2 = u := by cases hD2; rfl
 have q3 : s3 = b := by cases hD3; rfl
 subst q1 q2 q3
 subst hb
 obtain ⟨n, rfl⟩ : ∃ n : Nat, s2 = (n : Int) := ⟨s2.toNat, (Int.toNat_of_nonneg h0).symm⟩
 have hs : Sat (nL (RI .u8) (ρ.t 5) a.v s1 True :: Φ) w := hs
 have hs1 : Sat (osl (RI .u8) (ρ.t 5) (sl a.v) s1 (slR a.v) :: Φ) w := Sat.le2 (A := []) hs ⟨fun _ h => h, fun M w h => h.1⟩
 refine jD.mono (G8 L hg ht (hΦ _ hΓ) (u := n) (by omega) hs1 hroom) ?_
 rintro v w' ⟨p, R', rfl, hs2⟩
 obtain ⟨Y, hY⟩ : ∃ Y : List Int, Y = List.append (α := Int) s1 (bytesOf (decDigits n)) := ⟨_, rfl⟩
 have hs2 : Sat (osl (RI .u8) (ρ.t 5) (sl p) Y R' :: Φ) w' := by rw [hY]; exact hs2
 refine ⟨[a, { nm0 with v := p, y := ⟨.l (.i .u8), Y⟩ }], [a, { nm0 with v := p, y := ⟨.l (.i .u8), Y⟩ }], [⟨.l (.i .u8), Y⟩], [], [(true, nL (RI .u8) (ρ.t 5) p Y True)], [], [], [],
  ⟨{ nm0 with v := p, y := ⟨.l (.i .u8), Y⟩ }, Y, rfl, (fun q h => by cases h), rfl, rfl, rfl, rfl, rfl⟩, ⟨rfl, rfl, rfl, rfl⟩, by rw [hY]; rfl, ?_⟩
 have hO := hs2.own (i := 0) rfl
 have hcan := hO.canon
 have hs3 := Sat.FX (A := [osl (RI .u8) (ρ.t 5) (sl p) Y R']) (B := Φ) hs2 [gq] (fun it hit => by rw [List.mem_singleton.1 hit]; exact ⟨rfl, fun _ _ => trivial⟩)
 exact Sat.le2 (A := []) (B := gq :: Φ) (x := osl (RI .u8) (ρ.t 5) (sl p) Y R') hs3 ⟨fun b hb => hcan.1 b hb, fun M w h => ⟨hcan.2 M w h, trivial⟩⟩
end Go.Proofs.YtkckoolfgnkpcaaDoor
namespace Go.Proofs
open Go.Shelf
def Tryd.vE : Go.Shelf.Ren := ⟨fun | 288 => 64 | 283 => 74 | 284 => 75 | 285 => 76 | 286 => 77 | 129 => 86 | 317 => 85 | 318 => 87 | 319 => 88 | 320 => 89 | 337 => 92 | 338 => 93 | n => n, fun | 37 => 84 | 53 => 126 | 3 => 3 | 4 => 4 | 9 => 9 | 171 => 145 | 0 => 0 | 173 => 148 | 212 => 155 | 51 => 156 | 5 => 5 | 20 => 20 | 213 => 157 | 46 => 158 | 232 => 164 | 233 => 165 | n => n, fun | 17 => 0 | 18 => 1 | 19 => 2 | n => n⟩
theorem Tryd.L3 : Go.Proofs.LaysM.n288 Tryd.prog Tryd.vE := {
 mixed := by kernel_rfl
 f129 := Tryd.func86.trans (congrArg some (by kernel_rfl))
 f283 := Tryd.func74.trans (congrArg some (by kernel_rfl))
 f284 := Tryd.func75.trans (congrArg some (by kernel_rfl))
 f285 := Tryd.func76.trans (congrArg some (by kernel_rfl))
 f286 := Tryd.func77.trans (congrArg some (by kernel_rfl))
 f288 := Tryd.func64.trans (congrArg some (by kernel_rfl))
 f317 := Tryd.func85.trans (congrArg some (by kernel_rfl))
 f318 := Tryd.func87.trans (congrArg some (by kernel_rfl))
 f319 := Tryd.func88.trans (congrArg some (by kernel_rfl))
 f320 := Tryd.func89.trans (congrArg some (by kernel_rfl))
 f337 := Tryd.func92.trans (congrArg some (by kernel_rfl))
 f338 := Tryd.func93.trans (congrArg some (by kernel_rfl))
 t0 := Tryd.underlying0
 a0 := Tryd.isAgg0
 z0 := Tryd.sizeOf0
 v0 := Tryd.zeroValue0
 t3 := Tryd.underlying3
 a3 := Tryd.isAgg3
 z3 := Tryd.sizeOf3
 v3 := Tryd.zeroValue3
 t4 := Tryd.underlying4
 a4 := Tryd.isAgg4
 z4 := Tryd.sizeOf4
 v4 := Tryd.zeroValue4
 t5 := Tryd.underlying5
 a5 := Tryd.isAgg5
 z5 := Tryd.sizeOf5
 v5 := Tryd.zeroValue5
 t9 := Tryd.underlying9
 a9 := Tryd.isAgg9
 z9 := Tryd.sizeOf9
 v9 := Tryd.zeroValue9
 t20 := Tryd.underlying20
 a20 := Tryd.isAgg20
 z20 := Tryd.sizeOf20
 v20 := Tryd.zeroValue20
 t37 := Tryd.underlying84
 a37 := Tryd.isAgg84
 z37 := Tryd.sizeOf84
 v37 := Tryd.zeroValue84
 t46 := Tryd.underlying158
 a46 := Tryd.isAgg158
 z46 := Tryd.sizeOf158
 v46 := Tryd.zeroValue158
 t51 := Tryd.underlying156
 a51 := Tryd.isAgg156
 z51 := Tryd.sizeOf156
 v51 := Tryd.zeroValue156
 t53 := Tryd.underlying126
 a53 := Tryd.isAgg126
 z53 := Tryd.sizeOf126
 v53 := Tryd.zeroValue126
 t171 := Tryd.underlying145
 a171 := Tryd.isAgg145
 z171 := Tryd.sizeOf145
 v171 := Tryd.zeroValue145
 t173 := Tryd.underlying148
 a173 := Tryd.isAgg148
 z173 := Tryd.sizeOf148
 v173 := Tryd.zeroValue148
 t212 := Tryd.underlying155
 a212 := Tryd.isAgg155
 z212 := Tryd.sizeOf155
 v212 := Tryd.zeroValue155
 t213 := Tryd.underlying157
 a213 := Tryd.isAgg157
 z213 := Tryd.sizeOf157
 t232 := Tryd.underlying164
 a232 := Tryd.isAgg164
 z232 := Tryd.sizeOf164
 v232 := Tryd.zeroValue164
 t233 := Tryd.underlying165
 a233 := Tryd.isAgg165
 z233 := Tryd.sizeOf165
 v233 := Tryd.zeroValue165
 g17 := by kernel_rfl
 g18 := by kernel_rfl
 g19 := by kernel_rfl
 i0 := by kernel_rfl
 i3 := by kernel_rfl
 i4 := by kernel_rfl
 i5 := by kernel_rfl
 i9 := by kernel_rfl
 i20 := by kernel_rfl
 i37 := by kernel_rfl
 i46 := by kernel_rfl
 i51 := by kernel_rfl
 i53 := by kernel_rfl
 i171 := by kernel_rfl
 i173 := by kernel_rfl
 i212 := by kernel_rfl
 i232 := by kernel_rfl
 i233 := by kernel_rfl
 m17 := by kernel_rfl
 m18 := by kernel_rfl
 m19 := by kernel_rfl }
end Go.Proofs
namespace Go.Proofs.YtkckoolfgnkpcaaDoor
open Go.Proofs
noncomputable section
set_option maxRecDepth 100000
theorem MZ : J3 Tryd.prog 90 := fun v w => by
 rw [run_callFunc_extern Tryd.func90 (by kernel_rfl) (by kernel_rfl) (by kernel_rfl) (e := Extern.AbiNoEscape.same) (by kernel_rfl)]
 rfl
def X0 : Cx := ⟨Tryd.prog, [(2, (.i .i64)), (3, (.i .i64)), (4, .bo), (5, (.i .u8)), (6, (.i .u8)), (7, (.p (.i .i64) (.p (.i .i64) (.p .bo (.i .u8))))), (8, (.p (.i .i64) (.p (.i .i64) (.p .bo (.i .u8))))), (9, .s), (10, .s), (11, .s), (12, (.i .u64)), (13, (.p .s (.i .u64))), (14, (.p .s (.i .u64))), (21, (.i .i32)), (23, (.l .s)), (24, (.l (.p (.i .i64) (.i .i64)))), (25, (.l (.i .i64))), (26, (.l (.p (.i .i64) (.p .ex (.l (.p (.i .i64) .ex)))))), (27, (.p (.l .s) (.p (.l (.p (.i .i64) (.i .i64))) (.p (.l (.i .i64)) (.p (.l .s) (.l (.p (.i .i64) (.p .ex (.l (.p (.i .i64) .ex)))))))))), (28, (.p (.l .s) (.p (.l (.p (.i .i64) (.i .i64))) (.p (.l (.i .i64)) (.p (.l .s) (.l (.p (.i .i64) (.p .ex (.l (.p (.i .i64) .ex)))))))))), (31, (.l (.l .ex))), (32, (.l (.l (.i .i64)))), (33, (.p (.l (.l .ex)) (.p (.l (.l (.i .i64))) (.p (.l (.i .i64)) (.l (.l (.i .i64))))))), (34, (.p (.l (.l .ex)) (.p (.l (.l (.i .i64))) (.p (.l (.i .i64)) (.l (.l (.i .i64))))))), (35, (.i .i64)), (42, (.l .ex)), (43, (.p (.i .i64) (.p (.i .i64) (.p (.i .i64) (.l .ex))))), (44, .ex), (51, (.p (.i .i64) (.i .i64))), (52, (.p (.i .i64) (.i .i64))), (71, (.l (.p (.i .i64) (.p .s (.p (.i .i64) (.i .i64)))))), (74, (.p (.l (.p (.i .i64) (.p .s (.p (.i .i64) (.i .i64))))) (.p (.i .i64) (.p (.p (.l .s) (.p (.l (.p (.i .i64) (.i .i64))) (.p (.l (.i .i64)) (.p (.l .s) (.l (.p (.i .i64) (.p .ex (.l (.p (.i .i64) .ex))))))))) (.p (.i .i64) (.i .i64)))))), (75, (.p (.l (.p (.i .i64) (.p .s (.p (.i .i64) (.i .i64))))) (.p (.i .i64) (.p (.p (.l .s) (.p (.l (.p (.i .i64) (.i .i64))) (.p (.l (.i .i64)) (.p (.l .s) (.l (.p (.i .i64) (.p .ex (.l (.p (.i .i64) .ex))))))))) (.p (.i .i64) (.i .i64)))))), (76, (.p (.i .i64) (.p .s (.p (.i .i64) (.i .i64))))), (77, (.p (.i .i64) (.p .s (.p (.i .i64) (.i .i64))))), (84, (.l (.i .u8))), (92, (.l .bo)), (95, (.p (.i .i64) (.i .i64))), (107, (.l (.p (.i .i64) .ex))), (108, (.p (.i .i64) (.p .ex (.l (.p (.i .i64) .ex))))), (109, (.p (.i .i64) (.p .ex (.l (.p (.i .i64) .ex))))), (111, (.p (.i .i64) .ex)), (112, (.p (.i .i64) .ex)), (126, (.i .u64)), (130, (.p (.i .i64) (.i .i64))), (142, (.p (.l (.p (.i .i64) (.p .s (.p (.i .i64) (.i .i64))))) (.p (.i .i64) (.p (.l .s) (.p (.i .i64) (.i .i64)))))), (143, (.p (.l (.p (.i .i64) (.p .s (.p (.i .i64) (.i .i64))))) (.p (.i .i64) (.p (.l .s) (.p (.i .i64) (.i .i64)))))), (145, (.p (.i .u8) (.p (.i .u8) (.p (.i .u8) (.p (.i .u8) (.p (.i .u8) (.p (.i .u8) (.p (.i .u8) (.p (.i .u8) (.p (.i .u8) (.p (.i .u8) (.p (.i .u8) (.p (.i .u8) (.p (.i .u8) (.p (.i .u8) (.p (.i .u8) (.p (.i .u8) (.p (.i .u8) (.p (.i .u8) (.p (.i .u8) (.p (.i .u8) (.p (.i .u8) (.p (.i .u8) (.p (.i .u8) (.i .u8))))))))))))))))))))))))), (155, (.p (.i .u64) (.p (.i .u64) (.p (.i .u64) (.p (.i .u64) (.p (.i .u64) (.p (.i .u64) (.p (.i .u64) (.p (.i .u64) (.p (.i .u64) (.p (.i .u64) (.p (.i .u64) (.p (.i .u64) (.p (.i .u64) (.p (.i .u64) (.p (.i .u64) (.p (.i .u64) (.p (.i .u64) (.p (.i .u64) (.p (.i .u64) (.i .u64))))))))))))))))))))), (156, (.i .u32)), (157, (.p (.i .u8) (.p (.i .u8) (.p (.i .u8) (.p (.i .u8) (.p (.i .u8) (.p (.i .u8) (.p (.i .u8) (.p (.i .u8) (.p (.i .u8) (.p (.i .u8) (.p (.i .u8) (.p (.i .u8) (.p (.i .u8) (.p (.i .u8) (.p (.i .u8) (.p (.i .u8) (.p (.i .u8) (.p (.i .u8) (.p (.i .u8) (.p (.i .u8) (.p (.i .u8) (.p (.i .u8) (.p (.i .u8) (.p (.i .u8) (.p (.i .u8) (.p (.i .u8) (.p (.i .u8) (.p (.i .u8) (.p (.i .u8) (.p (.i .u8) (.p (.i .u8) (.p (.i .u8) (.p (.i .u8) (.p (.i .u8) (.p (.i .u8) (.p (.i .u8) (.p (.i .u8) (.p (.i .u8) (.p (.i .u8) (.p (.i .u8) (.p (.i .u8) (.p (.i .u8) (.p (.i .u8) (.p (.i .u8) (.p (.i .u8) (.p (.i .u8) (.p (.i .u8) (.p (.i .u8) (.p (.i .u8) (.p (.i .u8) (.p (.i .u8) (.p (.i .u8) (.p (.i .u8) (.p (.i .u8) (.p (.i .u8) (.p (.i .u8) (.p (.i .u8) (.p (.i .u8) (.p (.i .u8) (.p (.i .u8) (.p (.i .u8) (.p (.i .u8) (.p (.i .u8) (.p (.i .u8) (.i .u8)))))))))))))))))))))))))))))))))))))))))))))))))))))))))))))))))), (158, (.i .u64)), (164, (.p (.i .u8) (.p (.i .u8) (.p (.i .u8) (.p (.i .u8) (.p (.i .u8) (.p (.i .u8) (.p (.i .u8) (.p (.i .u8) (.p (.i .u8) (.p (.i .u8) (.p (.i .u8) (.p (.i .u8) (.p (.i .u8) (.p (.i .u8) (.p (.i .u8) (.p (.i .u8) (.p (.i .u8) (.p (.i .u8) (.p (.i .u8) (.p (.i .u8) (.p (.i .u8) (.p (.i .u8) (.p (.i .u8) (.p (.i .u8) (.p (.i .u8) (.p (.i .u8) (.p (.i .u8) (.p (.i .u8) (.p (.i .u8) (.p (.i .u8) (.p (.i .u8) (.i .u8))))))))))))))))))))))))))))))))), (165, (.p (.i .u8) (.p (.i .u8) (.p (.i .u8) (.p (.i .u8) (.p (.i .u8) (.p (.i .u8) (.p (.i .u8) (.p (.i .u8) (.p (.i .u8) (.p (.i .u8) (.p (.i .u8) (.p (.i .u8) (.p (.i .u8) (.p (.i .u8) (.p (.i .u8) (.p (.i .u8) (.p (.i .u8) (.p (.i .u8) (.p (.i .u8) (.p (.i .u8) (.p (.i .u8) (.p (.i .u8) (.p (.i .u8) (.p (.i .u8) (.p (.i .u8) (.p (.i .u8) (.p (.i .u8) (.p (.i .u8) (.p (.i .u8) (.p (.i .u8) (.p (.i .u8) (.p (.i .u8) (.p (.i .u8) (.p (.i .u8) (.p (.i .u8) (.p (.i .u8) (.p (.i .u8) (.p (.i .u8) (.p (.i .u8) (.p (.i .u8) (.p (.i .u8) (.p (.i .u8) (.p (.i .u8) (.p (.i .u8) (.p (.i .u8) (.p (.i .u8) (.p (.i .u8) (.p (.i .u8) (.p (.i .u8) (.p (.i .u8) (.p (.i .u8) (.p (.i .u8) (.p (.i .u8) (.p (.i .u8) (.p (.i .u8) (.p (.i .u8) (.p (.i .u8) (.p (.i .u8) (.p (.i .u8) (.p (.i .u8) (.p (.i .u8) (.p (.i .u8) (.p (.i .u8) (.i .u8))))))))))))))))))))))))))))))))))))))))))))))))))))))))))))))))), (168, .un), (169, .un), (170, .un), (171, (.i .u8)), (172, (.i .u8)), (174, (.i .i32)), (175, (.i .i32))], [(0, 0, ⟨.l (.i .u64), kV⟩)], [90], (List.forall_mem_cons.2 ⟨MZ, (fun _ h => nomatch h)⟩), au⟩
def kl (x : Ex) : Ex := Ex.mk x.op x.n x.at_ x.l
theorem eN : kl = id := funext fun x => by cases x; rfl
def M8 : Ent := ⟨70, [.int .i64], .str, [], fun s => Ar s⟩
theorem GQ : M8.Ok X0.P X0.Γ := IZ (ρ := Tryd.uz) Tryd.J5 Tryd.call70 (G := 0) (tab := kV) (by kernel_rfl) (show _ ∈ [gl 0 (kV.map (Value.int .u64))] from List.mem_cons_self ..) (by decide +kernel) Ar fun n r h => by
 obtain ⟨h1, h2⟩ := fQ h
 cases h2
 exact ⟨h1, rfl⟩
def Nc : Ent := ⟨64, [.own (.i .u8) 5 true, .int .u64, .int .i64], .own (.i .u8) 5 true, [], fun s => xw s.1 s.2.1 s.2.2⟩
theorem GB : Nc.Ok X0.P X0.Γ := Jd (ρ := Tryd.vE) Tryd.L3 Tryd.call64 (G := 0) (tab := kV) (by kernel_rfl) (show _ ∈ [gl 0 (kV.map (Value.int .u64))] from List.mem_cons_self ..) (by decide +kernel) xw fun l u b r h => by
 obtain ⟨h1, h2⟩ := fQ h
 simp only [Bool.and_eq_true, beq_iff_eq, decide_eq_true_eq] at h1
 cases h2
 exact ⟨h1.1.1, h1.1.2.1, h1.1.2.2, h1.2, rfl⟩
abbrev TK0 := Q6 → Option Q5
def c8 (k : TK0) : Ent := ⟨73, [(.bx 143 0 true [(.own (.p (.i .i64) (.p .s (.p (.i .i64) (.i .i64)))) 77 false), (.int .i64), (.own .s 9 false), (.int .i64), (.int .i64)]), (.int .i64), (.int .i64)], (.dat .ex [some 89]), [(true, 0, (.bx 143 0 true [.same, (.int .i64), .same, (.int .i64), (.int .i64)]))], fun s => k (s.2.2.2.2.2.1, s.2.2.2.2.2.2, s.1, s.2.1, s.2.2.1, s.2.2.2.1, s.2.2.2.2.1)⟩
abbrev OK0 (k : TK0) : Prop := (c8 k).Ok X0.P X0.Γ
abbrev TK1 := Ex → Option Q10
def fK (k : TK1) : Ent := ⟨63, [(.dat .ex [none])], (.tup [(.int .i64), (.int .i64), (.int .i64)]), [], fun s => k s⟩
abbrev OK1 (k : TK1) : Prop := (fK k).Ok X0.P X0.Γ
abbrev TK2 := (Ex × Q2) → Option Int
def mC (k : TK2) : Ent := ⟨56, [(.dat .ex [none]), (.sli (.i .i64))], (.int .i64), [], fun s => k (s.1, s.2)⟩
abbrev OK2 (k : TK2) : Prop := (mC k).Ok X0.P X0.Γ
abbrev TK3 := (Ex × Q2) → Option Int
def fL (k : TK3) : Ent := ⟨53, [(.dat .ex [none]), (.sli (.i .i64))], (.int .i64), [], fun s => k (s.1, s.2)⟩
abbrev OK3 (k : TK3) : Prop := (fL k).Ok X0.P X0.Γ
def sx : Ent := ⟨45, [(.int .u8)], (.int .i64), [], fun s => dh s⟩
theorem qG : (sx).Ok X0.P X0.Γ :=
 aS .o Tryd.call45 Tryd.func45 ok0 ok0 ok0 fun _ => by kernel_rfl
def rL : Ent := ⟨46, [], (.own .s 9 true), [], fun _ => jN⟩
theorem qm : (rL).Ok X0.P X0.Γ :=
 aS .o Tryd.call46 Tryd.func46 ok0 ok0 ok0 fun _ => by kernel_rfl
def ru : Ent := ⟨25, [.str], (.tup [(.own (.p (.i .i64) (.p .s (.p (.i .i64) (.i .i64)))) 77 true), (.int .i64), (.int .i64)]), [], fun s => dp s⟩
theorem ph : (ru).Ok X0.P X0.Γ :=
 aS (.c .o (.l ⟨[(false, 5, (.own (.p (.i .i64) (.p .s (.p (.i .i64) (.i .i64)))) 77 true)), (false, 6, (.int .i64))], []⟩ (.c (.c .o (.c (.l ⟨[(false, 6, (.int .i64))], []⟩ .o) (.c (.l ⟨[(false, 6, (.int .i64))], []⟩ .o) (.c (.l ⟨[(false, 6, (.int .i64)), (false, 9, (.int .i64))], []⟩ .o) (.l ⟨[(false, 11, .str), (false, 12, (.int .i64))], []⟩ .o))))) .o))) Tryd.call25 Tryd.func25 (ok1 qG (ok1 qm ok0)) ok0 ok0 fun _ => by kernel_rfl
def qF : Ent := ⟨26, [(.bx 75 0 false [(.own (.p (.i .i64) (.p .s (.p (.i .i64) (.i .i64)))) 77 false), (.int .i64), (.own .s 9 false), (.own (.p (.i .i64) (.i .i64)) 52 false), (.own (.i .i64) 3 false), (.own .s 9 false), (.own (.p (.i .i64) (.p .ex (.l (.p (.i .i64) .ex)))) 109 false), (.int .i64), (.int .i64)]), (.int .i64), .str], .bool, [], fun s => aV s.2.2.2.2.2.2.2.2.2.1 s.2.2.2.2.2.2.2.2.2.2 s.1 s.2.1 s.2.2.1 s.2.2.2.1 s.2.2.2.2.1 s.2.2.2.2.2.1 s.2.2.2.2.2.2.1 s.2.2.2.2.2.2.2.1 s.2.2.2.2.2.2.2.2.1⟩
theorem dS : (qF).Ok X0.P X0.Γ :=
 aS .o Tryd.call26 Tryd.func26 ok0 ok0 ok0 fun _ => by kernel_rfl
def tB : Ent := ⟨49, [.str], .bool, [], fun s => eO s⟩
theorem kX : (tB).Ok X0.P X0.Γ :=
 aS (.s (.s (.s (.j ⟨[(false, 4, .bool)], []⟩ .o .o)))) Tryd.call49 Tryd.func49 ok0 ok0 ok0 fun _ => by kernel_rfl
def o8 : Ent := ⟨27, [(.bx 75 0 true [(.own (.p (.i .i64) (.p .s (.p (.i .i64) (.i .i64)))) 77 false), (.int .i64), (.own .s 9 false), (.own (.p (.i .i64) (.i .i64)) 52 false), (.own (.i .i64) 3 false), (.own .s 9 false), (.own (.p (.i .i64) (.p .ex (.l (.p (.i .i64) .ex)))) 109 false), (.int .i64), (.int .i64)]), (.int .i64), (.int .i64)], (.tup []), [(true, 0, (.bx 75 0 true [.same, .same, .same, .same, .same, .same, .same, (.int .i64), (.int .i64)]))], fun s => aq s.2.2.2.2.2.2.2.2.2.1 s.2.2.2.2.2.2.2.2.2.2 s.1 s.2.1 s.2.2.1 s.2.2.2.1 s.2.2.2.2.1 s.2.2.2.2.2.1 s.2.2.2.2.2.2.1 s.2.2.2.2.2.2.2.1 s.2.2.2.2.2.2.2.2.1⟩
theorem bq : (o8).Ok X0.P X0.Γ :=
 aS .o Tryd.call27 Tryd.func27 ok0 ok0 ok0 fun _ => by kernel_rfl
def qn : Ent := ⟨50, [(.own .s 9 false), .str], (.int .i64), [], fun s => bz s.1 s.2⟩
theorem jf : (qn).Ok X0.P X0.Γ :=
 aS (.l ⟨[(false, 5, (.int .i64))], []⟩ .o) Tryd.call50 Tryd.func50 ok0 ok0 ok0 fun _ => by kernel_rfl
def po : Ent := ⟨30, [(.bx 75 0 true [(.own (.p (.i .i64) (.p .s (.p (.i .i64) (.i .i64)))) 77 false), (.int .i64), (.own .s 9 false), (.own (.p (.i .i64) (.i .i64)) 52 false), (.own (.i .i64) 3 false), (.own .s 9 false), (.own (.p (.i .i64) (.p .ex (.l (.p (.i .i64) .ex)))) 109 false), (.int .i64), (.int .i64)]), .bool], .str, [(true, 0, (.bx 75 0 true [.same, (.int .i64), .same, .same, .same, .same, .same, (.int .i64), (.int .i64)]))], fun s => dD s.2.2.2.2.2.2.2.2.2 s.1 s.2.1 s.2.2.1 s.2.2.2.1 s.2.2.2.2.1 s.2.2.2.2.2.1 s.2.2.2.2.2.2.1 s.2.2.2.2.2.2.2.1 s.2.2.2.2.2.2.2.2.1⟩
theorem je : (po).Ok X0.P X0.Γ :=
 aS .o Tryd.call30 Tryd.func30 (ok1 kX (ok1 bq (ok1 jf ok0))) ok0 ok0 fun _ => by kernel_rfl
def pd : Ent := ⟨28, [(.bx 75 0 false [(.own (.p (.i .i64) (.p .s (.p (.i .i64) (.i .i64)))) 77 false), (.int .i64), (.own .s 9 false), (.own (.p (.i .i64) (.i .i64)) 52 false), (.own (.i .i64) 3 false), (.own .s 9 false), (.own (.p (.i .i64) (.p .ex (.l (.p (.i .i64) .ex)))) 109 false), (.int .i64), (.int .i64)])], (.int .i64), [], fun s => aB s.1 s.2.1 s.2.2.1 s.2.2.2.1 s.2.2.2.2.1 s.2.2.2.2.2.1 s.2.2.2.2.2.2.1 s.2.2.2.2.2.2.2.1 s.2.2.2.2.2.2.2.2⟩
theorem dy : (pd).Ok X0.P X0.Γ :=
 aS .o Tryd.call28 Tryd.func28 ok0 ok0 ok0 fun _ => by kernel_rfl
def pk : Ent := ⟨31, [(.bx 75 0 true [(.own (.p (.i .i64) (.p .s (.p (.i .i64) (.i .i64)))) 77 false), (.int .i64), (.own .s 9 false), (.own (.p (.i .i64) (.i .i64)) 52 false), (.own (.i .i64) 3 false), (.own .s 9 false), (.own (.p (.i .i64) (.p .ex (.l (.p (.i .i64) .ex)))) 109 false), (.int .i64), (.int .i64)]), .str], (.tup []), [(true, 0, (.bx 75 0 true [.same, (.int .i64), .same, .same, .same, .same, .same, (.int .i64), (.int .i64)]))], fun s => aP s.2.2.2.2.2.2.2.2.2 s.1 s.2.1 s.2.2.1 s.2.2.2.1 s.2.2.2.2.1 s.2.2.2.2.2.1 s.2.2.2.2.2.2.1 s.2.2.2.2.2.2.2.1 s.2.2.2.2.2.2.2.2.1⟩
theorem fj : (pk).Ok X0.P X0.Γ :=
 aS .o Tryd.call31 Tryd.func31 (ok1 dS (ok1 dy (ok1 bq ok0))) ok0 ok0 fun _ => by kernel_rfl
def ra : Ent := ⟨81, [(.int .i64)], .bool, [], fun s => gz s⟩
theorem pw : (ra).Ok X0.P X0.Γ :=
 aS .o Tryd.call81 Tryd.func81 ok0 ok0 ok0 fun _ => by kernel_rfl
def nB : Ent := ⟨82, [(.bx 143 0 true [(.own (.p (.i .i64) (.p .s (.p (.i .i64) (.i .i64)))) 77 false), (.int .i64), (.own .s 9 false), (.int .i64), (.int .i64)]), (.int .i64)], (.dat .ex [some 89]), [(true, 0, (.bx 143 0 true [.same, .same, .same, (.int .i64), (.int .i64)]))], fun s => aK s.2.2.2.2.2 s.1 s.2.1 s.2.2.1 s.2.2.2.1 s.2.2.2.2.1⟩
theorem gT : (nB).Ok X0.P X0.Γ :=
 aS (.c (.r [0] .o) .o) Tryd.call82 Tryd.func82 ok0 ok0 ok0 fun _ => by kernel_rfl
def n9 (k0 : TK0) : Ent := ⟨83, [(.bx 143 0 true [(.own (.p (.i .i64) (.p .s (.p (.i .i64) (.i .i64)))) 77 false), (.int .i64), (.own .s 9 false), (.int .i64), (.int .i64)]), (.int .i64)], (.dat .ex [some 89]), [(true, 0, (.bx 143 0 true [.same, (.int .i64), .same, (.int .i64), (.int .i64)]))], fun s => cd k0 s.2.2.2.2.2 s.1 s.2.1 s.2.2.1 s.2.2.2.1 s.2.2.2.2.1⟩
def nb (eta : Ex → Ex) (_du : Sh → (R : Type) → Option R → Option R) (l : Q3) (at_ : Int) (names : Q9) (bad : Int) (place : Int) (e12 : Q11) (again50 : Int → Option Q5) (i49 : Int) : Option Q5 := bif (decide (i49 < (List.length names : Int))) then ( (idx names i49).bind fun e54 => bif (e54 == e12.2.1) then ( some ((Ex.mk 2 i49 e12.2.2.2 []), (IntKind.i64.wrap (at_ + 1)), bad, place)) else ( again50 (IntKind.i64.wrap (i49 + 1)))) else ( (aK 3 l at_ names bad place).bind fun r59 => some ((eta r59.1), at_, r59.2.1, r59.2.2))
def fC (eta : Ex → Ex) (du : Sh → (R : Type) → Option R → Option R) (ah : Q6 → Option Q5) (deep : Int) (l : Q3) (at_ : Int) (names : Q9) (bad : Int) (place : Int) : Option Q5 := (idx l at_).bind fun e12 => bif (e12.1 == 2) then ( some ((Ex.mk 1 e12.2.2.1 e12.2.2.2 []), (IntKind.i64.wrap (at_ + 1)), bad, place)) else ( ab (e12.1 == 1) fun b20 => ab (e12.2.1 == [116, 114, 117, 101]) fun b22 => ab (b20 && b22) fun b24 => bif b24 then ( some ((Ex.mk 13 0 e12.2.2.2 []), (IntKind.i64.wrap (at_ + 1)), bad, place)) else ( ab (e12.1 == 1) fun b29 => ab (e12.2.1 == [102, 97, 108, 115, 101]) fun b31 => ab (b29 && b31) fun b33 => bif b33 then ( some ((Ex.mk 14 0 e12.2.2.2 []), (IntKind.i64.wrap (at_ + 1)), bad, place)) else ( (eO e12.2.1).bind fun r38 => ab (e12.1 == 1) fun b41 => ab (!r38) fun b43 => ab (b41 && b43) fun b45 => bif b45 then ( ao (nb eta du l at_ names bad place e12) au 0) else ( ab (e12.1 != 3) fun b65 => ab (e12.2.1 != [40]) fun b67 => ab (b65 || b67) fun b69 => bif b69 then ( (aK 2 l at_ names bad place).bind fun r72 => some ((eta r72.1), at_, r72.2.1, r72.2.2)) else ( (ah (1, deep, l, (IntKind.i64.wrap (at_ + 1)), names, bad, place)).bind fun r79 => bif (r79.2.2.1 != 0) then ( some ((Ex.mk 0 0 0 []), r79.2.1, r79.2.2.1, r79.2.2.2)) else ( (idx l r79.2.1).bind fun e91 => ab (e91.1 != 3) fun b93 => bm (!b93) (0, [], 0, 0) (idx l r79.2.1) fun e95 => ab (e95.2.1 != [41]) fun b97 => ab (b93 || b97) fun b99 => bif b99 then ( (aK 2 l r79.2.1 names r79.2.2.1 r79.2.2.2).bind fun r102 => some ((eta r102.1), r79.2.1, r102.2.1, r102.2.2)) else ( some ((eta r79.1), (IntKind.i64.wrap (r79.2.1 + 1)), r79.2.2.1, r79.2.2.2))))))))
theorem ni (k0 : TK0) (i0 : OK0 k0) : (n9 k0).Ok X0.P X0.Γ :=
 aS (.r [] (.c .o (.c .o (.c .o (.c (.l ⟨[(true, 0, (.bx 143 0 true [.same, .same, .same, .same, .same])), (true, 4, (.bx 44 0 true [.same, .same, .same, .same])), (false, 7, (.int .i64))], []⟩ .o) .o))))) Tryd.call83 Tryd.func83 (ok1 kX (ok1 gT (ok1 i0 ok0))) ok0 ok0 fun s => (show _ = fC kl duE k0 s.2.2.2.2.2 s.1 s.2.1 s.2.2.1 s.2.2.2.1 s.2.2.2.2.1 from by kernel_rfl).trans ((congrArg (fun eta => fC eta duE k0 s.2.2.2.2.2 s.1 s.2.1 s.2.2.1 s.2.2.2.1 s.2.2.2.2.1) eN).trans ((congrArg (fun du => fC id du k0 s.2.2.2.2.2 s.1 s.2.1 s.2.2.1 s.2.2.2.1 s.2.2.2.2.1) fX).trans (by kernel_rfl)))
def uE : Ent := ⟨84, [(.dat (.p (.i .i64) (.p .s (.p (.i .i64) (.i .i64)))) []), (.int .i64)], (.int .i64), [], fun s => br s.1 s.2⟩
theorem rX : (uE).Ok X0.P X0.Γ :=
 aS (.c (.c .o (.c .o (.c .o (.c .o (.c .o (.c (.l ⟨[(false, 7, (.int .i64))], []⟩ .o) .o)))))) .o) Tryd.call84 Tryd.func84 ok0 ok0 ok0 fun _ => by kernel_rfl
def iX : Ent := ⟨73, [(.bx 143 0 true [(.own (.p (.i .i64) (.p .s (.p (.i .i64) (.i .i64)))) 77 false), (.int .i64), (.own .s 9 false), (.int .i64), (.int .i64)]), (.int .i64), (.int .i64)], (.dat .ex [some 89]), [(true, 0, (.bx 143 0 true [.same, (.int .i64), .same, (.int .i64), (.int .i64)]))], fun s => dO s.2.2.2.2.2.1 s.2.2.2.2.2.2 s.1 s.2.1 s.2.2.1 s.2.2.2.1 s.2.2.2.2.1⟩
def l6 (eta : Ex → Ex) (_du : Sh → (R : Type) → Option R → Option R) (ah : Q6 → Option Q5) (l : Q3) (at_ : Int) (names : Q9) (bad : Int) (place : Int) (deep16 : Int) (e30 : Q11) (k43 : Int) : Option Q5 := bif (k43 == 0) then ( (ah (7, deep16, l, at_, names, bad, place)).bind fun r45 => some ((eta r45.1), r45.2.1, r45.2.2.1, r45.2.2.2)) else ( (ah (6, deep16, l, (IntKind.i64.wrap (at_ + 1)), names, bad, place)).bind fun r52 => some ((Ex.mk k43 0 e30.2.2.2 ([(eta r52.1)] : List Ex)), r52.2.1, r52.2.2.1, r52.2.2.2))
def lV (eta : Ex → Ex) (du : Sh → (R : Type) → Option R → Option R) (ah : Q6 → Option Q5) (l : Q3) (at_ : Int) (names : Q9) (bad : Int) (place : Int) (deep16 : Int) (e30 : Q11) (k41 : Int) : Option Q5 := ab (fun (s64 : Int) => l6 eta du ah l at_ names bad place deep16 e30 s64) fun kk63 => ab (e30.1 == 1) fun b65 => ab (e30.2.1 == [71]) fun b67 => ab (b65 && b67) fun b69 => bif b69 then ( kk63 22) else ( kk63 k41)
def mg (eta : Ex → Ex) (du : Sh → (R : Type) → Option R → Option R) (ah : Q6 → Option Q5) (l : Q3) (at_ : Int) (names : Q9) (bad : Int) (place : Int) (deep16 : Int) (e30 : Q11) (k39 : Int) : Option Q5 := ab (fun (s73 : Int) => lV eta du ah l at_ names bad place deep16 e30 s73) fun kk72 => ab (e30.1 == 1) fun b74 => ab (e30.2.1 == [70]) fun b76 => ab (b74 && b76) fun b78 => bif b78 then ( kk72 21) else ( kk72 k39)
def lZ (eta : Ex → Ex) (du : Sh → (R : Type) → Option R → Option R) (ah : Q6 → Option Q5) (l : Q3) (at_ : Int) (names : Q9) (bad : Int) (place : Int) (deep16 : Int) (e30 : Q11) (k37 : Int) : Option Q5 := ab (fun (s82 : Int) => mg eta du ah l at_ names bad place deep16 e30 s82) fun kk81 => ab (e30.1 == 1) fun b83 => ab (e30.2.1 == [88]) fun b85 => ab (b83 && b85) fun b87 => bif b87 then ( kk81 20) else ( kk81 k37)
def lY (eta : Ex → Ex) (_du : Sh → (R : Type) → Option R → Option R) (ah : Q6 → Option Q5) (strength : Int) (l : Q3) (names : Q9) (deep16 : Int) (again143 : (Int × Int × Int × Int × Int × Int × (List Ex)) → Option Q5) : Int × Int × Int × Int × Int × Int × (List Ex) → Option Q5 := fun ⟨c134, c135, c136, c137, c138, c139, c140⟩ => bif (c135 == 0) then ( (idx l c134).bind fun e147 => (br e147 strength).bind fun r152 => bif (r152 == 0) then ( some ((Ex.mk c137 c138 c139 c140), c134, c135, c136)) else ( ab (strength == 1) fun b158 => ab (strength == 2) fun b160 => ab (b158 || b160) fun b162 => ab (strength == 5) fun b164 => ab (b162 || b164) fun b166 => bif b166 then ( (ah (strength, deep16, l, (IntKind.i64.wrap (c134 + 1)), names, c135, c136)).bind fun r169 => some ((Ex.mk r152 0 e147.2.2.2 ([(Ex.mk c137 c138 c139 c140), (eta r169.1)] : List Ex)), r169.2.1, r169.2.2.1, r169.2.2.2)) else ( (ah ((IntKind.i64.wrap (strength + 1)), deep16, l, (IntKind.i64.wrap (c134 + 1)), names, c135, c136)).bind fun r180 => bif (strength == 7) then ( some ((Ex.mk r152 0 e147.2.2.2 ([(Ex.mk c137 c138 c139 c140), (eta r180.1)] : List Ex)), r180.2.1, r180.2.2.1, r180.2.2.2)) else ( again143 (r180.2.1, r180.2.2.1, r180.2.2.2, r152, 0, e147.2.2.2, ([(Ex.mk c137 c138 c139 c140), (eta r180.1)] : List Ex)))))) else ( some ((Ex.mk c137 c138 c139 c140), c134, c135, c136))
def mb (eta : Ex → Ex) (du : Sh → (R : Type) → Option R → Option R) (ah : Q6 → Option Q5) (strength : Int) (l : Q3) (at_ : Int) (names : Q9) (bad : Int) (place : Int) (r12 : Bool) (deep16 : Int) : Option Q5 := ab (decide (320 < deep16)) fun b17 => ab (r12 && b17) fun b19 => bif b19 then ( (aK 9 l at_ names bad place).bind fun r22 => some ((eta r22.1), at_, r22.2.1, r22.2.2)) else ( (idx l at_).bind fun e30 => bif (strength == 6) then ( ab (fun (s91 : Int) => lZ eta du ah l at_ names bad place deep16 e30 s91) fun kk90 => ab (e30.1 == 3) fun b92 => ab (e30.2.1 == [33]) fun b94 => ab (b92 && b94) fun b96 => bif b96 then ( kk90 15) else ( kk90 0)) else ( bif (strength == 10) then ( ab (e30.1 != 3) fun b100 => ab (e30.2.1 != [45]) fun b102 => ab (b100 || b102) fun b104 => bif b104 then ( (cd ah deep16 l at_ names bad place).bind fun r107 => some ((eta r107.1), r107.2.1, r107.2.2.1, r107.2.2.2)) else ( (ah (10, deep16, l, (IntKind.i64.wrap (at_ + 1)), names, bad, place)).bind fun r114 => some ((Ex.mk 6 0 e30.2.2.2 ([(eta r114.1)] : List Ex)), r114.2.1, r114.2.2.1, r114.2.2.2))) else ( (ah ((IntKind.i64.wrap (strength + 1)), deep16, l, at_, names, bad, place)).bind fun r125 => ao (lY eta du ah strength l names deep16) au (r125.2.1, r125.2.2.1, r125.2.2.2, r125.1.op, r125.1.n, r125.1.at_, r125.1.l))))
def eA (eta : Ex → Ex) (du : Sh → (R : Type) → Option R → Option R) (ah : Q6 → Option Q5) (strength : Int) (deep : Int) (l : Q3) (at_ : Int) (names : Q9) (bad : Int) (place : Int) : Option Q5 := bif (bad != 0) then ( some ((Ex.mk 0 0 0 []), at_, bad, place)) else ( (gz strength).bind fun r12 => ab (fun (s195 : Int) => mb eta du ah strength l at_ names bad place r12 s195) fun kk194 => bif r12 then ( kk194 (IntKind.i64.wrap (deep + 1))) else ( kk194 deep))
def iR : TK0 → TK0 := fun k0 s => bL k0 s.1 s.2.1 s.2.2.1 s.2.2.2.1 s.2.2.2.2.1 s.2.2.2.2.2.1 s.2.2.2.2.2.2
theorem kT (k0 : TK0) (i0 : OK0 k0) : (c8 (iR k0)).Ok X0.P X0.Γ :=
 aS (.c .o (.s (.j ⟨[(false, 2, (.int .i64))], []⟩ .o (.c .o (.r [] (.c (.s (.j ⟨[(false, 9, (.int .i64))], []⟩ .o (.j ⟨[(false, 9, (.int .i64))], []⟩ .o (.j ⟨[(false, 9, (.int .i64))], []⟩ .o (.j ⟨[(false, 9, (.int .i64))], []⟩ .o .o))))) (.c .o (.l ⟨[(true, 0, (.bx 143 0 true [.same, (.int .i64), .same, (.int .i64), (.int .i64)])), (true, 6, (.bx 44 0 true [.same, .same, .same, .same])), (true, 12, (.bx 44 0 true [(.int .i64), (.int .i64), (.int .i64), (.own .ex 44 true)]))], []⟩ .o)))))))) Tryd.call73 Tryd.func73 (ok1 pw (ok1 gT (ok1 i0 (ok1 (ni k0 i0) (ok1 rX ok0))))) ok0 ok0 fun s => (show _ = eA kl duE k0 s.2.2.2.2.2.1 s.2.2.2.2.2.2 s.1 s.2.1 s.2.2.1 s.2.2.2.1 s.2.2.2.2.1 from by kernel_rfl).trans ((congrArg (fun eta => eA eta duE k0 s.2.2.2.2.2.1 s.2.2.2.2.2.2 s.1 s.2.1 s.2.2.1 s.2.2.2.1 s.2.2.2.2.1) eN).trans ((congrArg (fun du => eA id du k0 s.2.2.2.2.2.1 s.2.2.2.2.2.2 s.1 s.2.1 s.2.2.1 s.2.2.2.1 s.2.2.2.2.1) fX).trans (by kernel_rfl)))
theorem ma : (iX).Ok X0.P X0.Γ := (show iX = c8 (ao (iR) au) by kernel_rfl) ▸ rP (X := X0) (E := c8) ⟨Tryd.call73, fun _ _ h => nomatch h⟩ (kT) au
def qj : Ent := ⟨62, [(.own (.p (.i .i64) (.p .s (.p (.i .i64) (.i .i64)))) 77 false), (.int .i64), (.own .s 9 false)], (.tup [(.dat .ex [some 89]), (.int .i64), (.int .i64), (.int .i64)]), [], fun s => cN s.1 s.2.1 s.2.2⟩
def gH (eta : Ex → Ex) (_du : Sh → (R : Type) → Option R → Option R) (l : Q3) (at_ : Int) (names : Q9) : Option Q5 := (dO 1 0 l at_ names 0 0).bind fun r14 => bif (r14.2.2.1 != 0) then ( some ((Ex.mk 0 0 0 []), 0, r14.2.2.1, r14.2.2.2)) else ( some ((eta r14.1), r14.2.1, 0, 0))
theorem oc : (qj).Ok X0.P X0.Γ :=
 aS (.c (.r [6] .o) (.r [6] .o)) Tryd.call62 Tryd.func62 (ok1 ma ok0) ok0 ok0 fun s => (show _ = gH kl duE s.1 s.2.1 s.2.2 from by kernel_rfl).trans ((congrArg (fun eta => gH eta duE s.1 s.2.1 s.2.2) eN).trans ((congrArg (fun du => gH id du s.1 s.2.1 s.2.2) fX).trans (by kernel_rfl)))
def mW : Ent := ⟨63, [(.dat .ex [none])], (.tup [(.int .i64), (.int .i64), (.int .i64)]), [], fun s => dW s⟩
def qy (eta : Ex → Ex) (_du : Sh → (R : Type) → Option R → Option R) (cz : Ex → Option Q10) (e : Ex) (again12 : Q16 → Option Q10) : Int × Int × Int × Int → Option Q10 := fun ⟨ints8, bools9, times10, i11⟩ => bif (decide (i11 < (List.length e.l : Int))) then ( (idx e.l i11).bind fun e14 => (cz (eta e14)).bind fun r20 => bif (r20.2.1 != 0) then ( some (0, r20.2.1, r20.2.2)) else ( ab (fun (s33 : Int) => jd bools9 times10 i11 again12 r20 s33) fun kk32 => bif (r20.1 == 1) then ( kk32 (IntKind.i64.wrap (ints8 + 1))) else ( kk32 ints8))) else ( ab (decide (e.op ≤ 6)) fun b35 => ab (ints8 == (List.length e.l : Int)) fun b37 => ab (b35 && b37) fun b39 => bif b39 then ( some (1, 0, 0)) else ( ab (decide (7 ≤ e.op)) fun b42 => ab (decide (e.op ≤ 12)) fun b44 => ab (b42 && b44) fun b46 => ab (ints8 == (List.length e.l : Int)) fun b48 => ab (b46 && b48) fun b50 => ab (e.op == 13) fun b52 => ab (b50 || b52) fun b54 => ab (e.op == 14) fun b56 => ab (b54 || b56) fun b58 => bif b58 then ( some (2, 0, 0)) else ( ab (decide (15 ≤ e.op)) fun b61 => ab (decide (e.op ≤ 19)) fun b63 => ab (b61 && b63) fun b65 => ab (bools9 == (List.length e.l : Int)) fun b67 => ab (b65 && b67) fun b69 => bif b69 then ( some (2, 0, 0)) else ( ab (decide (15 ≤ e.op)) fun b72 => ab ((IntKind.i64.wrap (bools9 + times10)) == (List.length e.l : Int)) fun b74 => ab (b72 && b74) fun b76 => bif b76 then ( some (3, 0, 0)) else ( some (0, 4, e.at_))))))
def iH (eta : Ex → Ex) (du : Sh → (R : Type) → Option R → Option R) (cz : Ex → Option Q10) (e : Ex) : Option Q10 := ao (qy eta du cz e) au (0, 0, 0, 0)
def my : TK1 → TK1 := fun k1 s => eD k1 s
theorem oN (k1 : TK1) (i1 : OK1 k1) : (fK (my k1)).Ok X0.P X0.Γ :=
 aS (.l ⟨[(false, 5, (.int .i64)), (false, 6, (.int .i64)), (false, 7, (.int .i64)), (false, 8, (.int .i64))], []⟩ (.c (.c .o (.j ⟨[(false, 5, (.int .i64))], []⟩ .o (.j ⟨[(false, 6, (.int .i64))], []⟩ .o .o))) .o)) Tryd.call63 Tryd.func63 (ok1 i1 ok0) ok0 ok0 fun s => (show _ = iH kl duE k1 s from by kernel_rfl).trans ((congrArg (fun eta => iH eta duE k1 s) eN).trans ((congrArg (fun du => iH id du k1 s) fX).trans (by kernel_rfl)))
theorem qC : (mW).Ok X0.P X0.Γ := (show mW = fK (ao (my) au) by kernel_rfl) ▸ rP (X := X0) (E := fK) ⟨Tryd.call63, fun _ _ h => nomatch h⟩ (oN) au
def qD : Ent := ⟨63, [(.dat .ex [some 88])], (.tup [(.int .i64), (.int .i64), (.int .i64)]), [], fun s => dV s⟩
def oJ (eta : Ex → Ex) (_du : Sh → (R : Type) → Option R → Option R) (e : Ex) (again12 : Q16 → Option Q10) : Int × Int × Int × Int → Option Q10 := fun ⟨ints8, bools9, times10, i11⟩ => bif (decide (i11 < (List.length e.l : Int))) then ( (idx e.l i11).bind fun e14 => (dW (eta e14)).bind fun r20 => bif (r20.2.1 != 0) then ( some (0, r20.2.1, r20.2.2)) else ( ab (fun (s33 : Int) => kr bools9 times10 i11 again12 r20 s33) fun kk32 => bif (r20.1 == 1) then ( kk32 (IntKind.i64.wrap (ints8 + 1))) else ( kk32 ints8))) else ( ab (decide (e.op ≤ 6)) fun b35 => ab (ints8 == (List.length e.l : Int)) fun b37 => ab (b35 && b37) fun b39 => bif b39 then ( some (1, 0, 0)) else ( ab (decide (7 ≤ e.op)) fun b42 => ab (decide (e.op ≤ 12)) fun b44 => ab (b42 && b44) fun b46 => ab (ints8 == (List.length e.l : Int)) fun b48 => ab (b46 && b48) fun b50 => ab (e.op == 13) fun b52 => ab (b50 || b52) fun b54 => ab (e.op == 14) fun b56 => ab (b54 || b56) fun b58 => bif b58 then ( some (2, 0, 0)) else ( ab (decide (15 ≤ e.op)) fun b61 => ab (decide (e.op ≤ 19)) fun b63 => ab (b61 && b63) fun b65 => ab (bools9 == (List.length e.l : Int)) fun b67 => ab (b65 && b67) fun b69 => bif b69 then ( some (2, 0, 0)) else ( ab (decide (15 ≤ e.op)) fun b72 => ab ((IntKind.i64.wrap (bools9 + times10)) == (List.length e.l : Int)) fun b74 => ab (b72 && b74) fun b76 => bif b76 then ( some (3, 0, 0)) else ( some (0, 4, e.at_))))))
def gV (eta : Ex → Ex) (du : Sh → (R : Type) → Option R → Option R) (e : Ex) : Option Q10 := ao (oJ eta du e) au (0, 0, 0, 0)
theorem oz : (qD).Ok X0.P X0.Γ :=
 aS (.l ⟨[(false, 5, (.int .i64)), (false, 6, (.int .i64)), (false, 7, (.int .i64)), (false, 8, (.int .i64))], []⟩ (.c (.c .o (.j ⟨[(false, 5, (.int .i64))], []⟩ .o (.j ⟨[(false, 6, (.int .i64))], []⟩ .o .o))) .o)) Tryd.call63 Tryd.func63 (ok1 qC ok0) ok0 ok0 fun s => (show _ = gV kl duE s from by kernel_rfl).trans ((congrArg (fun eta => gV eta duE s) eN).trans ((congrArg (fun du => gV id du s) fX).trans (by kernel_rfl)))
def lW : Ent := ⟨51, [(.bx 75 0 true [(.own (.p (.i .i64) (.p .s (.p (.i .i64) (.i .i64)))) 77 false), (.int .i64), (.own .s 9 false), (.own (.p (.i .i64) (.i .i64)) 52 false), (.own (.i .i64) 3 false), (.own .s 9 false), (.own (.p (.i .i64) (.p .ex (.l (.p (.i .i64) .ex)))) 109 false), (.int .i64), (.int .i64)]), (.int .i64)], (.dat .ex [some 89]), [(true, 0, (.bx 75 0 true [.same, (.int .i64), .same, .same, .same, .same, .same, (.int .i64), (.int .i64)]))], fun s => bh s.2.2.2.2.2.2.2.2.2 s.1 s.2.1 s.2.2.1 s.2.2.2.1 s.2.2.2.2.1 s.2.2.2.2.2.1 s.2.2.2.2.2.2.1 s.2.2.2.2.2.2.2.1 s.2.2.2.2.2.2.2.2.1⟩
def kP (eta : Ex → Ex) (_du : Sh → (R : Type) → Option R → Option R) (r14 : Q5) (c32 : Int) (c33 : Int) : Option Q5 := some ((eta r14.1), r14.2.1, c32, c33)
def er (eta : Ex → Ex) (du : Sh → (R : Type) → Option R → Option R) (want : Int) (l : Q3) (at_ : Int) (Names : Q9) (Schema : Q7) (Init : Q2) (Procs : Q9) (Cmd : Q4) (bad : Int) (place : Int) : Option Q5 := bif (bad != 0) then ( some ((Ex.mk 0 0 0 []), at_, bad, place)) else ( du (.b .l .l) _ ( (cN l at_ Names).bind fun r14 => bif (r14.2.2.1 != 0) then ( (aq r14.2.2.1 r14.2.2.2 l at_ Names Schema Init Procs Cmd bad place).bind fun r24 => some ((Ex.mk 0 0 0 []), at_, r24.1, r24.2)) else ( (dV (eta r14.1)).bind fun r28 => ab (fun (s37 : Int × Int) => kP eta du r14 s37.1 s37.2) fun kk36 => bif (r28.2.1 != 0) then ( (aq r28.2.1 r28.2.2 l at_ Names Schema Init Procs Cmd bad place).bind fun r39 => kk36 (r39.1, r39.2)) else ( bif (r28.1 != want) then ( (aq 4 r14.1.at_ l at_ Names Schema Init Procs Cmd bad place).bind fun r43 => kk36 (r43.1, r43.2)) else ( kk36 (bad, place))))))
theorem kN : (lW).Ok X0.P X0.Γ :=
 aS (.c .o (.r [0] (.c .o (.s (.j ⟨[(true, 0, (.bx 75 0 true [.same, .same, .same, .same, .same, .same, .same, (.int .i64), (.int .i64)]))], []⟩ .o .o))))) Tryd.call51 Tryd.func51 (ok1 oc (ok1 bq (ok1 oz ok0))) ok0 ok0 fun s => (show _ = er kl duE s.2.2.2.2.2.2.2.2.2 s.1 s.2.1 s.2.2.1 s.2.2.2.1 s.2.2.2.2.1 s.2.2.2.2.2.1 s.2.2.2.2.2.2.1 s.2.2.2.2.2.2.2.1 s.2.2.2.2.2.2.2.2.1 from by kernel_rfl).trans ((congrArg (fun eta => er eta duE s.2.2.2.2.2.2.2.2.2 s.1 s.2.1 s.2.2.1 s.2.2.2.1 s.2.2.2.2.1 s.2.2.2.2.2.1 s.2.2.2.2.2.2.1 s.2.2.2.2.2.2.2.1 s.2.2.2.2.2.2.2.2.1) eN).trans ((congrArg (fun du => er id du s.2.2.2.2.2.2.2.2.2 s.1 s.2.1 s.2.2.1 s.2.2.2.1 s.2.2.2.2.1 s.2.2.2.2.2.1 s.2.2.2.2.2.2.1 s.2.2.2.2.2.2.2.1 s.2.2.2.2.2.2.2.2.1) fX).trans (by kernel_rfl)))
def nt : Ent := ⟨32, [(.bx 75 0 true [(.own (.p (.i .i64) (.p .s (.p (.i .i64) (.i .i64)))) 77 false), (.int .i64), (.own .s 9 false), (.own (.p (.i .i64) (.i .i64)) 52 false), (.own (.i .i64) 3 false), (.own .s 9 false), (.own (.p (.i .i64) (.p .ex (.l (.p (.i .i64) .ex)))) 109 true), (.int .i64), (.int .i64)])], (.tup []), [(true, 0, (.bx 75 0 true [.same, (.int .i64), .same, .same, .same, .same, (.own (.p (.i .i64) (.p .ex (.l (.p (.i .i64) .ex)))) 109 true), (.int .i64), (.int .i64)]))], fun s => dQ s.1 s.2.1 s.2.2.1 s.2.2.2.1 s.2.2.2.2.1 s.2.2.2.2.2.1 s.2.2.2.2.2.2.1 s.2.2.2.2.2.2.2.1 s.2.2.2.2.2.2.2.2⟩
def l5 (eta : Ex → Ex) (_du : Sh → (R : Type) → Option R → Option R) (l : Q3) (Names : Q9) (Schema : Q7) (Init : Q2) (Procs : Q9) (Cmd : Q4) (l28 : Q21) (again32 : Q15 → Option Q14) (r47 : Int) (c66 : Int) (c67 : Int) (c69 : Int) : Option Q14 := (aP [61] l c69 Names Schema Init Procs Cmd c66 c67).bind fun r70 => (bh 1 l r70.1 Names Schema Init Procs Cmd r70.2.1 r70.2.2).bind fun r73 => chk (aw (List.length l28 + List.length ([(r47, (eta r73.1))] : List (Int × Ex))) 56) <| (aV 3 [44] l r73.2.1 Names Schema Init Procs Cmd r73.2.2.1 r73.2.2.2).bind fun r88 => bif r88 then ( again32 ((IntKind.i64.wrap (r73.2.1 + 1)), r73.2.2.1, r73.2.2.2, (l28 ++ ([(r47, (eta r73.1))] : List (Int × Ex))), r88)) else ( again32 (r73.2.1, r73.2.2.1, r73.2.2.2, (l28 ++ ([(r47, (eta r73.1))] : List (Int × Ex))), r88))
def mf (eta : Ex → Ex) (du : Sh → (R : Type) → Option R → Option R) (l : Q3) (Names : Q9) (Schema : Q7) (Init : Q2) (Procs : Q9) (Cmd : Q4) (c25 : Int) (l28 : Q21) (again32 : Q15 → Option Q14) (r47 : Int) (c66 : Int) (c67 : Int) : Option Q14 := ab (fun (s94 : Int) => l5 eta du l Names Schema Init Procs Cmd l28 again32 r47 c66 c67 s94) fun kk93 => bif (c66 == 0) then ( kk93 (IntKind.i64.wrap (c25 + 1))) else ( kk93 c25)
def l8 (eta : Ex → Ex) (du : Sh → (R : Type) → Option R → Option R) (l : Q3) (Names : Q9) (Schema : Q7) (Init : Q2) (Procs : Q9) (Cmd : Q4) (c25 : Int) (c26 : Int) (c27 : Int) (l28 : Q21) (again32 : Q15 → Option Q14) (e40 : Q11) (r47 : Int) (again53 : (Bool × Int) → Option Q14) : Bool × Int → Option Q14 := fun ⟨twice51, k52⟩ => bif (decide (k52 < (List.length l28 : Int))) then ( bm (!twice51) (0, (Ex.mk 0 0 0 [])) (idx l28 k52) fun e55 => ab (e55.1 == r47) fun b61 => ab (twice51 || b61) fun b63 => again53 (b63, (IntKind.i64.wrap (k52 + 1)))) else ( ab (fun (s98 : Int × Int) => mf eta du l Names Schema Init Procs Cmd c25 l28 again32 r47 s98.1 s98.2) fun kk97 => bif (e40.1 != 1) then ( (aq 2 e40.2.2.2 l c25 Names Schema Init Procs Cmd c26 c27).bind fun r100 => kk97 (r100.1, r100.2)) else ( ab (decide (r47 < 0)) fun b103 => ab (b103 || twice51) fun b105 => bif b105 then ( (aq 3 e40.2.2.2 l c25 Names Schema Init Procs Cmd c26 c27).bind fun r108 => kk97 (r108.1, r108.2)) else ( kk97 (c26, c27))))
def lX (eta : Ex → Ex) (du : Sh → (R : Type) → Option R → Option R) (l : Q3) (Names : Q9) (Schema : Q7) (Init : Q2) (Procs : Q9) (Cmd : Q4) (r15 : Q5) (again32 : Q15 → Option Q14) : Int × Int × Int × Q21 × Bool → Option Q14 := fun ⟨c25, c26, c27, l28, more31⟩ => ab (c26 == 0) fun b33 => ab (more31 && b33) fun b35 => bif b35 then ( (idx l c25).bind fun e40 => (bz Names e40.2.1).bind fun r47 => ao (l8 eta du l Names Schema Init Procs Cmd c25 c26 c27 l28 again32 e40 r47) au (false, 0)) else ( (aP [59] l c25 Names Schema Init Procs Cmd c26 c27).bind fun r111 => chk (aw (List.length Cmd + List.length ([((IntKind.i64.wrap ((List.length Procs : Int) - 1)), (eta r15.1), l28)] : List Q27)) 80) <| some (r111.1, (Cmd ++ ([((IntKind.i64.wrap ((List.length Procs : Int) - 1)), (eta r15.1), l28)] : List Q27)), r111.2.1, r111.2.2))
def l9 (eta : Ex → Ex) (du : Sh → (R : Type) → Option R → Option R) (l : Q3) (at_ : Int) (Names : Q9) (Schema : Q7) (Init : Q2) (Procs : Q9) (Cmd : Q4) (c10 : Int) (c11 : Int) : Option Q14 := (bh 2 l at_ Names Schema Init Procs Cmd c10 c11).bind fun r15 => (aP [58] l r15.2.1 Names Schema Init Procs Cmd r15.2.2.1 r15.2.2.2).bind fun r21 => ao (lX eta du l Names Schema Init Procs Cmd r15) au (r21.1, r21.2.1, r21.2.2, [], true)
def fa (eta : Ex → Ex) (du : Sh → (R : Type) → Option R → Option R) (l : Q3) (at_ : Int) (Names : Q9) (Schema : Q7) (Init : Q2) (Procs : Q9) (Cmd : Q4) (bad : Int) (place : Int) : Option Q14 := ab (fun (s124 : Int × Int) => l9 eta du l at_ Names Schema Init Procs Cmd s124.1 s124.2) fun kk123 => bif (decide (256 ≤ (List.length Cmd : Int))) then ( (aB l at_ Names Schema Init Procs Cmd bad place).bind fun r126 => (aq 9 r126 l at_ Names Schema Init Procs Cmd bad place).bind fun r129 => kk123 (r129.1, r129.2)) else ( kk123 (bad, place))
theorem me : (nt).Ok X0.P X0.Γ :=
 aS (.j ⟨[(true, 0, (.bx 75 0 true [.same, .same, .same, .same, .same, .same, .same, (.int .i64), (.int .i64)]))], []⟩ .o (.l ⟨[(true, 0, (.bx 75 0 true [.same, (.int .i64), .same, .same, .same, .same, .same, (.int .i64), (.int .i64)])), (true, 2, (.bx 109 0 true [.same, .same, .same, .same, .same, (.own (.p (.i .i64) .ex) 112 true)])), (false, 3, .bool)], []⟩ (.c (.r [] (.r [0] (.l ⟨[(false, 6, .bool), (false, 7, (.int .i64))], []⟩ (.c .o (.j ⟨[(true, 0, (.bx 75 0 true [.same, .same, .same, .same, .same, .same, .same, (.int .i64), (.int .i64)]))], [4]⟩ .o (.j ⟨[(true, 0, (.bx 75 0 true [.same, (.int .i64), .same, .same, .same, .same, .same, .same, .same]))], []⟩ .o .o)))))) (.r [0, 2] .o)))) Tryd.call32 Tryd.func32 (ok1 kN (ok1 fj (ok1 jf (ok1 dS (ok1 bq (ok1 dy ok0)))))) ok0 ok0 fun s => (show _ = fa kl duE s.1 s.2.1 s.2.2.1 s.2.2.2.1 s.2.2.2.2.1 s.2.2.2.2.2.1 s.2.2.2.2.2.2.1 s.2.2.2.2.2.2.2.1 s.2.2.2.2.2.2.2.2 from by kernel_rfl).trans ((congrArg (fun eta => fa eta duE s.1 s.2.1 s.2.2.1 s.2.2.2.1 s.2.2.2.2.1 s.2.2.2.2.2.1 s.2.2.2.2.2.2.1 s.2.2.2.2.2.2.2.1 s.2.2.2.2.2.2.2.2) eN).trans ((congrArg (fun du => fa id du s.1 s.2.1 s.2.2.1 s.2.2.2.1 s.2.2.2.2.1 s.2.2.2.2.2.1 s.2.2.2.2.2.2.1 s.2.2.2.2.2.2.2.1 s.2.2.2.2.2.2.2.2) fX).trans (by kernel_rfl)))
def og : Ent := ⟨47, [(.bx 75 0 true [(.own (.p (.i .i64) (.p .s (.p (.i .i64) (.i .i64)))) 77 false), (.int .i64), (.own .s 9 false), (.own (.p (.i .i64) (.i .i64)) 52 false), (.own (.i .i64) 3 false), (.own .s 9 false), (.own (.p (.i .i64) (.p .ex (.l (.p (.i .i64) .ex)))) 109 false), (.int .i64), (.int .i64)])], (.int .i64), [(true, 0, (.bx 75 0 true [.same, (.int .i64), .same, .same, .same, .same, .same, (.int .i64), (.int .i64)]))], fun s => ca s.1 s.2.1 s.2.2.1 s.2.2.2.1 s.2.2.2.2.1 s.2.2.2.2.2.1 s.2.2.2.2.2.2.1 s.2.2.2.2.2.2.2.1 s.2.2.2.2.2.2.2.2⟩
theorem mY : (og).Ok X0.P X0.Γ :=
 aS (.s (.s (.j ⟨[(true, 0, (.bx 75 0 true [.same, (.int .i64), .same, .same, .same, .same, .same, .same, .same]))], []⟩ .o (.r [] (.j ⟨[(true, 0, (.bx 75 0 true [.same, .same, .same, .same, .same, .same, .same, (.int .i64), (.int .i64)]))], []⟩ .o .o))))) Tryd.call47 Tryd.func47 (ok1 dS (ok1 bq ok0)) ok0 ok0 fun _ => by kernel_rfl
def rK : Ent := ⟨48, [(.sli (.p (.i .i64) (.i .i64)))], .bool, [], fun s => gQ s⟩
theorem pQ : (rK).Ok X0.P X0.Γ :=
 aS (.c .o (.l ⟨[(false, 3, (.int .i64))], []⟩ .o)) Tryd.call48 Tryd.func48 ok0 ok0 ok0 fun _ => by kernel_rfl
def nk : Ent := ⟨29, [(.bx 75 0 true [(.own (.p (.i .i64) (.p .s (.p (.i .i64) (.i .i64)))) 77 false), (.int .i64), (.own .s 9 true), (.own (.p (.i .i64) (.i .i64)) 52 true), (.own (.i .i64) 3 true), (.own .s 9 false), (.own (.p (.i .i64) (.p .ex (.l (.p (.i .i64) .ex)))) 109 false), (.int .i64), (.int .i64)])], (.tup []), [(true, 0, (.bx 75 0 true [.same, (.int .i64), (.own .s 9 true), (.own (.p (.i .i64) (.i .i64)) 52 true), (.own (.i .i64) 3 true), .same, .same, (.int .i64), (.int .i64)]))], fun s => dG s.1 s.2.1 s.2.2.1 s.2.2.2.1 s.2.2.2.2.1 s.2.2.2.2.2.1 s.2.2.2.2.2.2.1 s.2.2.2.2.2.2.2.1 s.2.2.2.2.2.2.2.2⟩
theorem lD : (nk).Ok X0.P X0.Γ :=
 aS (.s (.s (.s (.s (.s (.s (.s (.s (.j ⟨[(true, 0, (.bx 75 0 true [.same, .same, .same, .same, .same, .same, .same, (.int .i64), (.int .i64)]))], []⟩ .o (.r [0] .o)))))))))) Tryd.call29 Tryd.func29 (ok1 je (ok1 dy (ok1 mY (ok1 fj (ok1 pQ (ok1 bq ok0)))))) ok0 ok0 fun _ => by kernel_rfl
def rU : Ent := ⟨16, [.str], (.tup [(.dat (.p (.l .s) (.p (.l (.p (.i .i64) (.i .i64))) (.p (.l (.i .i64)) (.p (.l .s) (.l (.p (.i .i64) (.p .ex (.l (.p (.i .i64) .ex))))))))) [some 19, some 105, some 7, some 19, some 219]), (.int .i64), (.int .i64)]), [], fun s => cR s⟩
theorem pU : (rU).Ok X0.P X0.Γ :=
 aS (.c .o (.l ⟨[(true, 8, (.bx 75 0 true [.same, (.int .i64), (.own .s 9 true), (.own (.p (.i .i64) (.i .i64)) 52 true), (.own (.i .i64) 3 true), (.own .s 9 true), (.own (.p (.i .i64) (.p .ex (.l (.p (.i .i64) .ex)))) 109 true), (.int .i64), (.int .i64)]))], []⟩ (.c (.s (.s (.j ⟨[(true, 8, (.bx 75 0 true [.same, .same, .same, .same, .same, .same, .same, (.int .i64), (.int .i64)]))], []⟩ .o (.j ⟨[(true, 8, (.bx 75 0 true [.same, (.int .i64), .same, .same, .same, .same, .same, .same, .same]))], []⟩ .o (.j ⟨[(true, 8, (.bx 75 0 true [.same, (.int .i64), (.own .s 9 true), (.own (.p (.i .i64) (.i .i64)) 52 true), (.own (.i .i64) 3 true), .same, .same, (.int .i64), (.int .i64)]))], []⟩ .o (.c (.l ⟨[(true, 8, (.bx 75 0 true [.same, (.int .i64), .same, .same, .same, .same, (.own (.p (.i .i64) (.p .ex (.l (.p (.i .i64) .ex)))) 109 true), (.int .i64), (.int .i64)])), (false, 12, .bool)], []⟩ .o) .o)))))) (.j ⟨[(true, 8, (.bx 75 0 true [.same, .same, .same, .same, .same, .same, .same, (.int .i64), (.int .i64)]))], []⟩ .o (.c (.r [2] .o) .o))))) Tryd.call16 Tryd.func16 (ok1 ph (ok1 dS (ok1 je (ok1 fj (ok1 me (ok1 lD (ok1 dy (ok1 bq ok0)))))))) ok0 ok0 fun _ => by kernel_rfl
def ox : Ent := ⟨6, [.str], (.tup [(.dat (.p (.l .s) (.p (.l (.p (.i .i64) (.i .i64))) (.p (.l (.i .i64)) (.p (.l .s) (.l (.p (.i .i64) (.p .ex (.l (.p (.i .i64) .ex))))))))) [some 19, some 105, some 7, some 19, some 219]), .bool]), [], fun s => fk s⟩
theorem lL : (ox).Ok X0.P X0.Γ :=
 aS .o Tryd.call6 Tryd.func6 (ok1 pU ok0) ok0 ok0 fun _ => by kernel_rfl
def vz : Ent := ⟨41, [(.dat (.p (.i .i64) (.i .i64)) [])], .bool, [], fun s => qY s⟩
theorem sC : (vz).Ok X0.P X0.Γ :=
 aS .o Tryd.call41 Tryd.func41 ok0 ok0 ok0 fun _ => by kernel_rfl
def uR : Ent := ⟨40, [(.sli (.p (.i .i64) (.i .i64))), (.fn 41 [] [])], (.own .bo 4 true), [], fun s => pJ s⟩
theorem rM : (uR).Ok X0.P X0.Γ :=
 aS (.l ⟨[(true, 5, (.own .bo 4 true)), (false, 13, (.int .i64))], []⟩ .o) Tryd.call40 Tryd.func40 (ok1 sC ok0) ok0 ok0 fun _ => by kernel_rfl
def pG : Ent := ⟨57, [(.sli .bo), .bool], (.int .i64), [], fun s => kY s.1 s.2⟩
theorem oq : (pG).Ok X0.P X0.Γ :=
 aS (.l ⟨[(false, 8, (.int .i64))], []⟩ .o) Tryd.call57 Tryd.func57 ok0 ok0 ok0 fun _ => by kernel_rfl
def ot : Ent := ⟨39, [(.sli .bo), .bool], .bool, [], fun s => jR s.1 s.2⟩
theorem mm : (ot).Ok X0.P X0.Γ :=
 aS .o Tryd.call39 Tryd.func39 (ok1 oq ok0) ok0 ok0 fun _ => by kernel_rfl
def zk : Ent := ⟨20, [(.sli (.p (.i .i64) (.i .i64)))], .bool, [], fun s => pK s⟩
theorem vC : (zk).Ok X0.P X0.Γ :=
 aS .o Tryd.call20 Tryd.func20 (ok1 rM (ok1 mm ok0)) ok0 ok0 fun _ => by kernel_rfl
def kK : Ent := ⟨21, [(.sli (.p (.i .i64) (.i .i64)))], (.own (.p (.i .i64) (.i .i64)) 52 true), [], fun s => dT s⟩
theorem jW : (kK).Ok X0.P X0.Γ :=
 aS .o Tryd.call21 Tryd.func21 ok0 ok0 ok0 fun _ => by kernel_rfl
def Aq : Ent := ⟨13, [(.dat (.p (.l .s) (.p (.l (.p (.i .i64) (.i .i64))) (.p (.l (.i .i64)) (.p (.l .s) (.l (.p (.i .i64) (.p .ex (.l (.p (.i .i64) .ex))))))))) [none, none, none, none, none]), (.dat (.p (.l (.l .ex)) (.p (.l (.l (.i .i64))) (.p (.l (.i .i64)) (.l (.l (.i .i64)))))) [none, none, none, none])], (.tup [(.own (.p (.i .i64) (.i .i64)) 52 true), (.int .i64)]), [], fun s => vN s.1 s.2⟩
def oH (_eta : Ex → Ex) (du : Sh → (R : Type) → Option R → Option R) (m : Q1) (a : Q13) : Option (Q7 × Int) := (pK ([(0, (max 0 (IntKind.i64.wrap ((List.length a.1 : Int) - 1))))] : List Q24)).bind fun r16 => bif (!r16) then ( some ([], 9)) else ( du (.b .l .l) _ ( (dT m.2.1).bind fun r22 => chk (aw (List.length r22 + List.length ([(0, (max 0 (IntKind.i64.wrap ((List.length a.1 : Int) - 1))))] : List Q24)) 16) <| some ((r22 ++ ([(0, (max 0 (IntKind.i64.wrap ((List.length a.1 : Int) - 1))))] : List Q24)), 0)))
theorem wZ : (Aq).Ok X0.P X0.Γ :=
 aS .o Tryd.call13 Tryd.func13 (ok1 vC (ok1 jW ok0)) ok0 ok0 fun s => (show _ = oH kl duE s.1 s.2 from by kernel_rfl).trans ((congrArg (fun eta => oH eta duE s.1 s.2) eN).trans ((congrArg (fun du => oH id du s.1 s.2) fX).trans (by kernel_rfl)))
def CU : Ent := ⟨19, [(.dat (.p (.l (.l .ex)) (.p (.l (.l (.i .i64))) (.p (.l (.i .i64)) (.l (.l (.i .i64)))))) [none, none, none, none]), (.sli (.i .i64)), (.sli (.i .i64))], (.fn 36 [] [(.bx 25 0 true [(.sli (.i .i64))]), (.bx 34 0 true [(.sli (.l .ex)), (.sli (.l (.i .i64))), (.sli (.i .i64)), (.sli (.l (.i .i64)))]), (.bx 25 0 true [(.sli (.i .i64))])]), [], fun s => nY s.1 s.2.1 s.2.2⟩
theorem rS : (CU).Ok X0.P X0.Γ :=
 aS .o Tryd.call19 Tryd.func19 ok0 ok0 ok0 fun _ => by kernel_rfl
def Bv : Ent := ⟨67, [.bool], (.int .i64), [], fun s => ml s⟩
theorem x9 : (Bv).Ok X0.P X0.Γ :=
 aS .o Tryd.call67 Tryd.func67 ok0 ok0 ok0 fun _ => by kernel_rfl
def vM : Ent := ⟨56, [(.dat .ex [none]), (.sli (.i .i64))], (.int .i64), [], fun s => ji s.1 s.2⟩
def yC (eta : Ex → Ex) (_du : Sh → (R : Type) → Option R → Option R) (iC : (Ex × Q2) → Option Int) (e : Ex) (v3 : Q2) (again15 : Q10 → Option Int) : Int × Int × Int → Option Int := fun ⟨c12, c13, t14⟩ => bif (decide (t14 < (List.length (dm e.l 0 (min (List.length e.l : Int) 2)) : Int))) then ( (idx (dm e.l 0 (min (List.length e.l : Int) 2)) t14).bind fun e17 => (iC ((eta e17), v3)).bind fun r26 => bif (t14 == 0) then ( again15 (r26, c13, (IntKind.i64.wrap (t14 + 1)))) else ( bif (t14 == 1) then ( again15 (c12, r26, (IntKind.i64.wrap (t14 + 1)))) else ( none))) else ( ab (fun (s43 : Int × Int × Bool) => pR s43.1 s43.2.1 s43.2.2) fun kk42 => ab (fun (s52 : Int × Int × Bool) => qw s52.1 s52.2.1 s52.2.2) fun kk51 => ab (fun (s61 : Int × Int × Bool) => qd s61.1 s61.2.1 s61.2.2) fun kk60 => bif (e.op == 1) then ( some e.n) else ( bif (e.op == 2) then ( ab (decide (e.n < 0)) fun b64 => ab (decide ((List.length v3 : Int) ≤ e.n)) fun b66 => ab (b64 || b66) fun b68 => bif b68 then ( some 0) else ( (idx v3 e.n).bind fun e71 => some e71)) else ( bif (e.op == 3) then ( some (IntKind.i64.wrap (c12 + c13))) else ( bif (e.op == 5) then ( some (IntKind.i64.wrap (c12 * c13))) else ( bif (e.op == 6) then ( some (IntKind.i64.wrap (0 - c12))) else ( bif (e.op == 4) then ( some (IntKind.i64.wrap (c12 - c13))) else ( bif (e.op == 8) then ( kk60 (c12, c13, true)) else ( ab (fun (_s89 : Unit) => pV e c12 c13 kk42 kk51) fun kk88 => ab (fun (s94 : Bool) => qu c12 c13 kk60 kk88 s94) fun kk93 => bif (e.op == 7) then ( kk93 (e.op == 7)) else ( kk93 (e.op == 19))))))))))
def oF (eta : Ex → Ex) (du : Sh → (R : Type) → Option R → Option R) (iC : (Ex × Q2) → Option Int) (e : Ex) (v3 : Q2) : Option Int := chk (kJ 0 (min (List.length e.l : Int) 2) (List.length e.l)) <| ao (yC eta du iC e v3) au (0, 0, 0)
def vD : TK2 → TK2 := fun k2 s => lb k2 s.1 s.2
theorem xd (k2 : TK2) (i2 : OK2 k2) : (mC (vD k2)).Ok X0.P X0.Γ :=
 aS (.l ⟨[(true, 5, (.bx 130 0 true [(.int .i64), (.int .i64)])), (false, 19, (.int .i64))], []⟩ (.c .o (.r [] (.s (.s (.s (.s (.s (.s (.s (.s (.j ⟨[(false, 8, (.int .i64)), (false, 9, (.int .i64)), (false, 10, .bool)], [2]⟩ (.s (.j ⟨[(false, 8, (.int .i64)), (false, 9, (.int .i64)), (false, 10, .bool)], [2]⟩ (.s (.j ⟨[(false, 8, (.int .i64)), (false, 9, (.int .i64)), (false, 10, .bool)], [2]⟩ (.c .o (.c .o (.c .o (.c .o (.c .o (.c .o (.c .o (.j ⟨[], []⟩ (.j ⟨[(false, 50, .bool)], []⟩ .o .o) .o)))))))) .o)) .o)) .o)))))))))))) Tryd.call56 Tryd.func56 (ok1 i2 (ok1 x9 ok0)) ok0 ok0 fun s => (show _ = oF kl duE k2 s.1 s.2 from by kernel_rfl).trans ((congrArg (fun eta => oF eta duE k2 s.1 s.2) eN).trans ((congrArg (fun du => oF id du k2 s.1 s.2) fX).trans (by kernel_rfl)))
theorem nC : (vM).Ok X0.P X0.Γ := (show vM = mC (ao (vD) au) by kernel_rfl) ▸ rP (X := X0) (E := mC) ⟨Tryd.call56, fun _ _ h => nomatch h⟩ (xd) au
def Ao : Ent := ⟨55, [(.dat .ex [none]), (.bx 25 0 false [(.sli (.i .i64))])], .bool, [], fun s => nR s.1 s.2⟩
def oG (eta : Ex → Ex) (_du : Sh → (R : Type) → Option R → Option R) (e : Ex) (x : Q2) : Option Bool := (ji (eta e) x).bind fun r5 => some (r5 != 1)
theorem wR : (Ao).Ok X0.P X0.Γ :=
 aS .o Tryd.call55 Tryd.func55 (ok1 nC ok0) ok0 ok0 fun s => (show _ = oG kl duE s.1 s.2 from by kernel_rfl).trans ((congrArg (fun eta => oG eta duE s.1 s.2) eN).trans ((congrArg (fun du => oG id du s.1 s.2) fX).trans (by kernel_rfl)))
def ka : Ent := ⟨66, [(.sli .ex), (.fn 55 [] [(.bx 25 0 false [(.sli (.i .i64))])])], (.int .i64), [], fun s => dE s.1 s.2⟩
def jF (eta : Ex → Ex) (_du : Sh → (R : Type) → Option R → Option R) (s : (List Ex)) (c : Q2) (again5 : Int → Option Int) (t4 : Int) : Option Int := bif (decide (t4 < (List.length s : Int))) then ( (idx s t4).bind fun e7 => (nR (eta e7) c).bind fun r13 => bif r13 then ( some t4) else ( again5 (IntKind.i64.wrap (t4 + 1)))) else ( some (-1))
def df (eta : Ex → Ex) (du : Sh → (R : Type) → Option R → Option R) (s : (List Ex)) (c : Q2) : Option Int := ao (jF eta du s c) au 0
theorem jA : (ka).Ok X0.P X0.Γ :=
 aS (.l ⟨[(false, 8, (.int .i64))], []⟩ .o) Tryd.call66 Tryd.func66 (ok1 wR ok0) ok0 ok0 fun s => (show _ = df kl duE s.1 s.2 from by kernel_rfl).trans ((congrArg (fun eta => df eta duE s.1 s.2) eN).trans ((congrArg (fun du => df id du s.1 s.2) fX).trans (by kernel_rfl)))
def jG : Ent := ⟨54, [(.sli .ex), (.fn 55 [] [(.bx 25 0 false [(.sli (.i .i64))])])], .bool, [], fun s => cY s.1 s.2⟩
theorem iZ : (jG).Ok X0.P X0.Γ :=
 aS .o Tryd.call54 Tryd.func54 (ok1 jA ok0) ok0 ok0 fun _ => by kernel_rfl
def F9 : Ent := ⟨37, [(.dat (.p (.l (.l .ex)) (.p (.l (.l (.i .i64))) (.p (.l (.i .i64)) (.l (.l (.i .i64)))))) [none, none, none, none]), (.int .i64), (.sli (.i .i64))], .bool, [], fun s => qh s.1 s.2.1 s.2.2⟩
theorem tn : (F9).Ok X0.P X0.Γ :=
 aS .o Tryd.call37 Tryd.func37 (ok1 iZ ok0) ok0 ok0 fun _ => by kernel_rfl
def rb : Ent := ⟨38, [(.sli (.i .i64))], (.own (.i .i64) 3 true), [], fun s => bd s⟩
theorem ei : (rb).Ok X0.P X0.Γ :=
 aS .o Tryd.call38 Tryd.func38 ok0 ok0 ok0 fun _ => by kernel_rfl
def lU : Ent := ⟨52, [(.own (.i .u8) 5 true), (.int .i64), (.int .i64)], (.own (.i .u8) 5 true), [], fun s => eV s.1 s.2.1 s.2.2⟩
theorem kO : (lU).Ok X0.P X0.Γ :=
 aS (.s (.s (.j ⟨[(false, 0, (.own (.i .u8) 5 true)), (false, 7, (.int .u64))], []⟩ .o .o))) Tryd.call52 Tryd.func52 (ok1 GB ok0) ok0 ok0 fun _ => by kernel_rfl
def rh : Ent := ⟨33, [(.own (.i .u8) 5 true), (.int .i64), (.int .i64)], (.own (.i .u8) 5 true), [], fun s => gb s.1 s.2.1 s.2.2⟩
theorem oW : (rh).Ok X0.P X0.Γ :=
 aS .o Tryd.call33 Tryd.func33 (ok1 kO ok0) ok0 ok0 fun _ => by kernel_rfl
def yx : Ent := ⟨17, [(.bx 58 0 true [(.own (.l (.i .i64)) 25 true), (.mp .s .bo true)]), (.sli (.i .i64))], (.tup []), [(true, 0, (.bx 58 0 true [(.own (.l (.i .i64)) 25 true), (.mp .s .bo true)]))], fun s => fG s.2.2 s.1 s.2.1⟩
theorem kQ : (yx).Ok X0.P X0.Γ :=
 aS (.j ⟨[(true, 0, (.bx 58 0 true [.same, (.mp .s .bo true)]))], []⟩ .o (.l ⟨[(true, 0, (.bx 58 0 true [.same, .same])), (false, 4, (.own (.i .u8) 5 true)), (false, 18, (.int .i64))], []⟩ (.c .o (.r [] (.c (.r [0] .o) .o))))) Tryd.call17 Tryd.func17 (ok1 oW ok0) ok0 ok0 fun _ => by kernel_rfl
def vK : Ent := ⟨12, [(.dat (.p (.l .s) (.p (.l (.p (.i .i64) (.i .i64))) (.p (.l (.i .i64)) (.p (.l .s) (.l (.p (.i .i64) (.p .ex (.l (.p (.i .i64) .ex))))))))) [none, none, none, none, none]), (.dat (.p (.l (.l .ex)) (.p (.l (.l (.i .i64))) (.p (.l (.i .i64)) (.l (.l (.i .i64)))))) [none, none, none, none])], (.own (.l (.i .i64)) 25 true), [], fun s => j8 s.1 s.2⟩
theorem A0 : (⟨36, Tryd.f36⟩ : Clo).Ok X0.P := ⟨Tryd.call36, Tryd.func36⟩
theorem nw : (vK).Ok X0.P X0.Γ :=
 aS (.c (.c (.l ⟨[(false, 9, (.int .i64)), (true, 10005, (.bx 58 0 true [(.own (.l (.i .i64)) 25 true), (.mp .s .bo true)]))], []⟩ (.c (.n 4 (.c .o .o)) .o)) .o) .o) Tryd.call12 Tryd.func12 (ok1 rS (ok1 tn (ok1 ei (ok1 kQ ok0)))) ok0 (ok1 A0 ok0) fun _ => by kernel_rfl
def A3 : Ent := ⟨22, [(.sli (.i .i64))], (.tup [(.sli (.i .i64)), (.int .i64)]), [], fun s => mu s⟩
theorem q9 : (A3).Ok X0.P X0.Γ :=
 aS .o Tryd.call22 Tryd.func22 ok0 ok0 ok0 fun _ => by kernel_rfl
def BE : Ent := ⟨42, [(.dat (.p (.l .s) (.p (.l (.p (.i .i64) (.i .i64))) (.p (.l (.i .i64)) (.p (.l .s) (.l (.p (.i .i64) (.p .ex (.l (.p (.i .i64) .ex))))))))) [none, none, none, none, none]), (.sli (.i .i64))], (.fn 58 [] [(.bx 28 0 true [(.sli .s), (.sli (.p (.i .i64) (.i .i64))), (.sli (.i .i64)), (.sli .s), (.sli (.p (.i .i64) (.p .ex (.l (.p (.i .i64) .ex)))))]), (.bx 25 0 true [(.sli (.i .i64))])]), [], fun s => sw s.1 s.2⟩
theorem yk : (BE).Ok X0.P X0.Γ :=
 aS .o Tryd.call42 Tryd.func42 ok0 ok0 ok0 fun _ => by kernel_rfl
def yF : Ent := ⟨59, [(.dat (.p (.l .s) (.p (.l (.p (.i .i64) (.i .i64))) (.p (.l (.i .i64)) (.p (.l .s) (.l (.p (.i .i64) (.p .ex (.l (.p (.i .i64) .ex))))))))) [none, none, none, none, none]), (.sli (.i .i64))], (.own (.i .i64) 3 true), [], fun s => pS s.1 s.2⟩
def vx (eta : Ex → Ex) (_du : Sh → (R : Type) → Option R → Option R) (m : Q1) (v11 : Q2) (again13 : Q19 → Option Q2) : Q2 × Int → Option Q2 := fun ⟨out9, t12⟩ => bif (decide (t12 < (List.length m.2.2.2.2 : Int))) then ( (idx m.2.2.2.2 t12).bind fun e15 => (ji (eta e15.2.1) v11).bind fun r26 => bif (r26 == 1) then ( chk (aw (List.length out9 + List.length ([t12] : List Int)) 8) <| again13 ((out9 ++ ([t12] : List Int)), (IntKind.i64.wrap (t12 + 1)))) else ( again13 (out9, (IntKind.i64.wrap (t12 + 1))))) else ( some out9)
def nM (eta : Ex → Ex) (du : Sh → (R : Type) → Option R → Option R) (m : Q1) (v11 : Q2) : Option Q2 := ao (vx eta du m v11) au ([], 0)
theorem vA : (yF).Ok X0.P X0.Γ :=
 aS (.l ⟨[(false, 5, (.own (.i .i64) 3 true)), (false, 11, (.int .i64))], []⟩ .o) Tryd.call59 Tryd.func59 (ok1 nC ok0) ok0 ok0 fun s => (show _ = nM kl duE s.1 s.2 from by kernel_rfl).trans ((congrArg (fun eta => nM eta duE s.1 s.2) eN).trans ((congrArg (fun du => nM id du s.1 s.2) fX).trans (by kernel_rfl)))
def vy : Ent := ⟨78, [(.dat (.p (.i .i64) (.i .i64)) []), (.int .i64)], .bool, [], fun s => mP s.1 s.2⟩
theorem sT : (vy).Ok X0.P X0.Γ :=
 aS .o Tryd.call78 Tryd.func78 ok0 ok0 ok0 fun _ => by kernel_rfl
def yQ : Ent := ⟨68, [(.sli (.p (.i .i64) (.i .i64))), (.own (.i .i64) 3 false)], (.int .i64), [], fun s => ki s.1 s.2⟩
theorem vB : (yQ).Ok X0.P X0.Γ :=
 aS (.c .o (.l ⟨[(false, 14, (.int .i64))], []⟩ .o)) Tryd.call68 Tryd.func68 (ok1 sT ok0) ok0 ok0 fun _ => by kernel_rfl
def Dm : Ent := ⟨60, [(.dat (.p (.l .s) (.p (.l (.p (.i .i64) (.i .i64))) (.p (.l (.i .i64)) (.p (.l .s) (.l (.p (.i .i64) (.p .ex (.l (.p (.i .i64) .ex))))))))) [none, none, none, none, none]), (.sli (.i .i64)), (.int .i64)], (.tup [(.own (.i .i64) 3 true), (.int .i64)]), [], fun s => qT s.1 s.2.1 s.2.2⟩
def zj (eta : Ex → Ex) (_du : Sh → (R : Type) → Option R → Option R) (m : Q1) (v11 : Q2) (e21 : Q27) (again32 : Q19 → Option Q19) : Q2 × Int → Option Q19 := fun ⟨l30, t31⟩ => bif (decide (t31 < (List.length e21.2.2 : Int))) then ( (idx e21.2.2 t31).bind fun e34 => (ji (eta e34.2) v11).bind fun r45 => (idx l30 e34.1).bind fun _e48 => again32 ((List.set l30 (Int.toNat e34.1) r45), (IntKind.i64.wrap (t31 + 1)))) else ( (ki m.2.1 l30).bind fun r51 => bif (r51 != 0) then ( some ([], 6)) else ( some (l30, 0)))
def ry (eta : Ex → Ex) (du : Sh → (R : Type) → Option R → Option R) (m : Q1) (v11 : Q2) (k : Int) : Option Q19 := ab (decide (k < 0)) fun b9 => ab (decide ((List.length m.2.2.2.2 : Int) ≤ k)) fun b11 => ab (b9 || b11) fun b13 => bif b13 then ( some ([], 10)) else ( (bd v11).bind fun r16 => (idx m.2.2.2.2 k).bind fun e21 => ao (zj eta du m v11 e21) au (r16, 0))
theorem ze : (Dm).Ok X0.P X0.Γ :=
 aS (.c .o (.l ⟨[(true, 8, (.own (.i .i64) 3 true)), (false, 29, (.int .i64))], []⟩ (.c (.r [8] .o) .o))) Tryd.call60 Tryd.func60 (ok1 ei (ok1 nC (ok1 vB ok0))) ok0 ok0 fun s => (show _ = ry kl duE s.1 s.2.1 s.2.2 from by kernel_rfl).trans ((congrArg (fun eta => ry eta duE s.1 s.2.1 s.2.2) eN).trans ((congrArg (fun du => ry id du s.1 s.2.1 s.2.2) fX).trans (by kernel_rfl)))
def oh : Ent := ⟨79, [(.bx 134 0 true [.sfp, (.own (.i .u8) 5 false)])], (.tup []), [(true, 0, (.bx 134 0 true [.sfp, .same]))], fun s => ed s.1 s.2⟩
theorem iz : (oh).Ok X0.P X0.Γ :=
 aS .o Tryd.call79 Tryd.func79 ok0 ok0 ok0 fun _ => by kernel_rfl
def nj : Ent := ⟨69, [(.bx 134 0 true [.sfp, (.own (.i .u8) 5 true)]), .str], (.tup [(.int .i64), (.cst (.raw .nilIface))]), [(true, 0, (.bx 134 0 true [.sfp, (.own (.i .u8) 5 true)]))], fun s => dJ s.2.2 s.1 s.2.1⟩
theorem lv : (nj).Ok X0.P X0.Γ :=
 aS .o Tryd.call69 Tryd.func69 (ok1 iz ok0) ok0 ok0 fun _ => by kernel_rfl
def oy : Ent := ⟨71, [(.bx 134 0 true [.sfp, (.own (.i .u8) 5 true)]), (.int .u8)], (.cst (.raw .nilIface)), [(true, 0, (.bx 134 0 true [.sfp, (.own (.i .u8) 5 true)]))], fun s => ek s.2.2 s.1 s.2.1⟩
theorem na : (oy).Ok X0.P X0.Γ :=
 aS .o Tryd.call71 Tryd.func71 (ok1 iz ok0) ok0 ok0 fun _ => by kernel_rfl
def pW : Ent := ⟨72, [(.bx 134 0 true [.sfp, (.own (.i .u8) 5 true)])], .str, [], fun s => fy s.1 s.2⟩
theorem n5 : (pW).Ok X0.P X0.Γ :=
 aS (.r [0] .o) Tryd.call72 Tryd.func72 ok0 ok0 ok0 fun _ => by kernel_rfl
def De : Ent := ⟨61, [(.sli (.i .i64))], .str, [], fun s => uG s⟩
theorem y7 : (De).Ok X0.P X0.Γ :=
 aS (.l ⟨[(true, 3, (.bx 134 0 true [.sfp, (.own (.i .u8) 5 true)])), (false, 8, (.int .i64))], []⟩ .o) Tryd.call61 Tryd.func61 (ok1 GQ (ok1 lv (ok1 na (ok1 n5 ok0)))) ok0 ok0 fun _ => by kernel_rfl
def xk : Ent := ⟨43, [(.bx 97 0 true [(.own (.l (.i .i64)) 25 true), (.mp .s .bo true)]), (.sli (.i .i64))], (.tup []), [(true, 0, (.bx 97 0 true [(.own (.l (.i .i64)) 25 true), (.mp .s .bo true)]))], fun s => fR s.2.2 s.1 s.2.1⟩
theorem tD : (xk).Ok X0.P X0.Γ :=
 aS (.j ⟨[(true, 0, (.bx 97 0 true [.same, (.mp .s .bo true)]))], []⟩ .o .o) Tryd.call43 Tryd.func43 (ok1 y7 ok0) ok0 ok0 fun _ => by kernel_rfl
def C8 : Ent := ⟨23, [(.dat (.p (.l .s) (.p (.l (.p (.i .i64) (.i .i64))) (.p (.l (.i .i64)) (.p (.l .s) (.l (.p (.i .i64) (.p .ex (.l (.p (.i .i64) .ex))))))))) [none, none, none, none, none]), (.sli (.i .i64))], (.tup [(.own (.l (.i .i64)) 25 true), (.int .i64)]), [], fun s => qZ s.1 s.2⟩
theorem JF : (⟨58, Tryd.f58⟩ : Clo).Ok X0.P := ⟨Tryd.call58, Tryd.func58⟩
theorem zc : (C8).Ok X0.P X0.Γ :=
 aS (.c (.c (.l ⟨[(false, 10, (.int .i64)), (true, 10004, (.bx 32 0 true [.same])), (true, 10005, (.bx 35 0 true [(.int .i64)])), (true, 10006, (.bx 97 0 true [(.own (.l (.i .i64)) 25 true), (.mp .s .bo true)]))], []⟩ .o) .o) .o) Tryd.call23 Tryd.func23 (ok1 yk (ok1 vA (ok1 ze (ok1 tD (ok1 ei ok0))))) ok0 (ok1 JF ok0) fun _ => by kernel_rfl
def Dg : Ent := ⟨14, [(.dat (.p (.l .s) (.p (.l (.p (.i .i64) (.i .i64))) (.p (.l (.i .i64)) (.p (.l .s) (.l (.p (.i .i64) (.p .ex (.l (.p (.i .i64) .ex))))))))) [none, none, none, none, none]), (.dat (.p (.l (.l .ex)) (.p (.l (.l (.i .i64))) (.p (.l (.i .i64)) (.l (.l (.i .i64)))))) [none, none, none, none]), (.sli (.i .i64))], (.tup [(.own (.l (.i .i64)) 25 true), (.int .i64)]), [], fun s => lG s.1 s.2.1 s.2.2⟩
theorem rQ : (Dg).Ok X0.P X0.Γ :=
 aS (.c .o (.l ⟨[(true, 12, (.bx 58 0 true [(.own (.l (.i .i64)) 25 true), (.mp .s .bo true)])), (false, 32, (.int .i64))], []⟩ (.c (.r [] (.c (.c (.l ⟨[(false, 9, (.int .i64)), (true, 10012, (.bx 58 0 true [(.own (.l (.i .i64)) 25 true), (.mp .s .bo true)]))], []⟩ (.c (.n 4 (.c .o .o)) .o)) .o) .o)) .o))) Tryd.call14 Tryd.func14 (ok1 q9 (ok1 zc (ok1 rS (ok1 tn (ok1 ei (ok1 kQ ok0)))))) ok0 (ok1 A0 ok0) fun _ => by kernel_rfl
def tP : Ent := ⟨7, [(.dat (.p (.l .s) (.p (.l (.p (.i .i64) (.i .i64))) (.p (.l (.i .i64)) (.p (.l .s) (.l (.p (.i .i64) (.p .ex (.l (.p (.i .i64) .ex))))))))) [none, none, none, none, none]), (.dat (.p (.l (.l .ex)) (.p (.l (.l (.i .i64))) (.p (.l (.i .i64)) (.l (.l (.i .i64)))))) [none, none, none, none]), (.int .i64)], (.tup [(.own (.l (.i .i64)) 25 true), (.int .i64)]), [], fun s => cV s.1 s.2.1 s.2.2⟩
theorem q6 : (tP).Ok X0.P X0.Γ :=
 aS (.l ⟨[(true, 8, (.bx 58 0 true [(.own (.l (.i .i64)) 25 true), (.mp .s .bo true)])), (false, 20, (.int .i64))], []⟩ (.c .o (.l ⟨[(true, 8, (.bx 58 0 true [(.own (.l (.i .i64)) 25 true), (.mp .s .bo true)])), (false, 11, (.int .i64))], []⟩ (.c (.r [] (.c .o (.l ⟨[(true, 8, (.bx 58 0 true [(.own (.l (.i .i64)) 25 true), (.mp .s .bo true)])), (false, 57, (.int .i64))], []⟩ .o))) .o)))) Tryd.call7 Tryd.func7 (ok1 nw (ok1 kQ (ok1 rQ ok0))) ok0 ok0 fun _ => by kernel_rfl
def tA : Ent := ⟨9, [(.sli (.i .i64)), (.sli (.i .i64))], .bool, [], fun s => fV s.1 s.2⟩
theorem kS : (tA).Ok X0.P X0.Γ :=
 aS (.c .o (.l ⟨[(false, 5, (.int .i64))], []⟩ .o)) Tryd.call9 Tryd.func9 ok0 ok0 ok0 fun _ => by kernel_rfl
def mU : Ent := ⟨11, [(.sli (.l (.i .i64))), (.sli (.l (.i .i64)))], .bool, [], fun s => cq s.1 s.2⟩
theorem kG : (mU).Ok X0.P X0.Γ :=
 aS (.c .o (.l ⟨[(false, 5, (.int .i64))], []⟩ .o)) Tryd.call11 Tryd.func11 (ok1 kS ok0) ok0 ok0 fun _ => by kernel_rfl
def rA : Ent := ⟨44, [(.sli (.i .i64)), (.int .i64)], (.int .i64), [], fun s => mX s.1 s.2⟩
theorem oT : (rA).Ok X0.P X0.Γ :=
 aS (.l ⟨[(false, 8, (.int .i64))], []⟩ .o) Tryd.call44 Tryd.func44 ok0 ok0 ok0 fun _ => by kernel_rfl
def oQ : Ent := ⟨24, [(.sli (.i .i64)), (.int .i64)], .bool, [], fun s => kF s.1 s.2⟩
theorem nn : (oQ).Ok X0.P X0.Γ :=
 aS .o Tryd.call24 Tryd.func24 (ok1 oT ok0) ok0 ok0 fun _ => by kernel_rfl
def By : Ent := ⟨15, [(.dat (.p (.l (.l .ex)) (.p (.l (.l (.i .i64))) (.p (.l (.i .i64)) (.l (.l (.i .i64)))))) [none, none, none, none]), (.sli (.i .i64))], .bool, [], fun s => xL s.1 s.2⟩
theorem xR : (By).Ok X0.P X0.Γ :=
 aS .o Tryd.call15 Tryd.func15 (ok1 q9 (ok1 nn ok0)) ok0 ok0 fun _ => by kernel_rfl
def lQ : Ent := ⟨5, [], .bool, [], fun _ => gS⟩
theorem qx : (lQ).Ok X0.P X0.Γ :=
 aS .o Tryd.call5 Tryd.func5 (ok1 lL (ok1 wZ (ok1 q6 (ok1 rQ (ok1 kG (ok1 nw (ok1 xR ok0))))))) ok0 ok0 fun _ => by kernel_rfl
def rZ : Ent := ⟨65, [.bool], (.int .i64), [], fun s => az s⟩
theorem pO : (rZ).Ok X0.P X0.Γ :=
 aS .o Tryd.call65 Tryd.func65 ok0 ok0 ok0 fun _ => by kernel_rfl
def mQ : Ent := ⟨53, [(.dat .ex [none]), (.sli (.i .i64))], (.int .i64), [], fun s => dX s.1 s.2⟩
def qH (eta : Ex → Ex) (_du : Sh → (R : Type) → Option R → Option R) (bJ : (Ex × Q2) → Option Int) (e : Ex) (v3 : Q2) (a6 : Int) : Option Int := ab (fun (s88 : Int) => fN e v3 a6 s88) fun kk87 => bif (decide (1 < (List.length e.l : Int))) then ( (idx e.l 1).bind fun e90 => (bJ ((eta e90), v3)).bind fun r96 => kk87 r96) else ( kk87 0)
def iF (eta : Ex → Ex) (du : Sh → (R : Type) → Option R → Option R) (bJ : (Ex × Q2) → Option Int) (e : Ex) (v3 : Q2) : Option Int := ab (fun (s100 : Int) => qH eta du bJ e v3 s100) fun kk99 => bif (decide (0 < (List.length e.l : Int))) then ( (idx e.l 0).bind fun e102 => (bJ ((eta e102), v3)).bind fun r108 => kk99 r108) else ( kk99 0)
def mM : TK3 → TK3 := fun k3 s => gw k3 s.1 s.2
theorem o9 (k3 : TK3) (i3 : OK3 k3) : (fL (mM k3)).Ok X0.P X0.Γ :=
 aS (.s (.s (.s (.j ⟨[(false, 5, (.int .i64))], []⟩ .o (.j ⟨[(false, 6, (.int .i64))], []⟩ .o .o))))) Tryd.call53 Tryd.func53 (ok1 pO (ok1 i3 ok0)) ok0 ok0 fun s => (show _ = iF kl duE k3 s.1 s.2 from by kernel_rfl).trans ((congrArg (fun eta => iF eta duE k3 s.1 s.2) eN).trans ((congrArg (fun du => iF id du k3 s.1 s.2) fX).trans (by kernel_rfl)))
theorem kE : (mQ).Ok X0.P X0.Γ := (show mQ = fL (ao (mM) au) by kernel_rfl) ▸ rP (X := X0) (E := fL) ⟨Tryd.call53, fun _ _ h => nomatch h⟩ (o9) au
def qE : Ent := ⟨34, [(.dat (.p (.l .s) (.p (.l (.p (.i .i64) (.i .i64))) (.p (.l (.i .i64)) (.p (.l .s) (.l (.p (.i .i64) (.p .ex (.l (.p (.i .i64) .ex))))))))) [none, none, none, none, none]), (.sli (.i .i64))], (.own (.i .i64) 3 true), [], fun s => ja s.1 s.2⟩
def oE (eta : Ex → Ex) (_du : Sh → (R : Type) → Option R → Option R) (m : Q1) (v11 : Q2) (again13 : Q19 → Option Q2) : Q2 × Int → Option Q2 := fun ⟨out9, i12⟩ => bif (decide (i12 < (List.length m.2.2.2.2 : Int))) then ( (idx m.2.2.2.2 i12).bind fun e15 => (dX (eta e15.2.1) v11).bind fun r23 => bif (r23 == 1) then ( chk (aw (List.length out9 + List.length ([i12] : List Int)) 8) <| again13 ((out9 ++ ([i12] : List Int)), (IntKind.i64.wrap (i12 + 1)))) else ( again13 (out9, (IntKind.i64.wrap (i12 + 1))))) else ( some out9)
def gU (eta : Ex → Ex) (du : Sh → (R : Type) → Option R → Option R) (m : Q1) (v11 : Q2) : Option Q2 := ao (oE eta du m v11) au ([], 0)
theorem oC : (qE).Ok X0.P X0.Γ :=
 aS (.l ⟨[(false, 5, (.own (.i .i64) 3 true)), (false, 6, (.int .i64))], []⟩ .o) Tryd.call34 Tryd.func34 (ok1 kE ok0) ok0 ok0 fun s => (show _ = gU kl duE s.1 s.2 from by kernel_rfl).trans ((congrArg (fun eta => gU eta duE s.1 s.2) eN).trans ((congrArg (fun du => gU id du s.1 s.2) fX).trans (by kernel_rfl)))
def sF : Ent := ⟨35, [(.dat (.p (.l .s) (.p (.l (.p (.i .i64) (.i .i64))) (.p (.l (.i .i64)) (.p (.l .s) (.l (.p (.i .i64) (.p .ex (.l (.p (.i .i64) .ex))))))))) [none, none, none, none, none]), (.sli (.i .i64)), (.int .i64)], (.tup [(.own (.i .i64) 3 true), (.int .i64)]), [], fun s => il s.1 s.2.1 s.2.2⟩
def qA (eta : Ex → Ex) (_du : Sh → (R : Type) → Option R → Option R) (m : Q1) (v11 : Q2) (k : Int) (again25 : Q19 → Option Q19) : Q2 × Int → Option Q19 := fun ⟨l23, i24⟩ => (idx m.2.2.2.2 k).bind fun e26 => bif (decide (i24 < (List.length e26.2.2 : Int))) then ( (idx m.2.2.2.2 k).bind fun e35 => (idx e35.2.2 i24).bind fun e43 => (dX (eta e43.2) v11).bind fun r54 => (idx l23 e43.1).bind fun _e57 => again25 ((List.set l23 (Int.toNat e43.1) r54), (IntKind.i64.wrap (i24 + 1)))) else ( ao (ea m l23) au 0)
def jw (eta : Ex → Ex) (du : Sh → (R : Type) → Option R → Option R) (m : Q1) (v11 : Q2) (k : Int) : Option Q19 := ab (decide (k < 0)) fun b9 => ab (decide ((List.length m.2.2.2.2 : Int) ≤ k)) fun b11 => ab (b9 || b11) fun b13 => bif b13 then ( some ([], 10)) else ( chk (aw (List.length ([] : List Int) + List.length v11) 8) <| ao (qA eta du m v11 k) au ((([] : List Int) ++ v11), 0))
theorem qz : (sF).Ok X0.P X0.Γ :=
 aS (.c .o (.l ⟨[(true, 8, (.own (.i .i64) 3 true)), (false, 9, (.int .i64))], []⟩ (.c (.r [8] .o) (.l ⟨[(false, 11, (.int .i64))], []⟩ .o)))) Tryd.call35 Tryd.func35 (ok1 kE ok0) ok0 ok0 fun s => (show _ = jw kl duE s.1 s.2.1 s.2.2 from by kernel_rfl).trans ((congrArg (fun eta => jw eta duE s.1 s.2.1 s.2.2) eN).trans ((congrArg (fun du => jw id du s.1 s.2.1 s.2.2) fX).trans (by kernel_rfl)))
def kh : Ent := ⟨10, [(.own (.l (.i .i64)) 25 false), (.sli (.i .i64))], (.int .i64), [], fun s => cP s.1 s.2⟩
theorem fE : (kh).Ok X0.P X0.Γ :=
 aS (.l ⟨[(false, 5, (.int .i64))], []⟩ .o) Tryd.call10 Tryd.func10 (ok1 kS ok0) ok0 ok0 fun _ => by kernel_rfl
def sA : Ent := ⟨18, [(.dat (.p (.l .s) (.p (.l (.p (.i .i64) (.i .i64))) (.p (.l (.i .i64)) (.p (.l .s) (.l (.p (.i .i64) (.p .ex (.l (.p (.i .i64) .ex))))))))) [none, none, none, none, none]), (.sli (.i .i64))], (.tup [(.own (.l (.i .i64)) 25 true), (.int .i64)]), [], fun s => iA s.1 s.2⟩
theorem qB : (sA).Ok X0.P X0.Γ :=
 aS (.c .o (.l ⟨[(false, 7, (.own (.l (.i .i64)) 25 true)), (false, 8, (.int .i64))], []⟩ .o)) Tryd.call18 Tryd.func18 (ok1 oC (ok1 qz (ok1 fE ok0))) ok0 ok0 fun _ => by kernel_rfl
def lR : Ent := ⟨8, [(.dat (.p (.l .s) (.p (.l (.p (.i .i64) (.i .i64))) (.p (.l (.i .i64)) (.p (.l .s) (.l (.p (.i .i64) (.p .ex (.l (.p (.i .i64) .ex))))))))) [none, none, none, none, none]), (.int .i64)], (.tup [(.own (.l (.i .i64)) 25 true), (.int .i64), (.sli (.i .i64))]), [], fun s => dK s.1 s.2⟩
theorem pY : (lR).Ok X0.P X0.Γ :=
 aS (.l ⟨[(false, 7, (.own (.l (.i .i64)) 25 true)), (false, 8, (.int .i64))], []⟩ (.c (.c .o (.r [] (.c .o (.l ⟨[(false, 7, (.own (.l (.i .i64)) 25 true)), (false, 11, (.int .i64))], []⟩ .o)))) .o)) Tryd.call8 Tryd.func8 (ok1 qB (ok1 fE ok0)) ok0 ok0 fun _ => by kernel_rfl
end
end Go.Proofs.YtkckoolfgnkpcaaDoor
