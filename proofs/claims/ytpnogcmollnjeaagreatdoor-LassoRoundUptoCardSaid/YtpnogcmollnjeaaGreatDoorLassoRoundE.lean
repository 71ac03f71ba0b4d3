/-
  Own texts for the statement LassoRound, cut down to what it needs: Model, KLay, KIto, KGrow, KGr, Den. (cut and joined by a program)
-/
import Derived.Test.YtpnogcmollnjeaaGreatDoorLassoRoundA
import Derived.Test.YtpnogcmollnjeaaGreatDoorLassoRoundB
import Derived.Test.YtpnogcmollnjeaaGreatDoorLassoRoundC
import Derived.Test.YtpnogcmollnjeaaGreatDoorLassoRoundD
import Derived.Shelf.Strconv.Itoa3
import Derived.Ground.NamesProg
import Derived.Test.YtpnogcmollnjeaaGreatDoorProg
import Derived.Shelf.Spec.SlicesGrow
namespace Go.Proofs.YtpnogcmollnjeaaGreatDoor
abbrev Q1 := (List (Int × Ex × (List (Int × Ex))))
abbrev Q2 := (List (Int × Str × Int × Int))
abbrev Q3 := (List Int)
abbrev Q4 := ((List Str) × (List (Int × Int)) × Q3 × (List Str) × Q1)
abbrev Q5 := (List Bool)
abbrev Q6 := (Ex × Int × Int × Int)
abbrev Q7 := (List Str)
abbrev Q8 := (List (Int × Int))
abbrev Q9 := (Int × Int × Int)
abbrev Q10 := (Int × Int × Q2 × Int × Q7 × Int × Int)
abbrev Q11 := (Int × Str × Int × Int)
abbrev Q12 := (Int × Q1 × Int × Int)
abbrev Q13 := ((List Q3) × Int)
abbrev Q14 := (Int × Int × Int × (List (Int × Ex)) × Bool)
abbrev Q15 := (Int × Int × Int × Int)
abbrev Q16 := (Q2 × Int × Int)
abbrev Q17 := ((List Q3) × (List Q3))
abbrev Q18 := (List (Int × Ex))
abbrev Q19 := (Int × Q7 × Q8 × Q3 × Q7 × Q1 × Int × Int)
abbrev Q20 := (Option (List (Str × Bool)))
abbrev Q21 := (Q4 × Int × Int)
abbrev Q22 := (Ex × Int)
abbrev Q23 := (Int × Int)
abbrev Q24 := (Q5 × Int)
abbrev Q25 := (Int × Ex × Q18)
abbrev Q26 := (Q3 × Int)
noncomputable section
def ot : List Int := [1, 10, 100, 1000, 10000, 100000, 1000000, 10000000, 100000000, 1000000000, 10000000000, 100000000000, 1000000000000, 10000000000000, 100000000000000, 1000000000000000, 10000000000000000, 100000000000000000, 1000000000000000000, 10000000000000000000]
def Ck (n : Int) : Option Str := chk (zZ n) (some (Lib.itoa n))
def zv (n : Int) : Option (List Q3) := chk (decide (0 ≤ n) && ay (Int.toNat n) 24) (some [])
def dc (c : Int) : Option Int := ab (c == 9) fun b3 => ab (c == 10) fun b5 => ab (b3 || b5) fun b7 => ab (c == 13) fun b9 => ab (b7 || b9) fun b11 => ab (c == 32) fun b13 => ab (b11 || b13) fun b15 => bif b15 then ( some 0) else ( ab (decide (97 ≤ c)) fun b18 => ab (decide (c ≤ 122)) fun b20 => ab (b18 && b20) fun b22 => ab (decide (65 ≤ c)) fun b24 => ab (decide (c ≤ 90)) fun b26 => ab (b24 && b26) fun b28 => ab (b22 || b28) fun b30 => ab (c == 95) fun b32 => ab (b30 || b32) fun b34 => bif b34 then ( some 1) else ( ab (decide (48 ≤ c)) fun b37 => ab (decide (c ≤ 57)) fun b39 => ab (b37 && b39) fun b41 => bif b41 then ( some 2) else ( some 3)))
def jH : Option Q7 := some ([[60, 45, 62], [45, 62], [61, 61], [33, 61], [60, 61], [62, 61], [60], [62], [61], [43], [45], [42], [40], [41], [123], [125], [59], [44], [58], [38], [124], [33]] : List Str)
def dA (text : Str) (out9 : Q2) (again13 : (Q2 × Int) → Option Q16) (again24 : Int → Option Q16) (i23 : Int) : Option Q16 := ab (decide (i23 < (List.length text : Int))) fun b25 => uI b25 (inB i23 (List.length text)) <| ab ((hZ text i23) != 10) fun b28 => ab (b25 && b28) fun b30 => bif b30 then ( again24 (IntKind.i64.wrap (i23 + 1))) else ( again13 (out9, i23))
def cu (text : Str) (out9 : Q2) (i12 : Int) (again13 : (Q2 × Int) → Option Q16) (again36 : Int → Option Q16) (i35 : Int) : Option Q16 := ab (decide (i35 < (List.length text : Int))) fun b37 => uI b37 (inB i35 (List.length text)) <| aJ b37 default (dc (hZ text i35)) fun r40 => ab (r40 == 1) fun b46 => uI (b37 && !b46) (inB i35 (List.length text)) <| aJ (b37 && !b46) default (dc (hZ text i35)) fun r49 => ab (r49 == 2) fun b55 => ab (b46 || b55) fun b57 => ab (b37 && b57) fun b59 => bif b59 then ( again36 (IntKind.i64.wrap (i35 + 1))) else ( bif (decide (32 < (IntKind.i64.wrap (i35 - i12)))) then ( some ([], 9, i12)) else ( chk (gD i12 i35 (List.length text)) <| chk (ay (List.length out9 + List.length ([(1, (cut text i12 i35), 0, i12)] : List Q11)) 40) <| again13 ((out9 ++ ([(1, (cut text i12 i35), 0, i12)] : List Q11)), i35)))
def cw (text : Str) (out9 : Q2) (i12 : Int) (again13 : (Q2 × Int) → Option Q16) (again74 : Q23 → Option Q16) : Int × Int → Option Q16 := fun ⟨i72, n73⟩ => ab (decide (i72 < (List.length text : Int))) fun b75 => uI b75 (inB i72 (List.length text)) <| aJ b75 default (dc (hZ text i72)) fun r78 => ab (r78 == 2) fun b84 => ab (b75 && b84) fun b86 => bif b86 then ( bif (decide (n73 ≤ 1073741824)) then ( chk (inB i72 (List.length text)) <| again74 ((IntKind.i64.wrap (i72 + 1)), (IntKind.i64.wrap ((IntKind.i64.wrap ((IntKind.i64.wrap (10 * n73)) + (IntKind.i64.wrap (hZ text i72)))) - 48)))) else ( again74 ((IntKind.i64.wrap (i72 + 1)), n73))) else ( bif (decide (1073741824 < n73)) then ( some ([], 9, i12)) else ( chk (gD i12 i72 (List.length text)) <| chk (ay (List.length out9 + List.length ([(2, (cut text i12 i72), n73, i12)] : List Q11)) 40) <| again13 ((out9 ++ ([(2, (cut text i12 i72), n73, i12)] : List Q11)), i72)))
def aS (text : Str) (out9 : Q2) (i12 : Int) (again13 : (Q2 × Int) → Option Q16) (r99 : Q7) (again107 : (Str × Int) → Option Q16) : Str × Int → Option Q16 := fun ⟨s105, j106⟩ => ab (decide (j106 < (List.length r99 : Int))) fun b108 => ab (s105 == []) fun b110 => ab (b108 && b110) fun b112 => bif b112 then ( (idx r99 j106).bind fun e117 => ab (decide ((List.length e117 : Int) ≤ (IntKind.i64.wrap ((List.length text : Int) - i12)))) fun b119 => aJ b119 [] (idx r99 j106) fun e121 => uI b119 (gD i12 (IntKind.i64.wrap (i12 + (List.length e121 : Int))) (List.length text)) <| aJ b119 [] (idx r99 j106) fun e124 => ab ((cut text i12 (IntKind.i64.wrap (i12 + (List.length e121 : Int)))) == e124) fun b126 => ab (b119 && b126) fun b128 => bif b128 then ( (idx r99 j106).bind fun e131 => again107 (e131, (IntKind.i64.wrap (j106 + 1)))) else ( again107 (s105, (IntKind.i64.wrap (j106 + 1))))) else ( bif (s105 == []) then ( some ([], 2, i12)) else ( chk (ay (List.length out9 + List.length ([(3, s105, 0, i12)] : List Q11)) 40) <| again13 ((out9 ++ ([(3, s105, 0, i12)] : List Q11)), (IntKind.i64.wrap (i12 + (List.length s105 : Int))))))
def eV (text : Str) (again13 : (Q2 × Int) → Option Q16) : Q2 × Int → Option Q16 := fun ⟨out9, i12⟩ => bif (decide (i12 < (List.length text : Int))) then ( chk (inB i12 (List.length text)) <| (dc (hZ text i12)).bind fun r16 => bif (r16 == 0) then ( again13 (out9, (IntKind.i64.wrap (i12 + 1)))) else ( chk (inB i12 (List.length text)) <| bif ((hZ text i12) == 35) then ( al (dA text out9 again13) au i12) else ( bif (r16 == 1) then ( al (cu text out9 i12 again13) au i12) else ( bif (r16 == 2) then ( al (cw text out9 i12 again13) au (i12, 0)) else ( (jH).bind fun r99 => al (aS text out9 i12 again13 r99) au ([], 0)))))) else ( chk (ay (List.length out9 + List.length ([(4, [], 0, (List.length text : Int))] : List Q11)) 40) <| some ((out9 ++ ([(4, [], 0, (List.length text : Int))] : List Q11)), 0, 0))
def dm (text : Str) : Option Q16 := bif (decide (65536 < (List.length text : Int))) then ( some ([], 9, 0)) else ( al (eV text) au ([], 0))
def aW (kind : Int) (text : Str) (l : Q2) (at_ : Int) (_Names : Q7) (_Schema : Q8) (_Init : Q3) (_Procs : Q7) (_Cmd : Q1) (bad : Int) (_place : Int) : Option Bool := ab (bad == 0) fun b5 => aJ b5 (0, [], 0, 0) (idx l at_) fun e7 => ab (e7.1 == kind) fun b9 => ab (b5 && b9) fun b11 => aJ b11 (0, [], 0, 0) (idx l at_) fun e13 => ab (e13.2.1 == text) fun b15 => ab (b11 && b15) fun b17 => some b17
def l9 (t4 : Bool) : Option Bool := bif t4 then ( some true) else ( some false)
def eK (name : Str) : Option Bool := ab (fun (s7 : Bool) => l9 s7) fun kk6 => bif (name == [116, 114, 117, 101]) then ( kk6 (name == [116, 114, 117, 101])) else ( bif (name == [102, 97, 108, 115, 101]) then ( kk6 (name == [102, 97, 108, 115, 101])) else ( bif (name == [88]) then ( kk6 (name == [88])) else ( bif (name == [70]) then ( kk6 (name == [70])) else ( bif (name == [71]) then ( kk6 (name == [71])) else ( bif (name == [85]) then ( kk6 (name == [85])) else ( bif (name == [82]) then ( kk6 (name == [82])) else ( bif (name == [118, 97, 114]) then ( kk6 (name == [118, 97, 114])) else ( kk6 (name == [112, 114, 111, 99])))))))))
def aq (bad : Int) (place : Int) (_l : Q2) (_at_ : Int) (_Names : Q7) (_Schema : Q8) (_Init : Q3) (_Procs : Q7) (_Cmd : Q1) (bad19 : Int) (place20 : Int) : Option Q23 := bif (bad19 == 0) then ( some (bad, place)) else ( some (bad19, place20))
def cV (l : Q7) (name : Str) (again5 : Int → Option Int) (i4 : Int) : Option Int := bif (decide (i4 < (List.length l : Int))) then ( (idx l i4).bind fun e7 => bif (e7 == name) then ( some i4) else ( again5 (IntKind.i64.wrap (i4 + 1)))) else ( some (-1))
def bu (l : Q7) (name : Str) : Option Int := al (cV l name) au 0
def dz (full : Bool) (l : Q2) (at_ : Int) (Names : Q7) (Schema : Q8) (Init : Q3) (Procs : Q7) (Cmd : Q1) (bad : Int) (place : Int) : Option (Str × Int × Int × Int) := (idx l at_).bind fun e8 => (eK e8.2.1).bind fun r13 => bif (e8.1 != 1) then ( (aq 2 e8.2.2.2 l at_ Names Schema Init Procs Cmd bad place).bind fun r17 => some (e8.2.1, at_, r17.1, r17.2)) else ( aJ (!r13) default (bu Names e8.2.1) fun r22 => ab (decide (0 ≤ r22)) fun b28 => ab (r13 || b28) fun b30 => aJ (!b30) default (bu Procs e8.2.1) fun r32 => ab (decide (0 ≤ r32)) fun b38 => ab (b30 || b38) fun b40 => bif b40 then ( (aq 3 e8.2.2.2 l at_ Names Schema Init Procs Cmd bad place).bind fun r43 => some (e8.2.1, at_, r43.1, r43.2)) else ( bif full then ( (aq 9 e8.2.2.2 l at_ Names Schema Init Procs Cmd bad place).bind fun r47 => some (e8.2.1, at_, r47.1, r47.2)) else ( bif (bad == 0) then ( some (e8.2.1, (IntKind.i64.wrap (at_ + 1)), bad, place)) else ( some (e8.2.1, at_, bad, place)))))
def aE (l : Q2) (at_ : Int) (_Names : Q7) (_Schema : Q8) (_Init : Q3) (_Procs : Q7) (_Cmd : Q1) (_bad : Int) (_place : Int) : Option Int := (idx l at_).bind fun e5 => some e5.2.2.2
def aR (text : Str) (l : Q2) (at_ : Int) (Names : Q7) (Schema : Q8) (Init : Q3) (Procs : Q7) (Cmd : Q1) (bad : Int) (place : Int) : Option Q9 := (aW 3 text l at_ Names Schema Init Procs Cmd bad place).bind fun r5 => bif (!r5) then ( (aE l at_ Names Schema Init Procs Cmd bad place).bind fun r9 => (aq 2 r9 l at_ Names Schema Init Procs Cmd bad place).bind fun r12 => some (at_, r12.1, r12.2)) else ( some ((IntKind.i64.wrap (at_ + 1)), bad, place))
def ga (strength : Int) : Option Bool := ab (strength == 1) fun b3 => ab (strength == 2) fun b5 => ab (b3 || b5) fun b7 => ab (strength == 5) fun b9 => ab (b7 || b9) fun b11 => ab (strength == 6) fun b13 => ab (b11 || b13) fun b15 => ab (strength == 10) fun b17 => ab (b15 || b17) fun b19 => some b19
def aM (bad : Int) (l : Q2) (at_ : Int) (_names : Q7) (bad7 : Int) (place : Int) : Option (Ex × Int × Int) := bif (bad7 == 0) then ( (idx l at_).bind fun e13 => some ((Ex.mk 0 0 0 []), bad, e13.2.2.2)) else ( some ((Ex.mk 0 0 0 []), bad7, place))
def cj (l : Q2) (at_ : Int) (names : Q7) (bad : Int) (place : Int) (e12 : Q11) (again50 : Int → Option Q6) (i49 : Int) : Option Q6 := bif (decide (i49 < (List.length names : Int))) then ( (idx names i49).bind fun e54 => bif (e54 == e12.2.1) then ( some ((Ex.mk 2 i49 e12.2.2.2 []), (IntKind.i64.wrap (at_ + 1)), bad, place)) else ( again50 (IntKind.i64.wrap (i49 + 1)))) else ( (aM 3 l at_ names bad place).bind fun r59 => some (r59.1, at_, r59.2.1, r59.2.2))
def ca (ah : Q10 → Option Q6) (deep : Int) (l : Q2) (at_ : Int) (names : Q7) (bad : Int) (place : Int) : Option Q6 := (idx l at_).bind fun e12 => bif (e12.1 == 2) then ( some ((Ex.mk 1 e12.2.2.1 e12.2.2.2 []), (IntKind.i64.wrap (at_ + 1)), bad, place)) else ( ab (e12.1 == 1) fun b20 => ab (e12.2.1 == [116, 114, 117, 101]) fun b22 => ab (b20 && b22) fun b24 => bif b24 then ( some ((Ex.mk 13 0 e12.2.2.2 []), (IntKind.i64.wrap (at_ + 1)), bad, place)) else ( ab (e12.1 == 1) fun b29 => ab (e12.2.1 == [102, 97, 108, 115, 101]) fun b31 => ab (b29 && b31) fun b33 => bif b33 then ( some ((Ex.mk 14 0 e12.2.2.2 []), (IntKind.i64.wrap (at_ + 1)), bad, place)) else ( (eK e12.2.1).bind fun r38 => ab (e12.1 == 1) fun b41 => ab (!r38) fun b43 => ab (b41 && b43) fun b45 => bif b45 then ( al (cj l at_ names bad place e12) au 0) else ( ab (e12.1 != 3) fun b65 => ab (e12.2.1 != [40]) fun b67 => ab (b65 || b67) fun b69 => bif b69 then ( (aM 2 l at_ names bad place).bind fun r72 => some (r72.1, at_, r72.2.1, r72.2.2)) else ( (ah (1, deep, l, (IntKind.i64.wrap (at_ + 1)), names, bad, place)).bind fun r79 => bif (r79.2.2.1 != 0) then ( some ((Ex.mk 0 0 0 []), r79.2.1, r79.2.2.1, r79.2.2.2)) else ( (idx l r79.2.1).bind fun e91 => ab (e91.1 != 3) fun b93 => aJ (!b93) (0, [], 0, 0) (idx l r79.2.1) fun e95 => ab (e95.2.1 != [41]) fun b97 => ab (b93 || b97) fun b99 => bif b99 then ( (aM 2 l r79.2.1 names r79.2.2.1 r79.2.2.2).bind fun r102 => some (r102.1, r79.2.1, r102.2.1, r102.2.2)) else ( some (r79.1, (IntKind.i64.wrap (r79.2.1 + 1)), r79.2.2.1, r79.2.2.2))))))))
def aF (t : Q11) (again28 : Int → Option Int) (i27 : Int) : Option Int := bif (decide (i27 < 6)) then ( (idx ([[61, 61], [33, 61], [60], [60, 61], [62], [62, 61]] : List Str) i27).bind fun e30 => bif (t.2.1 == e30) then ( some (IntKind.i64.wrap (7 + i27))) else ( again28 (IntKind.i64.wrap (i27 + 1)))) else ( some 0)
def bp (t : Q11) (strength : Int) : Option Int := ab (t.1 != 2) fun b5 => ab (t.1 != 4) fun b7 => ab (b5 && b7) fun b9 => bif b9 then ( bif (strength == 1) then ( bif (t.2.1 == [60, 45, 62]) then ( some 19) else ( some 0)) else ( bif (strength == 2) then ( bif (t.2.1 == [45, 62]) then ( some 18) else ( some 0)) else ( bif (strength == 3) then ( bif (t.2.1 == [124]) then ( some 17) else ( some 0)) else ( bif (strength == 4) then ( bif (t.2.1 == [38]) then ( some 16) else ( some 0)) else ( bif (strength == 5) then ( bif (t.2.1 == [85]) then ( some 23) else ( bif (t.2.1 == [82]) then ( some 24) else ( some 0))) else ( bif (strength == 7) then ( al (aF t) au 0) else ( bif (strength == 8) then ( bif (t.2.1 == [43]) then ( some 3) else ( bif (t.2.1 == [45]) then ( some 4) else ( some 0))) else ( bif (strength == 9) then ( bif (t.2.1 == [42]) then ( some 5) else ( some 0)) else ( some 0))))))))) else ( some 0)
def eQ (ah : Q10 → Option Q6) (l : Q2) (at_ : Int) (names : Q7) (bad : Int) (place : Int) (deep16 : Int) (e30 : Q11) (k43 : Int) : Option Q6 := bif (k43 == 0) then ( (ah (7, deep16, l, at_, names, bad, place)).bind fun r45 => some (r45.1, r45.2.1, r45.2.2.1, r45.2.2.2)) else ( (ah (6, deep16, l, (IntKind.i64.wrap (at_ + 1)), names, bad, place)).bind fun r52 => some ((Ex.mk k43 0 e30.2.2.2 ([r52.1] : List Ex)), r52.2.1, r52.2.2.1, r52.2.2.2))
def iH (ah : Q10 → Option Q6) (l : Q2) (at_ : Int) (names : Q7) (bad : Int) (place : Int) (deep16 : Int) (e30 : Q11) (k41 : Int) : Option Q6 := ab (fun (s64 : Int) => eQ ah l at_ names bad place deep16 e30 s64) fun kk63 => ab (e30.1 == 1) fun b65 => ab (e30.2.1 == [71]) fun b67 => ab (b65 && b67) fun b69 => bif b69 then ( kk63 22) else ( kk63 k41)
def iI (ah : Q10 → Option Q6) (l : Q2) (at_ : Int) (names : Q7) (bad : Int) (place : Int) (deep16 : Int) (e30 : Q11) (k39 : Int) : Option Q6 := ab (fun (s73 : Int) => iH ah l at_ names bad place deep16 e30 s73) fun kk72 => ab (e30.1 == 1) fun b74 => ab (e30.2.1 == [70]) fun b76 => ab (b74 && b76) fun b78 => bif b78 then ( kk72 21) else ( kk72 k39)
def bC (ah : Q10 → Option Q6) (l : Q2) (at_ : Int) (names : Q7) (bad : Int) (place : Int) (deep16 : Int) (e30 : Q11) (k37 : Int) : Option Q6 := ab (fun (s82 : Int) => iI ah l at_ names bad place deep16 e30 s82) fun kk81 => ab (e30.1 == 1) fun b83 => ab (e30.2.1 == [88]) fun b85 => ab (b83 && b85) fun b87 => bif b87 then ( kk81 20) else ( kk81 k37)
def bF (ah : Q10 → Option Q6) (strength : Int) (l : Q2) (names : Q7) (deep16 : Int) (again143 : (Int × Int × Int × Int × Int × Int × (List Ex)) → Option Q6) : Int × Int × Int × Int × Int × Int × (List Ex) → Option Q6 := fun ⟨c134, c135, c136, c137, c138, c139, c140⟩ => bif (c135 == 0) then ( (idx l c134).bind fun e147 => (bp e147 strength).bind fun r152 => bif (r152 == 0) then ( some ((Ex.mk c137 c138 c139 c140), c134, c135, c136)) else ( ab (strength == 1) fun b158 => ab (strength == 2) fun b160 => ab (b158 || b160) fun b162 => ab (strength == 5) fun b164 => ab (b162 || b164) fun b166 => bif b166 then ( (ah (strength, deep16, l, (IntKind.i64.wrap (c134 + 1)), names, c135, c136)).bind fun r169 => some ((Ex.mk r152 0 e147.2.2.2 ([(Ex.mk c137 c138 c139 c140), r169.1] : List Ex)), r169.2.1, r169.2.2.1, r169.2.2.2)) else ( (ah ((IntKind.i64.wrap (strength + 1)), deep16, l, (IntKind.i64.wrap (c134 + 1)), names, c135, c136)).bind fun r180 => bif (strength == 7) then ( some ((Ex.mk r152 0 e147.2.2.2 ([(Ex.mk c137 c138 c139 c140), r180.1] : List Ex)), r180.2.1, r180.2.2.1, r180.2.2.2)) else ( again143 (r180.2.1, r180.2.2.1, r180.2.2.2, r152, 0, e147.2.2.2, ([(Ex.mk c137 c138 c139 c140), r180.1] : List Ex)))))) else ( some ((Ex.mk c137 c138 c139 c140), c134, c135, c136))
def eS (ah : Q10 → Option Q6) (strength : Int) (l : Q2) (at_ : Int) (names : Q7) (bad : Int) (place : Int) (r12 : Bool) (deep16 : Int) : Option Q6 := ab (decide (320 < deep16)) fun b17 => ab (r12 && b17) fun b19 => bif b19 then ( (aM 9 l at_ names bad place).bind fun r22 => some (r22.1, at_, r22.2.1, r22.2.2)) else ( (idx l at_).bind fun e30 => bif (strength == 6) then ( ab (fun (s91 : Int) => bC ah l at_ names bad place deep16 e30 s91) fun kk90 => ab (e30.1 == 3) fun b92 => ab (e30.2.1 == [33]) fun b94 => ab (b92 && b94) fun b96 => bif b96 then ( kk90 15) else ( kk90 0)) else ( bif (strength == 10) then ( ab (e30.1 != 3) fun b100 => ab (e30.2.1 != [45]) fun b102 => ab (b100 || b102) fun b104 => bif b104 then ( (ca ah deep16 l at_ names bad place).bind fun r107 => some (r107.1, r107.2.1, r107.2.2.1, r107.2.2.2)) else ( (ah (10, deep16, l, (IntKind.i64.wrap (at_ + 1)), names, bad, place)).bind fun r114 => some ((Ex.mk 6 0 e30.2.2.2 ([r114.1] : List Ex)), r114.2.1, r114.2.2.1, r114.2.2.2))) else ( (ah ((IntKind.i64.wrap (strength + 1)), deep16, l, at_, names, bad, place)).bind fun r125 => al (bF ah strength l names deep16) au (r125.2.1, r125.2.2.1, r125.2.2.2, r125.1.op, r125.1.n, r125.1.at_, r125.1.l))))
def bH (ah : Q10 → Option Q6) (strength : Int) (deep : Int) (l : Q2) (at_ : Int) (names : Q7) (bad : Int) (place : Int) : Option Q6 := bif (bad != 0) then ( some ((Ex.mk 0 0 0 []), at_, bad, place)) else ( (ga strength).bind fun r12 => ab (fun (s195 : Int) => eS ah strength l at_ names bad place r12 s195) fun kk194 => bif r12 then ( kk194 (IntKind.i64.wrap (deep + 1))) else ( kk194 deep))
def dO (strength : Int) (deep : Int) (l : Q2) (at_ : Int) (names : Q7) (bad : Int) (place : Int) : Option Q6 :=
 al (fun k (s : Q10) => bH k s.1 s.2.1 s.2.2.1 s.2.2.2.1 s.2.2.2.2.1 s.2.2.2.2.2.1 s.2.2.2.2.2.2) au (strength, deep, l, at_, names, bad, place)
def cO (l : Q2) (at_ : Int) (names : Q7) : Option Q6 := (dO 1 0 l at_ names 0 0).bind fun r14 => bif (r14.2.2.1 != 0) then ( some ((Ex.mk 0 0 0 []), 0, r14.2.2.1, r14.2.2.2)) else ( some (r14.1, r14.2.1, 0, 0))
def lB (times10 : Int) (i11 : Int) (again12 : Q15 → Option Q9) (r20 : Q9) (ints25 : Int) (bools27 : Int) : Option Q9 := bif (r20.1 == 3) then ( again12 (ints25, bools27, (IntKind.i64.wrap (times10 + 1)), (IntKind.i64.wrap (i11 + 1)))) else ( again12 (ints25, bools27, times10, (IntKind.i64.wrap (i11 + 1))))
def jb (bools9 : Int) (times10 : Int) (i11 : Int) (again12 : Q15 → Option Q9) (r20 : Q9) (ints25 : Int) : Option Q9 := ab (fun (s30 : Int) => lB times10 i11 again12 r20 ints25 s30) fun kk29 => bif (r20.1 == 2) then ( kk29 (IntKind.i64.wrap (bools9 + 1))) else ( kk29 bools9)
def cW (cz : Ex → Option Q9) (e : Ex) (again12 : Q15 → Option Q9) : Int × Int × Int × Int → Option Q9 := fun ⟨ints8, bools9, times10, i11⟩ => bif (decide (i11 < (List.length e.l : Int))) then ( (idx e.l i11).bind fun e14 => (cz e14).bind fun r20 => bif (r20.2.1 != 0) then ( some (0, r20.2.1, r20.2.2)) else ( ab (fun (s33 : Int) => jb bools9 times10 i11 again12 r20 s33) fun kk32 => bif (r20.1 == 1) then ( kk32 (IntKind.i64.wrap (ints8 + 1))) else ( kk32 ints8))) else ( ab (decide (e.op ≤ 6)) fun b35 => ab (ints8 == (List.length e.l : Int)) fun b37 => ab (b35 && b37) fun b39 => bif b39 then ( some (1, 0, 0)) else ( ab (decide (7 ≤ e.op)) fun b42 => ab (decide (e.op ≤ 12)) fun b44 => ab (b42 && b44) fun b46 => ab (ints8 == (List.length e.l : Int)) fun b48 => ab (b46 && b48) fun b50 => ab (e.op == 13) fun b52 => ab (b50 || b52) fun b54 => ab (e.op == 14) fun b56 => ab (b54 || b56) fun b58 => bif b58 then ( some (2, 0, 0)) else ( ab (decide (15 ≤ e.op)) fun b61 => ab (decide (e.op ≤ 19)) fun b63 => ab (b61 && b63) fun b65 => ab (bools9 == (List.length e.l : Int)) fun b67 => ab (b65 && b67) fun b69 => bif b69 then ( some (2, 0, 0)) else ( ab (decide (15 ≤ e.op)) fun b72 => ab ((IntKind.i64.wrap (bools9 + times10)) == (List.length e.l : Int)) fun b74 => ab (b72 && b74) fun b76 => bif b76 then ( some (3, 0, 0)) else ( some (0, 4, e.at_))))))
def eB (cz : Ex → Option Q9) (e : Ex) : Option Q9 := al (cW cz e) au (0, 0, 0, 0)
def cq (e : Ex) : Option Q9 :=
 al (fun k (s : Ex) => eB k s) au e
def qf (times10 : Int) (i11 : Int) (again12 : Q15 → Option Q9) (r20 : Q9) (ints25 : Int) (bools27 : Int) : Option Q9 := bif (r20.1 == 3) then ( again12 (ints25, bools27, (IntKind.i64.wrap (times10 + 1)), (IntKind.i64.wrap (i11 + 1)))) else ( again12 (ints25, bools27, times10, (IntKind.i64.wrap (i11 + 1))))
def kc (bools9 : Int) (times10 : Int) (i11 : Int) (again12 : Q15 → Option Q9) (r20 : Q9) (ints25 : Int) : Option Q9 := ab (fun (s30 : Int) => qf times10 i11 again12 r20 ints25 s30) fun kk29 => bif (r20.1 == 2) then ( kk29 (IntKind.i64.wrap (bools9 + 1))) else ( kk29 bools9)
def pZ (e : Ex) (again12 : Q15 → Option Q9) : Int × Int × Int × Int → Option Q9 := fun ⟨ints8, bools9, times10, i11⟩ => bif (decide (i11 < (List.length e.l : Int))) then ( (idx e.l i11).bind fun e14 => (cq e14).bind fun r20 => bif (r20.2.1 != 0) then ( some (0, r20.2.1, r20.2.2)) else ( ab (fun (s33 : Int) => kc bools9 times10 i11 again12 r20 s33) fun kk32 => bif (r20.1 == 1) then ( kk32 (IntKind.i64.wrap (ints8 + 1))) else ( kk32 ints8))) else ( ab (decide (e.op ≤ 6)) fun b35 => ab (ints8 == (List.length e.l : Int)) fun b37 => ab (b35 && b37) fun b39 => bif b39 then ( some (1, 0, 0)) else ( ab (decide (7 ≤ e.op)) fun b42 => ab (decide (e.op ≤ 12)) fun b44 => ab (b42 && b44) fun b46 => ab (ints8 == (List.length e.l : Int)) fun b48 => ab (b46 && b48) fun b50 => ab (e.op == 13) fun b52 => ab (b50 || b52) fun b54 => ab (e.op == 14) fun b56 => ab (b54 || b56) fun b58 => bif b58 then ( some (2, 0, 0)) else ( ab (decide (15 ≤ e.op)) fun b61 => ab (decide (e.op ≤ 19)) fun b63 => ab (b61 && b63) fun b65 => ab (bools9 == (List.length e.l : Int)) fun b67 => ab (b65 && b67) fun b69 => bif b69 then ( some (2, 0, 0)) else ( ab (decide (15 ≤ e.op)) fun b72 => ab ((IntKind.i64.wrap (bools9 + times10)) == (List.length e.l : Int)) fun b74 => ab (b72 && b74) fun b76 => bif b76 then ( some (3, 0, 0)) else ( some (0, 4, e.at_))))))
def dU (e : Ex) : Option Q9 := al (pZ e) au (0, 0, 0, 0)
def gu (r14 : Q6) (c32 : Int) (c33 : Int) : Option Q6 := some (r14.1, r14.2.1, c32, c33)
def bf (want : Int) (l : Q2) (at_ : Int) (Names : Q7) (Schema : Q8) (Init : Q3) (Procs : Q7) (Cmd : Q1) (bad : Int) (place : Int) : Option Q6 := bif (bad != 0) then ( some ((Ex.mk 0 0 0 []), at_, bad, place)) else ( ( (cO l at_ Names).bind fun r14 => bif (r14.2.2.1 != 0) then ( (aq r14.2.2.1 r14.2.2.2 l at_ Names Schema Init Procs Cmd bad place).bind fun r24 => some ((Ex.mk 0 0 0 []), at_, r24.1, r24.2)) else ( (dU r14.1).bind fun r28 => ab (fun (s37 : Int × Int) => gu r14 s37.1 s37.2) fun kk36 => bif (r28.2.1 != 0) then ( (aq r28.2.1 r28.2.2 l at_ Names Schema Init Procs Cmd bad place).bind fun r39 => kk36 (r39.1, r39.2)) else ( bif (r28.1 != want) then ( (aq 4 r14.1.at_ l at_ Names Schema Init Procs Cmd bad place).bind fun r43 => kk36 (r43.1, r43.2)) else ( kk36 (bad, place))))))
def cY (l : Q2) (Names : Q7) (Schema : Q8) (Init : Q3) (Procs : Q7) (Cmd : Q1) (l28 : Q18) (again32 : Q14 → Option Q12) (r47 : Int) (c66 : Int) (c67 : Int) (c69 : Int) : Option Q12 := (aR [61] l c69 Names Schema Init Procs Cmd c66 c67).bind fun r70 => (bf 1 l r70.1 Names Schema Init Procs Cmd r70.2.1 r70.2.2).bind fun r73 => chk (ay (List.length l28 + List.length ([(r47, r73.1)] : List (Int × Ex))) 56) <| (aW 3 [44] l r73.2.1 Names Schema Init Procs Cmd r73.2.2.1 r73.2.2.2).bind fun r88 => bif r88 then ( again32 ((IntKind.i64.wrap (r73.2.1 + 1)), r73.2.2.1, r73.2.2.2, (l28 ++ ([(r47, r73.1)] : List (Int × Ex))), r88)) else ( again32 (r73.2.1, r73.2.2.1, r73.2.2.2, (l28 ++ ([(r47, r73.1)] : List (Int × Ex))), r88))
def cX (l : Q2) (Names : Q7) (Schema : Q8) (Init : Q3) (Procs : Q7) (Cmd : Q1) (c25 : Int) (l28 : Q18) (again32 : Q14 → Option Q12) (r47 : Int) (c66 : Int) (c67 : Int) : Option Q12 := ab (fun (s94 : Int) => cY l Names Schema Init Procs Cmd l28 again32 r47 c66 c67 s94) fun kk93 => bif (c66 == 0) then ( kk93 (IntKind.i64.wrap (c25 + 1))) else ( kk93 c25)
def bg (l : Q2) (Names : Q7) (Schema : Q8) (Init : Q3) (Procs : Q7) (Cmd : Q1) (c25 : Int) (c26 : Int) (c27 : Int) (l28 : Q18) (again32 : Q14 → Option Q12) (e40 : Q11) (r47 : Int) (again53 : (Bool × Int) → Option Q12) : Bool × Int → Option Q12 := fun ⟨twice51, k52⟩ => bif (decide (k52 < (List.length l28 : Int))) then ( aJ (!twice51) (0, (Ex.mk 0 0 0 [])) (idx l28 k52) fun e55 => ab (e55.1 == r47) fun b61 => ab (twice51 || b61) fun b63 => again53 (b63, (IntKind.i64.wrap (k52 + 1)))) else ( ab (fun (s98 : Int × Int) => cX l Names Schema Init Procs Cmd c25 l28 again32 r47 s98.1 s98.2) fun kk97 => bif (e40.1 != 1) then ( (aq 2 e40.2.2.2 l c25 Names Schema Init Procs Cmd c26 c27).bind fun r100 => kk97 (r100.1, r100.2)) else ( ab (decide (r47 < 0)) fun b103 => ab (b103 || twice51) fun b105 => bif b105 then ( (aq 3 e40.2.2.2 l c25 Names Schema Init Procs Cmd c26 c27).bind fun r108 => kk97 (r108.1, r108.2)) else ( kk97 (c26, c27))))
def bD (l : Q2) (Names : Q7) (Schema : Q8) (Init : Q3) (Procs : Q7) (Cmd : Q1) (r15 : Q6) (again32 : Q14 → Option Q12) : Int × Int × Int × Q18 × Bool → Option Q12 := fun ⟨c25, c26, c27, l28, more31⟩ => ab (c26 == 0) fun b33 => ab (more31 && b33) fun b35 => bif b35 then ( (idx l c25).bind fun e40 => (bu Names e40.2.1).bind fun r47 => al (bg l Names Schema Init Procs Cmd c25 c26 c27 l28 again32 e40 r47) au (false, 0)) else ( (aR [59] l c25 Names Schema Init Procs Cmd c26 c27).bind fun r111 => chk (ay (List.length Cmd + List.length ([((IntKind.i64.wrap ((List.length Procs : Int) - 1)), r15.1, l28)] : List Q25)) 80) <| some (r111.1, (Cmd ++ ([((IntKind.i64.wrap ((List.length Procs : Int) - 1)), r15.1, l28)] : List Q25)), r111.2.1, r111.2.2))
def db (l : Q2) (at_ : Int) (Names : Q7) (Schema : Q8) (Init : Q3) (Procs : Q7) (Cmd : Q1) (c10 : Int) (c11 : Int) : Option Q12 := (bf 2 l at_ Names Schema Init Procs Cmd c10 c11).bind fun r15 => (aR [58] l r15.2.1 Names Schema Init Procs Cmd r15.2.2.1 r15.2.2.2).bind fun r21 => al (bD l Names Schema Init Procs Cmd r15) au (r21.1, r21.2.1, r21.2.2, [], true)
def dN (l : Q2) (at_ : Int) (Names : Q7) (Schema : Q8) (Init : Q3) (Procs : Q7) (Cmd : Q1) (bad : Int) (place : Int) : Option Q12 := ab (fun (s124 : Int × Int) => db l at_ Names Schema Init Procs Cmd s124.1 s124.2) fun kk123 => bif (decide (256 ≤ (List.length Cmd : Int))) then ( (aE l at_ Names Schema Init Procs Cmd bad place).bind fun r126 => (aq 9 r126 l at_ Names Schema Init Procs Cmd bad place).bind fun r129 => kk123 (r129.1, r129.2)) else ( kk123 (bad, place))
def dv (r6 : Bool) (c10 : Int) (e13 : Q11) (c19 : Int) (c20 : Int) : Option Q15 := bif (c19 != 0) then ( some (0, c10, c19, c20)) else ( bif r6 then ( some ((IntKind.i64.wrap (0 - e13.2.2.1)), (IntKind.i64.wrap (c10 + 1)), c19, c20)) else ( some (e13.2.2.1, (IntKind.i64.wrap (c10 + 1)), c19, c20)))
def fe (l : Q2) (Names : Q7) (Schema : Q8) (Init : Q3) (Procs : Q7) (Cmd : Q1) (bad : Int) (place : Int) (r6 : Bool) (c10 : Int) : Option Q15 := (idx l c10).bind fun e13 => ab (fun (s25 : Int × Int) => dv r6 c10 e13 s25.1 s25.2) fun kk24 => bif (e13.1 != 2) then ( (aq 2 e13.2.2.2 l c10 Names Schema Init Procs Cmd bad place).bind fun r27 => kk24 (r27.1, r27.2)) else ( kk24 (bad, place))
def bY (l : Q2) (at_ : Int) (Names : Q7) (Schema : Q8) (Init : Q3) (Procs : Q7) (Cmd : Q1) (bad : Int) (place : Int) : Option Q15 := (aW 3 [45] l at_ Names Schema Init Procs Cmd bad place).bind fun r6 => ab (fun (s31 : Int) => fe l Names Schema Init Procs Cmd bad place r6 s31) fun kk30 => bif r6 then ( kk30 (IntKind.i64.wrap (at_ + 1))) else ( kk30 at_)
def iB (s : Q8) (again12 : Int → Option Bool) (i11 : Int) : Option Bool := bif (decide (i11 < (List.length s : Int))) then ( (idx s i11).bind fun e16 => (idx s i11).bind fun e18 => ab (decide (e18.2 < e16.1)) fun b20 => aJ (!b20) (0, 0) (idx s i11) fun e22 => ab (decide (e22.1 < (-1073741824))) fun b24 => ab (b20 || b24) fun b26 => aJ (!b26) (0, 0) (idx s i11) fun e28 => ab (decide (1073741824 < e28.2)) fun b30 => ab (b26 || b30) fun b32 => aJ (!b32) (0, 0) (idx s i11) fun e34 => aJ (!b32) (0, 0) (idx s i11) fun e36 => ab (decide (65535 < (IntKind.i64.wrap (e34.2 - e36.1)))) fun b38 => ab (b32 || b38) fun b40 => bif b40 then ( some false) else ( again12 (IntKind.i64.wrap (i11 + 1)))) else ( some true)
def gH (s : Q8) : Option Bool := ab (decide ((List.length s : Int) < 1)) fun b3 => ab (decide (17 < (List.length s : Int))) fun b5 => ab (b3 || b5) fun b7 => bif b7 then ( some false) else ( al (iB s) au 0)
def ey (Names : Q7) (Schema : Q8) (Init : Q3) (r15 : (Str × Int × Int × Int)) (r21 : Q15) (r24 : Q15) (r27 : Q15) (r30 : Q9) (c42 : Int) (c43 : Int) : Option (Int × Q7 × Q8 × Q3 × Int × Int) := chk (ay (List.length Names + List.length ([r15.1] : List Str)) 16) <| chk (ay (List.length Schema + List.length ([(r21.1, r24.1)] : List Q23)) 16) <| chk (ay (List.length Init + List.length ([r27.1] : List Int)) 8) <| some (r30.1, (Names ++ ([r15.1] : List Str)), (Schema ++ ([(r21.1, r24.1)] : List Q23)), (Init ++ ([r27.1] : List Int)), c42, c43)
def dG (l : Q2) (at_ : Int) (Names : Q7) (Schema : Q8) (Init : Q3) (Procs : Q7) (Cmd : Q1) (bad : Int) (place : Int) : Option (Int × Q7 × Q8 × Q3 × Int × Int) := (dz (decide (16 ≤ (List.length Names : Int))) l at_ Names Schema Init Procs Cmd bad place).bind fun r15 => (aE l r15.2.1 Names Schema Init Procs Cmd r15.2.2.1 r15.2.2.2).bind fun r18 => (bY l r15.2.1 Names Schema Init Procs Cmd r15.2.2.1 r15.2.2.2).bind fun r21 => (bY l r21.2.1 Names Schema Init Procs Cmd r21.2.2.1 r21.2.2.2).bind fun r24 => (bY l r24.2.1 Names Schema Init Procs Cmd r24.2.2.1 r24.2.2.2).bind fun r27 => (aR [59] l r27.2.1 Names Schema Init Procs Cmd r27.2.2.1 r27.2.2.2).bind fun r30 => (gH ([(r21.1, r24.1)] : List Q23)).bind fun r38 => ab (fun (s68 : Int × Int) => ey Names Schema Init r15 r21 r24 r27 r30 s68.1 s68.2) fun kk67 => ab (!r38) fun b69 => ab (decide (r27.1 < r21.1)) fun b71 => ab (b69 || b71) fun b73 => ab (decide (r24.1 < r27.1)) fun b75 => ab (b73 || b75) fun b77 => bif b77 then ( (aq 5 r18 l r30.1 Names Schema Init Procs Cmd r30.2.1 r30.2.2).bind fun r80 => kk67 (r80.1, r80.2)) else ( kk67 (r30.2.1, r30.2.2))
def dK (r17 : Q16) (l38 : Q7) (again46 : Q19 → Option Q21) (c69 : Q7) (c72 : Q8) (c75 : Q3) (r81 : (Str × Int × Int × Int)) (again105 : (Int × Q1 × Int × Int × Bool) → Option Q21) : Int × Q1 × Int × Int × Bool → Option Q21 := fun ⟨c98, c99, c102, c103, end104⟩ => ab (c102 == 0) fun b106 => ab (!end104) fun b108 => ab (b106 && b108) fun b110 => bif b110 then ( (dN r17.1 c98 c69 c72 c75 (l38 ++ ([r81.1] : List Str)) c99 c102 c103).bind fun r113 => (aW 3 [125] r17.1 r113.1 c69 c72 c75 (l38 ++ ([r81.1] : List Str)) r113.2.1 r113.2.2.1 r113.2.2.2).bind fun r118 => again105 (r113.1, r113.2.1, r113.2.2.1, r113.2.2.2, r118)) else ( (aR [125] r17.1 c98 c69 c72 c75 (l38 ++ ([r81.1] : List Str)) c99 c102 c103).bind fun r121 => again46 (r121.1, c69, c72, c75, (l38 ++ ([r81.1] : List Str)), c99, r121.2.1, r121.2.2))
def fw (r17 : Q16) (l38 : Q7) (l41 : Q1) (again46 : Q19 → Option Q21) (r59 : Bool) (c68 : Int) (c69 : Q7) (c72 : Q8) (c75 : Q3) (c78 : Int) (c79 : Int) : Option Q21 := bif r59 then ( (dz false r17.1 c68 c69 c72 c75 l38 l41 c78 c79).bind fun r81 => chk (ay (List.length l38 + List.length ([r81.1] : List Str)) 16) <| (aR [123] r17.1 r81.2.1 c69 c72 c75 (l38 ++ ([r81.1] : List Str)) l41 r81.2.2.1 r81.2.2.2).bind fun r91 => (aW 3 [125] r17.1 r91.1 c69 c72 c75 (l38 ++ ([r81.1] : List Str)) l41 r91.2.1 r91.2.2).bind fun r94 => al (dK r17 l38 again46 c69 c72 c75 r81) au (r91.1, l41, r91.2.1, r91.2.2, r94)) else ( again46 (c68, c69, c72, c75, l38, l41, c78, c79))
def fA (r17 : Q16) (l29 : Q7) (l32 : Q8) (l35 : Q3) (l38 : Q7) (l41 : Q1) (again46 : Q19 → Option Q21) (r56 : Bool) (r59 : Bool) (c63 : Int) (c64 : Int) (c66 : Int) : Option Q21 := ab (fun (s125 : Int × Q7 × Q8 × Q3 × Int × Int) => fw r17 l38 l41 again46 r59 s125.1 s125.2.1 s125.2.2.1 s125.2.2.2.1 s125.2.2.2.2.1 s125.2.2.2.2.2) fun kk124 => bif r56 then ( (dG r17.1 c66 l29 l32 l35 l38 l41 c63 c64).bind fun r127 => kk124 (r127.1, r127.2.1, r127.2.2.1, r127.2.2.2.1, r127.2.2.2.2.1, r127.2.2.2.2.2)) else ( kk124 (c66, l29, l32, l35, c63, c64))
def fv (r17 : Q16) (c28 : Int) (l29 : Q7) (l32 : Q8) (l35 : Q3) (l38 : Q7) (l41 : Q1) (again46 : Q19 → Option Q21) (r56 : Bool) (r59 : Bool) (c63 : Int) (c64 : Int) : Option Q21 := ab (fun (s137 : Int) => fA r17 l29 l32 l35 l38 l41 again46 r56 r59 c63 c64 s137) fun kk136 => bif (c63 == 0) then ( kk136 (IntKind.i64.wrap (c28 + 1))) else ( kk136 c28)
def fq (l29 : Q7) (l32 : Q8) (l35 : Q3) (l38 : Q7) (l41 : Q1) (c156 : Int) (c157 : Int) : Option Q21 := bif (c156 != 0) then ( some (([], [], [], [], []), c156, c157)) else ( some ((l29, l32, l35, l38, l41), 0, 0))
def cN (r17 : Q16) (again46 : Q19 → Option Q21) : Int × Q7 × Q8 × Q3 × Q7 × Q1 × Int × Int → Option Q21 := fun ⟨c28, l29, l32, l35, l38, l41, c44, c45⟩ => ab (c44 == 0) fun b47 => aJ b47 (0, [], 0, 0) (idx r17.1 c28) fun e49 => ab (e49.1 != 4) fun b51 => ab (b47 && b51) fun b53 => bif b53 then ( (aW 1 [118, 97, 114] r17.1 c28 l29 l32 l35 l38 l41 c44 c45).bind fun r56 => (aW 1 [112, 114, 111, 99] r17.1 c28 l29 l32 l35 l38 l41 c44 c45).bind fun r59 => ab (fun (s141 : Int × Int) => fv r17 c28 l29 l32 l35 l38 l41 again46 r56 r59 s141.1 s141.2) fun kk140 => ab (!r56) fun b142 => ab (!r59) fun b144 => ab (b142 && b144) fun b146 => bif b146 then ( (aE r17.1 c28 l29 l32 l35 l38 l41 c44 c45).bind fun r149 => (aq 2 r149 r17.1 c28 l29 l32 l35 l38 l41 c44 c45).bind fun r152 => kk140 (r152.1, r152.2)) else ( kk140 (c44, c45))) else ( ab (fun (s164 : Int × Int) => fq l29 l32 l35 l38 l41 s164.1 s164.2) fun kk163 => bif ((List.length l29 : Int) == 0) then ( (aE r17.1 c28 l29 l32 l35 l38 l41 c44 c45).bind fun r166 => (aq 2 r166 r17.1 c28 l29 l32 l35 l38 l41 c44 c45).bind fun r169 => kk163 (r169.1, r169.2)) else ( kk163 (c44, c45)))
def cQ (text : Str) : Option Q21 := (dm text).bind fun r17 => bif (r17.2.1 != 0) then ( some (([], [], [], [], []), r17.2.1, r17.2.2)) else ( al (cN r17) au (0, [], [], [], [], [], 0, 0))
def fp (text : Str) : Option (Q4 × Bool) := bif (decide (600 < (List.length text : Int))) then ( some (([], [], [], [], []), false)) else ( (cQ text).bind fun r18 => some (r18.1, (r18.2.1 == 0)))
def xd (v1 : Q3) : Option Q3 := chk (rL 0 (max 0 (IntKind.i64.wrap ((List.length v1 : Int) - 1))) (max 0 (IntKind.i64.wrap ((List.length v1 : Int) - 1))) (List.length v1)) <| some (bN v1 0 (max 0 (IntKind.i64.wrap ((List.length v1 : Int) - 1))))
def tn (l : (List Q3)) (again10 : Q13 → Option (List Q3)) : (List Q3) × Int → Option (List Q3) := fun ⟨out6, t9⟩ => bif (decide (t9 < (List.length l : Int))) then ( (idx l t9).bind fun e12 => (xd e12).bind fun r18 => chk (ay (List.length out6 + List.length ([r18] : List Q3)) 24) <| again10 ((out6 ++ ([r18] : List Q3)), (IntKind.i64.wrap (t9 + 1)))) else ( some out6)
def j4 (l : (List Q3)) : Option (List Q3) := al (tn l) au ([], 0)
def Eg (l : Q17) : Option Q17 := (j4 l.1).bind fun r14 => (j4 l.2).bind fun r19 => some (r14, r19)
def er (slices : (List (List Q3))) (again25 : Q13 → Option (List Q3)) : (List Q3) × Int → Option (List Q3) := fun ⟨newslice21, t24⟩ => bif (decide (t24 < (List.length slices : Int))) then ( (idx slices t24).bind fun e27 => chk (ay (List.length newslice21 + List.length e27) 24) <| again25 ((newslice21 ++ e27), (IntKind.i64.wrap (t24 + 1)))) else ( some newslice21)
def ew (slices : (List (List Q3))) (again8 : Q23 → Option (List Q3)) : Int × Int → Option (List Q3) := fun ⟨size6, t7⟩ => bif (decide (t7 < (List.length slices : Int))) then ( (idx slices t7).bind fun e10 => bif (decide ((IntKind.i64.wrap (size6 + (List.length e10 : Int))) < 0)) then ( none) else ( again8 ((IntKind.i64.wrap (size6 + (List.length e10 : Int))), (IntKind.i64.wrap (t7 + 1))))) else ( (zv size6).bind fun r17 => al (er slices) au (r17, 0))
def fI (slices : (List (List Q3))) : Option (List Q3) := al (ew slices) au (0, 0)
def kB (l : Q17) : Option Q13 := (fI ([l.1, l.2] : List (List Q3))).bind fun r14 => some (r14, (List.length l.1 : Int))
def jO (f : Q23) (n : Int) : Option Bool := ab (decide (f.1 ≤ n)) fun b5 => ab (decide (n ≤ f.2)) fun b7 => ab (b5 && b7) fun b9 => some b9
def CP (s : Q8) (v3 : Q3) (again6 : Int → Option Int) (t5 : Int) : Option Int := bif (decide (t5 < (List.length v3 : Int))) then ( (idx v3 t5).bind fun e8 => (idx s t5).bind fun e10 => (jO e10 e8).bind fun r12 => bif (!r12) then ( some 5) else ( again6 (IntKind.i64.wrap (t5 + 1)))) else ( some 0)
def va (s : Q8) (v3 : Q3) : Option Int := bif ((List.length v3 : Int) != (List.length s : Int)) then ( some 1) else ( al (CP s v3) au 0)
def mz (v1 : Q3) (_Names : Q7) (Schema : Q8) (_Init : Q3) (_Procs : Q7) (_Cmd : Q1) : Option Bool := (va Schema v1).bind fun r3 => some (r3 == 0)
def fy (l : (List Q3)) (Names : Q7) (Schema : Q8) (Init : Q3) (Procs : Q7) (Cmd : Q1) (again10 : Q24 → Option Q5) : Q5 × Int → Option Q5 := fun ⟨out6, t9⟩ => bif (decide (t9 < (List.length l : Int))) then ( (idx l t9).bind fun e12 => (mz e12 Names Schema Init Procs Cmd).bind fun r18 => chk (ay (List.length out6 + List.length ([r18] : List Bool)) 1) <| again10 ((out6 ++ ([r18] : List Bool)), (IntKind.i64.wrap (t9 + 1)))) else ( some out6)
def jI (l : (List Q3)) (Names : Q7) (Schema : Q8) (Init : Q3) (Procs : Q7) (Cmd : Q1) : Option Q5 := al (fy l Names Schema Init Procs Cmd) au ([], 0)
def eb (s : Q5) (v3 : Bool) (again5 : Int → Option Int) (t4 : Int) : Option Int := bif (decide (t4 < (List.length s : Int))) then ( (idx s t4).bind fun e7 => bif (v3 == e7) then ( some t4) else ( again5 (IntKind.i64.wrap (t4 + 1)))) else ( some (-1))
def iw (s : Q5) (v3 : Bool) : Option Int := al (eb s v3) au 0
def dY (s : Q5) (v3 : Bool) : Option Bool := (iw s v3).bind fun r3 => some (decide (0 ≤ r3))
def eW (s1 : Q3) (s2 : Q3) (again6 : Int → Option Bool) (t5 : Int) : Option Bool := bif (decide (t5 < (List.length s1 : Int))) then ( (idx s1 t5).bind fun e10 => (idx s2 t5).bind fun e12 => bif (e10 != e12) then ( some false) else ( again6 (IntKind.i64.wrap (t5 + 1)))) else ( some true)
def eC (s1 : Q3) (s2 : Q3) : Option Bool := bif ((List.length s1 : Int) != (List.length s2 : Int)) then ( some false) else ( al (eW s1 s2) au 0)
def uy (m : Q4) (v11 : Q3) : Option (Q7 × Q8 × Q3 × Q7 × Q1 × Q3) := some (m.1, m.2.1, m.2.2.1, m.2.2.2.1, m.2.2.2.2, v11)
def mI (is_ : Bool) : Option Int := bif is_ then ( some 1) else ( some 0)
def qH (a36 : Int) (b37 : Int) (turn38 : Bool) : Option Int := (mI ((decide (a36 ≤ b37)) != turn38)).bind fun r39 => some r39
def qt (a45 : Int) (b46 : Int) (turn47 : Bool) : Option Int := (mI ((decide (a45 < b46)) != turn47)).bind fun r48 => some r48
def qJ (a54 : Int) (b55 : Int) (turn56 : Bool) : Option Int := (mI ((a54 == b55) != turn56)).bind fun r57 => some r57
def qh (e : Ex) (c12 : Int) (c13 : Int) (kk42 : (Int × Int × Bool) → Option Int) (kk51 : (Int × Int × Bool) → Option Int) : Option Int := bif (e.op == 12) then ( kk51 (c12, c13, true)) else ( bif (e.op == 9) then ( kk51 (c12, c13, false)) else ( bif (e.op == 11) then ( kk42 (c12, c13, true)) else ( bif (e.op == 10) then ( kk42 (c12, c13, false)) else ( bif (e.op == 13) then ( some 1) else ( bif (e.op == 15) then ( some (IntKind.i64.wrap (1 - c12))) else ( bif (e.op == 16) then ( some (IntKind.i64.wrap (c12 * c13))) else ( bif (e.op == 17) then ( some (max c12 c13)) else ( bif (e.op == 18) then ( some (max (IntKind.i64.wrap (1 - c12)) c13)) else ( some 0)))))))))
def qm (c12 : Int) (c13 : Int) (kk60 : (Int × Int × Bool) → Option Int) (kk88 : Unit → Option Int) (t91 : Bool) : Option Int := bif t91 then ( kk60 (c12, c13, false)) else ( kk88 ())
def bR (iD : (Ex × Q3) → Option Int) (e : Ex) (v3 : Q3) (again15 : Q9 → Option Int) : Int × Int × Int → Option Int := fun ⟨c12, c13, t14⟩ => bif (decide (t14 < (List.length (bN e.l 0 (min (List.length e.l : Int) 2)) : Int))) then ( (idx (bN e.l 0 (min (List.length e.l : Int) 2)) t14).bind fun e17 => (iD (e17, v3)).bind fun r26 => bif (t14 == 0) then ( again15 (r26, c13, (IntKind.i64.wrap (t14 + 1)))) else ( bif (t14 == 1) then ( again15 (c12, r26, (IntKind.i64.wrap (t14 + 1)))) else ( none))) else ( ab (fun (s43 : Int × Int × Bool) => qH s43.1 s43.2.1 s43.2.2) fun kk42 => ab (fun (s52 : Int × Int × Bool) => qt s52.1 s52.2.1 s52.2.2) fun kk51 => ab (fun (s61 : Int × Int × Bool) => qJ s61.1 s61.2.1 s61.2.2) fun kk60 => bif (e.op == 1) then ( some e.n) else ( bif (e.op == 2) then ( ab (decide (e.n < 0)) fun b64 => ab (decide ((List.length v3 : Int) ≤ e.n)) fun b66 => ab (b64 || b66) fun b68 => bif b68 then ( some 0) else ( (idx v3 e.n).bind fun e71 => some e71)) else ( bif (e.op == 3) then ( some (IntKind.i64.wrap (c12 + c13))) else ( bif (e.op == 5) then ( some (IntKind.i64.wrap (c12 * c13))) else ( bif (e.op == 6) then ( some (IntKind.i64.wrap (0 - c12))) else ( bif (e.op == 4) then ( some (IntKind.i64.wrap (c12 - c13))) else ( bif (e.op == 8) then ( kk60 (c12, c13, true)) else ( ab (fun (_s89 : Unit) => qh e c12 c13 kk42 kk51) fun kk88 => ab (fun (s94 : Bool) => qm c12 c13 kk60 kk88 s94) fun kk93 => bif (e.op == 7) then ( kk93 (e.op == 7)) else ( kk93 (e.op == 19))))))))))
def kO (iD : (Ex × Q3) → Option Int) (e : Ex) (v3 : Q3) : Option Int := chk (gD 0 (min (List.length e.l : Int) 2) (List.length e.l)) <| al (bR iD e v3) au (0, 0, 0)
def kj (e : Ex) (v3 : Q3) : Option Int :=
 al (fun k (s : (Ex × Q3)) => kO k s.1 s.2) au (e, v3)
def jM (m : Q4) (v11 : Q3) (again13 : Q26 → Option Q3) : Q3 × Int → Option Q3 := fun ⟨out9, t12⟩ => bif (decide (t12 < (List.length m.2.2.2.2 : Int))) then ( (idx m.2.2.2.2 t12).bind fun e15 => (kj e15.2.1 v11).bind fun r26 => bif (r26 == 1) then ( chk (ay (List.length out9 + List.length ([t12] : List Int)) 8) <| again13 ((out9 ++ ([t12] : List Int)), (IntKind.i64.wrap (t12 + 1)))) else ( again13 (out9, (IntKind.i64.wrap (t12 + 1))))) else ( some out9)
def qD (m : Q4) (v11 : Q3) : Option Q3 := al (jM m v11) au ([], 0)
def bS (s : Q3) : Option Q3 := AI s ( some []) ( chk (ay (List.length ([] : List Int) + List.length s) 8) <| some (([] : List Int) ++ s))
def jN (s : Q8) (v3 : Q3) (again6 : Int → Option Int) (t5 : Int) : Option Int := bif (decide (t5 < (List.length v3 : Int))) then ( (idx v3 t5).bind fun e8 => (idx s t5).bind fun e10 => (jO e10 e8).bind fun r12 => bif (!r12) then ( some 5) else ( again6 (IntKind.i64.wrap (t5 + 1)))) else ( some 0)
def gq (s : Q8) (v3 : Q3) : Option Int := bif ((List.length v3 : Int) != (List.length s : Int)) then ( some 1) else ( al (jN s v3) au 0)
def nb (m : Q4) (v11 : Q3) (e21 : Q25) (again32 : Q26 → Option Q26) : Q3 × Int → Option Q26 := fun ⟨l30, t31⟩ => bif (decide (t31 < (List.length e21.2.2 : Int))) then ( (idx e21.2.2 t31).bind fun e34 => (kj e34.2 v11).bind fun r45 => (idx l30 e34.1).bind fun _e48 => again32 ((List.set l30 (Int.toNat e34.1) r45), (IntKind.i64.wrap (t31 + 1)))) else ( (gq m.2.1 l30).bind fun r51 => bif (r51 != 0) then ( some ([], 6)) else ( some (l30, 0)))
def rq (m : Q4) (v11 : Q3) (k : Int) : Option Q26 := ab (decide (k < 0)) fun b9 => ab (decide ((List.length m.2.2.2.2 : Int) ≤ k)) fun b11 => ab (b9 || b11) fun b13 => bif b13 then ( some ([], 10)) else ( (bS v11).bind fun r16 => (idx m.2.2.2.2 k).bind fun e21 => al (nb m v11 e21) au (r16, 0))
def dX (addr : Bool) (_buf : Q3) : Option Bool := bif (!addr) then ( some true) else ( bif (!addr) then ( none) else ( some addr))
def dD (s : Str) (addr : Bool) (buf : Q3) : Option (Int × Bool × Q3) := (dX addr buf).bind fun r1 => chk (ay (List.length buf + List.length s) 1) <| some ((List.length s : Int), r1, (buf ++ bytesOf s))
def dZ (c : Int) (addr : Bool) (buf : Q3) : Option (Bool × Q3) := (dX addr buf).bind fun r1 => chk (ay (List.length buf + List.length ([c] : List Int)) 1) <| some (r1, (buf ++ ([c] : List Int)))
def fz (_addr : Bool) (buf : Q3) : Option Str := (idx buf 0).bind fun _e7 => chk (decide ((0 : Int) = 0) && decide ((List.length buf : Int) = (List.length buf : Int))) <| some (strOf buf)
def mf (v1 : Q3) (again11 : (Bool × Q3 × Int) → Option Str) : Bool × Q3 × Int → Option Str := fun ⟨c6, l7, t10⟩ => bif (decide (t10 < (List.length v1 : Int))) then ( (idx v1 t10).bind fun e13 => (Ck e13).bind fun r15 => (dD r15 c6 l7).bind fun r16 => (dZ 32 r16.2.1 r16.2.2).bind fun r21 => again11 (r21.1, r21.2, (IntKind.i64.wrap (t10 + 1)))) else ( (fz c6 l7).bind fun r26 => some r26)
def vN (v1 : Q3) : Option Str := al (mf v1) au (false, [], 0)
def lv (v2 : Q3) (l : (List Q3)) (c10 : Q20) : Option ((List Q3) × Q20) := (vN v2).bind fun r12 => bif (!(kY c10 r12 false)) then ( (c10).bind fun m16 => chk (ay (List.length l + List.length ([v2] : List Q3)) 24) <| some ((l ++ ([v2] : List Q3)), (some (mG m16 r12 true)))) else ( some (l, c10))
def fK (v2 : Q3) (l : (List Q3)) (at_ : Q20) : Option ((List Q3) × Q20) := ab (fun (s27 : Q20) => lv v2 l s27) fun kk26 => bif ((Option.isNone at_)) then ( kk26 (some [] : Q20)) else ( kk26 at_)
def mA (v11 : Q3) (r15 : (Q7 × Q8 × Q3 × Q7 × Q1 × Q3)) (r26 : Q3) (again39 : (Int × Int × (List Q3) × Q20) → Option Q13) : Int × Int × (List Q3) × Q20 → Option Q13 := fun ⟨t32, c33, l34, c37⟩ => bif (decide (t32 < (List.length r26 : Int))) then ( (idx r26 t32).bind fun e41 => (rq (r15.1, r15.2.1, r15.2.2.1, r15.2.2.2.1, r15.2.2.2.2.1) r15.2.2.2.2.2 e41).bind fun r43 => bif (r43.2 != 0) then ( bif (!false) then ( some ([], r43.2)) else ( again39 ((IntKind.i64.wrap (t32 + 1)), r43.2, l34, c37))) else ( (fK r43.1 l34 c37).bind fun r52 => bif (!true) then ( bif ((List.length r52.1 : Int) == 0) then ( (bS v11).bind fun r60 => (fK r60 r52.1 r52.2).bind fun r65 => some (r65.1, 0)) else ( some (r52.1, 0))) else ( again39 ((IntKind.i64.wrap (t32 + 1)), c33, r52.1, r52.2)))) else ( bif ((List.length l34 : Int) == 0) then ( (bS v11).bind fun r76 => (fK r76 l34 c37).bind fun r81 => some (r81.1, 0)) else ( some (l34, 0)))
def ry (m : Q4) (v11 : Q3) : Option Q13 := (uy m v11).bind fun r15 => (qD (r15.1, r15.2.1, r15.2.2.1, r15.2.2.2.1, r15.2.2.2.2.1) r15.2.2.2.2.2).bind fun r26 => al (mA v11 r15 r26) au (0, 0, [], none)
def mC (z : Q3) (x : Q3) : Option Bool := (eC x z).bind fun r3 => some r3
def dI (s : (List Q3)) (c : Q3) (again5 : Int → Option Int) (t4 : Int) : Option Int := bif (decide (t4 < (List.length s : Int))) then ( (idx s t4).bind fun e7 => (mC e7 c).bind fun r13 => bif r13 then ( some t4) else ( again5 (IntKind.i64.wrap (t4 + 1)))) else ( some (-1))
def gz (s : (List Q3)) (c : Q3) : Option Int := al (dI s c) au 0
def dH (s : (List Q3)) (c : Q3) : Option Bool := (gz s c).bind fun r3 => some (decide (0 ≤ r3))
def mh (x : Q3) (y : Q3) (Names : Q7) (Schema : Q8) (Init : Q3) (Procs : Q7) (Cmd : Q1) : Option Bool := (ry (Names, Schema, Init, Procs, Cmd) x).bind fun r5 => ab (r5.2 == 0) fun b10 => aJ b10 default (dH r5.1 y) fun r12 => ab (b10 && r12) fun b18 => some b18
def iO (l : (List Q3)) (Names : Q7) (Schema : Q8) (Init : Q3) (Procs : Q7) (Cmd : Q1) (again5 : Int → Option Bool) (i4 : Int) : Option Bool := bif (decide (i4 < (List.length l : Int))) then ( (idx l (IntKind.i64.wrap (i4 - 1))).bind fun e9 => (idx l i4).bind fun e15 => (mh e9 e15 Names Schema Init Procs Cmd).bind fun r21 => bif (!r21) then ( some false) else ( again5 (IntKind.i64.wrap (i4 + 1)))) else ( some true)
def nK (l : (List Q3)) (Names : Q7) (Schema : Q8) (Init : Q3) (Procs : Q7) (Cmd : Q1) : Option Bool := al (iO l Names Schema Init Procs Cmd) au 1
def dC (m : Q4) (l : Q17) : Option Bool := bif ((List.length l.2 : Int) == 0) then ( some false) else ( chk (gD 0 1 (List.length l.2)) <| (fI ([l.1, l.2, (bN l.2 0 1)] : List (List Q3))).bind fun r17 => (jI r17 m.1 m.2.1 m.2.2.1 m.2.2.2.1 m.2.2.2.2).bind fun r22 => (dY r22 false).bind fun r29 => aJ (!r29) [] (idx r17 0) fun e32 => aJ (!r29) default (eC e32 m.2.2.1) fun r38 => ab (!r38) fun b44 => ab (r29 || b44) fun b46 => bif b46 then ( some false) else ( (nK r17 m.1 m.2.1 m.2.2.1 m.2.2.2.1 m.2.2.2.2).bind fun r49 => some r49))
def qk (e : Ex) (times10 : Bool) (t45 : Bool) : Option Q9 := bif t45 then ( some (2, 0, 0)) else ( ab (decide (15 ≤ e.op)) fun b47 => ab (b47 && times10) fun b49 => bif b49 then ( some (3, 0, 0)) else ( some (0, 4, e.at_)))
def ki (iF : Ex → Option Q9) (e : Ex) (again12 : (Bool × Bool × Bool × Int) → Option Q9) : Bool × Bool × Bool × Int → Option Q9 := fun ⟨ints8, bools9, times10, t11⟩ => bif (decide (t11 < (List.length e.l : Int))) then ( (idx e.l t11).bind fun e14 => (iF e14).bind fun r23 => bif (r23.2.1 != 0) then ( some (0, r23.2.1, r23.2.2)) else ( ab (r23.1 == 1) fun b27 => ab (ints8 && b27) fun b29 => ab (r23.1 == 2) fun b31 => ab (bools9 && b31) fun b33 => ab (r23.1 != 1) fun b35 => ab (times10 && b35) fun b37 => again12 (b29, b33, b37, (IntKind.i64.wrap (t11 + 1))))) else ( ab (decide (e.op ≤ 6)) fun b39 => ab (b39 && ints8) fun b41 => bif b41 then ( some (1, 0, 0)) else ( ab (fun (s55 : Bool) => qk e times10 s55) fun kk54 => ab (decide (6 < e.op)) fun b56 => ab (decide (e.op ≤ 12)) fun b58 => ab (b56 && b58) fun b60 => ab (b60 && ints8) fun b62 => bif b62 then ( kk54 b62) else ( bif (e.op == 13) then ( kk54 (e.op == 13)) else ( bif (e.op == 14) then ( kk54 (e.op == 14)) else ( ab (decide (15 ≤ e.op)) fun b67 => ab (decide (e.op ≤ 19)) fun b69 => ab (b67 && b69) fun b71 => ab (b71 && bools9) fun b73 => kk54 b73)))))
def nW (iF : Ex → Option Q9) (e : Ex) : Option Q9 := al (ki iF e) au (true, true, true, 0)
def rQ (e : Ex) : Option Q9 :=
 al (fun k (s : Ex) => nW k s) au e
def sR (e : Ex) : Option Bool := (rQ e).bind fun r5 => ab (r5.2.1 == 0) fun b8 => ab (r5.1 == 2) fun b10 => ab (b8 && b10) fun b12 => some b12
def mE (i : Int) (Op : Int) (N : Int) (At : Int) (L : (List Ex)) (V : (List Q3)) (_Loop : Int) : Option Bool := (idx V i).bind fun e5 => (kj (Ex.mk Op N At L) e5).bind fun r11 => some (r11 == 1)
def xn (n : Int) (Op : Int) (N : Int) (At : Int) (L : (List Ex)) (V : (List Q3)) (Loop : Int) (again12 : Q24 → Option Q5) : Q5 × Int → Option Q5 := fun ⟨l10, t11⟩ => bif (decide (t11 < (List.length (List.replicate (Int.toNat n) false) : Int))) then ( (mE t11 Op N At L V Loop).bind fun r14 => (idx l10 t11).bind fun _e17 => again12 ((List.set l10 (Int.toNat t11) r14), (IntKind.i64.wrap (t11 + 1)))) else ( some l10)
def uD (n : Int) (Op : Int) (N : Int) (At : Int) (L : (List Ex)) (V : (List Q3)) (Loop : Int) : Option Q5 := chk (decide (0 ≤ n)) <| chk (ay (Int.toNat n) 1) <| al (xn n Op N At L V Loop) au ((List.replicate (Int.toNat n) false), 0)
def pI (i : Int) (x : Q5) : Option Bool := (idx x i).bind fun e3 => some (!e3)
def sO (n : Int) (c : Q5) (again12 : Q24 → Option Q5) : Q5 × Int → Option Q5 := fun ⟨l10, t11⟩ => bif (decide (t11 < (List.length (List.replicate (Int.toNat n) false) : Int))) then ( (pI t11 c).bind fun r14 => (idx l10 t11).bind fun _e17 => again12 ((List.set l10 (Int.toNat t11) r14), (IntKind.i64.wrap (t11 + 1)))) else ( some l10)
def sa (n : Int) (c : Q5) : Option Q5 := chk (decide (0 ≤ n)) <| chk (ay (Int.toNat n) 1) <| al (sO n c) au ((List.replicate (Int.toNat n) false), 0)
def px (i : Int) (x : Q5) (x6 : Q5) : Option Bool := (idx x i).bind fun e3 => aJ e3 false (idx x6 i) fun e5 => ab (e3 && e5) fun b7 => some b7
def tf (n : Int) (c : Q5) (c6 : Q5) (again12 : Q24 → Option Q5) : Q5 × Int → Option Q5 := fun ⟨l10, t11⟩ => bif (decide (t11 < (List.length (List.replicate (Int.toNat n) false) : Int))) then ( (px t11 c c6).bind fun r14 => (idx l10 t11).bind fun _e17 => again12 ((List.set l10 (Int.toNat t11) r14), (IntKind.i64.wrap (t11 + 1)))) else ( some l10)
def sk (n : Int) (c : Q5) (c6 : Q5) : Option Q5 := chk (decide (0 ≤ n)) <| chk (ay (Int.toNat n) 1) <| al (tf n c c6) au ((List.replicate (Int.toNat n) false), 0)
def pb (i : Int) (x : Q5) (x6 : Q5) : Option Bool := (idx x i).bind fun e3 => aJ (!e3) false (idx x6 i) fun e5 => ab (e3 || e5) fun b7 => some b7
def sW (n : Int) (c : Q5) (c6 : Q5) (again12 : Q24 → Option Q5) : Q5 × Int → Option Q5 := fun ⟨l10, t11⟩ => bif (decide (t11 < (List.length (List.replicate (Int.toNat n) false) : Int))) then ( (pb t11 c c6).bind fun r14 => (idx l10 t11).bind fun _e17 => again12 ((List.set l10 (Int.toNat t11) r14), (IntKind.i64.wrap (t11 + 1)))) else ( some l10)
def sq (n : Int) (c : Q5) (c6 : Q5) : Option Q5 := chk (decide (0 ≤ n)) <| chk (ay (Int.toNat n) 1) <| al (sW n c c6) au ((List.replicate (Int.toNat n) false), 0)
def pD (i : Int) (x : Q5) (x6 : Q5) : Option Bool := (idx x i).bind fun e3 => ab (!e3) fun b5 => aJ (!b5) false (idx x6 i) fun e7 => ab (b5 || e7) fun b9 => some b9
def tE (n : Int) (c : Q5) (c6 : Q5) (again12 : Q24 → Option Q5) : Q5 × Int → Option Q5 := fun ⟨l10, t11⟩ => bif (decide (t11 < (List.length (List.replicate (Int.toNat n) false) : Int))) then ( (pD t11 c c6).bind fun r14 => (idx l10 t11).bind fun _e17 => again12 ((List.set l10 (Int.toNat t11) r14), (IntKind.i64.wrap (t11 + 1)))) else ( some l10)
def sb (n : Int) (c : Q5) (c6 : Q5) : Option Q5 := chk (decide (0 ≤ n)) <| chk (ay (Int.toNat n) 1) <| al (tE n c c6) au ((List.replicate (Int.toNat n) false), 0)
def po (i : Int) (x : Q5) (x6 : Q5) : Option Bool := (idx x i).bind fun e5 => (idx x6 i).bind fun e7 => some (e5 == e7)
def tB (n : Int) (c : Q5) (c6 : Q5) (again12 : Q24 → Option Q5) : Q5 × Int → Option Q5 := fun ⟨l10, t11⟩ => bif (decide (t11 < (List.length (List.replicate (Int.toNat n) false) : Int))) then ( (po t11 c c6).bind fun r14 => (idx l10 t11).bind fun _e17 => again12 ((List.set l10 (Int.toNat t11) r14), (IntKind.i64.wrap (t11 + 1)))) else ( some l10)
def su (n : Int) (c : Q5) (c6 : Q5) : Option Q5 := chk (decide (0 ≤ n)) <| chk (ay (Int.toNat n) 1) <| al (tB n c c6) au ((List.replicate (Int.toNat n) false), 0)
def nz (w1 : Q13) (i : Int) : Option Int := bif ((IntKind.i64.wrap (i + 1)) == (List.length w1.1 : Int)) then ( some w1.2) else ( some (IntKind.i64.wrap (i + 1)))
def py (i : Int) (x : Q5) (V : (List Q3)) (Loop : Int) : Option Bool := (nz (V, Loop) i).bind fun r5 => (idx x r5).bind fun e8 => some e8
def sM (n : Int) (c : Q5) (V : (List Q3)) (Loop : Int) (again12 : Q24 → Option Q5) : Q5 × Int → Option Q5 := fun ⟨l10, t11⟩ => bif (decide (t11 < (List.length (List.replicate (Int.toNat n) false) : Int))) then ( (py t11 c V Loop).bind fun r14 => (idx l10 t11).bind fun _e17 => again12 ((List.set l10 (Int.toNat t11) r14), (IntKind.i64.wrap (t11 + 1)))) else ( some l10)
def sg (n : Int) (c : Q5) (V : (List Q3)) (Loop : Int) : Option Q5 := chk (decide (0 ≤ n)) <| chk (ay (Int.toNat n) 1) <| al (sM n c V Loop) au ((List.replicate (Int.toNat n) false), 0)
def oS (_x : Int) (x2 : Bool) : Option Bool := some x2
def sJ (n : Int) (c : Bool) (again12 : Q24 → Option Q5) : Q5 × Int → Option Q5 := fun ⟨l10, t11⟩ => bif (decide (t11 < (List.length (List.replicate (Int.toNat n) false) : Int))) then ( (oS t11 c).bind fun r14 => (idx l10 t11).bind fun _e17 => again12 ((List.set l10 (Int.toNat t11) r14), (IntKind.i64.wrap (t11 + 1)))) else ( some l10)
def rX (n : Int) (c : Bool) : Option Q5 := chk (decide (0 ≤ n)) <| chk (ay (Int.toNat n) 1) <| al (sJ n c) au ((List.replicate (Int.toNat n) false), 0)
def mH (is_ : Bool) (x : Int) : Option Q5 := (rX x is_).bind fun r7 => some r7
def qp (_x : Int) (x2 : Bool) : Option Bool := some x2
def tl (n : Int) (c : Bool) (again12 : Q24 → Option Q5) : Q5 × Int → Option Q5 := fun ⟨l10, t11⟩ => bif (decide (t11 < (List.length (List.replicate (Int.toNat n) false) : Int))) then ( (qp t11 c).bind fun r14 => (idx l10 t11).bind fun _e17 => again12 ((List.set l10 (Int.toNat t11) r14), (IntKind.i64.wrap (t11 + 1)))) else ( some l10)
def kT (n : Int) (c : Bool) : Option Q5 := chk (decide (0 ≤ n)) <| chk (ay (Int.toNat n) 1) <| al (tl n c) au ((List.replicate (Int.toNat n) false), 0)
def mB (i : Int) (on_ : Q5) (x : Q5) (x10 : Q5) (V : (List Q3)) (Loop : Int) : Option Bool := (idx x i).bind fun e3 => aJ (!e3) false (idx x10 i) fun e5 => aJ ((!e3) && e5) default (nz (V, Loop) i) fun r7 => aJ ((!e3) && e5) false (idx on_ r7) fun e13 => ab (e5 && e13) fun b15 => ab (e3 || b15) fun b17 => some b17
def mY (i : Int) (x : Q5) (c : Q5) (c14 : Q5) (V : (List Q3)) (Loop : Int) : Option Bool := (mB i x c c14 V Loop).bind fun r3 => some r3
def rB (n : Int) (c : Q5) (c12 : Q5) (c15 : Q5) (V : (List Q3)) (Loop : Int) (again12 : Q24 → Option Q5) : Q5 × Int → Option Q5 := fun ⟨l10, t11⟩ => bif (decide (t11 < (List.length (List.replicate (Int.toNat n) false) : Int))) then ( (mY t11 c c12 c15 V Loop).bind fun r14 => (idx l10 t11).bind fun _e17 => again12 ((List.set l10 (Int.toNat t11) r14), (IntKind.i64.wrap (t11 + 1)))) else ( some l10)
def qL (n : Int) (c : Q5) (c12 : Q5) (c15 : Q5) (V : (List Q3)) (Loop : Int) : Option Q5 := chk (decide (0 ≤ n)) <| chk (ay (Int.toNat n) 1) <| al (rB n c c12 c15 V Loop) au ((List.replicate (Int.toNat n) false), 0)
def cJ (s1 : Q5) (s2 : Q5) (again6 : Int → Option Bool) (t5 : Int) : Option Bool := bif (decide (t5 < (List.length s1 : Int))) then ( (idx s1 t5).bind fun e10 => (idx s2 t5).bind fun e12 => bif (e10 != e12) then ( some false) else ( again6 (IntKind.i64.wrap (t5 + 1)))) else ( some true)
def cf (s1 : Q5) (s2 : Q5) : Option Bool := bif ((List.length s1 : Int) != (List.length s2 : Int)) then ( some false) else ( al (cJ s1 s2) au 0)
def qx (w1 : Q13) (c : Q5) (c11 : Q5) (V : (List Q3)) (Loop : Int) (again25 : Q5 → Option Q5) (c22 : Q5) : Option Q5 := (qL (List.length w1.1 : Int) c22 c c11 V Loop).bind fun r26 => (cf c22 r26).bind fun r31 => bif (!r31) then ( again25 r26) else ( some c22)
def vR (w1 : Q13) (first : Bool) (c : Q5) (c11 : Q5) (V : (List Q3)) (Loop : Int) : Option Q5 := (kT (List.length w1.1 : Int) first).bind fun r12 => al (qx w1 c c11 V Loop) au r12
def n8 (w1 : Q13) (a : Q5) (b : Q5) : Option Q5 := (vR w1 false b a w1.1 w1.2).bind fun r13 => some r13
def kI (i : Int) (on_ : Q5) (x : Q5) (x10 : Q5) (V : (List Q3)) (Loop : Int) : Option Bool := (idx x i).bind fun e3 => aJ e3 false (idx x10 i) fun e5 => aJ (e3 && !e5) default (nz (V, Loop) i) fun r7 => aJ (e3 && !e5) false (idx on_ r7) fun e13 => ab (e5 || e13) fun b15 => ab (e3 && b15) fun b17 => some b17
def jS (i : Int) (x : Q5) (c : Q5) (c14 : Q5) (V : (List Q3)) (Loop : Int) : Option Bool := (kI i x c c14 V Loop).bind fun r3 => some r3
def rD (n : Int) (c : Q5) (c12 : Q5) (c15 : Q5) (V : (List Q3)) (Loop : Int) (again12 : Q24 → Option Q5) : Q5 × Int → Option Q5 := fun ⟨l10, t11⟩ => bif (decide (t11 < (List.length (List.replicate (Int.toNat n) false) : Int))) then ( (jS t11 c c12 c15 V Loop).bind fun r14 => (idx l10 t11).bind fun _e17 => again12 ((List.set l10 (Int.toNat t11) r14), (IntKind.i64.wrap (t11 + 1)))) else ( some l10)
def qi (n : Int) (c : Q5) (c12 : Q5) (c15 : Q5) (V : (List Q3)) (Loop : Int) : Option Q5 := chk (decide (0 ≤ n)) <| chk (ay (Int.toNat n) 1) <| al (rD n c c12 c15 V Loop) au ((List.replicate (Int.toNat n) false), 0)
def my (w1 : Q13) (c : Q5) (c11 : Q5) (V : (List Q3)) (Loop : Int) (again25 : Q5 → Option Q5) (c22 : Q5) : Option Q5 := (qi (List.length w1.1 : Int) c22 c c11 V Loop).bind fun r26 => (cf c22 r26).bind fun r31 => bif (!r31) then ( again25 r26) else ( some c22)
def qE (w1 : Q13) (first : Bool) (c : Q5) (c11 : Q5) (V : (List Q3)) (Loop : Int) : Option Q5 := (kT (List.length w1.1 : Int) first).bind fun r12 => al (my w1 c c11 V Loop) au r12
def kU (w1 : Q13) (a : Q5) (b : Q5) : Option Q5 := (qE w1 true b a w1.1 w1.2).bind fun r13 => some r13
def oX (e : Ex) (w3 : Q13) (r29 : Q5) (l40 : Q5) : Option Q5 := bif (e.op == 15) then ( (sa (List.length w3.1 : Int) r29).bind fun r44 => some r44) else ( bif (e.op == 16) then ( (sk (List.length w3.1 : Int) r29 l40).bind fun r50 => some r50) else ( bif (e.op == 17) then ( (sq (List.length w3.1 : Int) r29 l40).bind fun r56 => some r56) else ( bif (e.op == 18) then ( (sb (List.length w3.1 : Int) r29 l40).bind fun r62 => some r62) else ( bif (e.op == 19) then ( (su (List.length w3.1 : Int) r29 l40).bind fun r68 => some r68) else ( bif (e.op == 20) then ( (sg (List.length w3.1 : Int) r29 w3.1 w3.2).bind fun r74 => some r74) else ( bif (e.op == 21) then ( (mH true (List.length w3.1 : Int)).bind fun r82 => (n8 w3 r82 r29).bind fun r87 => some r87) else ( bif (e.op == 22) then ( (mH false (List.length w3.1 : Int)).bind fun r95 => (kU w3 r95 r29).bind fun r100 => some r100) else ( bif (e.op == 23) then ( (n8 w3 r29 l40).bind fun r106 => some r106) else ( (kU w3 r29 l40).bind fun r111 => some r111)))))))))
def j3 (oc : (Ex × Q13) → Option Q5) (e : Ex) (w3 : Q13) : Option Q5 := (sR e).bind fun r12 => bif r12 then ( (uD (List.length w3.1 : Int) e.op e.n e.at_ e.l w3.1 w3.2).bind fun r16 => some r16) else ( (idx e.l 0).bind fun e23 => ( (oc (e23, w3)).bind fun r29 => ab (fun (s117 : Q5) => oX e w3 r29 s117) fun kk116 => bif (decide (1 < (List.length e.l : Int))) then ( (idx e.l 1).bind fun e121 => (oc (e121, w3)).bind fun r127 => kk116 r127) else ( kk116 [])))
def wy (e : Ex) (w3 : Q13) : Option Q5 :=
 al (fun k (s : (Ex × Q13)) => j3 k s.1 s.2) au (e, w3)
def ox (e : Ex) (w3 : Q13) : Option Bool := (wy e w3).bind fun r7 => (idx r7 0).bind fun e12 => some e12
def dL (m : Q4) (e : Ex) (l : Q17) : Option Bool := (dC m l).bind fun r11 => aJ r11 default (kB l) fun r14 => aJ r11 default (ox e r14) fun r23 => ab (!r23) fun b29 => ab (r11 && b29) fun b31 => some b31
def uq (a : Q3) (b : Q3) (again6 : Int → Option Bool) (i5 : Int) : Option Bool := bif (decide (i5 < (List.length a : Int))) then ( (idx a i5).bind fun e10 => (idx b i5).bind fun e12 => bif (e10 != e12) then ( some false) else ( again6 (IntKind.i64.wrap (i5 + 1)))) else ( some true)
def oU (a : Q3) (b : Q3) : Option Bool := bif ((List.length a : Int) != (List.length b : Int)) then ( some false) else ( al (uq a b) au 0)
def sI (a : (List Q3)) (b : (List Q3)) (again6 : Int → Option Bool) (i5 : Int) : Option Bool := bif (decide (i5 < (List.length a : Int))) then ( (idx a i5).bind fun e10 => (idx b i5).bind fun e16 => (oU e10 e16).bind fun r22 => bif (!r22) then ( some false) else ( again6 (IntKind.i64.wrap (i5 + 1)))) else ( some true)
def kb (a : (List Q3)) (b : (List Q3)) : Option Bool := bif ((List.length a : Int) != (List.length b : Int)) then ( some false) else ( al (sI a b) au 0)
def gJ : Option Bool := (fp [118, 97, 114, 32, 120, 32, 48, 32, 50, 32, 48, 59, 32, 112, 114, 111, 99, 32, 80, 32, 123, 32, 120, 32, 60, 32, 50, 32, 58, 32, 120, 32, 61, 32, 120, 32, 43, 32, 49, 59, 32, 125]).bind fun r3 => (Eg (([([0, 5] : List Int), ([] : List Int)] : List Q3), ([([7] : List Int)] : List Q3))).bind fun r49 => (kB (([([0] : List Int), ([1] : List Int)] : List Q3), ([([2] : List Int)] : List Q3))).bind fun r59 => aJ r3.2 default (dL r3.1 (Ex.mk 22 0 0 ([(Ex.mk 9 0 0 ([(Ex.mk 2 0 0 []), (Ex.mk 1 2 0 [])] : List Ex))] : List Ex)) (([([0] : List Int), ([1] : List Int)] : List Q3), ([([2] : List Int)] : List Q3))) fun r67 => ab (r3.2 && r67) fun b73 => aJ b73 default (dC r3.1 (([([0] : List Int), ([1] : List Int)] : List Q3), ([([2] : List Int)] : List Q3))) fun r75 => ab (b73 && r75) fun b81 => aJ b81 default (dC r3.1 (([([0] : List Int)] : List Q3), ([([1] : List Int)] : List Q3))) fun r91 => ab (!r91) fun b97 => ab (b81 && b97) fun b99 => aJ b99 default (dL r3.1 (Ex.mk 13 0 0 []) (([([0] : List Int), ([1] : List Int)] : List Q3), ([([2] : List Int)] : List Q3))) fun r101 => ab (!r101) fun b107 => ab (b99 && b107) fun b109 => aJ b109 default (dC r3.1 (([([0] : List Int), ([1] : List Int)] : List Q3), [])) fun r111 => ab (!r111) fun b117 => ab (b109 && b117) fun b119 => aJ b119 default (kb r49.1 ([([0] : List Int), ([] : List Int)] : List Q3)) fun r127 => ab (b119 && r127) fun b133 => aJ b133 default (kb r49.2 ([([] : List Int)] : List Q3)) fun r139 => ab (b133 && r139) fun b145 => ab (r59.2 == 2) fun b147 => ab (b145 && b147) fun b149 => ab ((List.length r59.1 : Int) == 3) fun b151 => ab (b149 && b151) fun b153 => some b153
def fV (l : Q17) (again25 : Int → Option Bool) (i24 : Int) : Option Bool := bif (decide (i24 < (List.length l.2 : Int))) then ( (idx l.2 i24).bind fun e27 => bif (decide (40 < (List.length e27 : Int))) then ( some false) else ( again25 (IntKind.i64.wrap (i24 + 1)))) else ( some true)
def fT (l : Q17) (again14 : Int → Option Bool) (i13 : Int) : Option Bool := bif (decide (i13 < (List.length l.1 : Int))) then ( (idx l.1 i13).bind fun e16 => bif (decide (40 < (List.length e16 : Int))) then ( some false) else ( again14 (IntKind.i64.wrap (i13 + 1)))) else ( al (fV l) au 0)
def fN (l : Q17) (most : Int) : Option Bool := ab (decide (most < (List.length l.1 : Int))) fun b5 => ab (decide (most < (List.length l.2 : Int))) fun b7 => ab (b5 || b7) fun b9 => bif b9 then ( some false) else ( al (fT l) au 0)
def dT (cD : Q22 → Option Int) (e : Ex) (most : Int) (again8 : Q23 → Option Int) : Int × Int → Option Int := fun ⟨d6, i7⟩ => ab (decide (i7 < (List.length e.l : Int))) fun b9 => ab (decide (1 < most)) fun b11 => ab (b9 && b11) fun b13 => bif b13 then ( (idx e.l i7).bind fun e16 => (cD (e16, (IntKind.i64.wrap (most - 1)))).bind fun r22 => bif (decide (d6 < (IntKind.i64.wrap (1 + r22)))) then ( again8 ((IntKind.i64.wrap (1 + r22)), (IntKind.i64.wrap (i7 + 1)))) else ( again8 (d6, (IntKind.i64.wrap (i7 + 1))))) else ( some d6)
def jv (cD : Q22 → Option Int) (e : Ex) (most : Int) : Option Int := al (dT cD e most) au (1, 0)
def hU (e : Ex) (most : Int) : Option Int :=
 al (fun k (s : Q22) => jv k s.1 s.2) au (e, most)
def dW (cB : Q22 → Option Int) (e : Ex) (most : Int) (again8 : Q23 → Option Int) : Int × Int → Option Int := fun ⟨n6, i7⟩ => ab (decide (i7 < (List.length e.l : Int))) fun b9 => ab (decide (n6 < most)) fun b11 => ab (b9 && b11) fun b13 => bif b13 then ( (idx e.l i7).bind fun e16 => (cB (e16, most)).bind fun r22 => again8 ((IntKind.i64.wrap (n6 + r22)), (IntKind.i64.wrap (i7 + 1)))) else ( some n6)
def jm (cB : Q22 → Option Int) (e : Ex) (most : Int) : Option Int := al (dW cB e most) au (1, 0)
def ia (e : Ex) (most : Int) : Option Int :=
 al (fun k (s : Q22) => jm k s.1 s.2) au (e, most)
def fQ (e : Ex) : Option Bool := (hU e 45).bind fun r5 => (ia e 300).bind fun r8 => ab (decide (r5 < 45)) fun b11 => ab (decide (r8 < 300)) fun b13 => ab (b11 && b13) fun b15 => some b15
def eo (bh : Q22 → Option Bool) (e : Ex) (vars : Int) (want6 : Int) (again51 : Int → Option Bool) (i50 : Int) : Option Bool := bif (decide (i50 < want6)) then ( (idx e.l i50).bind fun e53 => (bh (e53, vars)).bind fun r59 => bif (!r59) then ( some false) else ( again51 (IntKind.i64.wrap (i50 + 1)))) else ( some true)
def fW (bh : Q22 → Option Bool) (e : Ex) (vars : Int) (want6 : Int) : Option Bool := ab (decide (e.op < 1)) fun b7 => ab (decide (24 < e.op)) fun b9 => ab (b7 || b9) fun b11 => ab ((List.length e.l : Int) != want6) fun b13 => ab (b11 || b13) fun b15 => bif b15 then ( some false) else ( ab (e.op == 1) fun b18 => ab (decide (e.n < 0)) fun b20 => ab (decide (1073741824 < e.n)) fun b22 => ab (b20 || b22) fun b24 => ab (b18 && b24) fun b26 => ab (e.op == 2) fun b28 => ab (decide (e.n < 0)) fun b30 => ab (decide (vars ≤ e.n)) fun b32 => ab (b30 || b32) fun b34 => ab (b28 && b34) fun b36 => ab (b26 || b36) fun b38 => ab (decide (2 < e.op)) fun b40 => ab (e.n != 0) fun b42 => ab (b40 && b42) fun b44 => ab (b38 || b44) fun b46 => bif b46 then ( some false) else ( al (eo bh e vars want6) au 0))
def mQ (kk63 : Int → Option Bool) (t69 : Bool) : Option Bool := bif t69 then ( kk63 1) else ( kk63 2)
def jj (e : Ex) (kk63 : Int → Option Bool) (t66 : Bool) : Option Bool := bif t66 then ( kk63 0) else ( ab (fun (s72 : Bool) => mQ kk63 s72) fun kk71 => bif (e.op == 6) then ( kk71 (e.op == 6)) else ( bif (e.op == 15) then ( kk71 (e.op == 15)) else ( bif (e.op == 20) then ( kk71 (e.op == 20)) else ( bif (e.op == 21) then ( kk71 (e.op == 21)) else ( kk71 (e.op == 22))))))
def dJ (bh : Q22 → Option Bool) (e : Ex) (vars : Int) : Option Bool := ab (fun (s64 : Int) => fW bh e vars s64) fun kk63 => ab (fun (s78 : Bool) => jj e kk63 s78) fun kk77 => bif (e.op == 1) then ( kk77 (e.op == 1)) else ( bif (e.op == 2) then ( kk77 (e.op == 2)) else ( bif (e.op == 13) then ( kk77 (e.op == 13)) else ( kk77 (e.op == 14))))
def iJ (e : Ex) (vars : Int) : Option Bool :=
 al (fun k (s : Q22) => dJ k s.1 s.2) au (e, vars)
def dV (e : Ex) (vars : Int) : Option Bool := (fQ e).bind fun r5 => (iJ e vars).bind fun r8 => ab (!r5) fun b11 => ab (!r8) fun b13 => ab (b11 || b13) fun b15 => bif b15 then ( some false) else ( (cq e).bind fun r18 => ab (r18.2.1 == 0) fun b21 => ab (r18.1 != 1) fun b23 => ab (b21 && b23) fun b25 => some b25)
def eA (text : Str) (e : Ex) (l : Q17) : Option Bool := (gJ).bind fun r7 => (fp text).bind fun r10 => ab (!r10.2) fun b26 => aJ (!b26) default (fN l 12) fun r28 => ab (!r28) fun b34 => ab (b26 || b34) fun b36 => ab (decide ((List.length l.2 : Int) < 1)) fun b38 => ab (b36 || b38) fun b40 => aJ (!b40) default (dV e (List.length r10.1.1 : Int)) fun r42 => ab (!r42) fun b48 => ab (b40 || b48) fun b50 => bif b50 then ( some r7) else ( chk (ay (List.length ([] : List Q3) + List.length l.2) 24) <| chk (ay (List.length (([] : List Q3) ++ l.2) + List.length l.2) 24) <| (idx l.2 0).bind fun e70 => chk (gD 1 ((List.length l.2) : Int) (List.length l.2)) <| (idx l.2 0).bind fun e80 => chk (ay (List.length ([] : List Q3) + List.length l.1) 24) <| chk (ay (List.length (([] : List Q3) ++ l.1) + List.length ([e70] : List Q3)) 24) <| chk (ay (List.length ([] : List Q3) + List.length (bN l.2 1 ((List.length l.2) : Int))) 24) <| chk (ay (List.length (([] : List Q3) ++ (bN l.2 1 ((List.length l.2) : Int))) + List.length ([e80] : List Q3)) 24) <| (dC r10.1 l).bind fun r113 => (dL r10.1 e l).bind fun r116 => aJ r7 default (dC r10.1 (l.1, ((([] : List Q3) ++ l.2) ++ l.2))) fun r119 => ab (r119 == r113) fun b125 => ab (r7 && b125) fun b127 => aJ b127 default (dC r10.1 (((([] : List Q3) ++ l.1) ++ ([e70] : List Q3)), ((([] : List Q3) ++ (bN l.2 1 ((List.length l.2) : Int))) ++ ([e80] : List Q3)))) fun r129 => ab (r129 == r113) fun b135 => ab (b127 && b135) fun b137 => aJ b137 default (dL r10.1 e (l.1, ((([] : List Q3) ++ l.2) ++ l.2))) fun r139 => ab (r139 == r116) fun b145 => ab (b137 && b145) fun b147 => aJ b147 default (dL r10.1 e (((([] : List Q3) ++ l.1) ++ ([e70] : List Q3)), ((([] : List Q3) ++ (bN l.2 1 ((List.length l.2) : Int))) ++ ([e80] : List Q3)))) fun r149 => ab (r149 == r116) fun b155 => ab (b147 && b155) fun b157 => some b157)
end
end Go.Proofs.YtpnogcmollnjeaaGreatDoor
namespace Go.Proofs
open Go.Shelf
def Tryz.vp : Go.Shelf.Ren := ⟨fun | 171 => 92 | 243 => 100 | 246 => 106 | 283 => 107 | 284 => 108 | 285 => 109 | 286 => 110 | 129 => 112 | 317 => 111 | 318 => 113 | 319 => 114 | 320 => 115 | 337 => 116 | 338 => 117 | n => n, fun | 3 => 3 | 9 => 9 | 2 => 2 | 4 => 4 | 171 => 160 | 0 => 0 | 53 => 161 | 37 => 42 | 5 => 5 | 173 => 164 | 212 => 167 | 51 => 168 | 20 => 20 | 213 => 169 | 46 => 170 | 232 => 173 | 233 => 174 | n => n, fun | 17 => 0 | 18 => 1 | 19 => 2 | n => n⟩
theorem Tryz.KO : Go.Proofs.LaysM.n171 Tryz.prog Tryz.vp := {
 mixed := by kernel_rfl
 f129 := Tryz.func112.trans (congrArg some (by kernel_rfl))
 f171 := Tryz.func92.trans (congrArg some (by kernel_rfl))
 f243 := Tryz.func100.trans (congrArg some (by kernel_rfl))
 f246 := Tryz.func106.trans (congrArg some (by kernel_rfl))
 f283 := Tryz.func107.trans (congrArg some (by kernel_rfl))
 f284 := Tryz.func108.trans (congrArg some (by kernel_rfl))
 f285 := Tryz.func109.trans (congrArg some (by kernel_rfl))
 f286 := Tryz.func110.trans (congrArg some (by kernel_rfl))
 f317 := Tryz.func111.trans (congrArg some (by kernel_rfl))
 f318 := Tryz.func113.trans (congrArg some (by kernel_rfl))
 f319 := Tryz.func114.trans (congrArg some (by kernel_rfl))
 f320 := Tryz.func115.trans (congrArg some (by kernel_rfl))
 f337 := Tryz.func116.trans (congrArg some (by kernel_rfl))
 f338 := Tryz.func117.trans (congrArg some (by kernel_rfl))
 t0 := Tryz.underlying0
 a0 := Tryz.isAgg0
 z0 := Tryz.sizeOf0
 v0 := Tryz.zeroValue0
 t2 := Tryz.underlying2
 a2 := Tryz.isAgg2
 z2 := Tryz.sizeOf2
 v2 := Tryz.zeroValue2
 t3 := Tryz.underlying3
 a3 := Tryz.isAgg3
 z3 := Tryz.sizeOf3
 v3 := Tryz.zeroValue3
 t4 := Tryz.underlying4
 a4 := Tryz.isAgg4
 z4 := Tryz.sizeOf4
 v4 := Tryz.zeroValue4
 t5 := Tryz.underlying5
 a5 := Tryz.isAgg5
 z5 := Tryz.sizeOf5
 v5 := Tryz.zeroValue5
 t9 := Tryz.underlying9
 a9 := Tryz.isAgg9
 z9 := Tryz.sizeOf9
 v9 := Tryz.zeroValue9
 t20 := Tryz.underlying20
 a20 := Tryz.isAgg20
 z20 := Tryz.sizeOf20
 v20 := Tryz.zeroValue20
 t37 := Tryz.underlying42
 a37 := Tryz.isAgg42
 z37 := Tryz.sizeOf42
 v37 := Tryz.zeroValue42
 t46 := Tryz.underlying170
 a46 := Tryz.isAgg170
 z46 := Tryz.sizeOf170
 v46 := Tryz.zeroValue170
 t51 := Tryz.underlying168
 a51 := Tryz.isAgg168
 z51 := Tryz.sizeOf168
 v51 := Tryz.zeroValue168
 t53 := Tryz.underlying161
 a53 := Tryz.isAgg161
 z53 := Tryz.sizeOf161
 v53 := Tryz.zeroValue161
 t171 := Tryz.underlying160
 a171 := Tryz.isAgg160
 z171 := Tryz.sizeOf160
 v171 := Tryz.zeroValue160
 t173 := Tryz.underlying164
 a173 := Tryz.isAgg164
 z173 := Tryz.sizeOf164
 v173 := Tryz.zeroValue164
 t212 := Tryz.underlying167
 a212 := Tryz.isAgg167
 z212 := Tryz.sizeOf167
 v212 := Tryz.zeroValue167
 t213 := Tryz.underlying169
 a213 := Tryz.isAgg169
 z213 := Tryz.sizeOf169
 t232 := Tryz.underlying173
 a232 := Tryz.isAgg173
 z232 := Tryz.sizeOf173
 v232 := Tryz.zeroValue173
 t233 := Tryz.underlying174
 a233 := Tryz.isAgg174
 z233 := Tryz.sizeOf174
 v233 := Tryz.zeroValue174
 g17 := by kernel_rfl
 g18 := by kernel_rfl
 g19 := by kernel_rfl
 i0 := by kernel_rfl
 i2 := by kernel_rfl
 i3 := by kernel_rfl
 i4 := by kernel_rfl
 i5 := by kernel_rfl
 i9 := by kernel_rfl
 i20 := by kernel_rfl
 i37 := by kernel_rfl
 i46 := by kernel_rfl
 i51 := by kernel_rfl
 i53 := by kernel_rfl
 i171 := by kernel_rfl
 i173 := by kernel_rfl
 i212 := by kernel_rfl
 i232 := by kernel_rfl
 i233 := by kernel_rfl
 m17 := by kernel_rfl
 m18 := by kernel_rfl
 m19 := by kernel_rfl }
end Go.Proofs
namespace Go.Proofs.YtpnogcmollnjeaaGreatDoor
open Go.Proofs Go.Shelf Go.Lib
theorem Lw {P : Program} {Γg : Ctx} {ρ : Go.Shelf.Ren} (L : Go.Proofs.LaysM.n171 P ρ) (hE : Enters P (ρ.f 171)) {G : Nat} {tab : List Int} (hg : P.globalNamed "internal/strconv.uint64pow10" = some G) (hΓ : gl G (tab.map (Value.int .u64)) ∈ Γg) (ht : Lib.pow10Tab = tab)
  (m : Int → Option Str) (hm : ∀ n r, m n = some r → zZ n = true ∧ r = Lib.itoa n) : (⟨ρ.f 171, [.int .i64], .str, [], fun s => m s⟩ : Ent).Ok P Γg := by
 refine ⟨hE, fun s r hr vs N I X Φ w hS hs hΦ => ?_⟩
 obtain ⟨v2, vs2, D3, D4, I3, I4, X3, X4, N2, rfl, ⟨x, rfl, rfl, rfl, rfl, rfl⟩, ⟨rfl, rfl, rfl, rfl, rfl⟩, hD, rfl, rfl⟩ := hS
 obtain ⟨hn, rfl⟩ := hm s r hr
 have hx : x = s := by
  have hD : [(⟨.i .i64, s⟩ : Dyn)] = [⟨.i .i64, x⟩] := hD
  simp only [List.cons.injEq, and_true] at hD
  cases hD
  rfl
 subst hx
 obtain ⟨h0, h1⟩ := EN.1 hn
 have hs : Sat Φ w := hs
 obtain ⟨i, hi⟩ := List.getElem?_of_mem (hΦ _ hΓ)
 obtain ⟨_, t, fr, hb⟩ := hs.gl0 hi
 have htab : Lib.TabIs P w "internal/strconv.uint64pow10" .u64 Lib.pow10Tab := by
  unfold Lib.TabIs World.var?
  rw [hg, ht]
  simp [hb]
 refine Calls.mono (Any.strconv_Itoa L x h0 h1 w htab) ?_
 rintro e w' ⟨rfl, k, os, rfl⟩
 refine ⟨[], [], [⟨.s, Lib.itoa x⟩], [], [], [], [], [], ⟨_, rfl, rfl, rfl, rfl, rfl⟩, ⟨rfl, rfl, rfl, rfl⟩, rfl, ?_⟩
 refine Sat.ext (Γ := Φ) hs ⟨rfl, rfl, rfl, ?_, fun b hb => ?_⟩
 ·simp [Sort.grow, World.drewN]
 ·simp [Sort.grow, World.drewN, Array.getElem?_append, hb]
end Go.Proofs.YtpnogcmollnjeaaGreatDoor
namespace Go.Proofs
open Go.Shelf
def Tryz.BC : Go.Shelf.Ren := ⟨fun | 4 => 50 | n => n, fun | 22 => 25 | 25 => 31 | 3 => 3 | 4 => 4 | 9 => 9 | 20 => 20 | 0 => 0 | n => n, fun | n => n⟩
theorem Tryz.Qf : Go.Proofs.Lays8.n4 Tryz.prog Tryz.BC := {
 mixed := by kernel_rfl
 f4 := ⟨Tryz.f50.name, by decide, Tryz.func50.trans (congrArg some (by kernel_rfl))⟩
 t0 := Tryz.underlying0
 a0 := Tryz.isAgg0
 z0 := Tryz.sizeOf0
 v0 := Tryz.zeroValue0
 t3 := Tryz.underlying3
 a3 := Tryz.isAgg3
 z3 := Tryz.sizeOf3
 v3 := Tryz.zeroValue3
 t4 := Tryz.underlying4
 a4 := Tryz.isAgg4
 z4 := Tryz.sizeOf4
 v4 := Tryz.zeroValue4
 t9 := Tryz.underlying9
 a9 := Tryz.isAgg9
 z9 := Tryz.sizeOf9
 v9 := Tryz.zeroValue9
 t20 := Tryz.underlying20
 a20 := Tryz.isAgg20
 z20 := Tryz.sizeOf20
 v20 := Tryz.zeroValue20
 t22 := Tryz.underlying25
 a22 := Tryz.isAgg25
 z22 := Tryz.sizeOf25
 v22 := Tryz.zeroValue25 }
end Go.Proofs
namespace Go.Proofs.YtpnogcmollnjeaaGreatDoor
open Go.Proofs Go.Shelf Go.Lib
theorem Mj {P : Program} {ρ : Go.Shelf.Ren} (L : Go.Proofs.Lays8.n4 P ρ) {z : Value} {bytes : Nat} (hti : TI P (ρ.t 25) 1 bytes z) {α : Type} (A : Rep α) (hA : A.n = 1) (hzc : z.cells.size = 1) (hbp : 0 < bytes) (n : Nat) (hroom : ay n bytes = true) (w : World) :
  j7 P (ρ.f 4) [.slice none 0 0, .int .i64 (n : Int)] w fun v w' => ∃ p : SLV, v = sl p ∧ Ext w w' ∧ (∀ b ∈ slR p, b < w'.heap.size ∧ w.heap.size ≤ b) ∧ ∀ M' : Nat → Prop, Own A (ρ.t 25) M' w' (sl p) ([] : List α) (slR p) := by
 obtain ⟨i, hi, hsz, hby, hz⟩ := hti.out
 simp only [ay, Bool.and_eq_true] at hroom
 have hb1 := Nat.le_of_ble_eq_true hroom.1
 have hb2 := Nat.le_of_ble_eq_true hroom.2
 have hb3 : n ≤ n * bytes := Nat.le_mul_of_pos_right n hbp
 by_cases h0 : n = 0
 ·subst h0
  refine Calls.mono (Go.Proofs.Any8.slices_Grow_room L none 0 0 0 w (by omega) (by omega) (by omega) (by omega)) ?_
  rintro e w' ⟨rfl, rfl⟩
  exact ⟨(none, 0, 0), rfl, Ext.refl _, (fun b hb => by cases hb), fun M' => Own.nil.qu⟩
 ·refine Calls.mono (Go.Proofs.Any8.slices_Grow_grow L i z hi hz (by rw [hsz]; omega) none 0 0 n [] w (by omega) (by omega) (by rw [hby]; simpa using hb1) (by omega) (by simp) (fun _ => rfl) (fun a h => by cases h)) ?_
  rintro e w' ⟨rfl, rfl⟩
  have hcm : grownCap w (0 + n) 0 (ρ.t 25) ≤ maxLen := grownCap_le_maxLen w (0 + n) 0 _ (by simp only [maxLen]; omega)
  have hge := grownCap_ge w (0 + n) 0 (ρ.t 25)
  refine ⟨(some ⟨w.heap.size, 0, none⟩, 0, grownCap w (0 + n) 0 (ρ.t 25)), rfl, ⟨rfl, rfl, rfl, by simp, fun b hb => heap_alloc_old w.drew _ hb⟩, fun b hb => ?_, fun M' => ?_⟩
  ·have := pS hb
   rw [rJ] at this
   simp only [List.mem_singleton] at this
   subst this; simp
  ·have hO : OSl A (ρ.t 25) M' (w.drew.alloc (.cells (([] : List Value).toArray ++ Builtin.zeroCells z.cells (0 + n - 0) ++ Builtin.zeroCells z.cells (grownCap w (0 + n) 0 (ρ.t 25) - (0 + n))) (ρ.t 25))) (.slice (some ⟨w.heap.size, 0, none⟩) 0 (grownCap w (0 + n) 0 (ρ.t 25))) ([] : List α) := by
    refine ⟨[], ⟨by simp, .inr ⟨w.heap.size, _, _, rfl, Nat.zero_le _, heap_alloc_new w.drew _, Nat.zero_le _, hcm, ?_, by simp⟩⟩, ARd.nil⟩
    simp only [Array.size_append, List.size_toArray, size_zeroCells, hzc, hA, List.length_nil]
    omega
   exact (Own.of hO).qu
theorem Kx {P : Program} {Γg : Ctx} {ρ : Go.Shelf.Ren} (L : Go.Proofs.Lays8.n4 P ρ) (hE : Enters P (ρ.f 4)) {z : Value} {bytes : Nat} {t : Ty} (hti : TI P (ρ.t 25) 1 bytes z) (ht : t.rep.n = 1) (hzc : z.cells.size = 1) (hbp : 0 < bytes)
  (m : Int → Option (List t.T)) (hm : ∀ n r, m n = some r → 0 ≤ n ∧ ay n.toNat bytes = true ∧ r = []) :
  (⟨ρ.f 4, [.cst (.raw (.slice none 0 0)), .int .i64], .own t (ρ.t 25) true, [], fun s => m s⟩ : Ent).Ok P Γg := by
 refine ⟨hE, fun s r hr vs N I X Φ w hS hs hΓ => ?_⟩
 obtain ⟨v1, vs1, D1, D2, I1, I2, X1, X2, N1, rfl, ⟨⟨rfl, _⟩, rfl, rfl, rfl, rfl⟩, ⟨v2, vs2, D3, D4, I3, I4, X3, X4, N2, rfl, ⟨x, rfl, rfl, rfl, rfl, rfl⟩, ⟨rfl, rfl, rfl, rfl, rfl⟩, rfl, rfl, rfl⟩, hD, rfl, rfl⟩ := hS
 obtain ⟨h0, h1, rfl⟩ := hm s r hr
 have hx : x = s := by
  have hD : [(⟨.i .i64, s⟩ : Dyn)] = [⟨.i .i64, x⟩] := hD
  simp only [List.cons.injEq, and_true] at hD
  cases hD
  rfl
 subst hx
 have hn : ((x.toNat : Nat) : Int) = x := Int.toNat_of_nonneg h0
 have key := Mj L hti t.rep ht hzc hbp x.toNat h1 w
 rw [hn] at key
 refine j7.mono key ?_
 rintro v w' ⟨p, rfl, hX, hR, hO⟩
 refine ⟨[{ nm0 with v := p, y := ⟨.l t, []⟩ }], [{ nm0 with v := p, y := ⟨.l t, []⟩ }], [⟨.l t, []⟩], [], [(true, nr t.rep (ρ.t 25) p [] True)], [], [], [], ⟨_, [], rfl, (fun q h => by cases h), rfl, rfl, rfl, rfl, rfl⟩, ⟨rfl, rfl, rfl, rfl⟩, rfl, ?_⟩
 exact Sat.push (new := nr t.rep (ρ.t 25) p [] True) hs hX hR (fun M' _ => ⟨hO M', trivial⟩)
end Go.Proofs.YtpnogcmollnjeaaGreatDoor
namespace Go.Proofs.YtpnogcmollnjeaaGreatDoor
open Go.Proofs
noncomputable section
set_option maxRecDepth 100000
theorem NU : Mb Tryz.prog 105 := fun v w => by
 rw [run_callFunc_extern Tryz.func105 (by kernel_rfl) (by kernel_rfl) (by kernel_rfl) (e := Extern.AbiNoEscape.same) (by kernel_rfl)]
 rfl
def X0 : Cx := ⟨Tryz.prog, [(2, (.i .i64)), (3, (.i .i64)), (4, .bo), (5, (.i .u8)), (6, (.i .u8)), (7, (.p (.i .i64) (.p (.i .i64) (.p .bo (.i .u8))))), (8, (.p (.i .i64) (.p (.i .i64) (.p .bo (.i .u8))))), (9, .s), (10, .s), (11, .s), (12, (.i .u64)), (13, (.p .s (.i .u64))), (14, (.p .s (.i .u64))), (21, (.i .i32)), (22, (.l .ex)), (23, (.p (.i .i64) (.p (.i .i64) (.p (.i .i64) (.l .ex))))), (24, .ex), (25, (.l (.l (.i .i64)))), (26, (.p (.l (.l (.i .i64))) (.l (.l (.i .i64))))), (27, (.p (.l (.l (.i .i64))) (.l (.l (.i .i64))))), (29, (.l .s)), (30, (.l (.p (.i .i64) (.i .i64)))), (31, (.l (.i .i64))), (32, (.l (.p (.i .i64) (.p .ex (.l (.p (.i .i64) .ex)))))), (33, (.p (.l .s) (.p (.l (.p (.i .i64) (.i .i64))) (.p (.l (.i .i64)) (.p (.l .s) (.l (.p (.i .i64) (.p .ex (.l (.p (.i .i64) .ex)))))))))), (34, (.p (.l .s) (.p (.l (.p (.i .i64) (.i .i64))) (.p (.l (.i .i64)) (.p (.l .s) (.l (.p (.i .i64) (.p .ex (.l (.p (.i .i64) .ex)))))))))), (42, (.l (.i .u8))), (43, (.p .s (.p (.l (.i .u8)) (.p (.l (.i .i64)) (.i .u8))))), (44, (.p .s (.p (.l (.i .u8)) (.p (.l (.i .i64)) (.i .u8))))), (50, (.p .s (.p .ex (.p (.p (.l (.l (.i .i64))) (.l (.l (.i .i64)))) (.p (.i .u8) (.i .u8)))))), (51, (.p .s (.p .ex (.p (.p (.l (.l (.i .i64))) (.l (.l (.i .i64)))) (.p (.i .u8) (.i .u8)))))), (52, (.p (.i .i64) (.i .i64))), (53, (.p (.i .i64) (.i .i64))), (56, (.p (.l (.l (.i .i64))) (.i .i64))), (57, (.p (.l (.l (.i .i64))) (.i .i64))), (67, (.l .bo)), (69, (.i .i64)), (82, (.l (.p (.i .i64) (.p .s (.p (.i .i64) (.i .i64)))))), (85, (.p (.l (.p (.i .i64) (.p .s (.p (.i .i64) (.i .i64))))) (.p (.i .i64) (.p (.p (.l .s) (.p (.l (.p (.i .i64) (.i .i64))) (.p (.l (.i .i64)) (.p (.l .s) (.l (.p (.i .i64) (.p .ex (.l (.p (.i .i64) .ex))))))))) (.p (.i .i64) (.i .i64)))))), (86, (.p (.l (.p (.i .i64) (.p .s (.p (.i .i64) (.i .i64))))) (.p (.i .i64) (.p (.p (.l .s) (.p (.l (.p (.i .i64) (.i .i64))) (.p (.l (.i .i64)) (.p (.l .s) (.l (.p (.i .i64) (.p .ex (.l (.p (.i .i64) .ex))))))))) (.p (.i .i64) (.i .i64)))))), (87, (.p (.i .i64) (.p .s (.p (.i .i64) (.i .i64))))), (88, (.p (.i .i64) (.p .s (.p (.i .i64) (.i .i64))))), (96, (.l (.l (.l (.i .i64))))), (98, (.p (.i .i64) (.i .i64))), (110, (.l (.p (.i .i64) .ex))), (111, (.p (.i .i64) (.p .ex (.l (.p (.i .i64) .ex))))), (112, (.p (.i .i64) (.p .ex (.l (.p (.i .i64) .ex))))), (113, (.p (.i .i64) .ex)), (114, (.p (.i .i64) .ex)), (122, (.l .bo)), (137, (.p (.i .i64) (.i .i64))), (150, (.p (.l (.p (.i .i64) (.p .s (.p (.i .i64) (.i .i64))))) (.p (.i .i64) (.p (.l .s) (.p (.i .i64) (.i .i64)))))), (151, (.p (.l (.p (.i .i64) (.p .s (.p (.i .i64) (.i .i64))))) (.p (.i .i64) (.p (.l .s) (.p (.i .i64) (.i .i64)))))), (160, (.p (.i .u8) (.p (.i .u8) (.p (.i .u8) (.p (.i .u8) (.p (.i .u8) (.p (.i .u8) (.p (.i .u8) (.p (.i .u8) (.p (.i .u8) (.p (.i .u8) (.p (.i .u8) (.p (.i .u8) (.p (.i .u8) (.p (.i .u8) (.p (.i .u8) (.p (.i .u8) (.p (.i .u8) (.p (.i .u8) (.p (.i .u8) (.p (.i .u8) (.p (.i .u8) (.p (.i .u8) (.p (.i .u8) (.i .u8))))))))))))))))))))))))), (161, (.i .u64)), (167, (.p (.i .u64) (.p (.i .u64) (.p (.i .u64) (.p (.i .u64) (.p (.i .u64) (.p (.i .u64) (.p (.i .u64) (.p (.i .u64) (.p (.i .u64) (.p (.i .u64) (.p (.i .u64) (.p (.i .u64) (.p (.i .u64) (.p (.i .u64) (.p (.i .u64) (.p (.i .u64) (.p (.i .u64) (.p (.i .u64) (.p (.i .u64) (.i .u64))))))))))))))))))))), (168, (.i .u32)), (169, (.p (.i .u8) (.p (.i .u8) (.p (.i .u8) (.p (.i .u8) (.p (.i .u8) (.p (.i .u8) (.p (.i .u8) (.p (.i .u8) (.p (.i .u8) (.p (.i .u8) (.p (.i .u8) (.p (.i .u8) (.p (.i .u8) (.p (.i .u8) (.p (.i .u8) (.p (.i .u8) (.p (.i .u8) (.p (.i .u8) (.p (.i .u8) (.p (.i .u8) (.p (.i .u8) (.p (.i .u8) (.p (.i .u8) (.p (.i .u8) (.p (.i .u8) (.p (.i .u8) (.p (.i .u8) (.p (.i .u8) (.p (.i .u8) (.p (.i .u8) (.p (.i .u8) (.p (.i .u8) (.p (.i .u8) (.p (.i .u8) (.p (.i .u8) (.p (.i .u8) (.p (.i .u8) (.p (.i .u8) (.p (.i .u8) (.p (.i .u8) (.p (.i .u8) (.p (.i .u8) (.p (.i .u8) (.p (.i .u8) (.p (.i .u8) (.p (.i .u8) (.p (.i .u8) (.p (.i .u8) (.p (.i .u8) (.p (.i .u8) (.p (.i .u8) (.p (.i .u8) (.p (.i .u8) (.p (.i .u8) (.p (.i .u8) (.p (.i .u8) (.p (.i .u8) (.p (.i .u8) (.p (.i .u8) (.p (.i .u8) (.p (.i .u8) (.p (.i .u8) (.p (.i .u8) (.p (.i .u8) (.i .u8)))))))))))))))))))))))))))))))))))))))))))))))))))))))))))))))))), (170, (.i .u64)), (173, (.p (.i .u8) (.p (.i .u8) (.p (.i .u8) (.p (.i .u8) (.p (.i .u8) (.p (.i .u8) (.p (.i .u8) (.p (.i .u8) (.p (.i .u8) (.p (.i .u8) (.p (.i .u8) (.p (.i .u8) (.p (.i .u8) (.p (.i .u8) (.p (.i .u8) (.p (.i .u8) (.p (.i .u8) (.p (.i .u8) (.p (.i .u8) (.p (.i .u8) (.p (.i .u8) (.p (.i .u8) (.p (.i .u8) (.p (.i .u8) (.p (.i .u8) (.p (.i .u8) (.p (.i .u8) (.p (.i .u8) (.p (.i .u8) (.p (.i .u8) (.p (.i .u8) (.i .u8))))))))))))))))))))))))))))))))), (174, (.p (.i .u8) (.p (.i .u8) (.p (.i .u8) (.p (.i .u8) (.p (.i .u8) (.p (.i .u8) (.p (.i .u8) (.p (.i .u8) (.p (.i .u8) (.p (.i .u8) (.p (.i .u8) (.p (.i .u8) (.p (.i .u8) (.p (.i .u8) (.p (.i .u8) (.p (.i .u8) (.p (.i .u8) (.p (.i .u8) (.p (.i .u8) (.p (.i .u8) (.p (.i .u8) (.p (.i .u8) (.p (.i .u8) (.p (.i .u8) (.p (.i .u8) (.p (.i .u8) (.p (.i .u8) (.p (.i .u8) (.p (.i .u8) (.p (.i .u8) (.p (.i .u8) (.p (.i .u8) (.p (.i .u8) (.p (.i .u8) (.p (.i .u8) (.p (.i .u8) (.p (.i .u8) (.p (.i .u8) (.p (.i .u8) (.p (.i .u8) (.p (.i .u8) (.p (.i .u8) (.p (.i .u8) (.p (.i .u8) (.p (.i .u8) (.p (.i .u8) (.p (.i .u8) (.p (.i .u8) (.p (.i .u8) (.p (.i .u8) (.p (.i .u8) (.p (.i .u8) (.p (.i .u8) (.p (.i .u8) (.p (.i .u8) (.p (.i .u8) (.p (.i .u8) (.p (.i .u8) (.p (.i .u8) (.p (.i .u8) (.p (.i .u8) (.p (.i .u8) (.p (.i .u8) (.i .u8))))))))))))))))))))))))))))))))))))))))))))))))))))))))))))))))), (177, .un), (178, .un), (179, .un), (180, (.i .u8)), (181, (.i .u8)), (183, (.i .i32)), (184, (.i .i32))], [(0, 0, ⟨.l (.i .u64), ot⟩)], [105], (List.forall_mem_cons.2 ⟨NU, (fun _ h => nomatch h)⟩), au⟩
def gP (x : Ex) : Ex := Ex.mk x.op x.n x.at_ x.l
theorem cM : gP = id := funext fun x => by cases x; rfl
def PM : Ent := ⟨92, [.int .i64], .str, [], fun s => Ck s⟩
theorem Jy : PM.Ok X0.P X0.Γ := Lw (ρ := Tryz.vp) Tryz.KO Tryz.call92 (G := 0) (tab := ot) (by kernel_rfl) (show _ ∈ [gl 0 (ot.map (Value.int .u64))] from List.mem_cons_self ..) (by decide +kernel) Ck fun n r h => by
 obtain ⟨h1, h2⟩ := fJ h
 cases h2
 exact ⟨h1, rfl⟩
def Qb : Ent := ⟨50, [.cst (.raw (.slice none 0 0)), .int .i64], .own (.l (.i .i64)) 31 true, [], fun s => zv s⟩
theorem Jx : Qb.Ok X0.P X0.Γ := Kx (ρ := Tryz.BC) Tryz.Qf Tryz.call50 (z := .slice none 0 0) (bytes := 24) (t := .l (.i .i64)) (by unfold TI; kernel_rfl) rfl rfl (by decide) zv fun n r h => by
 obtain ⟨h1, h2⟩ := fJ h
 simp only [Bool.and_eq_true, decide_eq_true_eq] at h1
 cases h2
 exact ⟨h1.1, h1.2, rfl⟩
abbrev TK0 := Q10 → Option Q6
def da (k : TK0) : Ent := ⟨95, [(.bx 151 0 true [(.own (.p (.i .i64) (.p .s (.p (.i .i64) (.i .i64)))) 88 false), (.int .i64), (.own .s 9 false), (.int .i64), (.int .i64)]), (.int .i64), (.int .i64)], (.dat .ex [some 49]), [(true, 0, (.bx 151 0 true [.same, (.int .i64), .same, (.int .i64), (.int .i64)]))], fun s => k (s.2.2.2.2.2.1, s.2.2.2.2.2.2, s.1, s.2.1, s.2.2.1, s.2.2.2.1, s.2.2.2.2.1)⟩
abbrev OK0 (k : TK0) : Prop := (da k).Ok X0.P X0.Γ
abbrev TK1 := Ex → Option Q9
def fG (k : TK1) : Ent := ⟨22, [(.dat .ex [none])], (.tup [(.int .i64), (.int .i64), (.int .i64)]), [], fun s => k s⟩
abbrev OK1 (k : TK1) : Prop := (fG k).Ok X0.P X0.Γ
abbrev TK2 := (Ex × Q3) → Option Int
def ml (k : TK2) : Ent := ⟨68, [(.dat .ex [none]), (.sli (.i .i64))], (.int .i64), [], fun s => k (s.1, s.2)⟩
abbrev OK2 (k : TK2) : Prop := (ml k).Ok X0.P X0.Γ
abbrev TK3 := Ex → Option Q9
def mS (k : TK3) : Ent := ⟨86, [(.dat .ex [none])], (.tup [(.int .i64), (.int .i64), (.int .i64)]), [], fun s => k s⟩
abbrev OK3 (k : TK3) : Prop := (mS k).Ok X0.P X0.Γ
abbrev TK4 := (Ex × Q13) → Option Q5
def o7 (k : TK4) : Ent := ⟨49, [(.dat .ex [none]), (.dat (.p (.l (.l (.i .i64))) (.i .i64)) [none])], (.own .bo 4 true), [], fun s => k (s.1, s.2)⟩
abbrev OK4 (k : TK4) : Prop := (o7 k).Ok X0.P X0.Γ
abbrev TK5 := Q22 → Option Int
def fE (k : TK5) : Ent := ⟨47, [(.dat .ex [none]), (.int .i64)], (.int .i64), [], fun s => k (s.1, s.2)⟩
abbrev OK5 (k : TK5) : Prop := (fE k).Ok X0.P X0.Γ
abbrev TK6 := Q22 → Option Int
def fF (k : TK6) : Ent := ⟨48, [(.dat .ex [none]), (.int .i64)], (.int .i64), [], fun s => k (s.1, s.2)⟩
abbrev OK6 (k : TK6) : Prop := (fF k).Ok X0.P X0.Γ
abbrev TK7 := Q22 → Option Bool
def fS (k : TK7) : Ent := ⟨21, [(.dat .ex [none]), (.int .i64)], .bool, [], fun s => k (s.1, s.2)⟩
abbrev OK7 (k : TK7) : Prop := (fS k).Ok X0.P X0.Γ
def ua : Ent := ⟨58, [(.int .u8)], (.int .i64), [], fun s => dc s⟩
theorem qX : (ua).Ok X0.P X0.Γ :=
 az .o Tryz.call58 Tryz.func58 ok0 ok0 ok0 fun _ => by kernel_rfl
def tg : Ent := ⟨59, [], (.own .s 9 true), [], fun _ => jH⟩
theorem qb : (tg).Ok X0.P X0.Γ :=
 az .o Tryz.call59 Tryz.func59 ok0 ok0 ok0 fun _ => by kernel_rfl
def sC : Ent := ⟨39, [.str], (.tup [(.own (.p (.i .i64) (.p .s (.p (.i .i64) (.i .i64)))) 88 true), (.int .i64), (.int .i64)]), [], fun s => dm s⟩
theorem o6 : (sC).Ok X0.P X0.Γ :=
 az (.c .o (.l ⟨[(false, 5, (.own (.p (.i .i64) (.p .s (.p (.i .i64) (.i .i64)))) 88 true)), (false, 6, (.int .i64))], []⟩ (.c (.c .o (.c (.l ⟨[(false, 6, (.int .i64))], []⟩ .o) (.c (.l ⟨[(false, 6, (.int .i64))], []⟩ .o) (.c (.l ⟨[(false, 6, (.int .i64)), (false, 9, (.int .i64))], []⟩ .o) (.l ⟨[(false, 11, .str), (false, 12, (.int .i64))], []⟩ .o))))) .o))) Tryz.call39 Tryz.func39 (ok1 qX (ok1 qb ok0)) ok0 ok0 fun _ => by kernel_rfl
def rh : Ent := ⟨40, [(.bx 86 0 false [(.own (.p (.i .i64) (.p .s (.p (.i .i64) (.i .i64)))) 88 false), (.int .i64), (.own .s 9 false), (.own (.p (.i .i64) (.i .i64)) 53 false), (.own (.i .i64) 3 false), (.own .s 9 false), (.own (.p (.i .i64) (.p .ex (.l (.p (.i .i64) .ex)))) 112 false), (.int .i64), (.int .i64)]), (.int .i64), .str], .bool, [], fun s => aW s.2.2.2.2.2.2.2.2.2.1 s.2.2.2.2.2.2.2.2.2.2 s.1 s.2.1 s.2.2.1 s.2.2.2.1 s.2.2.2.2.1 s.2.2.2.2.2.1 s.2.2.2.2.2.2.1 s.2.2.2.2.2.2.2.1 s.2.2.2.2.2.2.2.2.1⟩
theorem dP : (rh).Ok X0.P X0.Γ :=
 az .o Tryz.call40 Tryz.func40 ok0 ok0 ok0 fun _ => by kernel_rfl
def uO : Ent := ⟨62, [.str], .bool, [], fun s => eK s⟩
theorem kM : (uO).Ok X0.P X0.Γ :=
 az (.s (.s (.s (.j ⟨[(false, 4, .bool)], []⟩ .o .o)))) Tryz.call62 Tryz.func62 ok0 ok0 ok0 fun _ => by kernel_rfl
def pn : Ent := ⟨41, [(.bx 86 0 true [(.own (.p (.i .i64) (.p .s (.p (.i .i64) (.i .i64)))) 88 false), (.int .i64), (.own .s 9 false), (.own (.p (.i .i64) (.i .i64)) 53 false), (.own (.i .i64) 3 false), (.own .s 9 false), (.own (.p (.i .i64) (.p .ex (.l (.p (.i .i64) .ex)))) 112 false), (.int .i64), (.int .i64)]), (.int .i64), (.int .i64)], (.tup []), [(true, 0, (.bx 86 0 true [.same, .same, .same, .same, .same, .same, .same, (.int .i64), (.int .i64)]))], fun s => aq s.2.2.2.2.2.2.2.2.2.1 s.2.2.2.2.2.2.2.2.2.2 s.1 s.2.1 s.2.2.1 s.2.2.2.1 s.2.2.2.2.1 s.2.2.2.2.2.1 s.2.2.2.2.2.2.1 s.2.2.2.2.2.2.2.1 s.2.2.2.2.2.2.2.2.1⟩
theorem bl : (pn).Ok X0.P X0.Γ :=
 az .o Tryz.call41 Tryz.func41 ok0 ok0 ok0 fun _ => by kernel_rfl
def qy : Ent := ⟨63, [(.own .s 9 false), .str], (.int .i64), [], fun s => bu s.1 s.2⟩
theorem jg : (qy).Ok X0.P X0.Γ :=
 az (.l ⟨[(false, 5, (.int .i64))], []⟩ .o) Tryz.call63 Tryz.func63 ok0 ok0 ok0 fun _ => by kernel_rfl
def pK : Ent := ⟨44, [(.bx 86 0 true [(.own (.p (.i .i64) (.p .s (.p (.i .i64) (.i .i64)))) 88 false), (.int .i64), (.own .s 9 false), (.own (.p (.i .i64) (.i .i64)) 53 false), (.own (.i .i64) 3 false), (.own .s 9 false), (.own (.p (.i .i64) (.p .ex (.l (.p (.i .i64) .ex)))) 112 false), (.int .i64), (.int .i64)]), .bool], .str, [(true, 0, (.bx 86 0 true [.same, (.int .i64), .same, .same, .same, .same, .same, (.int .i64), (.int .i64)]))], fun s => dz s.2.2.2.2.2.2.2.2.2 s.1 s.2.1 s.2.2.1 s.2.2.2.1 s.2.2.2.2.1 s.2.2.2.2.2.1 s.2.2.2.2.2.2.1 s.2.2.2.2.2.2.2.1 s.2.2.2.2.2.2.2.2.1⟩
theorem jd : (pK).Ok X0.P X0.Γ :=
 az .o Tryz.call44 Tryz.func44 (ok1 kM (ok1 bl (ok1 jg ok0))) ok0 ok0 fun _ => by kernel_rfl
def oY : Ent := ⟨42, [(.bx 86 0 false [(.own (.p (.i .i64) (.p .s (.p (.i .i64) (.i .i64)))) 88 false), (.int .i64), (.own .s 9 false), (.own (.p (.i .i64) (.i .i64)) 53 false), (.own (.i .i64) 3 false), (.own .s 9 false), (.own (.p (.i .i64) (.p .ex (.l (.p (.i .i64) .ex)))) 112 false), (.int .i64), (.int .i64)])], (.int .i64), [], fun s => aE s.1 s.2.1 s.2.2.1 s.2.2.2.1 s.2.2.2.2.1 s.2.2.2.2.2.1 s.2.2.2.2.2.2.1 s.2.2.2.2.2.2.2.1 s.2.2.2.2.2.2.2.2⟩
theorem dk : (oY).Ok X0.P X0.Γ :=
 az .o Tryz.call42 Tryz.func42 ok0 ok0 ok0 fun _ => by kernel_rfl
def ph : Ent := ⟨45, [(.bx 86 0 true [(.own (.p (.i .i64) (.p .s (.p (.i .i64) (.i .i64)))) 88 false), (.int .i64), (.own .s 9 false), (.own (.p (.i .i64) (.i .i64)) 53 false), (.own (.i .i64) 3 false), (.own .s 9 false), (.own (.p (.i .i64) (.p .ex (.l (.p (.i .i64) .ex)))) 112 false), (.int .i64), (.int .i64)]), .str], (.tup []), [(true, 0, (.bx 86 0 true [.same, (.int .i64), .same, .same, .same, .same, .same, (.int .i64), (.int .i64)]))], fun s => aR s.2.2.2.2.2.2.2.2.2 s.1 s.2.1 s.2.2.1 s.2.2.2.1 s.2.2.2.2.1 s.2.2.2.2.2.1 s.2.2.2.2.2.2.1 s.2.2.2.2.2.2.2.1 s.2.2.2.2.2.2.2.2.1⟩
theorem fj : (ph).Ok X0.P X0.Γ :=
 az .o Tryz.call45 Tryz.func45 (ok1 dP (ok1 dk (ok1 bl ok0))) ok0 ok0 fun _ => by kernel_rfl
def sx : Ent := ⟨101, [(.int .i64)], .bool, [], fun s => ga s⟩
theorem pk : (sx).Ok X0.P X0.Γ :=
 az .o Tryz.call101 Tryz.func101 ok0 ok0 ok0 fun _ => by kernel_rfl
def nB : Ent := ⟨102, [(.bx 151 0 true [(.own (.p (.i .i64) (.p .s (.p (.i .i64) (.i .i64)))) 88 false), (.int .i64), (.own .s 9 false), (.int .i64), (.int .i64)]), (.int .i64)], (.dat .ex [some 49]), [(true, 0, (.bx 151 0 true [.same, .same, .same, (.int .i64), (.int .i64)]))], fun s => aM s.2.2.2.2.2 s.1 s.2.1 s.2.2.1 s.2.2.2.1 s.2.2.2.2.1⟩
theorem gK : (nB).Ok X0.P X0.Γ :=
 az (.c (.r [0] .o) .o) Tryz.call102 Tryz.func102 ok0 ok0 ok0 fun _ => by kernel_rfl
def oF (k0 : TK0) : Ent := ⟨103, [(.bx 151 0 true [(.own (.p (.i .i64) (.p .s (.p (.i .i64) (.i .i64)))) 88 false), (.int .i64), (.own .s 9 false), (.int .i64), (.int .i64)]), (.int .i64)], (.dat .ex [some 49]), [(true, 0, (.bx 151 0 true [.same, (.int .i64), .same, (.int .i64), (.int .i64)]))], fun s => ca k0 s.2.2.2.2.2 s.1 s.2.1 s.2.2.1 s.2.2.2.1 s.2.2.2.2.1⟩
def mD (eta : Ex → Ex) (_du : Sh → (R : Type) → Option R → Option R) (l : Q2) (at_ : Int) (names : Q7) (bad : Int) (place : Int) (e12 : Q11) (again50 : Int → Option Q6) (i49 : Int) : Option Q6 := bif (decide (i49 < (List.length names : Int))) then ( (idx names i49).bind fun e54 => bif (e54 == e12.2.1) then ( some ((Ex.mk 2 i49 e12.2.2.2 []), (IntKind.i64.wrap (at_ + 1)), bad, place)) else ( again50 (IntKind.i64.wrap (i49 + 1)))) else ( (aM 3 l at_ names bad place).bind fun r59 => some ((eta r59.1), at_, r59.2.1, r59.2.2))
def fC (eta : Ex → Ex) (du : Sh → (R : Type) → Option R → Option R) (ah : Q10 → Option Q6) (deep : Int) (l : Q2) (at_ : Int) (names : Q7) (bad : Int) (place : Int) : Option Q6 := (idx l at_).bind fun e12 => bif (e12.1 == 2) then ( some ((Ex.mk 1 e12.2.2.1 e12.2.2.2 []), (IntKind.i64.wrap (at_ + 1)), bad, place)) else ( ab (e12.1 == 1) fun b20 => ab (e12.2.1 == [116, 114, 117, 101]) fun b22 => ab (b20 && b22) fun b24 => bif b24 then ( some ((Ex.mk 13 0 e12.2.2.2 []), (IntKind.i64.wrap (at_ + 1)), bad, place)) else ( ab (e12.1 == 1) fun b29 => ab (e12.2.1 == [102, 97, 108, 115, 101]) fun b31 => ab (b29 && b31) fun b33 => bif b33 then ( some ((Ex.mk 14 0 e12.2.2.2 []), (IntKind.i64.wrap (at_ + 1)), bad, place)) else ( (eK e12.2.1).bind fun r38 => ab (e12.1 == 1) fun b41 => ab (!r38) fun b43 => ab (b41 && b43) fun b45 => bif b45 then ( al (mD eta du l at_ names bad place e12) au 0) else ( ab (e12.1 != 3) fun b65 => ab (e12.2.1 != [40]) fun b67 => ab (b65 || b67) fun b69 => bif b69 then ( (aM 2 l at_ names bad place).bind fun r72 => some ((eta r72.1), at_, r72.2.1, r72.2.2)) else ( (ah (1, deep, l, (IntKind.i64.wrap (at_ + 1)), names, bad, place)).bind fun r79 => bif (r79.2.2.1 != 0) then ( some ((Ex.mk 0 0 0 []), r79.2.1, r79.2.2.1, r79.2.2.2)) else ( (idx l r79.2.1).bind fun e91 => ab (e91.1 != 3) fun b93 => aJ (!b93) (0, [], 0, 0) (idx l r79.2.1) fun e95 => ab (e95.2.1 != [41]) fun b97 => ab (b93 || b97) fun b99 => bif b99 then ( (aM 2 l r79.2.1 names r79.2.2.1 r79.2.2.2).bind fun r102 => some ((eta r102.1), r79.2.1, r102.2.1, r102.2.2)) else ( some ((eta r79.1), (IntKind.i64.wrap (r79.2.1 + 1)), r79.2.2.1, r79.2.2.2))))))))
theorem mK (k0 : TK0) (i0 : OK0 k0) : (oF k0).Ok X0.P X0.Γ :=
 az (.r [] (.c .o (.c .o (.c .o (.c (.l ⟨[(true, 0, (.bx 151 0 true [.same, .same, .same, .same, .same])), (true, 4, (.bx 24 0 true [.same, .same, .same, .same])), (false, 7, (.int .i64))], []⟩ .o) .o))))) Tryz.call103 Tryz.func103 (ok1 kM (ok1 gK (ok1 i0 ok0))) ok0 ok0 fun s => (show _ = fC gP duE k0 s.2.2.2.2.2 s.1 s.2.1 s.2.2.1 s.2.2.2.1 s.2.2.2.2.1 from by kernel_rfl).trans ((congrArg (fun eta => fC eta duE k0 s.2.2.2.2.2 s.1 s.2.1 s.2.2.1 s.2.2.2.1 s.2.2.2.2.1) cM).trans ((congrArg (fun du => fC id du k0 s.2.2.2.2.2 s.1 s.2.1 s.2.2.1 s.2.2.2.1 s.2.2.2.2.1) dM).trans (by kernel_rfl)))
def vP : Ent := ⟨104, [(.dat (.p (.i .i64) (.p .s (.p (.i .i64) (.i .i64)))) []), (.int .i64)], (.int .i64), [], fun s => bp s.1 s.2⟩
theorem tA : (vP).Ok X0.P X0.Γ :=
 az (.c (.c .o (.c .o (.c .o (.c .o (.c .o (.c (.l ⟨[(false, 7, (.int .i64))], []⟩ .o) .o)))))) .o) Tryz.call104 Tryz.func104 ok0 ok0 ok0 fun _ => by kernel_rfl
def iV : Ent := ⟨95, [(.bx 151 0 true [(.own (.p (.i .i64) (.p .s (.p (.i .i64) (.i .i64)))) 88 false), (.int .i64), (.own .s 9 false), (.int .i64), (.int .i64)]), (.int .i64), (.int .i64)], (.dat .ex [some 49]), [(true, 0, (.bx 151 0 true [.same, (.int .i64), .same, (.int .i64), (.int .i64)]))], fun s => dO s.2.2.2.2.2.1 s.2.2.2.2.2.2 s.1 s.2.1 s.2.2.1 s.2.2.2.1 s.2.2.2.2.1⟩
def lR (eta : Ex → Ex) (_du : Sh → (R : Type) → Option R → Option R) (ah : Q10 → Option Q6) (l : Q2) (at_ : Int) (names : Q7) (bad : Int) (place : Int) (deep16 : Int) (e30 : Q11) (k43 : Int) : Option Q6 := bif (k43 == 0) then ( (ah (7, deep16, l, at_, names, bad, place)).bind fun r45 => some ((eta r45.1), r45.2.1, r45.2.2.1, r45.2.2.2)) else ( (ah (6, deep16, l, (IntKind.i64.wrap (at_ + 1)), names, bad, place)).bind fun r52 => some ((Ex.mk k43 0 e30.2.2.2 ([(eta r52.1)] : List Ex)), r52.2.1, r52.2.2.1, r52.2.2.2))
def lZ (eta : Ex → Ex) (du : Sh → (R : Type) → Option R → Option R) (ah : Q10 → Option Q6) (l : Q2) (at_ : Int) (names : Q7) (bad : Int) (place : Int) (deep16 : Int) (e30 : Q11) (k41 : Int) : Option Q6 := ab (fun (s64 : Int) => lR eta du ah l at_ names bad place deep16 e30 s64) fun kk63 => ab (e30.1 == 1) fun b65 => ab (e30.2.1 == [71]) fun b67 => ab (b65 && b67) fun b69 => bif b69 then ( kk63 22) else ( kk63 k41)
def lS (eta : Ex → Ex) (du : Sh → (R : Type) → Option R → Option R) (ah : Q10 → Option Q6) (l : Q2) (at_ : Int) (names : Q7) (bad : Int) (place : Int) (deep16 : Int) (e30 : Q11) (k39 : Int) : Option Q6 := ab (fun (s73 : Int) => lZ eta du ah l at_ names bad place deep16 e30 s73) fun kk72 => ab (e30.1 == 1) fun b74 => ab (e30.2.1 == [70]) fun b76 => ab (b74 && b76) fun b78 => bif b78 then ( kk72 21) else ( kk72 k39)
def lV (eta : Ex → Ex) (du : Sh → (R : Type) → Option R → Option R) (ah : Q10 → Option Q6) (l : Q2) (at_ : Int) (names : Q7) (bad : Int) (place : Int) (deep16 : Int) (e30 : Q11) (k37 : Int) : Option Q6 := ab (fun (s82 : Int) => lS eta du ah l at_ names bad place deep16 e30 s82) fun kk81 => ab (e30.1 == 1) fun b83 => ab (e30.2.1 == [88]) fun b85 => ab (b83 && b85) fun b87 => bif b87 then ( kk81 20) else ( kk81 k37)
def lQ (eta : Ex → Ex) (_du : Sh → (R : Type) → Option R → Option R) (ah : Q10 → Option Q6) (strength : Int) (l : Q2) (names : Q7) (deep16 : Int) (again143 : (Int × Int × Int × Int × Int × Int × (List Ex)) → Option Q6) : Int × Int × Int × Int × Int × Int × (List Ex) → Option Q6 := fun ⟨c134, c135, c136, c137, c138, c139, c140⟩ => bif (c135 == 0) then ( (idx l c134).bind fun e147 => (bp e147 strength).bind fun r152 => bif (r152 == 0) then ( some ((Ex.mk c137 c138 c139 c140), c134, c135, c136)) else ( ab (strength == 1) fun b158 => ab (strength == 2) fun b160 => ab (b158 || b160) fun b162 => ab (strength == 5) fun b164 => ab (b162 || b164) fun b166 => bif b166 then ( (ah (strength, deep16, l, (IntKind.i64.wrap (c134 + 1)), names, c135, c136)).bind fun r169 => some ((Ex.mk r152 0 e147.2.2.2 ([(Ex.mk c137 c138 c139 c140), (eta r169.1)] : List Ex)), r169.2.1, r169.2.2.1, r169.2.2.2)) else ( (ah ((IntKind.i64.wrap (strength + 1)), deep16, l, (IntKind.i64.wrap (c134 + 1)), names, c135, c136)).bind fun r180 => bif (strength == 7) then ( some ((Ex.mk r152 0 e147.2.2.2 ([(Ex.mk c137 c138 c139 c140), (eta r180.1)] : List Ex)), r180.2.1, r180.2.2.1, r180.2.2.2)) else ( again143 (r180.2.1, r180.2.2.1, r180.2.2.2, r152, 0, e147.2.2.2, ([(Ex.mk c137 c138 c139 c140), (eta r180.1)] : List Ex)))))) else ( some ((Ex.mk c137 c138 c139 c140), c134, c135, c136))
def lW (eta : Ex → Ex) (du : Sh → (R : Type) → Option R → Option R) (ah : Q10 → Option Q6) (strength : Int) (l : Q2) (at_ : Int) (names : Q7) (bad : Int) (place : Int) (r12 : Bool) (deep16 : Int) : Option Q6 := ab (decide (320 < deep16)) fun b17 => ab (r12 && b17) fun b19 => bif b19 then ( (aM 9 l at_ names bad place).bind fun r22 => some ((eta r22.1), at_, r22.2.1, r22.2.2)) else ( (idx l at_).bind fun e30 => bif (strength == 6) then ( ab (fun (s91 : Int) => lV eta du ah l at_ names bad place deep16 e30 s91) fun kk90 => ab (e30.1 == 3) fun b92 => ab (e30.2.1 == [33]) fun b94 => ab (b92 && b94) fun b96 => bif b96 then ( kk90 15) else ( kk90 0)) else ( bif (strength == 10) then ( ab (e30.1 != 3) fun b100 => ab (e30.2.1 != [45]) fun b102 => ab (b100 || b102) fun b104 => bif b104 then ( (ca ah deep16 l at_ names bad place).bind fun r107 => some ((eta r107.1), r107.2.1, r107.2.2.1, r107.2.2.2)) else ( (ah (10, deep16, l, (IntKind.i64.wrap (at_ + 1)), names, bad, place)).bind fun r114 => some ((Ex.mk 6 0 e30.2.2.2 ([(eta r114.1)] : List Ex)), r114.2.1, r114.2.2.1, r114.2.2.2))) else ( (ah ((IntKind.i64.wrap (strength + 1)), deep16, l, at_, names, bad, place)).bind fun r125 => al (lQ eta du ah strength l names deep16) au (r125.2.1, r125.2.2.1, r125.2.2.2, r125.1.op, r125.1.n, r125.1.at_, r125.1.l))))
def eD (eta : Ex → Ex) (du : Sh → (R : Type) → Option R → Option R) (ah : Q10 → Option Q6) (strength : Int) (deep : Int) (l : Q2) (at_ : Int) (names : Q7) (bad : Int) (place : Int) : Option Q6 := bif (bad != 0) then ( some ((Ex.mk 0 0 0 []), at_, bad, place)) else ( (ga strength).bind fun r12 => ab (fun (s195 : Int) => lW eta du ah strength l at_ names bad place r12 s195) fun kk194 => bif r12 then ( kk194 (IntKind.i64.wrap (deep + 1))) else ( kk194 deep))
def iY : TK0 → TK0 := fun k0 s => bH k0 s.1 s.2.1 s.2.2.1 s.2.2.2.1 s.2.2.2.2.1 s.2.2.2.2.2.1 s.2.2.2.2.2.2
theorem kS (k0 : TK0) (i0 : OK0 k0) : (da (iY k0)).Ok X0.P X0.Γ :=
 az (.c .o (.s (.j ⟨[(false, 2, (.int .i64))], []⟩ .o (.c .o (.r [] (.c (.s (.j ⟨[(false, 9, (.int .i64))], []⟩ .o (.j ⟨[(false, 9, (.int .i64))], []⟩ .o (.j ⟨[(false, 9, (.int .i64))], []⟩ .o (.j ⟨[(false, 9, (.int .i64))], []⟩ .o .o))))) (.c .o (.l ⟨[(true, 0, (.bx 151 0 true [.same, (.int .i64), .same, (.int .i64), (.int .i64)])), (true, 6, (.bx 24 0 true [.same, .same, .same, .same])), (true, 12, (.bx 24 0 true [(.int .i64), (.int .i64), (.int .i64), (.own .ex 24 true)]))], []⟩ .o)))))))) Tryz.call95 Tryz.func95 (ok1 pk (ok1 gK (ok1 i0 (ok1 (mK k0 i0) (ok1 tA ok0))))) ok0 ok0 fun s => (show _ = eD gP duE k0 s.2.2.2.2.2.1 s.2.2.2.2.2.2 s.1 s.2.1 s.2.2.1 s.2.2.2.1 s.2.2.2.2.1 from by kernel_rfl).trans ((congrArg (fun eta => eD eta duE k0 s.2.2.2.2.2.1 s.2.2.2.2.2.2 s.1 s.2.1 s.2.2.1 s.2.2.2.1 s.2.2.2.2.1) cM).trans ((congrArg (fun du => eD id du k0 s.2.2.2.2.2.1 s.2.2.2.2.2.2 s.1 s.2.1 s.2.2.1 s.2.2.2.1 s.2.2.2.2.1) dM).trans (by kernel_rfl)))
theorem lX : (iV).Ok X0.P X0.Γ := (show iV = da (al (iY) au) by kernel_rfl) ▸ kr (X := X0) (E := da) ⟨Tryz.call95, fun _ _ h => nomatch h⟩ (kS) au
def qw : Ent := ⟨85, [(.own (.p (.i .i64) (.p .s (.p (.i .i64) (.i .i64)))) 88 false), (.int .i64), (.own .s 9 false)], (.tup [(.dat .ex [some 49]), (.int .i64), (.int .i64), (.int .i64)]), [], fun s => cO s.1 s.2.1 s.2.2⟩
def gF (eta : Ex → Ex) (_du : Sh → (R : Type) → Option R → Option R) (l : Q2) (at_ : Int) (names : Q7) : Option Q6 := (dO 1 0 l at_ names 0 0).bind fun r14 => bif (r14.2.2.1 != 0) then ( some ((Ex.mk 0 0 0 []), 0, r14.2.2.1, r14.2.2.2)) else ( some ((eta r14.1), r14.2.1, 0, 0))
theorem od : (qw).Ok X0.P X0.Γ :=
 az (.c (.r [6] .o) (.r [6] .o)) Tryz.call85 Tryz.func85 (ok1 lX ok0) ok0 ok0 fun s => (show _ = gF gP duE s.1 s.2.1 s.2.2 from by kernel_rfl).trans ((congrArg (fun eta => gF eta duE s.1 s.2.1 s.2.2) cM).trans ((congrArg (fun du => gF id du s.1 s.2.1 s.2.2) dM).trans (by kernel_rfl)))
def mg : Ent := ⟨22, [(.dat .ex [none])], (.tup [(.int .i64), (.int .i64), (.int .i64)]), [], fun s => cq s⟩
def ra (eta : Ex → Ex) (_du : Sh → (R : Type) → Option R → Option R) (cz : Ex → Option Q9) (e : Ex) (again12 : Q15 → Option Q9) : Int × Int × Int × Int → Option Q9 := fun ⟨ints8, bools9, times10, i11⟩ => bif (decide (i11 < (List.length e.l : Int))) then ( (idx e.l i11).bind fun e14 => (cz (eta e14)).bind fun r20 => bif (r20.2.1 != 0) then ( some (0, r20.2.1, r20.2.2)) else ( ab (fun (s33 : Int) => jb bools9 times10 i11 again12 r20 s33) fun kk32 => bif (r20.1 == 1) then ( kk32 (IntKind.i64.wrap (ints8 + 1))) else ( kk32 ints8))) else ( ab (decide (e.op ≤ 6)) fun b35 => ab (ints8 == (List.length e.l : Int)) fun b37 => ab (b35 && b37) fun b39 => bif b39 then ( some (1, 0, 0)) else ( ab (decide (7 ≤ e.op)) fun b42 => ab (decide (e.op ≤ 12)) fun b44 => ab (b42 && b44) fun b46 => ab (ints8 == (List.length e.l : Int)) fun b48 => ab (b46 && b48) fun b50 => ab (e.op == 13) fun b52 => ab (b50 || b52) fun b54 => ab (e.op == 14) fun b56 => ab (b54 || b56) fun b58 => bif b58 then ( some (2, 0, 0)) else ( ab (decide (15 ≤ e.op)) fun b61 => ab (decide (e.op ≤ 19)) fun b63 => ab (b61 && b63) fun b65 => ab (bools9 == (List.length e.l : Int)) fun b67 => ab (b65 && b67) fun b69 => bif b69 then ( some (2, 0, 0)) else ( ab (decide (15 ≤ e.op)) fun b72 => ab ((IntKind.i64.wrap (bools9 + times10)) == (List.length e.l : Int)) fun b74 => ab (b72 && b74) fun b76 => bif b76 then ( some (3, 0, 0)) else ( some (0, 4, e.at_))))))
def iE (eta : Ex → Ex) (du : Sh → (R : Type) → Option R → Option R) (cz : Ex → Option Q9) (e : Ex) : Option Q9 := al (ra eta du cz e) au (0, 0, 0, 0)
def mn : TK1 → TK1 := fun k1 s => eB k1 s
theorem pH (k1 : TK1) (i1 : OK1 k1) : (fG (mn k1)).Ok X0.P X0.Γ :=
 az (.l ⟨[(false, 5, (.int .i64)), (false, 6, (.int .i64)), (false, 7, (.int .i64)), (false, 8, (.int .i64))], []⟩ (.c (.c .o (.j ⟨[(false, 5, (.int .i64))], []⟩ .o (.j ⟨[(false, 6, (.int .i64))], []⟩ .o .o))) .o)) Tryz.call22 Tryz.func22 (ok1 i1 ok0) ok0 ok0 fun s => (show _ = iE gP duE k1 s from by kernel_rfl).trans ((congrArg (fun eta => iE eta duE k1 s) cM).trans ((congrArg (fun du => iE id du k1 s) dM).trans (by kernel_rfl)))
theorem kD : (mg).Ok X0.P X0.Γ := (show mg = fG (al (mn) au) by kernel_rfl) ▸ kr (X := X0) (E := fG) ⟨Tryz.call22, fun _ _ h => nomatch h⟩ (pH) au
def q8 : Ent := ⟨22, [(.dat .ex [some 48])], (.tup [(.int .i64), (.int .i64), (.int .i64)]), [], fun s => dU s⟩
def oQ (eta : Ex → Ex) (_du : Sh → (R : Type) → Option R → Option R) (e : Ex) (again12 : Q15 → Option Q9) : Int × Int × Int × Int → Option Q9 := fun ⟨ints8, bools9, times10, i11⟩ => bif (decide (i11 < (List.length e.l : Int))) then ( (idx e.l i11).bind fun e14 => (cq (eta e14)).bind fun r20 => bif (r20.2.1 != 0) then ( some (0, r20.2.1, r20.2.2)) else ( ab (fun (s33 : Int) => kc bools9 times10 i11 again12 r20 s33) fun kk32 => bif (r20.1 == 1) then ( kk32 (IntKind.i64.wrap (ints8 + 1))) else ( kk32 ints8))) else ( ab (decide (e.op ≤ 6)) fun b35 => ab (ints8 == (List.length e.l : Int)) fun b37 => ab (b35 && b37) fun b39 => bif b39 then ( some (1, 0, 0)) else ( ab (decide (7 ≤ e.op)) fun b42 => ab (decide (e.op ≤ 12)) fun b44 => ab (b42 && b44) fun b46 => ab (ints8 == (List.length e.l : Int)) fun b48 => ab (b46 && b48) fun b50 => ab (e.op == 13) fun b52 => ab (b50 || b52) fun b54 => ab (e.op == 14) fun b56 => ab (b54 || b56) fun b58 => bif b58 then ( some (2, 0, 0)) else ( ab (decide (15 ≤ e.op)) fun b61 => ab (decide (e.op ≤ 19)) fun b63 => ab (b61 && b63) fun b65 => ab (bools9 == (List.length e.l : Int)) fun b67 => ab (b65 && b67) fun b69 => bif b69 then ( some (2, 0, 0)) else ( ab (decide (15 ≤ e.op)) fun b72 => ab ((IntKind.i64.wrap (bools9 + times10)) == (List.length e.l : Int)) fun b74 => ab (b72 && b74) fun b76 => bif b76 then ( some (3, 0, 0)) else ( some (0, 4, e.at_))))))
def gN (eta : Ex → Ex) (du : Sh → (R : Type) → Option R → Option R) (e : Ex) : Option Q9 := al (oQ eta du e) au (0, 0, 0, 0)
theorem oJ : (q8).Ok X0.P X0.Γ :=
 az (.l ⟨[(false, 5, (.int .i64)), (false, 6, (.int .i64)), (false, 7, (.int .i64)), (false, 8, (.int .i64))], []⟩ (.c (.c .o (.j ⟨[(false, 5, (.int .i64))], []⟩ .o (.j ⟨[(false, 6, (.int .i64))], []⟩ .o .o))) .o)) Tryz.call22 Tryz.func22 (ok1 kD ok0) ok0 ok0 fun s => (show _ = gN gP duE s from by kernel_rfl).trans ((congrArg (fun eta => gN eta duE s) cM).trans ((congrArg (fun du => gN id du s) dM).trans (by kernel_rfl)))
def lU : Ent := ⟨64, [(.bx 86 0 true [(.own (.p (.i .i64) (.p .s (.p (.i .i64) (.i .i64)))) 88 false), (.int .i64), (.own .s 9 false), (.own (.p (.i .i64) (.i .i64)) 53 false), (.own (.i .i64) 3 false), (.own .s 9 false), (.own (.p (.i .i64) (.p .ex (.l (.p (.i .i64) .ex)))) 112 false), (.int .i64), (.int .i64)]), (.int .i64)], (.dat .ex [some 49]), [(true, 0, (.bx 86 0 true [.same, (.int .i64), .same, .same, .same, .same, .same, (.int .i64), (.int .i64)]))], fun s => bf s.2.2.2.2.2.2.2.2.2 s.1 s.2.1 s.2.2.1 s.2.2.2.1 s.2.2.2.2.1 s.2.2.2.2.2.1 s.2.2.2.2.2.2.1 s.2.2.2.2.2.2.2.1 s.2.2.2.2.2.2.2.2.1⟩
def kJ (eta : Ex → Ex) (_du : Sh → (R : Type) → Option R → Option R) (r14 : Q6) (c32 : Int) (c33 : Int) : Option Q6 := some ((eta r14.1), r14.2.1, c32, c33)
def ei (eta : Ex → Ex) (du : Sh → (R : Type) → Option R → Option R) (want : Int) (l : Q2) (at_ : Int) (Names : Q7) (Schema : Q8) (Init : Q3) (Procs : Q7) (Cmd : Q1) (bad : Int) (place : Int) : Option Q6 := bif (bad != 0) then ( some ((Ex.mk 0 0 0 []), at_, bad, place)) else ( du (.b .l .l) _ ( (cO l at_ Names).bind fun r14 => bif (r14.2.2.1 != 0) then ( (aq r14.2.2.1 r14.2.2.2 l at_ Names Schema Init Procs Cmd bad place).bind fun r24 => some ((Ex.mk 0 0 0 []), at_, r24.1, r24.2)) else ( (dU (eta r14.1)).bind fun r28 => ab (fun (s37 : Int × Int) => kJ eta du r14 s37.1 s37.2) fun kk36 => bif (r28.2.1 != 0) then ( (aq r28.2.1 r28.2.2 l at_ Names Schema Init Procs Cmd bad place).bind fun r39 => kk36 (r39.1, r39.2)) else ( bif (r28.1 != want) then ( (aq 4 r14.1.at_ l at_ Names Schema Init Procs Cmd bad place).bind fun r43 => kk36 (r43.1, r43.2)) else ( kk36 (bad, place))))))
theorem kH : (lU).Ok X0.P X0.Γ :=
 az (.c .o (.r [0] (.c .o (.s (.j ⟨[(true, 0, (.bx 86 0 true [.same, .same, .same, .same, .same, .same, .same, (.int .i64), (.int .i64)]))], []⟩ .o .o))))) Tryz.call64 Tryz.func64 (ok1 od (ok1 bl (ok1 oJ ok0))) ok0 ok0 fun s => (show _ = ei gP duE s.2.2.2.2.2.2.2.2.2 s.1 s.2.1 s.2.2.1 s.2.2.2.1 s.2.2.2.2.1 s.2.2.2.2.2.1 s.2.2.2.2.2.2.1 s.2.2.2.2.2.2.2.1 s.2.2.2.2.2.2.2.2.1 from by kernel_rfl).trans ((congrArg (fun eta => ei eta duE s.2.2.2.2.2.2.2.2.2 s.1 s.2.1 s.2.2.1 s.2.2.2.1 s.2.2.2.2.1 s.2.2.2.2.2.1 s.2.2.2.2.2.2.1 s.2.2.2.2.2.2.2.1 s.2.2.2.2.2.2.2.2.1) cM).trans ((congrArg (fun du => ei id du s.2.2.2.2.2.2.2.2.2 s.1 s.2.1 s.2.2.1 s.2.2.2.1 s.2.2.2.2.1 s.2.2.2.2.2.1 s.2.2.2.2.2.2.1 s.2.2.2.2.2.2.2.1 s.2.2.2.2.2.2.2.2.1) dM).trans (by kernel_rfl)))
def nS : Ent := ⟨46, [(.bx 86 0 true [(.own (.p (.i .i64) (.p .s (.p (.i .i64) (.i .i64)))) 88 false), (.int .i64), (.own .s 9 false), (.own (.p (.i .i64) (.i .i64)) 53 false), (.own (.i .i64) 3 false), (.own .s 9 false), (.own (.p (.i .i64) (.p .ex (.l (.p (.i .i64) .ex)))) 112 true), (.int .i64), (.int .i64)])], (.tup []), [(true, 0, (.bx 86 0 true [.same, (.int .i64), .same, .same, .same, .same, (.own (.p (.i .i64) (.p .ex (.l (.p (.i .i64) .ex)))) 112 true), (.int .i64), (.int .i64)]))], fun s => dN s.1 s.2.1 s.2.2.1 s.2.2.2.1 s.2.2.2.2.1 s.2.2.2.2.2.1 s.2.2.2.2.2.2.1 s.2.2.2.2.2.2.2.1 s.2.2.2.2.2.2.2.2⟩
def lP (eta : Ex → Ex) (_du : Sh → (R : Type) → Option R → Option R) (l : Q2) (Names : Q7) (Schema : Q8) (Init : Q3) (Procs : Q7) (Cmd : Q1) (l28 : Q18) (again32 : Q14 → Option Q12) (r47 : Int) (c66 : Int) (c67 : Int) (c69 : Int) : Option Q12 := (aR [61] l c69 Names Schema Init Procs Cmd c66 c67).bind fun r70 => (bf 1 l r70.1 Names Schema Init Procs Cmd r70.2.1 r70.2.2).bind fun r73 => chk (ay (List.length l28 + List.length ([(r47, (eta r73.1))] : List (Int × Ex))) 56) <| (aW 3 [44] l r73.2.1 Names Schema Init Procs Cmd r73.2.2.1 r73.2.2.2).bind fun r88 => bif r88 then ( again32 ((IntKind.i64.wrap (r73.2.1 + 1)), r73.2.2.1, r73.2.2.2, (l28 ++ ([(r47, (eta r73.1))] : List (Int × Ex))), r88)) else ( again32 (r73.2.1, r73.2.2.1, r73.2.2.2, (l28 ++ ([(r47, (eta r73.1))] : List (Int × Ex))), r88))
def l8 (eta : Ex → Ex) (du : Sh → (R : Type) → Option R → Option R) (l : Q2) (Names : Q7) (Schema : Q8) (Init : Q3) (Procs : Q7) (Cmd : Q1) (c25 : Int) (l28 : Q18) (again32 : Q14 → Option Q12) (r47 : Int) (c66 : Int) (c67 : Int) : Option Q12 := ab (fun (s94 : Int) => lP eta du l Names Schema Init Procs Cmd l28 again32 r47 c66 c67 s94) fun kk93 => bif (c66 == 0) then ( kk93 (IntKind.i64.wrap (c25 + 1))) else ( kk93 c25)
def l6 (eta : Ex → Ex) (du : Sh → (R : Type) → Option R → Option R) (l : Q2) (Names : Q7) (Schema : Q8) (Init : Q3) (Procs : Q7) (Cmd : Q1) (c25 : Int) (c26 : Int) (c27 : Int) (l28 : Q18) (again32 : Q14 → Option Q12) (e40 : Q11) (r47 : Int) (again53 : (Bool × Int) → Option Q12) : Bool × Int → Option Q12 := fun ⟨twice51, k52⟩ => bif (decide (k52 < (List.length l28 : Int))) then ( aJ (!twice51) (0, (Ex.mk 0 0 0 [])) (idx l28 k52) fun e55 => ab (e55.1 == r47) fun b61 => ab (twice51 || b61) fun b63 => again53 (b63, (IntKind.i64.wrap (k52 + 1)))) else ( ab (fun (s98 : Int × Int) => l8 eta du l Names Schema Init Procs Cmd c25 l28 again32 r47 s98.1 s98.2) fun kk97 => bif (e40.1 != 1) then ( (aq 2 e40.2.2.2 l c25 Names Schema Init Procs Cmd c26 c27).bind fun r100 => kk97 (r100.1, r100.2)) else ( ab (decide (r47 < 0)) fun b103 => ab (b103 || twice51) fun b105 => bif b105 then ( (aq 3 e40.2.2.2 l c25 Names Schema Init Procs Cmd c26 c27).bind fun r108 => kk97 (r108.1, r108.2)) else ( kk97 (c26, c27))))
def lT (eta : Ex → Ex) (du : Sh → (R : Type) → Option R → Option R) (l : Q2) (Names : Q7) (Schema : Q8) (Init : Q3) (Procs : Q7) (Cmd : Q1) (r15 : Q6) (again32 : Q14 → Option Q12) : Int × Int × Int × Q18 × Bool → Option Q12 := fun ⟨c25, c26, c27, l28, more31⟩ => ab (c26 == 0) fun b33 => ab (more31 && b33) fun b35 => bif b35 then ( (idx l c25).bind fun e40 => (bu Names e40.2.1).bind fun r47 => al (l6 eta du l Names Schema Init Procs Cmd c25 c26 c27 l28 again32 e40 r47) au (false, 0)) else ( (aR [59] l c25 Names Schema Init Procs Cmd c26 c27).bind fun r111 => chk (ay (List.length Cmd + List.length ([((IntKind.i64.wrap ((List.length Procs : Int) - 1)), (eta r15.1), l28)] : List Q25)) 80) <| some (r111.1, (Cmd ++ ([((IntKind.i64.wrap ((List.length Procs : Int) - 1)), (eta r15.1), l28)] : List Q25)), r111.2.1, r111.2.2))
def lY (eta : Ex → Ex) (du : Sh → (R : Type) → Option R → Option R) (l : Q2) (at_ : Int) (Names : Q7) (Schema : Q8) (Init : Q3) (Procs : Q7) (Cmd : Q1) (c10 : Int) (c11 : Int) : Option Q12 := (bf 2 l at_ Names Schema Init Procs Cmd c10 c11).bind fun r15 => (aR [58] l r15.2.1 Names Schema Init Procs Cmd r15.2.2.1 r15.2.2.2).bind fun r21 => al (lT eta du l Names Schema Init Procs Cmd r15) au (r21.1, r21.2.1, r21.2.2, [], true)
def fk (eta : Ex → Ex) (du : Sh → (R : Type) → Option R → Option R) (l : Q2) (at_ : Int) (Names : Q7) (Schema : Q8) (Init : Q3) (Procs : Q7) (Cmd : Q1) (bad : Int) (place : Int) : Option Q12 := ab (fun (s124 : Int × Int) => lY eta du l at_ Names Schema Init Procs Cmd s124.1 s124.2) fun kk123 => bif (decide (256 ≤ (List.length Cmd : Int))) then ( (aE l at_ Names Schema Init Procs Cmd bad place).bind fun r126 => (aq 9 r126 l at_ Names Schema Init Procs Cmd bad place).bind fun r129 => kk123 (r129.1, r129.2)) else ( kk123 (bad, place))
theorem l5 : (nS).Ok X0.P X0.Γ :=
 az (.j ⟨[(true, 0, (.bx 86 0 true [.same, .same, .same, .same, .same, .same, .same, (.int .i64), (.int .i64)]))], []⟩ .o (.l ⟨[(true, 0, (.bx 86 0 true [.same, (.int .i64), .same, .same, .same, .same, .same, (.int .i64), (.int .i64)])), (true, 2, (.bx 112 0 true [.same, .same, .same, .same, .same, (.own (.p (.i .i64) .ex) 114 true)])), (false, 3, .bool)], []⟩ (.c (.r [] (.r [0] (.l ⟨[(false, 6, .bool), (false, 7, (.int .i64))], []⟩ (.c .o (.j ⟨[(true, 0, (.bx 86 0 true [.same, .same, .same, .same, .same, .same, .same, (.int .i64), (.int .i64)]))], [4]⟩ .o (.j ⟨[(true, 0, (.bx 86 0 true [.same, (.int .i64), .same, .same, .same, .same, .same, .same, .same]))], []⟩ .o .o)))))) (.r [0, 2] .o)))) Tryz.call46 Tryz.func46 (ok1 kH (ok1 fj (ok1 jg (ok1 dP (ok1 bl (ok1 dk ok0)))))) ok0 ok0 fun s => (show _ = fk gP duE s.1 s.2.1 s.2.2.1 s.2.2.2.1 s.2.2.2.2.1 s.2.2.2.2.2.1 s.2.2.2.2.2.2.1 s.2.2.2.2.2.2.2.1 s.2.2.2.2.2.2.2.2 from by kernel_rfl).trans ((congrArg (fun eta => fk eta duE s.1 s.2.1 s.2.2.1 s.2.2.2.1 s.2.2.2.2.1 s.2.2.2.2.2.1 s.2.2.2.2.2.2.1 s.2.2.2.2.2.2.2.1 s.2.2.2.2.2.2.2.2) cM).trans ((congrArg (fun du => fk id du s.1 s.2.1 s.2.2.1 s.2.2.2.1 s.2.2.2.2.1 s.2.2.2.2.2.1 s.2.2.2.2.2.2.1 s.2.2.2.2.2.2.2.1 s.2.2.2.2.2.2.2.2) dM).trans (by kernel_rfl)))
def om : Ent := ⟨60, [(.bx 86 0 true [(.own (.p (.i .i64) (.p .s (.p (.i .i64) (.i .i64)))) 88 false), (.int .i64), (.own .s 9 false), (.own (.p (.i .i64) (.i .i64)) 53 false), (.own (.i .i64) 3 false), (.own .s 9 false), (.own (.p (.i .i64) (.p .ex (.l (.p (.i .i64) .ex)))) 112 false), (.int .i64), (.int .i64)])], (.int .i64), [(true, 0, (.bx 86 0 true [.same, (.int .i64), .same, .same, .same, .same, .same, (.int .i64), (.int .i64)]))], fun s => bY s.1 s.2.1 s.2.2.1 s.2.2.2.1 s.2.2.2.2.1 s.2.2.2.2.2.1 s.2.2.2.2.2.2.1 s.2.2.2.2.2.2.2.1 s.2.2.2.2.2.2.2.2⟩
theorem me : (om).Ok X0.P X0.Γ :=
 az (.s (.s (.j ⟨[(true, 0, (.bx 86 0 true [.same, (.int .i64), .same, .same, .same, .same, .same, .same, .same]))], []⟩ .o (.r [] (.j ⟨[(true, 0, (.bx 86 0 true [.same, .same, .same, .same, .same, .same, .same, (.int .i64), (.int .i64)]))], []⟩ .o .o))))) Tryz.call60 Tryz.func60 (ok1 dP (ok1 bl ok0)) ok0 ok0 fun _ => by kernel_rfl
def sS : Ent := ⟨61, [(.sli (.p (.i .i64) (.i .i64)))], .bool, [], fun s => gH s⟩
theorem p8 : (sS).Ok X0.P X0.Γ :=
 az (.c .o (.l ⟨[(false, 3, (.int .i64))], []⟩ .o)) Tryz.call61 Tryz.func61 ok0 ok0 ok0 fun _ => by kernel_rfl
def ni : Ent := ⟨43, [(.bx 86 0 true [(.own (.p (.i .i64) (.p .s (.p (.i .i64) (.i .i64)))) 88 false), (.int .i64), (.own .s 9 true), (.own (.p (.i .i64) (.i .i64)) 53 true), (.own (.i .i64) 3 true), (.own .s 9 false), (.own (.p (.i .i64) (.p .ex (.l (.p (.i .i64) .ex)))) 112 false), (.int .i64), (.int .i64)])], (.tup []), [(true, 0, (.bx 86 0 true [.same, (.int .i64), (.own .s 9 true), (.own (.p (.i .i64) (.i .i64)) 53 true), (.own (.i .i64) 3 true), .same, .same, (.int .i64), (.int .i64)]))], fun s => dG s.1 s.2.1 s.2.2.1 s.2.2.2.1 s.2.2.2.2.1 s.2.2.2.2.2.1 s.2.2.2.2.2.2.1 s.2.2.2.2.2.2.2.1 s.2.2.2.2.2.2.2.2⟩
theorem lf : (ni).Ok X0.P X0.Γ :=
 az (.s (.s (.s (.s (.s (.s (.s (.s (.j ⟨[(true, 0, (.bx 86 0 true [.same, .same, .same, .same, .same, .same, .same, (.int .i64), (.int .i64)]))], []⟩ .o (.r [0] .o)))))))))) Tryz.call43 Tryz.func43 (ok1 jd (ok1 dk (ok1 me (ok1 fj (ok1 p8 (ok1 bl ok0)))))) ok0 ok0 fun _ => by kernel_rfl
def tC : Ent := ⟨19, [.str], (.tup [(.dat (.p (.l .s) (.p (.l (.p (.i .i64) (.i .i64))) (.p (.l (.i .i64)) (.p (.l .s) (.l (.p (.i .i64) (.p .ex (.l (.p (.i .i64) .ex))))))))) [some 19, some 107, some 7, some 19, some 225]), (.int .i64), (.int .i64)]), [], fun s => cQ s⟩
theorem qF : (tC).Ok X0.P X0.Γ :=
 az (.c .o (.l ⟨[(true, 8, (.bx 86 0 true [.same, (.int .i64), (.own .s 9 true), (.own (.p (.i .i64) (.i .i64)) 53 true), (.own (.i .i64) 3 true), (.own .s 9 true), (.own (.p (.i .i64) (.p .ex (.l (.p (.i .i64) .ex)))) 112 true), (.int .i64), (.int .i64)]))], []⟩ (.c (.s (.s (.j ⟨[(true, 8, (.bx 86 0 true [.same, .same, .same, .same, .same, .same, .same, (.int .i64), (.int .i64)]))], []⟩ .o (.j ⟨[(true, 8, (.bx 86 0 true [.same, (.int .i64), .same, .same, .same, .same, .same, .same, .same]))], []⟩ .o (.j ⟨[(true, 8, (.bx 86 0 true [.same, (.int .i64), (.own .s 9 true), (.own (.p (.i .i64) (.i .i64)) 53 true), (.own (.i .i64) 3 true), .same, .same, (.int .i64), (.int .i64)]))], []⟩ .o (.c (.l ⟨[(true, 8, (.bx 86 0 true [.same, (.int .i64), .same, .same, .same, .same, (.own (.p (.i .i64) (.p .ex (.l (.p (.i .i64) .ex)))) 112 true), (.int .i64), (.int .i64)])), (false, 12, .bool)], []⟩ .o) .o)))))) (.j ⟨[(true, 8, (.bx 86 0 true [.same, .same, .same, .same, .same, .same, .same, (.int .i64), (.int .i64)]))], []⟩ .o (.c (.r [2] .o) .o))))) Tryz.call19 Tryz.func19 (ok1 o6 (ok1 dP (ok1 jd (ok1 fj (ok1 l5 (ok1 lf (ok1 dk (ok1 bl ok0)))))))) ok0 ok0 fun _ => by kernel_rfl
def u4 : Ent := ⟨8, [.str], (.tup [(.dat (.p (.l .s) (.p (.l (.p (.i .i64) (.i .i64))) (.p (.l (.i .i64)) (.p (.l .s) (.l (.p (.i .i64) (.p .ex (.l (.p (.i .i64) .ex))))))))) [some 19, some 107, some 7, some 19, some 225]), .bool]), [], fun s => fp s⟩
theorem lO : (u4).Ok X0.P X0.Γ :=
 az .o Tryz.call8 Tryz.func8 (ok1 qF ok0) ok0 ok0 fun _ => by kernel_rfl
def BH : Ent := ⟨37, [(.sli (.i .i64))], (.sli (.i .i64)), [], fun s => xd s⟩
theorem xJ : (BH).Ok X0.P X0.Γ :=
 az .o Tryz.call37 Tryz.func37 ok0 ok0 ok0 fun _ => by kernel_rfl
def tL : Ent := ⟨38, [(.sli (.l (.i .i64))), (.fn 37 [] [])], (.own (.l (.i .i64)) 31 true), [], fun s => j4 s⟩
theorem rf : (tL).Ok X0.P X0.Γ :=
 az (.l ⟨[(false, 5, (.own (.l (.i .i64)) 31 true)), (false, 10, (.int .i64))], []⟩ .o) Tryz.call38 Tryz.func38 (ok1 xJ ok0) ok0 ok0 fun _ => by kernel_rfl
def Ho : Ent := ⟨16, [(.dat (.p (.l (.l (.i .i64))) (.l (.l (.i .i64)))) [none, none])], (.dat (.p (.l (.l (.i .i64))) (.l (.l (.i .i64)))) [some 63, some 63]), [], fun s => Eg s⟩
theorem BQ : (Ho).Ok X0.P X0.Γ :=
 az (.r [2] .o) Tryz.call16 Tryz.func16 (ok1 rf ok0) ok0 ok0 fun _ => by kernel_rfl
def qY : Ent := ⟨24, [(.sli (.l (.l (.i .i64))))], (.own (.l (.i .i64)) 31 true), [], fun s => fI s⟩
theorem jz : (qY).Ok X0.P X0.Γ :=
 az (.l ⟨[(false, 3, (.int .i64)), (false, 11, (.int .i64))], []⟩ (.c .o (.l ⟨[(false, 6, (.own (.l (.i .i64)) 31 true)), (false, 27, (.int .i64))], []⟩ .o))) Tryz.call24 Tryz.func24 (ok1 Jx ok0) ok0 ok0 fun _ => by kernel_rfl
def DT : Ent := ⟨17, [(.dat (.p (.l (.l (.i .i64))) (.l (.l (.i .i64)))) [none, none])], (.dat (.p (.l (.l (.i .i64))) (.i .i64)) [some 63]), [], fun s => kB s⟩
theorem rP : (DT).Ok X0.P X0.Γ :=
 az (.r [2] .o) Tryz.call17 Tryz.func17 (ok1 jz ok0) ok0 ok0 fun _ => by kernel_rfl
def wJ : Ent := ⟨51, [(.dat (.p (.i .i64) (.i .i64)) []), (.int .i64)], .bool, [], fun s => jO s.1 s.2⟩
theorem mJ : (wJ).Ok X0.P X0.Γ :=
 az .o Tryz.call51 Tryz.func51 ok0 ok0 ok0 fun _ => by kernel_rfl
def FC : Ent := ⟨27, [(.sli (.p (.i .i64) (.i .i64))), (.sli (.i .i64))], (.int .i64), [], fun s => va s.1 s.2⟩
theorem As : (FC).Ok X0.P X0.Γ :=
 az (.c .o (.l ⟨[(false, 14, (.int .i64))], []⟩ .o)) Tryz.call27 Tryz.func27 (ok1 mJ ok0) ok0 ok0 fun _ => by kernel_rfl
def AN : Ent := ⟨26, [(.sli (.i .i64)), (.bx 34 0 false [(.sli .s), (.sli (.p (.i .i64) (.i .i64))), (.sli (.i .i64)), (.sli .s), (.sli (.p (.i .i64) (.p .ex (.l (.p (.i .i64) .ex)))))])], .bool, [], fun s => mz s.1 s.2.1 s.2.2.1 s.2.2.2.1 s.2.2.2.2.1 s.2.2.2.2.2⟩
theorem wR : (AN).Ok X0.P X0.Γ :=
 az .o Tryz.call26 Tryz.func26 (ok1 As ok0) ok0 ok0 fun _ => by kernel_rfl
def sT : Ent := ⟨25, [(.sli (.l (.i .i64))), (.fn 26 [] [(.bx 34 0 false [(.sli .s), (.sli (.p (.i .i64) (.i .i64))), (.sli (.i .i64)), (.sli .s), (.sli (.p (.i .i64) (.p .ex (.l (.p (.i .i64) .ex)))))])])], (.own .bo 4 true), [], fun s => jI s.1 s.2.1 s.2.2.1 s.2.2.2.1 s.2.2.2.2.1 s.2.2.2.2.2⟩
theorem qT : (sT).Ok X0.P X0.Γ :=
 az (.l ⟨[(false, 5, (.own .bo 4 true)), (false, 10, (.int .i64))], []⟩ .o) Tryz.call25 Tryz.func25 (ok1 wR ok0) ok0 ok0 fun _ => by kernel_rfl
def qe : Ent := ⟨52, [(.sli .bo), .bool], (.int .i64), [], fun s => iw s.1 s.2⟩
theorem oE : (qe).Ok X0.P X0.Γ :=
 az (.l ⟨[(false, 8, (.int .i64))], []⟩ .o) Tryz.call52 Tryz.func52 ok0 ok0 ok0 fun _ => by kernel_rfl
def ov : Ent := ⟨28, [(.sli .bo), .bool], .bool, [], fun s => dY s.1 s.2⟩
theorem ma : (ov).Ok X0.P X0.Γ :=
 az .o Tryz.call28 Tryz.func28 (ok1 oE ok0) ok0 ok0 fun _ => by kernel_rfl
def sc : Ent := ⟨29, [(.sli (.i .i64)), (.sli (.i .i64))], .bool, [], fun s => eC s.1 s.2⟩
theorem jP : (sc).Ok X0.P X0.Γ :=
 az (.c .o (.l ⟨[(false, 13, (.int .i64))], []⟩ .o)) Tryz.call29 Tryz.func29 ok0 ok0 ok0 fun _ => by kernel_rfl
def DB : Ent := ⟨53, [(.dat (.p (.l .s) (.p (.l (.p (.i .i64) (.i .i64))) (.p (.l (.i .i64)) (.p (.l .s) (.l (.p (.i .i64) (.p .ex (.l (.p (.i .i64) .ex))))))))) [none, none, none, none, none]), (.sli (.i .i64))], (.fn 80 [] [(.bx 34 0 true [(.sli .s), (.sli (.p (.i .i64) (.i .i64))), (.sli (.i .i64)), (.sli .s), (.sli (.p (.i .i64) (.p .ex (.l (.p (.i .i64) .ex)))))]), (.bx 31 0 true [(.sli (.i .i64))])]), [], fun s => uy s.1 s.2⟩
theorem yT : (DB).Ok X0.P X0.Γ :=
 az .o Tryz.call53 Tryz.func53 ok0 ok0 ok0 fun _ => by kernel_rfl
def Dq : Ent := ⟨87, [.bool], (.int .i64), [], fun s => mI s⟩
theorem zo : (Dq).Ok X0.P X0.Γ :=
 az .o Tryz.call87 Tryz.func87 ok0 ok0 ok0 fun _ => by kernel_rfl
def wY : Ent := ⟨68, [(.dat .ex [none]), (.sli (.i .i64))], (.int .i64), [], fun s => kj s.1 s.2⟩
def AA (eta : Ex → Ex) (_du : Sh → (R : Type) → Option R → Option R) (iD : (Ex × Q3) → Option Int) (e : Ex) (v3 : Q3) (again15 : Q9 → Option Int) : Int × Int × Int → Option Int := fun ⟨c12, c13, t14⟩ => bif (decide (t14 < (List.length (bN e.l 0 (min (List.length e.l : Int) 2)) : Int))) then ( (idx (bN e.l 0 (min (List.length e.l : Int) 2)) t14).bind fun e17 => (iD ((eta e17), v3)).bind fun r26 => bif (t14 == 0) then ( again15 (r26, c13, (IntKind.i64.wrap (t14 + 1)))) else ( bif (t14 == 1) then ( again15 (c12, r26, (IntKind.i64.wrap (t14 + 1)))) else ( none))) else ( ab (fun (s43 : Int × Int × Bool) => qH s43.1 s43.2.1 s43.2.2) fun kk42 => ab (fun (s52 : Int × Int × Bool) => qt s52.1 s52.2.1 s52.2.2) fun kk51 => ab (fun (s61 : Int × Int × Bool) => qJ s61.1 s61.2.1 s61.2.2) fun kk60 => bif (e.op == 1) then ( some e.n) else ( bif (e.op == 2) then ( ab (decide (e.n < 0)) fun b64 => ab (decide ((List.length v3 : Int) ≤ e.n)) fun b66 => ab (b64 || b66) fun b68 => bif b68 then ( some 0) else ( (idx v3 e.n).bind fun e71 => some e71)) else ( bif (e.op == 3) then ( some (IntKind.i64.wrap (c12 + c13))) else ( bif (e.op == 5) then ( some (IntKind.i64.wrap (c12 * c13))) else ( bif (e.op == 6) then ( some (IntKind.i64.wrap (0 - c12))) else ( bif (e.op == 4) then ( some (IntKind.i64.wrap (c12 - c13))) else ( bif (e.op == 8) then ( kk60 (c12, c13, true)) else ( ab (fun (_s89 : Unit) => qh e c12 c13 kk42 kk51) fun kk88 => ab (fun (s94 : Bool) => qm c12 c13 kk60 kk88 s94) fun kk93 => bif (e.op == 7) then ( kk93 (e.op == 7)) else ( kk93 (e.op == 19))))))))))
def oR (eta : Ex → Ex) (du : Sh → (R : Type) → Option R → Option R) (iD : (Ex × Q3) → Option Int) (e : Ex) (v3 : Q3) : Option Int := chk (gD 0 (min (List.length e.l : Int) 2) (List.length e.l)) <| al (AA eta du iD e v3) au (0, 0, 0)
def xq : TK2 → TK2 := fun k2 s => kO k2 s.1 s.2
theorem xC (k2 : TK2) (i2 : OK2 k2) : (ml (xq k2)).Ok X0.P X0.Γ :=
 az (.l ⟨[(true, 5, (.bx 137 0 true [(.int .i64), (.int .i64)])), (false, 19, (.int .i64))], []⟩ (.c .o (.r [] (.s (.s (.s (.s (.s (.s (.s (.s (.j ⟨[(false, 8, (.int .i64)), (false, 9, (.int .i64)), (false, 10, .bool)], [2]⟩ (.s (.j ⟨[(false, 8, (.int .i64)), (false, 9, (.int .i64)), (false, 10, .bool)], [2]⟩ (.s (.j ⟨[(false, 8, (.int .i64)), (false, 9, (.int .i64)), (false, 10, .bool)], [2]⟩ (.c .o (.c .o (.c .o (.c .o (.c .o (.c .o (.c .o (.j ⟨[], []⟩ (.j ⟨[(false, 50, .bool)], []⟩ .o .o) .o)))))))) .o)) .o)) .o)))))))))))) Tryz.call68 Tryz.func68 (ok1 i2 (ok1 zo ok0)) ok0 ok0 fun s => (show _ = oR gP duE k2 s.1 s.2 from by kernel_rfl).trans ((congrArg (fun eta => oR eta duE k2 s.1 s.2) cM).trans ((congrArg (fun du => oR id du k2 s.1 s.2) dM).trans (by kernel_rfl)))
theorem nC : (wY).Ok X0.P X0.Γ := (show wY = ml (al (xq) au) by kernel_rfl) ▸ kr (X := X0) (E := ml) ⟨Tryz.call68, fun _ _ h => nomatch h⟩ (xC) au
def Ah : Ent := ⟨81, [(.dat (.p (.l .s) (.p (.l (.p (.i .i64) (.i .i64))) (.p (.l (.i .i64)) (.p (.l .s) (.l (.p (.i .i64) (.p .ex (.l (.p (.i .i64) .ex))))))))) [none, none, none, none, none]), (.sli (.i .i64))], (.own (.i .i64) 3 true), [], fun s => qD s.1 s.2⟩
def wW (eta : Ex → Ex) (_du : Sh → (R : Type) → Option R → Option R) (m : Q4) (v11 : Q3) (again13 : Q26 → Option Q3) : Q3 × Int → Option Q3 := fun ⟨out9, t12⟩ => bif (decide (t12 < (List.length m.2.2.2.2 : Int))) then ( (idx m.2.2.2.2 t12).bind fun e15 => (kj (eta e15.2.1) v11).bind fun r26 => bif (r26 == 1) then ( chk (ay (List.length out9 + List.length ([t12] : List Int)) 8) <| again13 ((out9 ++ ([t12] : List Int)), (IntKind.i64.wrap (t12 + 1)))) else ( again13 (out9, (IntKind.i64.wrap (t12 + 1))))) else ( some out9)
def nJ (eta : Ex → Ex) (du : Sh → (R : Type) → Option R → Option R) (m : Q4) (v11 : Q3) : Option Q3 := al (wW eta du m v11) au ([], 0)
theorem wO : (Ah).Ok X0.P X0.Γ :=
 az (.l ⟨[(false, 5, (.own (.i .i64) 3 true)), (false, 11, (.int .i64))], []⟩ .o) Tryz.call81 Tryz.func81 (ok1 nC ok0) ok0 ok0 fun s => (show _ = nJ gP duE s.1 s.2 from by kernel_rfl).trans ((congrArg (fun eta => nJ eta duE s.1 s.2) cM).trans ((congrArg (fun du => nJ id du s.1 s.2) dM).trans (by kernel_rfl)))
def sD : Ent := ⟨55, [(.sli (.i .i64))], (.own (.i .i64) 3 true), [], fun s => bS s⟩
theorem jU : (sD).Ok X0.P X0.Γ :=
 az .o Tryz.call55 Tryz.func55 ok0 ok0 ok0 fun _ => by kernel_rfl
def zI : Ent := ⟨27, [(.sli (.p (.i .i64) (.i .i64))), (.own (.i .i64) 3 false)], (.int .i64), [], fun s => gq s.1 s.2⟩
theorem wV : (zI).Ok X0.P X0.Γ :=
 az (.c .o (.l ⟨[(false, 14, (.int .i64))], []⟩ .o)) Tryz.call27 Tryz.func27 (ok1 mJ ok0) ok0 ok0 fun _ => by kernel_rfl
def Fy : Ent := ⟨82, [(.dat (.p (.l .s) (.p (.l (.p (.i .i64) (.i .i64))) (.p (.l (.i .i64)) (.p (.l .s) (.l (.p (.i .i64) (.p .ex (.l (.p (.i .i64) .ex))))))))) [none, none, none, none, none]), (.sli (.i .i64)), (.int .i64)], (.tup [(.own (.i .i64) 3 true), (.int .i64)]), [], fun s => rq s.1 s.2.1 s.2.2⟩
def zP (eta : Ex → Ex) (_du : Sh → (R : Type) → Option R → Option R) (m : Q4) (v11 : Q3) (e21 : Q25) (again32 : Q26 → Option Q26) : Q3 × Int → Option Q26 := fun ⟨l30, t31⟩ => bif (decide (t31 < (List.length e21.2.2 : Int))) then ( (idx e21.2.2 t31).bind fun e34 => (kj (eta e34.2) v11).bind fun r45 => (idx l30 e34.1).bind fun _e48 => again32 ((List.set l30 (Int.toNat e34.1) r45), (IntKind.i64.wrap (t31 + 1)))) else ( (gq m.2.1 l30).bind fun r51 => bif (r51 != 0) then ( some ([], 6)) else ( some (l30, 0)))
def rU (eta : Ex → Ex) (du : Sh → (R : Type) → Option R → Option R) (m : Q4) (v11 : Q3) (k : Int) : Option Q26 := ab (decide (k < 0)) fun b9 => ab (decide ((List.length m.2.2.2.2 : Int) ≤ k)) fun b11 => ab (b9 || b11) fun b13 => bif b13 then ( some ([], 10)) else ( (bS v11).bind fun r16 => (idx m.2.2.2.2 k).bind fun e21 => al (zP eta du m v11 e21) au (r16, 0))
theorem AF : (Fy).Ok X0.P X0.Γ :=
 az (.c .o (.l ⟨[(true, 8, (.own (.i .i64) 3 true)), (false, 29, (.int .i64))], []⟩ (.c (.r [8] .o) .o))) Tryz.call82 Tryz.func82 (ok1 jU (ok1 nC (ok1 wV ok0))) ok0 ok0 fun s => (show _ = rU gP duE s.1 s.2.1 s.2.2 from by kernel_rfl).trans ((congrArg (fun eta => rU eta duE s.1 s.2.1 s.2.2) cM).trans ((congrArg (fun du => rU id du s.1 s.2.1 s.2.2) dM).trans (by kernel_rfl)))
def oB : Ent := ⟨99, [(.bx 142 0 true [.sfp, (.own (.i .u8) 5 false)])], (.tup []), [(true, 0, (.bx 142 0 true [.sfp, .same]))], fun s => dX s.1 s.2⟩
theorem gX : (oB).Ok X0.P X0.Γ :=
 az .o Tryz.call99 Tryz.func99 ok0 ok0 ok0 fun _ => by kernel_rfl
def nk : Ent := ⟨91, [(.bx 142 0 true [.sfp, (.own (.i .u8) 5 true)]), .str], (.tup [(.int .i64), (.cst (.raw .nilIface))]), [(true, 0, (.bx 142 0 true [.sfp, (.own (.i .u8) 5 true)]))], fun s => dD s.2.2 s.1 s.2.1⟩
theorem ln : (nk).Ok X0.P X0.Γ :=
 az .o Tryz.call91 Tryz.func91 (ok1 gX ok0) ok0 ok0 fun _ => by kernel_rfl
def oA : Ent := ⟨93, [(.bx 142 0 true [.sfp, (.own (.i .u8) 5 true)]), (.int .u8)], (.cst (.raw .nilIface)), [(true, 0, (.bx 142 0 true [.sfp, (.own (.i .u8) 5 true)]))], fun s => dZ s.2.2 s.1 s.2.1⟩
theorem mW : (oA).Ok X0.P X0.Γ :=
 az .o Tryz.call93 Tryz.func93 (ok1 gX ok0) ok0 ok0 fun _ => by kernel_rfl
def p9 : Ent := ⟨94, [(.bx 142 0 true [.sfp, (.own (.i .u8) 5 true)])], .str, [], fun s => fz s.1 s.2⟩
theorem oz : (p9).Ok X0.P X0.Γ :=
 az (.r [0] .o) Tryz.call94 Tryz.func94 ok0 ok0 ok0 fun _ => by kernel_rfl
def Fb : Ent := ⟨83, [(.sli (.i .i64))], .str, [], fun s => vN s⟩
theorem Az : (Fb).Ok X0.P X0.Γ :=
 az (.l ⟨[(true, 3, (.bx 142 0 true [.sfp, (.own (.i .u8) 5 true)])), (false, 8, (.int .i64))], []⟩ .o) Tryz.call83 Tryz.func83 (ok1 Jy (ok1 ln (ok1 mW (ok1 oz ok0)))) ok0 ok0 fun _ => by kernel_rfl
def zA : Ent := ⟨54, [(.bx 103 0 true [(.own (.l (.i .i64)) 31 true), (.mp .s .bo true)]), (.sli (.i .i64))], (.tup []), [(true, 0, (.bx 103 0 true [(.own (.l (.i .i64)) 31 true), (.mp .s .bo true)]))], fun s => fK s.2.2 s.1 s.2.1⟩
theorem uV : (zA).Ok X0.P X0.Γ :=
 az (.j ⟨[(true, 0, (.bx 103 0 true [.same, (.mp .s .bo true)]))], []⟩ .o .o) Tryz.call54 Tryz.func54 (ok1 Az ok0) ok0 ok0 fun _ => by kernel_rfl
def Fi : Ent := ⟨32, [(.dat (.p (.l .s) (.p (.l (.p (.i .i64) (.i .i64))) (.p (.l (.i .i64)) (.p (.l .s) (.l (.p (.i .i64) (.p .ex (.l (.p (.i .i64) .ex))))))))) [none, none, none, none, none]), (.sli (.i .i64))], (.tup [(.own (.l (.i .i64)) 31 true), (.int .i64)]), [], fun s => ry s.1 s.2⟩
theorem J5 : (⟨80, Tryz.f80⟩ : Clo).Ok X0.P := ⟨Tryz.call80, Tryz.func80⟩
theorem zJ : (Fi).Ok X0.P X0.Γ :=
 az (.c (.c (.l ⟨[(false, 10, (.int .i64)), (true, 10004, (.bx 25 0 true [.same])), (true, 10005, (.bx 69 0 true [(.int .i64)])), (true, 10006, (.bx 103 0 true [(.own (.l (.i .i64)) 31 true), (.mp .s .bo true)]))], []⟩ .o) .o) .o) Tryz.call32 Tryz.func32 (ok1 yT (ok1 wO (ok1 AF (ok1 uV (ok1 jU ok0))))) ok0 (ok1 J5 ok0) fun _ => by kernel_rfl
def wM : Ent := ⟨34, [(.sli (.i .i64)), (.bx 31 0 false [(.sli (.i .i64))])], .bool, [], fun s => mC s.1 s.2⟩
theorem tT : (wM).Ok X0.P X0.Γ :=
 az .o Tryz.call34 Tryz.func34 (ok1 jP ok0) ok0 ok0 fun _ => by kernel_rfl
def oH : Ent := ⟨56, [(.sli (.l (.i .i64))), (.fn 34 [] [(.bx 31 0 false [(.sli (.i .i64))])])], (.int .i64), [], fun s => gz s.1 s.2⟩
theorem nj : (oH).Ok X0.P X0.Γ :=
 az (.l ⟨[(false, 8, (.int .i64))], []⟩ .o) Tryz.call56 Tryz.func56 (ok1 tT ok0) ok0 ok0 fun _ => by kernel_rfl
def ng : Ent := ⟨33, [(.sli (.l (.i .i64))), (.fn 34 [] [(.bx 31 0 false [(.sli (.i .i64))])])], .bool, [], fun s => dH s.1 s.2⟩
theorem lq : (ng).Ok X0.P X0.Γ :=
 az .o Tryz.call33 Tryz.func33 (ok1 nj ok0) ok0 ok0 fun _ => by kernel_rfl
def zL : Ent := ⟨31, [(.sli (.i .i64)), (.sli (.i .i64)), (.bx 34 0 false [(.sli .s), (.sli (.p (.i .i64) (.i .i64))), (.sli (.i .i64)), (.sli .s), (.sli (.p (.i .i64) (.p .ex (.l (.p (.i .i64) .ex)))))])], .bool, [], fun s => mh s.1 s.2.1 s.2.2.1 s.2.2.2.1 s.2.2.2.2.1 s.2.2.2.2.2.1 s.2.2.2.2.2.2⟩
theorem wS : (zL).Ok X0.P X0.Γ :=
 az .o Tryz.call31 Tryz.func31 (ok1 zJ (ok1 lq ok0)) ok0 ok0 fun _ => by kernel_rfl
def xX : Ent := ⟨30, [(.sli (.l (.i .i64))), (.fn 31 [] [(.bx 34 0 false [(.sli .s), (.sli (.p (.i .i64) (.i .i64))), (.sli (.i .i64)), (.sli .s), (.sli (.p (.i .i64) (.p .ex (.l (.p (.i .i64) .ex)))))])])], .bool, [], fun s => nK s.1 s.2.1 s.2.2.1 s.2.2.2.1 s.2.2.2.2.1 s.2.2.2.2.2⟩
theorem uS : (xX).Ok X0.P X0.Γ :=
 az (.l ⟨[(false, 5, (.int .i64))], []⟩ (.c (.r [1] .o) .o)) Tryz.call30 Tryz.func30 (ok1 wS ok0) ok0 ok0 fun _ => by kernel_rfl
def FG : Ent := ⟨12, [(.dat (.p (.l .s) (.p (.l (.p (.i .i64) (.i .i64))) (.p (.l (.i .i64)) (.p (.l .s) (.l (.p (.i .i64) (.p .ex (.l (.p (.i .i64) .ex))))))))) [none, none, none, none, none]), (.dat (.p (.l (.l (.i .i64))) (.l (.l (.i .i64)))) [none, none])], .bool, [], fun s => dC s.1 s.2⟩
theorem nE : (FG).Ok X0.P X0.Γ :=
 az (.c .o (.r [] (.r [6] .o))) Tryz.call12 Tryz.func12 (ok1 jz (ok1 qT (ok1 ma (ok1 jP (ok1 uS ok0))))) ok0 ok0 fun _ => by kernel_rfl
def xf : Ent := ⟨86, [(.dat .ex [none])], (.tup [(.int .i64), (.int .i64), (.int .i64)]), [], fun s => rQ s⟩
def AD (eta : Ex → Ex) (_du : Sh → (R : Type) → Option R → Option R) (iF : Ex → Option Q9) (e : Ex) (again12 : (Bool × Bool × Bool × Int) → Option Q9) : Bool × Bool × Bool × Int → Option Q9 := fun ⟨ints8, bools9, times10, t11⟩ => bif (decide (t11 < (List.length e.l : Int))) then ( (idx e.l t11).bind fun e14 => (iF (eta e14)).bind fun r23 => bif (r23.2.1 != 0) then ( some (0, r23.2.1, r23.2.2)) else ( ab (r23.1 == 1) fun b27 => ab (ints8 && b27) fun b29 => ab (r23.1 == 2) fun b31 => ab (bools9 && b31) fun b33 => ab (r23.1 != 1) fun b35 => ab (times10 && b35) fun b37 => again12 (b29, b33, b37, (IntKind.i64.wrap (t11 + 1))))) else ( ab (decide (e.op ≤ 6)) fun b39 => ab (b39 && ints8) fun b41 => bif b41 then ( some (1, 0, 0)) else ( ab (fun (s55 : Bool) => qk e times10 s55) fun kk54 => ab (decide (6 < e.op)) fun b56 => ab (decide (e.op ≤ 12)) fun b58 => ab (b56 && b58) fun b60 => ab (b60 && ints8) fun b62 => bif b62 then ( kk54 b62) else ( bif (e.op == 13) then ( kk54 (e.op == 13)) else ( bif (e.op == 14) then ( kk54 (e.op == 14)) else ( ab (decide (15 ≤ e.op)) fun b67 => ab (decide (e.op ≤ 19)) fun b69 => ab (b67 && b69) fun b71 => ab (b71 && bools9) fun b73 => kk54 b73)))))
def oM (eta : Ex → Ex) (du : Sh → (R : Type) → Option R → Option R) (iF : Ex → Option Q9) (e : Ex) : Option Q9 := al (AD eta du iF e) au (true, true, true, 0)
def xg : TK3 → TK3 := fun k3 s => nW k3 s
theorem x7 (k3 : TK3) (i3 : OK3 k3) : (mS (xg k3)).Ok X0.P X0.Γ :=
 az (.l ⟨[(false, 5, .bool), (false, 6, .bool), (false, 7, .bool), (false, 16, (.int .i64))], []⟩ (.c .o (.c .o (.j ⟨[(false, 53, .bool)], []⟩ .o .o)))) Tryz.call86 Tryz.func86 (ok1 i3 ok0) ok0 ok0 fun s => (show _ = oM gP duE k3 s from by kernel_rfl).trans ((congrArg (fun eta => oM eta duE k3 s) cM).trans ((congrArg (fun du => oM id du k3 s) dM).trans (by kernel_rfl)))
theorem zS : (xf).Ok X0.P X0.Γ := (show xf = mS (al (xg) au) by kernel_rfl) ▸ kr (X := X0) (E := mS) ⟨Tryz.call86, fun _ _ h => nomatch h⟩ (x7) au
def Jr : Ent := ⟨65, [(.dat .ex [none])], .bool, [], fun s => sR s⟩
def vX (eta : Ex → Ex) (_du : Sh → (R : Type) → Option R → Option R) (e : Ex) : Option Bool := (rQ (eta e)).bind fun r5 => ab (r5.2.1 == 0) fun b8 => ab (r5.1 == 2) fun b10 => ab (b8 && b10) fun b12 => some b12
theorem Dd : (Jr).Ok X0.P X0.Γ :=
 az .o Tryz.call65 Tryz.func65 (ok1 zS ok0) ok0 ok0 fun s => (show _ = vX gP duE s from by kernel_rfl).trans ((congrArg (fun eta => vX eta duE s) cM).trans ((congrArg (fun du => vX id du s) dM).trans (by kernel_rfl)))
def CE : Ent := ⟨67, [(.int .i64), (.bx 24 0 false [(.int .i64), (.int .i64), (.int .i64), (.sli .ex)]), (.bx 57 0 false [(.sli (.l (.i .i64))), (.int .i64)])], .bool, [], fun s => mE s.1 s.2.1 s.2.2.1 s.2.2.2.1 s.2.2.2.2.1 s.2.2.2.2.2.1 s.2.2.2.2.2.2⟩
theorem yU : (CE).Ok X0.P X0.Γ :=
 az .o Tryz.call67 Tryz.func67 (ok1 nC ok0) ok0 ok0 fun _ => by kernel_rfl
def Hg : Ent := ⟨66, [(.int .i64), (.fn 67 [] [(.bx 24 0 false [(.int .i64), (.int .i64), (.int .i64), (.sli .ex)]), (.bx 57 0 false [(.sli (.l (.i .i64))), (.int .i64)])])], (.own .bo 4 true), [], fun s => uD s.1 s.2.1 s.2.2.1 s.2.2.2.1 s.2.2.2.2.1 s.2.2.2.2.2.1 s.2.2.2.2.2.2⟩
theorem B9 : (Hg).Ok X0.P X0.Γ :=
 az (.l ⟨[(true, 5, (.own .bo 4 true)), (false, 11, (.int .i64))], []⟩ .o) Tryz.call66 Tryz.func66 (ok1 yU ok0) ok0 ok0 fun _ => by kernel_rfl
def EX : Ent := ⟨71, [(.int .i64), (.bx 122 0 false [(.own .bo 4 false)])], .bool, [], fun s => pI s.1 s.2⟩
theorem y7 : (EX).Ok X0.P X0.Γ :=
 az .o Tryz.call71 Tryz.func71 ok0 ok0 ok0 fun _ => by kernel_rfl
def B8 : Ent := ⟨66, [(.int .i64), (.fn 71 [] [(.bx 122 0 false [(.own .bo 4 false)])])], (.own .bo 4 true), [], fun s => sa s.1 s.2⟩
theorem ya : (B8).Ok X0.P X0.Γ :=
 az (.l ⟨[(true, 5, (.own .bo 4 true)), (false, 11, (.int .i64))], []⟩ .o) Tryz.call66 Tryz.func66 (ok1 y7 ok0) ok0 ok0 fun _ => by kernel_rfl
def DH : Ent := ⟨72, [(.int .i64), (.bx 122 0 false [(.own .bo 4 false)]), (.bx 122 0 false [(.own .bo 4 false)])], .bool, [], fun s => px s.1 s.2.1 s.2.2⟩
theorem zn : (DH).Ok X0.P X0.Γ :=
 az .o Tryz.call72 Tryz.func72 ok0 ok0 ok0 fun _ => by kernel_rfl
def B0 : Ent := ⟨66, [(.int .i64), (.fn 72 [] [(.bx 122 0 false [(.own .bo 4 false)]), (.bx 122 0 false [(.own .bo 4 false)])])], (.own .bo 4 true), [], fun s => sk s.1 s.2.1 s.2.2⟩
theorem xv : (B0).Ok X0.P X0.Γ :=
 az (.l ⟨[(true, 5, (.own .bo 4 true)), (false, 11, (.int .i64))], []⟩ .o) Tryz.call66 Tryz.func66 (ok1 zn ok0) ok0 ok0 fun _ => by kernel_rfl
def EY : Ent := ⟨73, [(.int .i64), (.bx 122 0 false [(.own .bo 4 false)]), (.bx 122 0 false [(.own .bo 4 false)])], .bool, [], fun s => pb s.1 s.2.1 s.2.2⟩
theorem zg : (EY).Ok X0.P X0.Γ :=
 az .o Tryz.call73 Tryz.func73 ok0 ok0 ok0 fun _ => by kernel_rfl
def BW : Ent := ⟨66, [(.int .i64), (.fn 73 [] [(.bx 122 0 false [(.own .bo 4 false)]), (.bx 122 0 false [(.own .bo 4 false)])])], (.own .bo 4 true), [], fun s => sq s.1 s.2.1 s.2.2⟩
theorem xL : (BW).Ok X0.P X0.Γ :=
 az (.l ⟨[(true, 5, (.own .bo 4 true)), (false, 11, (.int .i64))], []⟩ .o) Tryz.call66 Tryz.func66 (ok1 zg ok0) ok0 ok0 fun _ => by kernel_rfl
def E4 : Ent := ⟨74, [(.int .i64), (.bx 122 0 false [(.own .bo 4 false)]), (.bx 122 0 false [(.own .bo 4 false)])], .bool, [], fun s => pD s.1 s.2.1 s.2.2⟩
theorem za : (E4).Ok X0.P X0.Γ :=
 az .o Tryz.call74 Tryz.func74 ok0 ok0 ok0 fun _ => by kernel_rfl
def BY : Ent := ⟨66, [(.int .i64), (.fn 74 [] [(.bx 122 0 false [(.own .bo 4 false)]), (.bx 122 0 false [(.own .bo 4 false)])])], (.own .bo 4 true), [], fun s => sb s.1 s.2.1 s.2.2⟩
theorem xW : (BY).Ok X0.P X0.Γ :=
 az (.l ⟨[(true, 5, (.own .bo 4 true)), (false, 11, (.int .i64))], []⟩ .o) Tryz.call66 Tryz.func66 (ok1 za ok0) ok0 ok0 fun _ => by kernel_rfl
def C5 : Ent := ⟨75, [(.int .i64), (.bx 122 0 false [(.own .bo 4 false)]), (.bx 122 0 false [(.own .bo 4 false)])], .bool, [], fun s => po s.1 s.2.1 s.2.2⟩
theorem yw : (C5).Ok X0.P X0.Γ :=
 az .o Tryz.call75 Tryz.func75 ok0 ok0 ok0 fun _ => by kernel_rfl
def BI : Ent := ⟨66, [(.int .i64), (.fn 75 [] [(.bx 122 0 false [(.own .bo 4 false)]), (.bx 122 0 false [(.own .bo 4 false)])])], (.own .bo 4 true), [], fun s => su s.1 s.2.1 s.2.2⟩
theorem yg : (BI).Ok X0.P X0.Γ :=
 az (.l ⟨[(true, 5, (.own .bo 4 true)), (false, 11, (.int .i64))], []⟩ .o) Tryz.call66 Tryz.func66 (ok1 yw ok0) ok0 ok0 fun _ => by kernel_rfl
def Hv : Ent := ⟨77, [(.dat (.p (.l (.l (.i .i64))) (.i .i64)) [none]), (.int .i64)], (.int .i64), [], fun s => nz s.1 s.2⟩
theorem oP : (Hv).Ok X0.P X0.Γ :=
 az .o Tryz.call77 Tryz.func77 ok0 ok0 ok0 fun _ => by kernel_rfl
def CB : Ent := ⟨76, [(.int .i64), (.bx 122 0 false [(.own .bo 4 false)]), (.bx 57 0 false [(.sli (.l (.i .i64))), (.int .i64)])], .bool, [], fun s => py s.1 s.2.1 s.2.2.1 s.2.2.2⟩
theorem yV : (CB).Ok X0.P X0.Γ :=
 az .o Tryz.call76 Tryz.func76 (ok1 oP ok0) ok0 ok0 fun _ => by kernel_rfl
def BR : Ent := ⟨66, [(.int .i64), (.fn 76 [] [(.bx 122 0 false [(.own .bo 4 false)]), (.bx 57 0 false [(.sli (.l (.i .i64))), (.int .i64)])])], (.own .bo 4 true), [], fun s => sg s.1 s.2.1 s.2.2.1 s.2.2.2⟩
theorem yb : (BR).Ok X0.P X0.Γ :=
 az (.l ⟨[(true, 5, (.own .bo 4 true)), (false, 11, (.int .i64))], []⟩ .o) Tryz.call66 Tryz.func66 (ok1 yV ok0) ok0 ok0 fun _ => by kernel_rfl
def yW : Ent := ⟨70, [(.int .i64), (.bx 4 0 false [.bool])], .bool, [], fun s => oS s.1 s.2⟩
theorem v7 : (yW).Ok X0.P X0.Γ :=
 az .o Tryz.call70 Tryz.func70 ok0 ok0 ok0 fun _ => by kernel_rfl
def BK : Ent := ⟨66, [(.int .i64), (.fn 70 [] [(.bx 4 0 false [.bool])])], (.own .bo 4 true), [], fun s => rX s.1 s.2⟩
theorem xY : (BK).Ok X0.P X0.Γ :=
 az (.l ⟨[(true, 5, (.own .bo 4 true)), (false, 11, (.int .i64))], []⟩ .o) Tryz.call66 Tryz.func66 (ok1 v7 ok0) ok0 ok0 fun _ => by kernel_rfl
def EH : Ent := ⟨69, [.bool, (.bx 3 0 false [(.int .i64)])], (.own .bo 4 true), [], fun s => mH s.1 s.2⟩
theorem yC : (EH).Ok X0.P X0.Γ :=
 az .o Tryz.call69 Tryz.func69 (ok1 xY ok0) ok0 ok0 fun _ => by kernel_rfl
def Ag : Ent := ⟨96, [(.int .i64), (.bx 4 0 false [.bool])], .bool, [], fun s => qp s.1 s.2⟩
theorem wK : (Ag).Ok X0.P X0.Γ :=
 az .o Tryz.call96 Tryz.func96 ok0 ok0 ok0 fun _ => by kernel_rfl
def BM : Ent := ⟨66, [(.int .i64), (.fn 96 [] [(.bx 4 0 false [.bool])])], (.own .bo 4 true), [], fun s => kT s.1 s.2⟩
theorem qn : (BM).Ok X0.P X0.Γ :=
 az (.l ⟨[(true, 5, (.own .bo 4 true)), (false, 11, (.int .i64))], []⟩ .o) Tryz.call66 Tryz.func66 (ok1 wK ok0) ok0 ok0 fun _ => by kernel_rfl
def wL : Ent := ⟨89, [(.int .i64), (.own .bo 4 false), (.bx 122 0 false [(.sli .bo)]), (.bx 122 0 false [(.sli .bo)]), (.bx 57 0 false [(.sli (.l (.i .i64))), (.int .i64)])], .bool, [], fun s => mB s.1 s.2.1 s.2.2.1 s.2.2.2.1 s.2.2.2.2.1 s.2.2.2.2.2⟩
theorem tS : (wL).Ok X0.P X0.Γ :=
 az .o Tryz.call89 Tryz.func89 (ok1 oP ok0) ok0 ok0 fun _ => by kernel_rfl
def AH : Ent := ⟨97, [(.int .i64), (.bx 139 0 false [(.fn 89 [] [(.bx 122 0 false [(.sli .bo)]), (.bx 122 0 false [(.sli .bo)]), (.bx 57 0 false [(.sli (.l (.i .i64))), (.int .i64)])])]), (.bx 122 0 false [(.own .bo 4 false)])], .bool, [], fun s => mY s.1 s.2.2.2.2.2 s.2.1 s.2.2.1 s.2.2.2.1 s.2.2.2.2.1⟩
theorem wT : (AH).Ok X0.P X0.Γ :=
 az .o Tryz.call97 Tryz.func97 (ok1 tS ok0) ok0 ok0 fun _ => by kernel_rfl
def Am : Ent := ⟨66, [(.int .i64), (.fn 97 [] [(.bx 139 0 false [(.fn 89 [] [(.bx 122 0 false [(.sli .bo)]), (.bx 122 0 false [(.sli .bo)]), (.bx 57 0 false [(.sli (.l (.i .i64))), (.int .i64)])])]), (.bx 122 0 false [(.own .bo 4 false)])])], (.own .bo 4 true), [], fun s => qL s.1 s.2.2.2.2.2 s.2.1 s.2.2.1 s.2.2.2.1 s.2.2.2.2.1⟩
theorem wP : (Am).Ok X0.P X0.Γ :=
 az (.l ⟨[(true, 5, (.own .bo 4 true)), (false, 11, (.int .i64))], []⟩ .o) Tryz.call66 Tryz.func66 (ok1 wT ok0) ok0 ok0 fun _ => by kernel_rfl
def mM : Ent := ⟨98, [(.own .bo 4 false), (.own .bo 4 false)], .bool, [], fun s => cf s.1 s.2⟩
theorem gh : (mM).Ok X0.P X0.Γ :=
 az (.c .o (.l ⟨[(false, 13, (.int .i64))], []⟩ .o)) Tryz.call98 Tryz.func98 ok0 ok0 ok0 fun _ => by kernel_rfl
def FI : Ent := ⟨88, [(.dat (.p (.l (.l (.i .i64))) (.i .i64)) [none]), .bool, (.fn 89 [] [(.bx 122 0 false [(.sli .bo)]), (.bx 122 0 false [(.sli .bo)]), (.bx 57 0 false [(.sli (.l (.i .i64))), (.int .i64)])])], (.own .bo 4 true), [], fun s => vR s.1 s.2.1 s.2.2.1 s.2.2.2.1 s.2.2.2.2.1 s.2.2.2.2.2⟩
theorem AB : (FI).Ok X0.P X0.Γ :=
 az (.n 0 (.j ⟨[(true, 7, (.bx 122 0 true [(.own .bo 4 true)]))], []⟩ .o .o)) Tryz.call88 Tryz.func88 (ok1 qn (ok1 wP (ok1 gh ok0))) ok0 ok0 fun _ => by kernel_rfl
def Fu : Ent := ⟨78, [(.dat (.p (.l (.l (.i .i64))) (.i .i64)) [none]), (.sli .bo), (.sli .bo)], (.own .bo 4 true), [], fun s => n8 s.1 s.2.1 s.2.2⟩
theorem Aj : (Fu).Ok X0.P X0.Γ :=
 az .o Tryz.call78 Tryz.func78 (ok1 AB ok0) ok0 ok0 fun _ => by kernel_rfl
def uP : Ent := ⟨90, [(.int .i64), (.own .bo 4 false), (.bx 122 0 false [(.sli .bo)]), (.bx 122 0 false [(.sli .bo)]), (.bx 57 0 false [(.sli (.l (.i .i64))), (.int .i64)])], .bool, [], fun s => kI s.1 s.2.1 s.2.2.1 s.2.2.2.1 s.2.2.2.2.1 s.2.2.2.2.2⟩
theorem sd : (uP).Ok X0.P X0.Γ :=
 az .o Tryz.call90 Tryz.func90 (ok1 oP ok0) ok0 ok0 fun _ => by kernel_rfl
def wQ : Ent := ⟨97, [(.int .i64), (.bx 139 0 false [(.fn 90 [] [(.bx 122 0 false [(.sli .bo)]), (.bx 122 0 false [(.sli .bo)]), (.bx 57 0 false [(.sli (.l (.i .i64))), (.int .i64)])])]), (.bx 122 0 false [(.own .bo 4 false)])], .bool, [], fun s => jS s.1 s.2.2.2.2.2 s.2.1 s.2.2.1 s.2.2.2.1 s.2.2.2.2.1⟩
theorem ue : (wQ).Ok X0.P X0.Γ :=
 az .o Tryz.call97 Tryz.func97 (ok1 sd ok0) ok0 ok0 fun _ => by kernel_rfl
def Aa : Ent := ⟨66, [(.int .i64), (.fn 97 [] [(.bx 139 0 false [(.fn 90 [] [(.bx 122 0 false [(.sli .bo)]), (.bx 122 0 false [(.sli .bo)]), (.bx 57 0 false [(.sli (.l (.i .i64))), (.int .i64)])])]), (.bx 122 0 false [(.own .bo 4 false)])])], (.own .bo 4 true), [], fun s => qi s.1 s.2.2.2.2.2 s.2.1 s.2.2.1 s.2.2.2.1 s.2.2.2.2.1⟩
theorem wN : (Aa).Ok X0.P X0.Γ :=
 az (.l ⟨[(true, 5, (.own .bo 4 true)), (false, 11, (.int .i64))], []⟩ .o) Tryz.call66 Tryz.func66 (ok1 ue ok0) ok0 ok0 fun _ => by kernel_rfl
def zW : Ent := ⟨88, [(.dat (.p (.l (.l (.i .i64))) (.i .i64)) [none]), .bool, (.fn 90 [] [(.bx 122 0 false [(.sli .bo)]), (.bx 122 0 false [(.sli .bo)]), (.bx 57 0 false [(.sli (.l (.i .i64))), (.int .i64)])])], (.own .bo 4 true), [], fun s => qE s.1 s.2.1 s.2.2.1 s.2.2.2.1 s.2.2.2.2.1 s.2.2.2.2.2⟩
theorem wU : (zW).Ok X0.P X0.Γ :=
 az (.n 0 (.j ⟨[(true, 7, (.bx 122 0 true [(.own .bo 4 true)]))], []⟩ .o .o)) Tryz.call88 Tryz.func88 (ok1 qn (ok1 wN (ok1 gh ok0))) ok0 ok0 fun _ => by kernel_rfl
def Ca : Ent := ⟨79, [(.dat (.p (.l (.l (.i .i64))) (.i .i64)) [none]), (.sli .bo), (.sli .bo)], (.own .bo 4 true), [], fun s => kU s.1 s.2.1 s.2.2⟩
theorem xI : (Ca).Ok X0.P X0.Γ :=
 az .o Tryz.call79 Tryz.func79 (ok1 wU ok0) ok0 ok0 fun _ => by kernel_rfl
def Bd : Ent := ⟨49, [(.dat .ex [none]), (.dat (.p (.l (.l (.i .i64))) (.i .i64)) [none])], (.own .bo 4 true), [], fun s => wy s.1 s.2⟩
def sw (eta : Ex → Ex) (du : Sh → (R : Type) → Option R → Option R) (oc : (Ex × Q13) → Option Q5) (e : Ex) (w3 : Q13) : Option Q5 := (sR (eta e)).bind fun r12 => bif r12 then ( (uD (List.length w3.1 : Int) e.op e.n e.at_ e.l w3.1 w3.2).bind fun r16 => some r16) else ( (idx e.l 0).bind fun e23 => du (.b .l .l) _ ( (oc ((eta e23), w3)).bind fun r29 => ab (fun (s117 : Q5) => oX e w3 r29 s117) fun kk116 => bif (decide (1 < (List.length e.l : Int))) then ( (idx e.l 1).bind fun e121 => (oc ((eta e121), w3)).bind fun r127 => kk116 r127) else ( kk116 [])))
def Bv : TK4 → TK4 := fun k4 s => j3 k4 s.1 s.2
theorem zX (k4 : TK4) (i4 : OK4 k4) : (o7 (Bv k4)).Ok X0.P X0.Γ :=
 az (.c .o (.r [] (.s (.j ⟨[(true, 7, (.bx 122 0 true [(.own .bo 4 true)]))], []⟩ (.c (.r [7] .o) .o) (.c .o (.c .o (.c .o (.c .o (.c .o (.c .o (.c (.r [6, 8] .o) (.c (.r [6, 8] .o) .o)))))))))))) Tryz.call49 Tryz.func49 (ok1 Dd (ok1 B9 (ok1 i4 (ok1 ya (ok1 xv (ok1 xL (ok1 xW (ok1 yg (ok1 yb (ok1 yC (ok1 Aj (ok1 xI ok0)))))))))))) ok0 ok0 fun s => (show _ = sw gP duE k4 s.1 s.2 from by kernel_rfl).trans ((congrArg (fun eta => sw eta duE k4 s.1 s.2) cM).trans ((congrArg (fun du => sw id du k4 s.1 s.2) dM).trans (by kernel_rfl)))
theorem CH : (Bd).Ok X0.P X0.Γ := (show Bd = o7 (al (Bv) au) by kernel_rfl) ▸ kr (X := X0) (E := o7) ⟨Tryz.call49, fun _ _ h => nomatch h⟩ (zX) au
def FF : Ent := ⟨23, [(.dat .ex [none]), (.dat (.p (.l (.l (.i .i64))) (.i .i64)) [none])], .bool, [], fun s => ox s.1 s.2⟩
def rV (eta : Ex → Ex) (_du : Sh → (R : Type) → Option R → Option R) (e : Ex) (w3 : Q13) : Option Bool := (wy (eta e) w3).bind fun r7 => (idx r7 0).bind fun e12 => some e12
theorem zY : (FF).Ok X0.P X0.Γ :=
 az .o Tryz.call23 Tryz.func23 (ok1 CH ok0) ok0 ok0 fun s => (show _ = rV gP duE s.1 s.2 from by kernel_rfl).trans ((congrArg (fun eta => rV eta duE s.1 s.2) cM).trans ((congrArg (fun du => rV id du s.1 s.2) dM).trans (by kernel_rfl)))
def BO : Ent := ⟨11, [(.dat (.p (.l .s) (.p (.l (.p (.i .i64) (.i .i64))) (.p (.l (.i .i64)) (.p (.l .s) (.l (.p (.i .i64) (.p .ex (.l (.p (.i .i64) .ex))))))))) [none, none, none, none, none]), (.dat .ex [none]), (.dat (.p (.l (.l (.i .i64))) (.l (.l (.i .i64)))) [none, none])], .bool, [], fun s => dL s.1 s.2.1 s.2.2⟩
def oL (eta : Ex → Ex) (_du : Sh → (R : Type) → Option R → Option R) (m : Q4) (e : Ex) (l : Q17) : Option Bool := (dC m l).bind fun r11 => aJ r11 default (kB l) fun r14 => aJ r11 default (ox (eta e) r14) fun r23 => ab (!r23) fun b29 => ab (r11 && b29) fun b31 => some b31
theorem qj : (BO).Ok X0.P X0.Γ :=
 az .o Tryz.call11 Tryz.func11 (ok1 nE (ok1 rP (ok1 zY ok0))) ok0 ok0 fun s => (show _ = oL gP duE s.1 s.2.1 s.2.2 from by kernel_rfl).trans ((congrArg (fun eta => oL eta duE s.1 s.2.1 s.2.2) cM).trans ((congrArg (fun du => oL id du s.1 s.2.1 s.2.2) dM).trans (by kernel_rfl)))
def uR : Ent := ⟨15, [(.sli (.i .i64)), (.sli (.i .i64))], .bool, [], fun s => oU s.1 s.2⟩
theorem rY : (uR).Ok X0.P X0.Γ :=
 az (.c .o (.l ⟨[(false, 5, (.int .i64))], []⟩ .o)) Tryz.call15 Tryz.func15 ok0 ok0 ok0 fun _ => by kernel_rfl
def uf : Ent := ⟨18, [(.sli (.l (.i .i64))), (.sli (.l (.i .i64)))], .bool, [], fun s => kb s.1 s.2⟩
theorem ri : (uf).Ok X0.P X0.Γ :=
 az (.c .o (.l ⟨[(false, 5, (.int .i64))], []⟩ .o)) Tryz.call18 Tryz.func18 (ok1 rY ok0) ok0 ok0 fun _ => by kernel_rfl
def sQ : Ent := ⟨7, [], .bool, [], fun _ => gJ⟩
theorem qd : (sQ).Ok X0.P X0.Γ :=
 az .o Tryz.call7 Tryz.func7 (ok1 lO (ok1 BQ (ok1 rP (ok1 qj (ok1 nE (ok1 ri ok0)))))) ok0 ok0 fun _ => by kernel_rfl
def uN : Ent := ⟨9, [(.dat (.p (.l (.l (.i .i64))) (.l (.l (.i .i64)))) [none, none]), (.int .i64)], .bool, [], fun s => fN s.1 s.2⟩
theorem rT : (uN).Ok X0.P X0.Γ :=
 az (.c .o (.l ⟨[(false, 5, (.int .i64))], []⟩ (.c .o (.l ⟨[(false, 6, (.int .i64))], []⟩ .o)))) Tryz.call9 Tryz.func9 ok0 ok0 ok0 fun _ => by kernel_rfl
def mT : Ent := ⟨47, [(.dat .ex [none]), (.int .i64)], (.int .i64), [], fun s => hU s.1 s.2⟩
def qW (eta : Ex → Ex) (_du : Sh → (R : Type) → Option R → Option R) (cD : Q22 → Option Int) (e : Ex) (most : Int) (again8 : Q23 → Option Int) : Int × Int → Option Int := fun ⟨d6, i7⟩ => ab (decide (i7 < (List.length e.l : Int))) fun b9 => ab (decide (1 < most)) fun b11 => ab (b9 && b11) fun b13 => bif b13 then ( (idx e.l i7).bind fun e16 => (cD ((eta e16), (IntKind.i64.wrap (most - 1)))).bind fun r22 => bif (decide (d6 < (IntKind.i64.wrap (1 + r22)))) then ( again8 ((IntKind.i64.wrap (1 + r22)), (IntKind.i64.wrap (i7 + 1)))) else ( again8 (d6, (IntKind.i64.wrap (i7 + 1))))) else ( some d6)
def iG (eta : Ex → Ex) (du : Sh → (R : Type) → Option R → Option R) (cD : Q22 → Option Int) (e : Ex) (most : Int) : Option Int := al (qW eta du cD e most) au (1, 0)
def mV : TK5 → TK5 := fun k5 s => jv k5 s.1 s.2
theorem pB (k5 : TK5) (i5 : OK5 k5) : (fE (mV k5)).Ok X0.P X0.Γ :=
 az (.l ⟨[(false, 5, (.int .i64)), (false, 6, (.int .i64))], []⟩ .o) Tryz.call47 Tryz.func47 (ok1 i5 ok0) ok0 ok0 fun s => (show _ = iG gP duE k5 s.1 s.2 from by kernel_rfl).trans ((congrArg (fun eta => iG eta duE k5 s.1 s.2) cM).trans ((congrArg (fun du => iG id du k5 s.1 s.2) dM).trans (by kernel_rfl)))
theorem rb : (mT).Ok X0.P X0.Γ := (show mT = fE (al (mV) au) by kernel_rfl) ▸ kr (X := X0) (E := fE) ⟨Tryz.call47, fun _ _ h => nomatch h⟩ (pB) au
def mF : Ent := ⟨48, [(.dat .ex [none]), (.int .i64)], (.int .i64), [], fun s => ia s.1 s.2⟩
def qV (eta : Ex → Ex) (_du : Sh → (R : Type) → Option R → Option R) (cB : Q22 → Option Int) (e : Ex) (most : Int) (again8 : Q23 → Option Int) : Int × Int → Option Int := fun ⟨n6, i7⟩ => ab (decide (i7 < (List.length e.l : Int))) fun b9 => ab (decide (n6 < most)) fun b11 => ab (b9 && b11) fun b13 => bif b13 then ( (idx e.l i7).bind fun e16 => (cB ((eta e16), most)).bind fun r22 => again8 ((IntKind.i64.wrap (n6 + r22)), (IntKind.i64.wrap (i7 + 1)))) else ( some n6)
def iA (eta : Ex → Ex) (du : Sh → (R : Type) → Option R → Option R) (cB : Q22 → Option Int) (e : Ex) (most : Int) : Option Int := al (qV eta du cB e most) au (1, 0)
def mR : TK6 → TK6 := fun k6 s => jm k6 s.1 s.2
theorem pz (k6 : TK6) (i6 : OK6 k6) : (fF (mR k6)).Ok X0.P X0.Γ :=
 az (.l ⟨[(false, 5, (.int .i64)), (false, 6, (.int .i64))], []⟩ .o) Tryz.call48 Tryz.func48 (ok1 i6 ok0) ok0 ok0 fun s => (show _ = iA gP duE k6 s.1 s.2 from by kernel_rfl).trans ((congrArg (fun eta => iA eta duE k6 s.1 s.2) cM).trans ((congrArg (fun du => iA id du k6 s.1 s.2) dM).trans (by kernel_rfl)))
theorem qZ : (mF).Ok X0.P X0.Γ := (show mF = fF (al (mR) au) by kernel_rfl) ▸ kr (X := X0) (E := fF) ⟨Tryz.call48, fun _ _ h => nomatch h⟩ (pz) au
def uQ : Ent := ⟨20, [(.dat .ex [none])], .bool, [], fun s => fQ s⟩
def jG (eta : Ex → Ex) (_du : Sh → (R : Type) → Option R → Option R) (e : Ex) : Option Bool := (hU (eta e) 45).bind fun r5 => (ia (eta e) 300).bind fun r8 => ab (decide (r5 < 45)) fun b11 => ab (decide (r8 < 300)) fun b13 => ab (b11 && b13) fun b15 => some b15
theorem sy : (uQ).Ok X0.P X0.Γ :=
 az .o Tryz.call20 Tryz.func20 (ok1 rb (ok1 qZ ok0)) ok0 ok0 fun s => (show _ = jG gP duE s from by kernel_rfl).trans ((congrArg (fun eta => jG eta duE s) cM).trans ((congrArg (fun du => jG id du s) dM).trans (by kernel_rfl)))
def np : Ent := ⟨21, [(.dat .ex [none]), (.int .i64)], .bool, [], fun s => iJ s.1 s.2⟩
def rZ (eta : Ex → Ex) (_du : Sh → (R : Type) → Option R → Option R) (bh : Q22 → Option Bool) (e : Ex) (vars : Int) (want6 : Int) (again51 : Int → Option Bool) (i50 : Int) : Option Bool := bif (decide (i50 < want6)) then ( (idx e.l i50).bind fun e53 => (bh ((eta e53), vars)).bind fun r59 => bif (!r59) then ( some false) else ( again51 (IntKind.i64.wrap (i50 + 1)))) else ( some true)
def sF (eta : Ex → Ex) (du : Sh → (R : Type) → Option R → Option R) (bh : Q22 → Option Bool) (e : Ex) (vars : Int) (want6 : Int) : Option Bool := ab (decide (e.op < 1)) fun b7 => ab (decide (24 < e.op)) fun b9 => ab (b7 || b9) fun b11 => ab ((List.length e.l : Int) != want6) fun b13 => ab (b11 || b13) fun b15 => bif b15 then ( some false) else ( ab (e.op == 1) fun b18 => ab (decide (e.n < 0)) fun b20 => ab (decide (1073741824 < e.n)) fun b22 => ab (b20 || b22) fun b24 => ab (b18 && b24) fun b26 => ab (e.op == 2) fun b28 => ab (decide (e.n < 0)) fun b30 => ab (decide (vars ≤ e.n)) fun b32 => ab (b30 || b32) fun b34 => ab (b28 && b34) fun b36 => ab (b26 || b36) fun b38 => ab (decide (2 < e.op)) fun b40 => ab (e.n != 0) fun b42 => ab (b40 && b42) fun b44 => ab (b38 || b44) fun b46 => bif b46 then ( some false) else ( al (rZ eta du bh e vars want6) au 0))
def iX (eta : Ex → Ex) (du : Sh → (R : Type) → Option R → Option R) (bh : Q22 → Option Bool) (e : Ex) (vars : Int) : Option Bool := ab (fun (s64 : Int) => sF eta du bh e vars s64) fun kk63 => ab (fun (s78 : Bool) => jj e kk63 s78) fun kk77 => bif (e.op == 1) then ( kk77 (e.op == 1)) else ( bif (e.op == 2) then ( kk77 (e.op == 2)) else ( bif (e.op == 13) then ( kk77 (e.op == 13)) else ( kk77 (e.op == 14))))
def nn : TK7 → TK7 := fun k7 s => dJ k7 s.1 s.2
theorem pW (k7 : TK7) (i7 : OK7 k7) : (fS (nn k7)).Ok X0.P X0.Γ :=
 az (.s (.s (.j ⟨[(false, 5, (.int .i64))], []⟩ (.s (.j ⟨[(false, 10, .bool)], []⟩ .o (.c .o (.j ⟨[(false, 15, .bool)], []⟩ .o .o)))) (.c .o (.c .o (.l ⟨[(false, 6, (.int .i64))], []⟩ .o)))))) Tryz.call21 Tryz.func21 (ok1 i7 ok0) ok0 ok0 fun s => (show _ = iX gP duE k7 s.1 s.2 from by kernel_rfl).trans ((congrArg (fun eta => iX eta duE k7 s.1 s.2) cM).trans ((congrArg (fun du => iX id du k7 s.1 s.2) dM).trans (by kernel_rfl)))
theorem sn : (np).Ok X0.P X0.Γ := (show np = fS (al (nn) au) by kernel_rfl) ▸ kr (X := X0) (E := fS) ⟨Tryz.call21, fun _ _ h => nomatch h⟩ (pW) au
def q9 : Ent := ⟨10, [(.dat .ex [none]), (.int .i64)], .bool, [], fun s => dV s.1 s.2⟩
def gL (eta : Ex → Ex) (_du : Sh → (R : Type) → Option R → Option R) (e : Ex) (vars : Int) : Option Bool := (fQ (eta e)).bind fun r5 => (iJ (eta e) vars).bind fun r8 => ab (!r5) fun b11 => ab (!r8) fun b13 => ab (b11 || b13) fun b15 => bif b15 then ( some false) else ( (cq (eta e)).bind fun r18 => ab (r18.2.1 == 0) fun b21 => ab (r18.1 != 1) fun b23 => ab (b21 && b23) fun b25 => some b25)
theorem oT : (q9).Ok X0.P X0.Γ :=
 az .o Tryz.call10 Tryz.func10 (ok1 sy (ok1 sn (ok1 kD ok0))) ok0 ok0 fun s => (show _ = gL gP duE s.1 s.2 from by kernel_rfl).trans ((congrArg (fun eta => gL eta duE s.1 s.2) cM).trans ((congrArg (fun du => gL id du s.1 s.2) dM).trans (by kernel_rfl)))
end
end Go.Proofs.YtpnogcmollnjeaaGreatDoor
