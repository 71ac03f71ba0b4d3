/-
  Own texts for the statement LassoEither, cut down to what it needs: Model, KLay, KIto, KGrow, KGr, Den, TrA, TrType. (cut and joined by a program)
-/
import Derived.Test.YtpnogcmollnjeaaGreatDoorLassoEitherA
import Derived.Test.YtpnogcmollnjeaaGreatDoorLassoEitherB
import Derived.Test.YtpnogcmollnjeaaGreatDoorLassoEitherC
import Derived.Test.YtpnogcmollnjeaaGreatDoorLassoEitherD
import Derived.Shelf.Strconv.Itoa3
import Derived.Ground.NamesProg
import Derived.Test.YtpnogcmollnjeaaGreatDoorProg
import Derived.Shelf.Spec.SlicesGrow
import Derived.KernelRfl
namespace Go.Proofs.YtpnogcmollnjeaaGreatDoor
abbrev Q1 := (List (Int × Ex × (List (Int × Ex))))
abbrev Q2 := (List (Int × Str × Int × Int))
abbrev Q3 := (List Int)
abbrev Q4 := ((List Str) × (List (Int × Int)) × Q3 × (List Str) × Q1)
abbrev Q5 := (List Bool)
abbrev Q6 := (Ex × Int × Int × Int)
abbrev Q7 := (List Str)
abbrev Q8 := (List (Int × Int))
abbrev Q9 := (Int × Int × Int)
abbrev Q10 := (Int × Int × Q2 × Int × Q7 × Int × Int)
abbrev Q11 := (Int × Str × Int × Int)
abbrev Q12 := (Int × Q1 × Int × Int)
abbrev Q13 := ((List Q3) × Int)
abbrev Q14 := (Int × Int × Int × (List (Int × Ex)) × Bool)
abbrev Q15 := (Int × Int × Int × Int)
abbrev Q16 := (Q2 × Int × Int)
abbrev Q17 := ((List Q3) × (List Q3))
abbrev Q18 := (List (Int × Ex))
abbrev Q19 := (Int × Q7 × Q8 × Q3 × Q7 × Q1 × Int × Int)
abbrev Q20 := (Option (List (Str × Bool)))
abbrev Q21 := (Q4 × Int × Int)
abbrev Q22 := (Ex × Int)
abbrev Q23 := (Int × Int)
abbrev Q24 := (Q5 × Int)
abbrev Q25 := (Int × Ex × Q18)
abbrev Q26 := (Q3 × Int)
noncomputable section
def nP : List Int := [1, 10, 100, 1000, 10000, 100000, 1000000, 10000000, 100000000, 1000000000, 10000000000, 100000000000, 1000000000000, 10000000000000, 100000000000000, 1000000000000000, 10000000000000000, 100000000000000000, 1000000000000000000, 10000000000000000000]
def BD (n : Int) : Option Str := chk (zm n) (some (Lib.itoa n))
def yA (n : Int) : Option (List Q3) := chk (decide (0 ≤ n) && aA (Int.toNat n) 24) (some [])
def cX (c : Int) : Option Int := ab (c == 9) fun b3 => ab (c == 10) fun b5 => ab (b3 || b5) fun b7 => ab (c == 13) fun b9 => ab (b7 || b9) fun b11 => ab (c == 32) fun b13 => ab (b11 || b13) fun b15 => bif b15 then ( some 0) else ( ab (decide (97 ≤ c)) fun b18 => ab (decide (c ≤ 122)) fun b20 => ab (b18 && b20) fun b22 => ab (decide (65 ≤ c)) fun b24 => ab (decide (c ≤ 90)) fun b26 => ab (b24 && b26) fun b28 => ab (b22 || b28) fun b30 => ab (c == 95) fun b32 => ab (b30 || b32) fun b34 => bif b34 then ( some 1) else ( ab (decide (48 ≤ c)) fun b37 => ab (decide (c ≤ 57)) fun b39 => ab (b37 && b39) fun b41 => bif b41 then ( some 2) else ( some 3)))
def ju : Option Q7 := some ([[60, 45, 62], [45, 62], [61, 61], [33, 61], [60, 61], [62, 61], [60], [62], [61], [43], [45], [42], [40], [41], [123], [125], [59], [44], [58], [38], [124], [33]] : List Str)
def dm (text : Str) (out9 : Q2) (again13 : (Q2 × Int) → Option Q16) (again24 : Int → Option Q16) (i23 : Int) : Option Q16 := ab (decide (i23 < (List.length text : Int))) fun b25 => tz b25 (inB i23 (List.length text)) <| ab ((gK text i23) != 10) fun b28 => ab (b25 && b28) fun b30 => bif b30 then ( again24 (IntKind.i64.wrap (i23 + 1))) else ( again13 (out9, i23))
def cg (text : Str) (out9 : Q2) (i12 : Int) (again13 : (Q2 × Int) → Option Q16) (again36 : Int → Option Q16) (i35 : Int) : Option Q16 := ab (decide (i35 < (List.length text : Int))) fun b37 => tz b37 (inB i35 (List.length text)) <| aT b37 default (cX (gK text i35)) fun r40 => ab (r40 == 1) fun b46 => tz (b37 && !b46) (inB i35 (List.length text)) <| aT (b37 && !b46) default (cX (gK text i35)) fun r49 => ab (r49 == 2) fun b55 => ab (b46 || b55) fun b57 => ab (b37 && b57) fun b59 => bif b59 then ( again36 (IntKind.i64.wrap (i35 + 1))) else ( bif (decide (32 < (IntKind.i64.wrap (i35 - i12)))) then ( some ([], 9, i12)) else ( chk (je i12 i35 (List.length text)) <| chk (aA (List.length out9 + List.length ([(1, (cut text i12 i35), 0, i12)] : List Q11)) 40) <| again13 ((out9 ++ ([(1, (cut text i12 i35), 0, i12)] : List Q11)), i35)))
def cj (text : Str) (out9 : Q2) (i12 : Int) (again13 : (Q2 × Int) → Option Q16) (again74 : Q23 → Option Q16) : Int × Int → Option Q16 := fun ⟨i72, n73⟩ => ab (decide (i72 < (List.length text : Int))) fun b75 => tz b75 (inB i72 (List.length text)) <| aT b75 default (cX (gK text i72)) fun r78 => ab (r78 == 2) fun b84 => ab (b75 && b84) fun b86 => bif b86 then ( bif (decide (n73 ≤ 1073741824)) then ( chk (inB i72 (List.length text)) <| again74 ((IntKind.i64.wrap (i72 + 1)), (IntKind.i64.wrap ((IntKind.i64.wrap ((IntKind.i64.wrap (10 * n73)) + (IntKind.i64.wrap (gK text i72)))) - 48)))) else ( again74 ((IntKind.i64.wrap (i72 + 1)), n73))) else ( bif (decide (1073741824 < n73)) then ( some ([], 9, i12)) else ( chk (je i12 i72 (List.length text)) <| chk (aA (List.length out9 + List.length ([(2, (cut text i12 i72), n73, i12)] : List Q11)) 40) <| again13 ((out9 ++ ([(2, (cut text i12 i72), n73, i12)] : List Q11)), i72)))
def aQ (text : Str) (out9 : Q2) (i12 : Int) (again13 : (Q2 × Int) → Option Q16) (r99 : Q7) (again107 : (Str × Int) → Option Q16) : Str × Int → Option Q16 := fun ⟨s105, j106⟩ => ab (decide (j106 < (List.length r99 : Int))) fun b108 => ab (s105 == []) fun b110 => ab (b108 && b110) fun b112 => bif b112 then ( (idx r99 j106).bind fun e117 => ab (decide ((List.length e117 : Int) ≤ (IntKind.i64.wrap ((List.length text : Int) - i12)))) fun b119 => aT b119 [] (idx r99 j106) fun e121 => tz b119 (je i12 (IntKind.i64.wrap (i12 + (List.length e121 : Int))) (List.length text)) <| aT b119 [] (idx r99 j106) fun e124 => ab ((cut text i12 (IntKind.i64.wrap (i12 + (List.length e121 : Int)))) == e124) fun b126 => ab (b119 && b126) fun b128 => bif b128 then ( (idx r99 j106).bind fun e131 => again107 (e131, (IntKind.i64.wrap (j106 + 1)))) else ( again107 (s105, (IntKind.i64.wrap (j106 + 1))))) else ( bif (s105 == []) then ( some ([], 2, i12)) else ( chk (aA (List.length out9 + List.length ([(3, s105, 0, i12)] : List Q11)) 40) <| again13 ((out9 ++ ([(3, s105, 0, i12)] : List Q11)), (IntKind.i64.wrap (i12 + (List.length s105 : Int))))))
def eI (text : Str) (again13 : (Q2 × Int) → Option Q16) : Q2 × Int → Option Q16 := fun ⟨out9, i12⟩ => bif (decide (i12 < (List.length text : Int))) then ( chk (inB i12 (List.length text)) <| (cX (gK text i12)).bind fun r16 => bif (r16 == 0) then ( again13 (out9, (IntKind.i64.wrap (i12 + 1)))) else ( chk (inB i12 (List.length text)) <| bif ((gK text i12) == 35) then ( al (dm text out9 again13) aq i12) else ( bif (r16 == 1) then ( al (cg text out9 i12 again13) aq i12) else ( bif (r16 == 2) then ( al (cj text out9 i12 again13) aq (i12, 0)) else ( (ju).bind fun r99 => al (aQ text out9 i12 again13 r99) aq ([], 0)))))) else ( chk (aA (List.length out9 + List.length ([(4, [], 0, (List.length text : Int))] : List Q11)) 40) <| some ((out9 ++ ([(4, [], 0, (List.length text : Int))] : List Q11)), 0, 0))
def dk (text : Str) : Option Q16 := bif (decide (65536 < (List.length text : Int))) then ( some ([], 9, 0)) else ( al (eI text) aq ([], 0))
def aW (kind : Int) (text : Str) (l : Q2) (at_ : Int) (_Names : Q7) (_Schema : Q8) (_Init : Q3) (_Procs : Q7) (_Cmd : Q1) (bad : Int) (_place : Int) : Option Bool := ab (bad == 0) fun b5 => aT b5 (0, [], 0, 0) (idx l at_) fun e7 => ab (e7.1 == kind) fun b9 => ab (b5 && b9) fun b11 => aT b11 (0, [], 0, 0) (idx l at_) fun e13 => ab (e13.2.1 == text) fun b15 => ab (b11 && b15) fun b17 => some b17
def lU (t4 : Bool) : Option Bool := bif t4 then ( some true) else ( some false)
def er (name : Str) : Option Bool := ab (fun (s7 : Bool) => lU s7) fun kk6 => bif (name == [116, 114, 117, 101]) then ( kk6 (name == [116, 114, 117, 101])) else ( bif (name == [102, 97, 108, 115, 101]) then ( kk6 (name == [102, 97, 108, 115, 101])) else ( bif (name == [88]) then ( kk6 (name == [88])) else ( bif (name == [70]) then ( kk6 (name == [70])) else ( bif (name == [71]) then ( kk6 (name == [71])) else ( bif (name == [85]) then ( kk6 (name == [85])) else ( bif (name == [82]) then ( kk6 (name == [82])) else ( bif (name == [118, 97, 114]) then ( kk6 (name == [118, 97, 114])) else ( kk6 (name == [112, 114, 111, 99])))))))))
def ar (bad : Int) (place : Int) (_l : Q2) (_at_ : Int) (_Names : Q7) (_Schema : Q8) (_Init : Q3) (_Procs : Q7) (_Cmd : Q1) (bad19 : Int) (place20 : Int) : Option Q23 := bif (bad19 == 0) then ( some (bad, place)) else ( some (bad19, place20))
def cO (l : Q7) (name : Str) (again5 : Int → Option Int) (i4 : Int) : Option Int := bif (decide (i4 < (List.length l : Int))) then ( (idx l i4).bind fun e7 => bif (e7 == name) then ( some i4) else ( again5 (IntKind.i64.wrap (i4 + 1)))) else ( some (-1))
def bp (l : Q7) (name : Str) : Option Int := al (cO l name) aq 0
def dp (full : Bool) (l : Q2) (at_ : Int) (Names : Q7) (Schema : Q8) (Init : Q3) (Procs : Q7) (Cmd : Q1) (bad : Int) (place : Int) : Option (Str × Int × Int × Int) := (idx l at_).bind fun e8 => (er e8.2.1).bind fun r13 => bif (e8.1 != 1) then ( (ar 2 e8.2.2.2 l at_ Names Schema Init Procs Cmd bad place).bind fun r17 => some (e8.2.1, at_, r17.1, r17.2)) else ( aT (!r13) default (bp Names e8.2.1) fun r22 => ab (decide (0 ≤ r22)) fun b28 => ab (r13 || b28) fun b30 => aT (!b30) default (bp Procs e8.2.1) fun r32 => ab (decide (0 ≤ r32)) fun b38 => ab (b30 || b38) fun b40 => bif b40 then ( (ar 3 e8.2.2.2 l at_ Names Schema Init Procs Cmd bad place).bind fun r43 => some (e8.2.1, at_, r43.1, r43.2)) else ( bif full then ( (ar 9 e8.2.2.2 l at_ Names Schema Init Procs Cmd bad place).bind fun r47 => some (e8.2.1, at_, r47.1, r47.2)) else ( bif (bad == 0) then ( some (e8.2.1, (IntKind.i64.wrap (at_ + 1)), bad, place)) else ( some (e8.2.1, at_, bad, place)))))
def aB (l : Q2) (at_ : Int) (_Names : Q7) (_Schema : Q8) (_Init : Q3) (_Procs : Q7) (_Cmd : Q1) (_bad : Int) (_place : Int) : Option Int := (idx l at_).bind fun e5 => some e5.2.2.2
def aR (text : Str) (l : Q2) (at_ : Int) (Names : Q7) (Schema : Q8) (Init : Q3) (Procs : Q7) (Cmd : Q1) (bad : Int) (place : Int) : Option Q9 := (aW 3 text l at_ Names Schema Init Procs Cmd bad place).bind fun r5 => bif (!r5) then ( (aB l at_ Names Schema Init Procs Cmd bad place).bind fun r9 => (ar 2 r9 l at_ Names Schema Init Procs Cmd bad place).bind fun r12 => some (at_, r12.1, r12.2)) else ( some ((IntKind.i64.wrap (at_ + 1)), bad, place))
def fH (strength : Int) : Option Bool := ab (strength == 1) fun b3 => ab (strength == 2) fun b5 => ab (b3 || b5) fun b7 => ab (strength == 5) fun b9 => ab (b7 || b9) fun b11 => ab (strength == 6) fun b13 => ab (b11 || b13) fun b15 => ab (strength == 10) fun b17 => ab (b15 || b17) fun b19 => some b19
def aK (bad : Int) (l : Q2) (at_ : Int) (_names : Q7) (bad7 : Int) (place : Int) : Option (Ex × Int × Int) := bif (bad7 == 0) then ( (idx l at_).bind fun e13 => some ((Ex.mk 0 0 0 []), bad, e13.2.2.2)) else ( some ((Ex.mk 0 0 0 []), bad7, place))
def bX (l : Q2) (at_ : Int) (names : Q7) (bad : Int) (place : Int) (e12 : Q11) (again50 : Int → Option Q6) (i49 : Int) : Option Q6 := bif (decide (i49 < (List.length names : Int))) then ( (idx names i49).bind fun e54 => bif (e54 == e12.2.1) then ( some ((Ex.mk 2 i49 e12.2.2.2 []), (IntKind.i64.wrap (at_ + 1)), bad, place)) else ( again50 (IntKind.i64.wrap (i49 + 1)))) else ( (aK 3 l at_ names bad place).bind fun r59 => some (r59.1, at_, r59.2.1, r59.2.2))
def bU (ah : Q10 → Option Q6) (deep : Int) (l : Q2) (at_ : Int) (names : Q7) (bad : Int) (place : Int) : Option Q6 := (idx l at_).bind fun e12 => bif (e12.1 == 2) then ( some ((Ex.mk 1 e12.2.2.1 e12.2.2.2 []), (IntKind.i64.wrap (at_ + 1)), bad, place)) else ( ab (e12.1 == 1) fun b20 => ab (e12.2.1 == [116, 114, 117, 101]) fun b22 => ab (b20 && b22) fun b24 => bif b24 then ( some ((Ex.mk 13 0 e12.2.2.2 []), (IntKind.i64.wrap (at_ + 1)), bad, place)) else ( ab (e12.1 == 1) fun b29 => ab (e12.2.1 == [102, 97, 108, 115, 101]) fun b31 => ab (b29 && b31) fun b33 => bif b33 then ( some ((Ex.mk 14 0 e12.2.2.2 []), (IntKind.i64.wrap (at_ + 1)), bad, place)) else ( (er e12.2.1).bind fun r38 => ab (e12.1 == 1) fun b41 => ab (!r38) fun b43 => ab (b41 && b43) fun b45 => bif b45 then ( al (bX l at_ names bad place e12) aq 0) else ( ab (e12.1 != 3) fun b65 => ab (e12.2.1 != [40]) fun b67 => ab (b65 || b67) fun b69 => bif b69 then ( (aK 2 l at_ names bad place).bind fun r72 => some (r72.1, at_, r72.2.1, r72.2.2)) else ( (ah (1, deep, l, (IntKind.i64.wrap (at_ + 1)), names, bad, place)).bind fun r79 => bif (r79.2.2.1 != 0) then ( some ((Ex.mk 0 0 0 []), r79.2.1, r79.2.2.1, r79.2.2.2)) else ( (idx l r79.2.1).bind fun e91 => ab (e91.1 != 3) fun b93 => aT (!b93) (0, [], 0, 0) (idx l r79.2.1) fun e95 => ab (e95.2.1 != [41]) fun b97 => ab (b93 || b97) fun b99 => bif b99 then ( (aK 2 l r79.2.1 names r79.2.2.1 r79.2.2.2).bind fun r102 => some (r102.1, r79.2.1, r102.2.1, r102.2.2)) else ( some (r79.1, (IntKind.i64.wrap (r79.2.1 + 1)), r79.2.2.1, r79.2.2.2))))))))
def aC (t : Q11) (again28 : Int → Option Int) (i27 : Int) : Option Int := bif (decide (i27 < 6)) then ( (idx ([[61, 61], [33, 61], [60], [60, 61], [62], [62, 61]] : List Str) i27).bind fun e30 => bif (t.2.1 == e30) then ( some (IntKind.i64.wrap (7 + i27))) else ( again28 (IntKind.i64.wrap (i27 + 1)))) else ( some 0)
def bm (t : Q11) (strength : Int) : Option Int := ab (t.1 != 2) fun b5 => ab (t.1 != 4) fun b7 => ab (b5 && b7) fun b9 => bif b9 then ( bif (strength == 1) then ( bif (t.2.1 == [60, 45, 62]) then ( some 19) else ( some 0)) else ( bif (strength == 2) then ( bif (t.2.1 == [45, 62]) then ( some 18) else ( some 0)) else ( bif (strength == 3) then ( bif (t.2.1 == [124]) then ( some 17) else ( some 0)) else ( bif (strength == 4) then ( bif (t.2.1 == [38]) then ( some 16) else ( some 0)) else ( bif (strength == 5) then ( bif (t.2.1 == [85]) then ( some 23) else ( bif (t.2.1 == [82]) then ( some 24) else ( some 0))) else ( bif (strength == 7) then ( al (aC t) aq 0) else ( bif (strength == 8) then ( bif (t.2.1 == [43]) then ( some 3) else ( bif (t.2.1 == [45]) then ( some 4) else ( some 0))) else ( bif (strength == 9) then ( bif (t.2.1 == [42]) then ( some 5) else ( some 0)) else ( some 0))))))))) else ( some 0)
def eB (ah : Q10 → Option Q6) (l : Q2) (at_ : Int) (names : Q7) (bad : Int) (place : Int) (deep16 : Int) (e30 : Q11) (k43 : Int) : Option Q6 := bif (k43 == 0) then ( (ah (7, deep16, l, at_, names, bad, place)).bind fun r45 => some (r45.1, r45.2.1, r45.2.2.1, r45.2.2.2)) else ( (ah (6, deep16, l, (IntKind.i64.wrap (at_ + 1)), names, bad, place)).bind fun r52 => some ((Ex.mk k43 0 e30.2.2.2 ([r52.1] : List Ex)), r52.2.1, r52.2.2.1, r52.2.2.2))
def iq (ah : Q10 → Option Q6) (l : Q2) (at_ : Int) (names : Q7) (bad : Int) (place : Int) (deep16 : Int) (e30 : Q11) (k41 : Int) : Option Q6 := ab (fun (s64 : Int) => eB ah l at_ names bad place deep16 e30 s64) fun kk63 => ab (e30.1 == 1) fun b65 => ab (e30.2.1 == [71]) fun b67 => ab (b65 && b67) fun b69 => bif b69 then ( kk63 22) else ( kk63 k41)
def ir (ah : Q10 → Option Q6) (l : Q2) (at_ : Int) (names : Q7) (bad : Int) (place : Int) (deep16 : Int) (e30 : Q11) (k39 : Int) : Option Q6 := ab (fun (s73 : Int) => iq ah l at_ names bad place deep16 e30 s73) fun kk72 => ab (e30.1 == 1) fun b74 => ab (e30.2.1 == [70]) fun b76 => ab (b74 && b76) fun b78 => bif b78 then ( kk72 21) else ( kk72 k39)
def bD (ah : Q10 → Option Q6) (l : Q2) (at_ : Int) (names : Q7) (bad : Int) (place : Int) (deep16 : Int) (e30 : Q11) (k37 : Int) : Option Q6 := ab (fun (s82 : Int) => ir ah l at_ names bad place deep16 e30 s82) fun kk81 => ab (e30.1 == 1) fun b83 => ab (e30.2.1 == [88]) fun b85 => ab (b83 && b85) fun b87 => bif b87 then ( kk81 20) else ( kk81 k37)
def bB (ah : Q10 → Option Q6) (strength : Int) (l : Q2) (names : Q7) (deep16 : Int) (again143 : (Int × Int × Int × Int × Int × Int × (List Ex)) → Option Q6) : Int × Int × Int × Int × Int × Int × (List Ex) → Option Q6 := fun ⟨c134, c135, c136, c137, c138, c139, c140⟩ => bif (c135 == 0) then ( (idx l c134).bind fun e147 => (bm e147 strength).bind fun r152 => bif (r152 == 0) then ( some ((Ex.mk c137 c138 c139 c140), c134, c135, c136)) else ( ab (strength == 1) fun b158 => ab (strength == 2) fun b160 => ab (b158 || b160) fun b162 => ab (strength == 5) fun b164 => ab (b162 || b164) fun b166 => bif b166 then ( (ah (strength, deep16, l, (IntKind.i64.wrap (c134 + 1)), names, c135, c136)).bind fun r169 => some ((Ex.mk r152 0 e147.2.2.2 ([(Ex.mk c137 c138 c139 c140), r169.1] : List Ex)), r169.2.1, r169.2.2.1, r169.2.2.2)) else ( (ah ((IntKind.i64.wrap (strength + 1)), deep16, l, (IntKind.i64.wrap (c134 + 1)), names, c135, c136)).bind fun r180 => bif (strength == 7) then ( some ((Ex.mk r152 0 e147.2.2.2 ([(Ex.mk c137 c138 c139 c140), r180.1] : List Ex)), r180.2.1, r180.2.2.1, r180.2.2.2)) else ( again143 (r180.2.1, r180.2.2.1, r180.2.2.2, r152, 0, e147.2.2.2, ([(Ex.mk c137 c138 c139 c140), r180.1] : List Ex)))))) else ( some ((Ex.mk c137 c138 c139 c140), c134, c135, c136))
def ez (ah : Q10 → Option Q6) (strength : Int) (l : Q2) (at_ : Int) (names : Q7) (bad : Int) (place : Int) (r12 : Bool) (deep16 : Int) : Option Q6 := ab (decide (320 < deep16)) fun b17 => ab (r12 && b17) fun b19 => bif b19 then ( (aK 9 l at_ names bad place).bind fun r22 => some (r22.1, at_, r22.2.1, r22.2.2)) else ( (idx l at_).bind fun e30 => bif (strength == 6) then ( ab (fun (s91 : Int) => bD ah l at_ names bad place deep16 e30 s91) fun kk90 => ab (e30.1 == 3) fun b92 => ab (e30.2.1 == [33]) fun b94 => ab (b92 && b94) fun b96 => bif b96 then ( kk90 15) else ( kk90 0)) else ( bif (strength == 10) then ( ab (e30.1 != 3) fun b100 => ab (e30.2.1 != [45]) fun b102 => ab (b100 || b102) fun b104 => bif b104 then ( (bU ah deep16 l at_ names bad place).bind fun r107 => some (r107.1, r107.2.1, r107.2.2.1, r107.2.2.2)) else ( (ah (10, deep16, l, (IntKind.i64.wrap (at_ + 1)), names, bad, place)).bind fun r114 => some ((Ex.mk 6 0 e30.2.2.2 ([r114.1] : List Ex)), r114.2.1, r114.2.2.1, r114.2.2.2))) else ( (ah ((IntKind.i64.wrap (strength + 1)), deep16, l, at_, names, bad, place)).bind fun r125 => al (bB ah strength l names deep16) aq (r125.2.1, r125.2.2.1, r125.2.2.2, r125.1.op, r125.1.n, r125.1.at_, r125.1.l))))
def bE (ah : Q10 → Option Q6) (strength : Int) (deep : Int) (l : Q2) (at_ : Int) (names : Q7) (bad : Int) (place : Int) : Option Q6 := bif (bad != 0) then ( some ((Ex.mk 0 0 0 []), at_, bad, place)) else ( (fH strength).bind fun r12 => ab (fun (s195 : Int) => ez ah strength l at_ names bad place r12 s195) fun kk194 => bif r12 then ( kk194 (IntKind.i64.wrap (deep + 1))) else ( kk194 deep))
def dI (strength : Int) (deep : Int) (l : Q2) (at_ : Int) (names : Q7) (bad : Int) (place : Int) : Option Q6 :=
 al (fun k (s : Q10) => bE k s.1 s.2.1 s.2.2.1 s.2.2.2.1 s.2.2.2.2.1 s.2.2.2.2.2.1 s.2.2.2.2.2.2) aq (strength, deep, l, at_, names, bad, place)
def cH (l : Q2) (at_ : Int) (names : Q7) : Option Q6 := (dI 1 0 l at_ names 0 0).bind fun r14 => bif (r14.2.2.1 != 0) then ( some ((Ex.mk 0 0 0 []), 0, r14.2.2.1, r14.2.2.2)) else ( some (r14.1, r14.2.1, 0, 0))
def lj (times10 : Int) (i11 : Int) (again12 : Q15 → Option Q9) (r20 : Q9) (ints25 : Int) (bools27 : Int) : Option Q9 := bif (r20.1 == 3) then ( again12 (ints25, bools27, (IntKind.i64.wrap (times10 + 1)), (IntKind.i64.wrap (i11 + 1)))) else ( again12 (ints25, bools27, times10, (IntKind.i64.wrap (i11 + 1))))
def iB (bools9 : Int) (times10 : Int) (i11 : Int) (again12 : Q15 → Option Q9) (r20 : Q9) (ints25 : Int) : Option Q9 := ab (fun (s30 : Int) => lj times10 i11 again12 r20 ints25 s30) fun kk29 => bif (r20.1 == 2) then ( kk29 (IntKind.i64.wrap (bools9 + 1))) else ( kk29 bools9)
def cQ (ck : Ex → Option Q9) (e : Ex) (again12 : Q15 → Option Q9) : Int × Int × Int × Int → Option Q9 := fun ⟨ints8, bools9, times10, i11⟩ => bif (decide (i11 < (List.length e.l : Int))) then ( (idx e.l i11).bind fun e14 => (ck e14).bind fun r20 => bif (r20.2.1 != 0) then ( some (0, r20.2.1, r20.2.2)) else ( ab (fun (s33 : Int) => iB bools9 times10 i11 again12 r20 s33) fun kk32 => bif (r20.1 == 1) then ( kk32 (IntKind.i64.wrap (ints8 + 1))) else ( kk32 ints8))) else ( ab (decide (e.op ≤ 6)) fun b35 => ab (ints8 == (List.length e.l : Int)) fun b37 => ab (b35 && b37) fun b39 => bif b39 then ( some (1, 0, 0)) else ( ab (decide (7 ≤ e.op)) fun b42 => ab (decide (e.op ≤ 12)) fun b44 => ab (b42 && b44) fun b46 => ab (ints8 == (List.length e.l : Int)) fun b48 => ab (b46 && b48) fun b50 => ab (e.op == 13) fun b52 => ab (b50 || b52) fun b54 => ab (e.op == 14) fun b56 => ab (b54 || b56) fun b58 => bif b58 then ( some (2, 0, 0)) else ( ab (decide (15 ≤ e.op)) fun b61 => ab (decide (e.op ≤ 19)) fun b63 => ab (b61 && b63) fun b65 => ab (bools9 == (List.length e.l : Int)) fun b67 => ab (b65 && b67) fun b69 => bif b69 then ( some (2, 0, 0)) else ( ab (decide (15 ≤ e.op)) fun b72 => ab ((IntKind.i64.wrap (bools9 + times10)) == (List.length e.l : Int)) fun b74 => ab (b72 && b74) fun b76 => bif b76 then ( some (3, 0, 0)) else ( some (0, 4, e.at_))))))
def ei (ck : Ex → Option Q9) (e : Ex) : Option Q9 := al (cQ ck e) aq (0, 0, 0, 0)
def cd (e : Ex) : Option Q9 :=
 al (fun k (s : Ex) => ei k s) aq e
def pM (times10 : Int) (i11 : Int) (again12 : Q15 → Option Q9) (r20 : Q9) (ints25 : Int) (bools27 : Int) : Option Q9 := bif (r20.1 == 3) then ( again12 (ints25, bools27, (IntKind.i64.wrap (times10 + 1)), (IntKind.i64.wrap (i11 + 1)))) else ( again12 (ints25, bools27, times10, (IntKind.i64.wrap (i11 + 1))))
def jW (bools9 : Int) (times10 : Int) (i11 : Int) (again12 : Q15 → Option Q9) (r20 : Q9) (ints25 : Int) : Option Q9 := ab (fun (s30 : Int) => pM times10 i11 again12 r20 ints25 s30) fun kk29 => bif (r20.1 == 2) then ( kk29 (IntKind.i64.wrap (bools9 + 1))) else ( kk29 bools9)
def pO (e : Ex) (again12 : Q15 → Option Q9) : Int × Int × Int × Int → Option Q9 := fun ⟨ints8, bools9, times10, i11⟩ => bif (decide (i11 < (List.length e.l : Int))) then ( (idx e.l i11).bind fun e14 => (cd e14).bind fun r20 => bif (r20.2.1 != 0) then ( some (0, r20.2.1, r20.2.2)) else ( ab (fun (s33 : Int) => jW bools9 times10 i11 again12 r20 s33) fun kk32 => bif (r20.1 == 1) then ( kk32 (IntKind.i64.wrap (ints8 + 1))) else ( kk32 ints8))) else ( ab (decide (e.op ≤ 6)) fun b35 => ab (ints8 == (List.length e.l : Int)) fun b37 => ab (b35 && b37) fun b39 => bif b39 then ( some (1, 0, 0)) else ( ab (decide (7 ≤ e.op)) fun b42 => ab (decide (e.op ≤ 12)) fun b44 => ab (b42 && b44) fun b46 => ab (ints8 == (List.length e.l : Int)) fun b48 => ab (b46 && b48) fun b50 => ab (e.op == 13) fun b52 => ab (b50 || b52) fun b54 => ab (e.op == 14) fun b56 => ab (b54 || b56) fun b58 => bif b58 then ( some (2, 0, 0)) else ( ab (decide (15 ≤ e.op)) fun b61 => ab (decide (e.op ≤ 19)) fun b63 => ab (b61 && b63) fun b65 => ab (bools9 == (List.length e.l : Int)) fun b67 => ab (b65 && b67) fun b69 => bif b69 then ( some (2, 0, 0)) else ( ab (decide (15 ≤ e.op)) fun b72 => ab ((IntKind.i64.wrap (bools9 + times10)) == (List.length e.l : Int)) fun b74 => ab (b72 && b74) fun b76 => bif b76 then ( some (3, 0, 0)) else ( some (0, 4, e.at_))))))
def dK (e : Ex) : Option Q9 := al (pO e) aq (0, 0, 0, 0)
def fY (r14 : Q6) (c32 : Int) (c33 : Int) : Option Q6 := some (r14.1, r14.2.1, c32, c33)
def bf (want : Int) (l : Q2) (at_ : Int) (Names : Q7) (Schema : Q8) (Init : Q3) (Procs : Q7) (Cmd : Q1) (bad : Int) (place : Int) : Option Q6 := bif (bad != 0) then ( some ((Ex.mk 0 0 0 []), at_, bad, place)) else ( ( (cH l at_ Names).bind fun r14 => bif (r14.2.2.1 != 0) then ( (ar r14.2.2.1 r14.2.2.2 l at_ Names Schema Init Procs Cmd bad place).bind fun r24 => some ((Ex.mk 0 0 0 []), at_, r24.1, r24.2)) else ( (dK r14.1).bind fun r28 => ab (fun (s37 : Int × Int) => fY r14 s37.1 s37.2) fun kk36 => bif (r28.2.1 != 0) then ( (ar r28.2.1 r28.2.2 l at_ Names Schema Init Procs Cmd bad place).bind fun r39 => kk36 (r39.1, r39.2)) else ( bif (r28.1 != want) then ( (ar 4 r14.1.at_ l at_ Names Schema Init Procs Cmd bad place).bind fun r43 => kk36 (r43.1, r43.2)) else ( kk36 (bad, place))))))
def cU (l : Q2) (Names : Q7) (Schema : Q8) (Init : Q3) (Procs : Q7) (Cmd : Q1) (l28 : Q18) (again32 : Q14 → Option Q12) (r47 : Int) (c66 : Int) (c67 : Int) (c69 : Int) : Option Q12 := (aR [61] l c69 Names Schema Init Procs Cmd c66 c67).bind fun r70 => (bf 1 l r70.1 Names Schema Init Procs Cmd r70.2.1 r70.2.2).bind fun r73 => chk (aA (List.length l28 + List.length ([(r47, r73.1)] : List (Int × Ex))) 56) <| (aW 3 [44] l r73.2.1 Names Schema Init Procs Cmd r73.2.2.1 r73.2.2.2).bind fun r88 => bif r88 then ( again32 ((IntKind.i64.wrap (r73.2.1 + 1)), r73.2.2.1, r73.2.2.2, (l28 ++ ([(r47, r73.1)] : List (Int × Ex))), r88)) else ( again32 (r73.2.1, r73.2.2.1, r73.2.2.2, (l28 ++ ([(r47, r73.1)] : List (Int × Ex))), r88))
def cR (l : Q2) (Names : Q7) (Schema : Q8) (Init : Q3) (Procs : Q7) (Cmd : Q1) (c25 : Int) (l28 : Q18) (again32 : Q14 → Option Q12) (r47 : Int) (c66 : Int) (c67 : Int) : Option Q12 := ab (fun (s94 : Int) => cU l Names Schema Init Procs Cmd l28 again32 r47 c66 c67 s94) fun kk93 => bif (c66 == 0) then ( kk93 (IntKind.i64.wrap (c25 + 1))) else ( kk93 c25)
def bg (l : Q2) (Names : Q7) (Schema : Q8) (Init : Q3) (Procs : Q7) (Cmd : Q1) (c25 : Int) (c26 : Int) (c27 : Int) (l28 : Q18) (again32 : Q14 → Option Q12) (e40 : Q11) (r47 : Int) (again53 : (Bool × Int) → Option Q12) : Bool × Int → Option Q12 := fun ⟨twice51, k52⟩ => bif (decide (k52 < (List.length l28 : Int))) then ( aT (!twice51) (0, (Ex.mk 0 0 0 [])) (idx l28 k52) fun e55 => ab (e55.1 == r47) fun b61 => ab (twice51 || b61) fun b63 => again53 (b63, (IntKind.i64.wrap (k52 + 1)))) else ( ab (fun (s98 : Int × Int) => cR l Names Schema Init Procs Cmd c25 l28 again32 r47 s98.1 s98.2) fun kk97 => bif (e40.1 != 1) then ( (ar 2 e40.2.2.2 l c25 Names Schema Init Procs Cmd c26 c27).bind fun r100 => kk97 (r100.1, r100.2)) else ( ab (decide (r47 < 0)) fun b103 => ab (b103 || twice51) fun b105 => bif b105 then ( (ar 3 e40.2.2.2 l c25 Names Schema Init Procs Cmd c26 c27).bind fun r108 => kk97 (r108.1, r108.2)) else ( kk97 (c26, c27))))
def bC (l : Q2) (Names : Q7) (Schema : Q8) (Init : Q3) (Procs : Q7) (Cmd : Q1) (r15 : Q6) (again32 : Q14 → Option Q12) : Int × Int × Int × Q18 × Bool → Option Q12 := fun ⟨c25, c26, c27, l28, more31⟩ => ab (c26 == 0) fun b33 => ab (more31 && b33) fun b35 => bif b35 then ( (idx l c25).bind fun e40 => (bp Names e40.2.1).bind fun r47 => al (bg l Names Schema Init Procs Cmd c25 c26 c27 l28 again32 e40 r47) aq (false, 0)) else ( (aR [59] l c25 Names Schema Init Procs Cmd c26 c27).bind fun r111 => chk (aA (List.length Cmd + List.length ([((IntKind.i64.wrap ((List.length Procs : Int) - 1)), r15.1, l28)] : List Q25)) 80) <| some (r111.1, (Cmd ++ ([((IntKind.i64.wrap ((List.length Procs : Int) - 1)), r15.1, l28)] : List Q25)), r111.2.1, r111.2.2))
def cT (l : Q2) (at_ : Int) (Names : Q7) (Schema : Q8) (Init : Q3) (Procs : Q7) (Cmd : Q1) (c10 : Int) (c11 : Int) : Option Q12 := (bf 2 l at_ Names Schema Init Procs Cmd c10 c11).bind fun r15 => (aR [58] l r15.2.1 Names Schema Init Procs Cmd r15.2.2.1 r15.2.2.2).bind fun r21 => al (bC l Names Schema Init Procs Cmd r15) aq (r21.1, r21.2.1, r21.2.2, [], true)
def dE (l : Q2) (at_ : Int) (Names : Q7) (Schema : Q8) (Init : Q3) (Procs : Q7) (Cmd : Q1) (bad : Int) (place : Int) : Option Q12 := ab (fun (s124 : Int × Int) => cT l at_ Names Schema Init Procs Cmd s124.1 s124.2) fun kk123 => bif (decide (256 ≤ (List.length Cmd : Int))) then ( (aB l at_ Names Schema Init Procs Cmd bad place).bind fun r126 => (ar 9 r126 l at_ Names Schema Init Procs Cmd bad place).bind fun r129 => kk123 (r129.1, r129.2)) else ( kk123 (bad, place))
def dc (r6 : Bool) (c10 : Int) (e13 : Q11) (c19 : Int) (c20 : Int) : Option Q15 := bif (c19 != 0) then ( some (0, c10, c19, c20)) else ( bif r6 then ( some ((IntKind.i64.wrap (0 - e13.2.2.1)), (IntKind.i64.wrap (c10 + 1)), c19, c20)) else ( some (e13.2.2.1, (IntKind.i64.wrap (c10 + 1)), c19, c20)))
def eO (l : Q2) (Names : Q7) (Schema : Q8) (Init : Q3) (Procs : Q7) (Cmd : Q1) (bad : Int) (place : Int) (r6 : Bool) (c10 : Int) : Option Q15 := (idx l c10).bind fun e13 => ab (fun (s25 : Int × Int) => dc r6 c10 e13 s25.1 s25.2) fun kk24 => bif (e13.1 != 2) then ( (ar 2 e13.2.2.2 l c10 Names Schema Init Procs Cmd bad place).bind fun r27 => kk24 (r27.1, r27.2)) else ( kk24 (bad, place))
def bT (l : Q2) (at_ : Int) (Names : Q7) (Schema : Q8) (Init : Q3) (Procs : Q7) (Cmd : Q1) (bad : Int) (place : Int) : Option Q15 := (aW 3 [45] l at_ Names Schema Init Procs Cmd bad place).bind fun r6 => ab (fun (s31 : Int) => eO l Names Schema Init Procs Cmd bad place r6 s31) fun kk30 => bif r6 then ( kk30 (IntKind.i64.wrap (at_ + 1))) else ( kk30 at_)
def im (s : Q8) (again12 : Int → Option Bool) (i11 : Int) : Option Bool := bif (decide (i11 < (List.length s : Int))) then ( (idx s i11).bind fun e16 => (idx s i11).bind fun e18 => ab (decide (e18.2 < e16.1)) fun b20 => aT (!b20) (0, 0) (idx s i11) fun e22 => ab (decide (e22.1 < (-1073741824))) fun b24 => ab (b20 || b24) fun b26 => aT (!b26) (0, 0) (idx s i11) fun e28 => ab (decide (1073741824 < e28.2)) fun b30 => ab (b26 || b30) fun b32 => aT (!b32) (0, 0) (idx s i11) fun e34 => aT (!b32) (0, 0) (idx s i11) fun e36 => ab (decide (65535 < (IntKind.i64.wrap (e34.2 - e36.1)))) fun b38 => ab (b32 || b38) fun b40 => bif b40 then ( some false) else ( again12 (IntKind.i64.wrap (i11 + 1)))) else ( some true)
def gq (s : Q8) : Option Bool := ab (decide ((List.length s : Int) < 1)) fun b3 => ab (decide (17 < (List.length s : Int))) fun b5 => ab (b3 || b5) fun b7 => bif b7 then ( some false) else ( al (im s) aq 0)
def eb (Names : Q7) (Schema : Q8) (Init : Q3) (r15 : (Str × Int × Int × Int)) (r21 : Q15) (r24 : Q15) (r27 : Q15) (r30 : Q9) (c42 : Int) (c43 : Int) : Option (Int × Q7 × Q8 × Q3 × Int × Int) := chk (aA (List.length Names + List.length ([r15.1] : List Str)) 16) <| chk (aA (List.length Schema + List.length ([(r21.1, r24.1)] : List Q23)) 16) <| chk (aA (List.length Init + List.length ([r27.1] : List Int)) 8) <| some (r30.1, (Names ++ ([r15.1] : List Str)), (Schema ++ ([(r21.1, r24.1)] : List Q23)), (Init ++ ([r27.1] : List Int)), c42, c43)
def dy (l : Q2) (at_ : Int) (Names : Q7) (Schema : Q8) (Init : Q3) (Procs : Q7) (Cmd : Q1) (bad : Int) (place : Int) : Option (Int × Q7 × Q8 × Q3 × Int × Int) := (dp (decide (16 ≤ (List.length Names : Int))) l at_ Names Schema Init Procs Cmd bad place).bind fun r15 => (aB l r15.2.1 Names Schema Init Procs Cmd r15.2.2.1 r15.2.2.2).bind fun r18 => (bT l r15.2.1 Names Schema Init Procs Cmd r15.2.2.1 r15.2.2.2).bind fun r21 => (bT l r21.2.1 Names Schema Init Procs Cmd r21.2.2.1 r21.2.2.2).bind fun r24 => (bT l r24.2.1 Names Schema Init Procs Cmd r24.2.2.1 r24.2.2.2).bind fun r27 => (aR [59] l r27.2.1 Names Schema Init Procs Cmd r27.2.2.1 r27.2.2.2).bind fun r30 => (gq ([(r21.1, r24.1)] : List Q23)).bind fun r38 => ab (fun (s68 : Int × Int) => eb Names Schema Init r15 r21 r24 r27 r30 s68.1 s68.2) fun kk67 => ab (!r38) fun b69 => ab (decide (r27.1 < r21.1)) fun b71 => ab (b69 || b71) fun b73 => ab (decide (r24.1 < r27.1)) fun b75 => ab (b73 || b75) fun b77 => bif b77 then ( (ar 5 r18 l r30.1 Names Schema Init Procs Cmd r30.2.1 r30.2.2).bind fun r80 => kk67 (r80.1, r80.2)) else ( kk67 (r30.2.1, r30.2.2))
def dC (r17 : Q16) (l38 : Q7) (again46 : Q19 → Option Q21) (c69 : Q7) (c72 : Q8) (c75 : Q3) (r81 : (Str × Int × Int × Int)) (again105 : (Int × Q1 × Int × Int × Bool) → Option Q21) : Int × Q1 × Int × Int × Bool → Option Q21 := fun ⟨c98, c99, c102, c103, end104⟩ => ab (c102 == 0) fun b106 => ab (!end104) fun b108 => ab (b106 && b108) fun b110 => bif b110 then ( (dE r17.1 c98 c69 c72 c75 (l38 ++ ([r81.1] : List Str)) c99 c102 c103).bind fun r113 => (aW 3 [125] r17.1 r113.1 c69 c72 c75 (l38 ++ ([r81.1] : List Str)) r113.2.1 r113.2.2.1 r113.2.2.2).bind fun r118 => again105 (r113.1, r113.2.1, r113.2.2.1, r113.2.2.2, r118)) else ( (aR [125] r17.1 c98 c69 c72 c75 (l38 ++ ([r81.1] : List Str)) c99 c102 c103).bind fun r121 => again46 (r121.1, c69, c72, c75, (l38 ++ ([r81.1] : List Str)), c99, r121.2.1, r121.2.2))
def eX (r17 : Q16) (l38 : Q7) (l41 : Q1) (again46 : Q19 → Option Q21) (r59 : Bool) (c68 : Int) (c69 : Q7) (c72 : Q8) (c75 : Q3) (c78 : Int) (c79 : Int) : Option Q21 := bif r59 then ( (dp false r17.1 c68 c69 c72 c75 l38 l41 c78 c79).bind fun r81 => chk (aA (List.length l38 + List.length ([r81.1] : List Str)) 16) <| (aR [123] r17.1 r81.2.1 c69 c72 c75 (l38 ++ ([r81.1] : List Str)) l41 r81.2.2.1 r81.2.2.2).bind fun r91 => (aW 3 [125] r17.1 r91.1 c69 c72 c75 (l38 ++ ([r81.1] : List Str)) l41 r91.2.1 r91.2.2).bind fun r94 => al (dC r17 l38 again46 c69 c72 c75 r81) aq (r91.1, l41, r91.2.1, r91.2.2, r94)) else ( again46 (c68, c69, c72, c75, l38, l41, c78, c79))
def eY (r17 : Q16) (l29 : Q7) (l32 : Q8) (l35 : Q3) (l38 : Q7) (l41 : Q1) (again46 : Q19 → Option Q21) (r56 : Bool) (r59 : Bool) (c63 : Int) (c64 : Int) (c66 : Int) : Option Q21 := ab (fun (s125 : Int × Q7 × Q8 × Q3 × Int × Int) => eX r17 l38 l41 again46 r59 s125.1 s125.2.1 s125.2.2.1 s125.2.2.2.1 s125.2.2.2.2.1 s125.2.2.2.2.2) fun kk124 => bif r56 then ( (dy r17.1 c66 l29 l32 l35 l38 l41 c63 c64).bind fun r127 => kk124 (r127.1, r127.2.1, r127.2.2.1, r127.2.2.2.1, r127.2.2.2.2.1, r127.2.2.2.2.2)) else ( kk124 (c66, l29, l32, l35, c63, c64))
def fa (r17 : Q16) (c28 : Int) (l29 : Q7) (l32 : Q8) (l35 : Q3) (l38 : Q7) (l41 : Q1) (again46 : Q19 → Option Q21) (r56 : Bool) (r59 : Bool) (c63 : Int) (c64 : Int) : Option Q21 := ab (fun (s137 : Int) => eY r17 l29 l32 l35 l38 l41 again46 r56 r59 c63 c64 s137) fun kk136 => bif (c63 == 0) then ( kk136 (IntKind.i64.wrap (c28 + 1))) else ( kk136 c28)
def fe (l29 : Q7) (l32 : Q8) (l35 : Q3) (l38 : Q7) (l41 : Q1) (c156 : Int) (c157 : Int) : Option Q21 := bif (c156 != 0) then ( some (([], [], [], [], []), c156, c157)) else ( some ((l29, l32, l35, l38, l41), 0, 0))
def cG (r17 : Q16) (again46 : Q19 → Option Q21) : Int × Q7 × Q8 × Q3 × Q7 × Q1 × Int × Int → Option Q21 := fun ⟨c28, l29, l32, l35, l38, l41, c44, c45⟩ => ab (c44 == 0) fun b47 => aT b47 (0, [], 0, 0) (idx r17.1 c28) fun e49 => ab (e49.1 != 4) fun b51 => ab (b47 && b51) fun b53 => bif b53 then ( (aW 1 [118, 97, 114] r17.1 c28 l29 l32 l35 l38 l41 c44 c45).bind fun r56 => (aW 1 [112, 114, 111, 99] r17.1 c28 l29 l32 l35 l38 l41 c44 c45).bind fun r59 => ab (fun (s141 : Int × Int) => fa r17 c28 l29 l32 l35 l38 l41 again46 r56 r59 s141.1 s141.2) fun kk140 => ab (!r56) fun b142 => ab (!r59) fun b144 => ab (b142 && b144) fun b146 => bif b146 then ( (aB r17.1 c28 l29 l32 l35 l38 l41 c44 c45).bind fun r149 => (ar 2 r149 r17.1 c28 l29 l32 l35 l38 l41 c44 c45).bind fun r152 => kk140 (r152.1, r152.2)) else ( kk140 (c44, c45))) else ( ab (fun (s164 : Int × Int) => fe l29 l32 l35 l38 l41 s164.1 s164.2) fun kk163 => bif ((List.length l29 : Int) == 0) then ( (aB r17.1 c28 l29 l32 l35 l38 l41 c44 c45).bind fun r166 => (ar 2 r166 r17.1 c28 l29 l32 l35 l38 l41 c44 c45).bind fun r169 => kk163 (r169.1, r169.2)) else ( kk163 (c44, c45)))
def cJ (text : Str) : Option Q21 := (dk text).bind fun r17 => bif (r17.2.1 != 0) then ( some (([], [], [], [], []), r17.2.1, r17.2.2)) else ( al (cG r17) aq (0, [], [], [], [], [], 0, 0))
def eV (text : Str) : Option (Q4 × Bool) := bif (decide (600 < (List.length text : Int))) then ( some (([], [], [], [], []), false)) else ( (cJ text).bind fun r18 => some (r18.1, (r18.2.1 == 0)))
def wu (v1 : Q3) : Option Q3 := chk (qP 0 (max 0 (IntKind.i64.wrap ((List.length v1 : Int) - 1))) (max 0 (IntKind.i64.wrap ((List.length v1 : Int) - 1))) (List.length v1)) <| some (cP v1 0 (max 0 (IntKind.i64.wrap ((List.length v1 : Int) - 1))))
def se (l : (List Q3)) (again10 : Q13 → Option (List Q3)) : (List Q3) × Int → Option (List Q3) := fun ⟨out6, t9⟩ => bif (decide (t9 < (List.length l : Int))) then ( (idx l t9).bind fun e12 => (wu e12).bind fun r18 => chk (aA (List.length out6 + List.length ([r18] : List Q3)) 24) <| again10 ((out6 ++ ([r18] : List Q3)), (IntKind.i64.wrap (t9 + 1)))) else ( some out6)
def j6 (l : (List Q3)) : Option (List Q3) := al (se l) aq ([], 0)
def DK (l : Q17) : Option Q17 := (j6 l.1).bind fun r14 => (j6 l.2).bind fun r19 => some (r14, r19)
def eo (slices : (List (List Q3))) (again25 : Q13 → Option (List Q3)) : (List Q3) × Int → Option (List Q3) := fun ⟨newslice21, t24⟩ => bif (decide (t24 < (List.length slices : Int))) then ( (idx slices t24).bind fun e27 => chk (aA (List.length newslice21 + List.length e27) 24) <| again25 ((newslice21 ++ e27), (IntKind.i64.wrap (t24 + 1)))) else ( some newslice21)
def ed (slices : (List (List Q3))) (again8 : Q23 → Option (List Q3)) : Int × Int → Option (List Q3) := fun ⟨size6, t7⟩ => bif (decide (t7 < (List.length slices : Int))) then ( (idx slices t7).bind fun e10 => bif (decide ((IntKind.i64.wrap (size6 + (List.length e10 : Int))) < 0)) then ( none) else ( again8 ((IntKind.i64.wrap (size6 + (List.length e10 : Int))), (IntKind.i64.wrap (t7 + 1))))) else ( (yA size6).bind fun r17 => al (eo slices) aq (r17, 0))
def fl (slices : (List (List Q3))) : Option (List Q3) := al (ed slices) aq (0, 0)
def kf (l : Q17) : Option Q13 := (fl ([l.1, l.2] : List (List Q3))).bind fun r14 => some (r14, (List.length l.1 : Int))
def jD (f : Q23) (n : Int) : Option Bool := ab (decide (f.1 ≤ n)) fun b5 => ab (decide (n ≤ f.2)) fun b7 => ab (b5 && b7) fun b9 => some b9
def Ca (s : Q8) (v3 : Q3) (again6 : Int → Option Int) (t5 : Int) : Option Int := bif (decide (t5 < (List.length v3 : Int))) then ( (idx v3 t5).bind fun e8 => (idx s t5).bind fun e10 => (jD e10 e8).bind fun r12 => bif (!r12) then ( some 5) else ( again6 (IntKind.i64.wrap (t5 + 1)))) else ( some 0)
def ue (s : Q8) (v3 : Q3) : Option Int := bif ((List.length v3 : Int) != (List.length s : Int)) then ( some 1) else ( al (Ca s v3) aq 0)
def l9 (v1 : Q3) (_Names : Q7) (Schema : Q8) (_Init : Q3) (_Procs : Q7) (_Cmd : Q1) : Option Bool := (ue Schema v1).bind fun r3 => some (r3 == 0)
def eW (l : (List Q3)) (Names : Q7) (Schema : Q8) (Init : Q3) (Procs : Q7) (Cmd : Q1) (again10 : Q24 → Option Q5) : Q5 × Int → Option Q5 := fun ⟨out6, t9⟩ => bif (decide (t9 < (List.length l : Int))) then ( (idx l t9).bind fun e12 => (l9 e12 Names Schema Init Procs Cmd).bind fun r18 => chk (aA (List.length out6 + List.length ([r18] : List Bool)) 1) <| again10 ((out6 ++ ([r18] : List Bool)), (IntKind.i64.wrap (t9 + 1)))) else ( some out6)
def jy (l : (List Q3)) (Names : Q7) (Schema : Q8) (Init : Q3) (Procs : Q7) (Cmd : Q1) : Option Q5 := al (eW l Names Schema Init Procs Cmd) aq ([], 0)
def dT (s : Q5) (v3 : Bool) (again5 : Int → Option Int) (t4 : Int) : Option Int := bif (decide (t4 < (List.length s : Int))) then ( (idx s t4).bind fun e7 => bif (v3 == e7) then ( some t4) else ( again5 (IntKind.i64.wrap (t4 + 1)))) else ( some (-1))
def ig (s : Q5) (v3 : Bool) : Option Int := al (dT s v3) aq 0
def dR (s : Q5) (v3 : Bool) : Option Bool := (ig s v3).bind fun r3 => some (decide (0 ≤ r3))
def eD (s1 : Q3) (s2 : Q3) (again6 : Int → Option Bool) (t5 : Int) : Option Bool := bif (decide (t5 < (List.length s1 : Int))) then ( (idx s1 t5).bind fun e10 => (idx s2 t5).bind fun e12 => bif (e10 != e12) then ( some false) else ( again6 (IntKind.i64.wrap (t5 + 1)))) else ( some true)
def ea (s1 : Q3) (s2 : Q3) : Option Bool := bif ((List.length s1 : Int) != (List.length s2 : Int)) then ( some false) else ( al (eD s1 s2) aq 0)
def tu (m : Q4) (v11 : Q3) : Option (Q7 × Q8 × Q3 × Q7 × Q1 × Q3) := some (m.1, m.2.1, m.2.2.1, m.2.2.2.1, m.2.2.2.2, v11)
def mz (is_ : Bool) : Option Int := bif is_ then ( some 1) else ( some 0)
def qo (a36 : Int) (b37 : Int) (turn38 : Bool) : Option Int := (mz ((decide (a36 ≤ b37)) != turn38)).bind fun r39 => some r39
def pB (a45 : Int) (b46 : Int) (turn47 : Bool) : Option Int := (mz ((decide (a45 < b46)) != turn47)).bind fun r48 => some r48
def qn (a54 : Int) (b55 : Int) (turn56 : Bool) : Option Int := (mz ((a54 == b55) != turn56)).bind fun r57 => some r57
def pN (e : Ex) (c12 : Int) (c13 : Int) (kk42 : (Int × Int × Bool) → Option Int) (kk51 : (Int × Int × Bool) → Option Int) : Option Int := bif (e.op == 12) then ( kk51 (c12, c13, true)) else ( bif (e.op == 9) then ( kk51 (c12, c13, false)) else ( bif (e.op == 11) then ( kk42 (c12, c13, true)) else ( bif (e.op == 10) then ( kk42 (c12, c13, false)) else ( bif (e.op == 13) then ( some 1) else ( bif (e.op == 15) then ( some (IntKind.i64.wrap (1 - c12))) else ( bif (e.op == 16) then ( some (IntKind.i64.wrap (c12 * c13))) else ( bif (e.op == 17) then ( some (max c12 c13)) else ( bif (e.op == 18) then ( some (max (IntKind.i64.wrap (1 - c12)) c13)) else ( some 0)))))))))
def pA (c12 : Int) (c13 : Int) (kk60 : (Int × Int × Bool) → Option Int) (kk88 : Unit → Option Int) (t91 : Bool) : Option Int := bif t91 then ( kk60 (c12, c13, false)) else ( kk88 ())
def bN (il : (Ex × Q3) → Option Int) (e : Ex) (v3 : Q3) (again15 : Q9 → Option Int) : Int × Int × Int → Option Int := fun ⟨c12, c13, t14⟩ => bif (decide (t14 < (List.length (cP e.l 0 (min (List.length e.l : Int) 2)) : Int))) then ( (idx (cP e.l 0 (min (List.length e.l : Int) 2)) t14).bind fun e17 => (il (e17, v3)).bind fun r26 => bif (t14 == 0) then ( again15 (r26, c13, (IntKind.i64.wrap (t14 + 1)))) else ( bif (t14 == 1) then ( again15 (c12, r26, (IntKind.i64.wrap (t14 + 1)))) else ( none))) else ( ab (fun (s43 : Int × Int × Bool) => qo s43.1 s43.2.1 s43.2.2) fun kk42 => ab (fun (s52 : Int × Int × Bool) => pB s52.1 s52.2.1 s52.2.2) fun kk51 => ab (fun (s61 : Int × Int × Bool) => qn s61.1 s61.2.1 s61.2.2) fun kk60 => bif (e.op == 1) then ( some e.n) else ( bif (e.op == 2) then ( ab (decide (e.n < 0)) fun b64 => ab (decide ((List.length v3 : Int) ≤ e.n)) fun b66 => ab (b64 || b66) fun b68 => bif b68 then ( some 0) else ( (idx v3 e.n).bind fun e71 => some e71)) else ( bif (e.op == 3) then ( some (IntKind.i64.wrap (c12 + c13))) else ( bif (e.op == 5) then ( some (IntKind.i64.wrap (c12 * c13))) else ( bif (e.op == 6) then ( some (IntKind.i64.wrap (0 - c12))) else ( bif (e.op == 4) then ( some (IntKind.i64.wrap (c12 - c13))) else ( bif (e.op == 8) then ( kk60 (c12, c13, true)) else ( ab (fun (_s89 : Unit) => pN e c12 c13 kk42 kk51) fun kk88 => ab (fun (s94 : Bool) => pA c12 c13 kk60 kk88 s94) fun kk93 => bif (e.op == 7) then ( kk93 (e.op == 7)) else ( kk93 (e.op == 19))))))))))
def kG (il : (Ex × Q3) → Option Int) (e : Ex) (v3 : Q3) : Option Int := chk (je 0 (min (List.length e.l : Int) 2) (List.length e.l)) <| al (bN il e v3) aq (0, 0, 0)
def jY (e : Ex) (v3 : Q3) : Option Int :=
 al (fun k (s : (Ex × Q3)) => kG k s.1 s.2) aq (e, v3)
def jB (m : Q4) (v11 : Q3) (again13 : Q26 → Option Q3) : Q3 × Int → Option Q3 := fun ⟨out9, t12⟩ => bif (decide (t12 < (List.length m.2.2.2.2 : Int))) then ( (idx m.2.2.2.2 t12).bind fun e15 => (jY e15.2.1 v11).bind fun r26 => bif (r26 == 1) then ( chk (aA (List.length out9 + List.length ([t12] : List Int)) 8) <| again13 ((out9 ++ ([t12] : List Int)), (IntKind.i64.wrap (t12 + 1)))) else ( again13 (out9, (IntKind.i64.wrap (t12 + 1))))) else ( some out9)
def pH (m : Q4) (v11 : Q3) : Option Q3 := al (jB m v11) aq ([], 0)
def bP (s : Q3) : Option Q3 := zl s ( some []) ( chk (aA (List.length ([] : List Int) + List.length s) 8) <| some (([] : List Int) ++ s))
def jA (s : Q8) (v3 : Q3) (again6 : Int → Option Int) (t5 : Int) : Option Int := bif (decide (t5 < (List.length v3 : Int))) then ( (idx v3 t5).bind fun e8 => (idx s t5).bind fun e10 => (jD e10 e8).bind fun r12 => bif (!r12) then ( some 5) else ( again6 (IntKind.i64.wrap (t5 + 1)))) else ( some 0)
def gh (s : Q8) (v3 : Q3) : Option Int := bif ((List.length v3 : Int) != (List.length s : Int)) then ( some 1) else ( al (jA s v3) aq 0)
def mC (m : Q4) (v11 : Q3) (e21 : Q25) (again32 : Q26 → Option Q26) : Q3 × Int → Option Q26 := fun ⟨l30, t31⟩ => bif (decide (t31 < (List.length e21.2.2 : Int))) then ( (idx e21.2.2 t31).bind fun e34 => (jY e34.2 v11).bind fun r45 => (idx l30 e34.1).bind fun _e48 => again32 ((List.set l30 (Int.toNat e34.1) r45), (IntKind.i64.wrap (t31 + 1)))) else ( (gh m.2.1 l30).bind fun r51 => bif (r51 != 0) then ( some ([], 6)) else ( some (l30, 0)))
def qN (m : Q4) (v11 : Q3) (k : Int) : Option Q26 := ab (decide (k < 0)) fun b9 => ab (decide ((List.length m.2.2.2.2 : Int) ≤ k)) fun b11 => ab (b9 || b11) fun b13 => bif b13 then ( some ([], 10)) else ( (bP v11).bind fun r16 => (idx m.2.2.2.2 k).bind fun e21 => al (mC m v11 e21) aq (r16, 0))
def dV (addr : Bool) (_buf : Q3) : Option Bool := bif (!addr) then ( some true) else ( bif (!addr) then ( none) else ( some addr))
def dz (s : Str) (addr : Bool) (buf : Q3) : Option (Int × Bool × Q3) := (dV addr buf).bind fun r1 => chk (aA (List.length buf + List.length s) 1) <| some ((List.length s : Int), r1, (buf ++ bytesOf s))
def dQ (c : Int) (addr : Bool) (buf : Q3) : Option (Bool × Q3) := (dV addr buf).bind fun r1 => chk (aA (List.length buf + List.length ([c] : List Int)) 1) <| some (r1, (buf ++ ([c] : List Int)))
def fc (_addr : Bool) (buf : Q3) : Option Str := (idx buf 0).bind fun _e7 => chk (decide ((0 : Int) = 0) && decide ((List.length buf : Int) = (List.length buf : Int))) <| some (strOf buf)
def mg (v1 : Q3) (again11 : (Bool × Q3 × Int) → Option Str) : Bool × Q3 × Int → Option Str := fun ⟨c6, l7, t10⟩ => bif (decide (t10 < (List.length v1 : Int))) then ( (idx v1 t10).bind fun e13 => (BD e13).bind fun r15 => (dz r15 c6 l7).bind fun r16 => (dQ 32 r16.2.1 r16.2.2).bind fun r21 => again11 (r21.1, r21.2, (IntKind.i64.wrap (t10 + 1)))) else ( (fc c6 l7).bind fun r26 => some r26)
def uE (v1 : Q3) : Option Str := al (mg v1) aq (false, [], 0)
def la (v2 : Q3) (l : (List Q3)) (c10 : Q20) : Option ((List Q3) × Q20) := (uE v2).bind fun r12 => bif (!(kM c10 r12 false)) then ( (c10).bind fun m16 => chk (aA (List.length l + List.length ([v2] : List Q3)) 24) <| some ((l ++ ([v2] : List Q3)), (some (l6 m16 r12 true)))) else ( some (l, c10))
def fv (v2 : Q3) (l : (List Q3)) (at_ : Q20) : Option ((List Q3) × Q20) := ab (fun (s27 : Q20) => la v2 l s27) fun kk26 => bif ((Option.isNone at_)) then ( kk26 (some [] : Q20)) else ( kk26 at_)
def mf (v11 : Q3) (r15 : (Q7 × Q8 × Q3 × Q7 × Q1 × Q3)) (r26 : Q3) (again39 : (Int × Int × (List Q3) × Q20) → Option Q13) : Int × Int × (List Q3) × Q20 → Option Q13 := fun ⟨t32, c33, l34, c37⟩ => bif (decide (t32 < (List.length r26 : Int))) then ( (idx r26 t32).bind fun e41 => (qN (r15.1, r15.2.1, r15.2.2.1, r15.2.2.2.1, r15.2.2.2.2.1) r15.2.2.2.2.2 e41).bind fun r43 => bif (r43.2 != 0) then ( bif (!false) then ( some ([], r43.2)) else ( again39 ((IntKind.i64.wrap (t32 + 1)), r43.2, l34, c37))) else ( (fv r43.1 l34 c37).bind fun r52 => bif (!true) then ( bif ((List.length r52.1 : Int) == 0) then ( (bP v11).bind fun r60 => (fv r60 r52.1 r52.2).bind fun r65 => some (r65.1, 0)) else ( some (r52.1, 0))) else ( again39 ((IntKind.i64.wrap (t32 + 1)), c33, r52.1, r52.2)))) else ( bif ((List.length l34 : Int) == 0) then ( (bP v11).bind fun r76 => (fv r76 l34 c37).bind fun r81 => some (r81.1, 0)) else ( some (l34, 0)))
def qJ (m : Q4) (v11 : Q3) : Option Q13 := (tu m v11).bind fun r15 => (pH (r15.1, r15.2.1, r15.2.2.1, r15.2.2.2.1, r15.2.2.2.2.1) r15.2.2.2.2.2).bind fun r26 => al (mf v11 r15 r26) aq (0, 0, [], none)
def mO (z : Q3) (x : Q3) : Option Bool := (ea x z).bind fun r3 => some r3
def dA (s : (List Q3)) (c : Q3) (again5 : Int → Option Int) (t4 : Int) : Option Int := bif (decide (t4 < (List.length s : Int))) then ( (idx s t4).bind fun e7 => (mO e7 c).bind fun r13 => bif r13 then ( some t4) else ( again5 (IntKind.i64.wrap (t4 + 1)))) else ( some (-1))
def fX (s : (List Q3)) (c : Q3) : Option Int := al (dA s c) aq 0
def dw (s : (List Q3)) (c : Q3) : Option Bool := (fX s c).bind fun r3 => some (decide (0 ≤ r3))
def mw (x : Q3) (y : Q3) (Names : Q7) (Schema : Q8) (Init : Q3) (Procs : Q7) (Cmd : Q1) : Option Bool := (qJ (Names, Schema, Init, Procs, Cmd) x).bind fun r5 => ab (r5.2 == 0) fun b10 => aT b10 default (dw r5.1 y) fun r12 => ab (b10 && r12) fun b18 => some b18
def iu (l : (List Q3)) (Names : Q7) (Schema : Q8) (Init : Q3) (Procs : Q7) (Cmd : Q1) (again5 : Int → Option Bool) (i4 : Int) : Option Bool := bif (decide (i4 < (List.length l : Int))) then ( (idx l (IntKind.i64.wrap (i4 - 1))).bind fun e9 => (idx l i4).bind fun e15 => (mw e9 e15 Names Schema Init Procs Cmd).bind fun r21 => bif (!r21) then ( some false) else ( again5 (IntKind.i64.wrap (i4 + 1)))) else ( some true)
def nA (l : (List Q3)) (Names : Q7) (Schema : Q8) (Init : Q3) (Procs : Q7) (Cmd : Q1) : Option Bool := al (iu l Names Schema Init Procs Cmd) aq 1
def fS (m : Q4) (l : Q17) : Option Bool := bif ((List.length l.2 : Int) == 0) then ( some false) else ( chk (je 0 1 (List.length l.2)) <| (fl ([l.1, l.2, (cP l.2 0 1)] : List (List Q3))).bind fun r17 => (jy r17 m.1 m.2.1 m.2.2.1 m.2.2.2.1 m.2.2.2.2).bind fun r22 => (dR r22 false).bind fun r29 => aT (!r29) [] (idx r17 0) fun e32 => aT (!r29) default (ea e32 m.2.2.1) fun r38 => ab (!r38) fun b44 => ab (r29 || b44) fun b46 => bif b46 then ( some false) else ( (nA r17 m.1 m.2.1 m.2.2.1 m.2.2.2.1 m.2.2.2.2).bind fun r49 => some r49))
def pY (e : Ex) (times10 : Bool) (t45 : Bool) : Option Q9 := bif t45 then ( some (2, 0, 0)) else ( ab (decide (15 ≤ e.op)) fun b47 => ab (b47 && times10) fun b49 => bif b49 then ( some (3, 0, 0)) else ( some (0, 4, e.at_)))
def j7 (ia : Ex → Option Q9) (e : Ex) (again12 : (Bool × Bool × Bool × Int) → Option Q9) : Bool × Bool × Bool × Int → Option Q9 := fun ⟨ints8, bools9, times10, t11⟩ => bif (decide (t11 < (List.length e.l : Int))) then ( (idx e.l t11).bind fun e14 => (ia e14).bind fun r23 => bif (r23.2.1 != 0) then ( some (0, r23.2.1, r23.2.2)) else ( ab (r23.1 == 1) fun b27 => ab (ints8 && b27) fun b29 => ab (r23.1 == 2) fun b31 => ab (bools9 && b31) fun b33 => ab (r23.1 != 1) fun b35 => ab (times10 && b35) fun b37 => again12 (b29, b33, b37, (IntKind.i64.wrap (t11 + 1))))) else ( ab (decide (e.op ≤ 6)) fun b39 => ab (b39 && ints8) fun b41 => bif b41 then ( some (1, 0, 0)) else ( ab (fun (s55 : Bool) => pY e times10 s55) fun kk54 => ab (decide (6 < e.op)) fun b56 => ab (decide (e.op ≤ 12)) fun b58 => ab (b56 && b58) fun b60 => ab (b60 && ints8) fun b62 => bif b62 then ( kk54 b62) else ( bif (e.op == 13) then ( kk54 (e.op == 13)) else ( bif (e.op == 14) then ( kk54 (e.op == 14)) else ( ab (decide (15 ≤ e.op)) fun b67 => ab (decide (e.op ≤ 19)) fun b69 => ab (b67 && b69) fun b71 => ab (b71 && bools9) fun b73 => kk54 b73)))))
def nI (ia : Ex → Option Q9) (e : Ex) : Option Q9 := al (j7 ia e) aq (true, true, true, 0)
def qS (e : Ex) : Option Q9 :=
 al (fun k (s : Ex) => nI k s) aq e
def sG (e : Ex) : Option Bool := (qS e).bind fun r5 => ab (r5.2.1 == 0) fun b8 => ab (r5.1 == 2) fun b10 => ab (b8 && b10) fun b12 => some b12
def lR (i : Int) (Op : Int) (N : Int) (At : Int) (L : (List Ex)) (V : (List Q3)) (_Loop : Int) : Option Bool := (idx V i).bind fun e5 => (jY (Ex.mk Op N At L) e5).bind fun r11 => some (r11 == 1)
def wI (n : Int) (Op : Int) (N : Int) (At : Int) (L : (List Ex)) (V : (List Q3)) (Loop : Int) (again12 : Q24 → Option Q5) : Q5 × Int → Option Q5 := fun ⟨l10, t11⟩ => bif (decide (t11 < (List.length (List.replicate (Int.toNat n) false) : Int))) then ( (lR t11 Op N At L V Loop).bind fun r14 => (idx l10 t11).bind fun _e17 => again12 ((List.set l10 (Int.toNat t11) r14), (IntKind.i64.wrap (t11 + 1)))) else ( some l10)
def ta (n : Int) (Op : Int) (N : Int) (At : Int) (L : (List Ex)) (V : (List Q3)) (Loop : Int) : Option Q5 := chk (decide (0 ≤ n)) <| chk (aA (Int.toNat n) 1) <| al (wI n Op N At L V Loop) aq ((List.replicate (Int.toNat n) false), 0)
def oX (i : Int) (x : Q5) : Option Bool := (idx x i).bind fun e3 => some (!e3)
def sc (n : Int) (c : Q5) (again12 : Q24 → Option Q5) : Q5 × Int → Option Q5 := fun ⟨l10, t11⟩ => bif (decide (t11 < (List.length (List.replicate (Int.toNat n) false) : Int))) then ( (oX t11 c).bind fun r14 => (idx l10 t11).bind fun _e17 => again12 ((List.set l10 (Int.toNat t11) r14), (IntKind.i64.wrap (t11 + 1)))) else ( some l10)
def rL (n : Int) (c : Q5) : Option Q5 := chk (decide (0 ≤ n)) <| chk (aA (Int.toNat n) 1) <| al (sc n c) aq ((List.replicate (Int.toNat n) false), 0)
def oW (i : Int) (x : Q5) (x6 : Q5) : Option Bool := (idx x i).bind fun e3 => aT e3 false (idx x6 i) fun e5 => ab (e3 && e5) fun b7 => some b7
def rW (n : Int) (c : Q5) (c6 : Q5) (again12 : Q24 → Option Q5) : Q5 × Int → Option Q5 := fun ⟨l10, t11⟩ => bif (decide (t11 < (List.length (List.replicate (Int.toNat n) false) : Int))) then ( (oW t11 c c6).bind fun r14 => (idx l10 t11).bind fun _e17 => again12 ((List.set l10 (Int.toNat t11) r14), (IntKind.i64.wrap (t11 + 1)))) else ( some l10)
def rI (n : Int) (c : Q5) (c6 : Q5) : Option Q5 := chk (decide (0 ≤ n)) <| chk (aA (Int.toNat n) 1) <| al (rW n c c6) aq ((List.replicate (Int.toNat n) false), 0)
def o9 (i : Int) (x : Q5) (x6 : Q5) : Option Bool := (idx x i).bind fun e3 => aT (!e3) false (idx x6 i) fun e5 => ab (e3 || e5) fun b7 => some b7
def sD (n : Int) (c : Q5) (c6 : Q5) (again12 : Q24 → Option Q5) : Q5 × Int → Option Q5 := fun ⟨l10, t11⟩ => bif (decide (t11 < (List.length (List.replicate (Int.toNat n) false) : Int))) then ( (o9 t11 c c6).bind fun r14 => (idx l10 t11).bind fun _e17 => again12 ((List.set l10 (Int.toNat t11) r14), (IntKind.i64.wrap (t11 + 1)))) else ( some l10)
def rD (n : Int) (c : Q5) (c6 : Q5) : Option Q5 := chk (decide (0 ≤ n)) <| chk (aA (Int.toNat n) 1) <| al (sD n c c6) aq ((List.replicate (Int.toNat n) false), 0)
def oE (i : Int) (x : Q5) (x6 : Q5) : Option Bool := (idx x i).bind fun e3 => ab (!e3) fun b5 => aT (!b5) false (idx x6 i) fun e7 => ab (b5 || e7) fun b9 => some b9
def rS (n : Int) (c : Q5) (c6 : Q5) (again12 : Q24 → Option Q5) : Q5 × Int → Option Q5 := fun ⟨l10, t11⟩ => bif (decide (t11 < (List.length (List.replicate (Int.toNat n) false) : Int))) then ( (oE t11 c c6).bind fun r14 => (idx l10 t11).bind fun _e17 => again12 ((List.set l10 (Int.toNat t11) r14), (IntKind.i64.wrap (t11 + 1)))) else ( some l10)
def ru (n : Int) (c : Q5) (c6 : Q5) : Option Q5 := chk (decide (0 ≤ n)) <| chk (aA (Int.toNat n) 1) <| al (rS n c c6) aq ((List.replicate (Int.toNat n) false), 0)
def pj (i : Int) (x : Q5) (x6 : Q5) : Option Bool := (idx x i).bind fun e5 => (idx x6 i).bind fun e7 => some (e5 == e7)
def sB (n : Int) (c : Q5) (c6 : Q5) (again12 : Q24 → Option Q5) : Q5 × Int → Option Q5 := fun ⟨l10, t11⟩ => bif (decide (t11 < (List.length (List.replicate (Int.toNat n) false) : Int))) then ( (pj t11 c c6).bind fun r14 => (idx l10 t11).bind fun _e17 => again12 ((List.set l10 (Int.toNat t11) r14), (IntKind.i64.wrap (t11 + 1)))) else ( some l10)
def rk (n : Int) (c : Q5) (c6 : Q5) : Option Q5 := chk (decide (0 ≤ n)) <| chk (aA (Int.toNat n) 1) <| al (sB n c c6) aq ((List.replicate (Int.toNat n) false), 0)
def nj (w1 : Q13) (i : Int) : Option Int := bif ((IntKind.i64.wrap (i + 1)) == (List.length w1.1 : Int)) then ( some w1.2) else ( some (IntKind.i64.wrap (i + 1)))
def oQ (i : Int) (x : Q5) (V : (List Q3)) (Loop : Int) : Option Bool := (nj (V, Loop) i).bind fun r5 => (idx x r5).bind fun e8 => some e8
def sa (n : Int) (c : Q5) (V : (List Q3)) (Loop : Int) (again12 : Q24 → Option Q5) : Q5 × Int → Option Q5 := fun ⟨l10, t11⟩ => bif (decide (t11 < (List.length (List.replicate (Int.toNat n) false) : Int))) then ( (oQ t11 c V Loop).bind fun r14 => (idx l10 t11).bind fun _e17 => again12 ((List.set l10 (Int.toNat t11) r14), (IntKind.i64.wrap (t11 + 1)))) else ( some l10)
def rC (n : Int) (c : Q5) (V : (List Q3)) (Loop : Int) : Option Q5 := chk (decide (0 ≤ n)) <| chk (aA (Int.toNat n) 1) <| al (sa n c V Loop) aq ((List.replicate (Int.toNat n) false), 0)
def oa (_x : Int) (x2 : Bool) : Option Bool := some x2
def su (n : Int) (c : Bool) (again12 : Q24 → Option Q5) : Q5 × Int → Option Q5 := fun ⟨l10, t11⟩ => bif (decide (t11 < (List.length (List.replicate (Int.toNat n) false) : Int))) then ( (oa t11 c).bind fun r14 => (idx l10 t11).bind fun _e17 => again12 ((List.set l10 (Int.toNat t11) r14), (IntKind.i64.wrap (t11 + 1)))) else ( some l10)
def rM (n : Int) (c : Bool) : Option Q5 := chk (decide (0 ≤ n)) <| chk (aA (Int.toNat n) 1) <| al (su n c) aq ((List.replicate (Int.toNat n) false), 0)
def ml (is_ : Bool) (x : Int) : Option Q5 := (rM x is_).bind fun r7 => some r7
def pT (_x : Int) (x2 : Bool) : Option Bool := some x2
def sI (n : Int) (c : Bool) (again12 : Q24 → Option Q5) : Q5 × Int → Option Q5 := fun ⟨l10, t11⟩ => bif (decide (t11 < (List.length (List.replicate (Int.toNat n) false) : Int))) then ( (pT t11 c).bind fun r14 => (idx l10 t11).bind fun _e17 => again12 ((List.set l10 (Int.toNat t11) r14), (IntKind.i64.wrap (t11 + 1)))) else ( some l10)
def kJ (n : Int) (c : Bool) : Option Q5 := chk (decide (0 ≤ n)) <| chk (aA (Int.toNat n) 1) <| al (sI n c) aq ((List.replicate (Int.toNat n) false), 0)
def mG (i : Int) (on_ : Q5) (x : Q5) (x10 : Q5) (V : (List Q3)) (Loop : Int) : Option Bool := (idx x i).bind fun e3 => aT (!e3) false (idx x10 i) fun e5 => aT ((!e3) && e5) default (nj (V, Loop) i) fun r7 => aT ((!e3) && e5) false (idx on_ r7) fun e13 => ab (e5 && e13) fun b15 => ab (e3 || b15) fun b17 => some b17
def lW (i : Int) (x : Q5) (c : Q5) (c14 : Q5) (V : (List Q3)) (Loop : Int) : Option Bool := (mG i x c c14 V Loop).bind fun r3 => some r3
def qO (n : Int) (c : Q5) (c12 : Q5) (c15 : Q5) (V : (List Q3)) (Loop : Int) (again12 : Q24 → Option Q5) : Q5 × Int → Option Q5 := fun ⟨l10, t11⟩ => bif (decide (t11 < (List.length (List.replicate (Int.toNat n) false) : Int))) then ( (lW t11 c c12 c15 V Loop).bind fun r14 => (idx l10 t11).bind fun _e17 => again12 ((List.set l10 (Int.toNat t11) r14), (IntKind.i64.wrap (t11 + 1)))) else ( some l10)
def qc (n : Int) (c : Q5) (c12 : Q5) (c15 : Q5) (V : (List Q3)) (Loop : Int) : Option Q5 := chk (decide (0 ≤ n)) <| chk (aA (Int.toNat n) 1) <| al (qO n c c12 c15 V Loop) aq ((List.replicate (Int.toNat n) false), 0)
def cD (s1 : Q5) (s2 : Q5) (again6 : Int → Option Bool) (t5 : Int) : Option Bool := bif (decide (t5 < (List.length s1 : Int))) then ( (idx s1 t5).bind fun e10 => (idx s2 t5).bind fun e12 => bif (e10 != e12) then ( some false) else ( again6 (IntKind.i64.wrap (t5 + 1)))) else ( some true)
def bZ (s1 : Q5) (s2 : Q5) : Option Bool := bif ((List.length s1 : Int) != (List.length s2 : Int)) then ( some false) else ( al (cD s1 s2) aq 0)
def qm (w1 : Q13) (c : Q5) (c11 : Q5) (V : (List Q3)) (Loop : Int) (again25 : Q5 → Option Q5) (c22 : Q5) : Option Q5 := (qc (List.length w1.1 : Int) c22 c c11 V Loop).bind fun r26 => (bZ c22 r26).bind fun r31 => bif (!r31) then ( again25 r26) else ( some c22)
def uB (w1 : Q13) (first : Bool) (c : Q5) (c11 : Q5) (V : (List Q3)) (Loop : Int) : Option Q5 := (kJ (List.length w1.1 : Int) first).bind fun r12 => al (qm w1 c c11 V Loop) aq r12
def nY (w1 : Q13) (a : Q5) (b : Q5) : Option Q5 := (uB w1 false b a w1.1 w1.2).bind fun r13 => some r13
def km (i : Int) (on_ : Q5) (x : Q5) (x10 : Q5) (V : (List Q3)) (Loop : Int) : Option Bool := (idx x i).bind fun e3 => aT e3 false (idx x10 i) fun e5 => aT (e3 && !e5) default (nj (V, Loop) i) fun r7 => aT (e3 && !e5) false (idx on_ r7) fun e13 => ab (e5 || e13) fun b15 => ab (e3 && b15) fun b17 => some b17
def jG (i : Int) (x : Q5) (c : Q5) (c14 : Q5) (V : (List Q3)) (Loop : Int) : Option Bool := (km i x c c14 V Loop).bind fun r3 => some r3
def qZ (n : Int) (c : Q5) (c12 : Q5) (c15 : Q5) (V : (List Q3)) (Loop : Int) (again12 : Q24 → Option Q5) : Q5 × Int → Option Q5 := fun ⟨l10, t11⟩ => bif (decide (t11 < (List.length (List.replicate (Int.toNat n) false) : Int))) then ( (jG t11 c c12 c15 V Loop).bind fun r14 => (idx l10 t11).bind fun _e17 => again12 ((List.set l10 (Int.toNat t11) r14), (IntKind.i64.wrap (t11 + 1)))) else ( some l10)
def pD (n : Int) (c : Q5) (c12 : Q5) (c15 : Q5) (V : (List Q3)) (Loop : Int) : Option Q5 := chk (decide (0 ≤ n)) <| chk (aA (Int.toNat n) 1) <| al (qZ n c c12 c15 V Loop) aq ((List.replicate (Int.toNat n) false), 0)
def lX (w1 : Q13) (c : Q5) (c11 : Q5) (V : (List Q3)) (Loop : Int) (again25 : Q5 → Option Q5) (c22 : Q5) : Option Q5 := (pD (List.length w1.1 : Int) c22 c c11 V Loop).bind fun r26 => (bZ c22 r26).bind fun r31 => bif (!r31) then ( again25 r26) else ( some c22)
def pz (w1 : Q13) (first : Bool) (c : Q5) (c11 : Q5) (V : (List Q3)) (Loop : Int) : Option Q5 := (kJ (List.length w1.1 : Int) first).bind fun r12 => al (lX w1 c c11 V Loop) aq r12
def kC (w1 : Q13) (a : Q5) (b : Q5) : Option Q5 := (pz w1 true b a w1.1 w1.2).bind fun r13 => some r13
def oD (e : Ex) (w3 : Q13) (r29 : Q5) (l40 : Q5) : Option Q5 := bif (e.op == 15) then ( (rL (List.length w3.1 : Int) r29).bind fun r44 => some r44) else ( bif (e.op == 16) then ( (rI (List.length w3.1 : Int) r29 l40).bind fun r50 => some r50) else ( bif (e.op == 17) then ( (rD (List.length w3.1 : Int) r29 l40).bind fun r56 => some r56) else ( bif (e.op == 18) then ( (ru (List.length w3.1 : Int) r29 l40).bind fun r62 => some r62) else ( bif (e.op == 19) then ( (rk (List.length w3.1 : Int) r29 l40).bind fun r68 => some r68) else ( bif (e.op == 20) then ( (rC (List.length w3.1 : Int) r29 w3.1 w3.2).bind fun r74 => some r74) else ( bif (e.op == 21) then ( (ml true (List.length w3.1 : Int)).bind fun r82 => (nY w3 r82 r29).bind fun r87 => some r87) else ( bif (e.op == 22) then ( (ml false (List.length w3.1 : Int)).bind fun r95 => (kC w3 r95 r29).bind fun r100 => some r100) else ( bif (e.op == 23) then ( (nY w3 r29 l40).bind fun r106 => some r106) else ( (kC w3 r29 l40).bind fun r111 => some r111)))))))))
def jV (n8 : (Ex × Q13) → Option Q5) (e : Ex) (w3 : Q13) : Option Q5 := (sG e).bind fun r12 => bif r12 then ( (ta (List.length w3.1 : Int) e.op e.n e.at_ e.l w3.1 w3.2).bind fun r16 => some r16) else ( (idx e.l 0).bind fun e23 => ( (n8 (e23, w3)).bind fun r29 => ab (fun (s117 : Q5) => oD e w3 r29 s117) fun kk116 => bif (decide (1 < (List.length e.l : Int))) then ( (idx e.l 1).bind fun e121 => (n8 (e121, w3)).bind fun r127 => kk116 r127) else ( kk116 [])))
def vt (e : Ex) (w3 : Q13) : Option Q5 :=
 al (fun k (s : (Ex × Q13)) => jV k s.1 s.2) aq (e, w3)
def nT (e : Ex) (w3 : Q13) : Option Bool := (vt e w3).bind fun r7 => (idx r7 0).bind fun e12 => some e12
def eZ (m : Q4) (e : Ex) (l : Q17) : Option Bool := (fS m l).bind fun r11 => aT r11 default (kf l) fun r14 => aT r11 default (nT e r14) fun r23 => ab (!r23) fun b29 => ab (r11 && b29) fun b31 => some b31
def tC (a : Q3) (b : Q3) (again6 : Int → Option Bool) (i5 : Int) : Option Bool := bif (decide (i5 < (List.length a : Int))) then ( (idx a i5).bind fun e10 => (idx b i5).bind fun e12 => bif (e10 != e12) then ( some false) else ( again6 (IntKind.i64.wrap (i5 + 1)))) else ( some true)
def oz (a : Q3) (b : Q3) : Option Bool := bif ((List.length a : Int) != (List.length b : Int)) then ( some false) else ( al (tC a b) aq 0)
def rX (a : (List Q3)) (b : (List Q3)) (again6 : Int → Option Bool) (i5 : Int) : Option Bool := bif (decide (i5 < (List.length a : Int))) then ( (idx a i5).bind fun e10 => (idx b i5).bind fun e16 => (oz e10 e16).bind fun r22 => bif (!r22) then ( some false) else ( again6 (IntKind.i64.wrap (i5 + 1)))) else ( some true)
def j5 (a : (List Q3)) (b : (List Q3)) : Option Bool := bif ((List.length a : Int) != (List.length b : Int)) then ( some false) else ( al (rX a b) aq 0)
def gr : Option Bool := (eV [118, 97, 114, 32, 120, 32, 48, 32, 50, 32, 48, 59, 32, 112, 114, 111, 99, 32, 80, 32, 123, 32, 120, 32, 60, 32, 50, 32, 58, 32, 120, 32, 61, 32, 120, 32, 43, 32, 49, 59, 32, 125]).bind fun r3 => (DK (([([0, 5] : List Int), ([] : List Int)] : List Q3), ([([7] : List Int)] : List Q3))).bind fun r49 => (kf (([([0] : List Int), ([1] : List Int)] : List Q3), ([([2] : List Int)] : List Q3))).bind fun r59 => aT r3.2 default (eZ r3.1 (Ex.mk 22 0 0 ([(Ex.mk 9 0 0 ([(Ex.mk 2 0 0 []), (Ex.mk 1 2 0 [])] : List Ex))] : List Ex)) (([([0] : List Int), ([1] : List Int)] : List Q3), ([([2] : List Int)] : List Q3))) fun r67 => ab (r3.2 && r67) fun b73 => aT b73 default (fS r3.1 (([([0] : List Int), ([1] : List Int)] : List Q3), ([([2] : List Int)] : List Q3))) fun r75 => ab (b73 && r75) fun b81 => aT b81 default (fS r3.1 (([([0] : List Int)] : List Q3), ([([1] : List Int)] : List Q3))) fun r91 => ab (!r91) fun b97 => ab (b81 && b97) fun b99 => aT b99 default (eZ r3.1 (Ex.mk 13 0 0 []) (([([0] : List Int), ([1] : List Int)] : List Q3), ([([2] : List Int)] : List Q3))) fun r101 => ab (!r101) fun b107 => ab (b99 && b107) fun b109 => aT b109 default (fS r3.1 (([([0] : List Int), ([1] : List Int)] : List Q3), [])) fun r111 => ab (!r111) fun b117 => ab (b109 && b117) fun b119 => aT b119 default (j5 r49.1 ([([0] : List Int), ([] : List Int)] : List Q3)) fun r127 => ab (b119 && r127) fun b133 => aT b133 default (j5 r49.2 ([([] : List Int)] : List Q3)) fun r139 => ab (b133 && r139) fun b145 => ab (r59.2 == 2) fun b147 => ab (b145 && b147) fun b149 => ab ((List.length r59.1 : Int) == 3) fun b151 => ab (b149 && b151) fun b153 => some b153
def fE (l : Q17) (again25 : Int → Option Bool) (i24 : Int) : Option Bool := bif (decide (i24 < (List.length l.2 : Int))) then ( (idx l.2 i24).bind fun e27 => bif (decide (40 < (List.length e27 : Int))) then ( some false) else ( again25 (IntKind.i64.wrap (i24 + 1)))) else ( some true)
def fL (l : Q17) (again14 : Int → Option Bool) (i13 : Int) : Option Bool := bif (decide (i13 < (List.length l.1 : Int))) then ( (idx l.1 i13).bind fun e16 => bif (decide (40 < (List.length e16 : Int))) then ( some false) else ( again14 (IntKind.i64.wrap (i13 + 1)))) else ( al (fE l) aq 0)
def fC (l : Q17) (most : Int) : Option Bool := ab (decide (most < (List.length l.1 : Int))) fun b5 => ab (decide (most < (List.length l.2 : Int))) fun b7 => ab (b5 || b7) fun b9 => bif b9 then ( some false) else ( al (fL l) aq 0)
def dM (cn : Q22 → Option Int) (e : Ex) (most : Int) (again8 : Q23 → Option Int) : Int × Int → Option Int := fun ⟨d6, i7⟩ => ab (decide (i7 < (List.length e.l : Int))) fun b9 => ab (decide (1 < most)) fun b11 => ab (b9 && b11) fun b13 => bif b13 then ( (idx e.l i7).bind fun e16 => (cn (e16, (IntKind.i64.wrap (most - 1)))).bind fun r22 => bif (decide (d6 < (IntKind.i64.wrap (1 + r22)))) then ( again8 ((IntKind.i64.wrap (1 + r22)), (IntKind.i64.wrap (i7 + 1)))) else ( again8 (d6, (IntKind.i64.wrap (i7 + 1))))) else ( some d6)
def jb (cn : Q22 → Option Int) (e : Ex) (most : Int) : Option Int := al (dM cn e most) aq (1, 0)
def gM (e : Ex) (most : Int) : Option Int :=
 al (fun k (s : Q22) => jb k s.1 s.2) aq (e, most)
def dJ (cm : Q22 → Option Int) (e : Ex) (most : Int) (again8 : Q23 → Option Int) : Int × Int → Option Int := fun ⟨n6, i7⟩ => ab (decide (i7 < (List.length e.l : Int))) fun b9 => ab (decide (n6 < most)) fun b11 => ab (b9 && b11) fun b13 => bif b13 then ( (idx e.l i7).bind fun e16 => (cm (e16, most)).bind fun r22 => again8 ((IntKind.i64.wrap (n6 + r22)), (IntKind.i64.wrap (i7 + 1)))) else ( some n6)
def jc (cm : Q22 → Option Int) (e : Ex) (most : Int) : Option Int := al (dJ cm e most) aq (1, 0)
def gY (e : Ex) (most : Int) : Option Int :=
 al (fun k (s : Q22) => jc k s.1 s.2) aq (e, most)
def fz (e : Ex) : Option Bool := (gM e 45).bind fun r5 => (gY e 300).bind fun r8 => ab (decide (r5 < 45)) fun b11 => ab (decide (r8 < 300)) fun b13 => ab (b11 && b13) fun b15 => some b15
def ec (bh : Q22 → Option Bool) (e : Ex) (vars : Int) (want6 : Int) (again51 : Int → Option Bool) (i50 : Int) : Option Bool := bif (decide (i50 < want6)) then ( (idx e.l i50).bind fun e53 => (bh (e53, vars)).bind fun r59 => bif (!r59) then ( some false) else ( again51 (IntKind.i64.wrap (i50 + 1)))) else ( some true)
def fJ (bh : Q22 → Option Bool) (e : Ex) (vars : Int) (want6 : Int) : Option Bool := ab (decide (e.op < 1)) fun b7 => ab (decide (24 < e.op)) fun b9 => ab (b7 || b9) fun b11 => ab ((List.length e.l : Int) != want6) fun b13 => ab (b11 || b13) fun b15 => bif b15 then ( some false) else ( ab (e.op == 1) fun b18 => ab (decide (e.n < 0)) fun b20 => ab (decide (1073741824 < e.n)) fun b22 => ab (b20 || b22) fun b24 => ab (b18 && b24) fun b26 => ab (e.op == 2) fun b28 => ab (decide (e.n < 0)) fun b30 => ab (decide (vars ≤ e.n)) fun b32 => ab (b30 || b32) fun b34 => ab (b28 && b34) fun b36 => ab (b26 || b36) fun b38 => ab (decide (2 < e.op)) fun b40 => ab (e.n != 0) fun b42 => ab (b40 && b42) fun b44 => ab (b38 || b44) fun b46 => bif b46 then ( some false) else ( al (ec bh e vars want6) aq 0))
def lZ (kk63 : Int → Option Bool) (t69 : Bool) : Option Bool := bif t69 then ( kk63 1) else ( kk63 2)
def iX (e : Ex) (kk63 : Int → Option Bool) (t66 : Bool) : Option Bool := bif t66 then ( kk63 0) else ( ab (fun (s72 : Bool) => lZ kk63 s72) fun kk71 => bif (e.op == 6) then ( kk71 (e.op == 6)) else ( bif (e.op == 15) then ( kk71 (e.op == 15)) else ( bif (e.op == 20) then ( kk71 (e.op == 20)) else ( bif (e.op == 21) then ( kk71 (e.op == 21)) else ( kk71 (e.op == 22))))))
def dB (bh : Q22 → Option Bool) (e : Ex) (vars : Int) : Option Bool := ab (fun (s64 : Int) => fJ bh e vars s64) fun kk63 => ab (fun (s78 : Bool) => iX e kk63 s78) fun kk77 => bif (e.op == 1) then ( kk77 (e.op == 1)) else ( bif (e.op == 2) then ( kk77 (e.op == 2)) else ( bif (e.op == 13) then ( kk77 (e.op == 13)) else ( kk77 (e.op == 14))))
def iw (e : Ex) (vars : Int) : Option Bool :=
 al (fun k (s : Q22) => dB k s.1 s.2) aq (e, vars)
def dN (e : Ex) (vars : Int) : Option Bool := (fz e).bind fun r5 => (iw e vars).bind fun r8 => ab (!r5) fun b11 => ab (!r8) fun b13 => ab (b11 || b13) fun b15 => bif b15 then ( some false) else ( (cd e).bind fun r18 => ab (r18.2.1 == 0) fun b21 => ab (r18.1 != 1) fun b23 => ab (b21 && b23) fun b25 => some b25)
def dS (text : Str) (e : Ex) (l : Q17) : Option Bool := (gr).bind fun r7 => (eV text).bind fun r10 => ab (!r10.2) fun b26 => aT (!b26) default (fC l 20) fun r28 => ab (!r28) fun b34 => ab (b26 || b34) fun b36 => aT (!b36) default (dN e (List.length r10.1.1 : Int)) fun r38 => ab (!r38) fun b44 => ab (b36 || b44) fun b46 => bif b46 then ( some r7) else ( (eZ r10.1 e l).bind fun r49 => (eZ r10.1 (Ex.mk 15 0 0 ([e] : List Ex)) l).bind fun r54 => (fS r10.1 l).bind fun r57 => bif (!r57) then ( ab (!r49) fun b61 => ab (r7 && b61) fun b63 => ab (!r54) fun b65 => ab (b63 && b65) fun b67 => some b67) else ( ab (r49 != r54) fun b69 => ab (r7 && b69) fun b71 => some b71))
end
end Go.Proofs.YtpnogcmollnjeaaGreatDoor
namespace Go.Proofs
open Go.Shelf
def Tryz.vq : Go.Shelf.Ren := ⟨fun | 171 => 92 | 243 => 100 | 246 => 106 | 283 => 107 | 284 => 108 | 285 => 109 | 286 => 110 | 129 => 112 | 317 => 111 | 318 => 113 | 319 => 114 | 320 => 115 | 337 => 116 | 338 => 117 | n => n, fun | 3 => 3 | 9 => 9 | 2 => 2 | 4 => 4 | 171 => 160 | 0 => 0 | 53 => 161 | 37 => 42 | 5 => 5 | 173 => 164 | 212 => 167 | 51 => 168 | 20 => 20 | 213 => 169 | 46 => 170 | 232 => 173 | 233 => 174 | n => n, fun | 17 => 0 | 18 => 1 | 19 => 2 | n => n⟩
theorem Tryz.Jp : Go.Proofs.LaysM.n171 Tryz.prog Tryz.vq := {
 mixed := by kernel_rfl
 f129 := Tryz.func112.trans (congrArg some (by kernel_rfl))
 f171 := Tryz.func92.trans (congrArg some (by kernel_rfl))
 f243 := Tryz.func100.trans (congrArg some (by kernel_rfl))
 f246 := Tryz.func106.trans (congrArg some (by kernel_rfl))
 f283 := Tryz.func107.trans (congrArg some (by kernel_rfl))
 f284 := Tryz.func108.trans (congrArg some (by kernel_rfl))
 f285 := Tryz.func109.trans (congrArg some (by kernel_rfl))
 f286 := Tryz.func110.trans (congrArg some (by kernel_rfl))
 f317 := Tryz.func111.trans (congrArg some (by kernel_rfl))
 f318 := Tryz.func113.trans (congrArg some (by kernel_rfl))
 f319 := Tryz.func114.trans (congrArg some (by kernel_rfl))
 f320 := Tryz.func115.trans (congrArg some (by kernel_rfl))
 f337 := Tryz.func116.trans (congrArg some (by kernel_rfl))
 f338 := Tryz.func117.trans (congrArg some (by kernel_rfl))
 t0 := Tryz.underlying0
 a0 := Tryz.isAgg0
 z0 := Tryz.sizeOf0
 v0 := Tryz.zeroValue0
 t2 := Tryz.underlying2
 a2 := Tryz.isAgg2
 z2 := Tryz.sizeOf2
 v2 := Tryz.zeroValue2
 t3 := Tryz.underlying3
 a3 := Tryz.isAgg3
 z3 := Tryz.sizeOf3
 v3 := Tryz.zeroValue3
 t4 := Tryz.underlying4
 a4 := Tryz.isAgg4
 z4 := Tryz.sizeOf4
 v4 := Tryz.zeroValue4
 t5 := Tryz.underlying5
 a5 := Tryz.isAgg5
 z5 := Tryz.sizeOf5
 v5 := Tryz.zeroValue5
 t9 := Tryz.underlying9
 a9 := Tryz.isAgg9
 z9 := Tryz.sizeOf9
 v9 := Tryz.zeroValue9
 t20 := Tryz.underlying20
 a20 := Tryz.isAgg20
 z20 := Tryz.sizeOf20
 v20 := Tryz.zeroValue20
 t37 := Tryz.underlying42
 a37 := Tryz.isAgg42
 z37 := Tryz.sizeOf42
 v37 := Tryz.zeroValue42
 t46 := Tryz.underlying170
 a46 := Tryz.isAgg170
 z46 := Tryz.sizeOf170
 v46 := Tryz.zeroValue170
 t51 := Tryz.underlying168
 a51 := Tryz.isAgg168
 z51 := Tryz.sizeOf168
 v51 := Tryz.zeroValue168
 t53 := Tryz.underlying161
 a53 := Tryz.isAgg161
 z53 := Tryz.sizeOf161
 v53 := Tryz.zeroValue161
 t171 := Tryz.underlying160
 a171 := Tryz.isAgg160
 z171 := Tryz.sizeOf160
 v171 := Tryz.zeroValue160
 t173 := Tryz.underlying164
 a173 := Tryz.isAgg164
 z173 := Tryz.sizeOf164
 v173 := Tryz.zeroValue164
 t212 := Tryz.underlying167
 a212 := Tryz.isAgg167
 z212 := Tryz.sizeOf167
 v212 := Tryz.zeroValue167
 t213 := Tryz.underlying169
 a213 := Tryz.isAgg169
 z213 := Tryz.sizeOf169
 t232 := Tryz.underlying173
 a232 := Tryz.isAgg173
 z232 := Tryz.sizeOf173
 v232 := Tryz.zeroValue173
 t233 := Tryz.underlying174
 a233 := Tryz.isAgg174
 z233 := Tryz.sizeOf174
 v233 := Tryz.zeroValue174
 g17 := by kernel_rfl
 g18 := by kernel_rfl
 g19 := by kernel_rfl
 i0 := by kernel_rfl
 i2 := by kernel_rfl
 i3 := by kernel_rfl
 i4 := by kernel_rfl
 i5 := by kernel_rfl
 i9 := by kernel_rfl
 i20 := by kernel_rfl
 i37 := by kernel_rfl
 i46 := by kernel_rfl
 i51 := by kernel_rfl
 i53 := by kernel_rfl
 i171 := by kernel_rfl
 i173 := by kernel_rfl
 i212 := by kernel_rfl
 i232 := by kernel_rfl
 i233 := by kernel_rfl
 m17 := by kernel_rfl
 m18 := by kernel_rfl
 m19 := by kernel_rfl }
end Go.Proofs
namespace Go.Proofs.YtpnogcmollnjeaaGreatDoor
open Go.Proofs Go.Shelf Go.Lib
theorem LD {P : Program} {Γg : Ctx} {ρ : Go.Shelf.Ren} (L : Go.Proofs.LaysM.n171 P ρ) (hE : Enters P (ρ.f 171)) {G : Nat} {tab : List Int} (hg : P.globalNamed "internal/strconv.uint64pow10" = some G) (hΓ : gl G (tab.map (Value.int .u64)) ∈ Γg) (ht : Lib.pow10Tab = tab)
  (m : Int → Option Str) (hm : ∀ n r, m n = some r → zm n = true ∧ r = Lib.itoa n) : (⟨ρ.f 171, [.int .i64], .str, [], fun s => m s⟩ : Ent).Ok P Γg := by
 refine ⟨hE, fun s r hr vs N I X Φ w hS hs hΦ => ?_⟩
 obtain ⟨v2, vs2, D3, D4, I3, I4, X3, X4, N2, rfl, ⟨x, rfl, rfl, rfl, rfl, rfl⟩, ⟨rfl, rfl, rfl, rfl, rfl⟩, hD, rfl, rfl⟩ := hS
 obtain ⟨hn, rfl⟩ := hm s r hr
 have hx : x = s := by
  have hD : [(⟨.i .i64, s⟩ : Dyn)] = [⟨.i .i64, x⟩] := hD
  simp only [List.cons.injEq, and_true] at hD
  cases hD
  rfl
 subst hx
 obtain ⟨h0, h1⟩ := B6.1 hn
 have hs : Sat Φ w := hs
 obtain ⟨i, hi⟩ := List.getElem?_of_mem (hΦ _ hΓ)
 obtain ⟨_, t, fr, hb⟩ := hs.gl0 hi
 have htab : Lib.TabIs P w "internal/strconv.uint64pow10" .u64 Lib.pow10Tab := by
  unfold Lib.TabIs World.var?
  rw [hg, ht]
  simp [hb]
 refine Calls.mono (Any.strconv_Itoa L x h0 h1 w htab) ?_
 rintro e w' ⟨rfl, k, os, rfl⟩
 refine ⟨[], [], [⟨.s, Lib.itoa x⟩], [], [], [], [], [], ⟨_, rfl, rfl, rfl, rfl, rfl⟩, ⟨rfl, rfl, rfl, rfl⟩, rfl, ?_⟩
 refine Sat.ext (Γ := Φ) hs ⟨rfl, rfl, rfl, ?_, fun b hb => ?_⟩
 ·simp [Sort.grow, World.drewN]
 ·simp [Sort.grow, World.drewN, Array.getElem?_append, hb]
end Go.Proofs.YtpnogcmollnjeaaGreatDoor
namespace Go.Proofs
open Go.Shelf
def Tryz.A4 : Go.Shelf.Ren := ⟨fun | 4 => 50 | n => n, fun | 22 => 25 | 25 => 31 | 3 => 3 | 4 => 4 | 9 => 9 | 20 => 20 | 0 => 0 | n => n, fun | n => n⟩
theorem Tryz.Pz : Go.Proofs.Lays8.n4 Tryz.prog Tryz.A4 := {
 mixed := by kernel_rfl
 f4 := ⟨Tryz.f50.name, by decide, Tryz.func50.trans (congrArg some (by kernel_rfl))⟩
 t0 := Tryz.underlying0
 a0 := Tryz.isAgg0
 z0 := Tryz.sizeOf0
 v0 := Tryz.zeroValue0
 t3 := Tryz.underlying3
 a3 := Tryz.isAgg3
 z3 := Tryz.sizeOf3
 v3 := Tryz.zeroValue3
 t4 := Tryz.underlying4
 a4 := Tryz.isAgg4
 z4 := Tryz.sizeOf4
 v4 := Tryz.zeroValue4
 t9 := Tryz.underlying9
 a9 := Tryz.isAgg9
 z9 := Tryz.sizeOf9
 v9 := Tryz.zeroValue9
 t20 := Tryz.underlying20
 a20 := Tryz.isAgg20
 z20 := Tryz.sizeOf20
 v20 := Tryz.zeroValue20
 t22 := Tryz.underlying25
 a22 := Tryz.isAgg25
 z22 := Tryz.sizeOf25
 v22 := Tryz.zeroValue25 }
end Go.Proofs
namespace Go.Proofs.YtpnogcmollnjeaaGreatDoor
open Go.Proofs Go.Shelf Go.Lib
theorem KH {P : Program} {ρ : Go.Shelf.Ren} (L : Go.Proofs.Lays8.n4 P ρ) {z : Value} {bytes : Nat} (hti : TI P (ρ.t 25) 1 bytes z) {α : Type} (A : Rep α) (hA : A.n = 1) (hzc : z.cells.size = 1) (hbp : 0 < bytes) (n : Nat) (hroom : aA n bytes = true) (w : World) :
  j8 P (ρ.f 4) [.slice none 0 0, .int .i64 (n : Int)] w fun v w' => ∃ p : SLV, v = sl p ∧ Ext w w' ∧ (∀ b ∈ slR p, b < w'.heap.size ∧ w.heap.size ≤ b) ∧ ∀ M' : Nat → Prop, Own A (ρ.t 25) M' w' (sl p) ([] : List α) (slR p) := by
 obtain ⟨i, hi, hsz, hby, hz⟩ := hti.out
 simp only [aA, Bool.and_eq_true] at hroom
 have hb1 := Nat.le_of_ble_eq_true hroom.1
 have hb2 := Nat.le_of_ble_eq_true hroom.2
 have hb3 : n ≤ n * bytes := Nat.le_mul_of_pos_right n hbp
 by_cases h0 : n = 0
 ·subst h0
  refine Calls.mono (Go.Proofs.Any8.slices_Grow_room L none 0 0 0 w (by omega) (by omega) (by omega) (by omega)) ?_
  rintro e w' ⟨rfl, rfl⟩
  exact ⟨(none, 0, 0), rfl, Ext.refl _, (fun b hb => by cases hb), fun M' => Own.nil.rR⟩
 ·refine Calls.mono (Go.Proofs.Any8.slices_Grow_grow L i z hi hz (by rw [hsz]; omega) none 0 0 n [] w (by omega) (by omega) (by rw [hby]; simpa using hb1) (by omega) (by simp) (fun _ => rfl) (fun a h => by cases h)) ?_
  rintro e w' ⟨rfl, rfl⟩
  have hcm : grownCap w (0 + n) 0 (ρ.t 25) ≤ maxLen := grownCap_le_maxLen w (0 + n) 0 _ (by simp only [maxLen]; omega)
  have hge := grownCap_ge w (0 + n) 0 (ρ.t 25)
  refine ⟨(some ⟨w.heap.size, 0, none⟩, 0, grownCap w (0 + n) 0 (ρ.t 25)), rfl, ⟨rfl, rfl, rfl, by simp, fun b hb => heap_alloc_old w.drew _ hb⟩, fun b hb => ?_, fun M' => ?_⟩
  ·have := sk hb
   rw [qR] at this
   simp only [List.mem_singleton] at this
   subst this; simp
  ·have hO : OSl A (ρ.t 25) M' (w.drew.alloc (.cells (([] : List Value).toArray ++ Builtin.zeroCells z.cells (0 + n - 0) ++ Builtin.zeroCells z.cells (grownCap w (0 + n) 0 (ρ.t 25) - (0 + n))) (ρ.t 25))) (.slice (some ⟨w.heap.size, 0, none⟩) 0 (grownCap w (0 + n) 0 (ρ.t 25))) ([] : List α) := by
    refine ⟨[], ⟨by simp, .inr ⟨w.heap.size, _, _, rfl, Nat.zero_le _, heap_alloc_new w.drew _, Nat.zero_le _, hcm, ?_, by simp⟩⟩, ARd.nil⟩
    simp only [Array.size_append, List.size_toArray, size_zeroCells, hzc, hA, List.length_nil]
    omega
   exact (Own.of hO).rR
theorem Ky {P : Program} {Γg : Ctx} {ρ : Go.Shelf.Ren} (L : Go.Proofs.Lays8.n4 P ρ) (hE : Enters P (ρ.f 4)) {z : Value} {bytes : Nat} {t : Ty} (hti : TI P (ρ.t 25) 1 bytes z) (ht : t.rep.n = 1) (hzc : z.cells.size = 1) (hbp : 0 < bytes)
  (m : Int → Option (List t.T)) (hm : ∀ n r, m n = some r → 0 ≤ n ∧ aA n.toNat bytes = true ∧ r = []) :
  (⟨ρ.f 4, [.cst (.raw (.slice none 0 0)), .int .i64], .own t (ρ.t 25) true, [], fun s => m s⟩ : Ent).Ok P Γg := by
 refine ⟨hE, fun s r hr vs N I X Φ w hS hs hΓ => ?_⟩
 obtain ⟨v1, vs1, D1, D2, I1, I2, X1, X2, N1, rfl, ⟨⟨rfl, _⟩, rfl, rfl, rfl, rfl⟩, ⟨v2, vs2, D3, D4, I3, I4, X3, X4, N2, rfl, ⟨x, rfl, rfl, rfl, rfl, rfl⟩, ⟨rfl, rfl, rfl, rfl, rfl⟩, rfl, rfl, rfl⟩, hD, rfl, rfl⟩ := hS
 obtain ⟨h0, h1, rfl⟩ := hm s r hr
 have hx : x = s := by
  have hD : [(⟨.i .i64, s⟩ : Dyn)] = [⟨.i .i64, x⟩] := hD
  simp only [List.cons.injEq, and_true] at hD
  cases hD
  rfl
 subst hx
 have hn : ((x.toNat : Nat) : Int) = x := Int.toNat_of_nonneg h0
 have key := KH L hti t.rep ht hzc hbp x.toNat h1 w
 rw [hn] at key
 refine j8.mono key ?_
 rintro v w' ⟨p, rfl, hX, hR, hO⟩
 refine ⟨[{ nm0 with v := p, y := ⟨.l t, []⟩ }], [{ nm0 with v := p, y := ⟨.l t, []⟩ }], [⟨.l t, []⟩], [], [(true, nh t.rep (ρ.t 25) p [] True)], [], [], [], ⟨_, [], rfl, (fun q h => by cases h), rfl, rfl, rfl, rfl, rfl⟩, ⟨rfl, rfl, rfl, rfl⟩, rfl, ?_⟩
 exact Sat.push (new := nh t.rep (ρ.t 25) p [] True) hs hX hR (fun M' _ => ⟨hO M', trivial⟩)
end Go.Proofs.YtpnogcmollnjeaaGreatDoor
namespace Go.Proofs.YtpnogcmollnjeaaGreatDoor
open Go.Proofs
noncomputable section
set_option maxRecDepth 100000
theorem NL : JU Tryz.prog 105 := fun v w => by
 rw [run_callFunc_extern Tryz.func105 (by kernel_rfl) (by kernel_rfl) (by kernel_rfl) (e := Extern.AbiNoEscape.same) (by kernel_rfl)]
 rfl
def X0 : Cx := ⟨Tryz.prog, [(2, (.i .i64)), (3, (.i .i64)), (4, .bo), (5, (.i .u8)), (6, (.i .u8)), (7, (.p (.i .i64) (.p (.i .i64) (.p .bo (.i .u8))))), (8, (.p (.i .i64) (.p (.i .i64) (.p .bo (.i .u8))))), (9, .s), (10, .s), (11, .s), (12, (.i .u64)), (13, (.p .s (.i .u64))), (14, (.p .s (.i .u64))), (21, (.i .i32)), (22, (.l .ex)), (23, (.p (.i .i64) (.p (.i .i64) (.p (.i .i64) (.l .ex))))), (24, .ex), (25, (.l (.l (.i .i64)))), (26, (.p (.l (.l (.i .i64))) (.l (.l (.i .i64))))), (27, (.p (.l (.l (.i .i64))) (.l (.l (.i .i64))))), (29, (.l .s)), (30, (.l (.p (.i .i64) (.i .i64)))), (31, (.l (.i .i64))), (32, (.l (.p (.i .i64) (.p .ex (.l (.p (.i .i64) .ex)))))), (33, (.p (.l .s) (.p (.l (.p (.i .i64) (.i .i64))) (.p (.l (.i .i64)) (.p (.l .s) (.l (.p (.i .i64) (.p .ex (.l (.p (.i .i64) .ex)))))))))), (34, (.p (.l .s) (.p (.l (.p (.i .i64) (.i .i64))) (.p (.l (.i .i64)) (.p (.l .s) (.l (.p (.i .i64) (.p .ex (.l (.p (.i .i64) .ex)))))))))), (42, (.l (.i .u8))), (43, (.p .s (.p (.l (.i .u8)) (.p (.l (.i .i64)) (.i .u8))))), (44, (.p .s (.p (.l (.i .u8)) (.p (.l (.i .i64)) (.i .u8))))), (50, (.p .s (.p .ex (.p (.p (.l (.l (.i .i64))) (.l (.l (.i .i64)))) (.p (.i .u8) (.i .u8)))))), (51, (.p .s (.p .ex (.p (.p (.l (.l (.i .i64))) (.l (.l (.i .i64)))) (.p (.i .u8) (.i .u8)))))), (52, (.p (.i .i64) (.i .i64))), (53, (.p (.i .i64) (.i .i64))), (56, (.p (.l (.l (.i .i64))) (.i .i64))), (57, (.p (.l (.l (.i .i64))) (.i .i64))), (67, (.l .bo)), (69, (.i .i64)), (82, (.l (.p (.i .i64) (.p .s (.p (.i .i64) (.i .i64)))))), (85, (.p (.l (.p (.i .i64) (.p .s (.p (.i .i64) (.i .i64))))) (.p (.i .i64) (.p (.p (.l .s) (.p (.l (.p (.i .i64) (.i .i64))) (.p (.l (.i .i64)) (.p (.l .s) (.l (.p (.i .i64) (.p .ex (.l (.p (.i .i64) .ex))))))))) (.p (.i .i64) (.i .i64)))))), (86, (.p (.l (.p (.i .i64) (.p .s (.p (.i .i64) (.i .i64))))) (.p (.i .i64) (.p (.p (.l .s) (.p (.l (.p (.i .i64) (.i .i64))) (.p (.l (.i .i64)) (.p (.l .s) (.l (.p (.i .i64) (.p .ex (.l (.p (.i .i64) .ex))))))))) (.p (.i .i64) (.i .i64)))))), (87, (.p (.i .i64) (.p .s (.p (.i .i64) (.i .i64))))), (88, (.p (.i .i64) (.p .s (.p (.i .i64) (.i .i64))))), (96, (.l (.l (.l (.i .i64))))), (98, (.p (.i .i64) (.i .i64))), (110, (.l (.p (.i .i64) .ex))), (111, (.p (.i .i64) (.p .ex (.l (.p (.i .i64) .ex))))), (112, (.p (.i .i64) (.p .ex (.l (.p (.i .i64) .ex))))), (113, (.p (.i .i64) .ex)), (114, (.p (.i .i64) .ex)), (122, (.l .bo)), (137, (.p (.i .i64) (.i .i64))), (150, (.p (.l (.p (.i .i64) (.p .s (.p (.i .i64) (.i .i64))))) (.p (.i .i64) (.p (.l .s) (.p (.i .i64) (.i .i64)))))), (151, (.p (.l (.p (.i .i64) (.p .s (.p (.i .i64) (.i .i64))))) (.p (.i .i64) (.p (.l .s) (.p (.i .i64) (.i .i64)))))), (160, (.p (.i .u8) (.p (.i .u8) (.p (.i .u8) (.p (.i .u8) (.p (.i .u8) (.p (.i .u8) (.p (.i .u8) (.p (.i .u8) (.p (.i .u8) (.p (.i .u8) (.p (.i .u8) (.p (.i .u8) (.p (.i .u8) (.p (.i .u8) (.p (.i .u8) (.p (.i .u8) (.p (.i .u8) (.p (.i .u8) (.p (.i .u8) (.p (.i .u8) (.p (.i .u8) (.p (.i .u8) (.p (.i .u8) (.i .u8))))))))))))))))))))))))), (161, (.i .u64)), (167, (.p (.i .u64) (.p (.i .u64) (.p (.i .u64) (.p (.i .u64) (.p (.i .u64) (.p (.i .u64) (.p (.i .u64) (.p (.i .u64) (.p (.i .u64) (.p (.i .u64) (.p (.i .u64) (.p (.i .u64) (.p (.i .u64) (.p (.i .u64) (.p (.i .u64) (.p (.i .u64) (.p (.i .u64) (.p (.i .u64) (.p (.i .u64) (.i .u64))))))))))))))))))))), (168, (.i .u32)), (169, (.p (.i .u8) (.p (.i .u8) (.p (.i .u8) (.p (.i .u8) (.p (.i .u8) (.p (.i .u8) (.p (.i .u8) (.p (.i .u8) (.p (.i .u8) (.p (.i .u8) (.p (.i .u8) (.p (.i .u8) (.p (.i .u8) (.p (.i .u8) (.p (.i .u8) (.p (.i .u8) (.p (.i .u8) (.p (.i .u8) (.p (.i .u8) (.p (.i .u8) (.p (.i .u8) (.p (.i .u8) (.p (.i .u8) (.p (.i .u8) (.p (.i .u8) (.p (.i .u8) (.p (.i .u8) (.p (.i .u8) (.p (.i .u8) (.p (.i .u8) (.p (.i .u8) (.p (.i .u8) (.p (.i .u8) (.p (.i .u8) (.p (.i .u8) (.p (.i .u8) (.p (.i .u8) (.p (.i .u8) (.p (.i .u8) (.p (.i .u8) (.p (.i .u8) (.p (.i .u8) (.p (.i .u8) (.p (.i .u8) (.p (.i .u8) (.p (.i .u8) (.p (.i .u8) (.p (.i .u8) (.p (.i .u8) (.p (.i .u8) (.p (.i .u8) (.p (.i .u8) (.p (.i .u8) (.p (.i .u8) (.p (.i .u8) (.p (.i .u8) (.p (.i .u8) (.p (.i .u8) (.p (.i .u8) (.p (.i .u8) (.p (.i .u8) (.p (.i .u8) (.p (.i .u8) (.p (.i .u8) (.i .u8)))))))))))))))))))))))))))))))))))))))))))))))))))))))))))))))))), (170, (.i .u64)), (173, (.p (.i .u8) (.p (.i .u8) (.p (.i .u8) (.p (.i .u8) (.p (.i .u8) (.p (.i .u8) (.p (.i .u8) (.p (.i .u8) (.p (.i .u8) (.p (.i .u8) (.p (.i .u8) (.p (.i .u8) (.p (.i .u8) (.p (.i .u8) (.p (.i .u8) (.p (.i .u8) (.p (.i .u8) (.p (.i .u8) (.p (.i .u8) (.p (.i .u8) (.p (.i .u8) (.p (.i .u8) (.p (.i .u8) (.p (.i .u8) (.p (.i .u8) (.p (.i .u8) (.p (.i .u8) (.p (.i .u8) (.p (.i .u8) (.p (.i .u8) (.p (.i .u8) (.i .u8))))))))))))))))))))))))))))))))), (174, (.p (.i .u8) (.p (.i .u8) (.p (.i .u8) (.p (.i .u8) (.p (.i .u8) (.p (.i .u8) (.p (.i .u8) (.p (.i .u8) (.p (.i .u8) (.p (.i .u8) (.p (.i .u8) (.p (.i .u8) (.p (.i .u8) (.p (.i .u8) (.p (.i .u8) (.p (.i .u8) (.p (.i .u8) (.p (.i .u8) (.p (.i .u8) (.p (.i .u8) (.p (.i .u8) (.p (.i .u8) (.p (.i .u8) (.p (.i .u8) (.p (.i .u8) (.p (.i .u8) (.p (.i .u8) (.p (.i .u8) (.p (.i .u8) (.p (.i .u8) (.p (.i .u8) (.p (.i .u8) (.p (.i .u8) (.p (.i .u8) (.p (.i .u8) (.p (.i .u8) (.p (.i .u8) (.p (.i .u8) (.p (.i .u8) (.p (.i .u8) (.p (.i .u8) (.p (.i .u8) (.p (.i .u8) (.p (.i .u8) (.p (.i .u8) (.p (.i .u8) (.p (.i .u8) (.p (.i .u8) (.p (.i .u8) (.p (.i .u8) (.p (.i .u8) (.p (.i .u8) (.p (.i .u8) (.p (.i .u8) (.p (.i .u8) (.p (.i .u8) (.p (.i .u8) (.p (.i .u8) (.p (.i .u8) (.p (.i .u8) (.p (.i .u8) (.p (.i .u8) (.p (.i .u8) (.i .u8))))))))))))))))))))))))))))))))))))))))))))))))))))))))))))))))), (177, .un), (178, .un), (179, .un), (180, (.i .u8)), (181, (.i .u8)), (183, (.i .i32)), (184, (.i .i32))], [(0, 0, ⟨.l (.i .u64), nP⟩)], [105], (List.forall_mem_cons.2 ⟨NL, (fun _ h => nomatch h)⟩)⟩
def gA (x : Ex) : Ex := Ex.mk x.op x.n x.at_ x.l
theorem cF : gA = id := funext fun x => by cases x; rfl
def ON : Ent := ⟨92, [.int .i64], .str, [], fun s => BD s⟩
theorem IE : ON.Ok X0.P X0.Γ := LD (ρ := Tryz.vq) Tryz.Jp Tryz.call92 (G := 0) (tab := nP) (by kernel_rfl) (show _ ∈ [gl 0 (nP.map (Value.int .u64))] from List.mem_cons_self ..) (by decide +kernel) BD fun n r h => by
 obtain ⟨h1, h2⟩ := fw h
 cases h2
 exact ⟨h1, rfl⟩
def OO : Ent := ⟨50, [.cst (.raw (.slice none 0 0)), .int .i64], .own (.l (.i .i64)) 31 true, [], fun s => yA s⟩
theorem HH : OO.Ok X0.P X0.Γ := Ky (ρ := Tryz.A4) Tryz.Pz Tryz.call50 (z := .slice none 0 0) (bytes := 24) (t := .l (.i .i64)) (by unfold TI; kernel_rfl) rfl rfl (by decide) yA fun n r h => by
 obtain ⟨h1, h2⟩ := fw h
 simp only [Bool.and_eq_true, decide_eq_true_eq] at h1
 cases h2
 exact ⟨h1.1, h1.2, rfl⟩
abbrev TK0 := Q10 → Option Q6
def cS (k : TK0) : Ent := ⟨95, [(.bx 151 0 true [(.own (.p (.i .i64) (.p .s (.p (.i .i64) (.i .i64)))) 88 false), (.int .i64), (.own .s 9 false), (.int .i64), (.int .i64)]), (.int .i64), (.int .i64)], (.dat .ex [some 49]), [(true, 0, (.bx 151 0 true [.same, (.int .i64), .same, (.int .i64), (.int .i64)]))], fun s => k (s.2.2.2.2.2.1, s.2.2.2.2.2.2, s.1, s.2.1, s.2.2.1, s.2.2.2.1, s.2.2.2.2.1)⟩
abbrev OK0 (k : TK0) : Prop := (cS k).Ok X0.P X0.Γ
abbrev TK1 := Ex → Option Q9
def fp (k : TK1) : Ent := ⟨22, [(.dat .ex [none])], (.tup [(.int .i64), (.int .i64), (.int .i64)]), [], fun s => k s⟩
abbrev OK1 (k : TK1) : Prop := (fp k).Ok X0.P X0.Γ
abbrev TK2 := (Ex × Q3) → Option Int
def mL (k : TK2) : Ent := ⟨68, [(.dat .ex [none]), (.sli (.i .i64))], (.int .i64), [], fun s => k (s.1, s.2)⟩
abbrev OK2 (k : TK2) : Prop := (mL k).Ok X0.P X0.Γ
abbrev TK3 := Ex → Option Q9
def my (k : TK3) : Ent := ⟨86, [(.dat .ex [none])], (.tup [(.int .i64), (.int .i64), (.int .i64)]), [], fun s => k s⟩
abbrev OK3 (k : TK3) : Prop := (my k).Ok X0.P X0.Γ
abbrev TK4 := (Ex × Q13) → Option Q5
def o7 (k : TK4) : Ent := ⟨49, [(.dat .ex [none]), (.dat (.p (.l (.l (.i .i64))) (.i .i64)) [none])], (.own .bo 4 true), [], fun s => k (s.1, s.2)⟩
abbrev OK4 (k : TK4) : Prop := (o7 k).Ok X0.P X0.Γ
abbrev TK5 := Q22 → Option Int
def fu (k : TK5) : Ent := ⟨47, [(.dat .ex [none]), (.int .i64)], (.int .i64), [], fun s => k (s.1, s.2)⟩
abbrev OK5 (k : TK5) : Prop := (fu k).Ok X0.P X0.Γ
abbrev TK6 := Q22 → Option Int
def fq (k : TK6) : Ent := ⟨48, [(.dat .ex [none]), (.int .i64)], (.int .i64), [], fun s => k (s.1, s.2)⟩
abbrev OK6 (k : TK6) : Prop := (fq k).Ok X0.P X0.Γ
abbrev TK7 := Q22 → Option Bool
def fD (k : TK7) : Ent := ⟨21, [(.dat .ex [none]), (.int .i64)], .bool, [], fun s => k (s.1, s.2)⟩
abbrev OK7 (k : TK7) : Prop := (fD k).Ok X0.P X0.Γ
def sY : Ent := ⟨58, [(.int .u8)], (.int .i64), [], fun s => cX s⟩
theorem qC : (sY).Ok X0.P X0.Γ :=
 ay .o Tryz.call58 Tryz.func58 ok0 ok0 ok0 fun _ => by kernel_rfl
def sx : Ent := ⟨59, [], (.own .s 9 true), [], fun _ => ju⟩
theorem pI : (sx).Ok X0.P X0.Γ :=
 ay .o Tryz.call59 Tryz.func59 ok0 ok0 ok0 fun _ => by kernel_rfl
def rb : Ent := ⟨39, [.str], (.tup [(.own (.p (.i .i64) (.p .s (.p (.i .i64) (.i .i64)))) 88 true), (.int .i64), (.int .i64)]), [], fun s => dk s⟩
theorem oN : (rb).Ok X0.P X0.Γ :=
 ay (.c .o (.l ⟨[(false, 5, (.own (.p (.i .i64) (.p .s (.p (.i .i64) (.i .i64)))) 88 true)), (false, 6, (.int .i64))], []⟩ (.c (.c .o (.c (.l ⟨[(false, 6, (.int .i64))], []⟩ .o) (.c (.l ⟨[(false, 6, (.int .i64))], []⟩ .o) (.c (.l ⟨[(false, 6, (.int .i64)), (false, 9, (.int .i64))], []⟩ .o) (.l ⟨[(false, 11, .str), (false, 12, (.int .i64))], []⟩ .o))))) .o))) Tryz.call39 Tryz.func39 (ok1 qC (ok1 pI ok0)) ok0 ok0 fun _ => by kernel_rfl
def qy : Ent := ⟨40, [(.bx 86 0 false [(.own (.p (.i .i64) (.p .s (.p (.i .i64) (.i .i64)))) 88 false), (.int .i64), (.own .s 9 false), (.own (.p (.i .i64) (.i .i64)) 53 false), (.own (.i .i64) 3 false), (.own .s 9 false), (.own (.p (.i .i64) (.p .ex (.l (.p (.i .i64) .ex)))) 112 false), (.int .i64), (.int .i64)]), (.int .i64), .str], .bool, [], fun s => aW s.2.2.2.2.2.2.2.2.2.1 s.2.2.2.2.2.2.2.2.2.2 s.1 s.2.1 s.2.2.1 s.2.2.2.1 s.2.2.2.2.1 s.2.2.2.2.2.1 s.2.2.2.2.2.2.1 s.2.2.2.2.2.2.2.1 s.2.2.2.2.2.2.2.2.1⟩
theorem dF : (qy).Ok X0.P X0.Γ :=
 ay .o Tryz.call40 Tryz.func40 ok0 ok0 ok0 fun _ => by kernel_rfl
def uc : Ent := ⟨62, [.str], .bool, [], fun s => er s⟩
theorem kI : (uc).Ok X0.P X0.Γ :=
 ay (.s (.s (.s (.j ⟨[(false, 4, .bool)], []⟩ .o .o)))) Tryz.call62 Tryz.func62 ok0 ok0 ok0 fun _ => by kernel_rfl
def oO : Ent := ⟨41, [(.bx 86 0 true [(.own (.p (.i .i64) (.p .s (.p (.i .i64) (.i .i64)))) 88 false), (.int .i64), (.own .s 9 false), (.own (.p (.i .i64) (.i .i64)) 53 false), (.own (.i .i64) 3 false), (.own .s 9 false), (.own (.p (.i .i64) (.p .ex (.l (.p (.i .i64) .ex)))) 112 false), (.int .i64), (.int .i64)]), (.int .i64), (.int .i64)], (.tup []), [(true, 0, (.bx 86 0 true [.same, .same, .same, .same, .same, .same, .same, (.int .i64), (.int .i64)]))], fun s => ar s.2.2.2.2.2.2.2.2.2.1 s.2.2.2.2.2.2.2.2.2.2 s.1 s.2.1 s.2.2.1 s.2.2.2.1 s.2.2.2.2.1 s.2.2.2.2.2.1 s.2.2.2.2.2.2.1 s.2.2.2.2.2.2.2.1 s.2.2.2.2.2.2.2.2.1⟩
theorem bk : (oO).Ok X0.P X0.Γ :=
 ay .o Tryz.call41 Tryz.func41 ok0 ok0 ok0 fun _ => by kernel_rfl
def p9 : Ent := ⟨63, [(.own .s 9 false), .str], (.int .i64), [], fun s => bp s.1 s.2⟩
theorem iR : (p9).Ok X0.P X0.Γ :=
 ay (.l ⟨[(false, 5, (.int .i64))], []⟩ .o) Tryz.call63 Tryz.func63 ok0 ok0 ok0 fun _ => by kernel_rfl
def pb : Ent := ⟨44, [(.bx 86 0 true [(.own (.p (.i .i64) (.p .s (.p (.i .i64) (.i .i64)))) 88 false), (.int .i64), (.own .s 9 false), (.own (.p (.i .i64) (.i .i64)) 53 false), (.own (.i .i64) 3 false), (.own .s 9 false), (.own (.p (.i .i64) (.p .ex (.l (.p (.i .i64) .ex)))) 112 false), (.int .i64), (.int .i64)]), .bool], .str, [(true, 0, (.bx 86 0 true [.same, (.int .i64), .same, .same, .same, .same, .same, (.int .i64), (.int .i64)]))], fun s => dp s.2.2.2.2.2.2.2.2.2 s.1 s.2.1 s.2.2.1 s.2.2.2.1 s.2.2.2.2.1 s.2.2.2.2.2.1 s.2.2.2.2.2.2.1 s.2.2.2.2.2.2.2.1 s.2.2.2.2.2.2.2.2.1⟩
theorem iC : (pb).Ok X0.P X0.Γ :=
 ay .o Tryz.call44 Tryz.func44 (ok1 kI (ok1 bk (ok1 iR ok0))) ok0 ok0 fun _ => by kernel_rfl
def oG : Ent := ⟨42, [(.bx 86 0 false [(.own (.p (.i .i64) (.p .s (.p (.i .i64) (.i .i64)))) 88 false), (.int .i64), (.own .s 9 false), (.own (.p (.i .i64) (.i .i64)) 53 false), (.own (.i .i64) 3 false), (.own .s 9 false), (.own (.p (.i .i64) (.p .ex (.l (.p (.i .i64) .ex)))) 112 false), (.int .i64), (.int .i64)])], (.int .i64), [], fun s => aB s.1 s.2.1 s.2.2.1 s.2.2.2.1 s.2.2.2.2.1 s.2.2.2.2.2.1 s.2.2.2.2.2.2.1 s.2.2.2.2.2.2.2.1 s.2.2.2.2.2.2.2.2⟩
theorem di : (oG).Ok X0.P X0.Γ :=
 ay .o Tryz.call42 Tryz.func42 ok0 ok0 ok0 fun _ => by kernel_rfl
def oF : Ent := ⟨45, [(.bx 86 0 true [(.own (.p (.i .i64) (.p .s (.p (.i .i64) (.i .i64)))) 88 false), (.int .i64), (.own .s 9 false), (.own (.p (.i .i64) (.i .i64)) 53 false), (.own (.i .i64) 3 false), (.own .s 9 false), (.own (.p (.i .i64) (.p .ex (.l (.p (.i .i64) .ex)))) 112 false), (.int .i64), (.int .i64)]), .str], (.tup []), [(true, 0, (.bx 86 0 true [.same, (.int .i64), .same, .same, .same, .same, .same, (.int .i64), (.int .i64)]))], fun s => aR s.2.2.2.2.2.2.2.2.2 s.1 s.2.1 s.2.2.1 s.2.2.2.1 s.2.2.2.2.1 s.2.2.2.2.2.1 s.2.2.2.2.2.2.1 s.2.2.2.2.2.2.2.1 s.2.2.2.2.2.2.2.2.1⟩
theorem eU : (oF).Ok X0.P X0.Γ :=
 ay .o Tryz.call45 Tryz.func45 (ok1 dF (ok1 di (ok1 bk ok0))) ok0 ok0 fun _ => by kernel_rfl
def rh : Ent := ⟨101, [(.int .i64)], .bool, [], fun s => fH s⟩
theorem o6 : (rh).Ok X0.P X0.Γ :=
 ay .o Tryz.call101 Tryz.func101 ok0 ok0 ok0 fun _ => by kernel_rfl
def nz : Ent := ⟨102, [(.bx 151 0 true [(.own (.p (.i .i64) (.p .s (.p (.i .i64) (.i .i64)))) 88 false), (.int .i64), (.own .s 9 false), (.int .i64), (.int .i64)]), (.int .i64)], (.dat .ex [some 49]), [(true, 0, (.bx 151 0 true [.same, .same, .same, (.int .i64), (.int .i64)]))], fun s => aK s.2.2.2.2.2 s.1 s.2.1 s.2.2.1 s.2.2.2.1 s.2.2.2.2.1⟩
theorem gw : (nz).Ok X0.P X0.Γ :=
 ay (.c (.r [0] .o) .o) Tryz.call102 Tryz.func102 ok0 ok0 ok0 fun _ => by kernel_rfl
def n3 (k0 : TK0) : Ent := ⟨103, [(.bx 151 0 true [(.own (.p (.i .i64) (.p .s (.p (.i .i64) (.i .i64)))) 88 false), (.int .i64), (.own .s 9 false), (.int .i64), (.int .i64)]), (.int .i64)], (.dat .ex [some 49]), [(true, 0, (.bx 151 0 true [.same, (.int .i64), .same, (.int .i64), (.int .i64)]))], fun s => bU k0 s.2.2.2.2.2 s.1 s.2.1 s.2.2.1 s.2.2.2.1 s.2.2.2.2.1⟩
def mc (eta : Ex → Ex) (_du : Sh → (R : Type) → Option R → Option R) (l : Q2) (at_ : Int) (names : Q7) (bad : Int) (place : Int) (e12 : Q11) (again50 : Int → Option Q6) (i49 : Int) : Option Q6 := bif (decide (i49 < (List.length names : Int))) then ( (idx names i49).bind fun e54 => bif (e54 == e12.2.1) then ( some ((Ex.mk 2 i49 e12.2.2.2 []), (IntKind.i64.wrap (at_ + 1)), bad, place)) else ( again50 (IntKind.i64.wrap (i49 + 1)))) else ( (aK 3 l at_ names bad place).bind fun r59 => some ((eta r59.1), at_, r59.2.1, r59.2.2))
def fk (eta : Ex → Ex) (du : Sh → (R : Type) → Option R → Option R) (ah : Q10 → Option Q6) (deep : Int) (l : Q2) (at_ : Int) (names : Q7) (bad : Int) (place : Int) : Option Q6 := (idx l at_).bind fun e12 => bif (e12.1 == 2) then ( some ((Ex.mk 1 e12.2.2.1 e12.2.2.2 []), (IntKind.i64.wrap (at_ + 1)), bad, place)) else ( ab (e12.1 == 1) fun b20 => ab (e12.2.1 == [116, 114, 117, 101]) fun b22 => ab (b20 && b22) fun b24 => bif b24 then ( some ((Ex.mk 13 0 e12.2.2.2 []), (IntKind.i64.wrap (at_ + 1)), bad, place)) else ( ab (e12.1 == 1) fun b29 => ab (e12.2.1 == [102, 97, 108, 115, 101]) fun b31 => ab (b29 && b31) fun b33 => bif b33 then ( some ((Ex.mk 14 0 e12.2.2.2 []), (IntKind.i64.wrap (at_ + 1)), bad, place)) else ( (er e12.2.1).bind fun r38 => ab (e12.1 == 1) fun b41 => ab (!r38) fun b43 => ab (b41 && b43) fun b45 => bif b45 then ( al (mc eta du l at_ names bad place e12) aq 0) else ( ab (e12.1 != 3) fun b65 => ab (e12.2.1 != [40]) fun b67 => ab (b65 || b67) fun b69 => bif b69 then ( (aK 2 l at_ names bad place).bind fun r72 => some ((eta r72.1), at_, r72.2.1, r72.2.2)) else ( (ah (1, deep, l, (IntKind.i64.wrap (at_ + 1)), names, bad, place)).bind fun r79 => bif (r79.2.2.1 != 0) then ( some ((Ex.mk 0 0 0 []), r79.2.1, r79.2.2.1, r79.2.2.2)) else ( (idx l r79.2.1).bind fun e91 => ab (e91.1 != 3) fun b93 => aT (!b93) (0, [], 0, 0) (idx l r79.2.1) fun e95 => ab (e95.2.1 != [41]) fun b97 => ab (b93 || b97) fun b99 => bif b99 then ( (aK 2 l r79.2.1 names r79.2.2.1 r79.2.2.2).bind fun r102 => some ((eta r102.1), r79.2.1, r102.2.1, r102.2.2)) else ( some ((eta r79.1), (IntKind.i64.wrap (r79.2.1 + 1)), r79.2.2.1, r79.2.2.2))))))))
theorem mI (k0 : TK0) (i0 : OK0 k0) : (n3 k0).Ok X0.P X0.Γ :=
 ay (.r [] (.c .o (.c .o (.c .o (.c (.l ⟨[(true, 0, (.bx 151 0 true [.same, .same, .same, .same, .same])), (true, 4, (.bx 24 0 true [.same, .same, .same, .same])), (false, 7, (.int .i64))], []⟩ .o) .o))))) Tryz.call103 Tryz.func103 (ok1 kI (ok1 gw (ok1 i0 ok0))) ok0 ok0 fun s => (show _ = fk gA duE k0 s.2.2.2.2.2 s.1 s.2.1 s.2.2.1 s.2.2.2.1 s.2.2.2.2.1 from by kernel_rfl).trans ((congrArg (fun eta => fk eta duE k0 s.2.2.2.2.2 s.1 s.2.1 s.2.2.1 s.2.2.2.1 s.2.2.2.2.1) cF).trans ((congrArg (fun du => fk id du k0 s.2.2.2.2.2 s.1 s.2.1 s.2.2.1 s.2.2.2.1 s.2.2.2.2.1) dD).trans (by kernel_rfl)))
def uT : Ent := ⟨104, [(.dat (.p (.i .i64) (.p .s (.p (.i .i64) (.i .i64)))) []), (.int .i64)], (.int .i64), [], fun s => bm s.1 s.2⟩
theorem sw : (uT).Ok X0.P X0.Γ :=
 ay (.c (.c .o (.c .o (.c .o (.c .o (.c .o (.c (.l ⟨[(false, 7, (.int .i64))], []⟩ .o) .o)))))) .o) Tryz.call104 Tryz.func104 ok0 ok0 ok0 fun _ => by kernel_rfl
def iL : Ent := ⟨95, [(.bx 151 0 true [(.own (.p (.i .i64) (.p .s (.p (.i .i64) (.i .i64)))) 88 false), (.int .i64), (.own .s 9 false), (.int .i64), (.int .i64)]), (.int .i64), (.int .i64)], (.dat .ex [some 49]), [(true, 0, (.bx 151 0 true [.same, (.int .i64), .same, (.int .i64), (.int .i64)]))], fun s => dI s.2.2.2.2.2.1 s.2.2.2.2.2.2 s.1 s.2.1 s.2.2.1 s.2.2.2.1 s.2.2.2.2.1⟩
def lL (eta : Ex → Ex) (_du : Sh → (R : Type) → Option R → Option R) (ah : Q10 → Option Q6) (l : Q2) (at_ : Int) (names : Q7) (bad : Int) (place : Int) (deep16 : Int) (e30 : Q11) (k43 : Int) : Option Q6 := bif (k43 == 0) then ( (ah (7, deep16, l, at_, names, bad, place)).bind fun r45 => some ((eta r45.1), r45.2.1, r45.2.2.1, r45.2.2.2)) else ( (ah (6, deep16, l, (IntKind.i64.wrap (at_ + 1)), names, bad, place)).bind fun r52 => some ((Ex.mk k43 0 e30.2.2.2 ([(eta r52.1)] : List Ex)), r52.2.1, r52.2.2.1, r52.2.2.2))
def lO (eta : Ex → Ex) (du : Sh → (R : Type) → Option R → Option R) (ah : Q10 → Option Q6) (l : Q2) (at_ : Int) (names : Q7) (bad : Int) (place : Int) (deep16 : Int) (e30 : Q11) (k41 : Int) : Option Q6 := ab (fun (s64 : Int) => lL eta du ah l at_ names bad place deep16 e30 s64) fun kk63 => ab (e30.1 == 1) fun b65 => ab (e30.2.1 == [71]) fun b67 => ab (b65 && b67) fun b69 => bif b69 then ( kk63 22) else ( kk63 k41)
def lD (eta : Ex → Ex) (du : Sh → (R : Type) → Option R → Option R) (ah : Q10 → Option Q6) (l : Q2) (at_ : Int) (names : Q7) (bad : Int) (place : Int) (deep16 : Int) (e30 : Q11) (k39 : Int) : Option Q6 := ab (fun (s73 : Int) => lO eta du ah l at_ names bad place deep16 e30 s73) fun kk72 => ab (e30.1 == 1) fun b74 => ab (e30.2.1 == [70]) fun b76 => ab (b74 && b76) fun b78 => bif b78 then ( kk72 21) else ( kk72 k39)
def lE (eta : Ex → Ex) (du : Sh → (R : Type) → Option R → Option R) (ah : Q10 → Option Q6) (l : Q2) (at_ : Int) (names : Q7) (bad : Int) (place : Int) (deep16 : Int) (e30 : Q11) (k37 : Int) : Option Q6 := ab (fun (s82 : Int) => lD eta du ah l at_ names bad place deep16 e30 s82) fun kk81 => ab (e30.1 == 1) fun b83 => ab (e30.2.1 == [88]) fun b85 => ab (b83 && b85) fun b87 => bif b87 then ( kk81 20) else ( kk81 k37)
def lN (eta : Ex → Ex) (_du : Sh → (R : Type) → Option R → Option R) (ah : Q10 → Option Q6) (strength : Int) (l : Q2) (names : Q7) (deep16 : Int) (again143 : (Int × Int × Int × Int × Int × Int × (List Ex)) → Option Q6) : Int × Int × Int × Int × Int × Int × (List Ex) → Option Q6 := fun ⟨c134, c135, c136, c137, c138, c139, c140⟩ => bif (c135 == 0) then ( (idx l c134).bind fun e147 => (bm e147 strength).bind fun r152 => bif (r152 == 0) then ( some ((Ex.mk c137 c138 c139 c140), c134, c135, c136)) else ( ab (strength == 1) fun b158 => ab (strength == 2) fun b160 => ab (b158 || b160) fun b162 => ab (strength == 5) fun b164 => ab (b162 || b164) fun b166 => bif b166 then ( (ah (strength, deep16, l, (IntKind.i64.wrap (c134 + 1)), names, c135, c136)).bind fun r169 => some ((Ex.mk r152 0 e147.2.2.2 ([(Ex.mk c137 c138 c139 c140), (eta r169.1)] : List Ex)), r169.2.1, r169.2.2.1, r169.2.2.2)) else ( (ah ((IntKind.i64.wrap (strength + 1)), deep16, l, (IntKind.i64.wrap (c134 + 1)), names, c135, c136)).bind fun r180 => bif (strength == 7) then ( some ((Ex.mk r152 0 e147.2.2.2 ([(Ex.mk c137 c138 c139 c140), (eta r180.1)] : List Ex)), r180.2.1, r180.2.2.1, r180.2.2.2)) else ( again143 (r180.2.1, r180.2.2.1, r180.2.2.2, r152, 0, e147.2.2.2, ([(Ex.mk c137 c138 c139 c140), (eta r180.1)] : List Ex)))))) else ( some ((Ex.mk c137 c138 c139 c140), c134, c135, c136))
def lA (eta : Ex → Ex) (du : Sh → (R : Type) → Option R → Option R) (ah : Q10 → Option Q6) (strength : Int) (l : Q2) (at_ : Int) (names : Q7) (bad : Int) (place : Int) (r12 : Bool) (deep16 : Int) : Option Q6 := ab (decide (320 < deep16)) fun b17 => ab (r12 && b17) fun b19 => bif b19 then ( (aK 9 l at_ names bad place).bind fun r22 => some ((eta r22.1), at_, r22.2.1, r22.2.2)) else ( (idx l at_).bind fun e30 => bif (strength == 6) then ( ab (fun (s91 : Int) => lE eta du ah l at_ names bad place deep16 e30 s91) fun kk90 => ab (e30.1 == 3) fun b92 => ab (e30.2.1 == [33]) fun b94 => ab (b92 && b94) fun b96 => bif b96 then ( kk90 15) else ( kk90 0)) else ( bif (strength == 10) then ( ab (e30.1 != 3) fun b100 => ab (e30.2.1 != [45]) fun b102 => ab (b100 || b102) fun b104 => bif b104 then ( (bU ah deep16 l at_ names bad place).bind fun r107 => some ((eta r107.1), r107.2.1, r107.2.2.1, r107.2.2.2)) else ( (ah (10, deep16, l, (IntKind.i64.wrap (at_ + 1)), names, bad, place)).bind fun r114 => some ((Ex.mk 6 0 e30.2.2.2 ([(eta r114.1)] : List Ex)), r114.2.1, r114.2.2.1, r114.2.2.2))) else ( (ah ((IntKind.i64.wrap (strength + 1)), deep16, l, at_, names, bad, place)).bind fun r125 => al (lN eta du ah strength l names deep16) aq (r125.2.1, r125.2.2.1, r125.2.2.2, r125.1.op, r125.1.n, r125.1.at_, r125.1.l))))
def ek (eta : Ex → Ex) (du : Sh → (R : Type) → Option R → Option R) (ah : Q10 → Option Q6) (strength : Int) (deep : Int) (l : Q2) (at_ : Int) (names : Q7) (bad : Int) (place : Int) : Option Q6 := bif (bad != 0) then ( some ((Ex.mk 0 0 0 []), at_, bad, place)) else ( (fH strength).bind fun r12 => ab (fun (s195 : Int) => lA eta du ah strength l at_ names bad place r12 s195) fun kk194 => bif r12 then ( kk194 (IntKind.i64.wrap (deep + 1))) else ( kk194 deep))
def iJ : TK0 → TK0 := fun k0 s => bE k0 s.1 s.2.1 s.2.2.1 s.2.2.2.1 s.2.2.2.2.1 s.2.2.2.2.2.1 s.2.2.2.2.2.2
theorem kD (k0 : TK0) (i0 : OK0 k0) : (cS (iJ k0)).Ok X0.P X0.Γ :=
 ay (.c .o (.s (.j ⟨[(false, 2, (.int .i64))], []⟩ .o (.c .o (.r [] (.c (.s (.j ⟨[(false, 9, (.int .i64))], []⟩ .o (.j ⟨[(false, 9, (.int .i64))], []⟩ .o (.j ⟨[(false, 9, (.int .i64))], []⟩ .o (.j ⟨[(false, 9, (.int .i64))], []⟩ .o .o))))) (.c .o (.l ⟨[(true, 0, (.bx 151 0 true [.same, (.int .i64), .same, (.int .i64), (.int .i64)])), (true, 6, (.bx 24 0 true [.same, .same, .same, .same])), (true, 12, (.bx 24 0 true [(.int .i64), (.int .i64), (.int .i64), (.own .ex 24 true)]))], []⟩ .o)))))))) Tryz.call95 Tryz.func95 (ok1 o6 (ok1 gw (ok1 i0 (ok1 (mI k0 i0) (ok1 sw ok0))))) ok0 ok0 fun s => (show _ = ek gA duE k0 s.2.2.2.2.2.1 s.2.2.2.2.2.2 s.1 s.2.1 s.2.2.1 s.2.2.2.1 s.2.2.2.2.1 from by kernel_rfl).trans ((congrArg (fun eta => ek eta duE k0 s.2.2.2.2.2.1 s.2.2.2.2.2.2 s.1 s.2.1 s.2.2.1 s.2.2.2.1 s.2.2.2.2.1) cF).trans ((congrArg (fun du => ek id du k0 s.2.2.2.2.2.1 s.2.2.2.2.2.2 s.1 s.2.1 s.2.2.1 s.2.2.2.1 s.2.2.2.2.1) dD).trans (by kernel_rfl)))
theorem lG : (iL).Ok X0.P X0.Γ := (show iL = cS (al (iJ) aq) by kernel_rfl) ▸ kj (X := X0) (E := cS) ⟨Tryz.call95, fun _ _ h => nomatch h⟩ (kD) aq
def pC : Ent := ⟨85, [(.own (.p (.i .i64) (.p .s (.p (.i .i64) (.i .i64)))) 88 false), (.int .i64), (.own .s 9 false)], (.tup [(.dat .ex [some 49]), (.int .i64), (.int .i64), (.int .i64)]), [], fun s => cH s.1 s.2.1 s.2.2⟩
def gm (eta : Ex → Ex) (_du : Sh → (R : Type) → Option R → Option R) (l : Q2) (at_ : Int) (names : Q7) : Option Q6 := (dI 1 0 l at_ names 0 0).bind fun r14 => bif (r14.2.2.1 != 0) then ( some ((Ex.mk 0 0 0 []), 0, r14.2.2.1, r14.2.2.2)) else ( some ((eta r14.1), r14.2.1, 0, 0))
theorem nZ : (pC).Ok X0.P X0.Γ :=
 ay (.c (.r [6] .o) (.r [6] .o)) Tryz.call85 Tryz.func85 (ok1 lG ok0) ok0 ok0 fun s => (show _ = gm gA duE s.1 s.2.1 s.2.2 from by kernel_rfl).trans ((congrArg (fun eta => gm eta duE s.1 s.2.1 s.2.2) cF).trans ((congrArg (fun du => gm id du s.1 s.2.1 s.2.2) dD).trans (by kernel_rfl)))
def mo : Ent := ⟨22, [(.dat .ex [none])], (.tup [(.int .i64), (.int .i64), (.int .i64)]), [], fun s => cd s⟩
def qx (eta : Ex → Ex) (_du : Sh → (R : Type) → Option R → Option R) (ck : Ex → Option Q9) (e : Ex) (again12 : Q15 → Option Q9) : Int × Int × Int × Int → Option Q9 := fun ⟨ints8, bools9, times10, i11⟩ => bif (decide (i11 < (List.length e.l : Int))) then ( (idx e.l i11).bind fun e14 => (ck (eta e14)).bind fun r20 => bif (r20.2.1 != 0) then ( some (0, r20.2.1, r20.2.2)) else ( ab (fun (s33 : Int) => iB bools9 times10 i11 again12 r20 s33) fun kk32 => bif (r20.1 == 1) then ( kk32 (IntKind.i64.wrap (ints8 + 1))) else ( kk32 ints8))) else ( ab (decide (e.op ≤ 6)) fun b35 => ab (ints8 == (List.length e.l : Int)) fun b37 => ab (b35 && b37) fun b39 => bif b39 then ( some (1, 0, 0)) else ( ab (decide (7 ≤ e.op)) fun b42 => ab (decide (e.op ≤ 12)) fun b44 => ab (b42 && b44) fun b46 => ab (ints8 == (List.length e.l : Int)) fun b48 => ab (b46 && b48) fun b50 => ab (e.op == 13) fun b52 => ab (b50 || b52) fun b54 => ab (e.op == 14) fun b56 => ab (b54 || b56) fun b58 => bif b58 then ( some (2, 0, 0)) else ( ab (decide (15 ≤ e.op)) fun b61 => ab (decide (e.op ≤ 19)) fun b63 => ab (b61 && b63) fun b65 => ab (bools9 == (List.length e.l : Int)) fun b67 => ab (b65 && b67) fun b69 => bif b69 then ( some (2, 0, 0)) else ( ab (decide (15 ≤ e.op)) fun b72 => ab ((IntKind.i64.wrap (bools9 + times10)) == (List.length e.l : Int)) fun b74 => ab (b72 && b74) fun b76 => bif b76 then ( some (3, 0, 0)) else ( some (0, 4, e.at_))))))
def ie (eta : Ex → Ex) (du : Sh → (R : Type) → Option R → Option R) (ck : Ex → Option Q9) (e : Ex) : Option Q9 := al (qx eta du ck e) aq (0, 0, 0, 0)
def mb : TK1 → TK1 := fun k1 s => ei k1 s
theorem oS (k1 : TK1) (i1 : OK1 k1) : (fp (mb k1)).Ok X0.P X0.Γ :=
 ay (.l ⟨[(false, 5, (.int .i64)), (false, 6, (.int .i64)), (false, 7, (.int .i64)), (false, 8, (.int .i64))], []⟩ (.c (.c .o (.j ⟨[(false, 5, (.int .i64))], []⟩ .o (.j ⟨[(false, 6, (.int .i64))], []⟩ .o .o))) .o)) Tryz.call22 Tryz.func22 (ok1 i1 ok0) ok0 ok0 fun s => (show _ = ie gA duE k1 s from by kernel_rfl).trans ((congrArg (fun eta => ie eta duE k1 s) cF).trans ((congrArg (fun du => ie id du k1 s) dD).trans (by kernel_rfl)))
theorem kl : (mo).Ok X0.P X0.Γ := (show mo = fp (al (mb) aq) by kernel_rfl) ▸ kj (X := X0) (E := fp) ⟨Tryz.call22, fun _ _ h => nomatch h⟩ (oS) aq
def qD : Ent := ⟨22, [(.dat .ex [some 48])], (.tup [(.int .i64), (.int .i64), (.int .i64)]), [], fun s => dK s⟩
def oy (eta : Ex → Ex) (_du : Sh → (R : Type) → Option R → Option R) (e : Ex) (again12 : Q15 → Option Q9) : Int × Int × Int × Int → Option Q9 := fun ⟨ints8, bools9, times10, i11⟩ => bif (decide (i11 < (List.length e.l : Int))) then ( (idx e.l i11).bind fun e14 => (cd (eta e14)).bind fun r20 => bif (r20.2.1 != 0) then ( some (0, r20.2.1, r20.2.2)) else ( ab (fun (s33 : Int) => jW bools9 times10 i11 again12 r20 s33) fun kk32 => bif (r20.1 == 1) then ( kk32 (IntKind.i64.wrap (ints8 + 1))) else ( kk32 ints8))) else ( ab (decide (e.op ≤ 6)) fun b35 => ab (ints8 == (List.length e.l : Int)) fun b37 => ab (b35 && b37) fun b39 => bif b39 then ( some (1, 0, 0)) else ( ab (decide (7 ≤ e.op)) fun b42 => ab (decide (e.op ≤ 12)) fun b44 => ab (b42 && b44) fun b46 => ab (ints8 == (List.length e.l : Int)) fun b48 => ab (b46 && b48) fun b50 => ab (e.op == 13) fun b52 => ab (b50 || b52) fun b54 => ab (e.op == 14) fun b56 => ab (b54 || b56) fun b58 => bif b58 then ( some (2, 0, 0)) else ( ab (decide (15 ≤ e.op)) fun b61 => ab (decide (e.op ≤ 19)) fun b63 => ab (b61 && b63) fun b65 => ab (bools9 == (List.length e.l : Int)) fun b67 => ab (b65 && b67) fun b69 => bif b69 then ( some (2, 0, 0)) else ( ab (decide (15 ≤ e.op)) fun b72 => ab ((IntKind.i64.wrap (bools9 + times10)) == (List.length e.l : Int)) fun b74 => ab (b72 && b74) fun b76 => bif b76 then ( some (3, 0, 0)) else ( some (0, 4, e.at_))))))
def gE (eta : Ex → Ex) (du : Sh → (R : Type) → Option R → Option R) (e : Ex) : Option Q9 := al (oy eta du e) aq (0, 0, 0, 0)
theorem om : (qD).Ok X0.P X0.Γ :=
 ay (.l ⟨[(false, 5, (.int .i64)), (false, 6, (.int .i64)), (false, 7, (.int .i64)), (false, 8, (.int .i64))], []⟩ (.c (.c .o (.j ⟨[(false, 5, (.int .i64))], []⟩ .o (.j ⟨[(false, 6, (.int .i64))], []⟩ .o .o))) .o)) Tryz.call22 Tryz.func22 (ok1 kl ok0) ok0 ok0 fun s => (show _ = gE gA duE s from by kernel_rfl).trans ((congrArg (fun eta => gE eta duE s) cF).trans ((congrArg (fun du => gE id du s) dD).trans (by kernel_rfl)))
def lJ : Ent := ⟨64, [(.bx 86 0 true [(.own (.p (.i .i64) (.p .s (.p (.i .i64) (.i .i64)))) 88 false), (.int .i64), (.own .s 9 false), (.own (.p (.i .i64) (.i .i64)) 53 false), (.own (.i .i64) 3 false), (.own .s 9 false), (.own (.p (.i .i64) (.p .ex (.l (.p (.i .i64) .ex)))) 112 false), (.int .i64), (.int .i64)]), (.int .i64)], (.dat .ex [some 49]), [(true, 0, (.bx 86 0 true [.same, (.int .i64), .same, .same, .same, .same, .same, (.int .i64), (.int .i64)]))], fun s => bf s.2.2.2.2.2.2.2.2.2 s.1 s.2.1 s.2.2.1 s.2.2.2.1 s.2.2.2.2.1 s.2.2.2.2.2.1 s.2.2.2.2.2.2.1 s.2.2.2.2.2.2.2.1 s.2.2.2.2.2.2.2.2.1⟩
def ku (eta : Ex → Ex) (_du : Sh → (R : Type) → Option R → Option R) (r14 : Q6) (c32 : Int) (c33 : Int) : Option Q6 := some ((eta r14.1), r14.2.1, c32, c33)
def dW (eta : Ex → Ex) (du : Sh → (R : Type) → Option R → Option R) (want : Int) (l : Q2) (at_ : Int) (Names : Q7) (Schema : Q8) (Init : Q3) (Procs : Q7) (Cmd : Q1) (bad : Int) (place : Int) : Option Q6 := bif (bad != 0) then ( some ((Ex.mk 0 0 0 []), at_, bad, place)) else ( du (.b .l .l) _ ( (cH l at_ Names).bind fun r14 => bif (r14.2.2.1 != 0) then ( (ar r14.2.2.1 r14.2.2.2 l at_ Names Schema Init Procs Cmd bad place).bind fun r24 => some ((Ex.mk 0 0 0 []), at_, r24.1, r24.2)) else ( (dK (eta r14.1)).bind fun r28 => ab (fun (s37 : Int × Int) => ku eta du r14 s37.1 s37.2) fun kk36 => bif (r28.2.1 != 0) then ( (ar r28.2.1 r28.2.2 l at_ Names Schema Init Procs Cmd bad place).bind fun r39 => kk36 (r39.1, r39.2)) else ( bif (r28.1 != want) then ( (ar 4 r14.1.at_ l at_ Names Schema Init Procs Cmd bad place).bind fun r43 => kk36 (r43.1, r43.2)) else ( kk36 (bad, place))))))
theorem kz : (lJ).Ok X0.P X0.Γ :=
 ay (.c .o (.r [0] (.c .o (.s (.j ⟨[(true, 0, (.bx 86 0 true [.same, .same, .same, .same, .same, .same, .same, (.int .i64), (.int .i64)]))], []⟩ .o .o))))) Tryz.call64 Tryz.func64 (ok1 nZ (ok1 bk (ok1 om ok0))) ok0 ok0 fun s => (show _ = dW gA duE s.2.2.2.2.2.2.2.2.2 s.1 s.2.1 s.2.2.1 s.2.2.2.1 s.2.2.2.2.1 s.2.2.2.2.2.1 s.2.2.2.2.2.2.1 s.2.2.2.2.2.2.2.1 s.2.2.2.2.2.2.2.2.1 from by kernel_rfl).trans ((congrArg (fun eta => dW eta duE s.2.2.2.2.2.2.2.2.2 s.1 s.2.1 s.2.2.1 s.2.2.2.1 s.2.2.2.2.1 s.2.2.2.2.2.1 s.2.2.2.2.2.2.1 s.2.2.2.2.2.2.2.1 s.2.2.2.2.2.2.2.2.1) cF).trans ((congrArg (fun du => dW id du s.2.2.2.2.2.2.2.2.2 s.1 s.2.1 s.2.2.1 s.2.2.2.1 s.2.2.2.2.1 s.2.2.2.2.2.1 s.2.2.2.2.2.2.1 s.2.2.2.2.2.2.2.1 s.2.2.2.2.2.2.2.2.1) dD).trans (by kernel_rfl)))
def mW : Ent := ⟨46, [(.bx 86 0 true [(.own (.p (.i .i64) (.p .s (.p (.i .i64) (.i .i64)))) 88 false), (.int .i64), (.own .s 9 false), (.own (.p (.i .i64) (.i .i64)) 53 false), (.own (.i .i64) 3 false), (.own .s 9 false), (.own (.p (.i .i64) (.p .ex (.l (.p (.i .i64) .ex)))) 112 true), (.int .i64), (.int .i64)])], (.tup []), [(true, 0, (.bx 86 0 true [.same, (.int .i64), .same, .same, .same, .same, (.own (.p (.i .i64) (.p .ex (.l (.p (.i .i64) .ex)))) 112 true), (.int .i64), (.int .i64)]))], fun s => dE s.1 s.2.1 s.2.2.1 s.2.2.2.1 s.2.2.2.2.1 s.2.2.2.2.2.1 s.2.2.2.2.2.2.1 s.2.2.2.2.2.2.2.1 s.2.2.2.2.2.2.2.2⟩
def lz (eta : Ex → Ex) (_du : Sh → (R : Type) → Option R → Option R) (l : Q2) (Names : Q7) (Schema : Q8) (Init : Q3) (Procs : Q7) (Cmd : Q1) (l28 : Q18) (again32 : Q14 → Option Q12) (r47 : Int) (c66 : Int) (c67 : Int) (c69 : Int) : Option Q12 := (aR [61] l c69 Names Schema Init Procs Cmd c66 c67).bind fun r70 => (bf 1 l r70.1 Names Schema Init Procs Cmd r70.2.1 r70.2.2).bind fun r73 => chk (aA (List.length l28 + List.length ([(r47, (eta r73.1))] : List (Int × Ex))) 56) <| (aW 3 [44] l r73.2.1 Names Schema Init Procs Cmd r73.2.2.1 r73.2.2.2).bind fun r88 => bif r88 then ( again32 ((IntKind.i64.wrap (r73.2.1 + 1)), r73.2.2.1, r73.2.2.2, (l28 ++ ([(r47, (eta r73.1))] : List (Int × Ex))), r88)) else ( again32 (r73.2.1, r73.2.2.1, r73.2.2.2, (l28 ++ ([(r47, (eta r73.1))] : List (Int × Ex))), r88))
def lB (eta : Ex → Ex) (du : Sh → (R : Type) → Option R → Option R) (l : Q2) (Names : Q7) (Schema : Q8) (Init : Q3) (Procs : Q7) (Cmd : Q1) (c25 : Int) (l28 : Q18) (again32 : Q14 → Option Q12) (r47 : Int) (c66 : Int) (c67 : Int) : Option Q12 := ab (fun (s94 : Int) => lz eta du l Names Schema Init Procs Cmd l28 again32 r47 c66 c67 s94) fun kk93 => bif (c66 == 0) then ( kk93 (IntKind.i64.wrap (c25 + 1))) else ( kk93 c25)
def lK (eta : Ex → Ex) (du : Sh → (R : Type) → Option R → Option R) (l : Q2) (Names : Q7) (Schema : Q8) (Init : Q3) (Procs : Q7) (Cmd : Q1) (c25 : Int) (c26 : Int) (c27 : Int) (l28 : Q18) (again32 : Q14 → Option Q12) (e40 : Q11) (r47 : Int) (again53 : (Bool × Int) → Option Q12) : Bool × Int → Option Q12 := fun ⟨twice51, k52⟩ => bif (decide (k52 < (List.length l28 : Int))) then ( aT (!twice51) (0, (Ex.mk 0 0 0 [])) (idx l28 k52) fun e55 => ab (e55.1 == r47) fun b61 => ab (twice51 || b61) fun b63 => again53 (b63, (IntKind.i64.wrap (k52 + 1)))) else ( ab (fun (s98 : Int × Int) => lB eta du l Names Schema Init Procs Cmd c25 l28 again32 r47 s98.1 s98.2) fun kk97 => bif (e40.1 != 1) then ( (ar 2 e40.2.2.2 l c25 Names Schema Init Procs Cmd c26 c27).bind fun r100 => kk97 (r100.1, r100.2)) else ( ab (decide (r47 < 0)) fun b103 => ab (b103 || twice51) fun b105 => bif b105 then ( (ar 3 e40.2.2.2 l c25 Names Schema Init Procs Cmd c26 c27).bind fun r108 => kk97 (r108.1, r108.2)) else ( kk97 (c26, c27))))
def lM (eta : Ex → Ex) (du : Sh → (R : Type) → Option R → Option R) (l : Q2) (Names : Q7) (Schema : Q8) (Init : Q3) (Procs : Q7) (Cmd : Q1) (r15 : Q6) (again32 : Q14 → Option Q12) : Int × Int × Int × Q18 × Bool → Option Q12 := fun ⟨c25, c26, c27, l28, more31⟩ => ab (c26 == 0) fun b33 => ab (more31 && b33) fun b35 => bif b35 then ( (idx l c25).bind fun e40 => (bp Names e40.2.1).bind fun r47 => al (lK eta du l Names Schema Init Procs Cmd c25 c26 c27 l28 again32 e40 r47) aq (false, 0)) else ( (aR [59] l c25 Names Schema Init Procs Cmd c26 c27).bind fun r111 => chk (aA (List.length Cmd + List.length ([((IntKind.i64.wrap ((List.length Procs : Int) - 1)), (eta r15.1), l28)] : List Q25)) 80) <| some (r111.1, (Cmd ++ ([((IntKind.i64.wrap ((List.length Procs : Int) - 1)), (eta r15.1), l28)] : List Q25)), r111.2.1, r111.2.2))
def lI (eta : Ex → Ex) (du : Sh → (R : Type) → Option R → Option R) (l : Q2) (at_ : Int) (Names : Q7) (Schema : Q8) (Init : Q3) (Procs : Q7) (Cmd : Q1) (c10 : Int) (c11 : Int) : Option Q12 := (bf 2 l at_ Names Schema Init Procs Cmd c10 c11).bind fun r15 => (aR [58] l r15.2.1 Names Schema Init Procs Cmd r15.2.2.1 r15.2.2.2).bind fun r21 => al (lM eta du l Names Schema Init Procs Cmd r15) aq (r21.1, r21.2.1, r21.2.2, [], true)
def eR (eta : Ex → Ex) (du : Sh → (R : Type) → Option R → Option R) (l : Q2) (at_ : Int) (Names : Q7) (Schema : Q8) (Init : Q3) (Procs : Q7) (Cmd : Q1) (bad : Int) (place : Int) : Option Q12 := ab (fun (s124 : Int × Int) => lI eta du l at_ Names Schema Init Procs Cmd s124.1 s124.2) fun kk123 => bif (decide (256 ≤ (List.length Cmd : Int))) then ( (aB l at_ Names Schema Init Procs Cmd bad place).bind fun r126 => (ar 9 r126 l at_ Names Schema Init Procs Cmd bad place).bind fun r129 => kk123 (r129.1, r129.2)) else ( kk123 (bad, place))
theorem lC : (mW).Ok X0.P X0.Γ :=
 ay (.j ⟨[(true, 0, (.bx 86 0 true [.same, .same, .same, .same, .same, .same, .same, (.int .i64), (.int .i64)]))], []⟩ .o (.l ⟨[(true, 0, (.bx 86 0 true [.same, (.int .i64), .same, .same, .same, .same, .same, (.int .i64), (.int .i64)])), (true, 2, (.bx 112 0 true [.same, .same, .same, .same, .same, (.own (.p (.i .i64) .ex) 114 true)])), (false, 3, .bool)], []⟩ (.c (.r [] (.r [0] (.l ⟨[(false, 6, .bool), (false, 7, (.int .i64))], []⟩ (.c .o (.j ⟨[(true, 0, (.bx 86 0 true [.same, .same, .same, .same, .same, .same, .same, (.int .i64), (.int .i64)]))], [4]⟩ .o (.j ⟨[(true, 0, (.bx 86 0 true [.same, (.int .i64), .same, .same, .same, .same, .same, .same, .same]))], []⟩ .o .o)))))) (.r [0, 2] .o)))) Tryz.call46 Tryz.func46 (ok1 kz (ok1 eU (ok1 iR (ok1 dF (ok1 bk (ok1 di ok0)))))) ok0 ok0 fun s => (show _ = eR gA duE s.1 s.2.1 s.2.2.1 s.2.2.2.1 s.2.2.2.2.1 s.2.2.2.2.2.1 s.2.2.2.2.2.2.1 s.2.2.2.2.2.2.2.1 s.2.2.2.2.2.2.2.2 from by kernel_rfl).trans ((congrArg (fun eta => eR eta duE s.1 s.2.1 s.2.2.1 s.2.2.2.1 s.2.2.2.2.1 s.2.2.2.2.2.1 s.2.2.2.2.2.2.1 s.2.2.2.2.2.2.2.1 s.2.2.2.2.2.2.2.2) cF).trans ((congrArg (fun du => eR id du s.1 s.2.1 s.2.2.1 s.2.2.2.1 s.2.2.2.2.1 s.2.2.2.2.2.1 s.2.2.2.2.2.2.1 s.2.2.2.2.2.2.2.1 s.2.2.2.2.2.2.2.2) dD).trans (by kernel_rfl)))
def n5 : Ent := ⟨60, [(.bx 86 0 true [(.own (.p (.i .i64) (.p .s (.p (.i .i64) (.i .i64)))) 88 false), (.int .i64), (.own .s 9 false), (.own (.p (.i .i64) (.i .i64)) 53 false), (.own (.i .i64) 3 false), (.own .s 9 false), (.own (.p (.i .i64) (.p .ex (.l (.p (.i .i64) .ex)))) 112 false), (.int .i64), (.int .i64)])], (.int .i64), [(true, 0, (.bx 86 0 true [.same, (.int .i64), .same, .same, .same, .same, .same, (.int .i64), (.int .i64)]))], fun s => bT s.1 s.2.1 s.2.2.1 s.2.2.2.1 s.2.2.2.2.1 s.2.2.2.2.2.1 s.2.2.2.2.2.2.1 s.2.2.2.2.2.2.2.1 s.2.2.2.2.2.2.2.2⟩
theorem mK : (n5).Ok X0.P X0.Γ :=
 ay (.s (.s (.j ⟨[(true, 0, (.bx 86 0 true [.same, (.int .i64), .same, .same, .same, .same, .same, .same, .same]))], []⟩ .o (.r [] (.j ⟨[(true, 0, (.bx 86 0 true [.same, .same, .same, .same, .same, .same, .same, (.int .i64), (.int .i64)]))], []⟩ .o .o))))) Tryz.call60 Tryz.func60 (ok1 dF (ok1 bk ok0)) ok0 ok0 fun _ => by kernel_rfl
def ss : Ent := ⟨61, [(.sli (.p (.i .i64) (.i .i64)))], .bool, [], fun s => gq s⟩
theorem pP : (ss).Ok X0.P X0.Γ :=
 ay (.c .o (.l ⟨[(false, 3, (.int .i64))], []⟩ .o)) Tryz.call61 Tryz.func61 ok0 ok0 ok0 fun _ => by kernel_rfl
def mP : Ent := ⟨43, [(.bx 86 0 true [(.own (.p (.i .i64) (.p .s (.p (.i .i64) (.i .i64)))) 88 false), (.int .i64), (.own .s 9 true), (.own (.p (.i .i64) (.i .i64)) 53 true), (.own (.i .i64) 3 true), (.own .s 9 false), (.own (.p (.i .i64) (.p .ex (.l (.p (.i .i64) .ex)))) 112 false), (.int .i64), (.int .i64)])], (.tup []), [(true, 0, (.bx 86 0 true [.same, (.int .i64), (.own .s 9 true), (.own (.p (.i .i64) (.i .i64)) 53 true), (.own (.i .i64) 3 true), .same, .same, (.int .i64), (.int .i64)]))], fun s => dy s.1 s.2.1 s.2.2.1 s.2.2.2.1 s.2.2.2.2.1 s.2.2.2.2.2.1 s.2.2.2.2.2.2.1 s.2.2.2.2.2.2.2.1 s.2.2.2.2.2.2.2.2⟩
theorem kS : (mP).Ok X0.P X0.Γ :=
 ay (.s (.s (.s (.s (.s (.s (.s (.s (.j ⟨[(true, 0, (.bx 86 0 true [.same, .same, .same, .same, .same, .same, .same, (.int .i64), (.int .i64)]))], []⟩ .o (.r [0] .o)))))))))) Tryz.call43 Tryz.func43 (ok1 iC (ok1 di (ok1 mK (ok1 eU (ok1 pP (ok1 bk ok0)))))) ok0 ok0 fun _ => by kernel_rfl
def sA : Ent := ⟨19, [.str], (.tup [(.dat (.p (.l .s) (.p (.l (.p (.i .i64) (.i .i64))) (.p (.l (.i .i64)) (.p (.l .s) (.l (.p (.i .i64) (.p .ex (.l (.p (.i .i64) .ex))))))))) [some 19, some 107, some 7, some 19, some 225]), (.int .i64), (.int .i64)]), [], fun s => cJ s⟩
theorem pS : (sA).Ok X0.P X0.Γ :=
 ay (.c .o (.l ⟨[(true, 8, (.bx 86 0 true [.same, (.int .i64), (.own .s 9 true), (.own (.p (.i .i64) (.i .i64)) 53 true), (.own (.i .i64) 3 true), (.own .s 9 true), (.own (.p (.i .i64) (.p .ex (.l (.p (.i .i64) .ex)))) 112 true), (.int .i64), (.int .i64)]))], []⟩ (.c (.s (.s (.j ⟨[(true, 8, (.bx 86 0 true [.same, .same, .same, .same, .same, .same, .same, (.int .i64), (.int .i64)]))], []⟩ .o (.j ⟨[(true, 8, (.bx 86 0 true [.same, (.int .i64), .same, .same, .same, .same, .same, .same, .same]))], []⟩ .o (.j ⟨[(true, 8, (.bx 86 0 true [.same, (.int .i64), (.own .s 9 true), (.own (.p (.i .i64) (.i .i64)) 53 true), (.own (.i .i64) 3 true), .same, .same, (.int .i64), (.int .i64)]))], []⟩ .o (.c (.l ⟨[(true, 8, (.bx 86 0 true [.same, (.int .i64), .same, .same, .same, .same, (.own (.p (.i .i64) (.p .ex (.l (.p (.i .i64) .ex)))) 112 true), (.int .i64), (.int .i64)])), (false, 12, .bool)], []⟩ .o) .o)))))) (.j ⟨[(true, 8, (.bx 86 0 true [.same, .same, .same, .same, .same, .same, .same, (.int .i64), (.int .i64)]))], []⟩ .o (.c (.r [2] .o) .o))))) Tryz.call19 Tryz.func19 (ok1 oN (ok1 dF (ok1 iC (ok1 eU (ok1 lC (ok1 kS (ok1 di (ok1 bk ok0)))))))) ok0 ok0 fun _ => by kernel_rfl
def vh : Ent := ⟨8, [.str], (.tup [(.dat (.p (.l .s) (.p (.l (.p (.i .i64) (.i .i64))) (.p (.l (.i .i64)) (.p (.l .s) (.l (.p (.i .i64) (.p .ex (.l (.p (.i .i64) .ex))))))))) [some 19, some 107, some 7, some 19, some 225]), .bool]), [], fun s => eV s⟩
theorem lg : (vh).Ok X0.P X0.Γ :=
 ay .o Tryz.call8 Tryz.func8 (ok1 pS ok0) ok0 ok0 fun _ => by kernel_rfl
def Bh : Ent := ⟨37, [(.sli (.i .i64))], (.sli (.i .i64)), [], fun s => wu s⟩
theorem xl : (Bh).Ok X0.P X0.Γ :=
 ay .o Tryz.call37 Tryz.func37 ok0 ok0 ok0 fun _ => by kernel_rfl
def sL : Ent := ⟨38, [(.sli (.l (.i .i64))), (.fn 37 [] [])], (.own (.l (.i .i64)) 31 true), [], fun s => j6 s⟩
theorem qw : (sL).Ok X0.P X0.Γ :=
 ay (.l ⟨[(false, 5, (.own (.l (.i .i64)) 31 true)), (false, 10, (.int .i64))], []⟩ .o) Tryz.call38 Tryz.func38 (ok1 xl ok0) ok0 ok0 fun _ => by kernel_rfl
def GW : Ent := ⟨16, [(.dat (.p (.l (.l (.i .i64))) (.l (.l (.i .i64)))) [none, none])], (.dat (.p (.l (.l (.i .i64))) (.l (.l (.i .i64)))) [some 63, some 63]), [], fun s => DK s⟩
theorem Bi : (GW).Ok X0.P X0.Γ :=
 ay (.r [2] .o) Tryz.call16 Tryz.func16 (ok1 qw ok0) ok0 ok0 fun _ => by kernel_rfl
def qE : Ent := ⟨24, [(.sli (.l (.l (.i .i64))))], (.own (.l (.i .i64)) 31 true), [], fun s => fl s⟩
theorem jj : (qE).Ok X0.P X0.Γ :=
 ay (.l ⟨[(false, 3, (.int .i64)), (false, 11, (.int .i64))], []⟩ (.c .o (.l ⟨[(false, 6, (.own (.l (.i .i64)) 31 true)), (false, 27, (.int .i64))], []⟩ .o))) Tryz.call24 Tryz.func24 (ok1 HH ok0) ok0 ok0 fun _ => by kernel_rfl
def CB : Ent := ⟨17, [(.dat (.p (.l (.l (.i .i64))) (.l (.l (.i .i64)))) [none, none])], (.dat (.p (.l (.l (.i .i64))) (.i .i64)) [some 63]), [], fun s => kf s⟩
theorem qQ : (CB).Ok X0.P X0.Γ :=
 ay (.r [2] .o) Tryz.call17 Tryz.func17 (ok1 jj ok0) ok0 ok0 fun _ => by kernel_rfl
def we : Ent := ⟨51, [(.dat (.p (.i .i64) (.i .i64)) []), (.int .i64)], .bool, [], fun s => jD s.1 s.2⟩
theorem lP : (we).Ok X0.P X0.Γ :=
 ay .o Tryz.call51 Tryz.func51 ok0 ok0 ok0 fun _ => by kernel_rfl
def ER : Ent := ⟨27, [(.sli (.p (.i .i64) (.i .i64))), (.sli (.i .i64))], (.int .i64), [], fun s => ue s.1 s.2⟩
theorem Aa : (ER).Ok X0.P X0.Γ :=
 ay (.c .o (.l ⟨[(false, 14, (.int .i64))], []⟩ .o)) Tryz.call27 Tryz.func27 (ok1 lP ok0) ok0 ok0 fun _ => by kernel_rfl
def zh : Ent := ⟨26, [(.sli (.i .i64)), (.bx 34 0 false [(.sli .s), (.sli (.p (.i .i64) (.i .i64))), (.sli (.i .i64)), (.sli .s), (.sli (.p (.i .i64) (.p .ex (.l (.p (.i .i64) .ex)))))])], .bool, [], fun s => l9 s.1 s.2.1 s.2.2.1 s.2.2.2.1 s.2.2.2.2.1 s.2.2.2.2.2⟩
theorem v8 : (zh).Ok X0.P X0.Γ :=
 ay .o Tryz.call26 Tryz.func26 (ok1 Aa ok0) ok0 ok0 fun _ => by kernel_rfl
def rU : Ent := ⟨25, [(.sli (.l (.i .i64))), (.fn 26 [] [(.bx 34 0 false [(.sli .s), (.sli (.p (.i .i64) (.i .i64))), (.sli (.i .i64)), (.sli .s), (.sli (.p (.i .i64) (.p .ex (.l (.p (.i .i64) .ex)))))])])], (.own .bo 4 true), [], fun s => jy s.1 s.2.1 s.2.2.1 s.2.2.2.1 s.2.2.2.2.1 s.2.2.2.2.2⟩
theorem qj : (rU).Ok X0.P X0.Γ :=
 ay (.l ⟨[(false, 5, (.own .bo 4 true)), (false, 10, (.int .i64))], []⟩ .o) Tryz.call25 Tryz.func25 (ok1 v8 ok0) ok0 ok0 fun _ => by kernel_rfl
def pW : Ent := ⟨52, [(.sli .bo), .bool], (.int .i64), [], fun s => ig s.1 s.2⟩
theorem nS : (pW).Ok X0.P X0.Γ :=
 ay (.l ⟨[(false, 8, (.int .i64))], []⟩ .o) Tryz.call52 Tryz.func52 ok0 ok0 ok0 fun _ => by kernel_rfl
def nK : Ent := ⟨28, [(.sli .bo), .bool], .bool, [], fun s => dR s.1 s.2⟩
theorem mD : (nK).Ok X0.P X0.Γ :=
 ay .o Tryz.call28 Tryz.func28 (ok1 nS ok0) ok0 ok0 fun _ => by kernel_rfl
def rP : Ent := ⟨29, [(.sli (.i .i64)), (.sli (.i .i64))], .bool, [], fun s => ea s.1 s.2⟩
theorem jz : (rP).Ok X0.P X0.Γ :=
 ay (.c .o (.l ⟨[(false, 13, (.int .i64))], []⟩ .o)) Tryz.call29 Tryz.func29 ok0 ok0 ok0 fun _ => by kernel_rfl
def Cc : Ent := ⟨53, [(.dat (.p (.l .s) (.p (.l (.p (.i .i64) (.i .i64))) (.p (.l (.i .i64)) (.p (.l .s) (.l (.p (.i .i64) (.p .ex (.l (.p (.i .i64) .ex))))))))) [none, none, none, none, none]), (.sli (.i .i64))], (.fn 80 [] [(.bx 34 0 true [(.sli .s), (.sli (.p (.i .i64) (.i .i64))), (.sli (.i .i64)), (.sli .s), (.sli (.p (.i .i64) (.p .ex (.l (.p (.i .i64) .ex)))))]), (.bx 31 0 true [(.sli (.i .i64))])]), [], fun s => tu s.1 s.2⟩
theorem yd : (Cc).Ok X0.P X0.Γ :=
 ay .o Tryz.call53 Tryz.func53 ok0 ok0 ok0 fun _ => by kernel_rfl
def Dy : Ent := ⟨87, [.bool], (.int .i64), [], fun s => mz s⟩
theorem yW : (Dy).Ok X0.P X0.Γ :=
 ay .o Tryz.call87 Tryz.func87 ok0 ok0 ok0 fun _ => by kernel_rfl
def wo : Ent := ⟨68, [(.dat .ex [none]), (.sli (.i .i64))], (.int .i64), [], fun s => jY s.1 s.2⟩
def zj (eta : Ex → Ex) (_du : Sh → (R : Type) → Option R → Option R) (il : (Ex × Q3) → Option Int) (e : Ex) (v3 : Q3) (again15 : Q9 → Option Int) : Int × Int × Int → Option Int := fun ⟨c12, c13, t14⟩ => bif (decide (t14 < (List.length (cP e.l 0 (min (List.length e.l : Int) 2)) : Int))) then ( (idx (cP e.l 0 (min (List.length e.l : Int) 2)) t14).bind fun e17 => (il ((eta e17), v3)).bind fun r26 => bif (t14 == 0) then ( again15 (r26, c13, (IntKind.i64.wrap (t14 + 1)))) else ( bif (t14 == 1) then ( again15 (c12, r26, (IntKind.i64.wrap (t14 + 1)))) else ( none))) else ( ab (fun (s43 : Int × Int × Bool) => qo s43.1 s43.2.1 s43.2.2) fun kk42 => ab (fun (s52 : Int × Int × Bool) => pB s52.1 s52.2.1 s52.2.2) fun kk51 => ab (fun (s61 : Int × Int × Bool) => qn s61.1 s61.2.1 s61.2.2) fun kk60 => bif (e.op == 1) then ( some e.n) else ( bif (e.op == 2) then ( ab (decide (e.n < 0)) fun b64 => ab (decide ((List.length v3 : Int) ≤ e.n)) fun b66 => ab (b64 || b66) fun b68 => bif b68 then ( some 0) else ( (idx v3 e.n).bind fun e71 => some e71)) else ( bif (e.op == 3) then ( some (IntKind.i64.wrap (c12 + c13))) else ( bif (e.op == 5) then ( some (IntKind.i64.wrap (c12 * c13))) else ( bif (e.op == 6) then ( some (IntKind.i64.wrap (0 - c12))) else ( bif (e.op == 4) then ( some (IntKind.i64.wrap (c12 - c13))) else ( bif (e.op == 8) then ( kk60 (c12, c13, true)) else ( ab (fun (_s89 : Unit) => pN e c12 c13 kk42 kk51) fun kk88 => ab (fun (s94 : Bool) => pA c12 c13 kk60 kk88 s94) fun kk93 => bif (e.op == 7) then ( kk93 (e.op == 7)) else ( kk93 (e.op == 19))))))))))
def od (eta : Ex → Ex) (du : Sh → (R : Type) → Option R → Option R) (il : (Ex × Q3) → Option Int) (e : Ex) (v3 : Q3) : Option Int := chk (je 0 (min (List.length e.l : Int) 2) (List.length e.l)) <| al (zj eta du il e v3) aq (0, 0, 0)
def wB : TK2 → TK2 := fun k2 s => kG k2 s.1 s.2
theorem xp (k2 : TK2) (i2 : OK2 k2) : (mL (wB k2)).Ok X0.P X0.Γ :=
 ay (.l ⟨[(true, 5, (.bx 137 0 true [(.int .i64), (.int .i64)])), (false, 19, (.int .i64))], []⟩ (.c .o (.r [] (.s (.s (.s (.s (.s (.s (.s (.s (.j ⟨[(false, 8, (.int .i64)), (false, 9, (.int .i64)), (false, 10, .bool)], [2]⟩ (.s (.j ⟨[(false, 8, (.int .i64)), (false, 9, (.int .i64)), (false, 10, .bool)], [2]⟩ (.s (.j ⟨[(false, 8, (.int .i64)), (false, 9, (.int .i64)), (false, 10, .bool)], [2]⟩ (.c .o (.c .o (.c .o (.c .o (.c .o (.c .o (.c .o (.j ⟨[], []⟩ (.j ⟨[(false, 50, .bool)], []⟩ .o .o) .o)))))))) .o)) .o)) .o)))))))))))) Tryz.call68 Tryz.func68 (ok1 i2 (ok1 yW ok0)) ok0 ok0 fun s => (show _ = od gA duE k2 s.1 s.2 from by kernel_rfl).trans ((congrArg (fun eta => od eta duE k2 s.1 s.2) cF).trans ((congrArg (fun du => od id du k2 s.1 s.2) dD).trans (by kernel_rfl)))
theorem nf : (wo).Ok X0.P X0.Γ := (show wo = mL (al (wB) aq) by kernel_rfl) ▸ kj (X := X0) (E := mL) ⟨Tryz.call68, fun _ _ h => nomatch h⟩ (xp) aq
def zF : Ent := ⟨81, [(.dat (.p (.l .s) (.p (.l (.p (.i .i64) (.i .i64))) (.p (.l (.i .i64)) (.p (.l .s) (.l (.p (.i .i64) (.p .ex (.l (.p (.i .i64) .ex))))))))) [none, none, none, none, none]), (.sli (.i .i64))], (.own (.i .i64) 3 true), [], fun s => pH s.1 s.2⟩
def wc (eta : Ex → Ex) (_du : Sh → (R : Type) → Option R → Option R) (m : Q4) (v11 : Q3) (again13 : Q26 → Option Q3) : Q3 × Int → Option Q3 := fun ⟨out9, t12⟩ => bif (decide (t12 < (List.length m.2.2.2.2 : Int))) then ( (idx m.2.2.2.2 t12).bind fun e15 => (jY (eta e15.2.1) v11).bind fun r26 => bif (r26 == 1) then ( chk (aA (List.length out9 + List.length ([t12] : List Int)) 8) <| again13 ((out9 ++ ([t12] : List Int)), (IntKind.i64.wrap (t12 + 1)))) else ( again13 (out9, (IntKind.i64.wrap (t12 + 1))))) else ( some out9)
def mV (eta : Ex → Ex) (du : Sh → (R : Type) → Option R → Option R) (m : Q4) (v11 : Q3) : Option Q3 := al (wc eta du m v11) aq ([], 0)
theorem vZ : (zF).Ok X0.P X0.Γ :=
 ay (.l ⟨[(false, 5, (.own (.i .i64) 3 true)), (false, 11, (.int .i64))], []⟩ .o) Tryz.call81 Tryz.func81 (ok1 nf ok0) ok0 ok0 fun s => (show _ = mV gA duE s.1 s.2 from by kernel_rfl).trans ((congrArg (fun eta => mV eta duE s.1 s.2) cF).trans ((congrArg (fun du => mV id du s.1 s.2) dD).trans (by kernel_rfl)))
def rJ : Ent := ⟨55, [(.sli (.i .i64))], (.own (.i .i64) 3 true), [], fun s => bP s⟩
theorem jF : (rJ).Ok X0.P X0.Γ :=
 ay .o Tryz.call55 Tryz.func55 ok0 ok0 ok0 fun _ => by kernel_rfl
def y9 : Ent := ⟨27, [(.sli (.p (.i .i64) (.i .i64))), (.own (.i .i64) 3 false)], (.int .i64), [], fun s => gh s.1 s.2⟩
theorem vS : (y9).Ok X0.P X0.Γ :=
 ay (.c .o (.l ⟨[(false, 14, (.int .i64))], []⟩ .o)) Tryz.call27 Tryz.func27 (ok1 lP ok0) ok0 ok0 fun _ => by kernel_rfl
def Ep : Ent := ⟨82, [(.dat (.p (.l .s) (.p (.l (.p (.i .i64) (.i .i64))) (.p (.l (.i .i64)) (.p (.l .s) (.l (.p (.i .i64) (.p .ex (.l (.p (.i .i64) .ex))))))))) [none, none, none, none, none]), (.sli (.i .i64)), (.int .i64)], (.tup [(.own (.i .i64) 3 true), (.int .i64)]), [], fun s => qN s.1 s.2.1 s.2.2⟩
def zO (eta : Ex → Ex) (_du : Sh → (R : Type) → Option R → Option R) (m : Q4) (v11 : Q3) (e21 : Q25) (again32 : Q26 → Option Q26) : Q3 × Int → Option Q26 := fun ⟨l30, t31⟩ => bif (decide (t31 < (List.length e21.2.2 : Int))) then ( (idx e21.2.2 t31).bind fun e34 => (jY (eta e34.2) v11).bind fun r45 => (idx l30 e34.1).bind fun _e48 => again32 ((List.set l30 (Int.toNat e34.1) r45), (IntKind.i64.wrap (t31 + 1)))) else ( (gh m.2.1 l30).bind fun r51 => bif (r51 != 0) then ( some ([], 6)) else ( some (l30, 0)))
def rE (eta : Ex → Ex) (du : Sh → (R : Type) → Option R → Option R) (m : Q4) (v11 : Q3) (k : Int) : Option Q26 := ab (decide (k < 0)) fun b9 => ab (decide ((List.length m.2.2.2.2 : Int) ≤ k)) fun b11 => ab (b9 || b11) fun b13 => bif b13 then ( some ([], 10)) else ( (bP v11).bind fun r16 => (idx m.2.2.2.2 k).bind fun e21 => al (zO eta du m v11 e21) aq (r16, 0))
theorem zB : (Ep).Ok X0.P X0.Γ :=
 ay (.c .o (.l ⟨[(true, 8, (.own (.i .i64) 3 true)), (false, 29, (.int .i64))], []⟩ (.c (.r [8] .o) .o))) Tryz.call82 Tryz.func82 (ok1 jF (ok1 nf (ok1 vS ok0))) ok0 ok0 fun s => (show _ = rE gA duE s.1 s.2.1 s.2.2 from by kernel_rfl).trans ((congrArg (fun eta => rE eta duE s.1 s.2.1 s.2.2) cF).trans ((congrArg (fun du => rE id du s.1 s.2.1 s.2.2) dD).trans (by kernel_rfl)))
def nQ : Ent := ⟨99, [(.bx 142 0 true [.sfp, (.own (.i .u8) 5 false)])], (.tup []), [(true, 0, (.bx 142 0 true [.sfp, .same]))], fun s => dV s.1 s.2⟩
theorem gW : (nQ).Ok X0.P X0.Γ :=
 ay .o Tryz.call99 Tryz.func99 ok0 ok0 ok0 fun _ => by kernel_rfl
def mS : Ent := ⟨91, [(.bx 142 0 true [.sfp, (.own (.i .u8) 5 true)]), .str], (.tup [(.int .i64), (.cst (.raw .nilIface))]), [(true, 0, (.bx 142 0 true [.sfp, (.own (.i .u8) 5 true)]))], fun s => dz s.2.2 s.1 s.2.1⟩
theorem kZ : (mS).Ok X0.P X0.Γ :=
 ay .o Tryz.call91 Tryz.func91 (ok1 gW ok0) ok0 ok0 fun _ => by kernel_rfl
def nV : Ent := ⟨93, [(.bx 142 0 true [.sfp, (.own (.i .u8) 5 true)]), (.int .u8)], (.cst (.raw .nilIface)), [(true, 0, (.bx 142 0 true [.sfp, (.own (.i .u8) 5 true)]))], fun s => dQ s.2.2 s.1 s.2.1⟩
theorem mJ : (nV).Ok X0.P X0.Γ :=
 ay .o Tryz.call93 Tryz.func93 (ok1 gW ok0) ok0 ok0 fun _ => by kernel_rfl
def qp : Ent := ⟨94, [(.bx 142 0 true [.sfp, (.own (.i .u8) 5 true)])], .str, [], fun s => fc s.1 s.2⟩
theorem nL : (qp).Ok X0.P X0.Γ :=
 ay (.r [0] .o) Tryz.call94 Tryz.func94 ok0 ok0 ok0 fun _ => by kernel_rfl
def EN : Ent := ⟨83, [(.sli (.i .i64))], .str, [], fun s => uE s⟩
theorem y6 : (EN).Ok X0.P X0.Γ :=
 ay (.l ⟨[(true, 3, (.bx 142 0 true [.sfp, (.own (.i .u8) 5 true)])), (false, 8, (.int .i64))], []⟩ .o) Tryz.call83 Tryz.func83 (ok1 IE (ok1 kZ (ok1 mJ (ok1 nL ok0)))) ok0 ok0 fun _ => by kernel_rfl
def x5 : Ent := ⟨54, [(.bx 103 0 true [(.own (.l (.i .i64)) 31 true), (.mp .s .bo true)]), (.sli (.i .i64))], (.tup []), [(true, 0, (.bx 103 0 true [(.own (.l (.i .i64)) 31 true), (.mp .s .bo true)]))], fun s => fv s.2.2 s.1 s.2.1⟩
theorem uW : (x5).Ok X0.P X0.Γ :=
 ay (.j ⟨[(true, 0, (.bx 103 0 true [.same, (.mp .s .bo true)]))], []⟩ .o .o) Tryz.call54 Tryz.func54 (ok1 y6 ok0) ok0 ok0 fun _ => by kernel_rfl
def EG : Ent := ⟨32, [(.dat (.p (.l .s) (.p (.l (.p (.i .i64) (.i .i64))) (.p (.l (.i .i64)) (.p (.l .s) (.l (.p (.i .i64) (.p .ex (.l (.p (.i .i64) .ex))))))))) [none, none, none, none, none]), (.sli (.i .i64))], (.tup [(.own (.l (.i .i64)) 31 true), (.int .i64)]), [], fun s => qJ s.1 s.2⟩
theorem JW : (⟨80, Tryz.f80⟩ : Clo).Ok X0.P := ⟨Tryz.call80, Tryz.func80⟩
theorem Ac : (EG).Ok X0.P X0.Γ :=
 ay (.c (.c (.l ⟨[(false, 10, (.int .i64)), (true, 10004, (.bx 25 0 true [.same])), (true, 10005, (.bx 69 0 true [(.int .i64)])), (true, 10006, (.bx 103 0 true [(.own (.l (.i .i64)) 31 true), (.mp .s .bo true)]))], []⟩ .o) .o) .o) Tryz.call32 Tryz.func32 (ok1 yd (ok1 vZ (ok1 zB (ok1 uW (ok1 jF ok0))))) ok0 (ok1 JW ok0) fun _ => by kernel_rfl
def wa : Ent := ⟨34, [(.sli (.i .i64)), (.bx 31 0 false [(.sli (.i .i64))])], .bool, [], fun s => mO s.1 s.2⟩
theorem tU : (wa).Ok X0.P X0.Γ :=
 ay .o Tryz.call34 Tryz.func34 (ok1 jz ok0) ok0 ok0 fun _ => by kernel_rfl
def ou : Ent := ⟨56, [(.sli (.l (.i .i64))), (.fn 34 [] [(.bx 31 0 false [(.sli (.i .i64))])])], (.int .i64), [], fun s => fX s.1 s.2⟩
theorem mQ : (ou).Ok X0.P X0.Γ :=
 ay (.l ⟨[(false, 8, (.int .i64))], []⟩ .o) Tryz.call56 Tryz.func56 (ok1 tU ok0) ok0 ok0 fun _ => by kernel_rfl
def mR : Ent := ⟨33, [(.sli (.l (.i .i64))), (.fn 34 [] [(.bx 31 0 false [(.sli (.i .i64))])])], .bool, [], fun s => dw s.1 s.2⟩
theorem kY : (mR).Ok X0.P X0.Γ :=
 ay .o Tryz.call33 Tryz.func33 (ok1 mQ ok0) ok0 ok0 fun _ => by kernel_rfl
def zW : Ent := ⟨31, [(.sli (.i .i64)), (.sli (.i .i64)), (.bx 34 0 false [(.sli .s), (.sli (.p (.i .i64) (.i .i64))), (.sli (.i .i64)), (.sli .s), (.sli (.p (.i .i64) (.p .ex (.l (.p (.i .i64) .ex)))))])], .bool, [], fun s => mw s.1 s.2.1 s.2.2.1 s.2.2.2.1 s.2.2.2.2.1 s.2.2.2.2.2.1 s.2.2.2.2.2.2⟩
theorem vQ : (zW).Ok X0.P X0.Γ :=
 ay .o Tryz.call31 Tryz.func31 (ok1 Ac (ok1 kY ok0)) ok0 ok0 fun _ => by kernel_rfl
def wQ : Ent := ⟨30, [(.sli (.l (.i .i64))), (.fn 31 [] [(.bx 34 0 false [(.sli .s), (.sli (.p (.i .i64) (.i .i64))), (.sli (.i .i64)), (.sli .s), (.sli (.p (.i .i64) (.p .ex (.l (.p (.i .i64) .ex)))))])])], .bool, [], fun s => nA s.1 s.2.1 s.2.2.1 s.2.2.2.1 s.2.2.2.2.1 s.2.2.2.2.2⟩
theorem tZ : (wQ).Ok X0.P X0.Γ :=
 ay (.l ⟨[(false, 5, (.int .i64))], []⟩ (.c (.r [1] .o) .o)) Tryz.call30 Tryz.func30 (ok1 vQ ok0) ok0 ok0 fun _ => by kernel_rfl
def Ez : Ent := ⟨12, [(.dat (.p (.l .s) (.p (.l (.p (.i .i64) (.i .i64))) (.p (.l (.i .i64)) (.p (.l .s) (.l (.p (.i .i64) (.p .ex (.l (.p (.i .i64) .ex))))))))) [none, none, none, none, none]), (.dat (.p (.l (.l (.i .i64))) (.l (.l (.i .i64)))) [none, none])], .bool, [], fun s => fS s.1 s.2⟩
theorem mZ : (Ez).Ok X0.P X0.Γ :=
 ay (.c .o (.r [] (.r [6] .o))) Tryz.call12 Tryz.func12 (ok1 jj (ok1 qj (ok1 mD (ok1 jz (ok1 tZ ok0))))) ok0 ok0 fun _ => by kernel_rfl
def wy : Ent := ⟨86, [(.dat .ex [none])], (.tup [(.int .i64), (.int .i64), (.int .i64)]), [], fun s => qS s⟩
def Ad (eta : Ex → Ex) (_du : Sh → (R : Type) → Option R → Option R) (ia : Ex → Option Q9) (e : Ex) (again12 : (Bool × Bool × Bool × Int) → Option Q9) : Bool × Bool × Bool × Int → Option Q9 := fun ⟨ints8, bools9, times10, t11⟩ => bif (decide (t11 < (List.length e.l : Int))) then ( (idx e.l t11).bind fun e14 => (ia (eta e14)).bind fun r23 => bif (r23.2.1 != 0) then ( some (0, r23.2.1, r23.2.2)) else ( ab (r23.1 == 1) fun b27 => ab (ints8 && b27) fun b29 => ab (r23.1 == 2) fun b31 => ab (bools9 && b31) fun b33 => ab (r23.1 != 1) fun b35 => ab (times10 && b35) fun b37 => again12 (b29, b33, b37, (IntKind.i64.wrap (t11 + 1))))) else ( ab (decide (e.op ≤ 6)) fun b39 => ab (b39 && ints8) fun b41 => bif b41 then ( some (1, 0, 0)) else ( ab (fun (s55 : Bool) => pY e times10 s55) fun kk54 => ab (decide (6 < e.op)) fun b56 => ab (decide (e.op ≤ 12)) fun b58 => ab (b56 && b58) fun b60 => ab (b60 && ints8) fun b62 => bif b62 then ( kk54 b62) else ( bif (e.op == 13) then ( kk54 (e.op == 13)) else ( bif (e.op == 14) then ( kk54 (e.op == 14)) else ( ab (decide (15 ≤ e.op)) fun b67 => ab (decide (e.op ≤ 19)) fun b69 => ab (b67 && b69) fun b71 => ab (b71 && bools9) fun b73 => kk54 b73)))))
def oc (eta : Ex → Ex) (du : Sh → (R : Type) → Option R → Option R) (ia : Ex → Option Q9) (e : Ex) : Option Q9 := al (Ad eta du ia e) aq (true, true, true, 0)
def wA : TK3 → TK3 := fun k3 s => nI k3 s
theorem xy (k3 : TK3) (i3 : OK3 k3) : (my (wA k3)).Ok X0.P X0.Γ :=
 ay (.l ⟨[(false, 5, .bool), (false, 6, .bool), (false, 7, .bool), (false, 16, (.int .i64))], []⟩ (.c .o (.c .o (.j ⟨[(false, 53, .bool)], []⟩ .o .o)))) Tryz.call86 Tryz.func86 (ok1 i3 ok0) ok0 ok0 fun s => (show _ = oc gA duE k3 s from by kernel_rfl).trans ((congrArg (fun eta => oc eta duE k3 s) cF).trans ((congrArg (fun du => oc id du k3 s) dD).trans (by kernel_rfl)))
theorem zV : (wy).Ok X0.P X0.Γ := (show wy = my (al (wA) aq) by kernel_rfl) ▸ kj (X := X0) (E := my) ⟨Tryz.call86, fun _ _ h => nomatch h⟩ (xy) aq
def Hy : Ent := ⟨65, [(.dat .ex [none])], .bool, [], fun s => sG s⟩
def uC (eta : Ex → Ex) (_du : Sh → (R : Type) → Option R → Option R) (e : Ex) : Option Bool := (qS (eta e)).bind fun r5 => ab (r5.2.1 == 0) fun b8 => ab (r5.1 == 2) fun b10 => ab (b8 && b10) fun b12 => some b12
theorem D5 : (Hy).Ok X0.P X0.Γ :=
 ay .o Tryz.call65 Tryz.func65 (ok1 zV ok0) ok0 ok0 fun s => (show _ = uC gA duE s from by kernel_rfl).trans ((congrArg (fun eta => uC eta duE s) cF).trans ((congrArg (fun du => uC id du s) dD).trans (by kernel_rfl)))
def Dz : Ent := ⟨67, [(.int .i64), (.bx 24 0 false [(.int .i64), (.int .i64), (.int .i64), (.sli .ex)]), (.bx 57 0 false [(.sli (.l (.i .i64))), (.int .i64)])], .bool, [], fun s => lR s.1 s.2.1 s.2.2.1 s.2.2.2.1 s.2.2.2.2.1 s.2.2.2.2.2.1 s.2.2.2.2.2.2⟩
theorem yl : (Dz).Ok X0.P X0.Γ :=
 ay .o Tryz.call67 Tryz.func67 (ok1 nf ok0) ok0 ok0 fun _ => by kernel_rfl
def G9 : Ent := ⟨66, [(.int .i64), (.fn 67 [] [(.bx 24 0 false [(.int .i64), (.int .i64), (.int .i64), (.sli .ex)]), (.bx 57 0 false [(.sli (.l (.i .i64))), (.int .i64)])])], (.own .bo 4 true), [], fun s => ta s.1 s.2.1 s.2.2.1 s.2.2.2.1 s.2.2.2.2.1 s.2.2.2.2.2.1 s.2.2.2.2.2.2⟩
theorem A8 : (G9).Ok X0.P X0.Γ :=
 ay (.l ⟨[(true, 5, (.own .bo 4 true)), (false, 11, (.int .i64))], []⟩ .o) Tryz.call66 Tryz.func66 (ok1 yl ok0) ok0 ok0 fun _ => by kernel_rfl
def C7 : Ent := ⟨71, [(.int .i64), (.bx 122 0 false [(.own .bo 4 false)])], .bool, [], fun s => oX s.1 s.2⟩
theorem ym : (C7).Ok X0.P X0.Γ :=
 ay .o Tryz.call71 Tryz.func71 ok0 ok0 ok0 fun _ => by kernel_rfl
def Bm : Ent := ⟨66, [(.int .i64), (.fn 71 [] [(.bx 122 0 false [(.own .bo 4 false)])])], (.own .bo 4 true), [], fun s => rL s.1 s.2⟩
theorem wP : (Bm).Ok X0.P X0.Γ :=
 ay (.l ⟨[(true, 5, (.own .bo 4 true)), (false, 11, (.int .i64))], []⟩ .o) Tryz.call66 Tryz.func66 (ok1 ym ok0) ok0 ok0 fun _ => by kernel_rfl
def Cm : Ent := ⟨72, [(.int .i64), (.bx 122 0 false [(.own .bo 4 false)]), (.bx 122 0 false [(.own .bo 4 false)])], .bool, [], fun s => oW s.1 s.2.1 s.2.2⟩
theorem yg : (Cm).Ok X0.P X0.Γ :=
 ay .o Tryz.call72 Tryz.func72 ok0 ok0 ok0 fun _ => by kernel_rfl
def Bd : Ent := ⟨66, [(.int .i64), (.fn 72 [] [(.bx 122 0 false [(.own .bo 4 false)]), (.bx 122 0 false [(.own .bo 4 false)])])], (.own .bo 4 true), [], fun s => rI s.1 s.2.1 s.2.2⟩
theorem xE : (Bd).Ok X0.P X0.Γ :=
 ay (.l ⟨[(true, 5, (.own .bo 4 true)), (false, 11, (.int .i64))], []⟩ .o) Tryz.call66 Tryz.func66 (ok1 yg ok0) ok0 ok0 fun _ => by kernel_rfl
def B7 : Ent := ⟨73, [(.int .i64), (.bx 122 0 false [(.own .bo 4 false)]), (.bx 122 0 false [(.own .bo 4 false)])], .bool, [], fun s => o9 s.1 s.2.1 s.2.2⟩
theorem yQ : (B7).Ok X0.P X0.Γ :=
 ay .o Tryz.call73 Tryz.func73 ok0 ok0 ok0 fun _ => by kernel_rfl
def Bq : Ent := ⟨66, [(.int .i64), (.fn 73 [] [(.bx 122 0 false [(.own .bo 4 false)]), (.bx 122 0 false [(.own .bo 4 false)])])], (.own .bo 4 true), [], fun s => rD s.1 s.2.1 s.2.2⟩
theorem wO : (Bq).Ok X0.P X0.Γ :=
 ay (.l ⟨[(true, 5, (.own .bo 4 true)), (false, 11, (.int .i64))], []⟩ .o) Tryz.call66 Tryz.func66 (ok1 yQ ok0) ok0 ok0 fun _ => by kernel_rfl
def Dj : Ent := ⟨74, [(.int .i64), (.bx 122 0 false [(.own .bo 4 false)]), (.bx 122 0 false [(.own .bo 4 false)])], .bool, [], fun s => oE s.1 s.2.1 s.2.2⟩
theorem yU : (Dj).Ok X0.P X0.Γ :=
 ay .o Tryz.call74 Tryz.func74 ok0 ok0 ok0 fun _ => by kernel_rfl
def Bo : Ent := ⟨66, [(.int .i64), (.fn 74 [] [(.bx 122 0 false [(.own .bo 4 false)]), (.bx 122 0 false [(.own .bo 4 false)])])], (.own .bo 4 true), [], fun s => ru s.1 s.2.1 s.2.2⟩
theorem xo : (Bo).Ok X0.P X0.Γ :=
 ay (.l ⟨[(true, 5, (.own .bo 4 true)), (false, 11, (.int .i64))], []⟩ .o) Tryz.call66 Tryz.func66 (ok1 yU ok0) ok0 ok0 fun _ => by kernel_rfl
def CH : Ent := ⟨75, [(.int .i64), (.bx 122 0 false [(.own .bo 4 false)]), (.bx 122 0 false [(.own .bo 4 false)])], .bool, [], fun s => pj s.1 s.2.1 s.2.2⟩
theorem yu : (CH).Ok X0.P X0.Γ :=
 ay .o Tryz.call75 Tryz.func75 ok0 ok0 ok0 fun _ => by kernel_rfl
def Ba : Ent := ⟨66, [(.int .i64), (.fn 75 [] [(.bx 122 0 false [(.own .bo 4 false)]), (.bx 122 0 false [(.own .bo 4 false)])])], (.own .bo 4 true), [], fun s => rk s.1 s.2.1 s.2.2⟩
theorem xw : (Ba).Ok X0.P X0.Γ :=
 ay (.l ⟨[(true, 5, (.own .bo 4 true)), (false, 11, (.int .i64))], []⟩ .o) Tryz.call66 Tryz.func66 (ok1 yu ok0) ok0 ok0 fun _ => by kernel_rfl
def Hm : Ent := ⟨77, [(.dat (.p (.l (.l (.i .i64))) (.i .i64)) [none]), (.int .i64)], (.int .i64), [], fun s => nj s.1 s.2⟩
theorem ot : (Hm).Ok X0.P X0.Γ :=
 ay .o Tryz.call77 Tryz.func77 ok0 ok0 ok0 fun _ => by kernel_rfl
def Cu : Ent := ⟨76, [(.int .i64), (.bx 122 0 false [(.own .bo 4 false)]), (.bx 57 0 false [(.sli (.l (.i .i64))), (.int .i64)])], .bool, [], fun s => oQ s.1 s.2.1 s.2.2.1 s.2.2.2⟩
theorem yb : (Cu).Ok X0.P X0.Γ :=
 ay .o Tryz.call76 Tryz.func76 (ok1 ot ok0) ok0 ok0 fun _ => by kernel_rfl
def Bb : Ent := ⟨66, [(.int .i64), (.fn 76 [] [(.bx 122 0 false [(.own .bo 4 false)]), (.bx 57 0 false [(.sli (.l (.i .i64))), (.int .i64)])])], (.own .bo 4 true), [], fun s => rC s.1 s.2.1 s.2.2.1 s.2.2.2⟩
theorem wR : (Bb).Ok X0.P X0.Γ :=
 ay (.l ⟨[(true, 5, (.own .bo 4 true)), (false, 11, (.int .i64))], []⟩ .o) Tryz.call66 Tryz.func66 (ok1 yb ok0) ok0 ok0 fun _ => by kernel_rfl
def yX : Ent := ⟨70, [(.int .i64), (.bx 4 0 false [.bool])], .bool, [], fun s => oa s.1 s.2⟩
theorem uK : (yX).Ok X0.P X0.Γ :=
 ay .o Tryz.call70 Tryz.func70 ok0 ok0 ok0 fun _ => by kernel_rfl
def Bg : Ent := ⟨66, [(.int .i64), (.fn 70 [] [(.bx 4 0 false [.bool])])], (.own .bo 4 true), [], fun s => rM s.1 s.2⟩
theorem xr : (Bg).Ok X0.P X0.Γ :=
 ay (.l ⟨[(true, 5, (.own .bo 4 true)), (false, 11, (.int .i64))], []⟩ .o) Tryz.call66 Tryz.func66 (ok1 uK ok0) ok0 ok0 fun _ => by kernel_rfl
def B9 : Ent := ⟨69, [.bool, (.bx 3 0 false [(.int .i64)])], (.own .bo 4 true), [], fun s => ml s.1 s.2⟩
theorem yq : (B9).Ok X0.P X0.Γ :=
 ay .o Tryz.call69 Tryz.func69 (ok1 xr ok0) ok0 ok0 fun _ => by kernel_rfl
def zJ : Ent := ⟨96, [(.int .i64), (.bx 4 0 false [.bool])], .bool, [], fun s => pT s.1 s.2⟩
theorem vX : (zJ).Ok X0.P X0.Γ :=
 ay .o Tryz.call96 Tryz.func96 ok0 ok0 ok0 fun _ => by kernel_rfl
def Bt : Ent := ⟨66, [(.int .i64), (.fn 96 [] [(.bx 4 0 false [.bool])])], (.own .bo 4 true), [], fun s => kJ s.1 s.2⟩
theorem qg : (Bt).Ok X0.P X0.Γ :=
 ay (.l ⟨[(true, 5, (.own .bo 4 true)), (false, 11, (.int .i64))], []⟩ .o) Tryz.call66 Tryz.func66 (ok1 vX ok0) ok0 ok0 fun _ => by kernel_rfl
def vR : Ent := ⟨89, [(.int .i64), (.own .bo 4 false), (.bx 122 0 false [(.sli .bo)]), (.bx 122 0 false [(.sli .bo)]), (.bx 57 0 false [(.sli (.l (.i .i64))), (.int .i64)])], .bool, [], fun s => mG s.1 s.2.1 s.2.2.1 s.2.2.2.1 s.2.2.2.2.1 s.2.2.2.2.2⟩
theorem tI : (vR).Ok X0.P X0.Γ :=
 ay .o Tryz.call89 Tryz.func89 (ok1 ot ok0) ok0 ok0 fun _ => by kernel_rfl
def zN : Ent := ⟨97, [(.int .i64), (.bx 139 0 false [(.fn 89 [] [(.bx 122 0 false [(.sli .bo)]), (.bx 122 0 false [(.sli .bo)]), (.bx 57 0 false [(.sli (.l (.i .i64))), (.int .i64)])])]), (.bx 122 0 false [(.own .bo 4 false)])], .bool, [], fun s => lW s.1 s.2.2.2.2.2 s.2.1 s.2.2.1 s.2.2.2.1 s.2.2.2.2.1⟩
theorem vU : (zN).Ok X0.P X0.Γ :=
 ay .o Tryz.call97 Tryz.func97 (ok1 tI ok0) ok0 ok0 fun _ => by kernel_rfl
def zo : Ent := ⟨66, [(.int .i64), (.fn 97 [] [(.bx 139 0 false [(.fn 89 [] [(.bx 122 0 false [(.sli .bo)]), (.bx 122 0 false [(.sli .bo)]), (.bx 57 0 false [(.sli (.l (.i .i64))), (.int .i64)])])]), (.bx 122 0 false [(.own .bo 4 false)])])], (.own .bo 4 true), [], fun s => qc s.1 s.2.2.2.2.2 s.2.1 s.2.2.1 s.2.2.2.1 s.2.2.2.2.1⟩
theorem vV : (zo).Ok X0.P X0.Γ :=
 ay (.l ⟨[(true, 5, (.own .bo 4 true)), (false, 11, (.int .i64))], []⟩ .o) Tryz.call66 Tryz.func66 (ok1 vU ok0) ok0 ok0 fun _ => by kernel_rfl
def l5 : Ent := ⟨98, [(.own .bo 4 false), (.own .bo 4 false)], .bool, [], fun s => bZ s.1 s.2⟩
theorem fT : (l5).Ok X0.P X0.Γ :=
 ay (.c .o (.l ⟨[(false, 13, (.int .i64))], []⟩ .o)) Tryz.call98 Tryz.func98 ok0 ok0 ok0 fun _ => by kernel_rfl
def EE : Ent := ⟨88, [(.dat (.p (.l (.l (.i .i64))) (.i .i64)) [none]), .bool, (.fn 89 [] [(.bx 122 0 false [(.sli .bo)]), (.bx 122 0 false [(.sli .bo)]), (.bx 57 0 false [(.sli (.l (.i .i64))), (.int .i64)])])], (.own .bo 4 true), [], fun s => uB s.1 s.2.1 s.2.2.1 s.2.2.2.1 s.2.2.2.2.1 s.2.2.2.2.2⟩
theorem y7 : (EE).Ok X0.P X0.Γ :=
 ay (.n 0 (.j ⟨[(true, 7, (.bx 122 0 true [(.own .bo 4 true)]))], []⟩ .o .o)) Tryz.call88 Tryz.func88 (ok1 qg (ok1 vV (ok1 fT ok0))) ok0 ok0 fun _ => by kernel_rfl
def EA : Ent := ⟨78, [(.dat (.p (.l (.l (.i .i64))) (.i .i64)) [none]), (.sli .bo), (.sli .bo)], (.own .bo 4 true), [], fun s => nY s.1 s.2.1 s.2.2⟩
theorem zX : (EA).Ok X0.P X0.Γ :=
 ay .o Tryz.call78 Tryz.func78 (ok1 y7 ok0) ok0 ok0 fun _ => by kernel_rfl
def ub : Ent := ⟨90, [(.int .i64), (.own .bo 4 false), (.bx 122 0 false [(.sli .bo)]), (.bx 122 0 false [(.sli .bo)]), (.bx 57 0 false [(.sli (.l (.i .i64))), (.int .i64)])], .bool, [], fun s => km s.1 s.2.1 s.2.2.1 s.2.2.2.1 s.2.2.2.2.1 s.2.2.2.2.2⟩
theorem ra : (ub).Ok X0.P X0.Γ :=
 ay .o Tryz.call90 Tryz.func90 (ok1 ot ok0) ok0 ok0 fun _ => by kernel_rfl
def vT : Ent := ⟨97, [(.int .i64), (.bx 139 0 false [(.fn 90 [] [(.bx 122 0 false [(.sli .bo)]), (.bx 122 0 false [(.sli .bo)]), (.bx 57 0 false [(.sli (.l (.i .i64))), (.int .i64)])])]), (.bx 122 0 false [(.own .bo 4 false)])], .bool, [], fun s => jG s.1 s.2.2.2.2.2 s.2.1 s.2.2.1 s.2.2.2.1 s.2.2.2.2.1⟩
theorem tA : (vT).Ok X0.P X0.Γ :=
 ay .o Tryz.call97 Tryz.func97 (ok1 ra ok0) ok0 ok0 fun _ => by kernel_rfl
def zf : Ent := ⟨66, [(.int .i64), (.fn 97 [] [(.bx 139 0 false [(.fn 90 [] [(.bx 122 0 false [(.sli .bo)]), (.bx 122 0 false [(.sli .bo)]), (.bx 57 0 false [(.sli (.l (.i .i64))), (.int .i64)])])]), (.bx 122 0 false [(.own .bo 4 false)])])], (.own .bo 4 true), [], fun s => pD s.1 s.2.2.2.2.2 s.2.1 s.2.2.1 s.2.2.2.1 s.2.2.2.2.1⟩
theorem v7 : (zf).Ok X0.P X0.Γ :=
 ay (.l ⟨[(true, 5, (.own .bo 4 true)), (false, 11, (.int .i64))], []⟩ .o) Tryz.call66 Tryz.func66 (ok1 tA ok0) ok0 ok0 fun _ => by kernel_rfl
def zk : Ent := ⟨88, [(.dat (.p (.l (.l (.i .i64))) (.i .i64)) [none]), .bool, (.fn 90 [] [(.bx 122 0 false [(.sli .bo)]), (.bx 122 0 false [(.sli .bo)]), (.bx 57 0 false [(.sli (.l (.i .i64))), (.int .i64)])])], (.own .bo 4 true), [], fun s => pz s.1 s.2.1 s.2.2.1 s.2.2.2.1 s.2.2.2.2.1 s.2.2.2.2.2⟩
theorem vW : (zk).Ok X0.P X0.Γ :=
 ay (.n 0 (.j ⟨[(true, 7, (.bx 122 0 true [(.own .bo 4 true)]))], []⟩ .o .o)) Tryz.call88 Tryz.func88 (ok1 qg (ok1 v7 (ok1 fT ok0))) ok0 ok0 fun _ => by kernel_rfl
def Bf : Ent := ⟨79, [(.dat (.p (.l (.l (.i .i64))) (.i .i64)) [none]), (.sli .bo), (.sli .bo)], (.own .bo 4 true), [], fun s => kC s.1 s.2.1 s.2.2⟩
theorem wU : (Bf).Ok X0.P X0.Γ :=
 ay .o Tryz.call79 Tryz.func79 (ok1 vW ok0) ok0 ok0 fun _ => by kernel_rfl
def A6 : Ent := ⟨49, [(.dat .ex [none]), (.dat (.p (.l (.l (.i .i64))) (.i .i64)) [none])], (.own .bo 4 true), [], fun s => vt s.1 s.2⟩
def rN (eta : Ex → Ex) (du : Sh → (R : Type) → Option R → Option R) (n8 : (Ex × Q13) → Option Q5) (e : Ex) (w3 : Q13) : Option Q5 := (sG (eta e)).bind fun r12 => bif r12 then ( (ta (List.length w3.1 : Int) e.op e.n e.at_ e.l w3.1 w3.2).bind fun r16 => some r16) else ( (idx e.l 0).bind fun e23 => du (.b .l .l) _ ( (n8 ((eta e23), w3)).bind fun r29 => ab (fun (s117 : Q5) => oD e w3 r29 s117) fun kk116 => bif (decide (1 < (List.length e.l : Int))) then ( (idx e.l 1).bind fun e121 => (n8 ((eta e121), w3)).bind fun r127 => kk116 r127) else ( kk116 [])))
def AP : TK4 → TK4 := fun k4 s => jV k4 s.1 s.2
theorem Ag (k4 : TK4) (i4 : OK4 k4) : (o7 (AP k4)).Ok X0.P X0.Γ :=
 ay (.c .o (.r [] (.s (.j ⟨[(true, 7, (.bx 122 0 true [(.own .bo 4 true)]))], []⟩ (.c (.r [7] .o) .o) (.c .o (.c .o (.c .o (.c .o (.c .o (.c .o (.c (.r [6, 8] .o) (.c (.r [6, 8] .o) .o)))))))))))) Tryz.call49 Tryz.func49 (ok1 D5 (ok1 A8 (ok1 i4 (ok1 wP (ok1 xE (ok1 wO (ok1 xo (ok1 xw (ok1 wR (ok1 yq (ok1 zX (ok1 wU ok0)))))))))))) ok0 ok0 fun s => (show _ = rN gA duE k4 s.1 s.2 from by kernel_rfl).trans ((congrArg (fun eta => rN eta duE k4 s.1 s.2) cF).trans ((congrArg (fun du => rN id du k4 s.1 s.2) dD).trans (by kernel_rfl)))
theorem Ec : (A6).Ok X0.P X0.Γ := (show A6 = o7 (al (AP) aq) by kernel_rfl) ▸ kj (X := X0) (E := o7) ⟨Tryz.call49, fun _ _ h => nomatch h⟩ (Ag) aq
def Eu : Ent := ⟨23, [(.dat .ex [none]), (.dat (.p (.l (.l (.i .i64))) (.i .i64)) [none])], .bool, [], fun s => nT s.1 s.2⟩
def rA (eta : Ex → Ex) (_du : Sh → (R : Type) → Option R → Option R) (e : Ex) (w3 : Q13) : Option Bool := (vt (eta e) w3).bind fun r7 => (idx r7 0).bind fun e12 => some e12
theorem zI : (Eu).Ok X0.P X0.Γ :=
 ay .o Tryz.call23 Tryz.func23 (ok1 Ec ok0) ok0 ok0 fun s => (show _ = rA gA duE s.1 s.2 from by kernel_rfl).trans ((congrArg (fun eta => rA eta duE s.1 s.2) cF).trans ((congrArg (fun du => rA id du s.1 s.2) dD).trans (by kernel_rfl)))
def Bj : Ent := ⟨11, [(.dat (.p (.l .s) (.p (.l (.p (.i .i64) (.i .i64))) (.p (.l (.i .i64)) (.p (.l .s) (.l (.p (.i .i64) (.p .ex (.l (.p (.i .i64) .ex))))))))) [none, none, none, none, none]), (.dat .ex [none]), (.dat (.p (.l (.l (.i .i64))) (.l (.l (.i .i64)))) [none, none])], .bool, [], fun s => eZ s.1 s.2.1 s.2.2⟩
def ox (eta : Ex → Ex) (_du : Sh → (R : Type) → Option R → Option R) (m : Q4) (e : Ex) (l : Q17) : Option Bool := (fS m l).bind fun r11 => aT r11 default (kf l) fun r14 => aT r11 default (nT (eta e) r14) fun r23 => ab (!r23) fun b29 => ab (r11 && b29) fun b31 => some b31
theorem p7 : (Bj).Ok X0.P X0.Γ :=
 ay .o Tryz.call11 Tryz.func11 (ok1 mZ (ok1 qQ (ok1 zI ok0))) ok0 ok0 fun s => (show _ = ox gA duE s.1 s.2.1 s.2.2 from by kernel_rfl).trans ((congrArg (fun eta => ox eta duE s.1 s.2.1 s.2.2) cF).trans ((congrArg (fun du => ox id du s.1 s.2.1 s.2.2) dD).trans (by kernel_rfl)))
def tY : Ent := ⟨15, [(.sli (.i .i64)), (.sli (.i .i64))], .bool, [], fun s => oz s.1 s.2⟩
theorem rF : (tY).Ok X0.P X0.Γ :=
 ay (.c .o (.l ⟨[(false, 5, (.int .i64))], []⟩ .o)) Tryz.call15 Tryz.func15 ok0 ok0 ok0 fun _ => by kernel_rfl
def tg : Ent := ⟨18, [(.sli (.l (.i .i64))), (.sli (.l (.i .i64)))], .bool, [], fun s => j5 s.1 s.2⟩
theorem qz : (tg).Ok X0.P X0.Γ :=
 ay (.c .o (.l ⟨[(false, 5, (.int .i64))], []⟩ .o)) Tryz.call18 Tryz.func18 (ok1 rF ok0) ok0 ok0 fun _ => by kernel_rfl
def sb : Ent := ⟨7, [], .bool, [], fun _ => gr⟩
theorem qt : (sb).Ok X0.P X0.Γ :=
 ay .o Tryz.call7 Tryz.func7 (ok1 lg (ok1 Bi (ok1 qQ (ok1 p7 (ok1 mZ (ok1 qz ok0)))))) ok0 ok0 fun _ => by kernel_rfl
def ua : Ent := ⟨9, [(.dat (.p (.l (.l (.i .i64))) (.l (.l (.i .i64)))) [none, none]), (.int .i64)], .bool, [], fun s => fC s.1 s.2⟩
theorem rz : (ua).Ok X0.P X0.Γ :=
 ay (.c .o (.l ⟨[(false, 5, (.int .i64))], []⟩ (.c .o (.l ⟨[(false, 6, (.int .i64))], []⟩ .o)))) Tryz.call9 Tryz.func9 ok0 ok0 ok0 fun _ => by kernel_rfl
def mn : Ent := ⟨47, [(.dat .ex [none]), (.int .i64)], (.int .i64), [], fun s => gM s.1 s.2⟩
def qB (eta : Ex → Ex) (_du : Sh → (R : Type) → Option R → Option R) (cn : Q22 → Option Int) (e : Ex) (most : Int) (again8 : Q23 → Option Int) : Int × Int → Option Int := fun ⟨d6, i7⟩ => ab (decide (i7 < (List.length e.l : Int))) fun b9 => ab (decide (1 < most)) fun b11 => ab (b9 && b11) fun b13 => bif b13 then ( (idx e.l i7).bind fun e16 => (cn ((eta e16), (IntKind.i64.wrap (most - 1)))).bind fun r22 => bif (decide (d6 < (IntKind.i64.wrap (1 + r22)))) then ( again8 ((IntKind.i64.wrap (1 + r22)), (IntKind.i64.wrap (i7 + 1)))) else ( again8 (d6, (IntKind.i64.wrap (i7 + 1))))) else ( some d6)
def gZ (eta : Ex → Ex) (du : Sh → (R : Type) → Option R → Option R) (cn : Q22 → Option Int) (e : Ex) (most : Int) : Option Int := al (qB eta du cn e most) aq (1, 0)
def mB : TK5 → TK5 := fun k5 s => jb k5 s.1 s.2
theorem pf (k5 : TK5) (i5 : OK5 k5) : (fu (mB k5)).Ok X0.P X0.Γ :=
 ay (.l ⟨[(false, 5, (.int .i64)), (false, 6, (.int .i64))], []⟩ .o) Tryz.call47 Tryz.func47 (ok1 i5 ok0) ok0 ok0 fun s => (show _ = gZ gA duE k5 s.1 s.2 from by kernel_rfl).trans ((congrArg (fun eta => gZ eta duE k5 s.1 s.2) cF).trans ((congrArg (fun du => gZ id du k5 s.1 s.2) dD).trans (by kernel_rfl)))
theorem qF : (mn).Ok X0.P X0.Γ := (show mn = fu (al (mB) aq) by kernel_rfl) ▸ kj (X := X0) (E := fu) ⟨Tryz.call47, fun _ _ h => nomatch h⟩ (pf) aq
def mE : Ent := ⟨48, [(.dat .ex [none]), (.int .i64)], (.int .i64), [], fun s => gY s.1 s.2⟩
def qv (eta : Ex → Ex) (_du : Sh → (R : Type) → Option R → Option R) (cm : Q22 → Option Int) (e : Ex) (most : Int) (again8 : Q23 → Option Int) : Int × Int → Option Int := fun ⟨n6, i7⟩ => ab (decide (i7 < (List.length e.l : Int))) fun b9 => ab (decide (n6 < most)) fun b11 => ab (b9 && b11) fun b13 => bif b13 then ( (idx e.l i7).bind fun e16 => (cm ((eta e16), most)).bind fun r22 => again8 ((IntKind.i64.wrap (n6 + r22)), (IntKind.i64.wrap (i7 + 1)))) else ( some n6)
def hU (eta : Ex → Ex) (du : Sh → (R : Type) → Option R → Option R) (cm : Q22 → Option Int) (e : Ex) (most : Int) : Option Int := al (qv eta du cm e most) aq (1, 0)
def lT : TK6 → TK6 := fun k6 s => jc k6 s.1 s.2
theorem oJ (k6 : TK6) (i6 : OK6 k6) : (fq (lT k6)).Ok X0.P X0.Γ :=
 ay (.l ⟨[(false, 5, (.int .i64)), (false, 6, (.int .i64))], []⟩ .o) Tryz.call48 Tryz.func48 (ok1 i6 ok0) ok0 ok0 fun s => (show _ = hU gA duE k6 s.1 s.2 from by kernel_rfl).trans ((congrArg (fun eta => hU eta duE k6 s.1 s.2) cF).trans ((congrArg (fun du => hU id du k6 s.1 s.2) dD).trans (by kernel_rfl)))
theorem qu : (mE).Ok X0.P X0.Γ := (show mE = fq (al (lT) aq) by kernel_rfl) ▸ kj (X := X0) (E := fq) ⟨Tryz.call48, fun _ _ h => nomatch h⟩ (oJ) aq
def ud : Ent := ⟨20, [(.dat .ex [none])], .bool, [], fun s => fz s⟩
def jv (eta : Ex → Ex) (_du : Sh → (R : Type) → Option R → Option R) (e : Ex) : Option Bool := (gM (eta e) 45).bind fun r5 => (gY (eta e) 300).bind fun r8 => ab (decide (r5 < 45)) fun b11 => ab (decide (r8 < 300)) fun b13 => ab (b11 && b13) fun b15 => some b15
theorem rO : (ud).Ok X0.P X0.Γ :=
 ay .o Tryz.call20 Tryz.func20 (ok1 qF (ok1 qu ok0)) ok0 ok0 fun s => (show _ = jv gA duE s from by kernel_rfl).trans ((congrArg (fun eta => jv eta duE s) cF).trans ((congrArg (fun du => jv id du s) dD).trans (by kernel_rfl)))
def mT : Ent := ⟨21, [(.dat .ex [none]), (.int .i64)], .bool, [], fun s => iw s.1 s.2⟩
def ri (eta : Ex → Ex) (_du : Sh → (R : Type) → Option R → Option R) (bh : Q22 → Option Bool) (e : Ex) (vars : Int) (want6 : Int) (again51 : Int → Option Bool) (i50 : Int) : Option Bool := bif (decide (i50 < want6)) then ( (idx e.l i50).bind fun e53 => (bh ((eta e53), vars)).bind fun r59 => bif (!r59) then ( some false) else ( again51 (IntKind.i64.wrap (i50 + 1)))) else ( some true)
def rK (eta : Ex → Ex) (du : Sh → (R : Type) → Option R → Option R) (bh : Q22 → Option Bool) (e : Ex) (vars : Int) (want6 : Int) : Option Bool := ab (decide (e.op < 1)) fun b7 => ab (decide (24 < e.op)) fun b9 => ab (b7 || b9) fun b11 => ab ((List.length e.l : Int) != want6) fun b13 => ab (b11 || b13) fun b15 => bif b15 then ( some false) else ( ab (e.op == 1) fun b18 => ab (decide (e.n < 0)) fun b20 => ab (decide (1073741824 < e.n)) fun b22 => ab (b20 || b22) fun b24 => ab (b18 && b24) fun b26 => ab (e.op == 2) fun b28 => ab (decide (e.n < 0)) fun b30 => ab (decide (vars ≤ e.n)) fun b32 => ab (b30 || b32) fun b34 => ab (b28 && b34) fun b36 => ab (b26 || b36) fun b38 => ab (decide (2 < e.op)) fun b40 => ab (e.n != 0) fun b42 => ab (b40 && b42) fun b44 => ab (b38 || b44) fun b46 => bif b46 then ( some false) else ( al (ri eta du bh e vars want6) aq 0))
def iH (eta : Ex → Ex) (du : Sh → (R : Type) → Option R → Option R) (bh : Q22 → Option Bool) (e : Ex) (vars : Int) : Option Bool := ab (fun (s64 : Int) => rK eta du bh e vars s64) fun kk63 => ab (fun (s78 : Bool) => iX e kk63 s78) fun kk77 => bif (e.op == 1) then ( kk77 (e.op == 1)) else ( bif (e.op == 2) then ( kk77 (e.op == 2)) else ( bif (e.op == 13) then ( kk77 (e.op == 13)) else ( kk77 (e.op == 14))))
def mU : TK7 → TK7 := fun k7 s => dB k7 s.1 s.2
theorem qa (k7 : TK7) (i7 : OK7 k7) : (fD (mU k7)).Ok X0.P X0.Γ :=
 ay (.s (.s (.j ⟨[(false, 5, (.int .i64))], []⟩ (.s (.j ⟨[(false, 10, .bool)], []⟩ .o (.c .o (.j ⟨[(false, 15, .bool)], []⟩ .o .o)))) (.c .o (.c .o (.l ⟨[(false, 6, (.int .i64))], []⟩ .o)))))) Tryz.call21 Tryz.func21 (ok1 i7 ok0) ok0 ok0 fun s => (show _ = iH gA duE k7 s.1 s.2 from by kernel_rfl).trans ((congrArg (fun eta => iH eta duE k7 s.1 s.2) cF).trans ((congrArg (fun du => iH id du k7 s.1 s.2) dD).trans (by kernel_rfl)))
theorem rv : (mT).Ok X0.P X0.Γ := (show mT = fD (al (mU) aq) by kernel_rfl) ▸ kj (X := X0) (E := fD) ⟨Tryz.call21, fun _ _ h => nomatch h⟩ (qa) aq
def qA : Ent := ⟨10, [(.dat .ex [none]), (.int .i64)], .bool, [], fun s => dN s.1 s.2⟩
def gB (eta : Ex → Ex) (_du : Sh → (R : Type) → Option R → Option R) (e : Ex) (vars : Int) : Option Bool := (fz (eta e)).bind fun r5 => (iw (eta e) vars).bind fun r8 => ab (!r5) fun b11 => ab (!r8) fun b13 => ab (b11 || b13) fun b15 => bif b15 then ( some false) else ( (cd (eta e)).bind fun r18 => ab (r18.2.1 == 0) fun b21 => ab (r18.1 != 1) fun b23 => ab (b21 && b23) fun b25 => some b25)
theorem oh : (qA).Ok X0.P X0.Γ :=
 ay .o Tryz.call10 Tryz.func10 (ok1 rO (ok1 rv (ok1 kl ok0))) ok0 ok0 fun s => (show _ = gB gA duE s.1 s.2 from by kernel_rfl).trans ((congrArg (fun eta => gB eta duE s.1 s.2) cF).trans ((congrArg (fun du => gB id du s.1 s.2) dD).trans (by kernel_rfl)))
def nR : Ent := ⟨3, [.str, (.dat .ex [none]), (.dat (.p (.l (.l (.i .i64))) (.l (.l (.i .i64)))) [none, none])], .bool, [], fun s => dS s.1 s.2.1 s.2.2⟩
def fg (eta : Ex → Ex) (_du : Sh → (R : Type) → Option R → Option R) (text : Str) (e : Ex) (l : Q17) : Option Bool := (gr).bind fun r7 => (eV text).bind fun r10 => ab (!r10.2) fun b26 => aT (!b26) default (fC l 20) fun r28 => ab (!r28) fun b34 => ab (b26 || b34) fun b36 => aT (!b36) default (dN (eta e) (List.length r10.1.1 : Int)) fun r38 => ab (!r38) fun b44 => ab (b36 || b44) fun b46 => bif b46 then ( some r7) else ( (eZ r10.1 (eta e) l).bind fun r49 => (eZ r10.1 (Ex.mk 15 0 0 ([(eta e)] : List Ex)) l).bind fun r54 => (fS r10.1 l).bind fun r57 => bif (!r57) then ( ab (!r49) fun b61 => ab (r7 && b61) fun b63 => ab (!r54) fun b65 => ab (b63 && b65) fun b67 => some b67) else ( ab (r49 != r54) fun b69 => ab (r7 && b69) fun b71 => some b71))
theorem mH : (nR).Ok X0.P X0.Γ :=
 ay .o Tryz.call3 Tryz.func3 (ok1 qt (ok1 lg (ok1 rz (ok1 oh (ok1 p7 (ok1 mZ ok0)))))) ok0 ok0 fun s => (show _ = fg gA duE s.1 s.2.1 s.2.2 from by kernel_rfl).trans ((congrArg (fun eta => fg eta duE s.1 s.2.1 s.2.2) cF).trans ((congrArg (fun du => fg id du s.1 s.2.1 s.2.2) dD).trans (by kernel_rfl)))
end
end Go.Proofs.YtpnogcmollnjeaaGreatDoor
namespace Go.Proofs.YtpnogcmollnjeaaGreatDoor
theorem jN (e : Ex) : 1 ≤ e.sz := by rw [Ex.F9]; omega
theorem HV {x : Ex} : ∀ {l : List Ex}, x ∈ l → x.sz ≤ szL l
 | y :: l, h => by
  simp only [szL]
  rcases List.mem_cons.1 h with rfl | h
  ·omega
  ·have := HV h; omega
theorem FQ : ∀ (l : List Ex), l.length ≤ szL l
 | [] => Nat.le_refl _
 | x :: l => by have := FQ l; have := jN x; simp only [szL, List.length_cons]; omega
theorem gP {e x : Ex} (h : x ∈ e.l) : x.sz < e.sz := by have := HV h; rw [Ex.F9 e]; omega
theorem sF (e : Ex) : e.l.length < e.sz := by have := FQ e.l; rw [Ex.F9 e]; omega
theorem ai {α ρ : Type} (x : α) (k : α → Option ρ) : (some x).bind k = k x := rfl
theorem aN {α ρ : Type} (x : α) (k : α → Option ρ) : ab x k = k x := rfl
theorem cZ {α ρ : Type} (d : α) (m : Option α) (k : α → Option ρ) : aT true d m k = m.bind k := rfl
theorem ij {α ρ : Type} (d : α) (m : Option α) (k : α → Option ρ) : aT false d m k = k d := rfl
theorem sy {l pre r : List Ex} {x : Ex} (h : l = pre ++ x :: r) : idx l (pre.length : Int) = some x := by subst h; simp [idx]
theorem rV {n : Nat} (h : n < 4611686018427387904) : IntKind.i64.wrap ((n : Int) + 1) = ((n + 1 : Nat) : Int) := by rw [w64 (by omega)]; omega
theorem BN {l pre r : List Ex} {x : Ex} (h : l = pre ++ x :: r) : decide ((pre.length : Int) < (List.length l : Int)) = true := by subst h; simp; omega
theorem Cl {l pre : List Ex} (h : l = pre ++ []) : decide ((pre.length : Int) < (List.length l : Int)) = false := by subst h; simp
noncomputable def kL (op a : Int) (i b t : Bool) : Int × Int × Int :=
 bif decide (op ≤ 6) && i then (1, 0, 0)
 else bif decide (6 < op) && decide (op ≤ 12) && i || op == 13 || op == 14 || decide (15 ≤ op) && decide (op ≤ 19) && b then (2, 0, 0)
 else bif decide (15 ≤ op) && t then (3, 0, 0) else (0, 4, a)
mutual
noncomputable def ty : Ex → Int × Int × Int
 | .mk op _ a l => tyA op a l true true true
noncomputable def tyA (op a : Int) : List Ex → Bool → Bool → Bool → Int × Int × Int
 | [], i, b, t => kL op a i b t
 | x :: r, i, b, t => bif (ty x).2.1 != 0 then (0, (ty x).2.1, (ty x).2.2) else tyA op a r (i && (ty x).1 == 1) (b && (ty x).1 == 2) (t && (ty x).1 != 1)
end
theorem yi (e : Ex) : ty e = tyA e.op e.at_ e.l true true true := by cases e; simp only [ty, Ex.op, Ex.at_, Ex.l]
theorem HN (op a : Int) (i b t : Bool) : (kL op a i b t).2.1 = 0 → (kL op a i b t).1 = 1 ∨ (kL op a i b t).1 = 2 ∨ (kL op a i b t).1 = 3 := by
 unfold kL
 cases decide (op ≤ 6) && i
 ·cases decide (6 < op) && decide (op ≤ 12) && i || op == 13 || op == 14 || decide (15 ≤ op) && decide (op ≤ 19) && b
  ·cases decide (15 ≤ op) && t
   ·intro h; cases h
   ·intro _; exact .inr (.inr rfl)
  ·intro _; exact .inr (.inl rfl)
 ·intro _; exact .inl rfl
theorem E1 (op a : Int) : ∀ (l : List Ex) (i b t : Bool), (tyA op a l i b t).2.1 = 0 → (tyA op a l i b t).1 = 1 ∨ (tyA op a l i b t).1 = 2 ∨ (tyA op a l i b t).1 = 3
 | [], i, b, t => HN op a i b t
 | x :: r, i, b, t => by
  simp only [tyA]
  cases h : (ty x).2.1 != 0
  ·simp only [cond_false]; exact E1 op a r _ _ _
  ·simp only [cond_true]
   intro h0
   rw [h0] at h; cases h
theorem I5 (e : Ex) : (ty e).2.1 = 0 → (ty e).1 = 1 ∨ (ty e).1 = 2 ∨ (ty e).1 = 3 := by rw [yi]; exact E1 _ _ _ _ _ _
noncomputable def fB (op : Int) : Int := bif op == 1 || op == 2 || op == 13 || op == 14 then 0 else bif op == 6 || op == 15 || op == 20 || op == 21 || op == 22 then 1 else 2
noncomputable def kA (op n len want vars : Int) : Bool :=
 !(decide (op < 1) || decide (24 < op) || len != want) && !((op == 1) && (decide (n < 0) || decide (1073741824 < n)) || (op == 2) && (decide (n < 0) || decide (vars ≤ n)) || decide (2 < op) && n != 0)
mutual
noncomputable def dv (vars : Int) : Ex → Bool
 | .mk op n _ l => kA op n (l.length : Int) (fB op) vars && jK vars l
noncomputable def jK (vars : Int) : List Ex → Bool
 | [] => true
 | x :: r => dv vars x && jK vars r
end
theorem yZ (vars : Int) (e : Ex) : dv vars e = (kA e.op e.n (e.l.length : Int) (fB e.op) vars && jK vars e.l) := by cases e; simp only [dv, Ex.op, Ex.n, Ex.l]
noncomputable def tr (b : Bool) : Int := bif b then 1 else 0
noncomputable def evF (op n : Int) (v : List Int) (a b : Int) : Int :=
 bif op == 1 then n else bif op == 2 then (bif decide (n < 0) || decide ((List.length v : Int) ≤ n) then 0 else v.getD n.toNat 0)
 else bif op == 3 then IntKind.i64.wrap (a + b) else bif op == 5 then IntKind.i64.wrap (a * b) else bif op == 6 then IntKind.i64.wrap (0 - a) else bif op == 4 then IntKind.i64.wrap (a - b)
 else bif op == 8 then tr ((a == b) != true) else bif op == 7 then tr ((a == b) != false) else bif op == 19 then tr ((a == b) != false)
 else bif op == 12 then tr (decide (a < b) != true) else bif op == 9 then tr (decide (a < b) != false) else bif op == 11 then tr (decide (a ≤ b) != true) else bif op == 10 then tr (decide (a ≤ b) != false)
 else bif op == 13 then 1 else bif op == 15 then IntKind.i64.wrap (1 - a) else bif op == 16 then IntKind.i64.wrap (a * b) else bif op == 17 then max a b else bif op == 18 then max (IntKind.i64.wrap (1 - a)) b else 0
mutual
noncomputable def ev (v : List Int) : Ex → Int
 | .mk op n _ l => evF op n v (ev0 v l) (ev1 v l)
noncomputable def ev0 (v : List Int) : List Ex → Int
 | [] => 0
 | x :: _ => ev v x
noncomputable def ev1 (v : List Int) : List Ex → Int
 | [] => 0
 | _ :: r => ev0 v r
end
theorem Hk (v : List Int) (e : Ex) : ev v e = evF e.op e.n v (ev0 v e.l) (ev1 v e.l) := by cases e; simp only [ev, Ex.op, Ex.n, Ex.l]
noncomputable def vx (op a len i b t : Int) : Int × Int × Int :=
 bif decide (op ≤ 6) && (i == len) then (1, 0, 0)
 else bif decide (7 ≤ op) && decide (op ≤ 12) && (i == len) || op == 13 || op == 14 then (2, 0, 0)
 else bif decide (15 ≤ op) && decide (op ≤ 19) && (b == len) then (2, 0, 0)
 else bif decide (15 ≤ op) && (b + t == len) then (3, 0, 0) else (0, 4, a)
mutual
noncomputable def rt : Ex → Int × Int × Int
 | .mk op _ a l => rtA op a (l.length : Int) l 0 0 0
noncomputable def rtA (op a len : Int) : List Ex → Int → Int → Int → Int × Int × Int
 | [], i, b, t => vx op a len i b t
 | x :: r, i, b, t => bif (rt x).2.1 != 0 then (0, (rt x).2.1, (rt x).2.2) else rtA op a len r (bif (rt x).1 == 1 then i + 1 else i) (bif (rt x).1 == 2 then b + 1 else b) (bif (rt x).1 == 3 then t + 1 else t)
end
theorem rt_eq (e : Ex) : rt e = rtA e.op e.at_ (e.l.length : Int) e.l 0 0 0 := by cases e; simp only [rt, Ex.op, Ex.at_, Ex.l]
theorem pr {α ρ : Type} (g : Bool) (d v : α) (k : α → Option ρ) : aT g d (some v) k = k (bif g then v else d) := by cases g <;> rfl
theorem Ff (op a len : Int) : ∀ (l : List Ex) (i b t : Int), (rtA op a len l i b t).1 = 2 → 7 ≤ op ∧ op ≤ 19
 | [], i, b, t, h => by
  simp only [rtA, vx] at h
  cases c1 : (decide (op ≤ 6) && (i == len))
  ·rw [c1] at h
   simp only [cond_false] at h
   cases c2 : (decide (7 ≤ op) && decide (op ≤ 12) && (i == len) || op == 13 || op == 14)
   ·rw [c2] at h
    simp only [cond_false] at h
    cases c3 : (decide (15 ≤ op) && decide (op ≤ 19) && (b == len))
    ·rw [c3] at h
     simp only [cond_false] at h
     cases c4 : (decide (15 ≤ op) && (b + t == len))
     ·rw [c4] at h; simp at h
     ·rw [c4] at h; simp at h
    ·simp only [Bool.and_eq_true, decide_eq_true_eq] at c3; omega
   ·simp only [Bool.or_eq_true, Bool.and_eq_true, decide_eq_true_eq, beq_iff_eq] at c2; omega
  ·rw [c1] at h; simp at h
 | x :: r, i, b, t, h => by
  simp only [rtA] at h
  cases c : ((rt x).2.1 != 0)
  ·rw [c] at h; exact Ff op a len r _ _ _ h
  ·rw [c] at h; simp at h
theorem BU (op a len : Int) (h15 : 15 ≤ op) (h19 : op ≤ 19) : ∀ (l : List Ex) (i b t : Int), b + l.length < len → (rtA op a len l i b t).1 ≠ 2
 | [], i, b, t, hb, h => by
  simp only [rtA, vx] at h
  have c1 : decide (op ≤ 6) = false := decide_eq_false (by omega)
  have c2 : decide (op ≤ 12) = false := decide_eq_false (by omega)
  have c3 : (op == 13) = false := beq_eq_false_iff_ne.2 (by omega)
  have c4 : (op == 14) = false := beq_eq_false_iff_ne.2 (by omega)
  have c5 : (b == len) = false := beq_eq_false_iff_ne.2 (by simp at hb; omega)
  rw [c1, c2, c3, c4, c5] at h
  simp only [Bool.false_and, Bool.and_false, Bool.or_false, cond_false] at h
  cases c6 : (decide (15 ≤ op) && (b + t == len))
  ·rw [c6] at h; simp at h
  ·rw [c6] at h; simp at h
 | x :: r, i, b, t, hb, h => by
  simp only [rtA] at h
  simp only [List.length_cons] at hb
  cases c : ((rt x).2.1 != 0)
  ·rw [c] at h
   refine BU op a len h15 h19 r _ _ _ ?_ h
   cases (rt x).1 == 2
   ·simp only [cond_false]; omega
   ·simp only [cond_true]; omega
  ·rw [c] at h; simp at h
theorem EU (op a len : Int) (h15 : 15 ≤ op) (h19 : op ≤ 19) : ∀ (l : List Ex) (i b t : Int), b + l.length ≤ len → (rtA op a len l i b t).1 = 2 → ∀ x ∈ l, (rt x).1 = 2 ∧ (rt x).2.1 = 0
 | [], _, _, _, _, _, x, hx => by cases hx
 | y :: r, i, b, t, hb, h, x, hx => by
  simp only [rtA] at h
  simp only [List.length_cons] at hb
  cases c : ((rt y).2.1 != 0)
  ·rw [c] at h
   simp only [cond_false] at h
   cases c2 : ((rt y).1 == 2)
   ·rw [c2] at h
    exact absurd h (BU op a len h15 h19 r _ _ _ (by simp only [cond_false]; omega))
   ·rw [c2] at h
    rcases List.mem_cons.1 hx with rfl | hx
    ·exact ⟨by simpa using c2, by simpa using c⟩
    ·exact EU op a len h15 h19 r _ _ _ (by simp only [cond_true]; omega) h x hx
  ·rw [c] at h; simp at h
theorem w5 (b : Bool) : tr b = 0 ∨ tr b = 1 := by cases b; exact .inl rfl; exact .inr rfl
theorem Qc (v : List Int) {l : List Ex} (h : ∀ x ∈ l, ev v x = 0 ∨ ev v x = 1) : (ev0 v l = 0 ∨ ev0 v l = 1) ∧ (ev1 v l = 0 ∨ ev1 v l = 1) := by
 match l, h with
 | [], _ => exact ⟨.inl (by simp only [ev0]), .inl (by simp only [ev1])⟩
 | [x], h => exact ⟨by simp only [ev0]; exact h x (by simp), .inl (by simp only [ev1, ev0])⟩
 | x :: y :: r, h => exact ⟨by simp only [ev0]; exact h x (by simp), by simp only [ev1, ev0]; exact h y (by simp)⟩
theorem PA (op n : Int) (v : List Int) (a b : Int) (h7 : 7 ≤ op) (h19 : op ≤ 19) (hab : 15 ≤ op → (a = 0 ∨ a = 1) ∧ (b = 0 ∨ b = 1)) : evF op n v a b = 0 ∨ evF op n v a b = 1 := by
 have : op = 7 ∨ op = 8 ∨ op = 9 ∨ op = 10 ∨ op = 11 ∨ op = 12 ∨ op = 13 ∨ op = 14 ∨ op = 15 ∨ op = 16 ∨ op = 17 ∨ op = 18 ∨ op = 19 := by omega
 rcases this with rfl | rfl | rfl | rfl | rfl | rfl | rfl | rfl | rfl | rfl | rfl | rfl | rfl
 ·exact w5 _
 ·exact w5 _
 ·exact w5 _
 ·exact w5 _
 ·exact w5 _
 ·exact w5 _
 ·exact .inr rfl
 ·exact .inl rfl
 ·obtain ⟨ha, _⟩ := hab (by omega)
  rcases ha with rfl | rfl
  ·exact .inr rfl
  ·exact .inl rfl
 ·obtain ⟨ha, hb⟩ := hab (by omega)
  rcases ha with rfl | rfl <;> rcases hb with rfl | rfl
  ·exact .inl rfl
  ·exact .inl rfl
  ·exact .inl rfl
  ·exact .inr rfl
 ·obtain ⟨ha, hb⟩ := hab (by omega)
  rcases ha with rfl | rfl <;> rcases hb with rfl | rfl
  ·exact .inl rfl
  ·exact .inr rfl
  ·exact .inr rfl
  ·exact .inr rfl
 ·obtain ⟨ha, hb⟩ := hab (by omega)
  rcases ha with rfl | rfl <;> rcases hb with rfl | rfl
  ·exact .inr rfl
  ·exact .inr rfl
  ·exact .inl rfl
  ·exact .inr rfl
 ·exact w5 _
theorem Pp (v : List Int) : ∀ (N : Nat) (e : Ex), e.sz ≤ N → (rt e).1 = 2 → ev v e = 0 ∨ ev v e = 1 := by
 intro N
 induction N with
 | zero => intro e h; have := jN e; omega
 | succ N ih =>
  intro e h h2
  rw [rt_eq] at h2
  obtain ⟨h7, h19⟩ := Ff _ _ _ _ _ _ _ h2
  rw [Hk]
  refine PA _ _ _ _ _ h7 h19 (fun h15 => Qc v (fun x hx => ?_))
  have := EU _ _ _ h15 h19 _ _ _ _ (by omega) h2 x hx
  exact ih x (by have := gP hx; omega) this.1
theorem Lu (op a len : Int) (i b t : Int) : kL op a (i == len) (b == len) (b + t == len) = vx op a len i b t := by
 unfold kL vx
 have h6 : decide (6 < op) = decide (7 ≤ op) := by
  by_cases h : 6 < op
  ·rw [decide_eq_true h, decide_eq_true (by omega)]
  ·rw [decide_eq_false h, decide_eq_false (by omega)]
 rw [h6]
 cases (decide (op ≤ 6) && (i == len))
 ·cases (decide (7 ≤ op) && decide (op ≤ 12) && (i == len))
  ·cases (op == 13)
   ·cases (op == 14)
    ·cases (decide (15 ≤ op) && decide (op ≤ 19) && (b == len)) <;> rfl
    ·rfl
   ·rfl
  ·rfl
 ·rfl
theorem yC (op a len : Int) : ∀ (r : List Ex) (m : Int) (i b t : Int), (∀ x ∈ r, ty x = rt x) → m + r.length = len → 0 ≤ i ∧ 0 ≤ b ∧ 0 ≤ t → i + b + t = m →
  tyA op a r (i == m) (b == m) (b + t == m) = rtA op a len r i b t
 | [], m, i, b, t, _, hm, h0, _ => by
  obtain rfl : m = len := by simpa using hm
  simp only [tyA, rtA]
  exact Lu op a m i b t
 | x :: r, m, i, b, t, hx, hm, h0, hs => by
  have e := hx x (by simp)
  have one := I5 x
  simp only [tyA, rtA, e] at one ⊢
  cases hf : ((rt x).2.1 != 0)
  ·simp only [cond_false]
   have ih := yC op a len r (m + 1)
   have hr : ∀ y ∈ r, ty y = rt y := fun y hy => hx y (List.mem_cons_of_mem _ hy)
   have hm' : m + 1 + (r.length : Int) = len := by simp only [List.length_cons] at hm; omega
   have q : ∀ z : Int, z ≤ m → ((z == m) && true) = (z + 1 == m + 1) := fun z _ => by
    rw [Bool.and_true, Bool.eq_iff_iff, beq_iff_eq, beq_iff_eq]; omega
   have q0 : ∀ z : Int, z ≤ m → ((z == m) && false) = (z == m + 1) := fun z hz => by
    rw [Bool.and_false]; symm; rw [beq_eq_false_iff_ne]; omega
   rcases one (by simpa using hf) with h1 | h1 | h1
   ·rw [h1]
    have := ih (i + 1) b t hr hm' ⟨by omega, by omega, by omega⟩ (by omega)
    rw [← q i (by omega), ← q0 b (by omega), ← q0 (b + t) (by omega)] at this
    exact this
   ·rw [h1]
    have := ih i (b + 1) t hr hm' ⟨by omega, by omega, by omega⟩ (by omega)
    rw [show b + 1 + t = b + t + 1 by omega, ← q0 i (by omega), ← q b (by omega), ← q (b + t) (by omega)] at this
    exact this
   ·rw [h1]
    have := ih i b (t + 1) hr hm' ⟨by omega, by omega, by omega⟩ (by omega)
    rw [show b + (t + 1) = b + t + 1 by omega, ← q0 i (by omega), ← q0 b (by omega), ← q (b + t) (by omega)] at this
    exact this
  ·rfl
theorem yt : ∀ (N : Nat) (e : Ex), e.sz ≤ N → ty e = rt e := by
 intro N
 induction N with
 | zero => intro e h; have := jN e; omega
 | succ N ih =>
  intro e h
  rw [yi, rt_eq]
  exact yC e.op e.at_ (e.l.length : Int) e.l 0 0 0 0 (fun x hx => ih x (by have := gP hx; omega)) (by omega) ⟨by omega, by omega, by omega⟩ rfl
theorem AR {vars : Int} {e : Ex} (h : dv vars e = true) : (1 ≤ e.op ∧ e.op ≤ 24) ∧ (e.l.length : Int) = fB e.op ∧ (e.op = 1 → 0 ≤ e.n ∧ e.n ≤ 1073741824) ∧ (e.op = 2 → 0 ≤ e.n ∧ e.n < vars) ∧ ∀ x ∈ e.l, dv vars x = true := by
 rw [yZ] at h
 simp only [kA, Bool.and_eq_true, Bool.not_eq_true', Bool.or_eq_false_iff, decide_eq_false_iff_not, bne_eq_false_iff_eq, Bool.and_eq_false_imp, beq_iff_eq] at h
 obtain ⟨⟨⟨⟨h1, h2⟩, h3⟩, ⟨h4, h5⟩, _⟩, h6⟩ := h
 refine ⟨by omega, h3, fun h => by have := h4 h; omega, fun h => by have := h5 h; omega, ?_⟩
 have : ∀ (l : List Ex), jK vars l = true → ∀ x ∈ l, dv vars x = true := fun l => by
  induction l with
  | nil => intro _ x hx; cases hx
  | cons y r ih =>
   intro h x hx
   simp only [jK, Bool.and_eq_true] at h
   rcases List.mem_cons.1 hx with rfl | hx
   ·exact h.1
   ·exact ih h.2 x hx
 exact this _ h6
end Go.Proofs.YtpnogcmollnjeaaGreatDoor
namespace Go.Proofs.YtpnogcmollnjeaaGreatDoor
theorem AE (k : Ex → Option (Int × Int × Int)) (e : Ex) (hk : ∀ x ∈ e.l, k x = some (ty x)) (hl : e.l.length < 4611686018427387904) :
  ∀ (r pre : List Ex), e.l = pre ++ r → ∀ (M : Nat) (i b t : Bool), r.length < M → al (j7 k e) M (i, b, t, (pre.length : Int)) = some (tyA e.op e.at_ r i b t)
 | [], pre, h, M, i, b, t, hM => by
  obtain ⟨m, rfl⟩ : ∃ m, M = m + 1 := ⟨M - 1, by simp at hM; omega⟩
  rw [ao]
  simp only [j7, Cl h, cond_false, aN, pY, tyA, kL]
  generalize decide (e.op ≤ 6) = c1
  generalize decide (6 < e.op) = c2
  generalize decide (e.op ≤ 12) = c3
  generalize (e.op == 13) = c4
  generalize (e.op == 14) = c5
  generalize decide (15 ≤ e.op) = c6
  generalize decide (e.op ≤ 19) = c7
  cases c1 <;> cases i <;> cases c2 <;> cases c3 <;> cases c4 <;> cases c5 <;> cases c6 <;> cases c7 <;> cases b <;> cases t <;> rfl
 | x :: r, pre, h, M, i, b, t, hM => by
  obtain ⟨m, rfl⟩ : ∃ m, M = m + 1 := ⟨M - 1, by omega⟩
  rw [ao]
  have hx : k x = some (ty x) := hk x (by rw [h]; simp)
  have hlen : pre.length < 4611686018427387904 := by rw [h] at hl; simp at hl; omega
  have ih := AE k e hk hl r (pre ++ [x]) (by rw [h]; simp) m (i && (ty x).1 == 1) (b && (ty x).1 == 2) (t && (ty x).1 != 1) (by simp at hM; omega)
  rw [show ((pre ++ [x]).length : Int) = ((pre.length + 1 : Nat) : Int) by simp] at ih
  simp only [j7, BN h, cond_true, sy h, ai, hx, aN, rV hlen, tyA]
  cases (ty x).2.1 != 0
  ·exact ih
  ·rfl
theorem IW : ∀ (N : Nat) (e : Ex), e.sz ≤ N → e.sz < 4611686018427387904 → al (fun k s => nI k s) N e = some (ty e) := by
 intro N
 induction N with
 | zero => intro e h; have := jN e; omega
 | succ N ih =>
  intro e h hb
  rw [ao]
  show al (j7 _ e) aq (true, true, true, 0) = _
  have hl := sF e
  have := AE (al (fun k s => nI k s) N) e (fun x hx => ih x (by have := gP hx; omega) (by have := gP hx; omega)) (by omega) e.l [] rfl aq true true true (by show e.l.length < 2 ^ 64; omega)
  rw [yi]
  exact this
theorem NZ (e : Ex) (h : e.sz < 4611686018427387904) : qS e = some (ty e) := IW aq e (by show e.sz ≤ 2 ^ 64; omega) h
end Go.Proofs.YtpnogcmollnjeaaGreatDoor
