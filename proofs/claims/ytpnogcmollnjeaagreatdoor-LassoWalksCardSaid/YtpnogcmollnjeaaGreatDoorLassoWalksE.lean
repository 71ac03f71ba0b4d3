/-
  Own texts for the statement LassoWalks, cut down to what it needs: Model, KLay, KIto, KGrow, KGr, Den, TrA. (cut and joined by a program)
-/
import Derived.Test.YtpnogcmollnjeaaGreatDoorLassoWalksA
import Derived.Test.YtpnogcmollnjeaaGreatDoorLassoWalksB
import Derived.Test.YtpnogcmollnjeaaGreatDoorLassoWalksC
import Derived.Test.YtpnogcmollnjeaaGreatDoorLassoWalksD
import Derived.Shelf.Strconv.Itoa3
import Derived.Ground.NamesProg
import Derived.Test.YtpnogcmollnjeaaGreatDoorProg
import Derived.Shelf.Spec.SlicesGrow
import Derived.KernelRfl
namespace Go.Proofs.YtpnogcmollnjeaaGreatDoor
abbrev Q1 := ((List Str) × (List (Int × Int)) × (List Int) × (List Str) × (List (Int × Ex × (List (Int × Ex)))))
abbrev Q2 := (List (Int × Str × Int × Int))
abbrev Q3 := (List (Int × Ex × (List (Int × Ex))))
abbrev Q4 := (List Int)
abbrev Q5 := (List Bool)
abbrev Q6 := (Ex × Int × Int × Int)
abbrev Q7 := (List Str)
abbrev Q8 := (List (Int × Int))
abbrev Q9 := (Int × Int × Int)
abbrev Q10 := (Int × Int × Q2 × Int × Q7 × Int × Int)
abbrev Q11 := (Int × Str × Int × Int)
abbrev Q12 := (Int × Q3 × Int × Int)
abbrev Q13 := ((List Q4) × Int)
abbrev Q14 := (Int × Int × Int × (List (Int × Ex)) × Bool)
abbrev Q15 := (Int × Int × Int × Int)
abbrev Q16 := (Q2 × Int × Int)
abbrev Q17 := (List (Int × Ex))
abbrev Q18 := (Int × Q7 × Q8 × Q4 × Q7 × Q3 × Int × Int)
abbrev Q19 := (Option (List (Str × Bool)))
abbrev Q20 := (Q1 × Int × Int)
abbrev Q21 := (Q4 × Int)
abbrev Q22 := ((List Q4) × (List Q4))
abbrev Q23 := (Q5 × Int)
abbrev Q24 := (Int × Ex × Q17)
noncomputable section
def nk : List Int := [1, 10, 100, 1000, 10000, 100000, 1000000, 10000000, 100000000, 1000000000, 10000000000, 100000000000, 1000000000000, 10000000000000, 100000000000000, 1000000000000000, 10000000000000000, 100000000000000000, 1000000000000000000, 10000000000000000000]
def A7 (n : Int) : Option Str := chk (ze n) (some (Lib.itoa n))
def xy (n : Int) : Option (List Q4) := chk (decide (0 ≤ n) && az (Int.toNat n) 24) (some [])
def cV (c : Int) : Option Int := ab (c == 9) fun b3 => ab (c == 10) fun b5 => ab (b3 || b5) fun b7 => ab (c == 13) fun b9 => ab (b7 || b9) fun b11 => ab (c == 32) fun b13 => ab (b11 || b13) fun b15 => bif b15 then ( some 0) else ( ab (decide (97 ≤ c)) fun b18 => ab (decide (c ≤ 122)) fun b20 => ab (b18 && b20) fun b22 => ab (decide (65 ≤ c)) fun b24 => ab (decide (c ≤ 90)) fun b26 => ab (b24 && b26) fun b28 => ab (b22 || b28) fun b30 => ab (c == 95) fun b32 => ab (b30 || b32) fun b34 => bif b34 then ( some 1) else ( ab (decide (48 ≤ c)) fun b37 => ab (decide (c ≤ 57)) fun b39 => ab (b37 && b39) fun b41 => bif b41 then ( some 2) else ( some 3)))
def je : Option Q7 := some ([[60, 45, 62], [45, 62], [61, 61], [33, 61], [60, 61], [62, 61], [60], [62], [61], [43], [45], [42], [40], [41], [123], [125], [59], [44], [58], [38], [124], [33]] : List Str)
def dc (text : Str) (out9 : Q2) (again13 : (Q2 × Int) → Option Q16) (again24 : Int → Option Q16) (i23 : Int) : Option Q16 := ab (decide (i23 < (List.length text : Int))) fun b25 => oO b25 (inB i23 (List.length text)) <| ab ((gH text i23) != 10) fun b28 => ab (b25 && b28) fun b30 => bif b30 then ( again24 (IntKind.i64.wrap (i23 + 1))) else ( again13 (out9, i23))
def cd (text : Str) (out9 : Q2) (i12 : Int) (again13 : (Q2 × Int) → Option Q16) (again36 : Int → Option Q16) (i35 : Int) : Option Q16 := ab (decide (i35 < (List.length text : Int))) fun b37 => oO b37 (inB i35 (List.length text)) <| aT b37 default (cV (gH text i35)) fun r40 => ab (r40 == 1) fun b46 => oO (b37 && !b46) (inB i35 (List.length text)) <| aT (b37 && !b46) default (cV (gH text i35)) fun r49 => ab (r49 == 2) fun b55 => ab (b46 || b55) fun b57 => ab (b37 && b57) fun b59 => bif b59 then ( again36 (IntKind.i64.wrap (i35 + 1))) else ( bif (decide (32 < (IntKind.i64.wrap (i35 - i12)))) then ( some ([], 9, i12)) else ( chk (eK i12 i35 (List.length text)) <| chk (az (List.length out9 + List.length ([(1, (cut text i12 i35), 0, i12)] : List Q11)) 40) <| again13 ((out9 ++ ([(1, (cut text i12 i35), 0, i12)] : List Q11)), i35)))
def cf (text : Str) (out9 : Q2) (i12 : Int) (again13 : (Q2 × Int) → Option Q16) (again74 : (Int × Int) → Option Q16) : Int × Int → Option Q16 := fun ⟨i72, n73⟩ => ab (decide (i72 < (List.length text : Int))) fun b75 => oO b75 (inB i72 (List.length text)) <| aT b75 default (cV (gH text i72)) fun r78 => ab (r78 == 2) fun b84 => ab (b75 && b84) fun b86 => bif b86 then ( bif (decide (n73 ≤ 1073741824)) then ( chk (inB i72 (List.length text)) <| again74 ((IntKind.i64.wrap (i72 + 1)), (IntKind.i64.wrap ((IntKind.i64.wrap ((IntKind.i64.wrap (10 * n73)) + (IntKind.i64.wrap (gH text i72)))) - 48)))) else ( again74 ((IntKind.i64.wrap (i72 + 1)), n73))) else ( bif (decide (1073741824 < n73)) then ( some ([], 9, i12)) else ( chk (eK i12 i72 (List.length text)) <| chk (az (List.length out9 + List.length ([(2, (cut text i12 i72), n73, i12)] : List Q11)) 40) <| again13 ((out9 ++ ([(2, (cut text i12 i72), n73, i12)] : List Q11)), i72)))
def aQ (text : Str) (out9 : Q2) (i12 : Int) (again13 : (Q2 × Int) → Option Q16) (r99 : Q7) (again107 : (Str × Int) → Option Q16) : Str × Int → Option Q16 := fun ⟨s105, j106⟩ => ab (decide (j106 < (List.length r99 : Int))) fun b108 => ab (s105 == []) fun b110 => ab (b108 && b110) fun b112 => bif b112 then ( (idx r99 j106).bind fun e117 => ab (decide ((List.length e117 : Int) ≤ (IntKind.i64.wrap ((List.length text : Int) - i12)))) fun b119 => aT b119 [] (idx r99 j106) fun e121 => oO b119 (eK i12 (IntKind.i64.wrap (i12 + (List.length e121 : Int))) (List.length text)) <| aT b119 [] (idx r99 j106) fun e124 => ab ((cut text i12 (IntKind.i64.wrap (i12 + (List.length e121 : Int)))) == e124) fun b126 => ab (b119 && b126) fun b128 => bif b128 then ( (idx r99 j106).bind fun e131 => again107 (e131, (IntKind.i64.wrap (j106 + 1)))) else ( again107 (s105, (IntKind.i64.wrap (j106 + 1))))) else ( bif (s105 == []) then ( some ([], 2, i12)) else ( chk (az (List.length out9 + List.length ([(3, s105, 0, i12)] : List Q11)) 40) <| again13 ((out9 ++ ([(3, s105, 0, i12)] : List Q11)), (IntKind.i64.wrap (i12 + (List.length s105 : Int))))))
def ey (text : Str) (again13 : (Q2 × Int) → Option Q16) : Q2 × Int → Option Q16 := fun ⟨out9, i12⟩ => bif (decide (i12 < (List.length text : Int))) then ( chk (inB i12 (List.length text)) <| (cV (gH text i12)).bind fun r16 => bif (r16 == 0) then ( again13 (out9, (IntKind.i64.wrap (i12 + 1)))) else ( chk (inB i12 (List.length text)) <| bif ((gH text i12) == 35) then ( an (dc text out9 again13) au i12) else ( bif (r16 == 1) then ( an (cd text out9 i12 again13) au i12) else ( bif (r16 == 2) then ( an (cf text out9 i12 again13) au (i12, 0)) else ( (je).bind fun r99 => an (aQ text out9 i12 again13 r99) au ([], 0)))))) else ( chk (az (List.length out9 + List.length ([(4, [], 0, (List.length text : Int))] : List Q11)) 40) <| some ((out9 ++ ([(4, [], 0, (List.length text : Int))] : List Q11)), 0, 0))
def cZ (text : Str) : Option Q16 := bif (decide (65536 < (List.length text : Int))) then ( some ([], 9, 0)) else ( an (ey text) au ([], 0))
def aW (kind : Int) (text : Str) (l : Q2) (at_ : Int) (_Names : Q7) (_Schema : Q8) (_Init : Q4) (_Procs : Q7) (_Cmd : Q3) (bad : Int) (_place : Int) : Option Bool := ab (bad == 0) fun b5 => aT b5 (0, [], 0, 0) (idx l at_) fun e7 => ab (e7.1 == kind) fun b9 => ab (b5 && b9) fun b11 => aT b11 (0, [], 0, 0) (idx l at_) fun e13 => ab (e13.2.1 == text) fun b15 => ab (b11 && b15) fun b17 => some b17
def lz (t4 : Bool) : Option Bool := bif t4 then ( some true) else ( some false)
def ed (name : Str) : Option Bool := ab (fun (s7 : Bool) => lz s7) fun kk6 => bif (name == [116, 114, 117, 101]) then ( kk6 (name == [116, 114, 117, 101])) else ( bif (name == [102, 97, 108, 115, 101]) then ( kk6 (name == [102, 97, 108, 115, 101])) else ( bif (name == [88]) then ( kk6 (name == [88])) else ( bif (name == [70]) then ( kk6 (name == [70])) else ( bif (name == [71]) then ( kk6 (name == [71])) else ( bif (name == [85]) then ( kk6 (name == [85])) else ( bif (name == [82]) then ( kk6 (name == [82])) else ( bif (name == [118, 97, 114]) then ( kk6 (name == [118, 97, 114])) else ( kk6 (name == [112, 114, 111, 99])))))))))
def aq (bad : Int) (place : Int) (_l : Q2) (_at_ : Int) (_Names : Q7) (_Schema : Q8) (_Init : Q4) (_Procs : Q7) (_Cmd : Q3) (bad19 : Int) (place20 : Int) : Option (Int × Int) := bif (bad19 == 0) then ( some (bad, place)) else ( some (bad19, place20))
def cK (l : Q7) (name : Str) (again5 : Int → Option Int) (i4 : Int) : Option Int := bif (decide (i4 < (List.length l : Int))) then ( (idx l i4).bind fun e7 => bif (e7 == name) then ( some i4) else ( again5 (IntKind.i64.wrap (i4 + 1)))) else ( some (-1))
def bn (l : Q7) (name : Str) : Option Int := an (cK l name) au 0
def df (full : Bool) (l : Q2) (at_ : Int) (Names : Q7) (Schema : Q8) (Init : Q4) (Procs : Q7) (Cmd : Q3) (bad : Int) (place : Int) : Option (Str × Int × Int × Int) := (idx l at_).bind fun e8 => (ed e8.2.1).bind fun r13 => bif (e8.1 != 1) then ( (aq 2 e8.2.2.2 l at_ Names Schema Init Procs Cmd bad place).bind fun r17 => some (e8.2.1, at_, r17.1, r17.2)) else ( aT (!r13) default (bn Names e8.2.1) fun r22 => ab (decide (0 ≤ r22)) fun b28 => ab (r13 || b28) fun b30 => aT (!b30) default (bn Procs e8.2.1) fun r32 => ab (decide (0 ≤ r32)) fun b38 => ab (b30 || b38) fun b40 => bif b40 then ( (aq 3 e8.2.2.2 l at_ Names Schema Init Procs Cmd bad place).bind fun r43 => some (e8.2.1, at_, r43.1, r43.2)) else ( bif full then ( (aq 9 e8.2.2.2 l at_ Names Schema Init Procs Cmd bad place).bind fun r47 => some (e8.2.1, at_, r47.1, r47.2)) else ( bif (bad == 0) then ( some (e8.2.1, (IntKind.i64.wrap (at_ + 1)), bad, place)) else ( some (e8.2.1, at_, bad, place)))))
def aC (l : Q2) (at_ : Int) (_Names : Q7) (_Schema : Q8) (_Init : Q4) (_Procs : Q7) (_Cmd : Q3) (_bad : Int) (_place : Int) : Option Int := (idx l at_).bind fun e5 => some e5.2.2.2
def aR (text : Str) (l : Q2) (at_ : Int) (Names : Q7) (Schema : Q8) (Init : Q4) (Procs : Q7) (Cmd : Q3) (bad : Int) (place : Int) : Option Q9 := (aW 3 text l at_ Names Schema Init Procs Cmd bad place).bind fun r5 => bif (!r5) then ( (aC l at_ Names Schema Init Procs Cmd bad place).bind fun r9 => (aq 2 r9 l at_ Names Schema Init Procs Cmd bad place).bind fun r12 => some (at_, r12.1, r12.2)) else ( some ((IntKind.i64.wrap (at_ + 1)), bad, place))
def fH (strength : Int) : Option Bool := ab (strength == 1) fun b3 => ab (strength == 2) fun b5 => ab (b3 || b5) fun b7 => ab (strength == 5) fun b9 => ab (b7 || b9) fun b11 => ab (strength == 6) fun b13 => ab (b11 || b13) fun b15 => ab (strength == 10) fun b17 => ab (b15 || b17) fun b19 => some b19
def aL (bad : Int) (l : Q2) (at_ : Int) (_names : Q7) (bad7 : Int) (place : Int) : Option (Ex × Int × Int) := bif (bad7 == 0) then ( (idx l at_).bind fun e13 => some ((Ex.mk 0 0 0 []), bad, e13.2.2.2)) else ( some ((Ex.mk 0 0 0 []), bad7, place))
def bY (l : Q2) (at_ : Int) (names : Q7) (bad : Int) (place : Int) (e12 : Q11) (again50 : Int → Option Q6) (i49 : Int) : Option Q6 := bif (decide (i49 < (List.length names : Int))) then ( (idx names i49).bind fun e54 => bif (e54 == e12.2.1) then ( some ((Ex.mk 2 i49 e12.2.2.2 []), (IntKind.i64.wrap (at_ + 1)), bad, place)) else ( again50 (IntKind.i64.wrap (i49 + 1)))) else ( (aL 3 l at_ names bad place).bind fun r59 => some (r59.1, at_, r59.2.1, r59.2.2))
def bV (ah : Q10 → Option Q6) (deep : Int) (l : Q2) (at_ : Int) (names : Q7) (bad : Int) (place : Int) : Option Q6 := (idx l at_).bind fun e12 => bif (e12.1 == 2) then ( some ((Ex.mk 1 e12.2.2.1 e12.2.2.2 []), (IntKind.i64.wrap (at_ + 1)), bad, place)) else ( ab (e12.1 == 1) fun b20 => ab (e12.2.1 == [116, 114, 117, 101]) fun b22 => ab (b20 && b22) fun b24 => bif b24 then ( some ((Ex.mk 13 0 e12.2.2.2 []), (IntKind.i64.wrap (at_ + 1)), bad, place)) else ( ab (e12.1 == 1) fun b29 => ab (e12.2.1 == [102, 97, 108, 115, 101]) fun b31 => ab (b29 && b31) fun b33 => bif b33 then ( some ((Ex.mk 14 0 e12.2.2.2 []), (IntKind.i64.wrap (at_ + 1)), bad, place)) else ( (ed e12.2.1).bind fun r38 => ab (e12.1 == 1) fun b41 => ab (!r38) fun b43 => ab (b41 && b43) fun b45 => bif b45 then ( an (bY l at_ names bad place e12) au 0) else ( ab (e12.1 != 3) fun b65 => ab (e12.2.1 != [40]) fun b67 => ab (b65 || b67) fun b69 => bif b69 then ( (aL 2 l at_ names bad place).bind fun r72 => some (r72.1, at_, r72.2.1, r72.2.2)) else ( (ah (1, deep, l, (IntKind.i64.wrap (at_ + 1)), names, bad, place)).bind fun r79 => bif (r79.2.2.1 != 0) then ( some ((Ex.mk 0 0 0 []), r79.2.1, r79.2.2.1, r79.2.2.2)) else ( (idx l r79.2.1).bind fun e91 => ab (e91.1 != 3) fun b93 => aT (!b93) (0, [], 0, 0) (idx l r79.2.1) fun e95 => ab (e95.2.1 != [41]) fun b97 => ab (b93 || b97) fun b99 => bif b99 then ( (aL 2 l r79.2.1 names r79.2.2.1 r79.2.2.2).bind fun r102 => some (r102.1, r79.2.1, r102.2.1, r102.2.2)) else ( some (r79.1, (IntKind.i64.wrap (r79.2.1 + 1)), r79.2.2.1, r79.2.2.2))))))))
def aD (t : Q11) (again28 : Int → Option Int) (i27 : Int) : Option Int := bif (decide (i27 < 6)) then ( (idx ([[61, 61], [33, 61], [60], [60, 61], [62], [62, 61]] : List Str) i27).bind fun e30 => bif (t.2.1 == e30) then ( some (IntKind.i64.wrap (7 + i27))) else ( again28 (IntKind.i64.wrap (i27 + 1)))) else ( some 0)
def bk (t : Q11) (strength : Int) : Option Int := ab (t.1 != 2) fun b5 => ab (t.1 != 4) fun b7 => ab (b5 && b7) fun b9 => bif b9 then ( bif (strength == 1) then ( bif (t.2.1 == [60, 45, 62]) then ( some 19) else ( some 0)) else ( bif (strength == 2) then ( bif (t.2.1 == [45, 62]) then ( some 18) else ( some 0)) else ( bif (strength == 3) then ( bif (t.2.1 == [124]) then ( some 17) else ( some 0)) else ( bif (strength == 4) then ( bif (t.2.1 == [38]) then ( some 16) else ( some 0)) else ( bif (strength == 5) then ( bif (t.2.1 == [85]) then ( some 23) else ( bif (t.2.1 == [82]) then ( some 24) else ( some 0))) else ( bif (strength == 7) then ( an (aD t) au 0) else ( bif (strength == 8) then ( bif (t.2.1 == [43]) then ( some 3) else ( bif (t.2.1 == [45]) then ( some 4) else ( some 0))) else ( bif (strength == 9) then ( bif (t.2.1 == [42]) then ( some 5) else ( some 0)) else ( some 0))))))))) else ( some 0)
def er (ah : Q10 → Option Q6) (l : Q2) (at_ : Int) (names : Q7) (bad : Int) (place : Int) (deep16 : Int) (e30 : Q11) (k43 : Int) : Option Q6 := bif (k43 == 0) then ( (ah (7, deep16, l, at_, names, bad, place)).bind fun r45 => some (r45.1, r45.2.1, r45.2.2.1, r45.2.2.2)) else ( (ah (6, deep16, l, (IntKind.i64.wrap (at_ + 1)), names, bad, place)).bind fun r52 => some ((Ex.mk k43 0 e30.2.2.2 ([r52.1] : List Ex)), r52.2.1, r52.2.2.1, r52.2.2.2))
def ic (ah : Q10 → Option Q6) (l : Q2) (at_ : Int) (names : Q7) (bad : Int) (place : Int) (deep16 : Int) (e30 : Q11) (k41 : Int) : Option Q6 := ab (fun (s64 : Int) => er ah l at_ names bad place deep16 e30 s64) fun kk63 => ab (e30.1 == 1) fun b65 => ab (e30.2.1 == [71]) fun b67 => ab (b65 && b67) fun b69 => bif b69 then ( kk63 22) else ( kk63 k41)
def ia (ah : Q10 → Option Q6) (l : Q2) (at_ : Int) (names : Q7) (bad : Int) (place : Int) (deep16 : Int) (e30 : Q11) (k39 : Int) : Option Q6 := ab (fun (s73 : Int) => ic ah l at_ names bad place deep16 e30 s73) fun kk72 => ab (e30.1 == 1) fun b74 => ab (e30.2.1 == [70]) fun b76 => ab (b74 && b76) fun b78 => bif b78 then ( kk72 21) else ( kk72 k39)
def bB (ah : Q10 → Option Q6) (l : Q2) (at_ : Int) (names : Q7) (bad : Int) (place : Int) (deep16 : Int) (e30 : Q11) (k37 : Int) : Option Q6 := ab (fun (s82 : Int) => ia ah l at_ names bad place deep16 e30 s82) fun kk81 => ab (e30.1 == 1) fun b83 => ab (e30.2.1 == [88]) fun b85 => ab (b83 && b85) fun b87 => bif b87 then ( kk81 20) else ( kk81 k37)
def bC (ah : Q10 → Option Q6) (strength : Int) (l : Q2) (names : Q7) (deep16 : Int) (again143 : (Int × Int × Int × Int × Int × Int × (List Ex)) → Option Q6) : Int × Int × Int × Int × Int × Int × (List Ex) → Option Q6 := fun ⟨c134, c135, c136, c137, c138, c139, c140⟩ => bif (c135 == 0) then ( (idx l c134).bind fun e147 => (bk e147 strength).bind fun r152 => bif (r152 == 0) then ( some ((Ex.mk c137 c138 c139 c140), c134, c135, c136)) else ( ab (strength == 1) fun b158 => ab (strength == 2) fun b160 => ab (b158 || b160) fun b162 => ab (strength == 5) fun b164 => ab (b162 || b164) fun b166 => bif b166 then ( (ah (strength, deep16, l, (IntKind.i64.wrap (c134 + 1)), names, c135, c136)).bind fun r169 => some ((Ex.mk r152 0 e147.2.2.2 ([(Ex.mk c137 c138 c139 c140), r169.1] : List Ex)), r169.2.1, r169.2.2.1, r169.2.2.2)) else ( (ah ((IntKind.i64.wrap (strength + 1)), deep16, l, (IntKind.i64.wrap (c134 + 1)), names, c135, c136)).bind fun r180 => bif (strength == 7) then ( some ((Ex.mk r152 0 e147.2.2.2 ([(Ex.mk c137 c138 c139 c140), r180.1] : List Ex)), r180.2.1, r180.2.2.1, r180.2.2.2)) else ( again143 (r180.2.1, r180.2.2.1, r180.2.2.2, r152, 0, e147.2.2.2, ([(Ex.mk c137 c138 c139 c140), r180.1] : List Ex)))))) else ( some ((Ex.mk c137 c138 c139 c140), c134, c135, c136))
def ew (ah : Q10 → Option Q6) (strength : Int) (l : Q2) (at_ : Int) (names : Q7) (bad : Int) (place : Int) (r12 : Bool) (deep16 : Int) : Option Q6 := ab (decide (320 < deep16)) fun b17 => ab (r12 && b17) fun b19 => bif b19 then ( (aL 9 l at_ names bad place).bind fun r22 => some (r22.1, at_, r22.2.1, r22.2.2)) else ( (idx l at_).bind fun e30 => bif (strength == 6) then ( ab (fun (s91 : Int) => bB ah l at_ names bad place deep16 e30 s91) fun kk90 => ab (e30.1 == 3) fun b92 => ab (e30.2.1 == [33]) fun b94 => ab (b92 && b94) fun b96 => bif b96 then ( kk90 15) else ( kk90 0)) else ( bif (strength == 10) then ( ab (e30.1 != 3) fun b100 => ab (e30.2.1 != [45]) fun b102 => ab (b100 || b102) fun b104 => bif b104 then ( (bV ah deep16 l at_ names bad place).bind fun r107 => some (r107.1, r107.2.1, r107.2.2.1, r107.2.2.2)) else ( (ah (10, deep16, l, (IntKind.i64.wrap (at_ + 1)), names, bad, place)).bind fun r114 => some ((Ex.mk 6 0 e30.2.2.2 ([r114.1] : List Ex)), r114.2.1, r114.2.2.1, r114.2.2.2))) else ( (ah ((IntKind.i64.wrap (strength + 1)), deep16, l, at_, names, bad, place)).bind fun r125 => an (bC ah strength l names deep16) au (r125.2.1, r125.2.2.1, r125.2.2.2, r125.1.op, r125.1.n, r125.1.at_, r125.1.l))))
def bF (ah : Q10 → Option Q6) (strength : Int) (deep : Int) (l : Q2) (at_ : Int) (names : Q7) (bad : Int) (place : Int) : Option Q6 := bif (bad != 0) then ( some ((Ex.mk 0 0 0 []), at_, bad, place)) else ( (fH strength).bind fun r12 => ab (fun (s195 : Int) => ew ah strength l at_ names bad place r12 s195) fun kk194 => bif r12 then ( kk194 (IntKind.i64.wrap (deep + 1))) else ( kk194 deep))
def dz (strength : Int) (deep : Int) (l : Q2) (at_ : Int) (names : Q7) (bad : Int) (place : Int) : Option Q6 :=
 an (fun k (s : Q10) => bF k s.1 s.2.1 s.2.2.1 s.2.2.2.1 s.2.2.2.2.1 s.2.2.2.2.2.1 s.2.2.2.2.2.2) au (strength, deep, l, at_, names, bad, place)
def cE (l : Q2) (at_ : Int) (names : Q7) : Option Q6 := (dz 1 0 l at_ names 0 0).bind fun r14 => bif (r14.2.2.1 != 0) then ( some ((Ex.mk 0 0 0 []), 0, r14.2.2.1, r14.2.2.2)) else ( some (r14.1, r14.2.1, 0, 0))
def kI (times10 : Int) (i11 : Int) (again12 : Q15 → Option Q9) (r20 : Q9) (ints25 : Int) (bools27 : Int) : Option Q9 := bif (r20.1 == 3) then ( again12 (ints25, bools27, (IntKind.i64.wrap (times10 + 1)), (IntKind.i64.wrap (i11 + 1)))) else ( again12 (ints25, bools27, times10, (IntKind.i64.wrap (i11 + 1))))
def iz (bools9 : Int) (times10 : Int) (i11 : Int) (again12 : Q15 → Option Q9) (r20 : Q9) (ints25 : Int) : Option Q9 := ab (fun (s30 : Int) => kI times10 i11 again12 r20 ints25 s30) fun kk29 => bif (r20.1 == 2) then ( kk29 (IntKind.i64.wrap (bools9 + 1))) else ( kk29 bools9)
def cM (ck : Ex → Option Q9) (e : Ex) (again12 : Q15 → Option Q9) : Int × Int × Int × Int → Option Q9 := fun ⟨ints8, bools9, times10, i11⟩ => bif (decide (i11 < (List.length e.l : Int))) then ( (idx e.l i11).bind fun e14 => (ck e14).bind fun r20 => bif (r20.2.1 != 0) then ( some (0, r20.2.1, r20.2.2)) else ( ab (fun (s33 : Int) => iz bools9 times10 i11 again12 r20 s33) fun kk32 => bif (r20.1 == 1) then ( kk32 (IntKind.i64.wrap (ints8 + 1))) else ( kk32 ints8))) else ( ab (decide (e.op ≤ 6)) fun b35 => ab (ints8 == (List.length e.l : Int)) fun b37 => ab (b35 && b37) fun b39 => bif b39 then ( some (1, 0, 0)) else ( ab (decide (7 ≤ e.op)) fun b42 => ab (decide (e.op ≤ 12)) fun b44 => ab (b42 && b44) fun b46 => ab (ints8 == (List.length e.l : Int)) fun b48 => ab (b46 && b48) fun b50 => ab (e.op == 13) fun b52 => ab (b50 || b52) fun b54 => ab (e.op == 14) fun b56 => ab (b54 || b56) fun b58 => bif b58 then ( some (2, 0, 0)) else ( ab (decide (15 ≤ e.op)) fun b61 => ab (decide (e.op ≤ 19)) fun b63 => ab (b61 && b63) fun b65 => ab (bools9 == (List.length e.l : Int)) fun b67 => ab (b65 && b67) fun b69 => bif b69 then ( some (2, 0, 0)) else ( ab (decide (15 ≤ e.op)) fun b72 => ab ((IntKind.i64.wrap (bools9 + times10)) == (List.length e.l : Int)) fun b74 => ab (b72 && b74) fun b76 => bif b76 then ( some (3, 0, 0)) else ( some (0, 4, e.at_))))))
def ea (ck : Ex → Option Q9) (e : Ex) : Option Q9 := an (cM ck e) au (0, 0, 0, 0)
def dD (e : Ex) : Option Q9 :=
 an (fun k (s : Ex) => ea k s) au e
def o8 (times10 : Int) (i11 : Int) (again12 : Q15 → Option Q9) (r20 : Q9) (ints25 : Int) (bools27 : Int) : Option Q9 := bif (r20.1 == 3) then ( again12 (ints25, bools27, (IntKind.i64.wrap (times10 + 1)), (IntKind.i64.wrap (i11 + 1)))) else ( again12 (ints25, bools27, times10, (IntKind.i64.wrap (i11 + 1))))
def jz (bools9 : Int) (times10 : Int) (i11 : Int) (again12 : Q15 → Option Q9) (r20 : Q9) (ints25 : Int) : Option Q9 := ab (fun (s30 : Int) => o8 times10 i11 again12 r20 ints25 s30) fun kk29 => bif (r20.1 == 2) then ( kk29 (IntKind.i64.wrap (bools9 + 1))) else ( kk29 bools9)
def oR (e : Ex) (again12 : Q15 → Option Q9) : Int × Int × Int × Int → Option Q9 := fun ⟨ints8, bools9, times10, i11⟩ => bif (decide (i11 < (List.length e.l : Int))) then ( (idx e.l i11).bind fun e14 => (dD e14).bind fun r20 => bif (r20.2.1 != 0) then ( some (0, r20.2.1, r20.2.2)) else ( ab (fun (s33 : Int) => jz bools9 times10 i11 again12 r20 s33) fun kk32 => bif (r20.1 == 1) then ( kk32 (IntKind.i64.wrap (ints8 + 1))) else ( kk32 ints8))) else ( ab (decide (e.op ≤ 6)) fun b35 => ab (ints8 == (List.length e.l : Int)) fun b37 => ab (b35 && b37) fun b39 => bif b39 then ( some (1, 0, 0)) else ( ab (decide (7 ≤ e.op)) fun b42 => ab (decide (e.op ≤ 12)) fun b44 => ab (b42 && b44) fun b46 => ab (ints8 == (List.length e.l : Int)) fun b48 => ab (b46 && b48) fun b50 => ab (e.op == 13) fun b52 => ab (b50 || b52) fun b54 => ab (e.op == 14) fun b56 => ab (b54 || b56) fun b58 => bif b58 then ( some (2, 0, 0)) else ( ab (decide (15 ≤ e.op)) fun b61 => ab (decide (e.op ≤ 19)) fun b63 => ab (b61 && b63) fun b65 => ab (bools9 == (List.length e.l : Int)) fun b67 => ab (b65 && b67) fun b69 => bif b69 then ( some (2, 0, 0)) else ( ab (decide (15 ≤ e.op)) fun b72 => ab ((IntKind.i64.wrap (bools9 + times10)) == (List.length e.l : Int)) fun b74 => ab (b72 && b74) fun b76 => bif b76 then ( some (3, 0, 0)) else ( some (0, 4, e.at_))))))
def dH (e : Ex) : Option Q9 := an (oR e) au (0, 0, 0, 0)
def gb (r14 : Q6) (c32 : Int) (c33 : Int) : Option Q6 := some (r14.1, r14.2.1, c32, c33)
def bf (want : Int) (l : Q2) (at_ : Int) (Names : Q7) (Schema : Q8) (Init : Q4) (Procs : Q7) (Cmd : Q3) (bad : Int) (place : Int) : Option Q6 := bif (bad != 0) then ( some ((Ex.mk 0 0 0 []), at_, bad, place)) else ( ( (cE l at_ Names).bind fun r14 => bif (r14.2.2.1 != 0) then ( (aq r14.2.2.1 r14.2.2.2 l at_ Names Schema Init Procs Cmd bad place).bind fun r24 => some ((Ex.mk 0 0 0 []), at_, r24.1, r24.2)) else ( (dH r14.1).bind fun r28 => ab (fun (s37 : Int × Int) => gb r14 s37.1 s37.2) fun kk36 => bif (r28.2.1 != 0) then ( (aq r28.2.1 r28.2.2 l at_ Names Schema Init Procs Cmd bad place).bind fun r39 => kk36 (r39.1, r39.2)) else ( bif (r28.1 != want) then ( (aq 4 r14.1.at_ l at_ Names Schema Init Procs Cmd bad place).bind fun r43 => kk36 (r43.1, r43.2)) else ( kk36 (bad, place))))))
def cQ (l : Q2) (Names : Q7) (Schema : Q8) (Init : Q4) (Procs : Q7) (Cmd : Q3) (l28 : Q17) (again32 : Q14 → Option Q12) (r47 : Int) (c66 : Int) (c67 : Int) (c69 : Int) : Option Q12 := (aR [61] l c69 Names Schema Init Procs Cmd c66 c67).bind fun r70 => (bf 1 l r70.1 Names Schema Init Procs Cmd r70.2.1 r70.2.2).bind fun r73 => chk (az (List.length l28 + List.length ([(r47, r73.1)] : List (Int × Ex))) 56) <| (aW 3 [44] l r73.2.1 Names Schema Init Procs Cmd r73.2.2.1 r73.2.2.2).bind fun r88 => bif r88 then ( again32 ((IntKind.i64.wrap (r73.2.1 + 1)), r73.2.2.1, r73.2.2.2, (l28 ++ ([(r47, r73.1)] : List (Int × Ex))), r88)) else ( again32 (r73.2.1, r73.2.2.1, r73.2.2.2, (l28 ++ ([(r47, r73.1)] : List (Int × Ex))), r88))
def cO (l : Q2) (Names : Q7) (Schema : Q8) (Init : Q4) (Procs : Q7) (Cmd : Q3) (c25 : Int) (l28 : Q17) (again32 : Q14 → Option Q12) (r47 : Int) (c66 : Int) (c67 : Int) : Option Q12 := ab (fun (s94 : Int) => cQ l Names Schema Init Procs Cmd l28 again32 r47 c66 c67 s94) fun kk93 => bif (c66 == 0) then ( kk93 (IntKind.i64.wrap (c25 + 1))) else ( kk93 c25)
def bg (l : Q2) (Names : Q7) (Schema : Q8) (Init : Q4) (Procs : Q7) (Cmd : Q3) (c25 : Int) (c26 : Int) (c27 : Int) (l28 : Q17) (again32 : Q14 → Option Q12) (e40 : Q11) (r47 : Int) (again53 : (Bool × Int) → Option Q12) : Bool × Int → Option Q12 := fun ⟨twice51, k52⟩ => bif (decide (k52 < (List.length l28 : Int))) then ( aT (!twice51) (0, (Ex.mk 0 0 0 [])) (idx l28 k52) fun e55 => ab (e55.1 == r47) fun b61 => ab (twice51 || b61) fun b63 => again53 (b63, (IntKind.i64.wrap (k52 + 1)))) else ( ab (fun (s98 : Int × Int) => cO l Names Schema Init Procs Cmd c25 l28 again32 r47 s98.1 s98.2) fun kk97 => bif (e40.1 != 1) then ( (aq 2 e40.2.2.2 l c25 Names Schema Init Procs Cmd c26 c27).bind fun r100 => kk97 (r100.1, r100.2)) else ( ab (decide (r47 < 0)) fun b103 => ab (b103 || twice51) fun b105 => bif b105 then ( (aq 3 e40.2.2.2 l c25 Names Schema Init Procs Cmd c26 c27).bind fun r108 => kk97 (r108.1, r108.2)) else ( kk97 (c26, c27))))
def bD (l : Q2) (Names : Q7) (Schema : Q8) (Init : Q4) (Procs : Q7) (Cmd : Q3) (r15 : Q6) (again32 : Q14 → Option Q12) : Int × Int × Int × Q17 × Bool → Option Q12 := fun ⟨c25, c26, c27, l28, more31⟩ => ab (c26 == 0) fun b33 => ab (more31 && b33) fun b35 => bif b35 then ( (idx l c25).bind fun e40 => (bn Names e40.2.1).bind fun r47 => an (bg l Names Schema Init Procs Cmd c25 c26 c27 l28 again32 e40 r47) au (false, 0)) else ( (aR [59] l c25 Names Schema Init Procs Cmd c26 c27).bind fun r111 => chk (az (List.length Cmd + List.length ([((IntKind.i64.wrap ((List.length Procs : Int) - 1)), r15.1, l28)] : List Q24)) 80) <| some (r111.1, (Cmd ++ ([((IntKind.i64.wrap ((List.length Procs : Int) - 1)), r15.1, l28)] : List Q24)), r111.2.1, r111.2.2))
def cR (l : Q2) (at_ : Int) (Names : Q7) (Schema : Q8) (Init : Q4) (Procs : Q7) (Cmd : Q3) (c10 : Int) (c11 : Int) : Option Q12 := (bf 2 l at_ Names Schema Init Procs Cmd c10 c11).bind fun r15 => (aR [58] l r15.2.1 Names Schema Init Procs Cmd r15.2.2.1 r15.2.2.2).bind fun r21 => an (bD l Names Schema Init Procs Cmd r15) au (r21.1, r21.2.1, r21.2.2, [], true)
def dA (l : Q2) (at_ : Int) (Names : Q7) (Schema : Q8) (Init : Q4) (Procs : Q7) (Cmd : Q3) (bad : Int) (place : Int) : Option Q12 := ab (fun (s124 : Int × Int) => cR l at_ Names Schema Init Procs Cmd s124.1 s124.2) fun kk123 => bif (decide (256 ≤ (List.length Cmd : Int))) then ( (aC l at_ Names Schema Init Procs Cmd bad place).bind fun r126 => (aq 9 r126 l at_ Names Schema Init Procs Cmd bad place).bind fun r129 => kk123 (r129.1, r129.2)) else ( kk123 (bad, place))
def cY (r6 : Bool) (c10 : Int) (e13 : Q11) (c19 : Int) (c20 : Int) : Option Q15 := bif (c19 != 0) then ( some (0, c10, c19, c20)) else ( bif r6 then ( some ((IntKind.i64.wrap (0 - e13.2.2.1)), (IntKind.i64.wrap (c10 + 1)), c19, c20)) else ( some (e13.2.2.1, (IntKind.i64.wrap (c10 + 1)), c19, c20)))
def eP (l : Q2) (Names : Q7) (Schema : Q8) (Init : Q4) (Procs : Q7) (Cmd : Q3) (bad : Int) (place : Int) (r6 : Bool) (c10 : Int) : Option Q15 := (idx l c10).bind fun e13 => ab (fun (s25 : Int × Int) => cY r6 c10 e13 s25.1 s25.2) fun kk24 => bif (e13.1 != 2) then ( (aq 2 e13.2.2.2 l c10 Names Schema Init Procs Cmd bad place).bind fun r27 => kk24 (r27.1, r27.2)) else ( kk24 (bad, place))
def bX (l : Q2) (at_ : Int) (Names : Q7) (Schema : Q8) (Init : Q4) (Procs : Q7) (Cmd : Q3) (bad : Int) (place : Int) : Option Q15 := (aW 3 [45] l at_ Names Schema Init Procs Cmd bad place).bind fun r6 => ab (fun (s31 : Int) => eP l Names Schema Init Procs Cmd bad place r6 s31) fun kk30 => bif r6 then ( kk30 (IntKind.i64.wrap (at_ + 1))) else ( kk30 at_)
def hZ (s : Q8) (again12 : Int → Option Bool) (i11 : Int) : Option Bool := bif (decide (i11 < (List.length s : Int))) then ( (idx s i11).bind fun e16 => (idx s i11).bind fun e18 => ab (decide (e18.2 < e16.1)) fun b20 => aT (!b20) (0, 0) (idx s i11) fun e22 => ab (decide (e22.1 < (-1073741824))) fun b24 => ab (b20 || b24) fun b26 => aT (!b26) (0, 0) (idx s i11) fun e28 => ab (decide (1073741824 < e28.2)) fun b30 => ab (b26 || b30) fun b32 => aT (!b32) (0, 0) (idx s i11) fun e34 => aT (!b32) (0, 0) (idx s i11) fun e36 => ab (decide (65535 < (IntKind.i64.wrap (e34.2 - e36.1)))) fun b38 => ab (b32 || b38) fun b40 => bif b40 then ( some false) else ( again12 (IntKind.i64.wrap (i11 + 1)))) else ( some true)
def gi (s : Q8) : Option Bool := ab (decide ((List.length s : Int) < 1)) fun b3 => ab (decide (17 < (List.length s : Int))) fun b5 => ab (b3 || b5) fun b7 => bif b7 then ( some false) else ( an (hZ s) au 0)
def eb (Names : Q7) (Schema : Q8) (Init : Q4) (r15 : (Str × Int × Int × Int)) (r21 : Q15) (r24 : Q15) (r27 : Q15) (r30 : Q9) (c42 : Int) (c43 : Int) : Option (Int × Q7 × Q8 × Q4 × Int × Int) := chk (az (List.length Names + List.length ([r15.1] : List Str)) 16) <| chk (az (List.length Schema + List.length ([(r21.1, r24.1)] : List (Int × Int))) 16) <| chk (az (List.length Init + List.length ([r27.1] : List Int)) 8) <| some (r30.1, (Names ++ ([r15.1] : List Str)), (Schema ++ ([(r21.1, r24.1)] : List (Int × Int))), (Init ++ ([r27.1] : List Int)), c42, c43)
def dq (l : Q2) (at_ : Int) (Names : Q7) (Schema : Q8) (Init : Q4) (Procs : Q7) (Cmd : Q3) (bad : Int) (place : Int) : Option (Int × Q7 × Q8 × Q4 × Int × Int) := (df (decide (16 ≤ (List.length Names : Int))) l at_ Names Schema Init Procs Cmd bad place).bind fun r15 => (aC l r15.2.1 Names Schema Init Procs Cmd r15.2.2.1 r15.2.2.2).bind fun r18 => (bX l r15.2.1 Names Schema Init Procs Cmd r15.2.2.1 r15.2.2.2).bind fun r21 => (bX l r21.2.1 Names Schema Init Procs Cmd r21.2.2.1 r21.2.2.2).bind fun r24 => (bX l r24.2.1 Names Schema Init Procs Cmd r24.2.2.1 r24.2.2.2).bind fun r27 => (aR [59] l r27.2.1 Names Schema Init Procs Cmd r27.2.2.1 r27.2.2.2).bind fun r30 => (gi ([(r21.1, r24.1)] : List (Int × Int))).bind fun r38 => ab (fun (s68 : Int × Int) => eb Names Schema Init r15 r21 r24 r27 r30 s68.1 s68.2) fun kk67 => ab (!r38) fun b69 => ab (decide (r27.1 < r21.1)) fun b71 => ab (b69 || b71) fun b73 => ab (decide (r24.1 < r27.1)) fun b75 => ab (b73 || b75) fun b77 => bif b77 then ( (aq 5 r18 l r30.1 Names Schema Init Procs Cmd r30.2.1 r30.2.2).bind fun r80 => kk67 (r80.1, r80.2)) else ( kk67 (r30.2.1, r30.2.2))
def dw (r17 : Q16) (l38 : Q7) (again46 : Q18 → Option Q20) (c69 : Q7) (c72 : Q8) (c75 : Q4) (r81 : (Str × Int × Int × Int)) (again105 : (Int × Q3 × Int × Int × Bool) → Option Q20) : Int × Q3 × Int × Int × Bool → Option Q20 := fun ⟨c98, c99, c102, c103, end104⟩ => ab (c102 == 0) fun b106 => ab (!end104) fun b108 => ab (b106 && b108) fun b110 => bif b110 then ( (dA r17.1 c98 c69 c72 c75 (l38 ++ ([r81.1] : List Str)) c99 c102 c103).bind fun r113 => (aW 3 [125] r17.1 r113.1 c69 c72 c75 (l38 ++ ([r81.1] : List Str)) r113.2.1 r113.2.2.1 r113.2.2.2).bind fun r118 => again105 (r113.1, r113.2.1, r113.2.2.1, r113.2.2.2, r118)) else ( (aR [125] r17.1 c98 c69 c72 c75 (l38 ++ ([r81.1] : List Str)) c99 c102 c103).bind fun r121 => again46 (r121.1, c69, c72, c75, (l38 ++ ([r81.1] : List Str)), c99, r121.2.1, r121.2.2))
def eY (r17 : Q16) (l38 : Q7) (l41 : Q3) (again46 : Q18 → Option Q20) (r59 : Bool) (c68 : Int) (c69 : Q7) (c72 : Q8) (c75 : Q4) (c78 : Int) (c79 : Int) : Option Q20 := bif r59 then ( (df false r17.1 c68 c69 c72 c75 l38 l41 c78 c79).bind fun r81 => chk (az (List.length l38 + List.length ([r81.1] : List Str)) 16) <| (aR [123] r17.1 r81.2.1 c69 c72 c75 (l38 ++ ([r81.1] : List Str)) l41 r81.2.2.1 r81.2.2.2).bind fun r91 => (aW 3 [125] r17.1 r91.1 c69 c72 c75 (l38 ++ ([r81.1] : List Str)) l41 r91.2.1 r91.2.2).bind fun r94 => an (dw r17 l38 again46 c69 c72 c75 r81) au (r91.1, l41, r91.2.1, r91.2.2, r94)) else ( again46 (c68, c69, c72, c75, l38, l41, c78, c79))
def eS (r17 : Q16) (l29 : Q7) (l32 : Q8) (l35 : Q4) (l38 : Q7) (l41 : Q3) (again46 : Q18 → Option Q20) (r56 : Bool) (r59 : Bool) (c63 : Int) (c64 : Int) (c66 : Int) : Option Q20 := ab (fun (s125 : Int × Q7 × Q8 × Q4 × Int × Int) => eY r17 l38 l41 again46 r59 s125.1 s125.2.1 s125.2.2.1 s125.2.2.2.1 s125.2.2.2.2.1 s125.2.2.2.2.2) fun kk124 => bif r56 then ( (dq r17.1 c66 l29 l32 l35 l38 l41 c63 c64).bind fun r127 => kk124 (r127.1, r127.2.1, r127.2.2.1, r127.2.2.2.1, r127.2.2.2.2.1, r127.2.2.2.2.2)) else ( kk124 (c66, l29, l32, l35, c63, c64))
def eX (r17 : Q16) (c28 : Int) (l29 : Q7) (l32 : Q8) (l35 : Q4) (l38 : Q7) (l41 : Q3) (again46 : Q18 → Option Q20) (r56 : Bool) (r59 : Bool) (c63 : Int) (c64 : Int) : Option Q20 := ab (fun (s137 : Int) => eS r17 l29 l32 l35 l38 l41 again46 r56 r59 c63 c64 s137) fun kk136 => bif (c63 == 0) then ( kk136 (IntKind.i64.wrap (c28 + 1))) else ( kk136 c28)
def eV (l29 : Q7) (l32 : Q8) (l35 : Q4) (l38 : Q7) (l41 : Q3) (c156 : Int) (c157 : Int) : Option Q20 := bif (c156 != 0) then ( some (([], [], [], [], []), c156, c157)) else ( some ((l29, l32, l35, l38, l41), 0, 0))
def cD (r17 : Q16) (again46 : Q18 → Option Q20) : Int × Q7 × Q8 × Q4 × Q7 × Q3 × Int × Int → Option Q20 := fun ⟨c28, l29, l32, l35, l38, l41, c44, c45⟩ => ab (c44 == 0) fun b47 => aT b47 (0, [], 0, 0) (idx r17.1 c28) fun e49 => ab (e49.1 != 4) fun b51 => ab (b47 && b51) fun b53 => bif b53 then ( (aW 1 [118, 97, 114] r17.1 c28 l29 l32 l35 l38 l41 c44 c45).bind fun r56 => (aW 1 [112, 114, 111, 99] r17.1 c28 l29 l32 l35 l38 l41 c44 c45).bind fun r59 => ab (fun (s141 : Int × Int) => eX r17 c28 l29 l32 l35 l38 l41 again46 r56 r59 s141.1 s141.2) fun kk140 => ab (!r56) fun b142 => ab (!r59) fun b144 => ab (b142 && b144) fun b146 => bif b146 then ( (aC r17.1 c28 l29 l32 l35 l38 l41 c44 c45).bind fun r149 => (aq 2 r149 r17.1 c28 l29 l32 l35 l38 l41 c44 c45).bind fun r152 => kk140 (r152.1, r152.2)) else ( kk140 (c44, c45))) else ( ab (fun (s164 : Int × Int) => eV l29 l32 l35 l38 l41 s164.1 s164.2) fun kk163 => bif ((List.length l29 : Int) == 0) then ( (aC r17.1 c28 l29 l32 l35 l38 l41 c44 c45).bind fun r166 => (aq 2 r166 r17.1 c28 l29 l32 l35 l38 l41 c44 c45).bind fun r169 => kk163 (r169.1, r169.2)) else ( kk163 (c44, c45)))
def cG (text : Str) : Option Q20 := (cZ text).bind fun r17 => bif (r17.2.1 != 0) then ( some (([], [], [], [], []), r17.2.1, r17.2.2)) else ( an (cD r17) au (0, [], [], [], [], [], 0, 0))
def fZ (text : Str) : Option (Q1 × Bool) := bif (decide (600 < (List.length text : Int))) then ( some (([], [], [], [], []), false)) else ( (cG text).bind fun r18 => some (r18.1, (r18.2.1 == 0)))
def vB (v1 : Q4) : Option Q4 := chk (pJ 0 (max 0 (IntKind.i64.wrap ((List.length v1 : Int) - 1))) (max 0 (IntKind.i64.wrap ((List.length v1 : Int) - 1))) (List.length v1)) <| some (bO v1 0 (max 0 (IntKind.i64.wrap ((List.length v1 : Int) - 1))))
def q8 (l : (List Q4)) (again10 : Q13 → Option (List Q4)) : (List Q4) × Int → Option (List Q4) := fun ⟨out6, t9⟩ => bif (decide (t9 < (List.length l : Int))) then ( (idx l t9).bind fun e12 => (vB e12).bind fun r18 => chk (az (List.length out6 + List.length ([r18] : List Q4)) 24) <| again10 ((out6 ++ ([r18] : List Q4)), (IntKind.i64.wrap (t9 + 1)))) else ( some out6)
def jD (l : (List Q4)) : Option (List Q4) := an (q8 l) au ([], 0)
def Dm (l : Q22) : Option Q22 := (jD l.1).bind fun r14 => (jD l.2).bind fun r19 => some (r14, r19)
def dW (slices : (List (List Q4))) (again25 : Q13 → Option (List Q4)) : (List Q4) × Int → Option (List Q4) := fun ⟨newslice21, t24⟩ => bif (decide (t24 < (List.length slices : Int))) then ( (idx slices t24).bind fun e27 => chk (az (List.length newslice21 + List.length e27) 24) <| again25 ((newslice21 ++ e27), (IntKind.i64.wrap (t24 + 1)))) else ( some newslice21)
def dV (slices : (List (List Q4))) (again8 : (Int × Int) → Option (List Q4)) : Int × Int → Option (List Q4) := fun ⟨size6, t7⟩ => bif (decide (t7 < (List.length slices : Int))) then ( (idx slices t7).bind fun e10 => bif (decide ((IntKind.i64.wrap (size6 + (List.length e10 : Int))) < 0)) then ( none) else ( again8 ((IntKind.i64.wrap (size6 + (List.length e10 : Int))), (IntKind.i64.wrap (t7 + 1))))) else ( (xy size6).bind fun r17 => an (dW slices) au (r17, 0))
def fu (slices : (List (List Q4))) : Option (List Q4) := an (dV slices) au (0, 0)
def nI (l : Q22) : Option Q13 := (fu ([l.1, l.2] : List (List Q4))).bind fun r14 => some (r14, (List.length l.1 : Int))
def jm (f : (Int × Int)) (n : Int) : Option Bool := ab (decide (f.1 ≤ n)) fun b5 => ab (decide (n ≤ f.2)) fun b7 => ab (b5 && b7) fun b9 => some b9
def CY (s : Q8) (v3 : Q4) (again6 : Int → Option Int) (t5 : Int) : Option Int := bif (decide (t5 < (List.length v3 : Int))) then ( (idx v3 t5).bind fun e8 => (idx s t5).bind fun e10 => (jm e10 e8).bind fun r12 => bif (!r12) then ( some 5) else ( again6 (IntKind.i64.wrap (t5 + 1)))) else ( some 0)
def tO (s : Q8) (v3 : Q4) : Option Int := bif ((List.length v3 : Int) != (List.length s : Int)) then ( some 1) else ( an (CY s v3) au 0)
def lV (v1 : Q4) (_Names : Q7) (Schema : Q8) (_Init : Q4) (_Procs : Q7) (_Cmd : Q3) : Option Bool := (tO Schema v1).bind fun r3 => some (r3 == 0)
def eU (l : (List Q4)) (Names : Q7) (Schema : Q8) (Init : Q4) (Procs : Q7) (Cmd : Q3) (again10 : Q23 → Option Q5) : Q5 × Int → Option Q5 := fun ⟨out6, t9⟩ => bif (decide (t9 < (List.length l : Int))) then ( (idx l t9).bind fun e12 => (lV e12 Names Schema Init Procs Cmd).bind fun r18 => chk (az (List.length out6 + List.length ([r18] : List Bool)) 1) <| again10 ((out6 ++ ([r18] : List Bool)), (IntKind.i64.wrap (t9 + 1)))) else ( some out6)
def jj (l : (List Q4)) (Names : Q7) (Schema : Q8) (Init : Q4) (Procs : Q7) (Cmd : Q3) : Option Q5 := an (eU l Names Schema Init Procs Cmd) au ([], 0)
def dL (s : Q5) (v3 : Bool) (again5 : Int → Option Int) (t4 : Int) : Option Int := bif (decide (t4 < (List.length s : Int))) then ( (idx s t4).bind fun e7 => bif (v3 == e7) then ( some t4) else ( again5 (IntKind.i64.wrap (t4 + 1)))) else ( some (-1))
def gV (s : Q5) (v3 : Bool) : Option Int := an (dL s v3) au 0
def dN (s : Q5) (v3 : Bool) : Option Bool := (gV s v3).bind fun r3 => some (decide (0 ≤ r3))
def eA (s1 : Q4) (s2 : Q4) (again6 : Int → Option Bool) (t5 : Int) : Option Bool := bif (decide (t5 < (List.length s1 : Int))) then ( (idx s1 t5).bind fun e10 => (idx s2 t5).bind fun e12 => bif (e10 != e12) then ( some false) else ( again6 (IntKind.i64.wrap (t5 + 1)))) else ( some true)
def ec (s1 : Q4) (s2 : Q4) : Option Bool := bif ((List.length s1 : Int) != (List.length s2 : Int)) then ( some false) else ( an (eA s1 s2) au 0)
def rM (m : Q1) (v11 : Q4) : Option (Q7 × Q8 × Q4 × Q7 × Q3 × Q4) := some (m.1, m.2.1, m.2.2.1, m.2.2.2.1, m.2.2.2.2, v11)
def lL (is_ : Bool) : Option Int := bif is_ then ( some 1) else ( some 0)
def oI (a36 : Int) (b37 : Int) (turn38 : Bool) : Option Int := (lL ((decide (a36 ≤ b37)) != turn38)).bind fun r39 => some r39
def oX (a45 : Int) (b46 : Int) (turn47 : Bool) : Option Int := (lL ((decide (a45 < b46)) != turn47)).bind fun r48 => some r48
def oJ (a54 : Int) (b55 : Int) (turn56 : Bool) : Option Int := (lL ((a54 == b55) != turn56)).bind fun r57 => some r57
def pb (e : Ex) (c12 : Int) (c13 : Int) (kk42 : (Int × Int × Bool) → Option Int) (kk51 : (Int × Int × Bool) → Option Int) : Option Int := bif (e.op == 12) then ( kk51 (c12, c13, true)) else ( bif (e.op == 9) then ( kk51 (c12, c13, false)) else ( bif (e.op == 11) then ( kk42 (c12, c13, true)) else ( bif (e.op == 10) then ( kk42 (c12, c13, false)) else ( bif (e.op == 13) then ( some 1) else ( bif (e.op == 15) then ( some (IntKind.i64.wrap (1 - c12))) else ( bif (e.op == 16) then ( some (IntKind.i64.wrap (c12 * c13))) else ( bif (e.op == 17) then ( some (max c12 c13)) else ( bif (e.op == 18) then ( some (max (IntKind.i64.wrap (1 - c12)) c13)) else ( some 0)))))))))
def oU (c12 : Int) (c13 : Int) (kk60 : (Int × Int × Bool) → Option Int) (kk88 : Unit → Option Int) (t91 : Bool) : Option Int := bif t91 then ( kk60 (c12, c13, false)) else ( kk88 ())
def bQ (gY : (Ex × Q4) → Option Int) (e : Ex) (v3 : Q4) (again15 : Q9 → Option Int) : Int × Int × Int → Option Int := fun ⟨c12, c13, t14⟩ => bif (decide (t14 < (List.length (bO e.l 0 (min (List.length e.l : Int) 2)) : Int))) then ( (idx (bO e.l 0 (min (List.length e.l : Int) 2)) t14).bind fun e17 => (gY (e17, v3)).bind fun r26 => bif (t14 == 0) then ( again15 (r26, c13, (IntKind.i64.wrap (t14 + 1)))) else ( bif (t14 == 1) then ( again15 (c12, r26, (IntKind.i64.wrap (t14 + 1)))) else ( none))) else ( ab (fun (s43 : Int × Int × Bool) => oI s43.1 s43.2.1 s43.2.2) fun kk42 => ab (fun (s52 : Int × Int × Bool) => oX s52.1 s52.2.1 s52.2.2) fun kk51 => ab (fun (s61 : Int × Int × Bool) => oJ s61.1 s61.2.1 s61.2.2) fun kk60 => bif (e.op == 1) then ( some e.n) else ( bif (e.op == 2) then ( ab (decide (e.n < 0)) fun b64 => ab (decide ((List.length v3 : Int) ≤ e.n)) fun b66 => ab (b64 || b66) fun b68 => bif b68 then ( some 0) else ( (idx v3 e.n).bind fun e71 => some e71)) else ( bif (e.op == 3) then ( some (IntKind.i64.wrap (c12 + c13))) else ( bif (e.op == 5) then ( some (IntKind.i64.wrap (c12 * c13))) else ( bif (e.op == 6) then ( some (IntKind.i64.wrap (0 - c12))) else ( bif (e.op == 4) then ( some (IntKind.i64.wrap (c12 - c13))) else ( bif (e.op == 8) then ( kk60 (c12, c13, true)) else ( ab (fun (_s89 : Unit) => pb e c12 c13 kk42 kk51) fun kk88 => ab (fun (s94 : Bool) => oU c12 c13 kk60 kk88 s94) fun kk93 => bif (e.op == 7) then ( kk93 (e.op == 7)) else ( kk93 (e.op == 19))))))))))
def j4 (gY : (Ex × Q4) → Option Int) (e : Ex) (v3 : Q4) : Option Int := chk (eK 0 (min (List.length e.l : Int) 2) (List.length e.l)) <| an (bQ gY e v3) au (0, 0, 0)
def jE (e : Ex) (v3 : Q4) : Option Int :=
 an (fun k (s : (Ex × Q4)) => j4 k s.1 s.2) au (e, v3)
def js (m : Q1) (v11 : Q4) (again13 : Q21 → Option Q4) : Q4 × Int → Option Q4 := fun ⟨out9, t12⟩ => bif (decide (t12 < (List.length m.2.2.2.2 : Int))) then ( (idx m.2.2.2.2 t12).bind fun e15 => (jE e15.2.1 v11).bind fun r26 => bif (r26 == 1) then ( chk (az (List.length out9 + List.length ([t12] : List Int)) 8) <| again13 ((out9 ++ ([t12] : List Int)), (IntKind.i64.wrap (t12 + 1)))) else ( again13 (out9, (IntKind.i64.wrap (t12 + 1))))) else ( some out9)
def pd (m : Q1) (v11 : Q4) : Option Q4 := an (js m v11) au ([], 0)
def bP (s : Q4) : Option Q4 := zA s ( some []) ( chk (az (List.length ([] : List Int) + List.length s) 8) <| some (([] : List Int) ++ s))
def jq (s : Q8) (v3 : Q4) (again6 : Int → Option Int) (t5 : Int) : Option Int := bif (decide (t5 < (List.length v3 : Int))) then ( (idx v3 t5).bind fun e8 => (idx s t5).bind fun e10 => (jm e10 e8).bind fun r12 => bif (!r12) then ( some 5) else ( again6 (IntKind.i64.wrap (t5 + 1)))) else ( some 0)
def fT (s : Q8) (v3 : Q4) : Option Int := bif ((List.length v3 : Int) != (List.length s : Int)) then ( some 1) else ( an (jq s v3) au 0)
def lQ (m : Q1) (v11 : Q4) (e21 : Q24) (again32 : Q21 → Option Q21) : Q4 × Int → Option Q21 := fun ⟨l30, t31⟩ => bif (decide (t31 < (List.length e21.2.2 : Int))) then ( (idx e21.2.2 t31).bind fun e34 => (jE e34.2 v11).bind fun r45 => (idx l30 e34.1).bind fun _e48 => again32 ((List.set l30 (Int.toNat e34.1) r45), (IntKind.i64.wrap (t31 + 1)))) else ( (fT m.2.1 l30).bind fun r51 => bif (r51 != 0) then ( some ([], 6)) else ( some (l30, 0)))
def pW (m : Q1) (v11 : Q4) (k : Int) : Option Q21 := ab (decide (k < 0)) fun b9 => ab (decide ((List.length m.2.2.2.2 : Int) ≤ k)) fun b11 => ab (b9 || b11) fun b13 => bif b13 then ( some ([], 10)) else ( (bP v11).bind fun r16 => (idx m.2.2.2.2 k).bind fun e21 => an (lQ m v11 e21) au (r16, 0))
def dK (addr : Bool) (_buf : Q4) : Option Bool := bif (!addr) then ( some true) else ( bif (!addr) then ( none) else ( some addr))
def dm (s : Str) (addr : Bool) (buf : Q4) : Option (Int × Bool × Q4) := (dK addr buf).bind fun r1 => chk (az (List.length buf + List.length s) 1) <| some ((List.length s : Int), r1, (buf ++ bytesOf s))
def dJ (c : Int) (addr : Bool) (buf : Q4) : Option (Bool × Q4) := (dK addr buf).bind fun r1 => chk (az (List.length buf + List.length ([c] : List Int)) 1) <| some (r1, (buf ++ ([c] : List Int)))
def eR (_addr : Bool) (buf : Q4) : Option Str := (idx buf 0).bind fun _e7 => chk (decide ((0 : Int) = 0) && decide ((List.length buf : Int) = (List.length buf : Int))) <| some (strOf buf)
def lM (v1 : Q4) (again11 : (Bool × Q4 × Int) → Option Str) : Bool × Q4 × Int → Option Str := fun ⟨c6, l7, t10⟩ => bif (decide (t10 < (List.length v1 : Int))) then ( (idx v1 t10).bind fun e13 => (A7 e13).bind fun r15 => (dm r15 c6 l7).bind fun r16 => (dJ 32 r16.2.1 r16.2.2).bind fun r21 => again11 (r21.1, r21.2, (IntKind.i64.wrap (t10 + 1)))) else ( (eR c6 l7).bind fun r26 => some r26)
def uf (v1 : Q4) : Option Str := an (lM v1) au (false, [], 0)
def kA (v2 : Q4) (l : (List Q4)) (c10 : Q19) : Option ((List Q4) × Q19) := (uf v2).bind fun r12 => bif (!(ka c10 r12 false)) then ( (c10).bind fun m16 => chk (az (List.length l + List.length ([v2] : List Q4)) 24) <| some ((l ++ ([v2] : List Q4)), (some (lZ m16 r12 true)))) else ( some (l, c10))
def fy (v2 : Q4) (l : (List Q4)) (at_ : Q19) : Option ((List Q4) × Q19) := ab (fun (s27 : Q19) => kA v2 l s27) fun kk26 => bif ((Option.isNone at_)) then ( kk26 (some [] : Q19)) else ( kk26 at_)
def lS (v11 : Q4) (r15 : (Q7 × Q8 × Q4 × Q7 × Q3 × Q4)) (r26 : Q4) (again39 : (Int × Int × (List Q4) × Q19) → Option Q13) : Int × Int × (List Q4) × Q19 → Option Q13 := fun ⟨t32, c33, l34, c37⟩ => bif (decide (t32 < (List.length r26 : Int))) then ( (idx r26 t32).bind fun e41 => (pW (r15.1, r15.2.1, r15.2.2.1, r15.2.2.2.1, r15.2.2.2.2.1) r15.2.2.2.2.2 e41).bind fun r43 => bif (r43.2 != 0) then ( bif (!false) then ( some ([], r43.2)) else ( again39 ((IntKind.i64.wrap (t32 + 1)), r43.2, l34, c37))) else ( (fy r43.1 l34 c37).bind fun r52 => bif (!true) then ( bif ((List.length r52.1 : Int) == 0) then ( (bP v11).bind fun r60 => (fy r60 r52.1 r52.2).bind fun r65 => some (r65.1, 0)) else ( some (r52.1, 0))) else ( again39 ((IntKind.i64.wrap (t32 + 1)), c33, r52.1, r52.2)))) else ( bif ((List.length l34 : Int) == 0) then ( (bP v11).bind fun r76 => (fy r76 l34 c37).bind fun r81 => some (r81.1, 0)) else ( some (l34, 0)))
def p7 (m : Q1) (v11 : Q4) : Option Q13 := (rM m v11).bind fun r15 => (pd (r15.1, r15.2.1, r15.2.2.1, r15.2.2.2.1, r15.2.2.2.2.1) r15.2.2.2.2.2).bind fun r26 => an (lS v11 r15 r26) au (0, 0, [], none)
def lE (z : Q4) (x : Q4) : Option Bool := (ec x z).bind fun r3 => some r3
def dj (s : (List Q4)) (c : Q4) (again5 : Int → Option Int) (t4 : Int) : Option Int := bif (decide (t4 < (List.length s : Int))) then ( (idx s t4).bind fun e7 => (lE e7 c).bind fun r13 => bif r13 then ( some t4) else ( again5 (IntKind.i64.wrap (t4 + 1)))) else ( some (-1))
def fW (s : (List Q4)) (c : Q4) : Option Int := an (dj s c) au 0
def dk (s : (List Q4)) (c : Q4) : Option Bool := (fW s c).bind fun r3 => some (decide (0 ≤ r3))
def lW (x : Q4) (y : Q4) (Names : Q7) (Schema : Q8) (Init : Q4) (Procs : Q7) (Cmd : Q3) : Option Bool := (p7 (Names, Schema, Init, Procs, Cmd) x).bind fun r5 => ab (r5.2 == 0) fun b10 => aT b10 default (dk r5.1 y) fun r12 => ab (b10 && r12) fun b18 => some b18
def ig (l : (List Q4)) (Names : Q7) (Schema : Q8) (Init : Q4) (Procs : Q7) (Cmd : Q3) (again5 : Int → Option Bool) (i4 : Int) : Option Bool := bif (decide (i4 < (List.length l : Int))) then ( (idx l (IntKind.i64.wrap (i4 - 1))).bind fun e9 => (idx l i4).bind fun e15 => (lW e9 e15 Names Schema Init Procs Cmd).bind fun r21 => bif (!r21) then ( some false) else ( again5 (IntKind.i64.wrap (i4 + 1)))) else ( some true)
def mI (l : (List Q4)) (Names : Q7) (Schema : Q8) (Init : Q4) (Procs : Q7) (Cmd : Q3) : Option Bool := an (ig l Names Schema Init Procs Cmd) au 1
def fO (m : Q1) (l : Q22) : Option Bool := bif ((List.length l.2 : Int) == 0) then ( some false) else ( chk (eK 0 1 (List.length l.2)) <| (fu ([l.1, l.2, (bO l.2 0 1)] : List (List Q4))).bind fun r17 => (jj r17 m.1 m.2.1 m.2.2.1 m.2.2.2.1 m.2.2.2.2).bind fun r22 => (dN r22 false).bind fun r29 => aT (!r29) [] (idx r17 0) fun e32 => aT (!r29) default (ec e32 m.2.2.1) fun r38 => ab (!r38) fun b44 => ab (r29 || b44) fun b46 => bif b46 then ( some false) else ( (mI r17 m.1 m.2.1 m.2.2.1 m.2.2.2.1 m.2.2.2.2).bind fun r49 => some r49))
def uj (e : Ex) (times10 : Bool) (t45 : Bool) : Option Q9 := bif t45 then ( some (2, 0, 0)) else ( ab (decide (15 ≤ e.op)) fun b47 => ab (b47 && times10) fun b49 => bif b49 then ( some (3, 0, 0)) else ( some (0, 4, e.at_)))
def Ce (gW : Ex → Option Q9) (e : Ex) (again12 : (Bool × Bool × Bool × Int) → Option Q9) : Bool × Bool × Bool × Int → Option Q9 := fun ⟨ints8, bools9, times10, t11⟩ => bif (decide (t11 < (List.length e.l : Int))) then ( (idx e.l t11).bind fun e14 => (gW e14).bind fun r23 => bif (r23.2.1 != 0) then ( some (0, r23.2.1, r23.2.2)) else ( ab (r23.1 == 1) fun b27 => ab (ints8 && b27) fun b29 => ab (r23.1 == 2) fun b31 => ab (bools9 && b31) fun b33 => ab (r23.1 != 1) fun b35 => ab (times10 && b35) fun b37 => again12 (b29, b33, b37, (IntKind.i64.wrap (t11 + 1))))) else ( ab (decide (e.op ≤ 6)) fun b39 => ab (b39 && ints8) fun b41 => bif b41 then ( some (1, 0, 0)) else ( ab (fun (s55 : Bool) => uj e times10 s55) fun kk54 => ab (decide (6 < e.op)) fun b56 => ab (decide (e.op ≤ 12)) fun b58 => ab (b56 && b58) fun b60 => ab (b60 && ints8) fun b62 => bif b62 then ( kk54 b62) else ( bif (e.op == 13) then ( kk54 (e.op == 13)) else ( bif (e.op == 14) then ( kk54 (e.op == 14)) else ( ab (decide (15 ≤ e.op)) fun b67 => ab (decide (e.op ≤ 19)) fun b69 => ab (b67 && b69) fun b71 => ab (b71 && bools9) fun b73 => kk54 b73)))))
def vt (gW : Ex → Option Q9) (e : Ex) : Option Q9 := an (Ce gW e) au (true, true, true, 0)
def tM (e : Ex) : Option Q9 :=
 an (fun k (s : Ex) => vt k s) au e
def zt (e : Ex) : Option Bool := (tM e).bind fun r5 => ab (r5.2.1 == 0) fun b8 => ab (r5.1 == 2) fun b10 => ab (b8 && b10) fun b12 => some b12
def xA (i : Int) (Op : Int) (N : Int) (At : Int) (L : (List Ex)) (V : (List Q4)) (_Loop : Int) : Option Bool := (idx V i).bind fun e5 => (jE (Ex.mk Op N At L) e5).bind fun r11 => some (r11 == 1)
def Eg (n : Int) (Op : Int) (N : Int) (At : Int) (L : (List Ex)) (V : (List Q4)) (Loop : Int) (again12 : Q23 → Option Q5) : Q5 × Int → Option Q5 := fun ⟨l10, t11⟩ => bif (decide (t11 < (List.length (List.replicate (Int.toNat n) false) : Int))) then ( (xA t11 Op N At L V Loop).bind fun r14 => (idx l10 t11).bind fun _e17 => again12 ((List.set l10 (Int.toNat t11) r14), (IntKind.i64.wrap (t11 + 1)))) else ( some l10)
def wv (n : Int) (Op : Int) (N : Int) (At : Int) (L : (List Ex)) (V : (List Q4)) (Loop : Int) : Option Q5 := chk (decide (0 ≤ n)) <| chk (az (Int.toNat n) 1) <| an (Eg n Op N At L V Loop) au ((List.replicate (Int.toNat n) false), 0)
def xW (i : Int) (x : Q5) : Option Bool := (idx x i).bind fun e3 => some (!e3)
def zI (n : Int) (c : Q5) (again12 : Q23 → Option Q5) : Q5 × Int → Option Q5 := fun ⟨l10, t11⟩ => bif (decide (t11 < (List.length (List.replicate (Int.toNat n) false) : Int))) then ( (xW t11 c).bind fun r14 => (idx l10 t11).bind fun _e17 => again12 ((List.set l10 (Int.toNat t11) r14), (IntKind.i64.wrap (t11 + 1)))) else ( some l10)
def vx (n : Int) (c : Q5) : Option Q5 := chk (decide (0 ≤ n)) <| chk (az (Int.toNat n) 1) <| an (zI n c) au ((List.replicate (Int.toNat n) false), 0)
def xk (i : Int) (x : Q5) (x6 : Q5) : Option Bool := (idx x i).bind fun e3 => aT e3 false (idx x6 i) fun e5 => ab (e3 && e5) fun b7 => some b7
def yL (n : Int) (c : Q5) (c6 : Q5) (again12 : Q23 → Option Q5) : Q5 × Int → Option Q5 := fun ⟨l10, t11⟩ => bif (decide (t11 < (List.length (List.replicate (Int.toNat n) false) : Int))) then ( (xk t11 c c6).bind fun r14 => (idx l10 t11).bind fun _e17 => again12 ((List.set l10 (Int.toNat t11) r14), (IntKind.i64.wrap (t11 + 1)))) else ( some l10)
def vq (n : Int) (c : Q5) (c6 : Q5) : Option Q5 := chk (decide (0 ≤ n)) <| chk (az (Int.toNat n) 1) <| an (yL n c c6) au ((List.replicate (Int.toNat n) false), 0)
def xq (i : Int) (x : Q5) (x6 : Q5) : Option Bool := (idx x i).bind fun e3 => aT (!e3) false (idx x6 i) fun e5 => ab (e3 || e5) fun b7 => some b7
def yy (n : Int) (c : Q5) (c6 : Q5) (again12 : Q23 → Option Q5) : Q5 × Int → Option Q5 := fun ⟨l10, t11⟩ => bif (decide (t11 < (List.length (List.replicate (Int.toNat n) false) : Int))) then ( (xq t11 c c6).bind fun r14 => (idx l10 t11).bind fun _e17 => again12 ((List.set l10 (Int.toNat t11) r14), (IntKind.i64.wrap (t11 + 1)))) else ( some l10)
def vn (n : Int) (c : Q5) (c6 : Q5) : Option Q5 := chk (decide (0 ≤ n)) <| chk (az (Int.toNat n) 1) <| an (yy n c c6) au ((List.replicate (Int.toNat n) false), 0)
def xw (i : Int) (x : Q5) (x6 : Q5) : Option Bool := (idx x i).bind fun e3 => ab (!e3) fun b5 => aT (!b5) false (idx x6 i) fun e7 => ab (b5 || e7) fun b9 => some b9
def zp (n : Int) (c : Q5) (c6 : Q5) (again12 : Q23 → Option Q5) : Q5 × Int → Option Q5 := fun ⟨l10, t11⟩ => bif (decide (t11 < (List.length (List.replicate (Int.toNat n) false) : Int))) then ( (xw t11 c c6).bind fun r14 => (idx l10 t11).bind fun _e17 => again12 ((List.set l10 (Int.toNat t11) r14), (IntKind.i64.wrap (t11 + 1)))) else ( some l10)
def vy (n : Int) (c : Q5) (c6 : Q5) : Option Q5 := chk (decide (0 ≤ n)) <| chk (az (Int.toNat n) 1) <| an (zp n c c6) au ((List.replicate (Int.toNat n) false), 0)
def xv (i : Int) (x : Q5) (x6 : Q5) : Option Bool := (idx x i).bind fun e5 => (idx x6 i).bind fun e7 => some (e5 == e7)
def zc (n : Int) (c : Q5) (c6 : Q5) (again12 : Q23 → Option Q5) : Q5 × Int → Option Q5 := fun ⟨l10, t11⟩ => bif (decide (t11 < (List.length (List.replicate (Int.toNat n) false) : Int))) then ( (xv t11 c c6).bind fun r14 => (idx l10 t11).bind fun _e17 => again12 ((List.set l10 (Int.toNat t11) r14), (IntKind.i64.wrap (t11 + 1)))) else ( some l10)
def ve (n : Int) (c : Q5) (c6 : Q5) : Option Q5 := chk (decide (0 ≤ n)) <| chk (az (Int.toNat n) 1) <| an (zc n c c6) au ((List.replicate (Int.toNat n) false), 0)
def rN (w1 : Q13) (i : Int) : Option Int := bif ((IntKind.i64.wrap (i + 1)) == (List.length w1.1 : Int)) then ( some w1.2) else ( some (IntKind.i64.wrap (i + 1)))
def xT (i : Int) (x : Q5) (V : (List Q4)) (Loop : Int) : Option Bool := (rN (V, Loop) i).bind fun r5 => (idx x r5).bind fun e8 => some e8
def yN (n : Int) (c : Q5) (V : (List Q4)) (Loop : Int) (again12 : Q23 → Option Q5) : Q5 × Int → Option Q5 := fun ⟨l10, t11⟩ => bif (decide (t11 < (List.length (List.replicate (Int.toNat n) false) : Int))) then ( (xT t11 c V Loop).bind fun r14 => (idx l10 t11).bind fun _e17 => again12 ((List.set l10 (Int.toNat t11) r14), (IntKind.i64.wrap (t11 + 1)))) else ( some l10)
def vD (n : Int) (c : Q5) (V : (List Q4)) (Loop : Int) : Option Q5 := chk (decide (0 ≤ n)) <| chk (az (Int.toNat n) 1) <| an (yN n c V Loop) au ((List.replicate (Int.toNat n) false), 0)
def sC (_x : Int) (x2 : Bool) : Option Bool := some x2
def y8 (n : Int) (c : Bool) (again12 : Q23 → Option Q5) : Q5 × Int → Option Q5 := fun ⟨l10, t11⟩ => bif (decide (t11 < (List.length (List.replicate (Int.toNat n) false) : Int))) then ( (sC t11 c).bind fun r14 => (idx l10 t11).bind fun _e17 => again12 ((List.set l10 (Int.toNat t11) r14), (IntKind.i64.wrap (t11 + 1)))) else ( some l10)
def vA (n : Int) (c : Bool) : Option Q5 := chk (decide (0 ≤ n)) <| chk (az (Int.toNat n) 1) <| an (y8 n c) au ((List.replicate (Int.toNat n) false), 0)
def sq (is_ : Bool) (x : Int) : Option Q5 := (vA x is_).bind fun r7 => some r7
def tD (_x : Int) (x2 : Bool) : Option Bool := some x2
def zh (n : Int) (c : Bool) (again12 : Q23 → Option Q5) : Q5 × Int → Option Q5 := fun ⟨l10, t11⟩ => bif (decide (t11 < (List.length (List.replicate (Int.toNat n) false) : Int))) then ( (tD t11 c).bind fun r14 => (idx l10 t11).bind fun _e17 => again12 ((List.set l10 (Int.toNat t11) r14), (IntKind.i64.wrap (t11 + 1)))) else ( some l10)
def qi (n : Int) (c : Bool) : Option Q5 := chk (decide (0 ≤ n)) <| chk (az (Int.toNat n) 1) <| an (zh n c) au ((List.replicate (Int.toNat n) false), 0)
def qa (i : Int) (on_ : Q5) (x : Q5) (x10 : Q5) (V : (List Q4)) (Loop : Int) : Option Bool := (idx x i).bind fun e3 => aT (!e3) false (idx x10 i) fun e5 => aT ((!e3) && e5) default (rN (V, Loop) i) fun r7 => aT ((!e3) && e5) false (idx on_ r7) fun e13 => ab (e5 && e13) fun b15 => ab (e3 || b15) fun b17 => some b17
def sT (i : Int) (x : Q5) (c : Q5) (c14 : Q5) (V : (List Q4)) (Loop : Int) : Option Bool := (qa i x c c14 V Loop).bind fun r3 => some r3
def xn (n : Int) (c : Q5) (c12 : Q5) (c15 : Q5) (V : (List Q4)) (Loop : Int) (again12 : Q23 → Option Q5) : Q5 × Int → Option Q5 := fun ⟨l10, t11⟩ => bif (decide (t11 < (List.length (List.replicate (Int.toNat n) false) : Int))) then ( (sT t11 c c12 c15 V Loop).bind fun r14 => (idx l10 t11).bind fun _e17 => again12 ((List.set l10 (Int.toNat t11) r14), (IntKind.i64.wrap (t11 + 1)))) else ( some l10)
def sO (n : Int) (c : Q5) (c12 : Q5) (c15 : Q5) (V : (List Q4)) (Loop : Int) : Option Q5 := chk (decide (0 ≤ n)) <| chk (az (Int.toNat n) 1) <| an (xn n c c12 c15 V Loop) au ((List.replicate (Int.toNat n) false), 0)
def lb (s1 : Q5) (s2 : Q5) (again6 : Int → Option Bool) (t5 : Int) : Option Bool := bif (decide (t5 < (List.length s1 : Int))) then ( (idx s1 t5).bind fun e10 => (idx s2 t5).bind fun e12 => bif (e10 != e12) then ( some false) else ( again6 (IntKind.i64.wrap (t5 + 1)))) else ( some true)
def eQ (s1 : Q5) (s2 : Q5) : Option Bool := bif ((List.length s1 : Int) != (List.length s2 : Int)) then ( some false) else ( an (lb s1 s2) au 0)
def Cf (w1 : Q13) (c : Q5) (c11 : Q5) (V : (List Q4)) (Loop : Int) (again25 : Q5 → Option Q5) (c22 : Q5) : Option Q5 := (sO (List.length w1.1 : Int) c22 c c11 V Loop).bind fun r26 => (eQ c22 r26).bind fun r31 => bif (!r31) then ( again25 r26) else ( some c22)
def Ap (w1 : Q13) (first : Bool) (c : Q5) (c11 : Q5) (V : (List Q4)) (Loop : Int) : Option Q5 := (qi (List.length w1.1 : Int) first).bind fun r12 => an (Cf w1 c c11 V Loop) au r12
def tH (w1 : Q13) (a : Q5) (b : Q5) : Option Q5 := (Ap w1 false b a w1.1 w1.2).bind fun r13 => some r13
def nF (i : Int) (on_ : Q5) (x : Q5) (x10 : Q5) (V : (List Q4)) (Loop : Int) : Option Bool := (idx x i).bind fun e3 => aT e3 false (idx x10 i) fun e5 => aT (e3 && !e5) default (rN (V, Loop) i) fun r7 => aT (e3 && !e5) false (idx on_ r7) fun e13 => ab (e5 || e13) fun b15 => ab (e3 && b15) fun b17 => some b17
def p6 (i : Int) (x : Q5) (c : Q5) (c14 : Q5) (V : (List Q4)) (Loop : Int) : Option Bool := (nF i x c c14 V Loop).bind fun r3 => some r3
def xM (n : Int) (c : Q5) (c12 : Q5) (c15 : Q5) (V : (List Q4)) (Loop : Int) (again12 : Q23 → Option Q5) : Q5 × Int → Option Q5 := fun ⟨l10, t11⟩ => bif (decide (t11 < (List.length (List.replicate (Int.toNat n) false) : Int))) then ( (p6 t11 c c12 c15 V Loop).bind fun r14 => (idx l10 t11).bind fun _e17 => again12 ((List.set l10 (Int.toNat t11) r14), (IntKind.i64.wrap (t11 + 1)))) else ( some l10)
def uk (n : Int) (c : Q5) (c12 : Q5) (c15 : Q5) (V : (List Q4)) (Loop : Int) : Option Q5 := chk (decide (0 ≤ n)) <| chk (az (Int.toNat n) 1) <| an (xM n c c12 c15 V Loop) au ((List.replicate (Int.toNat n) false), 0)
def w9 (w1 : Q13) (c : Q5) (c11 : Q5) (V : (List Q4)) (Loop : Int) (again25 : Q5 → Option Q5) (c22 : Q5) : Option Q5 := (uk (List.length w1.1 : Int) c22 c c11 V Loop).bind fun r26 => (eQ c22 r26).bind fun r31 => bif (!r31) then ( again25 r26) else ( some c22)
def tn (w1 : Q13) (first : Bool) (c : Q5) (c11 : Q5) (V : (List Q4)) (Loop : Int) : Option Q5 := (qi (List.length w1.1 : Int) first).bind fun r12 => an (w9 w1 c c11 V Loop) au r12
def qh (w1 : Q13) (a : Q5) (b : Q5) : Option Q5 := (tn w1 true b a w1.1 w1.2).bind fun r13 => some r13
def xS (e : Ex) (w3 : Q13) (r29 : Q5) (l40 : Q5) : Option Q5 := bif (e.op == 15) then ( (vx (List.length w3.1 : Int) r29).bind fun r44 => some r44) else ( bif (e.op == 16) then ( (vq (List.length w3.1 : Int) r29 l40).bind fun r50 => some r50) else ( bif (e.op == 17) then ( (vn (List.length w3.1 : Int) r29 l40).bind fun r56 => some r56) else ( bif (e.op == 18) then ( (vy (List.length w3.1 : Int) r29 l40).bind fun r62 => some r62) else ( bif (e.op == 19) then ( (ve (List.length w3.1 : Int) r29 l40).bind fun r68 => some r68) else ( bif (e.op == 20) then ( (vD (List.length w3.1 : Int) r29 w3.1 w3.2).bind fun r74 => some r74) else ( bif (e.op == 21) then ( (sq true (List.length w3.1 : Int)).bind fun r82 => (tH w3 r82 r29).bind fun r87 => some r87) else ( bif (e.op == 22) then ( (sq false (List.length w3.1 : Int)).bind fun r95 => (qh w3 r95 r29).bind fun r100 => some r100) else ( bif (e.op == 23) then ( (tH w3 r29 l40).bind fun r106 => some r106) else ( (qh w3 r29 l40).bind fun r111 => some r111)))))))))
def zO (mY : (Ex × Q13) → Option Q5) (e : Ex) (w3 : Q13) : Option Q5 := (zt e).bind fun r12 => bif r12 then ( (wv (List.length w3.1 : Int) e.op e.n e.at_ e.l w3.1 w3.2).bind fun r16 => some r16) else ( (idx e.l 0).bind fun e23 => ( (mY (e23, w3)).bind fun r29 => ab (fun (s117 : Q5) => xS e w3 r29 s117) fun kk116 => bif (decide (1 < (List.length e.l : Int))) then ( (idx e.l 1).bind fun e121 => (mY (e121, w3)).bind fun r127 => kk116 r127) else ( kk116 [])))
def yK (e : Ex) (w3 : Q13) : Option Q5 :=
 an (fun k (s : (Ex × Q13)) => zO k s.1 s.2) au (e, w3)
def uh (e : Ex) (w3 : Q13) : Option Bool := (yK e w3).bind fun r7 => (idx r7 0).bind fun e12 => some e12
def qB (m : Q1) (e : Ex) (l : Q22) : Option Bool := (fO m l).bind fun r11 => aT r11 default (nI l) fun r14 => aT r11 default (uh e r14) fun r23 => ab (!r23) fun b29 => ab (r11 && b29) fun b31 => some b31
def fG (a : Q4) (b : Q4) (again6 : Int → Option Bool) (i5 : Int) : Option Bool := bif (decide (i5 < (List.length a : Int))) then ( (idx a i5).bind fun e10 => (idx b i5).bind fun e12 => bif (e10 != e12) then ( some false) else ( again6 (IntKind.i64.wrap (i5 + 1)))) else ( some true)
def di (a : Q4) (b : Q4) : Option Bool := bif ((List.length a : Int) != (List.length b : Int)) then ( some false) else ( an (fG a b) au 0)
def q9 (a : (List Q4)) (b : (List Q4)) (again6 : Int → Option Bool) (i5 : Int) : Option Bool := bif (decide (i5 < (List.length a : Int))) then ( (idx a i5).bind fun e10 => (idx b i5).bind fun e16 => (di e10 e16).bind fun r22 => bif (!r22) then ( some false) else ( again6 (IntKind.i64.wrap (i5 + 1)))) else ( some true)
def jJ (a : (List Q4)) (b : (List Q4)) : Option Bool := bif ((List.length a : Int) != (List.length b : Int)) then ( some false) else ( an (q9 a b) au 0)
def ji : Option Bool := (fZ [118, 97, 114, 32, 120, 32, 48, 32, 50, 32, 48, 59, 32, 112, 114, 111, 99, 32, 80, 32, 123, 32, 120, 32, 60, 32, 50, 32, 58, 32, 120, 32, 61, 32, 120, 32, 43, 32, 49, 59, 32, 125]).bind fun r3 => (Dm (([([0, 5] : List Int), ([] : List Int)] : List Q4), ([([7] : List Int)] : List Q4))).bind fun r49 => (nI (([([0] : List Int), ([1] : List Int)] : List Q4), ([([2] : List Int)] : List Q4))).bind fun r59 => aT r3.2 default (qB r3.1 (Ex.mk 22 0 0 ([(Ex.mk 9 0 0 ([(Ex.mk 2 0 0 []), (Ex.mk 1 2 0 [])] : List Ex))] : List Ex)) (([([0] : List Int), ([1] : List Int)] : List Q4), ([([2] : List Int)] : List Q4))) fun r67 => ab (r3.2 && r67) fun b73 => aT b73 default (fO r3.1 (([([0] : List Int), ([1] : List Int)] : List Q4), ([([2] : List Int)] : List Q4))) fun r75 => ab (b73 && r75) fun b81 => aT b81 default (fO r3.1 (([([0] : List Int)] : List Q4), ([([1] : List Int)] : List Q4))) fun r91 => ab (!r91) fun b97 => ab (b81 && b97) fun b99 => aT b99 default (qB r3.1 (Ex.mk 13 0 0 []) (([([0] : List Int), ([1] : List Int)] : List Q4), ([([2] : List Int)] : List Q4))) fun r101 => ab (!r101) fun b107 => ab (b99 && b107) fun b109 => aT b109 default (fO r3.1 (([([0] : List Int), ([1] : List Int)] : List Q4), [])) fun r111 => ab (!r111) fun b117 => ab (b109 && b117) fun b119 => aT b119 default (jJ r49.1 ([([0] : List Int), ([] : List Int)] : List Q4)) fun r127 => ab (b119 && r127) fun b133 => aT b133 default (jJ r49.2 ([([] : List Int)] : List Q4)) fun r139 => ab (b133 && r139) fun b145 => ab (r59.2 == 2) fun b147 => ab (b145 && b147) fun b149 => ab ((List.length r59.1 : Int) == 3) fun b151 => ab (b149 && b151) fun b153 => some b153
def aA (is_ : Bool) : Option Int := bif is_ then ( some 1) else ( some 0)
def fq (e : Ex) (v3 : Q4) (a6 : Int) (b8 : Int) : Option Int := bif (e.op == 1) then ( some e.n) else ( bif (e.op == 2) then ( ab (decide (0 ≤ e.n)) fun b11 => ab (decide (e.n < (List.length v3 : Int))) fun b13 => ab (b11 && b13) fun b15 => bif b15 then ( (idx v3 e.n).bind fun e18 => some e18) else ( some 0)) else ( bif (e.op == 3) then ( some (IntKind.i64.wrap (a6 + b8))) else ( bif (e.op == 4) then ( some (IntKind.i64.wrap (a6 - b8))) else ( bif (e.op == 5) then ( some (IntKind.i64.wrap (a6 * b8))) else ( bif (e.op == 6) then ( some (IntKind.i64.wrap (0 - a6))) else ( bif (e.op == 7) then ( (aA (a6 == b8)).bind fun r25 => some r25) else ( bif (e.op == 8) then ( (aA (a6 != b8)).bind fun r29 => some r29) else ( bif (e.op == 9) then ( (aA (decide (a6 < b8))).bind fun r33 => some r33) else ( bif (e.op == 10) then ( (aA (decide (a6 ≤ b8))).bind fun r37 => some r37) else ( bif (e.op == 11) then ( (aA (decide (b8 < a6))).bind fun r41 => some r41) else ( bif (e.op == 12) then ( (aA (decide (b8 ≤ a6))).bind fun r45 => some r45) else ( bif (e.op == 13) then ( some 1) else ( bif (e.op == 15) then ( (aA (a6 == 0)).bind fun r50 => some r50) else ( bif (e.op == 16) then ( ab (a6 == 1) fun b54 => ab (b8 == 1) fun b56 => ab (b54 && b56) fun b58 => (aA b58).bind fun r60 => some r60) else ( bif (e.op == 17) then ( ab (a6 == 1) fun b64 => ab (b8 == 1) fun b66 => ab (b64 || b66) fun b68 => (aA b68).bind fun r70 => some r70) else ( bif (e.op == 18) then ( ab (a6 == 0) fun b74 => ab (b8 == 1) fun b76 => ab (b74 || b76) fun b78 => (aA b78).bind fun r80 => some r80) else ( bif (e.op == 19) then ( (aA (a6 == b8)).bind fun r84 => some r84) else ( some 0))))))))))))))))))
def qN (bE : (Ex × Q4) → Option Int) (e : Ex) (v3 : Q4) (a6 : Int) : Option Int := ab (fun (s88 : Int) => fq e v3 a6 s88) fun kk87 => bif (decide (1 < (List.length e.l : Int))) then ( (idx e.l 1).bind fun e90 => (bE (e90, v3)).bind fun r96 => kk87 r96) else ( kk87 0)
def fM (bE : (Ex × Q4) → Option Int) (e : Ex) (v3 : Q4) : Option Int := ab (fun (s100 : Int) => qN bE e v3 s100) fun kk99 => bif (decide (0 < (List.length e.l : Int))) then ( (idx e.l 0).bind fun e102 => (bE (e102, v3)).bind fun r108 => kk99 r108) else ( kk99 0)
def dI (e : Ex) (v3 : Q4) : Option Int :=
 an (fun k (s : (Ex × Q4)) => fM k s.1 s.2) au (e, v3)
def dX (m : Q1) (v11 : Q4) (again13 : Q21 → Option Q4) : Q4 × Int → Option Q4 := fun ⟨out9, i12⟩ => bif (decide (i12 < (List.length m.2.2.2.2 : Int))) then ( (idx m.2.2.2.2 i12).bind fun e15 => (dI e15.2.1 v11).bind fun r23 => bif (r23 == 1) then ( chk (az (List.length out9 + List.length ([i12] : List Int)) 8) <| again13 ((out9 ++ ([i12] : List Int)), (IntKind.i64.wrap (i12 + 1)))) else ( again13 (out9, (IntKind.i64.wrap (i12 + 1))))) else ( some out9)
def il (m : Q1) (v11 : Q4) : Option Q4 := an (dX m v11) au ([], 0)
def dE (m : Q1) (l23 : Q4) (again62 : Int → Option Q21) (i61 : Int) : Option Q21 := bif (decide (i61 < (List.length l23 : Int))) then ( (idx l23 i61).bind fun e66 => (idx m.2.1 i61).bind fun e68 => ab (decide (e66 < e68.1)) fun b70 => aT (!b70) 0 (idx l23 i61) fun e72 => aT (!b70) (0, 0) (idx m.2.1 i61) fun e74 => ab (decide (e74.2 < e72)) fun b76 => ab (b70 || b76) fun b78 => bif b78 then ( some ([], 6)) else ( again62 (IntKind.i64.wrap (i61 + 1)))) else ( some (l23, 0))
def fl (m : Q1) (v11 : Q4) (k : Int) (again25 : Q21 → Option Q21) : Q4 × Int → Option Q21 := fun ⟨l23, i24⟩ => (idx m.2.2.2.2 k).bind fun e26 => bif (decide (i24 < (List.length e26.2.2 : Int))) then ( (idx m.2.2.2.2 k).bind fun e35 => (idx e35.2.2 i24).bind fun e43 => (dI e43.2 v11).bind fun r54 => (idx l23 e43.1).bind fun _e57 => again25 ((List.set l23 (Int.toNat e43.1) r54), (IntKind.i64.wrap (i24 + 1)))) else ( an (dE m l23) au 0)
def gQ (m : Q1) (v11 : Q4) (k : Int) : Option Q21 := ab (decide (k < 0)) fun b9 => ab (decide ((List.length m.2.2.2.2 : Int) ≤ k)) fun b11 => ab (b9 || b11) fun b13 => bif b13 then ( some ([], 10)) else ( chk (az (List.length ([] : List Int) + List.length v11) 8) <| an (fl m v11 k) au ((([] : List Int) ++ v11), 0))
def dM (l : (List Q4)) (v3 : Q4) (again5 : Int → Option Int) (i4 : Int) : Option Int := bif (decide (i4 < (List.length l : Int))) then ( (idx l i4).bind fun e7 => (di e7 v3).bind fun r13 => bif r13 then ( some i4) else ( again5 (IntKind.i64.wrap (i4 + 1)))) else ( some (-1))
def dx (l : (List Q4)) (v3 : Q4) : Option Int := an (dM l v3) au 0
def fv (m : Q1) (v11 : Q4) (r9 : Q4) (again30 : Q13 → Option Q13) : (List Q4) × Int → Option Q13 := fun ⟨out26, i29⟩ => bif (decide (i29 < (List.length r9 : Int))) then ( (idx r9 i29).bind fun e34 => (gQ m v11 e34).bind fun r36 => bif (r36.2 != 0) then ( some ([], r36.2)) else ( (dx out26 r36.1).bind fun r42 => bif (decide (r42 < 0)) then ( chk (az (List.length out26 + List.length ([r36.1] : List Q4)) 24) <| again30 ((out26 ++ ([r36.1] : List Q4)), (IntKind.i64.wrap (i29 + 1)))) else ( again30 (out26, (IntKind.i64.wrap (i29 + 1)))))) else ( some (out26, 0))
def fj (m : Q1) (v11 : Q4) : Option Q13 := (il m v11).bind fun r9 => bif ((List.length r9 : Int) == 0) then ( chk (az (List.length ([] : List Int) + List.length v11) 8) <| some (([(([] : List Int) ++ v11)] : List Q4), 0)) else ( an (fv m v11 r9) au ([], 0))
def qm (l : (List Q4)) (v3 : Q4) (again5 : Int → Option Int) (i4 : Int) : Option Int := bif (decide (i4 < (List.length l : Int))) then ( (idx l i4).bind fun e7 => (di e7 v3).bind fun r13 => bif r13 then ( some i4) else ( again5 (IntKind.i64.wrap (i4 + 1)))) else ( some (-1))
def jg (l : (List Q4)) (v3 : Q4) : Option Int := an (qm l v3) au 0
def fe (with_ : (Str × Q4 × Q4 × Int)) (r5 : Bool) (r8 : (Q1 × Bool)) (l38 : (List Q4)) (r67 : Int) (led119 : Bool) : Option Bool := oO (r5 && !led119) (eK 0 r67 (List.length (List.set (([] : List Q4) ++ l38) (Int.toNat (Int.tmod (IntKind.i64.wrap with_.2.2.2) (List.length l38 : Int))) with_.2.2.1))) <| oO (r5 && !led119) (eK r67 ((List.length (List.set (([] : List Q4) ++ l38) (Int.toNat (Int.tmod (IntKind.i64.wrap with_.2.2.2) (List.length l38 : Int))) with_.2.2.1)) : Int) (List.length (List.set (([] : List Q4) ++ l38) (Int.toNat (Int.tmod (IntKind.i64.wrap with_.2.2.2) (List.length l38 : Int))) with_.2.2.1))) <| aT (r5 && !led119) default (fO r8.1 ((bO (List.set (([] : List Q4) ++ l38) (Int.toNat (Int.tmod (IntKind.i64.wrap with_.2.2.2) (List.length l38 : Int))) with_.2.2.1) 0 r67), (bO (List.set (([] : List Q4) ++ l38) (Int.toNat (Int.tmod (IntKind.i64.wrap with_.2.2.2) (List.length l38 : Int))) with_.2.2.1) r67 ((List.length (List.set (([] : List Q4) ++ l38) (Int.toNat (Int.tmod (IntKind.i64.wrap with_.2.2.2) (List.length l38 : Int))) with_.2.2.1)) : Int)))) fun r130 => ab (!r130) fun b136 => ab (led119 || b136) fun b138 => ab (r5 && b138) fun b140 => some b140
def dp (with_ : (Str × Q4 × Q4 × Int)) (r5 : Bool) (r8 : (Q1 × Bool)) (again42 : Q13 → Option Bool) : (List Q4) × Int → Option Bool := fun ⟨l38, i41⟩ => bif (decide (i41 < (List.length with_.2.1 : Int))) then ( (idx l38 (IntKind.i64.wrap ((List.length l38 : Int) - 1))).bind fun e46 => (fj r8.1 e46).bind fun r52 => bif (r52.2 != 0) then ( some r5) else ( (idx with_.2.1 i41).bind fun e58 => chk ((List.length r52.1 : Int) != 0) <| (idx r52.1 (Int.tmod (IntKind.i64.wrap e58) (List.length r52.1 : Int))).bind fun e61 => (dx l38 e61).bind fun r67 => bif (decide (r67 < 0)) then ( chk (az (List.length l38 + List.length ([e61] : List Q4)) 24) <| again42 ((l38 ++ ([e61] : List Q4)), (IntKind.i64.wrap (i41 + 1)))) else ( chk (eK 0 r67 (List.length l38)) <| chk (eK r67 ((List.length l38) : Int) (List.length l38)) <| (fO r8.1 ((bO l38 0 r67), (bO l38 r67 ((List.length l38) : Int)))).bind fun r90 => bif (!r90) then ( some false) else ( chk ((List.length l38 : Int) != 0) <| chk (az (List.length ([] : List Q4) + List.length l38) 24) <| (idx (([] : List Q4) ++ l38) (Int.tmod (IntKind.i64.wrap with_.2.2.2) (List.length l38 : Int))).bind fun _e101 => ab ((Int.tmod (IntKind.i64.wrap with_.2.2.2) (List.length l38 : Int)) == 0) fun b108 => aT b108 default (di with_.2.2.1 r8.1.2.2.1) fun r110 => ab (b108 && r110) fun b116 => ab (fun (s143 : Bool) => fe with_ r5 r8 l38 r67 s143) fun kk142 => bif (decide (0 < (Int.tmod (IntKind.i64.wrap with_.2.2.2) (List.length l38 : Int)))) then ( (idx l38 (IntKind.i64.wrap ((Int.tmod (IntKind.i64.wrap with_.2.2.2) (List.length l38 : Int)) - 1))).bind fun e147 => (fj r8.1 e147).bind fun r153 => (jg r153.1 with_.2.2.1).bind fun r158 => kk142 (decide (0 ≤ r158))) else ( kk142 b116))))) else ( some r5)
def dU (with_ : (Str × Q4 × Q4 × Int)) : Option Bool := (ji).bind fun r5 => (fZ with_.1).bind fun r8 => ab (!r8.2) fun b24 => ab (decide (40 < (List.length with_.2.1 : Int))) fun b26 => ab (b24 || b26) fun b28 => ab (decide (40 < (List.length with_.2.2.1 : Int))) fun b30 => ab (b28 || b30) fun b32 => bif b32 then ( some r5) else ( an (dp with_ r5 r8) au (([r8.1.2.2.1] : List Q4), 0))
end
end Go.Proofs.YtpnogcmollnjeaaGreatDoor
namespace Go.Proofs
open Go.Shelf
def Tryz.uc : Go.Shelf.Ren := ⟨fun | 171 => 92 | 243 => 100 | 246 => 106 | 283 => 107 | 284 => 108 | 285 => 109 | 286 => 110 | 129 => 112 | 317 => 111 | 318 => 113 | 319 => 114 | 320 => 115 | 337 => 116 | 338 => 117 | n => n, fun | 3 => 3 | 9 => 9 | 2 => 2 | 4 => 4 | 171 => 160 | 0 => 0 | 53 => 161 | 37 => 42 | 5 => 5 | 173 => 164 | 212 => 167 | 51 => 168 | 20 => 20 | 213 => 169 | 46 => 170 | 232 => 173 | 233 => 174 | n => n, fun | 17 => 0 | 18 => 1 | 19 => 2 | n => n⟩
theorem Tryz.JP : Go.Proofs.LaysM.n171 Tryz.prog Tryz.uc := {
 mixed := by kernel_rfl
 f129 := Tryz.func112.trans (congrArg some (by kernel_rfl))
 f171 := Tryz.func92.trans (congrArg some (by kernel_rfl))
 f243 := Tryz.func100.trans (congrArg some (by kernel_rfl))
 f246 := Tryz.func106.trans (congrArg some (by kernel_rfl))
 f283 := Tryz.func107.trans (congrArg some (by kernel_rfl))
 f284 := Tryz.func108.trans (congrArg some (by kernel_rfl))
 f285 := Tryz.func109.trans (congrArg some (by kernel_rfl))
 f286 := Tryz.func110.trans (congrArg some (by kernel_rfl))
 f317 := Tryz.func111.trans (congrArg some (by kernel_rfl))
 f318 := Tryz.func113.trans (congrArg some (by kernel_rfl))
 f319 := Tryz.func114.trans (congrArg some (by kernel_rfl))
 f320 := Tryz.func115.trans (congrArg some (by kernel_rfl))
 f337 := Tryz.func116.trans (congrArg some (by kernel_rfl))
 f338 := Tryz.func117.trans (congrArg some (by kernel_rfl))
 t0 := Tryz.underlying0
 a0 := Tryz.isAgg0
 z0 := Tryz.sizeOf0
 v0 := Tryz.zeroValue0
 t2 := Tryz.underlying2
 a2 := Tryz.isAgg2
 z2 := Tryz.sizeOf2
 v2 := Tryz.zeroValue2
 t3 := Tryz.underlying3
 a3 := Tryz.isAgg3
 z3 := Tryz.sizeOf3
 v3 := Tryz.zeroValue3
 t4 := Tryz.underlying4
 a4 := Tryz.isAgg4
 z4 := Tryz.sizeOf4
 v4 := Tryz.zeroValue4
 t5 := Tryz.underlying5
 a5 := Tryz.isAgg5
 z5 := Tryz.sizeOf5
 v5 := Tryz.zeroValue5
 t9 := Tryz.underlying9
 a9 := Tryz.isAgg9
 z9 := Tryz.sizeOf9
 v9 := Tryz.zeroValue9
 t20 := Tryz.underlying20
 a20 := Tryz.isAgg20
 z20 := Tryz.sizeOf20
 v20 := Tryz.zeroValue20
 t37 := Tryz.underlying42
 a37 := Tryz.isAgg42
 z37 := Tryz.sizeOf42
 v37 := Tryz.zeroValue42
 t46 := Tryz.underlying170
 a46 := Tryz.isAgg170
 z46 := Tryz.sizeOf170
 v46 := Tryz.zeroValue170
 t51 := Tryz.underlying168
 a51 := Tryz.isAgg168
 z51 := Tryz.sizeOf168
 v51 := Tryz.zeroValue168
 t53 := Tryz.underlying161
 a53 := Tryz.isAgg161
 z53 := Tryz.sizeOf161
 v53 := Tryz.zeroValue161
 t171 := Tryz.underlying160
 a171 := Tryz.isAgg160
 z171 := Tryz.sizeOf160
 v171 := Tryz.zeroValue160
 t173 := Tryz.underlying164
 a173 := Tryz.isAgg164
 z173 := Tryz.sizeOf164
 v173 := Tryz.zeroValue164
 t212 := Tryz.underlying167
 a212 := Tryz.isAgg167
 z212 := Tryz.sizeOf167
 v212 := Tryz.zeroValue167
 t213 := Tryz.underlying169
 a213 := Tryz.isAgg169
 z213 := Tryz.sizeOf169
 t232 := Tryz.underlying173
 a232 := Tryz.isAgg173
 z232 := Tryz.sizeOf173
 v232 := Tryz.zeroValue173
 t233 := Tryz.underlying174
 a233 := Tryz.isAgg174
 z233 := Tryz.sizeOf174
 v233 := Tryz.zeroValue174
 g17 := by kernel_rfl
 g18 := by kernel_rfl
 g19 := by kernel_rfl
 i0 := by kernel_rfl
 i2 := by kernel_rfl
 i3 := by kernel_rfl
 i4 := by kernel_rfl
 i5 := by kernel_rfl
 i9 := by kernel_rfl
 i20 := by kernel_rfl
 i37 := by kernel_rfl
 i46 := by kernel_rfl
 i51 := by kernel_rfl
 i53 := by kernel_rfl
 i171 := by kernel_rfl
 i173 := by kernel_rfl
 i212 := by kernel_rfl
 i232 := by kernel_rfl
 i233 := by kernel_rfl
 m17 := by kernel_rfl
 m18 := by kernel_rfl
 m19 := by kernel_rfl }
end Go.Proofs
namespace Go.Proofs.YtpnogcmollnjeaaGreatDoor
open Go.Proofs Go.Shelf Go.Lib
theorem Kl {P : Program} {Γg : Ctx} {ρ : Go.Shelf.Ren} (L : Go.Proofs.LaysM.n171 P ρ) (hE : Enters P (ρ.f 171)) {G : Nat} {tab : List Int} (hg : P.globalNamed "internal/strconv.uint64pow10" = some G) (hΓ : gl G (tab.map (Value.int .u64)) ∈ Γg) (ht : Lib.pow10Tab = tab)
  (m : Int → Option Str) (hm : ∀ n r, m n = some r → ze n = true ∧ r = Lib.itoa n) : (⟨ρ.f 171, [.int .i64], .str, [], fun s => m s⟩ : Ent).Ok P Γg := by
 refine ⟨hE, fun s r hr vs N I X Φ w hS hs hΦ => ?_⟩
 obtain ⟨v2, vs2, D3, D4, I3, I4, X3, X4, N2, rfl, ⟨x, rfl, rfl, rfl, rfl, rfl⟩, ⟨rfl, rfl, rfl, rfl, rfl⟩, hD, rfl, rfl⟩ := hS
 obtain ⟨hn, rfl⟩ := hm s r hr
 have hx : x = s := by
  have hD : [(⟨.i .i64, s⟩ : Dyn)] = [⟨.i .i64, x⟩] := hD
  simp only [List.cons.injEq, and_true] at hD
  cases hD
  rfl
 subst hx
 obtain ⟨h0, h1⟩ := B8.1 hn
 have hs : Sat Φ w := hs
 obtain ⟨i, hi⟩ := List.getElem?_of_mem (hΦ _ hΓ)
 obtain ⟨_, t, fr, hb⟩ := hs.gl0 hi
 have htab : Lib.TabIs P w "internal/strconv.uint64pow10" .u64 Lib.pow10Tab := by
  unfold Lib.TabIs World.var?
  rw [hg, ht]
  simp [hb]
 refine Calls.mono (Any.strconv_Itoa L x h0 h1 w htab) ?_
 rintro e w' ⟨rfl, k, os, rfl⟩
 refine ⟨[], [], [⟨.s, Lib.itoa x⟩], [], [], [], [], [], ⟨_, rfl, rfl, rfl, rfl, rfl⟩, ⟨rfl, rfl, rfl, rfl⟩, rfl, ?_⟩
 refine Sat.ext (Γ := Φ) hs ⟨rfl, rfl, rfl, ?_, fun b hb => ?_⟩
 ·simp [Sort.grow, World.drewN]
 ·simp [Sort.grow, World.drewN, Array.getElem?_append, hb]
end Go.Proofs.YtpnogcmollnjeaaGreatDoor
namespace Go.Proofs
open Go.Shelf
def Tryz.Ag : Go.Shelf.Ren := ⟨fun | 4 => 50 | n => n, fun | 22 => 25 | 25 => 31 | 3 => 3 | 4 => 4 | 9 => 9 | 20 => 20 | 0 => 0 | n => n, fun | n => n⟩
theorem Tryz.OP : Go.Proofs.Lays8.n4 Tryz.prog Tryz.Ag := {
 mixed := by kernel_rfl
 f4 := ⟨Tryz.f50.name, by decide, Tryz.func50.trans (congrArg some (by kernel_rfl))⟩
 t0 := Tryz.underlying0
 a0 := Tryz.isAgg0
 z0 := Tryz.sizeOf0
 v0 := Tryz.zeroValue0
 t3 := Tryz.underlying3
 a3 := Tryz.isAgg3
 z3 := Tryz.sizeOf3
 v3 := Tryz.zeroValue3
 t4 := Tryz.underlying4
 a4 := Tryz.isAgg4
 z4 := Tryz.sizeOf4
 v4 := Tryz.zeroValue4
 t9 := Tryz.underlying9
 a9 := Tryz.isAgg9
 z9 := Tryz.sizeOf9
 v9 := Tryz.zeroValue9
 t20 := Tryz.underlying20
 a20 := Tryz.isAgg20
 z20 := Tryz.sizeOf20
 v20 := Tryz.zeroValue20
 t22 := Tryz.underlying25
 a22 := Tryz.isAgg25
 z22 := Tryz.sizeOf25
 v22 := Tryz.zeroValue25 }
end Go.Proofs
namespace Go.Proofs.YtpnogcmollnjeaaGreatDoor
open Go.Proofs Go.Shelf Go.Lib
theorem Jh {P : Program} {ρ : Go.Shelf.Ren} (L : Go.Proofs.Lays8.n4 P ρ) {z : Value} {bytes : Nat} (hti : TI P (ρ.t 25) 1 bytes z) {α : Type} (A : Rep α) (hA : A.n = 1) (hzc : z.cells.size = 1) (hbp : 0 < bytes) (n : Nat) (hroom : az n bytes = true) (w : World) :
  jw P (ρ.f 4) [.slice none 0 0, .int .i64 (n : Int)] w fun v w' => ∃ p : SLV, v = sl p ∧ Ext w w' ∧ (∀ b ∈ slR p, b < w'.heap.size ∧ w.heap.size ≤ b) ∧ ∀ M' : Nat → Prop, Own A (ρ.t 25) M' w' (sl p) ([] : List α) (slR p) := by
 obtain ⟨i, hi, hsz, hby, hz⟩ := hti.out
 simp only [az, Bool.and_eq_true] at hroom
 have hb1 := Nat.le_of_ble_eq_true hroom.1
 have hb2 := Nat.le_of_ble_eq_true hroom.2
 have hb3 : n ≤ n * bytes := Nat.le_mul_of_pos_right n hbp
 by_cases h0 : n = 0
 ·subst h0
  refine Calls.mono (Go.Proofs.Any8.slices_Grow_room L none 0 0 0 w (by omega) (by omega) (by omega) (by omega)) ?_
  rintro e w' ⟨rfl, rfl⟩
  exact ⟨(none, 0, 0), rfl, Ext.refl _, (fun b hb => by cases hb), fun M' => Own.nil.qS⟩
 ·refine Calls.mono (Go.Proofs.Any8.slices_Grow_grow L i z hi hz (by rw [hsz]; omega) none 0 0 n [] w (by omega) (by omega) (by rw [hby]; simpa using hb1) (by omega) (by simp) (fun _ => rfl) (fun a h => by cases h)) ?_
  rintro e w' ⟨rfl, rfl⟩
  have hcm : grownCap w (0 + n) 0 (ρ.t 25) ≤ maxLen := grownCap_le_maxLen w (0 + n) 0 _ (by simp only [maxLen]; omega)
  have hge := grownCap_ge w (0 + n) 0 (ρ.t 25)
  refine ⟨(some ⟨w.heap.size, 0, none⟩, 0, grownCap w (0 + n) 0 (ρ.t 25)), rfl, ⟨rfl, rfl, rfl, by simp, fun b hb => heap_alloc_old w.drew _ hb⟩, fun b hb => ?_, fun M' => ?_⟩
  ·have := qZ hb
   rw [pN] at this
   simp only [List.mem_singleton] at this
   subst this; simp
  ·have hO : OSl A (ρ.t 25) M' (w.drew.alloc (.cells (([] : List Value).toArray ++ Builtin.zeroCells z.cells (0 + n - 0) ++ Builtin.zeroCells z.cells (grownCap w (0 + n) 0 (ρ.t 25) - (0 + n))) (ρ.t 25))) (.slice (some ⟨w.heap.size, 0, none⟩) 0 (grownCap w (0 + n) 0 (ρ.t 25))) ([] : List α) := by
    refine ⟨[], ⟨by simp, .inr ⟨w.heap.size, _, _, rfl, Nat.zero_le _, heap_alloc_new w.drew _, Nat.zero_le _, hcm, ?_, by simp⟩⟩, ARd.nil⟩
    simp only [Array.size_append, List.size_toArray, size_zeroCells, hzc, hA, List.length_nil]
    omega
   exact (Own.of hO).qS
theorem KW {P : Program} {Γg : Ctx} {ρ : Go.Shelf.Ren} (L : Go.Proofs.Lays8.n4 P ρ) (hE : Enters P (ρ.f 4)) {z : Value} {bytes : Nat} {t : Ty} (hti : TI P (ρ.t 25) 1 bytes z) (ht : t.rep.n = 1) (hzc : z.cells.size = 1) (hbp : 0 < bytes)
  (m : Int → Option (List t.T)) (hm : ∀ n r, m n = some r → 0 ≤ n ∧ az n.toNat bytes = true ∧ r = []) :
  (⟨ρ.f 4, [.cst (.raw (.slice none 0 0)), .int .i64], .own t (ρ.t 25) true, [], fun s => m s⟩ : Ent).Ok P Γg := by
 refine ⟨hE, fun s r hr vs N I X Φ w hS hs hΓ => ?_⟩
 obtain ⟨v1, vs1, D1, D2, I1, I2, X1, X2, N1, rfl, ⟨⟨rfl, _⟩, rfl, rfl, rfl, rfl⟩, ⟨v2, vs2, D3, D4, I3, I4, X3, X4, N2, rfl, ⟨x, rfl, rfl, rfl, rfl, rfl⟩, ⟨rfl, rfl, rfl, rfl, rfl⟩, rfl, rfl, rfl⟩, hD, rfl, rfl⟩ := hS
 obtain ⟨h0, h1, rfl⟩ := hm s r hr
 have hx : x = s := by
  have hD : [(⟨.i .i64, s⟩ : Dyn)] = [⟨.i .i64, x⟩] := hD
  simp only [List.cons.injEq, and_true] at hD
  cases hD
  rfl
 subst hx
 have hn : ((x.toNat : Nat) : Int) = x := Int.toNat_of_nonneg h0
 have key := Jh L hti t.rep ht hzc hbp x.toNat h1 w
 rw [hn] at key
 refine jw.mono key ?_
 rintro v w' ⟨p, rfl, hX, hR, hO⟩
 refine ⟨[{ nm0 with v := p, y := ⟨.l t, []⟩ }], [{ nm0 with v := p, y := ⟨.l t, []⟩ }], [⟨.l t, []⟩], [], [(true, mH t.rep (ρ.t 25) p [] True)], [], [], [], ⟨_, [], rfl, (fun q h => by cases h), rfl, rfl, rfl, rfl, rfl⟩, ⟨rfl, rfl, rfl, rfl⟩, rfl, ?_⟩
 exact Sat.push (new := mH t.rep (ρ.t 25) p [] True) hs hX hR (fun M' _ => ⟨hO M', trivial⟩)
end Go.Proofs.YtpnogcmollnjeaaGreatDoor
namespace Go.Proofs.YtpnogcmollnjeaaGreatDoor
open Go.Proofs
noncomputable section
set_option maxRecDepth 100000
theorem LN : JD Tryz.prog 105 := fun v w => by
 rw [run_callFunc_extern Tryz.func105 (by kernel_rfl) (by kernel_rfl) (by kernel_rfl) (e := Extern.AbiNoEscape.same) (by kernel_rfl)]
 rfl
def X0 : Cx := ⟨Tryz.prog, [(2, (.i .i64)), (3, (.i .i64)), (4, .bo), (5, (.i .u8)), (6, (.i .u8)), (7, (.p (.i .i64) (.p (.i .i64) (.p .bo (.i .u8))))), (8, (.p (.i .i64) (.p (.i .i64) (.p .bo (.i .u8))))), (9, .s), (10, .s), (11, .s), (12, (.i .u64)), (13, (.p .s (.i .u64))), (14, (.p .s (.i .u64))), (21, (.i .i32)), (22, (.l .ex)), (23, (.p (.i .i64) (.p (.i .i64) (.p (.i .i64) (.l .ex))))), (24, .ex), (25, (.l (.l (.i .i64)))), (26, (.p (.l (.l (.i .i64))) (.l (.l (.i .i64))))), (27, (.p (.l (.l (.i .i64))) (.l (.l (.i .i64))))), (29, (.l .s)), (30, (.l (.p (.i .i64) (.i .i64)))), (31, (.l (.i .i64))), (32, (.l (.p (.i .i64) (.p .ex (.l (.p (.i .i64) .ex)))))), (33, (.p (.l .s) (.p (.l (.p (.i .i64) (.i .i64))) (.p (.l (.i .i64)) (.p (.l .s) (.l (.p (.i .i64) (.p .ex (.l (.p (.i .i64) .ex)))))))))), (34, (.p (.l .s) (.p (.l (.p (.i .i64) (.i .i64))) (.p (.l (.i .i64)) (.p (.l .s) (.l (.p (.i .i64) (.p .ex (.l (.p (.i .i64) .ex)))))))))), (42, (.l (.i .u8))), (43, (.p .s (.p (.l (.i .u8)) (.p (.l (.i .i64)) (.i .u8))))), (44, (.p .s (.p (.l (.i .u8)) (.p (.l (.i .i64)) (.i .u8))))), (50, (.p .s (.p .ex (.p (.p (.l (.l (.i .i64))) (.l (.l (.i .i64)))) (.p (.i .u8) (.i .u8)))))), (51, (.p .s (.p .ex (.p (.p (.l (.l (.i .i64))) (.l (.l (.i .i64)))) (.p (.i .u8) (.i .u8)))))), (52, (.p (.i .i64) (.i .i64))), (53, (.p (.i .i64) (.i .i64))), (56, (.p (.l (.l (.i .i64))) (.i .i64))), (57, (.p (.l (.l (.i .i64))) (.i .i64))), (67, (.l .bo)), (69, (.i .i64)), (82, (.l (.p (.i .i64) (.p .s (.p (.i .i64) (.i .i64)))))), (85, (.p (.l (.p (.i .i64) (.p .s (.p (.i .i64) (.i .i64))))) (.p (.i .i64) (.p (.p (.l .s) (.p (.l (.p (.i .i64) (.i .i64))) (.p (.l (.i .i64)) (.p (.l .s) (.l (.p (.i .i64) (.p .ex (.l (.p (.i .i64) .ex))))))))) (.p (.i .i64) (.i .i64)))))), (86, (.p (.l (.p (.i .i64) (.p .s (.p (.i .i64) (.i .i64))))) (.p (.i .i64) (.p (.p (.l .s) (.p (.l (.p (.i .i64) (.i .i64))) (.p (.l (.i .i64)) (.p (.l .s) (.l (.p (.i .i64) (.p .ex (.l (.p (.i .i64) .ex))))))))) (.p (.i .i64) (.i .i64)))))), (87, (.p (.i .i64) (.p .s (.p (.i .i64) (.i .i64))))), (88, (.p (.i .i64) (.p .s (.p (.i .i64) (.i .i64))))), (96, (.l (.l (.l (.i .i64))))), (98, (.p (.i .i64) (.i .i64))), (110, (.l (.p (.i .i64) .ex))), (111, (.p (.i .i64) (.p .ex (.l (.p (.i .i64) .ex))))), (112, (.p (.i .i64) (.p .ex (.l (.p (.i .i64) .ex))))), (113, (.p (.i .i64) .ex)), (114, (.p (.i .i64) .ex)), (122, (.l .bo)), (137, (.p (.i .i64) (.i .i64))), (150, (.p (.l (.p (.i .i64) (.p .s (.p (.i .i64) (.i .i64))))) (.p (.i .i64) (.p (.l .s) (.p (.i .i64) (.i .i64)))))), (151, (.p (.l (.p (.i .i64) (.p .s (.p (.i .i64) (.i .i64))))) (.p (.i .i64) (.p (.l .s) (.p (.i .i64) (.i .i64)))))), (160, (.p (.i .u8) (.p (.i .u8) (.p (.i .u8) (.p (.i .u8) (.p (.i .u8) (.p (.i .u8) (.p (.i .u8) (.p (.i .u8) (.p (.i .u8) (.p (.i .u8) (.p (.i .u8) (.p (.i .u8) (.p (.i .u8) (.p (.i .u8) (.p (.i .u8) (.p (.i .u8) (.p (.i .u8) (.p (.i .u8) (.p (.i .u8) (.p (.i .u8) (.p (.i .u8) (.p (.i .u8) (.p (.i .u8) (.i .u8))))))))))))))))))))))))), (161, (.i .u64)), (167, (.p (.i .u64) (.p (.i .u64) (.p (.i .u64) (.p (.i .u64) (.p (.i .u64) (.p (.i .u64) (.p (.i .u64) (.p (.i .u64) (.p (.i .u64) (.p (.i .u64) (.p (.i .u64) (.p (.i .u64) (.p (.i .u64) (.p (.i .u64) (.p (.i .u64) (.p (.i .u64) (.p (.i .u64) (.p (.i .u64) (.p (.i .u64) (.i .u64))))))))))))))))))))), (168, (.i .u32)), (169, (.p (.i .u8) (.p (.i .u8) (.p (.i .u8) (.p (.i .u8) (.p (.i .u8) (.p (.i .u8) (.p (.i .u8) (.p (.i .u8) (.p (.i .u8) (.p (.i .u8) (.p (.i .u8) (.p (.i .u8) (.p (.i .u8) (.p (.i .u8) (.p (.i .u8) (.p (.i .u8) (.p (.i .u8) (.p (.i .u8) (.p (.i .u8) (.p (.i .u8) (.p (.i .u8) (.p (.i .u8) (.p (.i .u8) (.p (.i .u8) (.p (.i .u8) (.p (.i .u8) (.p (.i .u8) (.p (.i .u8) (.p (.i .u8) (.p (.i .u8) (.p (.i .u8) (.p (.i .u8) (.p (.i .u8) (.p (.i .u8) (.p (.i .u8) (.p (.i .u8) (.p (.i .u8) (.p (.i .u8) (.p (.i .u8) (.p (.i .u8) (.p (.i .u8) (.p (.i .u8) (.p (.i .u8) (.p (.i .u8) (.p (.i .u8) (.p (.i .u8) (.p (.i .u8) (.p (.i .u8) (.p (.i .u8) (.p (.i .u8) (.p (.i .u8) (.p (.i .u8) (.p (.i .u8) (.p (.i .u8) (.p (.i .u8) (.p (.i .u8) (.p (.i .u8) (.p (.i .u8) (.p (.i .u8) (.p (.i .u8) (.p (.i .u8) (.p (.i .u8) (.p (.i .u8) (.p (.i .u8) (.i .u8)))))))))))))))))))))))))))))))))))))))))))))))))))))))))))))))))), (170, (.i .u64)), (173, (.p (.i .u8) (.p (.i .u8) (.p (.i .u8) (.p (.i .u8) (.p (.i .u8) (.p (.i .u8) (.p (.i .u8) (.p (.i .u8) (.p (.i .u8) (.p (.i .u8) (.p (.i .u8) (.p (.i .u8) (.p (.i .u8) (.p (.i .u8) (.p (.i .u8) (.p (.i .u8) (.p (.i .u8) (.p (.i .u8) (.p (.i .u8) (.p (.i .u8) (.p (.i .u8) (.p (.i .u8) (.p (.i .u8) (.p (.i .u8) (.p (.i .u8) (.p (.i .u8) (.p (.i .u8) (.p (.i .u8) (.p (.i .u8) (.p (.i .u8) (.p (.i .u8) (.i .u8))))))))))))))))))))))))))))))))), (174, (.p (.i .u8) (.p (.i .u8) (.p (.i .u8) (.p (.i .u8) (.p (.i .u8) (.p (.i .u8) (.p (.i .u8) (.p (.i .u8) (.p (.i .u8) (.p (.i .u8) (.p (.i .u8) (.p (.i .u8) (.p (.i .u8) (.p (.i .u8) (.p (.i .u8) (.p (.i .u8) (.p (.i .u8) (.p (.i .u8) (.p (.i .u8) (.p (.i .u8) (.p (.i .u8) (.p (.i .u8) (.p (.i .u8) (.p (.i .u8) (.p (.i .u8) (.p (.i .u8) (.p (.i .u8) (.p (.i .u8) (.p (.i .u8) (.p (.i .u8) (.p (.i .u8) (.p (.i .u8) (.p (.i .u8) (.p (.i .u8) (.p (.i .u8) (.p (.i .u8) (.p (.i .u8) (.p (.i .u8) (.p (.i .u8) (.p (.i .u8) (.p (.i .u8) (.p (.i .u8) (.p (.i .u8) (.p (.i .u8) (.p (.i .u8) (.p (.i .u8) (.p (.i .u8) (.p (.i .u8) (.p (.i .u8) (.p (.i .u8) (.p (.i .u8) (.p (.i .u8) (.p (.i .u8) (.p (.i .u8) (.p (.i .u8) (.p (.i .u8) (.p (.i .u8) (.p (.i .u8) (.p (.i .u8) (.p (.i .u8) (.p (.i .u8) (.p (.i .u8) (.p (.i .u8) (.i .u8))))))))))))))))))))))))))))))))))))))))))))))))))))))))))))))))), (177, .un), (178, .un), (179, .un), (180, (.i .u8)), (181, (.i .u8)), (183, (.i .i32)), (184, (.i .i32))], [(0, 0, ⟨.l (.i .u64), nk⟩)], [105], (List.forall_mem_cons.2 ⟨LN, (fun _ h => nomatch h)⟩)⟩
def iU (x : Ex) : Ex := Ex.mk x.op x.n x.at_ x.l
theorem dv : iU = id := funext fun x => by cases x; rfl
def Oo : Ent := ⟨92, [.int .i64], .str, [], fun s => A7 s⟩
theorem Ij : Oo.Ok X0.P X0.Γ := Kl (ρ := Tryz.uc) Tryz.JP Tryz.call92 (G := 0) (tab := nk) (by kernel_rfl) (show _ ∈ [gl 0 (nk.map (Value.int .u64))] from List.mem_cons_self ..) (by decide +kernel) A7 fun n r h => by
 obtain ⟨h1, h2⟩ := fA h
 cases h2
 exact ⟨h1, rfl⟩
def NX : Ent := ⟨50, [.cst (.raw (.slice none 0 0)), .int .i64], .own (.l (.i .i64)) 31 true, [], fun s => xy s⟩
theorem Ha : NX.Ok X0.P X0.Γ := KW (ρ := Tryz.Ag) Tryz.OP Tryz.call50 (z := .slice none 0 0) (bytes := 24) (t := .l (.i .i64)) (by unfold TI; kernel_rfl) rfl rfl (by decide) xy fun n r h => by
 obtain ⟨h1, h2⟩ := fA h
 simp only [Bool.and_eq_true, decide_eq_true_eq] at h1
 cases h2
 exact ⟨h1.1, h1.2, rfl⟩
abbrev TK0 := Q10 → Option Q6
def cP (k : TK0) : Ent := ⟨95, [(.bx 151 0 true [(.own (.p (.i .i64) (.p .s (.p (.i .i64) (.i .i64)))) 88 false), (.int .i64), (.own .s 9 false), (.int .i64), (.int .i64)]), (.int .i64), (.int .i64)], (.dat .ex [some 49]), [(true, 0, (.bx 151 0 true [.same, (.int .i64), .same, (.int .i64), (.int .i64)]))], fun s => k (s.2.2.2.2.2.1, s.2.2.2.2.2.2, s.1, s.2.1, s.2.2.1, s.2.2.2.1, s.2.2.2.2.1)⟩
abbrev OK0 (k : TK0) : Prop := (cP k).Ok X0.P X0.Γ
abbrev TK1 := Ex → Option Q9
def fp (k : TK1) : Ent := ⟨22, [(.dat .ex [none])], (.tup [(.int .i64), (.int .i64), (.int .i64)]), [], fun s => k s⟩
abbrev OK1 (k : TK1) : Prop := (fp k).Ok X0.P X0.Γ
abbrev TK2 := (Ex × Q4) → Option Int
def lv (k : TK2) : Ent := ⟨68, [(.dat .ex [none]), (.sli (.i .i64))], (.int .i64), [], fun s => k (s.1, s.2)⟩
abbrev OK2 (k : TK2) : Prop := (lv k).Ok X0.P X0.Γ
abbrev TK3 := Ex → Option Q9
def ll (k : TK3) : Ent := ⟨86, [(.dat .ex [none])], (.tup [(.int .i64), (.int .i64), (.int .i64)]), [], fun s => k s⟩
abbrev OK3 (k : TK3) : Prop := (ll k).Ok X0.P X0.Γ
abbrev TK4 := (Ex × Q13) → Option Q5
def ob (k : TK4) : Ent := ⟨49, [(.dat .ex [none]), (.dat (.p (.l (.l (.i .i64))) (.i .i64)) [none])], (.own .bo 4 true), [], fun s => k (s.1, s.2)⟩
abbrev OK4 (k : TK4) : Prop := (ob k).Ok X0.P X0.Γ
abbrev TK5 := (Ex × Int) → Option Int
def qL (k : TK5) : Ent := ⟨47, [(.dat .ex [none]), (.int .i64)], (.int .i64), [], fun s => k (s.1, s.2)⟩
abbrev OK5 (k : TK5) : Prop := (qL k).Ok X0.P X0.Γ
abbrev TK6 := (Ex × Int) → Option Int
def q7 (k : TK6) : Ent := ⟨48, [(.dat .ex [none]), (.int .i64)], (.int .i64), [], fun s => k (s.1, s.2)⟩
abbrev OK6 (k : TK6) : Prop := (q7 k).Ok X0.P X0.Γ
abbrev TK7 := (Ex × Int) → Option Bool
def rY (k : TK7) : Ent := ⟨21, [(.dat .ex [none]), (.int .i64)], .bool, [], fun s => k (s.1, s.2)⟩
abbrev OK7 (k : TK7) : Prop := (rY k).Ok X0.P X0.Γ
abbrev TK8 := (Ex × Q4) → Option Int
def fw (k : TK8) : Ent := ⟨57, [(.dat .ex [none]), (.sli (.i .i64))], (.int .i64), [], fun s => k (s.1, s.2)⟩
abbrev OK8 (k : TK8) : Prop := (fw k).Ok X0.P X0.Γ
def rE : Ent := ⟨58, [(.int .u8)], (.int .i64), [], fun s => cV s⟩
theorem pD : (rE).Ok X0.P X0.Γ :=
 ay .o Tryz.call58 Tryz.func58 ok0 ok0 ok0 fun _ => by kernel_rfl
def qP : Ent := ⟨59, [], (.own .s 9 true), [], fun _ => je⟩
theorem oZ : (qP).Ok X0.P X0.Γ :=
 ay .o Tryz.call59 Tryz.func59 ok0 ok0 ok0 fun _ => by kernel_rfl
def qx : Ent := ⟨39, [.str], (.tup [(.own (.p (.i .i64) (.p .s (.p (.i .i64) (.i .i64)))) 88 true), (.int .i64), (.int .i64)]), [], fun s => cZ s⟩
theorem nT : (qx).Ok X0.P X0.Γ :=
 ay (.c .o (.l ⟨[(false, 5, (.own (.p (.i .i64) (.p .s (.p (.i .i64) (.i .i64)))) 88 true)), (false, 6, (.int .i64))], []⟩ (.c (.c .o (.c (.l ⟨[(false, 6, (.int .i64))], []⟩ .o) (.c (.l ⟨[(false, 6, (.int .i64))], []⟩ .o) (.c (.l ⟨[(false, 6, (.int .i64)), (false, 9, (.int .i64))], []⟩ .o) (.l ⟨[(false, 11, .str), (false, 12, (.int .i64))], []⟩ .o))))) .o))) Tryz.call39 Tryz.func39 (ok1 pD (ok1 oZ ok0)) ok0 ok0 fun _ => by kernel_rfl
def pw : Ent := ⟨40, [(.bx 86 0 false [(.own (.p (.i .i64) (.p .s (.p (.i .i64) (.i .i64)))) 88 false), (.int .i64), (.own .s 9 false), (.own (.p (.i .i64) (.i .i64)) 53 false), (.own (.i .i64) 3 false), (.own .s 9 false), (.own (.p (.i .i64) (.p .ex (.l (.p (.i .i64) .ex)))) 112 false), (.int .i64), (.int .i64)]), (.int .i64), .str], .bool, [], fun s => aW s.2.2.2.2.2.2.2.2.2.1 s.2.2.2.2.2.2.2.2.2.2 s.1 s.2.1 s.2.2.1 s.2.2.2.1 s.2.2.2.2.1 s.2.2.2.2.2.1 s.2.2.2.2.2.2.1 s.2.2.2.2.2.2.2.1 s.2.2.2.2.2.2.2.2.1⟩
theorem dC : (pw).Ok X0.P X0.Γ :=
 ay .o Tryz.call40 Tryz.func40 ok0 ok0 ok0 fun _ => by kernel_rfl
def sE : Ent := ⟨62, [.str], .bool, [], fun s => ed s⟩
theorem j6 : (sE).Ok X0.P X0.Γ :=
 ay (.s (.s (.s (.j ⟨[(false, 4, .bool)], []⟩ .o .o)))) Tryz.call62 Tryz.func62 ok0 ok0 ok0 fun _ => by kernel_rfl
def nK : Ent := ⟨41, [(.bx 86 0 true [(.own (.p (.i .i64) (.p .s (.p (.i .i64) (.i .i64)))) 88 false), (.int .i64), (.own .s 9 false), (.own (.p (.i .i64) (.i .i64)) 53 false), (.own (.i .i64) 3 false), (.own .s 9 false), (.own (.p (.i .i64) (.p .ex (.l (.p (.i .i64) .ex)))) 112 false), (.int .i64), (.int .i64)]), (.int .i64), (.int .i64)], (.tup []), [(true, 0, (.bx 86 0 true [.same, .same, .same, .same, .same, .same, .same, (.int .i64), (.int .i64)]))], fun s => aq s.2.2.2.2.2.2.2.2.2.1 s.2.2.2.2.2.2.2.2.2.2 s.1 s.2.1 s.2.2.1 s.2.2.2.1 s.2.2.2.2.1 s.2.2.2.2.2.1 s.2.2.2.2.2.2.1 s.2.2.2.2.2.2.2.1 s.2.2.2.2.2.2.2.2.1⟩
theorem bl : (nK).Ok X0.P X0.Γ :=
 ay .o Tryz.call41 Tryz.func41 ok0 ok0 ok0 fun _ => by kernel_rfl
def pg : Ent := ⟨63, [(.own .s 9 false), .str], (.int .i64), [], fun s => bn s.1 s.2⟩
theorem iF : (pg).Ok X0.P X0.Γ :=
 ay (.l ⟨[(false, 5, (.int .i64))], []⟩ .o) Tryz.call63 Tryz.func63 ok0 ok0 ok0 fun _ => by kernel_rfl
def nO : Ent := ⟨44, [(.bx 86 0 true [(.own (.p (.i .i64) (.p .s (.p (.i .i64) (.i .i64)))) 88 false), (.int .i64), (.own .s 9 false), (.own (.p (.i .i64) (.i .i64)) 53 false), (.own (.i .i64) 3 false), (.own .s 9 false), (.own (.p (.i .i64) (.p .ex (.l (.p (.i .i64) .ex)))) 112 false), (.int .i64), (.int .i64)]), .bool], .str, [(true, 0, (.bx 86 0 true [.same, (.int .i64), .same, .same, .same, .same, .same, (.int .i64), (.int .i64)]))], fun s => df s.2.2.2.2.2.2.2.2.2 s.1 s.2.1 s.2.2.1 s.2.2.2.1 s.2.2.2.2.1 s.2.2.2.2.2.1 s.2.2.2.2.2.2.1 s.2.2.2.2.2.2.2.1 s.2.2.2.2.2.2.2.2.1⟩
theorem ix : (nO).Ok X0.P X0.Γ :=
 ay .o Tryz.call44 Tryz.func44 (ok1 j6 (ok1 bl (ok1 iF ok0))) ok0 ok0 fun _ => by kernel_rfl
def nX : Ent := ⟨42, [(.bx 86 0 false [(.own (.p (.i .i64) (.p .s (.p (.i .i64) (.i .i64)))) 88 false), (.int .i64), (.own .s 9 false), (.own (.p (.i .i64) (.i .i64)) 53 false), (.own (.i .i64) 3 false), (.own .s 9 false), (.own (.p (.i .i64) (.p .ex (.l (.p (.i .i64) .ex)))) 112 false), (.int .i64), (.int .i64)])], (.int .i64), [], fun s => aC s.1 s.2.1 s.2.2.1 s.2.2.2.1 s.2.2.2.2.1 s.2.2.2.2.2.1 s.2.2.2.2.2.2.1 s.2.2.2.2.2.2.2.1 s.2.2.2.2.2.2.2.2⟩
theorem cX : (nX).Ok X0.P X0.Γ :=
 ay .o Tryz.call42 Tryz.func42 ok0 ok0 ok0 fun _ => by kernel_rfl
def nS : Ent := ⟨45, [(.bx 86 0 true [(.own (.p (.i .i64) (.p .s (.p (.i .i64) (.i .i64)))) 88 false), (.int .i64), (.own .s 9 false), (.own (.p (.i .i64) (.i .i64)) 53 false), (.own (.i .i64) 3 false), (.own .s 9 false), (.own (.p (.i .i64) (.p .ex (.l (.p (.i .i64) .ex)))) 112 false), (.int .i64), (.int .i64)]), .str], (.tup []), [(true, 0, (.bx 86 0 true [.same, (.int .i64), .same, .same, .same, .same, .same, (.int .i64), (.int .i64)]))], fun s => aR s.2.2.2.2.2.2.2.2.2 s.1 s.2.1 s.2.2.1 s.2.2.2.1 s.2.2.2.2.1 s.2.2.2.2.2.1 s.2.2.2.2.2.2.1 s.2.2.2.2.2.2.2.1 s.2.2.2.2.2.2.2.2.1⟩
theorem eN : (nS).Ok X0.P X0.Γ :=
 ay .o Tryz.call45 Tryz.func45 (ok1 dC (ok1 cX (ok1 bl ok0))) ok0 ok0 fun _ => by kernel_rfl
def qA : Ent := ⟨101, [(.int .i64)], .bool, [], fun s => fH s⟩
theorem nH : (qA).Ok X0.P X0.Γ :=
 ay .o Tryz.call101 Tryz.func101 ok0 ok0 ok0 fun _ => by kernel_rfl
def mF : Ent := ⟨102, [(.bx 151 0 true [(.own (.p (.i .i64) (.p .s (.p (.i .i64) (.i .i64)))) 88 false), (.int .i64), (.own .s 9 false), (.int .i64), (.int .i64)]), (.int .i64)], (.dat .ex [some 49]), [(true, 0, (.bx 151 0 true [.same, .same, .same, (.int .i64), (.int .i64)]))], fun s => aL s.2.2.2.2.2 s.1 s.2.1 s.2.2.1 s.2.2.2.1 s.2.2.2.2.1⟩
theorem gn : (mF).Ok X0.P X0.Γ :=
 ay (.c (.r [0] .o) .o) Tryz.call102 Tryz.func102 ok0 ok0 ok0 fun _ => by kernel_rfl
def mT (k0 : TK0) : Ent := ⟨103, [(.bx 151 0 true [(.own (.p (.i .i64) (.p .s (.p (.i .i64) (.i .i64)))) 88 false), (.int .i64), (.own .s 9 false), (.int .i64), (.int .i64)]), (.int .i64)], (.dat .ex [some 49]), [(true, 0, (.bx 151 0 true [.same, (.int .i64), .same, (.int .i64), (.int .i64)]))], fun s => bV k0 s.2.2.2.2.2 s.1 s.2.1 s.2.2.1 s.2.2.2.1 s.2.2.2.2.1⟩
def l5 (eta : Ex → Ex) (_du : Sh → (R : Type) → Option R → Option R) (l : Q2) (at_ : Int) (names : Q7) (bad : Int) (place : Int) (e12 : Q11) (again50 : Int → Option Q6) (i49 : Int) : Option Q6 := bif (decide (i49 < (List.length names : Int))) then ( (idx names i49).bind fun e54 => bif (e54 == e12.2.1) then ( some ((Ex.mk 2 i49 e12.2.2.2 []), (IntKind.i64.wrap (at_ + 1)), bad, place)) else ( again50 (IntKind.i64.wrap (i49 + 1)))) else ( (aL 3 l at_ names bad place).bind fun r59 => some ((eta r59.1), at_, r59.2.1, r59.2.2))
def fg (eta : Ex → Ex) (du : Sh → (R : Type) → Option R → Option R) (ah : Q10 → Option Q6) (deep : Int) (l : Q2) (at_ : Int) (names : Q7) (bad : Int) (place : Int) : Option Q6 := (idx l at_).bind fun e12 => bif (e12.1 == 2) then ( some ((Ex.mk 1 e12.2.2.1 e12.2.2.2 []), (IntKind.i64.wrap (at_ + 1)), bad, place)) else ( ab (e12.1 == 1) fun b20 => ab (e12.2.1 == [116, 114, 117, 101]) fun b22 => ab (b20 && b22) fun b24 => bif b24 then ( some ((Ex.mk 13 0 e12.2.2.2 []), (IntKind.i64.wrap (at_ + 1)), bad, place)) else ( ab (e12.1 == 1) fun b29 => ab (e12.2.1 == [102, 97, 108, 115, 101]) fun b31 => ab (b29 && b31) fun b33 => bif b33 then ( some ((Ex.mk 14 0 e12.2.2.2 []), (IntKind.i64.wrap (at_ + 1)), bad, place)) else ( (ed e12.2.1).bind fun r38 => ab (e12.1 == 1) fun b41 => ab (!r38) fun b43 => ab (b41 && b43) fun b45 => bif b45 then ( an (l5 eta du l at_ names bad place e12) au 0) else ( ab (e12.1 != 3) fun b65 => ab (e12.2.1 != [40]) fun b67 => ab (b65 || b67) fun b69 => bif b69 then ( (aL 2 l at_ names bad place).bind fun r72 => some ((eta r72.1), at_, r72.2.1, r72.2.2)) else ( (ah (1, deep, l, (IntKind.i64.wrap (at_ + 1)), names, bad, place)).bind fun r79 => bif (r79.2.2.1 != 0) then ( some ((Ex.mk 0 0 0 []), r79.2.1, r79.2.2.1, r79.2.2.2)) else ( (idx l r79.2.1).bind fun e91 => ab (e91.1 != 3) fun b93 => aT (!b93) (0, [], 0, 0) (idx l r79.2.1) fun e95 => ab (e95.2.1 != [41]) fun b97 => ab (b93 || b97) fun b99 => bif b99 then ( (aL 2 l r79.2.1 names r79.2.2.1 r79.2.2.2).bind fun r102 => some ((eta r102.1), r79.2.1, r102.2.1, r102.2.2)) else ( some ((eta r79.1), (IntKind.i64.wrap (r79.2.1 + 1)), r79.2.2.1, r79.2.2.2))))))))
theorem lT (k0 : TK0) (i0 : OK0 k0) : (mT k0).Ok X0.P X0.Γ :=
 ay (.r [] (.c .o (.c .o (.c .o (.c (.l ⟨[(true, 0, (.bx 151 0 true [.same, .same, .same, .same, .same])), (true, 4, (.bx 24 0 true [.same, .same, .same, .same])), (false, 7, (.int .i64))], []⟩ .o) .o))))) Tryz.call103 Tryz.func103 (ok1 j6 (ok1 gn (ok1 i0 ok0))) ok0 ok0 fun s => (show _ = fg iU duE k0 s.2.2.2.2.2 s.1 s.2.1 s.2.2.1 s.2.2.2.1 s.2.2.2.2.1 from by kernel_rfl).trans ((congrArg (fun eta => fg eta duE k0 s.2.2.2.2.2 s.1 s.2.1 s.2.2.1 s.2.2.2.1 s.2.2.2.2.1) dv).trans ((congrArg (fun du => fg id du k0 s.2.2.2.2.2 s.1 s.2.1 s.2.2.1 s.2.2.2.1 s.2.2.2.2.1) eB).trans (by kernel_rfl)))
def tV : Ent := ⟨104, [(.dat (.p (.i .i64) (.p .s (.p (.i .i64) (.i .i64)))) []), (.int .i64)], (.int .i64), [], fun s => bk s.1 s.2⟩
theorem qM : (tV).Ok X0.P X0.Γ :=
 ay (.c (.c .o (.c .o (.c .o (.c .o (.c .o (.c (.l ⟨[(false, 7, (.int .i64))], []⟩ .o) .o)))))) .o) Tryz.call104 Tryz.func104 ok0 ok0 ok0 fun _ => by kernel_rfl
def iC : Ent := ⟨95, [(.bx 151 0 true [(.own (.p (.i .i64) (.p .s (.p (.i .i64) (.i .i64)))) 88 false), (.int .i64), (.own .s 9 false), (.int .i64), (.int .i64)]), (.int .i64), (.int .i64)], (.dat .ex [some 49]), [(true, 0, (.bx 151 0 true [.same, (.int .i64), .same, (.int .i64), (.int .i64)]))], fun s => dz s.2.2.2.2.2.1 s.2.2.2.2.2.2 s.1 s.2.1 s.2.2.1 s.2.2.2.1 s.2.2.2.2.1⟩
def kO (eta : Ex → Ex) (_du : Sh → (R : Type) → Option R → Option R) (ah : Q10 → Option Q6) (l : Q2) (at_ : Int) (names : Q7) (bad : Int) (place : Int) (deep16 : Int) (e30 : Q11) (k43 : Int) : Option Q6 := bif (k43 == 0) then ( (ah (7, deep16, l, at_, names, bad, place)).bind fun r45 => some ((eta r45.1), r45.2.1, r45.2.2.1, r45.2.2.2)) else ( (ah (6, deep16, l, (IntKind.i64.wrap (at_ + 1)), names, bad, place)).bind fun r52 => some ((Ex.mk k43 0 e30.2.2.2 ([(eta r52.1)] : List Ex)), r52.2.1, r52.2.2.1, r52.2.2.2))
def kZ (eta : Ex → Ex) (du : Sh → (R : Type) → Option R → Option R) (ah : Q10 → Option Q6) (l : Q2) (at_ : Int) (names : Q7) (bad : Int) (place : Int) (deep16 : Int) (e30 : Q11) (k41 : Int) : Option Q6 := ab (fun (s64 : Int) => kO eta du ah l at_ names bad place deep16 e30 s64) fun kk63 => ab (e30.1 == 1) fun b65 => ab (e30.2.1 == [71]) fun b67 => ab (b65 && b67) fun b69 => bif b69 then ( kk63 22) else ( kk63 k41)
def kT (eta : Ex → Ex) (du : Sh → (R : Type) → Option R → Option R) (ah : Q10 → Option Q6) (l : Q2) (at_ : Int) (names : Q7) (bad : Int) (place : Int) (deep16 : Int) (e30 : Q11) (k39 : Int) : Option Q6 := ab (fun (s73 : Int) => kZ eta du ah l at_ names bad place deep16 e30 s73) fun kk72 => ab (e30.1 == 1) fun b74 => ab (e30.2.1 == [70]) fun b76 => ab (b74 && b76) fun b78 => bif b78 then ( kk72 21) else ( kk72 k39)
def kS (eta : Ex → Ex) (du : Sh → (R : Type) → Option R → Option R) (ah : Q10 → Option Q6) (l : Q2) (at_ : Int) (names : Q7) (bad : Int) (place : Int) (deep16 : Int) (e30 : Q11) (k37 : Int) : Option Q6 := ab (fun (s82 : Int) => kT eta du ah l at_ names bad place deep16 e30 s82) fun kk81 => ab (e30.1 == 1) fun b83 => ab (e30.2.1 == [88]) fun b85 => ab (b83 && b85) fun b87 => bif b87 then ( kk81 20) else ( kk81 k37)
def kX (eta : Ex → Ex) (_du : Sh → (R : Type) → Option R → Option R) (ah : Q10 → Option Q6) (strength : Int) (l : Q2) (names : Q7) (deep16 : Int) (again143 : (Int × Int × Int × Int × Int × Int × (List Ex)) → Option Q6) : Int × Int × Int × Int × Int × Int × (List Ex) → Option Q6 := fun ⟨c134, c135, c136, c137, c138, c139, c140⟩ => bif (c135 == 0) then ( (idx l c134).bind fun e147 => (bk e147 strength).bind fun r152 => bif (r152 == 0) then ( some ((Ex.mk c137 c138 c139 c140), c134, c135, c136)) else ( ab (strength == 1) fun b158 => ab (strength == 2) fun b160 => ab (b158 || b160) fun b162 => ab (strength == 5) fun b164 => ab (b162 || b164) fun b166 => bif b166 then ( (ah (strength, deep16, l, (IntKind.i64.wrap (c134 + 1)), names, c135, c136)).bind fun r169 => some ((Ex.mk r152 0 e147.2.2.2 ([(Ex.mk c137 c138 c139 c140), (eta r169.1)] : List Ex)), r169.2.1, r169.2.2.1, r169.2.2.2)) else ( (ah ((IntKind.i64.wrap (strength + 1)), deep16, l, (IntKind.i64.wrap (c134 + 1)), names, c135, c136)).bind fun r180 => bif (strength == 7) then ( some ((Ex.mk r152 0 e147.2.2.2 ([(Ex.mk c137 c138 c139 c140), (eta r180.1)] : List Ex)), r180.2.1, r180.2.2.1, r180.2.2.2)) else ( again143 (r180.2.1, r180.2.2.1, r180.2.2.2, r152, 0, e147.2.2.2, ([(Ex.mk c137 c138 c139 c140), (eta r180.1)] : List Ex)))))) else ( some ((Ex.mk c137 c138 c139 c140), c134, c135, c136))
def kW (eta : Ex → Ex) (du : Sh → (R : Type) → Option R → Option R) (ah : Q10 → Option Q6) (strength : Int) (l : Q2) (at_ : Int) (names : Q7) (bad : Int) (place : Int) (r12 : Bool) (deep16 : Int) : Option Q6 := ab (decide (320 < deep16)) fun b17 => ab (r12 && b17) fun b19 => bif b19 then ( (aL 9 l at_ names bad place).bind fun r22 => some ((eta r22.1), at_, r22.2.1, r22.2.2)) else ( (idx l at_).bind fun e30 => bif (strength == 6) then ( ab (fun (s91 : Int) => kS eta du ah l at_ names bad place deep16 e30 s91) fun kk90 => ab (e30.1 == 3) fun b92 => ab (e30.2.1 == [33]) fun b94 => ab (b92 && b94) fun b96 => bif b96 then ( kk90 15) else ( kk90 0)) else ( bif (strength == 10) then ( ab (e30.1 != 3) fun b100 => ab (e30.2.1 != [45]) fun b102 => ab (b100 || b102) fun b104 => bif b104 then ( (bV ah deep16 l at_ names bad place).bind fun r107 => some ((eta r107.1), r107.2.1, r107.2.2.1, r107.2.2.2)) else ( (ah (10, deep16, l, (IntKind.i64.wrap (at_ + 1)), names, bad, place)).bind fun r114 => some ((Ex.mk 6 0 e30.2.2.2 ([(eta r114.1)] : List Ex)), r114.2.1, r114.2.2.1, r114.2.2.2))) else ( (ah ((IntKind.i64.wrap (strength + 1)), deep16, l, at_, names, bad, place)).bind fun r125 => an (kX eta du ah strength l names deep16) au (r125.2.1, r125.2.2.1, r125.2.2.2, r125.1.op, r125.1.n, r125.1.at_, r125.1.l))))
def dZ (eta : Ex → Ex) (du : Sh → (R : Type) → Option R → Option R) (ah : Q10 → Option Q6) (strength : Int) (deep : Int) (l : Q2) (at_ : Int) (names : Q7) (bad : Int) (place : Int) : Option Q6 := bif (bad != 0) then ( some ((Ex.mk 0 0 0 []), at_, bad, place)) else ( (fH strength).bind fun r12 => ab (fun (s195 : Int) => kW eta du ah strength l at_ names bad place r12 s195) fun kk194 => bif r12 then ( kk194 (IntKind.i64.wrap (deep + 1))) else ( kk194 deep))
def im : TK0 → TK0 := fun k0 s => bF k0 s.1 s.2.1 s.2.2.1 s.2.2.2.1 s.2.2.2.2.1 s.2.2.2.2.2.1 s.2.2.2.2.2.2
theorem j5 (k0 : TK0) (i0 : OK0 k0) : (cP (im k0)).Ok X0.P X0.Γ :=
 ay (.c .o (.s (.j ⟨[(false, 2, (.int .i64))], []⟩ .o (.c .o (.r [] (.c (.s (.j ⟨[(false, 9, (.int .i64))], []⟩ .o (.j ⟨[(false, 9, (.int .i64))], []⟩ .o (.j ⟨[(false, 9, (.int .i64))], []⟩ .o (.j ⟨[(false, 9, (.int .i64))], []⟩ .o .o))))) (.c .o (.l ⟨[(true, 0, (.bx 151 0 true [.same, (.int .i64), .same, (.int .i64), (.int .i64)])), (true, 6, (.bx 24 0 true [.same, .same, .same, .same])), (true, 12, (.bx 24 0 true [(.int .i64), (.int .i64), (.int .i64), (.own .ex 24 true)]))], []⟩ .o)))))))) Tryz.call95 Tryz.func95 (ok1 nH (ok1 gn (ok1 i0 (ok1 (lT k0 i0) (ok1 qM ok0))))) ok0 ok0 fun s => (show _ = dZ iU duE k0 s.2.2.2.2.2.1 s.2.2.2.2.2.2 s.1 s.2.1 s.2.2.1 s.2.2.2.1 s.2.2.2.2.1 from by kernel_rfl).trans ((congrArg (fun eta => dZ eta duE k0 s.2.2.2.2.2.1 s.2.2.2.2.2.2 s.1 s.2.1 s.2.2.1 s.2.2.2.1 s.2.2.2.2.1) dv).trans ((congrArg (fun du => dZ id du k0 s.2.2.2.2.2.1 s.2.2.2.2.2.2 s.1 s.2.1 s.2.2.1 s.2.2.2.1 s.2.2.2.2.1) eB).trans (by kernel_rfl)))
theorem kP : (iC).Ok X0.P X0.Γ := (show iC = cP (an (im) au) by kernel_rfl) ▸ mC (X := X0) (E := cP) ⟨Tryz.call95, fun _ _ h => nomatch h⟩ (j5) au
def oV : Ent := ⟨85, [(.own (.p (.i .i64) (.p .s (.p (.i .i64) (.i .i64)))) 88 false), (.int .i64), (.own .s 9 false)], (.tup [(.dat .ex [some 49]), (.int .i64), (.int .i64), (.int .i64)]), [], fun s => cE s.1 s.2.1 s.2.2⟩
def fU (eta : Ex → Ex) (_du : Sh → (R : Type) → Option R → Option R) (l : Q2) (at_ : Int) (names : Q7) : Option Q6 := (dz 1 0 l at_ names 0 0).bind fun r14 => bif (r14.2.2.1 != 0) then ( some ((Ex.mk 0 0 0 []), 0, r14.2.2.1, r14.2.2.2)) else ( some ((eta r14.1), r14.2.1, 0, 0))
theorem mW : (oV).Ok X0.P X0.Γ :=
 ay (.c (.r [6] .o) (.r [6] .o)) Tryz.call85 Tryz.func85 (ok1 kP ok0) ok0 ok0 fun s => (show _ = fU iU duE s.1 s.2.1 s.2.2 from by kernel_rfl).trans ((congrArg (fun eta => fU eta duE s.1 s.2.1 s.2.2) dv).trans ((congrArg (fun du => fU id du s.1 s.2.1 s.2.2) eB).trans (by kernel_rfl)))
def lB : Ent := ⟨22, [(.dat .ex [none])], (.tup [(.int .i64), (.int .i64), (.int .i64)]), [], fun s => dD s⟩
def pC (eta : Ex → Ex) (_du : Sh → (R : Type) → Option R → Option R) (ck : Ex → Option Q9) (e : Ex) (again12 : Q15 → Option Q9) : Int × Int × Int × Int → Option Q9 := fun ⟨ints8, bools9, times10, i11⟩ => bif (decide (i11 < (List.length e.l : Int))) then ( (idx e.l i11).bind fun e14 => (ck (eta e14)).bind fun r20 => bif (r20.2.1 != 0) then ( some (0, r20.2.1, r20.2.2)) else ( ab (fun (s33 : Int) => iz bools9 times10 i11 again12 r20 s33) fun kk32 => bif (r20.1 == 1) then ( kk32 (IntKind.i64.wrap (ints8 + 1))) else ( kk32 ints8))) else ( ab (decide (e.op ≤ 6)) fun b35 => ab (ints8 == (List.length e.l : Int)) fun b37 => ab (b35 && b37) fun b39 => bif b39 then ( some (1, 0, 0)) else ( ab (decide (7 ≤ e.op)) fun b42 => ab (decide (e.op ≤ 12)) fun b44 => ab (b42 && b44) fun b46 => ab (ints8 == (List.length e.l : Int)) fun b48 => ab (b46 && b48) fun b50 => ab (e.op == 13) fun b52 => ab (b50 || b52) fun b54 => ab (e.op == 14) fun b56 => ab (b54 || b56) fun b58 => bif b58 then ( some (2, 0, 0)) else ( ab (decide (15 ≤ e.op)) fun b61 => ab (decide (e.op ≤ 19)) fun b63 => ab (b61 && b63) fun b65 => ab (bools9 == (List.length e.l : Int)) fun b67 => ab (b65 && b67) fun b69 => bif b69 then ( some (2, 0, 0)) else ( ab (decide (15 ≤ e.op)) fun b72 => ab ((IntKind.i64.wrap (bools9 + times10)) == (List.length e.l : Int)) fun b74 => ab (b72 && b74) fun b76 => bif b76 then ( some (3, 0, 0)) else ( some (0, 4, e.at_))))))
def gT (eta : Ex → Ex) (du : Sh → (R : Type) → Option R → Option R) (ck : Ex → Option Q9) (e : Ex) : Option Q9 := an (pC eta du ck e) au (0, 0, 0, 0)
def lO : TK1 → TK1 := fun k1 s => ea k1 s
theorem nQ (k1 : TK1) (i1 : OK1 k1) : (fp (lO k1)).Ok X0.P X0.Γ :=
 ay (.l ⟨[(false, 5, (.int .i64)), (false, 6, (.int .i64)), (false, 7, (.int .i64)), (false, 8, (.int .i64))], []⟩ (.c (.c .o (.j ⟨[(false, 5, (.int .i64))], []⟩ .o (.j ⟨[(false, 6, (.int .i64))], []⟩ .o .o))) .o)) Tryz.call22 Tryz.func22 (ok1 i1 ok0) ok0 ok0 fun s => (show _ = gT iU duE k1 s from by kernel_rfl).trans ((congrArg (fun eta => gT eta duE k1 s) dv).trans ((congrArg (fun du => gT id du k1 s) eB).trans (by kernel_rfl)))
theorem px : (lB).Ok X0.P X0.Γ := (show lB = fp (an (lO) au) by kernel_rfl) ▸ mC (X := X0) (E := fp) ⟨Tryz.call22, fun _ _ h => nomatch h⟩ (nQ) au
def pA : Ent := ⟨22, [(.dat .ex [some 48])], (.tup [(.int .i64), (.int .i64), (.int .i64)]), [], fun s => dH s⟩
def nq (eta : Ex → Ex) (_du : Sh → (R : Type) → Option R → Option R) (e : Ex) (again12 : Q15 → Option Q9) : Int × Int × Int × Int → Option Q9 := fun ⟨ints8, bools9, times10, i11⟩ => bif (decide (i11 < (List.length e.l : Int))) then ( (idx e.l i11).bind fun e14 => (dD (eta e14)).bind fun r20 => bif (r20.2.1 != 0) then ( some (0, r20.2.1, r20.2.2)) else ( ab (fun (s33 : Int) => jz bools9 times10 i11 again12 r20 s33) fun kk32 => bif (r20.1 == 1) then ( kk32 (IntKind.i64.wrap (ints8 + 1))) else ( kk32 ints8))) else ( ab (decide (e.op ≤ 6)) fun b35 => ab (ints8 == (List.length e.l : Int)) fun b37 => ab (b35 && b37) fun b39 => bif b39 then ( some (1, 0, 0)) else ( ab (decide (7 ≤ e.op)) fun b42 => ab (decide (e.op ≤ 12)) fun b44 => ab (b42 && b44) fun b46 => ab (ints8 == (List.length e.l : Int)) fun b48 => ab (b46 && b48) fun b50 => ab (e.op == 13) fun b52 => ab (b50 || b52) fun b54 => ab (e.op == 14) fun b56 => ab (b54 || b56) fun b58 => bif b58 then ( some (2, 0, 0)) else ( ab (decide (15 ≤ e.op)) fun b61 => ab (decide (e.op ≤ 19)) fun b63 => ab (b61 && b63) fun b65 => ab (bools9 == (List.length e.l : Int)) fun b67 => ab (b65 && b67) fun b69 => bif b69 then ( some (2, 0, 0)) else ( ab (decide (15 ≤ e.op)) fun b72 => ab ((IntKind.i64.wrap (bools9 + times10)) == (List.length e.l : Int)) fun b74 => ab (b72 && b74) fun b76 => bif b76 then ( some (3, 0, 0)) else ( some (0, 4, e.at_))))))
def gz (eta : Ex → Ex) (du : Sh → (R : Type) → Option R → Option R) (e : Ex) : Option Q9 := an (nq eta du e) au (0, 0, 0, 0)
theorem nn : (pA).Ok X0.P X0.Γ :=
 ay (.l ⟨[(false, 5, (.int .i64)), (false, 6, (.int .i64)), (false, 7, (.int .i64)), (false, 8, (.int .i64))], []⟩ (.c (.c .o (.j ⟨[(false, 5, (.int .i64))], []⟩ .o (.j ⟨[(false, 6, (.int .i64))], []⟩ .o .o))) .o)) Tryz.call22 Tryz.func22 (ok1 px ok0) ok0 ok0 fun s => (show _ = gz iU duE s from by kernel_rfl).trans ((congrArg (fun eta => gz eta duE s) dv).trans ((congrArg (fun du => gz id du s) eB).trans (by kernel_rfl)))
def kQ : Ent := ⟨64, [(.bx 86 0 true [(.own (.p (.i .i64) (.p .s (.p (.i .i64) (.i .i64)))) 88 false), (.int .i64), (.own .s 9 false), (.own (.p (.i .i64) (.i .i64)) 53 false), (.own (.i .i64) 3 false), (.own .s 9 false), (.own (.p (.i .i64) (.p .ex (.l (.p (.i .i64) .ex)))) 112 false), (.int .i64), (.int .i64)]), (.int .i64)], (.dat .ex [some 49]), [(true, 0, (.bx 86 0 true [.same, (.int .i64), .same, .same, .same, .same, .same, (.int .i64), (.int .i64)]))], fun s => bf s.2.2.2.2.2.2.2.2.2 s.1 s.2.1 s.2.2.1 s.2.2.2.1 s.2.2.2.2.1 s.2.2.2.2.2.1 s.2.2.2.2.2.2.1 s.2.2.2.2.2.2.2.1 s.2.2.2.2.2.2.2.2.1⟩
def jV (eta : Ex → Ex) (_du : Sh → (R : Type) → Option R → Option R) (r14 : Q6) (c32 : Int) (c33 : Int) : Option Q6 := some ((eta r14.1), r14.2.1, c32, c33)
def dP (eta : Ex → Ex) (du : Sh → (R : Type) → Option R → Option R) (want : Int) (l : Q2) (at_ : Int) (Names : Q7) (Schema : Q8) (Init : Q4) (Procs : Q7) (Cmd : Q3) (bad : Int) (place : Int) : Option Q6 := bif (bad != 0) then ( some ((Ex.mk 0 0 0 []), at_, bad, place)) else ( du (.b .l .l) _ ( (cE l at_ Names).bind fun r14 => bif (r14.2.2.1 != 0) then ( (aq r14.2.2.1 r14.2.2.2 l at_ Names Schema Init Procs Cmd bad place).bind fun r24 => some ((Ex.mk 0 0 0 []), at_, r24.1, r24.2)) else ( (dH (eta r14.1)).bind fun r28 => ab (fun (s37 : Int × Int) => jV eta du r14 s37.1 s37.2) fun kk36 => bif (r28.2.1 != 0) then ( (aq r28.2.1 r28.2.2 l at_ Names Schema Init Procs Cmd bad place).bind fun r39 => kk36 (r39.1, r39.2)) else ( bif (r28.1 != want) then ( (aq 4 r14.1.at_ l at_ Names Schema Init Procs Cmd bad place).bind fun r43 => kk36 (r43.1, r43.2)) else ( kk36 (bad, place))))))
theorem j2 : (kQ).Ok X0.P X0.Γ :=
 ay (.c .o (.r [0] (.c .o (.s (.j ⟨[(true, 0, (.bx 86 0 true [.same, .same, .same, .same, .same, .same, .same, (.int .i64), (.int .i64)]))], []⟩ .o .o))))) Tryz.call64 Tryz.func64 (ok1 mW (ok1 bl (ok1 nn ok0))) ok0 ok0 fun s => (show _ = dP iU duE s.2.2.2.2.2.2.2.2.2 s.1 s.2.1 s.2.2.1 s.2.2.2.1 s.2.2.2.2.1 s.2.2.2.2.2.1 s.2.2.2.2.2.2.1 s.2.2.2.2.2.2.2.1 s.2.2.2.2.2.2.2.2.1 from by kernel_rfl).trans ((congrArg (fun eta => dP eta duE s.2.2.2.2.2.2.2.2.2 s.1 s.2.1 s.2.2.1 s.2.2.2.1 s.2.2.2.2.1 s.2.2.2.2.2.1 s.2.2.2.2.2.2.1 s.2.2.2.2.2.2.2.1 s.2.2.2.2.2.2.2.2.1) dv).trans ((congrArg (fun du => dP id du s.2.2.2.2.2.2.2.2.2 s.1 s.2.1 s.2.2.1 s.2.2.2.1 s.2.2.2.2.1 s.2.2.2.2.2.1 s.2.2.2.2.2.2.1 s.2.2.2.2.2.2.2.1 s.2.2.2.2.2.2.2.2.1) eB).trans (by kernel_rfl)))
def mc : Ent := ⟨46, [(.bx 86 0 true [(.own (.p (.i .i64) (.p .s (.p (.i .i64) (.i .i64)))) 88 false), (.int .i64), (.own .s 9 false), (.own (.p (.i .i64) (.i .i64)) 53 false), (.own (.i .i64) 3 false), (.own .s 9 false), (.own (.p (.i .i64) (.p .ex (.l (.p (.i .i64) .ex)))) 112 true), (.int .i64), (.int .i64)])], (.tup []), [(true, 0, (.bx 86 0 true [.same, (.int .i64), .same, .same, .same, .same, (.own (.p (.i .i64) (.p .ex (.l (.p (.i .i64) .ex)))) 112 true), (.int .i64), (.int .i64)]))], fun s => dA s.1 s.2.1 s.2.2.1 s.2.2.2.1 s.2.2.2.2.1 s.2.2.2.2.2.1 s.2.2.2.2.2.2.1 s.2.2.2.2.2.2.2.1 s.2.2.2.2.2.2.2.2⟩
def kY (eta : Ex → Ex) (_du : Sh → (R : Type) → Option R → Option R) (l : Q2) (Names : Q7) (Schema : Q8) (Init : Q4) (Procs : Q7) (Cmd : Q3) (l28 : Q17) (again32 : Q14 → Option Q12) (r47 : Int) (c66 : Int) (c67 : Int) (c69 : Int) : Option Q12 := (aR [61] l c69 Names Schema Init Procs Cmd c66 c67).bind fun r70 => (bf 1 l r70.1 Names Schema Init Procs Cmd r70.2.1 r70.2.2).bind fun r73 => chk (az (List.length l28 + List.length ([(r47, (eta r73.1))] : List (Int × Ex))) 56) <| (aW 3 [44] l r73.2.1 Names Schema Init Procs Cmd r73.2.2.1 r73.2.2.2).bind fun r88 => bif r88 then ( again32 ((IntKind.i64.wrap (r73.2.1 + 1)), r73.2.2.1, r73.2.2.2, (l28 ++ ([(r47, (eta r73.1))] : List (Int × Ex))), r88)) else ( again32 (r73.2.1, r73.2.2.1, r73.2.2.2, (l28 ++ ([(r47, (eta r73.1))] : List (Int × Ex))), r88))
def kV (eta : Ex → Ex) (du : Sh → (R : Type) → Option R → Option R) (l : Q2) (Names : Q7) (Schema : Q8) (Init : Q4) (Procs : Q7) (Cmd : Q3) (c25 : Int) (l28 : Q17) (again32 : Q14 → Option Q12) (r47 : Int) (c66 : Int) (c67 : Int) : Option Q12 := ab (fun (s94 : Int) => kY eta du l Names Schema Init Procs Cmd l28 again32 r47 c66 c67 s94) fun kk93 => bif (c66 == 0) then ( kk93 (IntKind.i64.wrap (c25 + 1))) else ( kk93 c25)
def la (eta : Ex → Ex) (du : Sh → (R : Type) → Option R → Option R) (l : Q2) (Names : Q7) (Schema : Q8) (Init : Q4) (Procs : Q7) (Cmd : Q3) (c25 : Int) (c26 : Int) (c27 : Int) (l28 : Q17) (again32 : Q14 → Option Q12) (e40 : Q11) (r47 : Int) (again53 : (Bool × Int) → Option Q12) : Bool × Int → Option Q12 := fun ⟨twice51, k52⟩ => bif (decide (k52 < (List.length l28 : Int))) then ( aT (!twice51) (0, (Ex.mk 0 0 0 [])) (idx l28 k52) fun e55 => ab (e55.1 == r47) fun b61 => ab (twice51 || b61) fun b63 => again53 (b63, (IntKind.i64.wrap (k52 + 1)))) else ( ab (fun (s98 : Int × Int) => kV eta du l Names Schema Init Procs Cmd c25 l28 again32 r47 s98.1 s98.2) fun kk97 => bif (e40.1 != 1) then ( (aq 2 e40.2.2.2 l c25 Names Schema Init Procs Cmd c26 c27).bind fun r100 => kk97 (r100.1, r100.2)) else ( ab (decide (r47 < 0)) fun b103 => ab (b103 || twice51) fun b105 => bif b105 then ( (aq 3 e40.2.2.2 l c25 Names Schema Init Procs Cmd c26 c27).bind fun r108 => kk97 (r108.1, r108.2)) else ( kk97 (c26, c27))))
def kR (eta : Ex → Ex) (du : Sh → (R : Type) → Option R → Option R) (l : Q2) (Names : Q7) (Schema : Q8) (Init : Q4) (Procs : Q7) (Cmd : Q3) (r15 : Q6) (again32 : Q14 → Option Q12) : Int × Int × Int × Q17 × Bool → Option Q12 := fun ⟨c25, c26, c27, l28, more31⟩ => ab (c26 == 0) fun b33 => ab (more31 && b33) fun b35 => bif b35 then ( (idx l c25).bind fun e40 => (bn Names e40.2.1).bind fun r47 => an (la eta du l Names Schema Init Procs Cmd c25 c26 c27 l28 again32 e40 r47) au (false, 0)) else ( (aR [59] l c25 Names Schema Init Procs Cmd c26 c27).bind fun r111 => chk (az (List.length Cmd + List.length ([((IntKind.i64.wrap ((List.length Procs : Int) - 1)), (eta r15.1), l28)] : List Q24)) 80) <| some (r111.1, (Cmd ++ ([((IntKind.i64.wrap ((List.length Procs : Int) - 1)), (eta r15.1), l28)] : List Q24)), r111.2.1, r111.2.2))
def kU (eta : Ex → Ex) (du : Sh → (R : Type) → Option R → Option R) (l : Q2) (at_ : Int) (Names : Q7) (Schema : Q8) (Init : Q4) (Procs : Q7) (Cmd : Q3) (c10 : Int) (c11 : Int) : Option Q12 := (bf 2 l at_ Names Schema Init Procs Cmd c10 c11).bind fun r15 => (aR [58] l r15.2.1 Names Schema Init Procs Cmd r15.2.2.1 r15.2.2.2).bind fun r21 => an (kR eta du l Names Schema Init Procs Cmd r15) au (r21.1, r21.2.1, r21.2.2, [], true)
def eM (eta : Ex → Ex) (du : Sh → (R : Type) → Option R → Option R) (l : Q2) (at_ : Int) (Names : Q7) (Schema : Q8) (Init : Q4) (Procs : Q7) (Cmd : Q3) (bad : Int) (place : Int) : Option Q12 := ab (fun (s124 : Int × Int) => kU eta du l at_ Names Schema Init Procs Cmd s124.1 s124.2) fun kk123 => bif (decide (256 ≤ (List.length Cmd : Int))) then ( (aC l at_ Names Schema Init Procs Cmd bad place).bind fun r126 => (aq 9 r126 l at_ Names Schema Init Procs Cmd bad place).bind fun r129 => kk123 (r129.1, r129.2)) else ( kk123 (bad, place))
theorem kN : (mc).Ok X0.P X0.Γ :=
 ay (.j ⟨[(true, 0, (.bx 86 0 true [.same, .same, .same, .same, .same, .same, .same, (.int .i64), (.int .i64)]))], []⟩ .o (.l ⟨[(true, 0, (.bx 86 0 true [.same, (.int .i64), .same, .same, .same, .same, .same, (.int .i64), (.int .i64)])), (true, 2, (.bx 112 0 true [.same, .same, .same, .same, .same, (.own (.p (.i .i64) .ex) 114 true)])), (false, 3, .bool)], []⟩ (.c (.r [] (.r [0] (.l ⟨[(false, 6, .bool), (false, 7, (.int .i64))], []⟩ (.c .o (.j ⟨[(true, 0, (.bx 86 0 true [.same, .same, .same, .same, .same, .same, .same, (.int .i64), (.int .i64)]))], [4]⟩ .o (.j ⟨[(true, 0, (.bx 86 0 true [.same, (.int .i64), .same, .same, .same, .same, .same, .same, .same]))], []⟩ .o .o)))))) (.r [0, 2] .o)))) Tryz.call46 Tryz.func46 (ok1 j2 (ok1 eN (ok1 iF (ok1 dC (ok1 bl (ok1 cX ok0)))))) ok0 ok0 fun s => (show _ = eM iU duE s.1 s.2.1 s.2.2.1 s.2.2.2.1 s.2.2.2.2.1 s.2.2.2.2.2.1 s.2.2.2.2.2.2.1 s.2.2.2.2.2.2.2.1 s.2.2.2.2.2.2.2.2 from by kernel_rfl).trans ((congrArg (fun eta => eM eta duE s.1 s.2.1 s.2.2.1 s.2.2.2.1 s.2.2.2.2.1 s.2.2.2.2.2.1 s.2.2.2.2.2.2.1 s.2.2.2.2.2.2.2.1 s.2.2.2.2.2.2.2.2) dv).trans ((congrArg (fun du => eM id du s.1 s.2.1 s.2.2.1 s.2.2.2.1 s.2.2.2.2.1 s.2.2.2.2.2.1 s.2.2.2.2.2.2.1 s.2.2.2.2.2.2.2.1 s.2.2.2.2.2.2.2.2) eB).trans (by kernel_rfl)))
def nb : Ent := ⟨60, [(.bx 86 0 true [(.own (.p (.i .i64) (.p .s (.p (.i .i64) (.i .i64)))) 88 false), (.int .i64), (.own .s 9 false), (.own (.p (.i .i64) (.i .i64)) 53 false), (.own (.i .i64) 3 false), (.own .s 9 false), (.own (.p (.i .i64) (.p .ex (.l (.p (.i .i64) .ex)))) 112 false), (.int .i64), (.int .i64)])], (.int .i64), [(true, 0, (.bx 86 0 true [.same, (.int .i64), .same, .same, .same, .same, .same, (.int .i64), (.int .i64)]))], fun s => bX s.1 s.2.1 s.2.2.1 s.2.2.2.1 s.2.2.2.2.1 s.2.2.2.2.2.1 s.2.2.2.2.2.2.1 s.2.2.2.2.2.2.2.1 s.2.2.2.2.2.2.2.2⟩
theorem lK : (nb).Ok X0.P X0.Γ :=
 ay (.s (.s (.j ⟨[(true, 0, (.bx 86 0 true [.same, (.int .i64), .same, .same, .same, .same, .same, .same, .same]))], []⟩ .o (.r [] (.j ⟨[(true, 0, (.bx 86 0 true [.same, .same, .same, .same, .same, .same, .same, (.int .i64), (.int .i64)]))], []⟩ .o .o))))) Tryz.call60 Tryz.func60 (ok1 dC (ok1 bl ok0)) ok0 ok0 fun _ => by kernel_rfl
def q5 : Ent := ⟨61, [(.sli (.p (.i .i64) (.i .i64)))], .bool, [], fun s => gi s⟩
theorem oL : (q5).Ok X0.P X0.Γ :=
 ay (.c .o (.l ⟨[(false, 3, (.int .i64))], []⟩ .o)) Tryz.call61 Tryz.func61 ok0 ok0 ok0 fun _ => by kernel_rfl
def mb : Ent := ⟨43, [(.bx 86 0 true [(.own (.p (.i .i64) (.p .s (.p (.i .i64) (.i .i64)))) 88 false), (.int .i64), (.own .s 9 true), (.own (.p (.i .i64) (.i .i64)) 53 true), (.own (.i .i64) 3 true), (.own .s 9 false), (.own (.p (.i .i64) (.p .ex (.l (.p (.i .i64) .ex)))) 112 false), (.int .i64), (.int .i64)])], (.tup []), [(true, 0, (.bx 86 0 true [.same, (.int .i64), (.own .s 9 true), (.own (.p (.i .i64) (.i .i64)) 53 true), (.own (.i .i64) 3 true), .same, .same, (.int .i64), (.int .i64)]))], fun s => dq s.1 s.2.1 s.2.2.1 s.2.2.2.1 s.2.2.2.2.1 s.2.2.2.2.2.1 s.2.2.2.2.2.2.1 s.2.2.2.2.2.2.2.1 s.2.2.2.2.2.2.2.2⟩
theorem km : (mb).Ok X0.P X0.Γ :=
 ay (.s (.s (.s (.s (.s (.s (.s (.s (.j ⟨[(true, 0, (.bx 86 0 true [.same, .same, .same, .same, .same, .same, .same, (.int .i64), (.int .i64)]))], []⟩ .o (.r [0] .o)))))))))) Tryz.call43 Tryz.func43 (ok1 ix (ok1 cX (ok1 lK (ok1 eN (ok1 oL (ok1 bl ok0)))))) ok0 ok0 fun _ => by kernel_rfl
def qJ : Ent := ⟨19, [.str], (.tup [(.dat (.p (.l .s) (.p (.l (.p (.i .i64) (.i .i64))) (.p (.l (.i .i64)) (.p (.l .s) (.l (.p (.i .i64) (.p .ex (.l (.p (.i .i64) .ex))))))))) [some 19, some 107, some 7, some 19, some 225]), (.int .i64), (.int .i64)]), [], fun s => cG s⟩
theorem oH : (qJ).Ok X0.P X0.Γ :=
 ay (.c .o (.l ⟨[(true, 8, (.bx 86 0 true [.same, (.int .i64), (.own .s 9 true), (.own (.p (.i .i64) (.i .i64)) 53 true), (.own (.i .i64) 3 true), (.own .s 9 true), (.own (.p (.i .i64) (.p .ex (.l (.p (.i .i64) .ex)))) 112 true), (.int .i64), (.int .i64)]))], []⟩ (.c (.s (.s (.j ⟨[(true, 8, (.bx 86 0 true [.same, .same, .same, .same, .same, .same, .same, (.int .i64), (.int .i64)]))], []⟩ .o (.j ⟨[(true, 8, (.bx 86 0 true [.same, (.int .i64), .same, .same, .same, .same, .same, .same, .same]))], []⟩ .o (.j ⟨[(true, 8, (.bx 86 0 true [.same, (.int .i64), (.own .s 9 true), (.own (.p (.i .i64) (.i .i64)) 53 true), (.own (.i .i64) 3 true), .same, .same, (.int .i64), (.int .i64)]))], []⟩ .o (.c (.l ⟨[(true, 8, (.bx 86 0 true [.same, (.int .i64), .same, .same, .same, .same, (.own (.p (.i .i64) (.p .ex (.l (.p (.i .i64) .ex)))) 112 true), (.int .i64), (.int .i64)])), (false, 12, .bool)], []⟩ .o) .o)))))) (.j ⟨[(true, 8, (.bx 86 0 true [.same, .same, .same, .same, .same, .same, .same, (.int .i64), (.int .i64)]))], []⟩ .o (.c (.r [2] .o) .o))))) Tryz.call19 Tryz.func19 (ok1 nT (ok1 dC (ok1 ix (ok1 eN (ok1 kN (ok1 km (ok1 cX (ok1 bl ok0)))))))) ok0 ok0 fun _ => by kernel_rfl
def tG : Ent := ⟨8, [.str], (.tup [(.dat (.p (.l .s) (.p (.l (.p (.i .i64) (.i .i64))) (.p (.l (.i .i64)) (.p (.l .s) (.l (.p (.i .i64) (.p .ex (.l (.p (.i .i64) .ex))))))))) [some 19, some 107, some 7, some 19, some 225]), .bool]), [], fun s => fZ s⟩
theorem kD : (tG).Ok X0.P X0.Γ :=
 ay .o Tryz.call8 Tryz.func8 (ok1 oH ok0) ok0 ok0 fun _ => by kernel_rfl
def AP : Ent := ⟨37, [(.sli (.i .i64))], (.sli (.i .i64)), [], fun s => vB s⟩
theorem wG : (AP).Ok X0.P X0.Γ :=
 ay .o Tryz.call37 Tryz.func37 ok0 ok0 ok0 fun _ => by kernel_rfl
def sg : Ent := ⟨38, [(.sli (.l (.i .i64))), (.fn 37 [] [])], (.own (.l (.i .i64)) 31 true), [], fun s => jD s⟩
theorem pI : (sg).Ok X0.P X0.Γ :=
 ay (.l ⟨[(false, 5, (.own (.l (.i .i64)) 31 true)), (false, 10, (.int .i64))], []⟩ .o) Tryz.call38 Tryz.func38 (ok1 wG ok0) ok0 ok0 fun _ => by kernel_rfl
def FQ : Ent := ⟨16, [(.dat (.p (.l (.l (.i .i64))) (.l (.l (.i .i64)))) [none, none])], (.dat (.p (.l (.l (.i .i64))) (.l (.l (.i .i64)))) [some 63, some 63]), [], fun s => Dm s⟩
theorem AZ : (FQ).Ok X0.P X0.Γ :=
 ay (.r [2] .o) Tryz.call16 Tryz.func16 (ok1 pI ok0) ok0 ok0 fun _ => by kernel_rfl
def pH : Ent := ⟨24, [(.sli (.l (.l (.i .i64))))], (.own (.l (.i .i64)) 31 true), [], fun s => fu s⟩
theorem iW : (pH).Ok X0.P X0.Γ :=
 ay (.l ⟨[(false, 3, (.int .i64)), (false, 11, (.int .i64))], []⟩ (.c .o (.l ⟨[(false, 6, (.own (.l (.i .i64)) 31 true)), (false, 27, (.int .i64))], []⟩ .o))) Tryz.call24 Tryz.func24 (ok1 Ha ok0) ok0 ok0 fun _ => by kernel_rfl
def Bu : Ent := ⟨17, [(.dat (.p (.l (.l (.i .i64))) (.l (.l (.i .i64)))) [none, none])], (.dat (.p (.l (.l (.i .i64))) (.i .i64)) [some 63]), [], fun s => nI s⟩
theorem pP : (Bu).Ok X0.P X0.Γ :=
 ay (.r [2] .o) Tryz.call17 Tryz.func17 (ok1 iW ok0) ok0 ok0 fun _ => by kernel_rfl
def uY : Ent := ⟨51, [(.dat (.p (.i .i64) (.i .i64)) []), (.int .i64)], .bool, [], fun s => jm s.1 s.2⟩
theorem lq : (uY).Ok X0.P X0.Γ :=
 ay .o Tryz.call51 Tryz.func51 ok0 ok0 ok0 fun _ => by kernel_rfl
def D8 : Ent := ⟨27, [(.sli (.p (.i .i64) (.i .i64))), (.sli (.i .i64))], (.int .i64), [], fun s => tO s.1 s.2⟩
theorem yz : (D8).Ok X0.P X0.Γ :=
 ay (.c .o (.l ⟨[(false, 14, (.int .i64))], []⟩ .o)) Tryz.call27 Tryz.func27 (ok1 lq ok0) ok0 ok0 fun _ => by kernel_rfl
def yD : Ent := ⟨26, [(.sli (.i .i64)), (.bx 34 0 false [(.sli .s), (.sli (.p (.i .i64) (.i .i64))), (.sli (.i .i64)), (.sli .s), (.sli (.p (.i .i64) (.p .ex (.l (.p (.i .i64) .ex)))))])], .bool, [], fun s => lV s.1 s.2.1 s.2.2.1 s.2.2.2.1 s.2.2.2.2.1 s.2.2.2.2.2⟩
theorem uV : (yD).Ok X0.P X0.Γ :=
 ay .o Tryz.call26 Tryz.func26 (ok1 yz ok0) ok0 ok0 fun _ => by kernel_rfl
def qG : Ent := ⟨25, [(.sli (.l (.i .i64))), (.fn 26 [] [(.bx 34 0 false [(.sli .s), (.sli (.p (.i .i64) (.i .i64))), (.sli (.i .i64)), (.sli .s), (.sli (.p (.i .i64) (.p .ex (.l (.p (.i .i64) .ex)))))])])], (.own .bo 4 true), [], fun s => jj s.1 s.2.1 s.2.2.1 s.2.2.2.1 s.2.2.2.2.1 s.2.2.2.2.2⟩
theorem oQ : (qG).Ok X0.P X0.Γ :=
 ay (.l ⟨[(false, 5, (.own .bo 4 true)), (false, 10, (.int .i64))], []⟩ .o) Tryz.call25 Tryz.func25 (ok1 uV ok0) ok0 ok0 fun _ => by kernel_rfl
def oW : Ent := ⟨52, [(.sli .bo), .bool], (.int .i64), [], fun s => gV s.1 s.2⟩
theorem mU : (oW).Ok X0.P X0.Γ :=
 ay (.l ⟨[(false, 8, (.int .i64))], []⟩ .o) Tryz.call52 Tryz.func52 ok0 ok0 ok0 fun _ => by kernel_rfl
def mX : Ent := ⟨28, [(.sli .bo), .bool], .bool, [], fun s => dN s.1 s.2⟩
theorem lr : (mX).Ok X0.P X0.Γ :=
 ay .o Tryz.call28 Tryz.func28 (ok1 mU ok0) ok0 ok0 fun _ => by kernel_rfl
def qk : Ent := ⟨29, [(.sli (.i .i64)), (.sli (.i .i64))], .bool, [], fun s => ec s.1 s.2⟩
theorem jl : (qk).Ok X0.P X0.Γ :=
 ay (.c .o (.l ⟨[(false, 13, (.int .i64))], []⟩ .o)) Tryz.call29 Tryz.func29 ok0 ok0 ok0 fun _ => by kernel_rfl
def BE : Ent := ⟨53, [(.dat (.p (.l .s) (.p (.l (.p (.i .i64) (.i .i64))) (.p (.l (.i .i64)) (.p (.l .s) (.l (.p (.i .i64) (.p .ex (.l (.p (.i .i64) .ex))))))))) [none, none, none, none, none]), (.sli (.i .i64))], (.fn 80 [] [(.bx 34 0 true [(.sli .s), (.sli (.p (.i .i64) (.i .i64))), (.sli (.i .i64)), (.sli .s), (.sli (.p (.i .i64) (.p .ex (.l (.p (.i .i64) .ex)))))]), (.bx 31 0 true [(.sli (.i .i64))])]), [], fun s => rM s.1 s.2⟩
theorem yh : (BE).Ok X0.P X0.Γ :=
 ay .o Tryz.call53 Tryz.func53 ok0 ok0 ok0 fun _ => by kernel_rfl
def C8 : Ent := ⟨87, [.bool], (.int .i64), [], fun s => lL s⟩
theorem xV : (C8).Ok X0.P X0.Γ :=
 ay .o Tryz.call87 Tryz.func87 ok0 ok0 ok0 fun _ => by kernel_rfl
def vE : Ent := ⟨68, [(.dat .ex [none]), (.sli (.i .i64))], (.int .i64), [], fun s => jE s.1 s.2⟩
def yI (eta : Ex → Ex) (_du : Sh → (R : Type) → Option R → Option R) (gY : (Ex × Q4) → Option Int) (e : Ex) (v3 : Q4) (again15 : Q9 → Option Int) : Int × Int × Int → Option Int := fun ⟨c12, c13, t14⟩ => bif (decide (t14 < (List.length (bO e.l 0 (min (List.length e.l : Int) 2)) : Int))) then ( (idx (bO e.l 0 (min (List.length e.l : Int) 2)) t14).bind fun e17 => (gY ((eta e17), v3)).bind fun r26 => bif (t14 == 0) then ( again15 (r26, c13, (IntKind.i64.wrap (t14 + 1)))) else ( bif (t14 == 1) then ( again15 (c12, r26, (IntKind.i64.wrap (t14 + 1)))) else ( none))) else ( ab (fun (s43 : Int × Int × Bool) => oI s43.1 s43.2.1 s43.2.2) fun kk42 => ab (fun (s52 : Int × Int × Bool) => oX s52.1 s52.2.1 s52.2.2) fun kk51 => ab (fun (s61 : Int × Int × Bool) => oJ s61.1 s61.2.1 s61.2.2) fun kk60 => bif (e.op == 1) then ( some e.n) else ( bif (e.op == 2) then ( ab (decide (e.n < 0)) fun b64 => ab (decide ((List.length v3 : Int) ≤ e.n)) fun b66 => ab (b64 || b66) fun b68 => bif b68 then ( some 0) else ( (idx v3 e.n).bind fun e71 => some e71)) else ( bif (e.op == 3) then ( some (IntKind.i64.wrap (c12 + c13))) else ( bif (e.op == 5) then ( some (IntKind.i64.wrap (c12 * c13))) else ( bif (e.op == 6) then ( some (IntKind.i64.wrap (0 - c12))) else ( bif (e.op == 4) then ( some (IntKind.i64.wrap (c12 - c13))) else ( bif (e.op == 8) then ( kk60 (c12, c13, true)) else ( ab (fun (_s89 : Unit) => pb e c12 c13 kk42 kk51) fun kk88 => ab (fun (s94 : Bool) => oU c12 c13 kk60 kk88 s94) fun kk93 => bif (e.op == 7) then ( kk93 (e.op == 7)) else ( kk93 (e.op == 19))))))))))
def nB (eta : Ex → Ex) (du : Sh → (R : Type) → Option R → Option R) (gY : (Ex × Q4) → Option Int) (e : Ex) (v3 : Q4) : Option Int := chk (eK 0 (min (List.length e.l : Int) 2) (List.length e.l)) <| an (yI eta du gY e v3) au (0, 0, 0)
def vl : TK2 → TK2 := fun k2 s => j4 k2 s.1 s.2
theorem vM (k2 : TK2) (i2 : OK2 k2) : (lv (vl k2)).Ok X0.P X0.Γ :=
 ay (.l ⟨[(true, 5, (.bx 137 0 true [(.int .i64), (.int .i64)])), (false, 19, (.int .i64))], []⟩ (.c .o (.r [] (.s (.s (.s (.s (.s (.s (.s (.s (.j ⟨[(false, 8, (.int .i64)), (false, 9, (.int .i64)), (false, 10, .bool)], [2]⟩ (.s (.j ⟨[(false, 8, (.int .i64)), (false, 9, (.int .i64)), (false, 10, .bool)], [2]⟩ (.s (.j ⟨[(false, 8, (.int .i64)), (false, 9, (.int .i64)), (false, 10, .bool)], [2]⟩ (.c .o (.c .o (.c .o (.c .o (.c .o (.c .o (.c .o (.j ⟨[], []⟩ (.j ⟨[(false, 50, .bool)], []⟩ .o .o) .o)))))))) .o)) .o)) .o)))))))))))) Tryz.call68 Tryz.func68 (ok1 i2 (ok1 xV ok0)) ok0 ok0 fun s => (show _ = nB iU duE k2 s.1 s.2 from by kernel_rfl).trans ((congrArg (fun eta => nB eta duE k2 s.1 s.2) dv).trans ((congrArg (fun du => nB id du k2 s.1 s.2) eB).trans (by kernel_rfl)))
theorem mn : (vE).Ok X0.P X0.Γ := (show vE = lv (an (vl) au) by kernel_rfl) ▸ mC (X := X0) (E := lv) ⟨Tryz.call68, fun _ _ h => nomatch h⟩ (vM) au
def yE : Ent := ⟨81, [(.dat (.p (.l .s) (.p (.l (.p (.i .i64) (.i .i64))) (.p (.l (.i .i64)) (.p (.l .s) (.l (.p (.i .i64) (.p .ex (.l (.p (.i .i64) .ex))))))))) [none, none, none, none, none]), (.sli (.i .i64))], (.own (.i .i64) 3 true), [], fun s => pd s.1 s.2⟩
def u9 (eta : Ex → Ex) (_du : Sh → (R : Type) → Option R → Option R) (m : Q1) (v11 : Q4) (again13 : Q21 → Option Q4) : Q4 × Int → Option Q4 := fun ⟨out9, t12⟩ => bif (decide (t12 < (List.length m.2.2.2.2 : Int))) then ( (idx m.2.2.2.2 t12).bind fun e15 => (jE (eta e15.2.1) v11).bind fun r26 => bif (r26 == 1) then ( chk (az (List.length out9 + List.length ([t12] : List Int)) 8) <| again13 ((out9 ++ ([t12] : List Int)), (IntKind.i64.wrap (t12 + 1)))) else ( again13 (out9, (IntKind.i64.wrap (t12 + 1))))) else ( some out9)
def mB (eta : Ex → Ex) (du : Sh → (R : Type) → Option R → Option R) (m : Q1) (v11 : Q4) : Option Q4 := an (u9 eta du m v11) au ([], 0)
theorem u6 : (yE).Ok X0.P X0.Γ :=
 ay (.l ⟨[(false, 5, (.own (.i .i64) 3 true)), (false, 11, (.int .i64))], []⟩ .o) Tryz.call81 Tryz.func81 (ok1 mn ok0) ok0 ok0 fun s => (show _ = mB iU duE s.1 s.2 from by kernel_rfl).trans ((congrArg (fun eta => mB eta duE s.1 s.2) dv).trans ((congrArg (fun du => mB id du s.1 s.2) eB).trans (by kernel_rfl)))
def qs : Ent := ⟨55, [(.sli (.i .i64))], (.own (.i .i64) 3 true), [], fun s => bP s⟩
theorem jo : (qs).Ok X0.P X0.Γ :=
 ay .o Tryz.call55 Tryz.func55 ok0 ok0 ok0 fun _ => by kernel_rfl
def zk : Ent := ⟨27, [(.sli (.p (.i .i64) (.i .i64))), (.own (.i .i64) 3 false)], (.int .i64), [], fun s => fT s.1 s.2⟩
theorem va : (zk).Ok X0.P X0.Γ :=
 ay (.c .o (.l ⟨[(false, 14, (.int .i64))], []⟩ .o)) Tryz.call27 Tryz.func27 (ok1 lq ok0) ok0 ok0 fun _ => by kernel_rfl
def DK : Ent := ⟨82, [(.dat (.p (.l .s) (.p (.l (.p (.i .i64) (.i .i64))) (.p (.l (.i .i64)) (.p (.l .s) (.l (.p (.i .i64) (.p .ex (.l (.p (.i .i64) .ex))))))))) [none, none, none, none, none]), (.sli (.i .i64)), (.int .i64)], (.tup [(.own (.i .i64) 3 true), (.int .i64)]), [], fun s => pW s.1 s.2.1 s.2.2⟩
def yA (eta : Ex → Ex) (_du : Sh → (R : Type) → Option R → Option R) (m : Q1) (v11 : Q4) (e21 : Q24) (again32 : Q21 → Option Q21) : Q4 × Int → Option Q21 := fun ⟨l30, t31⟩ => bif (decide (t31 < (List.length e21.2.2 : Int))) then ( (idx e21.2.2 t31).bind fun e34 => (jE (eta e34.2) v11).bind fun r45 => (idx l30 e34.1).bind fun _e48 => again32 ((List.set l30 (Int.toNat e34.1) r45), (IntKind.i64.wrap (t31 + 1)))) else ( (fT m.2.1 l30).bind fun r51 => bif (r51 != 0) then ( some ([], 6)) else ( some (l30, 0)))
def qt (eta : Ex → Ex) (du : Sh → (R : Type) → Option R → Option R) (m : Q1) (v11 : Q4) (k : Int) : Option Q21 := ab (decide (k < 0)) fun b9 => ab (decide ((List.length m.2.2.2.2 : Int) ≤ k)) fun b11 => ab (b9 || b11) fun b13 => bif b13 then ( some ([], 10)) else ( (bP v11).bind fun r16 => (idx m.2.2.2.2 k).bind fun e21 => an (yA eta du m v11 e21) au (r16, 0))
theorem zv : (DK).Ok X0.P X0.Γ :=
 ay (.c .o (.l ⟨[(true, 8, (.own (.i .i64) 3 true)), (false, 29, (.int .i64))], []⟩ (.c (.r [8] .o) .o))) Tryz.call82 Tryz.func82 (ok1 jo (ok1 mn (ok1 va ok0))) ok0 ok0 fun s => (show _ = qt iU duE s.1 s.2.1 s.2.2 from by kernel_rfl).trans ((congrArg (fun eta => qt eta duE s.1 s.2.1 s.2.2) dv).trans ((congrArg (fun du => qt id du s.1 s.2.1 s.2.2) eB).trans (by kernel_rfl)))
def nj : Ent := ⟨99, [(.bx 142 0 true [.sfp, (.own (.i .u8) 5 false)])], (.tup []), [(true, 0, (.bx 142 0 true [.sfp, .same]))], fun s => dK s.1 s.2⟩
theorem gF : (nj).Ok X0.P X0.Γ :=
 ay .o Tryz.call99 Tryz.func99 ok0 ok0 ok0 fun _ => by kernel_rfl
def l8 : Ent := ⟨91, [(.bx 142 0 true [.sfp, (.own (.i .u8) 5 true)]), .str], (.tup [(.int .i64), (.cst (.raw .nilIface))]), [(true, 0, (.bx 142 0 true [.sfp, (.own (.i .u8) 5 true)]))], fun s => dm s.2.2 s.1 s.2.1⟩
theorem kx : (l8).Ok X0.P X0.Γ :=
 ay .o Tryz.call91 Tryz.func91 (ok1 gF ok0) ok0 ok0 fun _ => by kernel_rfl
def nh : Ent := ⟨93, [(.bx 142 0 true [.sfp, (.own (.i .u8) 5 true)]), (.int .u8)], (.cst (.raw .nilIface)), [(true, 0, (.bx 142 0 true [.sfp, (.own (.i .u8) 5 true)]))], fun s => dJ s.2.2 s.1 s.2.1⟩
theorem lI : (nh).Ok X0.P X0.Γ :=
 ay .o Tryz.call93 Tryz.func93 (ok1 gF ok0) ok0 ok0 fun _ => by kernel_rfl
def o6 : Ent := ⟨94, [(.bx 142 0 true [.sfp, (.own (.i .u8) 5 true)])], .str, [], fun s => eR s.1 s.2⟩
theorem mV : (o6).Ok X0.P X0.Γ :=
 ay (.r [0] .o) Tryz.call94 Tryz.func94 ok0 ok0 ok0 fun _ => by kernel_rfl
def Ea : Ent := ⟨83, [(.sli (.i .i64))], .str, [], fun s => uf s⟩
theorem yU : (Ea).Ok X0.P X0.Γ :=
 ay (.l ⟨[(true, 3, (.bx 142 0 true [.sfp, (.own (.i .u8) 5 true)])), (false, 8, (.int .i64))], []⟩ .o) Tryz.call83 Tryz.func83 (ok1 Ij (ok1 kx (ok1 lI (ok1 mV ok0)))) ok0 ok0 fun _ => by kernel_rfl
def ya : Ent := ⟨54, [(.bx 103 0 true [(.own (.l (.i .i64)) 31 true), (.mp .s .bo true)]), (.sli (.i .i64))], (.tup []), [(true, 0, (.bx 103 0 true [(.own (.l (.i .i64)) 31 true), (.mp .s .bo true)]))], fun s => fy s.2.2 s.1 s.2.1⟩
theorem sX : (ya).Ok X0.P X0.Γ :=
 ay (.j ⟨[(true, 0, (.bx 103 0 true [.same, (.mp .s .bo true)]))], []⟩ .o .o) Tryz.call54 Tryz.func54 (ok1 yU ok0) ok0 ok0 fun _ => by kernel_rfl
def D5 : Ent := ⟨32, [(.dat (.p (.l .s) (.p (.l (.p (.i .i64) (.i .i64))) (.p (.l (.i .i64)) (.p (.l .s) (.l (.p (.i .i64) (.p .ex (.l (.p (.i .i64) .ex))))))))) [none, none, none, none, none]), (.sli (.i .i64))], (.tup [(.own (.l (.i .i64)) 31 true), (.int .i64)]), [], fun s => p7 s.1 s.2⟩
theorem Jr : (⟨80, Tryz.f80⟩ : Clo).Ok X0.P := ⟨Tryz.call80, Tryz.func80⟩
theorem zn : (D5).Ok X0.P X0.Γ :=
 ay (.c (.c (.l ⟨[(false, 10, (.int .i64)), (true, 10004, (.bx 25 0 true [.same])), (true, 10005, (.bx 69 0 true [(.int .i64)])), (true, 10006, (.bx 103 0 true [(.own (.l (.i .i64)) 31 true), (.mp .s .bo true)]))], []⟩ .o) .o) .o) Tryz.call32 Tryz.func32 (ok1 yh (ok1 u6 (ok1 zv (ok1 sX (ok1 jo ok0))))) ok0 (ok1 Jr ok0) fun _ => by kernel_rfl
def uZ : Ent := ⟨34, [(.sli (.i .i64)), (.bx 31 0 false [(.sli (.i .i64))])], .bool, [], fun s => lE s.1 s.2⟩
theorem rm : (uZ).Ok X0.P X0.Γ :=
 ay .o Tryz.call34 Tryz.func34 (ok1 jl ok0) ok0 ok0 fun _ => by kernel_rfl
def np : Ent := ⟨56, [(.sli (.l (.i .i64))), (.fn 34 [] [(.bx 31 0 false [(.sli (.i .i64))])])], (.int .i64), [], fun s => fW s.1 s.2⟩
theorem ma : (np).Ok X0.P X0.Γ :=
 ay (.l ⟨[(false, 8, (.int .i64))], []⟩ .o) Tryz.call56 Tryz.func56 (ok1 rm ok0) ok0 ok0 fun _ => by kernel_rfl
def l9 : Ent := ⟨33, [(.sli (.l (.i .i64))), (.fn 34 [] [(.bx 31 0 false [(.sli (.i .i64))])])], .bool, [], fun s => dk s.1 s.2⟩
theorem kr : (l9).Ok X0.P X0.Γ :=
 ay .o Tryz.call33 Tryz.func33 (ok1 ma ok0) ok0 ok0 fun _ => by kernel_rfl
def zH : Ent := ⟨31, [(.sli (.i .i64)), (.sli (.i .i64)), (.bx 34 0 false [(.sli .s), (.sli (.p (.i .i64) (.i .i64))), (.sli (.i .i64)), (.sli .s), (.sli (.p (.i .i64) (.p .ex (.l (.p (.i .i64) .ex)))))])], .bool, [], fun s => lW s.1 s.2.1 s.2.2.1 s.2.2.2.1 s.2.2.2.2.1 s.2.2.2.2.2.1 s.2.2.2.2.2.2⟩
theorem u7 : (zH).Ok X0.P X0.Γ :=
 ay .o Tryz.call31 Tryz.func31 (ok1 zn (ok1 kr ok0)) ok0 ok0 fun _ => by kernel_rfl
def wh : Ent := ⟨30, [(.sli (.l (.i .i64))), (.fn 31 [] [(.bx 34 0 false [(.sli .s), (.sli (.p (.i .i64) (.i .i64))), (.sli (.i .i64)), (.sli .s), (.sli (.p (.i .i64) (.p .ex (.l (.p (.i .i64) .ex)))))])])], .bool, [], fun s => mI s.1 s.2.1 s.2.2.1 s.2.2.2.1 s.2.2.2.2.1 s.2.2.2.2.2⟩
theorem sG : (wh).Ok X0.P X0.Γ :=
 ay (.l ⟨[(false, 5, (.int .i64))], []⟩ (.c (.r [1] .o) .o)) Tryz.call30 Tryz.func30 (ok1 u7 ok0) ok0 ok0 fun _ => by kernel_rfl
def Eh : Ent := ⟨12, [(.dat (.p (.l .s) (.p (.l (.p (.i .i64) (.i .i64))) (.p (.l (.i .i64)) (.p (.l .s) (.l (.p (.i .i64) (.p .ex (.l (.p (.i .i64) .ex))))))))) [none, none, none, none, none]), (.dat (.p (.l (.l (.i .i64))) (.l (.l (.i .i64)))) [none, none])], .bool, [], fun s => fO s.1 s.2⟩
theorem mz : (Eh).Ok X0.P X0.Γ :=
 ay (.c .o (.r [] (.r [6] .o))) Tryz.call12 Tryz.func12 (ok1 iW (ok1 oQ (ok1 lr (ok1 jl (ok1 sG ok0))))) ok0 ok0 fun _ => by kernel_rfl
def vI : Ent := ⟨86, [(.dat .ex [none])], (.tup [(.int .i64), (.int .i64), (.int .i64)]), [], fun s => tM s⟩
def yG (eta : Ex → Ex) (_du : Sh → (R : Type) → Option R → Option R) (gW : Ex → Option Q9) (e : Ex) (again12 : (Bool × Bool × Bool × Int) → Option Q9) : Bool × Bool × Bool × Int → Option Q9 := fun ⟨ints8, bools9, times10, t11⟩ => bif (decide (t11 < (List.length e.l : Int))) then ( (idx e.l t11).bind fun e14 => (gW (eta e14)).bind fun r23 => bif (r23.2.1 != 0) then ( some (0, r23.2.1, r23.2.2)) else ( ab (r23.1 == 1) fun b27 => ab (ints8 && b27) fun b29 => ab (r23.1 == 2) fun b31 => ab (bools9 && b31) fun b33 => ab (r23.1 != 1) fun b35 => ab (times10 && b35) fun b37 => again12 (b29, b33, b37, (IntKind.i64.wrap (t11 + 1))))) else ( ab (decide (e.op ≤ 6)) fun b39 => ab (b39 && ints8) fun b41 => bif b41 then ( some (1, 0, 0)) else ( ab (fun (s55 : Bool) => uj e times10 s55) fun kk54 => ab (decide (6 < e.op)) fun b56 => ab (decide (e.op ≤ 12)) fun b58 => ab (b56 && b58) fun b60 => ab (b60 && ints8) fun b62 => bif b62 then ( kk54 b62) else ( bif (e.op == 13) then ( kk54 (e.op == 13)) else ( bif (e.op == 14) then ( kk54 (e.op == 14)) else ( ab (decide (15 ≤ e.op)) fun b67 => ab (decide (e.op ≤ 19)) fun b69 => ab (b67 && b69) fun b71 => ab (b71 && bools9) fun b73 => kk54 b73)))))
def nC (eta : Ex → Ex) (du : Sh → (R : Type) → Option R → Option R) (gW : Ex → Option Q9) (e : Ex) : Option Q9 := an (yG eta du gW e) au (true, true, true, 0)
def vf : TK3 → TK3 := fun k3 s => vt k3 s
theorem vQ (k3 : TK3) (i3 : OK3 k3) : (ll (vf k3)).Ok X0.P X0.Γ :=
 ay (.l ⟨[(false, 5, .bool), (false, 6, .bool), (false, 7, .bool), (false, 16, (.int .i64))], []⟩ (.c .o (.c .o (.j ⟨[(false, 53, .bool)], []⟩ .o .o)))) Tryz.call86 Tryz.func86 (ok1 i3 ok0) ok0 ok0 fun s => (show _ = nC iU duE k3 s from by kernel_rfl).trans ((congrArg (fun eta => nC eta duE k3 s) dv).trans ((congrArg (fun du => nC id du k3 s) eB).trans (by kernel_rfl)))
theorem zj : (vI).Ok X0.P X0.Γ := (show vI = ll (an (vf) au) by kernel_rfl) ▸ mC (X := X0) (E := ll) ⟨Tryz.call86, fun _ _ h => nomatch h⟩ (vQ) au
def Ix : Ent := ⟨65, [(.dat .ex [none])], .bool, [], fun s => zt s⟩
def tl (eta : Ex → Ex) (_du : Sh → (R : Type) → Option R → Option R) (e : Ex) : Option Bool := (tM (eta e)).bind fun r5 => ab (r5.2.1 == 0) fun b8 => ab (r5.1 == 2) fun b10 => ab (b8 && b10) fun b12 => some b12
theorem DC : (Ix).Ok X0.P X0.Γ :=
 ay .o Tryz.call65 Tryz.func65 (ok1 zj ok0) ok0 ok0 fun s => (show _ = tl iU duE s from by kernel_rfl).trans ((congrArg (fun eta => tl eta duE s) dv).trans ((congrArg (fun du => tl id du s) eB).trans (by kernel_rfl)))
def B7 : Ent := ⟨67, [(.int .i64), (.bx 24 0 false [(.int .i64), (.int .i64), (.int .i64), (.sli .ex)]), (.bx 57 0 false [(.sli (.l (.i .i64))), (.int .i64)])], .bool, [], fun s => xA s.1 s.2.1 s.2.2.1 s.2.2.2.1 s.2.2.2.2.1 s.2.2.2.2.2.1 s.2.2.2.2.2.2⟩
theorem yt : (B7).Ok X0.P X0.Γ :=
 ay .o Tryz.call67 Tryz.func67 (ok1 mn ok0) ok0 ok0 fun _ => by kernel_rfl
def GW : Ent := ⟨66, [(.int .i64), (.fn 67 [] [(.bx 24 0 false [(.int .i64), (.int .i64), (.int .i64), (.sli .ex)]), (.bx 57 0 false [(.sli (.l (.i .i64))), (.int .i64)])])], (.own .bo 4 true), [], fun s => wv s.1 s.2.1 s.2.2.1 s.2.2.2.1 s.2.2.2.2.1 s.2.2.2.2.2.1 s.2.2.2.2.2.2⟩
theorem AL : (GW).Ok X0.P X0.Γ :=
 ay (.l ⟨[(true, 5, (.own .bo 4 true)), (false, 11, (.int .i64))], []⟩ .o) Tryz.call66 Tryz.func66 (ok1 yt ok0) ok0 ok0 fun _ => by kernel_rfl
def Dt : Ent := ⟨71, [(.int .i64), (.bx 122 0 false [(.own .bo 4 false)])], .bool, [], fun s => xW s.1 s.2⟩
theorem xg : (Dt).Ok X0.P X0.Γ :=
 ay .o Tryz.call71 Tryz.func71 ok0 ok0 ok0 fun _ => by kernel_rfl
def AE : Ent := ⟨66, [(.int .i64), (.fn 71 [] [(.bx 122 0 false [(.own .bo 4 false)])])], (.own .bo 4 true), [], fun s => vx s.1 s.2⟩
theorem v7 : (AE).Ok X0.P X0.Γ :=
 ay (.l ⟨[(true, 5, (.own .bo 4 true)), (false, 11, (.int .i64))], []⟩ .o) Tryz.call66 Tryz.func66 (ok1 xg ok0) ok0 ok0 fun _ => by kernel_rfl
def BH : Ent := ⟨72, [(.int .i64), (.bx 122 0 false [(.own .bo 4 false)]), (.bx 122 0 false [(.own .bo 4 false)])], .bool, [], fun s => xk s.1 s.2.1 s.2.2⟩
theorem wW : (BH).Ok X0.P X0.Γ :=
 ay .o Tryz.call72 Tryz.func72 ok0 ok0 ok0 fun _ => by kernel_rfl
def AI : Ent := ⟨66, [(.int .i64), (.fn 72 [] [(.bx 122 0 false [(.own .bo 4 false)]), (.bx 122 0 false [(.own .bo 4 false)])])], (.own .bo 4 true), [], fun s => vq s.1 s.2.1 s.2.2⟩
theorem wq : (AI).Ok X0.P X0.Γ :=
 ay (.l ⟨[(true, 5, (.own .bo 4 true)), (false, 11, (.int .i64))], []⟩ .o) Tryz.call66 Tryz.func66 (ok1 wW ok0) ok0 ok0 fun _ => by kernel_rfl
def Cu : Ent := ⟨73, [(.int .i64), (.bx 122 0 false [(.own .bo 4 false)]), (.bx 122 0 false [(.own .bo 4 false)])], .bool, [], fun s => xq s.1 s.2.1 s.2.2⟩
theorem xY : (Cu).Ok X0.P X0.Γ :=
 ay .o Tryz.call73 Tryz.func73 ok0 ok0 ok0 fun _ => by kernel_rfl
def AY : Ent := ⟨66, [(.int .i64), (.fn 73 [] [(.bx 122 0 false [(.own .bo 4 false)]), (.bx 122 0 false [(.own .bo 4 false)])])], (.own .bo 4 true), [], fun s => vn s.1 s.2.1 s.2.2⟩
theorem wI : (AY).Ok X0.P X0.Γ :=
 ay (.l ⟨[(true, 5, (.own .bo 4 true)), (false, 11, (.int .i64))], []⟩ .o) Tryz.call66 Tryz.func66 (ok1 xY ok0) ok0 ok0 fun _ => by kernel_rfl
def CZ : Ent := ⟨74, [(.int .i64), (.bx 122 0 false [(.own .bo 4 false)]), (.bx 122 0 false [(.own .bo 4 false)])], .bool, [], fun s => xw s.1 s.2.1 s.2.2⟩
theorem xI : (CZ).Ok X0.P X0.Γ :=
 ay .o Tryz.call74 Tryz.func74 ok0 ok0 ok0 fun _ => by kernel_rfl
def AW : Ent := ⟨66, [(.int .i64), (.fn 74 [] [(.bx 122 0 false [(.own .bo 4 false)]), (.bx 122 0 false [(.own .bo 4 false)])])], (.own .bo 4 true), [], fun s => vy s.1 s.2.1 s.2.2⟩
theorem vY : (AW).Ok X0.P X0.Γ :=
 ay (.l ⟨[(true, 5, (.own .bo 4 true)), (false, 11, (.int .i64))], []⟩ .o) Tryz.call66 Tryz.func66 (ok1 xI ok0) ok0 ok0 fun _ => by kernel_rfl
def Db : Ent := ⟨75, [(.int .i64), (.bx 122 0 false [(.own .bo 4 false)]), (.bx 122 0 false [(.own .bo 4 false)])], .bool, [], fun s => xv s.1 s.2.1 s.2.2⟩
theorem xX : (Db).Ok X0.P X0.Γ :=
 ay .o Tryz.call75 Tryz.func75 ok0 ok0 ok0 fun _ => by kernel_rfl
def A3 : Ent := ⟨66, [(.int .i64), (.fn 75 [] [(.bx 122 0 false [(.own .bo 4 false)]), (.bx 122 0 false [(.own .bo 4 false)])])], (.own .bo 4 true), [], fun s => ve s.1 s.2.1 s.2.2⟩
theorem vT : (A3).Ok X0.P X0.Γ :=
 ay (.l ⟨[(true, 5, (.own .bo 4 true)), (false, 11, (.int .i64))], []⟩ .o) Tryz.call66 Tryz.func66 (ok1 xX ok0) ok0 ok0 fun _ => by kernel_rfl
def GP : Ent := ⟨77, [(.dat (.p (.l (.l (.i .i64))) (.i .i64)) [none]), (.int .i64)], (.int .i64), [], fun s => rN s.1 s.2⟩
theorem nD : (GP).Ok X0.P X0.Γ :=
 ay .o Tryz.call77 Tryz.func77 ok0 ok0 ok0 fun _ => by kernel_rfl
def BI : Ent := ⟨76, [(.int .i64), (.bx 122 0 false [(.own .bo 4 false)]), (.bx 57 0 false [(.sli (.l (.i .i64))), (.int .i64)])], .bool, [], fun s => xT s.1 s.2.1 s.2.2.1 s.2.2.2⟩
theorem wV : (BI).Ok X0.P X0.Γ :=
 ay .o Tryz.call76 Tryz.func76 (ok1 nD ok0) ok0 ok0 fun _ => by kernel_rfl
def AN : Ent := ⟨66, [(.int .i64), (.fn 76 [] [(.bx 122 0 false [(.own .bo 4 false)]), (.bx 57 0 false [(.sli (.l (.i .i64))), (.int .i64)])])], (.own .bo 4 true), [], fun s => vD s.1 s.2.1 s.2.2.1 s.2.2.2⟩
theorem v8 : (AN).Ok X0.P X0.Γ :=
 ay (.l ⟨[(true, 5, (.own .bo 4 true)), (false, 11, (.int .i64))], []⟩ .o) Tryz.call66 Tryz.func66 (ok1 wV ok0) ok0 ok0 fun _ => by kernel_rfl
def xE : Ent := ⟨70, [(.int .i64), (.bx 4 0 false [.bool])], .bool, [], fun s => sC s.1 s.2⟩
theorem sW : (xE).Ok X0.P X0.Γ :=
 ay .o Tryz.call70 Tryz.func70 ok0 ok0 ok0 fun _ => by kernel_rfl
def AQ : Ent := ⟨66, [(.int .i64), (.fn 70 [] [(.bx 4 0 false [.bool])])], (.own .bo 4 true), [], fun s => vA s.1 s.2⟩
theorem wO : (AQ).Ok X0.P X0.Γ :=
 ay (.l ⟨[(true, 5, (.own .bo 4 true)), (false, 11, (.int .i64))], []⟩ .o) Tryz.call66 Tryz.func66 (ok1 sW ok0) ok0 ok0 fun _ => by kernel_rfl
def CE : Ent := ⟨69, [.bool, (.bx 3 0 false [(.int .i64)])], (.own .bo 4 true), [], fun s => sq s.1 s.2⟩
theorem xG : (CE).Ok X0.P X0.Γ :=
 ay .o Tryz.call69 Tryz.func69 (ok1 wO ok0) ok0 ok0 fun _ => by kernel_rfl
def zG : Ent := ⟨96, [(.int .i64), (.bx 4 0 false [.bool])], .bool, [], fun s => tD s.1 s.2⟩
theorem vb : (zG).Ok X0.P X0.Γ :=
 ay .o Tryz.call96 Tryz.func96 ok0 ok0 ok0 fun _ => by kernel_rfl
def AS : Ent := ⟨66, [(.int .i64), (.fn 96 [] [(.bx 4 0 false [.bool])])], (.own .bo 4 true), [], fun s => qi s.1 s.2⟩
theorem oK : (AS).Ok X0.P X0.Γ :=
 ay (.l ⟨[(true, 5, (.own .bo 4 true)), (false, 11, (.int .i64))], []⟩ .o) Tryz.call66 Tryz.func66 (ok1 vb ok0) ok0 ok0 fun _ => by kernel_rfl
def uU : Ent := ⟨89, [(.int .i64), (.own .bo 4 false), (.bx 122 0 false [(.sli .bo)]), (.bx 122 0 false [(.sli .bo)]), (.bx 57 0 false [(.sli (.l (.i .i64))), (.int .i64)])], .bool, [], fun s => qa s.1 s.2.1 s.2.2.1 s.2.2.2.1 s.2.2.2.2.1 s.2.2.2.2.2⟩
theorem rH : (uU).Ok X0.P X0.Γ :=
 ay .o Tryz.call89 Tryz.func89 (ok1 nD ok0) ok0 ok0 fun _ => by kernel_rfl
def yM : Ent := ⟨97, [(.int .i64), (.bx 139 0 false [(.fn 89 [] [(.bx 122 0 false [(.sli .bo)]), (.bx 122 0 false [(.sli .bo)]), (.bx 57 0 false [(.sli (.l (.i .i64))), (.int .i64)])])]), (.bx 122 0 false [(.own .bo 4 false)])], .bool, [], fun s => sT s.1 s.2.2.2.2.2 s.2.1 s.2.2.1 s.2.2.2.1 s.2.2.2.2.1⟩
theorem uX : (yM).Ok X0.P X0.Γ :=
 ay .o Tryz.call97 Tryz.func97 (ok1 rH ok0) ok0 ok0 fun _ => by kernel_rfl
def yT : Ent := ⟨66, [(.int .i64), (.fn 97 [] [(.bx 139 0 false [(.fn 89 [] [(.bx 122 0 false [(.sli .bo)]), (.bx 122 0 false [(.sli .bo)]), (.bx 57 0 false [(.sli (.l (.i .i64))), (.int .i64)])])]), (.bx 122 0 false [(.own .bo 4 false)])])], (.own .bo 4 true), [], fun s => sO s.1 s.2.2.2.2.2 s.2.1 s.2.2.1 s.2.2.2.1 s.2.2.2.2.1⟩
theorem vd : (yT).Ok X0.P X0.Γ :=
 ay (.l ⟨[(true, 5, (.own .bo 4 true)), (false, 11, (.int .i64))], []⟩ .o) Tryz.call66 Tryz.func66 (ok1 uX ok0) ok0 ok0 fun _ => by kernel_rfl
def lx : Ent := ⟨98, [(.own .bo 4 false), (.own .bo 4 false)], .bool, [], fun s => eQ s.1 s.2⟩
theorem fP : (lx).Ok X0.P X0.Γ :=
 ay (.c .o (.l ⟨[(false, 13, (.int .i64))], []⟩ .o)) Tryz.call98 Tryz.func98 ok0 ok0 ok0 fun _ => by kernel_rfl
def D7 : Ent := ⟨88, [(.dat (.p (.l (.l (.i .i64))) (.i .i64)) [none]), .bool, (.fn 89 [] [(.bx 122 0 false [(.sli .bo)]), (.bx 122 0 false [(.sli .bo)]), (.bx 57 0 false [(.sli (.l (.i .i64))), (.int .i64)])])], (.own .bo 4 true), [], fun s => Ap s.1 s.2.1 s.2.2.1 s.2.2.2.1 s.2.2.2.2.1 s.2.2.2.2.2⟩
theorem yV : (D7).Ok X0.P X0.Γ :=
 ay (.n 0 (.j ⟨[(true, 7, (.bx 122 0 true [(.own .bo 4 true)]))], []⟩ .o .o)) Tryz.call88 Tryz.func88 (ok1 oK (ok1 vd (ok1 fP ok0))) ok0 ok0 fun _ => by kernel_rfl
def DG : Ent := ⟨78, [(.dat (.p (.l (.l (.i .i64))) (.i .i64)) [none]), (.sli .bo), (.sli .bo)], (.own .bo 4 true), [], fun s => tH s.1 s.2.1 s.2.2⟩
theorem y7 : (DG).Ok X0.P X0.Γ :=
 ay .o Tryz.call78 Tryz.func78 (ok1 yV ok0) ok0 ok0 fun _ => by kernel_rfl
def sF : Ent := ⟨90, [(.int .i64), (.own .bo 4 false), (.bx 122 0 false [(.sli .bo)]), (.bx 122 0 false [(.sli .bo)]), (.bx 57 0 false [(.sli (.l (.i .i64))), (.int .i64)])], .bool, [], fun s => nF s.1 s.2.1 s.2.2.1 s.2.2.2.1 s.2.2.2.2.1 s.2.2.2.2.2⟩
theorem qv : (sF).Ok X0.P X0.Γ :=
 ay .o Tryz.call90 Tryz.func90 (ok1 nD ok0) ok0 ok0 fun _ => by kernel_rfl
def u5 : Ent := ⟨97, [(.int .i64), (.bx 139 0 false [(.fn 90 [] [(.bx 122 0 false [(.sli .bo)]), (.bx 122 0 false [(.sli .bo)]), (.bx 57 0 false [(.sli (.l (.i .i64))), (.int .i64)])])]), (.bx 122 0 false [(.own .bo 4 false)])], .bool, [], fun s => p6 s.1 s.2.2.2.2.2 s.2.1 s.2.2.1 s.2.2.2.1 s.2.2.2.2.1⟩
theorem sn : (u5).Ok X0.P X0.Γ :=
 ay .o Tryz.call97 Tryz.func97 (ok1 qv ok0) ok0 ok0 fun _ => by kernel_rfl
def zb : Ent := ⟨66, [(.int .i64), (.fn 97 [] [(.bx 139 0 false [(.fn 90 [] [(.bx 122 0 false [(.sli .bo)]), (.bx 122 0 false [(.sli .bo)]), (.bx 57 0 false [(.sli (.l (.i .i64))), (.int .i64)])])]), (.bx 122 0 false [(.own .bo 4 false)])])], (.own .bo 4 true), [], fun s => uk s.1 s.2.2.2.2.2 s.2.1 s.2.2.1 s.2.2.2.1 s.2.2.2.2.1⟩
theorem uW : (zb).Ok X0.P X0.Γ :=
 ay (.l ⟨[(true, 5, (.own .bo 4 true)), (false, 11, (.int .i64))], []⟩ .o) Tryz.call66 Tryz.func66 (ok1 sn ok0) ok0 ok0 fun _ => by kernel_rfl
def zw : Ent := ⟨88, [(.dat (.p (.l (.l (.i .i64))) (.i .i64)) [none]), .bool, (.fn 90 [] [(.bx 122 0 false [(.sli .bo)]), (.bx 122 0 false [(.sli .bo)]), (.bx 57 0 false [(.sli (.l (.i .i64))), (.int .i64)])])], (.own .bo 4 true), [], fun s => tn s.1 s.2.1 s.2.2.1 s.2.2.2.1 s.2.2.2.2.1 s.2.2.2.2.2⟩
theorem u4 : (zw).Ok X0.P X0.Γ :=
 ay (.n 0 (.j ⟨[(true, 7, (.bx 122 0 true [(.own .bo 4 true)]))], []⟩ .o .o)) Tryz.call88 Tryz.func88 (ok1 oK (ok1 uW (ok1 fP ok0))) ok0 ok0 fun _ => by kernel_rfl
def AF : Ent := ⟨79, [(.dat (.p (.l (.l (.i .i64))) (.i .i64)) [none]), (.sli .bo), (.sli .bo)], (.own .bo 4 true), [], fun s => qh s.1 s.2.1 s.2.2⟩
theorem wM : (AF).Ok X0.P X0.Γ :=
 ay .o Tryz.call79 Tryz.func79 (ok1 u4 ok0) ok0 ok0 fun _ => by kernel_rfl
def zY : Ent := ⟨49, [(.dat .ex [none]), (.dat (.p (.l (.l (.i .i64))) (.i .i64)) [none])], (.own .bo 4 true), [], fun s => yK s.1 s.2⟩
def ql (eta : Ex → Ex) (du : Sh → (R : Type) → Option R → Option R) (mY : (Ex × Q13) → Option Q5) (e : Ex) (w3 : Q13) : Option Q5 := (zt (eta e)).bind fun r12 => bif r12 then ( (wv (List.length w3.1 : Int) e.op e.n e.at_ e.l w3.1 w3.2).bind fun r16 => some r16) else ( (idx e.l 0).bind fun e23 => du (.b .l .l) _ ( (mY ((eta e23), w3)).bind fun r29 => ab (fun (s117 : Q5) => xS e w3 r29 s117) fun kk116 => bif (decide (1 < (List.length e.l : Int))) then ( (idx e.l 1).bind fun e121 => (mY ((eta e121), w3)).bind fun r127 => kk116 r127) else ( kk116 [])))
def Aj : TK4 → TK4 := fun k4 s => zO k4 s.1 s.2
theorem zq (k4 : TK4) (i4 : OK4 k4) : (ob (Aj k4)).Ok X0.P X0.Γ :=
 ay (.c .o (.r [] (.s (.j ⟨[(true, 7, (.bx 122 0 true [(.own .bo 4 true)]))], []⟩ (.c (.r [7] .o) .o) (.c .o (.c .o (.c .o (.c .o (.c .o (.c .o (.c (.r [6, 8] .o) (.c (.r [6, 8] .o) .o)))))))))))) Tryz.call49 Tryz.func49 (ok1 DC (ok1 AL (ok1 i4 (ok1 v7 (ok1 wq (ok1 wI (ok1 vY (ok1 vT (ok1 v8 (ok1 xG (ok1 y7 (ok1 wM ok0)))))))))))) ok0 ok0 fun s => (show _ = ql iU duE k4 s.1 s.2 from by kernel_rfl).trans ((congrArg (fun eta => ql eta duE k4 s.1 s.2) dv).trans ((congrArg (fun du => ql id du k4 s.1 s.2) eB).trans (by kernel_rfl)))
theorem Dw : (zY).Ok X0.P X0.Γ := (show zY = ob (an (Aj) au) by kernel_rfl) ▸ mC (X := X0) (E := ob) ⟨Tryz.call49, fun _ _ h => nomatch h⟩ (zq) au
def DW : Ent := ⟨23, [(.dat .ex [none]), (.dat (.p (.l (.l (.i .i64))) (.i .i64)) [none])], .bool, [], fun s => uh s.1 s.2⟩
def qz (eta : Ex → Ex) (_du : Sh → (R : Type) → Option R → Option R) (e : Ex) (w3 : Q13) : Option Bool := (yK (eta e) w3).bind fun r7 => (idx r7 0).bind fun e12 => some e12
theorem zf : (DW).Ok X0.P X0.Γ :=
 ay .o Tryz.call23 Tryz.func23 (ok1 Dw ok0) ok0 ok0 fun s => (show _ = qz iU duE s.1 s.2 from by kernel_rfl).trans ((congrArg (fun eta => qz eta duE s.1 s.2) dv).trans ((congrArg (fun du => qz id du s.1 s.2) eB).trans (by kernel_rfl)))
def AK : Ent := ⟨11, [(.dat (.p (.l .s) (.p (.l (.p (.i .i64) (.i .i64))) (.p (.l (.i .i64)) (.p (.l .s) (.l (.p (.i .i64) (.p .ex (.l (.p (.i .i64) .ex))))))))) [none, none, none, none, none]), (.dat .ex [none]), (.dat (.p (.l (.l (.i .i64))) (.l (.l (.i .i64)))) [none, none])], .bool, [], fun s => qB s.1 s.2.1 s.2.2⟩
def nw (eta : Ex → Ex) (_du : Sh → (R : Type) → Option R → Option R) (m : Q1) (e : Ex) (l : Q22) : Option Bool := (fO m l).bind fun r11 => aT r11 default (nI l) fun r14 => aT r11 default (uh (eta e) r14) fun r23 => ab (!r23) fun b29 => ab (r11 && b29) fun b31 => some b31
theorem wz : (AK).Ok X0.P X0.Γ :=
 ay .o Tryz.call11 Tryz.func11 (ok1 mz (ok1 pP (ok1 zf ok0))) ok0 ok0 fun s => (show _ = nw iU duE s.1 s.2.1 s.2.2 from by kernel_rfl).trans ((congrArg (fun eta => nw eta duE s.1 s.2.1 s.2.2) dv).trans ((congrArg (fun du => nw id du s.1 s.2.1 s.2.2) eB).trans (by kernel_rfl)))
def sD : Ent := ⟨15, [(.sli (.i .i64)), (.sli (.i .i64))], .bool, [], fun s => di s.1 s.2⟩
theorem eZ : (sD).Ok X0.P X0.Γ :=
 ay (.c .o (.l ⟨[(false, 5, (.int .i64))], []⟩ .o)) Tryz.call15 Tryz.func15 ok0 ok0 ok0 fun _ => by kernel_rfl
def rV : Ent := ⟨18, [(.sli (.l (.i .i64))), (.sli (.l (.i .i64)))], .bool, [], fun s => jJ s.1 s.2⟩
theorem py : (rV).Ok X0.P X0.Γ :=
 ay (.c .o (.l ⟨[(false, 5, (.int .i64))], []⟩ .o)) Tryz.call18 Tryz.func18 (ok1 eZ ok0) ok0 ok0 fun _ => by kernel_rfl
def qR : Ent := ⟨7, [], .bool, [], fun _ => ji⟩
theorem ov : (qR).Ok X0.P X0.Γ :=
 ay .o Tryz.call7 Tryz.func7 (ok1 kD (ok1 AZ (ok1 pP (ok1 wz (ok1 mz (ok1 py ok0)))))) ok0 ok0 fun _ => by kernel_rfl
def qE : Ent := ⟨84, [.bool], (.int .i64), [], fun s => aA s⟩
theorem pk : (qE).Ok X0.P X0.Γ :=
 ay .o Tryz.call84 Tryz.func84 ok0 ok0 ok0 fun _ => by kernel_rfl
def lj : Ent := ⟨57, [(.dat .ex [none]), (.sli (.i .i64))], (.int .i64), [], fun s => dI s.1 s.2⟩
def pz (eta : Ex → Ex) (_du : Sh → (R : Type) → Option R → Option R) (bE : (Ex × Q4) → Option Int) (e : Ex) (v3 : Q4) (a6 : Int) : Option Int := ab (fun (s88 : Int) => fq e v3 a6 s88) fun kk87 => bif (decide (1 < (List.length e.l : Int))) then ( (idx e.l 1).bind fun e90 => (bE ((eta e90), v3)).bind fun r96 => kk87 r96) else ( kk87 0)
def gU (eta : Ex → Ex) (du : Sh → (R : Type) → Option R → Option R) (bE : (Ex × Q4) → Option Int) (e : Ex) (v3 : Q4) : Option Int := ab (fun (s100 : Int) => pz eta du bE e v3 s100) fun kk99 => bif (decide (0 < (List.length e.l : Int))) then ( (idx e.l 0).bind fun e102 => (bE ((eta e102), v3)).bind fun r108 => kk99 r108) else ( kk99 0)
def lJ : TK8 → TK8 := fun k8 s => fM k8 s.1 s.2
theorem nY (k8 : TK8) (i8 : OK8 k8) : (fw (lJ k8)).Ok X0.P X0.Γ :=
 ay (.s (.s (.s (.j ⟨[(false, 5, (.int .i64))], []⟩ .o (.j ⟨[(false, 6, (.int .i64))], []⟩ .o .o))))) Tryz.call57 Tryz.func57 (ok1 pk (ok1 i8 ok0)) ok0 ok0 fun s => (show _ = gU iU duE k8 s.1 s.2 from by kernel_rfl).trans ((congrArg (fun eta => gU eta duE k8 s.1 s.2) dv).trans ((congrArg (fun du => gU id du k8 s.1 s.2) eB).trans (by kernel_rfl)))
theorem jT : (lj).Ok X0.P X0.Γ := (show lj = fw (an (lJ) au) by kernel_rfl) ▸ mC (X := X0) (E := fw) ⟨Tryz.call57, fun _ _ h => nomatch h⟩ (nY) au
def pE : Ent := ⟨35, [(.dat (.p (.l .s) (.p (.l (.p (.i .i64) (.i .i64))) (.p (.l (.i .i64)) (.p (.l .s) (.l (.p (.i .i64) (.p .ex (.l (.p (.i .i64) .ex))))))))) [none, none, none, none, none]), (.sli (.i .i64))], (.own (.i .i64) 3 true), [], fun s => il s.1 s.2⟩
def nu (eta : Ex → Ex) (_du : Sh → (R : Type) → Option R → Option R) (m : Q1) (v11 : Q4) (again13 : Q21 → Option Q4) : Q4 × Int → Option Q4 := fun ⟨out9, i12⟩ => bif (decide (i12 < (List.length m.2.2.2.2 : Int))) then ( (idx m.2.2.2.2 i12).bind fun e15 => (dI (eta e15.2.1) v11).bind fun r23 => bif (r23 == 1) then ( chk (az (List.length out9 + List.length ([i12] : List Int)) 8) <| again13 ((out9 ++ ([i12] : List Int)), (IntKind.i64.wrap (i12 + 1)))) else ( again13 (out9, (IntKind.i64.wrap (i12 + 1))))) else ( some out9)
def gA (eta : Ex → Ex) (du : Sh → (R : Type) → Option R → Option R) (m : Q1) (v11 : Q4) : Option Q4 := an (nu eta du m v11) au ([], 0)
theorem nE : (pE).Ok X0.P X0.Γ :=
 ay (.l ⟨[(false, 5, (.own (.i .i64) 3 true)), (false, 6, (.int .i64))], []⟩ .o) Tryz.call35 Tryz.func35 (ok1 jT ok0) ok0 ok0 fun s => (show _ = gA iU duE s.1 s.2 from by kernel_rfl).trans ((congrArg (fun eta => gA eta duE s.1 s.2) dv).trans ((congrArg (fun du => gA id du s.1 s.2) eB).trans (by kernel_rfl)))
def sb : Ent := ⟨36, [(.dat (.p (.l .s) (.p (.l (.p (.i .i64) (.i .i64))) (.p (.l (.i .i64)) (.p (.l .s) (.l (.p (.i .i64) (.p .ex (.l (.p (.i .i64) .ex))))))))) [none, none, none, none, none]), (.sli (.i .i64)), (.int .i64)], (.tup [(.own (.i .i64) 3 true), (.int .i64)]), [], fun s => gQ s.1 s.2.1 s.2.2⟩
def pB (eta : Ex → Ex) (_du : Sh → (R : Type) → Option R → Option R) (m : Q1) (v11 : Q4) (k : Int) (again25 : Q21 → Option Q21) : Q4 × Int → Option Q21 := fun ⟨l23, i24⟩ => (idx m.2.2.2.2 k).bind fun e26 => bif (decide (i24 < (List.length e26.2.2 : Int))) then ( (idx m.2.2.2.2 k).bind fun e35 => (idx e35.2.2 i24).bind fun e43 => (dI (eta e43.2) v11).bind fun r54 => (idx l23 e43.1).bind fun _e57 => again25 ((List.set l23 (Int.toNat e43.1) r54), (IntKind.i64.wrap (i24 + 1)))) else ( an (dE m l23) au 0)
def iO (eta : Ex → Ex) (du : Sh → (R : Type) → Option R → Option R) (m : Q1) (v11 : Q4) (k : Int) : Option Q21 := ab (decide (k < 0)) fun b9 => ab (decide ((List.length m.2.2.2.2 : Int) ≤ k)) fun b11 => ab (b9 || b11) fun b13 => bif b13 then ( some ([], 10)) else ( chk (az (List.length ([] : List Int) + List.length v11) 8) <| an (pB eta du m v11 k) au ((([] : List Int) ++ v11), 0))
theorem pG : (sb).Ok X0.P X0.Γ :=
 ay (.c .o (.l ⟨[(true, 8, (.own (.i .i64) 3 true)), (false, 9, (.int .i64))], []⟩ (.c (.r [8] .o) (.l ⟨[(false, 11, (.int .i64))], []⟩ .o)))) Tryz.call36 Tryz.func36 (ok1 jT ok0) ok0 ok0 fun s => (show _ = iO iU duE s.1 s.2.1 s.2.2 from by kernel_rfl).trans ((congrArg (fun eta => iO eta duE s.1 s.2.1 s.2.2) dv).trans ((congrArg (fun du => iO id du s.1 s.2.1 s.2.2) eB).trans (by kernel_rfl)))
def ou : Ent := ⟨14, [(.own (.l (.i .i64)) 31 false), (.sli (.i .i64))], (.int .i64), [], fun s => dx s.1 s.2⟩
theorem iG : (ou).Ok X0.P X0.Γ :=
 ay (.l ⟨[(false, 5, (.int .i64))], []⟩ .o) Tryz.call14 Tryz.func14 (ok1 eZ ok0) ok0 ok0 fun _ => by kernel_rfl
def su : Ent := ⟨13, [(.dat (.p (.l .s) (.p (.l (.p (.i .i64) (.i .i64))) (.p (.l (.i .i64)) (.p (.l .s) (.l (.p (.i .i64) (.p .ex (.l (.p (.i .i64) .ex))))))))) [none, none, none, none, none]), (.sli (.i .i64))], (.tup [(.own (.l (.i .i64)) 31 true), (.int .i64)]), [], fun s => fj s.1 s.2⟩
theorem pF : (su).Ok X0.P X0.Γ :=
 ay (.c .o (.l ⟨[(false, 7, (.own (.l (.i .i64)) 31 true)), (false, 8, (.int .i64))], []⟩ .o)) Tryz.call13 Tryz.func13 (ok1 nE (ok1 pG (ok1 iG ok0))) ok0 ok0 fun _ => by kernel_rfl
def qC : Ent := ⟨14, [(.sli (.l (.i .i64))), (.sli (.i .i64))], (.int .i64), [], fun s => jg s.1 s.2⟩
theorem po : (qC).Ok X0.P X0.Γ :=
 ay (.l ⟨[(false, 5, (.int .i64))], []⟩ .o) Tryz.call14 Tryz.func14 (ok1 eZ ok0) ok0 ok0 fun _ => by kernel_rfl
def nr : Ent := ⟨4, [(.dat (.p .s (.p (.l (.i .u8)) (.p (.l (.i .i64)) (.i .u8)))) [none, none])], .bool, [], fun s => dU s⟩
theorem l6 : (nr).Ok X0.P X0.Γ :=
 ay (.c .o (.r [30000, 20008] (.l ⟨[(false, 10, (.own (.l (.i .i64)) 31 true)), (false, 11, (.int .i64))], []⟩ (.c (.r [] (.c .o (.c .o (.r [10] (.c .o (.s (.s (.s (.s (.j ⟨[(false, 19, .bool)], []⟩ .o (.r [18] .o))))))))))) .o)))) Tryz.call4 Tryz.func4 (ok1 ov (ok1 kD (ok1 pF (ok1 iG (ok1 mz (ok1 eZ (ok1 po ok0))))))) ok0 ok0 fun _ => by kernel_rfl
end
end Go.Proofs.YtpnogcmollnjeaaGreatDoor
namespace Go.Proofs.YtpnogcmollnjeaaGreatDoor
theorem q6 (e : Ex) : 1 ≤ e.sz := by rw [Ex.JO]; omega
theorem HI {x : Ex} : ∀ {l : List Ex}, x ∈ l → x.sz ≤ szL l
 | y :: l, h => by
  simp only [szL]
  rcases List.mem_cons.1 h with rfl | h
  ·omega
  ·have := HI h; omega
theorem Fc : ∀ (l : List Ex), l.length ≤ szL l
 | [] => Nat.le_refl _
 | x :: l => by have := Fc l; have := q6 x; simp only [szL, List.length_cons]; omega
theorem pS {e x : Ex} (h : x ∈ e.l) : x.sz < e.sz := by have := HI h; rw [Ex.JO e]; omega
theorem Is (e : Ex) : e.l.length < e.sz := by have := Fc e.l; rw [Ex.JO e]; omega
theorem aj {α ρ : Type} (x : α) (k : α → Option ρ) : (some x).bind k = k x := rfl
theorem bu {α ρ : Type} (x : α) (k : α → Option ρ) : ab x k = k x := rfl
theorem dT {α ρ : Type} (d : α) (m : Option α) (k : α → Option ρ) : aT true d m k = m.bind k := rfl
theorem kC {α ρ : Type} (d : α) (m : Option α) (k : α → Option ρ) : aT false d m k = k d := rfl
theorem MC {l pre r : List Ex} {x : Ex} (h : l = pre ++ x :: r) : idx l (pre.length : Int) = some x := by subst h; simp [idx]
theorem Ns {n : Nat} (h : n < 4611686018427387904) : IntKind.i64.wrap ((n : Int) + 1) = ((n + 1 : Nat) : Int) := by rw [w64 (by omega)]; omega
theorem Py {l pre r : List Ex} {x : Ex} (h : l = pre ++ x :: r) : decide ((pre.length : Int) < (List.length l : Int)) = true := by subst h; simp; omega
theorem Pg {l pre : List Ex} (h : l = pre ++ []) : decide ((pre.length : Int) < (List.length l : Int)) = false := by subst h; simp
noncomputable def qf (op a : Int) (i b t : Bool) : Int × Int × Int :=
 bif decide (op ≤ 6) && i then (1, 0, 0)
 else bif decide (6 < op) && decide (op ≤ 12) && i || op == 13 || op == 14 || decide (15 ≤ op) && decide (op ≤ 19) && b then (2, 0, 0)
 else bif decide (15 ≤ op) && t then (3, 0, 0) else (0, 4, a)
mutual
noncomputable def ty : Ex → Int × Int × Int
 | .mk op _ a l => tyA op a l true true true
noncomputable def tyA (op a : Int) : List Ex → Bool → Bool → Bool → Int × Int × Int
 | [], i, b, t => qf op a i b t
 | x :: r, i, b, t => bif (ty x).2.1 != 0 then (0, (ty x).2.1, (ty x).2.2) else tyA op a r (i && (ty x).1 == 1) (b && (ty x).1 == 2) (t && (ty x).1 != 1)
end
theorem Lt (e : Ex) : ty e = tyA e.op e.at_ e.l true true true := by cases e; simp only [ty, Ex.op, Ex.at_, Ex.l]
theorem Hs (op a : Int) (i b t : Bool) : (qf op a i b t).2.1 = 0 → (qf op a i b t).1 = 1 ∨ (qf op a i b t).1 = 2 ∨ (qf op a i b t).1 = 3 := by
 unfold qf
 cases decide (op ≤ 6) && i
 ·cases decide (6 < op) && decide (op ≤ 12) && i || op == 13 || op == 14 || decide (15 ≤ op) && decide (op ≤ 19) && b
  ·cases decide (15 ≤ op) && t
   ·intro h; cases h
   ·intro _; exact .inr (.inr rfl)
  ·intro _; exact .inr (.inl rfl)
 ·intro _; exact .inl rfl
theorem EP (op a : Int) : ∀ (l : List Ex) (i b t : Bool), (tyA op a l i b t).2.1 = 0 → (tyA op a l i b t).1 = 1 ∨ (tyA op a l i b t).1 = 2 ∨ (tyA op a l i b t).1 = 3
 | [], i, b, t => Hs op a i b t
 | x :: r, i, b, t => by
  simp only [tyA]
  cases h : (ty x).2.1 != 0
  ·simp only [cond_false]; exact EP op a r _ _ _
  ·simp only [cond_true]
   intro h0
   rw [h0] at h; cases h
theorem Oa (e : Ex) : (ty e).2.1 = 0 → (ty e).1 = 1 ∨ (ty e).1 = 2 ∨ (ty e).1 = 3 := by rw [Lt]; exact EP _ _ _ _ _ _
noncomputable def ik (op : Int) : Int := bif op == 1 || op == 2 || op == 13 || op == 14 then 0 else bif op == 6 || op == 15 || op == 20 || op == 21 || op == 22 then 1 else 2
noncomputable def lh (op n len want vars : Int) : Bool :=
 !(decide (op < 1) || decide (24 < op) || len != want) && !((op == 1) && (decide (n < 0) || decide (1073741824 < n)) || (op == 2) && (decide (n < 0) || decide (vars ≤ n)) || decide (2 < op) && n != 0)
mutual
noncomputable def eo (vars : Int) : Ex → Bool
 | .mk op n _ l => lh op n (l.length : Int) (ik op) vars && pn vars l
noncomputable def pn (vars : Int) : List Ex → Bool
 | [] => true
 | x :: r => eo vars x && pn vars r
end
theorem EC (vars : Int) (e : Ex) : eo vars e = (lh e.op e.n (e.l.length : Int) (ik e.op) vars && pn vars e.l) := by cases e; simp only [eo, Ex.op, Ex.n, Ex.l]
noncomputable def tr (b : Bool) : Int := bif b then 1 else 0
noncomputable def evF (op n : Int) (v : List Int) (a b : Int) : Int :=
 bif op == 1 then n else bif op == 2 then (bif decide (n < 0) || decide ((List.length v : Int) ≤ n) then 0 else v.getD n.toNat 0)
 else bif op == 3 then IntKind.i64.wrap (a + b) else bif op == 5 then IntKind.i64.wrap (a * b) else bif op == 6 then IntKind.i64.wrap (0 - a) else bif op == 4 then IntKind.i64.wrap (a - b)
 else bif op == 8 then tr ((a == b) != true) else bif op == 7 then tr ((a == b) != false) else bif op == 19 then tr ((a == b) != false)
 else bif op == 12 then tr (decide (a < b) != true) else bif op == 9 then tr (decide (a < b) != false) else bif op == 11 then tr (decide (a ≤ b) != true) else bif op == 10 then tr (decide (a ≤ b) != false)
 else bif op == 13 then 1 else bif op == 15 then IntKind.i64.wrap (1 - a) else bif op == 16 then IntKind.i64.wrap (a * b) else bif op == 17 then max a b else bif op == 18 then max (IntKind.i64.wrap (1 - a)) b else 0
mutual
noncomputable def ev (v : List Int) : Ex → Int
 | .mk op n _ l => evF op n v (ev0 v l) (ev1 v l)
noncomputable def ev0 (v : List Int) : List Ex → Int
 | [] => 0
 | x :: _ => ev v x
noncomputable def ev1 (v : List Int) : List Ex → Int
 | [] => 0
 | _ :: r => ev0 v r
end
theorem GS (v : List Int) (e : Ex) : ev v e = evF e.op e.n v (ev0 v e.l) (ev1 v e.l) := by cases e; simp only [ev, Ex.op, Ex.n, Ex.l]
noncomputable def uQ (op a len i b t : Int) : Int × Int × Int :=
 bif decide (op ≤ 6) && (i == len) then (1, 0, 0)
 else bif decide (7 ≤ op) && decide (op ≤ 12) && (i == len) || op == 13 || op == 14 then (2, 0, 0)
 else bif decide (15 ≤ op) && decide (op ≤ 19) && (b == len) then (2, 0, 0)
 else bif decide (15 ≤ op) && (b + t == len) then (3, 0, 0) else (0, 4, a)
mutual
noncomputable def rt : Ex → Int × Int × Int
 | .mk op _ a l => rtA op a (l.length : Int) l 0 0 0
noncomputable def rtA (op a len : Int) : List Ex → Int → Int → Int → Int × Int × Int
 | [], i, b, t => uQ op a len i b t
 | x :: r, i, b, t => bif (rt x).2.1 != 0 then (0, (rt x).2.1, (rt x).2.2) else rtA op a len r (bif (rt x).1 == 1 then i + 1 else i) (bif (rt x).1 == 2 then b + 1 else b) (bif (rt x).1 == 3 then t + 1 else t)
end
theorem rt_eq (e : Ex) : rt e = rtA e.op e.at_ (e.l.length : Int) e.l 0 0 0 := by cases e; simp only [rt, Ex.op, Ex.at_, Ex.l]
theorem Fl {α ρ : Type} (g : Bool) (d v : α) (k : α → Option ρ) : aT g d (some v) k = k (bif g then v else d) := by cases g <;> rfl
theorem uL (op a len : Int) : ∀ (l : List Ex) (i b t : Int), (rtA op a len l i b t).1 = 2 → 7 ≤ op ∧ op ≤ 19
 | [], i, b, t, h => by
  simp only [rtA, uQ] at h
  cases c1 : (decide (op ≤ 6) && (i == len))
  ·rw [c1] at h
   simp only [cond_false] at h
   cases c2 : (decide (7 ≤ op) && decide (op ≤ 12) && (i == len) || op == 13 || op == 14)
   ·rw [c2] at h
    simp only [cond_false] at h
    cases c3 : (decide (15 ≤ op) && decide (op ≤ 19) && (b == len))
    ·rw [c3] at h
     simp only [cond_false] at h
     cases c4 : (decide (15 ≤ op) && (b + t == len))
     ·rw [c4] at h; simp at h
     ·rw [c4] at h; simp at h
    ·simp only [Bool.and_eq_true, decide_eq_true_eq] at c3; omega
   ·simp only [Bool.or_eq_true, Bool.and_eq_true, decide_eq_true_eq, beq_iff_eq] at c2; omega
  ·rw [c1] at h; simp at h
 | x :: r, i, b, t, h => by
  simp only [rtA] at h
  cases c : ((rt x).2.1 != 0)
  ·rw [c] at h; exact uL op a len r _ _ _ h
  ·rw [c] at h; simp at h
theorem Dc (op a len : Int) (h15 : 15 ≤ op) (h19 : op ≤ 19) : ∀ (l : List Ex) (i b t : Int), b + l.length < len → (rtA op a len l i b t).1 ≠ 2
 | [], i, b, t, hb, h => by
  simp only [rtA, uQ] at h
  have c1 : decide (op ≤ 6) = false := decide_eq_false (by omega)
  have c2 : decide (op ≤ 12) = false := decide_eq_false (by omega)
  have c3 : (op == 13) = false := beq_eq_false_iff_ne.2 (by omega)
  have c4 : (op == 14) = false := beq_eq_false_iff_ne.2 (by omega)
  have c5 : (b == len) = false := beq_eq_false_iff_ne.2 (by simp at hb; omega)
  rw [c1, c2, c3, c4, c5] at h
  simp only [Bool.false_and, Bool.and_false, Bool.or_false, cond_false] at h
  cases c6 : (decide (15 ≤ op) && (b + t == len))
  ·rw [c6] at h; simp at h
  ·rw [c6] at h; simp at h
 | x :: r, i, b, t, hb, h => by
  simp only [rtA] at h
  simp only [List.length_cons] at hb
  cases c : ((rt x).2.1 != 0)
  ·rw [c] at h
   refine Dc op a len h15 h19 r _ _ _ ?_ h
   cases (rt x).1 == 2
   ·simp only [cond_false]; omega
   ·simp only [cond_true]; omega
  ·rw [c] at h; simp at h
theorem uJ (op a len : Int) (h15 : 15 ≤ op) (h19 : op ≤ 19) : ∀ (l : List Ex) (i b t : Int), b + l.length ≤ len → (rtA op a len l i b t).1 = 2 → ∀ x ∈ l, (rt x).1 = 2 ∧ (rt x).2.1 = 0
 | [], _, _, _, _, _, x, hx => by cases hx
 | y :: r, i, b, t, hb, h, x, hx => by
  simp only [rtA] at h
  simp only [List.length_cons] at hb
  cases c : ((rt y).2.1 != 0)
  ·rw [c] at h
   simp only [cond_false] at h
   cases c2 : ((rt y).1 == 2)
   ·rw [c2] at h
    exact absurd h (Dc op a len h15 h19 r _ _ _ (by simp only [cond_false]; omega))
   ·rw [c2] at h
    rcases List.mem_cons.1 hx with rfl | hx
    ·exact ⟨by simpa using c2, by simpa using c⟩
    ·exact uJ op a len h15 h19 r _ _ _ (by simp only [cond_true]; omega) h x hx
  ·rw [c] at h; simp at h
theorem wJ (b : Bool) : tr b = 0 ∨ tr b = 1 := by cases b; exact .inl rfl; exact .inr rfl
theorem NA (v : List Int) {l : List Ex} (h : ∀ x ∈ l, ev v x = 0 ∨ ev v x = 1) : (ev0 v l = 0 ∨ ev0 v l = 1) ∧ (ev1 v l = 0 ∨ ev1 v l = 1) := by
 match l, h with
 | [], _ => exact ⟨.inl (by simp only [ev0]), .inl (by simp only [ev1])⟩
 | [x], h => exact ⟨by simp only [ev0]; exact h x (by simp), .inl (by simp only [ev1, ev0])⟩
 | x :: y :: r, h => exact ⟨by simp only [ev0]; exact h x (by simp), by simp only [ev1, ev0]; exact h y (by simp)⟩
theorem OU (op n : Int) (v : List Int) (a b : Int) (h7 : 7 ≤ op) (h19 : op ≤ 19) (hab : 15 ≤ op → (a = 0 ∨ a = 1) ∧ (b = 0 ∨ b = 1)) : evF op n v a b = 0 ∨ evF op n v a b = 1 := by
 have : op = 7 ∨ op = 8 ∨ op = 9 ∨ op = 10 ∨ op = 11 ∨ op = 12 ∨ op = 13 ∨ op = 14 ∨ op = 15 ∨ op = 16 ∨ op = 17 ∨ op = 18 ∨ op = 19 := by omega
 rcases this with rfl | rfl | rfl | rfl | rfl | rfl | rfl | rfl | rfl | rfl | rfl | rfl | rfl
 ·exact wJ _
 ·exact wJ _
 ·exact wJ _
 ·exact wJ _
 ·exact wJ _
 ·exact wJ _
 ·exact .inr rfl
 ·exact .inl rfl
 ·obtain ⟨ha, _⟩ := hab (by omega)
  rcases ha with rfl | rfl
  ·exact .inr rfl
  ·exact .inl rfl
 ·obtain ⟨ha, hb⟩ := hab (by omega)
  rcases ha with rfl | rfl <;> rcases hb with rfl | rfl
  ·exact .inl rfl
  ·exact .inl rfl
  ·exact .inl rfl
  ·exact .inr rfl
 ·obtain ⟨ha, hb⟩ := hab (by omega)
  rcases ha with rfl | rfl <;> rcases hb with rfl | rfl
  ·exact .inl rfl
  ·exact .inr rfl
  ·exact .inr rfl
  ·exact .inr rfl
 ·obtain ⟨ha, hb⟩ := hab (by omega)
  rcases ha with rfl | rfl <;> rcases hb with rfl | rfl
  ·exact .inr rfl
  ·exact .inr rfl
  ·exact .inl rfl
  ·exact .inr rfl
 ·exact wJ _
theorem N9 (v : List Int) : ∀ (N : Nat) (e : Ex), e.sz ≤ N → (rt e).1 = 2 → ev v e = 0 ∨ ev v e = 1 := by
 intro N
 induction N with
 | zero => intro e h; have := q6 e; omega
 | succ N ih =>
  intro e h h2
  rw [rt_eq] at h2
  obtain ⟨h7, h19⟩ := uL _ _ _ _ _ _ _ h2
  rw [GS]
  refine OU _ _ _ _ _ h7 h19 (fun h15 => NA v (fun x hx => ?_))
  have := uJ _ _ _ h15 h19 _ _ _ _ (by omega) h2 x hx
  exact ih x (by have := pS hx; omega) this.1
theorem pU {vars : Int} {e : Ex} (h : eo vars e = true) : (1 ≤ e.op ∧ e.op ≤ 24) ∧ (e.l.length : Int) = ik e.op ∧ (e.op = 1 → 0 ≤ e.n ∧ e.n ≤ 1073741824) ∧ (e.op = 2 → 0 ≤ e.n ∧ e.n < vars) ∧ ∀ x ∈ e.l, eo vars x = true := by
 rw [EC] at h
 simp only [lh, Bool.and_eq_true, Bool.not_eq_true', Bool.or_eq_false_iff, decide_eq_false_iff_not, bne_eq_false_iff_eq, Bool.and_eq_false_imp, beq_iff_eq] at h
 obtain ⟨⟨⟨⟨h1, h2⟩, h3⟩, ⟨h4, h5⟩, _⟩, h6⟩ := h
 refine ⟨by omega, h3, fun h => by have := h4 h; omega, fun h => by have := h5 h; omega, ?_⟩
 have : ∀ (l : List Ex), pn vars l = true → ∀ x ∈ l, eo vars x = true := fun l => by
  induction l with
  | nil => intro _ x hx; cases hx
  | cons y r ih =>
   intro h x hx
   simp only [pn, Bool.and_eq_true] at h
   rcases List.mem_cons.1 hx with rfl | hx
   ·exact h.1
   ·exact ih h.2 x hx
 exact this _ h6
theorem E7 (op a len : Int) (h12 : op ≤ 12) : ∀ (l : List Ex) (i b t : Int), i + l.length < len → (rtA op a len l i b t).1 = 0
 | [], i, b, t, hb => by
  simp only [rtA, uQ]
  have c5 : (i == len) = false := beq_eq_false_iff_ne.2 (by simp at hb; omega)
  have c3 : (op == 13) = false := beq_eq_false_iff_ne.2 (by omega)
  have c4 : (op == 14) = false := beq_eq_false_iff_ne.2 (by omega)
  have c6 : decide (15 ≤ op) = false := decide_eq_false (by omega)
  rw [c3, c4, c5, c6]
  simp only [Bool.and_false, Bool.or_false, Bool.false_and, cond_false]
 | x :: r, i, b, t, hb => by
  simp only [rtA]
  simp only [List.length_cons] at hb
  cases ((rt x).2.1 != 0)
  ·refine E7 op a len h12 r _ _ _ ?_
   cases (rt x).1 == 1
   ·simp only [cond_false]; omega
   ·simp only [cond_true]; omega
  ·rfl
theorem CT (op a len : Int) (h12 : op ≤ 12) : ∀ (l : List Ex) (i b t : Int), i + l.length ≤ len → (rtA op a len l i b t).1 ≠ 0 → ∀ x ∈ l, (rt x).1 = 1
 | [], _, _, _, _, _, x, hx => by cases hx
 | y :: r, i, b, t, hb, h, x, hx => by
  simp only [rtA] at h
  simp only [List.length_cons] at hb
  cases c : ((rt y).2.1 != 0)
  ·rw [c] at h
   simp only [cond_false] at h
   cases c2 : ((rt y).1 == 1)
   ·rw [c2] at h
    exact absurd (E7 op a len h12 r _ _ _ (by simp only [cond_false]; omega)) h
   ·rw [c2] at h
    rcases List.mem_cons.1 hx with rfl | hx
    ·simpa using c2
    ·exact CT op a len h12 r _ _ _ (by simp only [cond_true]; omega) h x hx
  ·rw [c] at h; exact absurd rfl h
theorem zD (op a len : Int) : ∀ (l : List Ex) (i b t : Int), (rtA op a len l i b t).1 = 1 → op ≤ 6
 | [], i, b, t, h => by
  simp only [rtA, uQ] at h
  cases c1 : (decide (op ≤ 6) && (i == len))
  ·rw [c1] at h
   simp only [cond_false] at h
   cases c2 : (decide (7 ≤ op) && decide (op ≤ 12) && (i == len) || op == 13 || op == 14)
   ·rw [c2] at h
    simp only [cond_false] at h
    cases c3 : (decide (15 ≤ op) && decide (op ≤ 19) && (b == len))
    ·rw [c3] at h
     simp only [cond_false] at h
     cases c4 : (decide (15 ≤ op) && (b + t == len))
     ·rw [c4] at h; simp at h
     ·rw [c4] at h; simp at h
    ·rw [c3] at h; simp at h
   ·rw [c2] at h; simp at h
  ·simp only [Bool.and_eq_true, decide_eq_true_eq] at c1; exact c1.1
 | x :: r, i, b, t, h => by
  simp only [rtA] at h
  cases c : ((rt x).2.1 != 0)
  ·rw [c] at h; exact zD op a len r _ _ _ h
  ·rw [c] at h; simp at h
theorem Ec {vars : Int} {e : Ex} (hm : eo vars e = true) (h : (rt e).1 = 1 ∨ (rt e).1 = 2) : ∀ x ∈ e.l, (rt x).1 = 1 ∨ (rt x).1 = 2 := by
 intro x hx
 obtain ⟨_, hw, _⟩ := pU hm
 rw [rt_eq] at h
 by_cases h12 : e.op ≤ 12
 ·exact .inl (CT e.op e.at_ (e.l.length : Int) h12 e.l 0 0 0 (by omega) (by rcases h with h | h <;> rw [h] <;> decide) x hx)
 ·have h2 : (rtA e.op e.at_ (e.l.length : Int) e.l 0 0 0).1 = 2 := by
   rcases h with h | h
   ·have := zD _ _ _ _ _ _ _ h; omega
   ·exact h
  have h719 := uL _ _ _ _ _ _ _ h2
  by_cases h15 : 15 ≤ e.op
  ·exact .inr (uJ _ _ _ h15 h719.2 _ _ _ _ (by omega) h2 x hx).1
  ·have hop : e.op = 13 ∨ e.op = 14 := by omega
   have hw0 : ik e.op = 0 := by rcases hop with h | h <;> rw [h] <;> rfl
   rw [hw0] at hw
   have : e.l = [] := List.eq_nil_of_length_eq_zero (by omega)
   rw [this] at hx; cases hx
end Go.Proofs.YtpnogcmollnjeaaGreatDoor
